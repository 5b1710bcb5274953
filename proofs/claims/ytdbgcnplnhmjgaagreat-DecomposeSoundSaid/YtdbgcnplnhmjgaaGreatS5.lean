/- The contracts and facts that the laws of this seat need, in one text (Rd, Ab26, Ab29, Ab35, Ab36). -/
import Derived.Test.YtdbgcnplnhmjgaaGreatS4
import Derived.Test.YtdbgcnplnhmjgaaGreatRows
set_option linter.all false
set_option maxRecDepth 10000
namespace Go.Ab
open Go.Proofs Go.Proofs.YtdbgcnplnhmjgaaGreat
theorem own:ownKnob Tryz.prog.godebug=none:=by kernel_rfl
theorem kids:Kids Tryz.prog (·< Tryz.prog.types.size):=kids_rows (by kernel_rfl) (by kernel_rfl)
theorem full:∀t e,t<Tryz.prog.types.size->Tryz.prog.underlying t=some (.slice e)->0<Tryz.prog.cellsOf e:=slices_full_of Tryz.prog (by kernel_rfl)
section
variable {H:Type}
theorem IU:lE H Tryz.prog 3 (λi=>.val (.int .i64 i)) (λi=>IntKind.i64.min<=i∧i<=IntKind.i64.max) (λ_=>1):=BU Tryz.underlying3
theorem BA:lE H Tryz.prog 31 (λl:List Int=>.sl (l.map λi=>.val (.int .i64 i))) (λl=>l.length<=9223372036854775807∧∀a∈l,IntKind.i64.min<=a∧a<=IntKind.i64.max) (λl=>(l.map λ_=>1).sum+1):=kl Tryz.underlying31 IU
end
end Go.Ab
namespace Go.Ab
variable {C:Cx}{G G':List (Nat×Blk)}{M M':Nat->Nat->Prop}{P:Program}{Post:AV->Hp->Prop}{Q:Exit->St->Prop}{args:List AV}{ats:Array TypeId}{b b' blk:Blk}{c:Code}{d id k k' q:Nat}{f:Operand}{h h0:Hp}{hn ks:List Nat}{l:Loc}{o:Oper}{ops:Array Oper}{post pre:List Oper}{res:PV}{rs:List ResultVar}{st:St}{u:Value}{x:AV}{xs:List Operand}
theorem ja{C:Cx}{hn:List Nat}{ops:Array Oper}{Q:St->Prop}{Q':Exit->Act->World->Prop}{rest:List Oper}(hQ:∀st a w,gP C st a w->Q st->wpList C.P ops Q' rest a w):
 ∀{l:List Oper}{st:St}{a:Act}{w:World},gP C st a w->dX C.P hn C.N ops Q l st->wpList C.P ops Q' (l++rest) a w
 |[],st,a,w,hs,e=>hQ st a w hs e
 |o::l,st,a,w,hs,e=>by
  obtain⟨L,hm,hN,hdf,ht⟩:=hs;rw[dX.eq_2]at e;obtain⟨hd,e⟩:=e;rw[List.cons_append];refine wpList_step (λK hK=>?_);split at e
  .rename_i hg
   rw[eX ht (pR hg),IR rfl];exact xQ hm hN hdf ht hd e (λeff a' w' hk hsim=>hK _ _ (ja hQ hsim hk))
  .rename_i d b want hg
   rw[eX ht (mQ hg)];unfold yr at e;simp only at e;split at e
   .rename_i hgt
    subst hgt;rw[IR (by simp)];exact xQ hm hN hdf ht hd e (λeff a' w' hk hsim=>hK _ _ (ja hQ hsim hk))
   .rename_i hgt
    rw[Ik (by simpa using hgt)];exact hK _ _ (ja hQ (gP.put hm hN hdf ht hd (W:=[]) (aP.refl hm) (.pv (.val _))) e)
  .exact e.elim
theorem qY{w w':World}{L:Nat->Loc}(hp:Pres w M w' M')(hx:RepA w M L h x u):
 RepA w' M' L (λk=>if ks.contains k=true then none else(h k).map (bQ ks)) (aC ks x) u:=
 (BK hx).mono hp E8
def rekey(h:Hp)(ks:List Nat)(k:Nat)(blk:Blk):Hp:=λq=>if q=k then some blk else if ks.contains q=true then none else(h q).map (bQ ks)
def St.rekey(st:St)(ks:List Nat)(k:Nat)(blk:Blk):St:=⟨λn=>aC ks (st.t n),Go.Ab.rekey st.h ks k blk⟩
theorem sM(hq:rekey h ks k blk q=some b):(q=k∧b=blk)∨(q≠k∧q∉ks∧∃b0,h q=some b0∧b=bQ ks b0):=by
 unfold rekey at hq;split at hq
 .rename_i e;injection hq with hq;exact .inl ⟨e,hq.symm⟩
 .rename_i e
  split at hq
  .cases hq
  .rename_i hc
   simp only[Ii]at hq;obtain⟨b0,h1,h2⟩:=hq;exact .inr ⟨e,by simpa using hc,b0,h1,h2.symm⟩
theorem uC(b:Blk)(l:Loc):(bQ ks b).live l=b.live l:=by cases b<;>rfl
theorem BB(b:Blk)(o:Nat):(bQ ks b).frz o=b.frz o:=by cases b<;>rfl
theorem BC(h:fC C k l b):fC C k l (bQ ks b):=by
 cases b with
 |box cs own fz=>cases own<;>exact h
 |row=>exact h
 |mp=>exact h
section
variable {C:Cx} {L:Nat->Loc} {h:Hp} {w:World}
theorem MemL.retake(hm:MemL C L h w){e sz m:Nat}{xs:List PV}(hk:h k=some (.row e sz xs 0)):
 MemL C L (rekey h [k] k (.row e sz (xs.take m) 0)) w∧∀x u,RepA w (af C L h) L h x u->RepA w (af C L (rekey h [k] k (.row e sz (xs.take m) 0))) L (rekey h [k] k (.row e sz (xs.take m) 0)) (aC [k] x) u:=by
 have hM:∀b o,af C L (rekey h [k] k (.row e sz (xs.take m) 0)) b o->af C L h b o:=by
  rintro b o (h0|⟨q,blk,hq,hl,hb,hf⟩)
  .exact .inl h0
  .rcases sM hq with⟨rfl,rfl⟩|⟨_,_,b0,h1,rfl⟩
   .exact .inr ⟨q,_,hk,hl,hb,hf⟩
   .rw[uC]at hl;rw[BB]at hf
    exact .inr ⟨q,b0,h1,hl,hb,hf⟩
 have hp:=Pres.sub (w:=w) hM
 have hkc:KC L (λq=>if[k].contains q=true then none else(h q).map (bQ [k])) L (rekey h [k] k (.row e sz (xs.take m) 0)):=by
  intro q blk hq;simp only at hq;split at hq
  .cases hq
  .rename_i hc
   have hne:q≠k:=by simpa using hc
   refine⟨blk,?_,dq _ _⟩;simp only[rekey,Ik hne,Ik hc];exact hq
 have hrep:∀x u,RepA w (af C L h) L h x u->RepA w (af C L (rekey h [k] k (.row e sz (xs.take m) 0))) L (rekey h [k] k (.row e sz (xs.take m) 0)) (aC [k] x) u:=
  λx u hx=>(qY (ks:=[k]) hp hx).mono (Pres.refl _ _) hkc
 refine⟨⟨hm.ext,hm.m0,?_,?_,?_⟩,hrep⟩
 .intro q blk hq
  rcases sM hq with⟨rfl,rfl⟩|⟨_,_,b0,h1,rfl⟩
  .obtain⟨g1,g2,g3,g4,g5⟩:=hm.bl q _ hk
   refine⟨g1,Ng _,λx hx=>g3 x (Tn hx),λhn=>by rw[g4 hn];simp,λhn=>?_⟩;obtain⟨a1,a2,arr,a3,a4,a5⟩:=g5 hn;refine⟨by rw[MD];omega,a2,arr,a3,a4,λi x j p hx hj=>?_⟩;rw[KN]at hx;split at hx
   .obtain⟨u,hu,hr⟩:=a5 i x j p hx hj
    exact⟨u,hu,hr.mono hp⟩
   .cases hx
  .have:=hm.bl q b0 h1
   cases b0 with
   |box cs own fz=>
    obtain⟨arr,ty,e1,e2⟩:=this;refine⟨arr,ty,e1,by simpa using e2.1,λi p u hp' hu=>?_⟩;simp only[Is,Ii]at hp';obtain⟨y,hy,rfl⟩:=hp';exact hrep _ _ (e2.2 i y u hy hu)
   |row e' sz' ys fz=>
    obtain⟨a1,a2,a3,a4,a5⟩:=this;refine⟨a1,a2,a3,a4,λhn=>?_⟩;obtain⟨b1,b2,arr,b3,b4,b5⟩:=a5 hn;exact⟨b1,b2,arr,b3,b4,λi x j p hx hj=>by obtain⟨u,hu,hr⟩:=b5 i x j p hx hj;exact⟨u,hu,hr.mono hp⟩⟩
   |mp kd n es fz=>exact this
 .intro q q' b1 b2 hne hq hq' hl hl'
  have aux:∀{q b},rekey h [k] k (.row e sz (xs.take m) 0) q=some b->b.live (L q)->∃b0,h q=some b0∧b0.live (L q):=by
   intro q b hq hl;rcases sM hq with⟨rfl,rfl⟩|⟨_,_,b0,h1,rfl⟩
   .exact⟨_,hk,hl⟩
   .rw[uC]at hl;exact⟨b0,h1,hl⟩
  obtain⟨c1,d1,f1⟩:=aux hq hl;obtain⟨c2,d2,f2⟩:=aux hq' hl';exact hm.sep q q' c1 c2 hne d1 d2 f1 f2
 .intro q blk hq
  rcases sM hq with⟨rfl,rfl⟩|⟨_,_,b0,h1,rfl⟩
  .have h9:=hm.own q _ hk;exact h9
  .exact BC (hm.own q b0 h1)
end
section
variable {C:Cx} {Q:Exit->St->Prop} {st:St}
theorem lq{a:Act}(hg:o.guard=none):Region.wanted o (yielded ops a.tmps)=true:=by
 unfold Region.wanted;rw[hg]
end
attribute [simp] St.rekey rekey
def me(ren:Nat->Nat):AV->AV
 |.ptr k off=>.ptr (ren k) off
 |.arr k n=>.arr (ren k) n
 |x=>x
def AR(ren:Nat->Nat):AV->AV
 |.agg cs=>.agg (cs.map (me ren))
 |x=>me ren x
def ny(K:List Nat):AV->Bool
 |.pv _=>true
 |.ptr k _=>K.contains k
 |.arr k _=>K.contains k
 |_=>false
def E1(K:List Nat):AV->Bool
 |.agg cs=>cs.all (ny K)
 |x=>ny K x
def cF:List (Nat×Blk)->Hp
 |[]=>λ_=>none
 |(k,b)::r=>λq=>if q=k then some b else cF r q
def jb(ren:Nat->Nat)(own:Bool):Blk->Blk
 |.box cs _ _=>.box (cs.map (me ren)) own false
 |b=>b
def kx(K:List Nat)(k:Nat):Blk->Bool
 |.box cs own fz=>cs.all (ny K)&& !own&& !fz&&decide (1000000<=k)&&decide (k<2000000)
 |.row _ _ _ fz=>decide (fz=0)&&decide (2000000<=k)
 |.mp _ _ _ _=>false
def uD:Blk->Blk->Bool
 |.box _ _ _,.box _ _ _=>true
 |.row e sz xs _,.row e' sz' xs' _=>e==e'&&sz==sz'&&xs.length==xs'.length
 |_,_=>false
theorem fN(h:cF G k=some b):(k,b)∈G:=by
 induction G with
 |nil=>cases h
 |cons x r ih=>
  grind [cF,List.mem_cons_self,List.mem_cons_of_mem]
theorem lK(hn:(G.map (·.1)).Nodup)(h:(k,b)∈G):cF G k=some b:=by
 induction G with
 |nil=>cases h
 |cons x r ih=>
  grind [cF,List.nodup_cons]
section
variable {w:World} {M M':Nat->Nat->Prop} {L L':Nat->Loc} {h h':Hp} {ren:Nat->Nat} {K:List Nat}
theorem sN(hM:∀b o,M' b o->M b o)(hk:∀k∈K,∀blk,h (ren k)=some blk->∃blk',h' k=some blk'∧eF blk (L (ren k)) blk' (L' k))(ho:ny K x=true)(hx:RepA w M L h (me ren x) u):RepA w M' L' h' x u:=by
 cases x with
 |pv p=>cases hx with
  |pv hr=>exact .pv (hr.mono (Pres.sub hM))
 |ptr k off=>
  cases hx with
  |ptr hb=>
   obtain⟨blk',h1,h2⟩:=hk k (by simpa[ny]using ho) _ hb
   cases blk' with
   |row=>exact h2.elim
   |mp=>exact h2.elim
   |box cs own fz=>
    have h2:(L' k).b=(L (ren k)).b:=h2;rw[<-h2];exact .ptr h1
 |arr k n=>
  cases hx with
  |arr hb hn hu=>
   obtain⟨blk',h1,h2⟩:=hk k (by simpa[ny]using ho) _ hb
   cases blk' with
   |box=>exact h2.elim
   |mp=>exact h2.elim
   |row e sz xs fz=>
    obtain⟨_,_,a2,a3⟩:=h2;refine .arr h1 (by omega) (λe=>?_)
    grind
 |_=>cases ho
theorem I7(hM:∀b o,M' b o->M b o)(hk:∀k∈K,∀blk,h (ren k)=some blk->∃blk',h' k=some blk'∧eF blk (L (ren k)) blk' (L' k))(ho:E1 K x=true)(hx:RepA w M L h (AR ren x) u):RepA w M' L' h' x u:=by
 cases x with
 |agg cs=>
  cases hx with
  |agg _ vs hl hh=>
   refine .agg cs vs (by simpa using hl) (λi p u hp hu=>?_);exact sN hM hk (Ij.1 ho p (HW hp)) (hh i _ u (by simp[hp]) hu)
 |_=>exact sN hM hk ho hx
theorem F3(hM:∀b o,M' b o->M b o)(hk:∀k∈K,∀blk,h' k=some blk->∃blk',h (ren k)=some blk'∧eF blk (L' k) blk' (L (ren k)))(ho:ny K x=true)(hx:RepA w M L' h' x u):RepA w M' L h (me ren x) u:=by
 cases x with
 |pv p=>cases hx with
  |pv hr=>exact .pv (hr.mono (Pres.sub hM))
 |ptr k off=>
  cases hx with
  |ptr hb=>
   obtain⟨blk',h1,h2⟩:=hk k (by simpa[ny]using ho) _ hb
   cases blk' with
   |row=>exact h2.elim
   |mp=>exact h2.elim
   |box cs own fz=>
    have h2:(L (ren k)).b=(L' k).b:=h2;rw[<-h2];exact .ptr h1
 |arr k n=>
  cases hx with
  |arr hb hn hu=>
   obtain⟨blk',h1,h2⟩:=hk k (by simpa[ny]using ho) _ hb
   cases blk' with
   |box=>exact h2.elim
   |mp=>exact h2.elim
   |row e sz xs fz=>
    obtain⟨_,_,a2,a3⟩:=h2;refine .arr h1 (by omega) (λe=>?_)
    grind
 |_=>cases ho
end
def Cu(G:List (Nat×Blk))(L:Nat->Loc)(b:Nat):Prop:=∃k blk,cF G k=some blk∧blk.live (L k)∧b=(L k).b
structure OkG(G G':List (Nat×Blk)):Prop where
 keys:G'.map (·.1)=G.map (·.1)
 nodup:(G.map (·.1)).Nodup
 okin:∀k b,(k,b)∈G->kx (G.map (·.1)) k b=true
 okout:∀k b,(k,b)∈G'->kx (G.map (·.1)) k b=true
 same:∀k b b',cF G k=some b->cF G' k=some b'->uD b b'=true
def F4(P:Program)(f:FuncId)(args:List AV)(G G':List (Nat×Blk))(res:PV):Prop:=
 dw P f=true∧OkG G G'∧∀(w:World)(M:Nat->Nat->Prop)(L:Nat->Loc)(vs:List Value),(∀b o,M b o->b<w.heap.size)->
  (∀k blk,cF G k=some blk->blk.live (L k)->∀o,M (L k).b o)->
  (∀k k' blk blk',k≠k'->cF G k=some blk->cF G k'=some blk'->blk.live (L k)->blk'.live (L k')->(L k).b≠(L k').b)->
  (∀k blk,cF G k=some blk->dW w M L (cF G) (L k) blk)->aK w M L (cF G) args vs->
  Calls P f vs.toArray w λe w'=>∃v,e=.returned v∧Ext (Cu G L) w w'∧(∀k blk,cF G' k=some blk->dW w' M L (cF G') (L k) blk)∧Rep w' M res v
def KS(args:List AV)(G:List (Nat×Blk)):St:=⟨λn=>(args[n]?).getD .undef,cF G⟩
def CG(P:Program)(rs:List ResultVar)(G':List (Nat×Blk))(res:PV)(st:St):Prop:=
 rF res=true∧(∃r,mS P st rs=some r∧∃W,frz st.h r=some (res,W))∧∀kb∈G',st.h kb.1=some kb.2
def I8(P:Program)(rs:List ResultVar)(G':List (Nat×Blk))(res:PV):Exit->St->Prop
 |.normal,st=>CG P rs G' res st
 |.ret,st=>CG P rs G' res st
 |_,_=>False
@[simp] theorem OW:I8 P rs G' res .normal st=CG P rs G' res st:=rfl
@[simp] theorem Qn:I8 P rs G' res .ret st=CG P rs G' res st:=rfl
theorem E2{f:FuncId}{fn:Func}(hf:P.funcs[f]?=some fn)(hb:fn.body=some c)(hcall:dw P f=true)(hlen:args.length<=fn.ntmps)(hok:OkG G G')
 (h:∀C:Cx,C.P=P->C.N=fn.ntmps->WP C c (I8 P fn.results.toList G' res) (KS args G)):F4 P f args G G' res:=by
 refine⟨hcall,hok,λw M L vs hM hlv hsep hbl hvs=>?_⟩;have okin:∀{k blk},cF G k=some blk->kx (G.map (·.1)) k blk=true:=λhk=>hok.okin _ _ (fN hk);have okout:∀{k blk},cF G' k=some blk->kx (G.map (·.1)) k blk=true:=λhk=>hok.okout _ _ (fN hk)
 have hnd':(G'.map (·.1)).Nodup:=by rw[hok.keys];exact hok.nodup
 have hinout:∀{k blk},cF G k=some blk->∃blk',cF G' k=some blk':=by
  intro k blk hk
  have hm:k∈G'.map (·.1):=by rw[hok.keys];exact KB.2 ⟨_,fN hk,rfl⟩
  obtain⟨⟨k',b'⟩,h1,h2⟩:=KB.1 hm;simp only at h2;subst h2;exact⟨b',lK hnd' h1⟩
 have houtin:∀{k blk},cF G' k=some blk->∃blk',cF G k=some blk':=by
  intro k blk hk
  have hm:k∈G.map (·.1):=by rw[<-hok.keys];exact KB.2 ⟨_,fN hk,rfl⟩
  obtain⟨⟨k',b'⟩,h1,h2⟩:=KB.1 hm;simp only at h2;subst h2;exact⟨b',lK hok.nodup h1⟩
 let rowB:Nat->Prop:=λb=>∃k e sz xs fz,cF G k=some (.row e sz xs fz)∧(L k).isNil=false∧b=(L k).b
 let C:Cx:={P:=P,N:=fn.ntmps,M0:=λb o=>M b o∧¬rowB b,S:=Cu G L,pb:=λk=>some (L k).b,pr:=λk=>if 2000000<=k then some (L k)else none,hpr:=(λk hk=>by rw[Ik (by omega)]),w0:=w}
 have hMst:∀b o,af C L (cF G) b o↔M b o:=by
  intro b o;constructor
  .rintro(h0|⟨k,blk,hk,hl,hbb,_⟩)
   all_goals grind
  .intro hm
   by_cases hr:rowB b
   .obtain⟨k,e,sz,xs,fz,hk,hn,rfl⟩:=hr
    refine .inr ⟨k,_,hk,hn,rfl,?_⟩;have:=okin hk;simp only[kx,An,HX]at this
    grind [Blk.frz]
   .exact .inl ⟨hm,hr⟩
 have hMeq:af C L (cF G)=M:=by funext b o;exact propext (hMst b o)
 have hvl:=hvs.1
 have hsim:gP C (KS args G) {tmps:=vs.toArray++Array.replicate (fn.ntmps-vs.toArray.size) undef,defers:=[]} w:=by
  refine⟨L,⟨Ext.refl _ _,λb o h0=>hM b o h0.1,?_,hsep,?_⟩,by show(vs.toArray++Array.replicate (fn.ntmps-vs.toArray.size) undef).size=fn.ntmps;simp;omega,kz.nil _,λn=>?_⟩
  .intro k blk hk
   show dW w (af C L (cF G)) L (cF G) (L k) blk;rw[hMeq];exact hbl k blk hk
  .intro k blk hk
   have ho:=okin hk
   cases blk with
   |mp=>cases ho
   |box cs own fz=>
    simp only[kx,An,Mp,HX]at ho;obtain⟨⟨⟨⟨_,h1⟩,h2⟩,h3⟩,h4⟩:=ho;subst h1;subst h2;refine⟨rfl,rfl,⟨k,_,hk,trivial,rfl⟩,?_,λo=>⟨hlv k _ hk trivial o,?_⟩⟩
    .exact(hbl k _ hk).lt trivial
    .rintro⟨k',e,sz,xs,fz,hk',hn',he⟩
     by_cases e':k=k'
     .subst e';rw[show cF G k=_ from hk]at hk';cases hk'
     .exact hsep k k' _ _ e' hk hk' trivial hn' he
   |row e sz xs fz=>
    simp only[kx,An,HX]at ho;show fC C k (L k) _;have hpr:C.pr k=some (L k):=IR ho.2;unfold fC;simp only;rw[hpr];exact⟨rfl,λhn=>⟨⟨k,_,hk,hn,rfl⟩,λo h9=>h9.2 ⟨k,e,sz,xs,fz,hk,hn,rfl⟩⟩⟩
  .show RepA w (af C L (cF G)) L (cF G) ((args[n]?).getD .undef) _
   rw[hMeq]
   cases hp:args[n]? with
   |none=>exact .undef _
   |some p=>
    have hlt:n<vs.length:=by rw[<-hvl];exact(th.1 hp).1
    have hget:(vs.toArray++Array.replicate (fn.ntmps-vs.toArray.size) undef).getD n undef=vs[n]:=by
     rw[IV,Mj (by simpa using hlt)];simp[hlt]
    simp only[hget];exact hvs.2 n p _ hp (an hlt)
 refine calls_of_wp_defers hf hb (wp_mono (h C rfl rfl _ w hsim) ?_)
 have hfin:∀(a':Act) w' st',gP C st' a' w'->CG P fn.results.toList G' res st'->kz P a'.defers∧∃v,(results fn a'.tmps).run P w'=.ok v w'∧
  ∃v',Ending.returned v=.returned v'∧Ext (Cu G L) w w'∧(∀k blk,cF G' k=some blk->dW w' M L (cF G') (L k) blk)∧Rep w' M res v':=by
  rintro a' w' st' ⟨L',hm,hN,hdf,ht⟩ ⟨hml,⟨r,hr,W,hW⟩,hpb⟩;obtain⟨u,hu1,hu2⟩:=om (C:=C) hm ht hr;have hpb':∀{k blk},cF G' k=some blk->st'.h k=some blk:=λhk=>hpb _ (fN hk)
  have hLr:∀{k e sz xs fz},cF G' k=some (.row e sz xs fz)->L' k=L k:=by
   intro k e sz xs fz hk;have ho:=okout hk;simp only[kx,An,HX]at ho;have how:=hm.own k _ (hpb' hk);have hpr:C.pr k=some (L k):=IR ho.2;simp only[fC,hpr]at how;exact how.1
  have hLb:∀{k cs own fz},cF G' k=some (.box cs own fz)->(L' k).b=(L k).b:=by
   intro k cs own fz hk;have ho:=okout hk;simp only[kx,An,Mp,HX]at ho;obtain⟨⟨⟨⟨_,h1⟩,h2⟩,h3⟩,h4⟩:=ho;subst h1;subst h2;have how:=(hm.own k _ (hpb' hk)).2.1;injection how with how;exact how.symm
  have hsub:∀b o,M b o->af C L' st'.h b o:=by
   intro b o hmo;by_cases hr':rowB b
   .obtain⟨k,e,sz,xs,fz,hk,hn,rfl⟩:=hr'
    obtain⟨blk',hk'⟩:=hinout hk;have hs:=hok.same k _ _ hk hk'
    cases blk' with
    |box=>cases hs
    |mp=>cases hs
    |row e' sz' xs' fz'=>
     have ho:=okout hk';simp only[kx,An,HX]at ho;refine .inr ⟨k,_,hpb' hk',?_,?_,?_⟩
     .show(L' k).isNil=false;rw[hLr hk'];exact hn
     .rw[hLr hk']
     .rw[ho.1];simp[Blk.frz]
   .exact .inl ⟨hmo,hr'⟩
  obtain⟨b1,b2,_⟩:=nN hm (dr.refl _) hu2 hW;refine⟨hdf,u,hu1,u,rfl,hm.ext,?_,?_⟩
  .intro k blk hk
   have hbr:=hm.bl k blk (hpb' hk)
   cases blk with
   |mp=>cases okout hk
   |row e sz xs fz=>
    rw[hLr hk]at hbr;obtain⟨g1,g2,g3,g4,g5⟩:=hbr;refine⟨g1,g2,g3,g4,λhn=>?_⟩;obtain⟨a1,a2,arr,a3,a4,a5⟩:=g5 hn;exact⟨a1,a2,arr,a3,a4,λi x j p hx hj=>by obtain⟨u,hu,hr⟩:=a5 i x j p hx hj;exact⟨u,hu,hr.mono (Pres.sub hsub)⟩⟩
   |box cs own fz=>
    obtain⟨arr,ty,e1,e2⟩:=hbr;rw[hLb hk]at e1;refine⟨arr,ty,e1,e2.1,λi p u hp hu=>?_⟩;have ho:=okout hk;simp only[kx,An]at ho;have hop:=Ij.1 ho.1.1.1.1 p (HW hp);have hx:=e2.2 i p u hp hu
    have e0:me id p=p:=by cases p<;>rfl
    have hx':RepA w' (af C L' st'.h) L' st'.h (me id p) u:=by rw[e0];exact hx
    refine sN (ren:=id) (K:=G.map (·.1)) (M':=M) (L':=L) (h':=cF G') hsub (λq hq blk hb=>?_) hop hx'
    .obtain⟨⟨q',b'⟩,h1,h2⟩:=KB.1 hq
     simp only at h2;subst h2;obtain⟨blk',hq'⟩:=hinout (lK hok.nodup h1);refine⟨blk',hq',?_⟩;have h9:=hpb' hq';have hb':st'.h q'=some blk:=hb;rw[hb']at h9;injection h9 with h9;subst h9
     cases blk with
     |mp=>cases okout hq'
     |box=>exact(hLb hq').symm
     |row=>exact⟨rfl,rfl,IX _,λ_=>(hLr hq').symm⟩
  .exact pU hml b2
 rintro e a' w' ⟨st',hs',hq⟩
 cases e with
 |normal=>obtain⟨h1,v,h2,h3⟩:=hfin a' w' st' hs' hq;exact jA h1 h2 h3
 |ret=>obtain⟨h1,v,h2,h3⟩:=hfin a' w' st' hs' hq;exact jA h1 h2 h3
 |exit=>exact hq.elim
 |goto=>exact hq.elim
 |panic=>exact hq.elim
 |outgrown=>exact hq.elim
def nc(h:Hp)(q:Nat):Bool:=match h q with
 |some (.box _ own _)=>own
 |_=>false
def i7(ren:Nat->Nat)(h:Hp)(G':List (Nat×Blk)):List (Nat×Blk):=G'.map λkb=>(ren kb.1,jb ren (nc h (ren kb.1)) kb.2)
theorem zL{ren:Nat->Nat}{g:Nat×Blk->Blk}:∀(l:List (Nat×Blk))(h:Hp),(l.map λx=>ren x.1).Nodup->∀x∈l,am h (l.map λx=>(ren x.1,g x)) (ren x.1)=some (g x)
 |[],_,_,x,hx=>by cases hx
 |y::l,h,hn,x,hx=>by
  rw[Ot,VO]at hn;rw[Ot];show am (ai h (ren y.1) (some (g y))) (l.map λx=>(ren x.1,g x)) (ren x.1)=_;rcases KM.1 hx with rfl|hx
  .rw[lS,aN]
   intro kb hkb;obtain⟨z,hz,rfl⟩:=KB.1 hkb;intro e;exact hn.1 (KB.2 ⟨z,hz,e⟩)
  .exact zL l _ hn.2 x hx
theorem qa{ren:Nat->Nat}{own:Bool}:(jb ren own b).live l↔b.live l:=by cases b<;>exact Pp
theorem yW{ren:Nat->Nat}{own:Bool}{K:List Nat}{o:Nat}(h:kx K k b=true):¬(jb ren own b).frz o:=by
 cases b with
 |mp=>cases h
 |box cs own' fz=>simp[jb,Blk.frz]
 |row e sz xs fz=>
  simp_all[kx,An,jb,Blk.frz]
structure Share(h:Hp)(ren:Nat->Nat)(G G':List (Nat×Blk)):Prop where
 ok:OkG G G'
 inj:(G.map λx=>ren x.1).Nodup
 have_:∀kb∈G,h (ren kb.1)=some (jb ren (nc h (ren kb.1)) kb.2)
section
variable {C:Cx} {L:Nat->Loc} {h:Hp} {w:World} {ren:Nat->Nat} {G G':List (Nat×Blk)}
theorem Share.ren_inj(hs:Share h ren G G')(hk:cF G k=some b)(hk':cF G k'=some b')(e:ren k=ren k'):k=k':=by
 obtain⟨i,hi⟩:=Pl.1 (fN hk);obtain⟨j,hj⟩:=Pl.1 (fN hk')
 have h1:(G.map λx=>ren x.1)[i]?=some (ren k):=by simp[hi]
 have h2:(G.map λx=>ren x.1)[j]?=some (ren k'):=by simp[hj]
 obtain⟨l1,e1⟩:=th.1 h1;obtain⟨l2,e2⟩:=th.1 h2;have:i=j:=(List.getElem_inj hs.inj).1 (e1.trans (e.trans e2.symm))
 grind
theorem Share.inout(hs:Share h ren G G')(hk:cF G k=some blk):∃blk',cF G' k=some blk':=by
 have hm:k∈G'.map (·.1):=by rw[hs.ok.keys];exact KB.2 ⟨_,fN hk,rfl⟩
 obtain⟨⟨k',b'⟩,h1,h2⟩:=KB.1 hm;simp only at h2;subst h2;exact⟨b',lK (by rw[hs.ok.keys];exact hs.ok.nodup) h1⟩
theorem Share.outin(hs:Share h ren G G')(hk:cF G' k=some blk):∃blk',cF G k=some blk':=by
 have hm:k∈G.map (·.1):=by rw[<-hs.ok.keys];exact KB.2 ⟨_,fN hk,rfl⟩
 obtain⟨⟨k',b'⟩,h1,h2⟩:=KB.1 hm;simp only at h2;subst h2;exact⟨b',lK hs.ok.nodup h1⟩
theorem Share.at_(hs:Share h ren G G')(hk:cF G k=some blk):h (ren k)=some (jb ren (nc h (ren k)) blk):=hs.have_ _ (fN hk)
theorem Share.new(hs:Share h ren G G')(hk:cF G' k=some blk):am h (i7 ren h G') (ren k)=some (jb ren (nc h (ren k)) blk):=by
 have hn:(G'.map λx=>ren x.1).Nodup:=by
  have e:(G'.map λx=>ren x.1)=(G.map λx=>ren x.1):=by
   have:=Qf (List.map ren) hs.ok.keys;simpa[List.map_map,Function.comp_def]using this
  rw[e];exact hs.inj
 exact zL (g:=λkb=>jb ren (nc h (ren kb.1)) kb.2) G' h hn (k,blk) (fN hk)
theorem Share.other(hs:Share h ren G G')(hq:∀k blk,cF G k=some blk->q≠ren k):am h (i7 ren h G') q=h q:=by
 refine lS ?_;intro kb hkb e;obtain⟨⟨k,b⟩,hz,rfl⟩:=KB.1 hkb;obtain⟨blk',hk'⟩:=hs.outin (lK (by rw[hs.ok.keys];exact hs.ok.nodup) hz)
 grind
theorem Share.cases(hs:Share h ren G G')(hq:am h (i7 ren h G') q=some b):
 (∃k blk blk',cF G k=some blk∧cF G' k=some blk'∧q=ren k∧b=jb ren (nc h (ren k)) blk')∨((∀k blk,cF G k=some blk->q≠ren k)∧h q=some b):=by
 by_cases hc:∃k blk,cF G k=some blk∧q=ren k
 .obtain⟨k,blk,hk,rfl⟩:=hc
  obtain⟨blk',hk'⟩:=hs.inout hk;rw[hs.new hk']at hq;injection hq with hq
  grind
 .have hne:∀k blk,cF G k=some blk->q≠ren k:=λk blk hk e=>hc ⟨k,blk,hk,e⟩
  rw[hs.other hne]at hq
  grind
theorem CH{ren:Nat->Nat}{own:Bool}(h:uD b b'=true):eF (jb ren own b) l (jb ren own b') l:=by
 cases b<;>cases b'<;>first|(cases h;done)|skip
 .exact rfl
 .simp only[uD,An,Nj]at h
  exact⟨h.1.1.symm,h.1.2.symm,Nat.le_of_eq h.2,λ_=>rfl⟩
theorem Share.okin(hs:Share h ren G G')(hk:cF G k=some b):kx (G.map (·.1)) k b=true:=hs.ok.okin _ _ (fN hk)
theorem Share.okout(hs:Share h ren G G')(hk:cF G' k=some b):kx (G.map (·.1)) k b=true:=hs.ok.okout _ _ (fN hk)
theorem Share.view(hs:Share h ren G G')(hm:MemL C L h w)(hk:cF G k=some blk):dW w (af C L h) (λk=>L (ren k)) (cF G) (L (ren k)) blk:=by
 have hb:=hm.bl _ _ (hs.at_ hk)
 cases blk with
 |mp=>cases hs.okin hk
 |row e sz xs fz=>exact hb
 |box cs own fz=>
  obtain⟨arr,ty,e1,e2⟩:=hb;have ho:=hs.okin hk;simp only[kx,An]at ho;refine⟨arr,ty,e1,by simpa using e2.1,λi p u hp hu=>?_⟩;refine sN (ren:=ren) (K:=G.map (·.1)) (λb o h=>h) (λq hq b hb=>?_) (Ij.1 ho.1.1.1.1 p (HW hp)) (e2.2 i _ u (by simp[hp]) hu);obtain⟨⟨q',b'⟩,h1,h2⟩:=KB.1 hq;simp only at h2;subst h2;have hq':=lK hs.ok.nodup h1;refine⟨b',hq',?_⟩;rw[hs.at_ hq']at hb;injection hb with hb;subst hb
  cases b' with
  |mp=>exact⟨rfl,rfl,rfl⟩
  |box=>exact rfl
  |row=>exact⟨rfl,rfl,IX _,λ_=>rfl⟩
theorem MemL.shareStep(hm:MemL C L h w)(hs:Share h ren G G'){w':World}(hx:Ext (Cu G (λk=>L (ren k))) w w')
 (hb:∀k blk,cF G' k=some blk->dW w' (af C L h) (λk=>L (ren k)) (cF G') (L (ren k)) blk):aP C L h w L (am h (i7 ren h G')) w':=by
 have hMM:∀b o,af C L (am h (i7 ren h G')) b o->af C L h b o:=by
  rintro b o (h0|⟨q,blk,hq,hl,hqb,hf⟩)
  .exact .inl h0
  .rcases hs.cases hq with⟨k,b1,b2,hk,hk',rfl,rfl⟩|⟨_,hq'⟩
   .refine .inr ⟨ren k,_,hs.at_ hk,?_,hqb,yW (hs.okin hk)⟩
    have hsm:=hs.ok.same k _ _ hk hk'
    cases b1<;>cases b2<;>first|(cases hsm;done)|exact hl
   .exact .inr ⟨q,blk,hq',hl,hqb,hf⟩
 have hkc:KC L h L (am h (i7 ren h G')):=by
  intro q blk hq;by_cases hc:∃k b,cF G k=some b∧q=ren k
  .obtain⟨k,b,hk,rfl⟩:=hc
   obtain⟨b',hk'⟩:=hs.inout hk;rw[hs.at_ hk]at hq;injection hq with hq;subst hq;exact⟨_,hs.new hk',CH (hs.ok.same k _ _ hk hk')⟩
  .exact⟨blk,by rw[hs.other (λk b hk e=>hc ⟨k,b,hk,e⟩)];exact hq,dq _ _⟩
 have hpres:Pres w (af C L h) w' (af C L (am h (i7 ren h G'))):=by
  refine Pres.ext hx (λb _ hsb o=>?_) λb o _ h9=>hMM b o h9;obtain⟨k,blk,hk,hl,rfl⟩:=hsb;exact .inr ⟨ren k,_,hs.at_ hk,qa.2 hl,rfl,yW (hs.okin hk)⟩
 refine⟨⟨?_,hm.m0,?_,?_,?_⟩,hpres,hkc⟩
 .refine hm.ext.trans hx (λb hb0 hmem=>?_)
  obtain⟨k,blk,hk,hl,rfl⟩:=hmem;have hb1:(L (ren k)).b<C.w0.heap.size:=hb0;have how:=hm.own _ _ (hs.at_ hk)
  cases blk with
  |mp=>cases hs.okin hk
  |box cs own fz=>
   cases hown:nc h (ren k)with
   |false=>rw[hown]at how;exact how.2.2.1
   |true=>
    rw[hown]at how;rcases how with h9|h9
    .omega
    .exact h9.1
  |row e sz xs fz=>
   rcases how.row hl with h9|h9
   all_goals grind
 .intro q blk hq
  rcases hs.cases hq with⟨k,b1,b2,hk,hk',rfl,rfl⟩|⟨hne,hq'⟩
  .have hbr:=hb k b2 hk'
   cases b2 with
   |mp=>cases hs.okout hk'
   |row e sz xs fz=>
    obtain⟨g1,g2,g3,g4,g5⟩:=hbr;refine⟨g1,g2,g3,g4,λhn=>?_⟩;obtain⟨a1,a2,arr,a3,a4,a5⟩:=g5 hn;exact⟨a1,a2,arr,a3,a4,λi x j p hx9 hj=>by obtain⟨u,hu,hr⟩:=a5 i x j p hx9 hj;exact⟨u,hu,hr.mono (Pres.sub hMM)⟩⟩
   |box cs own fz=>
    obtain⟨arr,ty,e1,e2⟩:=hbr;have ho:=hs.okout hk';simp only[kx,An]at ho;refine⟨arr,ty,e1,by simpa using e2.1,λi p u hp hu=>?_⟩;simp only[Is,Ii]at hp;obtain⟨y,hy,rfl⟩:=hp;refine F3 (ren:=ren) (K:=G.map (·.1)) (L':=λk=>L (ren k)) (h':=cF G') hMM (λq hq b hb=>?_) (Ij.1 ho.1.1.1.1 y (HW hy)) (e2.2 i y u hy hu);refine⟨_,hs.new hb,?_⟩
    cases b with
    |mp=>exact⟨rfl,rfl,rfl⟩
    |box=>exact rfl
    |row=>exact⟨rfl,rfl,IX _,λ_=>rfl⟩
  .refine(hm.bl q blk hq').mono hpres hkc (λhl=>hx.block _ ((hm.bl q blk hq').lt hl) ?_)
   rintro⟨k,b,hk,hl',e⟩;exact hm.sep q (ren k) _ _ (hne k b hk) hq' (hs.at_ hk) hl (qa.2 hl') e
 .have aux:∀q b,am h (i7 ren h G') q=some b->b.live (L q)->∃b0,h q=some b0∧b0.live (L q):=by
   intro q b hq hl;rcases hs.cases hq with⟨k,b1,b2,hk,hk',rfl,rfl⟩|⟨_,hq'⟩
   .refine⟨_,hs.at_ hk,?_⟩
    have hsm:=hs.ok.same k _ _ hk hk'
    cases b1<;>cases b2<;>first|(cases hsm;done)|exact hl
   grind
  intro q q' b1 b2 hne hq hq' hl hl';obtain⟨c1,d1,f1⟩:=aux q b1 hq hl;obtain⟨c2,d2,f2⟩:=aux q' b2 hq' hl';exact hm.sep q q' c1 c2 hne d1 d2 f1 f2
 .intro q blk hq
  rcases hs.cases hq with⟨k,b1,b2,hk,hk',rfl,rfl⟩|⟨_,hq'⟩
  .have how:=hm.own _ _ (hs.at_ hk)
   have hsm:=hs.ok.same k _ _ hk hk'
   cases b1<;>cases b2<;>first|(cases hsm;done)|skip
   .cases hown:nc h (ren k)with
    |false=>rw[hown]at how;exact how
    |true=>rw[hown]at how;exact how
   .exact how
  .exact hm.own q blk hq'
end
section
variable {C:Cx} {Q:Exit->St->Prop} {st:St}
def zM(C:Cx)(Q:St->Prop)(f:Operand)(xs:List Operand)(d:Option Nat)(st:St):Prop:=
 ∃g args G G' res ren,cZ (st.ev f)=some (g,[],[])∧F4 C.P g args G G' res∧rF res=true∧xs.map st.ev=args.map (AR ren)∧args.all (E1 (G.map (·.1)))=true∧(G.map λx=>ren x.1).Nodup∧
  (∀kb∈G,st.h (ren kb.1)=some (jb ren (nc st.h (ren kb.1)) kb.2))∧dD C.N d=true∧Q (st.put d (.pv res) (i7 ren st.h G'))
theorem WP.share(hops:ops.toList=pre++o::post)(hop:o.op=.call {callee:=.value f,args:=xs.toArray,argTypes:=ats})(hg:o.guard=none)
 (hq:dX C.P hn C.N ops (zM C (dX C.P hn C.N ops (Q .normal) post) f xs o.dst) pre st):WP C (.region id ops false) Q st:=by
 intro a w hs;refine wp_region_list ?_;rw[hops];refine ja (λst1 a1 w1 hs1 hq1=>?_) hs hq;obtain⟨g,args,G,G',res,ren,hce,⟨hcall,hok,hD⟩,hml,hargs,hokA,hinj,hhave,hdN,hQ⟩:=hq1;obtain⟨L,hm,hN,hdf,ht⟩:=hs1;have hsh:Share st1.h ren G G':=⟨hok,hinj,hhave⟩;refine wpList_step (λK hK=>?_);rw[lq hg,IR rfl];obtain⟨vs,us,hfv,hv1,hv2⟩:=jv (dx ht f) hce;have hvs:=hv1.nil_inv;have hus:=hv2.nil_inv;subst hvs;subst hus
 have hlenA:xs.length=args.length:=by have:=Qf List.length hargs;simpa using this
 have hrepA:aK w1 (af C L st1.h) (λk=>L (ren k)) (cF G) args (xs.map a1.eval):=by
  refine⟨by simp[hlenA],λi p u hp hu=>?_⟩;simp only[Is,Ii]at hu;obtain⟨x,hx,rfl⟩:=hu;have he:=Qf (λl:List AV=>l[i]?) hargs;simp only[Is,hx,hp,MG,IL]at he;have hr:=dx ht x;rw[he]at hr;refine I7 (K:=G.map (·.1)) (λb o h=>h) (λq hq b hb=>?_) (Ij.1 hokA p (HW hp)) hr;obtain⟨⟨q',b'⟩,h1,h2⟩:=KB.1 hq;simp only at h2;subst h2;have hq':=lK hsh.ok.nodup h1;refine⟨b',hq',?_⟩;rw[hsh.at_ hq']at hb;injection hb with hb;subst hb
  cases b' with
  |mp=>exact⟨rfl,rfl,rfl⟩
  |box=>exact rfl
  |row=>exact⟨rfl,rfl,IX _,λ_=>rfl⟩
 have hcalls:=hD w1 (af C L st1.h) (λk=>L (ren k)) (xs.map a1.eval) (λb o h=>hm.mlt h)
  (λk blk hk hl o=>.inr ⟨ren k,_,hsh.at_ hk,qa.2 hl,rfl,yW (hsh.okin hk)⟩)
  (λk k' b b' hne hk hk' hl hl'=>hm.sep (ren k) (ren k') _ _ (λe=>hne (hsh.ren_inj hk hk' e)) (hsh.at_ hk) (hsh.at_ hk') (qa.2 hl) (qa.2 hl'))
  (λk blk hk=>hsh.view hm hk) hrepA
 have hrun:(execOp a1.eval o).run C.P w1=.ok (.enter g (xs.map a1.eval).toArray) w1:=by
  unfold dw at hcall
  cases hfn:C.P.funcs[g]? with
  |none=>rw[hfn]at hcall;cases hcall
  |some fn=>
   rw[hfn]at hcall;simp only[An,Mp,Om,ne_eq]at hcall
   have hb:fn.body.isNone=false:=by cases hbb:fn.body<;>simp_all
   unfold execOp;rw[hop];simp only[resolve,hfv,Deferred.ofValue,pure_bind,Sem.run_bind,Result.andThen_ok,invoke,callFunc,program,Sem.run,hfn];simp[hcall.2,hb]
 unfold Oper.wp;rw[hrun];simp only[Oper.upon];refine hcalls.mono ?_;rintro ee w' ⟨v,rfl,hx,hb,hr⟩;have hA:=hm.shareStep hsh hx hb;refine hK _ _ ?_;exact jp (λst' a' w' hs' hq'=>⟨st',hs',hq'⟩) (gP.put hm hN hdf ht hdN hA (.pv (pU hml hr))) hQ
end
attribute [simp] AR me E1 ny cF jb kx uD i7 nc
def inK(k:Nat):Bool:=decide (290<=k)&&decide (k<1000000)
def iV(K:Nat->Bool):AV->Bool
 |.pv _=>true
 |.ptr k _=>K k
 |.arr k _=>K k
 |.eptr k _ _ _=>K k
 |.ext x=>K x.key
 |.undef=>true
 |_=>false
def uE(K:Nat->Bool):AV->Bool
 |.agg cs=>cs.all (iV K)
 |x=>iV K x
def nK(K:Nat->Bool):AV->Bool
 |.agg cs=>cs.all (iV K)
 |.fn _ first caps=>first.all (iV K)&&caps.all (iV K)
 |.tup cs=>cs.all (uE K)
 |x=>iV K x
abbrev rS:AV->Bool:=nK inK
def ky:Blk->Bool
 |.box _ false _=>false
 |_=>true
def CI:Blk->Bool
 |.mp _ _ _ _=>false
 |_=>true
def vT(M:Nat->Nat->Prop)(L:Nat->Loc)(h:Hp)(b o:Nat):Prop:=M b o∨∃k blk,h k=some blk∧blk.live (L k)∧(L k).b=b∧¬blk.frz o
def ng(h:Hp)(L:Nat->Loc)(b:Nat):Prop:=∃k blk,h k=some blk∧blk.live (L k)∧b=(L k).b
def jR(h:Hp)(L:Nat->Loc)(b:Nat):Prop:=∃k blk,h k=some blk∧ky blk=true∧blk.live (L k)∧b=(L k).b
structure LookH(h:Hp):Prop where
 keys:∀k blk,h k=some blk->inK k=true
 nf:∀k blk o,h k=some blk->¬blk.frz o
 nm:∀k blk,h k=some blk->CI blk=true
 cl:∀k cs o f,h k=some (.box cs o f)->∀x∈cs,rS x=true
structure TrIn(w:World)(M:Nat->Nat->Prop)(L:Nat->Loc)(h:Hp):Prop where
 bl:∀k blk,h k=some blk->dW w (vT M L h) L h (L k) blk
 sep:∀k k' blk blk',k≠k'->h k=some blk->h k'=some blk'->blk.live (L k)->blk'.live (L k')->(L k).b≠(L k').b
 m1:∀k blk,h k=some blk->ky blk=true->blk.live (L k)->∀o,¬M (L k).b o
 m2:∀k cs f,h k=some (.box cs false f)->∀o,M (L k).b o
def n9(P:Program)(f:FuncId)(args:List AV)(h0:Hp)(Post:AV->Hp->Prop):Prop:=
 dw P f=true∧∀(w:World)(M:Nat->Nat->Prop)(L:Nat->Loc)(vs:List Value),(∀b o,M b o->b<w.heap.size)->TrIn w M L h0->aK w (vT M L h0) L h0 args vs->
  Calls P f vs.toArray w λe w'=>∃v r L' h',e=.returned v∧Ext (ng h0 L) w w'∧LookH h'∧TrIn w' M L' h'∧RepA w' (vT M L' h') L' h' r v∧rS r=true∧Post r h'∧
   (∀k cs f,h0 k=some (.box cs false f)->∃cs',h' k=some (.box cs' false false)∧(L' k).b=(L k).b)∧
   (∀k cs f,h' k=some (.box cs false f)->∃cs0 f0,h0 k=some (.box cs0 false f0))∧
   (∀k blk,h' k=some blk->ky blk=true->blk.live (L' k)->w.heap.size<=(L' k).b∨jR h0 L (L' k).b)
section
variable {w w':World} {M M':Nat->Nat->Prop} {L L':Nat->Loc} {h h':Hp}
theorem tU{K:Nat->Bool}(hp:Pres w M w' M')(hk:∀k blk,K k=true->h k=some blk->∃blk',h' k=some blk'∧eF blk (L k) blk' (L' k))(ho:nK K x=true)(hx:RepA w M L h x u):RepA w' M' L' h' x u:=by
 have one:∀{x:AV}{u:Value},iV K x=true->RepA w M L h x u->RepA w' M' L' h' x u:=by
  intro x u ho hx
  cases hx with
  |pv hr=>exact .pv (hr.mono hp)
  |@ptr k off cs own fz hb=>
   obtain⟨blk',h1,h2⟩:=hk k _ ho hb
   cases blk' with
   |row=>exact h2.elim
   |mp=>exact h2.elim
   |box cs' own' fz'=>have h2:(L' k).b=(L k).b:=h2;rw[<-h2];exact .ptr h1
  |@arr k n e sz fz xs u hb hn hu=>
   obtain⟨blk',h1,h2⟩:=hk k _ ho hb
   cases blk' with
   |box=>exact h2.elim
   |mp=>exact h2.elim
   |row e' sz' xs' fz'=>
    obtain⟨_,e1,e2,e3⟩:=h2;refine .arr h1 (by omega) (λe=>?_)
    have:xs'.length=xs.length:=by omega
    rw[e3 this];exact hu (by omega)
  |@eptr k n i off e sz fz xs u hb hn hu=>
   obtain⟨blk',h1,h2⟩:=hk k _ ho hb
   cases blk' with
   |box=>exact h2.elim
   |mp=>exact h2.elim
   |row e' sz' xs' fz'=>
    obtain⟨_,e1,e2,e3⟩:=h2;refine .eptr h1 (by omega) (λe=>?_)
    have:xs'.length=xs.length:=by omega
    rw[e3 this,e1];exact hu (by omega)
  |ext hx'=>
   cases hx' with
   |@barr k n c cs own fz hc hb=>
    obtain⟨blk',h1,h2⟩:=hk k _ ho hb
    cases blk' with
    |row=>exact h2.elim
    |mp=>exact h2.elim
    |box cs' own' fz'=>have h2:(L' k).b=(L k).b:=h2;rw[<-h2];exact .ext (.barr hc h1)
   |@mp k n kd es fz hb=>
    obtain⟨blk',h1,h2⟩:=hk k _ ho hb
    cases blk' with
    |row=>exact h2.elim
    |box=>exact h2.elim
    |mp kd' n' es' fz'=>have h2:kd'=kd∧n'=n∧(L' k).b=(L k).b:=h2;rw[<-h2.2.2];exact .ext (.mp h1)
   |@suf k o n t e sz fz xs u hs0 hb hn ht hu=>
    obtain⟨blk',h1,h2⟩:=hk k _ ho hb
    cases blk' with
    |box=>exact h2.elim
    |mp=>exact h2.elim
    |row e' sz' xs' fz'=>
     obtain⟨_,e1,e2,e3⟩:=h2;refine .ext (.suf hs0 h1 hn (by omega) (λe=>?_))
     have:xs'.length=xs.length:=by omega
     rw[e3 this,e1];exact hu (by omega)
  |undef=>exact .undef _
  |agg=>cases ho
  |fn=>cases ho
  |tup=>cases ho
 have all:∀{cs:List AV}{p:AV}{i:Nat},cs.all (iV K)=true->cs[i]?=some p->iV K p=true:=λh hp=>Ij.1 h _ (HW hp)
 have two:∀{x:AV}{u:Value},uE K x=true->RepA w M L h x u->RepA w' M' L' h' x u:=by
  intro x u ho hx
  cases hx with
  |agg cs vs hl hh=>exact .agg cs vs hl λi p u hp hu=>one (all ho hp) (hh i p u hp hu)
  |pv hr=>exact one ho (.pv hr)
  |ptr hb=>exact one ho (.ptr hb)
  |arr hb hn hu=>exact one ho (.arr hb hn hu)
  |eptr hb hn hu=>exact one ho (.eptr hb hn hu)
  |ext hx'=>exact one ho (.ext hx')
  |undef=>exact .undef _
  |fn=>cases ho
  |tup=>cases ho
 cases hx with
 |agg cs vs hl hh=>exact .agg cs vs hl λi p u hp hu=>one (all ho hp) (hh i p u hp hu)
 |fn f first caps vs us hl hk' h1 h2=>
  simp only[nK,An]at ho
  exact .fn f first caps vs us hl hk' (λi p u hp hu=>one (all ho.1 hp) (h1 i p u hp hu)) (λi p u hp hu=>one (all ho.2 hp) (h2 i p u hp hu))
 |tup cs vs hl hh=>exact .tup cs vs hl λi p u hp hu=>two (Ij.1 ho _ (HW hp)) (hh i p u hp hu)
 |pv hr=>exact one ho (.pv hr)
 |ptr hb=>exact one ho (.ptr hb)
 |arr hb hn hu=>exact one ho (.arr hb hn hu)
 |eptr hb hn hu=>exact one ho (.eptr hb hn hu)
 |ext hx'=>exact one ho (.ext hx')
 |undef=>exact .undef _
theorem dW.inK(hp:Pres w M w' M')(hk:∀k blk,Go.Ab.inK k=true->h k=some blk->∃blk',h' k=some blk'∧eF blk (L k) blk' (L' k))(hc:∀cs o f,blk=.box cs o f->∀x∈cs,rS x=true)(he:blk.live l->w'.heap[l.b]?=w.heap[l.b]?)(hb:dW w M L h l blk):dW w' M' L' h' l blk:=by
 cases blk with
 |box cs own fz=>
  obtain⟨arr,ty,e,hl,hr⟩:=hb;exact⟨arr,ty,(he trivial).trans e,hl,λi p u h1 h2=>tU hp hk (hc _ _ _ rfl p (HW h1)) (hr i p u h1 h2)⟩
 |row et sz xs fz=>
  obtain⟨h1,h2,h3,h4,h5⟩:=hb;refine⟨h1,h2,h3,h4,λhn=>?_⟩;obtain⟨h6,h6',arr,e,h7,h8⟩:=h5 hn;refine⟨h6,h6',arr,(he hn).trans e,h7,λi x j p hx hj=>?_⟩;obtain⟨u,hu,hr⟩:=h8 i x j p hx hj;exact⟨u,hu,hr.mono hp⟩
 |mp kd n es fz=>
  obtain⟨arr,c,e,h1⟩:=hb;exact⟨arr,c,(he trivial).trans e,h1⟩
end
def qF(h:Hp):Hp:=λk=>if inK k=true then h k else none
theorem kJ(e:qF h k=some b):inK k=true∧h k=some b:=by
 unfold qF at e;split at e
 .rename_i hi;exact⟨hi,e⟩
 .cases e
def tV(args:List AV)(h0:Hp):St:=⟨λn=>(args[n]?).getD .undef,h0⟩
def yX(P:Program)(rs:List ResultVar)(h0:Hp)(Post:AV->Hp->Prop)(st:St):Prop:=
 ∃r,mS P st rs=some r∧rS r=true∧LookH (qF st.h)∧Post r (qF st.h)∧∀k cs f,h0 k=some (.box cs false f)->∃cs',st.h k=some (.box cs' false false)
def F5(P:Program)(rs:List ResultVar)(h0:Hp)(Post:AV->Hp->Prop):Exit->St->Prop
 |.normal,st=>yX P rs h0 Post st
 |.ret,st=>yX P rs h0 Post st
 |_,_=>False
@[simp] theorem OX:F5 P rs h0 Post .normal st=yX P rs h0 Post st:=rfl
@[simp] theorem Qo:F5 P rs h0 Post .ret st=yX P rs h0 Post st:=rfl
theorem tE(hk:k<2000000)(ho:fC C k l blk)(hu:ky blk=true)(hm:CI blk=true)(hl:blk.live l):C.w0.heap.size<=l.b∨(C.S l.b∧∀o,¬C.M0 l.b o):=by
 cases blk with
 |box cs own fz=>
  cases own with
  |false=>cases hu
  |true=>exact ho
 |row e sz xs fz=>exact ho.row hl
 |mp=>cases hm
theorem wm(h:inK k=true):k<2000000:=by
 simp only[inK,An,HX]at h;omega
theorem LG{f:FuncId}{fn:Func}(hf:P.funcs[f]?=some fn)(hb:fn.body=some c)(hcall:dw P f=true)(hlen:args.length<=fn.ntmps)(hlook:LookH h0)
 (h:∀C:Cx,C.P=P->C.N=fn.ntmps->WP C c (F5 P fn.results.toList h0 Post) (tV args h0)):n9 P f args h0 Post:=by
 refine⟨hcall,λw M L vs hM hin hvs=>?_⟩
 let C:Cx:={P:=P,N:=fn.ntmps,M0:=M,S:=ng h0 L,pb:=λk=>match h0 k with|some (.box _ false _)=>some (L k).b|_=>none,w0:=w}
 have hvl:=hvs.1
 have hsim:gP C (tV args h0) {tmps:=vs.toArray++Array.replicate (fn.ntmps-vs.toArray.size) undef,defers:=[]} w:=by
  refine⟨L,⟨Ext.refl _ _,hM,hin.bl,hin.sep,?_⟩,by show(vs.toArray++Array.replicate (fn.ntmps-vs.toArray.size) undef).size=fn.ntmps;simp;omega,kz.nil _,λn=>?_⟩
  .intro k blk hk
   cases blk with
   |box cs own fz=>
    cases own with
    |false=>
     have hfz:fz=false:=by
      cases fz with
      |false=>rfl
      |true=>exact absurd rfl (hlook.nf k _ 0 hk)
     refine⟨hfz,?_,⟨k,_,hk,trivial,rfl⟩,(hin.bl k _ hk).lt trivial,hin.m2 k cs fz hk⟩;show(match h0 k with|some (.box _ false _)=>some (L k).b|_=>none)=some (L k).b;rw[show h0 k=_ from hk]
    |true=>exact .inr ⟨⟨k,_,hk,trivial,rfl⟩,hin.m1 k _ hk rfl trivial⟩
   |row e sz xs fz=>
    unfold fC;simp only[C.hpr k (wm (hlook.keys k _ hk))];exact λhn=>.inr ⟨⟨k,_,hk,hn,rfl⟩,hin.m1 k _ hk rfl hn⟩
   |mp=>exact absurd (hlook.nm k _ hk) (by simp[CI])
  .show RepA w (af C L h0) L h0 ((args[n]?).getD .undef) _
   cases hp:args[n]? with
   |none=>exact .undef _
   |some p=>
    have hlt:n<vs.length:=by rw[<-hvl];exact(th.1 hp).1
    have hget:(vs.toArray++Array.replicate (fn.ntmps-vs.toArray.size) undef).getD n undef=vs[n]:=by
     rw[IV,Mj (by simpa using hlt)];simp[hlt]
    simp only[hget];exact hvs.2 n p _ hp (an hlt)
 refine calls_of_wp_defers hf hb (wp_mono (h C rfl rfl _ w hsim) ?_)
 have hfin:∀(a':Act) w' st',gP C st' a' w'->yX P fn.results.toList h0 Post st'->kz P a'.defers∧∃v,(results fn a'.tmps).run P w'=.ok v w'∧
  (∃v' r L' h',Ending.returned v=.returned v'∧Ext (ng h0 L) w w'∧LookH h'∧TrIn w' M L' h'∧RepA w' (vT M L' h') L' h' r v'∧rS r=true∧Post r h'∧
    (∀k cs f,h0 k=some (.box cs false f)->∃cs',h' k=some (.box cs' false false)∧(L' k).b=(L k).b)∧
    (∀k cs f,h' k=some (.box cs false f)->∃cs0 f0,h0 k=some (.box cs0 false f0))∧
    (∀k blk,h' k=some blk->ky blk=true->blk.live (L' k)->w.heap.size<=(L' k).b∨jR h0 L (L' k).b)):=by
  rintro a' w' st' ⟨L',hm,hN,hdf,ht⟩ ⟨r,hr,hok,hlk,hpost,hpin⟩;obtain⟨u,hu1,hu2⟩:=om (C:=C) hm ht hr
  have hsub:∀b o,vT M L' (qF st'.h) b o->af C L' st'.h b o:=by
   rintro b o (h9|⟨k,blk,hk,hl,hb9,hf9⟩)
   .exact .inl h9
   .exact .inr ⟨k,blk,(kJ hk).2,hl,hb9,hf9⟩
  have hpr:=Pres.sub (w:=w') hsub;have hkk:∀k blk,inK k=true->st'.h k=some blk->∃blk',qF st'.h k=some blk'∧eF blk (L' k) blk' (L' k):=λk blk hi hk=>⟨blk,by unfold qF;rw[IR hi];exact hk,dq _ _⟩
  have hpb:∀k cs f,st'.h k=some (.box cs false f)->(∃cs0 f0,h0 k=some (.box cs0 false f0))∧(L' k).b=(L k).b∧f=false∧∀o,M (L' k).b o:=by
   intro k cs f hk;have ho:=hm.own k _ hk;have h1:(match h0 k with|some (.box _ false _)=>some (L k).b|_=>none)=some (L' k).b:=ho.2.1;split at h1
   .rename_i cs0 f0 h2
    injection h1 with h1;exact⟨⟨cs0,f0,h2⟩,h1.symm,ho.1,ho.2.2.2.2⟩
   .cases h1
  have hown:∀k blk,qF st'.h k=some blk->ky blk=true->blk.live (L' k)->w.heap.size<=(L' k).b∨(ng h0 L (L' k).b∧∀o,¬M (L' k).b o):=λk blk hk hu hl=>
   tE (C:=C) (wm (kJ hk).1) (hm.own k _ (kJ hk).2) hu (hlk.nm k _ hk) hl
  refine⟨hdf,u,hu1,u,r,L',qF st'.h,rfl,hm.ext,hlk,⟨?_,?_,?_,?_⟩,tU hpr hkk hok hu2,hok,hpost,?_,?_,?_⟩
  .exact λk blk hk=>(hm.bl k blk (kJ hk).2).inK hpr hkk (λcs o f e=>hlk.cl k cs o f (by rw[hk,e])) (λ_=>rfl)
  .exact λk k' b1 b2 hne h1 h2=>hm.sep k k' b1 b2 hne (kJ h1).2 (kJ h2).2
  .intro k blk hk hu hl o hM9
   rcases hown k blk hk hu hl with h9|h9
   .have:=hM _ _ hM9;omega
   .exact h9.2 o hM9
  .exact λk cs f hk=>(hpb k cs f (kJ hk).2).2.2.2
  .intro k cs f hk
   obtain⟨cs',h1⟩:=hpin k cs f hk;exact⟨cs',by unfold qF;rw[IR (hlook.keys k _ hk)];exact h1,(hpb k _ _ h1).2.1⟩
  .exact λk cs f hk=>(hpb k cs f (kJ hk).2).1
  .intro k blk hk hu hl
   rcases hown k blk hk hu hl with h9|⟨⟨k0,b0,e1,e2,e3⟩,h9⟩
   .exact .inl h9
   .refine .inr ⟨k0,b0,e1,?_,e2,e3⟩
    cases b0 with
    |box cs0 o0 f0=>
     cases o0 with
     |true=>rfl
     |false=>exact absurd (hin.m2 k0 _ _ e1 0) (by rw[<-e3];exact h9 0)
    |row=>rfl
    |mp=>rfl
 rintro e a' w' ⟨st',hs',hq⟩
 cases e with
 |normal=>obtain⟨h1,v,h2,h3⟩:=hfin a' w' st' hs' hq;exact jA h1 h2 h3
 |ret=>obtain⟨h1,v,h2,h3⟩:=hfin a' w' st' hs' hq;exact jA h1 h2 h3
 |exit=>exact hq.elim
 |goto=>exact hq.elim
 |panic=>exact hq.elim
 |outgrown=>exact hq.elim
def oa(o:Bool):Blk->Blk
 |.box cs _ f=>.box cs o f
 |b=>b
def nh(h:Hp)(k:Nat):Bool:=match h k with
 |some (.box _ o _)=>o
 |_=>true
def gM(h:Hp):Hp:=λk=>if inK k=true then(if k=290 then(h k).map (oa false)else h k)else none
def lL(k:Nat):Bool:=!inK k||k==290
def gB(x:AV):AV:=if nK lL x=true then x else .undef
def jw:Blk->Blk
 |.box cs o f=>.box (cs.map gB) o f
 |b=>b
def gg(h h':Hp):Hp:=λk=>if inK k=true then(if k=290 then(h' k).map (oa (nh h k))else h' k)else(h k).map jw
theorem jS{o:Bool}:(oa o b).live l↔b.live l:=by cases b<;>exact Pp
theorem BD{o:Bool}:(oa o b).frz q↔b.frz q:=by cases b<;>exact Pp
theorem lr:(jw b).live l↔b.live l:=by cases b<;>exact Pp
theorem F6:(jw b).frz q↔b.frz q:=by cases b<;>exact Pp
theorem wo{o:Bool}{l':Loc}(h:eF b l b' l'):eF b l (oa o b') l':=by cases b<;>cases b'<;>exact h
theorem jx(e:gM h k=some b):inK k=true∧∃b0,h k=some b0∧(k=290->b=oa false b0)∧(k≠290->b=b0):=by
 unfold gM at e;split at e
 .rename_i hi
  split at e
  .rename_i h1
   simp only[Ii]at e;obtain⟨b0,h2,rfl⟩:=e;exact⟨hi,b0,h2,λ_=>rfl,λh3=>absurd h1 h3⟩
  .rename_i h1;exact⟨hi,b,e,λh2=>absurd h2 h1,λ_=>rfl⟩
 .cases e
theorem xv(hi:inK k=true)(hk:h k=some b):gM h k=some (if k=290 then oa false b else b):=by
 unfold gM;rw[IR hi];split
 .rw[hk];rfl
 .exact hk
theorem CJ{h':Hp}(hi:inK k=true)(hk:h' k=some b):gg h h' k=some (if k=290 then oa (nh h k) b else b):=by
 unfold gg;rw[IR hi];split
 .rw[hk];rfl
 .exact hk
theorem oc{h':Hp}(e:gg h h' k=some b):(inK k=true∧∃b0,h' k=some b0∧b=if k=290 then oa (nh h k) b0 else b0)∨(inK k=false∧∃b0,h k=some b0∧b=jw b0):=by
 unfold gg at e;split at e
 .rename_i hi
  split at e
  .rename_i h1
   simp only[Ii]at e;obtain⟨b0,h2,rfl⟩:=e;exact .inl ⟨hi,b0,h2,by rw[IR h1]⟩
  .rename_i h1;exact .inl ⟨hi,b,e,by rw[Ik h1]⟩
 .rename_i hi
  simp only[Ii]at e;obtain⟨b0,h2,rfl⟩:=e;exact .inr ⟨by simpa using hi,b0,h2,rfl⟩
structure InOk(h:Hp):Prop where
 nf:∀k blk o,inK k=true->h k=some blk->¬blk.frz o
 nm:∀k blk,inK k=true->h k=some blk->CI blk=true
 cl:∀k cs o f,inK k=true->h k=some (.box cs o f)->∀x∈cs,rS x=true
 pin:∀k cs f,inK k=true->h k=some (.box cs false f)->k=290
 bx:∀blk,h 290=some blk->∃cs o f,blk=.box cs o f
section
variable {C:Cx} {L L':Nat->Loc} {h h':Hp} {w w':World}
theorem zO(hm:MemL C L h w)(hi:InOk h){b:Nat}(ht:jR (gM h) L b):(C.w0.heap.size<=b∨(C.S b∧∀o,¬C.M0 b o))∧ng h L b:=by
 obtain⟨k,blk,hk,hu,hl,rfl⟩:=ht;obtain⟨h1,b0,h2,h3,h4⟩:=jx hk;by_cases e:k=290
 .have:=h3 e
  subst this;subst e;obtain⟨cs,o,f,rfl⟩:=hi.bx b0 h2;cases hu
 .have:=h4 e
  subst this;exact⟨tE (wm h1) (hm.own k _ h2) hu (hi.nm k _ h1 h2) hl,k,_,h2,hl,rfl⟩
theorem MemL.takeStep(hm:MemL C L h w)(hi:InOk h)(hx:Ext (ng (gM h) L) w w')(hlk:LookH h')
 (ht:TrIn w' (λb o=>af C L h b o∧¬jR (gM h) L b) L' h')
 (hp1:∀k cs f,gM h k=some (.box cs false f)->∃cs',h' k=some (.box cs' false false)∧(L' k).b=(L k).b)
 (hp2:∀k cs f,h' k=some (.box cs false f)->∃cs0 f0,gM h k=some (.box cs0 false f0))
 (hn:∀k blk,h' k=some blk->ky blk=true->blk.live (L' k)->w.heap.size<=(L' k).b∨jR (gM h) L (L' k).b):
 ∃L2:Nat->Loc,(∀k,inK k=true->L2 k=L' k)∧MemL C L2 (gg h h') w'∧(∀{x:AV}{u:Value},RepA w (af C L h) L h x u->RepA w' (af C L2 (gg h h')) L2 (gg h h') (gB x) u)∧
  (∀{x:AV}{u:Value},rS x=true->RepA w' (vT (λb o=>af C L h b o∧¬jR (gM h) L b) L' h') L' h' x u->RepA w' (af C L2 (gg h h')) L2 (gg h h') x u):=by
 let L2:Nat->Loc:=λk=>if inK k=true then L' k else L k
 have hL1:∀k,inK k=true->L2 k=L' k:=λk hk=>IR hk
 have hL0:∀k,inK k=false->L2 k=L k:=λk hk=>by simp[L2,hk]
 have hsz:=hm.ext.size
 have hlv:∀b,ng (gM h) L b->∃k blk,inK k=true∧h k=some blk∧blk.live (L k)∧b=(L k).b:=by
  rintro b ⟨k,blk,hk,hl,rfl⟩;obtain⟨h1,b0,h2,h3,h4⟩:=jx hk;refine⟨k,b0,h1,h2,?_,rfl⟩;by_cases e:k=290
  .rw[h3 e]at hl;exact jS.1 hl
  .rw[h4 e]at hl;exact hl
 have hlvM:∀b,ng (gM h) L b->∀o,af C L h b o:=by
  intro b hb o;obtain⟨k,blk,h1,h2,h3,rfl⟩:=hlv b hb;exact .inr ⟨k,blk,h2,h3,rfl,hi.nf k blk o h1 h2⟩
 have htl:∀b,jR (gM h) L b->ng (gM h) L b:=by
  rintro b ⟨k,blk,h1,_,h3,h4⟩;exact⟨k,blk,h1,h3,h4⟩
 have hM2:∀b o,af C L2 (gg h h') b o->vT (λb o=>af C L h b o∧¬jR (gM h) L b) L' h' b o:=by
  rintro b o (h9|⟨k,blk,hk,hl,hb,hf⟩)
  .refine .inl ⟨.inl h9,λh8=>?_⟩
   rcases(zO hm hi h8).1 with h7|h7
   .have:=hm.m0 _ _ h9;omega
   .exact h7.2 o h9
  .rcases oc hk with⟨hi1,b0,h1,rfl⟩|⟨hi1,b0,h1,rfl⟩
   .rw[hL1 k hi1]at hl hb
    refine .inr ⟨k,b0,h1,?_,hb,?_⟩
    .split at hl
     .exact jS.1 hl
     .exact hl
    .split at hf
     .exact λh8=>hf (BD.2 h8)
     .exact hf
   .rw[hL0 k hi1]at hl hb
    refine .inl ⟨.inr ⟨k,b0,h1,lr.1 hl,hb,λh8=>hf (F6.2 h8)⟩,λh8=>?_⟩;obtain⟨k',blk',h2,h3,h4,h5⟩:=hlv b (htl b h8);refine hm.sep k k' b0 blk' (λe=>?_) h1 h3 (lr.1 hl) h4 (by rw[hb,<-h5]);rw[e,h2]at hi1;cases hi1
 have hpr2:=Pres.sub (w:=w') hM2
 have hpres:Pres w (af C L h) w' (af C L2 (gg h h')):=by
  have hns:∀b o,¬af C L h b o->¬ng (gM h) L b:=λb o h9 h8=>h9 (hlvM b h8 o)
  have hback:∀b o,b<w.heap.size->af C L2 (gg h h') b o->af C L h b o:=by
   intro b o hlt h9;rcases hM2 b o h9 with h8|⟨k,blk,hk,hl,hb,hf⟩
   .exact h8.1
   .cases hu:ky blk with
    |true=>
     rcases hn k blk hk hu hl with h7|h7
     .omega
     .rw[hb]at h7;exact hlvM b (htl b h7) o
    |false=>
     cases blk with
     |row=>cases hu
     |mp=>cases hu
     |box cs o9 f9=>
      cases o9 with
      |true=>cases hu
      |false=>
       obtain⟨cs0,f0,h7⟩:=hp2 k cs f9 hk;obtain⟨_,_,h6⟩:=hp1 k cs0 f0 h7;exact hlvM b ⟨k,_,h7,trivial,by rw[<-hb,h6]⟩ o
  refine⟨λb o v hc hnm=>?_,λb arr c hc hnm=>?_⟩
  .have hlt:=AS hc
   exact⟨(hx.cell hlt (hns b o hnm)).trans hc,λh9=>hnm (hback b o hlt h9)⟩
  .have hlt:=xy hc
   exact⟨(hx.block b hlt (hns b 0 hnm)).trans hc,λh9=>hnm (hback b 0 hlt h9)⟩
 have hkout:∀k blk,lL k=true->h k=some blk->∃blk',gg h h' k=some blk'∧eF blk (L k) blk' (L2 k):=by
  intro k blk hk h1
  cases hik:inK k with
  |false=>
   refine⟨jw blk,by simp only[gg,hik,IA,JE,h1,MG],?_⟩;rw[hL0 k hik]
   cases blk with
   |box=>exact rfl
   |row=>exact⟨rfl,rfl,IX _,λ_=>rfl⟩
   |mp=>exact⟨rfl,rfl,rfl⟩
  |true=>
   have e:k=290:=by simpa[lL,hik]using hk
   obtain⟨cs,o,f,rfl⟩:=hi.bx blk (by rw[<-e];exact h1)
   have h2:gM h k=some (.box cs false f):=by rw[xv hik h1,IR e];rfl
   obtain⟨cs',h3,h4⟩:=hp1 k cs f h2;refine⟨_,CJ hik h3,?_⟩;rw[IR e,hL1 k hik];exact h4
 have hkin:∀k blk,inK k=true->h' k=some blk->∃blk',gg h h' k=some blk'∧eF blk (L' k) blk' (L2 k):=by
  intro k blk hik h1;refine⟨_,CJ hik h1,?_⟩;rw[hL1 k hik];split
  .exact wo (dq _ _)
  .exact dq _ _
 have hkill:∀{x:AV}{u:Value},RepA w (af C L h) L h x u->RepA w' (af C L2 (gg h h')) L2 (gg h h') (gB x) u:=by
  intro x u hr;unfold gB;split
  .rename_i ho;exact tU hpres hkout ho hr
  .exact .undef _
 refine⟨L2,hL1,⟨?_,hm.m0,?_,?_,?_⟩,hkill,λho hr=>tU hpr2 hkin ho hr⟩
 .refine hm.ext.trans hx (λb hlt h9=>?_)
  obtain⟨k,blk,h1,h2,h3,rfl⟩:=hlv b h9;have ho:=hm.own k _ h2
  cases hu:ky blk with
  |true=>
   rcases tE (wm h1) ho hu (hi.nm k _ h1 h2) h3 with h7|h7
   .omega
   .exact h7.1
  |false=>
   cases blk with
   |row=>cases hu
   |mp=>cases hu
   |box cs o9 f9=>
    cases o9 with
    |true=>cases hu
    |false=>exact ho.2.2.1
 .intro k blk hk
  rcases oc hk with⟨hi1,b0,h1,rfl⟩|⟨hi1,b0,h1,rfl⟩
  .rw[hL1 k hi1]
   have hb:=(ht.bl k b0 h1).inK hpr2 hkin (λcs o f e=>hlk.cl k cs o f (by rw[h1,e])) (λ_=>rfl);split
   .cases b0<;>exact hb
   .exact hb
  .rw[hL0 k hi1]
   have hb:=hm.bl k b0 h1
   have he:b0.live (L k)->w'.heap[(L k).b]?=w.heap[(L k).b]?:=by
    intro hl;refine hx.block _ (hb.lt hl) (λh9=>?_);obtain⟨k',blk',h2,h3,h4,h5⟩:=hlv _ h9;exact hm.sep k k' b0 blk' (λe=>by rw[e,h2]at hi1;cases hi1) h1 h3 hl h4 h5
   cases b0 with
   |box cs own fz=>
    obtain⟨arr,ty,e,hl,hr⟩:=hb;refine⟨arr,ty,(he trivial).trans e,by simpa using hl,λi p u hp hu=>?_⟩;simp only[Is,Ii]at hp;obtain⟨q,hq,rfl⟩:=hp;exact hkill (hr i q u hq hu)
   |row et sz xs fz=>
    obtain⟨g1,g2,g3,g4,g5⟩:=hb;refine⟨g1,g2,g3,g4,λhn9=>?_⟩;obtain⟨h6,h6',arr,e,h7,h8⟩:=g5 hn9;refine⟨h6,h6',arr,(he hn9).trans e,h7,λi x j p hx9 hj=>?_⟩;obtain⟨u,hu,hr⟩:=h8 i x j p hx9 hj;exact⟨u,hu,hr.mono hpres⟩
   |mp kd n es fz=>
    obtain⟨arr,c,e,g1⟩:=hb;exact⟨arr,c,(he trivial).trans e,g1⟩
 .
  have new:∀k blk,inK k=true->h' k=some blk->blk.live (L' k)->w.heap.size<=(L' k).b∨ng (gM h) L (L' k).b:=by
   intro k blk hik hk hl
   cases hu:ky blk with
   |true=>exact(hn k blk hk hu hl).imp id (htl _)
   |false=>
    cases blk with
    |row=>cases hu
    |mp=>cases hu
    |box cs o9 f9=>
     cases o9 with
     |true=>cases hu
     |false=>
      obtain⟨cs0,f0,h7⟩:=hp2 k cs f9 hk;obtain⟨_,_,h6⟩:=hp1 k cs0 f0 h7;exact .inr ⟨k,_,h7,trivial,h6⟩
  have apart:∀k blk k' blk',inK k=true->inK k'=false->h' k=some blk->h k'=some blk'->blk.live (L' k)->blk'.live (L k')->(L' k).b≠(L k').b:=by
   intro k blk k' blk' h1 h2 h3 h4 h5 h6 e;rcases new k blk h1 h3 h5 with h7|h7
   .have:=(hm.bl k' blk' h4).lt h6;omega
   .obtain⟨q,bq,g1,g2,g3,g4⟩:=hlv _ h7
    exact hm.sep q k' bq blk' (λe9=>by rw[e9,h2]at g1;cases g1) g2 h4 g3 h6 (by rw[<-g4,e])
  have lv:∀{k:Nat}{b0:Blk},(if k=290 then oa (nh h k) b0 else b0).live (L' k)->b0.live (L' k):=by
   intro k b0 hl;split at hl
   .exact jS.1 hl
   .exact hl
  intro k k' b1 b2 hne hk hk' hl hl';rcases oc hk with⟨i1,c1,d1,rfl⟩|⟨i1,c1,d1,rfl⟩<;>rcases oc hk' with⟨i2,c2,d2,rfl⟩|⟨i2,c2,d2,rfl⟩
  .rw[hL1 k i1]at hl|-
   rw[hL1 k' i2]at hl'|-;exact ht.sep k k' c1 c2 hne d1 d2 (lv hl) (lv hl')
  .rw[hL1 k i1]at hl|-
   rw[hL0 k' i2]at hl'|-;exact apart k c1 k' c2 i1 i2 d1 d2 (lv hl) (lr.1 hl')
  .rw[hL0 k i1]at hl|-
   rw[hL1 k' i2]at hl'|-;exact λe=>apart k' c2 k c1 i2 i1 d2 d1 (lv hl') (lr.1 hl) e.symm
  .rw[hL0 k i1]at hl|-
   rw[hL0 k' i2]at hl'|-;exact hm.sep k k' c1 c2 hne d1 d2 (lr.1 hl) (lr.1 hl')
 .
  intro k blk hk;rcases oc hk with⟨i1,b0,d1,rfl⟩|⟨i1,b0,d1,rfl⟩
  .rw[hL1 k i1]
   have fresh:ky b0=true->b0.live (L' k)->C.w0.heap.size<=(L' k).b∨(C.S (L' k).b∧∀o,¬C.M0 (L' k).b o):=by
    intro hu hl;rcases hn k b0 d1 hu hl with h7|h7
    .exact .inl (by omega)
    .exact(zO hm hi h7).1
   cases b0 with
   |mp=>exact absurd (hlk.nm k _ d1) (by simp[CI])
   |row e sz xs fz=>
    have:fC C k (L' k) (.row e sz xs fz):=by
     unfold fC;simp only[C.hpr k (wm i1)];exact λhn9=>fresh rfl hn9
    split<;>exact this
   |box cs o9 f9=>
    cases o9 with
    |true=>
     have h9:=fresh rfl trivial;split
     .rename_i e
      have h8:gM h k=none∨∃cs0 f0,gM h k=some (.box cs0 false f0):=by
       cases h7:h k with
       |none=>left;simp[gM,h7]
       |some b1=>
        right
        obtain⟨cs0,o0,f0,rfl⟩:=hi.bx b1 (by rw[<-e];exact h7);exact⟨cs0,f0,by rw[xv i1 h7,IR e];rfl⟩
      rcases h8 with h8|⟨cs0,f0,h8⟩
      .have h7:h k=none:=by
        cases h7:h k with
        |none=>rfl
        |some b1=>rw[xv i1 h7]at h8;cases h8
       have:nh h k=true:=by simp[nh,h7]
       rw[this];exact h9
      .obtain⟨cs',h6,_⟩:=hp1 k cs0 f0 h8
       rw[d1]at h6;cases h6
     .exact h9
    |false=>
     obtain⟨cs0,f0,h7⟩:=hp2 k cs f9 d1;obtain⟨cs',h6,h5⟩:=hp1 k cs0 f0 h7;rw[d1]at h6;injection h6 with h6;injection h6 with h6a _ h6b;obtain⟨_,b1,g2,g3,g4⟩:=jx h7
     have e:k=290:=by
      refine Classical.byContradiction λe=>e ?_;have:=g4 e;subst this;exact hi.pin k cs0 f0 i1 g2
     rw[IR e];obtain⟨cs1,o1,f1,rfl⟩:=hi.bx b1 (by rw[<-e];exact g2);have ho:=hm.own k _ g2
     have:nh h k=o1:=by simp[nh,g2]
     rw[this];show fC C k (L' k) (.box cs o1 f9)
     cases o1 with
     |true=>
      have ho:C.w0.heap.size<=(L k).b∨(C.S (L k).b∧∀o,¬C.M0 (L k).b o):=ho;show C.w0.heap.size<=(L' k).b∨(C.S (L' k).b∧∀o,¬C.M0 (L' k).b o);rw[h5];exact ho
     |false=>
      obtain⟨a1,a2,a3,a4,a5⟩:=ho;refine⟨h6b,?_,?_,?_,?_⟩
      .rw[h5];exact a2
      .rw[h5];exact a3
      .rw[h5];exact a4
      .rw[h5];exact a5
  .rw[hL0 k i1]
   have:=hm.own k b0 d1
   cases b0 with
   |box cs o f=>cases o<;>exact this
   |row=>exact this
   |mp=>exact this
def uF(C:Cx)(Q:St->Prop)(f:Operand)(xs:List Operand)(d:Option Nat)(st:St):Prop:=
 ∃g Post,cZ (st.ev f)=some (g,[],[])∧InOk st.h∧n9 C.P g (xs.map st.ev) (gM st.h) Post∧(xs.map st.ev).all rS=true∧dD C.N d=true∧
  ∀r h',LookH h'->rS r=true->Post r h'->Q (St.put ⟨λn=>gB (st.t n),gg st.h h'⟩ d r [])
theorem WP.takeG{K:St->Prop}(hKs:∀st a w,gP C st a w->K st->∃st',gP C st' a w∧dX C.P hn C.N ops (Q .normal) post st')(hops:ops.toList=pre++o::post)(hop:o.op=.call {callee:=.value f,args:=xs.toArray,argTypes:=ats})(hg:o.guard=none)
 (hq:dX C.P hn C.N ops (uF C K f xs o.dst) pre st):WP C (.region id ops false) Q st:=by
 intro a w hs;refine wp_region_list ?_;rw[hops];refine ja (λst1 a1 w1 hs1 hq1=>?_) hs hq;obtain⟨g,Post,hce,hi,⟨hcall,hD⟩,hokA,hdN,hQ⟩:=hq1;obtain⟨L,hm,hN,hdf,ht⟩:=hs1;refine wpList_step (λK hK=>?_);rw[lq hg,IR rfl];obtain⟨vs,us,hfv,hv1,hv2⟩:=jv (dx ht f) hce;have hvs:=hv1.nil_inv;have hus:=hv2.nil_inv;subst hvs;subst hus
 have htl:∀b,jR (gM st1.h) L b->∀o,af C L st1.h b o:=by
  intro b hb o;obtain⟨k,blk,h1,h2,h3,rfl⟩:=hb;obtain⟨i1,b0,g1,g2,g3⟩:=jx h1;by_cases e:k=290
  .rw[g2 e]at h3;exact .inr ⟨k,b0,g1,jS.1 h3,rfl,hi.nf k b0 o i1 g1⟩
  .rw[g3 e]at h3;exact .inr ⟨k,b0,g1,h3,rfl,hi.nf k b0 o i1 g1⟩
 have hMeq:vT (λb o=>af C L st1.h b o∧¬jR (gM st1.h) L b) L (gM st1.h)=af C L st1.h:=by
  funext b o
  refine propext ⟨?_,λh9=>?_⟩
  .rintro(h9|⟨k,blk,h1,h2,h3,h4⟩)
   .exact h9.1
   .obtain⟨i1,b0,g1,g2,g3⟩:=jx h1
    by_cases e:k=290
    .rw[g2 e]at h2;exact .inr ⟨k,b0,g1,jS.1 h2,h3,hi.nf k b0 o i1 g1⟩
    .rw[g3 e]at h2;exact .inr ⟨k,b0,g1,h2,h3,hi.nf k b0 o i1 g1⟩
  .by_cases h8:jR (gM st1.h) L b
   .obtain⟨k,blk,h1,h2,h3,h4⟩:=h8
    refine .inr ⟨k,blk,h1,h3,h4.symm,?_⟩;obtain⟨i1,b0,g1,g2,g3⟩:=jx h1;by_cases e:k=290
    .rw[g2 e];exact λh7=>hi.nf k b0 o i1 g1 (BD.1 h7)
    .rw[g3 e];exact hi.nf k b0 o i1 g1
   .exact .inl ⟨h9,h8⟩
 have hkin:∀k blk,inK k=true->st1.h k=some blk->∃blk',gM st1.h k=some blk'∧eF blk (L k) blk' (L k):=by
  intro k blk hik h1;refine⟨_,xv hik h1,?_⟩;split
  .exact wo (dq _ _)
  .exact dq _ _
 have hin:TrIn w1 (λb o=>af C L st1.h b o∧¬jR (gM st1.h) L b) L (gM st1.h):=by
  refine⟨?_,?_,?_,?_⟩
  .intro k blk hk
   rw[hMeq];obtain⟨i1,b0,g1,g2,g3⟩:=jx hk;have hb:=(hm.bl k b0 g1).inK (Pres.refl _ _) hkin (λcs o f e=>hi.cl k cs o f i1 (by rw[g1,e])) (λ_=>rfl);by_cases e:k=290
   .rw[g2 e];cases b0<;>exact hb
   .rw[g3 e];exact hb
  .intro k k' b1 b2 hne h1 h2 hl hl'
   obtain⟨i1,c1,g1,g2,g3⟩:=jx h1;obtain⟨i2,c2,e1,e2,e3⟩:=jx h2;refine hm.sep k k' c1 c2 hne g1 e1 ?_ ?_
   .by_cases e:k=290
    .rw[g2 e]at hl;exact jS.1 hl
    .rw[g3 e]at hl;exact hl
   .by_cases e:k'=290
    .rw[e2 e]at hl';exact jS.1 hl'
    .rw[e3 e]at hl';exact hl'
  .exact λk blk h1 h2 h3 o h9=>h9.2 ⟨k,blk,h1,h2,h3,rfl⟩
  .intro k cs f hk o
   obtain⟨i1,b0,g1,g2,g3⟩:=jx hk
   have hl0:b0.live (L k):=by
    by_cases e:k=290
    .have h8:=g2 e
     cases b0 with
     |box=>exact trivial
     |row=>cases h8
     |mp=>exact trivial
    .rw[<-g3 e];exact trivial
   refine⟨.inr ⟨k,b0,g1,hl0,rfl,hi.nf k b0 o i1 g1⟩,?_⟩;rintro⟨k',blk',h1,h2,h3,h4⟩;obtain⟨i2,c2,e1,e2,e3⟩:=jx h1
   have hne:k≠k':=by
    intro e;rw[<-e,hk]at h1;injection h1 with h1;rw[<-h1]at h2;cases h2
   refine hm.sep k k' b0 c2 hne g1 e1 hl0 ?_ h4;by_cases e:k'=290
   .rw[e2 e]at h3;exact jS.1 h3
   .rw[e3 e]at h3;exact h3
 have hrepA:aK w1 (vT (λb o=>af C L st1.h b o∧¬jR (gM st1.h) L b) L (gM st1.h)) L (gM st1.h) (xs.map st1.ev) (xs.map a1.eval):=by
  rw[hMeq];refine⟨by simp,λi p u hp hu=>?_⟩;have hok:=Ij.1 hokA p (HW hp);simp only[Is,Ii]at hp hu;obtain⟨x,hx,rfl⟩:=hp;obtain⟨y,hy,rfl⟩:=hu;rw[hx]at hy;injection hy with hy;subst hy;exact tU (Pres.refl _ _) hkin hok (dx ht x)
 have hcalls:=hD w1 _ L (xs.map a1.eval) (λb o h9=>hm.mlt h9.1) hin hrepA
 have hrun:(execOp a1.eval o).run C.P w1=.ok (.enter g (xs.map a1.eval).toArray) w1:=by
  unfold dw at hcall
  cases hfn:C.P.funcs[g]? with
  |none=>rw[hfn]at hcall;cases hcall
  |some fn=>
   rw[hfn]at hcall;simp only[An,Mp,Om,ne_eq]at hcall
   have hb:fn.body.isNone=false:=by cases hbb:fn.body<;>simp_all
   unfold execOp;rw[hop];simp only[resolve,hfv,Deferred.ofValue,pure_bind,Sem.run_bind,Result.andThen_ok,invoke,callFunc,program,Sem.run,hfn];simp[hcall.2,hb]
 unfold Oper.wp;rw[hrun];simp only[Oper.upon];refine hcalls.mono ?_;rintro ee w' ⟨v,r,L',h',rfl,hx,hlk,htr,hr,hokr,hpost,hp1,hp2,hnew⟩;obtain⟨L2,hL2,hm2,hkill,hback⟩:=hm.takeStep hi hx hlk htr hp1 hp2 hnew;refine hK _ _ ?_;obtain⟨st9,hs9,hq9⟩:=hKs _ _ _ (gP.put hm2 hN hdf (λn=>hkill (ht n)) hdN (aP.refl hm2) (hback hokr hr)) (hQ r h' hlk hokr hpost);exact jp (λst' a' w' hs' hq'=>⟨st',hs',hq'⟩) hs9 hq9
theorem WP.take(hops:ops.toList=pre++o::post)(hop:o.op=.call {callee:=.value f,args:=xs.toArray,argTypes:=ats})(hg:o.guard=none)
 (hq:dX C.P hn C.N ops (uF C (dX C.P hn C.N ops (Q .normal) post) f xs o.dst) pre st):WP C (.region id ops false) Q st:=WP.takeG (λst _ _ hs hk=>⟨st,hs,hk⟩) hops hop hg hq
end
attribute [simp] nK iV uE jw oa
def rk(d k' q:Nat):Nat:=if q=d then k' else q
def jy(d k':Nat):XV->XV
 |.barr k n c=>.barr (rk d k' k) n c
 |.mp k=>.mp (rk d k' k)
 |.suf k o n t=>.suf (rk d k' k) o n t
def bt(d k':Nat):AV->AV
 |.pv p=>.pv p
 |.ptr k o=>.ptr (rk d k' k) o
 |.arr k n=>.arr (rk d k' k) n
 |.eptr k n i o=>.eptr (rk d k' k) n i o
 |.ext x=>.ext (jy d k' x)
 |_=>.undef
def bX(d k':Nat):AV->AV
 |.agg cs=>.agg (cs.map (bt d k'))
 |.fn f a b=>.fn f (a.map (bt d k')) (b.map (bt d k'))
 |.tup cs=>.tup (cs.map (bt d k'))
 |x=>bt d k' x
def dp(d k':Nat):Blk->Blk
 |.box cs o f=>.box (cs.map (bX d k')) o f
 |b=>b
def bN(d k':Nat)(h:Hp):Hp:=λq=>if q=k' then(h d).map (dp d k')else if q=d then none else(h q).map (dp d k')
theorem uG:(dp d k' b).live l↔b.live l:=by cases b<;>exact Pp
theorem Hl{o:Nat}:(dp d k' b).frz o↔b.frz o:=by cases b<;>exact Pp
theorem CK(d k':Nat)(b:Blk)(l:Loc):eF b l (dp d k' b) l:=by
 cases b with
 |box=>exact rfl
 |row=>exact⟨rfl,rfl,IX _,λ_=>rfl⟩
 |mp=>exact⟨rfl,rfl,rfl⟩
theorem EH{w:World}{L L2:Nat->Loc}{h2:Hp}(hp:Pres w M w M')(hk:∀k blk,h k=some blk->∃blk',h2 (rk d k' k)=some blk'∧eF blk (L k) blk' (L2 (rk d k' k)))(hx:RepA w M L h x u):RepA w M' L2 h2 (bX d k' x) u:=by
 have one:∀{x:AV}{u:Value},RepA w M L h x u->RepA w M' L2 h2 (bt d k' x) u:=by
  intro x u hx
  cases hx with
  |pv hr=>exact .pv (hr.mono hp)
  |@ptr k off cs own fz hb=>
   obtain⟨blk',h1,h2⟩:=hk k _ hb
   cases blk' with
   |row=>exact h2.elim
   |mp=>exact h2.elim
   |box cs' own' fz'=>have h2:(L2 (rk d k' k)).b=(L k).b:=h2;rw[<-h2];exact .ptr h1
  |@arr k n e sz fz xs u hb hn hu=>
   obtain⟨blk',h1,h2⟩:=hk k _ hb
   cases blk' with
   |box=>exact h2.elim
   |mp=>exact h2.elim
   |row e' sz' xs' fz'=>
    obtain⟨_,e1,e2,e3⟩:=h2;refine .arr h1 (by omega) (λe=>?_)
    have:xs'.length=xs.length:=by omega
    rw[e3 this];exact hu (by omega)
  |@eptr k n i off e sz fz xs u hb hn hu=>
   obtain⟨blk',h1,h2⟩:=hk k _ hb
   cases blk' with
   |box=>exact h2.elim
   |mp=>exact h2.elim
   |row e' sz' xs' fz'=>
    obtain⟨_,e1,e2,e3⟩:=h2;refine .eptr h1 (by omega) (λe=>?_)
    have:xs'.length=xs.length:=by omega
    rw[e3 this,e1];exact hu (by omega)
  |ext hx'=>
   cases hx' with
   |@barr k n c cs own fz hc hb=>
    obtain⟨blk',h1,h2⟩:=hk k _ hb
    cases blk' with
    |row=>exact h2.elim
    |mp=>exact h2.elim
    |box cs' own' fz'=>have h2:(L2 (rk d k' k)).b=(L k).b:=h2;rw[<-h2];exact .ext (.barr hc h1)
   |@mp k n kd es fz hb=>
    obtain⟨blk',h1,h2⟩:=hk k _ hb
    cases blk' with
    |row=>exact h2.elim
    |box=>exact h2.elim
    |mp kd' n' es' fz'=>have h2:kd'=kd∧n'=n∧(L2 (rk d k' k)).b=(L k).b:=h2;rw[<-h2.2.2];exact .ext (.mp h1)
   |@suf k o n t e sz fz xs u hs0 hb hn ht hu=>
    obtain⟨blk',h1,h2⟩:=hk k _ hb
    cases blk' with
    |box=>exact h2.elim
    |mp=>exact h2.elim
    |row e' sz' xs' fz'=>
     obtain⟨_,e1,e2,e3⟩:=h2;refine .ext (.suf hs0 h1 hn (by omega) (λe=>?_))
     have:xs'.length=xs.length:=by omega
     rw[e3 this,e1];exact hu (by omega)
  |undef=>exact .undef _
  |agg=>exact .undef _
  |fn=>exact .undef _
  |tup=>exact .undef _
 cases hx with
 |agg cs vs hl hh=>
  refine .agg _ vs (by simpa using hl) λi p u hp hu=>?_;simp only[Is,Ii]at hp;obtain⟨q,hq,rfl⟩:=hp;exact one (hh i q u hq hu)
 |fn f first caps vs us hl hk' h1 h2=>
  refine .fn f _ _ vs us (by simpa using hl) (by simpa using hk') (λi p u hp hu=>?_) (λi p u hp hu=>?_)
  .simp only[Is,Ii]at hp
   obtain⟨q,hq,rfl⟩:=hp;exact one (h1 i q u hq hu)
  .simp only[Is,Ii]at hp
   obtain⟨q,hq,rfl⟩:=hp;exact one (h2 i q u hq hu)
 |tup cs vs hl hh=>
  refine .tup _ vs (by simpa using hl) λi p u hp hu=>?_;simp only[Is,Ii]at hp;obtain⟨q,hq,rfl⟩:=hp;exact one (hh i q u hq hu)
 |pv hr=>exact one (.pv hr)
 |ptr hb=>exact one (.ptr hb)
 |arr hb hn hu=>exact one (.arr hb hn hu)
 |eptr hb hn hu=>exact one (.eptr hb hn hu)
 |ext hx'=>exact one (.ext hx')
 |undef=>exact .undef _
theorem WP.ren(d k':Nat)(hne:d≠k')(hk':st.h k'=none)(hlt:k'<2000000)(hd2:∀cs f,st.h d≠some (.box cs false f))
 (h:WP C c Q ⟨λn=>bX d k' (st.t n),bN d k' st.h⟩):WP C c Q st:=by
 intro a w hs;obtain⟨L,hm,hN,hdf,htm⟩:=hs
 let L2:Nat->Loc:=λq=>if q=k' then L d else L q
 have hLr:∀{k blk},st.h k=some blk->L2 (rk d k' k)=L k:=by
  intro k blk hk;unfold rk;split
  .rename_i e;subst e;exact IR rfl
  .rename_i e
   have:k≠k':=by intro e2;rw[e2,hk']at hk;cases hk
   exact Ik this
 have get:∀{q b},bN d k' st.h q=some b->∃q0 b0,q=rk d k' q0∧st.h q0=some b0∧b=dp d k' b0:=by
  intro q b hq;unfold bN at hq;split at hq
  .rename_i e
   simp only[Ii]at hq;obtain⟨b0,h1,rfl⟩:=hq;exact⟨d,b0,by simp[rk,e],h1,rfl⟩
  .split at hq
   .cases hq
   .rename_i e1 e2
    simp only[Ii]at hq;obtain⟨b0,h1,rfl⟩:=hq;exact⟨q,b0,by simp[rk,e2],h1,rfl⟩
 have put:∀{k blk},st.h k=some blk->bN d k' st.h (rk d k' k)=some (dp d k' blk):=by
  intro k blk hk;unfold rk;split
  .rename_i e;subst e;simp[bN,hk]
  .rename_i e
   have:k≠k':=by intro e2;rw[e2,hk']at hk;cases hk
   simp[bN,this,e,hk]
 have inj:∀{k k2 b b2},st.h k=some b->st.h k2=some b2->rk d k' k=rk d k' k2->k=k2:=by
  intro k k2 b b2 h1 h2 e
  have n1:k≠k':=by intro e2;rw[e2,hk']at h1;cases h1
  have n2:k2≠k':=by intro e2;rw[e2,hk']at h2;cases h2
  unfold rk at e;split at e<;>split at e
  .rename_i e1 e2;rw[e1,e2]
  .exact absurd e.symm n2
  .exact absurd e n1
  .exact e
 have hM:∀b o,af C L2 (bN d k' st.h) b o->af C L st.h b o:=by
  rintro b o (h0|⟨q,b1,hq,hl,hb,hf⟩)
  .exact .inl h0
  .obtain⟨q0,b0,rfl,h1,rfl⟩:=get hq
   rw[hLr h1]at hl hb;exact .inr ⟨q0,b0,h1,uG.1 hl,hb,λh9=>hf (Hl.2 h9)⟩
 have hp:Pres w (af C L st.h) w (af C L2 (bN d k' st.h)):=Pres.sub hM;have hkk:∀k blk,st.h k=some blk->∃blk',bN d k' st.h (rk d k' k)=some blk'∧eF blk (L k) blk' (L2 (rk d k' k)):=λk blk hk=>⟨_,put hk,by rw[hLr hk];exact CK _ _ _ _⟩;have hrep:∀{x u},RepA w (af C L st.h) L st.h x u->RepA w (af C L2 (bN d k' st.h)) L2 (bN d k' st.h) (bX d k' x) u:=λhx=>EH hp hkk hx;refine h a w ⟨L2,⟨hm.ext,hm.m0,?_,?_,?_⟩,hN,hdf,λn=>hrep (htm n)⟩
 .intro q b hq
  obtain⟨q0,b0,rfl,h1,rfl⟩:=get hq;rw[hLr h1];have hb:=hm.bl q0 b0 h1
  cases b0 with
  |box cs own fz=>
   obtain⟨arr,ty,e,hl,hr⟩:=hb;refine⟨arr,ty,e,by simpa using hl,λi p u hp' hu=>?_⟩;simp only[Is,Ii]at hp';obtain⟨z,hz,rfl⟩:=hp';exact hrep (hr i z u hz hu)
  |row e sz xs fz=>
   obtain⟨a1,a2,a3,a4,a5⟩:=hb;refine⟨a1,a2,a3,a4,λhn=>?_⟩;obtain⟨b1,b2,arr,b3,b4,b5⟩:=a5 hn;exact⟨b1,b2,arr,b3,b4,λi x j p hx hj=>by obtain⟨u,hu,hr⟩:=b5 i x j p hx hj;exact⟨u,hu,hr.mono hp⟩⟩
  |mp kd n es fz=>exact hb
 .intro q q' b1 b2 hqq hq hq' hl hl'
  obtain⟨p1,c1,rfl,d1,rfl⟩:=get hq;obtain⟨p2,c2,rfl,d2,rfl⟩:=get hq';rw[hLr d1]at hl|-;rw[hLr d2]at hl'|-;exact hm.sep p1 p2 c1 c2 (λe=>hqq (by rw[e])) d1 d2 (uG.1 hl) (uG.1 hl')
 .intro q b hq
  obtain⟨q0,b0,rfl,h1,rfl⟩:=get hq;rw[hLr h1];have hown:=hm.own q0 b0 h1;by_cases e:q0=d
  .subst e
   have e1:rk q0 k' q0=k':=by simp[rk]
   rw[e1]
   cases b0 with
   |box cs own fz=>
    cases own with
    |false=>exact absurd h1 (hd2 cs fz)
    |true=>exact hown
   |row e sz xs fz=>
    unfold fC dp;simp only[C.hpr k' hlt];exact λhn=>hown.row hn
   |mp=>exact hown
  .have e1:rk d k' q0=q0:=by simp[rk,e]
   rw[e1]
   cases b0 with
   |box cs own fz=>cases own<;>exact hown
   |row=>exact hown
   |mp=>exact hown
theorem WP.nilRows(K:Nat->Bool)(e kb:Nat){cs cs':List AV}{own fb:Bool}(hb:st.h kb=some (.box cs own fb))(hK:∀q,K q=true->st.h q=none∧q<2000000)
 (hlen:cs'.length=cs.length)(hcs:∀(i:Nat) x,cs'[i]?=some x->cs[i]?=some x∨(cs[i]?=some (.pv (.val (.slice none 0 0)))∧∃q,K q=true∧x=.arr q 0))
 (h:WP C c Q ⟨st.t,λq=>if K q=true then some (.row e 1 [] 0)else if q=kb then some (.box cs' own fb)else st.h q⟩):WP C c Q st:=by
 intro a w hs;obtain⟨L,hm,hN,hdf,htm⟩:=hs
 let L2:Nat->Loc:=λq=>if K q=true then⟨0,0,true⟩else L q
 let h2:Hp:=λq=>if K q=true then some (.row e 1 [] 0)else if q=kb then some (.box cs' own fb)else st.h q
 have hkb:K kb=false:=by
  cases h1:K kb with
  |false=>rfl
  |true=>rw[(hK kb h1).1]at hb;cases hb
 have hL:∀{q b},st.h q=some b->K q=false∧L2 q=L q:=by
  intro q b hq
  have:K q=false:=by
   cases h1:K q with
   |false=>rfl
   |true=>rw[(hK q h1).1]at hq;cases hq
  exact⟨this,by simp[L2,this]⟩
 have get:∀{q b},h2 q=some b->(K q=true∧b=.row e 1 [] 0)∨(K q=false∧q=kb∧b=.box cs' own fb)∨(K q=false∧q≠kb∧st.h q=some b):=by
  intro q b hq;simp only[h2]at hq;split at hq
  .rename_i h1;injection hq with hq;exact .inl ⟨h1,hq.symm⟩
  .rename_i h1
   have h1:K q=false:=by simpa using h1
   split at hq
   .rename_i h3;injection hq with hq;exact .inr (.inl ⟨h1,h3,hq.symm⟩)
   .rename_i h3;exact .inr (.inr ⟨h1,h3,hq⟩)
 have hM:∀b o,af C L2 h2 b o->af C L st.h b o:=by
  rintro b o (h0|⟨q,b1,hq,hl,hbb,hf⟩)
  .exact .inl h0
  .rcases get hq with⟨h1,rfl⟩|⟨h1,rfl,rfl⟩|⟨h1,_,h3⟩
   .simp[L2,h1,Blk.live]at hl
   .rw[(hL hb).2]at hbb
    exact .inr ⟨q,_,hb,trivial,hbb,hf⟩
   .rw[(hL h3).2]at hl hbb
    exact .inr ⟨q,b1,h3,hl,hbb,hf⟩
 have hp:Pres w (af C L st.h) w (af C L2 h2):=Pres.sub hM
 have hkc:KC L st.h L2 h2:=by
  intro q b hq;obtain⟨h1,h3⟩:=hL hq;rw[h3];by_cases e1:q=kb
  .subst e1
   rw[hb]at hq;injection hq with hq;subst hq;exact⟨.box cs' own fb,by simp[h2,h1],rfl⟩
  .exact⟨b,by simp[h2,h1,e1,hq],dq _ _⟩
 refine h a w ⟨L2,⟨hm.ext,hm.m0,?_,?_,?_⟩,hN,hdf,λn=>(htm n).mono hp hkc⟩
 .intro q b hq
  rcases get hq with⟨h1,rfl⟩|⟨h1,rfl,rfl⟩|⟨h1,_,h3⟩
  .refine⟨Nat.one_pos,IX _,(λx hx=>by cases hx),λ_=>rfl,λhn=>?_⟩
   simp[L2,h1]at hn
  .obtain⟨arr,ty,e1,e2,e3⟩:=hm.bl q _ hb
   refine⟨arr,ty,by rw[(hL hb).2];exact e1,by rw[hlen];exact e2,λi p u hp' hu=>?_⟩;rcases hcs i p hp' with h3|⟨h3,q',h4,rfl⟩
   .exact(e3 i p u h3 hu).mono hp hkc
   .have hv:=e3 i _ u h3 hu
    cases hv with
    |pv hr=>
     rw[aY hr];refine .arr (xs:=[]) (e:=e) (sz:=1) (fz:=0) (by simp[h2,h4]) (IX _) (λ_=>?_);simp[L2,h4,Loc.slice]
  .rw[(hL h3).2]
   exact(hm.bl q b h3).mono hp hkc (λ_=>rfl)
 .intro q q' b1 b2 hqq hq hq' hl hl'
  have aux:∀{q b},h2 q=some b->b.live (L2 q)->∃b0,st.h q=some b0∧b0.live (L q)∧L2 q=L q:=by
   intro q b hq hl;rcases get hq with⟨h1,rfl⟩|⟨h1,rfl,rfl⟩|⟨h1,_,h3⟩
   .simp[L2,h1,Blk.live]at hl
   .exact⟨_,hb,trivial,(hL hb).2⟩
   .rw[(hL h3).2]at hl;exact⟨b,h3,hl,(hL h3).2⟩
  obtain⟨c1,d1,f1,g1⟩:=aux hq hl;obtain⟨c2,d2,f2,g2⟩:=aux hq' hl';rw[g1,g2];exact hm.sep q q' c1 c2 hqq d1 d2 f1 f2
 .intro q b hq
  rcases get hq with⟨h1,rfl⟩|⟨h1,rfl,rfl⟩|⟨h1,_,h3⟩
  .refine fC.mkRow (hK q h1).2 (λhn=>?_)
   simp[L2,h1]at hn
  .have:=hm.own q _ hb
   rw[(hL hb).2];cases own<;>exact this
  .rw[(hL h3).2];exact hm.own q b h3
attribute [simp] bX bt jy rk dp bN
end Go.Ab
