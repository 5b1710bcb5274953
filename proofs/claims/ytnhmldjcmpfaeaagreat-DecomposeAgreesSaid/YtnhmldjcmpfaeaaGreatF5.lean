/- The contracts and facts that the laws of this seat need, in one text (Rd, Ab26, Ab29, Ab35, Ab36). -/
import Derived.Test.YtnhmldjcmpfaeaaGreatF4
import Derived.Test.YtnhmldjcmpfaeaaGreatRows
set_option linter.all false
namespace Go.Ab
open Go.Proofs Go.Proofs.YtnhmldjcmpfaeaaGreat
theorem own:ownKnob Tryz.prog.godebug=none:=by kernel_rfl
theorem kids:Kids Tryz.prog (·< Tryz.prog.types.size):=kids_rows (by kernel_rfl) (by kernel_rfl)
theorem full:∀t e,t<Tryz.prog.types.size->Tryz.prog.underlying t=some (.slice e)->0<Tryz.prog.cellsOf e:=slices_full_of Tryz.prog (by kernel_rfl)
section
variable {H:Type}
theorem Jl:ko H Tryz.prog 3 (λi=>.val (.int .i64 i)) (λi=>IntKind.i64.min<=i∧i<=IntKind.i64.max) (λ_=>1):=ze Tryz.underlying3
theorem yJ:ko H Tryz.prog 22 (λl:List Int=>.sl (l.map λi=>.val (.int .i64 i))) (λl=>l.length<=9223372036854775807∧∀a∈l,IntKind.i64.min<=a∧a<=IntKind.i64.max) (λl=>(l.map λ_=>1).sum+1):=kM Tryz.underlying22 Jl
end
end Go.Ab
namespace Go.Ab
variable {C:Cx}{G G':List (Nat×Blk)}{M M':Nat->Nat->Prop}{P:Program}{Post:AV->Hp->Prop}{Q:Exit->St->Prop}{args:List AV}{ats:Array TypeId}{b b' blk:Blk}{c:Code}{d id k k' q:Nat}{f:Operand}{h h0:Hp}{hn ks:List Nat}{l:Loc}{o:Oper}{ops:Array Oper}{post pre:List Oper}{res:PV}{rs:List ResultVar}{st:St}{u:Value}{x:AV}{xs:List Operand}
theorem gt{C:Cx}{hn:List Nat}{ops:Array Oper}{Q:St->Prop}{Q':Exit->Act->World->Prop}{rest:List Oper}(hQ:∀st a w,eO C st a w->Q st->wpList C.P ops Q' rest a w):
 ∀{l:List Oper}{st:St}{a:Act}{w:World},eO C st a w->cU C.P hn C.N ops Q l st->wpList C.P ops Q' (l++rest) a w
 |[],st,a,w,hs,e=>hQ st a w hs e
 |o::l,st,a,w,hs,e=>by
  obtain⟨L,hm,hN,hdf,ht⟩:=hs;rw[cU.eq_2]at e;obtain⟨hd,e⟩:=e;rw[List.cons_append];refine wpList_step (λK hK=>?_);split at e
  .rename_i hg
   rw[dB ht (mU hg),if_pos rfl];exact um hm hN hdf ht hd e (λeff a' w' hk hsim=>hK _ _ (gt hQ hsim hk))
  .rename_i d b want hg
   rw[dB ht (kJ hg)];unfold uJ at e;simp only at e;split at e
   .rename_i hgt
    subst hgt;rw[if_pos (by simp)];exact um hm hN hdf ht hd e (λeff a' w' hk hsim=>hK _ _ (gt hQ hsim hk))
   .rename_i hgt
    rw[if_neg (by simpa using hgt)];exact hK _ _ (gt hQ (eO.put hm hN hdf ht hd (W:=[]) (aG.refl hm) (.pv (.val _))) e)
  .exact e.elim
theorem nW{w w':World}{L:Nat->Loc}(hp:Pres w M w' M')(hx:RepA w M L h x u):
 RepA w' M' L (λk=>if ks.contains k=true then none else(h k).map (bm ks)) (aq ks x) u:=
 (y6 hx).mono hp Ce
def rekey(h:Hp)(ks:List Nat)(k:Nat)(blk:Blk):Hp:=λq=>if q=k then some blk else if ks.contains q=true then none else(h q).map (bm ks)
def St.rekey(st:St)(ks:List Nat)(k:Nat)(blk:Blk):St:=⟨λn=>aq ks (st.t n),Go.Ab.rekey st.h ks k blk⟩
theorem pM(hq:rekey h ks k blk q=some b):(q=k∧b=blk)∨(q≠k∧q∉ks∧∃b0,h q=some b0∧b=bm ks b0):=by
 unfold rekey at hq;split at hq
 .rename_i e;injection hq with hq;exact .inl ⟨e,hq.symm⟩
 .rename_i e
  split at hq
  .cases hq
  .rename_i hc
   simp only[Option.map_eq_some_iff]at hq;obtain⟨b0,h1,h2⟩:=hq;exact .inr ⟨e,by simpa using hc,b0,h1,h2.symm⟩
theorem rv(b:Blk)(l:Loc):(bm ks b).live l=b.live l:=by cases b<;>rfl
theorem yN(b:Blk)(o:Nat):(bm ks b).frz o=b.frz o:=by cases b<;>rfl
theorem yP(h:dT C k l b):dT C k l (bm ks b):=by
 cases b with
 |box cs own fz=>cases own<;>exact h
 |row=>exact h
 |mp=>exact h
section
variable {C:Cx} {L:Nat->Loc} {h:Hp} {w:World}
theorem MemL.retake(hm:MemL C L h w){e sz m:Nat}{xs:List PV}(hk:h k=some (.row e sz xs 0)):
 MemL C L (rekey h [k] k (.row e sz (xs.take m) 0)) w∧∀x u,RepA w (ag C L h) L h x u->RepA w (ag C L (rekey h [k] k (.row e sz (xs.take m) 0))) L (rekey h [k] k (.row e sz (xs.take m) 0)) (aq [k] x) u:=by
 have hM:∀b o,ag C L (rekey h [k] k (.row e sz (xs.take m) 0)) b o->ag C L h b o:=by
  rintro b o (h0|⟨q,blk,hq,hl,hb,hf⟩)
  .exact .inl h0
  .rcases pM hq with⟨rfl,rfl⟩|⟨_,_,b0,h1,rfl⟩
   .exact .inr ⟨q,_,hk,hl,hb,hf⟩
   .rw[rv]at hl;rw[yN]at hf
    exact .inr ⟨q,b0,h1,hl,hb,hf⟩
 have hp:=Pres.sub (w:=w) hM
 have hkc:KC L (λq=>if[k].contains q=true then none else(h q).map (bm [k])) L (rekey h [k] k (.row e sz (xs.take m) 0)):=by
  intro q blk hq;simp only at hq;split at hq
  .cases hq
  .rename_i hc
   have hne:q≠k:=by simpa using hc
   refine⟨blk,?_,bW _ _⟩;simp only[rekey,if_neg hne,if_neg hc];exact hq
 have hrep:∀x u,RepA w (ag C L h) L h x u->RepA w (ag C L (rekey h [k] k (.row e sz (xs.take m) 0))) L (rekey h [k] k (.row e sz (xs.take m) 0)) (aq [k] x) u:=
  λx u hx=>(nW (ks:=[k]) hp hx).mono (Pres.refl _ _) hkc
 refine⟨⟨hm.ext,hm.m0,?_,?_,?_⟩,hrep⟩
 .intro q blk hq
  rcases pM hq with⟨rfl,rfl⟩|⟨_,_,b0,h1,rfl⟩
  .obtain⟨g1,g2,g3,g4,g5⟩:=hm.bl q _ hk
   refine⟨g1,Nat.zero_le _,λx hx=>g3 x (List.mem_of_mem_take hx),λhn=>by rw[g4 hn];simp,λhn=>?_⟩;obtain⟨a1,a2,arr,a3,a4,a5⟩:=g5 hn;refine⟨by rw[List.length_take];omega,a2,arr,a3,a4,λi x j p hx hj=>?_⟩;rw[List.getElem?_take]at hx;split at hx
   .obtain⟨u,hu,hr⟩:=a5 i x j p hx hj
    exact⟨u,hu,hr.mono hp⟩
   .cases hx
  .have:=hm.bl q b0 h1
   cases b0 with
   |box cs own fz=>
    obtain⟨arr,ty,e1,e2⟩:=this;refine⟨arr,ty,e1,by simpa using e2.1,λi p u hp' hu=>?_⟩;simp only[List.getElem?_map,Option.map_eq_some_iff]at hp';obtain⟨y,hy,rfl⟩:=hp';exact hrep _ _ (e2.2 i y u hy hu)
   |row e' sz' ys fz=>
    obtain⟨a1,a2,a3,a4,a5⟩:=this;refine⟨a1,a2,a3,a4,λhn=>?_⟩;obtain⟨b1,b2,arr,b3,b4,b5⟩:=a5 hn;exact⟨b1,b2,arr,b3,b4,λi x j p hx hj=>by obtain⟨u,hu,hr⟩:=b5 i x j p hx hj;exact⟨u,hu,hr.mono hp⟩⟩
   |mp kd n es fz=>exact this
 .intro q q' b1 b2 hne hq hq' hl hl'
  have aux:∀{q b},rekey h [k] k (.row e sz (xs.take m) 0) q=some b->b.live (L q)->∃b0,h q=some b0∧b0.live (L q):=by
   intro q b hq hl;rcases pM hq with⟨rfl,rfl⟩|⟨_,_,b0,h1,rfl⟩
   .exact⟨_,hk,hl⟩
   .rw[rv]at hl;exact⟨b0,h1,hl⟩
  obtain⟨c1,d1,f1⟩:=aux hq hl;obtain⟨c2,d2,f2⟩:=aux hq' hl';exact hm.sep q q' c1 c2 hne d1 d2 f1 f2
 .intro q blk hq
  rcases pM hq with⟨rfl,rfl⟩|⟨_,_,b0,h1,rfl⟩
  .have h9:=hm.own q _ hk;exact h9
  .exact yP (hm.own q b0 h1)
end
section
variable {C:Cx} {Q:Exit->St->Prop} {st:St}
theorem fO{a:Act}(hg:o.guard=none):Region.wanted o (yielded ops a.tmps)=true:=by
 unfold Region.wanted;rw[hg]
end
attribute [simp] St.rekey rekey
def ke(ren:Nat->Nat):AV->AV
 |.ptr k off=>.ptr (ren k) off
 |.arr k n=>.arr (ren k) n
 |x=>x
def xV(ren:Nat->Nat):AV->AV
 |.agg cs=>.agg (cs.map (ke ren))
 |x=>ke ren x
def k8(K:List Nat):AV->Bool
 |.pv _=>true
 |.ptr k _=>K.contains k
 |.arr k _=>K.contains k
 |_=>false
def B6(K:List Nat):AV->Bool
 |.agg cs=>cs.all (k8 K)
 |x=>k8 K x
def bt:List (Nat×Blk)->Hp
 |[]=>λ_=>none
 |(k,b)::r=>λq=>if q=k then some b else bt r q
def gP(ren:Nat->Nat)(own:Bool):Blk->Blk
 |.box cs _ _=>.box (cs.map (ke ren)) own false
 |b=>b
def iM(K:List Nat)(k:Nat):Blk->Bool
 |.box cs own fz=>cs.all (k8 K)&& !own&& !fz&&decide (1000000<=k)&&decide (k<2000000)
 |.row _ _ _ fz=>decide (fz=0)&&decide (2000000<=k)
 |.mp _ _ _ _=>false
def rx:Blk->Blk->Bool
 |.box _ _ _,.box _ _ _=>true
 |.row e sz xs _,.row e' sz' xs' _=>e==e'&&sz==sz'&&xs.length==xs'.length
 |_,_=>false
theorem ed(h:bt G k=some b):(k,b)∈G:=by
 induction G with
 |nil=>cases h
 |cons x r ih=>
  obtain⟨k',b'⟩:=x;simp only[bt]at h;split at h
  .rename_i e;injection h with h;subst e;subst h;exact List.mem_cons_self
  .exact List.mem_cons_of_mem _ (ih h)
theorem jK(hn:(G.map (·.1)).Nodup)(h:(k,b)∈G):bt G k=some b:=by
 induction G with
 |nil=>cases h
 |cons x r ih=>
  obtain⟨k',b'⟩:=x;simp only[bt];rw[List.map_cons,List.nodup_cons]at hn;rcases List.mem_cons.1 h with e|e
  .injection e with e1 e2;subst e1;subst e2;rw[if_pos rfl]
  .have hne:k≠k':=by
    rintro rfl;exact hn.1 (List.mem_map.2 ⟨(k,b),e,rfl⟩)
   rw[if_neg hne];exact ih hn.2 e
section
variable {w:World} {M M':Nat->Nat->Prop} {L L':Nat->Loc} {h h':Hp} {ren:Nat->Nat} {K:List Nat}
theorem pN(hM:∀b o,M' b o->M b o)(hk:∀k∈K,∀blk,h (ren k)=some blk->∃blk',h' k=some blk'∧dg blk (L (ren k)) blk' (L' k))(ho:k8 K x=true)(hx:RepA w M L h (ke ren x) u):RepA w M' L' h' x u:=by
 cases x with
 |pv p=>cases hx with
  |pv hr=>exact .pv (hr.mono (Pres.sub hM))
 |ptr k off=>
  cases hx with
  |ptr hb=>
   obtain⟨blk',h1,h2⟩:=hk k (by simpa[k8]using ho) _ hb
   cases blk' with
   |row=>exact h2.elim
   |mp=>exact h2.elim
   |box cs own fz=>
    have h2:(L' k).b=(L (ren k)).b:=h2;rw[<-h2];exact .ptr h1
 |arr k n=>
  cases hx with
  |arr hb hn hu=>
   obtain⟨blk',h1,h2⟩:=hk k (by simpa[k8]using ho) _ hb
   cases blk' with
   |box=>exact h2.elim
   |mp=>exact h2.elim
   |row e sz xs fz=>
    obtain⟨_,_,a2,a3⟩:=h2;refine .arr h1 (by omega) (λe=>?_);have:xs.length=_:=Nat.le_antisymm (by omega) a2;rw[a3 this];exact hu (by omega)
 |_=>cases ho
theorem Fb(hM:∀b o,M' b o->M b o)(hk:∀k∈K,∀blk,h (ren k)=some blk->∃blk',h' k=some blk'∧dg blk (L (ren k)) blk' (L' k))(ho:B6 K x=true)(hx:RepA w M L h (xV ren x) u):RepA w M' L' h' x u:=by
 cases x with
 |agg cs=>
  cases hx with
  |agg _ vs hl hh=>
   refine .agg cs vs (by simpa using hl) (λi p u hp hu=>?_);exact pN hM hk (List.all_eq_true.1 ho p (List.mem_of_getElem? hp)) (hh i _ u (by simp[hp]) hu)
 |_=>exact pN hM hk ho hx
theorem CR(hM:∀b o,M' b o->M b o)(hk:∀k∈K,∀blk,h' k=some blk->∃blk',h (ren k)=some blk'∧dg blk (L' k) blk' (L (ren k)))(ho:k8 K x=true)(hx:RepA w M L' h' x u):RepA w M' L h (ke ren x) u:=by
 cases x with
 |pv p=>cases hx with
  |pv hr=>exact .pv (hr.mono (Pres.sub hM))
 |ptr k off=>
  cases hx with
  |ptr hb=>
   obtain⟨blk',h1,h2⟩:=hk k (by simpa[k8]using ho) _ hb
   cases blk' with
   |row=>exact h2.elim
   |mp=>exact h2.elim
   |box cs own fz=>
    have h2:(L (ren k)).b=(L' k).b:=h2;rw[<-h2];exact .ptr h1
 |arr k n=>
  cases hx with
  |arr hb hn hu=>
   obtain⟨blk',h1,h2⟩:=hk k (by simpa[k8]using ho) _ hb
   cases blk' with
   |box=>exact h2.elim
   |mp=>exact h2.elim
   |row e sz xs fz=>
    obtain⟨_,_,a2,a3⟩:=h2;refine .arr h1 (by omega) (λe=>?_);have:xs.length=_:=Nat.le_antisymm (by omega) a2;rw[a3 this];exact hu (by omega)
 |_=>cases ho
end
def zJ(G:List (Nat×Blk))(L:Nat->Loc)(b:Nat):Prop:=∃k blk,bt G k=some blk∧blk.live (L k)∧b=(L k).b
structure OkG(G G':List (Nat×Blk)):Prop where
 keys:G'.map (·.1)=G.map (·.1)
 nodup:(G.map (·.1)).Nodup
 okin:∀k b,(k,b)∈G->iM (G.map (·.1)) k b=true
 okout:∀k b,(k,b)∈G'->iM (G.map (·.1)) k b=true
 same:∀k b b',bt G k=some b->bt G' k=some b'->rx b b'=true
def CS(P:Program)(f:FuncId)(args:List AV)(G G':List (Nat×Blk))(res:PV):Prop:=
 bZ P f=true∧OkG G G'∧∀(w:World)(M:Nat->Nat->Prop)(L:Nat->Loc)(vs:List Value),(∀b o,M b o->b<w.heap.size)->
  (∀k blk,bt G k=some blk->blk.live (L k)->∀o,M (L k).b o)->
  (∀k k' blk blk',k≠k'->bt G k=some blk->bt G k'=some blk'->blk.live (L k)->blk'.live (L k')->(L k).b≠(L k').b)->
  (∀k blk,bt G k=some blk->db w M L (bt G) (L k) blk)->aB w M L (bt G) args vs->
  Calls P f vs.toArray w λe w'=>∃v,e=.returned v∧Ext (zJ G L) w w'∧(∀k blk,bt G' k=some blk->db w' M L (bt G') (L k) blk)∧Rep w' M res v
def Gu(args:List AV)(G:List (Nat×Blk)):St:=⟨λn=>(args[n]?).getD .undef,bt G⟩
def zZ(P:Program)(rs:List ResultVar)(G':List (Nat×Blk))(res:PV)(st:St):Prop:=
 oD res=true∧(∃r,kK P st rs=some r∧∃W,frz st.h r=some (res,W))∧∀kb∈G',st.h kb.1=some kb.2
def Fc(P:Program)(rs:List ResultVar)(G':List (Nat×Blk))(res:PV):Exit->St->Prop
 |.normal,st=>zZ P rs G' res st
 |.ret,st=>zZ P rs G' res st
 |_,_=>False
@[simp] theorem JE:Fc P rs G' res .normal st=zZ P rs G' res st:=rfl
@[simp] theorem KH:Fc P rs G' res .ret st=zZ P rs G' res st:=rfl
theorem B7{f:FuncId}{fn:Func}(hf:P.funcs[f]?=some fn)(hb:fn.body=some c)(hcall:bZ P f=true)(hlen:args.length<=fn.ntmps)(hok:OkG G G')
 (h:∀C:Cx,C.P=P->C.N=fn.ntmps->WP C c (Fc P fn.results.toList G' res) (Gu args G)):CS P f args G G' res:=by
 refine⟨hcall,hok,λw M L vs hM hlv hsep hbl hvs=>?_⟩;have okin:∀{k blk},bt G k=some blk->iM (G.map (·.1)) k blk=true:=λhk=>hok.okin _ _ (ed hk);have okout:∀{k blk},bt G' k=some blk->iM (G.map (·.1)) k blk=true:=λhk=>hok.okout _ _ (ed hk)
 have hnd':(G'.map (·.1)).Nodup:=by rw[hok.keys];exact hok.nodup
 have hinout:∀{k blk},bt G k=some blk->∃blk',bt G' k=some blk':=by
  intro k blk hk
  have hm:k∈G'.map (·.1):=by rw[hok.keys];exact List.mem_map.2 ⟨_,ed hk,rfl⟩
  obtain⟨⟨k',b'⟩,h1,h2⟩:=List.mem_map.1 hm;simp only at h2;subst h2;exact⟨b',jK hnd' h1⟩
 have houtin:∀{k blk},bt G' k=some blk->∃blk',bt G k=some blk':=by
  intro k blk hk
  have hm:k∈G.map (·.1):=by rw[<-hok.keys];exact List.mem_map.2 ⟨_,ed hk,rfl⟩
  obtain⟨⟨k',b'⟩,h1,h2⟩:=List.mem_map.1 hm;simp only at h2;subst h2;exact⟨b',jK hok.nodup h1⟩
 let rowB:Nat->Prop:=λb=>∃k e sz xs fz,bt G k=some (.row e sz xs fz)∧(L k).isNil=false∧b=(L k).b
 let C:Cx:={P:=P,N:=fn.ntmps,M0:=λb o=>M b o∧¬rowB b,S:=zJ G L,pb:=λk=>some (L k).b,pr:=λk=>if 2000000<=k then some (L k)else none,hpr:=(λk hk=>by rw[if_neg (by omega)]),w0:=w}
 have hMst:∀b o,ag C L (bt G) b o↔M b o:=by
  intro b o;constructor
  .rintro(h0|⟨k,blk,hk,hl,hbb,_⟩)
   .exact h0.1
   .rw[<-hbb];exact hlv k blk hk hl o
  .intro hm
   by_cases hr:rowB b
   .obtain⟨k,e,sz,xs,fz,hk,hn,rfl⟩:=hr
    refine .inr ⟨k,_,hk,hn,rfl,?_⟩;have:=okin hk;simp only[iM,Bool.and_eq_true,decide_eq_true_eq]at this;rw[this.1];simp[Blk.frz]
   .exact .inl ⟨hm,hr⟩
 have hMeq:ag C L (bt G)=M:=by funext b o;exact propext (hMst b o)
 have hvl:=hvs.1
 have hsim:eO C (Gu args G) {tmps:=vs.toArray++Array.replicate (fn.ntmps-vs.toArray.size) undef,defers:=[]} w:=by
  refine⟨L,⟨Ext.refl _ _,λb o h0=>hM b o h0.1,?_,hsep,?_⟩,by show(vs.toArray++Array.replicate (fn.ntmps-vs.toArray.size) undef).size=fn.ntmps;simp;omega,iO.nil _,λn=>?_⟩
  .intro k blk hk
   show db w (ag C L (bt G)) L (bt G) (L k) blk;rw[hMeq];exact hbl k blk hk
  .intro k blk hk
   have ho:=okin hk
   cases blk with
   |mp=>cases ho
   |box cs own fz=>
    simp only[iM,Bool.and_eq_true,Bool.not_eq_true',decide_eq_true_eq]at ho;obtain⟨⟨⟨⟨_,h1⟩,h2⟩,h3⟩,h4⟩:=ho;subst h1;subst h2;refine⟨rfl,rfl,⟨k,_,hk,trivial,rfl⟩,?_,λo=>⟨hlv k _ hk trivial o,?_⟩⟩
    .exact(hbl k _ hk).lt trivial
    .rintro⟨k',e,sz,xs,fz,hk',hn',he⟩
     by_cases e':k=k'
     .subst e';rw[show bt G k=_ from hk]at hk';cases hk'
     .exact hsep k k' _ _ e' hk hk' trivial hn' he
   |row e sz xs fz=>
    simp only[iM,Bool.and_eq_true,decide_eq_true_eq]at ho;show dT C k (L k) _;have hpr:C.pr k=some (L k):=if_pos ho.2;unfold dT;simp only;rw[hpr];exact⟨rfl,λhn=>⟨⟨k,_,hk,hn,rfl⟩,λo h9=>h9.2 ⟨k,e,sz,xs,fz,hk,hn,rfl⟩⟩⟩
  .show RepA w (ag C L (bt G)) L (bt G) ((args[n]?).getD .undef) _
   rw[hMeq]
   cases hp:args[n]? with
   |none=>exact .undef _
   |some p=>
    have hlt:n<vs.length:=by rw[<-hvl];exact(List.getElem?_eq_some_iff.1 hp).1
    have hget:(vs.toArray++Array.replicate (fn.ntmps-vs.toArray.size) undef).getD n undef=vs[n]:=by
     rw[Array.getD_eq_getD_getElem?,Array.getElem?_append_left (by simpa using hlt)];simp[hlt]
    simp only[hget];exact hvs.2 n p _ hp (List.getElem?_eq_getElem hlt)
 refine calls_of_wp_defers hf hb (wp_mono (h C rfl rfl _ w hsim) ?_)
 have hfin:∀(a':Act) w' st',eO C st' a' w'->zZ P fn.results.toList G' res st'->iO P a'.defers∧∃v,(results fn a'.tmps).run P w'=.ok v w'∧
  ∃v',Ending.returned v=.returned v'∧Ext (zJ G L) w w'∧(∀k blk,bt G' k=some blk->db w' M L (bt G') (L k) blk)∧Rep w' M res v':=by
  rintro a' w' st' ⟨L',hm,hN,hdf,ht⟩ ⟨hml,⟨r,hr,W,hW⟩,hpb⟩;obtain⟨u,hu1,hu2⟩:=lO (C:=C) hm ht hr;have hpb':∀{k blk},bt G' k=some blk->st'.h k=some blk:=λhk=>hpb _ (ed hk)
  have hLr:∀{k e sz xs fz},bt G' k=some (.row e sz xs fz)->L' k=L k:=by
   intro k e sz xs fz hk;have ho:=okout hk;simp only[iM,Bool.and_eq_true,decide_eq_true_eq]at ho;have how:=hm.own k _ (hpb' hk);have hpr:C.pr k=some (L k):=if_pos ho.2;simp only[dT,hpr]at how;exact how.1
  have hLb:∀{k cs own fz},bt G' k=some (.box cs own fz)->(L' k).b=(L k).b:=by
   intro k cs own fz hk;have ho:=okout hk;simp only[iM,Bool.and_eq_true,Bool.not_eq_true',decide_eq_true_eq]at ho;obtain⟨⟨⟨⟨_,h1⟩,h2⟩,h3⟩,h4⟩:=ho;subst h1;subst h2;have how:=(hm.own k _ (hpb' hk)).2.1;injection how with how;exact how.symm
  have hsub:∀b o,M b o->ag C L' st'.h b o:=by
   intro b o hmo;by_cases hr':rowB b
   .obtain⟨k,e,sz,xs,fz,hk,hn,rfl⟩:=hr'
    obtain⟨blk',hk'⟩:=hinout hk;have hs:=hok.same k _ _ hk hk'
    cases blk' with
    |box=>cases hs
    |mp=>cases hs
    |row e' sz' xs' fz'=>
     have ho:=okout hk';simp only[iM,Bool.and_eq_true,decide_eq_true_eq]at ho;refine .inr ⟨k,_,hpb' hk',?_,?_,?_⟩
     .show(L' k).isNil=false;rw[hLr hk'];exact hn
     .rw[hLr hk']
     .rw[ho.1];simp[Blk.frz]
   .exact .inl ⟨hmo,hr'⟩
  obtain⟨b1,b2,_⟩:=ll hm (bY.refl _) hu2 hW;refine⟨hdf,u,hu1,u,rfl,hm.ext,?_,?_⟩
  .intro k blk hk
   have hbr:=hm.bl k blk (hpb' hk)
   cases blk with
   |mp=>cases okout hk
   |row e sz xs fz=>
    rw[hLr hk]at hbr;obtain⟨g1,g2,g3,g4,g5⟩:=hbr;refine⟨g1,g2,g3,g4,λhn=>?_⟩;obtain⟨a1,a2,arr,a3,a4,a5⟩:=g5 hn;exact⟨a1,a2,arr,a3,a4,λi x j p hx hj=>by obtain⟨u,hu,hr⟩:=a5 i x j p hx hj;exact⟨u,hu,hr.mono (Pres.sub hsub)⟩⟩
   |box cs own fz=>
    obtain⟨arr,ty,e1,e2⟩:=hbr;rw[hLb hk]at e1;refine⟨arr,ty,e1,e2.1,λi p u hp hu=>?_⟩;have ho:=okout hk;simp only[iM,Bool.and_eq_true]at ho;have hop:=List.all_eq_true.1 ho.1.1.1.1 p (List.mem_of_getElem? hp);have hx:=e2.2 i p u hp hu
    have e0:ke id p=p:=by cases p<;>rfl
    have hx':RepA w' (ag C L' st'.h) L' st'.h (ke id p) u:=by rw[e0];exact hx
    refine pN (ren:=id) (K:=G.map (·.1)) (M':=M) (L':=L) (h':=bt G') hsub (λq hq blk hb=>?_) hop hx'
    .obtain⟨⟨q',b'⟩,h1,h2⟩:=List.mem_map.1 hq
     simp only at h2;subst h2;obtain⟨blk',hq'⟩:=hinout (jK hok.nodup h1);refine⟨blk',hq',?_⟩;have h9:=hpb' hq';have hb':st'.h q'=some blk:=hb;rw[hb']at h9;injection h9 with h9;subst h9
     cases blk with
     |mp=>cases okout hq'
     |box=>exact(hLb hq').symm
     |row=>exact⟨rfl,rfl,Nat.le_refl _,λ_=>(hLr hq').symm⟩
  .exact mW hml b2
 rintro e a' w' ⟨st',hs',hq⟩
 cases e with
 |normal=>obtain⟨h1,v,h2,h3⟩:=hfin a' w' st' hs' hq;exact gV h1 h2 h3
 |ret=>obtain⟨h1,v,h2,h3⟩:=hfin a' w' st' hs' hq;exact gV h1 h2 h3
 |exit=>exact hq.elim
 |goto=>exact hq.elim
 |panic=>exact hq.elim
 |outgrown=>exact hq.elim
def kT(h:Hp)(q:Nat):Bool:=match h q with
 |some (.box _ own _)=>own
 |_=>false
def gp(ren:Nat->Nat)(h:Hp)(G':List (Nat×Blk)):List (Nat×Blk):=G'.map λkb=>(ren kb.1,gP ren (kT h (ren kb.1)) kb.2)
theorem wm{ren:Nat->Nat}{g:Nat×Blk->Blk}:∀(l:List (Nat×Blk))(h:Hp),(l.map λx=>ren x.1).Nodup->∀x∈l,ai h (l.map λx=>(ren x.1,g x)) (ren x.1)=some (g x)
 |[],_,_,x,hx=>by cases hx
 |y::l,h,hn,x,hx=>by
  rw[List.map_cons,List.nodup_cons]at hn;rw[List.map_cons];show ai (ah h (ren y.1) (some (g y))) (l.map λx=>(ren x.1,g x)) (ren x.1)=_;rcases List.mem_cons.1 hx with rfl|hx
  .rw[jT,aF]
   intro kb hkb;obtain⟨z,hz,rfl⟩:=List.mem_map.1 hkb;intro e;exact hn.1 (List.mem_map.2 ⟨z,hz,e⟩)
  .exact wm l _ hn.2 x hx
theorem nc{ren:Nat->Nat}{own:Bool}:(gP ren own b).live l↔b.live l:=by cases b<;>exact Iff.rfl
theorem vg{ren:Nat->Nat}{own:Bool}{K:List Nat}{o:Nat}(h:iM K k b=true):¬(gP ren own b).frz o:=by
 cases b with
 |mp=>cases h
 |box cs own' fz=>simp[gP,Blk.frz]
 |row e sz xs fz=>
  simp only[iM,Bool.and_eq_true,decide_eq_true_eq]at h;rw[h.1];simp[gP,Blk.frz]
structure Share(h:Hp)(ren:Nat->Nat)(G G':List (Nat×Blk)):Prop where
 ok:OkG G G'
 inj:(G.map λx=>ren x.1).Nodup
 have_:∀kb∈G,h (ren kb.1)=some (gP ren (kT h (ren kb.1)) kb.2)
section
variable {C:Cx} {L:Nat->Loc} {h:Hp} {w:World} {ren:Nat->Nat} {G G':List (Nat×Blk)}
theorem Share.ren_inj(hs:Share h ren G G')(hk:bt G k=some b)(hk':bt G k'=some b')(e:ren k=ren k'):k=k':=by
 obtain⟨i,hi⟩:=List.mem_iff_getElem?.1 (ed hk);obtain⟨j,hj⟩:=List.mem_iff_getElem?.1 (ed hk')
 have h1:(G.map λx=>ren x.1)[i]?=some (ren k):=by simp[hi]
 have h2:(G.map λx=>ren x.1)[j]?=some (ren k'):=by simp[hj]
 obtain⟨l1,e1⟩:=List.getElem?_eq_some_iff.1 h1;obtain⟨l2,e2⟩:=List.getElem?_eq_some_iff.1 h2;have:i=j:=(List.getElem_inj hs.inj).1 (e1.trans (e.trans e2.symm));subst this;rw[hi]at hj;injection hj with hj;injection hj with hj
theorem Share.inout(hs:Share h ren G G')(hk:bt G k=some blk):∃blk',bt G' k=some blk':=by
 have hm:k∈G'.map (·.1):=by rw[hs.ok.keys];exact List.mem_map.2 ⟨_,ed hk,rfl⟩
 obtain⟨⟨k',b'⟩,h1,h2⟩:=List.mem_map.1 hm;simp only at h2;subst h2;exact⟨b',jK (by rw[hs.ok.keys];exact hs.ok.nodup) h1⟩
theorem Share.outin(hs:Share h ren G G')(hk:bt G' k=some blk):∃blk',bt G k=some blk':=by
 have hm:k∈G.map (·.1):=by rw[<-hs.ok.keys];exact List.mem_map.2 ⟨_,ed hk,rfl⟩
 obtain⟨⟨k',b'⟩,h1,h2⟩:=List.mem_map.1 hm;simp only at h2;subst h2;exact⟨b',jK hs.ok.nodup h1⟩
theorem Share.at_(hs:Share h ren G G')(hk:bt G k=some blk):h (ren k)=some (gP ren (kT h (ren k)) blk):=hs.have_ _ (ed hk)
theorem Share.new(hs:Share h ren G G')(hk:bt G' k=some blk):ai h (gp ren h G') (ren k)=some (gP ren (kT h (ren k)) blk):=by
 have hn:(G'.map λx=>ren x.1).Nodup:=by
  have e:(G'.map λx=>ren x.1)=(G.map λx=>ren x.1):=by
   have:=congrArg (List.map ren) hs.ok.keys;simpa[List.map_map,Function.comp_def]using this
  rw[e];exact hs.inj
 exact wm (g:=λkb=>gP ren (kT h (ren kb.1)) kb.2) G' h hn (k,blk) (ed hk)
theorem Share.other(hs:Share h ren G G')(hq:∀k blk,bt G k=some blk->q≠ren k):ai h (gp ren h G') q=h q:=by
 refine jT ?_;intro kb hkb e;obtain⟨⟨k,b⟩,hz,rfl⟩:=List.mem_map.1 hkb;obtain⟨blk',hk'⟩:=hs.outin (jK (by rw[hs.ok.keys];exact hs.ok.nodup) hz);exact hq k _ hk' e.symm
theorem Share.cases(hs:Share h ren G G')(hq:ai h (gp ren h G') q=some b):
 (∃k blk blk',bt G k=some blk∧bt G' k=some blk'∧q=ren k∧b=gP ren (kT h (ren k)) blk')∨((∀k blk,bt G k=some blk->q≠ren k)∧h q=some b):=by
 by_cases hc:∃k blk,bt G k=some blk∧q=ren k
 .obtain⟨k,blk,hk,rfl⟩:=hc
  obtain⟨blk',hk'⟩:=hs.inout hk;rw[hs.new hk']at hq;injection hq with hq;exact .inl ⟨k,blk,blk',hk,hk',rfl,hq.symm⟩
 .have hne:∀k blk,bt G k=some blk->q≠ren k:=λk blk hk e=>hc ⟨k,blk,hk,e⟩
  rw[hs.other hne]at hq;exact .inr ⟨hne,hq⟩
theorem z7{ren:Nat->Nat}{own:Bool}(h:rx b b'=true):dg (gP ren own b) l (gP ren own b') l:=by
 cases b<;>cases b'<;>first|(cases h;done)|skip
 .exact rfl
 .simp only[rx,Bool.and_eq_true,beq_iff_eq]at h
  exact⟨h.1.1.symm,h.1.2.symm,Nat.le_of_eq h.2,λ_=>rfl⟩
theorem Share.okin(hs:Share h ren G G')(hk:bt G k=some b):iM (G.map (·.1)) k b=true:=hs.ok.okin _ _ (ed hk)
theorem Share.okout(hs:Share h ren G G')(hk:bt G' k=some b):iM (G.map (·.1)) k b=true:=hs.ok.okout _ _ (ed hk)
theorem Share.view(hs:Share h ren G G')(hm:MemL C L h w)(hk:bt G k=some blk):db w (ag C L h) (λk=>L (ren k)) (bt G) (L (ren k)) blk:=by
 have hb:=hm.bl _ _ (hs.at_ hk)
 cases blk with
 |mp=>cases hs.okin hk
 |row e sz xs fz=>exact hb
 |box cs own fz=>
  obtain⟨arr,ty,e1,e2⟩:=hb;have ho:=hs.okin hk;simp only[iM,Bool.and_eq_true]at ho;refine⟨arr,ty,e1,by simpa using e2.1,λi p u hp hu=>?_⟩;refine pN (ren:=ren) (K:=G.map (·.1)) (λb o h=>h) (λq hq b hb=>?_) (List.all_eq_true.1 ho.1.1.1.1 p (List.mem_of_getElem? hp)) (e2.2 i _ u (by simp[hp]) hu);obtain⟨⟨q',b'⟩,h1,h2⟩:=List.mem_map.1 hq;simp only at h2;subst h2;have hq':=jK hs.ok.nodup h1;refine⟨b',hq',?_⟩;rw[hs.at_ hq']at hb;injection hb with hb;subst hb
  cases b' with
  |mp=>exact⟨rfl,rfl,rfl⟩
  |box=>exact rfl
  |row=>exact⟨rfl,rfl,Nat.le_refl _,λ_=>rfl⟩
theorem MemL.shareStep(hm:MemL C L h w)(hs:Share h ren G G'){w':World}(hx:Ext (zJ G (λk=>L (ren k))) w w')
 (hb:∀k blk,bt G' k=some blk->db w' (ag C L h) (λk=>L (ren k)) (bt G') (L (ren k)) blk):aG C L h w L (ai h (gp ren h G')) w':=by
 have hMM:∀b o,ag C L (ai h (gp ren h G')) b o->ag C L h b o:=by
  rintro b o (h0|⟨q,blk,hq,hl,hqb,hf⟩)
  .exact .inl h0
  .rcases hs.cases hq with⟨k,b1,b2,hk,hk',rfl,rfl⟩|⟨_,hq'⟩
   .refine .inr ⟨ren k,_,hs.at_ hk,?_,hqb,vg (hs.okin hk)⟩
    have hsm:=hs.ok.same k _ _ hk hk'
    cases b1<;>cases b2<;>first|(cases hsm;done)|exact hl
   .exact .inr ⟨q,blk,hq',hl,hqb,hf⟩
 have hkc:KC L h L (ai h (gp ren h G')):=by
  intro q blk hq;by_cases hc:∃k b,bt G k=some b∧q=ren k
  .obtain⟨k,b,hk,rfl⟩:=hc
   obtain⟨b',hk'⟩:=hs.inout hk;rw[hs.at_ hk]at hq;injection hq with hq;subst hq;exact⟨_,hs.new hk',z7 (hs.ok.same k _ _ hk hk')⟩
  .exact⟨blk,by rw[hs.other (λk b hk e=>hc ⟨k,b,hk,e⟩)];exact hq,bW _ _⟩
 have hpres:Pres w (ag C L h) w' (ag C L (ai h (gp ren h G'))):=by
  refine Pres.ext hx (λb _ hsb o=>?_) λb o _ h9=>hMM b o h9;obtain⟨k,blk,hk,hl,rfl⟩:=hsb;exact .inr ⟨ren k,_,hs.at_ hk,nc.2 hl,rfl,vg (hs.okin hk)⟩
 refine⟨⟨?_,hm.m0,?_,?_,?_⟩,hpres,hkc⟩
 .refine hm.ext.trans hx (λb hb0 hmem=>?_)
  obtain⟨k,blk,hk,hl,rfl⟩:=hmem;have hb1:(L (ren k)).b<C.w0.heap.size:=hb0;have how:=hm.own _ _ (hs.at_ hk)
  cases blk with
  |mp=>cases hs.okin hk
  |box cs own fz=>
   cases hown:kT h (ren k)with
   |false=>rw[hown]at how;exact how.2.2.1
   |true=>
    rw[hown]at how;rcases how with h9|h9
    .omega
    .exact h9.1
  |row e sz xs fz=>
   rcases how.row hl with h9|h9
   .omega
   .exact h9.1
 .intro q blk hq
  rcases hs.cases hq with⟨k,b1,b2,hk,hk',rfl,rfl⟩|⟨hne,hq'⟩
  .have hbr:=hb k b2 hk'
   cases b2 with
   |mp=>cases hs.okout hk'
   |row e sz xs fz=>
    obtain⟨g1,g2,g3,g4,g5⟩:=hbr;refine⟨g1,g2,g3,g4,λhn=>?_⟩;obtain⟨a1,a2,arr,a3,a4,a5⟩:=g5 hn;exact⟨a1,a2,arr,a3,a4,λi x j p hx9 hj=>by obtain⟨u,hu,hr⟩:=a5 i x j p hx9 hj;exact⟨u,hu,hr.mono (Pres.sub hMM)⟩⟩
   |box cs own fz=>
    obtain⟨arr,ty,e1,e2⟩:=hbr;have ho:=hs.okout hk';simp only[iM,Bool.and_eq_true]at ho;refine⟨arr,ty,e1,by simpa using e2.1,λi p u hp hu=>?_⟩;simp only[List.getElem?_map,Option.map_eq_some_iff]at hp;obtain⟨y,hy,rfl⟩:=hp;refine CR (ren:=ren) (K:=G.map (·.1)) (L':=λk=>L (ren k)) (h':=bt G') hMM (λq hq b hb=>?_) (List.all_eq_true.1 ho.1.1.1.1 y (List.mem_of_getElem? hy)) (e2.2 i y u hy hu);refine⟨_,hs.new hb,?_⟩
    cases b with
    |mp=>exact⟨rfl,rfl,rfl⟩
    |box=>exact rfl
    |row=>exact⟨rfl,rfl,Nat.le_refl _,λ_=>rfl⟩
  .refine(hm.bl q blk hq').mono hpres hkc (λhl=>hx.block _ ((hm.bl q blk hq').lt hl) ?_)
   rintro⟨k,b,hk,hl',e⟩;exact hm.sep q (ren k) _ _ (hne k b hk) hq' (hs.at_ hk) hl (nc.2 hl') e
 .have aux:∀q b,ai h (gp ren h G') q=some b->b.live (L q)->∃b0,h q=some b0∧b0.live (L q):=by
   intro q b hq hl;rcases hs.cases hq with⟨k,b1,b2,hk,hk',rfl,rfl⟩|⟨_,hq'⟩
   .refine⟨_,hs.at_ hk,?_⟩
    have hsm:=hs.ok.same k _ _ hk hk'
    cases b1<;>cases b2<;>first|(cases hsm;done)|exact hl
   .exact⟨b,hq',hl⟩
  intro q q' b1 b2 hne hq hq' hl hl';obtain⟨c1,d1,f1⟩:=aux q b1 hq hl;obtain⟨c2,d2,f2⟩:=aux q' b2 hq' hl';exact hm.sep q q' c1 c2 hne d1 d2 f1 f2
 .intro q blk hq
  rcases hs.cases hq with⟨k,b1,b2,hk,hk',rfl,rfl⟩|⟨_,hq'⟩
  .have how:=hm.own _ _ (hs.at_ hk)
   have hsm:=hs.ok.same k _ _ hk hk'
   cases b1<;>cases b2<;>first|(cases hsm;done)|skip
   .cases hown:kT h (ren k)with
    |false=>rw[hown]at how;exact how
    |true=>rw[hown]at how;exact how
   .exact how
  .exact hm.own q blk hq'
end
section
variable {C:Cx} {Q:Exit->St->Prop} {st:St}
def wo(C:Cx)(Q:St->Prop)(f:Operand)(xs:List Operand)(d:Option Nat)(st:St):Prop:=
 ∃g args G G' res ren,bC (st.ev f)=some (g,[],[])∧CS C.P g args G G' res∧oD res=true∧xs.map st.ev=args.map (xV ren)∧args.all (B6 (G.map (·.1)))=true∧(G.map λx=>ren x.1).Nodup∧
  (∀kb∈G,st.h (ren kb.1)=some (gP ren (kT st.h (ren kb.1)) kb.2))∧bX C.N d=true∧Q (st.put d (.pv res) (gp ren st.h G'))
theorem WP.share(hops:ops.toList=pre++o::post)(hop:o.op=.call {callee:=.value f,args:=xs.toArray,argTypes:=ats})(hg:o.guard=none)
 (hq:cU C.P hn C.N ops (wo C (cU C.P hn C.N ops (Q .normal) post) f xs o.dst) pre st):WP C (.region id ops false) Q st:=by
 intro a w hs;refine wp_region_list ?_;rw[hops];refine gt (λst1 a1 w1 hs1 hq1=>?_) hs hq;obtain⟨g,args,G,G',res,ren,hce,⟨hcall,hok,hD⟩,hml,hargs,hokA,hinj,hhave,hdN,hQ⟩:=hq1;obtain⟨L,hm,hN,hdf,ht⟩:=hs1;have hsh:Share st1.h ren G G':=⟨hok,hinj,hhave⟩;refine wpList_step (λK hK=>?_);rw[fO hg,if_pos rfl];obtain⟨vs,us,hfv,hv1,hv2⟩:=gO (cD ht f) hce;have hvs:=hv1.nil_inv;have hus:=hv2.nil_inv;subst hvs;subst hus
 have hlenA:xs.length=args.length:=by have:=congrArg List.length hargs;simpa using this
 have hrepA:aB w1 (ag C L st1.h) (λk=>L (ren k)) (bt G) args (xs.map a1.eval):=by
  refine⟨by simp[hlenA],λi p u hp hu=>?_⟩;simp only[List.getElem?_map,Option.map_eq_some_iff]at hu;obtain⟨x,hx,rfl⟩:=hu;have he:=congrArg (λl:List AV=>l[i]?) hargs;simp only[List.getElem?_map,hx,hp,Option.map_some,Option.some.injEq]at he;have hr:=cD ht x;rw[he]at hr;refine Fb (K:=G.map (·.1)) (λb o h=>h) (λq hq b hb=>?_) (List.all_eq_true.1 hokA p (List.mem_of_getElem? hp)) hr;obtain⟨⟨q',b'⟩,h1,h2⟩:=List.mem_map.1 hq;simp only at h2;subst h2;have hq':=jK hsh.ok.nodup h1;refine⟨b',hq',?_⟩;rw[hsh.at_ hq']at hb;injection hb with hb;subst hb
  cases b' with
  |mp=>exact⟨rfl,rfl,rfl⟩
  |box=>exact rfl
  |row=>exact⟨rfl,rfl,Nat.le_refl _,λ_=>rfl⟩
 have hcalls:=hD w1 (ag C L st1.h) (λk=>L (ren k)) (xs.map a1.eval) (λb o h=>hm.mlt h)
  (λk blk hk hl o=>.inr ⟨ren k,_,hsh.at_ hk,nc.2 hl,rfl,vg (hsh.okin hk)⟩)
  (λk k' b b' hne hk hk' hl hl'=>hm.sep (ren k) (ren k') _ _ (λe=>hne (hsh.ren_inj hk hk' e)) (hsh.at_ hk) (hsh.at_ hk') (nc.2 hl) (nc.2 hl'))
  (λk blk hk=>hsh.view hm hk) hrepA
 have hrun:(execOp a1.eval o).run C.P w1=.ok (.enter g (xs.map a1.eval).toArray) w1:=by
  unfold bZ at hcall
  cases hfn:C.P.funcs[g]? with
  |none=>rw[hfn]at hcall;cases hcall
  |some fn=>
   rw[hfn]at hcall;simp only[Bool.and_eq_true,Bool.not_eq_true',beq_eq_false_iff_ne,ne_eq]at hcall
   have hb:fn.body.isNone=false:=by cases hbb:fn.body<;>simp_all
   unfold execOp;rw[hop];simp only[resolve,hfv,Deferred.ofValue,pure_bind,Sem.run_bind,Result.andThen_ok,invoke,callFunc,program,Sem.run,hfn];simp[hcall.2,hb]
 unfold Oper.wp;rw[hrun];simp only[Oper.upon];refine hcalls.mono ?_;rintro ee w' ⟨v,rfl,hx,hb,hr⟩;have hA:=hm.shareStep hsh hx hb;refine hK _ _ ?_;exact gF (λst' a' w' hs' hq'=>⟨st',hs',hq'⟩) (eO.put hm hN hdf ht hdN hA (.pv (mW hml hr))) hQ
end
attribute [simp] xV ke B6 k8 bt gP iM rx gp kT
def inK(k:Nat):Bool:=decide (290<=k)&&decide (k<1000000)
def fa(K:Nat->Bool):AV->Bool
 |.pv _=>true
 |.ptr k _=>K k
 |.arr k _=>K k
 |.eptr k _ _ _=>K k
 |.ext x=>K x.key
 |.undef=>true
 |_=>false
def ry(K:Nat->Bool):AV->Bool
 |.agg cs=>cs.all (fa K)
 |x=>fa K x
def iV(K:Nat->Bool):AV->Bool
 |.agg cs=>cs.all (fa K)
 |.fn _ first caps=>first.all (fa K)&&caps.all (fa K)
 |.tup cs=>cs.all (ry K)
 |x=>fa K x
abbrev nR:AV->Bool:=iV inK
def iN:Blk->Bool
 |.box _ false _=>false
 |_=>true
def z8:Blk->Bool
 |.mp _ _ _ _=>false
 |_=>true
def sC(M:Nat->Nat->Prop)(L:Nat->Loc)(h:Hp)(b o:Nat):Prop:=M b o∨∃k blk,h k=some blk∧blk.live (L k)∧(L k).b=b∧¬blk.frz o
def kU(h:Hp)(L:Nat->Loc)(b:Nat):Prop:=∃k blk,h k=some blk∧blk.live (L k)∧b=(L k).b
def io(h:Hp)(L:Nat->Loc)(b:Nat):Prop:=∃k blk,h k=some blk∧iN blk=true∧blk.live (L k)∧b=(L k).b
structure LookH(h:Hp):Prop where
 keys:∀k blk,h k=some blk->inK k=true
 nf:∀k blk o,h k=some blk->¬blk.frz o
 nm:∀k blk,h k=some blk->z8 blk=true
 cl:∀k cs o f,h k=some (.box cs o f)->∀x∈cs,nR x=true
structure TrIn(w:World)(M:Nat->Nat->Prop)(L:Nat->Loc)(h:Hp):Prop where
 bl:∀k blk,h k=some blk->db w (sC M L h) L h (L k) blk
 sep:∀k k' blk blk',k≠k'->h k=some blk->h k'=some blk'->blk.live (L k)->blk'.live (L k')->(L k).b≠(L k').b
 m1:∀k blk,h k=some blk->iN blk=true->blk.live (L k)->∀o,¬M (L k).b o
 m2:∀k cs f,h k=some (.box cs false f)->∀o,M (L k).b o
def kC(P:Program)(f:FuncId)(args:List AV)(h0:Hp)(Post:AV->Hp->Prop):Prop:=
 bZ P f=true∧∀(w:World)(M:Nat->Nat->Prop)(L:Nat->Loc)(vs:List Value),(∀b o,M b o->b<w.heap.size)->TrIn w M L h0->aB w (sC M L h0) L h0 args vs->
  Calls P f vs.toArray w λe w'=>∃v r L' h',e=.returned v∧Ext (kU h0 L) w w'∧LookH h'∧TrIn w' M L' h'∧RepA w' (sC M L' h') L' h' r v∧nR r=true∧Post r h'∧
   (∀k cs f,h0 k=some (.box cs false f)->∃cs',h' k=some (.box cs' false false)∧(L' k).b=(L k).b)∧
   (∀k cs f,h' k=some (.box cs false f)->∃cs0 f0,h0 k=some (.box cs0 false f0))∧
   (∀k blk,h' k=some blk->iN blk=true->blk.live (L' k)->w.heap.size<=(L' k).b∨io h0 L (L' k).b)
section
variable {w w':World} {M M':Nat->Nat->Prop} {L L':Nat->Loc} {h h':Hp}
theorem ov{K:Nat->Bool}(hp:Pres w M w' M')(hk:∀k blk,K k=true->h k=some blk->∃blk',h' k=some blk'∧dg blk (L k) blk' (L' k))(ho:iV K x=true)(hx:RepA w M L h x u):RepA w' M' L' h' x u:=by
 have one:∀{x:AV}{u:Value},fa K x=true->RepA w M L h x u->RepA w' M' L' h' x u:=by
  intro x u ho hx
  cases hx with
  |pv hr=>exact .pv (hr.mono hp)
  |@ptr k off cs own fz hb=>
   obtain⟨blk',h1,h2⟩:=hk k _ ho hb
   cases blk' with
   |row=>exact h2.elim
   |mp=>exact h2.elim
   |box cs' own' fz'=>have h2:(L' k).b=(L k).b:=h2;rw[<-h2];exact .ptr h1
  |@arr k n e sz fz xs u hb hn hu=>
   obtain⟨blk',h1,h2⟩:=hk k _ ho hb
   cases blk' with
   |box=>exact h2.elim
   |mp=>exact h2.elim
   |row e' sz' xs' fz'=>
    obtain⟨_,e1,e2,e3⟩:=h2;refine .arr h1 (by omega) (λe=>?_)
    have:xs'.length=xs.length:=by omega
    rw[e3 this];exact hu (by omega)
  |@eptr k n i off e sz fz xs u hb hn hu=>
   obtain⟨blk',h1,h2⟩:=hk k _ ho hb
   cases blk' with
   |box=>exact h2.elim
   |mp=>exact h2.elim
   |row e' sz' xs' fz'=>
    obtain⟨_,e1,e2,e3⟩:=h2;refine .eptr h1 (by omega) (λe=>?_)
    have:xs'.length=xs.length:=by omega
    rw[e3 this,e1];exact hu (by omega)
  |ext hx'=>
   cases hx' with
   |@barr k n c cs own fz hc hb=>
    obtain⟨blk',h1,h2⟩:=hk k _ ho hb
    cases blk' with
    |row=>exact h2.elim
    |mp=>exact h2.elim
    |box cs' own' fz'=>have h2:(L' k).b=(L k).b:=h2;rw[<-h2];exact .ext (.barr hc h1)
   |@mp k n kd es fz hb=>
    obtain⟨blk',h1,h2⟩:=hk k _ ho hb
    cases blk' with
    |row=>exact h2.elim
    |box=>exact h2.elim
    |mp kd' n' es' fz'=>have h2:kd'=kd∧n'=n∧(L' k).b=(L k).b:=h2;rw[<-h2.2.2];exact .ext (.mp h1)
   |@suf k o n t e sz fz xs u hs0 hb hn ht hu=>
    obtain⟨blk',h1,h2⟩:=hk k _ ho hb
    cases blk' with
    |box=>exact h2.elim
    |mp=>exact h2.elim
    |row e' sz' xs' fz'=>
     obtain⟨_,e1,e2,e3⟩:=h2;refine .ext (.suf hs0 h1 hn (by omega) (λe=>?_))
     have:xs'.length=xs.length:=by omega
     rw[e3 this,e1];exact hu (by omega)
  |undef=>exact .undef _
  |agg=>cases ho
  |fn=>cases ho
  |tup=>cases ho
 have all:∀{cs:List AV}{p:AV}{i:Nat},cs.all (fa K)=true->cs[i]?=some p->fa K p=true:=λh hp=>List.all_eq_true.1 h _ (List.mem_of_getElem? hp)
 have two:∀{x:AV}{u:Value},ry K x=true->RepA w M L h x u->RepA w' M' L' h' x u:=by
  intro x u ho hx
  cases hx with
  |agg cs vs hl hh=>exact .agg cs vs hl λi p u hp hu=>one (all ho hp) (hh i p u hp hu)
  |pv hr=>exact one ho (.pv hr)
  |ptr hb=>exact one ho (.ptr hb)
  |arr hb hn hu=>exact one ho (.arr hb hn hu)
  |eptr hb hn hu=>exact one ho (.eptr hb hn hu)
  |ext hx'=>exact one ho (.ext hx')
  |undef=>exact .undef _
  |fn=>cases ho
  |tup=>cases ho
 cases hx with
 |agg cs vs hl hh=>exact .agg cs vs hl λi p u hp hu=>one (all ho hp) (hh i p u hp hu)
 |fn f first caps vs us hl hk' h1 h2=>
  simp only[iV,Bool.and_eq_true]at ho
  exact .fn f first caps vs us hl hk' (λi p u hp hu=>one (all ho.1 hp) (h1 i p u hp hu)) (λi p u hp hu=>one (all ho.2 hp) (h2 i p u hp hu))
 |tup cs vs hl hh=>exact .tup cs vs hl λi p u hp hu=>two (List.all_eq_true.1 ho _ (List.mem_of_getElem? hp)) (hh i p u hp hu)
 |pv hr=>exact one ho (.pv hr)
 |ptr hb=>exact one ho (.ptr hb)
 |arr hb hn hu=>exact one ho (.arr hb hn hu)
 |eptr hb hn hu=>exact one ho (.eptr hb hn hu)
 |ext hx'=>exact one ho (.ext hx')
 |undef=>exact .undef _
theorem db.inK(hp:Pres w M w' M')(hk:∀k blk,Go.Ab.inK k=true->h k=some blk->∃blk',h' k=some blk'∧dg blk (L k) blk' (L' k))(hc:∀cs o f,blk=.box cs o f->∀x∈cs,nR x=true)(he:blk.live l->w'.heap[l.b]?=w.heap[l.b]?)(hb:db w M L h l blk):db w' M' L' h' l blk:=by
 cases blk with
 |box cs own fz=>
  obtain⟨arr,ty,e,hl,hr⟩:=hb;exact⟨arr,ty,(he trivial).trans e,hl,λi p u h1 h2=>ov hp hk (hc _ _ _ rfl p (List.mem_of_getElem? h1)) (hr i p u h1 h2)⟩
 |row et sz xs fz=>
  obtain⟨h1,h2,h3,h4,h5⟩:=hb;refine⟨h1,h2,h3,h4,λhn=>?_⟩;obtain⟨h6,h6',arr,e,h7,h8⟩:=h5 hn;refine⟨h6,h6',arr,(he hn).trans e,h7,λi x j p hx hj=>?_⟩;obtain⟨u,hu,hr⟩:=h8 i x j p hx hj;exact⟨u,hu,hr.mono hp⟩
 |mp kd n es fz=>
  obtain⟨arr,c,e,h1⟩:=hb;exact⟨arr,c,(he trivial).trans e,h1⟩
end
def nG(h:Hp):Hp:=λk=>if inK k=true then h k else none
theorem iW(e:nG h k=some b):inK k=true∧h k=some b:=by
 unfold nG at e;split at e
 .rename_i hi;exact⟨hi,e⟩
 .cases e
def pO(args:List AV)(h0:Hp):St:=⟨λn=>(args[n]?).getD .undef,h0⟩
def vh(P:Program)(rs:List ResultVar)(h0:Hp)(Post:AV->Hp->Prop)(st:St):Prop:=
 ∃r,kK P st rs=some r∧nR r=true∧LookH (nG st.h)∧Post r (nG st.h)∧∀k cs f,h0 k=some (.box cs false f)->∃cs',st.h k=some (.box cs' false false)
def CT(P:Program)(rs:List ResultVar)(h0:Hp)(Post:AV->Hp->Prop):Exit->St->Prop
 |.normal,st=>vh P rs h0 Post st
 |.ret,st=>vh P rs h0 Post st
 |_,_=>False
@[simp] theorem JF:CT P rs h0 Post .normal st=vh P rs h0 Post st:=rfl
@[simp] theorem KI:CT P rs h0 Post .ret st=vh P rs h0 Post st:=rfl
theorem qv(hk:k<2000000)(ho:dT C k l blk)(hu:iN blk=true)(hm:z8 blk=true)(hl:blk.live l):C.w0.heap.size<=l.b∨(C.S l.b∧∀o,¬C.M0 l.b o):=by
 cases blk with
 |box cs own fz=>
  cases own with
  |false=>cases hu
  |true=>exact ho
 |row e sz xs fz=>exact ho.row hl
 |mp=>cases hm
theorem sP(h:inK k=true):k<2000000:=by
 simp only[inK,Bool.and_eq_true,decide_eq_true_eq]at h;omega
theorem G8{f:FuncId}{fn:Func}(hf:P.funcs[f]?=some fn)(hb:fn.body=some c)(hcall:bZ P f=true)(hlen:args.length<=fn.ntmps)(hlook:LookH h0)
 (h:∀C:Cx,C.P=P->C.N=fn.ntmps->WP C c (CT P fn.results.toList h0 Post) (pO args h0)):kC P f args h0 Post:=by
 refine⟨hcall,λw M L vs hM hin hvs=>?_⟩
 let C:Cx:={P:=P,N:=fn.ntmps,M0:=M,S:=kU h0 L,pb:=λk=>match h0 k with|some (.box _ false _)=>some (L k).b|_=>none,w0:=w}
 have hvl:=hvs.1
 have hsim:eO C (pO args h0) {tmps:=vs.toArray++Array.replicate (fn.ntmps-vs.toArray.size) undef,defers:=[]} w:=by
  refine⟨L,⟨Ext.refl _ _,hM,hin.bl,hin.sep,?_⟩,by show(vs.toArray++Array.replicate (fn.ntmps-vs.toArray.size) undef).size=fn.ntmps;simp;omega,iO.nil _,λn=>?_⟩
  .intro k blk hk
   cases blk with
   |box cs own fz=>
    cases own with
    |false=>
     have hfz:fz=false:=by
      cases fz with
      |false=>rfl
      |true=>exact absurd rfl (hlook.nf k _ 0 hk)
     refine⟨hfz,?_,⟨k,_,hk,trivial,rfl⟩,(hin.bl k _ hk).lt trivial,hin.m2 k cs fz hk⟩;show(match h0 k with|some (.box _ false _)=>some (L k).b|_=>none)=some (L k).b;rw[show h0 k=_ from hk]
    |true=>exact .inr ⟨⟨k,_,hk,trivial,rfl⟩,hin.m1 k _ hk rfl trivial⟩
   |row e sz xs fz=>
    unfold dT;simp only[C.hpr k (sP (hlook.keys k _ hk))];exact λhn=>.inr ⟨⟨k,_,hk,hn,rfl⟩,hin.m1 k _ hk rfl hn⟩
   |mp=>exact absurd (hlook.nm k _ hk) (by simp[z8])
  .show RepA w (ag C L h0) L h0 ((args[n]?).getD .undef) _
   cases hp:args[n]? with
   |none=>exact .undef _
   |some p=>
    have hlt:n<vs.length:=by rw[<-hvl];exact(List.getElem?_eq_some_iff.1 hp).1
    have hget:(vs.toArray++Array.replicate (fn.ntmps-vs.toArray.size) undef).getD n undef=vs[n]:=by
     rw[Array.getD_eq_getD_getElem?,Array.getElem?_append_left (by simpa using hlt)];simp[hlt]
    simp only[hget];exact hvs.2 n p _ hp (List.getElem?_eq_getElem hlt)
 refine calls_of_wp_defers hf hb (wp_mono (h C rfl rfl _ w hsim) ?_)
 have hfin:∀(a':Act) w' st',eO C st' a' w'->vh P fn.results.toList h0 Post st'->iO P a'.defers∧∃v,(results fn a'.tmps).run P w'=.ok v w'∧
  (∃v' r L' h',Ending.returned v=.returned v'∧Ext (kU h0 L) w w'∧LookH h'∧TrIn w' M L' h'∧RepA w' (sC M L' h') L' h' r v'∧nR r=true∧Post r h'∧
    (∀k cs f,h0 k=some (.box cs false f)->∃cs',h' k=some (.box cs' false false)∧(L' k).b=(L k).b)∧
    (∀k cs f,h' k=some (.box cs false f)->∃cs0 f0,h0 k=some (.box cs0 false f0))∧
    (∀k blk,h' k=some blk->iN blk=true->blk.live (L' k)->w.heap.size<=(L' k).b∨io h0 L (L' k).b)):=by
  rintro a' w' st' ⟨L',hm,hN,hdf,ht⟩ ⟨r,hr,hok,hlk,hpost,hpin⟩;obtain⟨u,hu1,hu2⟩:=lO (C:=C) hm ht hr
  have hsub:∀b o,sC M L' (nG st'.h) b o->ag C L' st'.h b o:=by
   rintro b o (h9|⟨k,blk,hk,hl,hb9,hf9⟩)
   .exact .inl h9
   .exact .inr ⟨k,blk,(iW hk).2,hl,hb9,hf9⟩
  have hpr:=Pres.sub (w:=w') hsub;have hkk:∀k blk,inK k=true->st'.h k=some blk->∃blk',nG st'.h k=some blk'∧dg blk (L' k) blk' (L' k):=λk blk hi hk=>⟨blk,by unfold nG;rw[if_pos hi];exact hk,bW _ _⟩
  have hpb:∀k cs f,st'.h k=some (.box cs false f)->(∃cs0 f0,h0 k=some (.box cs0 false f0))∧(L' k).b=(L k).b∧f=false∧∀o,M (L' k).b o:=by
   intro k cs f hk;have ho:=hm.own k _ hk;have h1:(match h0 k with|some (.box _ false _)=>some (L k).b|_=>none)=some (L' k).b:=ho.2.1;split at h1
   .rename_i cs0 f0 h2
    injection h1 with h1;exact⟨⟨cs0,f0,h2⟩,h1.symm,ho.1,ho.2.2.2.2⟩
   .cases h1
  have hown:∀k blk,nG st'.h k=some blk->iN blk=true->blk.live (L' k)->w.heap.size<=(L' k).b∨(kU h0 L (L' k).b∧∀o,¬M (L' k).b o):=λk blk hk hu hl=>
   qv (C:=C) (sP (iW hk).1) (hm.own k _ (iW hk).2) hu (hlk.nm k _ hk) hl
  refine⟨hdf,u,hu1,u,r,L',nG st'.h,rfl,hm.ext,hlk,⟨?_,?_,?_,?_⟩,ov hpr hkk hok hu2,hok,hpost,?_,?_,?_⟩
  .exact λk blk hk=>(hm.bl k blk (iW hk).2).inK hpr hkk (λcs o f e=>hlk.cl k cs o f (by rw[hk,e])) (λ_=>rfl)
  .exact λk k' b1 b2 hne h1 h2=>hm.sep k k' b1 b2 hne (iW h1).2 (iW h2).2
  .intro k blk hk hu hl o hM9
   rcases hown k blk hk hu hl with h9|h9
   .have:=hM _ _ hM9;omega
   .exact h9.2 o hM9
  .exact λk cs f hk=>(hpb k cs f (iW hk).2).2.2.2
  .intro k cs f hk
   obtain⟨cs',h1⟩:=hpin k cs f hk;exact⟨cs',by unfold nG;rw[if_pos (hlook.keys k _ hk)];exact h1,(hpb k _ _ h1).2.1⟩
  .exact λk cs f hk=>(hpb k cs f (iW hk).2).1
  .intro k blk hk hu hl
   rcases hown k blk hk hu hl with h9|⟨⟨k0,b0,e1,e2,e3⟩,h9⟩
   .exact .inl h9
   .refine .inr ⟨k0,b0,e1,?_,e2,e3⟩
    cases b0 with
    |box cs0 o0 f0=>
     cases o0 with
     |true=>rfl
     |false=>exact absurd (hin.m2 k0 _ _ e1 0) (by rw[<-e3];exact h9 0)
    |row=>rfl
    |mp=>rfl
 rintro e a' w' ⟨st',hs',hq⟩
 cases e with
 |normal=>obtain⟨h1,v,h2,h3⟩:=hfin a' w' st' hs' hq;exact gV h1 h2 h3
 |ret=>obtain⟨h1,v,h2,h3⟩:=hfin a' w' st' hs' hq;exact gV h1 h2 h3
 |exit=>exact hq.elim
 |goto=>exact hq.elim
 |panic=>exact hq.elim
 |outgrown=>exact hq.elim
def lD(o:Bool):Blk->Blk
 |.box cs _ f=>.box cs o f
 |b=>b
def jA(h:Hp)(k:Nat):Bool:=match h k with
 |some (.box _ o _)=>o
 |_=>true
def fh(h:Hp):Hp:=λk=>if inK k=true then(if k=290 then(h k).map (lD false)else h k)else none
def iC(k:Nat):Bool:=!inK k||k==290
def dO(x:AV):AV:=if iV iC x=true then x else .undef
def fR:Blk->Blk
 |.box cs o f=>.box (cs.map dO) o f
 |b=>b
def dX(h h':Hp):Hp:=λk=>if inK k=true then(if k=290 then(h' k).map (lD (jA h k))else h' k)else(h k).map fR
theorem ip{o:Bool}:(lD o b).live l↔b.live l:=by cases b<;>exact Iff.rfl
theorem yQ{o:Bool}:(lD o b).frz q↔b.frz q:=by cases b<;>exact Iff.rfl
theorem jm:(fR b).live l↔b.live l:=by cases b<;>exact Iff.rfl
theorem CU:(fR b).frz q↔b.frz q:=by cases b<;>exact Iff.rfl
theorem sQ{o:Bool}{l':Loc}(h:dg b l b' l'):dg b l (lD o b') l':=by cases b<;>cases b'<;>exact h
theorem gQ(e:fh h k=some b):inK k=true∧∃b0,h k=some b0∧(k=290->b=lD false b0)∧(k≠290->b=b0):=by
 unfold fh at e;split at e
 .rename_i hi
  split at e
  .rename_i h1
   simp only[Option.map_eq_some_iff]at e;obtain⟨b0,h2,rfl⟩:=e;exact⟨hi,b0,h2,λ_=>rfl,λh3=>absurd h1 h3⟩
  .rename_i h1;exact⟨hi,b,e,λh2=>absurd h2 h1,λ_=>rfl⟩
 .cases e
theorem tY(hi:inK k=true)(hk:h k=some b):fh h k=some (if k=290 then lD false b else b):=by
 unfold fh;rw[if_pos hi];split
 .rw[hk];rfl
 .exact hk
theorem z9{h':Hp}(hi:inK k=true)(hk:h' k=some b):dX h h' k=some (if k=290 then lD (jA h k) b else b):=by
 unfold dX;rw[if_pos hi];split
 .rw[hk];rfl
 .exact hk
theorem lE{h':Hp}(e:dX h h' k=some b):(inK k=true∧∃b0,h' k=some b0∧b=if k=290 then lD (jA h k) b0 else b0)∨(inK k=false∧∃b0,h k=some b0∧b=fR b0):=by
 unfold dX at e;split at e
 .rename_i hi
  split at e
  .rename_i h1
   simp only[Option.map_eq_some_iff]at e;obtain⟨b0,h2,rfl⟩:=e;exact .inl ⟨hi,b0,h2,by rw[if_pos h1]⟩
  .rename_i h1;exact .inl ⟨hi,b,e,by rw[if_neg h1]⟩
 .rename_i hi
  simp only[Option.map_eq_some_iff]at e;obtain⟨b0,h2,rfl⟩:=e;exact .inr ⟨by simpa using hi,b0,h2,rfl⟩
structure InOk(h:Hp):Prop where
 nf:∀k blk o,inK k=true->h k=some blk->¬blk.frz o
 nm:∀k blk,inK k=true->h k=some blk->z8 blk=true
 cl:∀k cs o f,inK k=true->h k=some (.box cs o f)->∀x∈cs,nR x=true
 pin:∀k cs f,inK k=true->h k=some (.box cs false f)->k=290
 bx:∀blk,h 290=some blk->∃cs o f,blk=.box cs o f
section
variable {C:Cx} {L L':Nat->Loc} {h h':Hp} {w w':World}
theorem wq(hm:MemL C L h w)(hi:InOk h){b:Nat}(ht:io (fh h) L b):(C.w0.heap.size<=b∨(C.S b∧∀o,¬C.M0 b o))∧kU h L b:=by
 obtain⟨k,blk,hk,hu,hl,rfl⟩:=ht;obtain⟨h1,b0,h2,h3,h4⟩:=gQ hk;by_cases e:k=290
 .have:=h3 e
  subst this;subst e;obtain⟨cs,o,f,rfl⟩:=hi.bx b0 h2;cases hu
 .have:=h4 e
  subst this;exact⟨qv (sP h1) (hm.own k _ h2) hu (hi.nm k _ h1 h2) hl,k,_,h2,hl,rfl⟩
theorem MemL.takeStep(hm:MemL C L h w)(hi:InOk h)(hx:Ext (kU (fh h) L) w w')(hlk:LookH h')
 (ht:TrIn w' (λb o=>ag C L h b o∧¬io (fh h) L b) L' h')
 (hp1:∀k cs f,fh h k=some (.box cs false f)->∃cs',h' k=some (.box cs' false false)∧(L' k).b=(L k).b)
 (hp2:∀k cs f,h' k=some (.box cs false f)->∃cs0 f0,fh h k=some (.box cs0 false f0))
 (hn:∀k blk,h' k=some blk->iN blk=true->blk.live (L' k)->w.heap.size<=(L' k).b∨io (fh h) L (L' k).b):
 ∃L2:Nat->Loc,(∀k,inK k=true->L2 k=L' k)∧MemL C L2 (dX h h') w'∧(∀{x:AV}{u:Value},RepA w (ag C L h) L h x u->RepA w' (ag C L2 (dX h h')) L2 (dX h h') (dO x) u)∧
  (∀{x:AV}{u:Value},nR x=true->RepA w' (sC (λb o=>ag C L h b o∧¬io (fh h) L b) L' h') L' h' x u->RepA w' (ag C L2 (dX h h')) L2 (dX h h') x u):=by
 let L2:Nat->Loc:=λk=>if inK k=true then L' k else L k
 have hL1:∀k,inK k=true->L2 k=L' k:=λk hk=>if_pos hk
 have hL0:∀k,inK k=false->L2 k=L k:=λk hk=>by simp[L2,hk]
 have hsz:=hm.ext.size
 have hlv:∀b,kU (fh h) L b->∃k blk,inK k=true∧h k=some blk∧blk.live (L k)∧b=(L k).b:=by
  rintro b ⟨k,blk,hk,hl,rfl⟩;obtain⟨h1,b0,h2,h3,h4⟩:=gQ hk;refine⟨k,b0,h1,h2,?_,rfl⟩;by_cases e:k=290
  .rw[h3 e]at hl;exact ip.1 hl
  .rw[h4 e]at hl;exact hl
 have hlvM:∀b,kU (fh h) L b->∀o,ag C L h b o:=by
  intro b hb o;obtain⟨k,blk,h1,h2,h3,rfl⟩:=hlv b hb;exact .inr ⟨k,blk,h2,h3,rfl,hi.nf k blk o h1 h2⟩
 have htl:∀b,io (fh h) L b->kU (fh h) L b:=by
  rintro b ⟨k,blk,h1,_,h3,h4⟩;exact⟨k,blk,h1,h3,h4⟩
 have hM2:∀b o,ag C L2 (dX h h') b o->sC (λb o=>ag C L h b o∧¬io (fh h) L b) L' h' b o:=by
  rintro b o (h9|⟨k,blk,hk,hl,hb,hf⟩)
  .refine .inl ⟨.inl h9,λh8=>?_⟩
   rcases(wq hm hi h8).1 with h7|h7
   .have:=hm.m0 _ _ h9;omega
   .exact h7.2 o h9
  .rcases lE hk with⟨hi1,b0,h1,rfl⟩|⟨hi1,b0,h1,rfl⟩
   .rw[hL1 k hi1]at hl hb
    refine .inr ⟨k,b0,h1,?_,hb,?_⟩
    .split at hl
     .exact ip.1 hl
     .exact hl
    .split at hf
     .exact λh8=>hf (yQ.2 h8)
     .exact hf
   .rw[hL0 k hi1]at hl hb
    refine .inl ⟨.inr ⟨k,b0,h1,jm.1 hl,hb,λh8=>hf (CU.2 h8)⟩,λh8=>?_⟩;obtain⟨k',blk',h2,h3,h4,h5⟩:=hlv b (htl b h8);refine hm.sep k k' b0 blk' (λe=>?_) h1 h3 (jm.1 hl) h4 (by rw[hb,<-h5]);rw[e,h2]at hi1;cases hi1
 have hpr2:=Pres.sub (w:=w') hM2
 have hpres:Pres w (ag C L h) w' (ag C L2 (dX h h')):=by
  have hns:∀b o,¬ag C L h b o->¬kU (fh h) L b:=λb o h9 h8=>h9 (hlvM b h8 o)
  have hback:∀b o,b<w.heap.size->ag C L2 (dX h h') b o->ag C L h b o:=by
   intro b o hlt h9;rcases hM2 b o h9 with h8|⟨k,blk,hk,hl,hb,hf⟩
   .exact h8.1
   .cases hu:iN blk with
    |true=>
     rcases hn k blk hk hu hl with h7|h7
     .omega
     .rw[hb]at h7;exact hlvM b (htl b h7) o
    |false=>
     cases blk with
     |row=>cases hu
     |mp=>cases hu
     |box cs o9 f9=>
      cases o9 with
      |true=>cases hu
      |false=>
       obtain⟨cs0,f0,h7⟩:=hp2 k cs f9 hk;obtain⟨_,_,h6⟩:=hp1 k cs0 f0 h7;exact hlvM b ⟨k,_,h7,trivial,by rw[<-hb,h6]⟩ o
  refine⟨λb o v hc hnm=>?_,λb arr c hc hnm=>?_⟩
  .have hlt:=xX hc
   exact⟨(hx.cell hlt (hns b o hnm)).trans hc,λh9=>hnm (hback b o hlt h9)⟩
  .have hlt:=tZ hc
   exact⟨(hx.block b hlt (hns b 0 hnm)).trans hc,λh9=>hnm (hback b 0 hlt h9)⟩
 have hkout:∀k blk,iC k=true->h k=some blk->∃blk',dX h h' k=some blk'∧dg blk (L k) blk' (L2 k):=by
  intro k blk hk h1
  cases hik:inK k with
  |false=>
   refine⟨fR blk,by simp only[dX,hik,Bool.false_eq_true,if_false,h1,Option.map_some],?_⟩;rw[hL0 k hik]
   cases blk with
   |box=>exact rfl
   |row=>exact⟨rfl,rfl,Nat.le_refl _,λ_=>rfl⟩
   |mp=>exact⟨rfl,rfl,rfl⟩
  |true=>
   have e:k=290:=by simpa[iC,hik]using hk
   obtain⟨cs,o,f,rfl⟩:=hi.bx blk (by rw[<-e];exact h1)
   have h2:fh h k=some (.box cs false f):=by rw[tY hik h1,if_pos e];rfl
   obtain⟨cs',h3,h4⟩:=hp1 k cs f h2;refine⟨_,z9 hik h3,?_⟩;rw[if_pos e,hL1 k hik];exact h4
 have hkin:∀k blk,inK k=true->h' k=some blk->∃blk',dX h h' k=some blk'∧dg blk (L' k) blk' (L2 k):=by
  intro k blk hik h1;refine⟨_,z9 hik h1,?_⟩;rw[hL1 k hik];split
  .exact sQ (bW _ _)
  .exact bW _ _
 have hkill:∀{x:AV}{u:Value},RepA w (ag C L h) L h x u->RepA w' (ag C L2 (dX h h')) L2 (dX h h') (dO x) u:=by
  intro x u hr;unfold dO;split
  .rename_i ho;exact ov hpres hkout ho hr
  .exact .undef _
 refine⟨L2,hL1,⟨?_,hm.m0,?_,?_,?_⟩,hkill,λho hr=>ov hpr2 hkin ho hr⟩
 .refine hm.ext.trans hx (λb hlt h9=>?_)
  obtain⟨k,blk,h1,h2,h3,rfl⟩:=hlv b h9;have ho:=hm.own k _ h2
  cases hu:iN blk with
  |true=>
   rcases qv (sP h1) ho hu (hi.nm k _ h1 h2) h3 with h7|h7
   .omega
   .exact h7.1
  |false=>
   cases blk with
   |row=>cases hu
   |mp=>cases hu
   |box cs o9 f9=>
    cases o9 with
    |true=>cases hu
    |false=>exact ho.2.2.1
 .intro k blk hk
  rcases lE hk with⟨hi1,b0,h1,rfl⟩|⟨hi1,b0,h1,rfl⟩
  .rw[hL1 k hi1]
   have hb:=(ht.bl k b0 h1).inK hpr2 hkin (λcs o f e=>hlk.cl k cs o f (by rw[h1,e])) (λ_=>rfl);split
   .cases b0<;>exact hb
   .exact hb
  .rw[hL0 k hi1]
   have hb:=hm.bl k b0 h1
   have he:b0.live (L k)->w'.heap[(L k).b]?=w.heap[(L k).b]?:=by
    intro hl;refine hx.block _ (hb.lt hl) (λh9=>?_);obtain⟨k',blk',h2,h3,h4,h5⟩:=hlv _ h9;exact hm.sep k k' b0 blk' (λe=>by rw[e,h2]at hi1;cases hi1) h1 h3 hl h4 h5
   cases b0 with
   |box cs own fz=>
    obtain⟨arr,ty,e,hl,hr⟩:=hb;refine⟨arr,ty,(he trivial).trans e,by simpa using hl,λi p u hp hu=>?_⟩;simp only[List.getElem?_map,Option.map_eq_some_iff]at hp;obtain⟨q,hq,rfl⟩:=hp;exact hkill (hr i q u hq hu)
   |row et sz xs fz=>
    obtain⟨g1,g2,g3,g4,g5⟩:=hb;refine⟨g1,g2,g3,g4,λhn9=>?_⟩;obtain⟨h6,h6',arr,e,h7,h8⟩:=g5 hn9;refine⟨h6,h6',arr,(he hn9).trans e,h7,λi x j p hx9 hj=>?_⟩;obtain⟨u,hu,hr⟩:=h8 i x j p hx9 hj;exact⟨u,hu,hr.mono hpres⟩
   |mp kd n es fz=>
    obtain⟨arr,c,e,g1⟩:=hb;exact⟨arr,c,(he trivial).trans e,g1⟩
 .
  have new:∀k blk,inK k=true->h' k=some blk->blk.live (L' k)->w.heap.size<=(L' k).b∨kU (fh h) L (L' k).b:=by
   intro k blk hik hk hl
   cases hu:iN blk with
   |true=>exact(hn k blk hk hu hl).imp id (htl _)
   |false=>
    cases blk with
    |row=>cases hu
    |mp=>cases hu
    |box cs o9 f9=>
     cases o9 with
     |true=>cases hu
     |false=>
      obtain⟨cs0,f0,h7⟩:=hp2 k cs f9 hk;obtain⟨_,_,h6⟩:=hp1 k cs0 f0 h7;exact .inr ⟨k,_,h7,trivial,h6⟩
  have je:∀k blk k' blk',inK k=true->inK k'=false->h' k=some blk->h k'=some blk'->blk.live (L' k)->blk'.live (L k')->(L' k).b≠(L k').b:=by
   intro k blk k' blk' h1 h2 h3 h4 h5 h6 e;rcases new k blk h1 h3 h5 with h7|h7
   .have:=(hm.bl k' blk' h4).lt h6;omega
   .obtain⟨q,bq,g1,g2,g3,g4⟩:=hlv _ h7
    exact hm.sep q k' bq blk' (λe9=>by rw[e9,h2]at g1;cases g1) g2 h4 g3 h6 (by rw[<-g4,e])
  have lv:∀{k:Nat}{b0:Blk},(if k=290 then lD (jA h k) b0 else b0).live (L' k)->b0.live (L' k):=by
   intro k b0 hl;split at hl
   .exact ip.1 hl
   .exact hl
  intro k k' b1 b2 hne hk hk' hl hl';rcases lE hk with⟨i1,c1,d1,rfl⟩|⟨i1,c1,d1,rfl⟩<;>rcases lE hk' with⟨i2,c2,d2,rfl⟩|⟨i2,c2,d2,rfl⟩
  .rw[hL1 k i1]at hl|-
   rw[hL1 k' i2]at hl'|-;exact ht.sep k k' c1 c2 hne d1 d2 (lv hl) (lv hl')
  .rw[hL1 k i1]at hl|-
   rw[hL0 k' i2]at hl'|-;exact je k c1 k' c2 i1 i2 d1 d2 (lv hl) (jm.1 hl')
  .rw[hL0 k i1]at hl|-
   rw[hL1 k' i2]at hl'|-;exact λe=>je k' c2 k c1 i2 i1 d2 d1 (lv hl') (jm.1 hl) e.symm
  .rw[hL0 k i1]at hl|-
   rw[hL0 k' i2]at hl'|-;exact hm.sep k k' c1 c2 hne d1 d2 (jm.1 hl) (jm.1 hl')
 .
  intro k blk hk;rcases lE hk with⟨i1,b0,d1,rfl⟩|⟨i1,b0,d1,rfl⟩
  .rw[hL1 k i1]
   have fresh:iN b0=true->b0.live (L' k)->C.w0.heap.size<=(L' k).b∨(C.S (L' k).b∧∀o,¬C.M0 (L' k).b o):=by
    intro hu hl;rcases hn k b0 d1 hu hl with h7|h7
    .exact .inl (by omega)
    .exact(wq hm hi h7).1
   cases b0 with
   |mp=>exact absurd (hlk.nm k _ d1) (by simp[z8])
   |row e sz xs fz=>
    have:dT C k (L' k) (.row e sz xs fz):=by
     unfold dT;simp only[C.hpr k (sP i1)];exact λhn9=>fresh rfl hn9
    split<;>exact this
   |box cs o9 f9=>
    cases o9 with
    |true=>
     have h9:=fresh rfl trivial;split
     .rename_i e
      have h8:fh h k=none∨∃cs0 f0,fh h k=some (.box cs0 false f0):=by
       cases h7:h k with
       |none=>left;simp[fh,h7]
       |some b1=>
        right
        obtain⟨cs0,o0,f0,rfl⟩:=hi.bx b1 (by rw[<-e];exact h7);exact⟨cs0,f0,by rw[tY i1 h7,if_pos e];rfl⟩
      rcases h8 with h8|⟨cs0,f0,h8⟩
      .have h7:h k=none:=by
        cases h7:h k with
        |none=>rfl
        |some b1=>rw[tY i1 h7]at h8;cases h8
       have:jA h k=true:=by simp[jA,h7]
       rw[this];exact h9
      .obtain⟨cs',h6,_⟩:=hp1 k cs0 f0 h8
       rw[d1]at h6;cases h6
     .exact h9
    |false=>
     obtain⟨cs0,f0,h7⟩:=hp2 k cs f9 d1;obtain⟨cs',h6,h5⟩:=hp1 k cs0 f0 h7;rw[d1]at h6;injection h6 with h6;injection h6 with h6a _ h6b;obtain⟨_,b1,g2,g3,g4⟩:=gQ h7
     have e:k=290:=by
      refine Classical.byContradiction λe=>e ?_;have:=g4 e;subst this;exact hi.pin k cs0 f0 i1 g2
     rw[if_pos e];obtain⟨cs1,o1,f1,rfl⟩:=hi.bx b1 (by rw[<-e];exact g2);have ho:=hm.own k _ g2
     have:jA h k=o1:=by simp[jA,g2]
     rw[this];show dT C k (L' k) (.box cs o1 f9)
     cases o1 with
     |true=>
      have ho:C.w0.heap.size<=(L k).b∨(C.S (L k).b∧∀o,¬C.M0 (L k).b o):=ho;show C.w0.heap.size<=(L' k).b∨(C.S (L' k).b∧∀o,¬C.M0 (L' k).b o);rw[h5];exact ho
     |false=>
      obtain⟨a1,a2,a3,a4,a5⟩:=ho;refine⟨h6b,?_,?_,?_,?_⟩
      .rw[h5];exact a2
      .rw[h5];exact a3
      .rw[h5];exact a4
      .rw[h5];exact a5
  .rw[hL0 k i1]
   have:=hm.own k b0 d1
   cases b0 with
   |box cs o f=>cases o<;>exact this
   |row=>exact this
   |mp=>exact this
def nX(C:Cx)(Q:St->Prop)(f:Operand)(xs:List Operand)(d:Option Nat)(st:St):Prop:=
 ∃g Post,bC (st.ev f)=some (g,[],[])∧InOk st.h∧kC C.P g (xs.map st.ev) (fh st.h) Post∧(xs.map st.ev).all nR=true∧bX C.N d=true∧
  ∀r h',LookH h'->nR r=true->Post r h'->Q (St.put ⟨λn=>dO (st.t n),dX st.h h'⟩ d r [])
theorem WP.takeG{K:St->Prop}(hKs:∀st a w,eO C st a w->K st->∃st',eO C st' a w∧cU C.P hn C.N ops (Q .normal) post st')(hops:ops.toList=pre++o::post)(hop:o.op=.call {callee:=.value f,args:=xs.toArray,argTypes:=ats})(hg:o.guard=none)
 (hq:cU C.P hn C.N ops (nX C K f xs o.dst) pre st):WP C (.region id ops false) Q st:=by
 intro a w hs;refine wp_region_list ?_;rw[hops];refine gt (λst1 a1 w1 hs1 hq1=>?_) hs hq;obtain⟨g,Post,hce,hi,⟨hcall,hD⟩,hokA,hdN,hQ⟩:=hq1;obtain⟨L,hm,hN,hdf,ht⟩:=hs1;refine wpList_step (λK hK=>?_);rw[fO hg,if_pos rfl];obtain⟨vs,us,hfv,hv1,hv2⟩:=gO (cD ht f) hce;have hvs:=hv1.nil_inv;have hus:=hv2.nil_inv;subst hvs;subst hus
 have htl:∀b,io (fh st1.h) L b->∀o,ag C L st1.h b o:=by
  intro b hb o;obtain⟨k,blk,h1,h2,h3,rfl⟩:=hb;obtain⟨i1,b0,g1,g2,g3⟩:=gQ h1;by_cases e:k=290
  .rw[g2 e]at h3;exact .inr ⟨k,b0,g1,ip.1 h3,rfl,hi.nf k b0 o i1 g1⟩
  .rw[g3 e]at h3;exact .inr ⟨k,b0,g1,h3,rfl,hi.nf k b0 o i1 g1⟩
 have hMeq:sC (λb o=>ag C L st1.h b o∧¬io (fh st1.h) L b) L (fh st1.h)=ag C L st1.h:=by
  funext b o
  refine propext ⟨?_,λh9=>?_⟩
  .rintro(h9|⟨k,blk,h1,h2,h3,h4⟩)
   .exact h9.1
   .obtain⟨i1,b0,g1,g2,g3⟩:=gQ h1
    by_cases e:k=290
    .rw[g2 e]at h2;exact .inr ⟨k,b0,g1,ip.1 h2,h3,hi.nf k b0 o i1 g1⟩
    .rw[g3 e]at h2;exact .inr ⟨k,b0,g1,h2,h3,hi.nf k b0 o i1 g1⟩
  .by_cases h8:io (fh st1.h) L b
   .obtain⟨k,blk,h1,h2,h3,h4⟩:=h8
    refine .inr ⟨k,blk,h1,h3,h4.symm,?_⟩;obtain⟨i1,b0,g1,g2,g3⟩:=gQ h1;by_cases e:k=290
    .rw[g2 e];exact λh7=>hi.nf k b0 o i1 g1 (yQ.1 h7)
    .rw[g3 e];exact hi.nf k b0 o i1 g1
   .exact .inl ⟨h9,h8⟩
 have hkin:∀k blk,inK k=true->st1.h k=some blk->∃blk',fh st1.h k=some blk'∧dg blk (L k) blk' (L k):=by
  intro k blk hik h1;refine⟨_,tY hik h1,?_⟩;split
  .exact sQ (bW _ _)
  .exact bW _ _
 have hin:TrIn w1 (λb o=>ag C L st1.h b o∧¬io (fh st1.h) L b) L (fh st1.h):=by
  refine⟨?_,?_,?_,?_⟩
  .intro k blk hk
   rw[hMeq];obtain⟨i1,b0,g1,g2,g3⟩:=gQ hk;have hb:=(hm.bl k b0 g1).inK (Pres.refl _ _) hkin (λcs o f e=>hi.cl k cs o f i1 (by rw[g1,e])) (λ_=>rfl);by_cases e:k=290
   .rw[g2 e];cases b0<;>exact hb
   .rw[g3 e];exact hb
  .intro k k' b1 b2 hne h1 h2 hl hl'
   obtain⟨i1,c1,g1,g2,g3⟩:=gQ h1;obtain⟨i2,c2,e1,e2,e3⟩:=gQ h2;refine hm.sep k k' c1 c2 hne g1 e1 ?_ ?_
   .by_cases e:k=290
    .rw[g2 e]at hl;exact ip.1 hl
    .rw[g3 e]at hl;exact hl
   .by_cases e:k'=290
    .rw[e2 e]at hl';exact ip.1 hl'
    .rw[e3 e]at hl';exact hl'
  .exact λk blk h1 h2 h3 o h9=>h9.2 ⟨k,blk,h1,h2,h3,rfl⟩
  .intro k cs f hk o
   obtain⟨i1,b0,g1,g2,g3⟩:=gQ hk
   have hl0:b0.live (L k):=by
    by_cases e:k=290
    .have h8:=g2 e
     cases b0 with
     |box=>exact trivial
     |row=>cases h8
     |mp=>exact trivial
    .rw[<-g3 e];exact trivial
   refine⟨.inr ⟨k,b0,g1,hl0,rfl,hi.nf k b0 o i1 g1⟩,?_⟩;rintro⟨k',blk',h1,h2,h3,h4⟩;obtain⟨i2,c2,e1,e2,e3⟩:=gQ h1
   have hne:k≠k':=by
    intro e;rw[<-e,hk]at h1;injection h1 with h1;rw[<-h1]at h2;cases h2
   refine hm.sep k k' b0 c2 hne g1 e1 hl0 ?_ h4;by_cases e:k'=290
   .rw[e2 e]at h3;exact ip.1 h3
   .rw[e3 e]at h3;exact h3
 have hrepA:aB w1 (sC (λb o=>ag C L st1.h b o∧¬io (fh st1.h) L b) L (fh st1.h)) L (fh st1.h) (xs.map st1.ev) (xs.map a1.eval):=by
  rw[hMeq];refine⟨by simp,λi p u hp hu=>?_⟩;have hok:=List.all_eq_true.1 hokA p (List.mem_of_getElem? hp);simp only[List.getElem?_map,Option.map_eq_some_iff]at hp hu;obtain⟨x,hx,rfl⟩:=hp;obtain⟨y,hy,rfl⟩:=hu;rw[hx]at hy;injection hy with hy;subst hy;exact ov (Pres.refl _ _) hkin hok (cD ht x)
 have hcalls:=hD w1 _ L (xs.map a1.eval) (λb o h9=>hm.mlt h9.1) hin hrepA
 have hrun:(execOp a1.eval o).run C.P w1=.ok (.enter g (xs.map a1.eval).toArray) w1:=by
  unfold bZ at hcall
  cases hfn:C.P.funcs[g]? with
  |none=>rw[hfn]at hcall;cases hcall
  |some fn=>
   rw[hfn]at hcall;simp only[Bool.and_eq_true,Bool.not_eq_true',beq_eq_false_iff_ne,ne_eq]at hcall
   have hb:fn.body.isNone=false:=by cases hbb:fn.body<;>simp_all
   unfold execOp;rw[hop];simp only[resolve,hfv,Deferred.ofValue,pure_bind,Sem.run_bind,Result.andThen_ok,invoke,callFunc,program,Sem.run,hfn];simp[hcall.2,hb]
 unfold Oper.wp;rw[hrun];simp only[Oper.upon];refine hcalls.mono ?_;rintro ee w' ⟨v,r,L',h',rfl,hx,hlk,htr,hr,hokr,hpost,hp1,hp2,hnew⟩;obtain⟨L2,hL2,hm2,hkill,hback⟩:=hm.takeStep hi hx hlk htr hp1 hp2 hnew;refine hK _ _ ?_;obtain⟨st9,hs9,hq9⟩:=hKs _ _ _ (eO.put hm2 hN hdf (λn=>hkill (ht n)) hdN (aG.refl hm2) (hback hokr hr)) (hQ r h' hlk hokr hpost);exact gF (λst' a' w' hs' hq'=>⟨st',hs',hq'⟩) hs9 hq9
theorem WP.take(hops:ops.toList=pre++o::post)(hop:o.op=.call {callee:=.value f,args:=xs.toArray,argTypes:=ats})(hg:o.guard=none)
 (hq:cU C.P hn C.N ops (nX C (cU C.P hn C.N ops (Q .normal) post) f xs o.dst) pre st):WP C (.region id ops false) Q st:=WP.takeG (λst _ _ hs hk=>⟨st,hs,hk⟩) hops hop hg hq
end
attribute [simp] iV fa ry fR lD
def rk(d k' q:Nat):Nat:=if q=d then k' else q
def gR(d k':Nat):XV->XV
 |.barr k n c=>.barr (rk d k' k) n c
 |.mp k=>.mp (rk d k' k)
 |.suf k o n t=>.suf (rk d k' k) o n t
def aN(d k':Nat):AV->AV
 |.pv p=>.pv p
 |.ptr k o=>.ptr (rk d k' k) o
 |.arr k n=>.arr (rk d k' k) n
 |.eptr k n i o=>.eptr (rk d k' k) n i o
 |.ext x=>.ext (gR d k' x)
 |_=>.undef
def aY(d k':Nat):AV->AV
 |.agg cs=>.agg (cs.map (aN d k'))
 |.fn f a b=>.fn f (a.map (aN d k')) (b.map (aN d k'))
 |.tup cs=>.tup (cs.map (aN d k'))
 |x=>aN d k' x
def bN(d k':Nat):Blk->Blk
 |.box cs o f=>.box (cs.map (aY d k')) o f
 |b=>b
def aL(d k':Nat)(h:Hp):Hp:=λq=>if q=k' then(h d).map (bN d k')else if q=d then none else(h q).map (bN d k')
theorem rz:(bN d k' b).live l↔b.live l:=by cases b<;>exact Iff.rfl
theorem D2{o:Nat}:(bN d k' b).frz o↔b.frz o:=by cases b<;>exact Iff.rfl
theorem Aa(d k':Nat)(b:Blk)(l:Loc):dg b l (bN d k' b) l:=by
 cases b with
 |box=>exact rfl
 |row=>exact⟨rfl,rfl,Nat.le_refl _,λ_=>rfl⟩
 |mp=>exact⟨rfl,rfl,rfl⟩
theorem BM{w:World}{L L2:Nat->Loc}{h2:Hp}(hp:Pres w M w M')(hk:∀k blk,h k=some blk->∃blk',h2 (rk d k' k)=some blk'∧dg blk (L k) blk' (L2 (rk d k' k)))(hx:RepA w M L h x u):RepA w M' L2 h2 (aY d k' x) u:=by
 have one:∀{x:AV}{u:Value},RepA w M L h x u->RepA w M' L2 h2 (aN d k' x) u:=by
  intro x u hx
  cases hx with
  |pv hr=>exact .pv (hr.mono hp)
  |@ptr k off cs own fz hb=>
   obtain⟨blk',h1,h2⟩:=hk k _ hb
   cases blk' with
   |row=>exact h2.elim
   |mp=>exact h2.elim
   |box cs' own' fz'=>have h2:(L2 (rk d k' k)).b=(L k).b:=h2;rw[<-h2];exact .ptr h1
  |@arr k n e sz fz xs u hb hn hu=>
   obtain⟨blk',h1,h2⟩:=hk k _ hb
   cases blk' with
   |box=>exact h2.elim
   |mp=>exact h2.elim
   |row e' sz' xs' fz'=>
    obtain⟨_,e1,e2,e3⟩:=h2;refine .arr h1 (by omega) (λe=>?_)
    have:xs'.length=xs.length:=by omega
    rw[e3 this];exact hu (by omega)
  |@eptr k n i off e sz fz xs u hb hn hu=>
   obtain⟨blk',h1,h2⟩:=hk k _ hb
   cases blk' with
   |box=>exact h2.elim
   |mp=>exact h2.elim
   |row e' sz' xs' fz'=>
    obtain⟨_,e1,e2,e3⟩:=h2;refine .eptr h1 (by omega) (λe=>?_)
    have:xs'.length=xs.length:=by omega
    rw[e3 this,e1];exact hu (by omega)
  |ext hx'=>
   cases hx' with
   |@barr k n c cs own fz hc hb=>
    obtain⟨blk',h1,h2⟩:=hk k _ hb
    cases blk' with
    |row=>exact h2.elim
    |mp=>exact h2.elim
    |box cs' own' fz'=>have h2:(L2 (rk d k' k)).b=(L k).b:=h2;rw[<-h2];exact .ext (.barr hc h1)
   |@mp k n kd es fz hb=>
    obtain⟨blk',h1,h2⟩:=hk k _ hb
    cases blk' with
    |row=>exact h2.elim
    |box=>exact h2.elim
    |mp kd' n' es' fz'=>have h2:kd'=kd∧n'=n∧(L2 (rk d k' k)).b=(L k).b:=h2;rw[<-h2.2.2];exact .ext (.mp h1)
   |@suf k o n t e sz fz xs u hs0 hb hn ht hu=>
    obtain⟨blk',h1,h2⟩:=hk k _ hb
    cases blk' with
    |box=>exact h2.elim
    |mp=>exact h2.elim
    |row e' sz' xs' fz'=>
     obtain⟨_,e1,e2,e3⟩:=h2;refine .ext (.suf hs0 h1 hn (by omega) (λe=>?_))
     have:xs'.length=xs.length:=by omega
     rw[e3 this,e1];exact hu (by omega)
  |undef=>exact .undef _
  |agg=>exact .undef _
  |fn=>exact .undef _
  |tup=>exact .undef _
 cases hx with
 |agg cs vs hl hh=>
  refine .agg _ vs (by simpa using hl) λi p u hp hu=>?_;simp only[List.getElem?_map,Option.map_eq_some_iff]at hp;obtain⟨q,hq,rfl⟩:=hp;exact one (hh i q u hq hu)
 |fn f first caps vs us hl hk' h1 h2=>
  refine .fn f _ _ vs us (by simpa using hl) (by simpa using hk') (λi p u hp hu=>?_) (λi p u hp hu=>?_)
  .simp only[List.getElem?_map,Option.map_eq_some_iff]at hp
   obtain⟨q,hq,rfl⟩:=hp;exact one (h1 i q u hq hu)
  .simp only[List.getElem?_map,Option.map_eq_some_iff]at hp
   obtain⟨q,hq,rfl⟩:=hp;exact one (h2 i q u hq hu)
 |tup cs vs hl hh=>
  refine .tup _ vs (by simpa using hl) λi p u hp hu=>?_;simp only[List.getElem?_map,Option.map_eq_some_iff]at hp;obtain⟨q,hq,rfl⟩:=hp;exact one (hh i q u hq hu)
 |pv hr=>exact one (.pv hr)
 |ptr hb=>exact one (.ptr hb)
 |arr hb hn hu=>exact one (.arr hb hn hu)
 |eptr hb hn hu=>exact one (.eptr hb hn hu)
 |ext hx'=>exact one (.ext hx')
 |undef=>exact .undef _
theorem WP.ren(d k':Nat)(hne:d≠k')(hk':st.h k'=none)(hlt:k'<2000000)(hd2:∀cs f,st.h d≠some (.box cs false f))
 (h:WP C c Q ⟨λn=>aY d k' (st.t n),aL d k' st.h⟩):WP C c Q st:=by
 intro a w hs;obtain⟨L,hm,hN,hdf,htm⟩:=hs
 let L2:Nat->Loc:=λq=>if q=k' then L d else L q
 have hLr:∀{k blk},st.h k=some blk->L2 (rk d k' k)=L k:=by
  intro k blk hk;unfold rk;split
  .rename_i e;subst e;exact if_pos rfl
  .rename_i e
   have:k≠k':=by intro e2;rw[e2,hk']at hk;cases hk
   exact if_neg this
 have get:∀{q b},aL d k' st.h q=some b->∃q0 b0,q=rk d k' q0∧st.h q0=some b0∧b=bN d k' b0:=by
  intro q b hq;unfold aL at hq;split at hq
  .rename_i e
   simp only[Option.map_eq_some_iff]at hq;obtain⟨b0,h1,rfl⟩:=hq;exact⟨d,b0,by simp[rk,e],h1,rfl⟩
  .split at hq
   .cases hq
   .rename_i e1 e2
    simp only[Option.map_eq_some_iff]at hq;obtain⟨b0,h1,rfl⟩:=hq;exact⟨q,b0,by simp[rk,e2],h1,rfl⟩
 have put:∀{k blk},st.h k=some blk->aL d k' st.h (rk d k' k)=some (bN d k' blk):=by
  intro k blk hk;unfold rk;split
  .rename_i e;subst e;simp[aL,hk]
  .rename_i e
   have:k≠k':=by intro e2;rw[e2,hk']at hk;cases hk
   simp[aL,this,e,hk]
 have inj:∀{k k2 b b2},st.h k=some b->st.h k2=some b2->rk d k' k=rk d k' k2->k=k2:=by
  intro k k2 b b2 h1 h2 e
  have n1:k≠k':=by intro e2;rw[e2,hk']at h1;cases h1
  have n2:k2≠k':=by intro e2;rw[e2,hk']at h2;cases h2
  unfold rk at e;split at e<;>split at e
  .rename_i e1 e2;rw[e1,e2]
  .exact absurd e.symm n2
  .exact absurd e n1
  .exact e
 have hM:∀b o,ag C L2 (aL d k' st.h) b o->ag C L st.h b o:=by
  rintro b o (h0|⟨q,b1,hq,hl,hb,hf⟩)
  .exact .inl h0
  .obtain⟨q0,b0,rfl,h1,rfl⟩:=get hq
   rw[hLr h1]at hl hb;exact .inr ⟨q0,b0,h1,rz.1 hl,hb,λh9=>hf (D2.2 h9)⟩
 have hp:Pres w (ag C L st.h) w (ag C L2 (aL d k' st.h)):=Pres.sub hM;have hkk:∀k blk,st.h k=some blk->∃blk',aL d k' st.h (rk d k' k)=some blk'∧dg blk (L k) blk' (L2 (rk d k' k)):=λk blk hk=>⟨_,put hk,by rw[hLr hk];exact Aa _ _ _ _⟩;have hrep:∀{x u},RepA w (ag C L st.h) L st.h x u->RepA w (ag C L2 (aL d k' st.h)) L2 (aL d k' st.h) (aY d k' x) u:=λhx=>BM hp hkk hx;refine h a w ⟨L2,⟨hm.ext,hm.m0,?_,?_,?_⟩,hN,hdf,λn=>hrep (htm n)⟩
 .intro q b hq
  obtain⟨q0,b0,rfl,h1,rfl⟩:=get hq;rw[hLr h1];have hb:=hm.bl q0 b0 h1
  cases b0 with
  |box cs own fz=>
   obtain⟨arr,ty,e,hl,hr⟩:=hb;refine⟨arr,ty,e,by simpa using hl,λi p u hp' hu=>?_⟩;simp only[List.getElem?_map,Option.map_eq_some_iff]at hp';obtain⟨z,hz,rfl⟩:=hp';exact hrep (hr i z u hz hu)
  |row e sz xs fz=>
   obtain⟨a1,a2,a3,a4,a5⟩:=hb;refine⟨a1,a2,a3,a4,λhn=>?_⟩;obtain⟨b1,b2,arr,b3,b4,b5⟩:=a5 hn;exact⟨b1,b2,arr,b3,b4,λi x j p hx hj=>by obtain⟨u,hu,hr⟩:=b5 i x j p hx hj;exact⟨u,hu,hr.mono hp⟩⟩
  |mp kd n es fz=>exact hb
 .intro q q' b1 b2 hqq hq hq' hl hl'
  obtain⟨p1,c1,rfl,d1,rfl⟩:=get hq;obtain⟨p2,c2,rfl,d2,rfl⟩:=get hq';rw[hLr d1]at hl|-;rw[hLr d2]at hl'|-;exact hm.sep p1 p2 c1 c2 (λe=>hqq (by rw[e])) d1 d2 (rz.1 hl) (rz.1 hl')
 .intro q b hq
  obtain⟨q0,b0,rfl,h1,rfl⟩:=get hq;rw[hLr h1];have hown:=hm.own q0 b0 h1;by_cases e:q0=d
  .subst e
   have e1:rk q0 k' q0=k':=by simp[rk]
   rw[e1]
   cases b0 with
   |box cs own fz=>
    cases own with
    |false=>exact absurd h1 (hd2 cs fz)
    |true=>exact hown
   |row e sz xs fz=>
    unfold dT bN;simp only[C.hpr k' hlt];exact λhn=>hown.row hn
   |mp=>exact hown
  .have e1:rk d k' q0=q0:=by simp[rk,e]
   rw[e1]
   cases b0 with
   |box cs own fz=>cases own<;>exact hown
   |row=>exact hown
   |mp=>exact hown
theorem WP.nilRows(K:Nat->Bool)(e kb:Nat){cs cs':List AV}{own fb:Bool}(hb:st.h kb=some (.box cs own fb))(hK:∀q,K q=true->st.h q=none∧q<2000000)
 (hlen:cs'.length=cs.length)(hcs:∀(i:Nat) x,cs'[i]?=some x->cs[i]?=some x∨(cs[i]?=some (.pv (.val (.slice none 0 0)))∧∃q,K q=true∧x=.arr q 0))
 (h:WP C c Q ⟨st.t,λq=>if K q=true then some (.row e 1 [] 0)else if q=kb then some (.box cs' own fb)else st.h q⟩):WP C c Q st:=by
 intro a w hs;obtain⟨L,hm,hN,hdf,htm⟩:=hs
 let L2:Nat->Loc:=λq=>if K q=true then⟨0,0,true⟩else L q
 let h2:Hp:=λq=>if K q=true then some (.row e 1 [] 0)else if q=kb then some (.box cs' own fb)else st.h q
 have hkb:K kb=false:=by
  cases h1:K kb with
  |false=>rfl
  |true=>rw[(hK kb h1).1]at hb;cases hb
 have hL:∀{q b},st.h q=some b->K q=false∧L2 q=L q:=by
  intro q b hq
  have:K q=false:=by
   cases h1:K q with
   |false=>rfl
   |true=>rw[(hK q h1).1]at hq;cases hq
  exact⟨this,by simp[L2,this]⟩
 have get:∀{q b},h2 q=some b->(K q=true∧b=.row e 1 [] 0)∨(K q=false∧q=kb∧b=.box cs' own fb)∨(K q=false∧q≠kb∧st.h q=some b):=by
  intro q b hq;simp only[h2]at hq;split at hq
  .rename_i h1;injection hq with hq;exact .inl ⟨h1,hq.symm⟩
  .rename_i h1
   have h1:K q=false:=by simpa using h1
   split at hq
   .rename_i h3;injection hq with hq;exact .inr (.inl ⟨h1,h3,hq.symm⟩)
   .rename_i h3;exact .inr (.inr ⟨h1,h3,hq⟩)
 have hM:∀b o,ag C L2 h2 b o->ag C L st.h b o:=by
  rintro b o (h0|⟨q,b1,hq,hl,hbb,hf⟩)
  .exact .inl h0
  .rcases get hq with⟨h1,rfl⟩|⟨h1,rfl,rfl⟩|⟨h1,_,h3⟩
   .simp[L2,h1,Blk.live]at hl
   .rw[(hL hb).2]at hbb
    exact .inr ⟨q,_,hb,trivial,hbb,hf⟩
   .rw[(hL h3).2]at hl hbb
    exact .inr ⟨q,b1,h3,hl,hbb,hf⟩
 have hp:Pres w (ag C L st.h) w (ag C L2 h2):=Pres.sub hM
 have hkc:KC L st.h L2 h2:=by
  intro q b hq;obtain⟨h1,h3⟩:=hL hq;rw[h3];by_cases e1:q=kb
  .subst e1
   rw[hb]at hq;injection hq with hq;subst hq;exact⟨.box cs' own fb,by simp[h2,h1],rfl⟩
  .exact⟨b,by simp[h2,h1,e1,hq],bW _ _⟩
 refine h a w ⟨L2,⟨hm.ext,hm.m0,?_,?_,?_⟩,hN,hdf,λn=>(htm n).mono hp hkc⟩
 .intro q b hq
  rcases get hq with⟨h1,rfl⟩|⟨h1,rfl,rfl⟩|⟨h1,_,h3⟩
  .refine⟨Nat.one_pos,Nat.le_refl _,(λx hx=>by cases hx),λ_=>rfl,λhn=>?_⟩
   simp[L2,h1]at hn
  .obtain⟨arr,ty,e1,e2,e3⟩:=hm.bl q _ hb
   refine⟨arr,ty,by rw[(hL hb).2];exact e1,by rw[hlen];exact e2,λi p u hp' hu=>?_⟩;rcases hcs i p hp' with h3|⟨h3,q',h4,rfl⟩
   .exact(e3 i p u h3 hu).mono hp hkc
   .have hv:=e3 i _ u h3 hu
    cases hv with
    |pv hr=>
     rw[aJ hr];refine .arr (xs:=[]) (e:=e) (sz:=1) (fz:=0) (by simp[h2,h4]) (Nat.le_refl _) (λ_=>?_);simp[L2,h4,Loc.slice]
  .rw[(hL h3).2]
   exact(hm.bl q b h3).mono hp hkc (λ_=>rfl)
 .intro q q' b1 b2 hqq hq hq' hl hl'
  have aux:∀{q b},h2 q=some b->b.live (L2 q)->∃b0,st.h q=some b0∧b0.live (L q)∧L2 q=L q:=by
   intro q b hq hl;rcases get hq with⟨h1,rfl⟩|⟨h1,rfl,rfl⟩|⟨h1,_,h3⟩
   .simp[L2,h1,Blk.live]at hl
   .exact⟨_,hb,trivial,(hL hb).2⟩
   .rw[(hL h3).2]at hl;exact⟨b,h3,hl,(hL h3).2⟩
  obtain⟨c1,d1,f1,g1⟩:=aux hq hl;obtain⟨c2,d2,f2,g2⟩:=aux hq' hl';rw[g1,g2];exact hm.sep q q' c1 c2 hqq d1 d2 f1 f2
 .intro q b hq
  rcases get hq with⟨h1,rfl⟩|⟨h1,rfl,rfl⟩|⟨h1,_,h3⟩
  .refine dT.mkRow (hK q h1).2 (λhn=>?_)
   simp[L2,h1]at hn
  .have:=hm.own q _ hb
   rw[(hL hb).2];cases own<;>exact this
  .rw[(hL h3).2];exact hm.own q b h3
attribute [simp] aY aN gR rk bN aL
end Go.Ab
