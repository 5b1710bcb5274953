/- The contracts and facts that the laws of this seat need, in one text (Rd, Ab26, Ab29, Ab35, Ab36). -/
import Derived.Test.YtdbgcnplnhmjgaaGreatV4
import Derived.Test.YtdbgcnplnhmjgaaGreatRows
set_option linter.all false
set_option maxRecDepth 10000
namespace Go.Ab
open IntKind (i64)
open Go.Proofs.Tryz
open Go.Proofs Go.Proofs.YtdbgcnplnhmjgaaGreat
theorem own:ownKnob prog.godebug=none:=by kernel_rfl
theorem kids:Kids prog (·< prog.types.size):=kids_rows (by kernel_rfl) (by kernel_rfl)
theorem full:∀t e,t<prog.types.size->prog.underlying t=some (.slice e)->0<prog.cellsOf e:=slices_full_of prog (by kernel_rfl)
section
variable {H:Type}
theorem IZ:lx H prog 3 (λi=>.val (.int .i64 i)) (λi=>i64.min<=i/\i<=i64.max) (λ_=>1):=BR Tryz.underlying3
theorem By:lx H prog 31 (λl:List Int=>.sl (l.map λi=>.val (.int .i64 i))) (λl=>l.length<=9223372036854775807/\∀a∈l,i64.min<=a/\a<=i64.max) (λl=>(l.map λ_=>1).sum+1):=ke Tryz.underlying31 IZ
theorem Eu:lx H prog 2 (λi=>.val (.int .i64 i)) (λi=>i64.min<=i/\i<=i64.max) (λ_=>1):=BR Tryz.underlying2
theorem Cf:lx H prog 30 (λl:List Int=>.sl (l.map λi=>.val (.int .i64 i))) (λl=>l.length<=9223372036854775807/\∀a∈l,i64.min<=a/\a<=i64.max) (λl=>(l.map λ_=>1).sum+1):=ke Tryz.underlying30 Eu
theorem KF:lx H prog 81 bu (λ_=>True) (λ_=>1):=by
 intro d h;obtain⟨x,rfl,b,a⟩:=mg Tryz.underlying81 h;obtain⟨a0,o,p,a3,a4,q,r,s,u,v,rfl⟩:=Pq b;obtain⟨e,rfl⟩:=GA (H:=H) Tryz.underlying9 (a 0 _ _ rfl rfl);obtain⟨f,rfl,_⟩:=gp (H:=H) Tryz.underlying3 (a 1 _ _ rfl rfl);obtain⟨g,rfl,_⟩:=gp (H:=H) Tryz.underlying3 (a 2 _ _ rfl rfl);obtain⟨vx,vy,c,rfl⟩:=A8 (H:=H) Tryz.underlying68 Tryz.underlying2 (d:=a3) (a 3 _ _ rfl rfl);obtain⟨i,rfl,_⟩:=gp (H:=H) Tryz.underlying2 (a 4 _ _ rfl rfl);obtain⟨j,rfl,_⟩:=gp (H:=H) Tryz.underlying2 (a 5 _ _ rfl rfl);obtain⟨k,rfl,_⟩:=gp (H:=H) Tryz.underlying2 (a 6 _ _ rfl rfl);obtain⟨l,rfl,_⟩:=gp (H:=H) Tryz.underlying2 (a 7 _ _ rfl rfl);obtain⟨m,rfl,_⟩:=gp (H:=H) Tryz.underlying2 (a 8 _ _ rfl rfl);obtain⟨n,rfl,_⟩:=gp (H:=H) Tryz.underlying2 (a 9 _ _ rfl rfl);exact⟨⟨⟨e.toArray⟩,f,g,vx,vy,c,i,j,k,l,m,n⟩,by simp[gn,vX,gW,ip,eV],trivial,by simp[rZ]⟩
theorem MJ:lx H prog 122 cE (λ_=>True) (λ_=>1):=by
 intro d h;obtain⟨j,rfl,c,a⟩:=mg Tryz.underlying122 h;obtain⟨a0,i,b,rfl⟩:=GB c;obtain⟨f,rfl,_⟩:=gp (H:=H) Tryz.underlying3 (a 0 _ _ rfl rfl);obtain⟨g,rfl,_⟩:=gp (H:=H) Tryz.underlying2 (a 1 _ _ rfl rfl);obtain⟨vx,vy,e,rfl⟩:=A8 (H:=H) Tryz.underlying68 Tryz.underlying2 (d:=b) (a 2 _ _ rfl rfl);exact⟨⟨f,g,vx,vy,e⟩,by simp[gn,vX,gW,ip,eV],trivial,by simp[rZ]⟩
end
end Go.Ab
namespace Go.Ab
open IntKind (i64)
open Go.Proofs.Tryz
variable {C:Cx}{G G':List (Nat×Blk)}{M M':Nat->Nat->Prop}{P:Program}{Post:AV->Hp->Prop}{Q:Exit->St->Prop}{args:List AV}{ats:Array TypeId}{b b' blk:Blk}{c:Code}{d id k k' q:Nat}{f:Operand}{h h0:Hp}{hn ks:List Nat}{l:Loc}{o:Oper}{ops:Array Oper}{post pre:List Oper}{res:PV}{rs:List ResultVar}{st:St}{u:Value}{x:AV}{xs:List Operand}
theorem iX{C:Cx}{hn:List Nat}{ops:Array Oper}{Q:St->Prop}{Q':Exit->Act->World->Prop}{rest:List Oper}(j:∀st a w,gH C st a w->Q st->wpList C.P ops Q' rest a w):
 ∀{l:List Oper}{st:St}{a:Act}{w:World},gH C st a w->dP C.P hn C.N ops Q l st->wpList C.P ops Q' (l++rest) a w
 |[],st,a,w,r,e=>j st a w r e
 |o::l,st,a,w,r,e=>by
  obtain⟨L,k,hN,f,i⟩:=r;rw[dP.eq_2]at e;obtain⟨hd,e⟩:=e;rw[List.cons_append];refine wpList_step (λK n=>?_);split at e
  .rename_i p
   rw[eN i (pL p),VS rfl];exact xJ k hN f i hd e (λm s w' q c=>n _ _ (iX j c q))
  .rename_i d b want p
   rw[eN i (mK p)];unfold yn at e;simp only at e;split at e
   .rename_i g
    subst g;rw[VS (by simp)];exact xJ k hN f i hd e (λm s w' q c=>n _ _ (iX j c q))
   .rename_i g
    rw[VM (by simpa using g)];exact n _ _ (iX j (gH.put k hN f i hd (W:=[]) (aL.refl k) (.pv (.val _))) e)
  .exact e.elim
theorem qQ{w a:World}{L:Nat->Loc}(hp:Pres w M a M')(b:RepA w M L h x u):
 RepA a M' L (λk=>if ks.contains k=true then none else(h k).map (bG ks)) (az ks x) u:=
 (BI b).mono hp E9
def rekey(h:Hp)(ks:List Nat)(k:Nat)(blk:Blk):Hp:=λq=>if q=k then some blk else if ks.contains q=true then none else(h q).map (bG ks)
def St.rekey(st:St)(ks:List Nat)(k:Nat)(blk:Blk):St:=⟨λn=>az ks (st.t n),Go.Ab.rekey st.h ks k blk⟩
theorem sF(hq:rekey h ks k blk q=some b):(q=k/\b=blk)\/(q≠k/\q∉ks/\∃a,h q=some a/\b=bG ks a):=by
 unfold rekey at hq;split at hq
 .rename_i e;injection hq with hq;exact .inl ⟨e,hq.symm⟩
 .rename_i e
  split at hq
  .cases hq
  .rename_i f
   simp only[VK]at hq;obtain⟨a,c,d⟩:=hq;exact .inr ⟨e,by simpa using f,a,c,d.symm⟩
theorem uy(b:Blk)(l:Loc):(bG ks b).live l=b.live l:=by cases b<;>rfl
theorem Bz(b:Blk)(o:Nat):(bG ks b).frz o=b.frz o:=by cases b<;>rfl
theorem BA(h:ft C k l b):ft C k l (bG ks b):=by
 cases b with
 |box a own c=>cases own<;>exact h
 |row=>exact h
 |mp=>exact h
section
variable {C:Cx} {L:Nat->Loc} {h:Hp} {w:World}
theorem MemL.retake(l:MemL C L h w){e sz m:Nat}{xs:List PV}(A:h k=some (.row e sz xs 0)):
 MemL C L (rekey h [k] k (.row e sz (xs.take m) 0)) w/\∀x u,RepA w (ae C L h) L h x u->RepA w (ae C L (rekey h [k] k (.row e sz (xs.take m) 0))) L (rekey h [k] k (.row e sz (xs.take m) 0)) (az [k] x) u:=by
 have Y:∀b o,ae C L (rekey h [k] k (.row e sz (xs.take m) 0)) b o->ae C L h b o:=by
  rintro b o (h0|⟨q,blk,hq,d,P,hf⟩)
  .exact .inl h0
  .rcases sF hq with⟨rfl,rfl⟩|⟨_,_,a,g,rfl⟩
   .exact .inr ⟨q,_,A,d,P,hf⟩
   .rw[uy]at d;rw[Bz]at hf
    exact .inr ⟨q,a,g,d,P,hf⟩
 have hp:=Pres.sub (w:=w) Y
 have F:KC L (λq=>if[k].contains q=true then none else(h q).map (bG [k])) L (rekey h [k] k (.row e sz (xs.take m) 0)):=by
  intro q blk hq;simp only at hq;split at hq
  .cases hq
  .rename_i Q
   have r:q≠k:=by simpa using Q
   refine⟨blk,?_,dg _ _⟩;simp only[rekey,VM r,VM Q];exact hq
 have f:∀x u,RepA w (ae C L h) L h x u->RepA w (ae C L (rekey h [k] k (.row e sz (xs.take m) 0))) L (rekey h [k] k (.row e sz (xs.take m) 0)) (az [k] x) u:=
  λx u c=>(qQ (ks:=[k]) hp c).mono (Pres.refl _ _) F
 refine⟨⟨l.ext,l.m0,?_,?_,?_⟩,f⟩
 .intro q blk hq
  rcases sF hq with⟨rfl,rfl⟩|⟨_,_,a,g,rfl⟩
  .obtain⟨g1,g2,g3,g4,g5⟩:=l.bl q _ A
   refine⟨g1,WJ _,λx c=>g3 x (XR c),λhn=>by rw[g4 hn];simp,λhn=>?_⟩;obtain⟨J,B,arr,a3,a4,D⟩:=g5 hn;refine⟨by rw[WD];omega,B,arr,a3,a4,λi x j p c E=>?_⟩;rw[Wk]at c;split at c
   .obtain⟨u,z,I⟩:=D i x j p c E
    exact⟨u,z,I.mono hp⟩
   .cases c
  .have:=l.bl q a g
   cases a with
   |box cs own O=>
    obtain⟨arr,ty,W,N⟩:=this;refine⟨arr,ty,W,by simpa using N.1,λi p u v z=>?_⟩;simp only[VN,VK]at v;obtain⟨y,Z,rfl⟩:=v;exact f _ _ (N.2 i y u Z z)
   |row e' ad ys O=>
    obtain⟨J,B,a3,a4,D⟩:=this;refine⟨J,B,a3,a4,λhn=>?_⟩;obtain⟨K,M,arr,R,S,T⟩:=D hn;exact⟨K,M,arr,R,S,λi x j p c E=>by obtain⟨u,z,I⟩:=T i x j p c E;exact⟨u,z,I.mono hp⟩⟩
   |mp kd n es O=>exact this
 .intro q q' K M r hq H d G
  have s:∀{q b},rekey h [k] k (.row e sz (xs.take m) 0) q=some b->b.live (L q)->∃a,h q=some a/\a.live (L q):=by
   intro q b hq d;rcases sF hq with⟨rfl,rfl⟩|⟨_,_,a,g,rfl⟩
   .exact⟨_,A,d⟩
   .rw[uy]at d;exact⟨a,g,d⟩
  obtain⟨U,d1,f1⟩:=s hq d;obtain⟨V,d2,f2⟩:=s H G;exact l.sep q q' U V r d1 d2 f1 f2
 .intro q blk hq
  rcases sF hq with⟨rfl,rfl⟩|⟨_,_,a,g,rfl⟩
  .have X:=l.own q _ A;exact X
  .exact BA (l.own q a g)
end
section
variable {C:Cx} {Q:Exit->St->Prop} {st:St}
theorem lh{a:Act}(b:o.guard=none):Region.wanted o (yielded ops a.tmps)=true:=by
 unfold Region.wanted;rw[b]
end
attribute [simp] St.rekey rekey
def lY(ren:Nat->Nat):AV->AV
 |.ptr k a=>.ptr (ren k) a
 |.arr k n=>.arr (ren k) n
 |x=>x
def AO(ren:Nat->Nat):AV->AV
 |.agg a=>.agg (a.map (lY ren))
 |x=>lY ren x
def ni(K:List Nat):AV->Bool
 |.pv _=>true
 |.ptr k _=>K.contains k
 |.arr k _=>K.contains k
 |_=>false
def E2(K:List Nat):AV->Bool
 |.agg a=>a.all (ni K)
 |x=>ni K x
def bV:List (Nat×Blk)->Hp
 |[]=>λ_=>none
 |(k,b)::r=>λq=>if q=k then some b else bV r q
def iY(ren:Nat->Nat)(own:Bool):Blk->Blk
 |.box a _ _=>.box (a.map (lY ren)) own false
 |b=>b
def kn(K:List Nat)(k:Nat):Blk->Bool
 |.box b own a=>b.all (ni K)&& !own&& !a&&decide (1000000<=k)&&decide (k<2000000)
 |.row _ _ _ a=>decide (a=0)&&decide (2000000<=k)
 |.mp _ _ _ _=>false
def uz:Blk->Blk->Bool
 |.box _ _ _,.box _ _ _=>true
 |.row e d xs _,.row c a b _=>e==c&&d==a&&xs.length==b.length
 |_,_=>false
theorem fF(h:bV G k=some b):(k,b)∈G:=by
 induction G with
 |nil=>cases h
 |cons x r ih=>
  grind [bV,List.mem_cons_self,List.mem_cons_of_mem]
theorem lD(hn:(G.map (·.1)).Nodup)(h:(k,b)∈G):bV G k=some b:=by
 induction G with
 |nil=>cases h
 |cons x r ih=>
  grind [bV,List.nodup_cons]
section
variable {w:World} {M M':Nat->Nat->Prop} {L L':Nat->Loc} {h h':Hp} {ren:Nat->Nat} {K:List Nat}
theorem sG(m:∀b o,M' b o->M b o)(j:∀k∈K,∀blk,h (ren k)=some blk->∃a,h' k=some a/\em blk (L (ren k)) a (L' k))(g:ni K x=true)(i:RepA w M L h (lY ren x) u):RepA w M' L' h' x u:=by
 cases x with
 |pv p=>cases i with
  |pv q=>exact .pv (q.mono (Pres.sub m))
 |ptr k r=>
  cases i with
  |ptr f=>
   obtain⟨a,d,c⟩:=j k (by simpa[ni]using g) _ f
   cases a with
   |row=>exact c.elim
   |mp=>exact c.elim
   |box v own l=>
    have c:(L' k).b=(L (ren k)).b:=c;rw[<-c];exact .ptr d
 |arr k n=>
  cases i with
  |arr f hn y=>
   obtain⟨a,d,c⟩:=j k (by simpa[ni]using g) _ f
   cases a with
   |box=>exact c.elim
   |mp=>exact c.elim
   |row e z xs l=>
    obtain⟨_,_,s,a3⟩:=c;refine .arr d (by omega) (λe=>?_)
    grind
 |_=>cases g
theorem Jc(c:∀b o,M' b o->M b o)(d:∀k∈K,∀blk,h (ren k)=some blk->∃a,h' k=some a/\em blk (L (ren k)) a (L' k))(e:E2 K x=true)(f:RepA w M L h (AO ren x) u):RepA w M' L' h' x u:=by
 cases x with
 |agg g=>
  cases f with
  |agg _ vs l j=>
   refine .agg g vs (by simpa using l) (λi p u hp m=>?_);exact sG c d (VL.1 e p (Is hp)) (j i _ u (by simp[hp]) m)
 |_=>exact sG c d e f
theorem F4(m:∀b o,M' b o->M b o)(j:∀k∈K,∀blk,h' k=some blk->∃a,h (ren k)=some a/\em blk (L' k) a (L (ren k)))(g:ni K x=true)(i:RepA w M L' h' x u):RepA w M' L h (lY ren x) u:=by
 cases x with
 |pv p=>cases i with
  |pv q=>exact .pv (q.mono (Pres.sub m))
 |ptr k r=>
  cases i with
  |ptr f=>
   obtain⟨a,d,c⟩:=j k (by simpa[ni]using g) _ f
   cases a with
   |row=>exact c.elim
   |mp=>exact c.elim
   |box v own l=>
    have c:(L (ren k)).b=(L' k).b:=c;rw[<-c];exact .ptr d
 |arr k n=>
  cases i with
  |arr f hn y=>
   obtain⟨a,d,c⟩:=j k (by simpa[ni]using g) _ f
   cases a with
   |box=>exact c.elim
   |mp=>exact c.elim
   |row e z xs l=>
    obtain⟨_,_,s,a3⟩:=c;refine .arr d (by omega) (λe=>?_)
    grind
 |_=>cases g
end
def Ct(G:List (Nat×Blk))(L:Nat->Loc)(b:Nat):Prop:=∃k blk,bV G k=some blk/\blk.live (L k)/\b=(L k).b
structure OkG(G G':List (Nat×Blk)):Prop where
 keys:G'.map (·.1)=G.map (·.1)
 nodup:(G.map (·.1)).Nodup
 okin:∀k b,(k,b)∈G->kn (G.map (·.1)) k b=true
 okout:∀k b,(k,b)∈G'->kn (G.map (·.1)) k b=true
 same:∀k b b',bV G k=some b->bV G' k=some b'->uz b b'=true
def F5(P:Program)(f:FuncId)(args:List AV)(G c:List (Nat×Blk))(res:PV):Prop:=
 dm P f=true/\OkG G c/\∀(w:World)(M:Nat->Nat->Prop)(L:Nat->Loc)(vs:List Value),(∀b o,M b o->b<w.heap.size)->
  (∀k blk,bV G k=some blk->blk.live (L k)->∀o,M (L k).b o)->
  (∀k k' blk a,k≠k'->bV G k=some blk->bV G k'=some a->blk.live (L k)->a.live (L k')->(L k).b≠(L k').b)->
  (∀k blk,bV G k=some blk->dO w M L (bV G) (L k) blk)->aE w M L (bV G) args vs->
  Calls P f vs.toArray w λe w'=>∃v,e=.returned v/\Ext (Ct G L) w w'/\(∀k blk,bV c k=some blk->dO w' M L (bV c) (L k) blk)/\Rep w' M res v
def KX(args:List AV)(G:List (Nat×Blk)):St:=⟨λn=>(args[n]?).getD .undef,bV G⟩
def CF(P:Program)(rs:List ResultVar)(b:List (Nat×Blk))(res:PV)(st:St):Prop:=
 rx res=true/\(∃r,mM P st rs=some r/\∃W,frz st.h r=some (res,W))/\∀a∈b,st.h a.1=some a.2
def Jd(P:Program)(rs:List ResultVar)(a:List (Nat×Blk))(res:PV):Exit->St->Prop
 |.normal,st=>CF P rs a res st
 |.ret,st=>CF P rs a res st
 |_,_=>False
@[simp] theorem O8:Jd P rs G' res .normal st=CF P rs G' res st:=rfl
@[simp] theorem Qv:Jd P rs G' res .ret st=CF P rs G' res st:=rfl
theorem E3{f:FuncId}{fn:Func}(hf:P.funcs[f]?=some fn)(hb:fn.body=some c)(Y:dm P f=true)(cg:args.length<=fn.ntmps)(l:OkG G G')
 (h:∀C:Cx,C.P=P->C.N=fn.ntmps->WP C c (Jd P fn.results.toList G' res) (KX args G)):F5 P f args G G' res:=by
 refine⟨Y,l,λw M L vs hM b3 T a6 bq=>?_⟩;have okin:∀{k blk},bV G k=some blk->kn (G.map (·.1)) k blk=true:=λa=>l.okin _ _ (fF a);have okout:∀{k blk},bV G' k=some blk->kn (G.map (·.1)) k blk=true:=λa=>l.okout _ _ (fF a)
 have a8:(G'.map (·.1)).Nodup:=by rw[l.keys];exact l.nodup
 have B:∀{k blk},bV G k=some blk->∃d,bV G' k=some d:=by
  intro k blk a
  have F:k∈G'.map (·.1):=by rw[l.keys];exact Wf.2 ⟨_,fF a,rfl⟩
  obtain⟨⟨k',b'⟩,D,z⟩:=Wf.1 F;simp only at z;subst z;exact⟨b',lD a8 D⟩
 have bs:∀{k blk},bV G' k=some blk->∃d,bV G k=some d:=by
  intro k blk a
  have F:k∈G.map (·.1):=by rw[<-l.keys];exact Wf.2 ⟨_,fF a,rfl⟩
  obtain⟨⟨k',b'⟩,D,z⟩:=Wf.1 F;simp only at z;subst z;exact⟨b',lD l.nodup D⟩
 let I:Nat->Prop:=λb=>∃k e J xs A,bV G k=some (.row e J xs A)/\(L k).isNil=false/\b=(L k).b
 let C:Cx:={P:=P,N:=fn.ntmps,M0:=λb o=>M b o/\¬I b,S:=Ct G L,pb:=λk=>some (L k).b,pr:=λk=>if 2000000<=k then some (L k)else none,hpr:=(λk a=>by rw[VM (by omega)]),w0:=w}
 have ar:∀b o,ae C L (bV G) b o↔M b o:=by
  intro b o;constructor
  .rintro(h0|⟨k,blk,a,hl,cj,_⟩)
   all_goals grind
  .intro F
   by_cases hr:I b
   .obtain⟨k,e,J,xs,A,a,hn,rfl⟩:=hr
    refine .inr ⟨k,_,a,hn,rfl,?_⟩;have:=okin a;simp only[kn,An,L4]at this
    grind [Blk.frz]
   .exact .inl ⟨F,hr⟩
 have Q:ae C L (bV G)=M:=by funext b o;exact propext (ar b o)
 have cd:=bq.1
 have bc:gH C (KX args G) {tmps:=vs.toArray++Array.replicate (fn.ntmps-vs.toArray.size) undef,defers:=[]} w:=by
  refine⟨L,⟨Ext.refl _ _,λb o h0=>hM b o h0.1,?_,T,?_⟩,by show(vs.toArray++Array.replicate (fn.ntmps-vs.toArray.size) undef).size=fn.ntmps;simp;omega,ku.nil _,λn=>?_⟩
  .intro k blk a
   show dO w (ae C L (bV G)) L (bV G) (L k) blk;rw[Q];exact a6 k blk a
  .intro k blk a
   have s:=okin a
   cases blk with
   |mp=>cases s
   |box cs own A=>
    simp only[kn,An,Wy,L4]at s;obtain⟨⟨⟨⟨_,D⟩,z⟩,h3⟩,h4⟩:=s;subst D;subst z;refine⟨rfl,rfl,⟨k,_,a,trivial,rfl⟩,?_,λo=>⟨b3 k _ a trivial o,?_⟩⟩
    .exact(a6 k _ a).lt trivial
    .rintro⟨k',e,J,xs,A,m,b7,he⟩
     by_cases e':k=k'
     .subst e';rw[show bV G k=_ from a]at m;cases m
     .exact T k k' _ _ e' a m trivial b7 he
   |row e J xs A=>
    simp only[kn,An,L4]at s;show ft C k (L k) _;have hpr:C.pr k=some (L k):=VS s.2;unfold ft;simp only;rw[hpr];exact⟨rfl,λhn=>⟨⟨k,_,a,hn,rfl⟩,λo h9=>h9.2 ⟨k,e,J,xs,A,a,hn,rfl⟩⟩⟩
  .show RepA w (ae C L (bV G)) L (bV G) ((args[n]?).getD .undef) _
   rw[Q]
   cases hp:args[n]? with
   |none=>exact .undef _
   |some p=>
    have Z:n<vs.length:=by rw[<-cd];exact(th.1 hp).1
    have a7:(vs.toArray++Array.replicate (fn.ntmps-vs.toArray.size) undef).getD n undef=vs[n]:=by
     rw[VT,Wx (by simpa using Z)];simp[Z]
    simp only[a7];exact bq.2 n p _ hp (an Z)
 refine calls_of_wp_defers hf hb (wp_mono (h C rfl rfl _ w bc) ?_)
 have R:∀(V:Act) w' g,gH C g V w'->CF P fn.results.toList G' res g->ku P V.defers/\∃v,(results fn V.tmps).run P w'=.ok v w'/\
  ∃v',Ending.returned v=.returned v'/\Ext (Ct G L) w w'/\(∀k blk,bV G' k=some blk->dO w' M L (bV G') (L k) blk)/\Rep w' M res v':=by
  rintro V w' g ⟨L',F,hN,b0,ht⟩ ⟨b4,⟨r,hr,W,hW⟩,b9⟩;obtain⟨u,ca,cb⟩:=od (C:=C) F ht hr;have y:∀{k blk},bV G' k=some blk->g.h k=some blk:=λa=>b9 _ (fF a)
  have O:∀{k e J xs A},bV G' k=some (.row e J xs A)->L' k=L k:=by
   intro k e J xs A a;have s:=okout a;simp only[kn,An,L4]at s;have E:=F.own k _ (y a);have hpr:C.pr k=some (L k):=VS s.2;simp only[ft,hpr]at E;exact E.1
  have ad:∀{k cs own A},bV G' k=some (.box cs own A)->(L' k).b=(L k).b:=by
   intro k cs own A a;have s:=okout a;simp only[kn,An,Wy,L4]at s;obtain⟨⟨⟨⟨_,D⟩,z⟩,h3⟩,h4⟩:=s;subst D;subst z;have E:=(F.own k _ (y a)).2.1;injection E with E;exact E.symm
  have U:∀b o,M b o->ae C L' g.h b o:=by
   intro b o b5;by_cases ba:I b
   .obtain⟨k,e,J,xs,A,a,hn,rfl⟩:=ba
    obtain⟨d,m⟩:=B a;have hs:=l.same k _ _ a m
    cases d with
    |box=>cases hs
    |mp=>cases hs
    |row e' ck cm ch=>
     have s:=okout m;simp only[kn,An,L4]at s;refine .inr ⟨k,_,y m,?_,?_,?_⟩
     .show(L' k).isNil=false;rw[O m];exact hn
     .rw[O m]
     .rw[s.1];simp[Blk.frz]
   .exact .inl ⟨b5,ba⟩
  obtain⟨b1,b2,_⟩:=nH F (dh.refl _) cb hW;refine⟨b0,u,ca,u,rfl,F.ext,?_,?_⟩
  .intro k blk a
   have X:=F.bl k blk (y a)
   cases blk with
   |mp=>cases okout a
   |row e J xs A=>
    rw[O a]at X;obtain⟨g1,g2,g3,g4,g5⟩:=X;refine⟨g1,g2,g3,g4,λhn=>?_⟩;obtain⟨a1,a2,arr,a3,a4,a5⟩:=g5 hn;exact⟨a1,a2,arr,a3,a4,λi x j p hx hj=>by obtain⟨u,hu,hr⟩:=a5 i x j p hx hj;exact⟨u,hu,hr.mono (Pres.sub U)⟩⟩
   |box cs own A=>
    obtain⟨arr,ty,e1,e2⟩:=X;rw[ad a]at e1;refine⟨arr,ty,e1,e2.1,λi p u hp hu=>?_⟩;have s:=okout a;simp only[kn,An]at s;have b8:=VL.1 s.1.1.1.1 p (Is hp);have hx:=e2.2 i p u hp hu
    have e0:lY id p=p:=by cases p<;>rfl
    have cf:RepA w' (ae C L' g.h) L' g.h (lY id p) u:=by rw[e0];exact hx
    refine sG (ren:=id) (K:=G.map (·.1)) (M':=M) (L':=L) (h':=bV G') U (λq hq blk hb=>?_) b8 cf
    .obtain⟨⟨q',b'⟩,D,z⟩:=Wf.1 hq
     simp only at z;subst z;obtain⟨d,H⟩:=B (lD l.nodup D);refine⟨d,H,?_⟩;have h9:=y H;have bH:g.h q'=some blk:=hb;rw[bH]at h9;injection h9 with h9;subst h9
     cases blk with
     |mp=>cases okout H
     |box=>exact(ad H).symm
     |row=>exact⟨rfl,rfl,VU _,λ_=>(O H).symm⟩
  .exact pN b4 b2
 rintro e V w' ⟨g,bb,hq⟩
 cases e with
 |normal=>obtain⟨D,v,z,h3⟩:=R V w' g bb hq;exact jv D z h3
 |ret=>obtain⟨D,v,z,h3⟩:=R V w' g bb hq;exact jv D z h3
 |exit=>exact hq.elim
 |goto=>exact hq.elim
 |panic=>exact hq.elim
 |outgrown=>exact hq.elim
def mY(h:Hp)(q:Nat):Bool:=match h q with
 |some (.box _ own _)=>own
 |_=>false
def iU(ren:Nat->Nat)(h:Hp)(b:List (Nat×Blk)):List (Nat×Blk):=b.map λa=>(ren a.1,iY ren (mY h (ren a.1)) a.2)
theorem zI{ren:Nat->Nat}{g:Nat×Blk->Blk}:∀(l:List (Nat×Blk))(h:Hp),(l.map λx=>ren x.1).Nodup->∀x∈l,ak h (l.map λx=>(ren x.1,g x)) (ren x.1)=some (g x)
 |[],_,_,x,a=>by cases a
 |y::l,h,hn,x,a=>by
  rw[W5,Yq]at hn;rw[W5];show ak (ag h (ren y.1) (some (g y))) (l.map λx=>(ren x.1,g x)) (ren x.1)=_;rcases Wj.1 a with rfl|a
  .rw[lL,aJ]
   intro d b;obtain⟨z,c,rfl⟩:=Wf.1 b;intro e;exact hn.1 (Wf.2 ⟨z,c,e⟩)
  .exact zI l _ hn.2 x a
theorem pV{ren:Nat->Nat}{own:Bool}:(iY ren own b).live l↔b.live l:=by cases b<;>exact Xe
theorem yT{ren:Nat->Nat}{own:Bool}{K:List Nat}{o:Nat}(h:kn K k b=true):¬(iY ren own b).frz o:=by
 cases b with
 |mp=>cases h
 |box d a c=>simp[iY,Blk.frz]
 |row e f xs c=>
  simp_all[kn,An,iY,Blk.frz]
structure Share(h:Hp)(ren:Nat->Nat)(G G':List (Nat×Blk)):Prop where
 ok:OkG G G'
 inj:(G.map λx=>ren x.1).Nodup
 have_:∀kb∈G,h (ren kb.1)=some (iY ren (mY h (ren kb.1)) kb.2)
section
variable {C:Cx} {L:Nat->Loc} {h:Hp} {w:World} {ren:Nat->Nat} {G G':List (Nat×Blk)}
theorem Share.ren_inj(hs:Share h ren G G')(m:bV G k=some b)(a:bV G k'=some b')(e:ren k=ren k'):k=k':=by
 obtain⟨i,hi⟩:=Xb.1 (fF m);obtain⟨j,l⟩:=Xb.1 (fF a)
 have f:(G.map λx=>ren x.1)[i]?=some (ren k):=by simp[hi]
 have g:(G.map λx=>ren x.1)[j]?=some (ren k'):=by simp[l]
 obtain⟨n,c⟩:=th.1 f;obtain⟨o,d⟩:=th.1 g;have:i=j:=(List.getElem_inj hs.inj).1 (c.trans (e.trans d.symm))
 grind
theorem Share.inout(hs:Share h ren G G')(d:bV G k=some blk):∃a,bV G' k=some a:=by
 have e:k∈G'.map (·.1):=by rw[hs.ok.keys];exact Wf.2 ⟨_,fF d,rfl⟩
 obtain⟨⟨k',b'⟩,c,b⟩:=Wf.1 e;simp only at b;subst b;exact⟨b',lD (by rw[hs.ok.keys];exact hs.ok.nodup) c⟩
theorem Share.outin(hs:Share h ren G G')(d:bV G' k=some blk):∃a,bV G k=some a:=by
 have e:k∈G.map (·.1):=by rw[<-hs.ok.keys];exact Wf.2 ⟨_,fF d,rfl⟩
 obtain⟨⟨k',b'⟩,c,b⟩:=Wf.1 e;simp only at b;subst b;exact⟨b',lD hs.ok.nodup c⟩
theorem Share.at_(hs:Share h ren G G')(a:bV G k=some blk):h (ren k)=some (iY ren (mY h (ren k)) blk):=hs.have_ _ (fF a)
theorem Share.new(hs:Share h ren G G')(b:bV G' k=some blk):ak h (iU ren h G') (ren k)=some (iY ren (mY h (ren k)) blk):=by
 have hn:(G'.map λx=>ren x.1).Nodup:=by
  have e:(G'.map λx=>ren x.1)=(G.map λx=>ren x.1):=by
   have:=Xq (List.map ren) hs.ok.keys;simpa[List.map_map,Function.comp_def]using this
  rw[e];exact hs.inj
 exact zI (g:=λa=>iY ren (mY h (ren a.1)) a.2) G' h hn (k,blk) (fF b)
theorem Share.other(hs:Share h ren G G')(hq:∀k blk,bV G k=some blk->q≠ren k):ak h (iU ren h G') q=h q:=by
 refine lL ?_;intro g a e;obtain⟨⟨k,b⟩,f,rfl⟩:=Wf.1 a;obtain⟨c,d⟩:=hs.outin (lD (by rw[hs.ok.keys];exact hs.ok.nodup) f)
 grind
theorem Share.cases(hs:Share h ren G G')(hq:ak h (iU ren h G') q=some b):
 (∃k blk a,bV G k=some blk/\bV G' k=some a/\q=ren k/\b=iY ren (mY h (ren k)) a)\/((∀k blk,bV G k=some blk->q≠ren k)/\h q=some b):=by
 by_cases g:∃k blk,bV G k=some blk/\q=ren k
 .obtain⟨k,blk,c,rfl⟩:=g
  obtain⟨a,d⟩:=hs.inout c;rw[hs.new d]at hq;injection hq with hq
  grind
 .have f:∀k blk,bV G k=some blk->q≠ren k:=λk blk c e=>g ⟨k,blk,c,e⟩
  rw[hs.other f]at hq
  grind
theorem CG{ren:Nat->Nat}{own:Bool}(h:uz b b'=true):em (iY ren own b) l (iY ren own b') l:=by
 cases b<;>cases b'<;>first|(cases h;done)|skip
 .exact rfl
 .simp only[uz,An,WK]at h
  exact⟨h.1.1.symm,h.1.2.symm,Nat.le_of_eq h.2,λ_=>rfl⟩
theorem Share.okin(hs:Share h ren G G')(a:bV G k=some b):kn (G.map (·.1)) k b=true:=hs.ok.okin _ _ (fF a)
theorem Share.okout(hs:Share h ren G G')(a:bV G' k=some b):kn (G.map (·.1)) k b=true:=hs.ok.okout _ _ (fF a)
theorem Share.view(hs:Share h ren G G')(r:MemL C L h w)(d:bV G k=some blk):dO w (ae C L h) (λk=>L (ren k)) (bV G) (L (ren k)) blk:=by
 have a:=r.bl _ _ (hs.at_ d)
 cases blk with
 |mp=>cases hs.okin d
 |row e z xs m=>exact a
 |box x own m=>
  obtain⟨arr,v,l,f⟩:=a;have j:=hs.okin d;simp only[kn,An]at j;refine⟨arr,v,l,by simpa using f.1,λi p u hp s=>?_⟩;refine sG (ren:=ren) (K:=G.map (·.1)) (λb o h=>h) (λq hq b a=>?_) (VL.1 j.1.1.1.1 p (Is hp)) (f.2 i _ u (by simp[hp]) s);obtain⟨⟨y,b'⟩,n,g⟩:=Wf.1 hq;simp only at g;subst g;have c:=lD hs.ok.nodup n;refine⟨b',c,?_⟩;rw[hs.at_ c]at a;injection a with a;subst a
  cases b' with
  |mp=>exact⟨rfl,rfl,rfl⟩
  |box=>exact rfl
  |row=>exact⟨rfl,rfl,VU _,λ_=>rfl⟩
theorem MemL.shareStep(s:MemL C L h w)(hs:Share h ren G G'){M:World}(S:Ext (Ct G (λk=>L (ren k))) w M)
 (O:∀k blk,bV G' k=some blk->dO M (ae C L h) (λk=>L (ren k)) (bV G') (L (ren k)) blk):aL C L h w L (ak h (iU ren h G')) M:=by
 have z:∀b o,ae C L (ak h (iU ren h G')) b o->ae C L h b o:=by
  rintro b o (h0|⟨q,blk,hq,l,J,hf⟩)
  .exact .inl h0
  .rcases hs.cases hq with⟨k,v,r,a,c,rfl,rfl⟩|⟨_,f⟩
   .refine .inr ⟨ren k,_,hs.at_ a,?_,J,yT (hs.okin a)⟩
    have n:=hs.ok.same k _ _ a c
    cases v<;>cases r<;>first|(cases n;done)|exact l
   .exact .inr ⟨q,blk,f,l,J,hf⟩
 have H:KC L h L (ak h (iU ren h G')):=by
  intro q blk hq;by_cases W:∃k b,bV G k=some b/\q=ren k
  .obtain⟨k,b,a,rfl⟩:=W
   obtain⟨b',c⟩:=hs.inout a;rw[hs.at_ a]at hq;injection hq with hq;subst hq;exact⟨_,hs.new c,CG (hs.ok.same k _ _ a c)⟩
  .exact⟨blk,by rw[hs.other (λk b a e=>W ⟨k,b,a,e⟩)];exact hq,dg _ _⟩
 have m:Pres w (ae C L h) M (ae C L (ak h (iU ren h G'))):=by
  refine Pres.ext S (λb _ Q o=>?_) λb o _ D=>z b o D;obtain⟨k,blk,a,l,rfl⟩:=Q;exact .inr ⟨ren k,_,hs.at_ a,pV.2 l,rfl,yT (hs.okin a)⟩
 refine⟨⟨?_,s.m0,?_,?_,?_⟩,m,H⟩
 .refine s.ext.trans S (λb P I=>?_)
  obtain⟨k,blk,a,l,rfl⟩:=I;have ad:(L (ren k)).b<C.w0.heap.size:=P;have d:=s.own _ _ (hs.at_ a)
  cases blk with
  |mp=>cases hs.okin a
  |box cs own N=>
   cases g:mY h (ren k)with
   |false=>rw[g]at d;exact d.2.2.1
   |true=>
    rw[g]at d;rcases d with D|D
    .omega
    .exact D.1
  |row e sz xs N=>
   rcases d.row l with D|D
   all_goals grind
 .intro q blk hq
  rcases hs.cases hq with⟨k,v,r,a,c,rfl,rfl⟩|⟨B,f⟩
  .have F:=O k r c
   cases r with
   |mp=>cases hs.okout c
   |row e sz xs N=>
    obtain⟨g1,g2,g3,g4,g5⟩:=F;refine⟨g1,g2,g3,g4,λhn=>?_⟩;obtain⟨a1,a2,arr,a3,a4,a5⟩:=g5 hn;exact⟨a1,a2,arr,a3,a4,λi x j p T hj=>by obtain⟨u,R,hr⟩:=a5 i x j p T hj;exact⟨u,R,hr.mono (Pres.sub z)⟩⟩
   |box cs own N=>
    obtain⟨arr,ty,e1,V⟩:=F;have X:=hs.okout c;simp only[kn,An]at X;refine⟨arr,ty,e1,by simpa using V.1,λi p u hp R=>?_⟩;simp only[VN,VK]at hp;obtain⟨y,Y,rfl⟩:=hp;refine F4 (ren:=ren) (K:=G.map (·.1)) (L':=λk=>L (ren k)) (h':=bV G') z (λq hq b O=>?_) (VL.1 X.1.1.1.1 y (Is Y)) (V.2 i y u Y R);refine⟨_,hs.new O,?_⟩
    cases b with
    |mp=>exact⟨rfl,rfl,rfl⟩
    |box=>exact rfl
    |row=>exact⟨rfl,rfl,VU _,λ_=>rfl⟩
  .refine(s.bl q blk f).mono m H (λl=>S.block _ ((s.bl q blk f).lt l) ?_)
   rintro⟨k,b,a,A,e⟩;exact s.sep q (ren k) _ _ (B k b a) f (hs.at_ a) l (pV.2 A) e
 .have E:∀q b,ak h (iU ren h G') q=some b->b.live (L q)->∃U,h q=some U/\U.live (L q):=by
   intro q b hq l;rcases hs.cases hq with⟨k,v,r,a,c,rfl,rfl⟩|⟨_,f⟩
   .refine⟨_,hs.at_ a,?_⟩
    have n:=hs.ok.same k _ _ a c
    cases v<;>cases r<;>first|(cases n;done)|exact l
   grind
  intro q Z v r B hq f l A;obtain⟨c1,d1,f1⟩:=E q v hq l;obtain⟨c2,d2,f2⟩:=E Z r f A;exact s.sep q Z c1 c2 B d1 d2 f1 f2
 .intro q blk hq
  rcases hs.cases hq with⟨k,v,r,a,c,rfl,rfl⟩|⟨_,f⟩
  .have d:=s.own _ _ (hs.at_ a)
   have n:=hs.ok.same k _ _ a c
   cases v<;>cases r<;>first|(cases n;done)|skip
   .cases g:mY h (ren k)with
    |false=>rw[g]at d;exact d
    |true=>rw[g]at d;exact d
   .exact d
  .exact s.own q blk f
end
section
variable {C:Cx} {Q:Exit->St->Prop} {st:St}
def zJ(C:Cx)(Q:St->Prop)(f:Operand)(xs:List Operand)(d:Option Nat)(st:St):Prop:=
 ∃g args G G' res ren,cJ (st.ev f)=some (g,[],[])/\F5 C.P g args G G' res/\rx res=true/\xs.map st.ev=args.map (AO ren)/\args.all (E2 (G.map (·.1)))=true/\(G.map λx=>ren x.1).Nodup/\
  (∀a∈G,st.h (ren a.1)=some (iY ren (mY st.h (ren a.1)) a.2))/\dv C.N d=true/\Q (st.put d (.pv res) (iU ren st.h G'))
theorem WP.share(J:ops.toList=pre++o::post)(a2:o.op=.call {callee:=.value f,args:=xs.toArray,argTypes:=ats})(hg:o.guard=none)
 (hq:dP C.P hn C.N ops (zJ C (dP C.P hn C.N ops (Q .normal) post) f xs o.dst) pre st):WP C (.region id ops false) Q st:=by
 intro a w hs;refine wp_region_list ?_;rw[J];refine iX (λD O S a7 a5=>?_) hs hq;obtain⟨g,args,G,G',res,ren,T,⟨c,ar,hD⟩,Z,j,I,E,y,U,hQ⟩:=a5;obtain⟨L,H,hN,V,ht⟩:=a7;have d:Share D.h ren G G':=⟨ar,E,y⟩;refine wpList_step (λK hK=>?_);rw[lh hg,VS rfl];obtain⟨vs,us,W,ba,bb⟩:=jo (dn ht f) T;have bc:=ba.nil_inv;have a8:=bb.nil_inv;subst bc;subst a8
 have A:xs.length=args.length:=by have:=Xq List.length j;simpa using this
 have B:aE S (ae C L D.h) (λk=>L (ren k)) (bV G) args (xs.map O.eval):=by
  refine⟨by simp[A],λi p u hp hu=>?_⟩;simp only[VN,VK]at hu;obtain⟨x,hx,rfl⟩:=hu;have he:=Xq (λl:List AV=>l[i]?) j;simp only[VN,hx,hp,WG,VQ]at he;have R:=dn ht x;rw[he]at R;refine Jc (K:=G.map (·.1)) (λb o h=>h) (λq hq b r=>?_) (VL.1 I p (Is hp)) R;obtain⟨⟨q',b'⟩,h1,h2⟩:=Wf.1 hq;simp only at h2;subst h2;have n:=lD d.ok.nodup h1;refine⟨b',n,?_⟩;rw[d.at_ n]at r;injection r with r;subst r
  cases b' with
  |mp=>exact⟨rfl,rfl,rfl⟩
  |box=>exact rfl
  |row=>exact⟨rfl,rfl,VU _,λ_=>rfl⟩
 have m:=hD S (ae C L D.h) (λk=>L (ren k)) (xs.map O.eval) (λb o h=>H.mlt h)
  (λk blk z X o=>.inr ⟨ren k,_,d.at_ z,pV.2 X,rfl,yT (d.okin z)⟩)
  (λk k' b b' ad z F X Y=>H.sep (ren k) (ren k') _ _ (λe=>ad (d.ren_inj z F e)) (d.at_ z) (d.at_ F) (pV.2 X) (pV.2 Y))
  (λk blk z=>d.view H z) B
 have M:(execOp O.eval o).run C.P S=.ok (.enter g (xs.map O.eval).toArray) S:=by
  unfold dm at c
  cases s:C.P.funcs[g]? with
  |none=>rw[s]at c;cases c
  |some fn=>
   rw[s]at c;simp only[An,Wy,WY,ne_eq]at c
   have r:fn.body.isNone=false:=by cases bs:fn.body<;>simp_all
   unfold execOp;rw[a2];simp only[resolve,W,Deferred.ofValue,pure_bind,Sem.run_bind,Result.andThen_ok,invoke,callFunc,program,Sem.run,s];simp[c.2,r]
 unfold Oper.wp;rw[M];simp only[Oper.upon];refine m.mono ?_;rintro ee w' ⟨v,rfl,hx,r,R⟩;have hA:=H.shareStep d hx r;refine hK _ _ ?_;exact jg (λbq a' w' a6 n=>⟨bq,a6,n⟩) (gH.put H hN V ht U hA (.pv (pN Z R))) hQ
end
attribute [simp] AO lY E2 ni bV iY kn uz iU mY
def inK(k:Nat):Bool:=decide (290<=k)&&decide (k<1000000)
def iP(K:Nat->Bool):AV->Bool
 |.pv _=>true
 |.ptr k _=>K k
 |.arr k _=>K k
 |.eptr k _ _ _=>K k
 |.ext x=>K x.key
 |.undef=>true
 |_=>false
def uA(K:Nat->Bool):AV->Bool
 |.agg a=>a.all (iP K)
 |x=>iP K x
def nF(K:Nat->Bool):AV->Bool
 |.agg b=>b.all (iP K)
 |.fn _ first a=>first.all (iP K)&&a.all (iP K)
 |.tup b=>b.all (uA K)
 |x=>iP K x
abbrev rH:AV->Bool:=nF inK
def ko:Blk->Bool
 |.box _ false _=>false
 |_=>true
def CH:Blk->Bool
 |.mp _ _ _ _=>false
 |_=>true
def vN(M:Nat->Nat->Prop)(L:Nat->Loc)(h:Hp)(b o:Nat):Prop:=M b o\/∃k blk,h k=some blk/\blk.live (L k)/\(L k).b=b/\¬blk.frz o
def mZ(h:Hp)(L:Nat->Loc)(b:Nat):Prop:=∃k blk,h k=some blk/\blk.live (L k)/\b=(L k).b
def jL(h:Hp)(L:Nat->Loc)(b:Nat):Prop:=∃k blk,h k=some blk/\ko blk=true/\blk.live (L k)/\b=(L k).b
structure LookH(h:Hp):Prop where
 keys:∀k blk,h k=some blk->inK k=true
 nf:∀k blk o,h k=some blk->¬blk.frz o
 nm:∀k blk,h k=some blk->CH blk=true
 cl:∀k cs o f,h k=some (.box cs o f)->∀x∈cs,rH x=true
structure TrIn(w:World)(M:Nat->Nat->Prop)(L:Nat->Loc)(h:Hp):Prop where
 bl:∀k blk,h k=some blk->dO w (vN M L h) L h (L k) blk
 sep:∀k k' blk blk',k≠k'->h k=some blk->h k'=some blk'->blk.live (L k)->blk'.live (L k')->(L k).b≠(L k').b
 m1:∀k blk,h k=some blk->ko blk=true->blk.live (L k)->∀o,¬M (L k).b o
 m2:∀k cs f,h k=some (.box cs false f)->∀o,M (L k).b o
def nY(P:Program)(f:FuncId)(args:List AV)(a:Hp)(c:AV->Hp->Prop):Prop:=
 dm P f=true/\∀(w:World)(M:Nat->Nat->Prop)(L:Nat->Loc)(vs:List Value),(∀b o,M b o->b<w.heap.size)->TrIn w M L a->aE w (vN M L a) L a args vs->
  Calls P f vs.toArray w λe w'=>∃v r L' h',e=.returned v/\Ext (mZ a L) w w'/\LookH h'/\TrIn w' M L' h'/\RepA w' (vN M L' h') L' h' r v/\rH r=true/\c r h'/\
   (∀k d f,a k=some (.box d false f)->∃g,h' k=some (.box g false false)/\(L' k).b=(L k).b)/\
   (∀k d f,h' k=some (.box d false f)->∃i f0,a k=some (.box i false f0))/\
   (∀k blk,h' k=some blk->ko blk=true->blk.live (L' k)->w.heap.size<=(L' k).b\/jL a L (L' k).b)
section
variable {w w':World} {M M':Nat->Nat->Prop} {L L':Nat->Loc} {h h':Hp}
theorem tP{K:Nat->Bool}(hp:Pres w M w' M')(z:∀k blk,K k=true->h k=some blk->∃a,h' k=some a/\em blk (L k) a (L' k))(g:nF K x=true)(F:RepA w M L h x u):RepA w' M' L' h' x u:=by
 have one:∀{x:AV}{u:Value},iP K x=true->RepA w M L h x u->RepA w' M' L' h' x u:=by
  intro x u g F
  cases F with
  |pv E=>exact .pv (E.mono hp)
  |@ptr k Q v own C j=>
   obtain⟨a,m,d⟩:=z k _ g j
   cases a with
   |row=>exact d.elim
   |mp=>exact d.elim
   |box J G q=>have d:(L' k).b=(L k).b:=d;rw[<-d];exact .ptr m
  |@arr k n e U C xs u j hn l=>
   obtain⟨a,m,d⟩:=z k _ g j
   cases a with
   |box=>exact d.elim
   |mp=>exact d.elim
   |row S H s q=>
    obtain⟨_,I,T,B⟩:=d;refine .arr m (by omega) (λe=>?_)
    have:s.length=xs.length:=by omega
    rw[B this];exact l (by omega)
  |@eptr k n i Q e U C xs u j hn l=>
   obtain⟨a,m,d⟩:=z k _ g j
   cases a with
   |box=>exact d.elim
   |mp=>exact d.elim
   |row S H s q=>
    obtain⟨_,I,T,B⟩:=d;refine .eptr m (by omega) (λe=>?_)
    have:s.length=xs.length:=by omega
    rw[B this,I];exact l (by omega)
  |ext r=>
   cases r with
   |@barr k n c v own C W j=>
    obtain⟨a,m,d⟩:=z k _ g j
    cases a with
    |row=>exact d.elim
    |mp=>exact d.elim
    |box J G q=>have d:(L' k).b=(L k).b:=d;rw[<-d];exact .ext (.barr W m)
   |@mp k n X es C j=>
    obtain⟨a,m,d⟩:=z k _ g j
    cases a with
    |row=>exact d.elim
    |box=>exact d.elim
    |mp P Y V q=>have d:P=X/\Y=n/\(L' k).b=(L k).b:=d;rw[<-d.2.2];exact .ext (.mp m)
   |@suf k o n t e U C xs u O j hn ht l=>
    obtain⟨a,m,d⟩:=z k _ g j
    cases a with
    |box=>exact d.elim
    |mp=>exact d.elim
    |row S H s q=>
     obtain⟨_,I,T,B⟩:=d;refine .ext (.suf O m hn (by omega) (λe=>?_))
     have:s.length=xs.length:=by omega
     rw[B this,I];exact l (by omega)
  |undef=>exact .undef _
  |agg=>cases g
  |fn=>cases g
  |tup=>cases g
 have all:∀{v:List AV}{p:AV}{i:Nat},v.all (iP K)=true->v[i]?=some p->iP K p=true:=λh hp=>VL.1 h _ (Is hp)
 have R:∀{x:AV}{u:Value},uA K x=true->RepA w M L h x u->RepA w' M' L' h' x u:=by
  intro x u g F
  cases F with
  |agg v vs y D=>exact .agg v vs y λi p u hp l=>one (all g hp) (D i p u hp l)
  |pv E=>exact one g (.pv E)
  |ptr j=>exact one g (.ptr j)
  |arr j hn l=>exact one g (.arr j hn l)
  |eptr j hn l=>exact one g (.eptr j hn l)
  |ext r=>exact one g (.ext r)
  |undef=>exact .undef _
  |fn=>cases g
  |tup=>cases g
 cases F with
 |agg v vs y D=>exact .agg v vs y λi p u hp l=>one (all g hp) (D i p u hp l)
 |fn f first A vs Z y N m d=>
  simp only[nF,An]at g
  exact .fn f first A vs Z y N (λi p u hp l=>one (all g.1 hp) (m i p u hp l)) (λi p u hp l=>one (all g.2 hp) (d i p u hp l))
 |tup v vs y D=>exact .tup v vs y λi p u hp l=>R (VL.1 g _ (Is hp)) (D i p u hp l)
 |pv E=>exact one g (.pv E)
 |ptr j=>exact one g (.ptr j)
 |arr j hn l=>exact one g (.arr j hn l)
 |eptr j hn l=>exact one g (.eptr j hn l)
 |ext r=>exact one g (.ext r)
 |undef=>exact .undef _
theorem dO.inK(hp:Pres w M w' M')(D:∀k blk,Go.Ab.inK k=true->h k=some blk->∃a,h' k=some a/\em blk (L k) a (L' k))(B:∀g o f,blk=.box g o f->∀x∈g,rH x=true)(s:blk.live l->w'.heap[l.b]?=w.heap[l.b]?)(r:dO w M L h l blk):dO w' M' L' h' l blk:=by
 cases blk with
 |box g own y=>
  obtain⟨arr,H,e,E,v⟩:=r;exact⟨arr,H,(s trivial).trans e,E,λi p u d m=>tP hp D (B _ _ _ rfl p (Is d)) (v i p u d m)⟩
 |row J N xs y=>
  obtain⟨d,m,z,A,h5⟩:=r;refine⟨d,m,z,A,λhn=>?_⟩;obtain⟨h6,q,arr,e,h7,h8⟩:=h5 hn;refine⟨h6,q,arr,(s hn).trans e,h7,λi x j p G C=>?_⟩;obtain⟨u,F,v⟩:=h8 i x j p G C;exact⟨u,F,v.mono hp⟩
 |mp K n I y=>
  obtain⟨arr,c,e,d⟩:=r;exact⟨arr,c,(s trivial).trans e,d⟩
end
def qv(h:Hp):Hp:=λk=>if inK k=true then h k else none
theorem kD(e:qv h k=some b):inK k=true/\h k=some b:=by
 unfold qv at e;split at e
 .rename_i hi;exact⟨hi,e⟩
 .cases e
def tQ(args:List AV)(a:Hp):St:=⟨λn=>(args[n]?).getD .undef,a⟩
def yU(P:Program)(rs:List ResultVar)(d:Hp)(a:AV->Hp->Prop)(st:St):Prop:=
 ∃r,mM P st rs=some r/\rH r=true/\LookH (qv st.h)/\a r (qv st.h)/\∀k c f,d k=some (.box c false f)->∃b,st.h k=some (.box b false false)
def F6(P:Program)(rs:List ResultVar)(b:Hp)(a:AV->Hp->Prop):Exit->St->Prop
 |.normal,st=>yU P rs b a st
 |.ret,st=>yU P rs b a st
 |_,_=>False
@[simp] theorem O9:F6 P rs h0 Post .normal st=yU P rs h0 Post st:=rfl
@[simp] theorem Qw:F6 P rs h0 Post .ret st=yU P rs h0 Post st:=rfl
theorem tz(j:k<2000000)(a:ft C k l blk)(g:ko blk=true)(f:CH blk=true)(d:blk.live l):C.w0.heap.size<=l.b\/(C.S l.b/\∀o,¬C.M0 l.b o):=by
 cases blk with
 |box i own c=>
  cases own with
  |false=>cases g
  |true=>exact a
 |row e m xs c=>exact a.row d
 |mp=>cases f
theorem wg(h:inK k=true):k<2000000:=by
 simp only[inK,An,L4]at h;omega
theorem LP{f:FuncId}{fn:Func}(hf:P.funcs[f]?=some fn)(hb:fn.body=some c)(D:dm P f=true)(ba:args.length<=fn.ntmps)(g:LookH h0)
 (h:∀C:Cx,C.P=P->C.N=fn.ntmps->WP C c (F6 P fn.results.toList h0 Post) (tQ args h0)):nY P f args h0 Post:=by
 refine⟨D,λw M L vs hM j Y=>?_⟩
 let C:Cx:={P:=P,N:=fn.ntmps,M0:=M,S:=mZ h0 L,pb:=λk=>match h0 k with|some (.box _ false _)=>some (L k).b|_=>none,w0:=w}
 have a8:=Y.1
 have V:gH C (tQ args h0) {tmps:=vs.toArray++Array.replicate (fn.ntmps-vs.toArray.size) undef,defers:=[]} w:=by
  refine⟨L,⟨Ext.refl _ _,hM,j.bl,j.sep,?_⟩,by show(vs.toArray++Array.replicate (fn.ntmps-vs.toArray.size) undef).size=fn.ntmps;simp;omega,ku.nil _,λn=>?_⟩
  .intro k blk a
   cases blk with
   |box i own Z=>
    cases own with
    |false=>
     have a2:Z=false:=by
      cases Z with
      |false=>rfl
      |true=>exact absurd rfl (g.nf k _ 0 a)
     refine⟨a2,?_,⟨k,_,a,trivial,rfl⟩,(j.bl k _ a).lt trivial,j.m2 k i Z a⟩;show(match h0 k with|some (.box _ false _)=>some (L k).b|_=>none)=some (L k).b;rw[show h0 k=_ from a]
    |true=>exact .inr ⟨⟨k,_,a,trivial,rfl⟩,j.m1 k _ a rfl trivial⟩
   |row e sz xs Z=>
    unfold ft;simp only[C.hpr k (wg (g.keys k _ a))];exact λhn=>.inr ⟨⟨k,_,a,hn,rfl⟩,j.m1 k _ a rfl hn⟩
   |mp=>exact absurd (g.nm k _ a) (by simp[CH])
  .show RepA w (ae C L h0) L h0 ((args[n]?).getD .undef) _
   cases hp:args[n]? with
   |none=>exact .undef _
   |some p=>
    have G:n<vs.length:=by rw[<-a8];exact(th.1 hp).1
    have O:(vs.toArray++Array.replicate (fn.ntmps-vs.toArray.size) undef).getD n undef=vs[n]:=by
     rw[VT,Wx (by simpa using G)];simp[G]
    simp only[O];exact Y.2 n p _ hp (an G)
 refine calls_of_wp_defers hf hb (wp_mono (h C rfl rfl _ w V) ?_)
 have x:∀(z:Act) w' d,gH C d z w'->yU P fn.results.toList h0 Post d->ku P z.defers/\∃v,(results fn z.tmps).run P w'=.ok v w'/\
  (∃v' r L' h',Ending.returned v=.returned v'/\Ext (mZ h0 L) w w'/\LookH h'/\TrIn w' M L' h'/\RepA w' (vN M L' h') L' h' r v'/\rH r=true/\Post r h'/\
    (∀k i f,h0 k=some (.box i false f)->∃A,h' k=some (.box A false false)/\(L' k).b=(L k).b)/\
    (∀k i f,h' k=some (.box i false f)->∃m f0,h0 k=some (.box m false f0))/\
    (∀k blk,h' k=some blk->ko blk=true->blk.live (L' k)->w.heap.size<=(L' k).b\/jL h0 L (L' k).b)):=by
  rintro z w' d ⟨L',J,hN,ar,ht⟩ ⟨r,hr,R,F,I,T⟩;obtain⟨u,a6,a7⟩:=od (C:=C) J ht hr
  have W:∀b o,vN M L' (qv d.h) b o->ae C L' d.h b o:=by
   rintro b o (s|⟨k,blk,a,E,ad,a1⟩)
   .exact .inl s
   .exact .inr ⟨k,blk,(kD a).2,E,ad,a1⟩
  have hpr:=Pres.sub (w:=w') W;have Q:∀k blk,inK k=true->d.h k=some blk->∃q,qv d.h k=some q/\em blk (L' k) q (L' k):=λk blk hi a=>⟨blk,by unfold qv;rw[VS hi];exact a,dg _ _⟩
  have H:∀k i f,d.h k=some (.box i false f)->(∃m f0,h0 k=some (.box m false f0))/\(L' k).b=(L k).b/\f=false/\∀o,M (L' k).b o:=by
   intro k i f a;have ho:=J.own k _ a;have l:(match h0 k with|some (.box _ false _)=>some (L k).b|_=>none)=some (L' k).b:=ho.2.1;split at l
   .rename_i m f0 B
    injection l with l;exact⟨⟨m,f0,B⟩,l.symm,ho.1,ho.2.2.2.2⟩
   .cases l
  have y:∀k blk,qv d.h k=some blk->ko blk=true->blk.live (L' k)->w.heap.size<=(L' k).b\/(mZ h0 L (L' k).b/\∀o,¬M (L' k).b o):=λk blk a X E=>
   tz (C:=C) (wg (kD a).1) (J.own k _ (kD a).2) X (F.nm k _ a) E
  refine⟨ar,u,a6,u,r,L',qv d.h,rfl,J.ext,F,⟨?_,?_,?_,?_⟩,tP hpr Q R a7,R,I,?_,?_,?_⟩
  .exact λk blk a=>(J.bl k blk (kD a).2).inK hpr Q (λi o f e=>F.cl k i o f (by rw[a,e])) (λ_=>rfl)
  .exact λk k' b1 b2 a5 l B=>J.sep k k' b1 b2 a5 (kD l).2 (kD B).2
  .intro k blk a X E o K
   rcases y k blk a X E with s|s
   .have:=hM _ _ K;omega
   .exact s.2 o K
  .exact λk i f a=>(H k i f (kD a).2).2.2.2
  .intro k i f a
   obtain⟨A,l⟩:=T k i f a;exact⟨A,by unfold qv;rw[VS (g.keys k _ a)];exact l,(H k _ _ l).2.1⟩
  .exact λk i f a=>(H k i f (kD a).2).1
  .intro k blk a X E
   rcases y k blk a X E with s|⟨⟨k0,b0,e1,e2,e3⟩,s⟩
   .exact .inl s
   .refine .inr ⟨k0,b0,e1,?_,e2,e3⟩
    cases b0 with
    |box m o0 f0=>
     cases o0 with
     |true=>rfl
     |false=>exact absurd (j.m2 k0 _ _ e1 0) (by rw[<-e3];exact s 0)
    |row=>rfl
    |mp=>rfl
 rintro e z w' ⟨d,U,hq⟩
 cases e with
 |normal=>obtain⟨l,v,B,h3⟩:=x z w' d U hq;exact jv l B h3
 |ret=>obtain⟨l,v,B,h3⟩:=x z w' d U hq;exact jv l B h3
 |exit=>exact hq.elim
 |goto=>exact hq.elim
 |panic=>exact hq.elim
 |outgrown=>exact hq.elim
def nZ(o:Bool):Blk->Blk
 |.box a _ f=>.box a o f
 |b=>b
def m7(h:Hp)(k:Nat):Bool:=match h k with
 |some (.box _ o _)=>o
 |_=>true
def gF(h:Hp):Hp:=λk=>if inK k=true then(if k=290 then(h k).map (nZ false)else h k)else none
def lE(k:Nat):Bool:=!inK k||k==290
def gw(x:AV):AV:=if nF lE x=true then x else .undef
def jp:Blk->Blk
 |.box a o f=>.box (a.map gw) o f
 |b=>b
def fY(h h':Hp):Hp:=λk=>if inK k=true then(if k=290 then(h' k).map (nZ (m7 h k))else h' k)else(h k).map jp
theorem jM{o:Bool}:(nZ o b).live l↔b.live l:=by cases b<;>exact Xe
theorem BB{o:Bool}:(nZ o b).frz q↔b.frz q:=by cases b<;>exact Xe
theorem li:(jp b).live l↔b.live l:=by cases b<;>exact Xe
theorem F7:(jp b).frz q↔b.frz q:=by cases b<;>exact Xe
theorem wh{o:Bool}{l':Loc}(h:em b l b' l'):em b l (nZ o b') l':=by cases b<;>cases b'<;>exact h
theorem jq(e:gF h k=some b):inK k=true/\∃a,h k=some a/\(k=290->b=nZ false a)/\(k≠290->b=a):=by
 unfold gF at e;split at e
 .rename_i hi
  split at e
  .rename_i c
   simp only[VK]at e;obtain⟨a,d,rfl⟩:=e;exact⟨hi,a,d,λ_=>rfl,λf=>absurd c f⟩
  .rename_i c;exact⟨hi,b,e,λd=>absurd d c,λ_=>rfl⟩
 .cases e
theorem xp(hi:inK k=true)(a:h k=some b):gF h k=some (if k=290 then nZ false b else b):=by
 unfold gF;rw[VS hi];split
 .rw[a];rfl
 .exact a
theorem CI{h':Hp}(hi:inK k=true)(a:h' k=some b):fY h h' k=some (if k=290 then nZ (m7 h k) b else b):=by
 unfold fY;rw[VS hi];split
 .rw[a];rfl
 .exact a
theorem n5{h':Hp}(e:fY h h' k=some b):(inK k=true/\∃a,h' k=some a/\b=if k=290 then nZ (m7 h k) a else a)\/(inK k=false/\∃a,h k=some a/\b=jp a):=by
 unfold fY at e;split at e
 .rename_i hi
  split at e
  .rename_i c
   simp only[VK]at e;obtain⟨a,d,rfl⟩:=e;exact .inl ⟨hi,a,d,by rw[VS c]⟩
  .rename_i c;exact .inl ⟨hi,b,e,by rw[VM c]⟩
 .rename_i hi
  simp only[VK]at e;obtain⟨a,d,rfl⟩:=e;exact .inr ⟨by simpa using hi,a,d,rfl⟩
structure InOk(h:Hp):Prop where
 nf:∀k blk o,inK k=true->h k=some blk->¬blk.frz o
 nm:∀k blk,inK k=true->h k=some blk->CH blk=true
 cl:∀k cs o f,inK k=true->h k=some (.box cs o f)->∀x∈cs,rH x=true
 pin:∀k cs f,inK k=true->h k=some (.box cs false f)->k=290
 bx:∀blk,h 290=some blk->∃cs o f,blk=.box cs o f
section
variable {C:Cx} {L L':Nat->Loc} {h h':Hp} {w w':World}
theorem zK(n:MemL C L h w)(hi:InOk h){b:Nat}(p:jL (gF h) L b):(C.w0.heap.size<=b\/(C.S b/\∀o,¬C.M0 b o))/\mZ h L b:=by
 obtain⟨k,blk,m,g,d,rfl⟩:=p;obtain⟨c,i,a,j,l⟩:=jq m;by_cases e:k=290
 .have:=j e
  subst this;subst e;obtain⟨q,o,f,rfl⟩:=hi.bx i a;cases g
 .have:=l e
  subst this;exact⟨tz (wg c) (n.own k _ a) g (hi.nm k _ c a) d,k,_,a,d,rfl⟩
theorem MemL.takeStep(M:MemL C L h w)(hi:InOk h)(hx:Ext (mZ (gF h) L) w w')(bb:LookH h')
 (ht:TrIn w' (λb o=>ae C L h b o/\¬jL (gF h) L b) L' h')
 (W:∀k D f,gF h k=some (.box D false f)->∃Y,h' k=some (.box Y false false)/\(L' k).b=(L k).b)
 (a7:∀k D f,h' k=some (.box D false f)->∃g f0,gF h k=some (.box g false f0))
 (hn:∀k blk,h' k=some blk->ko blk=true->blk.live (L' k)->w.heap.size<=(L' k).b\/jL (gF h) L (L' k).b):
 ∃B:Nat->Loc,(∀k,inK k=true->B k=L' k)/\MemL C B (fY h h') w'/\(∀{x:AV}{u:Value},RepA w (ae C L h) L h x u->RepA w' (ae C B (fY h h')) B (fY h h') (gw x) u)/\
  (∀{x:AV}{u:Value},rH x=true->RepA w' (vN (λb o=>ae C L h b o/\¬jL (gF h) L b) L' h') L' h' x u->RepA w' (ae C B (fY h h')) B (fY h h') x u):=by
 let B:Nat->Loc:=λk=>if inK k=true then L' k else L k
 have s:∀k,inK k=true->B k=L' k:=λk z=>VS z
 have G:∀k,inK k=false->B k=L k:=λk z=>by simp[B,z]
 have b7:=M.ext.size
 have R:∀b,mZ (gF h) L b->∃k blk,inK k=true/\h k=some blk/\blk.live (L k)/\b=(L k).b:=by
  rintro b ⟨k,blk,z,d,rfl⟩;obtain⟨m,l,I,J,O⟩:=jq z;refine⟨k,l,m,I,?_,rfl⟩;by_cases e:k=290
  .rw[J e]at d;exact jM.1 d
  .rw[O e]at d;exact d
 have T:∀b,mZ (gF h) L b->∀o,ae C L h b o:=by
  intro b F o;obtain⟨k,blk,m,I,J,rfl⟩:=R b F;exact .inr ⟨k,blk,I,J,rfl,hi.nf k blk o m I⟩
 have a8:∀b,jL (gF h) L b->mZ (gF h) L b:=by
  rintro b ⟨k,blk,m,_,J,O⟩;exact⟨k,blk,m,J,O⟩
 have ba:∀b o,ae C B (fY h h') b o->vN (λb o=>ae C L h b o/\¬jL (gF h) L b) L' h' b o:=by
  rintro b o (E|⟨k,blk,z,d,F,hf⟩)
  .refine .inl ⟨.inl E,λh8=>?_⟩
   rcases(zK M hi h8).1 with h7|h7
   .have:=M.m0 _ _ E;omega
   .exact h7.2 o E
  .rcases n5 z with⟨r,l,m,rfl⟩|⟨r,l,m,rfl⟩
   .rw[s k r]at d F
    refine .inr ⟨k,l,m,?_,F,?_⟩
    .split at d
     .exact jM.1 d
     .exact d
    .split at hf
     .exact λh8=>hf (BB.2 h8)
     .exact hf
   .rw[G k r]at d F
    refine .inl ⟨.inr ⟨k,l,m,li.1 d,F,λh8=>hf (F7.2 h8)⟩,λh8=>?_⟩;obtain⟨k',a,I,J,O,h5⟩:=R b (a8 b h8);refine M.sep k k' l a (λe=>?_) m J (li.1 d) O (by rw[F,<-h5]);rw[e,I]at r;cases r
 have ar:=Pres.sub (w:=w') ba
 have X:Pres w (ae C L h) w' (ae C B (fY h h')):=by
  have bs:∀b o,¬ae C L h b o->¬mZ (gF h) L b:=λb o E h8=>E (T b h8 o)
  have P:∀b o,b<w.heap.size->ae C B (fY h h') b o->ae C L h b o:=by
   intro b o K E;rcases ba b o E with h8|⟨k,blk,z,d,F,hf⟩
   .exact h8.1
   .cases A:ko blk with
    |true=>
     rcases hn k blk z A d with h7|h7
     .omega
     .rw[F]at h7;exact T b (a8 b h7) o
    |false=>
     cases blk with
     |row=>cases A
     |mp=>cases A
     |box D o9 f9=>
      cases o9 with
      |true=>cases A
      |false=>
       obtain⟨g,f0,h7⟩:=a7 k D f9 z;obtain⟨_,_,h6⟩:=W k g f0 h7;exact T b ⟨k,_,h7,trivial,by rw[<-F,h6]⟩ o
  refine⟨λb o v hc U=>?_,λb arr c hc U=>?_⟩
  .have K:=AP hc
   exact⟨(hx.cell K (bs b o U)).trans hc,λE=>U (P b o K E)⟩
  .have K:=xr hc
   exact⟨(hx.block b K (bs b 0 U)).trans hc,λE=>U (P b 0 K E)⟩
 have a6:∀k blk,lE k=true->h k=some blk->∃a,fY h h' k=some a/\em blk (L k) a (B k):=by
  intro k blk z m
  cases y:inK k with
  |false=>
   refine⟨jp blk,by simp only[fY,y,VP,VZ,m,WG],?_⟩;rw[G k y]
   cases blk with
   |box=>exact rfl
   |row=>exact⟨rfl,rfl,VU _,λ_=>rfl⟩
   |mp=>exact⟨rfl,rfl,rfl⟩
  |true=>
   have e:k=290:=by simpa[lE,y]using z
   obtain⟨D,o,f,rfl⟩:=hi.bx blk (by rw[<-e];exact m)
   have I:gF h k=some (.box D false f):=by rw[xp y m,VS e];rfl
   obtain⟨Y,J,O⟩:=W k D f I;refine⟨_,CI y J,?_⟩;rw[VS e,s k y];exact O
 have ad:∀k blk,inK k=true->h' k=some blk->∃a,fY h h' k=some a/\em blk (L' k) a (B k):=by
  intro k blk y m;refine⟨_,CI y m,?_⟩;rw[s k y];split
  .exact wh (dg _ _)
  .exact dg _ _
 have Q:∀{x:AV}{u:Value},RepA w (ae C L h) L h x u->RepA w' (ae C B (fY h h')) B (fY h h') (gw x) u:=by
  intro x u hr;unfold gw;split
  .rename_i V;exact tP X a6 V hr
  .exact .undef _
 refine⟨B,s,⟨?_,M.m0,?_,?_,?_⟩,Q,λV hr=>tP ar ad V hr⟩
 .refine M.ext.trans hx (λb K E=>?_)
  obtain⟨k,blk,m,I,J,rfl⟩:=R b E;have V:=M.own k _ I
  cases A:ko blk with
  |true=>
   rcases tz (wg m) V A (hi.nm k _ m I) J with h7|h7
   .omega
   .exact h7.1
  |false=>
   cases blk with
   |row=>cases A
   |mp=>cases A
   |box D o9 f9=>
    cases o9 with
    |true=>cases A
    |false=>exact V.2.2.1
 .intro k blk z
  rcases n5 z with⟨r,l,m,rfl⟩|⟨r,l,m,rfl⟩
  .rw[s k r]
   have F:=(ht.bl k l m).inK ar ad (λD o f e=>bb.cl k D o f (by rw[m,e])) (λ_=>rfl);split
   .cases l<;>exact F
   .exact F
  .rw[G k r]
   have F:=M.bl k l m
   have he:l.live (L k)->w'.heap[(L k).b]?=w.heap[(L k).b]?:=by
    intro d;refine hx.block _ (F.lt d) (λE=>?_);obtain⟨k',a,I,J,O,h5⟩:=R _ E;exact M.sep k k' l a (λe=>by rw[e,I]at r;cases r) m J d O h5
   cases l with
   |box D own fz=>
    obtain⟨arr,ty,e,d,hr⟩:=F;refine⟨arr,ty,(he trivial).trans e,by simpa using d,λi p u hp A=>?_⟩;simp only[VN,VK]at hp;obtain⟨q,hq,rfl⟩:=hp;exact Q (hr i q u hq A)
   |row et sz xs fz=>
    obtain⟨g1,g2,g3,g4,g5⟩:=F;refine⟨g1,g2,g3,g4,λZ=>?_⟩;obtain⟨h6,bH,arr,e,h7,h8⟩:=g5 Z;refine⟨h6,bH,arr,(he Z).trans e,h7,λi x j p b4 hj=>?_⟩;obtain⟨u,A,hr⟩:=h8 i x j p b4 hj;exact⟨u,A,hr.mono X⟩
   |mp kd n es fz=>
    obtain⟨arr,c,e,g1⟩:=F;exact⟨arr,c,(he trivial).trans e,g1⟩
 .
  have new:∀k blk,inK k=true->h' k=some blk->blk.live (L' k)->w.heap.size<=(L' k).b\/mZ (gF h) L (L' k).b:=by
   intro k blk y z d
   cases A:ko blk with
   |true=>exact(hn k blk z A d).imp id (a8 _)
   |false=>
    cases blk with
    |row=>cases A
    |mp=>cases A
    |box D o9 f9=>
     cases o9 with
     |true=>cases A
     |false=>
      obtain⟨g,f0,h7⟩:=a7 k D f9 z;obtain⟨_,_,h6⟩:=W k g f0 h7;exact .inr ⟨k,_,h7,trivial,h6⟩
  have apart:∀k blk k' a,inK k=true->inK k'=false->h' k=some blk->h k'=some a->blk.live (L' k)->a.live (L k')->(L' k).b≠(L k').b:=by
   intro k blk k' a m I J O h5 h6 e;rcases new k blk m J h5 with h7|h7
   .have:=(M.bl k' a O).lt h6;omega
   .obtain⟨q,bq,g1,g2,g3,g4⟩:=R _ h7
    exact M.sep q k' bq a (λe9=>by rw[e9,I]at g1;cases g1) g2 O g3 h6 (by rw[<-g4,e])
  have lv:∀{k:Nat}{l:Blk},(if k=290 then nZ (m7 h k) l else l).live (L' k)->l.live (L' k):=by
   intro k l d;split at d
   .exact jM.1 d
   .exact d
  intro k k' b1 b2 bc z b3 d H;rcases n5 z with⟨N,c1,d1,rfl⟩|⟨N,c1,d1,rfl⟩<;>rcases n5 b3 with⟨i2,c2,d2,rfl⟩|⟨i2,c2,d2,rfl⟩
  .rw[s k N]at d|-
   rw[s k' i2]at H|-;exact ht.sep k k' c1 c2 bc d1 d2 (lv d) (lv H)
  .rw[s k N]at d|-
   rw[G k' i2]at H|-;exact apart k c1 k' c2 N i2 d1 d2 (lv d) (li.1 H)
  .rw[G k N]at d|-
   rw[s k' i2]at H|-;exact λe=>apart k' c2 k c1 i2 N d2 d1 (lv H) (li.1 d) e.symm
  .rw[G k N]at d|-
   rw[G k' i2]at H|-;exact M.sep k k' c1 c2 bc d1 d2 (li.1 d) (li.1 H)
 .
  intro k blk z;rcases n5 z with⟨N,l,d1,rfl⟩|⟨N,l,d1,rfl⟩
  .rw[s k N]
   have fresh:ko l=true->l.live (L' k)->C.w0.heap.size<=(L' k).b\/(C.S (L' k).b/\∀o,¬C.M0 (L' k).b o):=by
    intro A d;rcases hn k l d1 A d with h7|h7
    .exact .inl (by omega)
    .exact(zK M hi h7).1
   cases l with
   |mp=>exact absurd (bb.nm k _ d1) (by simp[CH])
   |row e sz xs fz=>
    have:ft C k (L' k) (.row e sz xs fz):=by
     unfold ft;simp only[C.hpr k (wg N)];exact λZ=>fresh rfl Z
    split<;>exact this
   |box D o9 f9=>
    cases o9 with
    |true=>
     have E:=fresh rfl trivial;split
     .rename_i e
      have h8:gF h k=none\/∃g f0,gF h k=some (.box g false f0):=by
       cases h7:h k with
       |none=>left;simp[gF,h7]
       |some b1=>
        right
        obtain⟨g,o0,f0,rfl⟩:=hi.bx b1 (by rw[<-e];exact h7);exact⟨g,f0,by rw[xp N h7,VS e];rfl⟩
      rcases h8 with h8|⟨g,f0,h8⟩
      .have h7:h k=none:=by
        cases h7:h k with
        |none=>rfl
        |some b1=>rw[xp N h7]at h8;cases h8
       have:m7 h k=true:=by simp[m7,h7]
       rw[this];exact E
      .obtain⟨Y,h6,_⟩:=W k g f0 h8
       rw[d1]at h6;cases h6
     .exact E
    |false=>
     obtain⟨g,f0,h7⟩:=a7 k D f9 d1;obtain⟨Y,h6,h5⟩:=W k g f0 h7;rw[d1]at h6;injection h6 with h6;injection h6 with h6a _ h6b;obtain⟨_,b1,g2,g3,g4⟩:=jq h7
     have e:k=290:=by
      refine Classical.byContradiction λe=>e ?_;have:=g4 e;subst this;exact hi.pin k g f0 N g2
     rw[VS e];obtain⟨b5,o1,f1,rfl⟩:=hi.bx b1 (by rw[<-e];exact g2);have V:=M.own k _ g2
     have:m7 h k=o1:=by simp[m7,g2]
     rw[this];show ft C k (L' k) (.box D o1 f9)
     cases o1 with
     |true=>
      have V:C.w0.heap.size<=(L k).b\/(C.S (L k).b/\∀o,¬C.M0 (L k).b o):=V;show C.w0.heap.size<=(L' k).b\/(C.S (L' k).b/\∀o,¬C.M0 (L' k).b o);rw[h5];exact V
     |false=>
      obtain⟨a1,a2,a3,a4,a5⟩:=V;refine⟨h6b,?_,?_,?_,?_⟩
      .rw[h5];exact a2
      .rw[h5];exact a3
      .rw[h5];exact a4
      .rw[h5];exact a5
  .rw[G k N]
   have:=M.own k l d1
   cases l with
   |box D o f=>cases o<;>exact this
   |row=>exact this
   |mp=>exact this
def uB(C:Cx)(Q:St->Prop)(f:Operand)(xs:List Operand)(d:Option Nat)(st:St):Prop:=
 ∃g Post,cJ (st.ev f)=some (g,[],[])/\InOk st.h/\nY C.P g (xs.map st.ev) (gF st.h) Post/\(xs.map st.ev).all rH=true/\dv C.N d=true/\
  ∀r h',LookH h'->rH r=true->Post r h'->Q (St.put ⟨λn=>gw (st.t n),fY st.h h'⟩ d r [])
theorem WP.takeG{K:St->Prop}(a2:∀st a w,gH C st a w->K st->∃D,gH C D a w/\dP C.P hn C.N ops (Q .normal) post D)(ad:ops.toList=pre++o::post)(bq:o.op=.call {callee:=.value f,args:=xs.toArray,argTypes:=ats})(hg:o.guard=none)
 (hq:dP C.P hn C.N ops (uB C K f xs o.dst) pre st):WP C (.region id ops false) Q st:=by
 intro a w hs;refine wp_region_list ?_;rw[ad];refine iX (λc a1 w1 b8 b4=>?_) hs hq;obtain⟨g,Post,a5,hi,⟨d,hD⟩,Z,a6,hQ⟩:=b4;obtain⟨L,W,hN,a7,ht⟩:=b8;refine wpList_step (λK hK=>?_);rw[lh hg,VS rfl];obtain⟨vs,us,a8,cd,cf⟩:=jo (dn ht f) a5;have cg:=cd.nil_inv;have cb:=cf.nil_inv;subst cg;subst cb
 have ck:∀b,jL (gF c.h) L b->∀o,ae C L c.h b o:=by
  intro b T o;obtain⟨k,blk,l,q,m,rfl⟩:=T;obtain⟨s,j,g1,g2,g3⟩:=jq l;by_cases e:k=290
  .rw[g2 e]at m;exact .inr ⟨k,j,g1,jM.1 m,rfl,hi.nf k j o s g1⟩
  .rw[g3 e]at m;exact .inr ⟨k,j,g1,m,rfl,hi.nf k j o s g1⟩
 have E:vN (λb o=>ae C L c.h b o/\¬jL (gF c.h) L b) L (gF c.h)=ae C L c.h:=by
  funext b o
  refine propext ⟨?_,λH=>?_⟩
  .rintro(H|⟨k,blk,l,q,m,h4⟩)
   .exact H.1
   .obtain⟨s,j,g1,g2,g3⟩:=jq l
    by_cases e:k=290
    .rw[g2 e]at q;exact .inr ⟨k,j,g1,jM.1 q,m,hi.nf k j o s g1⟩
    .rw[g3 e]at q;exact .inr ⟨k,j,g1,q,m,hi.nf k j o s g1⟩
  .by_cases h8:jL (gF c.h) L b
   .obtain⟨k,blk,l,q,m,h4⟩:=h8
    refine .inr ⟨k,blk,l,m,h4.symm,?_⟩;obtain⟨s,j,g1,g2,g3⟩:=jq l;by_cases e:k=290
    .rw[g2 e];exact λh7=>hi.nf k j o s g1 (BB.1 h7)
    .rw[g3 e];exact hi.nf k j o s g1
   .exact .inl ⟨H,h8⟩
 have F:∀k blk,inK k=true->c.h k=some blk->∃z,gF c.h k=some z/\em blk (L k) z (L k):=by
  intro k blk ba l;refine⟨_,xp ba l,?_⟩;split
  .exact wh (dg _ _)
  .exact dg _ _
 have bb:TrIn w1 (λb o=>ae C L c.h b o/\¬jL (gF c.h) L b) L (gF c.h):=by
  refine⟨?_,?_,?_,?_⟩
  .intro k blk hk
   rw[E];obtain⟨s,j,g1,g2,g3⟩:=jq hk;have T:=(W.bl k j g1).inK (Pres.refl _ _) F (λcs o f e=>hi.cl k cs o f s (by rw[g1,e])) (λ_=>rfl);by_cases e:k=290
   .rw[g2 e];cases j<;>exact T
   .rw[g3 e];exact T
  .intro k k' b1 b2 O l q hl B
   obtain⟨s,c1,g1,g2,g3⟩:=jq l;obtain⟨i2,c2,e1,e2,e3⟩:=jq q;refine W.sep k k' c1 c2 O g1 e1 ?_ ?_
   .by_cases e:k=290
    .rw[g2 e]at hl;exact jM.1 hl
    .rw[g3 e]at hl;exact hl
   .by_cases e:k'=290
    .rw[e2 e]at B;exact jM.1 B
    .rw[e3 e]at B;exact B
  .exact λk blk l q m o H=>H.2 ⟨k,blk,l,q,m,rfl⟩
  .intro k cs f hk o
   obtain⟨s,j,g1,g2,g3⟩:=jq hk
   have U:j.live (L k):=by
    by_cases e:k=290
    .have h8:=g2 e
     cases j with
     |box=>exact trivial
     |row=>cases h8
     |mp=>exact trivial
    .rw[<-g3 e];exact trivial
   refine⟨.inr ⟨k,j,g1,U,rfl,hi.nf k j o s g1⟩,?_⟩;rintro⟨k',z,l,q,m,h4⟩;obtain⟨i2,c2,e1,e2,e3⟩:=jq l
   have O:k≠k':=by
    intro e;rw[<-e,hk]at l;injection l with l;rw[<-l]at q;cases q
   refine W.sep k k' j c2 O g1 e1 U ?_ h4;by_cases e:k'=290
   .rw[e2 e]at m;exact jM.1 m
   .rw[e3 e]at m;exact m
 have S:aE w1 (vN (λb o=>ae C L c.h b o/\¬jL (gF c.h) L b) L (gF c.h)) L (gF c.h) (xs.map c.ev) (xs.map a1.eval):=by
  rw[E];refine⟨by simp,λi p u hp hu=>?_⟩;have bc:=VL.1 Z p (Is hp);simp only[VN,VK]at hp hu;obtain⟨x,hx,rfl⟩:=hp;obtain⟨y,hy,rfl⟩:=hu;rw[hx]at hy;injection hy with hy;subst hy;exact tP (Pres.refl _ _) F bc (dn ht x)
 have A:=hD w1 _ L (xs.map a1.eval) (λb o H=>W.mlt H.1) bb S
 have ar:(execOp a1.eval o).run C.P w1=.ok (.enter g (xs.map a1.eval).toArray) w1:=by
  unfold dm at d
  cases J:C.P.funcs[g]? with
  |none=>rw[J]at d;cases d
  |some fn=>
   rw[J]at d;simp only[An,Wy,WY,ne_eq]at d
   have T:fn.body.isNone=false:=by cases cj:fn.body<;>simp_all
   unfold execOp;rw[bq];simp only[resolve,a8,Deferred.ofValue,pure_bind,Sem.run_bind,Result.andThen_ok,invoke,callFunc,program,Sem.run,J];simp[d.2,T]
 unfold Oper.wp;rw[ar];simp only[Oper.upon];refine A.mono ?_;rintro ee w' ⟨v,r,L',h',rfl,hx,V,ca,hr,G,R,bs,bH,Y⟩;obtain⟨L2,ch,X,M,I⟩:=W.takeStep hi hx V ca bs bH Y;refine hK _ _ ?_;obtain⟨cm,b9,b5⟩:=a2 _ _ _ (gH.put X hN a7 (λn=>M (ht n)) a6 (aL.refl X) (I G hr)) (hQ r h' V G R);exact jg (λD a' w' b7 b3=>⟨D,b7,b3⟩) b9 b5
theorem WP.take(a:ops.toList=pre++o::post)(b:o.op=.call {callee:=.value f,args:=xs.toArray,argTypes:=ats})(c:o.guard=none)
 (hq:dP C.P hn C.N ops (uB C (dP C.P hn C.N ops (Q .normal) post) f xs o.dst) pre st):WP C (.region id ops false) Q st:=WP.takeG (λst _ _ e d=>⟨st,e,d⟩) a b c hq
end
attribute [simp] nF iP uA jp nZ
def rk(d a q:Nat):Nat:=if q=d then a else q
def jr(d a:Nat):XV->XV
 |.barr k n c=>.barr (rk d a k) n c
 |.mp k=>.mp (rk d a k)
 |.suf k o n t=>.suf (rk d a k) o n t
def bn(d a:Nat):AV->AV
 |.pv p=>.pv p
 |.ptr k o=>.ptr (rk d a k) o
 |.arr k n=>.arr (rk d a k) n
 |.eptr k n i o=>.eptr (rk d a k) n i o
 |.ext x=>.ext (jr d a x)
 |_=>.undef
def bQ(d c:Nat):AV->AV
 |.agg e=>.agg (e.map (bn d c))
 |.fn f a b=>.fn f (a.map (bn d c)) (b.map (bn d c))
 |.tup e=>.tup (e.map (bn d c))
 |x=>bn d c x
def df(d c:Nat):Blk->Blk
 |.box a o f=>.box (a.map (bQ d c)) o f
 |b=>b
def bE(d a:Nat)(h:Hp):Hp:=λq=>if q=a then(h d).map (df d a)else if q=d then none else(h q).map (df d a)
theorem uC:(df d k' b).live l↔b.live l:=by cases b<;>exact Xe
theorem Hr{o:Nat}:(df d k' b).frz o↔b.frz o:=by cases b<;>exact Xe
theorem CJ(d a:Nat)(b:Blk)(l:Loc):em b l (df d a b) l:=by
 cases b with
 |box=>exact rfl
 |row=>exact⟨rfl,rfl,VU _,λ_=>rfl⟩
 |mp=>exact⟨rfl,rfl,rfl⟩
theorem EI{w:World}{L y:Nat->Loc}{g:Hp}(hp:Pres w M w M')(z:∀k blk,h k=some blk->∃a,g (rk d k' k)=some a/\em blk (L k) a (y (rk d k' k)))(O:RepA w M L h x u):RepA w M' y g (bQ d k' x) u:=by
 have one:∀{x:AV}{u:Value},RepA w M L h x u->RepA w M' y g (bn d k' x) u:=by
  intro x u O
  cases O with
  |pv K=>exact .pv (K.mono hp)
  |@ptr k Q G own B j=>
   obtain⟨a,m,g⟩:=z k _ j
   cases a with
   |row=>exact g.elim
   |mp=>exact g.elim
   |box H D r=>have g:(y (rk d k' k)).b=(L k).b:=g;rw[<-g];exact .ptr m
  |@arr k n e U B xs u j hn l=>
   obtain⟨a,m,g⟩:=z k _ j
   cases a with
   |box=>exact g.elim
   |mp=>exact g.elim
   |row S E s r=>
    obtain⟨_,F,T,A⟩:=g;refine .arr m (by omega) (λe=>?_)
    have:s.length=xs.length:=by omega
    rw[A this];exact l (by omega)
  |@eptr k n i Q e U B xs u j hn l=>
   obtain⟨a,m,g⟩:=z k _ j
   cases a with
   |box=>exact g.elim
   |mp=>exact g.elim
   |row S E s r=>
    obtain⟨_,F,T,A⟩:=g;refine .eptr m (by omega) (λe=>?_)
    have:s.length=xs.length:=by omega
    rw[A this,F];exact l (by omega)
  |ext v=>
   cases v with
   |@barr k n c G own B W j=>
    obtain⟨a,m,g⟩:=z k _ j
    cases a with
    |row=>exact g.elim
    |mp=>exact g.elim
    |box H D r=>have g:(y (rk d k' k)).b=(L k).b:=g;rw[<-g];exact .ext (.barr W m)
   |@mp k n X es B j=>
    obtain⟨a,m,g⟩:=z k _ j
    cases a with
    |row=>exact g.elim
    |box=>exact g.elim
    |mp P Y V r=>have g:P=X/\Y=n/\(y (rk d k' k)).b=(L k).b:=g;rw[<-g.2.2];exact .ext (.mp m)
   |@suf k o n t e U B xs u N j hn ht l=>
    obtain⟨a,m,g⟩:=z k _ j
    cases a with
    |box=>exact g.elim
    |mp=>exact g.elim
    |row S E s r=>
     obtain⟨_,F,T,A⟩:=g;refine .ext (.suf N m hn (by omega) (λe=>?_))
     have:s.length=xs.length:=by omega
     rw[A this,F];exact l (by omega)
  |undef=>exact .undef _
  |agg=>exact .undef _
  |fn=>exact .undef _
  |tup=>exact .undef _
 cases O with
 |agg G vs C I=>
  refine .agg _ vs (by simpa using C) λi p u hp l=>?_;simp only[VN,VK]at hp;obtain⟨q,hq,rfl⟩:=hp;exact one (I i q u hq l)
 |fn f first R vs Z C J m g=>
  refine .fn f _ _ vs Z (by simpa using C) (by simpa using J) (λi p u hp l=>?_) (λi p u hp l=>?_)
  .simp only[VN,VK]at hp
   obtain⟨q,hq,rfl⟩:=hp;exact one (m i q u hq l)
  .simp only[VN,VK]at hp
   obtain⟨q,hq,rfl⟩:=hp;exact one (g i q u hq l)
 |tup G vs C I=>
  refine .tup _ vs (by simpa using C) λi p u hp l=>?_;simp only[VN,VK]at hp;obtain⟨q,hq,rfl⟩:=hp;exact one (I i q u hq l)
 |pv K=>exact one (.pv K)
 |ptr j=>exact one (.ptr j)
 |arr j hn l=>exact one (.arr j hn l)
 |eptr j hn l=>exact one (.eptr j hn l)
 |ext v=>exact one (.ext v)
 |undef=>exact .undef _
theorem WP.ren(d g:Nat)(ar:d≠g)(B:st.h g=none)(W:g<2000000)(T:∀M f,st.h d≠some (.box M false f))
 (h:WP C c Q ⟨λn=>bQ d g (st.t n),bE d g st.h⟩):WP C c Q st:=by
 intro a w hs;obtain⟨L,O,hN,U,ad⟩:=hs
 let F:Nat->Loc:=λq=>if q=g then L d else L q
 have s:∀{k blk},st.h k=some blk->F (rk d g k)=L k:=by
  intro k blk A;unfold rk;split
  .rename_i e;subst e;exact VS rfl
  .rename_i e
   have:k≠g:=by intro y;rw[y,B]at A;cases A
   exact VM this
 have get:∀{q b},bE d g st.h q=some b->∃v r,q=rk d g v/\st.h v=some r/\b=df d g r:=by
  intro q b hq;unfold bE at hq;split at hq
  .rename_i e
   simp only[VK]at hq;obtain⟨r,m,rfl⟩:=hq;exact⟨d,r,by simp[rk,e],m,rfl⟩
  .split at hq
   .cases hq
   .rename_i H y
    simp only[VK]at hq;obtain⟨r,m,rfl⟩:=hq;exact⟨q,r,by simp[rk,y],m,rfl⟩
 have put:∀{k blk},st.h k=some blk->bE d g st.h (rk d g k)=some (df d g blk):=by
  intro k blk A;unfold rk;split
  .rename_i e;subst e;simp[bE,A]
  .rename_i e
   have:k≠g:=by intro y;rw[y,B]at A;cases A
   simp[bE,this,e,A]
 have inj:∀{k R b K},st.h k=some b->st.h R=some K->rk d g k=rk d g R->k=R:=by
  intro k R b K m h2 e
  have n1:k≠g:=by intro y;rw[y,B]at m;cases m
  have n2:R≠g:=by intro y;rw[y,B]at h2;cases h2
  unfold rk at e;split at e<;>split at e
  .rename_i H y;rw[H,y]
  .exact absurd e.symm n2
  .exact absurd e n1
  .exact e
 have hM:∀b o,ae C F (bE d g st.h) b o->ae C L st.h b o:=by
  rintro b o (h0|⟨q,S,hq,G,J,hf⟩)
  .exact .inl h0
  .obtain⟨v,r,rfl,m,rfl⟩:=get hq
   rw[s m]at G J;exact .inr ⟨v,r,m,uC.1 G,J,λh9=>hf (Hr.2 h9)⟩
 have hp:Pres w (ae C L st.h) w (ae C F (bE d g st.h)):=Pres.sub hM;have V:∀k blk,st.h k=some blk->∃D,bE d g st.h (rk d g k)=some D/\em blk (L k) D (F (rk d g k)):=λk blk A=>⟨_,put A,by rw[s A];exact CJ _ _ _ _⟩;have E:∀{x u},RepA w (ae C L st.h) L st.h x u->RepA w (ae C F (bE d g st.h)) F (bE d g st.h) (bQ d g x) u:=λhx=>EI hp V hx;refine h a w ⟨F,⟨O.ext,O.m0,?_,?_,?_⟩,hN,U,λn=>E (ad n)⟩
 .intro q b hq
  obtain⟨v,r,rfl,m,rfl⟩:=get hq;rw[s m];have J:=O.bl v r m
  cases r with
  |box M own I=>
   obtain⟨arr,ty,e,G,Z⟩:=J;refine⟨arr,ty,e,by simpa using G,λi p u P hu=>?_⟩;simp only[VN,VK]at P;obtain⟨z,hz,rfl⟩:=P;exact E (Z i z u hz hu)
  |row e sz xs I=>
   obtain⟨a1,a2,a3,a4,a5⟩:=J;refine⟨a1,a2,a3,a4,λhn=>?_⟩;obtain⟨S,K,arr,b3,b4,b5⟩:=a5 hn;exact⟨S,K,arr,b3,b4,λi x j p hx hj=>by obtain⟨u,hu,Z⟩:=b5 i x j p hx hj;exact⟨u,hu,Z.mono hp⟩⟩
  |mp kd n es I=>exact J
 .intro q q' S K Y hq X G N
  obtain⟨p1,c1,rfl,d1,rfl⟩:=get hq;obtain⟨p2,c2,rfl,d2,rfl⟩:=get X;rw[s d1]at G|-;rw[s d2]at N|-;exact O.sep p1 p2 c1 c2 (λe=>Y (by rw[e])) d1 d2 (uC.1 G) (uC.1 N)
 .intro q b hq
  obtain⟨v,r,rfl,m,rfl⟩:=get hq;rw[s m];have l:=O.own v r m;by_cases e:v=d
  .subst e
   have H:rk v g v=g:=by simp[rk]
   rw[H]
   cases r with
   |box M own I=>
    cases own with
    |false=>exact absurd m (T M I)
    |true=>exact l
   |row e sz xs I=>
    unfold ft df;simp only[C.hpr g W];exact λhn=>l.row hn
   |mp=>exact l
  .have H:rk d g v=v:=by simp[rk,e]
   rw[H]
   cases r with
   |box M own I=>cases own<;>exact l
   |row=>exact l
   |mp=>exact l
theorem WP.nilRows(K:Nat->Bool)(e r:Nat){cs cs':List AV}{own fb:Bool}(j:st.h r=some (.box cs own fb))(B:∀q,K q=true->st.h q=none/\q<2000000)
 (z:cs'.length=cs.length)(D:∀(i:Nat) x,cs'[i]?=some x->cs[i]?=some x\/(cs[i]?=some (.pv (.val (.slice none 0 0)))/\∃q,K q=true/\x=.arr q 0))
 (h:WP C c Q ⟨st.t,λq=>if K q=true then some (.row e 1 [] 0)else if q=r then some (.box cs' own fb)else st.h q⟩):WP C c Q st:=by
 intro a w Z;obtain⟨L,v,hN,E,J⟩:=Z
 let g:Nat->Loc:=λq=>if K q=true then⟨0,0,true⟩else L q
 let k:Hp:=λq=>if K q=true then some (.row e 1 [] 0)else if q=r then some (.box cs' own fb)else st.h q
 have X:K r=false:=by
  cases d:K r with
  |false=>rfl
  |true=>rw[(B r d).1]at j;cases j
 have hL:∀{q b},st.h q=some b->K q=false/\g q=L q:=by
  intro q b hq
  have:K q=false:=by
   cases d:K q with
   |false=>rfl
   |true=>rw[(B q d).1]at hq;cases hq
  exact⟨this,by simp[g,this]⟩
 have get:∀{q b},k q=some b->(K q=true/\b=.row e 1 [] 0)\/(K q=false/\q=r/\b=.box cs' own fb)\/(K q=false/\q≠r/\st.h q=some b):=by
  intro q b hq;simp only[k]at hq;split at hq
  .rename_i d;injection hq with hq;exact .inl ⟨d,hq.symm⟩
  .rename_i d
   have d:K q=false:=by simpa using d
   split at hq
   .rename_i f;injection hq with hq;exact .inr (.inl ⟨d,f,hq.symm⟩)
   .rename_i f;exact .inr (.inr ⟨d,f,hq⟩)
 have W:∀b o,ae C g k b o->ae C L st.h b o:=by
  rintro b o (h0|⟨q,N,hq,m,l,hf⟩)
  .exact .inl h0
  .rcases get hq with⟨d,rfl⟩|⟨d,rfl,rfl⟩|⟨d,_,f⟩
   .simp[g,d,Blk.live]at m
   .rw[(hL j).2]at l
    exact .inr ⟨q,_,j,trivial,l,hf⟩
   .rw[(hL f).2]at m l
    exact .inr ⟨q,N,f,m,l,hf⟩
 have hp:Pres w (ae C L st.h) w (ae C g k):=Pres.sub W
 have s:KC L st.h g k:=by
  intro q b hq;obtain⟨d,f⟩:=hL hq;rw[f];by_cases A:q=r
  .subst A
   rw[j]at hq;injection hq with hq;subst hq;exact⟨.box cs' own fb,by simp[k,d],rfl⟩
  .exact⟨b,by simp[k,d,A,hq],dg _ _⟩
 refine h a w ⟨g,⟨v.ext,v.m0,?_,?_,?_⟩,hN,E,λn=>(J n).mono hp s⟩
 .intro q b hq
  rcases get hq with⟨d,rfl⟩|⟨d,rfl,rfl⟩|⟨d,_,f⟩
  .refine⟨Nat.one_pos,VU _,(λx hx=>by cases hx),λ_=>rfl,λhn=>?_⟩
   simp[g,d]at hn
  .obtain⟨arr,ty,A,V,O⟩:=v.bl q _ j
   refine⟨arr,ty,by rw[(hL j).2];exact A,by rw[z];exact V,λi p u G R=>?_⟩;rcases D i p G with f|⟨f,S,P,rfl⟩
   .exact(O i p u f R).mono hp s
   .have hv:=O i _ u f R
    cases hv with
    |pv Y=>
     rw[aU Y];refine .arr (xs:=[]) (e:=e) (sz:=1) (fz:=0) (by simp[k,P]) (VU _) (λ_=>?_);simp[g,P,Loc.slice]
  .rw[(hL f).2]
   exact(v.bl q b f).mono hp s (λ_=>rfl)
 .intro q S N b2 I hq H m F
  have y:∀{q b},k q=some b->b.live (g q)->∃M,st.h q=some M/\M.live (L q)/\g q=L q:=by
   intro q b hq m;rcases get hq with⟨d,rfl⟩|⟨d,rfl,rfl⟩|⟨d,_,f⟩
   .simp[g,d,Blk.live]at m
   .exact⟨_,j,trivial,(hL j).2⟩
   .rw[(hL f).2]at m;exact⟨b,f,m,(hL f).2⟩
  obtain⟨T,d1,f1,g1⟩:=y hq m;obtain⟨U,d2,f2,g2⟩:=y H F;rw[g1,g2];exact v.sep q S T U I d1 d2 f1 f2
 .intro q b hq
  rcases get hq with⟨d,rfl⟩|⟨d,rfl,rfl⟩|⟨d,_,f⟩
  .refine ft.mkRow (B q d).2 (λhn=>?_)
   simp[g,d]at hn
  .have:=v.own q _ j
   rw[(hL j).2];cases own<;>exact this
  .rw[(hL f).2];exact v.own q b f
attribute [simp] bQ bn jr rk df bE
end Go.Ab
