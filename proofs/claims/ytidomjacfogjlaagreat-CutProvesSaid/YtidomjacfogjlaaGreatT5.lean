/- The contracts and facts that the laws of this seat need, in one text (Rd, Ab26, Ab29, Ab35, Ab36). -/
import Derived.Test.YtidomjacfogjlaaGreatT4
import Derived.Test.YtidomjacfogjlaaGreatRows
set_option linter.all false
set_option maxRecDepth 10000
namespace Go.Ab
open IntKind (i64)
open Go.Proofs.Tryz
open Go.Proofs Go.Proofs.YtidomjacfogjlaaGreat
theorem own:ownKnob prog.godebug=none:=by kernel_rfl
theorem kids:Kids prog (·< prog.types.size):=kids_rows (by kernel_rfl) (by kernel_rfl)
theorem full:∀t e,t<prog.types.size->prog.underlying t=some (.slice e)->0<prog.cellsOf e:=slices_full_of prog (by kernel_rfl)
section
variable {H:Type}
theorem CE:BU H prog 3 (λi=>.val (.int .i64 i)) (λi=>i64.min<=i/\i<=i64.max) (λ_=>1):=La Tryz.underlying3
theorem nM:BU H prog 34 (λl:List Int=>.sl (l.map λi=>.val (.int .i64 i))) (λl=>l.length<=9223372036854775807/\∀a∈l,i64.min<=a/\a<=i64.max) (λl=>(l.map λ_=>1).sum+1):=HT Tryz.underlying34 CE
end
end Go.Ab
namespace Go.Ab
open IntKind (i64)
open Go.Proofs.Tryz
variable {G G':List (Nat×Blk)}{P:Program}{Q:Exit->St->Prop}{ats:Array TypeId}{b b':Blk}{d e1 id k q sz1:Nat}{f:Operand}{h:Hp}{hn ks:List Nat}{l:Loc}{o:Oper}{ops:Array Oper}{post pre:List Oper}{ren:Nat->Nat}{res:PV}{rs:List ResultVar}{st:St}{u:Value}{w':World}{x:AV}{xs xs':List PV}
theorem iC{C:Cx}{hn:List Nat}{i:Array Oper}{Q:St->Prop}{u:Exit->Act->World->Prop}{rest:List Oper}(k:∀st a w,gQ C st a w->Q st->wpList C.P i u rest a w):
 ∀{l:List Oper}{st:St}{a:Act}{w:World},gQ C st a w->fW C.P hn C.N i Q l st->wpList C.P i u (l++rest) a w
 |[],st,a,w,s,e=>k st a w s e
 |o::l,st,a,w,s,e=>by
  obtain⟨L,m,hN,f,j⟩:=s;rw[fW.eq_2]at e;obtain⟨hd,e⟩:=e;rw[List.cons_append];refine wpList_step (λK p=>?_);split at e
  .rename_i q
   rw[j5 j (tD q),yAb rfl];exact yM m hN f j hd e (λn v w' r c=>p _ _ (iC k c r))
  .rename_i d b want q
   rw[j5 j (pC q)];unfold Bo at e;simp only at e;split at e
   .rename_i g
    subst g;rw[yAb (by simp)];exact yM m hN f j hd e (λn v w' r c=>p _ _ (iC k c r))
   .rename_i g
    rw[L4 (by simpa using g)];exact p _ _ (iC k (gQ.put m hN f j hd (W:=[]) (aZ.refl m) (.pv (.val _))) e)
  .exact e.elim
theorem Bb{w:World}{M M':Nat->Nat->Prop}{L:Nat->Loc}(hp:Pres w M w' M')(a:RepA w M L h x u):
 RepA w' M' L (λk=>if ks.contains k=true then none else(h k).map (fA ks)) (iD ks x) u:=
 (Ec a).mono hp Ib
def rekey(h:Hp)(ks:List Nat)(k:Nat)(ab:Blk):Hp:=λq=>if q=k then some ab else if ks.contains q=true then none else(h q).map (fA ks)
def St.rekey(st:St)(ks:List Nat)(k:Nat)(ab:Blk):St:=⟨λn=>iD ks (st.t n),Go.Ab.rekey st.h ks k ab⟩
theorem lB{ab:Blk}(hq:rekey h ks k ab q=some b):(q=k/\b=ab)\/(q≠k/\q∉ks/\∃a,h q=some a/\b=fA ks a):=by
 unfold rekey at hq;split at hq
 .rename_i e;injection hq with hq;exact .inl ⟨e,hq.symm⟩
 .rename_i e
  split at hq
  .cases hq
  .rename_i f
   simp only[II]at hq;obtain⟨a,c,d⟩:=hq;exact .inr ⟨e,by simpa using f,a,c,d.symm⟩
theorem uP(b:Blk)(l:Loc):(fA ks b).live l=b.live l:=by cases b<;>rfl
theorem D0(b:Blk)(o:Nat):(fA ks b).frz o=b.frz o:=by cases b<;>rfl
theorem D1{C:Cx}(h:fw C k l b):fw C k l (fA ks b):=by
 cases b with
 |box a own c=>cases own<;>exact h
 |row=>exact h
 |mp=>exact h
section
variable {C:Cx} {L:Nat->Loc} {h:Hp} {w:World}
theorem MemL.retake(l:MemL C L h w){e sz m:Nat}(A:h k=some (.row e sz xs 0)):
 MemL C L (rekey h [k] k (.row e sz (xs.take m) 0)) w/\∀x u,RepA w (ak C L h) L h x u->RepA w (ak C L (rekey h [k] k (.row e sz (xs.take m) 0))) L (rekey h [k] k (.row e sz (xs.take m) 0)) (iD [k] x) u:=by
 have hM:∀b o,ak C L (rekey h [k] k (.row e sz (xs.take m) 0)) b o->ak C L h b o:=by
  rintro b o (h0|⟨q,ab,hq,d,R,hf⟩)
  .exact .inl h0
  .rcases lB hq with⟨rfl,rfl⟩|⟨_,_,a,g,rfl⟩
   .exact .inr ⟨q,_,A,d,R,hf⟩
   .rw[uP]at d;rw[D0]at hf
    exact .inr ⟨q,a,g,d,R,hf⟩
 have hp:=Pres.sub (w:=w) hM
 have H:KC L (λq=>if[k].contains q=true then none else(h q).map (fA [k])) L (rekey h [k] k (.row e sz (xs.take m) 0)):=by
  intro q ab hq;simp only at hq;split at hq
  .cases hq
  .rename_i S
   have r:q≠k:=by simpa using S
   refine⟨ab,?_,du _ _⟩;simp only[rekey,L4 r,L4 S];exact hq
 have f:∀x u,RepA w (ak C L h) L h x u->RepA w (ak C L (rekey h [k] k (.row e sz (xs.take m) 0))) L (rekey h [k] k (.row e sz (xs.take m) 0)) (iD [k] x) u:=
  λx u c=>(Bb (ks:=[k]) hp c).mono (Pres.refl _ _) H
 refine⟨⟨l.ext,l.m0,?_,?_,?_⟩,f⟩
 .intro q ab hq
  rcases lB hq with⟨rfl,rfl⟩|⟨_,_,a,g,rfl⟩
  .obtain⟨Y,g2,g3,Z,g5⟩:=l.bl q _ A
   refine⟨Y,yAT _,λx c=>g3 x (yBL c),λhn=>by rw[Z hn];simp,λhn=>?_⟩;obtain⟨M,B,arr,D,E,F⟩:=g5 hn;refine⟨by rw[yAN];omega,B,arr,D,E,λi x j p c G=>?_⟩;rw[yAw]at c;split at c
   .obtain⟨u,z,K⟩:=F i x j p c G
    exact⟨u,z,K.mono hp⟩
   .cases c
  .have:=l.bl q a g
   cases a with
   |box cs own Q=>
    obtain⟨arr,ty,e1,P⟩:=this;refine⟨arr,ty,e1,by simpa using P.1,λi p u v z=>?_⟩;simp only[ZW,II]at v;obtain⟨y,hy,rfl⟩:=v;exact f _ _ (P.2 i y u hy z)
   |row e' ad ys Q=>
    obtain⟨M,B,D,E,F⟩:=this;refine⟨M,B,D,E,λhn=>?_⟩;obtain⟨N,O,arr,T,U,V⟩:=F hn;exact⟨N,O,arr,T,U,λi x j p c G=>by obtain⟨u,z,K⟩:=V i x j p c G;exact⟨u,z,K.mono hp⟩⟩
   |mp kd n es Q=>exact this
 .intro q q' N O r hq J d I
  have s:∀{q b},rekey h [k] k (.row e sz (xs.take m) 0) q=some b->b.live (L q)->∃a,h q=some a/\a.live (L q):=by
   intro q b hq d;rcases lB hq with⟨rfl,rfl⟩|⟨_,_,a,g,rfl⟩
   .exact⟨_,A,d⟩
   .rw[uP]at d;exact⟨a,g,d⟩
  obtain⟨W,d1,f1⟩:=s hq d;obtain⟨X,d2,f2⟩:=s J I;exact l.sep q q' W X r d1 d2 f1 f2
 .intro q ab hq
  rcases lB hq with⟨rfl,rfl⟩|⟨_,_,a,g,rfl⟩
  .have h9:=l.own q _ A;exact h9
  .exact D1 (l.own q a g)
def Jm(P:Program)(f:FuncId)(ps:List PV)(i d:Nat)(xs xs':List PV)(k g:Nat)(ys:List PV):Prop:=
 dW P f=true/\xs'.length=xs.length/\∀(w:World)(M:Nat->Nat->Prop)(c a:Loc)(j:List Value),(∀b o,M b o->b<w.heap.size)->c.isNil=false->(a.isNil=false->a.b≠c.b)->
  (∀o,M c.b o)->(a.isNil=false->∀o,M a.b o)->bR w M ps j->db w M (λ_=>default) (λ_=>none) c (.row i d xs 0)->db w M (λ_=>default) (λ_=>none) a (.row k g ys 0)->
  Calls P f (j++[c.slice xs.length,a.slice ys.length]).toArray w λe w'=>(∃v,e=.returned v)/\Ext (λb=>b=c.b\/(a.isNil=false/\b=a.b)) w w'/\
   db w' (λb o=>M b o/\¬(a.isNil=false/\b=a.b)) (λ_=>default) (λ_=>none) c (.row i d xs' 0)
theorem MemL.handStep(m:MemL C L h w){g a E ay:Nat}{ys:List PV}(h1:h g=some (.row e1 sz1 xs 0))(F:h a=some (.row E ay ys 0))(Y:g≠a)(B:(L g).isNil=false)(a6:xs'.length=xs.length)
 (hx:Ext (λb=>b=(L g).b\/((L a).isNil=false/\b=(L a).b)) w w')
 (hb:db w' (λb o=>ak C L h b o/\¬((L a).isNil=false/\b=(L a).b)) (λ_=>default) (λ_=>none) (L g) (.row e1 sz1 xs' 0)):
 MemL C L (rekey h [a] g (.row e1 sz1 xs' 0)) w'/\∀x u,RepA w (ak C L h) L h x u->RepA w' (ak C L (rekey h [a] g (.row e1 sz1 xs' 0))) L (rekey h [a] g (.row e1 sz1 xs' 0)) (iD [a] x) u:=by
 have A:∀{q b},rekey h [a] g (.row e1 sz1 xs' 0) q=some b->q≠a/\∃k,h q=some k/\(b.live (L q)->k.live (L q))/\(∀o,¬b.frz o->¬k.frz o):=by
  intro q b hq;rcases lB hq with⟨rfl,rfl⟩|⟨_,hn,k,d,rfl⟩
  .exact⟨Y,_,h1,id,λ_=>id⟩
  .refine⟨by simpa using hn,k,d,?_,?_⟩
   .rw[uP];exact id
   .intro o;rw[D0];exact id
 have hM:∀b o,ak C L (rekey h [a] g (.row e1 sz1 xs' 0)) b o->ak C L h b o/\¬((L a).isNil=false/\b=(L a).b):=by
  rintro b o (S|⟨q,ab,hq,v,G,hf⟩)
  .refine⟨.inl S,?_⟩
   rintro⟨f,rfl⟩;have:=m.m0 _ _ S;rcases(m.own a _ F).row f with d|d
   .omega
   .exact d.2 _ S
  .obtain⟨D,k,d,H,U⟩:=A hq
   refine⟨.inr ⟨q,k,d,H v,G,U o hf⟩,?_⟩;rintro⟨f,T⟩;exact m.sep q a k _ D d F (H v) f (G.trans T)
 have I:∀b o,¬ak C L h b o->¬(b=(L g).b\/((L a).isNil=false/\b=(L a).b)):=by
  rintro b o hn (rfl|⟨f,rfl⟩)
  .exact hn (.inr ⟨g,_,h1,B,rfl,by simp[Blk.frz]⟩)
  .exact hn (.inr ⟨a,_,F,f,rfl,by simp[Blk.frz]⟩)
 have hp:Pres w (ak C L h) w' (ak C L (rekey h [a] g (.row e1 sz1 xs' 0))):=by
  refine Pres.ext hx (λb _ hs o=>?_) λb o _ d=>(hM b o d).1;exact Classical.byContradiction λhn=>I b o hn hs
 have W:KC L (λq=>if[a].contains q=true then none else(h q).map (fA [a])) L (rekey h [a] g (.row e1 sz1 xs' 0)):=by
  intro q ab hq;simp only at hq;split at hq
  .cases hq
  .rename_i hc
   by_cases e:q=g
   .subst e
    rw[h1]at hq;simp only[yAQ,fA,Z9]at hq;subst hq;exact⟨.row e1 sz1 xs' 0,by simp[rekey],rfl,rfl,by omega,λ_=>rfl⟩
   .exact⟨ab,by simp only[rekey,L4 e,L4 hc];exact hq,du _ _⟩
 have z:∀x u,RepA w (ak C L h) L h x u->RepA w' (ak C L (rekey h [a] g (.row e1 sz1 xs' 0))) L (rekey h [a] g (.row e1 sz1 xs' 0)) (iD [a] x) u:=
  λx u s=>(Bb (ks:=[a]) hp s).mono (Pres.refl _ _) W
 refine⟨⟨?_,m.m0,?_,?_,?_⟩,z⟩
 .refine m.ext.trans hx (λb a7 hs=>?_)
  rcases hs with rfl|⟨f,rfl⟩
  .rcases(m.own g _ h1).row B with d|d
   .omega
   .exact d.1
  .rcases(m.own a _ F).row f with d|d
   .omega
   .exact d.1
 .intro q ab hq
  rcases lB hq with⟨rfl,rfl⟩|⟨ad,D,k,d,rfl⟩
  .obtain⟨g1,g2,g3,g4,g5⟩:=hb
   refine⟨g1,g2,g3,g4,λhn=>?_⟩;obtain⟨N,O,arr,P,Q,R⟩:=g5 hn;exact⟨N,O,arr,P,Q,λi x j p s V=>by obtain⟨u,M,hr⟩:=R i x j p s V;exact⟨u,M,hr.mono (Pres.sub hM)⟩⟩
  .have K:q≠a:=by simpa using D
   have l:k.live (L q)->w'.heap[(L q).b]?=w.heap[(L q).b]?:=by
    intro v;refine hx.block _ ((m.bl q k d).lt v) ?_;rintro(r|⟨f,r⟩)
    .exact m.sep q g k _ ad d h1 v B r
    .exact m.sep q a k _ K d F v f r
   have:=m.bl q k d
   cases k with
   |box cs own fz=>
    obtain⟨arr,ty,e1,E⟩:=this;refine⟨arr,ty,(l trivial).trans e1,by simpa using E.1,λi p u J M=>?_⟩;simp only[ZW,II]at J;obtain⟨y,hy,rfl⟩:=J;exact z _ _ (E.2 i y u hy M)
   |row e' a8 zs fz=>
    obtain⟨N,O,P,Q,R⟩:=this;refine⟨N,O,P,Q,λhn=>?_⟩;obtain⟨b1,b2,arr,b3,b4,b5⟩:=R hn;exact⟨b1,b2,arr,(l hn).trans b3,b4,λi x j p s V=>by obtain⟨u,M,hr⟩:=b5 i x j p s V;exact⟨u,M,hr.mono hp⟩⟩
   |mp kd n es fz=>obtain⟨arr,c,e1,E⟩:=this;exact⟨arr,c,(l trivial).trans e1,E⟩
 .intro q q' b1 b2 ax hq Z v X
  obtain⟨_,c1,d1,f1,_⟩:=A hq;obtain⟨_,c2,d2,f2,_⟩:=A Z;exact m.sep q q' c1 c2 ax d1 d2 (f1 v) (f2 X)
 .intro q ab hq
  rcases lB hq with⟨rfl,rfl⟩|⟨_,_,k,d,rfl⟩
  .have r:=m.own q _ h1;exact r
  .exact D1 (m.own q k d)
end
section
variable {C:Cx} {Q:Exit->St->Prop} {st:St}
theorem kT{a:Act}(b:o.guard=none):Region.wanted o (yielded ops a.tmps)=true:=by
 unfold Region.wanted;rw[b]
def Rq(C:Cx)(hn:List Nat)(a:Array Oper)(Q:St->Prop)(t:TypeId)(x y:Operand)(d:Nat)(post:List Oper)(st:St):Prop:=
 ∃k e c n m i,st.ev x=.arr k n/\st.ev y=.pv (.val (.int i (m:Nat)))/\(∃xs,st.h k=some (.row e c xs 0)/\xs.length=n/\n≠0/\m<=n/\(∃f g b z,ag C.P t=some f/\f.kind=.slice g c b z)/\d<C.N/\
  fW C.P hn C.N a Q post ((st.rekey [k] k (.row e c (xs.take m) 0)).put (some d) (.arr k m) []))
theorem WP.trunc{t:TypeId}{x y:Operand}(p:ops.toList=pre++o::post)(J:o.op=.slice t x none (some y) none)(hd:o.dst=some d)(hg:o.guard=none)
 (hq:fW C.P hn C.N ops (Rq C hn ops (Q .normal) t x y d post) pre st):WP C (.region id ops false) Q st:=by
 intro a w hs;refine wp_region_list ?_;rw[p];refine iC (λax j l S O=>?_) hs hq;obtain⟨k,e,sz,n,m,kk,V,Y,xs,F,c,a5,a2,⟨ti,e',b',z',U,G⟩,D,i⟩:=O;obtain⟨L,hm,hN,E,T⟩:=S;refine wpList_step (λK hK=>?_);rw[kT hg,yAb rfl];have u:=dM T x;rw[V]at u
 have X:j.eval x=(L k).slice n:=by
  cases u with
  |arr g a6 hu=>
   rw[F]at g;injection g with g;injection g with _ _ a3 _;subst a3;exact hu c
 have v:=dM T y;rw[Y]at v
 have Z:j.eval y=.int kk (m:Nat):=by
  cases v with
  |pv hr=>exact aX hr
 have f:(L k).isNil=false/\xs.length<=(L k).cap:=by
  rcases nB hm F with⟨_,z⟩|⟨z,A,_⟩
  .rw[z]at c;simp at c;omega
  .exact⟨z,A⟩
 obtain⟨s,jt,hj,ay,_,_⟩:=dK U G
 have W:j.eval x=.slice (some ⟨(L k).b,0,none⟩) n (L k).cap:=by rw[X];simp[Loc.slice,f.1]
 have r:(execOp j.eval o).run C.P l=.ok (.value (.slice (some ⟨(L k).b,0,none⟩) m (L k).cap)) l:=by
  have B:¬(L k).cap=0:=by omega
  have I:(0:Int)<=(m:Int)/\(m:Int)<=((L k).cap:Int):=by omega
  have key:(Instr.sliceBounds true n (L k).cap none (some (.int kk (m:Nat))) none).run C.P l=.ok (0,m,(L k).cap) l:=by
   simp[Instr.sliceBounds,Instr.sliceBound,asIntOf,I]
   try (intro z;omega)
  have h2:(Instr.sliceAt t (j.eval x) none (some (j.eval y)) none).run C.P l=.ok (.slice (some ⟨(L k).b,0,none⟩) m (L k).cap) l:=by
   rw[W,Z];simp only[Instr.sliceAt,Sem.run_bind,cH s,Result.andThen_ok,Instr.slice,key,fZ hj,Sem.run_pure];simp[B,Addr.add]
  unfold execOp;rw[J];simp[h2]
 unfold Oper.wp;rw[r];refine hK _ _ ?_;obtain⟨H,q⟩:=hm.retake (m:=m) F;refine iJ (λad a' w' R M=>⟨ad,R,M⟩) (st:=(ax.rekey [k] k (.row e sz (xs.take m) 0)).put (some d) (.arr k m) []) ?_ i;refine⟨L,H,?_,?_,λn'=>?_⟩
 .rw[hd];simp[Act.put,hN]
 .rw[hd];exact E
 .rw[hd,vg (by rw[hN];exact D)]
  simp only[St.put,aH];split
  .refine .arr (e:=e) (sz:=sz) (fz:=0) (xs:=xs.take m) (by simp[St.rekey,Go.Ab.rekey,ah]) (by rw[yAN];omega) (λ_=>?_)
   simp[Loc.slice,f.1]
  .exact q _ _ (T n')
def Uc(C:Cx)(Q:St->Prop)(f x0 x1 x2:Operand)(d:Nat)(st:St):Prop:=
 ∃g p W b c e1 sz1 i a,∃xs xs' e:List PV,dw (st.ev f)=some (g,[],[])/\frz st.h (st.ev x0)=some (p,W)/\st.ev x1=.arr b xs.length/\st.ev x2=.arr c e.length/\
  ah st.h W b=some (.row e1 sz1 xs 0)/\ah st.h W c=some (.row i a e 0)/\b≠c/\xs≠[]/\Jm C.P g [p] e1 sz1 xs xs' i a e/\
  d<C.N/\Q ((St.rekey ⟨st.t,ah st.h W⟩ [c] b (.row e1 sz1 xs' 0)).put (some d) .undef [])
theorem WP.hand{x0 x1 x2:Operand}(G:ops.toList=pre++[o])(ax:o.op=.call {callee:=.value f,args:=#[x0,x1,x2],argTypes:=ats})(hd:o.dst=some d)(hg:o.guard=none)
 (hq:fW C.P hn C.N ops (Uc C (Q .normal) f x0 x1 x2 d) pre st):WP C (.region id ops false) Q st:=by
 intro a w hs;refine wp_region_list ?_;rw[G];refine iC (λq M w1 a7 a5=>?_) hs hq;obtain⟨g,p,W,z,A,e1,sz1,e2,b4,xs,xs',ys,U,Z,b0,b1,j,i,E,F,⟨c,D,hD⟩,V,hQ⟩:=a5;obtain⟨L,hm,hN,X,O⟩:=a7;refine wpList_step (λK hK=>?_);rw[kT hg,yAb rfl];obtain⟨vs,us,Y,bk,bq⟩:=jY (dM O f) U;have bs:=bk.nil_inv;have a8:=bq.nil_inv;subst bs;subst a8;obtain⟨R,a2,_⟩:=lL hm (bW.refl _) (dM O x0) Z;obtain⟨m,H,B⟩:=R
 have val:∀{x:Operand}{k e sz:Nat}{zs:List PV},q.ev x=.arr k zs.length->ah q.h W k=some (.row e sz zs 0)->M.eval x=(L k).slice zs.length:=by
  intro x k e sz zs hx hk;have hr:=(dM O x).mono H B;rw[hx]at hr
  cases hr with
  |arr i u hu=>
   rw[hk]at i;injection i with i;injection i with _ _ a3 _;subst a3;exact hu rfl
 have s:(L z).isNil=false:=by
  rcases nB m j with⟨_,S⟩|⟨S,_⟩
  .exact absurd S F
  .exact S
 have r:=hD w1 (ak C L (ah q.h W)) (L z) (L A) [M.eval x0] (λb o h=>m.mlt h) s
  (λu=>m.sep A z _ _ (λe=>E e.symm) i j u s)
  (λo=>.inr ⟨z,_,j,s,rfl,by simp[Blk.frz]⟩) (λu o=>.inr ⟨A,_,i,u,rfl,by simp[Blk.frz]⟩)
  (.cons a2 .nil) (m.bl z _ j) (m.bl A _ i)
 have J:(execOp M.eval o).run C.P w1=.ok (.enter g ([M.eval x0]++[(L z).slice xs.length,(L A).slice ys.length]).toArray) w1:=by
  unfold dW at c
  cases y:C.P.funcs[g]? with
  |none=>rw[y]at c;cases c
  |some fn=>
   rw[y]at c;simp only[An,yAI,yA6,ne_eq]at c
   have T:fn.body.isNone=false:=by cases b3:fn.body<;>simp_all
   unfold execOp;rw[ax];simp only[resolve,Y,Deferred.ofValue,pure_bind,Sem.run_bind,Result.andThen_ok,invoke,callFunc,program,Sem.run,y];simp[c.2,T,val b0 j,val b1 i]
 unfold Oper.wp;rw[J];simp only[Oper.upon];refine r.mono ?_;rintro ee w' ⟨⟨v,rfl⟩,hx,T⟩;obtain⟨ad,I⟩:=m.handStep j i E s D hx T;refine hK _ _ ?_;refine iJ (hn:=hn) (l:=[]) (Q:=Q .normal) (λb2 a' w' a6 ay=>⟨b2,a6,ay⟩) (st:=(St.rekey ⟨q.t,ah q.h W⟩ [A] z (.row e1 sz1 xs' 0)).put (some d) .undef []) ?_ hQ;refine⟨L,ad,?_,?_,λn=>?_⟩
 .rw[hd];simp[Act.put,hN]
 .rw[hd];exact X
 .rw[hd,vg (by rw[hN];exact V)]
  simp only[St.put,aH];split
  .exact .undef _
  .exact I _ _ ((O n).mono H B)
def Rr(C:Cx)(Q:St->Prop)(f x0 x1 x2:Operand)(d:Nat)(st:St):Prop:=
 ∃g p W b c e1 sz1 i a,∃xs xs' e:List PV,dw (st.ev f)=some (g,[],[])/\frz st.h (st.ev x0)=some (p,W)/\st.ev x1=.arr b xs.length/\st.ev x2=.arr c e.length/\
  ah st.h W b=some (.row e1 sz1 xs 0)/\ah st.h W c=some (.row i a e 0)/\st.h b=some (.row e1 sz1 xs 0)/\st.h c=some (.row i a e 0)/\xs'.all jG=true/\b≠c/\xs≠[]/\Jm C.P g [p] e1 sz1 xs xs' i a e/\
  d<C.N/\Q ((St.rekey st [c] b (.row e1 sz1 xs' 0)).put (some d) .undef [])
theorem WP.handL{x0 x1 x2:Operand}(F:ops.toList=pre++[o])(ax:o.op=.call {callee:=.value f,args:=#[x0,x1,x2],argTypes:=ats})(hd:o.dst=some d)(hg:o.guard=none)
 (hq:fW C.P hn C.N ops (Rr C (Q .normal) f x0 x1 x2 d) pre st):WP C (.region id ops false) Q st:=by
 intro a w hs;refine wp_region_list ?_;rw[F];refine iC (λu I w1 a8 a6=>?_) hs hq;obtain⟨g,p,W,z,A,e1,sz1,e2,b8,xs,xs',ys,T,Y,b3,b4,j,i,bk,bq,ad,D,E,⟨c,B,hD⟩,U,hQ⟩:=a6;obtain⟨L,hm,hN,V,J⟩:=a8;refine wpList_step (λK hK=>?_);rw[kT hg,yAb rfl];obtain⟨vs,us,X,b0,b1⟩:=jY (dM J f) T;have b2:=b0.nil_inv;have bs:=b1.nil_inv;subst b2;subst bs;obtain⟨M,a2,_⟩:=lL hm (bW.refl _) (dM J x0) Y;obtain⟨m,ay,S⟩:=M
 have val:∀{x:Operand}{k e sz:Nat}{zs:List PV},u.ev x=.arr k zs.length->ah u.h W k=some (.row e sz zs 0)->I.eval x=(L k).slice zs.length:=by
  intro x k e sz zs hx hk;have hr:=(dM J x).mono ay S;rw[hx]at hr
  cases hr with
  |arr i s hu=>
   rw[hk]at i;injection i with i;injection i with _ _ a3 _;subst a3;exact hu rfl
 have r:(L z).isNil=false:=by
  rcases nB m j with⟨_,O⟩|⟨O,_⟩
  .exact absurd O E
  .exact O
 have q:=hD w1 (ak C L (ah u.h W)) (L z) (L A) [I.eval x0] (λb o h=>m.mlt h) r
  (λs=>m.sep A z _ _ (λe=>D e.symm) i j s r)
  (λo=>.inr ⟨z,_,j,r,rfl,by simp[Blk.frz]⟩) (λs o=>.inr ⟨A,_,i,s,rfl,by simp[Blk.frz]⟩)
  (.cons a2 .nil) (m.bl z _ j) (m.bl A _ i)
 have H:(execOp I.eval o).run C.P w1=.ok (.enter g ([I.eval x0]++[(L z).slice xs.length,(L A).slice ys.length]).toArray) w1:=by
  unfold dW at c
  cases y:C.P.funcs[g]? with
  |none=>rw[y]at c;cases c
  |some fn=>
   rw[y]at c;simp only[An,yAI,yA6,ne_eq]at c
   have R:fn.body.isNone=false:=by cases b7:fn.body<;>simp_all
   unfold execOp;rw[ax];simp only[resolve,X,Deferred.ofValue,pure_bind,Sem.run_bind,Result.andThen_ok,invoke,callFunc,program,Sem.run,y];simp[c.2,R,val b3 j,val b4 i]
 unfold Oper.wp;rw[H];simp only[Oper.upon];refine q.mono ?_;rintro ee w' ⟨⟨v,rfl⟩,hx,R⟩;obtain⟨Z,G⟩:=hm.handStep bk bq D r B hx (zO ad R);refine hK _ _ ?_;refine iJ (hn:=hn) (l:=[]) (Q:=Q .normal) (λb5 a' w' a7 a5=>⟨b5,a7,a5⟩) (st:=(St.rekey u [A] z (.row e1 sz1 xs' 0)).put (some d) .undef []) ?_ hQ;refine⟨L,Z,?_,?_,λn=>?_⟩
 .rw[hd];simp[Act.put,hN]
 .rw[hd];exact V
 .rw[hd,vg (by rw[hN];exact U)]
  simp only[St.put,aH];split
  .exact .undef _
  .exact G _ _ (J n)
end
attribute [simp] St.rekey rekey
def Fp(ps:List PV)(c a:Nat)(xs:List PV)(d b:Nat)(ys:List PV):St:=
 ⟨λn=>if n<ps.length then .pv (ps[n]?.getD default)else if n=ps.length then .arr 2000000 xs.length else if n=ps.length+1 then .arr 1500000 ys.length else .undef,
  λk=>if k=2000000 then some (.row c a xs 0)else if k=1500000 then some (.row d b ys 0)else none⟩
def MO(b a:Nat)(xs':List PV):Exit->St->Prop
 |.normal,st=>st.h 2000000=some (.row b a xs' 0)
 |.ret,st=>st.h 2000000=some (.row b a xs' 0)
 |_,_=>False
@[simp] theorem T6:MO e1 sz1 xs' .normal st=(st.h 2000000=some (.row e1 sz1 xs' 0)):=rfl
@[simp] theorem Vu:MO e1 sz1 xs' .ret st=(st.h 2000000=some (.row e1 sz1 xs' 0)):=rfl
theorem P8{f:FuncId}{fn:Func}{c:Code}(hf:P.funcs[f]?=some fn)(hb:fn.body=some c)(H:dW P f=true)(Y:fn.results=#[]){ps:List PV}{z l:Nat}{ys:List PV}(b5:ps.length+2<=fn.ntmps)(hl:xs'.length=xs.length)
 (h:∀C:Cx,C.P=P->C.N=fn.ntmps->WP C c (MO e1 sz1 xs') (Fp ps e1 sz1 xs z l ys)):Jm P f ps e1 sz1 xs xs' z l ys:=by
 refine⟨H,hl,λw M g d y hM V D a6 a7 ax a8 bk=>?_⟩
 let C:Cx:={P:=P,N:=fn.ntmps,M0:=λb o=>M b o/\¬(b=g.b\/(d.isNil=false/\b=d.b)),S:=λb=>b=g.b\/(d.isNil=false/\b=d.b),pb:=λ_=>none,pr:=λk=>if k=2000000 then some g else none,hpr:=(λk a=>by rw[L4 (by omega)]),w0:=w}
 let L:Nat->Loc:=λk=>if k=2000000 then g else d
 have b7:L 2000000=g:=rfl;have b8:L 1500000=d:=rfl
 have m:∀k ab,(Fp ps e1 sz1 xs z l ys).h k=some ab->(k=2000000/\ab=.row e1 sz1 xs 0)\/(k=1500000/\ab=.row z l ys 0):=by
  intro k ab a;simp only[Fp]at a;split at a
  .rename_i e;injection a with a;exact .inl ⟨e,a.symm⟩
  .split at a
   .rename_i e;injection a with a;exact .inr ⟨e,a.symm⟩
   .cases a
 have O:∀b o,ak C L (Fp ps e1 sz1 xs z l ys).h b o↔M b o:=by
  intro b o;constructor
  .rintro(h0|⟨k,ab,a,b4,R,hf⟩)
   .exact h0.1
   .rcases m k ab a with⟨rfl,rfl⟩|⟨rfl,rfl⟩
    .rw[<-R];exact a6 o
    .rw[<-R];exact a7 b4 o
  .intro U
   by_cases J:b=g.b
   .exact .inr ⟨2000000,.row e1 sz1 xs 0,rfl,V,J.symm,by simp[Blk.frz]⟩
   .by_cases F:d.isNil=false/\b=d.b
    .exact .inr ⟨1500000,.row z l ys 0,rfl,F.1,F.2.symm,by simp[Blk.frz]⟩
    .exact .inl ⟨U,by rintro(r|r);exact J r;exact F r⟩
 have A:ak C L (Fp ps e1 sz1 xs z l ys).h=M:=by funext b o;exact propext (O b o)
 have b9:=ax.1
 have ad:gQ C (Fp ps e1 sz1 xs z l ys) {tmps:=(y++[g.slice xs.length,d.slice ys.length]).toArray++Array.replicate (fn.ntmps-(y++[g.slice xs.length,d.slice ys.length]).toArray.size) undef,defers:=[]} w:=by
  refine⟨L,⟨Ext.refl _ _,λb o h0=>hM b o h0.1,?_,?_,?_⟩,?_,jZ.nil _,λn=>?_⟩
  .intro k ab a
   rw[A];rcases m k ab a with⟨rfl,rfl⟩|⟨rfl,rfl⟩
   .exact a8
   .exact bk
  .intro k k' b1 b2 X a bs b0 b3
   rcases m k b1 a with⟨rfl,rfl⟩|⟨rfl,rfl⟩<;>rcases m k' b2 bs with⟨rfl,rfl⟩|⟨rfl,rfl⟩
   .exact absurd rfl X
   .exact λe=>D b3 e.symm
   .exact λe=>D b0 e
   .exact absurd rfl X
  .intro k ab a
   rcases m k ab a with⟨rfl,rfl⟩|⟨rfl,rfl⟩
   .show fw C 2000000 g _
    exact⟨rfl,λ_=>⟨.inl rfl,λo K=>K.2 (.inl rfl)⟩⟩
   .show fw C 1500000 d _
    exact λW=>.inr ⟨.inr ⟨W,rfl⟩,λo K=>K.2 (.inr ⟨W,rfl⟩)⟩
  .show((y++[g.slice xs.length,d.slice ys.length]).toArray++Array.replicate (fn.ntmps-(y++[g.slice xs.length,d.slice ys.length]).toArray.size) undef).size=fn.ntmps
   simp;omega
  .rw[A]
   have s:∀v,(y++[g.slice xs.length,d.slice ys.length])[n]?=some v->((y++[g.slice xs.length,d.slice ys.length]).toArray++Array.replicate (fn.ntmps-(y++[g.slice xs.length,d.slice ys.length]).toArray.size) undef).getD n undef=v:=by
    intro v hv;rw[yAc,yAH (by have:=(th.1 hv).1;simpa using this),yBh,hv];rfl
   by_cases I:n<ps.length
   .have hv:y[n]?=some (y[n]'(by omega)):=an _
    rw[s _ (by rw[ZX (by omega)];exact hv)];show RepA w M L _ (if n<ps.length then _ else _) _;rw[yAb I,an I];exact .pv (ax.2 n _ _ (an I) hv)
   .by_cases c2:n=ps.length
    .rw[s (g.slice xs.length) (by rw[yAa (by omega),show n-y.length=0 by omega];rfl)]
     show RepA w M L _ (if n<ps.length then _ else if n=ps.length then _ else _) _;rw[L4 I,yAb c2];exact .arr (e:=e1) (sz:=sz1) (fz:=0) (xs:=xs) rfl (yAd _) (λ_=>rfl)
    .by_cases c3:n=ps.length+1
     .rw[s (d.slice ys.length) (by rw[yAa (by omega),show n-y.length=1 by omega];rfl)]
      show RepA w M L _ (if n<ps.length then _ else if n=ps.length then _ else if n=ps.length+1 then _ else _) _;rw[L4 I,L4 c2,yAb c3];exact .arr (e:=z) (sz:=l) (fz:=0) (xs:=ys) rfl (yAd _) (λ_=>rfl)
     .show RepA w M L _ (if n<ps.length then _ else if n=ps.length then _ else if n=ps.length+1 then _ else _) _
      rw[L4 I,L4 c2,L4 c3];exact .undef _
 refine calls_of_wp_defers hf hb (wp_mono (h C rfl rfl _ w ad) ?_)
 have B:∀(E:Act) w' q,gQ C q E w'->q.h 2000000=some (.row e1 sz1 xs' 0)->jZ P E.defers/\∃v,(results fn E.tmps).run P w'=.ok v w'/\
  ((∃v',Ending.returned v=.returned v')/\Ext (λb=>b=g.b\/(d.isNil=false/\b=d.b)) w w'/\db w' (λb o=>M b o/\¬(d.isNil=false/\b=d.b)) (λ_=>default) (λ_=>none) g (.row e1 sz1 xs' 0)):=by
  rintro E w' q ⟨L',U,hN,bq,ht⟩ a
  have G:L' 2000000=g:=by
   have:=U.own _ _ a;simp only[fw]at this;exact this.1
  have T:=U.bl _ _ a;rw[G]at T;refine⟨bq,.tuple #[],?_,⟨_,rfl⟩,U.ext,?_⟩
  .unfold results
   rw[Y];simp[go_sem]
  .obtain⟨g1,g2,g3,g4,g5⟩:=T
   refine⟨g1,g2,g3,g4,λhn=>?_⟩;obtain⟨a1,a2,arr,a3,a4,a5⟩:=g5 hn;refine⟨a1,a2,arr,a3,a4,λi x j p hx hj=>?_⟩;obtain⟨u,hu,hr⟩:=a5 i x j p hx hj;refine⟨u,hu,hr.mono (Pres.sub ?_)⟩;rintro b o ⟨K,ay⟩;by_cases Q:b=g.b
   .exact .inr ⟨2000000,_,a,by show(L' 2000000).isNil=false;rw[G];exact V,by rw[G];exact Q.symm,by simp[Blk.frz]⟩
   .exact .inl ⟨K,by rintro(r|r);exact Q r;exact ay r⟩
 rintro e E w' ⟨q,Z,hq⟩
 cases e with
 |normal=>obtain⟨J,v,F,r⟩:=B E w' q Z hq;exact iS J F r
 |ret=>obtain⟨J,v,F,r⟩:=B E w' q Z hq;exact iS J F r
 |exit=>exact hq.elim
 |goto=>exact hq.elim
 |panic=>exact hq.elim
 |outgrown=>exact hq.elim
def qE(ren:Nat->Nat):AV->AV
 |.ptr k a=>.ptr (ren k) a
 |.arr k n=>.arr (ren k) n
 |x=>x
def Jn(ren:Nat->Nat):AV->AV
 |.agg a=>.agg (a.map (qE ren))
 |x=>qE ren x
def ro(K:List Nat):AV->Bool
 |.pv _=>true
 |.ptr k _=>K.contains k
 |.arr k _=>K.contains k
 |_=>false
def Pl(K:List Nat):AV->Bool
 |.agg a=>a.all (ro K)
 |x=>ro K x
def bG:List (Nat×Blk)->Hp
 |[]=>λ_=>none
 |(k,b)::r=>λq=>if q=k then some b else bG r q
def mH(ren:Nat->Nat)(own:Bool):Blk->Blk
 |.box a _ _=>.box (a.map (qE ren)) own false
 |b=>b
def lc(K:List Nat)(k:Nat):Blk->Bool
 |.box b own a=>b.all (ro K)&& !own&& !a&&decide (1000000<=k)&&decide (k<2000000)
 |.row _ _ _ a=>decide (a=0)&&decide (2000000<=k)
 |.mp _ _ _ _=>false
def Bc:Blk->Blk->Bool
 |.box _ _ _,.box _ _ _=>true
 |.row e c xs _,.row b a xs' _=>e==b&&c==a&&xs.length==xs'.length
 |_,_=>false
theorem fG(h:bG G k=some b):(k,b)∈G:=by
 induction G with
 |nil=>cases h
 |cons x r ih=>
  grind [bG,List.mem_cons_self,List.mem_cons_of_mem]
theorem lC(hn:(G.map (·.1)).Nodup)(h:(k,b)∈G):bG G k=some b:=by
 induction G with
 |nil=>cases h
 |cons x r ih=>
  grind [bG,List.nodup_cons]
section
variable {w:World} {M M':Nat->Nat->Prop} {L L':Nat->Loc} {h h':Hp} {ren:Nat->Nat} {K:List Nat}
theorem sr(m:∀b o,M' b o->M b o)(j:∀k∈K,∀ab,h (ren k)=some ab->∃a,h' k=some a/\eY ab (L (ren k)) a (L' k))(g:ro K x=true)(i:RepA w M L h (qE ren x) u):RepA w M' L' h' x u:=by
 cases x with
 |pv p=>cases i with
  |pv q=>exact .pv (q.mono (Pres.sub m))
 |ptr k r=>
  cases i with
  |ptr f=>
   obtain⟨a,d,c⟩:=j k (by simpa[ro]using g) _ f
   cases a with
   |row=>exact c.elim
   |mp=>exact c.elim
   |box y own l=>
    have c:(L' k).b=(L (ren k)).b:=c;rw[<-c];exact .ptr d
 |arr k n=>
  cases i with
  |arr f hn z=>
   obtain⟨a,d,c⟩:=j k (by simpa[ro]using g) _ f
   cases a with
   |box=>exact c.elim
   |mp=>exact c.elim
   |row e A xs l=>
    obtain⟨_,_,s,v⟩:=c;refine .arr d (by omega) (λe=>?_)
    grind
 |_=>cases g
theorem MP(c:∀b o,M' b o->M b o)(d:∀k∈K,∀ab,h (ren k)=some ab->∃a,h' k=some a/\eY ab (L (ren k)) a (L' k))(e:Pl K x=true)(f:RepA w M L h (Jn ren x) u):RepA w M' L' h' x u:=by
 cases x with
 |agg g=>
  cases f with
  |agg _ n l j=>
   refine .agg g n (by simpa using l) (λi p u hp m=>?_);exact sr c d (IV.1 e p (In hp)) (j i _ u (by simp[hp]) m)
 |_=>exact sr c d e f
theorem Jo(m:∀b o,M' b o->M b o)(j:∀k∈K,∀ab,h' k=some ab->∃a,h (ren k)=some a/\eY ab (L' k) a (L (ren k)))(g:ro K x=true)(i:RepA w M L' h' x u):RepA w M' L h (qE ren x) u:=by
 cases x with
 |pv p=>cases i with
  |pv q=>exact .pv (q.mono (Pres.sub m))
 |ptr k r=>
  cases i with
  |ptr f=>
   obtain⟨a,d,c⟩:=j k (by simpa[ro]using g) _ f
   cases a with
   |row=>exact c.elim
   |mp=>exact c.elim
   |box y own l=>
    have c:(L (ren k)).b=(L' k).b:=c;rw[<-c];exact .ptr d
 |arr k n=>
  cases i with
  |arr f hn z=>
   obtain⟨a,d,c⟩:=j k (by simpa[ro]using g) _ f
   cases a with
   |box=>exact c.elim
   |mp=>exact c.elim
   |row e A xs l=>
    obtain⟨_,_,s,v⟩:=c;refine .arr d (by omega) (λe=>?_)
    grind
 |_=>cases g
end
def E5(G:List (Nat×Blk))(L:Nat->Loc)(b:Nat):Prop:=∃k ab,bG G k=some ab/\ab.live (L k)/\b=(L k).b
structure OkG(G G':List (Nat×Blk)):Prop where
 keys:G'.map (·.1)=G.map (·.1)
 nodup:(G.map (·.1)).Nodup
 okin:∀k b,(k,b)∈G->lc (G.map (·.1)) k b=true
 okout:∀k b,(k,b)∈G'->lc (G.map (·.1)) k b=true
 same:∀k b b',bG G k=some b->bG G' k=some b'->Bc b b'=true
def MQ(P:Program)(f:FuncId)(args:List AV)(G d:List (Nat×Blk))(g:PV):Prop:=
 dW P f=true/\OkG G d/\∀(w:World)(M:Nat->Nat->Prop)(L:Nat->Loc)(i:List Value),(∀b o,M b o->b<w.heap.size)->
  (∀k ab,bG G k=some ab->ab.live (L k)->∀o,M (L k).b o)->
  (∀k c ab a,k≠c->bG G k=some ab->bG G c=some a->ab.live (L k)->a.live (L c)->(L k).b≠(L c).b)->
  (∀k ab,bG G k=some ab->db w M L (bG G) (L k) ab)->aB w M L (bG G) args i->
  Calls P f i.toArray w λe w'=>∃v,e=.returned v/\Ext (E5 G L) w w'/\(∀k ab,bG d k=some ab->db w' M L (bG d) (L k) ab)/\Rep w' M g v
def Rs(args:List AV)(G:List (Nat×Blk)):St:=⟨λn=>(args[n]?).getD .undef,bG G⟩
def Fq(P:Program)(rs:List ResultVar)(c:List (Nat×Blk))(a:PV)(st:St):Prop:=
 t7 a=true/\(∃r,wZ P st rs=some r/\∃W,frz st.h r=some (a,W))/\∀b∈c,st.h b.1=some b.2
def MR(P:Program)(rs:List ResultVar)(b:List (Nat×Blk))(a:PV):Exit->St->Prop
 |.normal,st=>Fq P rs b a st
 |.ret,st=>Fq P rs b a st
 |_,_=>False
@[simp] theorem T7:MR P rs G' res .normal st=Fq P rs G' res st:=rfl
@[simp] theorem Vv:MR P rs G' res .ret st=Fq P rs G' res st:=rfl
theorem P9{f:FuncId}{fn:Func}{c:Code}(hf:P.funcs[f]?=some fn)(hb:fn.body=some c)(Z:dW P f=true){args:List AV}(ck:args.length<=fn.ntmps)(l:OkG G G')
 (h:∀C:Cx,C.P=P->C.N=fn.ntmps->WP C c (MR P fn.results.toList G' res) (Rs args G)):MQ P f args G G' res:=by
 refine⟨Z,l,λw M L V hM b7 T a6 b0=>?_⟩;have okin:∀{k ab},bG G k=some ab->lc (G.map (·.1)) k ab=true:=λa=>l.okin _ _ (fG a);have okout:∀{k ab},bG G' k=some ab->lc (G.map (·.1)) k ab=true:=λa=>l.okout _ _ (fG a)
 have a8:(G'.map (·.1)).Nodup:=by rw[l.keys];exact l.nodup
 have B:∀{k ab},bG G k=some ab->∃d,bG G' k=some d:=by
  intro k ab a
  have F:k∈G'.map (·.1):=by rw[l.keys];exact yAt.2 ⟨_,fG a,rfl⟩
  obtain⟨⟨k',b'⟩,D,z⟩:=yAt.1 F;simp only at z;subst z;exact⟨b',lC a8 D⟩
 have b3:∀{k ab},bG G' k=some ab->∃d,bG G k=some d:=by
  intro k ab a
  have F:k∈G.map (·.1):=by rw[<-l.keys];exact yAt.2 ⟨_,fG a,rfl⟩
  obtain⟨⟨k',b'⟩,D,z⟩:=yAt.1 F;simp only at z;subst z;exact⟨b',lC l.nodup D⟩
 let I:Nat->Prop:=λb=>∃k e J xs A,bG G k=some (.row e J xs A)/\(L k).isNil=false/\b=(L k).b
 let C:Cx:={P:=P,N:=fn.ntmps,M0:=λb o=>M b o/\¬I b,S:=E5 G L,pb:=λk=>some (L k).b,pr:=λk=>if 2000000<=k then some (L k)else none,hpr:=(λk a=>by rw[L4 (by omega)]),w0:=w}
 have ay:∀b o,ak C L (bG G) b o↔M b o:=by
  intro b o;constructor
  .rintro(h0|⟨k,ab,a,hl,cn,_⟩)
   all_goals grind
  .intro F
   by_cases hr:I b
   .obtain⟨k,e,J,xs,A,a,hn,rfl⟩:=hr
    refine .inr ⟨k,_,a,hn,rfl,?_⟩;have:=okin a;simp only[lc,An,Is]at this
    grind [Blk.frz]
   .exact .inl ⟨F,hr⟩
 have Q:ak C L (bG G)=M:=by funext b o;exact propext (ay b o)
 have ch:=b0.1
 have bs:gQ C (Rs args G) {tmps:=V.toArray++Array.replicate (fn.ntmps-V.toArray.size) undef,defers:=[]} w:=by
  refine⟨L,⟨Ext.refl _ _,λb o h0=>hM b o h0.1,?_,T,?_⟩,by show(V.toArray++Array.replicate (fn.ntmps-V.toArray.size) undef).size=fn.ntmps;simp;omega,jZ.nil _,λn=>?_⟩
  .intro k ab a
   show db w (ak C L (bG G)) L (bG G) (L k) ab;rw[Q];exact a6 k ab a
  .intro k ab a
   have s:=okin a
   cases ab with
   |mp=>cases s
   |box cs own A=>
    simp only[lc,An,yAI,Is]at s;obtain⟨⟨⟨⟨_,D⟩,z⟩,h3⟩,h4⟩:=s;subst D;subst z;refine⟨rfl,rfl,⟨k,_,a,trivial,rfl⟩,?_,λo=>⟨b7 k _ a trivial o,?_⟩⟩
    .exact(a6 k _ a).lt trivial
    .rintro⟨k',e,J,xs,A,m,ca,he⟩
     by_cases e':k=k'
     .subst e';rw[show bG G k=_ from a]at m;cases m
     .exact T k k' _ _ e' a m trivial ca he
   |row e J xs A=>
    simp only[lc,An,Is]at s;show fw C k (L k) _;have hpr:C.pr k=some (L k):=yAb s.2;unfold fw;simp only;rw[hpr];exact⟨rfl,λhn=>⟨⟨k,_,a,hn,rfl⟩,λo h9=>h9.2 ⟨k,e,J,xs,A,a,hn,rfl⟩⟩⟩
  .show RepA w (ak C L (bG G)) L (bG G) ((args[n]?).getD .undef) _
   rw[Q]
   cases hp:args[n]? with
   |none=>exact .undef _
   |some p=>
    have ad:n<V.length:=by rw[<-ch];exact(th.1 hp).1
    have a7:(V.toArray++Array.replicate (fn.ntmps-V.toArray.size) undef).getD n undef=V[n]:=by
     rw[yAc,yAH (by simpa using ad)];simp[ad]
    simp only[a7];exact b0.2 n p _ hp (an ad)
 refine calls_of_wp_defers hf hb (wp_mono (h C rfl rfl _ w bs) ?_)
 have R:∀(X:Act) w' g,gQ C g X w'->Fq P fn.results.toList G' res g->jZ P X.defers/\∃v,(results fn X.tmps).run P w'=.ok v w'/\
  ∃v',Ending.returned v=.returned v'/\Ext (E5 G L) w w'/\(∀k ab,bG G' k=some ab->db w' M L (bG G') (L k) ab)/\Rep w' M res v':=by
  rintro X w' g ⟨L',F,hN,b5,ht⟩ ⟨b8,⟨r,hr,W,hW⟩,cd⟩;obtain⟨u,cf,cg⟩:=By (C:=C) F ht hr;have y:∀{k ab},bG G' k=some ab->g.h k=some ab:=λa=>cd _ (fG a)
  have O:∀{k e J xs A},bG G' k=some (.row e J xs A)->L' k=L k:=by
   intro k e J xs A a;have s:=okout a;simp only[lc,An,Is]at s;have E:=F.own k _ (y a);have hpr:C.pr k=some (L k):=yAb s.2;simp only[fw,hpr]at E;exact E.1
  have ax:∀{k cs own A},bG G' k=some (.box cs own A)->(L' k).b=(L k).b:=by
   intro k cs own A a;have s:=okout a;simp only[lc,An,yAI,Is]at s;obtain⟨⟨⟨⟨_,D⟩,z⟩,h3⟩,h4⟩:=s;subst D;subst z;have E:=(F.own k _ (y a)).2.1;injection E with E;exact E.symm
  have U:∀b o,M b o->ak C L' g.h b o:=by
   intro b o b9;by_cases bk:I b
   .obtain⟨k,e,J,xs,A,a,hn,rfl⟩:=bk
    obtain⟨d,m⟩:=B a;have hs:=l.same k _ _ a m
    cases d with
    |box=>cases hs
    |mp=>cases hs
    |row e' cp xs' cm=>
     have s:=okout m;simp only[lc,An,Is]at s;refine .inr ⟨k,_,y m,?_,?_,?_⟩
     .show(L' k).isNil=false;rw[O m];exact hn
     .rw[O m]
     .rw[s.1];simp[Blk.frz]
   .exact .inl ⟨b9,bk⟩
  obtain⟨b1,b2,_⟩:=lL F (bW.refl _) cg hW;refine⟨b5,u,cf,u,rfl,F.ext,?_,?_⟩
  .intro k ab a
   have Y:=F.bl k ab (y a)
   cases ab with
   |mp=>cases okout a
   |row e J xs A=>
    rw[O a]at Y;obtain⟨g1,g2,g3,g4,g5⟩:=Y;refine⟨g1,g2,g3,g4,λhn=>?_⟩;obtain⟨a1,a2,arr,a3,a4,a5⟩:=g5 hn;exact⟨a1,a2,arr,a3,a4,λi x j p hx hj=>by obtain⟨u,hu,hr⟩:=a5 i x j p hx hj;exact⟨u,hu,hr.mono (Pres.sub U)⟩⟩
   |box cs own A=>
    obtain⟨arr,ty,e1,e2⟩:=Y;rw[ax a]at e1;refine⟨arr,ty,e1,e2.1,λi p u hp hu=>?_⟩;have s:=okout a;simp only[lc,An]at s;have cb:=IV.1 s.1.1.1.1 p (In hp);have hx:=e2.2 i p u hp hu
    have e0:qE id p=p:=by cases p<;>rfl
    have cj:RepA w' (ak C L' g.h) L' g.h (qE id p) u:=by rw[e0];exact hx
    refine sr (ren:=id) (K:=G.map (·.1)) (M':=M) (L':=L) (h':=bG G') U (λq hq ab hb=>?_) cb cj
    .obtain⟨⟨q',b'⟩,D,z⟩:=yAt.1 hq
     simp only at z;subst z;obtain⟨d,H⟩:=B (lC l.nodup D);refine⟨d,H,?_⟩;have h9:=y H;have b4:g.h q'=some ab:=hb;rw[b4]at h9;injection h9 with h9;subst h9
     cases ab with
     |mp=>cases okout H
     |box=>exact(ax H).symm
     |row=>exact⟨rfl,rfl,yAd _,λ_=>(O H).symm⟩
  .exact tG b8 b2
 rintro e X w' ⟨g,bq,hq⟩
 cases e with
 |normal=>obtain⟨D,v,z,h3⟩:=R X w' g bq hq;exact iS D z h3
 |ret=>obtain⟨D,v,z,h3⟩:=R X w' g bq hq;exact iS D z h3
 |exit=>exact hq.elim
 |goto=>exact hq.elim
 |panic=>exact hq.elim
 |outgrown=>exact hq.elim
def pn(h:Hp)(q:Nat):Bool:=match h q with
 |some (.box _ own _)=>own
 |_=>false
def lD(ren:Nat->Nat)(h:Hp)(b:List (Nat×Blk)):List (Nat×Blk):=b.map λa=>(ren a.1,mH ren (pn h (ren a.1)) a.2)
theorem Bd{ren:Nat->Nat}{g:Nat×Blk->Blk}:∀(l:List (Nat×Blk))(h:Hp),(l.map λx=>ren x.1).Nodup->∀x∈l,ah h (l.map λx=>(ren x.1,g x)) (ren x.1)=some (g x)
 |[],_,_,x,a=>by cases a
 |y::l,h,hn,x,a=>by
  rw[yBa,yCd]at hn;rw[yBa];show ah (aH h (ren y.1) (some (g y))) (l.map λx=>(ren x.1,g x)) (ren x.1)=_;rcases yAv.1 a with rfl|a
  .rw[lO,aE]
   intro d b;obtain⟨z,c,rfl⟩:=yAt.1 b;intro e;exact hn.1 (yAt.2 ⟨z,c,e⟩)
  .exact Bd l _ hn.2 x a
theorem pJ{own:Bool}:(mH ren own b).live l↔b.live l:=by cases b<;>exact yBi
theorem Ap{own:Bool}{K:List Nat}{o:Nat}(h:lc K k b=true):¬(mH ren own b).frz o:=by
 cases b with
 |mp=>cases h
 |box d a c=>simp[mH,Blk.frz]
 |row e f xs c=>
  simp_all[lc,An,mH,Blk.frz]
structure Share(h:Hp)(ren:Nat->Nat)(G G':List (Nat×Blk)):Prop where
 ok:OkG G G'
 inj:(G.map λx=>ren x.1).Nodup
 have_:∀kb∈G,h (ren kb.1)=some (mH ren (pn h (ren kb.1)) kb.2)
section
variable {C:Cx} {L:Nat->Loc} {h:Hp} {w:World} {ren:Nat->Nat} {G G':List (Nat×Blk)}
theorem Share.ren_inj(hs:Share h ren G G'){a:Nat}(m:bG G k=some b)(c:bG G a=some b')(e:ren k=ren a):k=a:=by
 obtain⟨i,hi⟩:=yBg.1 (fG m);obtain⟨j,l⟩:=yBg.1 (fG c)
 have f:(G.map λx=>ren x.1)[i]?=some (ren k):=by simp[hi]
 have g:(G.map λx=>ren x.1)[j]?=some (ren a):=by simp[l]
 obtain⟨n,e1⟩:=th.1 f;obtain⟨o,d⟩:=th.1 g;have:i=j:=(List.getElem_inj hs.inj).1 (e1.trans (e.trans d.symm))
 grind
theorem Share.inout(hs:Share h ren G G'){ab:Blk}(d:bG G k=some ab):∃a,bG G' k=some a:=by
 have e:k∈G'.map (·.1):=by rw[hs.ok.keys];exact yAt.2 ⟨_,fG d,rfl⟩
 obtain⟨⟨f,b'⟩,c,b⟩:=yAt.1 e;simp only at b;subst b;exact⟨b',lC (by rw[hs.ok.keys];exact hs.ok.nodup) c⟩
theorem Share.outin(hs:Share h ren G G'){ab:Blk}(d:bG G' k=some ab):∃a,bG G k=some a:=by
 have e:k∈G.map (·.1):=by rw[<-hs.ok.keys];exact yAt.2 ⟨_,fG d,rfl⟩
 obtain⟨⟨f,b'⟩,c,b⟩:=yAt.1 e;simp only at b;subst b;exact⟨b',lC hs.ok.nodup c⟩
theorem Share.at_(hs:Share h ren G G'){ab:Blk}(a:bG G k=some ab):h (ren k)=some (mH ren (pn h (ren k)) ab):=hs.have_ _ (fG a)
theorem Share.new(hs:Share h ren G G'){ab:Blk}(b:bG G' k=some ab):ah h (lD ren h G') (ren k)=some (mH ren (pn h (ren k)) ab):=by
 have hn:(G'.map λx=>ren x.1).Nodup:=by
  have e:(G'.map λx=>ren x.1)=(G.map λx=>ren x.1):=by
   have:=yBt (List.map ren) hs.ok.keys;simpa[List.map_map,Function.comp_def]using this
  rw[e];exact hs.inj
 exact Bd (g:=λa=>mH ren (pn h (ren a.1)) a.2) G' h hn (k,ab) (fG b)
theorem Share.other(hs:Share h ren G G')(hq:∀k ab,bG G k=some ab->q≠ren k):ah h (lD ren h G') q=h q:=by
 refine lO ?_;intro g a e;obtain⟨⟨k,b⟩,f,rfl⟩:=yAt.1 a;obtain⟨c,d⟩:=hs.outin (lC (by rw[hs.ok.keys];exact hs.ok.nodup) f)
 grind
theorem Share.cases(hs:Share h ren G G')(hq:ah h (lD ren h G') q=some b):
 (∃k ab a,bG G k=some ab/\bG G' k=some a/\q=ren k/\b=mH ren (pn h (ren k)) a)\/((∀k ab,bG G k=some ab->q≠ren k)/\h q=some b):=by
 by_cases g:∃k ab,bG G k=some ab/\q=ren k
 .obtain⟨k,ab,c,rfl⟩:=g
  obtain⟨a,d⟩:=hs.inout c;rw[hs.new d]at hq;injection hq with hq
  grind
 .have f:∀k ab,bG G k=some ab->q≠ren k:=λk ab c e=>g ⟨k,ab,c,e⟩
  rw[hs.other f]at hq
  grind
theorem Fs{ren:Nat->Nat}{own:Bool}(h:Bc b b'=true):eY (mH ren own b) l (mH ren own b') l:=by
 cases b<;>cases b'<;>first|(cases h;done)|skip
 .exact rfl
 .simp only[Bc,An,yAU]at h
  exact⟨h.1.1.symm,h.1.2.symm,Nat.le_of_eq h.2,λ_=>rfl⟩
theorem Share.okin(hs:Share h ren G G')(a:bG G k=some b):lc (G.map (·.1)) k b=true:=hs.ok.okin _ _ (fG a)
theorem Share.okout(hs:Share h ren G G')(a:bG G' k=some b):lc (G.map (·.1)) k b=true:=hs.ok.okout _ _ (fG a)
theorem Share.view(hs:Share h ren G G')(n:MemL C L h w){ab:Blk}(d:bG G k=some ab):db w (ak C L h) (λk=>L (ren k)) (bG G) (L (ren k)) ab:=by
 have a:=n.bl _ _ (hs.at_ d)
 cases ab with
 |mp=>cases hs.okin d
 |row e y xs l=>exact a
 |box v own l=>
  obtain⟨arr,s,e1,f⟩:=a;have j:=hs.okin d;simp only[lc,An]at j;refine⟨arr,s,e1,by simpa using f.1,λi p u hp r=>?_⟩;refine sr (ren:=ren) (K:=G.map (·.1)) (λb o h=>h) (λq hq b a=>?_) (IV.1 j.1.1.1.1 p (In hp)) (f.2 i _ u (by simp[hp]) r);obtain⟨⟨x,b'⟩,m,g⟩:=yAt.1 hq;simp only at g;subst g;have c:=lC hs.ok.nodup m;refine⟨b',c,?_⟩;rw[hs.at_ c]at a;injection a with a;subst a
  cases b' with
  |mp=>exact⟨rfl,rfl,rfl⟩
  |box=>exact rfl
  |row=>exact⟨rfl,rfl,yAd _,λ_=>rfl⟩
theorem MemL.shareStep(s:MemL C L h w)(hs:Share h ren G G')(R:Ext (E5 G (λk=>L (ren k))) w w')
 (N:∀k ab,bG G' k=some ab->db w' (ak C L h) (λk=>L (ren k)) (bG G') (L (ren k)) ab):aZ C L h w L (ah h (lD ren h G')) w':=by
 have z:∀b o,ak C L (ah h (lD ren h G')) b o->ak C L h b o:=by
  rintro b o (h0|⟨q,ab,hq,l,J,hf⟩)
  .exact .inl h0
  .rcases hs.cases hq with⟨k,v,r,a,c,rfl,rfl⟩|⟨_,f⟩
   .refine .inr ⟨ren k,_,hs.at_ a,?_,J,Ap (hs.okin a)⟩
    have n:=hs.ok.same k _ _ a c
    cases v<;>cases r<;>first|(cases n;done)|exact l
   .exact .inr ⟨q,ab,f,l,J,hf⟩
 have H:KC L h L (ah h (lD ren h G')):=by
  intro q ab hq;by_cases V:∃k b,bG G k=some b/\q=ren k
  .obtain⟨k,b,a,rfl⟩:=V
   obtain⟨b',c⟩:=hs.inout a;rw[hs.at_ a]at hq;injection hq with hq;subst hq;exact⟨_,hs.new c,Fs (hs.ok.same k _ _ a c)⟩
  .exact⟨ab,by rw[hs.other (λk b a e=>V ⟨k,b,a,e⟩)];exact hq,du _ _⟩
 have m:Pres w (ak C L h) w' (ak C L (ah h (lD ren h G'))):=by
  refine Pres.ext R (λb _ P o=>?_) λb o _ D=>z b o D;obtain⟨k,ab,a,l,rfl⟩:=P;exact .inr ⟨ren k,_,hs.at_ a,pJ.2 l,rfl,Ap (hs.okin a)⟩
 refine⟨⟨?_,s.m0,?_,?_,?_⟩,m,H⟩
 .refine s.ext.trans R (λb O I=>?_)
  obtain⟨k,ab,a,l,rfl⟩:=I;have ad:(L (ren k)).b<C.w0.heap.size:=O;have d:=s.own _ _ (hs.at_ a)
  cases ab with
  |mp=>cases hs.okin a
  |box cs own M=>
   cases g:pn h (ren k)with
   |false=>rw[g]at d;exact d.2.2.1
   |true=>
    rw[g]at d;rcases d with D|D
    .omega
    .exact D.1
  |row e sz xs M=>
   rcases d.row l with D|D
   all_goals grind
 .intro q ab hq
  rcases hs.cases hq with⟨k,v,r,a,c,rfl,rfl⟩|⟨B,f⟩
  .have F:=N k r c
   cases r with
   |mp=>cases hs.okout c
   |row e sz xs M=>
    obtain⟨g1,g2,g3,g4,g5⟩:=F;refine⟨g1,g2,g3,g4,λhn=>?_⟩;obtain⟨Z,a2,arr,a3,a4,a5⟩:=g5 hn;exact⟨Z,a2,arr,a3,a4,λi x j p S hj=>by obtain⟨u,Q,hr⟩:=a5 i x j p S hj;exact⟨u,Q,hr.mono (Pres.sub z)⟩⟩
   |box cs own M=>
    obtain⟨arr,ty,e1,U⟩:=F;have W:=hs.okout c;simp only[lc,An]at W;refine⟨arr,ty,e1,by simpa using U.1,λi p u hp Q=>?_⟩;simp only[ZW,II]at hp;obtain⟨y,X,rfl⟩:=hp;refine Jo (ren:=ren) (K:=G.map (·.1)) (L':=λk=>L (ren k)) (h':=bG G') z (λq hq b N=>?_) (IV.1 W.1.1.1.1 y (In X)) (U.2 i y u X Q);refine⟨_,hs.new N,?_⟩
    cases b with
    |mp=>exact⟨rfl,rfl,rfl⟩
    |box=>exact rfl
    |row=>exact⟨rfl,rfl,yAd _,λ_=>rfl⟩
  .refine(s.bl q ab f).mono m H (λl=>R.block _ ((s.bl q ab f).lt l) ?_)
   rintro⟨k,b,a,A,e⟩;exact s.sep q (ren k) _ _ (B k b a) f (hs.at_ a) l (pJ.2 A) e
 .have E:∀q b,ah h (lD ren h G') q=some b->b.live (L q)->∃T,h q=some T/\T.live (L q):=by
   intro q b hq l;rcases hs.cases hq with⟨k,v,r,a,c,rfl,rfl⟩|⟨_,f⟩
   .refine⟨_,hs.at_ a,?_⟩
    have n:=hs.ok.same k _ _ a c
    cases v<;>cases r<;>first|(cases n;done)|exact l
   grind
  intro q Y v r B hq f l A;obtain⟨c1,d1,f1⟩:=E q v hq l;obtain⟨c2,d2,f2⟩:=E Y r f A;exact s.sep q Y c1 c2 B d1 d2 f1 f2
 .intro q ab hq
  rcases hs.cases hq with⟨k,v,r,a,c,rfl,rfl⟩|⟨_,f⟩
  .have d:=s.own _ _ (hs.at_ a)
   have n:=hs.ok.same k _ _ a c
   cases v<;>cases r<;>first|(cases n;done)|skip
   .cases g:pn h (ren k)with
    |false=>rw[g]at d;exact d
    |true=>rw[g]at d;exact d
   .exact d
  .exact s.own q ab f
end
section
variable {C:Cx} {Q:Exit->St->Prop} {st:St}
def KD(C:Cx)(Q:St->Prop)(f:Operand)(xs:List Operand)(d:Option Nat)(st:St):Prop:=
 ∃g args G G' res ren,dw (st.ev f)=some (g,[],[])/\MQ C.P g args G G' res/\t7 res=true/\xs.map st.ev=args.map (Jn ren)/\args.all (Pl (G.map (·.1)))=true/\(G.map λx=>ren x.1).Nodup/\
  (∀a∈G,st.h (ren a.1)=some (mH ren (pn st.h (ren a.1)) a.2))/\lu C.N d=true/\Q (st.put d (.pv res) (lD ren st.h G'))
theorem WP.share{xs:List Operand}(J:ops.toList=pre++o::post)(ay:o.op=.call {callee:=.value f,args:=xs.toArray,argTypes:=ats})(hg:o.guard=none)
 (hq:fW C.P hn C.N ops (KD C (fW C.P hn C.N ops (Q .normal) post) f xs o.dst) pre st):WP C (.region id ops false) Q st:=by
 intro a w hs;refine wp_region_list ?_;rw[J];refine iC (λD O S a6 a2=>?_) hs hq;obtain⟨g,args,G,G',res,ren,T,⟨c,ax,hD⟩,Z,j,I,E,y,U,hQ⟩:=a2;obtain⟨L,H,hN,V,ht⟩:=a6;have d:Share D.h ren G G':=⟨ax,E,y⟩;refine wpList_step (λK hK=>?_);rw[kT hg,yAb rfl];obtain⟨vs,us,W,a8,bk⟩:=jY (dM ht f) T;have bq:=a8.nil_inv;have a7:=bk.nil_inv;subst bq;subst a7
 have A:xs.length=args.length:=by have:=yBt List.length j;simpa using this
 have B:aB S (ak C L D.h) (λk=>L (ren k)) (bG G) args (xs.map O.eval):=by
  refine⟨by simp[A],λi p u hp hu=>?_⟩;simp only[ZW,II]at hu;obtain⟨x,hx,rfl⟩:=hu;have he:=yBt (λl:List AV=>l[i]?) j;simp only[ZW,hx,hp,yAQ,Z9]at he;have R:=dM ht x;rw[he]at R;refine MP (K:=G.map (·.1)) (λb o h=>h) (λq hq b r=>?_) (IV.1 I p (In hp)) R;obtain⟨⟨q',b'⟩,h1,h2⟩:=yAt.1 hq;simp only at h2;subst h2;have n:=lC d.ok.nodup h1;refine⟨b',n,?_⟩;rw[d.at_ n]at r;injection r with r;subst r
  cases b' with
  |mp=>exact⟨rfl,rfl,rfl⟩
  |box=>exact rfl
  |row=>exact⟨rfl,rfl,yAd _,λ_=>rfl⟩
 have m:=hD S (ak C L D.h) (λk=>L (ren k)) (xs.map O.eval) (λb o h=>H.mlt h)
  (λk ab z X o=>.inr ⟨ren k,_,d.at_ z,pJ.2 X,rfl,Ap (d.okin z)⟩)
  (λk k' b b' ad z F X Y=>H.sep (ren k) (ren k') _ _ (λe=>ad (d.ren_inj z F e)) (d.at_ z) (d.at_ F) (pJ.2 X) (pJ.2 Y))
  (λk ab z=>d.view H z) B
 have M:(execOp O.eval o).run C.P S=.ok (.enter g (xs.map O.eval).toArray) S:=by
  unfold dW at c
  cases s:C.P.funcs[g]? with
  |none=>rw[s]at c;cases c
  |some fn=>
   rw[s]at c;simp only[An,yAI,yA6,ne_eq]at c
   have r:fn.body.isNone=false:=by cases b0:fn.body<;>simp_all
   unfold execOp;rw[ay];simp only[resolve,W,Deferred.ofValue,pure_bind,Sem.run_bind,Result.andThen_ok,invoke,callFunc,program,Sem.run,s];simp[c.2,r]
 unfold Oper.wp;rw[M];simp only[Oper.upon];refine m.mono ?_;rintro ee w' ⟨v,rfl,hx,r,R⟩;have hA:=H.shareStep d hx r;refine hK _ _ ?_;exact iJ (λbs a' w' a5 n=>⟨bs,a5,n⟩) (gQ.put H hN V ht U hA (.pv (tG Z R))) hQ
end
attribute [simp] Jn qE Pl ro bG mH lc Bc lD pn
def inK(k:Nat):Bool:=decide (290<=k)&&decide (k<1000000)
def tA(K:Nat->Bool):AV->Bool
 |.pv _=>true
 |.ptr k _=>K k
 |.arr k _=>K k
 |.eptr k _ _ _=>K k
 |.ext x=>K x.key
 |.undef=>true
 |_=>false
def MS(K:Nat->Bool):AV->Bool
 |.agg a=>a.all (tA K)
 |x=>tA K x
def KE(K:Nat->Bool):AV->Bool
 |.agg b=>b.all (tA K)
 |.fn _ first a=>first.all (tA K)&&a.all (tA K)
 |.tup b=>b.all (MS K)
 |x=>tA K x
abbrev Ft:AV->Bool:=KE inK
def ml:Blk->Bool
 |.box _ false _=>false
 |_=>true
def Jp:Blk->Bool
 |.mp _ _ _ _=>false
 |_=>true
def Fu(M:Nat->Nat->Prop)(L:Nat->Loc)(h:Hp)(b o:Nat):Prop:=M b o\/∃k ab,h k=some ab/\ab.live (L k)/\(L k).b=b/\¬ab.frz o
def ss(h:Hp)(L:Nat->Loc)(b:Nat):Prop:=∃k ab,h k=some ab/\ab.live (L k)/\b=(L k).b
def kK(h:Hp)(L:Nat->Loc)(b:Nat):Prop:=∃k ab,h k=some ab/\ml ab=true/\ab.live (L k)/\b=(L k).b
structure LookH(h:Hp):Prop where
 keys:∀k ab,h k=some ab->inK k=true
 nf:∀k ab o,h k=some ab->¬ab.frz o
 nm:∀k ab,h k=some ab->Jp ab=true
 cl:∀k cs o f,h k=some (.box cs o f)->∀x∈cs,Ft x=true
structure TrIn(w:World)(M:Nat->Nat->Prop)(L:Nat->Loc)(h:Hp):Prop where
 bl:∀k ab,h k=some ab->db w (Fu M L h) L h (L k) ab
 sep:∀k k' ab blk',k≠k'->h k=some ab->h k'=some blk'->ab.live (L k)->blk'.live (L k')->(L k).b≠(L k').b
 m1:∀k ab,h k=some ab->ml ab=true->ab.live (L k)->∀o,¬M (L k).b o
 m2:∀k cs f,h k=some (.box cs false f)->∀o,M (L k).b o
def Vw(P:Program)(f:FuncId)(args:List AV)(a:Hp)(c:AV->Hp->Prop):Prop:=
 dW P f=true/\∀(w:World)(M:Nat->Nat->Prop)(L:Nat->Loc)(j:List Value),(∀b o,M b o->b<w.heap.size)->TrIn w M L a->aB w (Fu M L a) L a args j->
  Calls P f j.toArray w λe w'=>∃v r L' h',e=.returned v/\Ext (ss a L) w w'/\LookH h'/\TrIn w' M L' h'/\RepA w' (Fu M L' h') L' h' r v/\Ft r=true/\c r h'/\
   (∀k d f,a k=some (.box d false f)->∃g,h' k=some (.box g false false)/\(L' k).b=(L k).b)/\
   (∀k d f,h' k=some (.box d false f)->∃i f0,a k=some (.box i false f0))/\
   (∀k ab,h' k=some ab->ml ab=true->ab.live (L' k)->w.heap.size<=(L' k).b\/kK a L (L' k).b)
section
variable {w w':World} {M M':Nat->Nat->Prop} {L L':Nat->Loc} {h h':Hp}
theorem yu{K:Nat->Bool}(hp:Pres w M w' M')(z:∀k ab,K k=true->h k=some ab->∃a,h' k=some a/\eY ab (L k) a (L' k))(g:KE K x=true)(F:RepA w M L h x u):RepA w' M' L' h' x u:=by
 have one:∀{x:AV}{u:Value},tA K x=true->RepA w M L h x u->RepA w' M' L' h' x u:=by
  intro x u g F
  cases F with
  |pv E=>exact .pv (E.mono hp)
  |@ptr k P s own C j=>
   obtain⟨a,m,d⟩:=z k _ g j
   cases a with
   |row=>exact d.elim
   |mp=>exact d.elim
   |box I G q=>have d:(L' k).b=(L k).b:=d;rw[<-d];exact .ptr m
  |@arr k n e T C xs u j hn l=>
   obtain⟨a,m,d⟩:=z k _ g j
   cases a with
   |box=>exact d.elim
   |mp=>exact d.elim
   |row R H xs' q=>
    obtain⟨_,e1,S,B⟩:=d;refine .arr m (by omega) (λe=>?_)
    have:xs'.length=xs.length:=by omega
    rw[B this];exact l (by omega)
  |@eptr k n i P e T C xs u j hn l=>
   obtain⟨a,m,d⟩:=z k _ g j
   cases a with
   |box=>exact d.elim
   |mp=>exact d.elim
   |row R H xs' q=>
    obtain⟨_,e1,S,B⟩:=d;refine .eptr m (by omega) (λe=>?_)
    have:xs'.length=xs.length:=by omega
    rw[B this,e1];exact l (by omega)
  |ext r=>
   cases r with
   |@barr k n c s own C V j=>
    obtain⟨a,m,d⟩:=z k _ g j
    cases a with
    |row=>exact d.elim
    |mp=>exact d.elim
    |box I G q=>have d:(L' k).b=(L k).b:=d;rw[<-d];exact .ext (.barr V m)
   |@mp k n W Z C j=>
    obtain⟨a,m,d⟩:=z k _ g j
    cases a with
    |row=>exact d.elim
    |box=>exact d.elim
    |mp O X U q=>have d:O=W/\X=n/\(L' k).b=(L k).b:=d;rw[<-d.2.2];exact .ext (.mp m)
   |@suf k o n t e T C xs u N j hn ht l=>
    obtain⟨a,m,d⟩:=z k _ g j
    cases a with
    |box=>exact d.elim
    |mp=>exact d.elim
    |row R H xs' q=>
     obtain⟨_,e1,S,B⟩:=d;refine .ext (.suf N m hn (by omega) (λe=>?_))
     have:xs'.length=xs.length:=by omega
     rw[B this,e1];exact l (by omega)
  |undef=>exact .undef _
  |agg=>cases g
  |fn=>cases g
  |tup=>cases g
 have all:∀{s:List AV}{p:AV}{i:Nat},s.all (tA K)=true->s[i]?=some p->tA K p=true:=λh hp=>IV.1 h _ (In hp)
 have Q:∀{x:AV}{u:Value},MS K x=true->RepA w M L h x u->RepA w' M' L' h' x u:=by
  intro x u g F
  cases F with
  |agg s y v D=>exact .agg s y v λi p u hp l=>one (all g hp) (D i p u hp l)
  |pv E=>exact one g (.pv E)
  |ptr j=>exact one g (.ptr j)
  |arr j hn l=>exact one g (.arr j hn l)
  |eptr j hn l=>exact one g (.eptr j hn l)
  |ext r=>exact one g (.ext r)
  |undef=>exact .undef _
  |fn=>cases g
  |tup=>cases g
 cases F with
 |agg s y v D=>exact .agg s y v λi p u hp l=>one (all g hp) (D i p u hp l)
 |fn f first A y Y v J m d=>
  simp only[KE,An]at g
  exact .fn f first A y Y v J (λi p u hp l=>one (all g.1 hp) (m i p u hp l)) (λi p u hp l=>one (all g.2 hp) (d i p u hp l))
 |tup s y v D=>exact .tup s y v λi p u hp l=>Q (IV.1 g _ (In hp)) (D i p u hp l)
 |pv E=>exact one g (.pv E)
 |ptr j=>exact one g (.ptr j)
 |arr j hn l=>exact one g (.arr j hn l)
 |eptr j hn l=>exact one g (.eptr j hn l)
 |ext r=>exact one g (.ext r)
 |undef=>exact .undef _
theorem db.inK(hp:Pres w M w' M')(H:∀k ab,Go.Ab.inK k=true->h k=some ab->∃a,h' k=some a/\eY ab (L k) a (L' k)){ab:Blk}(F:∀g o f,ab=.box g o f->∀x∈g,Ft x=true)(s:ab.live l->w'.heap[l.b]?=w.heap[l.b]?)(r:db w M L h l ab):db w' M' L' h' l ab:=by
 cases ab with
 |box g own y=>
  obtain⟨arr,N,e,I,v⟩:=r;exact⟨arr,N,(s trivial).trans e,I,λi p u d m=>yu hp H (F _ _ _ rfl p (In d)) (v i p u d m)⟩
 |row P R xs y=>
  obtain⟨d,m,z,A,B⟩:=r;refine⟨d,m,z,A,λhn=>?_⟩;obtain⟨C,q,arr,e,D,E⟩:=B hn;refine⟨C,q,arr,(s hn).trans e,D,λi x j p K G=>?_⟩;obtain⟨u,J,v⟩:=E i x j p K G;exact⟨u,J,v.mono hp⟩
 |mp Q n O y=>
  obtain⟨arr,c,e,d⟩:=r;exact⟨arr,c,(s trivial).trans e,d⟩
end
theorem zF{C:Cx}{ab:Blk}(j:k<2000000)(a:fw C k l ab)(g:ml ab=true)(f:Jp ab=true)(d:ab.live l):C.w0.heap.size<=l.b\/(C.S l.b/\∀o,¬C.M0 l.b o):=by
 cases ab with
 |box i own c=>
  cases own with
  |false=>cases g
  |true=>exact a
 |row e m xs c=>exact a.row d
 |mp=>cases f
theorem Fw(h:inK k=true):k<2000000:=by
 simp only[inK,An,Is]at h;omega
def nV(o:Bool):Blk->Blk
 |.box a _ f=>.box a o f
 |b=>b
def sx(h:Hp)(k:Nat):Bool:=match h k with
 |some (.box _ o _)=>o
 |_=>true
def ir(h:Hp):Hp:=λk=>if inK k=true then(if k=290 then(h k).map (nV false)else h k)else none
def MT(k:Nat):Bool:=!inK k||k==290
def Be(x:AV):AV:=if KE MT x=true then x else .undef
def tU:Blk->Blk
 |.box a o f=>.box (a.map Be) o f
 |b=>b
def i9(h h':Hp):Hp:=λk=>if inK k=true then(if k=290 then(h' k).map (nV (sx h k))else h' k)else(h k).map tU
theorem jr{o:Bool}:(nV o b).live l↔b.live l:=by cases b<;>exact yBi
theorem D2{o:Bool}:(nV o b).frz q↔b.frz q:=by cases b<;>exact yBi
theorem kU:(tU b).live l↔b.live l:=by cases b<;>exact yBi
theorem Jq:(tU b).frz q↔b.frz q:=by cases b<;>exact yBi
theorem wF{o:Bool}{l':Loc}(h:eY b l b' l'):eY b l (nV o b') l':=by cases b<;>cases b'<;>exact h
theorem iQ(e:ir h k=some b):inK k=true/\∃a,h k=some a/\(k=290->b=nV false a)/\(k≠290->b=a):=by
 unfold ir at e;split at e
 .rename_i hi
  split at e
  .rename_i c
   simp only[II]at e;obtain⟨a,d,rfl⟩:=e;exact⟨hi,a,d,λ_=>rfl,λf=>absurd c f⟩
  .rename_i c;exact⟨hi,b,e,λd=>absurd d c,λ_=>rfl⟩
 .cases e
theorem yv(hi:inK k=true)(a:h k=some b):ir h k=some (if k=290 then nV false b else b):=by
 unfold ir;rw[yAb hi];split
 .rw[a];rfl
 .exact a
theorem Fx{h':Hp}(hi:inK k=true)(a:h' k=some b):i9 h h' k=some (if k=290 then nV (sx h k) b else b):=by
 unfold i9;rw[yAb hi];split
 .rw[a];rfl
 .exact a
theorem nW{h':Hp}(e:i9 h h' k=some b):(inK k=true/\∃a,h' k=some a/\b=if k=290 then nV (sx h k) a else a)\/(inK k=false/\∃a,h k=some a/\b=tU a):=by
 unfold i9 at e;split at e
 .rename_i hi
  split at e
  .rename_i c
   simp only[II]at e;obtain⟨a,d,rfl⟩:=e;exact .inl ⟨hi,a,d,by rw[yAb c]⟩
  .rename_i c;exact .inl ⟨hi,b,e,by rw[L4 c]⟩
 .rename_i hi
  simp only[II]at e;obtain⟨a,d,rfl⟩:=e;exact .inr ⟨by simpa using hi,a,d,rfl⟩
structure InOk(h:Hp):Prop where
 nf:∀k ab o,inK k=true->h k=some ab->¬ab.frz o
 nm:∀k ab,inK k=true->h k=some ab->Jp ab=true
 cl:∀k cs o f,inK k=true->h k=some (.box cs o f)->∀x∈cs,Ft x=true
 pin:∀k cs f,inK k=true->h k=some (.box cs false f)->k=290
 bx:∀ab,h 290=some ab->∃cs o f,ab=.box cs o f
section
variable {C:Cx} {L L':Nat->Loc} {h h':Hp} {w w':World}
theorem Bf(n:MemL C L h w)(hi:InOk h){b:Nat}(p:kK (ir h) L b):(C.w0.heap.size<=b\/(C.S b/\∀o,¬C.M0 b o))/\ss h L b:=by
 obtain⟨k,ab,m,g,d,rfl⟩:=p;obtain⟨c,i,a,j,l⟩:=iQ m;by_cases e:k=290
 .have:=j e
  subst this;subst e;obtain⟨q,o,f,rfl⟩:=hi.bx i a;cases g
 .have:=l e
  subst this;exact⟨zF (Fw c) (n.own k _ a) g (hi.nm k _ c a) d,k,_,a,d,rfl⟩
theorem MemL.takeStep(Q:MemL C L h w)(hi:InOk h)(hx:Ext (ss (ir h) L) w w')(b5:LookH h')
 (ht:TrIn w' (λb o=>ak C L h b o/\¬kK (ir h) L b) L' h')
 (ad:∀k G f,ir h k=some (.box G false f)->∃ay,h' k=some (.box ay false false)/\(L' k).b=(L k).b)
 (bs:∀k G f,h' k=some (.box G false f)->∃l f0,ir h k=some (.box l false f0))
 (hn:∀k ab,h' k=some ab->ml ab=true->ab.live (L' k)->w.heap.size<=(L' k).b\/kK (ir h) L (L' k).b):
 ∃F:Nat->Loc,(∀k,inK k=true->F k=L' k)/\MemL C F (i9 h h') w'/\(∀{x:AV}{u:Value},RepA w (ak C L h) L h x u->RepA w' (ak C F (i9 h h')) F (i9 h h') (Be x) u)/\
  (∀{x:AV}{u:Value},Ft x=true->RepA w' (Fu (λb o=>ak C L h b o/\¬kK (ir h) L b) L' h') L' h' x u->RepA w' (ak C F (i9 h h')) F (i9 h h') x u):=by
 let F:Nat->Loc:=λk=>if inK k=true then L' k else L k
 have y:∀k,inK k=true->F k=L' k:=λk A=>yAb A
 have J:∀k,inK k=false->F k=L k:=λk A=>by simp[F,A]
 have cf:=Q.ext.size
 have X:∀b,ss (ir h) L b->∃k ab,inK k=true/\h k=some ab/\ab.live (L k)/\b=(L k).b:=by
  rintro b ⟨k,ab,A,d,rfl⟩;obtain⟨r,m,N,O,T⟩:=iQ A;refine⟨k,m,r,N,?_,rfl⟩;by_cases e:k=290
  .rw[O e]at d;exact jr.1 d
  .rw[T e]at d;exact d
 have Y:∀b,ss (ir h) L b->∀o,ak C L h b o:=by
  intro b I o;obtain⟨k,ab,r,N,O,rfl⟩:=X b I;exact .inr ⟨k,ab,N,O,rfl,hi.nf k ab o r N⟩
 have b3:∀b,kK (ir h) L b->ss (ir h) L b:=by
  rintro b ⟨k,ab,r,_,O,T⟩;exact⟨k,ab,r,O,T⟩
 have b4:∀b o,ak C F (i9 h h') b o->Fu (λb o=>ak C L h b o/\¬kK (ir h) L b) L' h' b o:=by
  rintro b o (H|⟨k,ab,A,d,I,hf⟩)
  .refine .inl ⟨.inl H,λB=>?_⟩
   rcases(Bf Q hi B).1 with g|g
   .have:=Q.m0 _ _ H;omega
   .exact g.2 o H
  .rcases nW A with⟨s,m,r,rfl⟩|⟨s,m,r,rfl⟩
   .rw[y k s]at d I
    refine .inr ⟨k,m,r,?_,I,?_⟩
    .split at d
     .exact jr.1 d
     .exact d
    .split at hf
     .exact λB=>hf (D2.2 B)
     .exact hf
   .rw[J k s]at d I
    refine .inl ⟨.inr ⟨k,m,r,kU.1 d,I,λB=>hf (Jq.2 B)⟩,λB=>?_⟩;obtain⟨E,a,N,O,T,U⟩:=X b (b3 b B);refine Q.sep k E m a (λe=>?_) r O (kU.1 d) T (by rw[I,<-U]);rw[e,N]at s;cases s
 have a8:=Pres.sub (w:=w') b4
 have ax:Pres w (ak C L h) w' (ak C F (i9 h h')):=by
  have b8:∀b o,¬ak C L h b o->¬ss (ir h) L b:=λb o H B=>H (Y b B o)
  have V:∀b o,b<w.heap.size->ak C F (i9 h h') b o->ak C L h b o:=by
   intro b o P H;rcases b4 b o H with B|⟨k,ab,A,d,I,hf⟩
   .exact B.1
   .cases D:ml ab with
    |true=>
     rcases hn k ab A D d with g|g
     .omega
     .rw[I]at g;exact Y b (b3 b g) o
    |false=>
     cases ab with
     |row=>cases D
     |mp=>cases D
     |box G o9 f9=>
      cases o9 with
      |true=>cases D
      |false=>
       obtain⟨l,f0,g⟩:=bs k G f9 A;obtain⟨_,_,M⟩:=ad k l f0 g;exact Y b ⟨k,_,g,trivial,by rw[<-I,M]⟩ o
  refine⟨λb o v hc Z=>?_,λb arr c hc Z=>?_⟩
  .have P:=CP hc
   exact⟨(hx.cell P (b8 b o Z)).trans hc,λH=>Z (V b o P H)⟩
  .have P:=yw hc
   exact⟨(hx.block b P (b8 b 0 Z)).trans hc,λH=>Z (V b 0 P H)⟩
 have bk:∀k ab,MT k=true->h k=some ab->∃a,i9 h h' k=some a/\eY ab (L k) a (F k):=by
  intro k ab A r
  cases z:inK k with
  |false=>
   refine⟨tU ab,by simp only[i9,z,ZY,yAi,r,yAQ],?_⟩;rw[J k z]
   cases ab with
   |box=>exact rfl
   |row=>exact⟨rfl,rfl,yAd _,λ_=>rfl⟩
   |mp=>exact⟨rfl,rfl,rfl⟩
  |true=>
   have e:k=290:=by simpa[MT,z]using A
   obtain⟨G,o,f,rfl⟩:=hi.bx ab (by rw[<-e];exact r)
   have N:ir h k=some (.box G false f):=by rw[yv z r,yAb e];rfl
   obtain⟨ay,O,T⟩:=ad k G f N;refine⟨_,Fx z O,?_⟩;rw[yAb e,y k z];exact T
 have a7:∀k ab,inK k=true->h' k=some ab->∃a,i9 h h' k=some a/\eY ab (L' k) a (F k):=by
  intro k ab z r;refine⟨_,Fx z r,?_⟩;rw[y k z];split
  .exact wF (du _ _)
  .exact du _ _
 have W:∀{x:AV}{u:Value},RepA w (ak C L h) L h x u->RepA w' (ak C F (i9 h h')) F (i9 h h') (Be x) u:=by
  intro x u hr;unfold Be;split
  .rename_i ho;exact yu ax bk ho hr
  .exact .undef _
 refine⟨F,y,⟨?_,Q.m0,?_,?_,?_⟩,W,λho hr=>yu a8 a7 ho hr⟩
 .refine Q.ext.trans hx (λb P H=>?_)
  obtain⟨k,ab,r,N,O,rfl⟩:=X b H;have ho:=Q.own k _ N
  cases D:ml ab with
  |true=>
   rcases zF (Fw r) ho D (hi.nm k _ r N) O with g|g
   .omega
   .exact g.1
  |false=>
   cases ab with
   |row=>cases D
   |mp=>cases D
   |box G o9 f9=>
    cases o9 with
    |true=>cases D
    |false=>exact ho.2.2.1
 .intro k ab A
  rcases nW A with⟨s,m,r,rfl⟩|⟨s,m,r,rfl⟩
  .rw[y k s]
   have I:=(ht.bl k m r).inK a8 a7 (λG o f e=>b5.cl k G o f (by rw[r,e])) (λ_=>rfl);split
   .cases m<;>exact I
   .exact I
  .rw[J k s]
   have I:=Q.bl k m r
   have he:m.live (L k)->w'.heap[(L k).b]?=w.heap[(L k).b]?:=by
    intro d;refine hx.block _ (I.lt d) (λH=>?_);obtain⟨E,a,N,O,T,U⟩:=X _ H;exact Q.sep k E m a (λe=>by rw[e,N]at s;cases s) r O d T U
   cases m with
   |box G own fz=>
    obtain⟨arr,ty,e,d,hr⟩:=I;refine⟨arr,ty,(he trivial).trans e,by simpa using d,λi p u hp D=>?_⟩;simp only[ZW,II]at hp;obtain⟨q,hq,rfl⟩:=hp;exact W (hr i q u hq D)
   |row et sz xs fz=>
    obtain⟨g1,g2,g3,g4,g5⟩:=I;refine⟨g1,g2,g3,g4,λa6=>?_⟩;obtain⟨M,b9,arr,e,g,B⟩:=g5 a6;refine⟨M,b9,arr,(he a6).trans e,g,λi x j p cb hj=>?_⟩;obtain⟨u,D,hr⟩:=B i x j p cb hj;exact⟨u,D,hr.mono ax⟩
   |mp kd n es fz=>
    obtain⟨arr,c,e,g1⟩:=I;exact⟨arr,c,(he trivial).trans e,g1⟩
 .
  have new:∀k ab,inK k=true->h' k=some ab->ab.live (L' k)->w.heap.size<=(L' k).b\/ss (ir h) L (L' k).b:=by
   intro k ab z A d
   cases D:ml ab with
   |true=>exact(hn k ab A D d).imp id (b3 _)
   |false=>
    cases ab with
    |row=>cases D
    |mp=>cases D
    |box G o9 f9=>
     cases o9 with
     |true=>cases D
     |false=>
      obtain⟨l,f0,g⟩:=bs k G f9 A;obtain⟨_,_,M⟩:=ad k l f0 g;exact .inr ⟨k,_,g,trivial,M⟩
  have apart:∀k ab E a,inK k=true->inK E=false->h' k=some ab->h E=some a->ab.live (L' k)->a.live (L E)->(L' k).b≠(L E).b:=by
   intro k ab E a r N O T U M e;rcases new k ab r O U with g|g
   .have:=(Q.bl E a T).lt M;omega
   .obtain⟨q,bq,g1,g2,g3,g4⟩:=X _ g
    exact Q.sep q E bq a (λe9=>by rw[e9,N]at g1;cases g1) g2 T g3 M (by rw[<-g4,e])
  have lv:∀{k:Nat}{m:Blk},(if k=290 then nV (sx h k) m else m).live (L' k)->m.live (L' k):=by
   intro k m d;split at d
   .exact jr.1 d
   .exact d
  intro k E b1 b2 b7 A ca d K;rcases nW A with⟨R,c1,d1,rfl⟩|⟨R,c1,d1,rfl⟩<;>rcases nW ca with⟨i2,c2,d2,rfl⟩|⟨i2,c2,d2,rfl⟩
  .rw[y k R]at d|-
   rw[y E i2]at K|-;exact ht.sep k E c1 c2 b7 d1 d2 (lv d) (lv K)
  .rw[y k R]at d|-
   rw[J E i2]at K|-;exact apart k c1 E c2 R i2 d1 d2 (lv d) (kU.1 K)
  .rw[J k R]at d|-
   rw[y E i2]at K|-;exact λe=>apart E c2 k c1 i2 R d2 d1 (lv K) (kU.1 d) e.symm
  .rw[J k R]at d|-
   rw[J E i2]at K|-;exact Q.sep k E c1 c2 b7 d1 d2 (kU.1 d) (kU.1 K)
 .
  intro k ab A;rcases nW A with⟨R,m,d1,rfl⟩|⟨R,m,d1,rfl⟩
  .rw[y k R]
   have fresh:ml m=true->m.live (L' k)->C.w0.heap.size<=(L' k).b\/(C.S (L' k).b/\∀o,¬C.M0 (L' k).b o):=by
    intro D d;rcases hn k m d1 D d with g|g
    .exact .inl (by omega)
    .exact(Bf Q hi g).1
   cases m with
   |mp=>exact absurd (b5.nm k _ d1) (by simp[Jp])
   |row e sz xs fz=>
    have:fw C k (L' k) (.row e sz xs fz):=by
     unfold fw;simp only[C.hpr k (Fw R)];exact λa6=>fresh rfl a6
    split<;>exact this
   |box G o9 f9=>
    cases o9 with
    |true=>
     have H:=fresh rfl trivial;split
     .rename_i e
      have B:ir h k=none\/∃l f0,ir h k=some (.box l false f0):=by
       cases g:h k with
       |none=>left;simp[ir,g]
       |some b1=>
        right
        obtain⟨l,o0,f0,rfl⟩:=hi.bx b1 (by rw[<-e];exact g);exact⟨l,f0,by rw[yv R g,yAb e];rfl⟩
      rcases B with B|⟨l,f0,B⟩
      .have g:h k=none:=by
        cases g:h k with
        |none=>rfl
        |some b1=>rw[yv R g]at B;cases B
       have:sx h k=true:=by simp[sx,g]
       rw[this];exact H
      .obtain⟨ay,M,_⟩:=ad k l f0 B
       rw[d1]at M;cases M
     .exact H
    |false=>
     obtain⟨l,f0,g⟩:=bs k G f9 d1;obtain⟨ay,M,U⟩:=ad k l f0 g;rw[d1]at M;injection M with M;injection M with h6a _ h6b;obtain⟨_,b1,g2,g3,g4⟩:=iQ g
     have e:k=290:=by
      refine Classical.byContradiction λe=>e ?_;have:=g4 e;subst this;exact hi.pin k l f0 R g2
     rw[yAb e];obtain⟨cd,o1,f1,rfl⟩:=hi.bx b1 (by rw[<-e];exact g2);have ho:=Q.own k _ g2
     have:sx h k=o1:=by simp[sx,g2]
     rw[this];show fw C k (L' k) (.box G o1 f9)
     cases o1 with
     |true=>
      have ho:C.w0.heap.size<=(L k).b\/(C.S (L k).b/\∀o,¬C.M0 (L k).b o):=ho;show C.w0.heap.size<=(L' k).b\/(C.S (L' k).b/\∀o,¬C.M0 (L' k).b o);rw[U];exact ho
     |false=>
      obtain⟨a1,a2,a3,a4,a5⟩:=ho;refine⟨h6b,?_,?_,?_,?_⟩
      .rw[U];exact a2
      .rw[U];exact a3
      .rw[U];exact a4
      .rw[U];exact a5
  .rw[J k R]
   have:=Q.own k m d1
   cases m with
   |box G o f=>cases o<;>exact this
   |row=>exact this
   |mp=>exact this
def Pm(C:Cx)(Q:St->Prop)(f:Operand)(xs:List Operand)(d:Option Nat)(st:St):Prop:=
 ∃g a,dw (st.ev f)=some (g,[],[])/\InOk st.h/\Vw C.P g (xs.map st.ev) (ir st.h) a/\(xs.map st.ev).all Ft=true/\lu C.N d=true/\
  ∀r h',LookH h'->Ft r=true->a r h'->Q (St.put ⟨λn=>Be (st.t n),i9 st.h h'⟩ d r [])
theorem WP.takeG{xs:List Operand}{K:St->Prop}(a6:∀st a w,gQ C st a w->K st->∃F,gQ C F a w/\fW C.P hn C.N ops (Q .normal) post F)(a2:ops.toList=pre++o::post)(b5:o.op=.call {callee:=.value f,args:=xs.toArray,argTypes:=ats})(hg:o.guard=none)
 (hq:fW C.P hn C.N ops (Pm C K f xs o.dst) pre st):WP C (.region id ops false) Q st:=by
 intro a w hs;refine wp_region_list ?_;rw[a2];refine iC (λc a1 w1 cf ca=>?_) hs hq;obtain⟨g,cp,a7,hi,⟨d,hD⟩,ay,a8,hQ⟩:=ca;obtain⟨L,Z,hN,bk,ht⟩:=cf;refine wpList_step (λK hK=>?_);rw[kT hg,yAb rfl];obtain⟨vs,us,bq,ck,cm⟩:=jY (dM ht f) a7;have cn:=ck.nil_inv;have cj:=cm.nil_inv;subst cn;subst cj
 have ct:∀b,kK (ir c.h) L b->∀o,ak C L c.h b o:=by
  intro b V o;obtain⟨k,ab,m,s,q,rfl⟩:=V;obtain⟨z,j,l,B,g3⟩:=iQ m;by_cases e:k=290
  .rw[B e]at q;exact .inr ⟨k,j,l,jr.1 q,rfl,hi.nf k j o z l⟩
  .rw[g3 e]at q;exact .inr ⟨k,j,l,q,rfl,hi.nf k j o z l⟩
 have G:Fu (λb o=>ak C L c.h b o/\¬kK (ir c.h) L b) L (ir c.h)=ak C L c.h:=by
  funext b o
  refine propext ⟨?_,λJ=>?_⟩
  .rintro(J|⟨k,ab,m,s,q,h4⟩)
   .exact J.1
   .obtain⟨z,j,l,B,g3⟩:=iQ m
    by_cases e:k=290
    .rw[B e]at s;exact .inr ⟨k,j,l,jr.1 s,q,hi.nf k j o z l⟩
    .rw[g3 e]at s;exact .inr ⟨k,j,l,s,q,hi.nf k j o z l⟩
  .by_cases h8:kK (ir c.h) L b
   .obtain⟨k,ab,m,s,q,h4⟩:=h8
    refine .inr ⟨k,ab,m,q,h4.symm,?_⟩;obtain⟨z,j,l,B,g3⟩:=iQ m;by_cases e:k=290
    .rw[B e];exact λh7=>hi.nf k j o z l (D2.1 h7)
    .rw[g3 e];exact hi.nf k j o z l
   .exact .inl ⟨J,h8⟩
 have H:∀k ab,inK k=true->c.h k=some ab->∃A,ir c.h k=some A/\eY ab (L k) A (L k):=by
  intro k ab bs m;refine⟨_,yv bs m,?_⟩;split
  .exact wF (du _ _)
  .exact du _ _
 have b3:TrIn w1 (λb o=>ak C L c.h b o/\¬kK (ir c.h) L b) L (ir c.h):=by
  refine⟨?_,?_,?_,?_⟩
  .intro k ab hk
   rw[G];obtain⟨z,j,l,B,g3⟩:=iQ hk;have V:=(Z.bl k j l).inK (Pres.refl _ _) H (λcs o f e=>hi.cl k cs o f z (by rw[l,e])) (λ_=>rfl);by_cases e:k=290
   .rw[B e];cases j<;>exact V
   .rw[g3 e];exact V
  .intro k W b1 b2 S m s hl E
   obtain⟨z,c1,l,B,g3⟩:=iQ m;obtain⟨i2,c2,e1,e2,e3⟩:=iQ s;refine Z.sep k W c1 c2 S l e1 ?_ ?_
   .by_cases e:k=290
    .rw[B e]at hl;exact jr.1 hl
    .rw[g3 e]at hl;exact hl
   .by_cases e:W=290
    .rw[e2 e]at E;exact jr.1 E
    .rw[e3 e]at E;exact E
  .exact λk ab m s q o J=>J.2 ⟨k,ab,m,s,q,rfl⟩
  .intro k cs f hk o
   obtain⟨z,j,l,B,g3⟩:=iQ hk
   have X:j.live (L k):=by
    by_cases e:k=290
    .have h8:=B e
     cases j with
     |box=>exact trivial
     |row=>cases h8
     |mp=>exact trivial
    .rw[<-g3 e];exact trivial
   refine⟨.inr ⟨k,j,l,X,rfl,hi.nf k j o z l⟩,?_⟩;rintro⟨W,A,m,s,q,h4⟩;obtain⟨i2,c2,e1,e2,e3⟩:=iQ m
   have S:k≠W:=by
    intro e;rw[<-e,hk]at m;injection m with m;rw[<-m]at s;cases s
   refine Z.sep k W j c2 S l e1 X ?_ h4;by_cases e:W=290
   .rw[e2 e]at q;exact jr.1 q
   .rw[e3 e]at q;exact q
 have U:aB w1 (Fu (λb o=>ak C L c.h b o/\¬kK (ir c.h) L b) L (ir c.h)) L (ir c.h) (xs.map c.ev) (xs.map a1.eval):=by
  rw[G];refine⟨by simp,λi p u hp hu=>?_⟩;have b4:=IV.1 ay p (In hp);simp only[ZW,II]at hp hu;obtain⟨x,hx,rfl⟩:=hp;obtain⟨y,hy,rfl⟩:=hu;rw[hx]at hy;injection hy with hy;subst hy;exact yu (Pres.refl _ _) H b4 (dM ht x)
 have D:=hD w1 _ L (xs.map a1.eval) (λb o J=>Z.mlt J.1) b3 U
 have a5:(execOp a1.eval o).run C.P w1=.ok (.enter g (xs.map a1.eval).toArray) w1:=by
  unfold dW at d
  cases O:C.P.funcs[g]? with
  |none=>rw[O]at d;cases d
  |some fn=>
   rw[O]at d;simp only[An,yAI,yA6,ne_eq]at d
   have V:fn.body.isNone=false:=by cases cr:fn.body<;>simp_all
   unfold execOp;rw[b5];simp only[resolve,bq,Deferred.ofValue,pure_bind,Sem.run_bind,Result.andThen_ok,invoke,callFunc,program,Sem.run,O];simp[d.2,V]
 unfold Oper.wp;rw[a5];simp only[Oper.upon];refine D.mono ?_;rintro ee w' ⟨v,r,L',h',rfl,hx,Y,ch,hr,I,T,b7,b8,ax⟩;obtain⟨L2,cq,ad,R,M⟩:=Z.takeStep hi hx Y ch b7 b8 ax;refine hK _ _ ?_;obtain⟨cu,cg,cb⟩:=a6 _ _ _ (gQ.put ad hN bk (λn=>R (ht n)) a8 (aZ.refl ad) (M I hr)) (hQ r h' Y I T);exact iJ (λF a' w' cd b9=>⟨F,cd,b9⟩) cg cb
theorem WP.take{xs:List Operand}(a:ops.toList=pre++o::post)(b:o.op=.call {callee:=.value f,args:=xs.toArray,argTypes:=ats})(c:o.guard=none)
 (hq:fW C.P hn C.N ops (Pm C (fW C.P hn C.N ops (Q .normal) post) f xs o.dst) pre st):WP C (.region id ops false) Q st:=WP.takeG (λst _ _ e d=>⟨st,e,d⟩) a b c hq
end
attribute [simp] KE tA MS tU nV
end Go.Ab
