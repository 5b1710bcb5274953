/- The contracts and facts that the laws of this seat need, in one text (DlL, Dc4, DcR, Dc12, Dc14, Gr1, Gr2, Gr3, Gr4, Gr5, Gr6, Gr7, KM1, KM2, KM3, KM4, K15, K15b, K16, K17, KM5, L28a, TrW, TrY, L28d, L28b, L28e, TC1, DeQ, Gr8, De2, De3, Gs1, Gs2, Ru1, KR1, KR2, KR3, KR4, KR5, K18, KR6, KR7, KR8, KR9, KR10, KR11, KR12, KR13, KR14, KR15, KR16, KR17, K19, KR18). -/
import Derived.Test.YtidomjacfogjlaaGreatU10
import Derived.Test.YtidomjacfogjlaaGreatProg
import Derived.Shelf.Slices.Delete
set_option linter.all false
set_option maxRecDepth 10000
set_option maxHeartbeats 16000000
namespace Go.Ab
open IntKind (i64)
open Go.Proofs.Tryz
open Go.Proofs Go.Shelf Go.Sort
def S5(x:Nat):Nat:=match x with
 |23=>152
 |n=>n
def S6(x:Nat):Nat:=match x with
 |22=>34
 |n=>n
def PU:Ren:=⟨S5,S6,λx=>x⟩
theorem PW:Lays2.n23 prog PU:=
 {mixed:=by kernel_rfl,f23:=func152.trans (Vw some (by kernel_rfl)),
  t0:=Tryz.underlying0,a0:=Tryz.isAgg0,z0:=Tryz.sizeOf0,v0:=Tryz.zeroValue0,t3:=Tryz.underlying3,a3:=Tryz.isAgg3,z3:=Tryz.sizeOf3,v3:=Tryz.zeroValue3,
  t4:=Tryz.underlying4,a4:=Tryz.isAgg4,z4:=Tryz.sizeOf4,v4:=Tryz.zeroValue4,t22:=Tryz.underlying34,a22:=Tryz.isAgg34,z22:=Tryz.sizeOf34,v22:=Tryz.zeroValue34,i3:=by kernel_rfl}
theorem IM:Fu prog 152:=⟨by kernel_rfl,λa cap i j zs w c d f b e=>Any.slices_Delete_int PW a 0 cap i j zs w c d f b e⟩
end Go.Ab
namespace Go.Ab
open IntKind (i64)
open Go.Proofs.Tryz
open Go.Proofs
variable {Q:St->Prop}{a a0 a1 a10 a11 a12 a13 a14 a15 a16 a17 a2 a3 a4 a5 a6 a7 a8 a9 b b0 b1 b2 b3 b4 b5 v0 v1 v2 v3 v4 v5:Int}{aft:Array Edge}{args:List AV}{c i k n:Nat}{d dst:Option Nat}{f:Operand}{g:Option (Nat×Bool)}{j:J}{jn ws:List Int}{js:List J}{ms:List Ms}{pos:String}{s:Spc}{st:St}{t:Tr}{ts:Array TypeId}{ty:TypeId}{v:Vc}{xs:List Operand}{α:Type}{ρ:Operand->AV}{l:List α}{p:α->Bool}
theorem FG(xs:List (Int×Int))(j:Int):(dg xs j).length<=xs.length:=by
 unfold dg;split
 .split<;>simp
 .simp
theorem FH(xs:List (Int×Int))(j:Int):(dh xs j).length<=xs.length:=by
 unfold dh;split
 .split<;>simp
 .simp
theorem ID{leaf r:Nat}:((iu s.near).set leaf dz++[dz,dz]++List.replicate r dz).map (bD (leaf+300) 250)=(iu s.near).set leaf dz++[dz,dz]++List.replicate r dz:=by
 rw[V7,V7,List.map_replicate]
 congr 1
 congr 1
 apply UI;intro v;rw[TR,Ub];split
 .rename_i e;subst e
  split<;>rfl
 .rename_i e
  simp only[iu,TR]
  cases h:(List.range s.near.length)[v]? with
  |none=>rfl
  |some w=>
   have b:w=v:=by
    have:=(th.1 h).2;simp at this;exact this.symm
   subst b;simp[bD,aZ,rk,show¬w=leaf from λa=>e a.symm]
theorem IE{leaf r:Nat}{joint:Int}(i:Nat)(x:AV)(a:leaf<s.near.length)(h:(iu (hC s leaf joint).near++List.replicate r dz)[i]?=some x):
 ((iu s.near).set leaf dz++[dz,dz]++List.replicate r dz)[i]?=some x\/(((iu s.near).set leaf dz++[dz,dz]++List.replicate r dz)[i]?=some dz/\∃q,(decide (q=leaf+300)||decide (q=s.near.length+300)||decide (q=s.near.length+301))=true/\x=.arr q 0):=by
 have hN:(hC s leaf joint).near.length=s.near.length+2:=by simp[hC]
 by_cases g:i<s.near.length+2
 .rw[T4 (by rw[cJ];omega),mm (by omega)]at h
  injection h with h
  have d:(((hC s leaf joint).near[i]?).getD [])=if i=leaf then[]else ag s i:=qZ a
  rw[d]at h;rw[T4 (by simp[cJ];omega)];by_cases c:i<s.near.length
  .rw[T4 (by simp[cJ];omega),Ub]
   by_cases e:leaf=i
   .subst e
    rw[T8 rfl]at h;exact .inr ⟨by simp[cJ,a],leaf+300,by simp,h.symm⟩
   .rw[TQ (λb=>e b.symm)]at h
    rw[TQ e,mm c];exact .inl (by rw[<-h];rfl)
  .have f:ag s i=[]:=by unfold ag;rw[Uc (by omega)];rfl
   rw[TQ (by omega),f]at h;rw[T7 (by simp[cJ];omega)];simp only[Vr,cJ]
   have:i-s.near.length=0\/i-s.near.length=1:=by omega
   refine .inr ⟨by rcases this with e|e<;>rw[e]<;>rfl,i+300,?_,h.symm⟩;rcases this with e|e
   .simp[show i=s.near.length by omega]
   .simp[show i=s.near.length+1 by omega]
 .rw[T7 (by rw[cJ];omega),cJ,hN]at h
  refine .inl ?_;rw[T7 (by simp[cJ];omega)];simpa[cJ]using h
theorem CG{v:Nat}:∀{l:List Nat},v∈l->∃j,l[j]?=some v/\(∀i,i<j->l[i]?≠some v)/\l.erase v=l.take j++l.drop (j+1)
 |a::l,h=>by
  by_cases e:a=v
  .subst e
   exact⟨0,rfl,λi hi=>by omega,by simp⟩
  .obtain⟨j,c,d,f⟩:=CG (l:=l) (by simpa[show¬v=a from λb=>e b.symm]using h)
   refine⟨j+1,by simpa using c,λi hi=>?_,?_⟩
   .cases i with
    |zero=>simp[e]
    |succ i=>simpa using d i (by omega)
   .rw[List.erase_cons_tail (by simpa using e),f];rfl
theorem PN(xs:List Nat)(v j:Nat)(m:xs.length<=9223372036854775807)(g:xs[j]?=some v)(n:∀i,i<j->xs[i]?≠some v):aK 151 (uK xs) (Z v) (Z j):=by
 obtain⟨l,k⟩:=th.1 g;refine Dp func151 λC hP hN=>?_;refine Gz ?_;refine WP.loopN [] xs.length (λi st=>st.t 0=.pv (uK xs)/\st.t 1=.pv (Z v)/\st.t 7=.pv (Z xs.length)/\st.t 8=.pv (Z i)/\i<=j) (by simp) ?_;rintro i st hi ⟨g0,g1,p,q,f⟩
 have a:i<xs.length:=by omega
 have r:=aj a m;have c:xs[i]?=some xs[i]:=an a;by_cases e:i=j
 .subst e
  exact Gy
 .have b:=n i (by omega)
  generalize s:xs[i]=y at *;have o:¬v=y:=λd=>b (by rw[c,d])
  have d:¬(v:Int)=(y:Int):=by omega
  refine Gz ?_
  all_goals omega
theorem ST(s:Spc)(c n leaf:Nat)(joint:Int)(cB:s.cc=false)(h1:s.near.length=n)(h2:s.bx.length=n)(h3:s.cells.length=n)(h4:s.jn.length=n)(hn:n<=2046)(cS:leaf<n)(cg:∀x∈s.bx,x.length<=16777216)(cr:∀v,(ag s v).length<=2046)(cq:(ag s leaf).Nodup)(cU:∀k∈ag s leaf,k<n/\k≠leaf/\leaf∈ag s k):
 nh prog 83 [.ptr 290 0,.pv (Z leaf),.pv (Z joint)] (bg false s c) (λr h'=>r=.pv (.sl [Z n,Z ((n:Int)+1)])/\∃c',h'=bg false (gn s leaf joint) c'):=by
 have a1:s.bx[leaf]?=some (gZ s leaf):=by simp[gZ,an (by omega:leaf<s.bx.length)]
 have bs:leaf<s.bx.length:=by omega
 have b0:leaf<s.cells.length:=by omega
 have a6:=ip a1 bs;have cH:=Ii (gZ s leaf) joint (cg _ (Is a1));have cj:s.cells[leaf]?=some s.cells[leaf]:=an b0;generalize ch:s.cells[leaf]=cl at *;have E:=oo false s c;have U:=qE false s c cB;rw[rT cB]at E;have V:=qF false s c;have M:=oq false s c;have W:=sT false s c;have h9:bg false s c 9=none:=rfl;have cw:i64.wrap ((n:Int)+1)=(n:Int)+1:=aa;rw[h1]at E;rw[h2]at E;rw[h3]at E;rw[h4]at E;have ba:=lL (own:=false) (s:=s) (c:=c) (v:=leaf) (by omega);obtain⟨cs,G⟩:∃cs,cs=iu s.near++List.replicate c dz:=⟨_,rfl⟩;rw[<-G]at M
 have F:cs.length=n+c:=by rw[G];simp[cJ,h1]
 have ca:cs[leaf]?=some (.arr (leaf+300) (ag s leaf).length):=by rw[G,T4 (by rw[cJ];omega),mm (by omega)];rfl
 have Y:∀h,cs[leaf]'h=.arr (leaf+300) (ag s leaf).length:=λh=>ip ca h;have sa:∀x,cs.take leaf++x::cs.drop (leaf+1)=cs.set leaf x:=λx=>pW (by omega)
 have cp:leaf+1<=n+c:=by omega
 have a7:leaf<n+c:=by omega
 refine Gr func83 (ot (by omega)) ?_;intro C hP hN;simp only[f83]at hN|-;generalize hH:bg false s c=H at *
 with_reducible repeat' (first|refine Sp.h ?_|((with_unfolding_all refine WP.appBAt (hn:=[2000101]) (d:=102) 6 rfl rfl rfl rfl ?_);simp -implicitDefEqProofs (maxSteps:=2000000) [hP,hN,sF,h1,h2,h3,h4,E,U,V,M,W,h9,cw,bs,b0,a1,a6,cj,ch,ba,ca,Y,sa,cp,a7,F,cS,show¬leaf+300=290 by omega,show¬leaf+300=291 by omega,show¬leaf+300=292 by omega,show¬leaf+300=293 by omega,show¬leaf+300=294 by omega,show(n+2)*8<=140737488355328 by omega,show(n+2)*24<=140737488355328 by omega,show(n+2)*112<=140737488355328 by omega,show n+2<=9223372036854775807 by omega])|((first|refine Wd ?_|refine Ss.h ?_|refine Sc.h (cH) ?_|(refine Sb.h ?_ ?_ ?_<;>(try intro hgd)<;>try exact Xy))<;>simp -implicitDefEqProofs (maxSteps:=2000000) [hP,hN,sF,h1,h2,h3,h4,E,U,V,M,W,h9,cw,bs,b0,a1,a6,cj,ch,ba,ca,Y,sa,cp,a7,F,cS,show¬leaf+300=290 by omega,show¬leaf+300=291 by omega,show¬leaf+300=292 by omega,show¬leaf+300=293 by omega,show¬leaf+300=294 by omega,show(n+2)*8<=140737488355328 by omega,show(n+2)*24<=140737488355328 by omega,show(n+2)*112<=140737488355328 by omega,show n+2<=9223372036854775807 by omega]<;>try refine Yc ?_)|refine X2 ?_ ?_|(refine Xd ?_ ?_<;>intro hcd<;>try exact Xx))
 refine⟨293,n,c,(iu s.near).set leaf dz,.slice none 0 0,34,24,_,[.val (.slice none 0 0),.val (.slice none 0 0)],by simp[St.ev],?_,by simp[cJ,h1],?_,by simp[St.ev],by simp,by simp[PV.cells,Value.cells],by simp,by rw[hP];exact Ol,rfl,rfl,by simp;omega,by simp;omega,by omega,by omega,by omega,?_⟩
 .have:cs.set leaf dz=(iu s.near).set leaf dz++List.replicate c dz:=by rw[G,VR _ _ (by rw[cJ];omega)]
  simp[ae,this]
 .intro y hy
  rcases UP hy with hy|rfl
  .simp only[iu,Ur,UH]at hy
   obtain⟨v,hv,rfl⟩:=hy;simp[bn,aH]
  .rfl
 intro N;simp -implicitDefEqProofs (maxSteps:=2000000) [hP,hN,sF,rekey,au,bw,bn,aH,h1,h2,h3,h4,E,U,V,M,W,h9];refine GP (zAa @sF.eq_1 @rekey.eq_1 @au.eq_1 @bw.eq_1 @bw.eq_2 @bn.eq_1 @bn.eq_2 @bn.eq_3 @bn.eq_4 @aH.eq_1 @aH.eq_2 @aH.eq_3 @aH.eq_4 h1 (s6 h2 h3 h4 E U V M W h9 ba)) ?_
 refine WP.of_st (P:=λst=>st.t 0=.ptr 290 0/\st.t 1=.pv (Z leaf)/\st.t 7=.pv (Z n)/\st.t 8=.pv (Z ((n:Int)+1))/\st.t 105=.arr (leaf+300) (ag s leaf).length/\st.t 106=.pv (Z (ag s leaf).length)/\st.t 107=.pv (Z 0)/\
  st.h 250=none/\st.h 290=some (.box [.pv (iv s.root),.arr 291 (n+2),.arr 292 (n+2),.ext (.barr 293 (n+2) (n+2+N)),.arr 294 (n+2)] false false)/\st.h 291=some (.row 80 8 (((hC s leaf joint).cells).map br) 0)/\st.h 292=some (.row 30 1 ((hC s leaf joint).bx.map iv) 0)/\st.h 294=some (.row 3 1 ((hC s leaf joint).jn.map Z) 0)/\
  st.h 293=some (.box ((iu s.near).set leaf dz++[dz,dz]++List.replicate N dz) true false)/\∀k,295<=k->st.h k=H k) ⟨?_,?_⟩
 .simp[hC,h3,br,aD,G,rekey,au,bw,bn,aH,ae]
  refine⟨by rw[<-hH];rfl,rfl,λk hk=>?_⟩
  have O:H k=none\/∃xs,H k=some (.row 3 1 xs 0):=by rw[<-hH];exact Ha (by omega)
  rcases O with O|⟨xs,O⟩
  all_goals simp[O,show¬k=290 by omega,show¬k=291 by omega,show¬k=292 by omega,show¬k=293 by omega,show¬k=294 by omega,show¬k=9 by omega]
  trace_state
 generalize D:hC s leaf joint=s0 at *;rintro st ⟨g0,g1,I,J,o,p,u,B,b1,b2,b3,b5,b4,a2⟩;have bb:H (leaf+300)=some (.row 3 1 ((ag s leaf).map λn:Nat=>Z (n:Int)) 0):=ba;refine WP.ren (leaf+300) 250 (by omega) B (by omega) (by rw[a2 _ (by omega),bb];intro cs f e;cases e) ?_;refine WP.nilRows (λq=>decide (q=leaf+300)||decide (q=n+300)||decide (q=n+301)) 3 293 (cs:=(iu s.near).set leaf dz++[dz,dz]++List.replicate N dz) (cs':=iu s0.near++List.replicate N dz) (own:=true) (fb:=false) ?_ ?_ ?_ ?_ ?_
 .show bo (leaf+300) 250 st.h 293=_
  unfold bo;rw[TQ (by omega),TQ (by omega),b4];simp only[UO,cW,ID]
 .intro q hq
  simp only[UT,L4]at hq;refine⟨?_,by omega⟩;show bo (leaf+300) 250 st.h q=none;unfold bo;rw[TQ (by omega)];by_cases e:q=leaf+300
  .rw[T8 e]
  .rw[TQ e,a2 q (by omega),<-hH]
   unfold bg;rw[TQ (by omega),TQ (by omega),TQ (by omega),TQ (by omega),TQ (by omega),TQ (by omega)];rfl
 .simp[cJ,<-D,hC,h1];omega
 .intro i x K
  rw[<-D]at K;have:=IE i x (by omega) K;rw[h1]at this;exact this
 obtain⟨A,a9⟩:∃A,A=ag s leaf:=⟨_,rfl⟩
 have ei:A.length<=2046:=by rw[a9];exact cr leaf
 rw[<-a9]at o p bb cq cU
 refine WP.of_st (P:=λst=>st.t 0=.ptr 290 0/\st.t 1=.pv (Z leaf)/\st.t 7=.pv (Z n)/\st.t 8=.pv (Z ((n:Int)+1))/\st.t 105=.arr 250 A.length/\st.t 106=.pv (Z A.length)/\st.t 107=.pv (Z 0)/\st.h 250=some (.row 3 1 (A.map λn:Nat=>Z (n:Int)) 0)/\∀k,inK k=true->st.h k=bg false s0 N k)
  ⟨⟨by simp[g0,bD,aZ,rk],by simp[g1,bD,aZ],by simp[I,bD,aZ],by simp[J,bD,aZ],by simp[o,bD,aZ,rk],by simp[p,bD,aZ],by simp[u,bD,aZ],?_,?_⟩,?_⟩
 .have:=a2 (leaf+300) (by omega)
  rw[bb]at this;simp[bo,this,cW]
 .intro k hk
  have b9:s0.near.length=n+2:=by rw[<-D];simp[hC,h1]
  have c0:s0.bx.length=n+2:=by rw[<-D];simp[hC,h2]
  have c1:s0.cells.length=n+2:=by rw[<-D];simp[hC,h3]
  have c2:s0.jn.length=n+2:=by rw[<-D];simp[hC,h4]
  have c3:s0.root=s.root:=by rw[<-D];rfl
  have b8:s0.cc=false:=by rw[<-D];rfl
  have cb:∀v,ag s0 v=if v=leaf then[]else ag s v:=λv=>by rw[<-D];exact qZ (by omega)
  have hz:∀v,n<=v->ag s v=[]:=λv hv=>by unfold ag;rw[Uc (by omega)];rfl
  simp only;simp only[inK,An,L4]at hk;by_cases e0:k=290
  .subst e0
   rw[TQ (by simp),TQ (by omega),oo,rT b8,b9,c0,c1,c2,c3];simp[bo,b1,cW,bD,aZ,i8,rk,show¬290=leaf+300 by omega,show¬291=leaf+300 by omega,show¬292=leaf+300 by omega,show¬293=leaf+300 by omega,show¬294=leaf+300 by omega]
  by_cases e1:k=291
  .subst e1
   rw[TQ (by simp),TQ (by omega),qE _ _ _ b8];simp[bo,b2,cW,show¬291=leaf+300 by omega]
  by_cases e2:k=292
  .subst e2
   rw[TQ (by simp),TQ (by omega),qF];simp[bo,b3,cW,show¬292=leaf+300 by omega]
  by_cases e3:k=293
  .subst e3
   rw[TQ (by simp),T8 rfl,oq]
  by_cases e4:k=294
  .subst e4
   rw[TQ (by simp),TQ (by omega),sT];simp[bo,b5,cW,show¬294=leaf+300 by omega]
  by_cases hK:(decide (k=leaf+300)||decide (k=n+300)||decide (k=n+301))=true
  .rw[T8 hK]
   simp only[UT,L4]at hK;obtain⟨v,rfl⟩:∃v,k=v+300:=⟨k-300,by omega⟩;rw[lL (by omega),cb];split
   .rfl
   .rw[hz v (by omega)];rfl
  .rw[TQ hK,TQ e3]
   simp only[UT,L4,not_or]at hK
   have h5:bo (leaf+300) 250 st.h k=H k:=by
    unfold bo;rw[TQ (by omega),TQ hK.1.1,a2 k (by omega)]
    have O:H k=none\/∃xs,H k=some (.row 3 1 xs 0):=by rw[<-hH];exact Ha (by omega)
    rcases O with O|⟨xs,O⟩<;>rw[O]<;>rfl
   rw[h5,<-hH];unfold bg;rw[TQ e0,TQ e1,TQ e2,TQ e3,TQ e4,TQ e0,TQ e1,TQ e2,TQ e3,TQ e4,b9,h1];by_cases h6:300<=k/\k<300+n
   .rw[T8 h6,T8 (by omega),cb,TQ (by omega)]
   .rw[TQ h6,TQ (by omega)]
 clear g0 g1 I J o p u B b1 b2 b3 b4 b5 a2 st;rintro st ⟨g0,g1,I,J,o,p,u,B,bH⟩;clear E U V M W h9 ba bb sa ca Y F G cw cp a7 a6 bs b0 cj ch cH
 have cz:∀x∈s0.bx,x.length<=9223372036854775807:=by
  rw[<-D];intro x K;simp only[hC,Ui,Ut,Uz,UX]at K;have hh:(gZ s leaf).length<=16777216:=cg _ (Is a1);rcases K with K|rfl|rfl
  .have:=cg x K;omega
  .have:=FG (gZ s leaf) joint;omega
  .have:=FH (gZ s leaf) joint;omega
 clear a1;refine WP.loopN [] A.length (λi st=>st.t 0=.ptr 290 0/\st.t 1=.pv (Z leaf)/\st.t 7=.pv (Z n)/\st.t 8=.pv (Z ((n:Int)+1))/\st.t 105=.arr 250 A.length/\st.t 106=.pv (Z A.length)/\st.t 107=.pv (Z i)/\st.h 250=some (.row 3 1 (A.map λn:Nat=>Z (n:Int)) 0)/\∃S,S=(A.take i).foldl (fH n leaf) s0/\LpI s0 n leaf A i S/\∀k,inK k=true->st.h k=bg false S N k) ?_ ?_
 .refine⟨by simp[St.kill,au,bn,aH,g0],by simp[St.kill,au,bn,aH,g1],by simp[St.kill,au,bn,aH,I],by simp[St.kill,au,bn,aH,J],by simp[St.kill,au,bn,aH,o],by simp[St.kill,au,bn,aH,p],by simp[St.kill,au,bn,aH,u],by simp[St.kill,bw,B],s0,rfl,by rw[<-D];exact LpI.zero h1,λk hk=>?_⟩
  show(st.h k).map (bw [])=_;rw[bH k hk,ko]
 clear g0 g1 I J o p u B bH st;rintro i st hi ⟨g0,g1,I,J,o,p,u,B,S,hS,hI,bH⟩;by_cases a8:i<A.length
 .have cx:=aj a8 (by omega)
  obtain⟨k,hk⟩:∃k,A[i]?=some k:=⟨_,an a8⟩;have cP:∀h,A[i]'h=k:=λh=>ip hk h;obtain⟨cQ,ec,cT⟩:=cU k (Is hk)
  have ee:k∉A.take i:=λhm=>by
   have ht:A.take (i+1)=A.take i++[k]:=by rw[Wj,hk];rfl
   have:=(List.take_sublist (i+1) A).nodup cq;rw[ht,VN]at this;exact this.2.2 k hm k (by simp) rfl
  have cf:=hI.nl
  have c5:ag S k=ag s k:=by rw[hI.low k cQ ee,<-D,qZ (by omega),TQ ec]
  have X:∀v,(ag S v).length<=4094:=λv=>by
   have h5:=hI.len v;rw[<-D,qZ (by omega)]at h5;have h6:=cr v;split at h5
   .split at h5<;>simp at h5<;>omega
   .split at h5<;>omega
  rw[<-c5]at cT;obtain⟨j,cN,dd,ea⟩:=CG cT;have ek:j<(ag S k).length:=(th.1 cN).1;have ci:=PN (ag S k) leaf j (by have:=X k;omega) cN dd;have ct:=hI.step cq hk cQ;obtain⟨cs,G⟩:∃cs,cs=iu S.near++List.replicate N dz:=⟨_,rfl⟩
  have F:cs.length=n+2+N:=by rw[G];simp[cJ,cf]
  have ca:cs[k]?=some (.arr (k+300) (ag S k).length):=by rw[G,T4 (by rw[cJ];omega),mm (by omega)];rfl
  have Y:∀h,cs[k]'h=.arr (k+300) (ag S k).length:=λh=>ip ca h;have sa:∀x,cs.take k++x::cs.drop (k+1)=cs.set k x:=λx=>pW (by omega)
  have cm:k+1<=n+2+N:=by omega
  have bq:k<n+2+N:=by omega
  have cn:k<n+2:=by omega
  have L:=(bH 290 rfl).trans (oo false S N);have Q:=(bH 293 rfl).trans (oq false S N);rw[rT (hI.cc.trans (by rw[<-D];rfl))]at L;have R:=(bH (k+300) (by simp[inK];omega)).trans (lL (own:=false) (s:=S) (c:=N) (v:=k) (by omega));rw[<-G]at Q;rw[cf]at L;have c4:i64.wrap ((j:Int)+1)=((j+1:Nat):Int):=(aa (by have:=X k;omega) (by have:=X k;omega)).trans (by omega)
  with_reducible repeat' (first|refine Sp.h ?_|((with_unfolding_all refine WP.drawX (hn:=[]) 15 rfl (by rw[hP];kernel_rfl) (by kernel_rfl) ?_);simp -implicitDefEqProofs (maxSteps:=2000000) [hP,hN,g0,g1,I,J,o,p,u,B,a8,cx,hk,cP,L,Q,R,ca,Y,sa,F,cm,bq,cn,c4])|((first|refine Wd ?_|refine Ss.h ?_|refine Sc.h (ci) ?_|(refine Sb.h ?_ ?_ ?_<;>(try intro hgd)<;>try exact Xy))<;>simp -implicitDefEqProofs (maxSteps:=2000000) [hP,hN,g0,g1,I,J,o,p,u,B,a8,cx,hk,cP,L,Q,R,ca,Y,sa,F,cm,bq,cn,c4]<;>try refine Yc ?_)|refine X2 ?_ ?_|(refine Xd ?_ ?_<;>intro hcd<;>try exact Xx))
  refine⟨_,KA (f:=.func 152) (x:=.tmp 131) (y:=.tmp 132) (z:=.tmp 134) (g:=152) (k:=k+300) (e:=3) (i:=j) (j:=j+1) (zs:=(ag S k).map λn:Nat=>(n:Int)) rfl rfl (by simp[dm]) rfl IM (by simp[St.ev]) (by simp[St.ev]) (by simp[St.ev]) (by simp[R]) (by omega) (by simp;omega),?_⟩;simp -implicitDefEqProofs (maxSteps:=2000000) [hP,hN,L,Q,R,ca,Y,sa,F,cm,bq,cn];refine Yc ?_
  have cM:∀i x,cs[i]?=some x->x=dz\/∃m,x=.arr (i+300) m:=λv x K=>by
   rw[G]at K;by_cases hv:v<S.near.length
   .rw[T4 (by rw[cJ];omega),mm hv]at K
    injection K with K;exact .inr ⟨_,K.symm⟩
   .rw[T7 (by rw[cJ];omega),Uv]at K
    split at K
    .injection K with K;exact .inl K.symm
    .cases K
  refine WP.cutRow 293 k (k+300) (m:=(ag S k).length-1) (t:=(ag S k).length) (e:=3) (sz:=1) (own:=true) (fb:=false) (cs:=cs.set k (.ext (.suf (k+300) 0 ((ag S k).length-1) (ag S k).length))) (xs:=oU (((ag S k).map λn:Nat=>(n:Int)).take j++((ag S k).map λn:Nat=>(n:Int)).drop (j+1)++[0])) ?_ ?_ ?_ ?_ ?_ (by omega) ?_
  .simp[ae]
  .simp[bq,F]
  .intro v x K hv
   rw[Ub,TQ (λe=>hv e.symm)]at K;rcases cM v x K with rfl|⟨m,rfl⟩
   .rfl
   .simp[bn,aH,hv]
  .simp[ae]
  .simp;omega
  have cd:∀v,ag (jc S k leaf) v=if v=k then(ag S k).take j++(ag S k).drop (j+1)else ag S v:=by
   intro v;rw[yg (by omega),ea]
  have c7:(jc S k leaf).near.length=n+2:=by simp[jc,cf]
  refine WP.of_st (P:=λst=>st.t 0=.ptr 290 0/\st.t 1=.pv (Z leaf)/\st.t 7=.pv (Z n)/\st.t 8=.pv (Z ((n:Int)+1))/\st.t 15=.pv (Z k)/\st.t 105=.arr 250 A.length/\st.t 106=.pv (Z A.length)/\st.t 107=.pv (Z i)/\st.h 250=some (.row 3 1 (A.map λn:Nat=>Z (n:Int)) 0)/\∀k2,inK k2=true->st.h k2=bg false (jc S k leaf) N k2)
   ⟨⟨by simp[g0,au,bn,aH,ae],by simp[g1,au,bn,aH,ae],by simp[I,au,bn,aH,ae],by simp[J,au,bn,aH,ae],by simp[au,bn,aH,ae],by simp[o,au,bn,aH,ae],by simp[p,au,bn,aH,ae],by simp[u,au,bn,aH,ae],?_,?_⟩,?_⟩
  .simp[B,ae,bw,show¬250=k+300 by omega]
  .intro k2 eb
   simp only;by_cases e1:k2=k+300
   .subst e1
    rw[T8 rfl,lL (by omega),cd,T8 rfl]
    congr 2
    simp only[V7,List.map_take,WL,List.map_map,U9,WE];rw[VG (by simp;omega),Us (by simp;omega)];rfl
   .rw[TQ e1]
    by_cases e2:k2=293
    .subst e2
     rw[T8 rfl,oq];simp only[List.set_set]
     congr 2
     rw[G,VR _ _ (by rw[cJ];omega)]
     congr 1
     .apply UI
      intro v;rw[Ub,cJ];by_cases hv:v<n+2
      .have hr:(iu (jc S k leaf).near)[v]?=some (.arr (v+300) (ag (jc S k leaf) v).length):=mm (by omega)
       rw[hr,cd];by_cases e:k=v
       .subst e
        rw[T8 rfl,T8 (by omega),T8 rfl];simp;omega
       .rw[TQ e,TQ (λe9=>e e9.symm),mm (by omega)];rfl
      .rw[Uc (l:=iu (jc S k leaf).near) (by rw[cJ];omega)]
       split
       .rw[TQ (by omega)]
       .rw[Uc (by rw[cJ];omega)]
    .rw[TQ e2]
     rw[bB e2,bB e1,bH k2 eb];have h6:bg false (jc S k leaf) N k2=bg false S N k2:=A8 (by simp) e2 (λv hv a8=>by rw[Ub,TQ (by omega)]);rw[h6];exact Hc e2 (by omega)
  clear L Q R g0 g1 I J o p u B bH st;rintro st ⟨g0,g1,I,J,T,o,p,u,B,bH⟩;obtain⟨S1,ar⟩:∃S1,S1=jc S k leaf:=⟨_,rfl⟩
  have d1:S1.near.length=n+2:=by rw[ar];exact c7
  have d2:S1.bx.length=n+2:=by rw[ar];show S.bx.length=_;rw[hI.bx,<-D];simp[hC,h2]
  have d3:∀x∈S1.bx,x.length<=9223372036854775807:=by rw[ar];show∀x∈S.bx,_;rw[hI.bx];exact cz
  have d4:∀v,(ag S1 v).length<=4094:=λv=>by
   rw[ar,cd];have h5:=X k;have h6:=X v;split
   .simp;omega
   .exact h6
  have d5:∀v,(ag (fG S1 n k) v).length<=4096:=λv=>by
   rw[pj (by omega) (by omega) (by omega)];have h6:=d4 v;split
   .simp;omega
   .omega
  obtain⟨m1,m2,m3,m4,m5⟩:=lp S1 n k
  have cu:fG (fG S1 n k) (n+1) k=fH n leaf S k:=by rw[ar];rfl
  rw[<-ar]at bH
  with_reducible repeat' (first|refine Sp.h ?_|((with_unfolding_all refine WP.takeAt (hn:=[]) 3 rfl rfl rfl ?_);simp -implicitDefEqProofs (maxSteps:=2000000) [hP,hN,g0,g1,I,J,T,o,p,u,B])|((first|refine Wd ?_|refine Ss.h ?_|(refine Sb.h ?_ ?_ ?_<;>(try intro hgd)<;>try exact Xy))<;>simp -implicitDefEqProofs (maxSteps:=2000000) [hP,hN,g0,g1,I,J,T,o,p,u,B]<;>try refine Yc ?_)|refine X2 ?_ ?_|(refine Xd ?_ ?_<;>intro hcd<;>try exact Xx))
  refine yh (s:=S1) (c:=N) (a:=n) (b:=k) hP rfl (by simp[St.ev]) bH (by omega) (by omega) (by omega) (by omega) (by omega) d3 (λv=>VH (d4 v) (by omega)) (by simp[dm,hN]) ?_;intro r9 h9 bc cV;have ad:=cV 250 rfl;simp only[B,UO,iZ]at ad;simp -implicitDefEqProofs (maxSteps:=2000000) [hP,hN,gb,mR,iw,k8,inK,g0,g1,I,J,T,o,p,u]
  with_reducible repeat' (first|refine Sp.h ?_|((with_unfolding_all refine WP.takeAt (hn:=[]) 3 rfl rfl rfl ?_);simp -implicitDefEqProofs (maxSteps:=2000000) [hP,hN,gb,mR,iw,k8,inK,g0,g1,I,J,T,o,p,u,ad])|((first|refine Wd ?_|refine Ss.h ?_|(refine Sb.h ?_ ?_ ?_<;>(try intro hgd)<;>try exact Xy))<;>simp -implicitDefEqProofs (maxSteps:=2000000) [hP,hN,gb,mR,iw,k8,inK,g0,g1,I,J,T,o,p,u,ad]<;>try refine Yc ?_)|refine X2 ?_ ?_|(refine Xd ?_ ?_<;>intro hcd<;>try exact Xx))
  refine yh (s:=fG S1 n k) (c:=N) (a:=n+1) (b:=k) hP rfl (by simp[St.ev,gb,mR,iw,k8,inK,g0,g1,I,J,T]) bc (by omega) (by omega) (by omega) (by omega) (by rw[m2,m1,d2,d1]) (by rw[m2];exact d3) d5 (by simp[dm,hN]) ?_;intro r8 h8 ck ef;have a5:=ef 250 rfl;simp only[ad,UO,iZ]at a5;rw[cu,hS]at ck;rw[hS]at ct
  have c8:(A.take (i+1)).foldl (fH n leaf) s0=fH n leaf ((A.take i).foldl (fH n leaf) s0) k:=by
   rw[Wj,hk,Option.toList_some,Wk];rfl
  rw[<-c8]at ck ct;simp -implicitDefEqProofs (maxSteps:=2000000) [hP,hN,gb,mR,iw,k8,inK,g0,g1,I,J,T,o,p,u]
  with_reducible repeat' (first|refine Sp.h ?_|((first|refine Wd ?_|refine Ss.h ?_|(refine Sb.h ?_ ?_ ?_<;>(try intro hgd)<;>try exact Xy))<;>simp -implicitDefEqProofs (maxSteps:=2000000) [hP,hN,gb,mR,iw,k8,inK,g0,g1,I,J,T,o,p,u,a5,cx]<;>try refine Yc ?_)|refine X2 ?_ ?_|(refine Xd ?_ ?_<;>intro hcd<;>try exact Xx))
  exact⟨ct,λk2 a b=>by rw[ck k2 (by simp[inK,a,b]),ko]⟩
 .have c9:i=A.length:=by omega
  subst c9;rw[Us (Ua _)]at hS;have d1:=hI.nl
  have d2:S.bx.length=n+2:=by rw[hI.bx,<-D];simp[hC,h2]
  have d3:∀x∈S.bx,x.length<=9223372036854775807:=by rw[hI.bx];exact cz
  have d4:∀v,(ag S v).length<=4096:=λv=>by
   have h5:=hI.len v;rw[<-D,qZ (by omega)]at h5;have h6:=cr v;split at h5
   .split at h5<;>simp at h5<;>omega
   .split at h5<;>omega
  have b7:fG S n (n+1)=gn s leaf joint:=by rw[hS,<-D,a9];unfold gn;rw[h3]
  have d5:(gn s leaf joint).near.length=n+2:=by rw[<-b7,(lp S n (n+1)).1,d1]
  with_reducible repeat' (first|refine Sp.h ?_|((with_unfolding_all refine WP.takeAt (hn:=[]) 3 rfl rfl rfl ?_);simp -implicitDefEqProofs (maxSteps:=2000000) [hP,hN,g0,g1,I,J,o,p,u])|((first|refine Wd ?_|refine Ss.h ?_|(refine Sb.h ?_ ?_ ?_<;>(try intro hgd)<;>try exact Xy))<;>simp -implicitDefEqProofs (maxSteps:=2000000) [hP,hN,g0,g1,I,J,o,p,u]<;>try refine Yc ?_)|refine X2 ?_ ?_|(refine Xd ?_ ?_<;>intro hcd<;>try exact Xx))
  refine yh (s:=S) (c:=N) (a:=n) (b:=n+1) hP rfl (by simp[St.ev,I,J,g0]) bH (by omega) (by omega) (by omega) (by omega) (by omega) d3 d4 (by simp[dm,hN]) ?_;intro r9 h9 bc cV;rw[b7]at bc;simp -implicitDefEqProofs (maxSteps:=2000000) [hP,hN,gb,mR,iw,k8,inK,g0,g1,I,J,o,p,u]
  with_reducible repeat' (first|refine Sp.h ?_|((first|refine Wd ?_|refine Ss.h ?_|(refine Sb.h ?_ ?_ ?_<;>(try intro hgd)<;>try exact Xy))<;>simp -implicitDefEqProofs (maxSteps:=2000000) [hP,hN,gb,mR,iw,k8,inK,g0,g1,I,J,o,p,u]<;>try refine Yc ?_)|refine X2 ?_ ?_|(refine Xd ?_ ?_<;>intro hcd<;>try exact Xx))
  subst hH;exact yf (s':=gn s leaf joint) (c':=N) rfl rfl (by omega) ⟨rfl,_,rfl⟩ bc
def FK(s:Spc)(n p:Nat):Bool:=decide ((ag s p).length<=2046)&&decide (ag s p).Nodup&&(ag s p).all λk=>decide (k<n)&&decide (k≠p)&&decide ((dA s k).low=-1)&&decide (p∈ag s k)
def BN(s:Spc)(i p:Nat):Bool:=(yD s.bx i p==yD s.bx p i)&&(!(decide ((dA s i).low=-1)&&decide ((dA s p).low=-1)&&decide (i≠p))||(decide (i∈ag s p)==yD s.bx i p))
def EF(s:Spc):Bool:=decide (s.cells.length<=2040)&&decide (s.bx.length=s.cells.length)&&decide (s.near.length=s.cells.length)&&decide (s.jn.length=s.cells.length)&&(s.cc==false) &&
 s.bx.all (λb=>decide (b.length<=16))&&s.cells.all (λc=>decide (c.v.nor.length<=4096))&&(List.range s.cells.length).all (λp=>FK s s.cells.length p)&&(List.range s.cells.length).all λi=>(List.range s.cells.length).all (BN s i)
def tU(b:Sce)(w:Int)(a:List Vc)(s:Spc)(h:Nat):Spc:={s with cells:=s.cells.set h {(dA s h)with v:=cy (dI b (gZ s h) a)},jn:=s.jn.set h (ss b.js b.ms w (gZ s h))}
def ir(s:Spc)(p q:List Int):Int×Int×Int:=sS s s.cells.length p q (yD s.bx)
def J4(a:Sce)(w:Int)(s:Spc)(leaf:Nat)(joint:Int):Spc:=tU a w (dA s leaf).v.nor (tU a w (dA s leaf).v.nor (gn s leaf joint) s.cells.length) (s.cells.length+1)
def tV(a:Sce)(p q:List Int)(w cells:Int):Nat->Spc->Option (Spc×Int)
 |0,_=>none
 |f+1,s=>if EF s then(if(ir s p q).2.2=3 then(if cells-2<s.cells.length then some (s,4)else if decide ((ir s p q).1=(ir s p q).1.toNat)&&decide ((ir s p q).1.toNat<s.cells.length)then tV a p q w cells f (J4 a w s (ir s p q).1.toNat (ir s p q).2.1)else none)else some (s,(ir s p q).2.2))else none
def ye(a:Sce)(w:Int):Spc:={root:=al a.js a.ms,cells:=[aD (cy (dI a (al a.js a.ms) []))],bx:=[al a.js a.ms],near:=[[]],jn:=[ss a.js a.ms w (al a.js a.ms)]}
section
variable {s:Spc} (h:EF s=true)
include h
theorem rS:s.cells.length<=2040/\s.bx.length=s.cells.length/\s.near.length=s.cells.length/\s.jn.length=s.cells.length/\s.cc=false/\(∀b∈s.bx,b.length<=16)/\(∀c∈s.cells,c.v.nor.length<=4096)/\(∀p,p<s.cells.length->FK s s.cells.length p=true)/\∀i p,i<s.cells.length->p<s.cells.length->BN s i p=true:=by
 simp only[EF,An,L4,US,TP,UH]at h;obtain⟨⟨⟨⟨⟨⟨⟨⟨a1,a2⟩,a3⟩,a4⟩,a5⟩,a6⟩,a7⟩,a8⟩,a9⟩:=h;exact⟨a1,a2,a3,a4,a5,a6,a7,a8,λi p hi hp=>a9 i hi p hp⟩
theorem EG:∀p,(ag s p).length<=2046/\(ag s p).Nodup/\∀k∈ag s p,k<s.cells.length/\k≠p/\(dA s k).low=-1/\p∈ag s k:=by
 obtain⟨a1,a2,a3,a4,a5,a6,a7,a8,a9⟩:=rS h;intro p;by_cases hp:p<s.cells.length
 .have:=a8 p hp
  simp only[FK,An,L4,TP]at this;exact⟨this.1.1,this.1.2,λk a=>⟨(this.2 k a).1.1.1,(this.2 k a).1.1.2,(this.2 k a).1.2,(this.2 k a).2⟩⟩
 .have:ag s p=[]:=by unfold ag;rw[Uc (by omega)];rfl
  rw[this];exact⟨by simp,List.nodup_nil,λk a=>by cases a⟩
theorem N4:SpcC s s.cells.length (yD s.bx):=by
 obtain⟨a1,a2,a3,a4,a5,a6,a7,a8,a9⟩:=rS h;have e:=EG h;refine⟨⟨by omega,rfl,a2,a3,a4,λb f=>by have:=a6 b f;omega,λp i hi=>?_,λp=>by have:=(e p).1;omega⟩,λi j hi g=>?_,λi p hi a hp d c=>?_⟩
 .have:=(e p).2.2 i hi
  exact⟨this.1,this.2.2.1⟩
 .have:=a9 i j hi g
  simp only[BN,An,US]at this;exact this.1
 .have:=a9 i p hi hp
  simp only[BN,An,a,d,VQ,Uq,ne_eq,c,not_false_eq_true,VB,Bool.false_or,US]at this;rw[<-this.2];simp
end
theorem FL(s:Spc)(leaf:Nat)(joint:Int):(gn s leaf joint).near.length=s.near.length+2/\(gn s leaf joint).bx.length=s.bx.length+2/\(gn s leaf joint).cells.length=s.cells.length+2/\(gn s leaf joint).jn.length=s.jn.length+2/\(gn s leaf joint).cc=false:=by
 have fold:∀(l:List Nat)(x:Spc),(l.foldl (fH s.cells.length leaf) x).near.length=x.near.length/\(l.foldl (fH s.cells.length leaf) x).bx=x.bx/\(l.foldl (fH s.cells.length leaf) x).cells=x.cells/\(l.foldl (fH s.cells.length leaf) x).jn=x.jn/\(l.foldl (fH s.cells.length leaf) x).cc=x.cc:=by
  intro l
  induction l with
  |nil=>intro x;exact⟨rfl,rfl,rfl,rfl,rfl⟩
  |cons a l ih=>
   intro x;obtain⟨b1,b2,b3,b4,b5⟩:=ih (fH s.cells.length leaf x a);obtain⟨b,c,d,e,_⟩:=A9 s.cells.length leaf x a;exact⟨b1.trans b,b2.trans c,b3.trans d,b4.trans e,b5.trans (EI _ _ _ _)⟩
 obtain⟨b1,b2,b3,b4,b5⟩:=fold (ag s leaf) (hC s leaf joint);unfold gn;obtain⟨b,c,d,e,_⟩:=lp ((ag s leaf).foldl (fH s.cells.length leaf) (hC s leaf joint)) s.cells.length (s.cells.length+1);rw[b,c,d,e,Ak,b1,b2,b3,b4,b5];simp[hC]
theorem KP{own:Bool}(a:jn.length=s.jn.length)(h1:k≠294):bg own {s with jn:=jn} c k=bg own s c k:=by
 unfold bg;simp only[a,TQ h1];rfl
set_option maxRecDepth 100000 in
@[simp] theorem Su:ew prog 77:=by
 have hf:=func77;have nt:=ntmps77;have rs:=results77;exact xg
theorem FE{C:Cx}{g:FuncId}{r:AV}{e sz:Nat}{ys:List PV}(c:bX (st.ev f)=some (g,[],[]))(a:xs.map st.ev=args)(l:args.all qI=true)(m:∀k,inK k=true->st.h k=none)
 (p:nh C.P g args lU (λi b=>i=r/\b=fu e sz ys))(hd:dm C.N d=true)
 (h:∀b,(∀k,inK k=true->b k=fu e sz ys k)->(∀k,inK k=false->b k=(st.h k).map iZ)->Q (St.put ⟨λn=>gb (st.t n),b⟩ d r [])):tl C Q f xs d st:=by
 refine⟨_,λi b=>i=r/\b=fu e sz ys,c,Hd m,?_,by rw[a];exact l,hd,λi b hL q hp=>?_⟩
 .rw[a,II m];exact p
 .obtain⟨rfl,rfl⟩:=hp
  refine h _ (λk j=>?_) (λk j=>by unfold fD;rw[TQ (by rw[j];decide)]);unfold fD;rw[T8 j];split
  .rename_i o;subst o;rfl
  .rfl
theorem FF{C:Cx}{g:FuncId}{e sz:Nat}{ys:List PV}(p:bX (st.ev f)=some (g,[],[]))(i:xs.map st.ev=args)(v:args.all qI=true)(m:∀k,inK k=true->st.h k=fu e sz ys k)
 (z:nh C.P g args (fu e sz ys) (λq l=>q=.ptr 290 0/\l=bg true s 0))(hd:dm C.N d=true)
 (h:∀l,(∀k,inK k=true->l k=bg true s 0 k)->(∀k,inK k=false->l k=(st.h k).map iZ)->Q (St.put ⟨λn=>gb (st.t n),l⟩ d (.ptr 290 0) [])):tl C Q f xs d st:=by
 have c:st.h 290=none:=by rw[m 290 rfl];rfl
 have hL:LookH (fu e sz ys):=A6
 have u:gi st.h=fu e sz ys:=by
  funext k
  unfold gi;by_cases a:inK k=true
  .rw[T8 a]
   split
   .rename_i r;subst r;rw[c];rfl
   .exact m k a
  .rw[TQ a]
   cases A:fu e sz ys k with
   |none=>rfl
   |some b=>exact absurd (hL.keys k b A) a
 refine⟨_,λq l=>q=.ptr 290 0/\l=bg true s 0,p,⟨λk b o a j=>hL.nf k b o (by rw[<-m k a];exact j),λk b a j=>hL.nm k b (by rw[<-m k a];exact j),λk x o f a j=>hL.cl k x o f (by rw[<-m k a];exact j),λk x f a j=>?_,λb j=>(by rw[c]at j;cases j)⟩,?_,by rw[i];exact v,hd,λq l hL B hp=>?_⟩
 .rw[m k a]at j
  obtain⟨_,y⟩:=fE j;cases y
 .rw[i,u];exact z
 .obtain⟨rfl,rfl⟩:=hp
  refine h _ (λk a=>?_) (λk a=>by unfold fD;rw[TQ (by rw[a];decide)]);unfold fD;rw[T8 a];split
  .rename_i r;subst r
   have:mE st.h 290=true:=by simp only[mE,c]
   rw[this];rfl
  .rfl
theorem G8{C:Cx}{g:FuncId}{s':Spc}{r:AV}(i:bX (st.ev f)=some (g,[],[]))(a:xs.map st.ev=args)(o:args.all qI=true)(l:∀k,inK k=true->st.h k=bg true s c k)(hn:s.near.length<=4096)
 (p:nh C.P g args (bg false s c) (λj b=>j=r/\∃e,b=bg false s' e))(hd:dm C.N d=true)
 (h:∀b e,(∀k,inK k=true->b k=bg true s' e k)->(∀k,inK k=false->b k=(st.h k).map iZ)->Q (St.put ⟨λn=>gb (st.t n),b⟩ d r [])):tl C Q f xs d st:=by
 refine⟨_,λj b=>j=r/\∃e,b=bg false s' e,i,CJ hn l,?_,by rw[a];exact o,hd,λj b hL q hp=>?_⟩
 .rw[a,EJ hn l];exact p
 .obtain⟨rfl,e,rfl⟩:=hp
  exact h _ e (λk m=>CK l m) (λk m=>by unfold fD;rw[TQ (by rw[m];decide)])
def pP(b:Sce)(w:Int)(H:List Vc)(a:Spc)(n:Nat):Nat->Spc
 |0=>a
 |j+1=>tU b w H (pP b w H a n j) (n+j)
theorem yc(b:Sce)(w:Int)(H:List Vc)(a:Spc)(n:Nat):∀j,(pP b w H a n j).near=a.near/\(pP b w H a n j).bx=a.bx/\(pP b w H a n j).cells.length=a.cells.length/\(pP b w H a n j).jn.length=a.jn.length/\(pP b w H a n j).cc=a.cc
 |0=>⟨rfl,rfl,rfl,rfl,rfl⟩
 |j+1=>by
  obtain⟨b1,b2,b3,b4,b5⟩:=yc b w H a n j;refine⟨b1,b2,?_,?_,b5⟩
  .simp only[pP,tU,Vr];exact b3
  .simp only[pP,tU,Vr];exact b4
theorem G9{own:Bool}{cs:List Cel}(a:s.cc=false)(h1:cs.length=s.cells.length)(d:jn.length=s.jn.length)(b:k≠291)(f:k≠294):bg own {s with cells:=cs,jn:=jn} c k=bg own s c k:=by
 unfold bg;by_cases e:k=290
 .rw[T8 e,T8 e,rT (s:={s with cells:=cs,jn:=jn}) a,rT a]
  simp only[h1,d]
 .rw[TQ e,TQ e,TQ b,TQ b]
  simp only[TQ f];rfl
def Iz(a:Sce):Spc:=zu (al a.js a.ms) (cy (dI a (al a.js a.ms) []))
theorem KR(a:Sce)(w:Int):ye a w={Iz a with jn:=[ss a.js a.ms w (al a.js a.ms)]}:=rfl
theorem SS(d:Sce)(p q:List Int)(w cells:Int)(f:Nat)(R:Spc×Int)(hs:ScL d)(h0:bi d=0)(h1:lK d.js d.ms p=true)(h2:lK d.js d.ms q=true)(h3:1<=w)(h4:1<=cells)(h5:cells<=2048)(e0:p.length<=9223372036854775807)(e1:q.length<=9223372036854775807)(cP:dj (al d.js d.ms)=true)(ea:io d.js d.ms (al d.js d.ms)=true)(cg:aO (nM (al d.js d.ms) aN)=true)(cT:aV (nM (al d.js d.ms) aN) 0 (cy (dI d (al d.js d.ms) []))=true)(et:rD 16777216 (cy (dI d (al d.js d.ms) [])))(ep:TSm (nM (al d.js d.ms) aN))(er:aO (nM (al d.js d.ms) (cy (dI d (al d.js d.ms) [])))=true)(e8:(al d.js d.ms).length<=16)(hR:tV d p q w cells f (ye d w)=some R):xF 32 (eM d) (zs p) (zs q) (Z w) (Z cells) (.tup [.agg [iv R.1.root,.sl (R.1.cells.map br)],Z R.2]):=by
 have cs:=ET d hs;have cp:=Oy d.js d.ms p hs.js hs.ms;have cq:=Oy d.js d.ms q hs.js hs.ms;have cl:=SC d.js d.ms hs.js hs.ms;have cn:=Tv (al d.js d.ms) (by omega);rw[h0]at cs;rw[h1]at cp;rw[h2]at cq;rw[cP]at cn
 have ei:pM (al d.js d.ms)=nM (al d.js d.ms) aN:=by unfold pM;rw[T8 cP]
 rw[ei]at cn
 have b1:bO (nM (al d.js d.ms) aN) 0=al d.js d.ms:=by
  have ba:dn (nM (al d.js d.ms) aN) 0=true:=by simp[dn,cg]
  unfold bO;rw[T8 ba];exact JC cg
 have c1:dn (nM (al d.js d.ms) aN) 0=true:=by simp[dn,cg]
 have cw:=SR d (nM (al d.js d.ms) aN) (aD aN) hs ep h0 c1 (by rw[b1];exact ea) rfl (by rw[b1];omega) (by simp[aD,aN]) (by rw[b1];exact et) (by rw[b1];exact cT);rw[b1]at cw;have cU:=N3 (al d.js d.ms) (cy (dI d (al d.js d.ms) [])) er
 have ez:¬w<1:=by omega
 have c4:¬cells<1:=by omega
 have c7:¬2048<cells:=by omega
 have cS:i64.wrap (cells-2)=cells-2:=aa;refine Dp func32 λC hP hN=>?_
 with_reducible repeat' (first|refine Sp.h ?_|((with_unfolding_all refine WP.takeAt (hn:=[]) (f:=.func 44) 2 rfl rfl rfl ?_);simp -implicitDefEqProofs (maxSteps:=2000000) [hP,hN,ez,c4,c7,aD])|((first|refine Wd ?_|refine Ss.h ?_|refine Sc.h (cs) ?_|refine Sc.h (cp) ?_|refine Sc.h (cq) ?_|refine Sc.h (cl) ?_|refine Sc.h (cn) ?_|(refine Sb.h ?_ ?_ ?_<;>(try intro hgd)<;>try exact Xy))<;>simp -implicitDefEqProofs (maxSteps:=2000000) [hP,hN,ez,c4,c7,aD]<;>try refine Ya ?_)|refine X2 ?_ ?_|(refine Xd ?_ ?_<;>intro hcd<;>try exact Xx))
 have b7:(bP (nM (al d.js d.ms) aN) 0 (cy (dI d (al d.js d.ms) []))).cells.map br=[br (aD (cy (dI d (al d.js d.ms) [])))]:=by unfold bP;rw[T8 cT];simp[eG]
 have ch:nh prog 44 ([eM d,bZ (nM (al d.js d.ms) aN),Z 0].map .pv) lU (λr h'=>r=.tup [.agg [.pv (iv (al d.js d.ms)),.arr 291 1],.pv (B true)]/\h'=fu 80 8 [br (aD (cy (dI d (al d.js d.ms) [])))]):=by
  have:=cw;simp only[aD,aN]at this|-;rw[show dI d (al d.js d.ms) ([]:List Vc)=dI d (al d.js d.ms) [] from rfl]at this;simp only[aD,aN]at b7;rw[b7]at this;exact this
 clear cw b7;refine FE (g:=44) (args:=[eM d,bZ (nM (al d.js d.ms) aN),Z 0].map .pv) rfl (by simp[St.ev,aD]) rfl ?_ (by rw[hP];exact ch) (by simp[dm,hN]) ?_
 .intro k hk
  simp only[inK,An,L4]at hk;simp[tG,show¬k=5 by omega,show¬k=10 by omega,show¬k=11 by omega,show¬k=12 by omega]
 intro h' hh ho;have c5:=ho 5 rfl;have L:=ho 10 rfl;have M:=ho 11 rfl;have b8:=ho 12 rfl;have F:h' 291=some (.row 80 8 [br (aD (cy (dI d (al d.js d.ms) [])))] 0):=(hh 291 rfl).trans (by simp[fu]);simp[iZ,gb,mR,iw,tG]at c5 L M b8;simp -implicitDefEqProofs (maxSteps:=2000000) [hP,hN,gb,mR,iw,tj,k8,inK,c5,L,M,b8,F];refine WP.of_st (P:=λst=>st.t 1=.pv (zs p)/\st.t 2=.pv (zs q)/\st.t 3=.pv (Z w)/\st.t 4=.pv (Z cells)/\st.t 5=.ptr 5 0/\st.t 10=.ptr 10 0/\st.t 11=.ptr 11 0/\st.t 12=.ptr 12 0/\st.h 5=some (.box [.pv (.sl (d.js.map bu)),.pv (.sl (d.ms.map cG)),.pv (.sl (d.shs.map cE)),.pv (.sl (d.sks.map aC))] true false)/\(∃x y,st.h 10=some (.box [.pv x,.pv y] true false))/\(∃x,st.h 11=some (.box [.pv x] true false))/\st.h 12=some (.box [.pv (iv (al d.js d.ms)),.arr 291 1] true false)/\∀k,inK k=true->st.h k=fu 80 8 [br (aD (cy (dI d (al d.js d.ms) [])))] k) ⟨?_,?_⟩
 .simp[gb,mR,iw,tj,k8,inK,c5,L,M,b8]
  exact λk a b=>by rw[TQ (by omega)];exact hh k (by simp[inK,a,b])
 clear hh ho c5 L M b8 F h';rintro st ⟨g1,g2,g3,g4,g5,l,o,b9,b5,⟨I,K,z⟩,⟨J,A⟩,ct,G⟩
 with_reducible repeat' (first|refine Sp.h ?_|((with_unfolding_all refine WP.takeAt (hn:=[]) (f:=.func 80) 1 rfl rfl rfl ?_);simp -implicitDefEqProofs (maxSteps:=2000000) [hP,hN,g1,g2,g3,g4,g5,l,o,b9,b5,z,A,ct])|((first|refine Wd ?_|refine Ss.h ?_|(refine Sb.h ?_ ?_ ?_<;>(try intro hgd)<;>try exact Xy))<;>simp -implicitDefEqProofs (maxSteps:=2000000) [hP,hN,g1,g2,g3,g4,g5,l,o,b9,b5,z,A,ct]<;>try refine Yc ?_)|refine X2 ?_ ?_|(refine Xd ?_ ?_<;>intro hcd<;>try exact Xx))
 refine FF (g:=80) (args:=[.agg [.pv (iv (al d.js d.ms)),.arr 291 1]]) rfl (by simp[St.ev]) rfl G (by rw[hP];exact cU) (by simp[dm,hN]) ?_;intro h' hh ho;have c5:=ho 5 rfl;have L:=ho 10 rfl;have M:=ho 11 rfl;simp only[b5,z,A,UO,iZ,U9,WE]at c5 L M;have bb:h' 5=some (.box [.pv (.sl (d.js.map bu)),.pv (.sl (d.ms.map cG)),.pv (.sl (d.shs.map cE)),.pv (.sl (d.sks.map aC))] true false):=c5;have O:h' 10=some (.box [.pv I,.pv K] true false):=L;have Q:h' 11=some (.box [.pv J] true false):=M;simp -implicitDefEqProofs (maxSteps:=2000000) [hP,hN,gb,mR,iw,tj,k8,inK,g1,g2,g3,g4,g5,l,o,b9,bb,O,Q];refine WP.of_st (P:=λst=>st.t 1=.pv (zs p)/\st.t 2=.pv (zs q)/\st.t 3=.pv (Z w)/\st.t 4=.pv (Z cells)/\st.t 5=.ptr 5 0/\st.t 10=.ptr 10 0/\st.t 11=.ptr 11 0/\st.t 14=.ptr 290 0/\st.h 5=some (.box [.pv (.sl (d.js.map bu)),.pv (.sl (d.ms.map cG)),.pv (.sl (d.shs.map cE)),.pv (.sl (d.sks.map aC))] true false)/\(∃x y,st.h 10=some (.box [.pv x,.pv y] true false))/\(∃x,st.h 11=some (.box [.pv x] true false))/\∀k,inK k=true->st.h k=bg true (Iz d) 0 k) ⟨?_,?_⟩
 .simp[gb,mR,iw,tj,k8,inK,g1,g2,g3,g4,g5,l,o,bb,O,Q]
  exact λk a b=>hh k (by simp[inK,a,b])
 clear hh ho c5 L M bb O Q h' G b5 z A ct g1 g2 g3 g4 g5 l o b9 I K J st;rintro st ⟨g1,g2,g3,g4,g5,l,o,u,b5,⟨I,K,z⟩,⟨J,A⟩,G⟩;have E:st.h 290=some (.box [.pv (iv (al d.js d.ms)),.arr 291 1,.arr 292 1,.ext (.barr 293 1 1),.arr 294 1] true false):=G 290 rfl;have X:st.h 292=some (.row 30 1 [iv (al d.js d.ms)] 0):=G 292 rfl;have bc:st.h 294=some (.row 3 1 [Z (-1)] 0):=G 294 rfl;have cf:=OI d.js d.ms (al d.js d.ms) w hs.js hs.ms (by omega)
 with_reducible repeat' (first|refine Sp.h ?_|((first|refine Wd ?_|refine Ss.h ?_|refine Sc.h (cf) ?_|(refine Sb.h ?_ ?_ ?_<;>(try intro hgd)<;>try exact Xy))<;>simp -implicitDefEqProofs (maxSteps:=2000000) [hP,hN,g1,g2,g3,g4,g5,l,o,u,b5,z,A,E,X,bc]<;>try refine Yc ?_)|refine X2 ?_ ?_|(refine Xd ?_ ?_<;>intro hcd<;>try exact Xx))
 refine WP.of_st (P:=λst=>st.t 1=.pv (zs p)/\st.t 2=.pv (zs q)/\st.t 3=.pv (Z w)/\st.t 4=.pv (Z cells)/\st.t 5=.ptr 5 0/\st.t 10=.ptr 10 0/\st.t 11=.ptr 11 0/\st.t 14=.ptr 290 0/\st.h 5=some (.box [.pv (.sl (d.js.map bu)),.pv (.sl (d.ms.map cG)),.pv (.sl (d.shs.map cE)),.pv (.sl (d.sks.map aC))] true false)/\(∃x y,st.h 10=some (.box [.pv x,.pv y] true false))/\(∃x,st.h 11=some (.box [.pv x] true false))/\∀k,inK k=true->st.h k=bg true (ye d w) 0 k) ⟨?_,?_⟩
 .simp[ae,g1,g2,g3,g4,g5,l,o,u,b5,z,A]
  intro k hk;by_cases e:k=294
  .subst e;rw[T8 rfl];rfl
  .rw[TQ e,G k hk,KR]
   exact(KP (s:=Iz d) (jn:=[ss d.js d.ms w (al d.js d.ms)]) (by rfl) e).symm
 clear E X bc G b5 z A g1 g2 g3 g4 g5 l o u I K J st;rintro st ⟨g1,g2,g3,g4,g5,l,o,u,b5,⟨I,K,z⟩,⟨J,A⟩,G⟩;clear ch cU cg cT et ep er cP ea c1 b1 ei cn cl cs cp cq cf h1 h2 h0;refine WP.loopN [] f (λi st=>(∃S c,tV d p q w cells (f-i) S=some R/\∀k,inK k=true->st.h k=bg true S c k)/\st.t 1=.pv (zs p)/\st.t 2=.pv (zs q)/\st.t 3=.pv (Z w)/\st.t 4=.pv (Z cells)/\st.t 5=.ptr 5 0/\st.t 10=.ptr 10 0/\st.t 11=.ptr 11 0/\st.t 14=.ptr 290 0/\st.h 5=some (.box [.pv (.sl (d.js.map bu)),.pv (.sl (d.ms.map cG)),.pv (.sl (d.shs.map cE)),.pv (.sl (d.sks.map aC))] true false)/\(∃x y,st.h 10=some (.box [.pv x,.pv y] true false))/\(∃x,st.h 11=some (.box [.pv x] true false))) ?_ ?_
 .refine⟨⟨ye d w,0,by simpa using hR,λk hk=>?_⟩,by simp[St.kill,au,bn,aH,g1],by simp[St.kill,au,bn,aH,g2],by simp[St.kill,au,bn,aH,g3],by simp[St.kill,au,bn,aH,g4],by simp[St.kill,au,bn,aH,g5],by simp[St.kill,au,bn,aH,l],by simp[St.kill,au,bn,aH,o],by simp[St.kill,au,bn,aH,u],by simp[St.kill,au,bw,bn,aH,b5],⟨I,K,by simp[St.kill,au,bw,bn,aH,z]⟩,⟨J,by simp[St.kill,au,bw,bn,aH,A]⟩⟩
  show(st.h k).map (bw [])=_;rw[G k hk,ko]
 clear G b5 z A g1 g2 g3 g4 g5 l o u I K J st hR;rintro i st hi ⟨⟨S,c,D,G⟩,g1,g2,g3,g4,g5,l,o,u,b5,⟨I,K,z⟩,⟨J,A⟩⟩
 obtain⟨m,hm⟩:∃m,f-i=m+1:=by
  cases h:f-i with
  |zero=>rw[h]at D;cases D
  |succ m=>exact⟨m,rfl⟩
 rw[hm]at D;simp only[tV]at D;by_cases ba:EF S=true
 case neg=>rw[TQ ba]at D;cases D
 rw[T8 ba]at D;obtain⟨a1,a2,a3,a4,a5,a6,a7,a8,a9⟩:=rS ba;have cN:=SV S S.cells.length p q (yD S.bx) (N4 ba) e0 e1;have eW:sS S S.cells.length p q (yD S.bx)=ir S p q:=rfl;rw[eW]at cN;have bq:=KU (by omega) G;have cd:=IH G;have ca:∀x,iy st.h 3 (.pv x)=some x:=λ_=>rfl;have E:=(G 290 rfl).trans (oo true S c);rw[rT a5,a2,a3,a4]at E;have F:=(G 291 rfl).trans (qE true S c a5);have X:=(G 292 rfl).trans (qF true S c);by_cases e3:(ir S p q).2.2=3
 case neg=>
  rw[TQ e3]at D;injection D with D;subst D
  have bs:((ir S p q).2.2 !=3)=true:=by simp[e3]
  generalize ir S p q=NX at *
  with_reducible repeat' (first|refine Sp.h ?_|((with_unfolding_all refine WP.lendAt (hn:=[]) (f:=.func 82) 3 rfl rfl rfl ?_);simp -implicitDefEqProofs (maxSteps:=2000000) [hP,hN,g1,g2,g3,g4,g5,l,o,u,b5,z,A])|((first|refine Wd ?_|refine Ss.h ?_|(refine Sb.h ?_ ?_ ?_<;>(try intro hgd)<;>try exact Xy))<;>simp -implicitDefEqProofs (maxSteps:=2000000) [hP,hN,g1,g2,g3,g4,g5,l,o,u,b5,z,A]<;>try refine Yc ?_)|refine X2 ?_ ?_|(refine Xd ?_ ?_<;>intro hcd<;>try exact Xx))
  refine⟨82,[m7 S,zs p,zs q],_,rfl,cd,by simp[St.ev,mL,g1,g2,u,bq,ca],by rw[hP];exact cN,rfl,by simp[dm,hN],?_⟩;simp -implicitDefEqProofs (maxSteps:=2000000) [hP,hN,g1,g2,g3,g4,g5,l,o,u]
  with_reducible repeat' (first|refine Sp.h ?_|((first|refine Wd ?_|refine Ss.h ?_|(refine Sb.h ?_ ?_ ?_<;>(try intro hgd)<;>try exact Xy))<;>simp -implicitDefEqProofs [hP,hN,e3,bs,E,F,g1,g2,g3,g4,g5,l,o,u,b5,z,A]<;>try refine Yc ?_)|refine X2 ?_ ?_|(refine Xd ?_ ?_<;>intro hcd<;>try exact Xx))
 rw[T8 e3]at D
 have bs:((ir S p q).2.2 !=3)=false:=by simp[e3]
 by_cases e4:cells-2<S.cells.length
 case pos=>
  rw[T8 e4]at D;injection D with D;subst D;generalize ir S p q=NX at *
  with_reducible repeat' (first|refine Sp.h ?_|((with_unfolding_all refine WP.lendAt (hn:=[]) (f:=.func 82) 3 rfl rfl rfl ?_);simp -implicitDefEqProofs (maxSteps:=2000000) [hP,hN,g1,g2,g3,g4,g5,l,o,u,b5,z,A])|((first|refine Wd ?_|refine Ss.h ?_|(refine Sb.h ?_ ?_ ?_<;>(try intro hgd)<;>try exact Xy))<;>simp -implicitDefEqProofs (maxSteps:=2000000) [hP,hN,g1,g2,g3,g4,g5,l,o,u,b5,z,A]<;>try refine Yc ?_)|refine X2 ?_ ?_|(refine Xd ?_ ?_<;>intro hcd<;>try exact Xx))
  refine⟨82,[m7 S,zs p,zs q],_,rfl,cd,by simp[St.ev,mL,g1,g2,u,bq,ca],by rw[hP];exact cN,rfl,by simp[dm,hN],?_⟩;simp -implicitDefEqProofs (maxSteps:=2000000) [hP,hN,g1,g2,g3,g4,g5,l,o,u]
  with_reducible repeat' (first|refine Sp.h ?_|((first|refine Wd ?_|refine Ss.h ?_|(refine Sb.h ?_ ?_ ?_<;>(try intro hgd)<;>try exact Xy))<;>simp -implicitDefEqProofs [hP,hN,e3,bs,e4,cS,E,F,g1,g2,g3,g4,g5,l,o,u,b5,z,A]<;>try refine Yc ?_)|refine X2 ?_ ?_|(refine Xd ?_ ?_<;>intro hcd<;>try exact Xx))
 case neg=>
  rw[TQ e4]at D;by_cases ek:(decide ((ir S p q).1=(ir S p q).1.toNat)&&decide ((ir S p q).1.toNat<S.cells.length))=true
  case neg=>rw[TQ ek]at D;cases D
  rw[T8 ek]at D;simp only[An,L4]at ek;obtain⟨k,hk⟩:∃k,k=(ir S p q).1.toNat:=⟨_,rfl⟩;rw[<-hk]at ek D;obtain⟨cu,cb⟩:=ek
  have b2:S.cells[k]?=some (dA S k):=by simp[dA,an cb]
  have b3:∀h,S.cells[k]'h=dA S k:=λh=>ip b2 h;have Y:=EG ba;have c0:=ST S c S.cells.length k (ir S p q).2.1 a5 a3 a2 rfl a4 (by omega) cb (λx hx=>by have:=a6 x hx;omega) (λv=>(Y v).1) (Y k).2.1 (λx hx=>⟨((Y k).2.2 x hx).1,((Y k).2.2 x hx).2.1,((Y k).2.2 x hx).2.2.2⟩);obtain⟨q1,q2,q3,q4,q5⟩:=FL S k (ir S p q).2.1;generalize e7:ir S p q=NX at *
  with_reducible repeat' (first|refine Sp.h ?_|((with_unfolding_all refine WP.lendAt (hn:=[]) (f:=.func 82) 3 rfl rfl rfl ?_);simp -implicitDefEqProofs (maxSteps:=2000000) [hP,hN,g1,g2,g3,g4,g5,l,o,u,b5,z,A])|((first|refine Wd ?_|refine Ss.h ?_|(refine Sb.h ?_ ?_ ?_<;>(try intro hgd)<;>try exact Xy))<;>simp -implicitDefEqProofs (maxSteps:=2000000) [hP,hN,g1,g2,g3,g4,g5,l,o,u,b5,z,A]<;>try refine Yc ?_)|refine X2 ?_ ?_|(refine Xd ?_ ?_<;>intro hcd<;>try exact Xx))
  refine⟨82,[m7 S,zs p,zs q],_,rfl,cd,by simp[St.ev,mL,g1,g2,u,bq,ca],by rw[hP];exact cN,rfl,by simp[dm,hN],?_⟩;simp -implicitDefEqProofs (maxSteps:=2000000) [hP,hN,g1,g2,g3,g4,g5,l,o,u]
  with_reducible repeat' (first|refine Sp.h ?_|((with_unfolding_all refine WP.takeAt (hn:=[]) (f:=.func 83) 3 rfl rfl rfl ?_);simp -implicitDefEqProofs [hP,hN,e3,bs,e4,cu,cb,b2,b3,cS,E,F,g1,g2,g3,g4,g5,l,o,u,b5,z,A])|((first|refine Wd ?_|refine Ss.h ?_|(refine Sb.h ?_ ?_ ?_<;>(try intro hgd)<;>try exact Xy))<;>simp -implicitDefEqProofs [hP,hN,e3,bs,e4,cu,cb,b2,b3,cS,E,F,g1,g2,g3,g4,g5,l,o,u,b5,z,A]<;>try refine Yc ?_)|refine X2 ?_ ?_|(refine Xd ?_ ?_<;>intro hcd<;>try exact Xx))
  refine G8 (s':=gn S k NX.2.1) (r:=.pv (.sl [Z S.cells.length,Z ((S.cells.length:Int)+1)])) (args:=[.ptr 290 0,.pv (Z k),.pv (Z NX.2.1)]) rfl (by simp[St.ev]) rfl G (by omega) (by rw[hP];exact c0) (by simp[dm,hN]) ?_;intro h' c' hh ho;have c5:=ho 5 rfl;have L:=ho 10 rfl;have M:=ho 11 rfl;simp only[b5,z,A,UO,iZ,U9,WE]at c5 L M;have bb:h' 5=some (.box [.pv (.sl (d.js.map bu)),.pv (.sl (d.ms.map cG)),.pv (.sl (d.shs.map cE)),.pv (.sl (d.sks.map aC))] true false):=c5;have O:h' 10=some (.box [.pv I,.pv K] true false):=L;have Q:h' 11=some (.box [.pv J] true false):=M;simp -implicitDefEqProofs (maxSteps:=2000000) [hP,hN,gb,mR,iw,tj,k8,inK,g1,g2,g3,g4,g5,l,o,u,bb,O,Q];have ef:tV d p q w cells m (J4 d w S k NX.2.1)=some R:=D;refine WP.of_st (P:=λst=>st.t 1=.pv (zs p)/\st.t 2=.pv (zs q)/\st.t 3=.pv (Z w)/\st.t 4=.pv (Z cells)/\st.t 5=.ptr 5 0/\st.t 10=.ptr 10 0/\st.t 11=.ptr 11 0/\st.t 14=.ptr 290 0/\st.t 18=.pv (aG (dA S k).v.nor)/\st.t 122=.pv (.sl [Z S.cells.length,Z ((S.cells.length:Int)+1)])/\st.t 123=.pv (Z 2)/\st.t 124=.pv (Z 0)/\st.h 5=some (.box [.pv (.sl (d.js.map bu)),.pv (.sl (d.ms.map cG)),.pv (.sl (d.shs.map cE)),.pv (.sl (d.sks.map aC))] true false)/\(∃x y,st.h 10=some (.box [.pv x,.pv y] true false))/\(∃x,st.h 11=some (.box [.pv x] true false))/\∀k2,inK k2=true->st.h k2=bg true (gn S k NX.2.1) c' k2) ⟨?_,?_⟩
  .simp[gb,mR,iw,tj,k8,inK,g1,g2,g3,g4,g5,l,o,u,bb,O,Q]
   exact λk2 a b=>hh k2 (by simp[inK,a,b])
  clear hh ho c5 L M bb O Q h' G b5 z A g1 g2 g3 g4 g5 l o u I K J bq cd ca E F X cN c0 st;rintro st ⟨g1,g2,g3,g4,g5,l,o,u,b0,U,ad,ar,b5,⟨I,K,z⟩,⟨J,A⟩,G⟩;obtain⟨H,hH⟩:∃H,H=(dA S k).v.nor:=⟨_,rfl⟩
  have W:tV d p q w cells m (pP d w H (gn S k NX.2.1) S.cells.length 2)=some R:=by rw[hH];exact ef
  have cr:EF (pP d w H (gn S k NX.2.1) S.cells.length 2)=true:=by
   cases m with
   |zero=>cases W
   |succ m=>
    simp only[tV]at W;by_cases h:EF (pP d w H (gn S k NX.2.1) S.cells.length 2)=true
    .exact h
    .rw[TQ h]at W;cases W
  have eA:H.length<=4096:=by rw[hH];exact a7 _ (Is b2)
  obtain⟨p1,p2,p3,p4,p5⟩:=yc d w H (gn S k NX.2.1) S.cells.length 2;obtain⟨o1,o2,o3,o4,o5,o6,_⟩:=rS cr;rw[p2]at o6;rw[<-hH]at b0;clear p1 p2 p3 p4 p5 o1 o2 o3 o4 o5 ef D ba cr Y;generalize gn S k NX.2.1=S0 at *;obtain⟨n,b4⟩:∃n,n=S.cells.length:=⟨_,rfl⟩;rw[a3,<-b4]at q1;rw[a2,<-b4]at q2;rw[<-b4]at q3 U W;rw[a4,<-b4]at q4;have e9:i64.wrap ((n:Int)+1)=(n:Int)+1:=aa;refine GP U ?_;refine WP.loopN [] 2 (λj st=>st.t 1=.pv (zs p)/\st.t 2=.pv (zs q)/\st.t 3=.pv (Z w)/\st.t 4=.pv (Z cells)/\st.t 5=.ptr 5 0/\st.t 10=.ptr 10 0/\st.t 11=.ptr 11 0/\st.t 14=.ptr 290 0/\st.t 18=.pv (aG H)/\st.t 122=.pv (.sl [Z n,Z ((n:Int)+1)])/\st.t 123=.pv (Z 2)/\st.t 124=.pv (Z j)/\st.h 5=some (.box [.pv (.sl (d.js.map bu)),.pv (.sl (d.ms.map cG)),.pv (.sl (d.shs.map cE)),.pv (.sl (d.sks.map aC))] true false)/\(∃x y,st.h 10=some (.box [.pv x,.pv y] true false))/\(∃x,st.h 11=some (.box [.pv x] true false))/\∀k2,inK k2=true->st.h k2=bg true (pP d w H S0 n j) c' k2) ?_ ?_
  .refine⟨by simp[St.kill,au,bn,aH,g1],by simp[St.kill,au,bn,aH,g2],by simp[St.kill,au,bn,aH,g3],by simp[St.kill,au,bn,aH,g4],by simp[St.kill,au,bn,aH,g5],by simp[St.kill,au,bn,aH,l],by simp[St.kill,au,bn,aH,o],by simp[St.kill,au,bn,aH,u],by simp[St.kill,au,bn,aH,b0],by simp[St.kill,au,bn,aH,U],by simp[St.kill,au,bn,aH,ad],by simp[St.kill,au,bn,aH,ar],by simp[St.kill,au,bw,bn,aH,b5],⟨I,K,by simp[St.kill,au,bw,bn,aH,z]⟩,⟨J,by simp[St.kill,au,bw,bn,aH,A]⟩,λk2 cM=>?_⟩
   show(st.h k2).map (bw [])=_;rw[G k2 cM,ko];rfl
  clear g1 g2 g3 g4 g5 l o u b0 U ad ar b5 z A I K J G st;rintro j st hj ⟨g1,g2,g3,g4,g5,l,o,u,b0,U,ad,ar,b5,⟨I,K,z⟩,⟨J,A⟩,G⟩;obtain⟨p1,p2,p3,p4,p5⟩:=yc d w H S0 n j;have cQ:pP d w H S0 n (j+1)=tU d w H (pP d w H S0 n j) (n+j):=rfl;by_cases ee:j<2
  .generalize pP d w H S0 n j=T at *
   have E:=(G 290 rfl).trans (oo true T c');rw[rT (p5.trans q5),p2,p3,p4,p1,q1,q2,q3,q4]at E;have F:=(G 291 rfl).trans (qE true T c' (p5.trans q5));have X:=(G 292 rfl).trans (qF true T c');have bc:=(G 294 rfl).trans (sT true T c');obtain⟨N,cH⟩:∃N,N=n+j:=⟨_,rfl⟩
   have e2:N<n+2:=by omega
   have cm:([Z n,Z ((n:Int)+1)]:List PV)[j]?=some (Z (N:Int)):=by rcases(by omega:j=0\/j=1)with rfl|rfl<;>simp[cH]
   have cV:([Z n,Z ((n:Int)+1)]:List PV).length=2:=rfl;generalize([Z n,Z ((n:Int)+1)]:List PV)=L2 at *;have cz:∀h,L2[j]'h=Z (N:Int):=λh=>ip cm h;rw[<-cH]at cQ
   have ck:N<T.cells.length:=by omega
   have cj:N<T.bx.length:=by rw[p2];omega
   have ec:N<T.jn.length:=by omega
   have c9:T.cells[N]?=some (dA T N):=by simp[dA,an ck]
   have dd:∀h,T.cells[N]'h=dA T N:=λh=>ip c9 h
   have cx:T.bx[N]?=some (gZ T N):=by simp[gZ,an cj]
   have c3:∀h,T.bx[N]'h=gZ T N:=λh=>ip cx h;have e6:(gZ T N).length<=16:=o6 _ (by rw[<-p2];exact Is cx);have cB:=Mv d (gZ T N) H hs (by omega) (by omega);have cf:=OI d.js d.ms (gZ T N) w hs.js hs.ms (by omega);have e5:=aj ee (by omega)
   have c8:T.cells.length=n+2:=by omega
   have c2:T.bx.length=n+2:=by rw[p2];omega
   have eb:T.jn.length=n+2:=by omega
   rw[cQ];unfold tU;generalize dI d (gZ T N) H=V at *;generalize ss d.js d.ms w (gZ T N)=FJ at *;generalize dA T N=cv at *;generalize gZ T N=bv at *;clear b2 b3 cQ a6 a7 a8 a9 W o6 hH eA cu hk e3 bs e4 cH b4
   with_reducible repeat' (first|refine Sp.h ?_|((first|refine Wd ?_|refine Ss.h ?_|refine Sc.h (cB) ?_|refine Sc.h (cf) ?_|(refine Sb.h ?_ ?_ ?_<;>(try intro hgd)<;>try exact Xy))<;>simp -implicitDefEqProofs [hP,hN,g1,g2,g3,g4,g5,l,o,u,b0,U,ad,ar,b5,z,A,E,F,X,bc,ee,e2,cm,cz,cV,c9,dd,cx,c3,e5,ck,cj,ec,c8,c2,eb]<;>try refine Yc ?_)|refine X2 ?_ ?_|(refine Xd ?_ ?_<;>intro hcd<;>try exact Xx))
   intro k2 cM;by_cases u1:k2=294
   .subst u1
    rw[T8 rfl];refine Eq.trans ?_ (sT _ _ _).symm;simp only[UO,bw,Vy]
   .by_cases u2:k2=291
    .subst u2
     rw[TQ (by omega),T8 rfl];refine Eq.trans ?_ (qE true {T with cells:=T.cells.set N {cv with v:=cy V},jn:=T.jn.set N FJ} c' (p5.trans q5)).symm;simp only[UO,bw,Vy];rfl
    .rw[TQ u1,TQ u2,G k2 cM,ko]
     exact(G9 (p5.trans q5) (by simp) (by simp) u2 u1).symm
  .have eB:j=2:=by omega
   subst eB
   with_reducible repeat' (first|refine Sp.h ?_|((first|refine Wd ?_|refine Ss.h ?_|(refine Sb.h ?_ ?_ ?_<;>(try intro hgd)<;>try exact Xy))<;>simp -implicitDefEqProofs [hP,hN,g1,g2,g3,g4,g5,l,o,u,b0,U,ad,ar,b5,z,A]<;>try refine Yc ?_)|refine X2 ?_ ?_|(refine Xd ?_ ?_<;>intro hcd<;>try exact Xx))
   exact⟨by omega,pP d w H S0 n 2,(by rw[show f-(i+1)=m by omega];exact W),c',λk a b=>by rw[G k (by simp[inK,a,b]),ko]⟩
theorem Rn(a b c d:Int):fp [a,b,c,d]=a-b+c-d:=by simp[fp,nT,mr];omega
theorem MS(a b c d e:Int):fp [a,b,c,d,e]=a-b+c-d+e:=by simp[fp,nT,mr];omega
theorem Ro(a b c d e f:Int):fp [a,b,c,d,e,f]=a-b+c-d+e-f:=by simp[fp,nT,mr];omega
def Ke(v:Vc):Bool:=!(v.1==0&&v.2.1==0&&v.2.2==0)&&fS v.1 v.2.1 v.2.2 16384
theorem Ar(v:Vc):aR 296 (am v) (B (Ke v)):=by
 have a:=vm v.1 v.2.1 v.2.2 16384 (by decide) (by decide);have hd:Ke v=(!(v.1==0&&v.2.1==0&&v.2.2==0)&&fS v.1 v.2.1 v.2.2 16384):=rfl;rw[hd];generalize fS v.1 v.2.1 v.2.2 16384=b at *;refine Dp func296 λC hP hN=>?_;exact Gy
 all_goals (try (cases b<;>simp_all))
theorem sU:Ke v=aL v:=by
 unfold Ke aL nz;rw[Bool.and_comm];rfl
theorem wG(l:List Int)(n:Nat)(c:Vc):(vF l n c).length<=4:=by
 have a:=aQ l n (k:=4) (by decide) (by decide)
 have:oc l n<4:=by unfold oc;omega
 unfold vF;rw[EO];omega
theorem As(l:List Int)(n:Nat):∀i,∀h∈(gS l n i).1,h.pts.length<=4
 |0,h,a=>by cases a
 |i+1,h,a=>by
  simp only[gS]at a;split at a
  .rcases Ui.1 a with a|a
   .exact As l n i h a
   .rw[UC]at a;subst a;exact wG _ _ _
  .exact As l n i h a
theorem EP(l:List Int)(xs:List Sh)(n:Nat)(b:∀h∈xs,h.pts.length<=4):∀i,∀h∈(jG l xs n i).1,h.pts.length<=4
 |0,h,a=>b h a
 |i+1,h,a=>by
  simp only[jG]at a;rcases Ui.1 a with a|a
  .exact EP l xs n b i h a
  .rw[UC]at a;subst a;exact wG _ _ _
theorem Hn(l:List Int):ScL (nR l):=by
 have c:=Ag l 0;have g:=aQ l (rM l 0) (k:=3) (by decide) (by decide);have d:(pO l 0).length=rK l 0:=wx _ _ _ _
 have e:rK l 0<3:=by unfold rK;omega
 have hN:=aQ l 0 (k:=3) (by decide) (by decide)
 have f:rN l 0<=3:=by unfold rN;omega
 have h5:=(zD l (tS l 0) (rN l 0)).2;have h6:=(zE l (mA l).1 (nn l (mA l).2) (rW l (mA l).2)).2;have b:=aQ l (mA l).2 (k:=3) (by decide) (by decide)
 have h7:rW l (mA l).2<=3:=by unfold rW;omega
 have h8:(mA l).1.length<=3:=by unfold mA;omega
 refine⟨by show(jR l 0).length<=_;omega,by show(pO l 0).length<=_;omega,by show(mB l).1.length<=_;unfold mB;omega,?_,?_⟩
 .show(if nx l (mB l).2 5=1 then[((-1:Int),nx l (nn l (mB l).2) (rN l 0))]else[]).length<=_
  split<;>simp
 .intro h a
  have:h.pts.length<=4:=EP l _ _ (As l _ _) _ h a;omega
theorem yk{SH:List Sh}{e:List (Nat×Nat)}{PT:List (List aq)}{c:List Vc}(hf:e.length<=576):∀f k d,(kw SH e PT c f k d).ns.length<=576/\(kw SH e PT c f k d).w.a.length<=8/\(kw SH e PT c f k d).w.b.length<=8
 |0,k,d=>by
  simp only[kw];split<;>simp[fL,hf]
 |f+1,k,d=>by
  simp only[kw];split
  .split
   .exact yk hf f _ _
   .split
    .exact⟨by simp,vE _ _ _ _⟩
    .exact yk hf f _ _
  .split<;>simp[fL,hf]
theorem ym(s:Sce)(bx:List Iv)(c:List Vc):(dI s bx c).ns.length<=576/\(dI s bx c).w.a.length<=8/\(dI s bx c).w.b.length<=8:=by
 unfold dI;split
 .rename_i h;exact yk (FV h).few _ _ _
 .simp
theorem vR{i:Int}(hn:0<n)(b:n<1000000):∃k:Nat,jZ i n=(k:Int)/\k<n:=by
 have h:=DZ i (k:=(n:Int)) (by omega) (by omega);obtain⟨k,a⟩:=Vp h.1;exact⟨k,a,by omega⟩
theorem JD(xs:List (Int×Int×Int))(e:xs.length<=9223372036854775807):aK 179 (aG xs) (aG xs) (B true):=by
 refine Dp func179 λC hP hN=>?_;refine GT trivial ?_;refine WP.loopN [] xs.length (λi st=>st.t 0=.pv (aG xs)/\st.t 1=.pv (aG xs)/\st.t 5=.pv (Z i)) (by simp) ?_;rintro i st hi ⟨b,c,d⟩;by_cases a:i<xs.length
 .have f:=aj a e
  exact GS (go b c d a f)
 .skip
  exact GS (f7 b c d a)
theorem Ll(p:Int)(l r:List Int)(a:l.length<=9223372036854775807)(b:r.length<=9223372036854775807):aK 180 (Ge p l r) (Ge p l r) (B true):=by
 have c:=LS l l a a;have d:=LS r r b b;rw[Bz,UD rfl]at c d;refine Dp func180 λC hP hN=>?_;exact GS trivial
theorem JE(v:Verd)(h1:v.nor.length<=9223372036854775807)(a:v.left.length<=9223372036854775807)(b:v.right.length<=9223372036854775807):aK 100 (jT v) (jT v) (B true):=by
 have c:=JD v.nor h1;have d:=Ll v.pair v.left v.right a b;refine Dp func100 λC hP hN=>?_;exact GS trivial
def ND(v:Verd):Prop:=v.nor.length<=9223372036854775807/\v.left.length<=9223372036854775807/\v.right.length<=9223372036854775807
theorem DM(t:Tr)(k:t.root.length<=9223372036854775807)(m:t.cells.length<=9223372036854775807)(n:∀c∈t.cells,ND c.v):aK 46 (bZ t) (bZ t) (B true):=by
 have l:=SE t.root t.root k k;rw[Bz,UD rfl]at l;refine Dp func46 λC hP hN=>?_;refine GT trivial ?_;refine WP.loopN [6,7] t.cells.length (λi st=>st.t 2=.ptr 2 0/\st.t 3=.ptr 3 0/\st.t 5=.pv (Z i)/\st.h 2=some (.box [.pv (iv t.root),.pv (.sl (t.cells.map br))] true false)/\st.h 3=some (.box [.pv (iv t.root),.pv (.sl (t.cells.map br))] true false)/\st.h 6=none/\st.h 7=none) (by simp) ?_;rintro i st hi ⟨g2,g3,g5,b,d,e,f⟩;by_cases a:i<t.cells.length
 .have o:=aj a m
  generalize j:t.cells[i]=c at *
  have g:t.cells[i]?=some c:=by rw[an a,j]
  obtain⟨v1,v2,v3⟩:=n c (Is g);have cv:=JE c.v v1 v2 v3;exact GS (s6 g2 g3 g5 b d e f a o (gA g j))
 .skip
  exact GS (s5 g2 g3 g5 b d e f a)
theorem JF(k:Int):rD 16 (lz k):=by
 unfold lz rD aN
 repeat' split
 all_goals simp
def Dt(x y:AV)(fb:Option cK):Option cK:=match BM x y with
 |some (a,b)=>some (.pv (.val (.bool (!(a==b)))),[])
 |none=>fb
@[simp] theorem NP(a b:Bool)(fb:Option cK):Dt (.pv (.val (.bool a))) (.pv (.val (.bool b))) fb=some (.pv (.val (.bool (!(a==b)))),[]):=rfl
@[simp] theorem RQ(x y:Operand):
 bz prog ⟨dst,.binOp .neq 4 x y 4,ty,pos,aft,g⟩ ρ=Dt (ρ x) (ρ y) (jq prog ⟨dst,.binOp .neq 4 x y 4,ty,pos,aft,g⟩ ρ):=by
 unfold Dt;split
 .rename_i a b h
  unfold BM at h;split at h
  .rename_i c d i j
   injection h with h;injection h with e f;subst e;subst f;refine d7 (by simp[Op.operands,i,j,eZ]) ?_;unfold execOp;simp only[(bG i).2,(bG j).2]
   have e:ak prog (eqGuard .neq 4 x y (.bool c) (.bool d))=some ():=by kernel_rfl
   have f:ak prog (binOp .neq 4 (.bool c) (.bool d))=some (.bool (!(c==d))):=by
    simp only[binOp,ah];rw[show ak prog (Op.equal 4 (.bool c) (.bool d))=some (c==d) from Ez 9999 4 c d Tryz.underlying4];rfl
   simp only[ah,e,f,Ud];rfl
  .cases h
 .rfl
def iC(n:Nat)(t:Tr):Prop:=∀c∈t.cells,rD n c.v
theorem uq(n:Nat):rD n aN:=by simp[rD,aN]
theorem Nq(h:iC n t)(i:Nat):rD n (lV t i):=by
 unfold lV;split
 .rename_i c a;exact h c (Is a)
 .exact uq n
theorem yx(h:iC n t)(i j:Int):iC n (cL t i j):=by
 unfold cL;split
 .intro c a
  simp only[jK,Ui,Ut,Uz,UX]at a;rcases a with a|rfl|rfl
  .rcases UP a with b|rfl
   .exact h c b
   .exact uq n
  all_goals exact Nq h _
 .exact h
theorem Bm(h:iC n t)(i:Int){v:Verd}(d:rD n v):iC n (bP t i v):=by
 unfold bP;split
 .intro c b
  rcases UP b with a|rfl
  .exact h c a
  .exact d
 .exact h
theorem AF{n:Nat}{a:Tr}(l:List Int)(h:iC n a):∀k,iC n (dq a l k).1
 |0=>h
 |k+1=>by simp only[dq];exact yx (AF l h k) _ _
theorem AG{a:Tr}(m0:Nat)(all:List Nat)(l:List Int)(h:iC 16 a):∀k,iC 16 (ii a m0 all l k).1
 |0=>h
 |k+1=>by simp only[ii];exact Bm (AG m0 all l h k) _ (JF _)
theorem HD(l:List Int):iC 16 (lB l):=by
 unfold lB mP;refine AG _ _ _ (AF _ ?_ _) _;intro c a;simp at a;subst a;exact uq 16
theorem Bo{b:Bx}(a:dj b=true):pM b=⟨b,[aD aN]⟩:=by rw[pM,T8 a]
theorem D2(h:aW js ms=0):∀(i:Nat) j,js[i]?=some j->cD js i j=0:=by
 unfold aW at h;split at h
 .cases h
 .split at h
  .rename_i c;exact absurd h c
  .rename_i k
   intro i j b
   have a:jb js=0:=by simpa using k
   rw[ph]at a;by_cases d:cD js i j=0
   .exact d
   .exfalso
    cases hf:(js.mapIdx (cD js)).find? (λe=>e !=0)with
    |none=>
     rw[Vb]at hf
     have l:cD js i j∈js.mapIdx (cD js):=by
      rw[List.mem_mapIdx];obtain⟨f,g⟩:=th.1 b;exact⟨i,f,by rw[g]⟩
     exact hf _ l (by simpa using d)
    |some e=>
     rw[hf]at a;have:=VL hf;simp only at a;rw[a]at this;simp at this
theorem IK(h:cD js i j=0):-4194304<=j.lo/\j.lo<=j.hi/\j.hi<=4194304:=by
 have:=sj j.kind;unfold cD at h
 repeat' split at h
 all_goals (try (cases h;done))
 all_goals omega
theorem Hf(h:aW js ms=0):dj (al js ms)=true:=by
 have c:al js ms=js.map iM:=by simp[al,h]
 have a:=qc h;rw[c];simp only[dj,Ux,An,L4];refine⟨⟨by omega,by omega⟩,gR.2 λx d=>?_⟩;obtain⟨j,b,rfl⟩:=Ur.1 d;obtain⟨i,hi⟩:=UB b;have:=IK (D2 h i j hi);exact gW.2 ⟨by simp only[iM];omega,by simp only[iM];omega,by simp only[iM];omega⟩
theorem CN{s:Sce}(h:bi s=0):aW s.js s.ms=0:=Decidable.byContradiction λhn=>by
 unfold bi at h;rw[T8 hn]at h;exact hn h
structure TL(t:Tr):Prop where
 c:t.cells.length<=1000000
 r:t.root.length<=1000000
 v:∀c∈t.cells,c.v.nor.length<=9223372036854775807
theorem IL(h:TL t)(a:t.cells.length<=999990)(i j:Int):TL (cL t i j):=by
 unfold cL;split
 .refine⟨by rw[qp];omega,h.r,λc a=>?_⟩
  simp only[jK,Ui]at a
  have b:(lV t i.toNat).nor.length<=9223372036854775807:=by
   unfold lV;split
   .rename_i c a;exact h.v c (Is a)
   .simp[aN]
  rcases a with a|a
  .rcases UP a with a|rfl
   .exact h.v c a
   .simp[aN]
  .simp only[Ut,Uz,UX]at a
   rcases a with rfl|rfl<;>exact b
 .exact h
theorem Hg(h:TL t)(i:Int){v:Verd}(b:v.nor.length<=9223372036854775807):TL (bP t i v):=by
 unfold bP;split
 .refine⟨by simpa[eG]using h.c,h.r,λc a=>?_⟩
  simp only[eG]at a;rcases UP a with a|rfl
  .exact h.v c a
  .exact b
 .exact h
theorem Mi{s:Sce}(h:TL t)(i:Int):TL (gE s t i):=by
 unfold gE;split
 .refine Hg h i ?_
  have:=(ym s (bO t i) (lV t i.toNat).nor).1;simp only[su,cy];omega
 .exact h
theorem wE(s:Sce)(t:Tr)(i:Int):(gE s t i).cells.length=t.cells.length/\(gE s t i).root=t.root:=by
 unfold gE bP;split
 .split<;>simp[eG]
 .simp
def EY(a b:Int):Int:=if a.tmod b<0 then wr (wr (a.tdiv b)-1)else wr (a.tdiv b)
def Hx(a b:Int):Int:=if 0<a.tmod b then wr (wr (a.tdiv b)+1)else wr (a.tdiv b)
theorem EZ(a b:Int)(c:b≠0):aK 228 (Z a) (Z b) (Z (EY a b)):=by
 refine Dp func228 λC hP hN=>?_
 with_reducible repeat' (first|refine Sp.h ?_|((first|refine Ss.h ?_|(refine Sb.h ?_ ?_ ?_<;>(try intro hgd)<;>try exact Xy))<;>simp -implicitDefEqProofs (maxSteps:=2000000) [hP,hN,c])|refine X2 ?_ ?_|(refine Xd ?_ ?_<;>intro hcd<;>try exact Xx))
 all_goals (first|(simp_all[EY];done)|((try simp_all[EY])<;>(try omega)<;>grind))
theorem Dl(a b:Int)(c:b≠0):aK 211 (Z a) (Z b) (Z (Hx a b)):=by
 refine Dp func211 λC hP hN=>?_
 with_reducible repeat' (first|refine Sp.h ?_|((first|refine Ss.h ?_|(refine Sb.h ?_ ?_ ?_<;>(try intro hgd)<;>try exact Xy))<;>simp -implicitDefEqProofs (maxSteps:=2000000) [hP,hN,c])|refine X2 ?_ ?_|(refine Xd ?_ ?_<;>intro hcd<;>try exact Xx))
 all_goals (first|(simp_all[Hx];done)|((try simp_all[Hx])<;>(try omega)<;>grind))
theorem s8{k:Int}(c:0<b)(h1:k*b<=a)(d:a<(k+1)*b):a/b=k:=by
 have:=(Wp c).2 h1;have:=(Wq c).2 d;omega
theorem E0{B:Int}(c:0<b)(d:0<=B)(h1:-B<=a)(e:a<=B):-B<=a/b/\a/b<=B:=by
 constructor
 .refine(Wp c).2 ?_
  have:B*1<=B*b:=U8 (by omega) d;rw[Wx];omega
 .have f:a/b<B+1:=(Wq c).2 (by
   have:(B+1)*1<=(B+1)*b:=U8 (by omega) (by omega)
   omega)
  omega
theorem s9(c:0<b)(h1:-4611686018427387904<=a)(d:a<=4611686018427387904):EY a b=a/b:=by
 have hq:=Wt a b;have g:-b<a.tmod b:=Wc a c;have i:a.tmod b<b:=VK a c;have f:=E0 (a:=a) (b:=b) (B:=4611686018427387904) c (by decide) h1 d;rw[Int.mul_comm]at hq;unfold EY;split
 .have e:a/b=a.tdiv b-1:=s8 c (by rw[Int.sub_mul];omega) (by rw[show a.tdiv b-1+1=a.tdiv b by omega];omega)
  rw[aa (n:=a.tdiv b) (by omega) (by omega),aa (by omega) (by omega),e]
 .have e:a/b=a.tdiv b:=s8 c (by omega) (by rw[Int.add_mul];omega)
  rw[aa (n:=a.tdiv b) (by omega) (by omega),e]
theorem ry(c:0<b)(h1:-4611686018427387904<=a)(f:a<=4611686018427387904):Hx a b=dG a b:=by
 have hq:=Wt a b;have g:-b<a.tmod b:=Wc a c;have i:a.tmod b<b:=VK a c;have d:=E0 (a:=-a) (b:=b) (B:=4611686018427387904) c (by decide) (by omega) (by omega);rw[Int.mul_comm]at hq;unfold Hx dG;split
 .have e:-a/b=-a.tdiv b-1:=s8 c (by rw[Int.sub_mul,Wx];omega) (by rw[show -a.tdiv b-1+1=-a.tdiv b by omega,Wx];omega)
  rw[aa (n:=a.tdiv b) (by omega) (by omega),aa (by omega) (by omega),e];omega
 .have e:-a/b=-a.tdiv b:=s8 c (by rw[Wx];omega) (by rw[Int.add_mul,Wx];omega)
  rw[aa (n:=a.tdiv b) (by omega) (by omega),e];omega
theorem MT(x:Int×Int):aR 164 (aC x) (Z (jp x)):=by
 cases a:az x.1 x.2 with
 |false=>
  have b:jp x=0:=by simp[jp,a]
  rw[b];refine Dp func164 λC hP hN=>?_;have d:=@lY;exact GS a
 |true=>
  have c:=eU.1 a
  have b:jp x=EY (wr (x.1+x.2)) 2:=by
   rw[jp,a];simp only[Ul];rw[aa (by omega) (by omega),s9 (by decide) (by omega) (by omega),Int.fdiv_eq_ediv_of_nonneg _ (by decide)]
  rw[b];refine Dp func164 λC hP hN=>?_
  with_reducible repeat' (first|refine Sp.h ?_|((first|refine Ss.h ?_|refine Sc.h (lY _ _) ?_|refine Sc.h (EZ _ _ (by decide)) ?_|(refine Sb.h ?_ ?_ ?_<;>(try intro hgd)<;>try exact Xy))<;>simp -implicitDefEqProofs (maxSteps:=2000000) [hP,hN,a])|refine X2 ?_ ?_|(refine Xd ?_ ?_<;>intro hcd<;>try exact Xx))
def F7(x y z u:AV)(fb:Option cK):Option cK:=match x,y,z,u with
 |.pv (.val (.int .i64 a)),.pv (.val (.int .i64 b)),.pv (.val (.int .i64 c)),.pv (.val (.int .i64 d))=>some (.pv (Z (max a (max b (max c d)))),[])
 |_,_,_,_=>fb
@[simp] theorem Oh(a b c d:Int)(fb:Option cK):F7 (.pv (.val (.int .i64 a))) (.pv (.val (.int .i64 b))) (.pv (.val (.int .i64 c))) (.pv (.val (.int .i64 d))) fb=some (.pv (Z (max a (max b (max c d)))),[]):=rfl
@[simp] theorem Tn(x y z u:Operand):
 bz prog ⟨dst,.call ⟨.builtin .max,#[x,y,z,u],ts⟩,ty,pos,aft,g⟩ ρ=F7 (ρ x) (ρ y) (ρ z) (ρ u) (jq prog ⟨dst,.call ⟨.builtin .max,#[x,y,z,u],ts⟩,ty,pos,aft,g⟩ ρ):=by
 unfold F7;split
 .rename_i a b c d f i j e
  refine d7 (by simp[Op.operands,Call.operands,f,i,j,e,eZ]) ?_;unfold execOp;simp[resolve,invoke,builtin,Builtin.max_,f,i,j,e,pX,eZ,Builtin.max2,ah,dP]
  try omega
 .rfl
def F8(x y z u:AV)(fb:Option cK):Option cK:=match x,y,z,u with
 |.pv (.val (.int .i64 a)),.pv (.val (.int .i64 b)),.pv (.val (.int .i64 c)),.pv (.val (.int .i64 d))=>some (.pv (Z (min a (min b (min c d)))),[])
 |_,_,_,_=>fb
@[simp] theorem Oi(a b c d:Int)(fb:Option cK):F8 (.pv (.val (.int .i64 a))) (.pv (.val (.int .i64 b))) (.pv (.val (.int .i64 c))) (.pv (.val (.int .i64 d))) fb=some (.pv (Z (min a (min b (min c d)))),[]):=rfl
@[simp] theorem To(x y z u:Operand):
 bz prog ⟨dst,.call ⟨.builtin .min,#[x,y,z,u],ts⟩,ty,pos,aft,g⟩ ρ=F8 (ρ x) (ρ y) (ρ z) (ρ u) (jq prog ⟨dst,.call ⟨.builtin .min,#[x,y,z,u],ts⟩,ty,pos,aft,g⟩ ρ):=by
 unfold F8;split
 .rename_i a b c d f i j e
  refine d7 (by simp[Op.operands,Call.operands,f,i,j,e,eZ]) ?_;unfold execOp;simp[resolve,invoke,builtin,Builtin.min_,f,i,j,e,pX,eZ,Builtin.min2,ah,dP]
  try omega
 .rfl
theorem Jd(a:Int):aR 335 (Z a) (Z (fN a)):=by
 refine Dp func335 λC hP hN=>?_;refine Gz ?_
 all_goals (try simp[fN])<;>(try omega)
theorem Kk(a b:Int):aK 350 (Z a) (Z b) (I (fN a) (fN b)):=by
 have c:=Jd a;have d:=Jd b;refine Dp func350 λC hP hN=>?_;exact Gy
 all_goals (try simp[fN])<;>(try omega)
theorem Dr(a:Int):aR 312 (Z a) (I (fN a) (fN a)):=by
 have b:=Jd a;refine Dp func312 λC hP hN=>?_;exact Gy
 all_goals (try simp[fN])<;>(try omega)
theorem Ds{c d:Int}:aK 333 (I a b) (I c d) (aC (fO (a,b) (c,d))):=by
 have v1:=lY a b;have v2:=lY c d;cases e:az a b<;>cases f:az c d<;>rw[e]at v1<;>rw[f]at v2
 case true.true=>
  have g:fO (a,b) (c,d)=(fN (a+c),fN (b+d)):=by simp only[fO,e,f,Vl,Ul]
  rw[g];rw[eU]at e f;have i:i64.wrap (a+c)=a+c:=aa;have j:i64.wrap (b+d)=b+d:=aa;refine Dp func333 λC hP hN=>?_
  with_reducible repeat' (first|refine Sp.h ?_|((first|refine Ss.h ?_|refine Sc.h (v1) ?_|refine Sc.h (v2) ?_|refine Sc.h (Kk _ _) ?_)<;>simp -implicitDefEqProofs [hP,hN,i,j]))
 all_goals (
  have g:fO (a,b) (c,d)=(0,0):=by simp[fO,e,f]
  rw[g])
 all_goals
  refine Dp func333 λC hP hN=>?_;exact Gy
theorem Je:aR 349 (I a b) (aC (iA (a,b))):=by
 have v1:=lY a b;cases c:az a b<;>rw[c]at v1
 .have d:iA (a,b)=(0,0):=by simp[iA,c]
  rw[d];refine Dp func349 λC hP hN=>?_;exact Gy
 .have d:iA (a,b)=(-b,-a):=by simp only[iA,c,Ul]
  rw[d];rw[eU]at c;have e:i64.wrap (0-a)=-a:=(aa (n:=0-a) (by omega) (by omega)).trans (by omega);have f:i64.wrap (0-b)=-b:=(aa (n:=0-b) (by omega) (by omega)).trans (by omega);have g:i64.wrap (-a)=-a:=aa;have i:i64.wrap (-b)=-b:=aa;refine Dp func349 λC hP hN=>?_;exact Gy
theorem F9{c d:Int}:aK 334 (I a b) (I c d) (aC (fg (a,b) (c,d))):=by
 have v1:=lY a b;have v2:=lY c d;cases e:az a b<;>cases f:az c d<;>rw[e]at v1<;>rw[f]at v2
 case true.true=>
  have j:=eU.1 e;have k:=eU.1 f;have p:=bF (a:=a) (b:=c) 2147483648 2147483648 (by omega) (by omega) (by omega) (by omega);have q:=bF (a:=a) (b:=d) 2147483648 2147483648 (by omega) (by omega) (by omega) (by omega);have r:=bF (a:=b) (b:=c) 2147483648 2147483648 (by omega) (by omega) (by omega) (by omega);have s:=bF (a:=b) (b:=d) 2147483648 2147483648 (by omega) (by omega) (by omega) (by omega);have l:i64.wrap (a*c)=a*c:=aa;have m:i64.wrap (a*d)=a*d:=aa;have n:i64.wrap (b*c)=b*c:=aa;have o:i64.wrap (b*d)=b*d:=aa;have i:=EZ (min (a*c) (min (a*d) (min (b*c) (b*d)))) 65536 (by decide);have cc:=Dl (max (a*c) (max (a*d) (max (b*c) (b*d)))) 65536 (by decide);rw[s9 (by decide) (by omega) (by omega)]at i;rw[ry (by decide) (by omega) (by omega)]at cc
  have g:fg (a,b) (c,d)=(fN (min (a*c) (min (a*d) (min (b*c) (b*d)))/65536),fN (dG (max (a*c) (max (a*d) (max (b*c) (b*d)))) 65536)):=by simp only[fg,e,f,Vl,Ul]
  rw[g];refine Dp func334 λC hP hN=>?_
  with_reducible repeat' (first|refine Sp.h ?_|((first|refine Wd ?_|refine Ss.h ?_|refine Sc.h (v1) ?_|refine Sc.h (v2) ?_|refine Sc.h (i) ?_|refine Sc.h (cc) ?_|refine Sc.h (Kk _ _) ?_)<;>simp -implicitDefEqProofs [hP,hN,l,m,n,o]<;>try refine Ya ?_))
 all_goals (
  have g:fg (a,b) (c,d)=(0,0):=by simp[fg,e,f]
  rw[g])
 all_goals
  refine Dp func334 λC hP hN=>?_;exact Gy
theorem Jf(a:Int):aR 379 (Z a) (Z (a%65536)):=by
 have c:a.tmod 65536=a-65536*a.tdiv 65536:=by have:=Wt a 65536;omega
 have d:-65536<a.tmod 65536:=Wc a (by decide);have f:a.tmod 65536<65536:=VK a (by decide);have b:i64.wrap (a.tmod 65536+65536)=a.tmod 65536+65536:=aa
 have e:(a.tmod 65536+65536).tmod 65536=a%65536:=by
  rw[WG (by omega)];omega
 refine Dp func379 λC hP hN=>?_;exact GS (gA b e)
theorem M9(x:Int)(u:0<=x)(h1:x<=8192):aR 387 (Z x) (.tup [BP (λk=>if k=0 then 0 else fa x k),BP (λk=>if k=0 then 0 else fc x k)]):=by
 have w1:i64.wrap (x*6746518852)=x*6746518852:=aa;have w2:i64.wrap (x*6746518853)=x*6746518853:=aa
 have U:aP prog 228 [.pv (Z (x*6746518852)),.pv (Z 65536)] [] [] (.pv (Z (fa x 1))):=by
  have:=EZ (x*6746518852) 65536 (by decide);rw[s9 (by decide) (by omega) (by omega)]at this;exact this
 have V:aP prog 211 [.pv (Z (x*6746518853)),.pv (Z 65536)] [] [] (.pv (Z (fc x 1))):=by
  have:=Dl (x*6746518853) 65536 (by decide);rw[ry (by decide) (by omega) (by omega)]at this;exact this
 have m1:∀j,i64.wrap (fa x j*fa x 1)=fa x j*fa x 1:=λj=>aa (by have:=sW u h1 j;omega) (by have:=sW u h1 j;omega);have m2:∀j,i64.wrap (fc x j*fc x 1)=fc x j*fc x 1:=λj=>aa (by have:=oF u h1 j;omega) (by have:=oF u h1 j;omega)
 have S:∀j,aP prog 228 [.pv (Z (fa x (j+1)*fa x 1)),.pv (Z 1073741824)] [] [] (.pv (Z (fa x (j+2)))):=λj=>by
  have:=EZ (fa x (j+1)*fa x 1) 1073741824 (by decide);have Y:=sW u h1 (j+1);rw[s9 (by decide) (by omega) (by omega)]at this;exact this
 have T:∀j,aP prog 211 [.pv (Z (fc x (j+1)*fc x 1)),.pv (Z 1073741824)] [] [] (.pv (Z (fc x (j+2)))):=λj=>by
  have:=Dl (fc x (j+1)*fc x 1) 1073741824 (by decide);have Y:=oF u h1 (j+1);rw[ry (by decide) (by omega) (by omega)]at this;exact this
 generalize hf:fa x=f at *;generalize X:fc x=g at *
 obtain⟨e,r⟩:∃e:Nat->Int,e=λk=>if k=0 then 0 else f k:=⟨_,rfl⟩
 obtain⟨l,s⟩:∃l:Nat->Int,l=λk=>if k=0 then 0 else g k:=⟨_,rfl⟩
 rw[<-r,<-s]
 have p:e 0=0:=by rw[r];rfl
 have q:l 0=0:=by rw[s];rfl
 have Q:∀k,f (k+1)=e (k+1):=λk=>by rw[r];simp
 have R:∀k,g (k+1)=l (k+1):=λk=>by rw[s];simp
 rw[show f 1=e 1 from Q 0]at U m1 S;rw[show g 1=l 1 from R 0]at V m2 T
 have n:∀j,i64.wrap (e (j+1)*e 1)=e (j+1)*e 1:=λj=>by rw[<-Q j];exact m1 _
 have o:∀j,i64.wrap (l (j+1)*l 1)=l (j+1)*l 1:=λj=>by rw[<-R j];exact m2 _
 have d3:∀j,aP prog 228 [.pv (Z (e (j+1)*e 1)),.pv (Z 1073741824)] [] [] (.pv (Z (e (j+2)))):=λj=>by have:=S j;rw[Q j,Q (j+1)]at this;exact this
 have d4:∀j,aP prog 211 [.pv (Z (l (j+1)*l 1)),.pv (Z 1073741824)] [] [] (.pv (Z (l (j+2)))):=λj=>by have:=T j;rw[R j,R (j+1)]at this;exact this
 have v:=n 0;have y:=n 1;have z:=n 2;have A:=n 3;have B:=n 4;have D:=n 5;have E:=n 6;have F:=n 7;have G:=n 8;have H:=o 0;have I:=o 1;have J:=o 2;have K:=o 3;have L:=o 4;have M:=o 5;have N:=o 6;have O:=o 7;have P:=o 8;simp only[Nat.reduceAdd]at v y z A B D E F G H I J K L M N O P;clear n o m1 m2 S T Q R hf X r s;refine Dp func387 λC hP hN=>?_;refine Gz ?_;refine WP.loopN [] 9 (λi st=>st.t 2=.ptr 2 0/\st.t 3=.ptr 3 0/\st.t 4=.ptr 4 0/\st.t 5=.ptr 5 0/\st.t 6=.pv (Z (i+2:Nat))/\st.h 2=some (.box (jo e 0) true false)/\st.h 3=some (.box (jo e 0) true false)/\st.h 4=some (.box (jo e (i+2)) true false)/\st.h 5=some (.box (jo l (i+2)) true false)) (by simp[jo,p,q]) ?_;rintro i st hi ⟨g2,g3,g4,g5,m,a,b,c,d⟩
 have W:i=0\/i=1\/i=2\/i=3\/i=4\/i=5\/i=6\/i=7\/i=8\/i=9:=by omega
 rcases W with rfl|rfl|rfl|rfl|rfl|rfl|rfl|rfl|rfl|rfl
 all_goals (simp only[jo]at a b c d;simp at m a b c d)
 .skip
  with_reducible repeat' (first|refine Sp.h ?_|((first|refine Wd ?_|refine Ss.h ?_|refine Sc.h (d3 0) ?_|refine Sc.h (d4 0) ?_)<;>simp -implicitDefEqProofs [hP,hN,g2,g3,g4,g5,m,a,b,c,d,p,q,v,H,jo]<;>try refine Ya ?_))
 .skip
  with_reducible repeat' (first|refine Sp.h ?_|((first|refine Wd ?_|refine Ss.h ?_|refine Sc.h (d3 1) ?_|refine Sc.h (d4 1) ?_)<;>simp -implicitDefEqProofs [hP,hN,g2,g3,g4,g5,m,a,b,c,d,p,q,y,I,jo]<;>try refine Ya ?_))
 .skip
  with_reducible repeat' (first|refine Sp.h ?_|((first|refine Wd ?_|refine Ss.h ?_|refine Sc.h (d3 2) ?_|refine Sc.h (d4 2) ?_)<;>simp -implicitDefEqProofs [hP,hN,g2,g3,g4,g5,m,a,b,c,d,p,q,z,J,jo]<;>try refine Ya ?_))
 .skip
  with_reducible repeat' (first|refine Sp.h ?_|((first|refine Wd ?_|refine Ss.h ?_|refine Sc.h (d3 3) ?_|refine Sc.h (d4 3) ?_)<;>simp -implicitDefEqProofs [hP,hN,g2,g3,g4,g5,m,a,b,c,d,p,q,A,K,jo]<;>try refine Ya ?_))
 .skip
  with_reducible repeat' (first|refine Sp.h ?_|((first|refine Wd ?_|refine Ss.h ?_|refine Sc.h (d3 4) ?_|refine Sc.h (d4 4) ?_)<;>simp -implicitDefEqProofs [hP,hN,g2,g3,g4,g5,m,a,b,c,d,p,q,B,L,jo]<;>try refine Ya ?_))
 .skip
  with_reducible repeat' (first|refine Sp.h ?_|((first|refine Wd ?_|refine Ss.h ?_|refine Sc.h (d3 5) ?_|refine Sc.h (d4 5) ?_)<;>simp -implicitDefEqProofs [hP,hN,g2,g3,g4,g5,m,a,b,c,d,p,q,D,M,jo]<;>try refine Ya ?_))
 .skip
  with_reducible repeat' (first|refine Sp.h ?_|((first|refine Wd ?_|refine Ss.h ?_|refine Sc.h (d3 6) ?_|refine Sc.h (d4 6) ?_)<;>simp -implicitDefEqProofs [hP,hN,g2,g3,g4,g5,m,a,b,c,d,p,q,E,N,jo]<;>try refine Ya ?_))
 .skip
  with_reducible repeat' (first|refine Sp.h ?_|((first|refine Wd ?_|refine Ss.h ?_|refine Sc.h (d3 7) ?_|refine Sc.h (d4 7) ?_)<;>simp -implicitDefEqProofs [hP,hN,g2,g3,g4,g5,m,a,b,c,d,p,q,F,O,jo]<;>try refine Ya ?_))
 .skip
  with_reducible repeat' (first|refine Sp.h ?_|((first|refine Wd ?_|refine Ss.h ?_|refine Sc.h (d3 8) ?_|refine Sc.h (d4 8) ?_)<;>simp -implicitDefEqProofs [hP,hN,g2,g3,g4,g5,m,a,b,c,d,p,q,G,P,jo]<;>try refine Ya ?_))
 .skip
  exact Gy
theorem Na(lo hi:Int)(h1:-4611686018427387904<=hi)(c:hi<=4611686018427387904)(d:-4611686018427387904<=lo)(e:lo<=4611686018427387904):aK 388 (Z lo) (Z hi) (aC (sy lo hi)):=by
 have a:=EZ lo 16384 (by decide);have b:=Dl hi 16384 (by decide);rw[s9 (by decide) d e]at a;rw[ry (by decide) h1 c]at b;have f:sy lo hi=(max 0 (lo/16384),min 65536 (dG hi 16384)):=rfl;rw[f];generalize lo/16384=u at *;generalize dG hi 16384=v at *;refine Dp func388 λC hP hN=>?_;exact Gy
 all_goals (try simp)<;>(try omega)
theorem E2{n d:Int}(hd:0<d):dG n d=aU n d:=by
 unfold dG aU;have e:=Int.mul_ediv_add_emod (n+d-1) d;have a:=Va (n+d-1) (show d≠0 by omega);have b:=Ve (n+d-1) hd
 have:-n/d=-((n+d-1)/d):=by
  refine s8 hd ?_ ?_
  .rw[Wx,Int.mul_comm];omega
  .rw[Int.add_mul,Wx,Int.mul_comm];omega
 omega
theorem cR{g:Nat->Int}(b:∀j,0<=g j/\g j<=1073741824)(j:Nat)(d:Int)(a:0<d):aP prog 211 [.pv (Z (g j)),.pv (Z d)] [] [] (.pv (Z (aU (g j) d))):=by
 have:=Dl (g j) d (by omega);have h:=b j;rw[ry a (by omega) (by omega),E2 a]at this;exact this
theorem fR{f:Nat->Int}(hf:∀j,0<=f j/\f j<=1073741824)(j:Nat)(d:Int)(a:0<d):aP prog 228 [.pv (Z (f j)),.pv (Z d)] [] [] (.pv (Z (f j/d))):=by
 have:=EZ (f j) d (by omega);have h:=hf j;rw[s9 a (by omega) (by omega)]at this;exact this
theorem Ru(x:Int)(b:0<=x)(h1:x<=8192):aR 382 (Z x) (aC (ug x)):=by
 have m:=M9 x b h1;have hf:=oD b h1;have a:=oE b h1;have c:ug x=sy (fp (nU (fa x) (fc x))) (fp (lO (fa x) (fc x))):=rfl;rw[c];generalize fa x=f at *;generalize fc x=g at *;simp only[nU,lO,Rn,MS];have A:=hf 1;have u:=eX (a 3).1 (a 3).2 (d:=6) (by decide) (by decide);have e:=cR a 3 6 (by decide);have r:=ri hf 5 (d:=120) (by decide);have o:=fR hf 5 120 (by decide);have y:=eX (a 7).1 (a 7).2 (d:=5040) (by decide) (by decide);have j:=cR a 7 5040 (by decide);have v1:=a 1;have q:=ri hf 3 (d:=6) (by decide);have n:=fR hf 3 6 (by decide);have v:=eX (a 5).1 (a 5).2 (d:=120) (by decide) (by decide);have i:=cR a 5 120 (by decide);have s:=ri hf 7 (d:=5040) (by decide);have p:=fR hf 7 5040 (by decide);have z:=eX (a 9).1 (a 9).2 (d:=362880) (by decide) (by decide);have k:=cR a 9 362880 (by decide);have w0:i64.wrap (f 1-aU (g 3) 6)=f 1-aU (g 3) 6:=aa;have B:i64.wrap (f 1-aU (g 3) 6+f 5/120)=f 1-aU (g 3) 6+f 5/120:=aa;have D:i64.wrap (f 1-aU (g 3) 6+f 5/120-aU (g 7) 5040)=f 1-aU (g 3) 6+f 5/120-aU (g 7) 5040:=aa;have E:i64.wrap (g 1-f 3/6)=g 1-f 3/6:=aa;have F:i64.wrap (g 1-f 3/6+aU (g 5) 120)=g 1-f 3/6+aU (g 5) 120:=aa;have G:i64.wrap (g 1-f 3/6+aU (g 5) 120-f 7/5040)=g 1-f 3/6+aU (g 5) 120-f 7/5040:=aa;have H:i64.wrap (g 1-f 3/6+aU (g 5) 120-f 7/5040+aU (g 9) 362880)=g 1-f 3/6+aU (g 5) 120-f 7/5040+aU (g 9) 362880:=aa;have l:=Na (f 1-aU (g 3) 6+f 5/120-aU (g 7) 5040) (g 1-f 3/6+aU (g 5) 120-f 7/5040+aU (g 9) 362880) (by omega) (by omega) (by omega) (by omega);refine Dp func382 λC hP hN=>?_;exact Gy
theorem Rv(x:Int)(b:0<=x)(h1:x<=8192):aR 383 (Z x) (aC (yp x)):=by
 have n:=M9 x b h1;have hf:=oD b h1;have a:=oE b h1;have e:yp x=sy (fp (rh (fa x) (fc x))) (fp (oG (fa x) (fc x))):=rfl;rw[e];generalize fa x=f at *;generalize fc x=g at *;simp only[rh,oG,MS,Ro];have z:=eX (a 2).1 (a 2).2 (d:=2) (by decide) (by decide);have j:=cR a 2 2 (by decide);have u:=ri hf 4 (d:=24) (by decide);have p:=fR hf 4 24 (by decide);have B:=eX (a 6).1 (a 6).2 (d:=720) (by decide) (by decide);have c6:=cR a 6 720 (by decide);have y:=ri hf 8 (d:=40320) (by decide);have r:=fR hf 8 40320 (by decide);have i:=eX (a 10).1 (a 10).2 (d:=3628800) (by decide) (by decide);have c:=cR a 10 3628800 (by decide);have s:=ri hf 2 (d:=2) (by decide);have o:=fR hf 2 2 (by decide);have A:=eX (a 4).1 (a 4).2 (d:=24) (by decide) (by decide);have k:=cR a 4 24 (by decide);have v:=ri hf 6 (d:=720) (by decide);have q:=fR hf 6 720 (by decide);have D:=eX (a 8).1 (a 8).2 (d:=40320) (by decide) (by decide);have l:=cR a 8 40320 (by decide);have w0:i64.wrap (1073741824-aU (g 2) 2)=1073741824-aU (g 2) 2:=aa;have E:i64.wrap (1073741824-aU (g 2) 2+f 4/24)=1073741824-aU (g 2) 2+f 4/24:=aa;have F:i64.wrap (1073741824-aU (g 2) 2+f 4/24-aU (g 6) 720)=1073741824-aU (g 2) 2+f 4/24-aU (g 6) 720:=aa;have G:i64.wrap (1073741824-aU (g 2) 2+f 4/24-aU (g 6) 720+f 8/40320)=1073741824-aU (g 2) 2+f 4/24-aU (g 6) 720+f 8/40320:=aa;have H:i64.wrap (1073741824-aU (g 2) 2+f 4/24-aU (g 6) 720+f 8/40320-aU (g 10) 3628800)=1073741824-aU (g 2) 2+f 4/24-aU (g 6) 720+f 8/40320-aU (g 10) 3628800:=aa;have I:i64.wrap (1073741824-f 2/2)=1073741824-f 2/2:=aa;have J:i64.wrap (1073741824-f 2/2+aU (g 4) 24)=1073741824-f 2/2+aU (g 4) 24:=aa;have K:i64.wrap (1073741824-f 2/2+aU (g 4) 24-f 6/720)=1073741824-f 2/2+aU (g 4) 24-f 6/720:=aa;have L:i64.wrap (1073741824-f 2/2+aU (g 4) 24-f 6/720+aU (g 8) 40320)=1073741824-f 2/2+aU (g 4) 24-f 6/720+aU (g 8) 40320:=aa;have m:=Na (1073741824-aU (g 2) 2+f 4/24-aU (g 6) 720+f 8/40320-aU (g 10) 3628800) (1073741824-f 2/2+aU (g 4) 24-f 6/720+aU (g 8) 40320) (by omega) (by omega) (by omega) (by omega);refine Dp func383 λC hP hN=>?_;exact Gy
theorem Nb(r:Int)(b:0<=r)(h1:r<=16384):aR 380 (Z r) (aC (fe r)):=by
 by_cases h:r<=8192
 .have a:fe r=ug r:=by simp[fe,h]
  rw[a];have c:=Ru r b h;refine Dp func380 λC hP hN=>?_;exact Gy
 .have a:fe r=yp (16384-r):=by simp[fe,h]
  rw[a];have c:=Rv (16384-r) (by omega) (by omega);have w:i64.wrap (16384-r)=16384-r:=aa;refine Dp func380 λC hP hN=>?_;exact Gy
theorem Jg(a:Int):aR 368 (Z a) (aC (oH a)):=by
 have b:oH a=pK (a%65536):=rfl;have f:=Jf a;have m0:0<=a%65536:=Va _ (by decide);have m1:a%65536<65536:=Ve _ (by decide);rw[b];generalize a%65536=m at *;have i:m.tdiv 16384=m/16384:=Un m0;have j:m.tmod 16384=m%16384:=WG m0;have l:i64.wrap (m/16384)=m/16384:=aa;have c:0<=m%16384:=Va _ (by decide);have k:m%16384<16384:=Ve _ (by decide);have d:=Nb (m%16384) c (by omega);have e:=Nb (16384-m%16384) (by omega) (by omega);have n:i64.wrap (16384-m%16384)=16384-m%16384:=aa
 have hq:m/16384=0\/m/16384=1\/m/16384=2\/m/16384=3:=by omega
 unfold pK;generalize fe (m%16384)=u at *;generalize fe (16384-m%16384)=v at *;have g:aP prog 349 [.pv (aC u)] [] [] (.pv (aC (iA u))):=Je;have cv:aP prog 349 [.pv (aC v)] [] [] (.pv (aC (iA v))):=Je;rcases hq with hq|hq|hq|hq<;>rw[hq]
 all_goals
  refine Dp func368 λC hP hN=>?_;exact Gy
theorem Nc(a:Int):aR 367 (Z a) (aC (ui a)):=by
 have c:=Jf a;have m0:0<=a%65536:=Va _ (by decide);have m1:a%65536<65536:=Ve _ (by decide);have d:=Jg (a%65536+16384);have w:i64.wrap (a%65536+16384)=a%65536+16384:=aa;have b:ui a=oH (a%65536+16384):=rfl;rw[b];refine Dp func367 λC hP hN=>?_;exact Gy
def pA(a:Iv)(t:Int):Bool:=decide (a.1+(t-a.1)%65536<=a.2)
theorem Nd(t:Int)(h1:-2147483648<=a)(d:a<=2147483648)(e:-2147483648<=t)(f:t<=2147483648):aK 378 (I a b) (Z t) (B (pA (a,b) t)):=by
 have c:=Jf (t-a);have m0:0<=(t-a)%65536:=Va _ (by decide);have m1:(t-a)%65536<65536:=Ve _ (by decide);have g:i64.wrap (t-a)=t-a:=aa;have i:i64.wrap (a+(t-a)%65536)=a+(t-a)%65536:=aa;refine Dp func378 λC hP hN=>?_;refine Gz ?_
 all_goals rfl
theorem Bk{a:Iv}{t:Int}(b:az a.1 a.2=true):mt a t=pA a t:=by
 have m0:0<=(t-a.1)%65536:=Va _ (by decide);simp only[mt,pA,b,Uq];rw[UD (show a.1<=a.1+(t-a.1)%65536 by omega),Uq]
theorem Nf(v:Int->Iv)(t u:Int)(n:-2147483648<=t)(i:t<=2147483648)(o:-2147483648<=u)(j:u<=2147483648):xF 366 (I a b) (aC (v a)) (aC (v b)) (Z t) (Z u) (aC (jk (a,b) v t u)):=by
 have cv:=lY a b
 cases c:az a b with
 |false=>
  rw[c]at cv
  have e:jk (a,b) v t u=(0,0):=by simp[jk,c]
  rw[e];refine Dp func366 λC hP hN=>?_;exact Gy
 |true=>
  rw[c]at cv;have f:=eU.1 c;have w:i64.wrap (b-a)=b-a:=aa;have l:=Nd (b:=b) t f.1 (by omega) n i;have m:=Nd (b:=b) u f.1 (by omega) o j;by_cases k:65536<=b-a
  .have e:jk (a,b) v t u=(-65536,65536):=by simp only[jk,c];rw[TQ (by simp),T8 k]
   rw[e];refine Dp func366 λC hP hN=>?_;exact Gy
  .have e:jk (a,b) v t u=(if pA (a,b) u then gF (if pA (a,b) t then gF (gF (v a) (v b)) (pn 65536)else gF (v a) (v b)) (pn (-65536))else(if pA (a,b) t then gF (gF (v a) (v b)) (pn 65536)else gF (v a) (v b))):=by
    simp only[jk,c];rw[TQ (by simp),TQ k,Bk c,Bk c]
   rw[e];have r:=Fx (v a).1 (v a).2 (v b).1 (v b).2;have s:=Dr 65536;have x:=Dr (-65536);have p:pn 65536=(fN 65536,fN 65536):=rfl;have q:pn (-65536)=(fN (-65536),fN (-65536)):=rfl;rw[p,q];generalize fN 65536=d at *;generalize fN (-65536)=g at *;generalize A:gF (v a) (v b)=H at *;have y:=Fx H.1 H.2 d d;have z:=Fx H.1 H.2 g g;have c6:=Fx (gF H (d,d)).1 (gF H (d,d)).2 g g;cases m1:pA (a,b) t<;>cases m2:pA (a,b) u<;>rw[m1]at l<;>rw[m2]at m<;>simp only[T5,Uf,Ul]
   all_goals
    refine Dp func366 λC hP hN=>?_;exact Gy
theorem Rw:aR 348 (I a b) (aC (rj (a,b))):=by
 have h:rj (a,b)=jk (a,b) oH 16384 49152:=rfl;rw[h];have c:=Nf (a:=a) (b:=b) oH 16384 49152 (by decide) (by decide) (by decide) (by decide);have d:=Jg a;have e:=Jg b;generalize oH a=u at *;generalize oH b=v at *;refine Dp func348 λC hP hN=>?_;exact Gy
theorem Rx:aR 347 (I a b) (aC (rl (a,b))):=by
 have h:rl (a,b)=jk (a,b) ui 0 32768:=rfl;rw[h];have c:=Nf (a:=a) (b:=b) ui 0 32768 (by decide) (by decide) (by decide) (by decide);have d:=Nc a;have e:=Nc b;generalize ui a=u at *;generalize ui b=v at *;refine Dp func347 λC hP hN=>?_;exact Gy
theorem HC{x:Iv}(h:az x.1 x.2=true):fO (0,0) x=x:=by
 have a:=eU.1 h;simp only[fO,h,show az 0 0=true from rfl,Vl,Ul,fN]
 ext<;>(try simp only[])<;>omega
theorem Ga(x y:Iv):az (fg x y).1 (fg x y).2=true:=by
 unfold fg;split
 .rw[eU];simp only[fN,dG];omega
 .rfl
theorem wM(m v:aq):jQ m v 3=fO (fO (fg m.1 v.1) (fg m.2.1 v.2.1)) (fg m.2.2 v.2.2):=by
 show fO (fO (fO (0,0) (fg m.1 v.1)) (fg m.2.1 v.2.1)) (fg m.2.2 v.2.2)=_;rw[HC (Ga _ _)]
theorem Kl:fN 65536=65536:=by decide
theorem Ng(x y z:Int):aR 267 (nK x y z) (bE (dS (x,y,z))):=by
 have hp:dS (x,y,z)=((fN x,fN x),(fN y,fN y),(fN z,fN z)):=rfl;rw[hp];refine Dp func267 λC hP hN=>?_;have a:=@Dr;exact GS trivial
theorem Nh:aK 310 (V6 a0 a1 a2 a3 a4 a5) (V6 b0 b1 b2 b3 b4 b5) (bE (rm ((a0,a1),(a2,a3),(a4,a5)) ((b0,b1),(b2,b3),(b4,b5)))):=by
 refine Dp func310 λC hP hN=>?_;have a:=@Ds;refine GT trivial ?_
 all_goals (try simp[rm])
theorem Ni:BA 264 (wI mu):=by
 have a:=Dr 65536;rw[Kl]at a;refine Dp func264 λC hP hN=>?_;refine Gz ?_
 all_goals (try simp[mu])
theorem Ry(x:Int):aK 332 (Z x) (I a b) (wI (fw x (a,b))):=by
 have j:=Dr 65536;rw[Kl]at j;have cv:=lY a b
 cases e:az a b with
 |false=>
  rw[e]at cv
  have c:fw x (a,b)=(bm,bm,bm):=by simp[fw,e]
  rw[c];refine Dp func332 λC hP hN=>?_
  with_reducible repeat' (first|refine Sp.h ?_|((first|refine Ss.h ?_|refine Sc.h (cv) ?_)<;>simp -implicitDefEqProofs [hP,hN,bm]))
 |true=>
  rw[e]at cv;have l:=Rw (a:=a) (b:=b);have cc:=Rx (a:=a) (b:=b);generalize hS:rj (a,b)=S at *;generalize d:rl (a,b)=Q at *;have k:=Je (a:=S.1) (b:=S.2);by_cases f:x=0
  .have c:fw x (a,b)=(((65536,65536),(0,0),(0,0)),((0,0),Q,iA S),((0,0),S,Q)):=by simp[fw,e,f,hS,d]
   rw[c];subst f;refine Dp func332 λC hP hN=>?_;exact Gy
  by_cases g:x=1
  .have c:fw x (a,b)=((Q,(0,0),S),((0,0),(65536,65536),(0,0)),(iA S,(0,0),Q)):=by simp[fw,e,g,hS,d]
   rw[c];subst g;refine Dp func332 λC hP hN=>?_;exact Gy
  by_cases i:x=2
  .have c:fw x (a,b)=((Q,iA S,(0,0)),(S,Q,(0,0)),((0,0),(0,0),(65536,65536))):=by simp[fw,e,i,hS,d]
   rw[c];subst i;refine Dp func332 λC hP hN=>?_;exact Gy
  have c:fw x (a,b)=(bm,bm,bm):=by simp[fw,e,f,g,i]
  rw[c]
  have m:(x==0)=false:=by simp[f]
  have n:(x==1)=false:=by simp[g]
  have o:(x==2)=false:=by simp[i]
  refine Dp func332 λC hP hN=>?_
  with_reducible repeat' (first|refine Sp.h ?_|((first|refine Wd ?_|refine Ss.h ?_|refine Sc.h (cv) ?_|refine Sc.h (l) ?_|refine Sc.h (cc) ?_|refine Sc.h (k) ?_|refine Sc.h (j) ?_)<;>simp -implicitDefEqProofs [hP,hN,bm,m,n,o,f,g,i]<;>try refine Ya ?_))
theorem Nj:aK 311 (C8 a0 a1 a2 a3 a4 a5 a6 a7 a8 a9 a10 a11 a12 a13 a14 a15 a16 a17) (V6 v0 v1 v2 v3 v4 v5) (bE (sX (((a0,a1),(a2,a3),(a4,a5)),((a6,a7),(a8,a9),(a10,a11)),((a12,a13),(a14,a15),(a16,a17))) ((v0,v1),(v2,v3),(v4,v5)))):=by
 obtain⟨D,f⟩:∃D:aq,D=sX (((a0,a1),(a2,a3),(a4,a5)),((a6,a7),(a8,a9),(a10,a11)),((a12,a13),(a14,a15),(a16,a17))) ((v0,v1),(v2,v3),(v4,v5)):=⟨_,rfl⟩
 have j:fO (fO (fg (a0,a1) (v0,v1)) (fg (a2,a3) (v2,v3))) (fg (a4,a5) (v4,v5))=D.1:=by rw[f];exact(wM ((a0,a1),(a2,a3),(a4,a5)) ((v0,v1),(v2,v3),(v4,v5))).symm
 have k:fO (fO (fg (a6,a7) (v0,v1)) (fg (a8,a9) (v2,v3))) (fg (a10,a11) (v4,v5))=D.2.1:=by rw[f];exact(wM ((a6,a7),(a8,a9),(a10,a11)) ((v0,v1),(v2,v3),(v4,v5))).symm
 have l:fO (fO (fg (a12,a13) (v0,v1)) (fg (a14,a15) (v2,v3))) (fg (a16,a17) (v4,v5))=D.2.2:=by rw[f];exact(wM ((a12,a13),(a14,a15),(a16,a17)) ((v0,v1),(v2,v3),(v4,v5))).symm
 rw[<-f];clear f;refine Dp func311 λC hP hN=>?_;refine Gz ?_;refine WP.loopN [] 3 (λi st=>st.t 2=.ptr 2 0/\st.t 3=.ptr 3 0/\st.t 4=.ptr 4 0/\st.t 5=.ptr 5 0/\st.h 2=some (.box [.pv (Z a0),.pv (Z a1),.pv (Z a2),.pv (Z a3),.pv (Z a4),.pv (Z a5),.pv (Z a6),.pv (Z a7),.pv (Z a8),.pv (Z a9),.pv (Z a10),.pv (Z a11),.pv (Z a12),.pv (Z a13),.pv (Z a14),.pv (Z a15),.pv (Z a16),.pv (Z a17)] true false)/\st.h 3=some (.box [.pv (Z v0),.pv (Z v1),.pv (Z v2),.pv (Z v3),.pv (Z v4),.pv (Z v5)] true false)/\st.h 4=some (.box (c6 D 0) true false)/\st.t 6=.pv (Z i)/\st.h 5=some (.box (c6 D i) true false)) (by simp[c6]) ?_;rintro i st hi ⟨g2,c,g4,g5,d,e,a,g,b⟩;rcases eu hi with rfl|rfl|rfl|rfl
 all_goals (simp[c6]at g a b)
 .skip
  with_reducible repeat' (first|refine Sp.h ?_|((first|refine Wd ?_|refine Ss.h ?_|refine Sc.h (F9) ?_|refine Sc.h (Ds) ?_)<;>simp -implicitDefEqProofs [hP,hN,g2,c,g4,g5,g,d,e,a,b,j,c6]<;>try refine Ya ?_))
 .skip
  with_reducible repeat' (first|refine Sp.h ?_|((first|refine Wd ?_|refine Ss.h ?_|refine Sc.h (F9) ?_|refine Sc.h (Ds) ?_)<;>simp -implicitDefEqProofs [hP,hN,g2,c,g4,g5,g,d,e,a,b,k,c6]<;>try refine Ya ?_))
 .skip
  with_reducible repeat' (first|refine Sp.h ?_|((first|refine Wd ?_|refine Ss.h ?_|refine Sc.h (F9) ?_|refine Sc.h (Ds) ?_)<;>simp -implicitDefEqProofs [hP,hN,g2,c,g4,g5,g,d,e,a,b,l,c6]<;>try refine Ya ?_))
 .skip
  exact Gy
theorem Nk(x:Int):max (-65536) (min x 65536)=vH x:=by unfold vH;omega
theorem Rz{b6 F G H p q r s u v y z:Int}:aK 309 (C8 a0 a1 a2 a3 a4 a5 a6 a7 a8 a9 a10 a11 a12 a13 a14 a15 a16 a17) (C8 b0 b1 b2 b3 b4 b5 b6 F G H p q r s u v y z) (wI (zF (((a0,a1),(a2,a3),(a4,a5)),((a6,a7),(a8,a9),(a10,a11)),((a12,a13),(a14,a15),(a16,a17))) (((b0,b1),(b2,b3),(b4,b5)),((b6,F),(G,H),(p,q)),((r,s),(u,v),(y,z))))):=by
 obtain⟨A,I⟩:∃A:nV,A=(((a0,a1),(a2,a3),(a4,a5)),((a6,a7),(a8,a9),(a10,a11)),((a12,a13),(a14,a15),(a16,a17))):=⟨_,rfl⟩;obtain⟨B,J⟩:∃B:nV,B=(((b0,b1),(b2,b3),(b4,b5)),((b6,F),(G,H),(p,q)),((r,s),(u,v),(y,z))):=⟨_,rfl⟩;rw[<-I,<-J];obtain⟨N,j⟩:∃l:List AV,l=[a0,a1,a2,a3,a4,a5,a6,a7,a8,a9,a10,a11,a12,a13,a14,a15,a16,a17].map λx=>.pv (Z x):=⟨_,rfl⟩;obtain⟨O,m⟩:∃l:List AV,l=[b0,b1,b2,b3,b4,b5,b6,F,G,H,p,q,r,s,u,v,y,z].map λx=>.pv (Z x):=⟨_,rfl⟩;simp only[U9,WE]at j m
 have P:g3 (g3 A 0) 0=(a0,a1)/\g3 (g3 A 0) 1=(a2,a3)/\g3 (g3 A 0) 2=(a4,a5)/\g3 (g3 A 1) 0=(a6,a7)/\g3 (g3 A 1) 1=(a8,a9)/\g3 (g3 A 1) 2=(a10,a11)/\g3 (g3 A 2) 0=(a12,a13)/\g3 (g3 A 2) 1=(a14,a15)/\g3 (g3 A 2) 2=(a16,a17)/\g3 (fC B 0) 0=(b0,b1)/\g3 (fC B 1) 0=(b2,b3)/\g3 (fC B 2) 0=(b4,b5)/\g3 (fC B 0) 1=(b6,F)/\g3 (fC B 1) 1=(G,H)/\g3 (fC B 2) 1=(p,q)/\g3 (fC B 0) 2=(r,s)/\g3 (fC B 1) 2=(u,v)/\g3 (fC B 2) 2=(y,z):=by
  rw[I,J]
  repeat' (first|rfl|constructor)
 have f:∀i k,vH (fO (fO (fg (g3 (g3 A i) 0) (g3 (fC B k) 0)) (fg (g3 (g3 A i) 1) (g3 (fC B k) 1))) (fg (g3 (g3 A i) 2) (g3 (fC B k) 2))).1=(sY A B i k).1/\vH (fO (fO (fg (g3 (g3 A i) 0) (g3 (fC B k) 0)) (fg (g3 (g3 A i) 1) (g3 (fC B k) 1))) (fg (g3 (g3 A i) 2) (g3 (fC B k) 2))).2=(sY A B i k).2:=λi k=>by
  have e:=Vw FZ (wM (g3 A i) (fC B k));exact⟨(Vw Prod.fst e).symm,(Vw Prod.snd e).symm⟩
 clear I J;refine Dp func309 λC hP hN=>?_
 with_reducible repeat' (first|refine Sp.h ?_|((first|refine Wd ?_|refine Ss.h ?_|(refine Sb.h ?_ ?_ ?_<;>(try intro hgd)<;>try exact Xy))<;>simp -implicitDefEqProofs (maxSteps:=2000000) [hP,hN,j,m]<;>try refine Ya ?_)|refine X2 ?_ ?_|(refine Xd ?_ ?_<;>intro hcd<;>try exact Xx))
 refine WP.loopN [8] 3 (λi st=>rX N O A B st/\st.t 6=.pv (Z i)/\st.h 5=some (.box (cC A B i 0) true false)/\st.h 8=none) (by simp[rX,cC,iV,j,m]) ?_;rintro i st hi ⟨⟨g2,n,g4,g5,b,c,d⟩,E,g,D⟩;rw[j]at b;rw[m]at c;by_cases M:i=3
 .simp[cC,iV,M]at E d g
  with_reducible repeat' (first|refine Sp.h ?_|((first|refine Wd ?_|refine Ss.h ?_|(refine Sb.h ?_ ?_ ?_<;>(try intro hgd)<;>try exact Xy))<;>simp -implicitDefEqProofs (maxSteps:=2000000) [hP,hN,g2,n,g4,g5,E,b,c,d,g,D,zF,M]<;>try refine Ya ?_)|refine X2 ?_ ?_|(refine Xd ?_ ?_<;>intro hcd<;>try exact Xx))
 have a:i=0\/i=1\/i=2:=by omega
 rcases a with a|a|a
 all_goals
  with_reducible repeat' (first|refine Sp.h ?_|((first|refine Wd ?_|refine Ss.h ?_|(refine Sb.h ?_ ?_ ?_<;>(try intro hgd)<;>try exact Xy))<;>simp -implicitDefEqProofs (maxSteps:=2000000) [hP,hN,g2,n,g4,g5,E,b,c,d,g,D,a]<;>try refine Ya ?_)|refine X2 ?_ ?_|(refine Xd ?_ ?_<;>intro hcd<;>try exact Xx))
  refine WP.loopN [8] 3 (λk st=>rX N O A B st/\st.t 6=.pv (Z i)/\st.t 7=.pv (Z k)/\st.h 5=some (.box (cC A B i k) true false)/\st.h 8=none) (by simp[rX,cC,iV,j,m,g2,n,g4,g5,E,b,c,d,g,a]) ?_;clear g2 n g4 g5 E b c d g D;rintro k st Q ⟨⟨g2,n,g4,g5,b,c,d⟩,E,L,g,D⟩;rw[j]at b;rw[m]at c;have K:=f i k;rcases eu Q with o|o|o|o
  all_goals
   simp only[a,o,P]at K;simp[cC,iV,a,o]at L d g
   with_reducible repeat' (first|refine Sp.h ?_|((first|refine Wd ?_|refine Ss.h ?_|refine Sc.h (F9) ?_|refine Sc.h (Ds) ?_|(refine Sb.h ?_ ?_ ?_<;>(try intro hgd)<;>try exact Xy))<;>simp -implicitDefEqProofs (maxSteps:=2000000) [hP,hN,g2,n,g4,g5,E,L,b,c,d,g,D,rX,j,m,cC,iV,Nk,K,a,o]<;>try refine Ya ?_)|refine X2 ?_ ?_|(refine Xd ?_ ?_<;>intro hcd<;>try exact Xx))
theorem Jh:BA 205 (bY gJ):=by
 refine Dp func205 λC hP hN=>?_;have a:=@Ni;refine GT trivial ?_
 all_goals (try simp[gJ,bm,mu])
theorem Gb:aR 308 (V6 v0 v1 v2 v3 v4 v5) (bY (dT ((v0,v1),(v2,v3),(v4,v5)))):=by
 refine Dp func308 λC hP hN=>?_;have a:=@Ni;refine GT trivial ?_
 all_goals (try simp[dT])
theorem Ji(x:Int):aK 307 (Z x) (I a b) (bY (gV x (a,b))):=by
 have d:=Ry (a:=a) (b:=b) x;have c:gV x (a,b)=(fw x (a,b),bm):=rfl;rw[c];generalize fw x (a,b)=m at *;refine Dp func307 λC hP hN=>?_;refine Gz ?_
 all_goals (try simp[bm])
theorem RC{a b c d a22 e:Int}:aK 266 (xn a0 a1 a2 a3 a4 a5 a6 a7 a8 a9 a10 a11 a12 a13 a14 a15 a16 a17 a b c d a22 e) (V6 v0 v1 v2 v3 v4 v5) (bE (iF ((((a0,a1),(a2,a3),(a4,a5)),((a6,a7),(a8,a9),(a10,a11)),((a12,a13),(a14,a15),(a16,a17))),((a,b),(c,d),(a22,e))) ((v0,v1),(v2,v3),(v4,v5)))):=by
 refine Dp func266 λC hP hN=>?_;have f:=@Nj;have g:=@Nh;refine GT trivial ?_
 all_goals (try simp[iF])
theorem vO{a b c d a22 e b6 v x y f g i j k l m n o p q r s u:Int}:aK 263 (xn a0 a1 a2 a3 a4 a5 a6 a7 a8 a9 a10 a11 a12 a13 a14 a15 a16 a17 a b c d a22 e) (xn b0 b1 b2 b3 b4 b5 b6 v x y f g i j k l m n o p q r s u) (bY (nX ((((a0,a1),(a2,a3),(a4,a5)),((a6,a7),(a8,a9),(a10,a11)),((a12,a13),(a14,a15),(a16,a17))),((a,b),(c,d),(a22,e))) ((((b0,b1),(b2,b3),(b4,b5)),((b6,v),(x,y),(f,g)),((i,j),(k,l),(m,n))),((o,p),(q,r),(s,u))))):=by
 refine Dp func263 λC hP hN=>?_;have z:=@Nj;have A:=@Nh;have B:=@Rz;refine GT trivial ?_
 all_goals (try simp[nX,iF])
theorem RD(j:J)(o:0<=j.kind)(h6:j.kind<=6):aK 262 (bu j) (I a b) (bY (mv j (a,b))):=by
 have n:=Ng j.ox j.oy j.oz;have l:=Jh;have m:mv j (a,b)=nX (dT (dS (j.ox,j.oy,j.oz))) (fX j.kind (a,b)):=rfl;rw[m];generalize dS (j.ox,j.oy,j.oz)=pv at *;have k:=Gb (v0:=pv.1.1) (v1:=pv.1.2) (v2:=pv.2.1.1) (v3:=pv.2.1.2) (v4:=pv.2.2.1) (v5:=pv.2.2.2);have k:aP prog 308 [.pv (bE pv)] [] [] (.pv (bY (dT pv))):=k;generalize dT pv=sp at *;generalize i:gJ=g at *
 have key:j.kind=0\/j.kind=1\/j.kind=2\/j.kind=3\/j.kind=4\/j.kind=5\/j.kind=6:=by omega
 rcases key with c|c|c|c|c|c|c
 .have d:fX j.kind (a,b)=g:=by simp[fX,c,i]
  have e:=l;rw[d];generalize g=mp at *;refine Dp func262 λC hP hN=>?_;have f:=@vO;exact GS c
 .have d:fX j.kind (a,b)=gV 0 (a,b):=by simp[fX,c]
  have e:=Ji (a:=a) (b:=b) 0;rw[d];generalize gV 0 (a,b)=mp at *;refine Dp func262 λC hP hN=>?_;have f:=@vO;exact GS c
 .have d:fX j.kind (a,b)=gV 1 (a,b):=by simp[fX,c]
  have e:=Ji (a:=a) (b:=b) 1;rw[d];generalize gV 1 (a,b)=mp at *;refine Dp func262 λC hP hN=>?_;have f:=@vO;exact GS c
 .have d:fX j.kind (a,b)=gV 2 (a,b):=by simp[fX,c]
  have e:=Ji (a:=a) (b:=b) 2;rw[d];generalize gV 2 (a,b)=mp at *;refine Dp func262 λC hP hN=>?_;have f:=@vO;exact GS c
 .have d:fX j.kind (a,b)=dT ((a,b),(0,0),(0,0)):=by simp[fX,c]
  have e:=Gb (v0:=((a,b),(0,0),(0,0)).1.1) (v1:=((a,b),(0,0),(0,0)).1.2) (v2:=((a,b),(0,0),(0,0)).2.1.1) (v3:=((a,b),(0,0),(0,0)).2.1.2) (v4:=((a,b),(0,0),(0,0)).2.2.1) (v5:=((a,b),(0,0),(0,0)).2.2.2);rw[d];generalize dT ((a,b),(0,0),(0,0))=mp at *;refine Dp func262 λC hP hN=>?_;have f:=@vO;exact GS c
 .have d:fX j.kind (a,b)=dT ((0,0),(a,b),(0,0)):=by simp[fX,c]
  have e:=Gb (v0:=((0,0),(a,b),(0,0)).1.1) (v1:=((0,0),(a,b),(0,0)).1.2) (v2:=((0,0),(a,b),(0,0)).2.1.1) (v3:=((0,0),(a,b),(0,0)).2.1.2) (v4:=((0,0),(a,b),(0,0)).2.2.1) (v5:=((0,0),(a,b),(0,0)).2.2.2);rw[d];generalize dT ((0,0),(a,b),(0,0))=mp at *;refine Dp func262 λC hP hN=>?_;have f:=@vO;exact GS c
 .have d:fX j.kind (a,b)=dT ((0,0),(0,0),(a,b)):=by simp[fX,c]
  have e:=Gb (v0:=((0,0),(0,0),(a,b)).1.1) (v1:=((0,0),(0,0),(a,b)).1.2) (v2:=((0,0),(0,0),(a,b)).2.1.1) (v3:=((0,0),(0,0),(a,b)).2.1.2) (v4:=((0,0),(0,0),(a,b)).2.2.1) (v5:=((0,0),(0,0),(a,b)).2.2.2);rw[d];generalize dT ((0,0),(0,0),(a,b))=mp at *;refine Dp func262 λC hP hN=>?_;have f:=@vO;exact GS c
theorem vG(js:List J)(ms:List Ms)(l:Int)(a:js.length<=9223372036854775807):aK 103 (iN js ms) (Z l) (B (dt js.length l)):=by
 refine Dp func103 λC hP hN=>?_
 with_reducible repeat' (first|refine Sp.h ?_|((first|refine Ss.h ?_|(refine Sb.h ?_ ?_ ?_<;>(try intro hgd)<;>try exact Xy))<;>simp -implicitDefEqProofs (maxSteps:=2000000) [hP,hN])|refine X2 ?_ ?_|(refine Xd ?_ ?_<;>intro hcd<;>try exact Xx))
 all_goals (simp only[dt,L4,Ue]at *;first|done|(simp;intros;omega)|(simp;omega)|omega)
theorem Qn(a b:Bool):ak prog (Op.equal 4 (.bool a) (.bool b))=some (a==b):=by cases a<;>cases b<;>kernel_rfl
def Kf(x:AV):Option Bool:=match x with
 |.pv (.val (.bool a))=>some a
 |_=>none
theorem CW{x:AV}{a:Bool}(h:Kf x=some a):x=.pv (B a):=by
 unfold Kf at h;split at h
 .injection h with h;subst h;rfl
 .cases h
def FX(x y:AV)(fb:Option cK):Option cK:=match Kf x,Kf y with
 |some a,some b=>some (.pv (.val (.bool !(a==b))),[])
 |_,_=>fb
@[simp] theorem Od(a b:Bool)(fb:Option cK):FX (.pv (.val (.bool a))) (.pv (.val (.bool b))) fb=some (.pv (.val (.bool !(a==b))),[]):=rfl
@[simp] theorem TS(x y:Operand):
 bz prog ⟨dst,.binOp .neq 4 x y 4,ty,pos,aft,g⟩ ρ=FX (ρ x) (ρ y) (jq prog ⟨dst,.binOp .neq 4 x y 4,ty,pos,aft,g⟩ ρ):=by
 unfold FX;split
 .rename_i a b c d
  exact DO rfl (CW c) (CW d) (by kernel_rfl) (Qn a b)
 .rfl
def kx(xs:List Int)(x:Int):Bool:=xs.any (λy=>y==x)
theorem Mw(xs:List Int)(x:Int)(m:xs.length<=9223372036854775807):aK 314 (zs xs) (Z x) (B (kx xs x)):=by
 have hd:kx xs x=xs.any (λy=>y==x):=rfl;rw[hd];refine Dp func314 λC hP hN=>?_;refine Gz ?_;refine WP.loopN [] xs.length (λi st=>st.t 0=.pv (zs xs)/\st.t 1=.pv (Z x)/\st.t 5=.pv (Z i)/\∀k y,k<i->xs[k]?=some y->(y==x)=false) (by simp) ?_;rintro i st hi ⟨g0,g1,g5,hq⟩;by_cases a:i<xs.length
 .have n:=aj a m
  generalize d:xs[i]=v at *
  have f:xs[i]?=some v:=by rw[an a,d]
  have c:=F1 (p:=λy=>y==x) f hq;have j:=I2 (p:=λy=>y==x) f
  cases e:(v==x)with
  |true=>
   have g:=j e;exact Gy
  |false=>
   have b:=c e;refine Gz ?_
   all_goals (intro k y l g;simpa using b k y l g)
 .have hn:=I3 hq a
  exact Gy
def sx(js:List J)(k:Int):Int:=((js[k.toNat]?).map J.parent).getD (-1)
def ga(js:List J):Nat->Int->List Int
 |0,_=>[]
 |f+1,k=>if k=-1 then[]else ga js f (sx js k)++[k]
theorem wH(b:rq js){k:Int}(c:0<=k)(h1:k<js.length):∃j,js[k.toNat]?=some j/\sx js k=j.parent/\-1<=j.parent/\j.parent<k:=by
 have a:js[k.toNat]?=some (js[k.toNat]'(by omega)):=an _;have:=b _ _ a;unfold Au at this;refine⟨_,a,by simp[sx,a],by omega,by omega⟩
theorem CX{js:List J}(e:rq js):∀(f:Nat)(k:Int),-1<=k->k<js.length->(k+1).toNat<=f->ga js (f+1) k=ga js f k
 |0,k,g,d,hf=>by
  have:k=-1:=by omega
  subst this;simp[ga]
 |f+1,k,g,d,hf=>by
  by_cases c:k=-1
  .subst c;simp[ga]
  .obtain⟨j,_,hp,a,b⟩:=wH e (by omega) d
   rw[ga,TQ c,CX e f (sx js k) (by omega) (by omega) (by omega),ga,TQ c]
theorem CY(c:rq js)(e:js.length<=10){k:Int}(d:0<=k)(h1:k<js.length):ga js 11 k=ga js 11 (sx js k)++[k]:=by
 obtain⟨j,_,hp,a,b⟩:=wH c d h1;rw[ga,TQ (by omega),CX c 10 (sx js k) (by omega) (by omega) (by omega)]
theorem At{js:List J}:∀(f:Nat)(k:Int),(ga js f k).length<=f
 |0,k=>by simp[ga]
 |f+1,k=>by
  have:=At (js:=js) f (sx js k);rw[ga];split
  .simp
  .simp;omega
theorem Mx(js:List J)(ms:List Ms)(l:Int)(F:js.length<=10)(G:ms.length<=9223372036854775807)(u:aW js ms=0)(y:dt js.length l=true):aK 313 (iN js ms) (Z l) (zs (ga js 11 l)):=by
 have D:=Cz js ms (by omega) G;have B:=vG js ms l (by omega);rw[u]at D;rw[y]at B;obtain⟨x,_,_⟩:=rY u;simp only[dt,An,L4]at y;refine Dp func313 λC hP hN=>?_;refine Gz ?_;refine WP.nilsl 5 (by simp) ?_;refine WP.loopN [26] (l+1).toNat (λi st=>∃(A:List Int)(k:Int),st.t 2=.ptr 2 0/\st.h 2=some (.box [.pv (.sl (js.map bu)),.pv (.sl (ms.map cG))] true false)/\st.t 5=.pv (zs A)/\st.t 6=.pv (Z k)/\st.h 26=none/\st.h 28=none/\ga js 11 k++A=ga js 11 l/\-1<=k/\k<js.length/\(k+1).toNat+i<=(l+1).toNat/\A.length<=i) ⟨[],l,by simp;omega⟩ ?_;rintro i st hi ⟨A,k,g2,f,g5,s,b,c,p,K,z,L,E⟩;by_cases a:k=-1
 .subst a
  have q:A=ga js 11 l:=by rw[<-p];simp[ga]
  subst q;exact Gy
 .obtain⟨j,m,hp,H,pb⟩:=wH x (by omega) z
  have d:(k != -1)=true:=by simp[a]
  obtain⟨n,rfl⟩:∃n:Nat,k=n:=⟨k.toNat,by omega⟩
  have g:n<js.length:=by omega
  have o:∀h,js[n]'h=j:=λh=>by rw[Uk,an h]at m;exact UM m
  rw[Uk]at m;have r:=CY x F (k:=n) (by omega) z;rw[r,U7,hp]at p
  have v:A.length<=9:=by omega
  have I:(A.map Z).length=A.length:=by simp
  with_reducible iterate 8 any_goals (first|refine Sp.h ?_|((first|refine Wh [26] ?_|refine Ss.h ?_|(refine Sb.h ?_ ?_ ?_<;>(try intro hgd)<;>try exact Xy))<;>simp -implicitDefEqProofs (maxSteps:=2000000) [hP,hN,g2,f,g5,s,b,c,a,d,m,o,g,show(1+A.length)*8<=140737488355328 by omega,show(A.length+1)*8<=140737488355328 by omega,show 1+A.length<=9223372036854775807 by omega,show A.length+1<=9223372036854775807 by omega])|refine X2 ?_ ?_|(refine Xd ?_ ?_<;>intro hcd<;>try exact Xx))
  refine WP.freeze 5 (k:=26) (e:=3) (sz:=1) (fz:=0) (xs:=((n:Int)::A).map Z) (by simp) (by simp;omega) ?_;refine GT (s6 g2 f g5 s b c a d m (gA o g)) ?_;exact⟨by omega,(n:Int)::A,by simp,by simpa using p,H,by omega,by omega,by simp;omega⟩
def Ho(js:List J)(a b:Int)(k:Nat):Bool:=kx (ga js 11 a) k !=kx (ga js 11 b) k
def pR(js:List J)(a b:Int)(n:Nat):List Int:=((List.range n).filter (Ho js a b)).map Int.ofNat
theorem IS(js:List J)(a b:Int)(n:Nat):pR js a b (n+1)=pR js a b n++(if Ho js a b n=true then[(n:Int)]else[]):=by
 simp only[pR,Vq,VJ,V7]
 congr 1
 cases h:Ho js a b n<;>simp[h]
theorem EQ(js:List J)(a b:Int)(n:Nat):(pR js a b n).length<=n:=by
 simp only[pR,Ux];exact VH (Ws _ _) (by simp)
theorem Qo(js:List J)(ms:List Ms)(a b:Int)(u:js.length<=10)(n:ms.length<=9223372036854775807)(l:aW js ms=0)(r:dt js.length a=true)(s:dt js.length b=true):kY 268 (iN js ms) (Z a) (Z b) (zs (pR js a b js.length)):=by
 have B:=Cz js ms (by omega) n;have y:=vG js ms a (by omega);have z:=vG js ms b (by omega);have F:=Mx js ms a u n l r;have G:=Mx js ms b u n l s;have H:=At (js:=js) 11 a;have I:=At (js:=js) 11 b;rw[l]at B;rw[r]at y;rw[s]at z;refine Dp func268 λC hP hN=>?_;refine sP [9] trivial ?_;refine WP.loopN [] js.length (λi st=>st.t 3=.ptr 3 0/\st.h 3=some (.box [.pv (.sl (js.map bu)),.pv (.sl (ms.map cG))] true false)/\st.t 7=.pv (zs (ga js 11 a))/\st.t 8=.pv (zs (ga js 11 b))/\st.t 10=.pv (Z i)/\st.t 9=.arr 9 (pR js a b i).length/\st.h 9=some (.row 3 1 ((pR js a b i).map Z) 0)) (by simp[pR]) ?_;rintro i st hi ⟨g3,f,o,p,e,q,g⟩;by_cases d:i<js.length
 .have v:=aj d (by omega)
  have hS:=IS js a b i;have hL:=EQ js a b i;have hd:Ho js a b i=(kx (ga js 11 a) i !=kx (ga js 11 b) i):=rfl;have j:=Mw (ga js 11 a) i (by omega);have k:=Mw (ga js 11 b) i (by omega)
  have c:(i:Int)<(js.length:Int):=by omega
  generalize ga js 11 a=A at *;generalize ga js 11 b=x at *;cases D:kx A i<;>cases E:kx x i<;>rw[D]at j hd<;>rw[E]at k hd<;>rw[hd]at hS<;>simp only[bne_self_eq_false,T5,Uf,V9,show(true !=false)=true from rfl,show(false !=true)=true from rfl,Ul]at hS
  all_goals (generalize pR js a b i=P at *;rw[hS])
  .skip
   exact Gy
  .skip
   with_reducible repeat' (first|refine Sp.h ?_|((first|refine Wd ?_|refine Ss.h ?_|refine Sc.h (j) ?_|refine Sc.h (k) ?_|(refine Sb.h ?_ ?_ ?_<;>(try intro hgd)<;>try exact Xy))<;>simp -implicitDefEqProofs (maxSteps:=2000000) [hP,hN,g3,f,o,p,e,q,g,d,c,v,show(P.length+1)*8<=140737488355328 by omega,show P.length<=9223372036854775806 by omega]<;>try refine Ya ?_)|refine X2 ?_ ?_|(refine Xd ?_ ?_<;>intro hcd<;>try exact Xx))
  .skip
   with_reducible repeat' (first|refine Sp.h ?_|((first|refine Wd ?_|refine Ss.h ?_|refine Sc.h (j) ?_|refine Sc.h (k) ?_|(refine Sb.h ?_ ?_ ?_<;>(try intro hgd)<;>try exact Xy))<;>simp -implicitDefEqProofs (maxSteps:=2000000) [hP,hN,g3,f,o,p,e,q,g,d,c,v,show(P.length+1)*8<=140737488355328 by omega,show P.length<=9223372036854775806 by omega]<;>try refine Ya ?_)|refine X2 ?_ ?_|(refine Xd ?_ ?_<;>intro hcd<;>try exact Xx))
  .skip
   exact Gy
 .have m:i=js.length:=by omega
  subst m;exact Gy
def po(js:List J)(k:Nat):Bool:=match js[k]? with
 |some j=>decide (j.lo<j.hi)
 |none=>false
def uL(js:List J)(a b:Int):Bool:=(pR js a b js.length).all λk=>!po js k.toNat
theorem Qp(js:List J)(ms:List Ms)(a b:Int)(L:js.length<=10)(D:ms.length<=9223372036854775807)(u:aW js ms=0)(y:dt js.length a=true)(z:dt js.length b=true):kY 207 (iN js ms) (Z a) (Z b) (B (uL js a b)):=by
 have G:=Cz js ms (by omega) D;have E:=vG js ms a (by omega);have F:=vG js ms b (by omega);have Q:=Qo js ms a b L D u y z;have R:=EQ js a b js.length;rw[u]at G;rw[y]at E;rw[z]at F;have hd:uL js a b=(pR js a b js.length).all λk=>!po js k.toNat:=rfl
 have f:∀x∈pR js a b js.length,∃n:Nat,x=n/\n<js.length:=λx d=>by
  simp only[pR,Ur,U3,UH]at d;obtain⟨n,hn,rfl⟩:=d;exact⟨n,rfl,hn.1⟩
 rw[hd];generalize pR js a b js.length=P at *;refine Dp func207 λC hP hN=>?_;refine Gz ?_;refine WP.loopN [] P.length (λi st=>st.t 3=.ptr 3 0/\st.h 3=some (.box [.pv (.sl (js.map bu)),.pv (.sl (ms.map cG))] true false)/\st.t 7=.pv (zs P)/\st.t 8=.pv (Z i)/\∀k x,k<i->P[k]?=some x->(!po js x.toNat)=true) (by simp) ?_;rintro i st hi ⟨g3,H,M,N,hq⟩;by_cases c:i<P.length
 .have O:=aj c (by omega)
  obtain⟨n,s,o⟩:=f P[i] (Uo c);generalize r:P[i]=v at *
  have d:P[i]?=some v:=by rw[an c,r]
  have q:=mO (p:=λk=>!po js k.toNat) d hq;subst s;obtain⟨j,m⟩:∃j,js[n]?=some j:=⟨_,an o⟩
  have I:∀h,js[n]'h=j:=λh=>by rw[an h]at m;exact UM m
  have g:po js n=decide (j.lo<j.hi):=by simp[po,m]
  by_cases A:j.lo<j.hi
  .have e:(P.all λk=>!po js k.toNat)=false:=by
    rw[Vz];exact⟨_,Is d,by simp[g,A]⟩
   exact Gy
  .have l:=q (by simp[g,A])
   refine Gz ?_
   all_goals (intro k x K d;simpa using l k x K d)
 .have e:(P.all λk=>!po js k.toNat)=true:=oI hq c
  exact Gy
theorem Qq(s:Sce)(a b:Int)(D:s.sks.length<=9223372036854775807):kY 208 (eM s) (Z a) (Z b) (B (j7 s a b)):=by
 have o:j7 s a b=s.sks.any (vK a b):=rfl;rw[o];refine Dp func208 λC hP hN=>?_;refine Gz ?_;refine WP.loopN [8] s.sks.length (λi st=>st.t 3=.ptr 3 0/\st.h 3=some (.box [.pv (.sl (s.js.map bu)),.pv (.sl (s.ms.map cG)),.pv (.sl (s.shs.map cE)),.pv (.sl (s.sks.map aC))] true false)/\st.t 1=.pv (Z a)/\st.t 2=.pv (Z b)/\st.t 7=.pv (Z i)/\st.h 8=none/\∀k x,k<i->s.sks[k]?=some x->vK a b x=false) (by simp) ?_;rintro i st hi ⟨g3,m,g1,g2,A,n,hq⟩;by_cases c:i<s.sks.length
 .have E:=aj c D
  have d:(i:Int)<(s.sks.length:Int):=by omega
  generalize j:s.sks[i]=v at *
  have f:s.sks[i]?=some v:=by rw[an c,j]
  have e:=F1 (p:=vK a b) f hq;have l:=I2 (p:=vK a b) f;have hp:vK a b v=((v.1==a&&v.2==b)||(v.1==b&&v.2==a)):=rfl;cases q:(v.1==a)<;>cases r:(v.2==b)<;>cases y:(v.1==b)<;>cases z:(v.2==a)<;>rw[q,r,y,z]at hp<;>simp only[Vl,Vo,UE,Bool.or_false,Bool.false_or,Bool.or_self,Bool.or_true,Bool.true_or]at hp
  all_goals (first|(have g:=e hp;clear e l)|(have G:=l hp;clear e l))
  all_goals
   with_reducible repeat' (first|refine Sp.h ?_|((first|refine Ss.h ?_|(refine Sb.h ?_ ?_ ?_<;>(try intro hgd)<;>try exact Xy))<;>simp -implicitDefEqProofs (maxSteps:=2000000) [hP,hN,g3,m,g1,g2,A,n,c,d,E,f,j,q,r,y,z])|refine X2 ?_ ?_|(refine Xd ?_ ?_<;>intro hcd<;>try exact Xx))
  all_goals (first|exact λk u v F f=>g k (u,v) (by omega) f|exact⟨_,_,Is f,hp⟩)
 .have:=I3 hq c
  have d:¬(i:Int)<(s.sks.length:Int):=by omega
  exact Gy
theorem Kg(s:Sce)(P:ScL s):aR 50 (eM s) (Z (bi s)):=by
 have cr:=Cz s.js s.ms P.js P.ms;obtain⟨R,l2,l3,l4,l5⟩:=P;by_cases H:aW s.js s.ms=0
 case neg=>
  have hf:bi s=aW s.js s.ms:=by simp[bi,H]
  have ad:(aW s.js s.ms !=0)=true:=by simp[H]
  rw[hf];generalize aW s.js s.ms=r at *;refine Dp func50 λC hP hN=>?_;exact Gy
 rw[H]at cr;by_cases W:24<s.shs.length
 .have hf:bi s=901:=by simp[bi,H,W]
  have N:(24:Int)<s.shs.length:=by omega
  rw[hf];refine Dp func50 λC hP hN=>?_;exact Gy
 have N:¬(24:Int)<s.shs.length:=by omega
 have hf:bi s=if gP s.js.length s.shs≠0 then gP s.js.length s.shs else if 64<s.sks.length then 903 else if s.sks.all (jl s.js.length)=true then 0 else 903:=by simp only[bi,H,W,Uf,ne_eq,Vv]
 rw[hf];refine Dp func50 λC hP hN=>?_;refine Gz ?_;refine WP.loopN [5] s.shs.length (λi st=>st.t 1=.ptr 1 0/\st.h 1=some (.box [.pv (.sl (s.js.map bu)),.pv (.sl (s.ms.map cG)),.pv (.sl (s.shs.map cE)),.pv (.sl (s.sks.map aC))] true false)/\st.t 4=.pv (Z i)/\st.h 5=none/\∀k x,k<i->s.shs[k]?=some x->di s.js.length x=0) (by simp) ?_;rintro i st hi ⟨g1,o,g4,E,hq⟩;by_cases g:i<s.shs.length
 .have X:=aj g l3
  have l:(i:Int)<(s.shs.length:Int):=by omega
  have q:=uM (n:=s.js.length) g hq;have y:=λhe=>mO (p:=λx=>di s.js.length x==0) (an g) (λk x D u=>by simp[hq k x D u]) he;generalize B:s.shs[i]=v at *
  have u:s.shs[i]?=some v:=by rw[an g,B]
  have V:=vG s.js s.ms v.link R;have U:=JZ v.rad 1 1048576;have lv:=l5 v (Is u)
  cases D:dt s.js.length v.link with
  |false=>
   have e:di s.js.length v=902:=by simp[di,D]
   have d:=q (by rw[e];decide);rw[e]at d;rw[D]at V;exact Gy
   all_goals simp[d]
  |true=>
   rw[D]at V
   cases K:bf v.rad 1 1048576 with
   |false=>
    have e:di s.js.length v=902:=by
     unfold di;rw[TQ];simp only[bf]at K;simp only[An,L4];simp at K;omega
    have d:=q (by rw[e];decide);rw[e]at d;rw[K]at U;exact Gy
    all_goals simp[d]
   |true=>
    rw[K]at U;by_cases h3:(v.pts.length:Int)<1
    .have e:di s.js.length v=902:=by
      unfold di;rw[TQ];simp only[An,L4];omega
     have d:=q (by rw[e];decide);rw[e]at d;exact Gy
     all_goals simp[d]
    by_cases h4:(8:Int)<v.pts.length
    .have e:di s.js.length v=902:=by
      unfold di;rw[TQ];simp only[An,L4];omega
     have d:=q (by rw[e];decide);rw[e]at d;exact Gy
     all_goals simp[d]
    have ar:¬v.pts.length<1:=by omega
    have a1:¬8<v.pts.length:=by omega
    have e:di s.js.length v=if v.pts.all (av 4194304)=true then 0 else 805:=by
     unfold di;rw[T8];simp only[bf,An,L4]at K|-;exact⟨⟨⟨⟨D,by omega⟩,by omega⟩,by omega⟩,by omega⟩
    rw[e]at q y;refine Gz ?_;refine WP.loopN [] v.pts.length (λk st=>st.t 1=.ptr 1 0/\st.h 1=some (.box [.pv (.sl (s.js.map bu)),.pv (.sl (s.ms.map cG)),.pv (.sl (s.shs.map cE)),.pv (.sl (s.sks.map aC))] true false)/\st.t 4=.pv (Z i)/\st.t 5=.ptr 5 0/\st.h 5=some (.box [.pv (Z v.link),.pv (Z v.rad),.pv (aG v.pts)] true false)/\st.t 6=.pv (Z k)/\∀j x,j<k->v.pts[j]?=some x->av 4194304 x=true) (by simp[g1,o,g4]) ?_;clear g1 o g4 E;rintro k st a5 ⟨g1,o,g4,g5,E,g6,hn⟩;by_cases F:k<v.pts.length
    .have a6:=aj F lv
     have J:(k:Int)<(v.pts.length:Int):=by omega
     generalize Q:v.pts[k]=p at *
     have Y:v.pts[k]?=some p:=by rw[an F,Q]
     have M:=vm p.1 p.2.1 p.2.2 4194304 (by decide) (by decide);have O:av 4194304 p=fS p.1 p.2.1 p.2.2 4194304:=rfl;rw[<-O]at M;have L:=mO (p:=av 4194304) Y hn
     cases z:av 4194304 p with
     |true=>
      rw[z]at M;have m:=L z;refine Gz ?_
      all_goals (intro j a b c hj G;exact m j (a,b,c) (by omega) G)
     |false=>
      rw[z]at M
      have f:v.pts.all (av 4194304)=false:=by
       rw[Vz];exact⟨p,Is Y,by simp[z]⟩
      rw[f]at q;have d:=q (by decide);simp only[T5,Uf]at d;exact Gy
      all_goals simp[d]
    .have f:v.pts.all (av 4194304)=true:=oI hn F
     have J:¬(k:Int)<(v.pts.length:Int):=by omega
     rw[f]at y
     have m:∀k x,k<i+1->s.shs[k]?=some x->di s.js.length x=0:=λk x D u=>by simpa using y (by simp) k x D u
     refine Gz ?_
     all_goals exact m
 .have hz:gP s.js.length s.shs=0:=ro (λk x u=>hq k x (by have:=(th.1 u).1;omega) u)
  have l:¬(i:Int)<(s.shs.length:Int):=by omega
  rw[hz];by_cases a2:64<s.sks.length
  .have I:(64:Int)<s.sks.length:=by omega
   exact Gy
  .have I:¬(64:Int)<s.sks.length:=by omega
   refine Gz ?_;refine WP.loopN [] s.sks.length (λi st=>st.t 1=.ptr 1 0/\st.h 1=some (.box [.pv (.sl (s.js.map bu)),.pv (.sl (s.ms.map cG)),.pv (.sl (s.shs.map cE)),.pv (.sl (s.sks.map aC))] true false)/\st.t 7=.pv (Z i)/\∀k x,k<i->s.sks[k]?=some x->jl s.js.length x=true) (by simp[g1,o]) ?_;clear g1 o g4 E hq g l;rintro i st hi ⟨g1,o,g7,hq⟩;by_cases g:i<s.sks.length
   .have X:=aj g l4
    have l:(i:Int)<(s.sks.length:Int):=by omega
    generalize B:s.sks[i]=v at *
    have u:s.sks[i]?=some v:=by rw[an g,B]
    have y:=mO (p:=jl s.js.length) u hq;have hp:jl s.js.length v=(dt s.js.length v.1&&dt s.js.length v.2):=rfl;have S:=vG s.js s.ms v.1 R;have T:=vG s.js s.ms v.2 R
    cases z:jl s.js.length v with
    |true=>
     have A:=hp;rw[z]at A;simp only[Bool.true_eq,An]at A;rw[A.1]at S;rw[A.2]at T;have m:=y z;refine Gz ?_
     all_goals (intro j a b hj G;exact m j (a,b) (by omega) G)
    |false=>
     have f:s.sks.all (jl s.js.length)=false:=by
      rw[Vz];exact⟨v,Is u,by simp[z]⟩
     rw[f];rw[z]at hp
     cases k1:dt s.js.length v.1<;>cases k2:dt s.js.length v.2<;>rw[k1]at S hp<;>rw[k2]at T hp<;>try (exact absurd hp (by decide))
     all_goals
      exact GS (s5 g1 o g7 g l X u B)
   .have f:s.sks.all (jl s.js.length)=true:=oI hq g
    have l:¬(i:Int)<(s.sks.length:Int):=by omega
    rw[f];exact Gy
theorem RE(s:Sh)(E:s.pts.length<=9223372036854775807):aR 265 (cE s) (B (gp s)):=by
 have hd:gp s=(decide (1<=s.rad)&&decide (s.rad<=1048576)&&decide (1<=s.pts.length)&&decide (s.pts.length<=8)&&s.pts.all (av 4194304)):=rfl;by_cases A:s.rad<1\/1048576<s.rad\/(s.pts.length:Int)<1\/(8:Int)<s.pts.length
 .have hf:gp s=false:=by
   cases h:gp s with
   |false=>rfl
   |true=>
    rw[hd]at h;simp only[An,L4]at h;omega
  rw[hf];rcases A with l|l|l|l
  all_goals
   refine Dp func265 λC hP hN=>?_;exact Gy
 have l:¬s.rad<1:=by omega
 have G:¬1048576<s.rad:=by omega
 have H:¬(s.pts.length:Int)<1:=by omega
 have I:¬(8:Int)<s.pts.length:=by omega
 have v:¬s.pts.length<1:=by omega
 have y:¬8<s.pts.length:=by omega
 have hf:gp s=s.pts.all (av 4194304):=by
  rw[hd,UD (by omega),UD (by omega),UD (by omega),UD (by omega)];rfl
 rw[hf];refine Dp func265 λC hP hN=>?_;refine Gz ?_;refine WP.loopN [] s.pts.length (λk st=>st.t 1=.ptr 1 0/\st.h 1=some (.box [.pv (Z s.link),.pv (Z s.rad),.pv (aG s.pts)] true false)/\st.t 3=.pv (Z k)/\∀j x,j<k->s.pts[j]?=some x->av 4194304 x=true) (by simp) ?_;rintro k st D ⟨g1,z,g3,hn⟩;by_cases d:k<s.pts.length
 .have F:=aj d E
  have f:(k:Int)<(s.pts.length:Int):=by omega
  generalize r:s.pts[k]=p at *
  have u:s.pts[k]?=some p:=by rw[an d,r]
  have n:=vm p.1 p.2.1 p.2.2 4194304 (by decide) (by decide);have o:av 4194304 p=fS p.1 p.2.1 p.2.2 4194304:=rfl;rw[<-o]at n;have i:=mO (p:=av 4194304) u hn
  cases m:av 4194304 p with
  |true=>
   rw[m]at n;have g:=i m;refine Gz ?_
   all_goals (intro j a b c J q;exact g j (a,b,c) (by omega) q)
  |false=>
   rw[m]at n
   have e:s.pts.all (av 4194304)=false:=by
    rw[Vz];exact⟨p,Is u,by simp[m]⟩
   exact Gy
 .have e:s.pts.all (av 4194304)=true:=oI hn d
  have f:¬(k:Int)<(s.pts.length:Int):=by omega
  exact Gy
theorem RF(h:Sh)(p:nW)(n:gp h=true):aK 206 (cE h) (bY p) (aB (eF h p)):=by
 have h8:h.pts.length<=8:=by
  simp only[gp,An,L4]at n;omega
 have cc:=RE h (by omega);rw[n]at cc;have c:eF h p=h.pts.map λq=>iF p (dS q):=rfl;have r:∀v:aq,aP prog 266 [.pv (bY p),.pv (bE v)] [] [] (.pv (bE (iF p v))):=λv=>RC;have s:∀q:Vc,aP prog 267 [.pv (am q)] [] [] (.pv (bE (dS q))):=λq=>Ng q.1 q.2.1 q.2.2;have k:(bY p).cells=[Z p.1.1.1.1,Z p.1.1.1.2,Z p.1.1.2.1.1,Z p.1.1.2.1.2,Z p.1.1.2.2.1,Z p.1.1.2.2.2,Z p.1.2.1.1.1,Z p.1.2.1.1.2,Z p.1.2.1.2.1.1,Z p.1.2.1.2.1.2,Z p.1.2.1.2.2.1,Z p.1.2.1.2.2.2,Z p.1.2.2.1.1,Z p.1.2.2.1.2,Z p.1.2.2.2.1.1,Z p.1.2.2.2.1.2,Z p.1.2.2.2.2.1,Z p.1.2.2.2.2.2,Z p.2.1.1,Z p.2.1.2,Z p.2.2.1.1,Z p.2.2.1.2,Z p.2.2.2.1,Z p.2.2.2.2]:=rfl;refine Dp func206 λC hP hN=>?_;refine sP [5] trivial ?_;refine WP.loopN [] h.pts.length (λi st=>st.t 2=.ptr 2 0/\st.t 3=.ptr 3 0/\st.h 2=some (.box [.pv (Z h.link),.pv (Z h.rad),.pv (aG h.pts)] true false)/\st.h 3=some (.box ((bY p).cells.map .pv) true false)/\st.t 6=.pv (Z i)/\st.t 5=.arr 5 i/\st.h 5=some (.row 281 6 (((eF h p).map bE).take i) 0)) (by simp) ?_;rintro i st hi ⟨g2,g3,g,d,m,g5,e⟩
 have l:min i (eF h p).length=i:=by rw[c,Ux];omega
 by_cases b:i<h.pts.length
 .have x:=aj b (by omega)
  have a:(i:Int)<(h.pts.length:Int):=by omega
  generalize j:h.pts[i]=q at *
  have o:h.pts[i]?=some q:=by rw[an b,j]
  have hS:((eF h p).map bE).take (i+1)=((eF h p).map bE).take i++[bE (iF p (dS q))]:=by
   rw[List.take_succ,TR,c,TR,o];rfl
  have u:=s q;have cv:=r (dS q);rw[hS]
  have hL:(((eF h p).map bE).take i).length=i:=by simp[l]
  generalize((eF h p).map bE).take i=R at *;generalize iF p (dS q)=y at *;generalize dS q=w at *;rw[k]at d
  with_reducible repeat' (first|refine Sp.h ?_|((first|refine Wd ?_|refine Ss.h ?_|refine Sc.h (u) ?_|refine Sc.h (cv) ?_|(refine Sb.h ?_ ?_ ?_<;>(try intro hgd)<;>try exact Xy))<;>simp -implicitDefEqProofs (maxSteps:=2000000) [hP,hN,g2,g3,g,d,m,g5,e,b,a,o,j,x,hL,show(i+1)*48<=140737488355328 by omega,show i<=9223372036854775806 by omega]<;>try refine Ya ?_)|refine X2 ?_ ?_|(refine Xd ?_ ?_<;>intro hcd<;>try exact Xx))
 .have a:¬(i:Int)<(h.pts.length:Int):=by omega
  have f:((eF h p).map bE).take i=(eF h p).map bE:=Us (by rw[Ux,c,Ux];omega);rw[f]at e
  have hL:(eF h p).length=i:=by rw[c,Ux];omega
  with_reducible repeat' (first|refine Sp.h ?_|((first|refine Wd ?_|refine Ss.h ?_|(refine Sb.h ?_ ?_ ?_<;>(try intro hgd)<;>try exact Xy))<;>simp -implicitDefEqProofs (maxSteps:=2000000) [hP,hN,g2,g3,g,d,m,g5,e,b,a,hL]<;>try refine Ya ?_)|refine X2 ?_ ?_|(refine Xd ?_ ?_<;>intro hcd<;>try exact Xx))
theorem Gc{x:Iv}(h:dH x=false):x.1< -268435456\/x.2<x.1\/268435456<x.2:=by
 by_cases a:x.1< -268435456\/x.2<x.1\/268435456<x.2
 .exact a
 .have:dH x=true:=by rw[fP];omega
  rw[h]at this;cases this
theorem Bl{x0 x1 x2 x3 x4 x5:Int}:aR 301 (V6 x0 x1 x2 x3 x4 x5) (B (cZ ((x0,x1),(x2,x3),(x4,x5)))):=by
 have hd:cZ ((x0,x1),(x2,x3),(x4,x5))=(dH (x0,x1)&&dH (x2,x3)&&dH (x4,x5)):=rfl;rw[hd];obtain⟨m,b⟩:∃m:Nat,m=(if dH (x0,x1)then(if dH (x2,x3)then(if dH (x4,x5)then 3 else 2)else 1)else 0):=⟨_,rfl⟩;refine Dp func301 λC hP hN=>?_;refine Gz ?_;refine WP.loopN [] 3 (λk st=>st.t 1=.ptr 1 0/\st.h 1=some (.box [.pv (Z x0),.pv (Z x1),.pv (Z x2),.pv (Z x3),.pv (Z x4),.pv (Z x5)] true false)/\st.t 3=.pv (Z k)/\k<=m) (by simp) ?_;rintro k st i ⟨g1,g,g3,j⟩;cases c:dH (x0,x1)<;>rw[c]at b
 .simp only[T5,Uf]at b
  have:k=0:=by omega
  subst this;have a:=Gc c;simp only at a;rcases a with q|q|q
  all_goals
   exact Gy
 simp only[Ul]at b;have l:=fP.1 c;simp only at l;cases d:dH (x2,x3)<;>rw[d]at b
 .simp only[T5,Uf]at b
  have f:k=0\/k=1:=by omega
  rcases f with rfl|rfl
  .skip
   exact Gy
   all_goals omega
  .have a:=Gc d
   simp only at a;rcases a with q|q|q
   all_goals
    exact Gy
 simp only[Ul]at b;have n:=fP.1 d;simp only at n;cases e:dH (x4,x5)<;>rw[e]at b
 .simp only[T5,Uf]at b
  have f:k=0\/k=1\/k=2:=by omega
  rcases f with rfl|rfl|rfl
  .skip
   exact Gy
   all_goals omega
  .skip
   exact Gy
   all_goals omega
  .have a:=Gc e
   simp only at a;rcases a with q|q|q
   all_goals
    exact Gy
 simp only[Ul]at b;have o:=fP.1 e;simp only at o;rcases eu i with rfl|rfl|rfl|rfl
 .skip
  exact Gy
  all_goals omega
 .skip
  exact Gy
  all_goals omega
 .skip
  exact Gy
  all_goals omega
 .skip
  exact Gy
theorem Nl(v:aq):aR 301 (bE v) (B (cZ v)):=Bl
theorem vP(xs:List aq)(L:xs.length<=9223372036854775807):aR 244 (aB xs) (B (ao xs)):=by
 by_cases h8:xs.length<=8
 .have Ki:∀i:Nat,i<xs.length->i64.wrap ((i:Int)+1)=(i:Int)+1:=λi h=>aa (by omega) (by omega)
  refine Dp func244 λC hP hN=>?_;refine Gz ?_;refine WP.loopN [] xs.length (λi st=>st.t 0=.pv (aB xs)/\st.t 3=.pv (Z i)/\∀k x,k<i->xs[k]?=some x->cZ x=true) (by simp) ?_;rintro i st hi ⟨g0,g3,hq⟩;by_cases g:i<xs.length
  .have I:=Ki i g
   have m:(i:Int)<(xs.length:Int):=by omega
   have A:(i:Int)<=8:=by omega
   have r:i<=8:=by omega
   generalize n:xs[i]=v at *
   have F:xs[i]?=some v:=by rw[an g,n]
   have u:=Nl v;have E:=mO (p:=cZ) F hq
   cases o:cZ v with
   |true=>
    rw[o]at u;have s:=E o;refine Gz ?_
    all_goals exact λk a b c d e f K G=>s k ((a,b),(c,d),(e,f)) (by omega) G
   |false=>
    rw[o]at u
    have j:xs.all cZ=false:=by
     rw[Vz];exact⟨v,Is F,by simp[o]⟩
    have l:ao xs=false:=by simp[ao,j]
    rw[l];exact Gy
  .have j:xs.all cZ=true:=oI hq g
   have m:¬(i:Int)<(xs.length:Int):=by omega
   have l:ao xs=decide (1<=xs.length):=by
    rw[ao,j,UD h8,VC,VC]
   rw[l];by_cases H:1<=xs.length
   .have q:(1:Int)<=(xs.length:Int):=by omega
    have y:(xs.length:Int)<=8:=by omega
    exact Gy
   .have q:¬(1:Int)<=(xs.length:Int):=by omega
    exact Gy
 .have l:ao xs=false:=by
   cases h:ao xs with
   |false=>rfl
   |true=>simp only[ao,An,L4]at h;omega
  rw[l];refine Dp func244 λC hP hN=>?_;refine Gz ?_;refine WP.loopN [] 9 (λi st=>st.t 0=.pv (aB xs)/\st.t 3=.pv (Z i)) (by simp) ?_;rintro i st hi ⟨g0,g3⟩
  have g:i<xs.length\/i=9:=by omega
  by_cases A:i<=8
  .have g:i<xs.length:=by omega
   have I:i64.wrap ((i:Int)+1)=(i:Int)+1:=aa
   have m:(i:Int)<(xs.length:Int):=by omega
   have r:(i:Int)<=8:=by omega
   generalize n:xs[i]=v at *
   have F:xs[i]?=some v:=by rw[an g,n]
   have u:=Nl v;cases o:cZ v<;>rw[o]at u
   .skip
    exact Gy
   .skip
    refine Gz ?_
    all_goals omega
  .have D:i=9:=by omega
   subst D
   have y:¬(xs.length:Int)<=8:=by omega
   have q:(1:Int)<=(xs.length:Int):=by omega
   have H:1<=xs.length:=by omega
   by_cases J:(9:Int)<(xs.length:Int)
   .have z:9<xs.length:=by omega
    exact Gy
   .have z:¬9<xs.length:=by omega
    exact Gy
theorem Nm(x:Iv):jp x=mb x:=by
 unfold jp mb;split
 .rename_i h
  have h:=eU.1 h;rw[aa (by omega) (by omega),Int.fdiv_eq_ediv_of_nonneg _ (by decide)]
 .rfl
theorem AD(xs:List aq)(o:xs.length<=9223372036854775807):aR 178 (aB xs) (aG (aw xs)):=by
 have m:=vP xs o
 cases hp:ao xs with
 |false=>
  rw[hp]at m
  have f:aw xs=[]:=by simp[aw,hp]
  rw[f];refine Dp func178 λC hP hN=>?_;exact Gy
 |true=>
  rw[hp]at m
  have h8:xs.length<=8:=by
   simp only[ao,An,L4]at hp;omega
  have f:aw xs=xs.map ju:=by simp[aw,hp]
  rw[f];refine Dp func178 λC hP hN=>?_;refine sP [3] trivial ?_;refine WP.loopN [] xs.length (λi st=>st.t 0=.pv (aB xs)/\st.t 4=.pv (Z i)/\st.t 3=.arr 3 i/\st.h 3=some (.row 84 3 (((xs.map ju).map am).take i) 0)) (by simp) ?_;rintro i st hi ⟨g0,g4,g3,d⟩
  have g:min i xs.length=i:=by omega
  by_cases c:i<xs.length
  .have p:=aj c (by omega)
   have a:(i:Int)<(xs.length:Int):=by omega
   generalize e:xs[i]=v at *
   have n:xs[i]?=some v:=by rw[an c,e]
   have j:=MT v.1;have k:=MT v.2.1;have l:=MT v.2.2;rw[Nm]at j k l
   have hS:((xs.map ju).map am).take (i+1)=((xs.map ju).map am).take i++[am (mb v.1,mb v.2.1,mb v.2.2)]:=by
    rw[List.take_succ,TR,TR,n];rfl
   rw[hS]
   have hL:(((xs.map ju).map am).take i).length=i:=by simp[g]
   generalize((xs.map ju).map am).take i=R at *
   with_reducible repeat' (first|refine Sp.h ?_|((first|refine Wd ?_|refine Ss.h ?_|refine Sc.h (j) ?_|refine Sc.h (k) ?_|refine Sc.h (l) ?_|(refine Sb.h ?_ ?_ ?_<;>(try intro hgd)<;>try exact Xy))<;>simp -implicitDefEqProofs (maxSteps:=2000000) [hP,hN,g0,g4,g3,d,c,a,n,e,p,hL,show(i+1)*24<=140737488355328 by omega,show i<=9223372036854775806 by omega]<;>try refine Ya ?_)|refine X2 ?_ ?_|(refine Xd ?_ ?_<;>intro hcd<;>try exact Xx))
  .have a:¬(i:Int)<(xs.length:Int):=by omega
   have b:((xs.map ju).map am).take i=(xs.map ju).map am:=Us (by simp;omega);rw[b]at d
   have hL:xs.length=i:=by omega
   exact Gy
theorem Nn(js:List J)(ms:List Ms)(bx:List Iv)(d:js.length<=9223372036854775807)(a:bx.length<=9223372036854775807):aK 132 (iN js ms) (iv bx) (B (j8 js bx)):=by
 have hd:j8 js bx=(decide (bx.length=js.length)&&bT vI bx):=rfl;have c:=nH bx a;by_cases h:bx.length=js.length
 .rw[hd,UD h,Uq]
  have b:((bx.length:Int)==(js.length:Int))=true:=by simp[h]
  generalize bT vI bx=r at *;refine Dp func132 λC hP hN=>?_;exact Gy
 .rw[hd,U2 h,UE]
  have b:((bx.length:Int)==(js.length:Int))=false:=by simp;omega
  refine Dp func132 λC hP hN=>?_;exact Gy
set_option maxRecDepth 4000 in
theorem RG(js:List J)(ms:List Ms)(bx:List Iv)(hm:ms.length<=9223372036854775807)(h0:aW js ms=0)(F:j8 js bx=true):aK 204 (iN js ms) (iv bx) (.sl ((ie js bx).map bY)):=by
 obtain⟨hj,hl,_⟩:=rY h0;have hb:=(um.1 F).1;have cr:=Cz js ms (by omega) hm;have cb:=Nn js ms bx (by omega) (by omega);rw[h0]at cr;rw[F]at cb;have M:(ie js bx).length=js.length:=kz hb _ (Ua _);have N:=λi j v(h1:js[i]?=some j)(h2:bx[i]?=some v)=>Dc hb h1 h2 (hj i j h1);generalize ie js bx=l at *;generalize z:l.map bY=e at *
 have ad:e.length=js.length:=by rw[<-z];simpa using M
 have B:∀k p,l[k]?=some p->e[k]?=some (bY p):=λk p h=>by rw[<-z,TR,h];rfl
 refine Dp func204 λC hP hN=>?_;refine sP [5] trivial ?_;refine WP.loopN [7] bx.length (λi st=>st.t 2=.ptr 2 0/\st.h 2=some (.box [.pv (.sl (js.map bu)),.pv (.sl (ms.map cG))] true false)/\st.t 1=.pv (iv bx)/\st.t 6=.pv (Z i)/\st.h 7=none/\st.t 5=.arr 5 i/\st.h 5=some (.row 283 24 (e.take i) 0)) (by simp) ?_;rintro i st hi ⟨g2,m,g1,L,n,g5,f⟩
 have g:(e.take i).length=i:=by simp;omega
 by_cases c:i<bx.length
 .have hw:=aj c (by omega)
  have s:i<js.length:=by omega
  have d:(i:Int)<(bx.length:Int):=by omega
  generalize y:js[i]=j at *
  have K:js[i]?=some j:=by rw[an s,y]
  generalize u:bx[i]=v at *
  have V:bx[i]?=some v:=by rw[an c,u]
  obtain⟨⟨P,Q⟩,ar,a1⟩:=hj i j K;have cj:=RD (a:=v.1) (b:=v.2) j P Q;have E:=N i j v K V;generalize hq:mv j (v.1,v.2)=q at *
  have key:∀x,l[i]?=some x->e.take (i+1)=e.take i++[bY x]:=λx W=>by
   rw[List.take_succ,B i x W];rfl
  by_cases I:j.parent=-1
  .rw[T8 I]at E
   have X:=key q E;rw[X]
   have o:(j.parent != -1)=false:=by simp[I]
   generalize e.take i=R at *;exact GS (zAa g2 m g1 L n g5 f g s c d hw K y (go V u o (show(i+1)*192<=140737488355328 by omega) (show i<=9223372036854775806 by omega)))
  .rw[TQ I]at E
   obtain⟨p,hp⟩:∃p:Nat,j.parent=p:=⟨j.parent.toNat,by omega⟩
   have o:(j.parent != -1)=true:=by simp[I]
   have S:(0:Int)<=j.parent:=by omega
   have H:j.parent.toNat=p:=by omega
   have G:p<i:=by omega
   have U:p<l.length:=by omega
   have A:l[p]?=some l[p]:=an U;rw[H,A,Uj]at E
   have D:(e.take i)[p]?=some (bY l[p]):=by rw[Uu,T8 G];exact B p _ A
   have O:=pt D;generalize l[p]=Y at *;have X:=key _ E;rw[X];have cc:aP prog 263 [.pv (bY Y),.pv (bY q)] [] [] (.pv (bY (nX Y q))):=vO;generalize nX Y q=a2 at *;generalize e.take i=R at *
   have T:p<R.length:=by omega
   exact GS (zAa g2 m g1 L n g5 f g s c d hw K y (s6 V u o S H G D O T (gA (show(i+1)*192<=140737488355328 by omega) (show i<=9223372036854775806 by omega))))
 .have r:e.take i=e:=Us (by omega)
  have d:¬(i:Int)<(bx.length:Int):=by omega
  rw[r]at f g;exact GS (s6 g2 m g1 L n g5 f c d g)
set_option maxRecDepth 4000 in
theorem RH(s:Sce)(bx:List Iv)(N:ScL s)(y:bi s=0)(m:j8 s.js bx=true):aK 133 (eM s) (iv bx) (.sl ((gB s bx).map aB)):=by
 have cc:=Kg s N;rw[y]at cc
 have hr:aW s.js s.ms=0:=by
  unfold bi at y;split at y
  .rename_i h;exact absurd y h
  .rename_i h;simpa using h
 obtain⟨v1,v2,v3,v4,v5,v6,v7⟩:=nc y;have J:=(um.1 m).1;have U:=Nn s.js s.ms bx N.js (by omega);have cl:=RG s.js s.ms bx N.ms hr m;rw[m]at U;have V:(ie s.js bx).length=s.js.length:=kz J _ (Ua _);have B:gB s bx=s.shs.map λh=>eF h (ig (ie s.js bx) h):=rfl;rw[B];generalize ie s.js bx=b at *;generalize g:(s.shs.map λh=>eF h (ig b h)).map aB=d
 have W:d.length=s.shs.length:=by rw[<-g];simp
 have A:∀k h,s.shs[k]?=some h->d[k]?=some (aB (eF h (ig b h))):=λk q X=>by rw[<-g,TR,TR,X];rfl
 refine Dp func133 λC hP hN=>?_;refine sP [6] trivial ?_;refine WP.loopN [8] s.shs.length (λi st=>st.t 2=.ptr 2 0/\st.h 2=some (.box [.pv (.sl (s.js.map bu)),.pv (.sl (s.ms.map cG)),.pv (.sl (s.shs.map cE)),.pv (.sl (s.sks.map aC))] true false)/\st.t 5=.pv (.sl (b.map bY))/\st.t 7=.pv (Z i)/\st.h 8=none/\st.t 6=.arr 6 i/\st.h 6=some (.row 146 1 (d.take i) 0)) (by simp) ?_;rintro i st hi ⟨g2,j,g5,I,l,H,e⟩
 have f:(d.take i).length=i:=by simp;omega
 by_cases c:i<s.shs.length
 .have S:=aj c (by omega)
  have a:(i:Int)<(s.shs.length:Int):=by omega
  generalize v:s.shs[i]=h at *
  have E:s.shs[i]?=some h:=by rw[an c,v]
  have Y:=Is E;obtain⟨K,O⟩:=v6 h Y;simp only[dt,An,L4]at K;have Q:=λp=>RF h p O
  have k2:d.take (i+1)=d.take i++[aB (eF h (ig b h))]:=by rw[List.take_succ,A i h E];rfl
  rw[k2];clear A g B;by_cases x:h.link=-1
  .have n:(h.link==-1)=true:=by simp[x]
   have o:(h.link != -1)=false:=by simp[x]
   have u:ig b h=gJ:=by simp[ig,x]
   rw[u];have F:=Q gJ;have G:=Jh;generalize eF h gJ=pl at *;generalize gJ=P at *;generalize d.take i=R at *;exact GS (zAa g2 j g5 I l H e f c a S E v n (be o (show(i+1)*24<=140737488355328 by omega) (show i<=9223372036854775806 by omega)))
  .have n:(h.link==-1)=false:=by simp[x]
   have o:(h.link != -1)=true:=by simp[x]
   have L:(0:Int)<=h.link:=by omega
   obtain⟨p,hp⟩:∃p:Nat,h.link.toNat=p:=⟨_,rfl⟩
   have D:p<b.length:=by omega
   have z:b[p]?=some b[p]:=an D
   have u:ig b h=b[p]:=by simp only[ig,TQ x,hp,z,Uj]
   rw[u];generalize M:b[p]=T at *;have F:=Q T;have G:=Jh;generalize eF h T=pl at *;generalize gJ=P at *;generalize d.take i=R at *;exact GS (zAa g2 j g5 I l H e f c a S E v n (s5 o L hp D z M (show(i+1)*24<=140737488355328 by omega) (show i<=9223372036854775806 by omega)))
 .have r:d.take i=d:=Us (by omega)
  have a:¬(i:Int)<(s.shs.length:Int):=by omega
  rw[r]at e f;exact GS (s6 g2 j g5 I l H e c a f)
theorem RI(n:Nat)(hn:n<4611686018427387904):aR 331 (Z n) (Z (dE n)):=by
 by_cases B:n=0
 .subst B
  have H:dE 0=0:=by decide +kernel
  rw[H];refine Dp func331 λC hP hN=>?_;exact Gy
 have F:¬(n:Int)<1:=by omega
 have s:¬n<1:=by omega
 have o:=rv (n:=n) (by omega);refine Dp func331 λC hP hN=>?_;refine Gz ?_;refine WP.loopN [] 32 (λi st=>∃lo hi:Nat,st.t 0=.pv (Z n)/\st.t 3=.pv (Z lo)/\st.t 4=.pv (Z hi)/\1<=lo/\lo<hi/\hi<=4294967296/\lo*lo<=n/\n<hi*hi/\hi-lo<=2^(32-i)) ⟨1,4294967296,by simp;omega⟩ ?_;rintro i st hi ⟨lo,a,g0,g3,g4,b1,b2,b3,b4,b5,b6⟩;have u:i64.wrap ((a:Int)-(lo:Int))=((a-lo:Nat):Int):=(aa (by omega) (by omega)).trans (by omega);by_cases r:1<a-lo
 .have f:i<32:=by
   by_cases h:i<32
   .exact h
   .have:i=32:=by omega
    subst this;simp at b6;omega
  have hp:2^(32-i)=2*2^(31-i):=by
   rw[show 32-i=(31-i)+1 by omega,WC];omega
  rw[hp]at b6;obtain⟨m,I⟩:∃m:Nat,m=lo+(a-lo)/2:=⟨_,rfl⟩
  have k:(1:Int)<((a-lo:Nat):Int):=by omega
  obtain⟨hf,E⟩:∃hf:Nat,hf=(a-lo)/2:=⟨_,rfl⟩
  have v:i64.wrap ((((a-lo:Nat):Int)).tdiv 2)=(hf:Int):=by
   rw[Un (by omega)];exact(aa (by omega) (by omega)).trans (by omega)
  have x:i64.wrap ((lo:Int)+(hf:Int))=(m:Int):=(aa (by omega) (by omega)).trans (by omega)
  have l:0<m:=by omega
  have g:¬(m:Int)=0:=by omega
  have c:¬m=0:=by omega
  obtain⟨j,d⟩:∃j:Nat,j=n/m:=⟨_,rfl⟩
  have G:j<=n:=by rw[d];exact Nat.div_le_self n m
  have y:i64.wrap ((n:Int).tdiv (m:Int))=(j:Int):=by
   rw[Un (by omega),<-Int.natCast_ediv,<-d];exact aa (by omega) (by omega)
  have z:i64.wrap (((a-lo:Nat):Int)/2)=(hf:Int):=(aa (by omega) (by omega)).trans (by omega)
  have A:i64.wrap ((n:Int)/(m:Int))=(j:Int):=by
   rw[<-Int.natCast_ediv,<-d];exact aa (by omega) (by omega)
  by_cases e:m<=j
  .have q:m*m<=n:=(Wr l).1 (d▸e)
   have b:(m:Int)<=(j:Int):=by omega
   with_reducible repeat' (first|refine Sp.h ?_|((first|refine Ss.h ?_|(refine Sb.h ?_ ?_ ?_<;>(try intro hgd)<;>try exact Xy))<;>simp -implicitDefEqProofs (maxSteps:=2000000) [hP,hN,g0,g3,g4,u,v,x,y,z,A,r,k,g,c,e,b])|refine X2 ?_ ?_|(refine Xd ?_ ?_<;>intro hcd<;>try exact Xx))
   exact⟨f,m,rfl,a,rfl,by omega,by omega,by omega,by omega,by omega,by omega⟩
  .have q:n<m*m:=by
    rcases Nat.lt_or_ge n (m*m)with h|h
    .exact h
    .exact absurd (d▸(Wr l).2 h) e
   have b:¬(m:Int)<=(j:Int):=by omega
   with_reducible repeat' (first|refine Sp.h ?_|((first|refine Ss.h ?_|(refine Sb.h ?_ ?_ ?_<;>(try intro hgd)<;>try exact Xy))<;>simp -implicitDefEqProofs (maxSteps:=2000000) [hP,hN,g0,g3,g4,u,v,x,y,z,A,r,k,g,c,e,b])|refine X2 ?_ ?_|(refine Xd ?_ ?_<;>intro hcd<;>try exact Xx))
   exact⟨f,lo,rfl,m,rfl,by omega,by omega,by omega,by omega,by omega,by omega⟩
 .have p:a=lo+1:=by omega
  subst p;have D:lo=dE n:=Bg b4 b5 o.1 o.2
  have k:¬(1:Int)<((lo+1-lo:Nat):Int):=by omega
  exact Gy
  all_goals simp[D]
theorem RJ(n:Nat)(hn:n<4611686018427387904):aR 300 (Z n) (Z (r4 n)):=by
 have f:=RI n hn;have e:=rv (n:=n) (by omega);have d:=sA hn
 have hd:r4 n=if dE n*dE n<n then dE n+1 else dE n:=rfl
 have i:i64.wrap ((dE n:Int)*(dE n:Int))=((dE n*dE n:Nat):Int):=by
  rw[<-Int.natCast_mul];exact aa (by omega) (by omega)
 have j:i64.wrap ((dE n:Int)+1)=((dE n+1:Nat):Int):=(aa (by omega) (by omega)).trans (by omega);rw[hd];generalize dE n=r at *;by_cases g:0<n
 .have a:(0:Int)<(n:Int):=by omega
  by_cases c:r*r<n
  .have b:((r*r:Nat):Int)<(n:Int):=by omega
   rw[T8 c];refine Dp func300 λC hP hN=>?_;exact Gy
  .have b:¬((r*r:Nat):Int)<(n:Int):=by omega
   rw[TQ c];refine Dp func300 λC hP hN=>?_;exact Gy
 .have a:¬(0:Int)<(n:Int):=by omega
  rw[TQ (by omega)];refine Dp func300 λC hP hN=>?_;exact Gy
theorem Np(v:Vc):aR 242 (am v) (Z (fI v)):=by
 have d:=Ar v;rw[sU]at d
 cases c:aL v with
 |false=>
  rw[c]at d
  have e:fI v=0:=by simp[fI,c]
  rw[e];refine Dp func242 λC hP hN=>?_;exact Gy
 |true=>
  rw[c]at d
  have hn:av 16384 v=true:=by simp only[aL,An]at c;exact c.1
  have k:=Hu hn
  have e:fI v=(r4 (vL v):Int):=by simp[fI,c]
  have f:=RJ (vL v) (by omega);have g:=wL (bV.1 hn).1;have i:=wL (bV.1 hn).2.1;have j:=wL (bV.1 hn).2.2;have o:=bF (a:=v.1) (b:=v.1) 16384 16384 (by omega) (by omega) (by omega) (by omega);have p:=bF (a:=v.2.1) (b:=v.2.1) 16384 16384 (by omega) (by omega) (by omega) (by omega);have q:=bF (a:=v.2.2) (b:=v.2.2) 16384 16384 (by omega) (by omega) (by omega) (by omega);have l:=FW v.1;have m:=FW v.2.1;have n:=FW v.2.2;have r:i64.wrap (v.1*v.1)=v.1*v.1:=aa;have s:i64.wrap (v.2.1*v.2.1)=v.2.1*v.2.1:=aa;have u:i64.wrap (v.2.2*v.2.2)=v.2.2*v.2.2:=aa;have x:i64.wrap (v.1*v.1+v.2.1*v.2.1)=v.1*v.1+v.2.1*v.2.1:=aa;have y:i64.wrap (v.1*v.1+v.2.1*v.2.1+v.2.2*v.2.2)=(vL v:Int):=(aa (by omega) (by omega)).trans (by unfold vL;omega);rw[e];refine Dp func242 λC hP hN=>?_;exact Gy
theorem Km{c d e x0 x1 x2 x3 x4 x5:Int}(l:aL (c,d,e)=true)(m:cZ ((x0,x1),(x2,x3),(x4,x5))=true):aK 365 (am (c,d,e)) (V6 x0 x1 x2 x3 x4 x5) (.tup [Z (gt (c,d,e) ((x0,x1),(x2,x3),(x4,x5))),Z (gu (c,d,e) ((x0,x1),(x2,x3),(x4,x5)))]):=by
 have o:=Ar (c,d,e);rw[sU,l]at o;have n:=Bl (x0:=x0) (x1:=x1) (x2:=x2) (x3:=x3) (x4:=x4) (x5:=x5);rw[m]at n
 have hn:av 16384 (c,d,e)=true:=by simp only[aL,An]at l;exact l.1
 have i:=bV.1 hn;have j:=gh.1 m;have m0:=nZ i.1 j.1;have m1:=nZ i.2.1 j.2.1;have m2:=nZ i.2.2 j.2.2;simp only[pT,pU]at m0 m1 m2;have g:gt (c,d,e) ((x0,x1),(x2,x3),(x4,x5))=min (c*x0) (c*x1)+min (d*x2) (d*x3)+min (e*x4) (e*x5):=rfl;have f:gu (c,d,e) ((x0,x1),(x2,x3),(x4,x5))=max (c*x0) (c*x1)+max (d*x2) (d*x3)+max (e*x4) (e*x5):=rfl;rw[g,f];have w:∀y:Int,-100000000000000<=y->y<=100000000000000->i64.wrap y=y:=λy a b=>aa (by omega) (by omega);have a0:=w (c*x0) (by omega) (by omega);have a1:=w (c*x1) (by omega) (by omega);have a2:=w (d*x2) (by omega) (by omega);have a3:=w (d*x3) (by omega) (by omega);have a4:=w (e*x4) (by omega) (by omega);have a5:=w (e*x5) (by omega) (by omega)
 have D:∀a b:Int,(if b<a then b else a)=min a b:=λa b=>by omega
 have B:∀a b:Int,(if a<b then b else a)=max a b:=λa b=>by omega
 have b0:=w (min (c*x0) (c*x1)) (by omega) (by omega);have b1:=w (min (c*x0) (c*x1)+min (d*x2) (d*x3)) (by omega) (by omega);have b2:=w (min (c*x0) (c*x1)+min (d*x2) (d*x3)+min (e*x4) (e*x5)) (by omega) (by omega);have x:=w (max (c*x0) (c*x1)) (by omega) (by omega);have z:=w (max (c*x0) (c*x1)+max (d*x2) (d*x3)) (by omega) (by omega);have A:=w (max (c*x0) (c*x1)+max (d*x2) (d*x3)+max (e*x4) (e*x5)) (by omega) (by omega);refine Dp func365 λC hP hN=>?_;refine Gz ?_;refine WP.loopN [] 3 (λk st=>st.t 2=.ptr 2 0/\st.t 3=.ptr 3 0/\st.h 2=some (.box [.pv (Z c),.pv (Z d),.pv (Z e)] true false)/\st.h 3=some (.box [.pv (Z x0),.pv (Z x1),.pv (Z x2),.pv (Z x3),.pv (Z x4),.pv (Z x5)] true false)/\st.t 8=.pv (Z k)/\st.t 6=.pv (Z (if k=0 then 0 else if k=1 then min (c*x0) (c*x1)else if k=2 then min (c*x0) (c*x1)+min (d*x2) (d*x3)else min (c*x0) (c*x1)+min (d*x2) (d*x3)+min (e*x4) (e*x5)))/\st.t 7=.pv (Z (if k=0 then 0 else if k=1 then max (c*x0) (c*x1)else if k=2 then max (c*x0) (c*x1)+max (d*x2) (d*x3)else max (c*x0) (c*x1)+max (d*x2) (d*x3)+max (e*x4) (e*x5)))) (by simp) ?_;rintro k st v ⟨g2,g3,s,u,r,p,q⟩;rcases eu v with rfl|rfl|rfl|rfl
 all_goals (simp at p q r)
 all_goals
  exact Gy
theorem RK(n:Vc)(xs:List aq)(y:xs.length<=9223372036854775807):aK 345 (am n) (aB xs) (.tup (if aL n&&ao xs then[Z (gv n xs).1,Z (gv n xs).2,B true]else[Z 0,Z 0,B false])):=by
 have e:=Ar n;rw[sU]at e;have d:=vP xs y
 cases l:aL n with
 |false=>
  rw[l]at e;cases hp:ao xs<;>rw[hp]at d
  all_goals
   refine Dp func345 λC hP hN=>?_;exact Gy
 |true=>
 rw[l]at e
 cases hp:ao xs with
 |false=>
  rw[hp]at d;refine Dp func345 λC hP hN=>?_;exact Gy
 |true=>
 rw[hp]at d;obtain⟨a,h8,_⟩:=bR hp;have hd:gv n xs=gQ (gt n) eN xs xs.length:=rfl;rw[hd];refine Dp func345 λC hP hN=>?_;refine Gz ?_;refine WP.loopN [] xs.length (λi st=>st.t 2=.ptr 2 0/\st.h 2=some (.box [.pv (Z n.1),.pv (Z n.2.1),.pv (Z n.2.2)] true false)/\st.t 1=.pv (aB xs)/\st.t 9=.pv (Z i)/\st.t 7=.pv (Z (gQ (gt n) eN xs i).1)/\st.t 8=.pv (Z (gQ (gt n) eN xs i).2)) (by simp[gQ]) ?_;rintro i st hi ⟨g2,x,g1,E,A,D⟩;by_cases b:i<xs.length
 .have F:=aj b (by omega)
  have c:(i:Int)<(xs.length:Int):=by omega
  generalize m:xs[i]=v at *
  have s:xs[i]?=some v:=by rw[an b,m]
  have j:cZ v=true:=TP.1 a v (Is s);have z:aP prog 365 [.pv (am n),.pv (bE v)] [] [] (.pv (.tup [Z (gt n v),Z (gu n v)])):=Km l j;have k:=vM (val:=gt n) (bet:=eN) s;rw[k];by_cases p:i=0
  .subst p
   exact Gy
  .have u:((i:Int)==0)=false:=by simp;omega
   generalize hq:gQ (gt n) eN xs i=q at *;obtain⟨o,G⟩:=q;by_cases r:gt n v<o
   .have f:eN (gt n v) o=true:=by simp only[eN,L4];exact r
    simp only[f,or_true,Ul]at k|-;exact Gy
   .have f:eN (gt n v) o=false:=by simp only[eN,Ue];exact r
    simp only[f,p,T5,or_self,Uf]at k|-;exact Gy
 .have c:¬(i:Int)<(xs.length:Int):=by omega
  have g:i=xs.length:=by omega
  subst g;exact Gy
theorem RL(n:Vc)(xs:List aq)(y:xs.length<=9223372036854775807):aK 346 (am n) (aB xs) (.tup (if aL n&&ao xs then[Z (gw n xs).1,Z (gw n xs).2,B true]else[Z 0,Z 0,B false])):=by
 have e:=Ar n;rw[sU]at e;have d:=vP xs y
 cases l:aL n with
 |false=>
  rw[l]at e;cases hp:ao xs<;>rw[hp]at d
  all_goals
   refine Dp func346 λC hP hN=>?_;exact Gy
 |true=>
 rw[l]at e
 cases hp:ao xs with
 |false=>
  rw[hp]at d;refine Dp func346 λC hP hN=>?_;exact Gy
 |true=>
 rw[hp]at d;obtain⟨a,h8,_⟩:=bR hp;have hd:gw n xs=gQ (gu n) eO xs xs.length:=rfl;rw[hd];refine Dp func346 λC hP hN=>?_;refine Gz ?_;refine WP.loopN [] xs.length (λi st=>st.t 2=.ptr 2 0/\st.h 2=some (.box [.pv (Z n.1),.pv (Z n.2.1),.pv (Z n.2.2)] true false)/\st.t 1=.pv (aB xs)/\st.t 9=.pv (Z i)/\st.t 7=.pv (Z (gQ (gu n) eO xs i).1)/\st.t 8=.pv (Z (gQ (gu n) eO xs i).2)) (by simp[gQ]) ?_;rintro i st hi ⟨g2,x,g1,E,A,D⟩;by_cases b:i<xs.length
 .have F:=aj b (by omega)
  have c:(i:Int)<(xs.length:Int):=by omega
  generalize m:xs[i]=v at *
  have s:xs[i]?=some v:=by rw[an b,m]
  have j:cZ v=true:=TP.1 a v (Is s);have z:aP prog 365 [.pv (am n),.pv (bE v)] [] [] (.pv (.tup [Z (gt n v),Z (gu n v)])):=Km l j;have k:=vM (val:=gu n) (bet:=eO) s;rw[k];by_cases p:i=0
  .subst p
   exact Gy
  .have u:((i:Int)==0)=false:=by simp;omega
   generalize hq:gQ (gu n) eO xs i=q at *;obtain⟨o,G⟩:=q;by_cases r:o<gu n v
   .have f:eO (gu n v) o=true:=by simp only[eO,L4];exact r
    simp only[f,or_true,Ul]at k|-;exact Gy
   .have f:eO (gu n v) o=false:=by simp only[eO,Ue];exact r
    simp only[f,p,T5,or_self,Uf]at k|-;exact Gy
 .have c:¬(i:Int)<(xs.length:Int):=by omega
  have g:i=xs.length:=by omega
  subst g;exact Gy
theorem AE(r:Int):aR 210 (Z r) (B (bf r 0 1048576)):=by
 refine Dp func210 λC hP hN=>?_
 with_reducible repeat' (first|refine Sp.h ?_|((first|refine Ss.h ?_|(refine Sb.h ?_ ?_ ?_<;>(try intro hgd)<;>try exact Xy))<;>simp -implicitDefEqProofs (maxSteps:=2000000) [hP,hN])|refine X2 ?_ ?_|(refine Xd ?_ ?_<;>intro hcd<;>try exact Xx))
 all_goals (first|(simp_all[bf];done)|((try simp_all[bf])<;>(try omega)<;>grind))
theorem RM(n:Vc)(a:List aq)(c:Int)(b:List aq)(d:Int)(u:a.length<=9223372036854775807)(o:b.length<=9223372036854775807):xF 330 (am n) (aB a) (Z c) (aB b) (Z d) (.tup (if kO n a c b d then[Z (lQ n a c b d),B true]else[Z 0,B false])):=by
 have l:=RK n a u;have m:=RL n b o;have p:=AE c;have q:=AE d;have s:=Np n
 have k:kO n a c b d=(ao a&&bf c 0 1048576&&(ao b&&bf d 0 1048576)&&aL n):=by
  simp only[kO,oW,bf,Bool.and_assoc]
 have v:=uo n;have r:lQ n a c b d=(gv n a).1-(gw n b).1-fI n*(c+d):=rfl;cases j:aL n<;>cases e:ao a<;>cases f:ao b<;>cases g:bf c 0 1048576<;>cases i:bf d 0 1048576
 case true.true.true.true.true=>
  rw[j,e,f,g,i]at k;rw[j,e]at l;rw[j,f]at m;rw[g]at p;rw[i]at q
  have hn:av 16384 n=true:=by simp only[aL,An]at j;exact j.1
  have A:=Bh (n:=n) hn (bR e).1;have D:=Bi (n:=n) hn (bR f).1;simp only[bf,An,L4]at g i;have E:=bF (a:=fI n) (b:=c+d) 32768 2097152 (by omega) (by omega) (by omega) (by omega);have F:i64.wrap (c+d)=c+d:=aa;have G:i64.wrap (fI n*(c+d))=fI n*(c+d):=aa;have H:i64.wrap ((gv n a).1-(gw n b).1)=(gv n a).1-(gw n b).1:=aa;have I:i64.wrap ((gv n a).1-(gw n b).1-fI n*(c+d))=(gv n a).1-(gw n b).1-fI n*(c+d):=aa;rw[k,r];simp only[Vl,Ul]at l m|-;generalize gv n a=x at *;generalize gw n b=y at *;generalize fI n=z at *;refine Dp func330 λC hP hN=>?_;exact Gy
 all_goals (
  rw[j,e,f,g,i]at k;rw[j,e]at l;rw[j,f]at m;rw[g]at p;rw[i]at q;rw[k];simp only[Vl,Vo,UE,Uq,VC,Ul,T5,Uf]at l m|-;clear k r v s;generalize gv n a=x at *
  generalize gw n b=y at *)
 all_goals
  refine Dp func330 λC hP hN=>?_;exact Gy
theorem RN(n:Vc)(a:List aq)(c:Int)(b:List aq)(d:Int)(i:a.length<=9223372036854775807)(e:b.length<=9223372036854775807):xF 299 (am n) (aB a) (Z c) (aB b) (Z d) (B (kc n a c b d)):=by
 have f:=RM n a c b d i e;have j:kc n a c b d=(kO n a c b d&&decide (0<lQ n a c b d)):=rfl;rw[j];generalize lQ n a c b d=m at *;cases g:kO n a c b d<;>rw[g]at f<;>simp only[T5,Uf,Ul,UE,Uq]at f|-
 all_goals
  refine Dp func299 λC hP hN=>?_;exact Gy
theorem RO(l:List Vc)(a:List aq)(d:Int)(b:List aq)(e:Int)(u:l.length<=9223372036854775807)(G:a.length<=9223372036854775807)(s:b.length<=9223372036854775807):xF 234 (aG l) (aB a) (Z d) (aB b) (Z e) (.tup (match l.findIdx? (λn=>kc n a d b e)with|some i=>[Z i,B true]|none=>[Z 0,B false])):=by
 refine Dp func234 λC hP hN=>?_;refine Gz ?_;refine WP.loopN [] l.length (λi st=>st.t 0=.pv (aG l)/\st.t 1=.pv (aB a)/\st.t 2=.pv (Z d)/\st.t 3=.pv (aB b)/\st.t 4=.pv (Z e)/\st.t 12=.pv (Z i)/\∀k x,k<i->l[k]?=some x->kc x a d b e=false) (by simp) ?_;rintro i st hi ⟨g0,g1,g2,g3,g4,E,hq⟩;by_cases f:i<l.length
 .have H:=aj f u
  have g:(i:Int)<(l.length:Int):=by omega
  generalize o:l[i]=v at *
  have z:l[i]?=some v:=by rw[an f,o]
  have D:=RN v a d b e G s;have y:=F1 (p:=λn=>kc n a d b e) z hq
  cases q:kc v a d b e with
  |true=>
   rw[q]at D
   have hf:l.findIdx? (λn=>kc n a d b e)=some i:=by
    rw[Wf];refine⟨f,by rw[o];exact q,λj F=>?_⟩;have:=hq j l[j] F (an (by omega));simp[this]
   rw[hf];exact Gy
  |false=>
   rw[q]at D;have m:=y q;refine Gz ?_
   all_goals exact λk a b c r A=>m k (a,b,c) (by omega) A
 .have g:¬(i:Int)<(l.length:Int):=by omega
  have hf:l.findIdx? (λn=>kc n a d b e)=none:=by
   rw[List.findIdx?_eq_none_iff];intro x z;obtain⟨k,r⟩:=UB z;exact hq k x (by have:=(th.1 r).1;omega) r
  rw[hf];exact Gy
theorem RP:BA 298 (aG ku):=by
 refine Dp func298 λC hP hN=>?_;exact Gy
theorem I6(v w:Vc)(a:ff 1152921504606846976 v)(b:ff 1152921504606846976 w):aK 236 (am v) (am w) (am (aT v w)):=by
 have d:i64.wrap (v.1-w.1)=v.1-w.1:=aa (by have:=a.1;have:=b.1;omega) (by have:=a.1;have:=b.1;omega);have e:i64.wrap (v.2.1-w.2.1)=v.2.1-w.2.1:=aa (by have:=a.2.1;have:=b.2.1;omega) (by have:=a.2.1;have:=b.2.1;omega);have f:i64.wrap (v.2.2-w.2.2)=v.2.2-w.2.2:=aa (by have:=a.2.2;have:=b.2.2;omega) (by have:=a.2.2;have:=b.2.2;omega);have c:aT v w=(v.1-w.1,v.2.1-w.2.1,v.2.2-w.2.2):=rfl;rw[c];refine Dp func236 λC hP hN=>?_;exact Gy
theorem AA(v w:Vc)(m n:Nat)(c:ff m v)(d:ff n w)(a:3*(m*n)<=9223372036854775807):aK 241 (am v) (am w) (Z (bA v w)):=by
 have h:=lr c d;have e:i64.wrap (v.1*w.1)=v.1*w.1:=aa;have f:i64.wrap (v.2.1*w.2.1)=v.2.1*w.2.1:=aa;have g:i64.wrap (v.2.2*w.2.2)=v.2.2*w.2.2:=aa;have i:i64.wrap (v.1*w.1+v.2.1*w.2.1)=v.1*w.1+v.2.1*w.2.1:=aa;have j:i64.wrap (v.1*w.1+v.2.1*w.2.1+v.2.2*w.2.2)=v.1*w.1+v.2.1*w.2.1+v.2.2*w.2.2:=aa;have b:bA v w=v.1*w.1+v.2.1*w.2.1+v.2.2*w.2.2:=rfl;rw[b];refine Dp func241 λC hP hN=>?_;exact Gy
theorem MU(l:List Vc)(K:l.length<=9223372036854775807):aR 235 (aG l) (B (fv l)):=by
 by_cases h8:l.length<=8
 .skip
  refine Dp func235 λC hP hN=>?_;refine Gz ?_;refine WP.loopN [] l.length (λi st=>st.t 0=.pv (aG l)/\st.t 3=.pv (Z i)/\∀k x,k<i->l[k]?=some x->av 268435456 x=true) (by simp) ?_;rintro i st hi ⟨g0,g3,hq⟩;by_cases f:i<l.length
  .have H:i64.wrap ((i:Int)+1)=(i:Int)+1:=aa
   have g:(i:Int)<(l.length:Int):=by omega
   have u:(i:Int)<=8:=by omega
   have q:i<=8:=by omega
   generalize j:l[i]=v at *
   have D:l[i]?=some v:=by rw[an f,j]
   have n:=vm v.1 v.2.1 v.2.2 268435456 (by decide) (by decide);have z:av 268435456 v=fS v.1 v.2.1 v.2.2 268435456:=rfl;rw[<-z]at n;have A:=mO (p:=av 268435456) D hq
   cases m:av 268435456 v with
   |true=>
    rw[m]at n;have r:=A m;refine Gz ?_
    all_goals exact λk a b c J E=>r k (a,b,c) (by omega) E
   |false=>
    rw[m]at n
    have d:l.all (av 268435456)=false:=by
     rw[Vz];exact⟨v,Is D,by simp[m]⟩
    have e:fv l=false:=by simp[fv,d]
    rw[e];exact Gy
  .have d:l.all (av 268435456)=true:=oI hq f
   have g:¬(i:Int)<(l.length:Int):=by omega
   have e:fv l=decide (1<=l.length):=by
    rw[fv,d,UD h8,VC,VC]
   rw[e];by_cases F:1<=l.length
   .have o:(1:Int)<=(l.length:Int):=by omega
    have s:(l.length:Int)<=8:=by omega
    exact Gy
   .have o:¬(1:Int)<=(l.length:Int):=by omega
    exact Gy
 .have e:fv l=false:=by
   cases h:fv l with
   |false=>rfl
   |true=>simp only[fv,An,L4]at h;omega
  rw[e];refine Dp func235 λC hP hN=>?_;refine Gz ?_;refine WP.loopN [] 9 (λi st=>st.t 0=.pv (aG l)/\st.t 3=.pv (Z i)) (by simp) ?_;rintro i st hi ⟨g0,g3⟩;by_cases u:i<=8
  .have f:i<l.length:=by omega
   have H:i64.wrap ((i:Int)+1)=(i:Int)+1:=aa
   have g:(i:Int)<(l.length:Int):=by omega
   have q:(i:Int)<=8:=by omega
   generalize j:l[i]=v at *
   have D:l[i]?=some v:=by rw[an f,j]
   have n:=vm v.1 v.2.1 v.2.2 268435456 (by decide) (by decide);cases m:fS v.1 v.2.1 v.2.2 268435456<;>rw[m]at n
   .skip
    exact Gy
   .skip
    refine Gz ?_
    all_goals omega
  .have y:i=9:=by omega
   subst y
   have s:¬(l.length:Int)<=8:=by omega
   have o:(1:Int)<=(l.length:Int):=by omega
   have F:1<=l.length:=by omega
   by_cases I:9<l.length
   .have G:(9:Int)<(l.length:Int):=by omega
    exact Gy
   .skip
    exact Gy
theorem Rp(v:Vc)(rho:Int)(e:ff 35184372088832 v)(E:0<=rho/\rho<=2097152):aK 238 (am v) (Z rho) (B (ov v rho)):=by
 have q:=qG e.1;have r:=qG e.2.1;have s:=qG e.2.2;have D:=bF (a:=rho) (b:=rho) 2097152 2097152 (by omega) (by omega) (by omega) (by omega);have w0:i64.wrap (rho*rho)=rho*rho:=aa;have g:∀x:Int,-35184372088832<=x->x<=35184372088832->i64.wrap (-x)=-x/\i64.wrap (0-x)=-x:=λx a b=>⟨aa (by omega) (by omega),(aa (n:=0-x) (by omega) (by omega)).trans (by omega)⟩;have m0:=g v.1 e.1.1 e.1.2;have m1:=g v.2.1 e.2.1.1 e.2.1.2;have m2:=g v.2.2 e.2.2.1 e.2.2.2
 have cc:∀x:Int,-35184372088832<=x->x<=35184372088832->aP prog 211 [.pv (Z (max x (-x))),.pv (Z 65536)] [] [] (.pv (Z (dG (max x (-x)) 65536))):=λx a b=>by
  have:=Dl (max x (-x)) 65536 (by decide);rw[ry (by decide) (by omega) (by omega)]at this;exact this
 have u:=cc v.1 e.1.1 e.1.2;have y:=cc v.2.1 e.2.1.1 e.2.1.2;have z:=cc v.2.2 e.2.2.1 e.2.2.2
 have A:∀a b:Int,(if a<b then b else a)=max a b:=λa b=>by omega
 have hd:ov v rho=decide (mq v.1+mq v.2.1+mq v.2.2<=rho*rho):=rfl;have i:mq v.1=dG (max v.1 (-v.1)) 65536*dG (max v.1 (-v.1)) 65536:=rfl;have j:mq v.2.1=dG (max v.2.1 (-v.2.1)) 65536*dG (max v.2.1 (-v.2.1)) 65536:=rfl;have l:mq v.2.2=dG (max v.2.2 (-v.2.2)) 65536*dG (max v.2.2 (-v.2.2)) 65536:=rfl;rw[hd];generalize dG (max v.1 (-v.1)) 65536=c at *;generalize dG (max v.2.1 (-v.2.1)) 65536=d at *;generalize dG (max v.2.2 (-v.2.2)) 65536=f at *;rw[i,j,l];rw[i]at q;rw[j]at r;rw[l]at s;have F:i64.wrap (c*c)=c*c:=aa;have G:i64.wrap (d*d)=d*d:=aa;have H:i64.wrap (f*f)=f*f:=aa;have I:i64.wrap (c*c+d*d)=c*c+d*d:=aa;have J:i64.wrap (c*c+d*d+f*f)=c*c+d*d+f*f:=aa;refine Dp func238 λC hP hN=>?_;refine Gz ?_;refine WP.loopN [] 3 (λk st=>st.t 2=.ptr 2 0/\st.h 2=some (.box [.pv (Z v.1),.pv (Z v.2.1),.pv (Z v.2.2)] true false)/\st.t 1=.pv (Z rho)/\st.t 6=.pv (Z k)/\st.t 5=.pv (Z (if k=0 then 0 else if k=1 then c*c else if k=2 then c*c+d*d else c*c+d*d+f*f))) (by simp) ?_;rintro k st p ⟨g2,o,g1,m,g5⟩;rcases eu p with rfl|rfl|rfl|rfl
 all_goals (simp at g5 m)
 all_goals
  exact Gy
theorem MV(l:List Vc)(ws:List Int)(h8:l.length<=8)(G:ws.length=l.length)(y:l.all (av 268435456)=true)(q:WgOk ws):aK 237 (aG l) (zs ws) (am (de l ws l.length)):=by
 refine Dp func237 λC hP hN=>?_;refine Gz ?_;refine WP.loopN [] l.length (λi st=>st.t 0=.pv (aG l)/\st.t 1=.pv (zs ws)/\st.t 4=.ptr 4 0/\st.h 4=some (.box [.pv (Z 0),.pv (Z 0),.pv (Z 0)] true false)/\st.t 5=.ptr 5 0/\st.h 5=some (.box [.pv (Z (de l ws i).1),.pv (Z (de l ws i).2.1),.pv (Z (de l ws i).2.2)] true false)/\st.t 6=.pv (Z i)) (by simp[de]) ?_;rintro i st hi ⟨g0,g1,g4,f,g5,c,o⟩;by_cases g:i<l.length
 .have H:=aj g (by omega)
  have d:(i:Int)<(l.length:Int):=by omega
  have e:i<ws.length:=by omega
  generalize m:l[i]=p at *
  have u:l[i]?=some p:=by rw[an g,m]
  generalize n:ws[i]=k at *
  have r:ws[i]?=some k:=by rw[an e,n]
  have J:=jO y q i (by omega);have K:=jO y q (i+1) (by omega);have E:=q.pos k (Is r)
  have F:k<=65536:=by
   have a1:=mN r;have a2:=rc q.pos i;have a3:=ic q.pos (show i+1<=ws.length by omega);have a4:=q.tot;omega
  have hp:=eD (TP.1 y p (Is u))
  have hS:de l ws (i+1)=((de l ws i).1+k*p.1,(de l ws i).2.1+k*p.2.1,(de l ws i).2.2+k*p.2.2):=by simp only[de,u,r]
  have m1:=bF (a:=k) (b:=p.1) 65536 268435456 (by omega) (by omega) hp.1.1 hp.1.2;have m2:=bF (a:=k) (b:=p.2.1) 65536 268435456 (by omega) (by omega) hp.2.1.1 hp.2.1.2;have I:=bF (a:=k) (b:=p.2.2) 65536 268435456 (by omega) (by omega) hp.2.2.1 hp.2.2.2;generalize de l ws i=S at *;generalize de l ws (i+1)=O at *;subst hS;obtain⟨z,A,B⟩:=K;simp only at z A B;have L:i64.wrap (k*p.1)=k*p.1:=aa;have M:i64.wrap (k*p.2.1)=k*p.2.1:=aa;have N:i64.wrap (k*p.2.2)=k*p.2.2:=aa;have v1:i64.wrap (S.1+k*p.1)=S.1+k*p.1:=aa;have v2:i64.wrap (S.2.1+k*p.2.1)=S.2.1+k*p.2.1:=aa;have v3:i64.wrap (S.2.2+k*p.2.2)=S.2.2+k*p.2.2:=aa;clear J z A B m1 m2 I hp;have s:[AV.pv (Z S.1),AV.pv (Z S.2.1),AV.pv (Z S.2.2)]=kU S p k 0:=rfl;rw[s]at c;refine Gz ?_;refine WP.loopN [] 3 (λj st=>st.t 0=.pv (aG l)/\st.t 1=.pv (zs ws)/\st.t 4=.ptr 4 0/\st.h 4=some (.box [.pv (Z 0),.pv (Z 0),.pv (Z 0)] true false)/\st.t 5=.ptr 5 0/\st.h 5=some (.box (kU S p k j) true false)/\st.t 6=.pv (Z i)/\st.t 7=.pv (Z j)) (by simp[g0,g1,g4,f,g5,o,c,kU]) ?_;clear g0 g1 g4 f g5 o c;rintro j st D ⟨g0,g1,g4,f,g5,c,o,v⟩;rcases eu D with rfl|rfl|rfl|rfl
  all_goals (simp[kU]at c v)
  .skip
   with_reducible repeat' (first|refine Sp.h ?_|((first|refine Wd ?_|refine Ss.h ?_)<;>simp -implicitDefEqProofs [hP,hN,g0,g1,g4,f,g5,c,o,v,u,m,r,n,g,d,e,L,v1,kU]<;>try refine Ya ?_))
  .skip
   with_reducible repeat' (first|refine Sp.h ?_|((first|refine Wd ?_|refine Ss.h ?_)<;>simp -implicitDefEqProofs [hP,hN,g0,g1,g4,f,g5,c,o,v,u,m,r,n,g,d,e,M,v2,kU]<;>try refine Ya ?_))
  .skip
   with_reducible repeat' (first|refine Sp.h ?_|((first|refine Wd ?_|refine Ss.h ?_)<;>simp -implicitDefEqProofs [hP,hN,g0,g1,g4,f,g5,c,o,v,u,m,r,n,g,d,e,N,v3,kU]<;>try refine Ya ?_))
  .skip
   exact Gy
 .have x:i=l.length:=by omega
  have d:¬(i:Int)<(l.length:Int):=by omega
  subst x;exact Gy
theorem Bj(l:List Int)(i:Nat)(y:Int):(List.map Z l).set i (PV.val (Value.int i64 y))=List.map Z (l.set i y):=by simp
theorem MW(w:List Int)(t:Int)(q:Nat)(h8:w.length<=8)(c:WgOk w)(hq:q<w.length)(A:0<=t)(n:t<=256):kY 243 (zs w) (Z t) (Z q) (zs (j5 w q t)):=by
 have O:j5 w q t=(em w t w.length).set q (((em w t w.length)[q]?).getD 0+en w t w.length):=rfl
 have d:∀k∈w,0<=k/\k<=65536:=λk l=>by
  obtain⟨i,hi⟩:=UB l;have a1:=mN hi;have a2:=rc c.pos i;have a3:=ic c.pos (show i+1<=w.length by have:=(th.1 hi).1;omega);have a4:=c.tot;exact⟨c.pos k l,by omega⟩
 have a:=oA c.pos A n
 have M:w.length*8<=140737488355328:=by omega
 have N:w.length<=9223372036854775807:=by omega
 refine Dp func243 λC hP hN=>?_;refine GT (gA M N) ?_;refine WP.loopN [] w.length (λi st=>st.t 1=.pv (Z t)/\st.t 2=.pv (Z q)/\st.t 7=.arr 12 w.length/\st.h 12=some (.row 2 1 ((em w t i).map Z) 0)/\st.t 8=.pv (Z (en w t i))/\st.t 9=.pv (Z i)) (by simp[t5,en]) ?_;rintro i st hi ⟨g1,g2,F,I,G,H⟩;have j:=m8 w t i;have P:=a i
 have Q:aX w i<=65536:=by
  have:=ic c.pos (show i<=w.length by omega);have:=c.tot;omega
 by_cases m:i<w.length
 .have B:=aj m (by omega)
  have b:(i:Int)<(w.length:Int):=by omega
  generalize D:w[i]=k at *
  have o:w[i]?=some k:=by rw[an m,D]
  have l:=d k (Is o);have hp:=ow l.1 A n
  have g:(em w t i)[i]?=some k:=by rw[jE,o];simp
  have p:=t6 (t:=t) o
  have x:en w t (i+1)=en w t i+k*t/256:=by simp[en,o]
  have v:=a (i+1)
  have J:aX w (i+1)<=65536:=by
   have:=ic c.pos (show i+1<=w.length by omega);have:=c.tot;omega
  rw[p];rw[x]at v|-;have y:(List.map Z (em w t i)).set i (PV.val (Value.int i64 (k-k*t/256)))=List.map Z ((em w t i).set i (k-k*t/256)):=Bj _ _ _;generalize em w t i=K at *
  have f:∀h,K[i]'h=k:=λh=>by rw[an h]at g;exact UM g
  have S:i64.wrap (k*t)=k*t:=aa;have T:(k*t).tdiv 256=k*t/256:=Un (by omega);have U:i64.wrap (k*t/256)=k*t/256:=aa;have V:i64.wrap (k-k*t/256)=k-k*t/256:=aa;have E:i64.wrap (en w t i+k*t/256)=en w t i+k*t/256:=aa;generalize en w t i=L at *
  with_reducible repeat' (first|refine Sp.h ?_|((first|refine Ss.h ?_)<;>simp -implicitDefEqProofs [hP,hN,g1,g2,F,I,G,H,m,b,g,f,j,S,T,U,V,E,B,y,-List.map_set]))
 .have r:i=w.length:=by omega
  have b:¬(i:Int)<(w.length:Int):=by omega
  subst r
  have z:(q:Int)<(w.length:Int):=by omega
  obtain⟨u,e⟩:∃u,(em w t w.length)[q]?=some u:=⟨_,an (by rw[j];exact hq)⟩
  have R:0<=u/\u<=65536:=by
   rw[jE]at e;obtain⟨k,l⟩:∃k,w[q]?=some k:=⟨_,an hq⟩;rw[l]at e;simp only[UO,T6]at e;have s:=d k (Is l);have hp:=ow s.1 A n;split at e<;>omega
  rw[O,e];have y:(List.map Z (em w t w.length)).set q (PV.val (Value.int i64 (u+en w t w.length)))=List.map Z ((em w t w.length).set q (u+en w t w.length)):=Bj _ _ _;have E:i64.wrap (u+en w t w.length)=u+en w t w.length:=aa;generalize em w t w.length=K at *
  have f:∀h,K[q]'h=u:=λh=>by rw[an h]at e;exact UM e
  generalize en w t w.length=L at *
  with_reducible repeat' (first|refine Sp.h ?_|((first|refine Ss.h ?_)<;>simp -implicitDefEqProofs [hP,hN,g1,g2,F,I,G,H,b,hq,z,e,f,j,E,y,-List.map_set]))
theorem Og(x:Int)(a:Nat):(x.tdiv (a:Int)).tdiv 2=x.tdiv ((a*2:Nat):Int):=by
 have h:∀n:Nat,((n:Int).tdiv (a:Int)).tdiv 2=(n:Int).tdiv ((a*2:Nat):Int):=λn=>by
  have e:∀p q:Nat,(p:Int).tdiv (q:Int)=((p/q:Nat):Int):=λp q=>by rw[Un (by omega),Int.natCast_ediv]
  rw[e n a,show(2:Int)=((2:Nat):Int) from rfl,e,e,Nat.div_div_eq_div_mul]
 rcases Wo 0 x with b|b
 .have:=h x.toNat
  rw[Int.toNat_of_nonneg b]at this;exact this
 .have:=h (-x).toNat
  rw[Int.toNat_of_nonneg (by omega)]at this;rw[Int.neg_tdiv,Int.neg_tdiv,Int.neg_tdiv]at this;omega
def jI(i:Nat)(v:Vc):Vc:=(v.1.tdiv ((2^i:Nat):Int),v.2.1.tdiv ((2^i:Nat):Int),v.2.2.tdiv ((2^i:Nat):Int))
theorem I7(v:Vc):jI 0 v=v:=by simp[jI]
theorem I8(i:Nat)(v:Vc):lP (jI i v)=jI (i+1) v:=by
 simp only[lP,jI,Og,WC]
theorem zG{v:Vc}:∀(i:Nat),i<=64->(∀j,j<i->av 16384 (jI j v)=false)->kA 64 v=kA (64-i) (jI i v)
 |0,_,_=>by rw[I7]
 |i+1,hi,h=>by
  rw[zG i (by omega) (λj a=>h j (by omega)),show 64-i=(64-(i+1))+1 by omega,kA,TQ (by rw[h i (by omega)];simp),I8]
theorem D5(h:av 16384 v=true):kA n v=v:=by
 cases n with
 |zero=>rfl
 |succ n=>rw[kA,T8 h]
theorem Hy(hi:i<=64)(h:∀j,j<i->av 16384 (jI j v)=false)(hn:av 16384 (jI i v)=true):bp v=jI i v:=by
 unfold bp;rw[zG i hi h,D5 hn]
theorem K6(h:av 16384 v=false):nz (lP v)=true:=by
 have hn:¬(av 16384 v=true):=by rw[h];simp
 rw[bV,aY,aY,aY]at hn
 cases d:nz (lP v)with
 |true=>rfl
 |false=>
  exfalso;simp only[nz,lP,Bool.not_eq_false',An,US]at d;obtain⟨⟨e,f⟩,z3⟩:=d
  have t:∀x:Int,x.tdiv 2=0->-2<x/\x<2:=λx g=>by
   have:=Wt x 2;have:=Wc x (show(0:Int)<2 by decide);have:=VK x (show(0:Int)<2 by decide);omega
  have a:=t _ e;have b:=t _ f;have c:=t _ z3;omega
theorem Dm:∀(n:Nat)(v:Vc),nz v=true->nz (kA n v)=true
 |0,v,h=>h
 |n+1,v,h=>by
  rw[kA];split
  .exact h
  .rename_i hn
   exact Dm n _ (K6 (by simpa using hn))
theorem K7(h:ff 1099511627776 v):av 16384 (jI 26 v)=true:=by
 have t:∀x:Int,-1099511627776<=x->x<=1099511627776->-16384<=x.tdiv ((2^26:Nat):Int)/\x.tdiv ((2^26:Nat):Int)<=16384:=λx a b=>by
  have e:=Wt x ((2^26:Nat):Int);have d:=Wc x (show(0:Int)<((2^26:Nat):Int) by decide);have f:=VK x (show(0:Int)<((2^26:Nat):Int) by decide)
  have g:((2^26:Nat):Int)=67108864:=by decide
  rw[g]at e d f|-;omega
 have a:=t _ h.1.1 h.1.2;have b:=t _ h.2.1.1 h.2.1.2;have c:=t _ h.2.2.1 h.2.2.2;rw[bV,aY,aY,aY];simp only[jI];omega
@[simp] theorem Sv(x y:Operand):
 bz prog ⟨dst,.binOp .eql 84 x y 84,ty,pos,aft,g⟩ ρ=Gd (ρ x) (ρ y) (jq prog ⟨dst,.binOp .eql 84 x y 84,ty,pos,aft,g⟩ ρ):=by
 unfold Gd;split
 .rename_i a b e c d f i j
  exact zd rfl (ql i) (ql j) (by kernel_rfl) (Kn a b e c d f)
 .rfl
@[simp] theorem NO(a b e c d f:Int)(fb:Option cK):Gd (.pv (.val (.agg #[.int .i64 a,.int .i64 b,.int .i64 e]))) (.pv (.val (.agg #[.int .i64 c,.int .i64 d,.int .i64 f]))) fb=some (.pv (.val (.bool (a==c&&b==d&&e==f))),[]):=rfl
theorem MX(v:Vc)(h:ff 1099511627776 v):aR 239 (am v) (.tup [am (bp v),B (nz (bp v))]):=by
 cases z:nz v with
 |false=>
  have m:(v.1==0&&v.2.1==0&&v.2.2==0)=true:=by simpa[nz]using z
  have G:v=(0,0,0):=by
   simp only[An,US]at m;obtain⟨⟨a,b⟩,c⟩:=m;exact Prod.ext a (Prod.ext b c)
  subst G
  have hn:bp (0,0,0)=(0,0,0):=by decide +kernel
  rw[hn,z];refine Dp func239 λC hP hN=>?_;exact Gy
 |true=>
  have m:(v.1==0&&v.2.1==0&&v.2.2==0)=false:=by
   have:=z;simp only[nz,UG]at this;exact this
  have E:nz (bp v)=true:=Dm 64 v z;rw[E];have P:∀i,i<=26->(2^i:Nat)<=67108864:=λi hi=>Nat.pow_le_pow_right (by decide) hi;have O:∀i,0<(2^i:Nat):=λi=>Nat.pow_pos (by decide);refine Dp func239 λC hP hN=>?_;refine Gz ?_;refine WP.loopN [5] 26 (λi st=>st.t 1=.ptr 1 0/\st.h 1=some (.box [.pv (Z v.1),.pv (Z v.2.1),.pv (Z v.2.2)] true false)/\st.t 2=.ptr 2 0/\st.h 2=some (.box [.pv (Z 0),.pv (Z 0),.pv (Z 0)] true false)/\st.t 4=.pv (Z ((2^i:Nat):Int))/\st.h 5=none/\∀j,j<i->av 16384 (jI j v)=false) (by simp) ?_;rintro i st hi ⟨g1,p,g2,q,g4,r,hq⟩;have T:=P i hi;have U:=O i
  have u:¬((2^i:Nat):Int)=0:=by omega
  have d:¬(2^i:Nat)=0:=by omega
  have n:=vm (jI i v).1 (jI i v).2.1 (jI i v).2.2 16384 (by decide) (by decide);have D:av 16384 (jI i v)=fS (jI i v).1 (jI i v).2.1 (jI i v).2.2 16384:=rfl;rw[<-D]at n;have g:(jI i v).1=v.1.tdiv ((2^i:Nat):Int):=rfl;have k:(jI i v).2.1=v.2.1.tdiv ((2^i:Nat):Int):=rfl;have l:(jI i v).2.2=v.2.2.tdiv ((2^i:Nat):Int):=rfl
  have J:∀x:Int,-1099511627776<=x->x<=1099511627776->i64.wrap (x.tdiv ((2^i:Nat):Int))=x.tdiv ((2^i:Nat):Int):=λx a b=>by
   have e:=Int.natAbs_tdiv_le_natAbs x ((2^i:Nat):Int);exact aa (by omega) (by omega)
  have H:=J _ h.1.1 h.1.2;have I:=J _ h.2.1.1 h.2.1.2;have t3:=J _ h.2.2.1 h.2.2.2;rw[<-g]at H;rw[<-k]at I;rw[<-l]at t3;have N:(2^(i+1):Nat)=2^i*2:=WC 2 i;have R:i64.wrap (((2^i:Nat):Int)*2)=((2^(i+1):Nat):Int):=(aa (by omega) (by omega)).trans (by omega);have A:=λhn=>Hy (v:=v) (i:=i) (by omega) hq hn
  have o:av 16384 (jI i v)=false->i<26:=λhf=>by
   by_cases f:i<26
   .exact f
   .have:i=26:=by omega
    subst this;rw[K7 h]at hf;cases hf
  have F:av 16384 (jI i v)=false->∀j,j<i+1->av 16384 (jI j v)=false:=λhf j V=>by
   by_cases e:j=i
   .subst e;exact hf
   .exact hq j (by omega)
  generalize S:jI i v=K at *;generalize L:(2^(i+1):Nat)=Q at *;generalize(2^i:Nat)=W at *
  cases s:av 16384 K with
  |true=>
   rw[s]at n;have M:=A s;rw[M]
   with_reducible repeat' (first|refine Sp.h ?_|((first|refine Wd ?_|refine Ss.h ?_|refine Sc.h (n) ?_)<;>simp -implicitDefEqProofs [hP,hN,g1,p,g2,q,g4,r,u,d,<-g,<-k,<-l,H,I,t3]<;>try refine Ya ?_))
  |false=>
   rw[s]at n;have f:=o s;have y:=F s
   with_reducible repeat' (first|refine Sp.h ?_|((first|refine Wd ?_|refine Ss.h ?_|refine Sc.h (n) ?_|(refine Sb.h ?_ ?_ ?_<;>(try intro hgd)<;>try exact Xy))<;>simp -implicitDefEqProofs [hP,hN,g1,p,g2,q,g4,r,u,d,<-g,<-k,<-l,H,I,t3,R]<;>try refine Ya ?_)|refine X2 ?_ ?_|(refine Xd ?_ ?_<;>intro hcd<;>try exact Xx))
   all_goals exact⟨f,y⟩
theorem pu{bet:Int->Int->Bool}{n p0:Vc}{l:List Vc}(b:l[0]?=some p0):∀i,∃p,l[(dB bet n p0 l i).2]?=some p/\(dB bet n p0 l i).1=bA n p
 |0=>⟨p0,b,rfl⟩
 |i+1=>by
  obtain⟨p,hp,c⟩:=pu (bet:=bet) (n:=n) b i
  cases a:l[i]? with
  |none=>simp only[dB,a];exact⟨p,hp,c⟩
  |some v=>
   rw[nO a];split
   .exact⟨v,a,rfl⟩
   .exact⟨p,hp,c⟩
theorem MY(n:Vc)(l:List Vc)(hn:av 16384 n=true)(h1:1<=l.length)(h8:l.length<=8)(W:l.all (av 268435456)=true):kY 240 (am n) (aG l) (Z 1) (Z (dc eN n l).2):=by
 obtain⟨p0,e⟩:∃p0,l[0]?=some p0:=⟨_,an (by omega)⟩
 have V:dc eN n l=dB eN n p0 l l.length:=by simp[dc,e]
 have u:=pu (bet:=eN) (n:=n) e;have o:=tZ (bet:=eN) (n:=n) (p0:=p0) (l:=l) (by omega);have s:=vu hn
 have b:∀p∈l,aP prog 241 [.pv (am n),.pv (am p)] [] [] (.pv (Z (bA n p)))/\-13194139533312<=bA n p/\bA n p<=13194139533312:=λp hp=>by
  have hq:=eD (TP.1 W p hp);exact⟨AA n p 16384 268435456 s hq (by decide),rU s hq⟩
 rw[V];refine Dp func240 λC hP hN=>?_;refine Gz ?_;refine WP.loopN [] (l.length-1) (λi st=>st.t 3=.ptr 3 0/\st.h 3=some (.box [.pv (Z n.1),.pv (Z n.2.1),.pv (Z n.2.2)] true false)/\st.t 1=.pv (aG l)/\st.t 2=.pv (Z 1)/\st.t 8=.pv (Z ((i+1:Nat):Int))/\st.t 7=.pv (Z (dB eN n p0 l (i+1)).2)) (by simp[dB,e,eN]) ?_;rintro i st hi ⟨g3,g,g1,g2,B,A⟩;obtain⟨m,X⟩:∃m,m=i+1:=⟨_,rfl⟩
 have E:i+1+1=m+1:=by omega
 rw[<-X]at B A;rw[E];by_cases d:m<l.length
 .have I:i64.wrap ((m:Int)+1)=((m+1:Nat):Int):=(aa (by omega) (by omega)).trans (by omega)
  have a:(m:Int)<(l.length:Int):=by omega
  have j:i<l.length-1:=by omega
  obtain⟨p,hp,F⟩:=u m;have k:=o m;generalize f:l[m]=v at *
  have z:l[m]?=some v:=by rw[an d,f]
  obtain⟨d1,R,S⟩:=b v (Is z);obtain⟨d2,T,U⟩:=b p (Is hp);have Y:=nO (bet:=eN) (n:=n) (p0:=p0) z;rw[Y,F];generalize G:(dB eN n p0 l m).2=q at *
  have r:∀h,l[q]'h=p:=λh=>by rw[an h]at hp;exact UM hp
  generalize bA n v=x at *;generalize bA n p=y at *;have J:i64.wrap x=x:=aa;have K:i64.wrap y=y:=aa;have L:i64.wrap (-x)=-x:=aa;have M:i64.wrap (-y)=-y:=aa;have N:i64.wrap (-1*x)=-x:=(aa (by omega) (by omega)).trans (by omega);have O:i64.wrap (-1*y)=-y:=(aa (by omega) (by omega)).trans (by omega);have P:i64.wrap (1*x)=x:=(aa (by omega) (by omega)).trans (by omega);have Q:i64.wrap (1*y)=y:=(aa (by omega) (by omega)).trans (by omega);by_cases H:x<y
  .have c:eN x y=true:=by simp only[eN,L4];omega
   rw[c];simp only[Ul];exact GS (zAa g3 g g1 g2 B A d a I z f hp r k (s6 j J K L M N O P Q H))
  .have c:eN x y=false:=by simp only[eN,Ue];omega
   rw[c];simp only[T5,Uf];refine GT (zAa g3 g g1 g2 B A d a I z f hp r k (s6 j J K L M N O P Q H)) ?_
   all_goals rw[G]
 .have D:m=l.length:=by omega
  have a:¬(m:Int)<(l.length:Int):=by omega
  subst D;exact Gy
theorem MZ(n:Vc)(l:List Vc)(hn:av 16384 n=true)(h1:1<=l.length)(h8:l.length<=8)(W:l.all (av 268435456)=true):kY 240 (am n) (aG l) (Z (-1)) (Z (dc eO n l).2):=by
 obtain⟨p0,e⟩:∃p0,l[0]?=some p0:=⟨_,an (by omega)⟩
 have V:dc eO n l=dB eO n p0 l l.length:=by simp[dc,e]
 have u:=pu (bet:=eO) (n:=n) e;have o:=tZ (bet:=eO) (n:=n) (p0:=p0) (l:=l) (by omega);have s:=vu hn
 have b:∀p∈l,aP prog 241 [.pv (am n),.pv (am p)] [] [] (.pv (Z (bA n p)))/\-13194139533312<=bA n p/\bA n p<=13194139533312:=λp hp=>by
  have hq:=eD (TP.1 W p hp);exact⟨AA n p 16384 268435456 s hq (by decide),rU s hq⟩
 rw[V];refine Dp func240 λC hP hN=>?_;refine Gz ?_;refine WP.loopN [] (l.length-1) (λi st=>st.t 3=.ptr 3 0/\st.h 3=some (.box [.pv (Z n.1),.pv (Z n.2.1),.pv (Z n.2.2)] true false)/\st.t 1=.pv (aG l)/\st.t 2=.pv (Z (-1))/\st.t 8=.pv (Z ((i+1:Nat):Int))/\st.t 7=.pv (Z (dB eO n p0 l (i+1)).2)) (by simp[dB,e,eO]) ?_;rintro i st hi ⟨g3,g,g1,g2,B,A⟩;obtain⟨m,X⟩:∃m,m=i+1:=⟨_,rfl⟩
 have E:i+1+1=m+1:=by omega
 rw[<-X]at B A;rw[E];by_cases d:m<l.length
 .have I:i64.wrap ((m:Int)+1)=((m+1:Nat):Int):=(aa (by omega) (by omega)).trans (by omega)
  have a:(m:Int)<(l.length:Int):=by omega
  have j:i<l.length-1:=by omega
  obtain⟨p,hp,F⟩:=u m;have k:=o m;generalize f:l[m]=v at *
  have z:l[m]?=some v:=by rw[an d,f]
  obtain⟨d1,R,S⟩:=b v (Is z);obtain⟨d2,T,U⟩:=b p (Is hp);have Y:=nO (bet:=eO) (n:=n) (p0:=p0) z;rw[Y,F];generalize G:(dB eO n p0 l m).2=q at *
  have r:∀h,l[q]'h=p:=λh=>by rw[an h]at hp;exact UM hp
  generalize bA n v=x at *;generalize bA n p=y at *;have J:i64.wrap x=x:=aa;have K:i64.wrap y=y:=aa;have L:i64.wrap (-x)=-x:=aa;have M:i64.wrap (-y)=-y:=aa;have N:i64.wrap (-1*x)=-x:=(aa (by omega) (by omega)).trans (by omega);have O:i64.wrap (-1*y)=-y:=(aa (by omega) (by omega)).trans (by omega);have P:i64.wrap (1*x)=x:=(aa (by omega) (by omega)).trans (by omega);have Q:i64.wrap (1*y)=y:=(aa (by omega) (by omega)).trans (by omega);by_cases H:y<x
  .have c:eO x y=true:=by simp only[eO,L4];omega
   rw[c];simp only[Ul];exact GS (zAa g3 g g1 g2 B A d a I z f hp r k (s6 j J K L M N O P Q H))
  .have c:eO x y=false:=by simp only[eO,Ue];omega
   rw[c];simp only[T5,Uf];refine GT (zAa g3 g g1 g2 B A d a I z f hp r k (s6 j J K L M N O P Q H)) ?_
   all_goals rw[G]
 .have D:m=l.length:=by omega
  have a:¬(m:Int)<(l.length:Int):=by omega
  subst D;exact Gy
theorem K8(h:∀w∈ws,0<=w):∀{i j:Nat},i<=j->aX ws i<=aX ws j:=λa=>ic h a
theorem Hz{w:Int}:wB w=true↔0<=w/\w<=65536:=by
 simp only[wB,UG,Vg,Ue];omega
theorem I9{l:List aq}(hp:ao l=true)(a:ws.length=l.length):dX l ws=true↔(∀w∈ws,0<=w/\w<=65536)/\1<=aX ws ws.length/\aX ws ws.length<=65536:=by
 simp only[dX,hp,a,VQ,Uq,An,TP,Hz,UG,Vg,Ue];rw[<-a];constructor
 all_goals rintro⟨b,c⟩;exact⟨b,by omega,by omega⟩
set_option maxRecDepth 4000 in
theorem M5(l:List aq)(ws:List Int)(hl:l.length<=9223372036854775807)(V:ws.length<=9223372036854775807):aK 209 (aB l) (zs ws) (fJ l ws):=by
 have W:=vP l hl;have z6:bE bm=V6 0 0 0 0 0 0:=rfl
 have o:dX l ws=false->fJ l ws=.tup [V6 0 0 0 0 0 0,Z 0,B false]:=λhf=>by unfold fJ;rw[hf];rfl
 cases hp:ao l with
 |false=>
  rw[hp]at W;rw[o (by simp[dX,hp])];refine Dp func209 λC hP hN=>?_;exact Gy
 |true=>
 rw[hp]at W;by_cases s:ws.length=l.length
 case neg=>
  have L:((ws.length:Int)!=(l.length:Int))=true:=by simp;omega
  have ad:¬(ws.length:Int)=(l.length:Int):=by omega
  rw[o (by simp[dX,s])];refine Dp func209 λC hP hN=>?_;exact Gy
 have L:((ws.length:Int)!=(l.length:Int))=false:=by simp[s]
 have n:=I9 hp s;have M:=hp;simp only[ao,An,L4]at M;obtain⟨⟨ar,a5⟩,R⟩:=M;have H:=TP.1 R;refine Dp func209 λC hP hN=>?_;refine Gz ?_;refine WP.loopN [] ws.length (λi st=>st.t 0=.pv (aB l)/\st.t 1=.pv (zs ws)/\st.t 4=.ptr 4 0/\st.h 4=some (.box (b6 bm) true false)/\st.t 7=.pv (Z (aX ws i))/\st.t 8=.pv (Z i)/\st.h 9=none/\(∀k w,k<i->ws[k]?=some w->0<=w/\w<=65536)/\0<=aX ws i/\aX ws i<=65536) (by simp[aX,bm]) ?_;rintro i st hi ⟨g0,g1,g4,b,q,g8,a,hq,t0,t1⟩;by_cases c:i<ws.length
 .have y:=aj c V
  have f:(i:Int)<(ws.length:Int):=by omega
  generalize j:ws[i]=w at *
  have r:ws[i]?=some w:=by rw[an c,j]
  have hT:aX ws (i+1)=aX ws i+w:=by simp only[aX,r,Uj]
  have wS:i64.wrap (65536-aX ws i)=65536-aX ws i:=aa;have d:=n.1;have G:=K8 (ws:=ws);by_cases h9:w<0
  .rw[o (by
    cases J:dX l ws with
    |false=>rfl
    |true=>have:=((n.1 J).1 w (Is r));omega)]
   exact Gy
  .by_cases h10:65536-aX ws i<w
   .rw[o (by
     cases J:dX l ws with
     |false=>rfl
     |true=>
      obtain⟨c1,c2,c3⟩:=n.1 J;have:=G (λw y=>(c1 w y).1) (show i+1<=ws.length by omega)
      omega)]
    exact Gy
   .have wT:i64.wrap (aX ws i+w)=aX ws i+w:=aa
    have U:∀k u,k<i+1->ws[k]?=some u->0<=u/\u<=65536:=λk u K N=>by
     by_cases e:k=i
     .subst e;rw[r]at N;injection N with N;subst N;omega
     .exact hq k u (by omega) N
    have t2:0<=aX ws i+w/\aX ws i+w<=65536:=by omega
    rw[hT];generalize aX ws i=T at *;refine GT (zAa g0 g1 g4 b q g8 a c f r j h9 wS h10 (gA wT y)) ?_
    all_goals exact⟨U,t2⟩
 .have F:i=ws.length:=by omega
  have f:¬(i:Int)<(ws.length:Int):=by omega
  have d:∀w∈ws,0<=w/\w<=65536:=λw y=>by
   obtain⟨k,K⟩:=UB y;exact hq k w (by have:=(th.1 K).1;omega) K
  subst F;by_cases h1:aX ws ws.length<1
  .rw[o (by
    cases J:dX l ws with
    |false=>rfl
    |true=>have:=n.1 J;omega)]
   exact Gy
  .have Q:dX l ws=true:=n.2 ⟨d,by omega,by omega⟩
   have hR:fJ l ws=.tup [bE (dC l ws ws.length),Z (aX ws ws.length),B true]:=by unfold fJ;rw[Q];rfl
   rw[hR];have O:∀w∈ws,wB w=true:=λw y=>Hz.2 (d w y);have D:=yw H O;have A:st.h 4=some (.box [.pv (Z 0),.pv (Z 0),.pv (Z 0),.pv (Z 0),.pv (Z 0),.pv (Z 0)] true false):=b;clear b n o hq z6;generalize aX ws ws.length=T at *;refine Gz ?_;refine WP.loopN [] l.length (λi st=>st.t 0=.pv (aB l)/\st.t 1=.pv (zs ws)/\st.t 4=.ptr 4 0/\st.h 4=some (.box [.pv (Z 0),.pv (Z 0),.pv (Z 0),.pv (Z 0),.pv (Z 0),.pv (Z 0)] true false)/\st.t 7=.pv (Z T)/\st.t 9=.ptr 9 0/\st.h 9=some (.box (b6 (dC l ws i)) true false)/\st.t 10=.pv (Z i)) (by simp[dC,bm,g0,g1,g4,A,q]) ?_;clear g0 g1 g4 A q g8 a f c hi;rintro i st hi ⟨g0,g1,g4,b,q,E,a,g⟩;by_cases c:i<l.length
   .have y:=aj c (by omega)
    have f:(i:Int)<(l.length:Int):=by omega
    have m:i<ws.length:=by omega
    generalize j:ws[i]=w at *
    have r:ws[i]?=some w:=by rw[an m,j]
    generalize z:l[i]=x at *
    have P:l[i]?=some x:=by rw[an c,z]
    have I:=d w (Is r);have v:=H x (Is P);rw[gh]at v
    have hS:dC l ws (i+1)=qi w (dC l ws i) x:=by simp only[dC,r,P]
    obtain⟨r1,r2,r3⟩:=D i;have a1:=iB (w:=w) (x:=x.1) I v.1 r1;have a2:=iB (w:=w) (x:=x.2.1) I v.2.1 r2;have a3:=iB (w:=w) (x:=x.2.2) I v.2.2 r3;clear D d O H;generalize dC l ws i=S at *;generalize dC l ws (i+1)=S' at *;subst hS;have X:(du w S.1 x.1).1=S.1.1+w*x.1.1:=rfl;have Y:(du w S.1 x.1).2=S.1.2+w*x.1.2:=rfl;have d3:(du w S.2.1 x.2.1).1=S.2.1.1+w*x.2.1.1:=rfl;have d4:(du w S.2.1 x.2.1).2=S.2.1.2+w*x.2.1.2:=rfl;have d5:(du w S.2.2 x.2.2).1=S.2.2.1+w*x.2.2.1:=rfl;have d6:(du w S.2.2 x.2.2).2=S.2.2.2+w*x.2.2.2:=rfl;rw[X,Y]at a1;rw[d3,d4]at a2;rw[d5,d6]at a3;have u1:i64.wrap (w*x.1.1)=w*x.1.1:=aa;have u2:i64.wrap (w*x.1.2)=w*x.1.2:=aa;have u3:i64.wrap (w*x.2.1.1)=w*x.2.1.1:=aa;have u4:i64.wrap (w*x.2.1.2)=w*x.2.1.2:=aa;have u5:i64.wrap (w*x.2.2.1)=w*x.2.2.1:=aa;have u6:i64.wrap (w*x.2.2.2)=w*x.2.2.2:=aa;have v1:i64.wrap (S.1.1+w*x.1.1)=S.1.1+w*x.1.1:=aa;have v2:i64.wrap (S.1.2+w*x.1.2)=S.1.2+w*x.1.2:=aa;have v3:i64.wrap (S.2.1.1+w*x.2.1.1)=S.2.1.1+w*x.2.1.1:=aa;have v4:i64.wrap (S.2.1.2+w*x.2.1.2)=S.2.1.2+w*x.2.1.2:=aa;have v5:i64.wrap (S.2.2.1+w*x.2.2.1)=S.2.2.1+w*x.2.2.1:=aa;have v6:i64.wrap (S.2.2.2+w*x.2.2.2)=S.2.2.2+w*x.2.2.2:=aa;clear a1 a2 a3 r1 r2 r3 X Y d3 d4 d5 d6;refine Gz ?_;refine WP.loopN [] 3 (λk st=>st.t 0=.pv (aB l)/\st.t 1=.pv (zs ws)/\st.t 4=.ptr 4 0/\st.h 4=some (.box [.pv (Z 0),.pv (Z 0),.pv (Z 0),.pv (Z 0),.pv (Z 0),.pv (Z 0)] true false)/\st.t 7=.pv (Z T)/\st.t 9=.ptr 9 0/\st.h 9=some (.box (kX S x w k) true false)/\st.t 10=.pv (Z i)/\st.t 11=.pv (Z k)) (by simp[g0,g1,g4,b,q,E,a,g,kX]) ?_;clear g0 g1 g4 b q E a g;rintro k st K ⟨g0,g1,g4,b,q,E,a,g,p⟩;rcases eu K with rfl|rfl|rfl|rfl
    all_goals (simp[kX,du]at a p)
    .skip
     with_reducible repeat' (first|refine Sp.h ?_|((first|refine Wd ?_|refine Ss.h ?_|(refine Sb.h ?_ ?_ ?_<;>(try intro hgd)<;>try exact Xy))<;>simp -implicitDefEqProofs (maxSteps:=2000000) [hP,hN,g0,g1,g4,b,q,E,a,g,p,r,j,P,z,c,m,u1,u2,v1,v2,kX,du]<;>try refine Ya ?_)|refine X2 ?_ ?_|(refine Xd ?_ ?_<;>intro hcd<;>try exact Xx))
    .skip
     with_reducible repeat' (first|refine Sp.h ?_|((first|refine Wd ?_|refine Ss.h ?_|(refine Sb.h ?_ ?_ ?_<;>(try intro hgd)<;>try exact Xy))<;>simp -implicitDefEqProofs (maxSteps:=2000000) [hP,hN,g0,g1,g4,b,q,E,a,g,p,r,j,P,z,c,m,u3,u4,v3,v4,kX,du]<;>try refine Ya ?_)|refine X2 ?_ ?_|(refine Xd ?_ ?_<;>intro hcd<;>try exact Xx))
    .skip
     with_reducible repeat' (first|refine Sp.h ?_|((first|refine Wd ?_|refine Ss.h ?_|(refine Sb.h ?_ ?_ ?_<;>(try intro hgd)<;>try exact Xy))<;>simp -implicitDefEqProofs (maxSteps:=2000000) [hP,hN,g0,g1,g4,b,q,E,a,g,p,r,j,P,z,c,m,u5,u6,v5,v6,kX,du]<;>try refine Ya ?_)|refine X2 ?_ ?_|(refine Xd ?_ ?_<;>intro hcd<;>try exact Xx))
    .skip
     with_reducible repeat' (first|refine Sp.h ?_|((first|refine Wd ?_|refine Ss.h ?_|(refine Sb.h ?_ ?_ ?_<;>(try intro hgd)<;>try exact Xy))<;>simp -implicitDefEqProofs (maxSteps:=2000000) [hP,hN,g0,g1,g4,b,q,E,a,g,p,c,y,qi,du]<;>try refine Ya ?_)|refine X2 ?_ ?_|(refine Xd ?_ ?_<;>intro hcd<;>try exact Xx))
   .have F:i=l.length:=by omega
    have f:¬(i:Int)<(l.length:Int):=by omega
    subst F;rw[<-s]at a;exact Gy
theorem AB(x:Int)(h1:-4611686018427387904<=x)(d:x<=4611686018427387904):aR 212 (Z x) (Z (max x (-x))):=by
 have e:i64.wrap (-x)=-x:=aa;have f:i64.wrap (0-x)=-x:=(aa (n:=0-x) (by omega) (by omega)).trans (by omega)
 have c:∀a b:Int,(if a<b then b else a)=max a b:=λa b=>by omega
 refine Dp func212 λC hP hN=>?_;exact Gy
theorem Ja(x y z r:Int):ou [x,y,z] r=if x<=r/\y<=r/\z<=r then r*r-x*x-y*y-z*z else -1:=by
 unfold ou
 have:[x,y,z].all (λx=>decide (x<=r))=decide (x<=r/\y<=r/\z<=r):=by simp[Bool.and_assoc]
 rw[this];simp[jd]
theorem Jb{u v:Iv}{T:Int}(a:1<=T/\T<=65536)(h1:-281474976710656<=u.1-v.2/\u.1-v.2<=281474976710656)(b:-281474976710656<=u.2-v.1/\u.2-v.1<=281474976710656):
 aP prog 211 [.pv (Z (max (u.1-v.2) (max (-(u.1-v.2)) (max (u.2-v.1) (-(u.2-v.1)))))),.pv (Z T)] [] [] (.pv (Z (dp u v T)))/\0<=dp u v T:=by
 have hf:max (u.1-v.2) (max (-(u.1-v.2)) (max (u.2-v.1) (-(u.2-v.1))))=ma (u.1-v.2) (u.2-v.1):=by unfold ma;omega
 have c:=tY h1 b;have:=Dl (ma (u.1-v.2) (u.2-v.1)) T (by omega);rw[ry (by omega) (by omega) (by omega),E2 (by omega)]at this;rw[hf];exact⟨this,(wF c.1 (by omega) a.1 a.2).1⟩
set_option maxRecDepth 4000 in
theorem Rq(left right:List Int)(a:List aq)(i:Int)(b:List aq)(j:Int)(h1:left.length<=9223372036854775807)(h2:right.length<=9223372036854775807)(h3:a.length<=9223372036854775807)(h4:b.length<=9223372036854775807):HN 135 (zs left) (zs right) (aB a) (Z i) (aB b) (Z j) (.tup [Z (lq left right a i b j),B (nN left right a i b j)]):=by
 have ca:=M5 a left h3 h1;have Y:=M5 b right h4 h2;have H:=AE i;have M:=AE j;have W:bE bm=V6 0 0 0 0 0 0:=rfl;have e:nN left right a i b j=(dX a left&&dX b right&&decide (aX left left.length=aX right right.length)&&bf i 0 1048576&&bf j 0 1048576):=rfl
 have hX:lq left right a i b j=if nN left right a i b j then ou (eL (dC a left left.length) (dC b right right.length) (aX left left.length)) (i+j)else 0:=rfl
 rw[hX]
 cases I:dX a left with
 |false=>
  rw[I]at e;simp only[UE]at e;rw[e];simp only[T5,Uf];simp only[fJ,I,T5,Uf,W]at ca;cases G:dX b right
  all_goals (simp only[fJ,G,T5,Uf,Ul,W]at Y)
  .skip
   refine Dp func135 λC hP hN=>?_;exact Gy
  .skip
   generalize dC b right right.length=V at *;generalize aX right right.length=X at *;refine Dp func135 λC hP hN=>?_;exact Gy
 |true=>
 simp only[fJ,I,Ul]at ca
 cases G:dX b right with
 |false=>
  rw[G]at e;simp only[UE,Vo]at e;rw[e];simp only[T5,Uf];simp only[fJ,G,T5,Uf,W]at Y;generalize dC a left left.length=U at *;generalize aX left left.length=T at *;refine Dp func135 λC hP hN=>?_;exact Gy
 |true=>
 simp only[fJ,G,Ul]at Y;have D:=tW I;have E:=tW G;have J:=CP I;rw[I,G]at e;simp only[Uq]at e;clear hX I G W;generalize dC a left left.length=U at *;generalize dC b right right.length=V at *;generalize aX left left.length=T at *;generalize aX right right.length=X at *;by_cases hT:T=X
 case neg=>
  have a9:(T !=X)=true:=by simp[hT]
  rw[U2 hT]at e;simp only[UE]at e;rw[e];simp only[T5,Uf];clear D E;refine Dp func135 λC hP hN=>?_;exact Gy
 subst hT;simp only[VQ,Uq]at e
 cases o:bf i 0 1048576 with
 |false=>
  rw[o]at e H;simp only[UE]at e;rw[e];simp only[T5,Uf];clear D E;refine Dp func135 λC hP hN=>?_;exact Gy
 |true=>
 cases F:bf j 0 1048576 with
 |false=>
  rw[F]at e M;rw[o]at H;simp only[Vo]at e;rw[e];simp only[T5,Uf];clear D E;refine Dp func135 λC hP hN=>?_;exact Gy
 |true=>
 rw[o,F]at e;rw[o]at H;rw[F]at M;simp only[Vl]at e;rw[e];simp only[Ul];simp only[bf,An,L4]at o F;obtain⟨c,N⟩:∃c,c=i+j:=⟨_,rfl⟩;have p:i64.wrap (i+j)=c:=(aa (by omega) (by omega)).trans N.symm;rw[<-N];have ba:=mo (x:=c) (m:=2097152) (by omega) (by omega);have a8:i64.wrap (c*c)=c*c:=aa;obtain⟨⟨⟨a1,a2⟩,a3,a4⟩,⟨⟨b1,b2⟩,b3,b4⟩,⟨c1,c2⟩,c3,c4⟩:=D;obtain⟨⟨⟨d1,d2⟩,d3,d4⟩,⟨⟨e1,e2⟩,e3,e4⟩,⟨f1,f2⟩,f3,f4⟩:=E;have k0:=Jb (u:=U.1) (v:=V.1) J (by omega) (by omega);have k1:=Jb (u:=U.2.1) (v:=V.2.1) J (by omega) (by omega);have k2:=Jb (u:=U.2.2) (v:=V.2.2) J (by omega) (by omega)
 have S:∀a b:Int,(if a<b then b else a)=max a b:=λa b=>by omega
 have Q:i64.wrap (U.1.1-V.1.2)=U.1.1-V.1.2:=aa;have R:i64.wrap (U.1.2-V.1.1)=U.1.2-V.1.1:=aa;have ar:i64.wrap (U.2.1.1-V.2.1.2)=U.2.1.1-V.2.1.2:=aa;have a5:i64.wrap (U.2.1.2-V.2.1.1)=U.2.1.2-V.2.1.1:=aa;have a6:i64.wrap (U.2.2.1-V.2.2.2)=U.2.2.1-V.2.2.2:=aa;have a7:i64.wrap (U.2.2.2-V.2.2.1)=U.2.2.2-V.2.2.1:=aa;have bc:=AB (U.1.1-V.1.2) (by omega) (by omega);have bq:=AB (U.1.2-V.1.1) (by omega) (by omega);have bs:=AB (U.2.1.1-V.2.1.2) (by omega) (by omega);have bH:=AB (U.2.1.2-V.2.1.1) (by omega) (by omega);have b0:=AB (U.2.2.1-V.2.2.2) (by omega) (by omega);have b5:=AB (U.2.2.2-V.2.2.1) (by omega) (by omega);clear a1 a2 a3 a4 b1 b2 b3 b4 c1 c2 c3 c4 d1 d2 d3 d4 e1 e2 e3 e4 f1 f2 f3 f4;have hg:eL U V T=[dp U.1 V.1 T,dp U.2.1 V.2.1 T,dp U.2.2 V.2.2 T]:=rfl;rw[hg,Ja];generalize dp U.1 V.1 T=x at *;generalize dp U.2.1 V.2.1 T=y at *;generalize dp U.2.2 V.2.2 T=z at *;obtain⟨k0,x0⟩:=k0;obtain⟨k1,y0⟩:=k1;obtain⟨k2,z0⟩:=k2
 have qx:x<=c->0<=x*x/\x*x<=4398046511104:=λh=>by have:=mo (x:=x) (m:=2097152) x0 (by omega);omega
 have qy:y<=c->0<=y*y/\y*y<=4398046511104:=λh=>by have:=mo (x:=y) (m:=2097152) y0 (by omega);omega
 have qz:z<=c->0<=z*z/\z*z<=4398046511104:=λh=>by have:=mo (x:=z) (m:=2097152) z0 (by omega);omega
 refine Dp func135 λC hP hN=>?_;refine GT (gA p a8) ?_;refine WP.loopN [] 3 (λk st=>st.t 3=.pv (Z i)/\st.t 5=.pv (Z j)/\st.t 14=.ptr 14 0/\st.h 14=some (.box [.pv (Z U.1.1),.pv (Z U.1.2),.pv (Z U.2.1.1),.pv (Z U.2.1.2),.pv (Z U.2.2.1),.pv (Z U.2.2.2)] true false)/\st.t 17=.ptr 17 0/\st.h 17=some (.box [.pv (Z V.1.1),.pv (Z V.1.2),.pv (Z V.2.1.1),.pv (Z V.2.1.2),.pv (Z V.2.2.1),.pv (Z V.2.2.2)] true false)/\st.t 15=.pv (Z T)/\st.t 21=.pv (Z k)/\st.t 20=.pv (Z (if k=0 then c*c else if k=1 then c*c-x*x else if k=2 then c*c-x*x-y*y else c*c-x*x-y*y-z*z))/\(0<k->x<=c)/\(1<k->y<=c)/\(2<k->z<=c)) (by simp) ?_;rintro k st hk ⟨g3,g5,r,f,A,g,s,n,l,p0,p1,p2⟩;rcases eu hk with rfl|rfl|rfl|rfl
 all_goals (simp at l n)
 .by_cases L:c<x
  .have d:(if x<=c/\y<=c/\z<=c then c*c-x*x-y*y-z*z else -1)=-1:=TQ (by omega)
   rw[d];exact GS (s7 g3 g5 r f A g s l n S Q (be R p L))
  .have q:=qx (by omega)
   have O:i64.wrap (x*x)=x*x:=aa;have P:i64.wrap (c*c-x*x)=c*c-x*x:=aa;refine GT (zAa g3 g5 r f A g s l n S Q R p L (gA O P)) ?_
   all_goals omega
 .have K:=p0 (by omega)
  have q':=qx K;by_cases L:c<y
  .have d:(if x<=c/\y<=c/\z<=c then c*c-x*x-y*y-z*z else -1)=-1:=TQ (by omega)
   rw[d];exact Gy
  .have q:=qy (by omega)
   have O:i64.wrap (y*y)=y*y:=aa;have P:i64.wrap (c*c-x*x-y*y)=c*c-x*x-y*y:=aa;refine GT (zAa g3 g5 r f A g s l n S ar a5 p L (gA O P)) ?_
   all_goals omega
 .have K:=p0 (by omega)
  have ad:=p1 (by omega);have q':=qx K;have bb:=qy ad;by_cases L:c<z
  .have d:(if x<=c/\y<=c/\z<=c then c*c-x*x-y*y-z*z else -1)=-1:=TQ (by omega)
   rw[d];exact Gy
  .have q:=qz (by omega)
   have O:i64.wrap (z*z)=z*z:=aa;have P:i64.wrap (c*c-x*x-y*y-z*z)=c*c-x*x-y*y-z*z:=aa;refine GT (zAa g3 g5 r f A g s l n S a6 a7 p L (gA O P)) ?_
   all_goals omega
 .have d:(if x<=c/\y<=c/\z<=c then c*c-x*x-y*y-z*z else -1)=c*c-x*x-y*y-z*z:=T8 ⟨p0 (by omega),p1 (by omega),p2 (by omega)⟩
  rw[d];exact Gy
theorem Tk(left right:List Int)(a:List aq)(c:Int)(b:List aq)(d:Int)(h1:left.length<=9223372036854775807)(g:right.length<=9223372036854775807)(i:a.length<=9223372036854775807)(j:b.length<=9223372036854775807):HN 75 (zs left) (zs right) (aB a) (Z c) (aB b) (Z d) (B (nN left right a c b d&&decide (0<=lq left right a c b d))):=by
 have f:=Rq left right a c b d h1 g i j;generalize lq left right a c b d=e at *;cases k:nN left right a c b d<;>rw[k]at f
 all_goals
  refine Dp func75 λC hP hN=>?_;exact Gy
theorem M6(a b:List Vc)(rho steps:Int)(ha:a.length<=9223372036854775807)(hb:b.length<=9223372036854775807):BB 177 (aG a) (aG b) (Z rho) (Z steps) (Ka (ji a b rho steps)):=by
 have ca:=MU a ha;have cb:=MU b hb
 have bH:qg a b rho steps=false->ji a b rho steps=(0,⟨[],[],(0,0,0),0⟩):=λh=>by simp[ji,h]
 have hd:qg a b rho steps=(fv a&&fv b&&bf rho 0 2097152&&bf steps 0 64):=rfl
 cases hA:fv a with
 |false=>
  rw[hA]at ca;rw[bH (by rw[hd,hA];rfl)];refine Dp func177 λC hP hN=>?_;exact GS trivial
 |true=>
 rw[hA]at ca
 cases hB:fv b with
 |false=>
  rw[hB]at cb;rw[bH (by rw[hd,hB,Vo];rfl)];refine Dp func177 λC hP hN=>?_;exact GS trivial
 |true=>
 rw[hB]at cb;by_cases b2:rho<0\/2097152<rho\/steps<0\/64<steps
 .have hf:qg a b rho steps=false:=by
   cases h:qg a b rho steps with
   |false=>rfl
   |true=>
    rw[hd]at h;simp only[bf,An,L4]at h;omega
  rw[bH hf];rcases b2 with h|h|h|h
  all_goals
   refine Dp func177 λC hP hN=>?_;exact GS h
 have q1:¬rho<0:=by omega
 have q2:¬2097152<rho:=by omega
 have q3:¬steps<0:=by omega
 have q4:¬64<steps:=by omega
 have ia:=jP.1 hA;have ib:=jP.1 hB;obtain⟨M,cr⟩:∃M:Nat,steps=M:=⟨steps.toNat,by omega⟩;subst cr
 have hr:ji a b rho M=kp a b rho M (M+1) (rV a b):=by
  have:qg a b rho M=true:=by
   rw[hd,hA,hB];simp[bf];omega
  simp[ji,this]
 rw[hr];obtain⟨R,hR⟩:∃R,R=kp a b rho M (M+1) (rV a b):=⟨_,rfl⟩;rw[<-hR]
 have f1:(8:Int)*(a.length:Int)<=281474976710656:=by omega
 have f2:(8:Int)*(b.length:Int)<=281474976710656:=by omega
 have f3:(a.length:Int)<=9223372036854775807:=by omega
 have f4:(b.length:Int)<=9223372036854775807:=by omega
 have f5:0<a.length:=by omega
 have f6:0<b.length:=by omega
 refine Dp func177 λC hP hN=>?_;refine GT (s6 q1 q2 q3 q4 f1 f2 f3 f4 f5 f6) ?_;refine WP.loopN [10,11,12,16] M (λi st=>∃(s:NSt)(X Y:AV),NsOk a b s/\s.r=i/\kp a b rho M (M+1-i) s=R/\st.t 0=.pv (aG a)/\st.t 1=.pv (aG b)/\st.t 2=.pv (Z rho)/\st.t 3=.pv (Z M)/\st.t 8=.ptr 8 0/\st.h 8=some (.box [.pv (Z 0),.pv (Z 0),.pv (Z 0),.pv (Z 0),.pv (.val (.slice none 0 0)),.pv (.val (.slice none 0 0)),.pv (Z 0)] true false)/\st.t 9=.ptr 9 0/\st.h 10=none/\st.h 11=none/\st.h 12=none/\st.h 16=none/\st.h 9=some (.box [.pv (Z 0),.pv (Z s.n.1),.pv (Z s.n.2.1),.pv (Z s.n.2.2),X,Y,.pv (Z s.r)] true false)/\((X=.arr 47 a.length/\Y=.arr 50 b.length/\st.h 47=some (.row 2 1 (s.w.map Z) 0)/\st.h 50=some (.row 2 1 (s.v.map Z) 0))\/(X=.pv (zs s.w)/\Y=.pv (zs s.v)))) ?_ ?_
 .refine⟨rV a b,.arr 47 a.length,.arr 50 b.length,CT ia.1 ib.1,rfl,hR.symm,?_⟩
  simp[rV]
 rintro i st hi ⟨s,X,Y,hs,cd,c,g0,g1,g2,g3,T,D,U,h10,h11,A,B,l,N⟩
 have cq:M+1-i=(M-i)+1:=by omega
 rw[cq,kp]at c;obtain⟨S,Q,n0,r⟩:=s;have bq:=hs.w;have bc:=hs.v;have k:=hs.wl;have j:=hs.vl;simp only at bq bc k j cd l N;subst cd;have f:=t7 (rho:=rho) (steps:=M) hA hB hs;have O:=CS hA hB hs;have cS:=MV a S ia.2.1 k ia.2.2 bq;have cT:=MV b Q ib.2.1 j ib.2.2 bc;have cu:=jO ia.2.2 bq a.length (by omega);have cw:=jO ib.2.2 bc b.length (by omega);have cM:=I6 (de a S a.length) (de b Q b.length) (jD cu (by decide)) (jD cw (by decide));have hT:aT (de a S a.length) (de b Q b.length)=eo a S b Q:=rfl;rw[hT]at cM;have cN:=Rp (eo a S b Q) rho O ⟨by omega,by omega⟩;have ad:=Hj O;have b0:=MX (je (eo a S b Q)) (jD ad (by decide));have V:=Bb (je (eo a S b Q)) (jD ad (by decide));have ck:je (eo a S b Q)=((eo a S b Q).1.tdiv 65536,(eo a S b Q).2.1.tdiv 65536,(eo a S b Q).2.2.tdiv 65536):=rfl;rw[oB]at c f;simp only at c f
 have xw:∀y:Int,-35184372088832<=y->y<=35184372088832->i64.wrap (y.tdiv 65536)=y.tdiv 65536:=λy p q=>by
  have e:=Int.natAbs_tdiv_le_natAbs y 65536;exact aa (by omega) (by omega)
 have x1:=xw _ O.1.1 O.1.2;have x2:=xw _ O.2.1.1 O.2.1.2;have x3:=xw _ O.2.2.1 O.2.2.2;clear xw hs;generalize de a S a.length=S1 at *;generalize de b Q b.length=S2 at *;generalize eo a S b Q=d at *
 cases hc:ov d rho with
 |true=>
  rw[hc]at cN c;simp only[Ul]at c;rw[<-c];rcases N with⟨rfl,rfl,E,F⟩|⟨rfl,rfl⟩
  .skip
   exact GS (zAa g0 g1 g2 g3 T D U h10 h11 A B l E F (gA k j))
  .skip
   exact GS (s7 g0 g1 g2 g3 T D U h10 h11 A B (be l k j))
 |false=>
 rw[hc]at cN c f;simp only[T5,Uf]at c f
 have b4:bp (je d)=bp ((d.1.tdiv 65536,d.2.1.tdiv 65536,d.2.2.tdiv 65536)):=by rw[<-ck]
 generalize c2:je d=x at *;subst ck;generalize c0:bp (d.1.tdiv 65536,d.2.1.tdiv 65536,d.2.2.tdiv 65536)=n at *;clear b4
 cases b5:nz n with
 |false=>
  rw[b5]at b0 c;simp only[Ul]at c;rw[<-c];rcases N with⟨rfl,rfl,E,F⟩|⟨rfl,rfl⟩
  .skip
   exact GS (zAa g0 g1 g2 g3 T D U h10 h11 A B l E F (go k j x1 x2 x3))
  .skip
   exact GS (zAa g0 g1 g2 g3 T D U h10 h11 A B l k j (be x1 x2 x3))
 |true=>
 rw[b5]at b0 c f;simp only[Bool.true_eq_false,Uf]at c f;have cx:=MY n a V ia.1 ia.2.1 ia.2.2;have cz:=MZ n b V ib.1 ib.2.1 ib.2.2;have cQ:=Np n;have hq:=uo n;have l1:=qf (bet:=eN) V ia.2.2;have l2:=qf (bet:=eO) V ib.2.2;have i1:=m9 (bet:=eN) (n:=n) ia.1;have i2:=m9 (bet:=eO) (n:=n) ib.1;obtain⟨p0,b8⟩:∃p0,a[0]?=some p0:=⟨_,an (by omega)⟩;obtain⟨p1,b9⟩:∃p1,b[0]?=some p1:=⟨_,an (by omega)⟩;obtain⟨G,o,cg⟩:=pu (bet:=eN) (n:=n) b8 a.length;obtain⟨pb,z,ch⟩:=pu (bet:=eO) (n:=n) b9 b.length
 have b1:dc eN n a=dB eN n p0 a a.length:=by simp[dc,b8]
 have b3:dc eO n b=dB eO n p1 b b.length:=by simp[dc,b9]
 rw[<-b1]at o cg;rw[<-b3]at z ch;clear b1 b3;generalize dc eN n a=lo at *;generalize dc eO n b=L at *;generalize fI n=q at *;have c1:=bF (a:=q) (b:=rho) 32768 2097152 (by omega) (by omega) (by omega) (by omega);have e4:i64.wrap (lo.1-L.1)=lo.1-L.1:=aa;have e5:i64.wrap (q*rho)=q*rho:=aa;generalize H:q*rho=qr at *
 have I:∀h,a[lo.2]'h=G:=λh=>by rw[an h]at o;exact UM o
 have J:∀h,b[L.2]'h=pb:=λh=>by rw[an h]at z;exact UM z
 have sa:=eD (TP.1 ia.2.2 G (Is o));have sb:=eD (TP.1 ib.2.2 pb (Is z));have cn:=AA n G 16384 268435456 (vu V) sa (by decide);have cp:=AA n pb 16384 268435456 (vu V) sb (by decide);rw[<-cg]at cn;rw[<-ch]at cp;have cA:=I6 G pb (jD sa (by decide)) (jD sb (by decide));have cm:=rd sa sb;have a9:ff 536870912 (d.1.tdiv 65536,d.2.1.tdiv 65536,d.2.2.tdiv 65536):=ad;have bs:=lM (d.1.tdiv 65536,d.2.1.tdiv 65536,d.2.2.tdiv 65536) (aT G pb);rw[o,z]at c f;simp only[Uj]at c f;have w1:i64.wrap lo.1=lo.1:=aa;have w2:i64.wrap L.1=L.1:=aa;by_cases g:qr<lo.1-L.1
 .rw[T8 g]at c
  simp only at c;rw[<-c];rcases N with⟨rfl,rfl,E,F⟩|⟨rfl,rfl⟩
  .skip
   exact GS (zAa g0 g1 g2 g3 T D U h10 h11 A B l E F (zAa k j x1 x2 x3 o z I J i1 i2 e4 e5 H g))
  .skip
   exact GS (zAa g0 g1 g2 g3 T D U h10 h11 A B l k j (s7 x1 x2 x3 o z I J i1 i2 e4 e5 (gA H g)))
 rw[TQ g]at c f;have cB:=I6 (d.1.tdiv 65536,d.2.1.tdiv 65536,d.2.2.tdiv 65536) (aT G pb) (jD a9 (by decide)) (jD cm (by decide));have he:=rd a9 cm;have cU:=AA (d.1.tdiv 65536,d.2.1.tdiv 65536,d.2.2.tdiv 65536) (aT (d.1.tdiv 65536,d.2.1.tdiv 65536,d.2.2.tdiv 65536) (aT G pb)) 536870912 1073741824 a9 he (by decide);have cV:=AA (aT (d.1.tdiv 65536,d.2.1.tdiv 65536,d.2.2.tdiv 65536) (aT G pb)) (aT (d.1.tdiv 65536,d.2.1.tdiv 65536,d.2.2.tdiv 65536) (aT G pb)) 1073741824 1073741824 he he (by decide);obtain⟨r1,r2,r3⟩:=lr (m:=536870912) (n:=1073741824) a9 he;obtain⟨t1,t2,t3⟩:=lr (m:=1073741824) (n:=1073741824) he he
 have hu:-1729382256910270464<=bA (d.1.tdiv 65536,d.2.1.tdiv 65536,d.2.2.tdiv 65536) (aT (d.1.tdiv 65536,d.2.1.tdiv 65536,d.2.2.tdiv 65536) (aT G pb))/\bA (d.1.tdiv 65536,d.2.1.tdiv 65536,d.2.2.tdiv 65536) (aT (d.1.tdiv 65536,d.2.1.tdiv 65536,d.2.2.tdiv 65536) (aT G pb))<=1729382256910270464:=by unfold bA;omega
 have hv:bA (aT (d.1.tdiv 65536,d.2.1.tdiv 65536,d.2.2.tdiv 65536) (aT G pb)) (aT (d.1.tdiv 65536,d.2.1.tdiv 65536,d.2.2.tdiv 65536) (aT G pb))<=3458764513820540928:=by unfold bA;omega
 have ct:=zw (aT (d.1.tdiv 65536,d.2.1.tdiv 65536,d.2.2.tdiv 65536) (aT G pb))
 have bb:lu (d.1.tdiv 65536,d.2.1.tdiv 65536,d.2.2.tdiv 65536) (aT G pb)=if bA (d.1.tdiv 65536,d.2.1.tdiv 65536,d.2.2.tdiv 65536) (aT (d.1.tdiv 65536,d.2.1.tdiv 65536,d.2.2.tdiv 65536) (aT G pb))<=0 then 0 else min 256 (bA (d.1.tdiv 65536,d.2.1.tdiv 65536,d.2.2.tdiv 65536) (aT (d.1.tdiv 65536,d.2.1.tdiv 65536,d.2.2.tdiv 65536) (aT G pb))/max 1 (bA (aT (d.1.tdiv 65536,d.2.1.tdiv 65536,d.2.2.tdiv 65536) (aT G pb)) (aT (d.1.tdiv 65536,d.2.1.tdiv 65536,d.2.2.tdiv 65536) (aT G pb))/256)):=rfl
 clear r1 r2 r3 t1 t2 t3 he;generalize lu (d.1.tdiv 65536,d.2.1.tdiv 65536,d.2.2.tdiv 65536) (aT G pb)=t at *;generalize bA (d.1.tdiv 65536,d.2.1.tdiv 65536,d.2.2.tdiv 65536) (aT (d.1.tdiv 65536,d.2.1.tdiv 65536,d.2.2.tdiv 65536) (aT G pb))=u at *;generalize bA (aT (d.1.tdiv 65536,d.2.1.tdiv 65536,d.2.2.tdiv 65536) (aT G pb)) (aT (d.1.tdiv 65536,d.2.1.tdiv 65536,d.2.2.tdiv 65536) (aT G pb))=v at *;generalize aT (d.1.tdiv 65536,d.2.1.tdiv 65536,d.2.2.tdiv 65536) (aT G pb)=e at *;generalize aT G pb=c3 at *;by_cases a7:r=M
 .rw[T8 a7]at c
  simp only at c;rw[<-c];subst a7;rcases N with⟨rfl,rfl,E,F⟩|⟨rfl,rfl⟩
  .skip
   exact GS (zAa g0 g1 g2 g3 T D U h10 h11 A B l E F (zAa k j x1 x2 x3 o z I J i1 i2 e4 e5 H g))
  .skip
   exact GS (zAa g0 g1 g2 g3 T D U h10 h11 A B l k j (s7 x1 x2 x3 o z I J i1 i2 e4 e5 (gA H g)))
 rw[TQ a7]at c f
 have W:¬(M:Int)<=(r:Int):=by omega
 have K:¬M<=r:=by omega
 by_cases P:u<=0
 .rw[T8 P]at bb
  rw[T8 bb]at c;simp only at c;rw[<-c];rcases N with⟨rfl,rfl,E,F⟩|⟨rfl,rfl⟩
  .skip
   exact GS (zAa g0 g1 g2 g3 T D U h10 h11 A B l E F (zAa k j x1 x2 x3 o z I J i1 i2 e4 e5 H (f7 g W K P)))
  .skip
   exact GS (zAa g0 g1 g2 g3 T D U h10 h11 A B l k j (zAa x1 x2 x3 o z I J i1 i2 e4 e5 H g W (gA K P)))
 rw[TQ P]at bb;have a1:v.tdiv 256=v/256:=Un ct;have a2:i64.wrap (v/256)=v/256:=aa
 have hm:1<=max 1 (v/256):=by omega
 generalize ba:max 1 (v/256)=m at *;have a3:u.tdiv m=u/m:=Un (by omega);have h4:u/m<=u:=WM m (by omega);have h5:0<=u/m:=Wa (by omega) (by omega);have a4:i64.wrap (u/m)=u/m:=aa
 have a5:¬m=0:=by omega
 have a6:(m==0)=false:=by simp;omega
 have ar:=bb.symm;by_cases a8:t=0
 .rw[T8 a8]at c
  simp only at c;rw[<-c];rw[a8]at ar;rcases N with⟨rfl,rfl,E,F⟩|⟨rfl,rfl⟩
  .skip
   exact GS (zAa g0 g1 g2 g3 T D U h10 h11 A B l E F (zAa k j x1 x2 x3 o z I J i1 i2 e4 e5 H (s7 g W K P a1 a2 ba a3 a4 a5 a6 ar)))
  .skip
   exact GS (zAa g0 g1 g2 g3 T D U h10 h11 A B l k j (zAa x1 x2 x3 o z I J i1 i2 e4 e5 H g W (s6 K P a1 a2 ba a3 a4 a5 a6 ar)))
 rw[TQ a8]at c f;have b7:=f.2 _ rfl;simp only at c
 have cf:(t==0)=false:=by simp;omega
 have cH:=MW S t lo.2 (by omega) bq (by omega) bs.1 bs.2;have cP:=MW Q t L.2 (by omega) bc (by omega) bs.1 bs.2;have cj:i64.wrap ((r:Int)+1)=(r:Int)+1:=aa;rcases N with⟨rfl,rfl,E,F⟩|⟨rfl,rfl⟩
 .skip
  refine GT (zAa g0 g1 g2 g3 T D U h10 h11 A B l E F (zAa k j x1 x2 x3 o z I J i1 i2 e4 e5 H (zAa g W K P a1 a2 ba a3 a4 a5 a6 ar a8 cf cj))) ?_;refine⟨by omega,⟨j5 S lo.2 t,j5 Q L.2 t,n,r+1⟩,b7,by simp only,c,?_⟩;simp;exact⟨_,_,⟨rfl,rfl⟩,Or.inr ⟨rfl,rfl⟩⟩
 .skip
  refine GT (zAa g0 g1 g2 g3 T D U h10 h11 A B l k j (zAa x1 x2 x3 o z I J i1 i2 e4 e5 H g W (s7 K P a1 a2 ba a3 a4 a5 a6 ar a8 (gA cf cj)))) ?_;refine⟨by omega,⟨j5 S lo.2 t,j5 Q L.2 t,n,r+1⟩,b7,by simp only,c,?_⟩;simp;exact⟨_,_,⟨rfl,rfl⟩,Or.inr ⟨rfl,rfl⟩⟩
def AC(v:Vc)(j:Nat):List AV:=[.pv (Z (if 0<j then v.1 else 0)),.pv (Z (if 1<j then v.2.1 else 0)),.pv (Z (if 2<j then v.2.2 else 0))]
theorem Rr(a b:List aq)(ha:a.length<=9223372036854775807)(hb:b.length<=9223372036854775807):aK 297 (aB a) (aB b) (.tup [am (kv a b),B (lN a b)]):=by
 have ca:=vP a ha;have cb:=vP b hb
 have hN:kv a b=if ao a&&ao b then bp (kV a b)else(0,0,0):=rfl
 have hM:lN a b=(ao a&&ao b&&nz (bp (kV a b))):=rfl;rw[hN,hM]
 cases K:ao a with
 |false=>
  rw[K]at ca;refine Dp func297 λC hP hN=>?_;exact Gy
 |true=>
 rw[K]at ca
 cases L:ao b with
 |false=>
  rw[L]at cb;refine Dp func297 λC hP hN=>?_;exact Gy
 |true=>
 rw[L]at cb;have c1:=AD a ha;have c2:=AD b hb;have ad:=EL K L;have c5:=MX (kV a b) ad;have Q:=(bR K).2.1;have R:=(bR L).2.1;have P:kV a b=((ax (aw a) a.length).1*b.length-(ax (aw b) b.length).1*a.length,(ax (aw a) a.length).2.1*b.length-(ax (aw b) b.length).2.1*a.length,(ax (aw a) a.length).2.2*b.length-(ax (aw b) b.length).2.2*a.length):=rfl;simp only[Vl,Ul,Uq];have N:=gg K;have O:=gg L;have S:=lw (l:=a);have T:=lw (l:=b);generalize aw a=f at *;generalize aw b=g at *;generalize kV a b=V at *;generalize bp V=n at *;have wa:i64.wrap (a.length:Int)=(a.length:Int):=aa;have wb:i64.wrap (b.length:Int)=(b.length:Int):=aa;refine Dp func297 λC hP hN=>?_;refine Gz ?_;refine WP.loopN [] 3 (λk st=>st.t 0=.pv (aB a)/\st.t 1=.pv (aB b)/\st.t 4=.ptr 4 0/\st.h 4=some (.box [.pv (Z 0),.pv (Z 0),.pv (Z 0)] true false)/\st.t 5=.pv (B false)/\st.t 6=.ptr 6 0/\st.h 6=some (.box (AC V k) true false)/\st.t 7=.pv (aG f)/\st.t 8=.pv (aG g)/\st.t 9=.pv (Z k)) ?_ ?_
 .simp[AC]
 rintro k st hk ⟨g0,g1,g4,d,g5,o,c,q,r,m⟩
 have e:∀x:Int,-2147483648<=x/\x<=2147483648->∀n:Nat,n<=8->-17179869184<=x*n/\x*n<=17179869184:=λx j n hn=>by
  have:=bF (a:=x) (b:=(n:Int)) 2147483648 8 (by omega) (by omega) (by omega) (by omega);omega
 rcases eu hk with rfl|rfl|rfl|rfl
 all_goals (simp[AC]at c m)
 .skip
  have D:∀i:Nat,i<=8->-17179869184<=(ax f i).1*b.length/\(ax f i).1*b.length<=17179869184:=λi hi=>by
   have h:=jF S i;obtain⟨q1,q2,q3⟩:=h;exact e (ax f i).1 (by omega) _ R
  have E:∀i:Nat,i<=8->-17179869184<=(ax g i).1*a.length/\(ax g i).1*a.length<=17179869184:=λi hi=>by
   have h:=jF T i;obtain⟨q1,q2,q3⟩:=h;exact e (ax g i).1 (by omega) _ Q
  skip
  refine GT (s6 g0 g1 g4 g5 d c o q r m) ?_;refine WP.loopN [] a.length (λi st=>st.t 0=.pv (aB a)/\st.t 1=.pv (aB b)/\st.t 4=.ptr 4 0/\st.h 4=some (.box [.pv (Z 0),.pv (Z 0),.pv (Z 0)] true false)/\st.t 5=.pv (B false)/\st.t 6=.ptr 6 0/\st.h 6=some (.box [.pv (Z ((ax f i).1*b.length)),.pv (Z 0),.pv (Z 0)] true false)/\st.t 7=.pv (aG f)/\st.t 8=.pv (aG g)/\st.t 9=.pv (Z 0)/\st.t 10=.pv (Z i)) ?_ ?_
  .simp[ax,g0,g1,g4,d,g5,o,c,q,r,m]
  clear g0 g1 g4 d g5 o c q r m;rintro i st hi ⟨g0,g1,g4,d,g5,o,c,q,r,m,v⟩;by_cases s:i<a.length
  .have u:i<f.length:=by omega
   have F:=aj s (by omega);obtain⟨p,j⟩:∃p,f[i]?=some p:=⟨_,an u⟩
   have G:∀h,f[i]'h=p:=λh=>by rw[an h]at j;exact UM j
   have A:=D (i+1) (by omega);have J:=D i (by omega);have hp:=eD (TP.1 S p (Is j));obtain⟨X,p2,p3⟩:=hp;have M:=e p.1 (by omega) _ R
   have hS:(ax f (i+1)).1*(b.length:Int)=(ax f i).1*b.length+p.1*b.length:=by
    rw[<-Int.add_mul];simp only[ax,j]
   rw[hS]at A|-;have v1:i64.wrap (p.1*b.length)=p.1*b.length:=aa;generalize(ax f i).1*(b.length:Int)=y at *;have v2:i64.wrap (y+p.1*b.length)=y+p.1*b.length:=aa;exact GS (zAa g0 g1 g4 d g5 o c q r m v s u F (so j G v1 v2 wb N O))
  have z:i=a.length:=by omega
  subst z;have U:=D a.length (by omega);generalize W:(ax f a.length).1*(b.length:Int)=Y at *
  skip
  refine GT (s7 g0 g1 g4 g5 d c o q r m v (gA N O)) ?_;refine WP.loopN [] b.length (λi st=>st.t 0=.pv (aB a)/\st.t 1=.pv (aB b)/\st.t 4=.ptr 4 0/\st.h 4=some (.box [.pv (Z 0),.pv (Z 0),.pv (Z 0)] true false)/\st.t 5=.pv (B false)/\st.t 6=.ptr 6 0/\st.h 6=some (.box [.pv (Z (Y-(ax g i).1*a.length)),.pv (Z 0),.pv (Z 0)] true false)/\st.t 7=.pv (aG f)/\st.t 8=.pv (aG g)/\st.t 9=.pv (Z 0)/\st.t 11=.pv (Z i)) ?_ ?_
  .simp[ax,g0,g1,g4,d,g5,o,c,q,r,m]
  clear g0 g1 g4 d g5 o c q r m v;rintro i st hi ⟨g0,g1,g4,d,g5,o,c,q,r,m,H⟩;by_cases s:i<b.length
  .have u:i<g.length:=by omega
   have F:=aj s (by omega);obtain⟨p,j⟩:∃p,g[i]?=some p:=⟨_,an u⟩
   have G:∀h,g[i]'h=p:=λh=>by rw[an h]at j;exact UM j
   have A:=E (i+1) (by omega);have J:=E i (by omega);have hp:=eD (TP.1 T p (Is j));obtain⟨X,p2,p3⟩:=hp;have M:=e p.1 (by omega) _ Q
   have hS:(ax g (i+1)).1*(a.length:Int)=(ax g i).1*a.length+p.1*a.length:=by
    rw[<-Int.add_mul];simp only[ax,j]
   rw[hS]at A|-;have v1:i64.wrap (p.1*a.length)=p.1*a.length:=aa;generalize(ax g i).1*(a.length:Int)=y at *;have v2:i64.wrap (Y-y-p.1*a.length)=Y-(y+p.1*a.length):=(aa (by omega) (by omega)).trans (by omega);exact Gy
  have z:i=b.length:=by omega
  subst z
  have I:Y-(ax g b.length).1*(a.length:Int)=V.1:=by rw[P,<-W]
  rw[I]at c
  skip
  with_reducible repeat' (first|refine Sp.h ?_|((first|refine Wd ?_|refine Ss.h ?_|(refine Sb.h ?_ ?_ ?_<;>(try intro hgd)<;>try exact Xy))<;>simp -implicitDefEqProofs (maxSteps:=2000000) [hP,hN,g0,g1,g4,g5,d,c,o,q,r,m,H,N,O,AC]<;>try refine Ya ?_)|refine X2 ?_ ?_|(refine Xd ?_ ?_<;>intro hcd<;>try exact Xx))
 .skip
  have D:∀i:Nat,i<=8->-17179869184<=(ax f i).2.1*b.length/\(ax f i).2.1*b.length<=17179869184:=λi hi=>by
   have h:=jF S i;obtain⟨q1,q2,q3⟩:=h;exact e (ax f i).2.1 (by omega) _ R
  have E:∀i:Nat,i<=8->-17179869184<=(ax g i).2.1*a.length/\(ax g i).2.1*a.length<=17179869184:=λi hi=>by
   have h:=jF T i;obtain⟨q1,q2,q3⟩:=h;exact e (ax g i).2.1 (by omega) _ Q
  skip
  refine GT (s6 g0 g1 g4 g5 d c o q r m) ?_;refine WP.loopN [] a.length (λi st=>st.t 0=.pv (aB a)/\st.t 1=.pv (aB b)/\st.t 4=.ptr 4 0/\st.h 4=some (.box [.pv (Z 0),.pv (Z 0),.pv (Z 0)] true false)/\st.t 5=.pv (B false)/\st.t 6=.ptr 6 0/\st.h 6=some (.box [.pv (Z V.1),.pv (Z ((ax f i).2.1*b.length)),.pv (Z 0)] true false)/\st.t 7=.pv (aG f)/\st.t 8=.pv (aG g)/\st.t 9=.pv (Z 1)/\st.t 10=.pv (Z i)) ?_ ?_
  .simp[ax,g0,g1,g4,d,g5,o,c,q,r,m]
  clear g0 g1 g4 d g5 o c q r m;rintro i st hi ⟨g0,g1,g4,d,g5,o,c,q,r,m,v⟩;by_cases s:i<a.length
  .have u:i<f.length:=by omega
   have F:=aj s (by omega);obtain⟨p,j⟩:∃p,f[i]?=some p:=⟨_,an u⟩
   have G:∀h,f[i]'h=p:=λh=>by rw[an h]at j;exact UM j
   have A:=D (i+1) (by omega);have J:=D i (by omega);have hp:=eD (TP.1 S p (Is j));obtain⟨X,p2,p3⟩:=hp;have M:=e p.2.1 (by omega) _ R
   have hS:(ax f (i+1)).2.1*(b.length:Int)=(ax f i).2.1*b.length+p.2.1*b.length:=by
    rw[<-Int.add_mul];simp only[ax,j]
   rw[hS]at A|-;have v1:i64.wrap (p.2.1*b.length)=p.2.1*b.length:=aa;generalize(ax f i).2.1*(b.length:Int)=y at *;have v2:i64.wrap (y+p.2.1*b.length)=y+p.2.1*b.length:=aa;exact GS (zAa g0 g1 g4 d g5 o c q r m v s u F (so j G v1 v2 wb N O))
  have z:i=a.length:=by omega
  subst z;have U:=D a.length (by omega);generalize W:(ax f a.length).2.1*(b.length:Int)=Y at *
  skip
  refine GT (s7 g0 g1 g4 g5 d c o q r m v (gA N O)) ?_;refine WP.loopN [] b.length (λi st=>st.t 0=.pv (aB a)/\st.t 1=.pv (aB b)/\st.t 4=.ptr 4 0/\st.h 4=some (.box [.pv (Z 0),.pv (Z 0),.pv (Z 0)] true false)/\st.t 5=.pv (B false)/\st.t 6=.ptr 6 0/\st.h 6=some (.box [.pv (Z V.1),.pv (Z (Y-(ax g i).2.1*a.length)),.pv (Z 0)] true false)/\st.t 7=.pv (aG f)/\st.t 8=.pv (aG g)/\st.t 9=.pv (Z 1)/\st.t 11=.pv (Z i)) ?_ ?_
  .simp[ax,g0,g1,g4,d,g5,o,c,q,r,m]
  clear g0 g1 g4 d g5 o c q r m v;rintro i st hi ⟨g0,g1,g4,d,g5,o,c,q,r,m,H⟩;by_cases s:i<b.length
  .have u:i<g.length:=by omega
   have F:=aj s (by omega);obtain⟨p,j⟩:∃p,g[i]?=some p:=⟨_,an u⟩
   have G:∀h,g[i]'h=p:=λh=>by rw[an h]at j;exact UM j
   have A:=E (i+1) (by omega);have J:=E i (by omega);have hp:=eD (TP.1 T p (Is j));obtain⟨X,p2,p3⟩:=hp;have M:=e p.2.1 (by omega) _ Q
   have hS:(ax g (i+1)).2.1*(a.length:Int)=(ax g i).2.1*a.length+p.2.1*a.length:=by
    rw[<-Int.add_mul];simp only[ax,j]
   rw[hS]at A|-;have v1:i64.wrap (p.2.1*a.length)=p.2.1*a.length:=aa;generalize(ax g i).2.1*(a.length:Int)=y at *;have v2:i64.wrap (Y-y-p.2.1*a.length)=Y-(y+p.2.1*a.length):=(aa (by omega) (by omega)).trans (by omega);exact Gy
  have z:i=b.length:=by omega
  subst z
  have I:Y-(ax g b.length).2.1*(a.length:Int)=V.2.1:=by rw[P,<-W]
  rw[I]at c
  skip
  with_reducible repeat' (first|refine Sp.h ?_|((first|refine Wd ?_|refine Ss.h ?_|(refine Sb.h ?_ ?_ ?_<;>(try intro hgd)<;>try exact Xy))<;>simp -implicitDefEqProofs (maxSteps:=2000000) [hP,hN,g0,g1,g4,g5,d,c,o,q,r,m,H,N,O,AC]<;>try refine Ya ?_)|refine X2 ?_ ?_|(refine Xd ?_ ?_<;>intro hcd<;>try exact Xx))
 .skip
  have D:∀i:Nat,i<=8->-17179869184<=(ax f i).2.2*b.length/\(ax f i).2.2*b.length<=17179869184:=λi hi=>by
   have h:=jF S i;obtain⟨q1,q2,q3⟩:=h;exact e (ax f i).2.2 (by omega) _ R
  have E:∀i:Nat,i<=8->-17179869184<=(ax g i).2.2*a.length/\(ax g i).2.2*a.length<=17179869184:=λi hi=>by
   have h:=jF T i;obtain⟨q1,q2,q3⟩:=h;exact e (ax g i).2.2 (by omega) _ Q
  skip
  refine GT (s6 g0 g1 g4 g5 d c o q r m) ?_;refine WP.loopN [] a.length (λi st=>st.t 0=.pv (aB a)/\st.t 1=.pv (aB b)/\st.t 4=.ptr 4 0/\st.h 4=some (.box [.pv (Z 0),.pv (Z 0),.pv (Z 0)] true false)/\st.t 5=.pv (B false)/\st.t 6=.ptr 6 0/\st.h 6=some (.box [.pv (Z V.1),.pv (Z V.2.1),.pv (Z ((ax f i).2.2*b.length))] true false)/\st.t 7=.pv (aG f)/\st.t 8=.pv (aG g)/\st.t 9=.pv (Z 2)/\st.t 10=.pv (Z i)) ?_ ?_
  .simp[ax,g0,g1,g4,d,g5,o,c,q,r,m]
  clear g0 g1 g4 d g5 o c q r m;rintro i st hi ⟨g0,g1,g4,d,g5,o,c,q,r,m,v⟩;by_cases s:i<a.length
  .have u:i<f.length:=by omega
   have F:=aj s (by omega);obtain⟨p,j⟩:∃p,f[i]?=some p:=⟨_,an u⟩
   have G:∀h,f[i]'h=p:=λh=>by rw[an h]at j;exact UM j
   have A:=D (i+1) (by omega);have J:=D i (by omega);have hp:=eD (TP.1 S p (Is j));obtain⟨X,p2,p3⟩:=hp;have M:=e p.2.2 (by omega) _ R
   have hS:(ax f (i+1)).2.2*(b.length:Int)=(ax f i).2.2*b.length+p.2.2*b.length:=by
    rw[<-Int.add_mul];simp only[ax,j]
   rw[hS]at A|-;have v1:i64.wrap (p.2.2*b.length)=p.2.2*b.length:=aa;generalize(ax f i).2.2*(b.length:Int)=y at *;have v2:i64.wrap (y+p.2.2*b.length)=y+p.2.2*b.length:=aa;exact GS (zAa g0 g1 g4 d g5 o c q r m v s u F (so j G v1 v2 wb N O))
  have z:i=a.length:=by omega
  subst z;have U:=D a.length (by omega);generalize W:(ax f a.length).2.2*(b.length:Int)=Y at *
  skip
  refine GT (s7 g0 g1 g4 g5 d c o q r m v (gA N O)) ?_;refine WP.loopN [] b.length (λi st=>st.t 0=.pv (aB a)/\st.t 1=.pv (aB b)/\st.t 4=.ptr 4 0/\st.h 4=some (.box [.pv (Z 0),.pv (Z 0),.pv (Z 0)] true false)/\st.t 5=.pv (B false)/\st.t 6=.ptr 6 0/\st.h 6=some (.box [.pv (Z V.1),.pv (Z V.2.1),.pv (Z (Y-(ax g i).2.2*a.length))] true false)/\st.t 7=.pv (aG f)/\st.t 8=.pv (aG g)/\st.t 9=.pv (Z 2)/\st.t 11=.pv (Z i)) ?_ ?_
  .simp[ax,g0,g1,g4,d,g5,o,c,q,r,m]
  clear g0 g1 g4 d g5 o c q r m v;rintro i st hi ⟨g0,g1,g4,d,g5,o,c,q,r,m,H⟩;by_cases s:i<b.length
  .have u:i<g.length:=by omega
   have F:=aj s (by omega);obtain⟨p,j⟩:∃p,g[i]?=some p:=⟨_,an u⟩
   have G:∀h,g[i]'h=p:=λh=>by rw[an h]at j;exact UM j
   have A:=E (i+1) (by omega);have J:=E i (by omega);have hp:=eD (TP.1 T p (Is j));obtain⟨X,p2,p3⟩:=hp;have M:=e p.2.2 (by omega) _ Q
   have hS:(ax g (i+1)).2.2*(a.length:Int)=(ax g i).2.2*a.length+p.2.2*a.length:=by
    rw[<-Int.add_mul];simp only[ax,j]
   rw[hS]at A|-;have v1:i64.wrap (p.2.2*a.length)=p.2.2*a.length:=aa;generalize(ax g i).2.2*(a.length:Int)=y at *;have v2:i64.wrap (Y-y-p.2.2*a.length)=Y-(y+p.2.2*a.length):=(aa (by omega) (by omega)).trans (by omega);exact Gy
  have z:i=b.length:=by omega
  subst z
  have I:Y-(ax g b.length).2.2*(a.length:Int)=V.2.2:=by rw[P,<-W]
  rw[I]at c
  skip
  with_reducible repeat' (first|refine Sp.h ?_|((first|refine Wd ?_|refine Ss.h ?_|(refine Sb.h ?_ ?_ ?_<;>(try intro hgd)<;>try exact Xy))<;>simp -implicitDefEqProofs (maxSteps:=2000000) [hP,hN,g0,g1,g4,g5,d,c,o,q,r,m,H,N,O,AC]<;>try refine Ya ?_)|refine X2 ?_ ?_|(refine Xd ?_ ?_<;>intro hcd<;>try exact Xx))
 .skip
  exact GS (s6 g0 g1 g4 d g5 o c q r m)
theorem zH(h:n<=100000000000)(m:Nat)(a:m<=10):(n+m)*24<=140737488355328:=by omega
theorem K9{v:α}(h:l[k]?=some v):(l.take (k+1)).filter p=(l.take k).filter p++(if p v=true then[v]else[]):=by
 rw[Wj,h,VJ];simp only[Option.toList_some,List.filter_cons,List.filter_nil]
theorem Rs(a:List aq)(f:Int)(b:List aq)(g:Int)(c:List Vc)(N:a.length<=9223372036854775807)(O:b.length<=9223372036854775807)(hl:c.length<=100000000000):xF 233 (aB a) (Z f) (aB b) (Z g) (aG c) (aG (mH a f b g c)):=by
 have V:=vP a N;have W:=vP b O;have A:=AE f;have B:=AE g
 have Q:mH a f b g c=if ub a f b g then c.filter aL++((if lN a b then[kv a b]else[])++(ku++(if aL (mG a f b g)then[mG a f b g]else[])))else[]:=rfl
 have E:ub a f b g=(ao a&&ao b&&bf f 0 1048576&&bf g 0 1048576):=rfl;rw[Q,E]
 cases s:ao a with
 |false=>
  rw[s]at V;refine Dp func233 λC hP hN=>?_;exact Gy
 |true=>
 rw[s]at V
 cases u:ao b with
 |false=>
  rw[u]at W;refine Dp func233 λC hP hN=>?_;exact Gy
 |true=>
 rw[u]at W
 cases y:bf f 0 1048576 with
 |false=>
  rw[y]at A;refine Dp func233 λC hP hN=>?_;exact Gy
 |true=>
 rw[y]at A
 cases z:bf g 0 1048576 with
 |false=>
  rw[z]at B;refine Dp func233 λC hP hN=>?_;exact Gy
 |true=>
 rw[z]at B;simp only[Vl,Ul];have c1:=AD a N;have c2:=AD b O;have a1:=(bR s).2.1;have a2:=(bR u).2.1;have ar:=gg s;have E:=gg u;simp only[bf,An,L4]at y z;have K:i64.wrap (f+g)=f+g:=aa;have c3:=M6 (aw a) (aw b) (f+g) 64 (by omega) (by omega);have T:(ji (aw a) (aw b) (f+g) 64).2.n=mG a f b g:=rfl;rw[<-T];generalize ji (aw a) (aw b) (f+g) 64=R at *;have X:=Rr a b N O;have ad:=RP;have q:ku.length=6:=rfl;have r:=Aq ku;generalize ku=AX at *;generalize aw a=xa at *;generalize aw b=xb at *;have D:=Ar R.2.n;rw[sU]at D;have F:∀i:Nat,((c.take i).filter aL).length<=100000000000:=λi=>VH (Ws _ _) (by rw[UL];omega);refine Dp func233 λC hP hN=>?_;refine sP [11] trivial ?_;refine WP.loopN [] c.length (λi st=>st.t 0=.pv (aB a)/\st.t 1=.pv (Z f)/\st.t 2=.pv (aB b)/\st.t 3=.pv (Z g)/\st.t 4=.pv (aG c)/\st.t 12=.pv (Z i)/\st.t 11=.arr 11 ((c.take i).filter aL).length/\st.h 11=some (.row 84 3 (((c.take i).filter aL).map am) 0)/\st.h 13=none/\st.h 15=none) (by simp) ?_;rintro i st hi ⟨g0,g1,g2,g3,g4,o,l,e,j,k⟩;by_cases G:i<c.length
 .have a5:=aj G (by omega)
  generalize U:c[i]=v at *
  have hx:c[i]?=some v:=by rw[an G,U]
  have cv:=Ar v;rw[sU]at cv;have hs:=K9 (p:=aL) hx;rw[hs];have d:=F i;generalize(c.take i).filter aL=P at *
  cases x:aL v with
  |true=>
   rw[x]at cv;simp only[Ul]
   have I:(P.length+1)*24<=140737488355328:=by omega
   have J:P.length<=9223372036854775806:=by omega
   skip
   exact Gy
  |false=>
   rw[x]at cv;simp only[T5,Uf,V9];exact Gy
 .have S:i=c.length:=by omega
  subst S;rw[VW]at l e;have d:=F c.length;rw[VW]at d;generalize c.filter aL=P at *
  have I:(P.length+1)*24<=140737488355328:=by omega
  have J:P.length<=9223372036854775806:=by omega
  have z0:P.length<=9223372036854775799:=VH d (by decide);have L:P.length<=9223372036854775800:=VH d (by decide);have M:P.length<=9223372036854775801:=VH d (by decide);have k3:(P.length+1+1)*24<=140737488355328:=zH d 2 (by decide);have Y:(P.length+6)*24<=140737488355328:=zH d 6 (by decide);have k5:(P.length+6+1)*24<=140737488355328:=zH d 7 (by decide);have k6:(P.length+1+6)*24<=140737488355328:=zH d 7 (by decide);have k7:(P.length+1+6+1)*24<=140737488355328:=zH d 8 (by decide)
  cases H:lN a b with
  |true=>
   rw[H]at X;generalize kv a b=m at *;simp only[Ul]
   cases x:aL R.2.n with
   |true=>
    rw[x]at D;simp only[Ul]
    skip
    exact GS (zAa g0 g1 g2 g3 g4 o l e j k I J k6 k7 (it K q r z0 L M))
   |false=>
    rw[x]at D;simp only[T5,Uf];exact GS (zAa g0 g1 g2 g3 g4 o l e j k I J k6 k7 (it K q r z0 L M))
  |false=>
   rw[H]at X;generalize kv a b=m at *;simp only[T5,Uf]
   cases x:aL R.2.n with
   |true=>
    rw[x]at D;simp only[Ul]
    skip
    exact GS (zAa g0 g1 g2 g3 g4 o l e j k I J Y k5 (it K q r z0 L M))
   |false=>
    rw[x]at D;simp only[T5,Uf];exact GS (zAa g0 g1 g2 g3 g4 o l e j k I J Y k5 (it K q r z0 L M))
theorem Hq(h:cD js i j=0):j.lo<=j.hi:=by
 unfold cD at h
 repeat' split at h
 all_goals (try (cases h;done))
 all_goals omega
theorem D4(h:aW js ms=0):∀(i:Nat) j,js[i]?=some j->j.lo<=j.hi:=by
 unfold aW at h;split at h
 .cases h
 .split at h
  .rename_i c;exact absurd h c
  .rename_i k
   intro i j b
   have a:jb js=0:=by simpa using k
   rw[ph]at a;by_cases d:cD js i j=0
   .exact Hq d
   .exfalso
    cases hf:(js.mapIdx (cD js)).find? (λe=>e !=0)with
    |none=>
     rw[Vb]at hf
     have l:cD js i j∈js.mapIdx (cD js):=by
      rw[List.mem_mapIdx];obtain⟨f,g⟩:=th.1 b;exact⟨i,f,by rw[g]⟩
     exact hf _ l (by simpa using d)
    |some e=>
     rw[hf]at a;have:=VL hf;simp only at a;rw[a]at this;simp at this
def sV(js:List J)(n:Nat):Int:=((ky js)[n]?).getD 0
theorem IT(js:List J):sV js 0=-1:=by
 have h:=ru (js:=js) (k:=0) js.length (UR _) (Ua _) 0 (Ua _)
 have:(ky js)[0]?=some (-1):=by rw[ky,h];rfl
 simp[sV,this]
theorem IU(a:rq js)(h:js[n]?=some j):sV js (n+1)=if j.lo=j.hi then sV js (j.parent+1).toNat else(n:Int):=by
 have:=EU h (a n j h);simp[sV,this]
def oC(js:List J)(l:Int)(k:Nat):Prop:=kx (ga js 11 l) k=true/\po js k=true
theorem yn{xs:List Int}{x:Int}:kx xs x=true↔x∈xs:=by
 simp[kx]
theorem Hr(js:List J):ga js 11 (-1)=[]:=by simp[ga]
theorem Be(d:rq js)(e:js.length<=10)(h:js[n]?=some j)(k:Nat):oC js n k↔oC js j.parent k\/(k=n/\po js n=true):=by
 have f:n<js.length:=(th.1 h).1;have b:=CY d e (k:=n) (by omega) (by omega)
 have hp:sx js n=j.parent:=by simp[sx,h]
 rw[hp]at b;simp only[oC,b,yn,Ui,UC];constructor
 .rintro⟨c|c,a⟩
  .exact .inl ⟨c,a⟩
  .have:k=n:=by omega
   subst this;exact .inr ⟨rfl,a⟩
 .rintro(⟨c,a⟩|⟨rfl,a⟩)
  .exact⟨.inl c,a⟩
  .exact⟨.inr rfl,a⟩
theorem My(h:js[n]?=some j)(b:j.lo<=j.hi):po js n=!decide (j.lo=j.hi):=by
 simp only[po,h];by_cases a:j.lo=j.hi
 .simp[a]
 .simp[a];omega
theorem CZ{js:List J}(e:rq js)(q:js.length<=10)(f:∀(i:Nat) j,js[i]?=some j->j.lo<=j.hi):∀(m n:Nat),n<=m->n<=js.length->(sV js n=-1/\∀k,¬oC js ((n:Int)-1) k)\/(∃c:Nat,sV js n=c/\c<js.length/\oC js ((n:Int)-1) c/\∀k,oC js ((n:Int)-1) k↔oC js c k)
 |m,0,_,_=>by
  left
  refine⟨IT js,λk h=>?_⟩;have:=h.1;rw[show((0:Nat):Int)-1=-1 by omega,Hr]at this;cases this
 |0,n+1,h,_=>by omega
 |m+1,n+1,x,hn=>by
  have d:js[n]?=some (js[n]'(by omega)):=an _;generalize js[n]'(by omega)=j at d;have r:=e n j d;unfold Au at r;have l:=IU e d;have b:=My d (f n j d);rw[show((n+1:Nat):Int)-1=(n:Int) by omega];by_cases g:j.lo=j.hi
  .rw[T8 g]at l
   simp only[g,VQ,VB]at b
   have a:∀k,oC js n k↔oC js j.parent k:=λk=>by
    rw[Be e q d k,b];simp
   have ih:=CZ e q f m (j.parent+1).toNat (by omega) (by omega);rw[show(((j.parent+1).toNat:Nat):Int)-1=j.parent by omega,<-l]at ih;rcases ih with⟨o,p⟩|⟨c,o,p,s,u⟩
   .exact .inl ⟨o,λk v=>p k ((a k).1 v)⟩
   .exact .inr ⟨c,o,p,(a c).2 s,λk=>(a k).trans (u k)⟩
  .rw[TQ g]at l
   simp only[g,decide_false,WI]at b;exact .inr ⟨n,l,by omega,(Be e q d n).2 (.inr ⟨rfl,b⟩),λk=>Vk⟩
theorem C4{js:List J}(d:rq js):∀(f:Nat)(l:Int),-1<=l->l<js.length->∀x∈ga js f l,0<=x/\x<=l
 |0,l,_,_,x,c=>by cases c
 |f+1,l,g,e,x,c=>by
  rw[ga]at c;split at c
  .cases c
  .obtain⟨j,_,hp,a,b⟩:=wH d (k:=l) (by omega) e
   rcases Ui.1 c with c|c
   .have:=C4 d f (sx js l) (by omega) (by omega) x c;omega
   .rw[UC]at c;omega
theorem ER:uL js a b=true↔∀k,k<js.length->po js k=true->(kx (ga js 11 a) k=kx (ga js 11 b) k):=by
 simp only[uL,pR,TP,Ur,U3,UH];constructor
 .intro h k e d
  cases c:(kx (ga js 11 a) k !=kx (ga js 11 b) k)with
  |false=>simpa using c
  |true=>
   have:=h (k:Int) ⟨k,⟨e,c⟩,rfl⟩;rw[Uk,d]at this;cases this
 .rintro h x ⟨k,⟨e,c⟩,rfl⟩
  cases d:po js k with
  |false=>rw[show(Int.ofNat k).toNat=k from rfl,d];rfl
  |true=>
   have:=h k e d;simp only[Ho,this,bne_self_eq_false]at c;cases c
theorem Kh(h:po js k=true):k<js.length:=by
 unfold po at h;split at h
 .rename_i j a;exact(th.1 a).1
 .cases h
theorem IV(n:aW js ms=0)(q:dt js.length a=true)(r:dt js.length b=true):(sV js (a+1).toNat==sV js (b+1).toNat)=uL js a b:=by
 obtain⟨j,o,_⟩:=rY n;have i:=D4 n;simp only[dt,An,L4]at q r;have l:=CZ j o i _ (a+1).toNat (Ua _) (by omega);have m:=CZ j o i _ (b+1).toNat (Ua _) (by omega);rw[show(((a+1).toNat:Nat):Int)-1=a by omega]at l;rw[show(((b+1).toNat:Nat):Int)-1=b by omega]at m
 have e:(sV js (a+1).toNat==sV js (b+1).toNat)=true↔uL js a b=true:=by
  rw[ER,US]
  have p:(∀k,k<js.length->po js k=true->(kx (ga js 11 a) k=kx (ga js 11 b) k))↔∀k,oC js a k↔oC js b k:=by
   constructor
   .intro h k
    simp only[oC];constructor
    .rintro⟨g,f⟩;rw[h k (Kh f) f]at g;exact⟨g,f⟩
    .rintro⟨g,f⟩;rw[<-h k (Kh f) f]at g;exact⟨g,f⟩
   .intro h k u s
    have:=h k;simp only[oC,s,and_true]at this;cases g:kx (ga js 11 a) k<;>cases f:kx (ga js 11 b) k<;>simp_all
  rw[p];rcases l with⟨a1,a2⟩|⟨c,a1,a2,a3,a4⟩<;>rcases m with⟨b1,b2⟩|⟨d,b1,b2,b3,b4⟩<;>rw[a1,b1]
  .exact⟨λ_ k=>⟨λh=>absurd h (a2 k),λh=>absurd h (b2 k)⟩,λ_=>rfl⟩
  .exact⟨λh=>by omega,λh=>absurd ((h d).2 b3) (a2 d)⟩
  .exact⟨λh=>by omega,λh=>absurd ((h c).1 a3) (b2 c)⟩
  .constructor
   .intro h k
    have:c=d:=by omega
    subst this;rw[a4,b4]
   .intro h
    have g:=(h c).1 a3;have f:=(h d).2 b3;rw[b4]at g;rw[a4]at f;have v:=C4 j 11 d (by omega) (by omega) c (yn.1 g.1);have x:=C4 j 11 c (by omega) (by omega) d (yn.1 f.1);omega
 cases g:(sV js (a+1).toNat==sV js (b+1).toNat)<;>cases f:uL js a b<;>simp_all
theorem IW{s:Sce}(d:bi s=0){a b:Sh}(g:dt s.js.length a.link=true)(i:dt s.js.length b.link=true):BQ s a b=(!(a.link==b.link)&& !uL s.js a.link b.link&& !j7 s a.link b.link):=by
 have j:aW s.js s.ms=0:=by
  unfold bi at d;split at d
  .rename_i h;exact absurd d h
  .rename_i h;simpa using h
 have e:=IV j g i;have c:Av (ky s.js) a b=uL s.js a.link b.link:=e;unfold BQ;rw[c];by_cases f:a.link=b.link
 .have:uL s.js a.link b.link=true:=by
   rw[ER,f];exact λ_ _ _=>rfl
  rw[this];simp
 .have:(a.link==b.link)=false:=by simp[f]
  rw[this];simp
theorem Qr(s:Sce)(S:ScL s):aR 134 (eM s) (.sl ((eE s).map qh)):=by
 have cc:=Kg s S;have I:=λa b=>Qq s a b S.sks;by_cases v:bi s=0
 case neg=>
  have V:(bi s !=0)=true:=by simp[v]
  have hf:eE s=[]:=by simp[eE,v]
  rw[hf];generalize bi s=r at *;refine Dp func134 λC hP hN=>?_;exact Gy
 have hr:aW s.js s.ms=0:=by
  unfold bi at v;split at v
  .rename_i h;exact absurd v h
  .rename_i h;simpa using h
 obtain⟨v1,v2,v3,v4,v5,U,v7⟩:=nc v;have H:=λa b=>Qp s.js s.ms a b v2 S.ms hr;have R:=λa b=>IW v (a:=a) (b:=b)
 have hf:eE s=jH s s.shs.length:=by simp[eE,v]
 rw[hf];rw[v]at cc;have nL:=wK s;have iL:=wJ s;refine Dp func134 λC hP hN=>?_;refine sP [3] trivial ?_;refine WP.loopN [] s.shs.length (λi st=>st.t 1=.ptr 1 0/\st.h 1=some (.box [.pv (.sl (s.js.map bu)),.pv (.sl (s.ms.map cG)),.pv (.sl (s.shs.map cE)),.pv (.sl (s.sks.map aC))] true false)/\st.t 4=.pv (Z i)/\st.t 3=.arr 3 (jH s i).length/\st.h 3=some (.row 210 2 ((jH s i).map qh) 0)) (by simp[jH]) ?_;rintro i st hi ⟨g1,g,g4,g3,d⟩;by_cases l:i<s.shs.length
 .have hw:=aj l (by omega)
  have j:(i:Int)<(s.shs.length:Int):=by omega
  generalize p:s.shs[i]=a at *
  have B:s.shs[i]?=some a:=by rw[an l,p]
  have F:=(U a (Is B)).1;have A:jH s (i+1)=jH s i++kW s i s.shs.length:=rfl;have ad:=nL i;have Y:i*s.shs.length<=24*24:=Vm (by omega) (by omega);have J:=Aw s i (i+1) (Ua _);refine Gz ?_;refine WP.loopN [] (s.shs.length-(i+1)) (λq st=>st.t 1=.ptr 1 0/\st.h 1=some (.box [.pv (.sl (s.js.map bu)),.pv (.sl (s.ms.map cG)),.pv (.sl (s.shs.map cE)),.pv (.sl (s.sks.map aC))] true false)/\st.t 4=.pv (Z i)/\st.t 5=.pv (Z ((i+1+q:Nat):Int))/\st.t 3=.arr 3 (jH s i++kW s i (i+1+q)).length/\st.h 3=some (.row 210 2 ((jH s i++kW s i (i+1+q)).map qh) 0)) (by simp[g1,g,g4,g3,d,J]) ?_;clear g1 g g4 g3 d;rintro q st hq ⟨g1,g,g4,g5,g3,d⟩;obtain⟨k,W⟩:∃k,k=i+1+q:=⟨_,rfl⟩
  have O:i+1+(q+1)=k+1:=by omega
  rw[<-W]at g5 g3 d;rw[O];have K:kW s i (k+1)=kW s i k++(if i<k/\gq s i k=true then[(i,k)]else[]):=rfl;have X:=iL i k;by_cases n:k<s.shs.length
  .have e:(k:Int)<(s.shs.length:Int):=by omega
   have y:i64.wrap ((k:Int)+1)=(k:Int)+1:=aa;generalize u:s.shs[k]=b at *
   have D:s.shs[k]?=some b:=by rw[an n,u]
   have G:=(U b (Is D)).1
   have o:gq s i k=(!(a.link==b.link)&& !uL s.js a.link b.link&& !j7 s a.link b.link):=by
    simp only[gq,B,D];exact R a b F G
   have cs:=I a.link b.link;have cg:=H a.link b.link F G
   have M:i<k:=by omega
   have T:(jH s i++kW s i k).length<=1000:=by simp only[Um];omega
   generalize z:jH s i++kW s i k=P at *
   have x:q<s.shs.length-(i+1):=by omega
   have L:jH s i++kW s i (k+1)=P++(if gq s i k=true then[(i,k)]else[]):=by
    rw[K,<-U7,z];simp[M]
   rw[L];generalize j7 s a.link b.link=sk at *;generalize uL s.js a.link b.link=rg at *;by_cases f:a.link=b.link
   .have c:gq s i k=false:=by rw[o,f];simp
    rw[c];exact GS (zAa g1 g g4 g5 g3 d n e y B p D u f (be l j x))
   .have m:(a.link !=b.link)=true:=by simp[f]
    have E:(a.link==b.link)=false:=by simp[f]
    rw[E]at o
    cases rg with
    |true=>
     have c:gq s i k=false:=by rw[o];rfl
     rw[c];exact GS (zAa g1 g g4 g5 g3 d n e y B p D u f (f7 m l j x))
    |false=>
     cases sk with
     |true=>
      have c:gq s i k=false:=by rw[o];rfl
      rw[c];exact GS (zAa g1 g g4 g5 g3 d n e y B p D u f (f7 m l j x))
     |false=>
      have c:gq s i k=true:=by rw[o];rfl
      rw[c];exact GS (zAa g1 g g4 g5 g3 d n e y B p D u f (it m l j x (show(P.length+1)*16<=140737488355328 by omega) (show P.length<=9223372036854775806 by omega)))
  .have Q:k=s.shs.length:=by omega
   have e:¬(k:Int)<(s.shs.length:Int):=by omega
   rw[Q,<-A]at g3 d;exact Gy
 .have N:i=s.shs.length:=by omega
  subst N;exact Gy
theorem Jc(h:l.findIdx? p=some i):∃v,l[i]?=some v/\i<l.length/\l.find? p=some v:=by
 rw[Wf]at h;obtain⟨hi,a,b⟩:=h;refine⟨l[i],an hi,hi,vw (an hi) a λj x c e=>?_⟩;obtain⟨d,rfl⟩:=th.1 e;have:=b j c;simpa using this
theorem F5(h:l.findIdx? p=none):l.find? p=none:=by
 rw[List.findIdx?_eq_none_iff]at h;rw[Vb];intro x a;rw[h x a];simp
theorem HA(a:List aq)(d:Int)(b:List aq)(e:Int)(c:List Vc):(mH a d b e c).length<=c.length+8:=by
 have g:mH a d b e c=if ub a d b e then c.filter aL++((if lN a b then[kv a b]else[])++(ku++(if aL (mG a d b e)then[mG a d b e]else[])))else[]:=rfl
 have hf:=Ws aL c;have f:ku.length=6:=rfl;rw[g];split
 .rw[Um,Um,Um,f]
  have i:(if lN a b then[kv a b]else([]:List Vc)).length<=1:=by split<;>simp
  have j:(if aL (mG a d b e)then[mG a d b e]else([]:List Vc)).length<=1:=by split<;>simp
  omega
 .simp
theorem Rt(a:List aq)(e:Int)(b:List aq)(f:Int)(c:List Vc)(l:a.length<=9223372036854775807)(m:b.length<=9223372036854775807)(q:c.length<=100000000000):xF 176 (aB a) (Z e) (aB b) (Z f) (aG c) (.tup [am (mI a e b f c).1,B (mI a e b f c).2]):=by
 have u:=Rs a e b f c l m q;have o:=HA a e b f c
 have d:mI a e b f c=match(mH a e b f c).find? (λn=>kc n a e b f)with
  |some n=>(n,true)
  |none=>((0,0,0),false):=rfl
 have j:=RO (mH a e b f c) a e b f (by omega) l m;generalize mH a e b f c=k at *
 cases g:k.findIdx? (λn=>kc n a e b f)with
 |none=>
  rw[F5 g]at d;rw[g]at j;simp only at d j;rw[d];refine Dp func176 λC hP hN=>?_;exact Gy
 |some i=>
  obtain⟨v,p,r,hf⟩:=Jc g;rw[hf]at d;rw[g]at j;simp only at d j
  have s:∀h,k[i]'h=v:=λh=>by rw[an h]at p;exact UM p
  rw[d];refine Dp func176 λC hP hN=>?_;exact Gy
abbrev Kj(p:List aq)(r:Int):PV:=.agg [aB p,Z r]
def xp(SH:List Sh)(PT:List (List aq))(p:Nat×Nat):PV:=Kj (dM PT p.1) (dw SH p.1)
def xq(SH:List Sh)(PT:List (List aq))(p:Nat×Nat):PV:=Kj (dM PT p.2) (dw SH p.2)
abbrev Dn(s:Sce)(bx:List Iv):PV:=.sl ((eE s).map (xp s.shs (gB s bx)))
abbrev Dq(s:Sce)(bx:List Iv):PV:=.sl ((eE s).map (xq s.shs (gB s bx)))
theorem E1{β:Type}(f:α->β){v:α}(h:l[k]?=some v):(l.take (k+1)).map f=(l.take k).map f++[f v]:=by
 rw[Wj,h,V7];rfl
theorem HB{β:Type}(f:α->β)(h:k<=l.length):((l.take k).map f).length=k:=by
 rw[Ux,UL];omega
theorem Tl(s:Sce)(bx:List Iv)(o:ScL s)(A:bx.length<=9223372036854775807):aK 74 (eM s) (iv bx) (.tup (if iY s bx then[Dn s bx,Dq s bx,B true]else[.sl [],.sl [],B false])):=by
 have cc:=Kg s o;have H:=Nn s.js s.ms bx o.js A;have hd:iY s bx=(decide (bi s=0)&&j8 s.js bx):=rfl;by_cases m:bi s=0
 case neg=>
  have n:(bi s !=0)=true:=by simp[m]
  rw[U2 m,UE]at hd;rw[hd];refine Dp func74 λC hP hN=>?_;exact Gy
 have n:(bi s !=0)=false:=by simp[m]
 rw[UD m,Uq]at hd
 cases l:j8 s.js bx with
 |false=>
  rw[l]at hd H;rw[hd];refine Dp func74 λC hP hN=>?_;exact Gy
 |true=>
 have cp:=RH s bx o m l;have cr:=Qr s o;rw[l]at hd H;have r:=FV hd;rw[hd];simp only[Dn,Dq,Ul];have K:=r.few;generalize eE s=e at *;generalize gB s bx=c at *;obtain⟨js,ms,d,sks⟩:=s;simp only at *;refine Dp func74 λC hP hN=>?_;refine sP [8,9] (gA m n) ?_;refine WP.loopN [] e.length (λi st=>st.t 2=.ptr 2 0/\st.h 2=some (.box [.pv (.sl (js.map bu)),.pv (.sl (ms.map cG)),.pv (.sl (d.map cE)),.pv (.sl (sks.map aC))] true false)/\st.t 7=.pv (.sl (c.map aB))/\st.t 8=.arr 8 i/\st.h 8=some (.row 148 2 ((e.take i).map (xp d c)) 0)/\st.t 9=.arr 9 i/\st.h 9=some (.row 148 2 ((e.take i).map (xq d c)) 0)/\st.t 10=.pv (.sl (e.map qh))/\st.t 11=.pv (Z i)) (by simp) ?_;rintro k st hi ⟨g2,Q,g7,g8,y,g9,z,O,P⟩;by_cases f:k<e.length
 .have R:=aj f (by omega)
  obtain⟨p,hp⟩:∃p,e[k]?=some p:=⟨_,an f⟩;have I:=E1 (xp d c) hp;have J:=E1 (xq d c) hp;have zA:=HB (xp d c) (Nat.le_of_lt f);have zB:=HB (xq d c) (Nat.le_of_lt f);rw[I,J];generalize(e.take k).map (xp d c)=RA at *;generalize(e.take k).map (xq d c)=RB at *;clear I J;obtain⟨L,E⟩:=th.1 hp;obtain⟨i,j⟩:=p;have hpr:=r.prs _ (Is hp);simp only at hpr;have hl:=r.len;have U:∀h,e[k]'h=(i,j):=λ_=>E
  have X:i<c.length:=by omega
  have Y:j<c.length:=by omega
  obtain⟨a,q⟩:∃x,c[i]?=some x:=⟨_,an X⟩;obtain⟨b,g⟩:∃x,c[j]?=some x:=⟨_,an Y⟩;obtain⟨u,F⟩:∃x,d[i]?=some x:=⟨_,an hpr.1⟩;obtain⟨v,G⟩:∃x,d[j]?=some x:=⟨_,an hpr.2⟩
  have S:∀h,c[i]'h=a:=λh=>by rw[an h]at q;exact UM q
  have T:∀h,c[j]'h=b:=λh=>by rw[an h]at g;exact UM g
  have V:∀h,d[i]'h=u:=λh=>by rw[an h]at F;exact UM F
  have W:∀h,d[j]'h=v:=λh=>by rw[an h]at G;exact UM G
  have M:xp d c (i,j)=.agg [aB a,Z u.rad]:=by simp[xp,dM,dw,q,F]
  have N:xq d c (i,j)=.agg [aB b,Z v.rad]:=by simp[xq,dM,dw,g,G]
  rw[M,N];obtain⟨h1,h2⟩:=hpr
  have k1:(k+1)*32<=140737488355328:=by omega
  have k2:k<=9223372036854775806:=by omega
  skip
  exact Gy
 .have D:k=e.length:=by omega
  subst D;rw[VW]at y z;exact Gy
end Go.Ab
