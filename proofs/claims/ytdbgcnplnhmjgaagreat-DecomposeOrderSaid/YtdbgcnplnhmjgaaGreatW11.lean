/- The contracts and facts that the laws of this seat need, in one text (DlL, Dc4, DcR, Dc12, Dc14, Gr1, Gr2, Gr3, Gr4, Gr5, Gr6, Gr7, KM1, KM2, KM3, KM4, K15, K15b, K16, K17, KM5, L28a, TrW, TrY, L28d, L28b, L28e, TC1, DeQ, Gr8, De2, De3, Gs1, Gs2, Ru1, Sd1, Or1, Ck0, KR1, KL1, K18, K19, KL2, PlR, KL5, Tk1, KR2, KR3, KR4, KR5, KR6, KR7, KR8). -/
import Derived.Test.YtdbgcnplnhmjgaaGreatW10
import Derived.Test.YtdbgcnplnhmjgaaGreatProg
import Derived.Shelf.Slices.Delete
set_option linter.all false
set_option maxRecDepth 10000
set_option maxHeartbeats 16000000
namespace Go.Ab
open IntKind (i64)
open Go.Proofs.Tryz
open Go.Proofs Go.Shelf Go.Sort
def SO(x:Nat):Nat:=match x with
 |23=>91
 |n=>n
def SP(x:Nat):Nat:=match x with
 |22=>31
 |n=>n
def PA:Ren:=⟨SO,SP,λx=>x⟩
theorem PB:Lays2.n23 prog PA:=
 {mixed:=by kernel_rfl,f23:=func91.trans (Vt some (by kernel_rfl)),
  t0:=Tryz.underlying0,a0:=Tryz.isAgg0,z0:=Tryz.sizeOf0,v0:=Tryz.zeroValue0,t3:=Tryz.underlying3,a3:=Tryz.isAgg3,z3:=Tryz.sizeOf3,v3:=Tryz.zeroValue3,
  t4:=Tryz.underlying4,a4:=Tryz.isAgg4,z4:=Tryz.sizeOf4,v4:=Tryz.zeroValue4,t22:=Tryz.underlying31,a22:=Tryz.isAgg31,z22:=Tryz.sizeOf31,v22:=Tryz.zeroValue31,i3:=by kernel_rfl}
theorem IG:Fm prog 91:=⟨by kernel_rfl,λa cap i j zs w c d f b e=>Any.slices_Delete_int PB a 0 cap i j zs w c d f b e⟩
end Go.Ab
namespace Go.Ab
open IntKind (i64)
open Go.Proofs.Tryz
open Go.Proofs
variable {P:Nat->List Bool}{Q:St->Prop}{a a0 a1 a10 a11 a12 a13 a14 a15 a16 a17 a2 a3 a4 a5 a6 a7 a8 a9 b b0 b1 b2 b3 b4 b5 joint v0 v1 v2 v3 v4 v5 w:Int}{aft:Array Edge}{args:List AV}{c i j k leaf n:Nat}{d dst:Option Nat}{f:Operand}{g:Option (Nat×Bool)}{img:Nat->Nat->Prop}{jn p q:List Int}{js:List J}{may':Nat->Bool}{ms:List Ms}{pos:String}{s:Spc}{sc:Sce}{st:St}{t:Tr}{tch':Nat->Nat->Bool}{ts:Array TypeId}{ty:TypeId}{x:Iv}{xs:List Operand}{π:List Bool}{ρ:Operand->AV}
theorem Fz(xs:List (Int×Int))(j:Int):(aT xs j).length<=xs.length:=by
 unfold aT;split
 .split<;>simp
 .simp
theorem FA(xs:List (Int×Int))(j:Int):(aU xs j).length<=xs.length:=by
 unfold aU;split
 .split<;>simp
 .simp
theorem Iy{r:Nat}:((iE s.near).set leaf dD++[dD,dD]++List.replicate r dD).map (bO (leaf+300) 250)=(iE s.near).set leaf dD++[dD,dD]++List.replicate r dD:=by
 rw[V0,V0,List.map_replicate]
 congr 1
 congr 1
 apply UF;intro v;rw[T0,T9];split
 .rename_i e;subst e
  split<;>rfl
 .rename_i e
  simp only[iE,T0]
  cases h:(List.range s.near.length)[v]? with
  |none=>rfl
  |some w=>
   have b:w=v:=by
    have:=(th.1 h).2;simp at this;exact this.symm
   subst b;simp[bO,bp,rk,show¬w=leaf from λa=>e a.symm]
theorem Iz{r:Nat}(i:Nat)(x:AV)(a:leaf<s.near.length)(h:(iE (dE s leaf joint).near++List.replicate r dD)[i]?=some x):
 ((iE s.near).set leaf dD++[dD,dD]++List.replicate r dD)[i]?=some x\/(((iE s.near).set leaf dD++[dD,dD]++List.replicate r dD)[i]?=some dD/\∃q,(decide (q=leaf+300)||decide (q=s.near.length+300)||decide (q=s.near.length+301))=true/\x=.arr q 0):=by
 have hN:(dE s leaf joint).near.length=s.near.length+2:=by simp[dE]
 by_cases g:i<s.near.length+2
 .rw[T1 (by rw[cT];omega),mF (by omega)]at h
  injection h with h
  have d:(((dE s leaf joint).near[i]?).getD [])=if i=leaf then[]else ab s i:=oJ a
  rw[d]at h;rw[T1 (by simp[cT];omega)];by_cases c:i<s.near.length
  .rw[T1 (by simp[cT];omega),T9]
   by_cases e:leaf=i
   .subst e
    rw[T6 rfl]at h;exact .inr ⟨by simp[cT,a],leaf+300,by simp,h.symm⟩
   .rw[TZ (λb=>e b.symm)]at h
    rw[TZ e,mF c];exact .inl (by rw[<-h];rfl)
  .have f:ab s i=[]:=by unfold ab;rw[Ua (by omega)];rfl
   rw[TZ (by omega),f]at h;rw[T5 (by simp[cT];omega)];simp only[Vo,cT]
   have:i-s.near.length=0\/i-s.near.length=1:=by omega
   refine .inr ⟨by rcases this with e|e<;>rw[e]<;>rfl,i+300,?_,h.symm⟩;rcases this with e|e
   .simp[show i=s.near.length by omega]
   .simp[show i=s.near.length+1 by omega]
 .rw[T5 (by rw[cT];omega),cT,hN]at h
  refine .inl ?_;rw[T5 (by simp[cT];omega)];simpa[cT]using h
theorem CC{v:Nat}:∀{l:List Nat},v∈l->∃j,l[j]?=some v/\(∀i,i<j->l[i]?≠some v)/\l.erase v=l.take j++l.drop (j+1)
 |a::l,h=>by
  by_cases e:a=v
  .subst e
   exact⟨0,rfl,λi hi=>by omega,by simp⟩
  .obtain⟨j,c,d,f⟩:=CC (l:=l) (by simpa[show¬v=a from λb=>e b.symm]using h)
   refine⟨j+1,by simpa using c,λi hi=>?_,?_⟩
   .cases i with
    |zero=>simp[e]
    |succ i=>simpa using d i (by omega)
   .rw[List.erase_cons_tail (by simpa using e),f];rfl
theorem Pz(xs:List Nat)(v j:Nat)(m:xs.length<=9223372036854775807)(g:xs[j]?=some v)(n:∀i,i<j->xs[i]?≠some v):aO 90 (uV xs) (Z v) (Z j):=by
 obtain⟨l,k⟩:=th.1 g;refine Dp func90 λC hP hN=>?_;refine Gz ?_;refine WP.loopN [] xs.length (λi st=>st.t 0=.pv (uV xs)/\st.t 1=.pv (Z v)/\st.t 7=.pv (Z xs.length)/\st.t 8=.pv (Z i)/\i<=j) (by simp) ?_;rintro i st hi ⟨g0,g1,p,q,f⟩
 have a:i<xs.length:=by omega
 have r:=am a m;have c:xs[i]?=some xs[i]:=an a;by_cases e:i=j
 .subst e
  exact Gy
 .have b:=n i (by omega)
  generalize s:xs[i]=y at *;have o:¬v=y:=λd=>b (by rw[c,d])
  have d:¬(v:Int)=(y:Int):=by omega
  refine Gz ?_
  all_goals omega
theorem Sz(s:Spc)(c n leaf:Nat)(joint:Int)(cM:s.cc=false)(h1:s.near.length=n)(h2:s.bx.length=n)(h3:s.cells.length=n)(h4:s.jn.length=n)(hn:n<=2046)(cU:leaf<n)(ch:∀x∈s.bx,x.length<=16777216)(ct:∀v,(ab s v).length<=2046)(cr:(ab s leaf).Nodup)(cW:∀k∈ab s leaf,k<n/\k≠leaf/\leaf∈ab s k):
 nH prog 37 [.ptr 290 0,.pv (Z leaf),.pv (Z joint)] (bt false s c) (λr h'=>r=.pv (.sl [Z n,Z ((n:Int)+1)])/\∃c',h'=bt false (bN s leaf joint) c'):=by
 have a1:s.bx[leaf]?=some (aA s leaf):=by simp[aA,an (by omega:leaf<s.bx.length)]
 have b0:leaf<s.bx.length:=by omega
 have b1:leaf<s.cells.length:=by omega
 have a6:=iD a1 b0;have cH:=Ok (aA s leaf) joint (ch _ (Is a1));have ck:s.cells[leaf]?=some s.cells[leaf]:=an b1;generalize cj:s.cells[leaf]=cl at *;have E:=oG false s c;have U:=rc false s c cM;rw[sr cM]at E;have V:=rd false s c;have M:=oH false s c;have W:=tf false s c;have h9:bt false s c 9=none:=rfl;have cx:i64.wrap ((n:Int)+1)=(n:Int)+1:=aa;rw[h1]at E;rw[h2]at E;rw[h3]at E;rw[h4]at E;have bb:=l9 (own:=false) (s:=s) (c:=c) (v:=leaf) (by omega);obtain⟨cs,G⟩:∃cs,cs=iE s.near++List.replicate c dD:=⟨_,rfl⟩;rw[<-G]at M
 have F:cs.length=n+c:=by rw[G];simp[cT,h1]
 have ca:cs[leaf]?=some (.arr (leaf+300) (ab s leaf).length):=by rw[G,T1 (by rw[cT];omega),mF (by omega)];rfl
 have Y:∀h,cs[leaf]'h=.arr (leaf+300) (ab s leaf).length:=λh=>iD ca h;have sa:∀x,cs.take leaf++x::cs.drop (leaf+1)=cs.set leaf x:=λx=>qw (by omega)
 have cq:leaf+1<=n+c:=by omega
 have a7:leaf<n+c:=by omega
 refine Gi func37 (oI (by omega)) ?_;intro C hP hN;simp only[f37]at hN|-;generalize hH:bt false s c=H at *
 with_reducible repeat' (first|refine Sp.h ?_|((with_unfolding_all refine WP.appBAt (hn:=[2000101]) (d:=102) 6 rfl rfl rfl rfl ?_);simp -implicitDefEqProofs (maxSteps:=2000000) [hP,hN,sW,h1,h2,h3,h4,E,U,V,M,W,h9,cx,b0,b1,a1,a6,ck,cj,bb,ca,Y,sa,cq,a7,F,cU,show¬leaf+300=290 by omega,show¬leaf+300=291 by omega,show¬leaf+300=292 by omega,show¬leaf+300=293 by omega,show¬leaf+300=294 by omega,show(n+2)*8<=140737488355328 by omega,show(n+2)*24<=140737488355328 by omega,show(n+2)*112<=140737488355328 by omega,show n+2<=9223372036854775807 by omega])|((first|refine Wd ?_|refine Ss.h ?_|refine Sc.h (cH) ?_|(refine Sb.h ?_ ?_ ?_<;>(try intro hgd)<;>try exact Xy))<;>simp -implicitDefEqProofs (maxSteps:=2000000) [hP,hN,sW,h1,h2,h3,h4,E,U,V,M,W,h9,cx,b0,b1,a1,a6,ck,cj,bb,ca,Y,sa,cq,a7,F,cU,show¬leaf+300=290 by omega,show¬leaf+300=291 by omega,show¬leaf+300=292 by omega,show¬leaf+300=293 by omega,show¬leaf+300=294 by omega,show(n+2)*8<=140737488355328 by omega,show(n+2)*24<=140737488355328 by omega,show(n+2)*112<=140737488355328 by omega,show n+2<=9223372036854775807 by omega]<;>try refine Yc ?_)|refine X2 ?_ ?_|(refine Xd ?_ ?_<;>intro hcd<;>try exact Xx))
 refine⟨293,n,c,(iE s.near).set leaf dD,.slice none 0 0,31,24,_,[.val (.slice none 0 0),.val (.slice none 0 0)],by simp[St.ev],?_,by simp[cT,h1],?_,by simp[St.ev],by simp,by simp[PV.cells,Value.cells],by simp,by rw[hP];exact RI,rfl,rfl,by simp;omega,by simp;omega,by omega,by omega,by omega,?_⟩
 .have:cs.set leaf dD=(iE s.near).set leaf dD++List.replicate c dD:=by rw[G,VS _ _ (by rw[cT];omega)]
  simp[ag,this]
 .intro y hy
  rcases UM hy with hy|rfl
  .simp only[iE,Uo,UE]at hy
   obtain⟨v,hv,rfl⟩:=hy;simp[bB,aL]
  .rfl
 intro N;simp -implicitDefEqProofs (maxSteps:=2000000) [hP,hN,sW,rekey,aB,bT,bB,aL,h1,h2,h3,h4,E,U,V,M,W,h9];refine GH (zAe @sW.eq_1 @rekey.eq_1 @aB.eq_1 @bT.eq_1 @bT.eq_2 @bB.eq_1 @bB.eq_2 @bB.eq_3 @bB.eq_4 @aL.eq_1 @aL.eq_2 @aL.eq_3 @aL.eq_4 h1 (zAc h2 h3 h4 E U V M W h9 bb)) ?_
 refine WP.of_st (P:=λst=>st.t 0=.ptr 290 0/\st.t 1=.pv (Z leaf)/\st.t 7=.pv (Z n)/\st.t 8=.pv (Z ((n:Int)+1))/\st.t 105=.arr (leaf+300) (ab s leaf).length/\st.t 106=.pv (Z (ab s leaf).length)/\st.t 107=.pv (Z 0)/\
  st.h 250=none/\st.h 290=some (.box [.pv (iv s.root),.arr 291 (n+2),.arr 292 (n+2),.ext (.barr 293 (n+2) (n+2+N)),.arr 294 (n+2)] false false)/\st.h 291=some (.row 58 8 (((dE s leaf joint).cells).map bz) 0)/\st.h 292=some (.row 39 1 ((dE s leaf joint).bx.map iv) 0)/\st.h 294=some (.row 3 1 ((dE s leaf joint).jn.map Z) 0)/\
  st.h 293=some (.box ((iE s.near).set leaf dD++[dD,dD]++List.replicate N dD) true false)/\∀k,295<=k->st.h k=H k) ⟨?_,?_⟩
 .simp[dE,h3,bz,aD,G,rekey,aB,bT,bB,aL,ag]
  refine⟨by rw[<-hH];rfl,rfl,λk hk=>?_⟩
  have O:H k=none\/∃xs,H k=some (.row 3 1 xs 0):=by rw[<-hH];exact G4 (by omega)
  rcases O with O|⟨xs,O⟩
  all_goals simp[O,show¬k=290 by omega,show¬k=291 by omega,show¬k=292 by omega,show¬k=293 by omega,show¬k=294 by omega,show¬k=9 by omega]
  trace_state
 generalize D:dE s leaf joint=s0 at *;rintro st ⟨g0,g1,I,J,o,p,u,B,b2,b3,b4,b7,b5,a2⟩;have bc:H (leaf+300)=some (.row 3 1 ((ab s leaf).map λn:Nat=>Z (n:Int)) 0):=bb;refine WP.ren (leaf+300) 250 (by omega) B (by omega) (by rw[a2 _ (by omega),bc];intro cs f e;cases e) ?_;refine WP.nilRows (λq=>decide (q=leaf+300)||decide (q=n+300)||decide (q=n+301)) 3 293 (cs:=(iE s.near).set leaf dD++[dD,dD]++List.replicate N dD) (cs':=iE s0.near++List.replicate N dD) (own:=true) (fb:=false) ?_ ?_ ?_ ?_ ?_
 .show bC (leaf+300) 250 st.h 293=_
  unfold bC;rw[TZ (by omega),TZ (by omega),b5];simp only[UL,cZ,Iy]
 .intro q hq
  simp only[UQ,L4]at hq;refine⟨?_,by omega⟩;show bC (leaf+300) 250 st.h q=none;unfold bC;rw[TZ (by omega)];by_cases e:q=leaf+300
  .rw[T6 e]
  .rw[TZ e,a2 q (by omega),<-hH]
   unfold bt;rw[TZ (by omega),TZ (by omega),TZ (by omega),TZ (by omega),TZ (by omega),TZ (by omega)];rfl
 .simp[cT,<-D,dE,h1];omega
 .intro i x K
  rw[<-D]at K;have:=Iz i x (by omega) K;rw[h1]at this;exact this
 obtain⟨A,ba⟩:∃A,A=ab s leaf:=⟨_,rfl⟩
 have ek:A.length<=2046:=by rw[ba];exact ct leaf
 rw[<-ba]at o p bc cr cW
 refine WP.of_st (P:=λst=>st.t 0=.ptr 290 0/\st.t 1=.pv (Z leaf)/\st.t 7=.pv (Z n)/\st.t 8=.pv (Z ((n:Int)+1))/\st.t 105=.arr 250 A.length/\st.t 106=.pv (Z A.length)/\st.t 107=.pv (Z 0)/\st.h 250=some (.row 3 1 (A.map λn:Nat=>Z (n:Int)) 0)/\∀k,inK k=true->st.h k=bt false s0 N k)
  ⟨⟨by simp[g0,bO,bp,rk],by simp[g1,bO,bp],by simp[I,bO,bp],by simp[J,bO,bp],by simp[o,bO,bp,rk],by simp[p,bO,bp],by simp[u,bO,bp],?_,?_⟩,?_⟩
 .have:=a2 (leaf+300) (by omega)
  rw[bc]at this;simp[bC,this,cZ]
 .intro k hk
  have cb:s0.near.length=n+2:=by rw[<-D];simp[dE,h1]
  have c1:s0.bx.length=n+2:=by rw[<-D];simp[dE,h2]
  have c2:s0.cells.length=n+2:=by rw[<-D];simp[dE,h3]
  have c3:s0.jn.length=n+2:=by rw[<-D];simp[dE,h4]
  have c4:s0.root=s.root:=by rw[<-D];rfl
  have b9:s0.cc=false:=by rw[<-D];rfl
  have cd:∀v,ab s0 v=if v=leaf then[]else ab s v:=λv=>by rw[<-D];exact oJ (by omega)
  have hz:∀v,n<=v->ab s v=[]:=λv hv=>by unfold ab;rw[Ua (by omega)];rfl
  simp only;simp only[inK,An,L4]at hk;by_cases e0:k=290
  .subst e0
   rw[TZ (by simp),TZ (by omega),oG,sr b9,cb,c1,c2,c3,c4];simp[bC,b2,cZ,bO,bp,jb,rk,show¬290=leaf+300 by omega,show¬291=leaf+300 by omega,show¬292=leaf+300 by omega,show¬293=leaf+300 by omega,show¬294=leaf+300 by omega]
  by_cases e1:k=291
  .subst e1
   rw[TZ (by simp),TZ (by omega),rc _ _ _ b9];simp[bC,b3,cZ,show¬291=leaf+300 by omega]
  by_cases e2:k=292
  .subst e2
   rw[TZ (by simp),TZ (by omega),rd];simp[bC,b4,cZ,show¬292=leaf+300 by omega]
  by_cases e3:k=293
  .subst e3
   rw[TZ (by simp),T6 rfl,oH]
  by_cases e4:k=294
  .subst e4
   rw[TZ (by simp),TZ (by omega),tf];simp[bC,b7,cZ,show¬294=leaf+300 by omega]
  by_cases hK:(decide (k=leaf+300)||decide (k=n+300)||decide (k=n+301))=true
  .rw[T6 hK]
   simp only[UQ,L4]at hK;obtain⟨v,rfl⟩:∃v,k=v+300:=⟨k-300,by omega⟩;rw[l9 (by omega),cd];split
   .rfl
   .rw[hz v (by omega)];rfl
  .rw[TZ hK,TZ e3]
   simp only[UQ,L4,not_or]at hK
   have h5:bC (leaf+300) 250 st.h k=H k:=by
    unfold bC;rw[TZ (by omega),TZ hK.1.1,a2 k (by omega)]
    have O:H k=none\/∃xs,H k=some (.row 3 1 xs 0):=by rw[<-hH];exact G4 (by omega)
    rcases O with O|⟨xs,O⟩<;>rw[O]<;>rfl
   rw[h5,<-hH];unfold bt;rw[TZ e0,TZ e1,TZ e2,TZ e3,TZ e4,TZ e0,TZ e1,TZ e2,TZ e3,TZ e4,cb,h1];by_cases h6:300<=k/\k<300+n
   .rw[T6 h6,T6 (by omega),cd,TZ (by omega)]
   .rw[TZ h6,TZ (by omega)]
 clear g0 g1 I J o p u B b2 b3 b4 b5 b7 a2 st;rintro st ⟨g0,g1,I,J,o,p,u,B,bH⟩;clear E U V M W h9 bb bc sa ca Y F G cx cq a7 a6 b0 b1 ck cj cH
 have cB:∀x∈s0.bx,x.length<=9223372036854775807:=by
  rw[<-D];intro x K;simp only[dE,Uf,Uq,Uw,UV]at K;have hh:(aA s leaf).length<=16777216:=ch _ (Is a1);rcases K with K|rfl|rfl
  .have:=ch x K;omega
  .have:=Fz (aA s leaf) joint;omega
  .have:=FA (aA s leaf) joint;omega
 clear a1;refine WP.loopN [] A.length (λi st=>st.t 0=.ptr 290 0/\st.t 1=.pv (Z leaf)/\st.t 7=.pv (Z n)/\st.t 8=.pv (Z ((n:Int)+1))/\st.t 105=.arr 250 A.length/\st.t 106=.pv (Z A.length)/\st.t 107=.pv (Z i)/\st.h 250=some (.row 3 1 (A.map λn:Nat=>Z (n:Int)) 0)/\∃S,S=(A.take i).foldl (dl n leaf) s0/\LpI s0 n leaf A i S/\∀k,inK k=true->st.h k=bt false S N k) ?_ ?_
 .refine⟨by simp[St.kill,aB,bB,aL,g0],by simp[St.kill,aB,bB,aL,g1],by simp[St.kill,aB,bB,aL,I],by simp[St.kill,aB,bB,aL,J],by simp[St.kill,aB,bB,aL,o],by simp[St.kill,aB,bB,aL,p],by simp[St.kill,aB,bB,aL,u],by simp[St.kill,bT,B],s0,rfl,by rw[<-D];exact LpI.zero h1,λk hk=>?_⟩
  show(st.h k).map (bT [])=_;rw[bH k hk,kG]
 clear g0 g1 I J o p u B bH st;rintro i st hi ⟨g0,g1,I,J,o,p,u,B,S,hS,hI,bH⟩;by_cases a8:i<A.length
 .have cz:=am a8 (by omega)
  obtain⟨k,hk⟩:∃k,A[i]?=some k:=⟨_,an a8⟩;have cQ:∀h,A[i]'h=k:=λh=>iD hk h;obtain⟨cS,ee,cV⟩:=cW k (Is hk)
  have ef:k∉A.take i:=λhm=>by
   have ht:A.take (i+1)=A.take i++[k]:=by rw[Wf,hk];rfl
   have:=(List.take_sublist (i+1) A).nodup cr;rw[ht,VO]at this;exact this.2.2 k hm k (by simp) rfl
  have cg:=hI.nl
  have c7:ab S k=ab s k:=by rw[hI.low k cS ef,<-D,oJ (by omega),TZ ee]
  have X:∀v,(ab S v).length<=4094:=λv=>by
   have h5:=hI.len v;rw[<-D,oJ (by omega)]at h5;have h6:=ct v;split at h5
   .split at h5<;>simp at h5<;>omega
   .split at h5<;>omega
  rw[<-c7]at cV;obtain⟨j,cP,ea,eb⟩:=CC cV;have el:j<(ab S k).length:=(th.1 cP).1;have ci:=Pz (ab S k) leaf j (by have:=X k;omega) cP ea;have cu:=hI.step cr hk cS;obtain⟨cs,G⟩:∃cs,cs=iE S.near++List.replicate N dD:=⟨_,rfl⟩
  have F:cs.length=n+2+N:=by rw[G];simp[cT,cg]
  have ca:cs[k]?=some (.arr (k+300) (ab S k).length):=by rw[G,T1 (by rw[cT];omega),mF (by omega)];rfl
  have Y:∀h,cs[k]'h=.arr (k+300) (ab S k).length:=λh=>iD ca h;have sa:∀x,cs.take k++x::cs.drop (k+1)=cs.set k x:=λx=>qw (by omega)
  have cn:k+1<=n+2+N:=by omega
  have bs:k<n+2+N:=by omega
  have cp:k<n+2:=by omega
  have L:=(bH 290 rfl).trans (oG false S N);have Q:=(bH 293 rfl).trans (oH false S N);rw[sr (hI.cc.trans (by rw[<-D];rfl))]at L;have R:=(bH (k+300) (by simp[inK];omega)).trans (l9 (own:=false) (s:=S) (c:=N) (v:=k) (by omega));rw[<-G]at Q;rw[cg]at L;have c5:i64.wrap ((j:Int)+1)=((j+1:Nat):Int):=(aa (by have:=X k;omega) (by have:=X k;omega)).trans (by omega)
  with_reducible repeat' (first|refine Sp.h ?_|((with_unfolding_all refine WP.drawX (hn:=[]) 15 rfl (by rw[hP];kernel_rfl) (by kernel_rfl) ?_);simp -implicitDefEqProofs (maxSteps:=2000000) [hP,hN,g0,g1,I,J,o,p,u,B,a8,cz,hk,cQ,L,Q,R,ca,Y,sa,F,cn,bs,cp,c5])|((first|refine Wd ?_|refine Ss.h ?_|refine Sc.h (ci) ?_|(refine Sb.h ?_ ?_ ?_<;>(try intro hgd)<;>try exact Xy))<;>simp -implicitDefEqProofs (maxSteps:=2000000) [hP,hN,g0,g1,I,J,o,p,u,B,a8,cz,hk,cQ,L,Q,R,ca,Y,sa,F,cn,bs,cp,c5]<;>try refine Yc ?_)|refine X2 ?_ ?_|(refine Xd ?_ ?_<;>intro hcd<;>try exact Xx))
  refine⟨_,Kv (f:=.func 91) (x:=.tmp 131) (y:=.tmp 132) (z:=.tmp 134) (g:=91) (k:=k+300) (e:=3) (i:=j) (j:=j+1) (zs:=(ab S k).map λn:Nat=>(n:Int)) rfl rfl (by simp[dr]) rfl IG (by simp[St.ev]) (by simp[St.ev]) (by simp[St.ev]) (by simp[R]) (by omega) (by simp;omega),?_⟩;simp -implicitDefEqProofs (maxSteps:=2000000) [hP,hN,L,Q,R,ca,Y,sa,F,cn,bs,cp];refine Yc ?_
  have cN:∀i x,cs[i]?=some x->x=dD\/∃m,x=.arr (i+300) m:=λv x K=>by
   rw[G]at K;by_cases hv:v<S.near.length
   .rw[T1 (by rw[cT];omega),mF hv]at K
    injection K with K;exact .inr ⟨_,K.symm⟩
   .rw[T5 (by rw[cT];omega),Us]at K
    split at K
    .injection K with K;exact .inl K.symm
    .cases K
  refine WP.cutRow 293 k (k+300) (m:=(ab S k).length-1) (t:=(ab S k).length) (e:=3) (sz:=1) (own:=true) (fb:=false) (cs:=cs.set k (.ext (.suf (k+300) 0 ((ab S k).length-1) (ab S k).length))) (xs:=pt (((ab S k).map λn:Nat=>(n:Int)).take j++((ab S k).map λn:Nat=>(n:Int)).drop (j+1)++[0])) ?_ ?_ ?_ ?_ ?_ (by omega) ?_
  .simp[ag]
  .simp[bs,F]
  .intro v x K hv
   rw[T9,TZ (λe=>hv e.symm)]at K;rcases cN v x K with rfl|⟨m,rfl⟩
   .rfl
   .simp[bB,aL,hv]
  .simp[ag]
  .simp;omega
  have cf:∀v,ab (gQ S k leaf) v=if v=k then(ab S k).take j++(ab S k).drop (j+1)else ab S v:=by
   intro v;rw[t8 (by omega),eb]
  have c8:(gQ S k leaf).near.length=n+2:=by simp[gQ,cg]
  refine WP.of_st (P:=λst=>st.t 0=.ptr 290 0/\st.t 1=.pv (Z leaf)/\st.t 7=.pv (Z n)/\st.t 8=.pv (Z ((n:Int)+1))/\st.t 15=.pv (Z k)/\st.t 105=.arr 250 A.length/\st.t 106=.pv (Z A.length)/\st.t 107=.pv (Z i)/\st.h 250=some (.row 3 1 (A.map λn:Nat=>Z (n:Int)) 0)/\∀k2,inK k2=true->st.h k2=bt false (gQ S k leaf) N k2)
   ⟨⟨by simp[g0,aB,bB,aL,ag],by simp[g1,aB,bB,aL,ag],by simp[I,aB,bB,aL,ag],by simp[J,aB,bB,aL,ag],by simp[aB,bB,aL,ag],by simp[o,aB,bB,aL,ag],by simp[p,aB,bB,aL,ag],by simp[u,aB,bB,aL,ag],?_,?_⟩,?_⟩
  .simp[B,ag,bT,show¬250=k+300 by omega]
  .intro k2 ec
   simp only;by_cases e1:k2=k+300
   .subst e1
    rw[T6 rfl,l9 (by omega),cf,T6 rfl]
    congr 2
    simp only[V0,List.map_take,WL,List.map_map,U7,WB];rw[VH (by simp;omega),Up (by simp;omega)];rfl
   .rw[TZ e1]
    by_cases e2:k2=293
    .subst e2
     rw[T6 rfl,oH];simp only[List.set_set]
     congr 2
     rw[G,VS _ _ (by rw[cT];omega)]
     congr 1
     .apply UF
      intro v;rw[T9,cT];by_cases hv:v<n+2
      .have hr:(iE (gQ S k leaf).near)[v]?=some (.arr (v+300) (ab (gQ S k leaf) v).length):=mF (by omega)
       rw[hr,cf];by_cases e:k=v
       .subst e
        rw[T6 rfl,T6 (by omega),T6 rfl];simp;omega
       .rw[TZ e,TZ (λe9=>e e9.symm),mF (by omega)];rfl
      .rw[Ua (l:=iE (gQ S k leaf).near) (by rw[cT];omega)]
       split
       .rw[TZ (by omega)]
       .rw[Ua (by rw[cT];omega)]
    .rw[TZ e2]
     rw[bL e2,bL e1,bH k2 ec];have h6:bt false (gQ S k leaf) N k2=bt false S N k2:=A7 (by simp) e2 (λv hv a8=>by rw[T9,TZ (by omega)]);rw[h6];exact G6 e2 (by omega)
  clear L Q R g0 g1 I J o p u B bH st;rintro st ⟨g0,g1,I,J,T,o,p,u,B,bH⟩;obtain⟨S1,ar⟩:∃S1,S1=gQ S k leaf:=⟨_,rfl⟩
  have d1:S1.near.length=n+2:=by rw[ar];exact c8
  have d2:S1.bx.length=n+2:=by rw[ar];show S.bx.length=_;rw[hI.bx,<-D];simp[dE,h2]
  have d3:∀x∈S1.bx,x.length<=9223372036854775807:=by rw[ar];show∀x∈S.bx,_;rw[hI.bx];exact cB
  have d4:∀v,(ab S1 v).length<=4094:=λv=>by
   rw[ar,cf];have h5:=X k;have h6:=X v;split
   .simp;omega
   .exact h6
  have d5:∀v,(ab (fG S1 n k) v).length<=4096:=λv=>by
   rw[kw (by omega) (by omega) (by omega)];have h6:=d4 v;split
   .simp;omega
   .omega
  obtain⟨m1,m2,m3,m4,m5⟩:=gM S1 n k
  have cw:fG (fG S1 n k) (n+1) k=dl n leaf S k:=by rw[ar];rfl
  rw[<-ar]at bH
  with_reducible repeat' (first|refine Sp.h ?_|((with_unfolding_all refine WP.takeAt (hn:=[]) 3 rfl rfl rfl ?_);simp -implicitDefEqProofs (maxSteps:=2000000) [hP,hN,g0,g1,I,J,T,o,p,u,B])|((first|refine Wd ?_|refine Ss.h ?_|(refine Sb.h ?_ ?_ ?_<;>(try intro hgd)<;>try exact Xy))<;>simp -implicitDefEqProofs (maxSteps:=2000000) [hP,hN,g0,g1,I,J,T,o,p,u,B]<;>try refine Yc ?_)|refine X2 ?_ ?_|(refine Xd ?_ ?_<;>intro hcd<;>try exact Xx))
  refine yi (s:=S1) (c:=N) (a:=n) (b:=k) hP rfl (by simp[St.ev]) bH (by omega) (by omega) (by omega) (by omega) (by omega) d3 (λv=>VJ (d4 v) (by omega)) (by simp[dr,hN]) ?_;intro r9 h9 bq c0;have ad:=c0 250 rfl;simp only[B,UL,i9]at ad;simp -implicitDefEqProofs (maxSteps:=2000000) [hP,hN,gn,nc,iG,lw,inK,g0,g1,I,J,T,o,p,u]
  with_reducible repeat' (first|refine Sp.h ?_|((with_unfolding_all refine WP.takeAt (hn:=[]) 3 rfl rfl rfl ?_);simp -implicitDefEqProofs (maxSteps:=2000000) [hP,hN,gn,nc,iG,lw,inK,g0,g1,I,J,T,o,p,u,ad])|((first|refine Wd ?_|refine Ss.h ?_|(refine Sb.h ?_ ?_ ?_<;>(try intro hgd)<;>try exact Xy))<;>simp -implicitDefEqProofs (maxSteps:=2000000) [hP,hN,gn,nc,iG,lw,inK,g0,g1,I,J,T,o,p,u,ad]<;>try refine Yc ?_)|refine X2 ?_ ?_|(refine Xd ?_ ?_<;>intro hcd<;>try exact Xx))
  refine yi (s:=fG S1 n k) (c:=N) (a:=n+1) (b:=k) hP rfl (by simp[St.ev,gn,nc,iG,lw,inK,g0,g1,I,J,T]) bq (by omega) (by omega) (by omega) (by omega) (by rw[m2,m1,d2,d1]) (by rw[m2];exact d3) d5 (by simp[dr,hN]) ?_;intro r8 h8 cm ei;have a5:=ei 250 rfl;simp only[ad,UL,i9]at a5;rw[cw,hS]at cm;rw[hS]at cu
  have c9:(A.take (i+1)).foldl (dl n leaf) s0=dl n leaf ((A.take i).foldl (dl n leaf) s0) k:=by
   rw[Wf,hk,Option.toList_some,Wg];rfl
  rw[<-c9]at cm cu;simp -implicitDefEqProofs (maxSteps:=2000000) [hP,hN,gn,nc,iG,lw,inK,g0,g1,I,J,T,o,p,u]
  with_reducible repeat' (first|refine Sp.h ?_|((first|refine Wd ?_|refine Ss.h ?_|(refine Sb.h ?_ ?_ ?_<;>(try intro hgd)<;>try exact Xy))<;>simp -implicitDefEqProofs (maxSteps:=2000000) [hP,hN,gn,nc,iG,lw,inK,g0,g1,I,J,T,o,p,u,a5,cz]<;>try refine Yc ?_)|refine X2 ?_ ?_|(refine Xd ?_ ?_<;>intro hcd<;>try exact Xx))
  exact⟨cu,λk2 a b=>by rw[cm k2 (by simp[inK,a,b]),kG]⟩
 .have dd:i=A.length:=by omega
  subst dd;rw[Up (T8 _)]at hS;have d1:=hI.nl
  have d2:S.bx.length=n+2:=by rw[hI.bx,<-D];simp[dE,h2]
  have d3:∀x∈S.bx,x.length<=9223372036854775807:=by rw[hI.bx];exact cB
  have d4:∀v,(ab S v).length<=4096:=λv=>by
   have h5:=hI.len v;rw[<-D,oJ (by omega)]at h5;have h6:=ct v;split at h5
   .split at h5<;>simp at h5<;>omega
   .split at h5<;>omega
  have b8:fG S n (n+1)=bN s leaf joint:=by rw[hS,<-D,ba];unfold bN;rw[h3]
  have d5:(bN s leaf joint).near.length=n+2:=by rw[<-b8,(gM S n (n+1)).1,d1]
  with_reducible repeat' (first|refine Sp.h ?_|((with_unfolding_all refine WP.takeAt (hn:=[]) 3 rfl rfl rfl ?_);simp -implicitDefEqProofs (maxSteps:=2000000) [hP,hN,g0,g1,I,J,o,p,u])|((first|refine Wd ?_|refine Ss.h ?_|(refine Sb.h ?_ ?_ ?_<;>(try intro hgd)<;>try exact Xy))<;>simp -implicitDefEqProofs (maxSteps:=2000000) [hP,hN,g0,g1,I,J,o,p,u]<;>try refine Yc ?_)|refine X2 ?_ ?_|(refine Xd ?_ ?_<;>intro hcd<;>try exact Xx))
  refine yi (s:=S) (c:=N) (a:=n) (b:=n+1) hP rfl (by simp[St.ev,I,J,g0]) bH (by omega) (by omega) (by omega) (by omega) (by omega) d3 d4 (by simp[dr,hN]) ?_;intro r9 h9 bq c0;rw[b8]at bq;simp -implicitDefEqProofs (maxSteps:=2000000) [hP,hN,gn,nc,iG,lw,inK,g0,g1,I,J,o,p,u]
  with_reducible repeat' (first|refine Sp.h ?_|((first|refine Wd ?_|refine Ss.h ?_|(refine Sb.h ?_ ?_ ?_<;>(try intro hgd)<;>try exact Xy))<;>simp -implicitDefEqProofs (maxSteps:=2000000) [hP,hN,gn,nc,iG,lw,inK,g0,g1,I,J,o,p,u]<;>try refine Yc ?_)|refine X2 ?_ ?_|(refine Xd ?_ ?_<;>intro hcd<;>try exact Xx))
  subst hH;exact yh (s':=bN s leaf joint) (c':=N) rfl rfl (by omega) ⟨rfl,_,rfl⟩ bq
def BH(s:Spc)(n p:Nat):Bool:=decide ((ab s p).length<=2046)&&decide (ab s p).Nodup&&(ab s p).all λk=>decide (k<n)&&decide (k≠p)&&decide ((aj s k).low=-1)&&decide (p∈ab s k)
def zz(s:Spc)(i p:Nat):Bool:=(de s.bx i p==de s.bx p i)&&(!(decide ((aj s i).low=-1)&&decide ((aj s p).low=-1)&&decide (i≠p))||(decide (i∈ab s p)==de s.bx i p))
def A6(s:Spc):Bool:=decide (s.cells.length<=2040)&&decide (s.bx.length=s.cells.length)&&decide (s.near.length=s.cells.length)&&decide (s.jn.length=s.cells.length)&&(s.cc==false) &&
 s.bx.all (λb=>decide (b.length<=16))&&s.cells.all (λc=>decide (c.v.nor.length<=4096))&&(List.range s.cells.length).all (λp=>BH s s.cells.length p)&&(List.range s.cells.length).all λi=>(List.range s.cells.length).all (zz s i)
def hC(sc:Sce)(w:Int)(a:List Vc)(s:Spc)(h:Nat):Spc:={s with cells:=s.cells.set h {(aj s h)with v:=aY (bw sc (aA s h) a)},jn:=s.jn.set h (je sc.js sc.ms w (aA s h))}
def ey(s:Spc)(p q:List Int):Int×Int×Int:=pJ s s.cells.length p q (de s.bx)
def l7(sc:Sce)(w:Int)(s:Spc)(leaf:Nat)(joint:Int):Spc:=hC sc w (aj s leaf).v.nor (hC sc w (aj s leaf).v.nor (bN s leaf joint) s.cells.length) (s.cells.length+1)
def qc(sc:Sce)(p q:List Int)(w cells:Int):Nat->Spc->Option (Spc×Int)
 |0,_=>none
 |f+1,s=>if A6 s then(if(ey s p q).2.2=3 then(if cells-2<s.cells.length then some (s,4)else if decide ((ey s p q).1=(ey s p q).1.toNat)&&decide ((ey s p q).1.toNat<s.cells.length)then qc sc p q w cells f (l7 sc w s (ey s p q).1.toNat (ey s p q).2.1)else none)else some (s,(ey s p q).2.2))else none
def kf(sc:Sce)(w:Int):Spc:={root:=af sc.js sc.ms,cells:=[aD (aY (bw sc (af sc.js sc.ms) []))],bx:=[af sc.js sc.ms],near:=[[]],jn:=[je sc.js sc.ms w (af sc.js sc.ms)]}
section
variable {s:Spc} (h:A6 s=true)
include h
theorem sq:s.cells.length<=2040/\s.bx.length=s.cells.length/\s.near.length=s.cells.length/\s.jn.length=s.cells.length/\s.cc=false/\(∀b∈s.bx,b.length<=16)/\(∀c∈s.cells,c.v.nor.length<=4096)/\(∀p,p<s.cells.length->BH s s.cells.length p=true)/\∀i p,i<s.cells.length->p<s.cells.length->zz s i p=true:=by
 simp only[A6,An,L4,UP,TY,UE]at h;obtain⟨⟨⟨⟨⟨⟨⟨⟨a1,a2⟩,a3⟩,a4⟩,a5⟩,a6⟩,a7⟩,a8⟩,a9⟩:=h;exact⟨a1,a2,a3,a4,a5,a6,a7,a8,λi p hi hp=>a9 i hi p hp⟩
theorem Es:∀p,(ab s p).length<=2046/\(ab s p).Nodup/\∀k∈ab s p,k<s.cells.length/\k≠p/\(aj s k).low=-1/\p∈ab s k:=by
 obtain⟨a1,a2,a3,a4,a5,a6,a7,a8,a9⟩:=sq h;intro p;by_cases hp:p<s.cells.length
 .have:=a8 p hp
  simp only[BH,An,L4,TY]at this;exact⟨this.1.1,this.1.2,λk a=>⟨(this.2 k a).1.1.1,(this.2 k a).1.1.2,(this.2 k a).1.2,(this.2 k a).2⟩⟩
 .have:ab s p=[]:=by unfold ab;rw[Ua (by omega)];rfl
  rw[this];exact⟨by simp,List.nodup_nil,λk a=>by cases a⟩
theorem NH:SpcC s s.cells.length (de s.bx):=by
 obtain⟨a1,a2,a3,a4,a5,a6,a7,a8,a9⟩:=sq h;have e:=Es h;refine⟨⟨by omega,rfl,a2,a3,a4,λb f=>by have:=a6 b f;omega,λp i hi=>?_,λp=>by have:=(e p).1;omega⟩,λi j hi g=>?_,λi p hi a hp d c=>?_⟩
 .have:=(e p).2.2 i hi
  exact⟨this.1,this.2.2.1⟩
 .have:=a9 i j hi g
  simp only[zz,An,UP]at this;exact this.1
 .have:=a9 i p hi hp
  simp only[zz,An,a,d,VR,Un,ne_eq,c,WK,Vy,Bool.false_or,UP]at this;rw[<-this.2];simp
end
theorem l8(s:Spc)(leaf:Nat)(joint:Int):(bN s leaf joint).near.length=s.near.length+2/\(bN s leaf joint).bx.length=s.bx.length+2/\(bN s leaf joint).cells.length=s.cells.length+2/\(bN s leaf joint).jn.length=s.jn.length+2/\(bN s leaf joint).cc=false:=by
 have fold:∀(l:List Nat)(x:Spc),(l.foldl (dl s.cells.length leaf) x).near.length=x.near.length/\(l.foldl (dl s.cells.length leaf) x).bx=x.bx/\(l.foldl (dl s.cells.length leaf) x).cells=x.cells/\(l.foldl (dl s.cells.length leaf) x).jn=x.jn/\(l.foldl (dl s.cells.length leaf) x).cc=x.cc:=by
  intro l
  induction l with
  |nil=>intro x;exact⟨rfl,rfl,rfl,rfl,rfl⟩
  |cons a l ih=>
   intro x;obtain⟨b1,b2,b3,b4,b5⟩:=ih (dl s.cells.length leaf x a);obtain⟨b,c,d,e,_⟩:=ss s.cells.length leaf x a;exact⟨b1.trans b,b2.trans c,b3.trans d,b4.trans e,b5.trans (Eu _ _ _ _)⟩
 obtain⟨b1,b2,b3,b4,b5⟩:=fold (ab s leaf) (dE s leaf joint);unfold bN;obtain⟨b,c,d,e,_⟩:=gM ((ab s leaf).foldl (dl s.cells.length leaf) (dE s leaf joint)) s.cells.length (s.cells.length+1);rw[b,c,d,e,Ak,b1,b2,b3,b4,b5];simp[dE]
theorem KG{own:Bool}(a:jn.length=s.jn.length)(h1:k≠294):bt own {s with jn:=jn} c k=bt own s c k:=by
 unfold bt;simp only[a,TZ h1];rfl
set_option maxRecDepth 100000 in
@[simp] theorem RZ:fx prog 28:=by
 have hf:=func28;have nt:=ntmps28;have rs:=results28;exact AW
theorem Fx{C:Cx}{g:FuncId}{r:AV}{e sz:Nat}{ys:List PV}(c:cF (st.ev f)=some (g,[],[]))(a:xs.map st.ev=args)(l:args.all rl=true)(m:∀k,inK k=true->st.h k=none)
 (p:nH C.P g args mi (λi b=>i=r/\b=fF e sz ys))(hd:dr C.N d=true)
 (h:∀b,(∀k,inK k=true->b k=fF e sz ys k)->(∀k,inK k=false->b k=(st.h k).map i9)->Q (St.put ⟨λn=>gn (st.t n),b⟩ d r [])):tD C Q f xs d st:=by
 refine⟨_,λi b=>i=r/\b=fF e sz ys,c,G7 m,?_,by rw[a];exact l,hd,λi b hL q hp=>?_⟩
 .rw[a,ID m];exact p
 .obtain⟨rfl,rfl⟩:=hp
  refine h _ (λk j=>?_) (λk j=>by unfold fU;rw[TZ (by rw[j];decide)]);unfold fU;rw[T6 j];split
  .rename_i o;subst o;rfl
  .rfl
theorem Fy{C:Cx}{g:FuncId}{e sz:Nat}{ys:List PV}(p:cF (st.ev f)=some (g,[],[]))(i:xs.map st.ev=args)(v:args.all rl=true)(m:∀k,inK k=true->st.h k=fF e sz ys k)
 (z:nH C.P g args (fF e sz ys) (λq l=>q=.ptr 290 0/\l=bt true s 0))(hd:dr C.N d=true)
 (h:∀l,(∀k,inK k=true->l k=bt true s 0 k)->(∀k,inK k=false->l k=(st.h k).map i9)->Q (St.put ⟨λn=>gn (st.t n),l⟩ d (.ptr 290 0) [])):tD C Q f xs d st:=by
 have c:st.h 290=none:=by rw[m 290 rfl];rfl
 have hL:LookH (fF e sz ys):=A5
 have u:gw st.h=fF e sz ys:=by
  funext k
  unfold gw;by_cases a:inK k=true
  .rw[T6 a]
   split
   .rename_i r;subst r;rw[c];rfl
   .exact m k a
  .rw[TZ a]
   cases A:fF e sz ys k with
   |none=>rfl
   |some b=>exact absurd (hL.keys k b A) a
 refine⟨_,λq l=>q=.ptr 290 0/\l=bt true s 0,p,⟨λk b o a j=>hL.nf k b o (by rw[<-m k a];exact j),λk b a j=>hL.nm k b (by rw[<-m k a];exact j),λk x o f a j=>hL.cl k x o f (by rw[<-m k a];exact j),λk x f a j=>?_,λb j=>(by rw[c]at j;cases j)⟩,?_,by rw[i];exact v,hd,λq l hL B hp=>?_⟩
 .rw[m k a]at j
  obtain⟨_,y⟩:=fV j;cases y
 .rw[i,u];exact z
 .obtain⟨rfl,rfl⟩:=hp
  refine h _ (λk a=>?_) (λk a=>by unfold fU;rw[TZ (by rw[a];decide)]);unfold fU;rw[T6 a];split
  .rename_i r;subst r
   have:mQ st.h 290=true:=by simp only[mQ,c]
   rw[this];rfl
  .rfl
theorem G0{C:Cx}{g:FuncId}{s':Spc}{r:AV}(i:cF (st.ev f)=some (g,[],[]))(a:xs.map st.ev=args)(o:args.all rl=true)(l:∀k,inK k=true->st.h k=bt true s c k)(hn:s.near.length<=4096)
 (p:nH C.P g args (bt false s c) (λj b=>j=r/\∃e,b=bt false s' e))(hd:dr C.N d=true)
 (h:∀b e,(∀k,inK k=true->b k=bt true s' e k)->(∀k,inK k=false->b k=(st.h k).map i9)->Q (St.put ⟨λn=>gn (st.t n),b⟩ d r [])):tD C Q f xs d st:=by
 refine⟨_,λj b=>j=r/\∃e,b=bt false s' e,i,CI hn l,?_,by rw[a];exact o,hd,λj b hL q hp=>?_⟩
 .rw[a,Ev hn l];exact p
 .obtain⟨rfl,e,rfl⟩:=hp
  exact h _ e (λk m=>CJ l m) (λk m=>by unfold fU;rw[TZ (by rw[m];decide)])
def qm(sc:Sce)(w:Int)(H:List Vc)(a:Spc)(n:Nat):Nat->Spc
 |0=>a
 |j+1=>hC sc w H (qm sc w H a n j) (n+j)
theorem yg(sc:Sce)(w:Int)(H:List Vc)(a:Spc)(n:Nat):∀j,(qm sc w H a n j).near=a.near/\(qm sc w H a n j).bx=a.bx/\(qm sc w H a n j).cells.length=a.cells.length/\(qm sc w H a n j).jn.length=a.jn.length/\(qm sc w H a n j).cc=a.cc
 |0=>⟨rfl,rfl,rfl,rfl,rfl⟩
 |j+1=>by
  obtain⟨b1,b2,b3,b4,b5⟩:=yg sc w H a n j;refine⟨b1,b2,?_,?_,b5⟩
  .simp only[qm,hC,Vo];exact b3
  .simp only[qm,hC,Vo];exact b4
theorem G1{own:Bool}{cs:List Cel}(a:s.cc=false)(h1:cs.length=s.cells.length)(d:jn.length=s.jn.length)(b:k≠291)(f:k≠294):bt own {s with cells:=cs,jn:=jn} c k=bt own s c k:=by
 unfold bt;by_cases e:k=290
 .rw[T6 e,T6 e,sr (s:={s with cells:=cs,jn:=jn}) a,sr a]
  simp only[h1,d]
 .rw[TZ e,TZ e,TZ b,TZ b]
  simp only[TZ f];rfl
def It(sc:Sce):Spc:=zy (af sc.js sc.ms) (aY (bw sc (af sc.js sc.ms) []))
theorem KI(sc:Sce)(w:Int):kf sc w={It sc with jn:=[je sc.js sc.ms w (af sc.js sc.ms)]}:=rfl
theorem Ow(sc:Sce)(p q:List Int)(w cells:Int)(f:Nat)(R:Spc×Int)(hs:ScL sc)(h0:aZ sc=0)(h1:gj sc.js sc.ms p=true)(h2:gj sc.js sc.ms q=true)(h3:1<=w)(h4:1<=cells)(h5:cells<=2048)(eA:p.length<=9223372036854775807)(eB:q.length<=9223372036854775807)(cM:dv (af sc.js sc.ms)=true)(dd:gH sc.js sc.ms (af sc.js sc.ms)=true)(cd:aK (mE (af sc.js sc.ms) br)=true)(cS:cJ (mE (af sc.js sc.ms) br) 0 (aY (bw sc (af sc.js sc.ms) []))=true)(en:DF 16777216 (aY (bw sc (af sc.js sc.ms) [])))(ei:TSm (mE (af sc.js sc.ms) br))(el:aK (mE (af sc.js sc.ms) (aY (bw sc (af sc.js sc.ms) [])))=true)(e1:(af sc.js sc.ms).length<=16)(hR:qc sc p q w cells f (kf sc w)=some R):xL 13 (gb sc) (zs p) (zs q) (Z w) (Z cells) (.tup [.agg [iv R.1.root,.sl (R.1.cells.map bz)],Z R.2]):=by
 have cs:=Hq sc hs;have cp:=Of sc.js sc.ms p hs.js hs.ms;have cq:=Of sc.js sc.ms q hs.js hs.ms;have cl:=Sf sc.js sc.ms hs.js hs.ms;have cn:=Tu (af sc.js sc.ms) (by omega);rw[h0]at cs;rw[h1]at cp;rw[h2]at cq;rw[cM]at cn
 have ef:j0 (af sc.js sc.ms)=mE (af sc.js sc.ms) br:=by unfold j0;rw[T6 cM]
 rw[ef]at cn
 have b0:dq (mE (af sc.js sc.ms) br) 0=af sc.js sc.ms:=by
  have ar:eR (mE (af sc.js sc.ms) br) 0=true:=by simp[eR,cd]
  unfold dq;rw[T6 ar];exact yH cd
 have c0:eR (mE (af sc.js sc.ms) br) 0=true:=by simp[eR,cd]
 have cu:=Sx sc (mE (af sc.js sc.ms) br) (aD br) hs ei h0 c0 (by rw[b0];exact dd) rfl (by rw[b0];omega) (by simp[aD,br]) (by rw[b0];exact en) (by rw[b0];exact cS);rw[b0]at cu;have cU:=NG (af sc.js sc.ms) (aY (bw sc (af sc.js sc.ms) [])) el
 have ep:¬w<1:=by omega
 have c3:¬cells<1:=by omega
 have c4:¬2048<cells:=by omega
 have cQ:i64.wrap (cells-2)=cells-2:=aa;refine Dp func13 λC hP hN=>?_
 with_reducible repeat' (first|refine Sp.h ?_|((with_unfolding_all refine WP.takeAt (hn:=[]) (f:=.func 33) 2 rfl rfl rfl ?_);simp -implicitDefEqProofs (maxSteps:=2000000) [hP,hN,ep,c3,c4,aD])|((first|refine Wd ?_|refine Ss.h ?_|refine Sc.h (cs) ?_|refine Sc.h (cp) ?_|refine Sc.h (cq) ?_|refine Sc.h (cl) ?_|refine Sc.h (cn) ?_|(refine Sb.h ?_ ?_ ?_<;>(try intro hgd)<;>try exact Xy))<;>simp -implicitDefEqProofs (maxSteps:=2000000) [hP,hN,ep,c3,c4,aD]<;>try refine Ya ?_)|refine X2 ?_ ?_|(refine Xd ?_ ?_<;>intro hcd<;>try exact Xx))
 have b4:(cy (mE (af sc.js sc.ms) br) 0 (aY (bw sc (af sc.js sc.ms) []))).cells.map bz=[bz (aD (aY (bw sc (af sc.js sc.ms) [])))]:=by unfold cy;rw[T6 cS];simp[dg]
 have cg:nH prog 33 ([gb sc,fg (mE (af sc.js sc.ms) br),Z 0].map .pv) mi (λr h'=>r=.tup [.agg [.pv (iv (af sc.js sc.ms)),.arr 291 1],.pv (B true)]/\h'=fF 58 8 [bz (aD (aY (bw sc (af sc.js sc.ms) [])))]):=by
  have:=cu;simp only[aD,br]at this|-;rw[show bw sc (af sc.js sc.ms) ([]:List Vc)=bw sc (af sc.js sc.ms) [] from rfl]at this;simp only[aD,br]at b4;rw[b4]at this;exact this
 clear cu b4;refine Fx (g:=33) (args:=[gb sc,fg (mE (af sc.js sc.ms) br),Z 0].map .pv) rfl (by simp[St.ev,aD]) rfl ?_ (by rw[hP];exact cg) (by simp[dr,hN]) ?_
 .intro k hk
  simp only[inK,An,L4]at hk;simp[tT,show¬k=5 by omega,show¬k=10 by omega,show¬k=11 by omega,show¬k=12 by omega]
 intro h' hh ho;have c5:=ho 5 rfl;have K:=ho 10 rfl;have L:=ho 11 rfl;have b7:=ho 12 rfl;have E:h' 291=some (.row 58 8 [bz (aD (aY (bw sc (af sc.js sc.ms) [])))] 0):=(hh 291 rfl).trans (by simp[fF]);simp[i9,gn,nc,iG,tT]at c5 K L b7;simp -implicitDefEqProofs (maxSteps:=2000000) [hP,hN,gn,nc,iG,tC,lw,inK,c5,K,L,b7,E];refine WP.of_st (P:=λst=>st.t 1=.pv (zs p)/\st.t 2=.pv (zs q)/\st.t 3=.pv (Z w)/\st.t 4=.pv (Z cells)/\st.t 5=.ptr 5 0/\st.t 10=.ptr 10 0/\st.t 11=.ptr 11 0/\st.t 12=.ptr 12 0/\st.h 5=some (.box [.pv (.sl (sc.js.map bR)),.pv (.sl (sc.ms.map dC)),.pv (.sl (sc.shs.map dc)),.pv (.sl (sc.sks.map aP))] true false)/\(∃x y,st.h 10=some (.box [.pv x,.pv y] true false))/\(∃x,st.h 11=some (.box [.pv x] true false))/\st.h 12=some (.box [.pv (iv (af sc.js sc.ms)),.arr 291 1] true false)/\∀k,inK k=true->st.h k=fF 58 8 [bz (aD (aY (bw sc (af sc.js sc.ms) [])))] k) ⟨?_,?_⟩
 .simp[gn,nc,iG,tC,lw,inK,c5,K,L,b7]
  exact λk a b=>by rw[TZ (by omega)];exact hh k (by simp[inK,a,b])
 clear hh ho c5 K L b7 E h';rintro st ⟨g1,g2,g3,g4,g5,d,l,b8,b5,⟨G,J,u⟩,⟨I,z⟩,cr,F⟩
 with_reducible repeat' (first|refine Sp.h ?_|((with_unfolding_all refine WP.takeAt (hn:=[]) (f:=.func 34) 1 rfl rfl rfl ?_);simp -implicitDefEqProofs (maxSteps:=2000000) [hP,hN,g1,g2,g3,g4,g5,d,l,b8,b5,u,z,cr])|((first|refine Wd ?_|refine Ss.h ?_|(refine Sb.h ?_ ?_ ?_<;>(try intro hgd)<;>try exact Xy))<;>simp -implicitDefEqProofs (maxSteps:=2000000) [hP,hN,g1,g2,g3,g4,g5,d,l,b8,b5,u,z,cr]<;>try refine Yc ?_)|refine X2 ?_ ?_|(refine Xd ?_ ?_<;>intro hcd<;>try exact Xx))
 refine Fy (g:=34) (args:=[.agg [.pv (iv (af sc.js sc.ms)),.arr 291 1]]) rfl (by simp[St.ev]) rfl F (by rw[hP];exact cU) (by simp[dr,hN]) ?_;intro h' hh ho;have c5:=ho 5 rfl;have K:=ho 10 rfl;have L:=ho 11 rfl;simp only[b5,u,z,UL,i9,U7,WB]at c5 K L;have ba:h' 5=some (.box [.pv (.sl (sc.js.map bR)),.pv (.sl (sc.ms.map dC)),.pv (.sl (sc.shs.map dc)),.pv (.sl (sc.sks.map aP))] true false):=c5;have N:h' 10=some (.box [.pv G,.pv J] true false):=K;have O:h' 11=some (.box [.pv I] true false):=L;simp -implicitDefEqProofs (maxSteps:=2000000) [hP,hN,gn,nc,iG,tC,lw,inK,g1,g2,g3,g4,g5,d,l,b8,ba,N,O];refine WP.of_st (P:=λst=>st.t 1=.pv (zs p)/\st.t 2=.pv (zs q)/\st.t 3=.pv (Z w)/\st.t 4=.pv (Z cells)/\st.t 5=.ptr 5 0/\st.t 10=.ptr 10 0/\st.t 11=.ptr 11 0/\st.t 14=.ptr 290 0/\st.h 5=some (.box [.pv (.sl (sc.js.map bR)),.pv (.sl (sc.ms.map dC)),.pv (.sl (sc.shs.map dc)),.pv (.sl (sc.sks.map aP))] true false)/\(∃x y,st.h 10=some (.box [.pv x,.pv y] true false))/\(∃x,st.h 11=some (.box [.pv x] true false))/\∀k,inK k=true->st.h k=bt true (It sc) 0 k) ⟨?_,?_⟩
 .simp[gn,nc,iG,tC,lw,inK,g1,g2,g3,g4,g5,d,l,ba,N,O]
  exact λk a b=>hh k (by simp[inK,a,b])
 clear hh ho c5 K L ba N O h' F b5 u z cr g1 g2 g3 g4 g5 d l b8 G J I st;rintro st ⟨g1,g2,g3,g4,g5,d,l,o,b5,⟨G,J,u⟩,⟨I,z⟩,F⟩;have D:st.h 290=some (.box [.pv (iv (af sc.js sc.ms)),.arr 291 1,.arr 292 1,.ext (.barr 293 1 1),.arr 294 1] true false):=F 290 rfl;have W:st.h 292=some (.row 39 1 [iv (af sc.js sc.ms)] 0):=F 292 rfl;have bb:st.h 294=some (.row 3 1 [Z (-1)] 0):=F 294 rfl;have cf:=Ox sc.js sc.ms (af sc.js sc.ms) w hs.js hs.ms (by omega)
 with_reducible repeat' (first|refine Sp.h ?_|((first|refine Wd ?_|refine Ss.h ?_|refine Sc.h (cf) ?_|(refine Sb.h ?_ ?_ ?_<;>(try intro hgd)<;>try exact Xy))<;>simp -implicitDefEqProofs (maxSteps:=2000000) [hP,hN,g1,g2,g3,g4,g5,d,l,o,b5,u,z,D,W,bb]<;>try refine Yc ?_)|refine X2 ?_ ?_|(refine Xd ?_ ?_<;>intro hcd<;>try exact Xx))
 refine WP.of_st (P:=λst=>st.t 1=.pv (zs p)/\st.t 2=.pv (zs q)/\st.t 3=.pv (Z w)/\st.t 4=.pv (Z cells)/\st.t 5=.ptr 5 0/\st.t 10=.ptr 10 0/\st.t 11=.ptr 11 0/\st.t 14=.ptr 290 0/\st.h 5=some (.box [.pv (.sl (sc.js.map bR)),.pv (.sl (sc.ms.map dC)),.pv (.sl (sc.shs.map dc)),.pv (.sl (sc.sks.map aP))] true false)/\(∃x y,st.h 10=some (.box [.pv x,.pv y] true false))/\(∃x,st.h 11=some (.box [.pv x] true false))/\∀k,inK k=true->st.h k=bt true (kf sc w) 0 k) ⟨?_,?_⟩
 .simp[ag,g1,g2,g3,g4,g5,d,l,o,b5,u,z]
  intro k hk;by_cases e:k=294
  .subst e;rw[T6 rfl];rfl
  .rw[TZ e,F k hk,KI]
   exact(KG (s:=It sc) (jn:=[je sc.js sc.ms w (af sc.js sc.ms)]) (by rfl) e).symm
 clear D W bb F b5 u z g1 g2 g3 g4 g5 d l o G J I st;rintro st ⟨g1,g2,g3,g4,g5,d,l,o,b5,⟨G,J,u⟩,⟨I,z⟩,F⟩;clear cg cU cd cS en ei el cM dd c0 b0 ef cn cl cs cp cq cf h1 h2 h0;refine WP.loopN [] f (λi st=>(∃S c,qc sc p q w cells (f-i) S=some R/\∀k,inK k=true->st.h k=bt true S c k)/\st.t 1=.pv (zs p)/\st.t 2=.pv (zs q)/\st.t 3=.pv (Z w)/\st.t 4=.pv (Z cells)/\st.t 5=.ptr 5 0/\st.t 10=.ptr 10 0/\st.t 11=.ptr 11 0/\st.t 14=.ptr 290 0/\st.h 5=some (.box [.pv (.sl (sc.js.map bR)),.pv (.sl (sc.ms.map dC)),.pv (.sl (sc.shs.map dc)),.pv (.sl (sc.sks.map aP))] true false)/\(∃x y,st.h 10=some (.box [.pv x,.pv y] true false))/\(∃x,st.h 11=some (.box [.pv x] true false))) ?_ ?_
 .refine⟨⟨kf sc w,0,by simpa using hR,λk hk=>?_⟩,by simp[St.kill,aB,bB,aL,g1],by simp[St.kill,aB,bB,aL,g2],by simp[St.kill,aB,bB,aL,g3],by simp[St.kill,aB,bB,aL,g4],by simp[St.kill,aB,bB,aL,g5],by simp[St.kill,aB,bB,aL,d],by simp[St.kill,aB,bB,aL,l],by simp[St.kill,aB,bB,aL,o],by simp[St.kill,aB,bT,bB,aL,b5],⟨G,J,by simp[St.kill,aB,bT,bB,aL,u]⟩,⟨I,by simp[St.kill,aB,bT,bB,aL,z]⟩⟩
  show(st.h k).map (bT [])=_;rw[F k hk,kG]
 clear F b5 u z g1 g2 g3 g4 g5 d l o G J I st hR;rintro i st hi ⟨⟨S,c,A,F⟩,g1,g2,g3,g4,g5,d,l,o,b5,⟨G,J,u⟩,⟨I,z⟩⟩
 obtain⟨m,hm⟩:∃m,f-i=m+1:=by
  cases h:f-i with
  |zero=>rw[h]at A;cases A
  |succ m=>exact⟨m,rfl⟩
 rw[hm]at A;simp only[qc]at A;by_cases ar:A6 S=true
 case neg=>rw[TZ ar]at A;cases A
 rw[T6 ar]at A;obtain⟨a1,a2,a3,a4,a5,a6,a7,a8,a9⟩:=sq ar;have cN:=SG S S.cells.length p q (de S.bx) (NH ar) eA eB;have ez:pJ S S.cells.length p q (de S.bx)=ey S p q:=rfl;rw[ez]at cN;have bc:=KL (by omega) F;have cb:=IC F;have b9:∀x,iH st.h 3 (.pv x)=some x:=λ_=>rfl;have D:=(F 290 rfl).trans (oG true S c);rw[sr a5,a2,a3,a4]at D;have E:=(F 291 rfl).trans (rc true S c a5);have W:=(F 292 rfl).trans (rd true S c);by_cases e3:(ey S p q).2.2=3
 case neg=>
  rw[TZ e3]at A;injection A with A;subst A
  have bq:((ey S p q).2.2 !=3)=true:=by simp[e3]
  generalize ey S p q=NX at *
  with_reducible repeat' (first|refine Sp.h ?_|((with_unfolding_all refine WP.lendAt (hn:=[]) (f:=.func 36) 3 rfl rfl rfl ?_);simp -implicitDefEqProofs (maxSteps:=2000000) [hP,hN,g1,g2,g3,g4,g5,d,l,o,b5,u,z])|((first|refine Wd ?_|refine Ss.h ?_|(refine Sb.h ?_ ?_ ?_<;>(try intro hgd)<;>try exact Xy))<;>simp -implicitDefEqProofs (maxSteps:=2000000) [hP,hN,g1,g2,g3,g4,g5,d,l,o,b5,u,z]<;>try refine Yc ?_)|refine X2 ?_ ?_|(refine Xd ?_ ?_<;>intro hcd<;>try exact Xx))
  refine⟨36,[nu S,zs p,zs q],_,rfl,cb,by simp[St.ev,mW,g1,g2,o,bc,b9],by rw[hP];exact cN,rfl,by simp[dr,hN],?_⟩;simp -implicitDefEqProofs (maxSteps:=2000000) [hP,hN,g1,g2,g3,g4,g5,d,l,o]
  with_reducible repeat' (first|refine Sp.h ?_|((first|refine Wd ?_|refine Ss.h ?_|(refine Sb.h ?_ ?_ ?_<;>(try intro hgd)<;>try exact Xy))<;>simp -implicitDefEqProofs [hP,hN,e3,bq,D,E,g1,g2,g3,g4,g5,d,l,o,b5,u,z]<;>try refine Yc ?_)|refine X2 ?_ ?_|(refine Xd ?_ ?_<;>intro hcd<;>try exact Xx))
 rw[T6 e3]at A
 have bq:((ey S p q).2.2 !=3)=false:=by simp[e3]
 by_cases e4:cells-2<S.cells.length
 case pos=>
  rw[T6 e4]at A;injection A with A;subst A;generalize ey S p q=NX at *
  with_reducible repeat' (first|refine Sp.h ?_|((with_unfolding_all refine WP.lendAt (hn:=[]) (f:=.func 36) 3 rfl rfl rfl ?_);simp -implicitDefEqProofs (maxSteps:=2000000) [hP,hN,g1,g2,g3,g4,g5,d,l,o,b5,u,z])|((first|refine Wd ?_|refine Ss.h ?_|(refine Sb.h ?_ ?_ ?_<;>(try intro hgd)<;>try exact Xy))<;>simp -implicitDefEqProofs (maxSteps:=2000000) [hP,hN,g1,g2,g3,g4,g5,d,l,o,b5,u,z]<;>try refine Yc ?_)|refine X2 ?_ ?_|(refine Xd ?_ ?_<;>intro hcd<;>try exact Xx))
  refine⟨36,[nu S,zs p,zs q],_,rfl,cb,by simp[St.ev,mW,g1,g2,o,bc,b9],by rw[hP];exact cN,rfl,by simp[dr,hN],?_⟩;simp -implicitDefEqProofs (maxSteps:=2000000) [hP,hN,g1,g2,g3,g4,g5,d,l,o]
  with_reducible repeat' (first|refine Sp.h ?_|((first|refine Wd ?_|refine Ss.h ?_|(refine Sb.h ?_ ?_ ?_<;>(try intro hgd)<;>try exact Xy))<;>simp -implicitDefEqProofs [hP,hN,e3,bq,e4,cQ,D,E,g1,g2,g3,g4,g5,d,l,o,b5,u,z]<;>try refine Yc ?_)|refine X2 ?_ ?_|(refine Xd ?_ ?_<;>intro hcd<;>try exact Xx))
 case neg=>
  rw[TZ e4]at A;by_cases ek:(decide ((ey S p q).1=(ey S p q).1.toNat)&&decide ((ey S p q).1.toNat<S.cells.length))=true
  case neg=>rw[TZ ek]at A;cases A
  rw[T6 ek]at A;simp only[An,L4]at ek;obtain⟨k,hk⟩:∃k,k=(ey S p q).1.toNat:=⟨_,rfl⟩;rw[<-hk]at ek A;obtain⟨ct,ca⟩:=ek
  have b1:S.cells[k]?=some (aj S k):=by simp[aj,an ca]
  have b2:∀h,S.cells[k]'h=aj S k:=λh=>iD b1 h;have X:=Es ar;have cW:=Sz S c S.cells.length k (ey S p q).2.1 a5 a3 a2 rfl a4 (by omega) ca (λx hx=>by have:=a6 x hx;omega) (λv=>(X v).1) (X k).2.1 (λx hx=>⟨((X k).2.2 x hx).1,((X k).2.2 x hx).2.1,((X k).2.2 x hx).2.2.2⟩);obtain⟨q1,q2,q3,q4,q5⟩:=l8 S k (ey S p q).2.1;generalize e0:ey S p q=NX at *
  with_reducible repeat' (first|refine Sp.h ?_|((with_unfolding_all refine WP.lendAt (hn:=[]) (f:=.func 36) 3 rfl rfl rfl ?_);simp -implicitDefEqProofs (maxSteps:=2000000) [hP,hN,g1,g2,g3,g4,g5,d,l,o,b5,u,z])|((first|refine Wd ?_|refine Ss.h ?_|(refine Sb.h ?_ ?_ ?_<;>(try intro hgd)<;>try exact Xy))<;>simp -implicitDefEqProofs (maxSteps:=2000000) [hP,hN,g1,g2,g3,g4,g5,d,l,o,b5,u,z]<;>try refine Yc ?_)|refine X2 ?_ ?_|(refine Xd ?_ ?_<;>intro hcd<;>try exact Xx))
  refine⟨36,[nu S,zs p,zs q],_,rfl,cb,by simp[St.ev,mW,g1,g2,o,bc,b9],by rw[hP];exact cN,rfl,by simp[dr,hN],?_⟩;simp -implicitDefEqProofs (maxSteps:=2000000) [hP,hN,g1,g2,g3,g4,g5,d,l,o]
  with_reducible repeat' (first|refine Sp.h ?_|((with_unfolding_all refine WP.takeAt (hn:=[]) (f:=.func 37) 3 rfl rfl rfl ?_);simp -implicitDefEqProofs [hP,hN,e3,bq,e4,ct,ca,b1,b2,cQ,D,E,g1,g2,g3,g4,g5,d,l,o,b5,u,z])|((first|refine Wd ?_|refine Ss.h ?_|(refine Sb.h ?_ ?_ ?_<;>(try intro hgd)<;>try exact Xy))<;>simp -implicitDefEqProofs [hP,hN,e3,bq,e4,ct,ca,b1,b2,cQ,D,E,g1,g2,g3,g4,g5,d,l,o,b5,u,z]<;>try refine Yc ?_)|refine X2 ?_ ?_|(refine Xd ?_ ?_<;>intro hcd<;>try exact Xx))
  refine G0 (s':=bN S k NX.2.1) (r:=.pv (.sl [Z S.cells.length,Z ((S.cells.length:Int)+1)])) (args:=[.ptr 290 0,.pv (Z k),.pv (Z NX.2.1)]) rfl (by simp[St.ev]) rfl F (by omega) (by rw[hP];exact cW) (by simp[dr,hN]) ?_;intro h' c' hh ho;have c5:=ho 5 rfl;have K:=ho 10 rfl;have L:=ho 11 rfl;simp only[b5,u,z,UL,i9,U7,WB]at c5 K L;have ba:h' 5=some (.box [.pv (.sl (sc.js.map bR)),.pv (.sl (sc.ms.map dC)),.pv (.sl (sc.shs.map dc)),.pv (.sl (sc.sks.map aP))] true false):=c5;have N:h' 10=some (.box [.pv G,.pv J] true false):=K;have O:h' 11=some (.box [.pv I] true false):=L;simp -implicitDefEqProofs (maxSteps:=2000000) [hP,hN,gn,nc,iG,tC,lw,inK,g1,g2,g3,g4,g5,d,l,o,ba,N,O];have ee:qc sc p q w cells m (l7 sc w S k NX.2.1)=some R:=A;refine WP.of_st (P:=λst=>st.t 1=.pv (zs p)/\st.t 2=.pv (zs q)/\st.t 3=.pv (Z w)/\st.t 4=.pv (Z cells)/\st.t 5=.ptr 5 0/\st.t 10=.ptr 10 0/\st.t 11=.ptr 11 0/\st.t 14=.ptr 290 0/\st.t 18=.pv (aV (aj S k).v.nor)/\st.t 122=.pv (.sl [Z S.cells.length,Z ((S.cells.length:Int)+1)])/\st.t 123=.pv (Z 2)/\st.t 124=.pv (Z 0)/\st.h 5=some (.box [.pv (.sl (sc.js.map bR)),.pv (.sl (sc.ms.map dC)),.pv (.sl (sc.shs.map dc)),.pv (.sl (sc.sks.map aP))] true false)/\(∃x y,st.h 10=some (.box [.pv x,.pv y] true false))/\(∃x,st.h 11=some (.box [.pv x] true false))/\∀k2,inK k2=true->st.h k2=bt true (bN S k NX.2.1) c' k2) ⟨?_,?_⟩
  .simp[gn,nc,iG,tC,lw,inK,g1,g2,g3,g4,g5,d,l,o,ba,N,O]
   exact λk2 a b=>hh k2 (by simp[inK,a,b])
  clear hh ho c5 K L ba N O h' F b5 u z g1 g2 g3 g4 g5 d l o G J I bc cb b9 D E W cN cW st;rintro st ⟨g1,g2,g3,g4,g5,d,l,o,bs,Q,Y,ad,b5,⟨G,J,u⟩,⟨I,z⟩,F⟩;obtain⟨H,hH⟩:∃H,H=(aj S k).v.nor:=⟨_,rfl⟩
  have U:qc sc p q w cells m (qm sc w H (bN S k NX.2.1) S.cells.length 2)=some R:=by rw[hH];exact ee
  have cm:A6 (qm sc w H (bN S k NX.2.1) S.cells.length 2)=true:=by
   cases m with
   |zero=>cases U
   |succ m=>
    simp only[qc]at U;by_cases h:A6 (qm sc w H (bN S k NX.2.1) S.cells.length 2)=true
    .exact h
    .rw[TZ h]at U;cases U
  have er:H.length<=4096:=by rw[hH];exact a7 _ (Is b1)
  obtain⟨p1,p2,p3,p4,p5⟩:=yg sc w H (bN S k NX.2.1) S.cells.length 2;obtain⟨o1,o2,o3,o4,o5,o6,_⟩:=sq cm;rw[p2]at o6;rw[<-hH]at bs;clear p1 p2 p3 p4 p5 o1 o2 o3 o4 o5 ee A ar cm X;generalize bN S k NX.2.1=S0 at *;obtain⟨n,b3⟩:∃n,n=S.cells.length:=⟨_,rfl⟩;rw[a3,<-b3]at q1;rw[a2,<-b3]at q2;rw[<-b3]at q3 Q U;rw[a4,<-b3]at q4;have e2:i64.wrap ((n:Int)+1)=(n:Int)+1:=aa;refine GH Q ?_;refine WP.loopN [] 2 (λj st=>st.t 1=.pv (zs p)/\st.t 2=.pv (zs q)/\st.t 3=.pv (Z w)/\st.t 4=.pv (Z cells)/\st.t 5=.ptr 5 0/\st.t 10=.ptr 10 0/\st.t 11=.ptr 11 0/\st.t 14=.ptr 290 0/\st.t 18=.pv (aV H)/\st.t 122=.pv (.sl [Z n,Z ((n:Int)+1)])/\st.t 123=.pv (Z 2)/\st.t 124=.pv (Z j)/\st.h 5=some (.box [.pv (.sl (sc.js.map bR)),.pv (.sl (sc.ms.map dC)),.pv (.sl (sc.shs.map dc)),.pv (.sl (sc.sks.map aP))] true false)/\(∃x y,st.h 10=some (.box [.pv x,.pv y] true false))/\(∃x,st.h 11=some (.box [.pv x] true false))/\∀k2,inK k2=true->st.h k2=bt true (qm sc w H S0 n j) c' k2) ?_ ?_
  .refine⟨by simp[St.kill,aB,bB,aL,g1],by simp[St.kill,aB,bB,aL,g2],by simp[St.kill,aB,bB,aL,g3],by simp[St.kill,aB,bB,aL,g4],by simp[St.kill,aB,bB,aL,g5],by simp[St.kill,aB,bB,aL,d],by simp[St.kill,aB,bB,aL,l],by simp[St.kill,aB,bB,aL,o],by simp[St.kill,aB,bB,aL,bs],by simp[St.kill,aB,bB,aL,Q],by simp[St.kill,aB,bB,aL,Y],by simp[St.kill,aB,bB,aL,ad],by simp[St.kill,aB,bT,bB,aL,b5],⟨G,J,by simp[St.kill,aB,bT,bB,aL,u]⟩,⟨I,by simp[St.kill,aB,bT,bB,aL,z]⟩,λk2 cH=>?_⟩
   show(st.h k2).map (bT [])=_;rw[F k2 cH,kG];rfl
  clear g1 g2 g3 g4 g5 d l o bs Q Y ad b5 u z G J I F st;rintro j st hj ⟨g1,g2,g3,g4,g5,d,l,o,bs,Q,Y,ad,b5,⟨G,J,u⟩,⟨I,z⟩,F⟩;obtain⟨p1,p2,p3,p4,p5⟩:=yg sc w H S0 n j;have cP:qm sc w H S0 n (j+1)=hC sc w H (qm sc w H S0 n j) (n+j):=rfl;by_cases ec:j<2
  .generalize qm sc w H S0 n j=T at *
   have D:=(F 290 rfl).trans (oG true T c');rw[sr (p5.trans q5),p2,p3,p4,p1,q1,q2,q3,q4]at D;have E:=(F 291 rfl).trans (rc true T c' (p5.trans q5));have W:=(F 292 rfl).trans (rd true T c');have bb:=(F 294 rfl).trans (tf true T c');obtain⟨M,cz⟩:∃M,M=n+j:=⟨_,rfl⟩
   have eN:M<n+2:=by omega
   have ck:([Z n,Z ((n:Int)+1)]:List PV)[j]?=some (Z (M:Int)):=by rcases(by omega:j=0\/j=1)with rfl|rfl<;>simp[cz]
   have cV:([Z n,Z ((n:Int)+1)]:List PV).length=2:=rfl;generalize([Z n,Z ((n:Int)+1)]:List PV)=L2 at *;have cx:∀h,L2[j]'h=Z (M:Int):=λh=>iD ck h;rw[<-cz]at cP
   have cj:M<T.cells.length:=by omega
   have ch:M<T.bx.length:=by rw[p2];omega
   have eb:M<T.jn.length:=by omega
   have c8:T.cells[M]?=some (aj T M):=by simp[aj,an cj]
   have c9:∀h,T.cells[M]'h=aj T M:=λh=>iD c8 h
   have cw:T.bx[M]?=some (aA T M):=by simp[aA,an ch]
   have c2:∀h,T.bx[M]'h=aA T M:=λh=>iD cw h;have eW:(aA T M).length<=16:=o6 _ (by rw[<-p2];exact Is cw);have cB:=OB sc (aA T M) H hs (by omega) (by omega);have cf:=Ox sc.js sc.ms (aA T M) w hs.js hs.ms (by omega);have eS:=am ec (by omega)
   have c7:T.cells.length=n+2:=by omega
   have c1:T.bx.length=n+2:=by rw[p2];omega
   have ea:T.jn.length=n+2:=by omega
   rw[cP];unfold hC;generalize bw sc (aA T M) H=V at *;generalize je sc.js sc.ms w (aA T M)=FJ at *;generalize aj T M=cv at *;generalize aA T M=bv at *;clear b1 b2 cP a6 a7 a8 a9 U o6 hH er ct hk e3 bq e4 cz b3
   with_reducible repeat' (first|refine Sp.h ?_|((first|refine Wd ?_|refine Ss.h ?_|refine Sc.h (cB) ?_|refine Sc.h (cf) ?_|(refine Sb.h ?_ ?_ ?_<;>(try intro hgd)<;>try exact Xy))<;>simp -implicitDefEqProofs [hP,hN,g1,g2,g3,g4,g5,d,l,o,bs,Q,Y,ad,b5,u,z,D,E,W,bb,ec,eN,ck,cx,cV,c8,c9,cw,c2,eS,cj,ch,eb,c7,c1,ea]<;>try refine Yc ?_)|refine X2 ?_ ?_|(refine Xd ?_ ?_<;>intro hcd<;>try exact Xx))
   intro k2 cH;by_cases u1:k2=294
   .subst u1
    rw[T6 rfl];refine Eq.trans ?_ (tf _ _ _).symm;simp only[UL,bT,Vv]
   .by_cases u2:k2=291
    .subst u2
     rw[TZ (by omega),T6 rfl];refine Eq.trans ?_ (rc true {T with cells:=T.cells.set M {cv with v:=aY V},jn:=T.jn.set M FJ} c' (p5.trans q5)).symm;simp only[UL,bT,Vv];rfl
    .rw[TZ u1,TZ u2,F k2 cH,kG]
     exact(G1 (p5.trans q5) (by simp) (by simp) u2 u1).symm
  .have et:j=2:=by omega
   subst et
   with_reducible repeat' (first|refine Sp.h ?_|((first|refine Wd ?_|refine Ss.h ?_|(refine Sb.h ?_ ?_ ?_<;>(try intro hgd)<;>try exact Xy))<;>simp -implicitDefEqProofs [hP,hN,g1,g2,g3,g4,g5,d,l,o,bs,Q,Y,ad,b5,u,z]<;>try refine Yc ?_)|refine X2 ?_ ?_|(refine Xd ?_ ?_<;>intro hcd<;>try exact Xx))
   exact⟨by omega,qm sc w H S0 n 2,(by rw[show f-(i+1)=m by omega];exact U),c',λk a b=>by rw[F k (by simp[inK,a,b]),kG]⟩
section
variable {n:Nat} {may has hasF:Nat->Bool} {tch:Nat->Nat->Bool}
inductive Pth(n:Nat)(may:Nat->Bool)(tch:Nat->Nat->Bool):Nat->Nat->Prop
 |nil {i:Nat}:i<n->may i=true->Pth n may tch i i
 |cons {i p j:Nat}:Pth n may tch p j->i<n->may i=true->tch i p=true->Pth n may tch i j
theorem Pth.ends(h:Pth n may tch i j):(i<n/\may i=true)/\j<n/\may j=true:=by
 induction h with
 |nil a b=>exact⟨⟨a,b⟩,a,b⟩
 |cons _ a b _ ih=>exact⟨⟨a,b⟩,ih.2⟩
theorem Pth.snoc{p:Nat}(h:Pth n may tch i p)(d:j<n)(e:may j=true)(c:tch p j=true):Pth n may tch i j:=by
 induction h with
 |nil a b=>exact .cons (.nil d e) a b c
 |cons _ a b t ih=>exact .cons (ih c) a b t
theorem EB{far:List Int}(h:FarOk n may has tch far):1<=au far i↔∃j,has j=true/\Pth n may tch i j:=by
 constructor
 .intro hi
  have key:∀(m:Nat)(i:Nat),au far i<=m->1<=au far i->∃j,has j=true/\Pth n may tch i j:=by
   intro m
   induction m with
   |zero=>intro i g d;omega
   |succ m ih=>
    intro i g d;obtain⟨hn,f⟩:=h.rng i d;rcases h.back i d with⟨_,l⟩|⟨p,hp,q,k,o⟩
    .exact⟨i,l,.nil hn f⟩
    .obtain⟨j,c,e⟩:=ih p (by omega) k
     exact⟨j,c,.cons e hn f o⟩
  exact key (au far i).toNat i (by omega) hi
 .rintro⟨j,c,hp⟩
  induction hp with
  |nil a b=>have:=h.start _ a b c;omega
  |cons _ a b t ih=>exact(h.clo _ _ (ih c) a b t).1
theorem JZ{far:List Int}:∀m,(0<=aS far hasF m↔∃i,i<m/\0<au far i/\hasF i=true)
 |0=>by simp[aS]
 |m+1=>by
  have ih:=JZ (far:=far) m;simp only[aS];split
  .rename_i a
   simp only[An,L4]at a;exact⟨λ_=>⟨m,by omega,a.1.1,a.1.2⟩,λ_=>by omega⟩
  .rename_i a
   rw[ih];constructor
   .rintro⟨i,f,b⟩;exact⟨i,by omega,b⟩
   .rintro⟨i,f,b,c⟩
    by_cases e:i=m
    .subst e
     by_cases d:0<=aS far hasF i
     .exact ih.1 d
     .exfalso;apply a;simp[b,c];omega
    .exact⟨i,by omega,b,c⟩
theorem CP:aX n may has hasF tch=true↔∃i j,hasF i=true/\has j=true/\Pth n may tch i j:=by
 have hF:=vH (n:=n) (may:=may) (has:=has) (tch:=tch);unfold aX lr;rw[L4,JZ];constructor
 .rintro⟨i,_,b,a⟩
  obtain⟨j,d,hp⟩:=(EB hF (i:=i)).1 (by omega);exact⟨i,j,a,d,hp⟩
 .rintro⟨i,j,c,b,a⟩
  have:=(EB hF).2 ⟨j,b,a⟩;exact⟨i,a.ends.1.1,by omega,c⟩
theorem Pth.map{g:Nat}(h:∀i,i<n->may i=true->∃c,img i c/\c<g/\may' c=true)(l:∀i j c d,i<n->j<n->c<g->d<g->img i c->img j d->tch i j=true->tch' c d=true)(hp:Pth n may tch i j):∃c d,img i c/\img j d/\Pth g may' tch' c d:=by
 induction hp with
 |nil a b=>
  obtain⟨c,e,k,f⟩:=h _ a b;exact⟨c,c,e,e,.nil k f⟩
 |cons hp a b t ih=>
  obtain⟨m,d,e,k,f⟩:=ih;obtain⟨c,g1,g2,g3⟩:=h _ a b;exact⟨c,d,g1,k,.cons f g2 g3 (l _ _ _ _ a hp.ends.1.1 g2 f.ends.1.1 g1 e t)⟩
theorem IH{g:Nat}{f e:Nat->Bool}(h:∀i,i<n->may i=true->∃d,img i d/\d<g/\may' d=true)(r:∀i j d k,i<n->j<n->d<g->k<g->img i d->img j k->tch i j=true->tch' d k=true)(h1:∀i d,i<n->d<g->img i d->has i=true->f d=true)(q:∀i d,i<n->d<g->img i d->hasF i=true->e d=true)(m:aX n may has hasF tch=true):aX g may' f e tch'=true:=by
 rw[CP]at m|-;obtain⟨i,j,a,b,c⟩:=m;obtain⟨d,k,o,p,l⟩:=c.map h r;exact⟨d,k,q _ _ c.ends.1.1 l.ends.1.1 o a,h1 _ _ c.ends.2.1 l.ends.2.1 p b,l⟩
end
structure SB(a b:Bx):Prop where
 len:a.length=b.length
 va:bi vI a=true
 vb:bi vI b=true
 sub:∀(i:Nat) x y,a[i]?=some x->b[i]?=some y->y.1<=x.1/\x.2<=y.2
theorem SB.refl{b:Bx}(h:bi vI b=true):SB b b:=⟨rfl,h,h,λi x y c a=>by rw[c]at a;injection a with a;subst a;omega⟩
theorem SB.trans{a b c:Bx}(h:SB a b)(h':SB b c):SB a c:=by
 refine⟨h.len.trans h'.len,h.va,h'.vb,λi x y d f=>?_⟩
 have hi:i<b.length:=by rw[<-h.len];exact(th.1 d).1
 have e:=an hi;have g:=h.sub i x _ d e;have j:=h'.sub i _ y e f;omega
theorem SB.has{a b:Bx}(h:SB a b)(hp:jU a p=true):jU b p=true:=by
 rw[AI h.va]at hp;rw[AI h.vb];refine⟨by rw[<-h.len];exact hp.1,λi x y c d=>?_⟩
 have hi:i<a.length:=by rw[h.len];exact(th.1 c).1
 have e:=an hi;have f:=h.sub i _ x e c;have g:=hp.2 i _ y e d;omega
theorem SB.touch{a b c g:Bx}(h:SB a b)(h':SB c g)(f:bn a c=true):bn b g=true:=by
 rw[nF h.va h'.va]at f;rw[nF h.vb h'.vb];refine⟨by rw[<-h.len,<-h'.len];exact f.1,λi x y k l=>?_⟩
 have hi:i<a.length:=by rw[h.len];exact(th.1 k).1
 have d:i<c.length:=by rw[h'.len];exact(th.1 l).1
 have e:=an hi;have j:=an d;have m:=h.sub i _ x e k;have n:=h'.sub i _ y j l;have o:=f.2 i _ _ e j;omega
theorem CQ{b:Bx}{j:Int}(h:bD b j=true):SB (aT b j) b/\SB (aU b j) b:=by
 obtain⟨x,d,n,l,g,k⟩:=yA h;obtain⟨v1,v2⟩:=sT h;have vb:=(lR.1 h).2.1;have f:=v8 h;have m:=(th.1 d).1;refine⟨⟨f.1,v1,vb,λi y z a c=>?_⟩,⟨f.2,v2,vb,λi y z a c=>?_⟩⟩
 .rw[g,T9]at a
  split at a
  .rename_i e;subst e
   injection a with a;subst a;rw[d]at c;injection c with c;subst c;exact⟨Ww _,by simp only;omega⟩
  .rw[c]at a;injection a with a;subst a;omega
 .rw[k,T9]at a
  split at a
  .rename_i e;subst e
   injection a with a;subst a;rw[d]at c;injection c with c;subst c;exact⟨by simp only;omega,Ww _⟩
  .rw[c]at a;injection a with a;subst a;omega
theorem ue{b:Bx}(h:fH js ms w b=true):bD b (dP js ms b)=true:=by
 unfold fH at h;simp only[An,L4]at h;rcases ua js ms b with e|⟨j,e,d,_,a,x,c,h5⟩
 .omega
 .rw[lR,e]
  exact⟨by omega,a,x,by simpa using c,h5⟩
def n9(sc:Sce):List Bool->Bx×Verd
 |[]=>(af sc.js sc.ms,aY (bw sc (af sc.js sc.ms) []))
 |c::π=>let b:=if c then aU (n9 sc π).1 (dP sc.js sc.ms (n9 sc π).1)else aT (n9 sc π).1 (dP sc.js sc.ms (n9 sc π).1);(b,aY (bw sc b (n9 sc π).2.nor))
structure Grw(sc:Sce)(w:Int)(s:Spc)(P:Nat->List Bool)(I:List (List Bool)):Prop where
 leaf:∀i,i<s.cells.length->(aj s i).low=-1->aA s i=(n9 sc (P i)).1/\(aj s i).v=(n9 sc (P i)).2/\dy s i=je sc.js sc.ms w (aA s i)
 cov:∀π,(∃i,i<s.cells.length/\(aj s i).low=-1/\P i <:+ π)\/π∈I
 anc:∀i,i<s.cells.length->(aj s i).low=-1->∀π,π <:+ P i->π=P i\/π∈I
 opn:∀π∈I,(n9 sc π).2.kind=0/\fH sc.js sc.ms w (n9 sc π).1=true
theorem Grw.sb{I:List (List Bool)}(h:Grw sc w s P I)(k:bi vI (af sc.js sc.ms)=true)(hi:i<s.cells.length)(j:(aj s i).low=-1)(hs:π <:+ P i):SB (n9 sc (P i)).1 (n9 sc π).1:=by
 have key:∀(ρ:List Bool) π,(∀σ,σ <:+ ρ->σ=ρ\/σ∈I)->π <:+ ρ->SB (n9 sc ρ).1 (n9 sc π).1:=by
  intro ρ
  induction ρ with
  |nil=>
   intro π _ hp
   have:π=[]:=by simpa using hp
   subst this;exact SB.refl k
  |cons c ρ ih=>
   intro π d hp
   have l:ρ∈I:=by
    rcases d ρ (List.suffix_cons c ρ)with e|e
    .have:=Vt List.length e;simp at this
    .exact e
   have f:=CQ (ue (h.opn ρ l).2);have m:=ih
   have a:∀σ,σ <:+ ρ->σ=ρ\/σ∈I:=λσ g=>by
    rcases d σ (g.trans (List.suffix_cons c ρ))with e|e
    .subst e;have:=g.length_le;simp at this;omega
    .exact .inr e
   have b:SB (n9 sc (c::ρ)).1 (n9 sc ρ).1:=by
    simp only[n9];cases c
    .exact f.1
    .exact f.2
   rcases List.suffix_cons_iff.1 hp with e|e
   .subst e;exact SB.refl b.va
   .exact b.trans (ih π a e)
 exact key _ _ (h.anc i hi j) hs
theorem m7{a b:Bx}(e:bi vI a=true)(f:bi vI b=true):bn a b=bn b a:=by
 rw[Bool.eq_iff_iff,nF e f,nF f e];exact⟨λh=>⟨h.1.symm,λi x y c d=>(h.2 i y x d c).symm⟩,λh=>⟨h.1.symm,λi x y c d=>(h.2 i y x d c).symm⟩⟩
theorem He:∀(n:Nat)(l:List Nat),l.Nodup->(∀x∈l,x<n)->l.length<=n
 |0,l,_,h=>by
  cases l with
  |nil=>exact T8 _
  |cons a l=>exact absurd (h a (by simp)) (by omega)
 |n+1,l,hd,h=>by
  have:=He n (l.erase n) (hd.erase n) λx c=>by
   have b:=(hd.mem_erase_iff.1 c);have d:=h x b.2;omega
  rw[List.length_erase]at this;split at this<;>omega
structure NrOk(s:Spc):Prop where
 bl:s.bx.length=s.cells.length
 nl:s.near.length=s.cells.length
 jl:s.jn.length=s.cells.length
 cc:s.cc=false
 vi:∀b∈s.bx,bi vI b=true/\b.length<=16
 nd:∀p,(ab s p).Nodup
 mem:∀p k,k∈ab s p↔(k<s.cells.length/\(aj s k).low=-1)/\(p<s.cells.length/\(aj s p).low=-1)/\k≠p/\bn (aA s k) (aA s p)=true
theorem NrOk.at(h:NrOk s)(hi:i<s.cells.length):s.bx[i]?=some (aA s i)/\bi vI (aA s i)=true:=by
 have:i<s.bx.length:=by rw[h.bl];exact hi
 have e:s.bx[i]?=some (aA s i):=by simp[aA,an this]
 exact⟨e,(h.vi _ (Is e)).1⟩
theorem NrOk.sy(h:NrOk s){p:Nat}(hi:i<s.cells.length)(hp:p<s.cells.length):bn (aA s i) (aA s p)=bn (aA s p) (aA s i):=m7 (h.at hi).2 (h.at hp).2
theorem NrOk.ok(h:NrOk s)(hn:s.cells.length<=2040)(n:∀c∈s.cells,c.v.nor.length<=4096):A6 s=true:=by
 simp only[A6,An,L4,UP,TY,UE];refine⟨⟨⟨⟨⟨⟨⟨⟨hn,h.bl⟩,h.nl⟩,h.jl⟩,h.cc⟩,λb l=>(h.vi b l).2⟩,n⟩,λp _=>?_⟩,λi hi p hp=>?_⟩
 .simp only[BH,An,L4,TY]
  refine⟨⟨?_,h.nd p⟩,λk m=>?_⟩
  .have:=He _ _ (h.nd p) λx o=>((h.mem p x).1 o).1.1
   omega
  .obtain⟨a,b,c,d⟩:=(h.mem p k).1 m
   refine⟨⟨⟨a.1,c⟩,a.2⟩,(h.mem k p).2 ⟨b,a,λe=>c e.symm,?_⟩⟩;rw[h.sy b.1 a.1];exact d
 .have e:∀a b,de s.bx a b=bn (aA s a) (aA s b):=λ_ _=>rfl
  simp only[zz,An,UP,e];refine⟨h.sy hi hp,?_⟩;by_cases f:(aj s i).low=-1
  .by_cases g:(aj s p).low=-1
   .by_cases j:i=p
    .simp[j]
    .have:=h.mem p i
     simp only[hi,hp,f,g,true_and,ne_eq,j,WK]at this;simp[f,g,j,this]
   .simp[g]
  .simp[f]
theorem Al{low v:Nat}(g:low+1<s.near.length)(f:k<low):ab (dl low leaf s k) v=
 if v=k then(ab s k).erase leaf++(if bn (aA s low) (aA s k)then[low]else[])++(if bn (aA s (low+1)) (aA s k)then[low+1]else[])
 else if v=low then ab s low++(if bn (aA s low) (aA s k)then[k]else[])
 else if v=low+1 then ab s (low+1)++(if bn (aA s (low+1)) (aA s k)then[k]else[])
 else ab s v:=by
 obtain⟨b1,b2,_⟩:=gM (gQ s k leaf) low k
 have hd:(gQ s k leaf).near.length=s.near.length:=by simp[gQ]
 have d:∀i,aA (gQ s k leaf) i=aA s i:=λ_=>rfl
 have a:∀i,aA (fG (gQ s k leaf) low k) i=aA s i:=λi=>by unfold aA;rw[b2];rfl
 unfold dl;rw[kw (by omega) (by omega) (by omega),a,a,kw (by omega) (by omega) (by omega),d,d,t8 (by omega)];by_cases e:v=k
 .subst e
  simp only[Ui,or_true,WM,show¬v=low+1 by omega,show¬v=low by omega,Ud];cases bn (aA s low) (aA s v)<;>cases bn (aA s (low+1)) (aA s v)<;>simp
 .by_cases b:v=low
  .subst b
   simp only[e,UV,Ud,Ui,WM,show¬v=v+1 by omega,and_false];cases bn (aA s v) (aA s k)<;>simp
  .by_cases c:v=low+1
   .subst c
    simp only[e,UV,Ud,Ui,WM,b,and_false];cases bn (aA s (low+1)) (aA s k)<;>simp
   .simp[e,b,c]
theorem EC{low leaf:Nat}:∀(l:List Nat)(s:Spc),l.Nodup->(∀k∈l,k<low)->low+1<s.near.length->∀v,ab (l.foldl (dl low leaf) s) v=
 if v∈l then(ab s v).erase leaf++(if bn (aA s low) (aA s v)then[low]else[])++(if bn (aA s (low+1)) (aA s v)then[low+1]else[])
 else if v=low then ab s low++l.filter λk=>bn (aA s low) (aA s k)
 else if v=low+1 then ab s (low+1)++l.filter λk=>bn (aA s (low+1)) (aA s k)
 else ab s v
 |[],s,_,_,_,v=>by
  simp only[List.foldl_nil,Uw,Ud,List.filter_nil,V7];split
  .rename_i e;rw[e]
  .split
   .rename_i e;rw[e]
   .rfl
 |a::l,s,hd,f,hn,v=>by
  obtain⟨c,d⟩:=Wx.1 hd;have b:=f a (by simp);obtain⟨n,j,_⟩:=ss low leaf s a
  have m:∀i,aA (dl low leaf s a) i=aA s i:=λi=>by unfold aA;rw[j]
  have ih:=EC (low:=low) (leaf:=leaf) l (dl low leaf s a) d (λk h=>f k (by simp[h])) (by omega) v;simp only[m]at ih;rw[Vr,ih,Al hn b,Al hn b,Al hn b];by_cases e:v=a
  .subst e
   simp only[c,Ud,Ui,Uq,true_or,show¬v=low by omega,show¬v=low+1 by omega]
  .by_cases g:v∈l
   .have:=f v (by simp[g])
    simp only[g,Ui,e,Ud,Uq,or_true,show¬v=low by omega,show¬v=low+1 by omega]
   .simp only[g,e,Ud,Uq,or_self,show¬low=a by omega,Ui,show¬low+1=a by omega,show¬low+1=low by omega,List.filter_cons]
    split
    .split<;>simp
    .split
     .split<;>simp
     .rfl
theorem oK(s:Spc)(leaf:Nat)(joint:Int):(bN s leaf joint).bx=(dE s leaf joint).bx/\(bN s leaf joint).cells=(dE s leaf joint).cells/\(bN s leaf joint).jn=(dE s leaf joint).jn:=by
 have fold:∀(l:List Nat)(x:Spc),(l.foldl (dl s.cells.length leaf) x).bx=x.bx/\(l.foldl (dl s.cells.length leaf) x).cells=x.cells/\(l.foldl (dl s.cells.length leaf) x).jn=x.jn:=by
  intro l
  induction l with
  |nil=>intro x;exact⟨rfl,rfl,rfl⟩
  |cons a l ih=>
   intro x;obtain⟨b1,b2,b3⟩:=ih (dl s.cells.length leaf x a);obtain⟨_,b,c,d,_⟩:=ss s.cells.length leaf x a;exact⟨b1.trans b,b2.trans c,b3.trans d⟩
 unfold bN;obtain⟨_,b,c,d,_⟩:=gM ((ab s leaf).foldl (dl s.cells.length leaf) (dE s leaf joint)) s.cells.length (s.cells.length+1);obtain⟨f1,f2,f3⟩:=fold (ab s leaf) (dE s leaf joint);exact⟨b.trans f1,c.trans f2,d.trans f3⟩
theorem zD(h:NrOk s)(a:leaf<s.cells.length)(i:Nat):aj (bN s leaf joint) i=(if i=leaf then⟨joint,s.cells.length,s.cells.length+1,br⟩else if i<s.cells.length then aj s i else aD br):=by
 unfold aj;rw[(oK s leaf joint).2.1];unfold dE;simp only;by_cases e:i=leaf
 .subst e
  rw[T1 (by simpa using a),List.getElem?_set_self a,T6 rfl];rfl
 .rw[TZ e]
  by_cases hi:i<s.cells.length
  .rw[T1 (by simpa using hi),List.getElem?_set_ne (λx=>e x.symm),T6 hi]
  .rw[TZ hi,T5 (by simpa using(by omega:s.cells.length<=i))]
   simp only[Vo]
   match i-s.cells.length with
   |0=>rfl
   |1=>rfl
   |m+2=>simp
theorem vJ(h:NrOk s)(leaf:Nat)(joint:Int)(i:Nat):aA (bN s leaf joint) i=(if i<s.cells.length then aA s i else if i=s.cells.length then aT (aA s leaf) joint else if i=s.cells.length+1 then aU (aA s leaf) joint else[]):=by
 unfold aA;rw[(oK s leaf joint).1];unfold dE;simp only;by_cases hi:i<s.cells.length
 .rw[T1 (by rw[h.bl];exact hi),T6 hi]
 .rw[TZ hi,T5 (by rw[h.bl];omega),h.bl]
  by_cases a:i=s.cells.length
  .subst a;simp[aA]
  .by_cases b:i=s.cells.length+1
   .subst b;simp[aA]
   .rw[TZ a,TZ b,Ua (by simp;omega)];rfl
theorem FE(h:NrOk s)(S:leaf<s.cells.length)(hf:(aj s leaf).low=-1)(v:Nat):(∀k,k∈ab (bN s leaf joint) v↔
 ((v∈ab s leaf/\((k∈ab s v/\k≠leaf)\/(k=s.cells.length/\bn (aT (aA s leaf) joint) (aA s v)=true)\/(k=s.cells.length+1/\bn (aU (aA s leaf) joint) (aA s v)=true)))\/
  (v∉ab s leaf/\v≠leaf/\v<s.cells.length/\k∈ab s v)\/
  (v=s.cells.length/\((k∈ab s leaf/\bn (aT (aA s leaf) joint) (aA s k)=true)\/(k=s.cells.length+1/\bn (aT (aA s leaf) joint) (aU (aA s leaf) joint)=true)))\/
  (v=s.cells.length+1/\((k∈ab s leaf/\bn (aU (aA s leaf) joint) (aA s k)=true)\/(k=s.cells.length/\bn (aT (aA s leaf) joint) (aU (aA s leaf) joint)=true)))))/\(ab (bN s leaf joint) v).Nodup:=by
 have E:=vJ h leaf joint
 have c:∀x∈ab s leaf,x<s.cells.length/\x≠leaf:=λx J=>by have:=(h.mem leaf x).1 J;exact⟨this.1.1,this.2.2.1⟩
 have z:(dE s leaf joint).near.length=s.cells.length+2:=by simp[dE,h.nl]
 have J:∀i,aA (dE s leaf joint) i=aA (bN s leaf joint) i:=λi=>by unfold aA;rw[(oK s leaf joint).1]
 have p:=EC (low:=s.cells.length) (leaf:=leaf) (ab s leaf) (dE s leaf joint) (h.nd leaf) (λk F=>(c k F).1) (by omega)
 have q:∀v,ab (dE s leaf joint) v=if v=leaf then[]else ab s v:=λv=>oJ (by rw[h.nl];exact S)
 have j:∀v,s.cells.length<=v->ab s v=[]:=λv l=>by
  apply List.eq_nil_iff_forall_not_mem.2;intro x K;have:=((h.mem v x).1 K).2.1.1;omega
 have n:ab (bN s leaf joint) v=_:=kw (s:=(ab s leaf).foldl (dl s.cells.length leaf) (dE s leaf joint)) (a:=s.cells.length) (b:=s.cells.length+1) (v:=v) (by omega) (by
  have:((ab s leaf).foldl (dl s.cells.length leaf) (dE s leaf joint)).near.length=(dE s leaf joint).near.length:=by
   have:=(gM ((ab s leaf).foldl (dl s.cells.length leaf) (dE s leaf joint)) s.cells.length (s.cells.length+1)).1;have m:=(l8 s leaf joint).1;unfold bN at m;rw[this]at m;rw[m,z,h.nl]
  omega) (by
  have:=(gM ((ab s leaf).foldl (dl s.cells.length leaf) (dE s leaf joint)) s.cells.length (s.cells.length+1)).1;have m:=(l8 s leaf joint).1;unfold bN at m
  rw[this]at m;rw[m,h.nl];omega)
 have y:∀i,aA ((ab s leaf).foldl (dl s.cells.length leaf) (dE s leaf joint)) i=aA (bN s leaf joint) i:=λi=>by
  have:=(gM ((ab s leaf).foldl (dl s.cells.length leaf) (dE s leaf joint)) s.cells.length (s.cells.length+1)).2.1;unfold aA bN;rw[this]
 have M:aA (bN s leaf joint) s.cells.length=aT (aA s leaf) joint:=by rw[E,TZ (by omega),T6 rfl]
 have O:aA (bN s leaf joint) (s.cells.length+1)=aU (aA s leaf) joint:=by rw[E,TZ (by omega),TZ (by omega),T6 rfl]
 have N:∀i,i<s.cells.length->aA (bN s leaf joint) i=aA s i:=λi hi=>by rw[E,T6 hi]
 have u:∀(X:Bx),(ab s leaf).filter (λk=>bn X (aA (bN s leaf joint) k))=(ab s leaf).filter λk=>bn X (aA s k):=λX=>List.filter_congr λk F=>by rw[N k (c k F).1]
 have o:=p v;simp only[J]at o;rw[M,O,u,u,q,q,q,TZ (show¬s.cells.length=leaf by omega),TZ (show¬s.cells.length+1=leaf by omega),j s.cells.length (by omega),j (s.cells.length+1) (by omega)]at o;rw[y,y,M,O,o]at n;have I:leaf∉ab s leaf:=λd=>(c leaf d).2 rfl
 have H:s.cells.length∉ab s leaf:=λd=>by have:=(c _ d).1;omega
 have A:s.cells.length+1∉ab s leaf:=λd=>by have:=(c _ d).1;omega
 by_cases l:v∈ab s leaf
 .obtain⟨v1,v2⟩:=c v l
  rw[T6 l,TZ v2,TZ (by omega),N v v1]at n
  have P:s.cells.length∉ab s v:=λd=>by have:=((h.mem v _).1 d).1.1;omega
  have m:s.cells.length+1∉ab s v:=λd=>by have:=((h.mem v _).1 d).1.1;omega
  have Q:s.cells.length∉(ab s v).erase leaf:=λd=>P (List.mem_of_mem_erase d);have R:s.cells.length+1∉(ab s v).erase leaf:=λd=>m (List.mem_of_mem_erase d);have G:=(h.nd v).erase leaf;have d:=λk=>(h.nd v).mem_erase_iff (a:=k) (b:=leaf);rw[n];refine⟨λk=>?_,?_⟩
  .simp only[l,true_and,Vs,false_and,false_or,show¬v=s.cells.length by omega,show¬v=s.cells.length+1 by omega,UV,Uf,d]
   cases bn (aT (aA s leaf) joint) (aA s v)<;>cases bn (aU (aA s leaf) joint) (aA s v)<;>simp[and_comm,or_assoc]
  .generalize(ab s v).erase leaf=L at *
   cases bn (aT (aA s leaf) joint) (aA s v)<;>cases bn (aU (aA s leaf) joint) (aA s v)<;>simp[VO,G,Q,R]<;>(intro a C;first|(rintro rfl;contradiction)|(constructor<;>(rintro rfl;contradiction)))
 .rw[TZ l]at n
  by_cases r:v=s.cells.length
  .subst r
   rw[n];simp only[Ui,List.nil_append,true_or,WM,l,false_and,WK,true_and,false_or,show¬s.cells.length<s.cells.length by omega,and_false,show¬s.cells.length=s.cells.length+1 by omega,UV];have g:=(h.nd leaf).filter (λk=>bn (aT (aA s leaf) joint) (aA s k));refine⟨λk=>?_,?_⟩
   .cases bn (aT (aA s leaf) joint) (aU (aA s leaf) joint)<;>simp
   .split
    .rw[VO]
     refine⟨g,by simp,λa C b f=>?_⟩;simp at f;subst f;rintro rfl;exact A (U1.1 C).1
    .exact g
  .by_cases e:v=s.cells.length+1
   .subst e
    rw[n];simp only[Ui,List.nil_append,or_true,WM,l,false_and,WK,true_and,false_or,show¬s.cells.length+1<s.cells.length by omega,and_false,show¬s.cells.length+1=s.cells.length by omega,Ud];have g:=(h.nd leaf).filter (λk=>bn (aU (aA s leaf) joint) (aA s k));refine⟨λk=>?_,?_⟩
    .cases bn (aT (aA s leaf) joint) (aU (aA s leaf) joint)<;>simp
    .split
     .rw[VO]
      refine⟨g,by simp,λa C b f=>?_⟩;simp at f;subst f;rintro rfl;exact H (U1.1 C).1
     .exact g
   .rw[TZ r,TZ e,TZ (by simp[r,e])]at n
    rw[n];by_cases D:v=leaf
    .subst D
     simp only[Ui,l,r,e,false_and,UV,Vs,and_false,ne_eq,Uw,List.nodup_nil,WM,implies_true]
    .rw[TZ D]
     by_cases B:v<s.cells.length
     .simp[l,D,B,r,e,h.nd v]
     .rw[j v (by omega)];simp[l,B,r,e]
theorem zE(h:NrOk s)(a:leaf<s.cells.length)(i:Nat):(aj (bN s leaf joint) i).low=-1↔i≠leaf/\(i<s.cells.length->(aj s i).low=-1):=by
 rw[zD h a];by_cases e:i=leaf
 .subst e;simp
 .rw[TZ e]
  by_cases hi:i<s.cells.length
  .simp[e,hi]
  .simp[e,hi,aD]
theorem NrOk.split(h:NrOk s)(z:leaf<s.cells.length)(hf:(aj s leaf).low=-1)(T:bD (aA s leaf) joint=true):NrOk (bN s leaf joint):=by
 obtain⟨U,V,J,W,X⟩:=l8 s leaf joint;obtain⟨r,u⟩:=CQ T;have K:=vJ h leaf joint
 have B:aA (bN s leaf joint) s.cells.length=aT (aA s leaf) joint:=by rw[K,TZ (by omega),T6 rfl]
 have C:aA (bN s leaf joint) (s.cells.length+1)=aU (aA s leaf) joint:=by rw[K,TZ (by omega),TZ (by omega),T6 rfl]
 have o:∀i,i<s.cells.length->aA (bN s leaf joint) i=aA s i:=λi hi=>by rw[K,T6 hi]
 have hL:=zE (joint:=joint) h z;have F:=λv=>FE (joint:=joint) h z hf v;refine⟨by rw[V,J,h.bl],by rw[U,J,h.nl],by rw[W,J,h.jl],X,?_,λp=>(F p).2,λp k=>?_⟩
 .rw[(oK s leaf joint).1]
  intro b D;simp only[dE,Uf,Uq,Uw,UV]at D;have E:=(h.vi _ (Is (h.at z).1)).2;rcases D with e|e|e
  .exact h.vi b e
  .subst e;exact⟨r.va,by rw[r.len];exact E⟩
  .subst e;exact⟨u.va,by rw[u.len];exact E⟩
 .rw[(F p).1 k,J,hL,hL]
  have f:=h.mem;have n:∀x,x<s.cells.length->(aj s x).low=-1->x≠leaf->bn (aA s leaf) (aA s x)=true->x∈ab s leaf:=λx a b c d=>(f leaf x).2 ⟨⟨a,b⟩,⟨z,hf⟩,c,by rw[h.sy a z];exact d⟩
  have g:∀x∈ab s leaf,x<s.cells.length/\(aj s x).low=-1/\x≠leaf:=λx L=>by have:=(f leaf x).1 L;exact⟨this.1.1,this.1.2,this.2.2.1⟩
  have vi:∀{x},x<s.cells.length->bi vI (aA s x)=true:=λL=>(h.at L).2;by_cases m:p<s.cells.length
  .have R:¬p=s.cells.length:=by omega
   have I:¬p=s.cells.length+1:=by omega
   have S:(p∈ab s leaf)↔(p<s.cells.length/\(aj s p).low=-1)/\p≠leaf/\bn (aA s p) (aA s leaf)=true:=by rw[f leaf p];simp[z,hf]
   by_cases A:p=leaf
   .subst A
    have:=g p;constructor
    .rintro(⟨a,_⟩|⟨_,a,_⟩|⟨a,_⟩|⟨a,_⟩)
     .exact absurd rfl (this a).2.2
     .exact absurd rfl a
     .exact absurd a R
     .exact absurd a I
    .rintro⟨_,⟨_,a,_⟩,_⟩
     exact absurd rfl a
   .constructor
    .rintro(⟨a,b⟩|⟨a,_,_,b⟩|⟨a,_⟩|⟨a,_⟩)
     .have hp:=g p a
      refine⟨?_,⟨by omega,hp.2.2,λ_=>hp.2.1⟩,?_⟩
      .rcases b with⟨b,c⟩|⟨rfl,_⟩|⟨rfl,_⟩
       .have:=(f p k).1 b
        exact⟨by omega,c,λ_=>this.1.2⟩
       all_goals exact⟨by omega,by omega,by omega⟩
      .rw[o p m]
       rcases b with⟨b,c⟩|⟨rfl,c⟩|⟨rfl,c⟩
       .have:=(f p k).1 b
        rw[o k this.1.1];exact this.2.2
       .rw[B];exact⟨by omega,c⟩
       .rw[C];exact⟨by omega,c⟩
     .have:=(f p k).1 b
      refine⟨⟨by omega,?_,λ_=>this.1.2⟩,⟨by omega,A,λ_=>this.2.1.2⟩,this.2.2.1,by rw[o p m,o k this.1.1];exact this.2.2.2⟩;rintro rfl;exact a (n p m this.2.1.2 A this.2.2.2)
     .exact absurd a R
     .exact absurd a I
    .rintro⟨⟨Q,G,H⟩,⟨_,_,Y⟩,M,j⟩
     rw[o p m]at j;have y:=Y m;by_cases l:k<s.cells.length
     .rw[o k l]at j
      have P:k∈ab s p:=(f p k).2 ⟨⟨l,H l⟩,⟨m,y⟩,M,j⟩;by_cases a:p∈ab s leaf
      .exact .inl ⟨a,.inl ⟨P,G⟩⟩
      .exact .inr (.inl ⟨a,A,m,P⟩)
     .by_cases e:k=s.cells.length
      .rw[e,B]at j
       exact .inl ⟨n p m y A (r.touch (.refl (vi m)) j),.inr (.inl ⟨e,j⟩)⟩
      .have q:k=s.cells.length+1:=by omega
       rw[q,C]at j;exact .inl ⟨n p m y A (u.touch (.refl (vi m)) j),.inr (.inr ⟨q,j⟩)⟩
  .have N:p∉ab s leaf:=λa=>m (g p a).1
   by_cases e:p=s.cells.length
   .subst e
    rw[B];constructor
    .rintro(⟨a,_⟩|⟨_,_,a,_⟩|⟨_,b⟩|⟨a,_⟩)
     .exact absurd a N
     .exact absurd a m
     .refine⟨?_,⟨by omega,by omega,by omega⟩,?_⟩
      .rcases b with⟨b,_⟩|⟨rfl,_⟩
       .have:=g k b
        exact⟨by omega,this.2.2,λ_=>this.2.1⟩
       .exact⟨by omega,by omega,by omega⟩
      .rcases b with⟨b,c⟩|⟨rfl,c⟩
       .have:=(g k b).1
        rw[o k this,m7 (vi this) r.va];exact⟨by omega,c⟩
       .rw[C,m7 u.va r.va]
        exact⟨by omega,c⟩
     .omega
    .rintro⟨⟨Q,G,H⟩,_,M,j⟩
     refine .inr (.inr (.inl ⟨rfl,?_⟩));by_cases l:k<s.cells.length
     .rw[o k l,m7 (vi l) r.va]at j
      exact .inl ⟨n k l (H l) G (r.touch (.refl (vi l)) j),j⟩
     .have q:k=s.cells.length+1:=by omega
      rw[q,C,m7 u.va r.va]at j;exact .inr ⟨q,j⟩
   .by_cases q:p=s.cells.length+1
    .subst q
     rw[C];constructor
     .rintro(⟨a,_⟩|⟨_,_,a,_⟩|⟨a,_⟩|⟨_,b⟩)
      .exact absurd a N
      .exact absurd a m
      .omega
      .refine⟨?_,⟨by omega,by omega,by omega⟩,?_⟩
       .rcases b with⟨b,_⟩|⟨rfl,_⟩
        .have:=g k b
         exact⟨by omega,this.2.2,λ_=>this.2.1⟩
        .exact⟨by omega,by omega,by omega⟩
       .rcases b with⟨b,c⟩|⟨rfl,c⟩
        .have:=(g k b).1
         rw[o k this,m7 (vi this) u.va];exact⟨by omega,c⟩
        .rw[B]
         exact⟨by omega,c⟩
     .rintro⟨⟨Q,G,H⟩,_,M,j⟩
      refine .inr (.inr (.inr ⟨rfl,?_⟩));by_cases l:k<s.cells.length
      .rw[o k l,m7 (vi l) u.va]at j
       exact .inl ⟨n k l (H l) G (u.touch (.refl (vi l)) j),j⟩
      .have O:k=s.cells.length:=by omega
       rw[O,B]at j;exact .inr ⟨O,j⟩
    .constructor
     .rintro(⟨a,_⟩|⟨_,_,a,_⟩|⟨a,_⟩|⟨a,_⟩)
      .exact absurd a N
      .exact absurd a m
      .exact absurd a e
      .exact absurd a q
     .rintro⟨_,⟨a,_⟩,_⟩
      omega
theorem ny(sc:Sce)(w:Int)(a:List Vc)(s:Spc)(h:Nat):(hC sc w a s h).cells.length=s.cells.length/\(∀i,(aj (hC sc w a s h) i).low=(aj s i).low)/\(∀i,aA (hC sc w a s h) i=aA s i)/\∀i,ab (hC sc w a s h) i=ab s i:=by
 refine⟨by simp[hC],λi=>?_,λ_=>rfl,λ_=>rfl⟩;unfold aj hC;simp only[T9];split
 .rename_i e
  subst e;split
  .rfl
  .rename_i b;rw[Ua (by omega)]
 .rfl
theorem NrOk.half(h:NrOk s)(sc:Sce)(w:Int)(a:List Vc)(k:Nat):NrOk (hC sc w a s k):=by
 obtain⟨a1,a2,a3,a4⟩:=ny sc w a s k;refine⟨by rw[a1];exact h.bl,by rw[a1];exact h.nl,by rw[a1];simp[hC,h.jl],h.cc,h.vi,h.nd,λp q=>?_⟩;simp only[a1,a2,a3,a4];exact h.mem p q
theorem vK(sc:Sce)(w:Int)(a:List Vc)(s:Spc){h:Nat}(b:h<s.cells.length)(i:Nat):aj (hC sc w a s h) i=if i=h then{aj s h with v:=aY (bw sc (aA s h) a)}else aj s i:=by
 unfold aj hC;simp only[T9];by_cases e:i=h
 .subst e;simp[b,aj]
 .simp[e,show¬h=i from λx=>e x.symm]
theorem ED(sc:Sce)(w:Int)(a:List Vc)(s:Spc){h:Nat}(b:h<s.jn.length)(i:Nat):dy (hC sc w a s h) i=if i=h then je sc.js sc.ms w (aA s h)else dy s i:=by
 unfold dy hC;simp only[T9];by_cases e:i=h
 .subst e;simp[b]
 .simp[e,show¬h=i from λx=>e x.symm]
theorem II{P:List Bool}(h:P <:+ π):π=P\/∃c,(c::P) <:+ π:=by
 obtain⟨t,rfl⟩:=h;rcases List.eq_nil_or_concat t with rfl|⟨t',c,rfl⟩
 .exact .inl rfl
 .exact .inr ⟨c,t',by simp⟩
theorem EE{b:Bx}(h:je js ms w b≠-1):fH js ms w b=true/\je js ms w b=dP js ms b:=by
 unfold je at h|-
 cases a:fH js ms w b with
 |true=>simp
 |false=>rw[a]at h;simp at h
section
variable {sc:Sce} {w:Int} {s:Spc}
theorem CR(leaf:Nat)(joint:Int):(l7 sc w s leaf joint).cells.length=s.cells.length+2:=by
 unfold l7;rw[(ny _ _ _ _ _).1,(ny _ _ _ _ _).1,(l8 s leaf joint).2.2.1]
theorem NrOk.more(h:NrOk s)(b:leaf<s.cells.length)(hf:(aj s leaf).low=-1)(a:bD (aA s leaf) joint=true):NrOk (l7 sc w s leaf joint):=((h.split b hf a).half _ _ _ _).half _ _ _ _
theorem Grw.step{s':Spc}{I:List (List Bool)}(g:Grw sc w s P I)(r:leaf<s.cells.length)(hf:(aj s leaf).low=-1)(y:(aj s leaf).v.kind=0)(z:fH sc.js sc.ms w (aA s leaf)=true)(hn:s'.cells.length=s.cells.length+2)(f:∀i,(aj s' i).low=-1↔i≠leaf/\(i<s.cells.length->(aj s i).low=-1))
 (o:∀i,i<s.cells.length->i≠leaf->aA s' i=aA s i/\(aj s' i).v=(aj s i).v/\dy s' i=dy s i)
 (u:aA s' s.cells.length=aT (aA s leaf) (dP sc.js sc.ms (aA s leaf))/\(aj s' s.cells.length).v=aY (bw sc (aT (aA s leaf) (dP sc.js sc.ms (aA s leaf))) (aj s leaf).v.nor)/\dy s' s.cells.length=je sc.js sc.ms w (aA s' s.cells.length))
 (x:aA s' (s.cells.length+1)=aU (aA s leaf) (dP sc.js sc.ms (aA s leaf))/\(aj s' (s.cells.length+1)).v=aY (bw sc (aU (aA s leaf) (dP sc.js sc.ms (aA s leaf))) (aj s leaf).v.nor)/\dy s' (s.cells.length+1)=je sc.js sc.ms w (aA s' (s.cells.length+1))):
 Grw sc w s' (λi=>if i=s.cells.length then false::P leaf else if i=s.cells.length+1 then true::P leaf else P i) (P leaf::I):=by
 obtain⟨g1,g2,g3⟩:=g.leaf leaf r hf;refine⟨λi hi j=>?_,λπ=>?_,λi hi j π l=>?_,λπ l=>?_⟩
 .rw[f]at j
  rw[hn]at hi;by_cases m:i=s.cells.length+1
  .subst m
   simp only[show¬s.cells.length+1=s.cells.length by omega,Ud,Ui,n9,<-g1,<-g2];exact x
  .by_cases q:i=s.cells.length
   .subst q
    simp only[Ui,n9,<-g1,<-g2];exact u
   .have k:i<s.cells.length:=by omega
    obtain⟨A,B,C⟩:=o i k j.1;rw[TZ q,TZ m,A,B,C];exact g.leaf i k (j.2 k)
 .rcases g.cov π with⟨i,a,b,c⟩|a
  .by_cases e:i=leaf
   .subst e
    rcases II c with e|⟨d,hd⟩
    .exact .inr (by simp[e])
    .cases d with
     |false=>exact .inl ⟨s.cells.length,by omega,(f _).2 ⟨by omega,by omega⟩,by simpa using hd⟩
     |true=>exact .inl ⟨s.cells.length+1,by omega,(f _).2 ⟨by omega,by omega⟩,by simpa using hd⟩
   .exact .inl ⟨i,by omega,(f _).2 ⟨e,λ_=>b⟩,by rw[TZ (by omega),TZ (by omega)];exact c⟩
  .exact .inr (by simp[a])
 .have p:∀π,π <:+ P leaf->π∈P leaf::I:=λπ hp=>by
   rcases g.anc leaf r hf π hp with e|e<;>simp[e]
  rw[f]at j;rw[hn]at hi;split at l
  .rcases List.suffix_cons_iff.1 l with e|e
   .rename_i n;left;rw[e,T6 n]
   .exact .inr (p π e)
  .split at l
   .rcases List.suffix_cons_iff.1 l with e|e
    .rename_i m n;left;rw[e,TZ m,T6 n]
    .exact .inr (p π e)
   .rename_i m n
    rw[TZ m,TZ n];rcases g.anc i (by omega) (j.2 (by omega)) π l with e|e
    .exact .inl e
    .exact .inr (by simp[e])
 .rcases Uq.1 l with e|e
  .subst e
   rw[<-g2,<-g1];exact⟨y,z⟩
  .exact g.opn π e
theorem Grw.more{I:List (List Bool)}(g:Grw sc w s P I)(h:NrOk s)(m:leaf<s.cells.length)(hf:(aj s leaf).low=-1)(x:(aj s leaf).v.kind=0)(u:dy s leaf≠-1):
 Grw sc w (l7 sc w s leaf (dy s leaf)) (λi=>if i=s.cells.length then false::P leaf else if i=s.cells.length+1 then true::P leaf else P i) (P leaf::I):=by
 obtain⟨g1,g2,g3⟩:=g.leaf leaf m hf;have j:=EE (w:=w) (js:=sc.js) (ms:=sc.ms) (b:=aA s leaf) (by rw[<-g3];exact u);rw[j.2]at g3;obtain⟨y,z,q,r,A⟩:=l8 s leaf (dy s leaf);have k:=CR (sc:=sc) (w:=w) (s:=s) leaf (dy s leaf);have c:=vJ h leaf (dy s leaf);have n:=zD (joint:=dy s leaf) h m;have d:∀i,aA (l7 sc w s leaf (dy s leaf)) i=aA (bN s leaf (dy s leaf)) i:=λ_=>rfl
 have a:∀i,aj (l7 sc w s leaf (dy s leaf)) i=if i=s.cells.length+1 then⟨-1,-1,-1,aY (bw sc (aU (aA s leaf) (dy s leaf)) (aj s leaf).v.nor)⟩else if i=s.cells.length then⟨-1,-1,-1,aY (bw sc (aT (aA s leaf) (dy s leaf)) (aj s leaf).v.nor)⟩else aj (bN s leaf (dy s leaf)) i:=by
  intro i;unfold l7;rw[vK _ _ _ _ (by rw[(ny _ _ _ _ _).1,q];omega),(ny _ _ _ _ _).2.2.1,vK _ _ _ _ (by rw[q];omega),vK _ _ _ _ (by rw[q];omega),c,c,n,n];simp only[show¬s.cells.length+1=leaf by omega,show¬s.cells.length=leaf by omega,show¬s.cells.length+1<s.cells.length by omega,show¬s.cells.length+1=s.cells.length by omega,Ud,Ui,Nat.lt_irrefl,aD]
 have f:∀i,dy (l7 sc w s leaf (dy s leaf)) i=if i=s.cells.length+1 then je sc.js sc.ms w (aU (aA s leaf) (dy s leaf))else if i=s.cells.length then je sc.js sc.ms w (aT (aA s leaf) (dy s leaf))else dy (bN s leaf (dy s leaf)) i:=by
  intro i;unfold l7;rw[ED _ _ _ _ (by simp[hC,r,h.jl]),(ny _ _ _ _ _).2.2.1,ED _ _ _ _ (by rw[r,h.jl];omega),c,c];simp only[show¬s.cells.length+1<s.cells.length by omega,show¬s.cells.length+1=s.cells.length by omega,Ud,Ui,Nat.lt_irrefl]
 have l:∀i,(aj (l7 sc w s leaf (dy s leaf)) i).low=-1↔i≠leaf/\(i<s.cells.length->(aj s i).low=-1):=by
  intro i;rw[a];split
  .rename_i e;simp[e];omega
  .split
   .rename_i e;simp[e];omega
   .exact zE h m i
 have o:∀i,i<s.cells.length->dy (bN s leaf (dy s leaf)) i=dy s i:=by
  intro i hi;unfold dy;rw[(oK s leaf _).2.2];simp only[dE];rw[T1 (by rw[h.jl];exact hi)]
 refine g.step m hf x j.1 k l (λi hi p=>?_) ?_ ?_
 .rw[d,a,f,c,T6 hi,TZ (by omega),TZ (by omega),TZ (by omega),TZ (by omega),n,TZ p,T6 hi,o i hi]
  exact⟨rfl,rfl,rfl⟩
 .rw[d,a,f,c,<-g3]
  simp
 .rw[d,a,f,c,<-g3]
  simp only[show¬s.cells.length+1<s.cells.length by omega,show¬s.cells.length+1=s.cells.length by omega,Ud,Ui];exact⟨by trivial,by trivial,by trivial⟩
theorem L5(h:NrOk s)(hn:(ey s p q).2.2=3):∃k:Nat,(ey s p q).1=(k:Int)/\k<s.cells.length/\(aj s k).low=-1/\(aj s k).v.kind=0/\dy s k≠-1/\(ey s p q).2.1=dy s k:=by
 have a:∀i j,i<s.cells.length->j<s.cells.length->de s.bx i j=de s.bx j i:=λi j hi g=>h.sy hi g
 have key:∀(f:Int->Int->Bool),(jI s (eI s.cells.length (bo s f) (aq s.bx q) (aq s.bx p) (de s.bx))).2.2=3->∃k:Nat,(jI s (eI s.cells.length (bo s f) (aq s.bx q) (aq s.bx p) (de s.bx))).1=(k:Int)/\k<s.cells.length/\(aj s k).low=-1/\(aj s k).v.kind=0/\dy s k≠-1/\(jI s (eI s.cells.length (bo s f) (aq s.bx q) (aq s.bx p) (de s.bx))).2.1=dy s k:=by
  intro f e;unfold jI at e|-;split at e
  .rename_i k m
   have n:=List.mem_of_find?_eq_some m;have hq:=VM m;simp only[uU,An,L4]at hq
   cases l:aX s.cells.length (bo s f) (aq s.bx q) (aq s.bx p) (de s.bx)with
   |false=>simp[eI,l]at n
   |true=>
    obtain⟨_,_,b3,_⟩:=uH a l;obtain⟨j,g⟩:=Uy n;obtain⟨c,b,_⟩:=b3 j k g;simp only[bo,An,L4]at b;exact⟨k,rfl,c,b.1,hq.1,hq.2,rfl⟩
  .simp at e
 unfold ey pJ at hn|-;split at hn
 .simp at hn
 .rename_i c
  rw[TZ c];split at hn
  .simp at hn
  .rename_i b
   rw[TZ b];split at hn
   .rename_i d
    rw[T6 d];exact key _ hn
   .rename_i d
    rw[TZ d];split at hn
    .simp at hn
    .rename_i o
     rw[TZ o];exact key _ hn
end
structure RunE(sc:Sce)(p q:List Int)(w cells:Int)(R:Spc×Int):Prop where
 nr:NrOk R.1
 gr:∃P I,Grw sc w R.1 P I
 len:(R.1.cells.length:Int)<=cells
 st:(R.2=4/\(ey R.1 p q).2.2=3)\/(R.2=(ey R.1 p q).2.2/\R.2≠3)
theorem KO{cells:Int}(u:∀b a,(aY (bw sc b a)).nor.length<=4096)(D:cells<=2040):∀(f:Nat)(s:Spc),NrOk s->(∃P I,Grw sc w s P I)->(∀c∈s.cells,c.v.nor.length<=4096)->(s.cells.length:Int)<=cells->cells<s.cells.length+f->∃R,qc sc p q w cells f s=some R/\RunE sc p q w cells R:=by
 intro f
 induction f with
 |zero=>intro s _ _ _ m y;omega
 |succ f ih=>
  rintro s h ⟨P,I,g⟩ hn m y;simp only[qc];rw[T6 (h.ok (by omega) hn)];by_cases d:(ey s p q).2.2=3
  .rw[T6 d]
   by_cases o:cells-2<s.cells.length
   .rw[T6 o]
    exact⟨_,rfl,h,⟨P,I,g⟩,m,.inl ⟨rfl,d⟩⟩
   .rw[TZ o]
    obtain⟨k,A,l,n,B,x,C⟩:=L5 h d;rw[A,C,Uh,T6 (by simp[l])];have g3:=(g.leaf k l n);have j:=EE (w:=w) (js:=sc.js) (ms:=sc.ms) (b:=aA s k) (by rw[<-g3.2.2];exact x)
    have z:bD (aA s k) (dy s k)=true:=by rw[g3.2.2,j.2];exact ue j.1
    have r:=CR (sc:=sc) (w:=w) (s:=s) k (dy s k);refine ih _ (h.more l n z) ⟨_,_,g.more h l n B x⟩ ?_ (by rw[r];omega) (by rw[r];omega);intro c i;unfold l7 hC at i;rcases UM i with e|e
    .rcases UM e with e|e
     .rw[(oK s k _).2.1]at e
      simp only[dE,Uf,Uq,Uw,UV]at e;rcases e with e|e|e
      .rcases UM e with e|e
       .exact hn c e
       .subst e;simp[br]
      all_goals subst e;simp[aD,br]
     .subst e;exact u _ _
    .subst e;exact u _ _
  .rw[TZ d]
   exact⟨_,rfl,h,⟨P,I,g⟩,m,.inr ⟨rfl,d⟩⟩
theorem Ba{n:Nat}{may:Nat->Bool}{tch:Nat->Nat->Bool}{l:List Nat}(h1:∀(r:Nat) x,l[r]?=some x->x<n/\may x=true)(c:∀(r:Nat) x y,l[r]?=some x->l[r+1]?=some y->tch x y=true):∀(r:Nat) x y,l[0]?=some x->l[r]?=some y->Pth n may tch x y
 |0,x,y,b,a=>by
  rw[b]at a;injection a with a;subst a;exact .nil (h1 0 x b).1 (h1 0 x b).2
 |r+1,x,y,b,a=>by
  have e:r<l.length:=by have:=(th.1 a).1;omega
  have d:=an e;exact(Ba h1 c r x _ b d).snoc (h1 _ y a).1 (h1 _ y a).2 (c r _ y d a)
theorem Hf{may has hasF:Nat->Bool}{tch:Nat->Nat->Bool}(b:∀i j,i<n->j<n->tch i j=tch j i)(h:aX n may has hasF tch=true)(e:∀x∈eI n may has hasF tch,x<n->may x=true->may' x=true):aX n may' has hasF tch=true:=by
 obtain⟨b1,b2,b3,b4,b5,b6⟩:=uH b h;generalize hL:eI n may has hasF tch=L at *;have c:=an b1;have d:=an (show L.length-1<L.length by omega);exact CP.2 ⟨_,_,b5 _ c,b6 _ d,Ba (λr x a=>⟨(b3 r x a).1,e x (Is a) (b3 r x a).1 (b3 r x a).2.1⟩) (λr x y a f=>b4 r x y a f) _ _ _ c d⟩
section
variable {sc:Sce} {w w':Int} {a b:Spc} {P P':Nat->List Bool} {I I':List (List Bool)}
theorem EF(g:Grw sc w a P I)(r:Grw sc w' b P' I')(C:bi vI (af sc.js sc.ms)=true)(f o:Int->Int->Bool)(p q:List Int)
 (h1:∀i,i<a.cells.length->(aj a i).low=-1->f (aj a i).v.kind (dy a i)=true->P i∉I')
 (z:∀i j,i<a.cells.length->(aj a i).low=-1->f (aj a i).v.kind (dy a i)=true->j<b.cells.length->(aj b j).low=-1->P' j=P i->o (aj b j).v.kind (dy b j)=true)
 (A:∀j,j<b.cells.length->(aj b j).low=-1->P' j∈I->o (aj b j).v.kind (dy b j)=true)
 (B:aX a.cells.length (bo a f) (aq a.bx q) (aq a.bx p) (de a.bx)=true):aX b.cells.length (bo b o) (aq b.bx q) (aq b.bx p) (de b.bx)=true:=by
 have c:∀i j,(i<a.cells.length/\(aj a i).low=-1)/\(j<b.cells.length/\(aj b j).low=-1)/\P' j <:+ P i->SB (iF a.bx i) (iF b.bx j):=by
  rintro i j ⟨⟨x,y⟩,⟨E,F⟩,hs⟩;have m:=(g.leaf i x y).1;have n:=(r.leaf j E F).1;have:=g.sb C x y hs;rw[<-m,<-n]at this;exact this
 refine IH (img:=λi j=>(i<a.cells.length/\(aj a i).low=-1)/\(j<b.cells.length/\(aj b j).low=-1)/\P' j <:+ P i) (λi hi d=>?_) (λi j s G _ _ _ _ m n D=>(c _ _ m).touch (c _ _ n) D) (λi s _ _ e h=>(c _ _ e).has h) (λi s _ _ e h=>(c _ _ e).has h) B;simp only[bo,An,L4]at d;rcases r.cov (P i)with⟨j,k,l,u⟩|e
 .refine⟨j,⟨⟨hi,d.1⟩,⟨k,l⟩,u⟩,k,?_⟩
  simp only[bo,An,L4];refine⟨l,?_⟩;rcases g.anc i hi d.1 _ u with e|e
  .exact z i j hi d.1 d.2 k l e
  .exact A j k l e
 .exact absurd e (h1 i hi d.1 d.2)
theorem oL(g:Grw sc w a P I)(hi:i<a.cells.length)(b:(aj a i).low=-1):(aj a i).v.kind=(n9 sc (P i)).2.kind:=by rw[(g.leaf i hi b).2.1]
end
section
variable {sc:Sce} {p q:List Int} {w w' cells cells':Int} {A B:Spc×Int}
theorem Hg(h:NrOk s)(C:∀i,i<s.cells.length->(aj s i).low=-1->(aj s i).v.kind=0\/(aj s i).v.kind=1\/(aj s i).v.kind=2)(p q:List Int):
 ((ey s p q).2.2=1/\aX s.cells.length (bo s ir) (aq s.bx q) (aq s.bx p) (de s.bx)=true)\/
 ((ey s p q).2.2=2/\aX s.cells.length (bo s ir) (aq s.bx q) (aq s.bx p) (de s.bx)=false/\aX s.cells.length (bo s iu) (aq s.bx q) (aq s.bx p) (de s.bx)=false)\/
 ((ey s p q).2.2=3/\aX s.cells.length (bo s ir) (aq s.bx q) (aq s.bx p) (de s.bx)=false/\aX s.cells.length (bo s iu) (aq s.bx q) (aq s.bx p) (de s.bx)=true)\/
 ((ey s p q).2.2=5/\aX s.cells.length (bo s ir) (aq s.bx q) (aq s.bx p) (de s.bx)=false/\aX s.cells.length (bo s iu) (aq s.bx q) (aq s.bx p) (de s.bx)=true/\aX s.cells.length (bo s lL) (aq s.bx q) (aq s.bx p) (de s.bx)=false/\aX s.cells.length (bo s n6) (aq s.bx q) (aq s.bx p) (de s.bx)=true):=by
 have d:∀i j,i<s.cells.length->j<s.cells.length->de s.bx i j=de s.bx j i:=λi j hi B=>h.sy hi B
 have pick:∀(f g:Int->Int->Bool),(∀i,i<s.cells.length->(aj s i).low=-1->f (aj s i).v.kind (dy s i)=true->uU s i=false->g (aj s i).v.kind (dy s i)=true)->aX s.cells.length (bo s f) (aq s.bx q) (aq s.bx p) (de s.bx)=true->aX s.cells.length (bo s g) (aq s.bx q) (aq s.bx p) (de s.bx)=false->(jI s (eI s.cells.length (bo s f) (aq s.bx q) (aq s.bx p) (de s.bx))).2.2=3:=by
  intro f g l A hn;unfold jI;split
  .rfl
  .rename_i c
   rw[U9]at c
   have:=Hf (may':=bo s g) d A λx D m k=>by
    simp only[bo,An,L4]at k|-;exact⟨k.1,l x m k.1 k.2 (by simpa using c x D)⟩
   rw[hn]at this;cases this
 unfold ey pJ
 cases o:aX s.cells.length (bo s ir) (aq s.bx q) (aq s.bx p) (de s.bx)with
 |true=>simp
 |false=>
 cases y:aX s.cells.length (bo s iu) (aq s.bx q) (aq s.bx p) (de s.bx)with
 |false=>simp
 |true=>
 cases r:aX s.cells.length (bo s lL) (aq s.bx q) (aq s.bx p) (de s.bx)with
 |true=>
  have:=pick lL ir (λi hi n b a=>by
   simp only[lL,UQ,An,UP,bne_iff_ne]at b;simp only[uU,Bool.and_eq_false_iff,Uc]at a;simp only[ir,UP];rcases b with e|⟨e,z⟩
   .exact e
   .rcases a with a|a
    .exact absurd e a
    .exact absurd z a) r o
  simp[this]
 |false=>
 cases u:aX s.cells.length (bo s n6) (aq s.bx q) (aq s.bx p) (de s.bx)with
 |true=>simp
 |false=>
  have:=pick iu n6 (λi hi n b a=>by
   simp only[iu,bne_iff_ne]at b;simp only[uU,Bool.and_eq_false_iff,Uc]at a;simp only[n6,UQ,An,UP];rcases C i hi n with e|e|e
   .right
    rcases a with a|a
    .exact absurd e a
    .exact⟨e,by simpa using a⟩
   .exact .inl e
   .exact absurd e b) y u
  simp[this]
theorem RunE.kind(h:RunE sc p q w cells A)(d:∀b a,(bw sc b a).kind=0\/(bw sc b a).kind=1\/(bw sc b a).kind=2):∀i,i<A.1.cells.length->(aj A.1 i).low=-1->(aj A.1 i).v.kind=0\/(aj A.1 i).v.kind=1\/(aj A.1 i).v.kind=2:=by
 intro i hi e;obtain⟨P,I,g⟩:=h.gr;rw[oL g hi e]
 cases P i with
 |nil=>exact d _ _
 |cons c π=>exact d _ _
end
structure SubI(x y:Iv):Prop where
 vx:aw x.1 x.2=true
 vy:aw y.1 y.2=true
 lo:y.1<=x.1
 hi:x.2<=y.2
theorem SubI.all{y:Iv}(h:SubI x y):-2147483648<=y.1/\y.1<=x.1/\x.1<=x.2/\x.2<=y.2/\y.2<=2147483648:=by
 have a:=em.1 h.vx;have b:=em.1 h.vy;have c:=h.lo;have d:=h.hi;omega
theorem SubI.refl(h:aw x.1 x.2=true):SubI x x:=⟨h,h,Ww _,Ww _⟩
theorem SubI.trans{y z:Iv}(h:SubI x y)(g:SubI y z):SubI x z:=⟨h.vx,g.vy,Int.le_trans g.lo h.lo,Int.le_trans h.hi g.hi⟩
theorem QZ(a b c d:Int):fD [a,b,c,d]=a-b+c-d:=by simp[fD,oe,mI];omega
theorem MD(a b c d e:Int):fD [a,b,c,d,e]=a-b+c-d+e:=by simp[fD,oe,mI];omega
theorem Q0(a b c d e f:Int):fD [a,b,c,d,e,f]=a-b+c-d+e-f:=by simp[fD,oe,mI];omega
def li(a b:List Iv):Prop:=a.length=b.length/\∀(k:Nat) x y,a[k]?=some x->b[k]?=some y->SubI x y
def J7(v:Vc):Bool:=!(v.1==0&&v.2.1==0&&v.2.2==0)&&gS v.1 v.2.1 v.2.2 16384
theorem As(v:Vc):bk 265 (ax v) (B (J7 v)):=by
 have a:=rB v.1 v.2.1 v.2.2 16384 (by decide) (by decide);have hd:J7 v=(!(v.1==0&&v.2.1==0&&v.2.2==0)&&gS v.1 v.2.1 v.2.2 16384):=rfl;rw[hd];generalize gS v.1 v.2.1 v.2.2 16384=b at *;refine Dp func265 λC hP hN=>?_;exact Gy
 all_goals (try (cases b<;>simp_all))
theorem tj{v:Vc}:J7 v=aQ v:=by
 unfold J7 aQ nz;rw[Bool.and_comm];rfl
theorem yn{SH:List Sh}{PR:List (Nat×Nat)}{PT:List (List av)}{c:List Vc}(hf:PR.length<=576):∀f k d,(jh SH PR PT c f k d).ns.length<=576/\(jh SH PR PT c f k d).w.a.length<=8/\(jh SH PR PT c f k d).w.b.length<=8
 |0,k,d=>by
  simp only[jh];split<;>simp[dT,hf]
 |f+1,k,d=>by
  simp only[jh];split
  .split
   .exact yn hf f _ _
   .split
    .exact⟨by simp,vO _ _ _ _⟩
    .exact yn hf f _ _
  .split<;>simp[dT,hf]
theorem yp(s:Sce)(bx:List Iv)(c:List Vc):(bw s bx c).ns.length<=576/\(bw s bx c).w.a.length<=8/\(bw s bx c).w.b.length<=8:=by
 unfold bw;split
 .rename_i h;exact yn (FO h).few _ _ _
 .simp
theorem IP{a b:List av}{c d:Int}{h:List Vc}(hf:(kK a c b d h).2=true):ju (kK a c b d h).1 a c b d=true:=by
 unfold kK at hf|-;split
 .rename_i n e;have:=VM e;exact this
 .rename_i e;rw[e]at hf;cases hf
theorem KX{SH:List Sh}{PR:List (Nat×Nat)}{PT:List (List av)}{w:Wit}:IN SH PR PT w=true↔∃p,0<=w.pair/\PR[w.pair.toNat]?=some p/\rH SH PT w.a w.b p=true:=by
 unfold IN
 cases h:PR[w.pair.toNat]? with
 |none=>simp
 |some p=>simp
section
variable {SH:List Sh} {PR:List (Nat×Nat)} {PT:List (List av)} {hs:List Vc}
theorem Az:∀f k a,k+f=PR.length->(∃(j:Nat)(p:Nat×Nat),PR[j]?=some p/\jh SH PR PT hs f k a=⟨2,[],⟨j,(qd SH PT p).2.w,(qd SH PT p).2.v⟩⟩/\rH SH PT (qd SH PT p).2.w (qd SH PT p).2.v p=true)\/(jh SH PR PT hs f k a=⟨1,dT SH PR PT hs,⟨0,[],[]⟩⟩/\a=true/\∀j p,k<=j->PR[j]?=some p->(qo SH PT hs j p).2=true)\/jh SH PR PT hs f k a=⟨0,dT SH PR PT hs,⟨0,[],[]⟩⟩
 |0,k,a,l=>by
  right
  cases a with
  |true=>
   left
   refine⟨rfl,rfl,λj p i hp=>?_⟩;have:=(th.1 hp).1;omega
  |false=>right;rfl
 |f+1,k,a,l=>by
  have hp:PR[k]?=some (PR[k]'(by omega)):=an _;simp only[jh,hp];split
  .rename_i hf
   rcases Az f (k+1) a (by omega)with h|⟨d,c,e⟩|h
   .exact .inl h
   .refine .inr (.inl ⟨d,c,λj p i b=>?_⟩)
    by_cases g:j=k
    .subst g;rw[hp]at b;cases b;exact hf
    .exact e j p (by omega) b
   .exact .inr (.inr h)
  .split
   .rename_i m
    exact .inl ⟨k,_,hp,rfl,m⟩
   .rcases Az f (k+1) false (by omega)with h|⟨d,c,e⟩|h
    .exact .inl h
    .cases c
    .exact .inr (.inr h)
theorem DY{p:Nat×Nat}(h:PR[k]?=some p):(dT SH PR PT hs)[k]?=some (qo SH PT hs k p).1:=by
 simp[dT,List.getElem?_mapIdx,h]
theorem xy:(dT SH PR PT hs).length=PR.length:=by simp[dT]
theorem KY{p:Nat×Nat}(h:(qo SH PT hs k p).2=true):IM SH PT (qo SH PT hs k p).1 p=true:=IP h
theorem Hu(h:∀j p,PR[j]?=some p->(qo SH PT hs j p).2=true):wM SH PR PT (dT SH PR PT hs)=true:=by
 refine Hk xy λk n p a hn hp=>?_;rw[DY hp]at hn;cases hn;exact KY (h k p hp)
end
theorem ES(s:Sce)(bx:List Iv)(hs:List Vc):(∃w,bw s bx hs=⟨2,[],w⟩/\CZ s bx w=true)\/(∃ns,bw s bx hs=⟨1,ns,⟨0,[],[]⟩⟩/\CY s bx ns=true)\/(∃ns,bw s bx hs=⟨0,ns,⟨0,[],[]⟩⟩/\(ns.length=(dB s).length\/gk s bx=false)):=by
 unfold bw
 cases hp:gk s bx with
 |false=>exact .inr (.inr ⟨[],rfl,.inr rfl⟩)
 |true=>
  simp only[Ui];rcases Az (SH:=s.shs) (PR:=dB s) (PT:=fK s bx) (hs:=hs) (dB s).length 0 true (by omega)with⟨j,p,a,c,b⟩|⟨a,_,b⟩|h
  .refine .inl ⟨_,c,?_⟩
   simp only[CZ,hp,Un,KX];exact⟨p,by omega,by simpa using a,b⟩
  .refine .inr (.inl ⟨_,a,?_⟩)
   simp only[CY,hp,Un];exact Hu λj p hp=>b j p (by omega) hp
  .exact .inr (.inr ⟨_,h,.inl xy⟩)
theorem pP(a:aK t=true)(h:i<t.cells.length):eR t (i:Int)=true/\dq t (i:Int)=ay t (i:Int):=by
 have:eR t (i:Int)=true:=by simp[eR,a,h]
 exact⟨this,by simp[dq,this]⟩
def Dt(x y:AV)(fb:Option cX):Option cX:=match BF x y with
 |some (a,b)=>some (.pv (.val (.bool (!(a==b)))),[])
 |none=>fb
@[simp] theorem Nt(a b:Bool)(fb:Option cX):Dt (.pv (.val (.bool a))) (.pv (.val (.bool b))) fb=some (.pv (.val (.bool (!(a==b)))),[]):=rfl
@[simp] theorem Rt(x y:Operand):
 bF prog ⟨dst,.binOp .neq 4 x y 4,ty,pos,aft,g⟩ ρ=Dt (ρ x) (ρ y) (jv prog ⟨dst,.binOp .neq 4 x y 4,ty,pos,aft,g⟩ ρ):=by
 unfold Dt;split
 .rename_i a b h
  unfold BF at h;split at h
  .rename_i c d i j
   injection h with h;injection h with e f;subst e;subst f;refine eh (by simp[Op.operands,i,j,fp]) ?_;unfold execOp;simp only[(bS i).2,(bS j).2]
   have e:ao prog (eqGuard .neq 4 x y (.bool c) (.bool d))=some ():=by kernel_rfl
   have f:ao prog (binOp .neq 4 (.bool c) (.bool d))=some (.bool (!(c==d))):=by
    simp only[binOp,ah];rw[show ao prog (Op.equal 4 (.bool c) (.bool d))=some (c==d) from Ek 9999 4 c d Tryz.underlying4];rfl
   simp only[ah,e,f,Ub];rfl
  .cases h
 .rfl
theorem HC(s:aK t=true){k:Nat}{j:Int}(hs:dx t (k:Int) j=true):
 al (dp t k j)=al t++[aT (ay t (k:Int)) j,aU (ay t (k:Int)) j]/\(dp t k j).cells.length=t.cells.length+2/\∃v,dp t (k:Int) j=ga t k j v:=by
 have l:=hs;simp only[dx,An,L4,Uh]at hs;obtain⟨⟨⟨⟨⟨u,o⟩,d⟩,p⟩,h5⟩,h6⟩:=hs;obtain⟨L,hL⟩:=Ut.1 s;obtain⟨c,q,r,n⟩:=wc p
 have i:k<t.cells.length:=by omega
 obtain⟨b,a⟩:=(pQ hL).pre k i
 have f:(al t)[k]?=some b:=by
  have:=jQ hL;rw[this]at a;simpa using a
 have g:ay t (k:Int)=b:=yF hL a;rw[f]at h6;have m:=xF hL q r h5 a h6
 have e:dp t (k:Int) j=ga t k j c.v:=by simp[dp,l,n]
 refine⟨?_,?_,c.v,e⟩
 .rw[e,g]
  have:=jQ m;rw[jQ hL]at this
  have o:((al t).map some++[some (aT b j),some (aU b j)])=(al t++[aT b j,aU b j]).map some:=by simp
  rw[o]at this;have d:=Vt (List.map (λx:Option Bx=>x.getD [])) this;simp[Function.comp_def]at d;exact d.symm
 .rw[e,ou]
theorem sE(s:Sce)(b:List Iv)(hs:List Vc):eP (aY (bw s b hs))=true:=by
 rcases ES s b hs with⟨w,a,_⟩|⟨ns,a,_⟩|⟨ns,a,_⟩<;>rw[a]<;>simp[aY,eP,km]
theorem Bm{b:Bx}{j:Int}(h:bD b j=true):li (aT b j) b/\li (aU b j) b:=by
 obtain⟨x,l,d,n,g,i⟩:=yA h;have f:=(lR.1 h).2.1
 have key:∀z:Int×Int,SubI z x->li (b.set j.toNat z) b:=λz m=>⟨by simp,λk u v c a=>by
  rw[T9]at c;by_cases e:j.toNat=k
  .subst e
   rw[T6 rfl]at c;split at c
   .injection c with c;subst c
    rw[l]at a;injection a with a;subst a;exact m
   .cases c
  .rw[TZ e,a]at c;injection c with c;subst c
   exact SubI.refl (eZ.1 f _ (Is a))⟩
 have o:=eH.1 d;rw[g,i];exact⟨key _ ⟨eH.2 (by omega),d,by simp only;omega,by simp only;omega⟩,key _ ⟨eH.2 (by omega),d,by simp only;omega,by simp only;omega⟩⟩
theorem HI{b:Bx}(a:dv b=true):j0 b=⟨b,[aD br]⟩:=by rw[j0,T6 a]
theorem Ew{a b c:List Iv}(h:li a b)(g:li b c):li a c:=⟨h.1.trans g.1,λk x z d i=>by
 obtain⟨f,_⟩:=th.1 d;have e:b[k]?=some (b[k]'(by rw[<-h.1];exact f)):=an _
 exact(h.2 k _ _ d e).trans (g.2 k _ _ e i)⟩
theorem Ex{b:List Iv}(d:bi vI b=true):li b b:=⟨rfl,λk x y c a=>by
 rw[c]at a;injection a with a;subst a
 exact SubI.refl (eZ.1 d _ (Is c))⟩
theorem Hb(o:aK t=true)(hi:i<t.cells.length):li (ay t (i:Int)) t.root:=by
 have g:=(eG.1 (jR o)).2.2.2.2
 have key:∀(k:Nat)(L:OL),(∀(j:Nat) b,L[j]?=some (some b)->li b t.root)->∀c d,gq t.cells.length k c L=some d->L.length=t.cells.length->(∀(j:Nat) b,d[j]?=some (some b)->li b t.root):=by
  intro k L hL c d hs q j b a;obtain⟨b0,e,⟨_,_,rfl⟩|⟨_,f,m,_,_,rfl⟩⟩:=ig hs
  .exact hL j b a
  .have l:=hL k b0 e
   rw[yD q f]at a;split at a
   .injection a with a;injection a with a;subst a
    exact Ew (Bm m).2 l
   .split at a
    .injection a with a;injection a with a;subst a
     exact Ew (Bm m).1 l
    .exact hL j b a
 obtain⟨L,hL⟩:=Ut.1 o
 have hP:=jP (P:=λk M=>BOk t k M/\∀(j:Nat) b,M[j]?=some (some b)->li b t.root) hL ⟨uF (lc hL),λj b a=>by
  cases j with
  |zero=>simp[jO]at a;subst a;exact Ex g
  |succ j=>simp[jO,Us]at a⟩ (λk c M p _ hp n=>⟨uG hp.1 n,key k M hp.2 c p n hp.1.len⟩)
 obtain⟨b,a⟩:=hP.1.pre i hi;rw[yF hL a];exact hP.2 i b a
theorem Ey{b:Bx}(d:aW js ms=0)(h:li b (af js ms)):gH js ms b=true:=by
 have f:af js ms=js.map gO:=by simp[af,d]
 rw[f]at h;obtain⟨c,e⟩:=h;rw[Uu]at c;simp only[gH,d,c,VR,Un];rw[lJ];intro i hi a;have:=e i b[i] (gO js[i]) (an a) (by rw[T0,an hi];rfl);simp only[dS,An,L4];exact⟨⟨⟨this.vx,this.vy⟩,this.lo⟩,this.hi⟩
theorem DV(h:aW js ms=0):∀(i:Nat) j,js[i]?=some j->cO js i j=0:=by
 unfold aW at h;split at h
 .cases h
 .split at h
  .rename_i c;exact absurd h c
  .rename_i k
   intro i j b
   have a:jG js=0:=by simpa using k
   rw[pI]at a;by_cases d:cO js i j=0
   .exact d
   .exfalso
    cases hf:(js.mapIdx (cO js)).find? (λe=>e !=0)with
    |none=>
     rw[U9]at hf
     have l:cO js i j∈js.mapIdx (cO js):=by
      rw[List.mem_mapIdx];obtain⟨f,g⟩:=th.1 b;exact⟨i,f,by rw[g]⟩
     exact hf _ l (by simpa using d)
    |some e=>
     rw[hf]at a;have:=VM hf;simp only at a;rw[a]at this;simp at this
theorem IF{j:J}(h:cO js i j=0):-4194304<=j.lo/\j.lo<=j.hi/\j.hi<=4194304:=by
 have:=sO j.kind;unfold cO at h
 repeat' split at h
 all_goals (try (cases h;done))
 all_goals omega
theorem tg(h:aW js ms=0):dv (af js ms)=true:=by
 have c:af js ms=js.map gO:=by simp[af,h]
 have a:=qG h;rw[c];simp only[dv,Uu,An,L4];refine⟨⟨by omega,by omega⟩,eZ.2 λx d=>?_⟩;obtain⟨j,b,rfl⟩:=Uo.1 d;obtain⟨i,hi⟩:=Uy b;have:=IF (DV h i j hi);exact eH.2 ⟨by simp only[gO];omega,by simp only[gO];omega,by simp only[gO];omega⟩
theorem jW{s:Sce}(h:aZ s=0):aW s.js s.ms=0:=Decidable.byContradiction λhn=>by
 unfold aZ at h;rw[T6 hn]at h;exact hn h
theorem qJ(d:aK t=true)(b:eQ t k=true)(c:k<t.cells.length)(a:(eU t k).kind=0){V:Verd}(hf:eP V=true):cJ t (k:Int) V=true:=by
 unfold cJ;rw[d,Uh,b,a,hf,UA (by omega:(0:Int)<=(k:Int)),UA (by omega:(k:Int)<(t.cells.length:Int))];rfl
structure TL(t:Tr):Prop where
 c:t.cells.length<=1000000
 r:t.root.length<=1000000
 v:∀c∈t.cells,c.v.nor.length<=9223372036854775807
theorem yj(h:TL t)(a:t.cells.length<=999990)(i j:Int):TL (dp t i j):=by
 unfold dp;split
 .refine⟨by rw[ou];omega,h.r,λc a=>?_⟩
  simp only[ga,Uf]at a
  have b:(eU t i.toNat).nor.length<=9223372036854775807:=by
   unfold eU;split
   .rename_i c a;exact h.v c (Is a)
   .simp[br]
  rcases a with a|a
  .rcases UM a with a|rfl
   .exact h.v c a
   .simp[br]
  .simp only[Uq,Uw,UV]at a
   rcases a with rfl|rfl<;>exact b
 .exact h
theorem Hc(h:TL t)(i:Int){v:Verd}(b:v.nor.length<=9223372036854775807):TL (cy t i v):=by
 unfold cy;split
 .refine⟨by simpa[dg]using h.c,h.r,λc a=>?_⟩
  simp only[dg]at a;rcases UM a with a|rfl
  .exact h.v c a
  .exact b
 .exact h
theorem Hd{s:Sce}(h:TL t)(i:Int):TL (iI s t i):=by
 unfold iI;split
 .refine Hc h i ?_
  have:=(yp s (dq t i) (eU t i.toNat).nor).1;simp only[lh,aY];omega
 .exact h
theorem Ez(s:Sce)(t:Tr)(i:Int):(iI s t i).cells.length=t.cells.length/\(iI s t i).root=t.root:=by
 unfold iI cy;split
 .split<;>simp[dg]
 .simp
theorem KP(s:Sce)(b:List Iv)(hs:List Vc):(bw s b hs).kind=0\/(bw s b hs).kind=1\/(bw s b hs).kind=2:=by
 rcases ES s b hs with⟨_,a,_⟩|⟨_,a,_⟩|⟨_,a,_⟩<;>rw[a]<;>simp
theorem KQ(w:Int)(i:aZ sc=0):NrOk (kf sc w):=by
 have f:=tg (jW i);simp only[dv,An,L4]at f;refine⟨rfl,rfl,rfl,rfl,?_,λp=>?_,λp k=>?_⟩
 .intro b d
  simp only[kf,Uz]at d;subst d;exact⟨f.2,by omega⟩
 .unfold ab kf
  cases p<;>simp
 .have e:ab (kf sc w) p=[]:=by unfold ab kf;cases p<;>simp
  rw[e];have g:(kf sc w).cells.length=1:=rfl;rw[g];constructor
  .intro h;cases h
  .rintro⟨a,b,c,_⟩;omega
theorem EG(sc:Sce)(w:Int):Grw sc w (kf sc w) (λ_=>[]) []:=by
 have a:(kf sc w).cells.length=1:=rfl;refine⟨λi hi _=>?_,λπ=>?_,λi _ _ π hp=>?_,λπ hp=>by cases hp⟩
 .have:i=0:=by omega
  subst this;exact⟨rfl,rfl,rfl⟩
 .exact .inl ⟨0,by omega,rfl,List.nil_suffix⟩
 .exact .inl (by simpa using hp)
def PC(sc:Sce)(p q:List Int):Prop:=aZ sc=0/\gj sc.js sc.ms p=true/\gj sc.js sc.ms q=true
theorem NJ(sc:Sce)(p q:List Int)(w cells:Int)(hs:ScL sc)(x:1<=w)(o:1<=cells)(h5:cells<=2040)(l:p.length<=9223372036854775807)(m:q.length<=9223372036854775807)(h:PC sc p q):∃R:Spc×Int,qc sc p q w cells 2041 (kf sc w)=some R/\RunE sc p q w cells R/\bi vI (af sc.js sc.ms)=true/\bf prog 13 [.pv (gb sc),.pv (zs p),.pv (zs q),.pv (Z w),.pv (Z cells)] [] [] (.pv (.tup [.agg [iv R.1.root,.sl (R.1.cells.map bz)],Z R.2])):=by
 obtain⟨j,u,v⟩:=h;have n:=tg (jW j);have d:=n;simp only[dv,An,L4]at d
 have s:∀b a,(aY (bw sc b a)).nor.length<=4096:=λb a=>by have:=(yp sc b a).1;simp only[aY];omega
 have e:aK (mE (af sc.js sc.ms) br)=true:=by have:=pT (af sc.js sc.ms);rw[n]at this;exact this
 have z:=yp sc (af sc.js sc.ms) [];obtain⟨R,r,y⟩:=KO (sc:=sc) (p:=p) (q:=q) (w:=w) s h5 2041 (kf sc w) (KQ w j) ⟨_,_,EG sc w⟩ (λc f=>by simp only[kf,Uz]at f;subst f;exact s _ _) (by show(1:Int)<=cells;exact o) (by show cells<(1:Int)+(2041:Nat);omega);have i:cJ (mE (af sc.js sc.ms) br) 0 (aY (bw sc (af sc.js sc.ms) []))=true:=qJ (k:=0) e rfl (by simp) rfl (sE _ _ _);have g:=(ov e 0 (aY (bw sc (af sc.js sc.ms) []))).1;rw[cy,T6 i]at g;refine⟨R,r,y,d.2,Ow sc p q w cells 2041 R hs j u v x o (by omega) l m n ?_ e i ⟨by simp only[aY];omega,by simp only[aY];omega,by simp only[aY];omega⟩ ⟨by show(af sc.js sc.ms).length<=_;omega,by simp,λc f=>by simp at f;subst f;simp[DF,br,aD]⟩ (by simpa[dg]using g) (by omega) r⟩;exact Ey (jW j) (Ex d.2)
theorem G8{L:List PV}{z v:PV}(hL:L.length=n)(hi:i<n)(b:L[i]?=some v):(L.take i++List.replicate (n-i) z).set i v=L.take (i+1)++List.replicate (n-(i+1)) z:=by
 have a:(L.take i).length=i:=by rw[UI];omega
 rw[Vq _ _ (by omega),a,VW,show n-i=(n-(i+1))+1 by omega,List.replicate_succ,List.set_cons_zero,Wf,b];simp
theorem IE{L:List PV}{z:PV}(hL:L.length=n)(hi:i<=n):(L.take i++List.replicate (n-i) z).length=n:=by
 rw[Uj,UI,List.length_replicate];omega
theorem CK{b:Bx}(h:dP js ms b=-1):fH js ms w b=false:=by simp[fH,h]
theorem A8{b:Bx}{j:Nat}{x:Int×Int}(h:dP js ms b=(j:Int))(c:b[j]?=some x):fH js ms w b=decide (w<x.2-x.1):=by
 have a:(0:Int)<=(j:Int):=by omega
 unfold fH;rw[h,Uh,c,UA a,Un]
theorem A9(a:aK t=true):(ic js ms w t).length=t.cells.length:=by rw[ic,Uu,fL a]
theorem KN(js:List J)(ms:List Ms)(t:Tr)(w:Int)(L:js.length<=9223372036854775807)(M:ms.length<=9223372036854775807)(U:t.cells.length<=9223372036854775807):mm 53 (gP js ms) (fg t) (Z w) (.tup [if aK t then Gc t.cells (al t) (ic js ms w t)else .agg [.sl [],.sl [],.sl []],B (aK t)]):=by
 have R:=Kh t U
 cases D:aK t with
 |false=>
  rw[D]at R;refine Dp func53 λC hP hN=>?_;exact Gy
 |true=>
  rw[D]at R;have f:=fL D;have X:=eG.1 (jR D);have A:=A9 (js:=js) (ms:=ms) (w:=w) D
  have O:∀i b,(al t)[i]?=some b->(ic js ms w t)[i]?=some (fH js ms w b):=λi b h=>by rw[ic,T0,h];rfl
  generalize T:ic js ms w t=OL at *;simp only[Ui];generalize hn:t.cells.length=n at *
  have q:(OL.map B).length=n:=by rw[Uu,A]
  refine Dp func53 λC hP hN=>?_;refine GT (so f hn (show(1:Int)*n<=281474976710656 by omega) (show(n:Int)<=281474976710656 by omega) (show(n:Int)<=9223372036854775807 by omega)) ?_;refine WP.loopN [] n (λi st=>st.t 2=.pv (Z w)/\st.t 3=.ptr 3 0/\st.t 6=.ptr 6 0/\st.t 8=.pv (.sl ((al t).map iv))/\st.t 10=.ptr 10 0/\st.t 11=.pv (Z i)/\st.h 3=some (.box [.pv (.sl (js.map bR)),.pv (.sl (ms.map dC))] true false)/\st.h 6=some (.box [.pv (.val (.slice none 0 0)),.pv (.val (.slice none 0 0)),.pv (.val (.slice none 0 0))] true false)/\st.h 10=some (.box [.pv (.sl (t.cells.map bz)),.pv (.sl ((al t).map iv)),.arr 26 n] true false)/\st.h 26=some (.row 4 1 ((OL.map B).take i++List.replicate (n-i) (B false)) 0)) (by simp) ?_;rintro i st hi ⟨g2,g3,G,H,k,l,m,o,c,a⟩;have u:=IE (z:=B false) q hi;by_cases d:i<n
  .have S:=am d (by omega)
   have p:i<(al t).length:=by omega
   have e:(al t)[i]?=some (al t)[i]:=an p;have r:=kx e;generalize s:(al t)[i]=b at *;have N:=O i b e;have E:=Oh js ms b L M (by omega)
   have I:(OL.map B)[i]?=some (B (fH js ms w b)):=by rw[T0,N];rfl
   have g:=G8 (z:=B false) q d I;rcases ua js ms b with v|⟨j,v,y,_,_,x,F,W⟩
   .rw[CK v]at g
    rw[v]at E
    with_reducible repeat' (first|refine Sp.h ?_|((first|refine Wd ?_|refine Ss.h ?_|refine Sc.h (E) ?_|(refine Sb.h ?_ ?_ ?_<;>(try intro hgd)<;>try exact Xy))<;>simp -implicitDefEqProofs (maxSteps:=2000000) [hP,hN,g2,g3,G,H,k,l,m,o,c,a,d,S,p,f,e,s,u,g]<;>try refine Ya ?_)|refine X2 ?_ ?_|(refine Xd ?_ ?_<;>intro hcd<;>try exact Xx))
   .rw[A8 v F]at g
    rw[v]at E;have Q:∀h,b[j]'h=x:=λh=>bZ F h;have V:=eH.1 (eZ.1 r.2 _ (Is F));have P:i64.wrap (x.2-x.1)=x.2-x.1:=aa
    with_reducible repeat' (first|refine Sp.h ?_|((first|refine Wd ?_|refine Ss.h ?_|refine Sc.h (E) ?_|(refine Sb.h ?_ ?_ ?_<;>(try intro hgd)<;>try exact Xy))<;>simp -implicitDefEqProofs (maxSteps:=2000000) [hP,hN,g2,g3,G,H,k,l,m,o,c,a,d,S,p,f,e,s,u,y,F,Q,P,g]<;>try refine Ya ?_)|refine X2 ?_ ?_|(refine Xd ?_ ?_<;>intro hcd<;>try exact Xx))
  .have K:i=n:=by omega
   subst K;rw[Up (by omega),VW,List.replicate_zero,V7]at a
   with_reducible repeat' (first|refine Sp.h ?_|((first|refine Wd ?_|refine Ss.h ?_|(refine Sb.h ?_ ?_ ?_<;>(try intro hgd)<;>try exact Xy))<;>simp -implicitDefEqProofs (maxSteps:=2000000) [hP,hN,g2,g3,G,H,k,l,m,o,c,a,d,f,A]<;>try refine Ya ?_)|refine X2 ?_ ?_|(refine Xd ?_ ?_<;>intro hcd<;>try exact Xx))
theorem LZ(t:Tr)(op:List Bool)(p q:List Int)(sort:Int)(a:aK t=true)(e:op.length=t.cells.length)(hp:p.length<=9223372036854775807)(hq:q.length<=9223372036854775807):bf prog 55 [.pv (Gc t.cells (al t) op),.pv (zs p),.pv (zs q),.pv (Z sort)] [] [] (.pv (.tup [.sl ((CO t op p q sort).map zN),B (ma t op p q sort)])):=by
 have f:=eG.1 (jR a)
 exact Tp t.cells (al t) op p q sort (by omega) (fL a) e (λb c=>by
  obtain⟨j,d⟩:=Uy c;have:=(kx d).1
  omega) hp hq (Nb a)
structure Nx(t:Tr)(a b:Int):Prop where
 ex:∃k j:Nat,a=(k:Int)/\b=(j:Int)/\k<t.cells.length/\eQ t k=true/\(eU t k).kind=0/\bD (ay t (k:Int)) (j:Int)=true
structure DeI(s:Sce)(t:Tr):Prop where
 valid:aK t=true
 root:t.root=af s.js s.ms
 tl:TL t
theorem rf{s:Sce}(e:aZ s=0)(a:DeI s t)(g:eQ t k=true)(b:k<t.cells.length)(i:(eU t k).kind=0):j6 s t (k:Int)=true/\iI s t (k:Int)=dg t k (lh s t (k:Int))/\DeI s (iI s t (k:Int)):=by
 obtain⟨b1,b2⟩:=pP a.valid b
 have d:gH s.js s.ms (dq t (k:Int))=true:=by
  rw[b2];exact Ey (jW e) (by rw[<-a.root];exact Hb a.valid b)
 have hp:rD s t (k:Int)=true:=by simp[rD,e,b1,d]
 have hs:cJ t (k:Int) (lh s t (k:Int))=true:=qJ a.valid g b i (sE _ _ _)
 have c:iI s t (k:Int)=cy t (k:Int) (lh s t (k:Int)):=by rw[iI,T6 hp]
 have f:cy t (k:Int) (lh s t (k:Int))=dg t k (lh s t (k:Int)):=by rw[cy,T6 hs,Uh]
 obtain⟨v1,v2,v3,_⟩:=ov a.valid (k:Int) (lh s t (k:Int));refine⟨by rw[j6,hp,hs];rfl,c.trans f,?_⟩;refine⟨by rw[c];exact v1,by rw[c,v2];exact a.root,Hd a.tl _⟩
theorem G9{s:Sce}(A:aZ s=0)(d:DeI s t)(hn:Nx t a b)(L:t.cells.length+2<=2048):ud s t a b=true/\DeI s (mj s t a b)/\(mj s t a b).cells.length=t.cells.length+2:=by
 obtain⟨k,j,rfl,rfl,o,K,B,J⟩:=hn.ex;have n:(al t)[k]?=some (ay t (k:Int)):=(kS d.valid (c:=(k:Int)) (by simpa using o)).1
 have f:dx t (k:Int) (j:Int)=true:=by
  simp only[dx,d.valid,Uh,K,n,Ug,J,VD,Un,An,L4];exact⟨⟨by omega,by omega⟩,L⟩
 have q:dp t (k:Int) (j:Int)=ga t k (j:Int) (eU t k):=by rw[dp,T6 f,Uh]
 obtain⟨v1,v2,v3⟩:=xH d.valid (k:Int) (j:Int);have m:DeI s (dp t (k:Int) (j:Int)):=⟨v1,by rw[v2];exact d.root,yj d.tl (by omega) _ _⟩
 have E:(dp t (k:Int) (j:Int)).cells[t.cells.length]?=some (aD (eU t k)):=by
  rw[q];simp only[ga];rw[T5 (by simp)];simp
 have F:(dp t (k:Int) (j:Int)).cells[t.cells.length+1]?=some (aD (eU t k)):=by
  rw[q];simp only[ga];rw[T5 (by simp)];simp
 have r:(dp t (k:Int) (j:Int)).cells.length=t.cells.length+2:=by rw[q,ou]
 have p:n7 s t (k:Int) (j:Int)=iI s (dp t (k:Int) (j:Int)) (t.cells.length:Int):=rfl;have I:ud s t (k:Int) (j:Int)=(dx t (k:Int) (j:Int)&&j6 s (dp t (k:Int) (j:Int)) (t.cells.length:Int)&&j6 s (n7 s t (k:Int) (j:Int)) ((t.cells.length:Int)+1)):=rfl
 have hF:mj s t (k:Int) (j:Int)=if ud s t (k:Int) (j:Int)then iI s (n7 s t (k:Int) (j:Int)) ((t.cells.length:Int)+1)else t:=rfl
 generalize dp t (k:Int) (j:Int)=u at *;have C:∀(x:Tr)(i:Nat) V,x.cells[i]?=some (aD V)->eQ x i=true/\eU x i=V:=λx i V h=>⟨by simp only[eQ,h];exact kR V,by simp[eU,h,aD]⟩;obtain⟨M,P⟩:=C u t.cells.length _ E;obtain⟨O,l,y⟩:=rf A m M (by omega) (by rw[P];exact B);rw[<-p]at l y;generalize n7 s t (k:Int) (j:Int)=v at *
 have G:v.cells[t.cells.length+1]?=some (aD (eU t k)):=by
  rw[l];simp only[dg];rw[T9,TZ (by omega)];exact F
 have g:v.cells.length=t.cells.length+2:=by rw[l];simp[dg,r]
 obtain⟨N,Q⟩:=C v (t.cells.length+1) _ G;obtain⟨D,H,z⟩:=rf A y N (by omega) (by rw[Q];exact B);rw[Int.natCast_add,Int.natCast_one]at D H z
 have e:ud s t (k:Int) (j:Int)=true:=by rw[I,f,O,D];rfl
 rw[e,T6 rfl]at hF;rw[hF];refine⟨e,z,?_⟩;rw[(Ez _ _ _).1,g]
theorem CM{s:Sce}(d:aZ s=0):DeI s (oB s)/\(oB s).cells.length=1/\j0 (af s.js s.ms)=⟨af s.js s.ms,[aD br]⟩/\TL (j0 (af s.js s.ms)):=by
 have b:=tg (jW d);have hn:=HI b
 have f:(af s.js s.ms).length<=10:=by
  simp only[dv,An,L4]at b;omega
 have g:TL (j0 (af s.js s.ms)):=by
  rw[hn];refine⟨by simp,by simp only;omega,λc e=>?_⟩;simp at e;subst e;simp[aD,br]
 have j:DeI s (j0 (af s.js s.ms)):=⟨by rw[hn,pT];exact b,by rw[hn],g⟩
 have a:eQ (j0 (af s.js s.ms)) 0=true/\(eU (j0 (af s.js s.ms)) 0).kind=0:=by
  rw[hn];exact⟨kR _,rfl⟩
 obtain⟨_,_,i⟩:=rf d j a.1 (by rw[hn];simp) a.2;refine⟨i,?_,hn,g⟩;rw[oB,(Ez _ _ _).1,hn];rfl
structure SiT(sc:Sce)(s:Spc)(t:Tr):Prop where
 di:DeI sc t
 root:s.root=t.root
 cells:s.cells=t.cells
 bx:s.bx=al t
theorem EH(k:bi vI (af js ms)=true)(h:gj js ms p=true):jU (af js ms) p=true:=by
 simp only[gj,An,L4]at h;obtain⟨⟨c,d⟩,e⟩:=h
 have g:af js ms=js.map gO:=by simp[af,c]
 rw[AI k,g];refine⟨by simpa using d,λi x y b l=>?_⟩;rw[T0,TX]at b;obtain⟨j,f,rfl⟩:=b;obtain⟨hi,rfl⟩:=th.1 f;obtain⟨a,rfl⟩:=th.1 l;have:=(lJ.1 e) i hi a;simp only[AY,An,L4]at this;simp only[gO];omega
section
variable {sc:Sce} {w:Int} {s:Spc} {t:Tr} {P:Nat->List Bool} {I:List (List Bool)}
theorem KR{k j:Nat}(F:aZ sc=0)(d:DeI sc t)(r:k<t.cells.length)(N:eQ t k=true)(y:(eU t k).kind=0)(M:bD (ay t (k:Int)) (j:Int)=true)(O:t.cells.length+2<=2048):
 mj sc t k j=⟨t.root,t.cells.set k ⟨j,t.cells.length,t.cells.length+1,br⟩++[aD (aY (bw sc (aT (ay t (k:Int)) j) (eU t k).nor)),aD (aY (bw sc (aU (ay t (k:Int)) j) (eU t k).nor))]⟩/\al (mj sc t k j)=al t++[aT (ay t (k:Int)) j,aU (ay t (k:Int)) j]:=by
 have G:(al t)[k]?=some (ay t (k:Int)):=(kS d.valid (c:=(k:Int)) (by simpa using r)).1
 have s:dx t (k:Int) (j:Int)=true:=by
  simp only[dx,d.valid,Uh,N,G,Ug,M,VD,Un,An,L4];exact⟨⟨by omega,by omega⟩,O⟩
 have P:dp t (k:Int) (j:Int)=ga t k (j:Int) (eU t k):=by rw[dp,T6 s,Uh]
 obtain⟨v1,v2,v3⟩:=xH d.valid (k:Int) (j:Int);have b:DeI sc (dp t (k:Int) (j:Int)):=⟨v1,by rw[v2];exact d.root,yj d.tl (by omega) _ _⟩;have f:=(HC d.valid s).1;have q:=fL d.valid;rw[P]at b f;have l:(ga t k (j:Int) (eU t k)).cells=t.cells.set k ⟨j,t.cells.length,t.cells.length+1,br⟩++[aD (eU t k),aD (eU t k)]:=rfl;have I:(ga t k (j:Int) (eU t k)).root=t.root:=rfl
 have a:(t.cells.set k (⟨j,t.cells.length,t.cells.length+1,br⟩:Cel)).length=t.cells.length:=by simp
 have hF:mj sc t (k:Int) (j:Int)=iI sc (n7 sc t (k:Int) (j:Int)) ((t.cells.length:Int)+1):=by
  have:=(G9 F d ⟨k,j,rfl,rfl,r,N,y,M⟩ O).1;unfold mj;rw[T6 this]
 have hA:n7 sc t (k:Int) (j:Int)=iI sc (ga t k (j:Int) (eU t k)) (t.cells.length:Int):=by unfold n7;rw[P]
 generalize hB:t.cells.set k (⟨j,t.cells.length,t.cells.length+1,br⟩:Cel)=B at *;generalize ga t k (j:Int) (eU t k)=u at *;have T:∀(x:Tr)(i:Nat) V,x.cells[i]?=some (aD V)->eQ x i=true/\eU x i=V:=λx i V h=>⟨by simp only[eQ,h];exact kR V,by simp[eU,h,aD]⟩
 have X:u.cells[t.cells.length]?=some (aD (eU t k)):=by rw[l,T5 (by omega),a];simp
 have ad:u.cells.length=t.cells.length+2:=by rw[l];simp[a]
 obtain⟨R,J⟩:=T u t.cells.length _ X;obtain⟨o1,o,n⟩:=rf F b R (by omega) (by rw[J];exact y);have m:=ov b.valid (t.cells.length:Int) (lh sc u (t.cells.length:Int));have C:=pP b.valid (show t.cells.length<u.cells.length by omega)
 have z:ay u (t.cells.length:Int)=aT (ay t (k:Int)) j:=by
  unfold ay;rw[f,Uh,T5 (by omega),q];simp[ay]
 have U:lh sc u (t.cells.length:Int)=aY (bw sc (aT (ay t (k:Int)) j) (eU t k).nor):=by unfold lh;rw[C.2,z,Uh,J]
 rw[U]at o m;rw[<-hA]at o n
 have Z:cy u (t.cells.length:Int) (aY (bw sc (aT (ay t (k:Int)) j) (eU t k).nor))=dg u t.cells.length (aY (bw sc (aT (ay t (k:Int)) j) (eU t k).nor)):=by
  rw[cy,T6 (qJ b.valid R (by omega) (by rw[J];exact y) (sE _ _ _)),Uh]
 rw[Z]at m
 have g:(n7 sc t (k:Int) (j:Int)).cells=B++[aD (aY (bw sc (aT (ay t (k:Int)) j) (eU t k).nor)),aD (eU t k)]:=by
  rw[o];simp only[dg];rw[l,<-a,Vq _ _ (by omega)];simp
 have p:al (n7 sc t (k:Int) (j:Int))=al t++[aT (ay t (k:Int)) j,aU (ay t (k:Int)) j]:=by rw[o,m.2.2.2,f]
 have H:(n7 sc t (k:Int) (j:Int)).root=t.root:=by rw[o];exact I
 generalize n7 sc t (k:Int) (j:Int)=e at *
 have Q:e.cells.length=t.cells.length+2:=by rw[g];simp[a]
 have Y:e.cells[t.cells.length+1]?=some (aD (eU t k)):=by rw[g,T5 (by omega),a];simp
 obtain⟨S,K⟩:=T e (t.cells.length+1) _ Y;obtain⟨o2,L,I2⟩:=rf F n S (by omega) (by rw[K];exact y);have D:=pP n.valid (show t.cells.length+1<e.cells.length by omega)
 have A:ay e ((t.cells.length+1:Nat):Int)=aU (ay t (k:Int)) j:=by
  unfold ay;rw[p,Uh,T5 (by omega),q];simp[ay]
 have W:lh sc e ((t.cells.length+1:Nat):Int)=aY (bw sc (aU (ay t (k:Int)) j) (eU t k).nor):=by unfold lh;rw[D.2,A,Uh,K]
 have v:=ov n.valid ((t.cells.length+1:Nat):Int) (aY (bw sc (aU (ay t (k:Int)) j) (eU t k).nor));rw[W]at L
 have E:cy e ((t.cells.length+1:Nat):Int) (aY (bw sc (aU (ay t (k:Int)) j) (eU t k).nor))=dg e (t.cells.length+1) (aY (bw sc (aU (ay t (k:Int)) j) (eU t k).nor)):=by
  rw[cy,T6 (qJ n.valid S (by omega) (by rw[K];exact y) (sE _ _ _)),Uh]
 rw[E]at v;rw[hF,<-Int.natCast_one,<-Int.natCast_add,L];refine⟨?_,by rw[v.2.2.2,p]⟩;simp only[dg];rw[g,H,<-a,Vq _ _ (by omega)];simp
end
theorem Jp(w:Int)(f:aZ sc=0):SiT sc (kf sc w) (oB sc):=by
 obtain⟨l,r,hn,o⟩:=CM f;have s:=tg (jW f)
 have a:aK (⟨af sc.js sc.ms,[aD br]⟩:Tr)=true:=by have:=pT (af sc.js sc.ms);rw[s]at this;exact this
 have i:DeI sc ⟨af sc.js sc.ms,[aD br]⟩:=⟨a,rfl,by rw[<-hn];exact o⟩;have j:eQ (⟨af sc.js sc.ms,[aD br]⟩:Tr) 0=true:=rfl;obtain⟨u,m,_⟩:=rf (k:=0) f i j (by simp) rfl
 have q:dq (⟨af sc.js sc.ms,[aD br]⟩:Tr) 0=af sc.js sc.ms:=by
  rw[show(0:Int)=((0:Nat):Int) from rfl,(pP a (by simp)).2];exact yH a
 have p:lh sc (⟨af sc.js sc.ms,[aD br]⟩:Tr) ((0:Nat):Int)=aY (bw sc (af sc.js sc.ms) []):=by
  unfold lh;rw[show((0:Nat):Int)=0 from rfl,q];rfl
 have e:oB sc=⟨af sc.js sc.ms,[aD (aY (bw sc (af sc.js sc.ms) []))]⟩:=by
  unfold oB;rw[hn,show(0:Int)=((0:Nat):Int) from rfl,m,p];rfl
 have d:=l.valid;refine⟨l,by rw[e];rfl,by rw[e];rfl,?_⟩;have g:=fL d;have c:=yH d;rw[r]at g;rw[e]at c;rw[e]at g|-;unfold ay at c
 match n:al (⟨af sc.js sc.ms,[aD (aY (bw sc (af sc.js sc.ms) []))]⟩:Tr),g with
 |[b],_=>
  rw[n]at c;simp only[show(0:Int).toNat=0 from rfl,Vb,Ug]at c;rw[c];rfl
theorem HH(l:List Int)(b:aW js ms=0)(d:∀j∈js,AZ j):gj js ms (lI l js)=true:=by
 simp only[gj,b,lI,List.length_mapIdx,VR,Un];rw[lJ];intro i hi c;have a:=d js[i] (Ul _);unfold AZ at a;simp only[List.getElem_mapIdx,AY,An,L4,Fq];have hn:=gz l (nn l (qh l i)) (k:=js[i].hi-js[i].lo+1) (by omega) (by omega);have e:wr (js[i].lo+nx l (nn l (qh l i)) (js[i].hi-js[i].lo+1))=js[i].lo+nx l (nn l (qh l i)) (js[i].hi-js[i].lo+1):=aa;split
 .omega
 .split
  .omega
  .rw[e];omega
def gm(sc:Sce)(w:Int)(t:Tr):Spc:={root:=t.root,cells:=t.cells,bx:=al t,near:=[],jn:=(al t).map (je sc.js sc.ms w)}
section
variable {sc:Sce} {w:Int} {t:Tr}
theorem M9(i:Nat):aA (gm sc w t) i=ay t (i:Int):=rfl
theorem zM(b:aK t=true)(hi:i<t.cells.length):dy (gm sc w t) i=je sc.js sc.ms w (ay t (i:Int)):=by
 have a:=(kS b (c:=(i:Int)) (by simpa using hi)).1;rw[Uh]at a;simp only[dy,gm,T0,a,UL,Ug]
theorem N0(a:aZ sc=0):Grw sc w (gm sc w (oB sc)) (λ_=>[]) []:=by
 have hs:=Jp w a
 have e:gm sc w (oB sc)={kf sc w with near:=[]}:=by
  have b:=hs.root;have c:=hs.cells;have d:=hs.bx;unfold gm;rw[<-b,<-c,<-d];rfl
 have g:=EG sc w;rw[e];exact⟨g.leaf,g.cov,g.anc,g.opn⟩
theorem HD{I:List (List Bool)}(G:aZ sc=0)(q:DeI sc t)(g:Grw sc w (gm sc w t) P I){k:Nat}(r:k<t.cells.length)(K:(aj (gm sc w t) k).low=-1)(B:(aj (gm sc w t) k).v.kind=0)(L:fH sc.js sc.ms w (ay t (k:Int))=true)(H:t.cells.length+2<=2048):
 DeI sc (mj sc t k (dP sc.js sc.ms (ay t (k:Int))))/\(mj sc t k (dP sc.js sc.ms (ay t (k:Int)))).cells.length=t.cells.length+2/\(∃P I,Grw sc w (gm sc w (mj sc t k (dP sc.js sc.ms (ay t (k:Int))))) P I)/\(∀i,i<t.cells.length->i≠k->(mj sc t k (dP sc.js sc.ms (ay t (k:Int)))).cells[i]?=t.cells[i]?/\ay (mj sc t k (dP sc.js sc.ms (ay t (k:Int)))) (i:Int)=ay t (i:Int))/\(aj (gm sc w (mj sc t k (dP sc.js sc.ms (ay t (k:Int))))) k).low≠-1:=by
 have c:t.cells[k]?=some t.cells[k]:=an r;have F:aj (gm sc w t) k=t.cells[k]:=qZ c
 have s:eQ t k=true:=by
  simp only[eQ,c];rw[<-yz q.valid c,<-F,K];rfl
 have y:eU t k=(aj (gm sc w t) k).v:=by simp only[eU,c];rw[F]
 have J:=ue L;obtain⟨j,b⟩:∃j:Nat,dP sc.js sc.ms (ay t (k:Int))=(j:Int):=⟨(dP sc.js sc.ms (ay t (k:Int))).toNat,by have:=(lR.1 J).1;omega⟩;have p:=J;rw[b]at p;have hf:=KR G q r s (by rw[y];exact B) p H;have hd:=(G9 G q ⟨k,j,rfl,rfl,r,s,by rw[y];exact B,p⟩ H);rw[<-b]at hf hd;generalize O:mj sc t k (dP sc.js sc.ms (ay t (k:Int)))=u at *;obtain⟨_,d1,d2⟩:=hd;have n:=fL q.valid
 have d:u.cells=t.cells.set k ⟨j,t.cells.length,t.cells.length+1,br⟩++[aD (aY (bw sc (aT (ay t (k:Int)) j) (eU t k).nor)),aD (aY (bw sc (aU (ay t (k:Int)) j) (eU t k).nor))]:=by rw[hf.1,b]
 have x:(t.cells.set k (⟨j,t.cells.length,t.cells.length+1,br⟩:Cel)).length=t.cells.length:=by simp
 have m:∀i,i<t.cells.length->i≠k->u.cells[i]?=t.cells[i]?:=λi hi a=>by
  rw[d,T1 (by omega),List.getElem?_set_ne (λe=>a e.symm)]
 have o:∀i,i<t.cells.length->ay u (i:Int)=ay t (i:Int):=λi hi=>by
  unfold ay;rw[hf.2,T1 (by rw[n];simpa using hi)]
 have z:ay u ((t.cells.length:Nat):Int)=aT (ay t (k:Int)) (dP sc.js sc.ms (ay t (k:Int))):=by
  unfold ay;rw[hf.2,Uh,T5 (by omega),n];simp[ay]
 have A:ay u ((t.cells.length+1:Nat):Int)=aU (ay t (k:Int)) (dP sc.js sc.ms (ay t (k:Int))):=by
  unfold ay;rw[hf.2,Uh,T5 (by omega),n];simp[ay]
 have E:aj (gm sc w u) k=⟨j,t.cells.length,t.cells.length+1,br⟩:=qZ (by
  show u.cells[k]?=_
  rw[d,T1 (by omega),List.getElem?_set_self r])
 have C:aj (gm sc w u) t.cells.length=aD (aY (bw sc (aT (ay t (k:Int)) j) (eU t k).nor)):=qZ (by
  show u.cells[t.cells.length]?=_
  rw[d,T5 (by omega),x];simp)
 have D:aj (gm sc w u) (t.cells.length+1)=aD (aY (bw sc (aU (ay t (k:Int)) j) (eU t k).nor)):=qZ (by
  show u.cells[t.cells.length+1]?=_
  rw[d,T5 (by omega),x];simp)
 have l:∀i,i<t.cells.length->i≠k->aj (gm sc w u) i=aj (gm sc w t) i:=λi hi a=>by
  unfold aj;show(u.cells[i]?).getD _=(t.cells[i]?).getD _;rw[m i hi a]
 refine⟨d1,d2,⟨_,_,g.step (s':=gm sc w u) r K B L d2 (λi=>?_) (λi hi a=>?_) ⟨?_,?_,?_⟩ ⟨?_,?_,?_⟩⟩,λi hi a=>⟨m i hi a,o i hi⟩,?_⟩
 .show _↔i≠k/\(i<t.cells.length->_)
  by_cases e:i=k
  .subst e;rw[E];simp
  .by_cases hi:i<t.cells.length
   .rw[l i hi e];simp[e,hi]
   .by_cases M:i=t.cells.length
    .subst M;rw[C];simp[aD,e]
    .by_cases N:i=t.cells.length+1
     .subst N;rw[D];simp[aD,e];omega
     .have:aj (gm sc w u) i=aD br:=by
       unfold aj;show(u.cells[i]?).getD _=_;rw[Ua (by omega)];rfl
      rw[this];simp[aD,e,hi]
 .have f:i<t.cells.length:=hi
  refine⟨o i f,by rw[l i f a],?_⟩;rw[zM d1.valid (by omega),zM q.valid f,o i f]
 .exact z
 .show(aj (gm sc w u) t.cells.length).v=_
  rw[C,y,<-b];rfl
 .exact zM d1.valid (by show t.cells.length<_;omega)
 .exact A
 .show(aj (gm sc w u) (t.cells.length+1)).v=_
  rw[D,y,<-b];rfl
 .exact zM d1.valid (by show t.cells.length+1<_;omega)
 .rw[E];simp
end
def vZ(sc:Sce)(w:Int)(t:Tr)(i:Nat):Bool:=match t.cells[i]? with
 |some c=>decide (c.joint<0)&&decide (c.v.kind=0)&&fH sc.js sc.ms w (ay t (i:Int))
 |none=>false
def mM(sc:Sce)(w:Int)(a:Nat):Nat->Nat->Tr->Tr×Bool
 |0,_,t=>(t,false)
 |f+1,i,t=>if i<t.cells.length then(if vZ sc w t i then(if a<t.cells.length then(t,false)else mM sc w a f (i+1) (mj sc t i (dP sc.js sc.ms (ay t (i:Int)))))else mM sc w a f (i+1) t)else(t,true)
structure Ful(sc:Sce)(w:Int)(t:Tr)(i:Nat):Prop where
 di:DeI sc t
 gr:∃P I,Grw sc w (gm sc w t) P I
 no:∀k,k<i->k<t.cells.length->(aj (gm sc w t) k).low=-1->(aj (gm sc w t) k).v.kind=0->fH sc.js sc.ms w (ay t (k:Int))=false
theorem F7(m:aK t=true){c:Cel}(g:t.cells[i]?=some c):decide (c.joint<0)=dA c:=by
 obtain⟨L,hL⟩:=Ut.1 m
 have hp:=jP (P:=λk _=>i<k->decide (c.joint<0)=dA c) hL (by intro h;omega) (λk d M n f hp l hi=>by
  by_cases e:k=i
  .subst e
   rw[g]at f;injection f with f;subst f;obtain⟨b,o,⟨a,_,_⟩|⟨a,_,j,_⟩⟩:=ig l
   .rw[a];simp[dA]at a;simp[a]
   .rw[a]
    have:=(lR.1 j).1;simp;omega
  .exact hp (by omega))
 exact hp (th.1 g).1
theorem AF(b:aK t=true)(hi:i<t.cells.length):vZ sc w t i=true↔(aj (gm sc w t) i).low=-1/\(aj (gm sc w t) i).v.kind=0/\fH sc.js sc.ms w (ay t (i:Int))=true:=by
 have a:t.cells[i]?=some t.cells[i]:=an hi;have c:aj (gm sc w t) i=t.cells[i]:=qZ a;unfold vZ;rw[a,c];simp only[F7 b a,<-yz b a,An,L4,and_assoc]
theorem AG{sc:Sce}{w:Int}{l:Nat}(q:aZ sc=0)(v:l<=2046):∀(f i:Nat)(t:Tr),Ful sc w t i->i<=t.cells.length->∀u,mM sc w l f i t=(u,true)->Ful sc w u u.cells.length
 |0,i,t,_,_,u,h=>by simp[mM]at h
 |f+1,i,t,h,hi,u,j=>by
  simp only[mM]at j;split at j
  .rename_i d
   split at j
   .rename_i r
    split at j
    .simp at j
    .rename_i A
     obtain⟨P,I,g⟩:=h.gr;obtain⟨a,b,c⟩:=(AF h.di.valid d).1 r;obtain⟨D,H,E,F,G⟩:=HD q h.di g d a b c (by omega);refine AG q v f (i+1) _ ⟨D,E,λk s o m p=>?_⟩ (by omega) u j;by_cases e:k=i
     .subst e;exact absurd m G
     .have n:k<t.cells.length:=by omega
      obtain⟨B,C⟩:=F k n e
      have x:aj (gm sc w (mj sc t i (dP sc.js sc.ms (ay t (i:Int))))) k=aj (gm sc w t) k:=by
       unfold aj;show((mj sc t i (dP sc.js sc.ms (ay t (i:Int)))).cells[k]?).getD _=(t.cells[k]?).getD _;rw[B]
      rw[x]at m p;rw[C];exact h.no k (by omega) n m p
   .rename_i r
    refine AG q v f (i+1) _ ⟨h.di,h.gr,λk s o m p=>?_⟩ d u j;by_cases e:k=i
    .subst e
     cases y:fH sc.js sc.ms w (ay t (k:Int))with
     |false=>rfl
     |true=>exact absurd ((AF h.di.valid d).2 ⟨m,p,y⟩) r
    .exact h.no k (by omega) o m p
  .rename_i z
   injection j with hu1 _;subst hu1;exact⟨h.di,h.gr,λk s=>h.no k (by omega)⟩
theorem Kg(w:Int)(a:aZ sc=0):Ful sc w (oB sc) 0:=⟨(CM a).1,⟨_,_,N0 a⟩,λk b=>by omega⟩
theorem Na(c:aK t=true)(p q:List Int):ma t (ic [] [] 1 t) p q 0=aX t.cells.length (bo (gm sc w t) ir) (aq (al t) q) (aq (al t) p) (de (al t))/\ma t (ic [] [] 1 t) p q 3=aX t.cells.length (bo (gm sc w t) iu) (aq (al t) q) (aq (al t) p) (de (al t)):=by
 have key:∀(f:Int->Int->Bool)(sort:Int),(∀(k j:Int)(o:Bool),f k j=rX k sort o)->∀i,i<t.cells.length->sU t.cells (ic [] [] 1 t) sort i=bo (gm sc w t) f i:=by
  intro f sort hf i hi;have a:t.cells[i]?=some t.cells[i]:=an hi;have b:aj (gm sc w t) i=t.cells[i]:=qZ a;unfold bo sU;rw[a,b,yz c a,hf _ _ ((ic [] [] 1 t)[i]?.getD false)]
 exact⟨(CF (key ir 0 λ_ _ _=>rfl)).1,(CF (key iu 3 λ_ _ _=>rfl)).1⟩
theorem Jl{cells:Int}{A:Spc×Int}{u:Tr}(M:bi vI (af sc.js sc.ms)=true)(C:RunE sc p q w cells A)(hF:Ful sc w u u.cells.length)(R:A.2≠4):
 A.2=if ma u (ic [] [] 1 u) p q 0 then 1 else if ma u (ic [] [] 1 u) p q 3 then 5 else 2:=by
 obtain⟨P,I,g⟩:=C.gr;obtain⟨P',I',r⟩:=hF.gr;obtain⟨O,Q⟩:=Na (sc:=sc) (w:=w) hF.di.valid p q;rw[O,Q];have S:=Hg C.nr (C.kind (KP sc)) p q
 have U:A.2=(ey A.1 p q).2.2/\A.2≠3:=by rcases C.st with⟨e,_⟩|e;·exact absurd e R
                                        .exact e
 have N:∀{k j:Int},n6 k j=true->k=1\/(k=0/\j=-1):=by
  intro k j h;simpa[n6]using h
 have z:∀j,j<u.cells.length->(aj (gm sc w u) j).low=-1->P' j∈I->False:=λj c l n=>by
  obtain⟨s,o⟩:=g.opn _ n;obtain⟨B,H,_⟩:=r.leaf j c l;rw[<-H]at s;rw[<-B]at o;have:=hF.no j c c l s;rw[M9]at o;rw[o]at this;cases this
 have back:∀(f m:Int->Int->Bool),(∀k j x:Int,f k j=true->m k x=true)->(∀j:Int,j≠-1->m 0 j=true)->aX u.cells.length (bo (gm sc w u) f) (aq (al u) q) (aq (al u) p) (de (al u))=true->aX A.1.cells.length (bo A.1 m) (aq A.1.bx q) (aq A.1.bx p) (de A.1.bx)=true:=by
  intro f m v F E;refine EF r g M f m p q (λi hi l _ n=>z i hi l n) (λi j hi l hf c a e=>?_) (λj c a n=>?_) E
  .have D:=oL r hi l
   have y:=oL g c a;rw[e,<-D]at y;rw[y];exact v _ _ _ hf
  .obtain⟨s,o⟩:=r.opn _ n
   obtain⟨B,H,J⟩:=g.leaf j c a;rw[<-oL g c a]at s;rw[<-B]at o;rw[s];refine F _ λe=>?_;have:=CG (js:=sc.js) (ms:=sc.ms) (w:=w) (b:=aA A.1 j);rw[o,<-J,e]at this;simp at this
 have d:∀(f m:Int->Int->Bool),(∀k j:Int,f k j=true->k=1\/(k=0/\j=-1))->(∀k j x:Int,f k j=true->m k x=true)->aX A.1.cells.length (bo A.1 f) (aq A.1.bx q) (aq A.1.bx p) (de A.1.bx)=true->aX u.cells.length (bo (gm sc w u) m) (aq (al u) q) (aq (al u) p) (de (al u))=true:=by
  intro f m G v E;refine EF g r M f m p q (λi hi l hf n=>?_) (λi j hi l hf c a e=>?_) (λj c a n=>(z j c a n).elim) E
  .obtain⟨s,o⟩:=r.opn _ n
   obtain⟨B,H,J⟩:=g.leaf i hi l;rw[<-oL g hi l]at s;rw[<-B]at o;have:=CG (js:=sc.js) (ms:=sc.ms) (w:=w) (b:=aA A.1 i);rw[o,<-J]at this;rcases G _ _ hf with e|⟨_,e⟩
   .omega
   .simp[e]at this
  .have D:=oL g hi l
   have y:=oL r c a;rw[e,<-D]at y;rw[y];exact v _ _ _ hf
 rcases S with⟨L,f0⟩|⟨L,f0,f3⟩|⟨L,_⟩|⟨L,f0,f3,f1,f2⟩
 .rw[d ir ir (λk j h=>.inl (by simpa[ir]using h)) (λ_ _ _ h=>h) f0,T6 rfl];omega
 .have K:aX u.cells.length (bo (gm sc w u) ir) (aq (al u) q) (aq (al u) p) (de (al u))≠true:=λh=>by
   have:=back ir iu (λk j x h=>by simp only[ir,UP]at h;simp[iu,h]) (λj _=>rfl) h;rw[f3]at this;cases this
  have T:aX u.cells.length (bo (gm sc w u) iu) (aq (al u) q) (aq (al u) p) (de (al u))≠true:=λh=>by
   have:=back iu iu (λ_ _ _ h=>h) (λj _=>rfl) h;rw[f3]at this;cases this
  rw[TZ K,TZ T];omega
 .omega
 .have K:aX u.cells.length (bo (gm sc w u) ir) (aq (al u) q) (aq (al u) p) (de (al u))≠true:=λh=>by
   have:=back ir lL (λk j x h=>by simp only[ir,UP]at h;simp[lL,h]) (λj c=>by simp[lL,c]) h;rw[f1]at this;cases this
  rw[TZ K,d n6 iu (λk j h=>N h) (λk j x h=>by rcases N h with e|⟨e,_⟩<;>simp[iu,e]) f2,T6 rfl];omega
def GN(hi:Int)(i:Nat):J:=⟨Ai i,4+(i:Int).tmod 2,(i:Int)-1,0,0,0,0,hi,1,65536,65536,65536⟩
def qi(hi:Int)(k:Nat):List J:=(List.range k).map (GN hi)
theorem Im(hi:Int)(k:Nat):(qi hi (k+1)).map bR=(qi hi k).map bR++[bR (GN hi k)]:=by simp[qi,Vn]
theorem td(hi:Int)(k:Nat):(qi hi k).length=k:=by simp[qi]
theorem Ou(n:Nat)(hi:Int)(y:0<n)(hn:n<=3):aO 20 (Z n) (Z hi) (gP (qi hi n) []):=by
 refine Dp func20 λC hP hN=>?_;refine Gz ?_
 refine WP.loopN [] n (λi st=>st.t 0=.pv (Z n)/\st.t 1=.pv (Z hi)/\st.t 4=.ptr 4 0/\st.h 4=some (.box [sM,sM] true false)/\st.t 5=.ptr 5 0/\st.t 6=.pv (Z i)/\
  ((i=0/\st.h 5=some (.box [sM,sM] true false)/\st.h 24=none)\/(0<i/\st.h 5=some (.box [.arr 24 i,sM] true false)/\st.h 24=some (.row 81 12 ((qi hi i).map bR) 0)))) (by simp) ?_
 rintro i st s ⟨g0,g1,g4,g,g5,m,f⟩;by_cases k:i<n
 .have x:i64.wrap ((i:Int)+1)=(i:Int)+1:=by rw[IntKind.wrap_i64];omega
  have e:(i:Int)<(n:Int):=by omega
  have r:=Im hi i;have u:=Int.tmod_nonneg 2 (Int.natCast_nonneg i);have v:=VL (i:Int) (b:=2) (by decide);have o:i64.wrap ((i:Int).tmod 2)=(i:Int).tmod 2:=aa;have p:i64.wrap (4+(i:Int).tmod 2)=4+(i:Int).tmod 2:=aa;have q:i64.wrap ((i:Int)-1)=(i:Int)-1:=aa;have l:=td hi i;rcases f with⟨c,d,a⟩|⟨c,d,a⟩
  .subst c
   have cl:=Om 0 (by omega);rw[show((0:Nat):Int)=0 from rfl]at cl
   have v1:i64.wrap 0=0:=by decide
   have v2:i64.wrap 4=4:=by decide
   have v3:i64.wrap (-1)=-1:=by decide
   have v4:i64.wrap (0+1)=1:=by decide
   have v5:i64.wrap (0-1)=-1:=by decide
   have z:Int.tmod 0 2=0:=by decide
   refine Gz ?_
   all_goals simp[qi,GN]
  .have cl:=Om i (by omega)
   refine GT (zAe g0 g1 g4 g g5 m d a k e x o p q (be l (show(i+1)*104<=140737488355328 by omega) (show i<=9223372036854775806 by omega))) ?_
   all_goals simp[r,GN]
 .have j:i=n:=by omega
  subst j;rcases f with⟨c,_⟩|⟨c,d,a⟩
  .omega
  have l:=td hi i;exact Gy
def qj(l:List Int):Nat:=(1+nx l 0 2).toNat
def mr(l:List Int):Nat:=nn l 0
def qb(l:List Int):Nat:=nn l (mr l)
def Io(l:List Int):Nat:=nn l (qb l)
def ql(l:List Int):Nat:=(nx l (qb l) 4).toNat
def Cs(l:List Int)(m:Nat):List Vc:=if nx l (nn l (nn l m)) 3=0 then[(nx l m 65,-9,0),(nx l m 65,80,0)]else[(nx l m 65,nx l (nn l m) 65,0)]
def Ov(l:List Int)(m:Nat):Nat:=nn l (nn l (nn l (nn l m)))
def zu(l:List Int)(m:Nat):Sh:=⟨-1,2+nx l (nn l (nn l (nn l m))) 9,Cs l m⟩
def fC(l:List Int):Nat->Nat
 |0=>Io l
 |i+1=>Ov l (fC l i)
theorem GO(l:List Int):∀i,fC l i<=3+4*i
 |0=>by
  have a:=kE l 0;have b:=kE l (mr l);have c:=kE l (qb l);simp only[fC,Io,qb,mr]at *;omega
 |i+1=>by
  have h:=GO l i;have d:=kE l (fC l i);have e:=kE l (nn l (fC l i));have f:=kE l (nn l (nn l (fC l i)));have g:=kE l (nn l (nn l (nn l (fC l i))));simp only[fC,Ov];omega
def sP(l:List Int)(k:Nat):List Sh:=⟨(qj l:Int)-1,1+nx l (mr l) 4,[(0,0,0)]⟩::(List.range k).map λi=>zu l (fC l i)
theorem GP(l:List Int)(k:Nat):(sP l (k+1)).map dc=(sP l k).map dc++[dc (zu l (fC l k))]:=by simp[sP,Vn]
theorem yf(l:List Int)(k:Nat):(sP l k).length=k+1:=by simp[sP]
def fS(l:List Int):Sce:=⟨qi 64 (qj l),[],sP l (ql l),[]⟩
theorem wI(l:List Int):0<qj l/\qj l<=2/\(qj l:Int)=1+nx l 0 2:=by
 have a:=gz l 0 (k:=2) (by decide) (by decide);unfold qj;omega
theorem LQ(l:List Int):ScL (fS l):=by
 have b:=wI l;have d:=gz l (qb l) (k:=4) (by decide) (by decide)
 have c:ql l<4:=by unfold ql;omega
 refine⟨?_,by simp[fS],?_,by simp[fS],?_⟩
 .simp only[fS,td];omega
 .simp only[fS,yf];omega
 .intro h a
  simp only[fS,sP,Uq,Uo]at a;rcases a with rfl|⟨i,_,rfl⟩
  .simp
  .simp only[zu,Cs];split<;>simp
theorem d9(l:List Int):bk 9 (zs l) (gb (fS l)):=by
 have K:=wI l;have L:=gz l (mr l) (k:=4) (by decide) (by decide);have M:=gz l (qb l) (k:=4) (by decide) (by decide)
 have G:nx l (qb l) 4=((ql l:Nat):Int):=by unfold ql;omega
 have H:ql l<4:=by unfold ql;omega
 have I:=kE l 0;have J:=kE l (mr l)
 have r:i64.wrap (1+nx l 0 2)=((qj l:Nat):Int):=by rw[IntKind.wrap_i64];omega
 have s:i64.wrap ((qj l:Int)-1)=(qj l:Int)-1:=aa;have u:i64.wrap (1+nx l (mr l) 4)=1+nx l (mr l) 4:=aa;have v:i64.wrap (nx l (mr l) 4)=nx l (mr l) 4:=aa;have N:=Ol l;have z:=zm l 0 2 (by decide) (by omega);have O:=Ou (qj l) 64 (by omega) (by omega);have A:=zm l (mr l) 4 (by decide) (by unfold mr;omega);have B:=zm l (qb l) 4 (by decide) (by unfold qb mr at *;omega);have D:nn l 0=mr l:=rfl;have E:nn l (mr l)=qb l:=rfl;have F:nn l (qb l)=Io l:=rfl;rw[D]at z;rw[E]at A;rw[F]at B;refine Dp func9 λC hP hN=>?_;refine GT (s4 @vE.eq_1 G r s u v) ?_;refine WP.loopN [] (ql l) (λi st=>st.t 2=.ptr 2 0/\st.h 2=some (.box [sM,sM,sM,sM] true false)/\st.t 3=.ptr 10 0/\st.h 10=some (.box [.pv (zs l),.pv (Z (fC l i))] true false)/\st.t 5=.ptr 5 0/\st.h 5=some (.box [.pv (.sl ((qi 64 (qj l)).map bR)),.pv (.sl []),.arr 28 (i+1),sM] true false)/\st.t 6=.pv (Z ((ql l:Int)-i))/\st.h 28=some (.row 70 3 ((sP l i).map dc) 0)) (by simp[fC,sP]) ?_;rintro i st hi ⟨g2,e,g3,a,g5,f,p,b⟩;have x:=yf l i;by_cases m:i<ql l
 .have y:i64.wrap ((ql l:Int)-i-1)=(ql l:Int)-((i:Int)+1):=by rw[IntKind.wrap_i64];omega
  have j:(0:Int)<(ql l:Int)-i:=by omega
  have P:=GO l i;have Q:=kE l (fC l i);have R:=kE l (nn l (fC l i));have S:=kE l (nn l (nn l (fC l i)));have d1:=zm l (fC l i) 65 (by decide) (by omega);have d2:=zm l (nn l (fC l i)) 65 (by decide) (by omega);have d3:=zm l (nn l (nn l (fC l i))) 3 (by decide) (by omega);have d4:=zm l (nn l (nn l (nn l (fC l i)))) 9 (by decide) (by omega);have T:=gz l (fC l i) (k:=65) (by decide) (by decide);have U:=gz l (nn l (fC l i)) (k:=65) (by decide) (by decide);have V:=gz l (nn l (nn l (nn l (fC l i)))) (k:=9) (by decide) (by decide);have v1:i64.wrap (nx l (fC l i) 65)=nx l (fC l i) 65:=aa;have v2:i64.wrap (nx l (nn l (fC l i)) 65)=nx l (nn l (fC l i)) 65:=aa;have v4:i64.wrap (nx l (nn l (nn l (nn l (fC l i)))) 9)=nx l (nn l (nn l (nn l (fC l i)))) 9:=aa;have v5:i64.wrap (2+nx l (nn l (nn l (nn l (fC l i)))) 9)=2+nx l (nn l (nn l (nn l (fC l i)))) 9:=aa;have o:=GP l i;have hS:fC l (i+1)=nn l (nn l (nn l (nn l (fC l i)))):=rfl;have n:zu l (fC l i)=⟨-1,2+nx l (nn l (nn l (nn l (fC l i)))) 9,Cs l (fC l i)⟩:=rfl
  have c:Cs l (fC l i)=if nx l (nn l (nn l (fC l i))) 3=0 then[(nx l (fC l i) 65,-9,0),(nx l (fC l i) 65,80,0)]else[(nx l (fC l i) 65,nx l (nn l (fC l i)) 65,0)]:=rfl
  by_cases g:nx l (nn l (nn l (fC l i))) 3=0
  .have d:(nx l (nn l (nn l (fC l i))) 3==0)=true:=by simp[g]
   rw[T6 g]at c;rw[c]at n;rw[n]at o;refine GT (zAe @vE.eq_1 g2 e g3 a g5 f p b m y j @hS x (zAb v1 v2 v4 v5 g d (show(i+1+1)*40<=140737488355328 by omega) (show i<=9223372036854775805 by omega))) ?_
   all_goals simp[o]
  .have d:(nx l (nn l (nn l (fC l i))) 3==0)=false:=by simp[g]
   rw[TZ g]at c;rw[c]at n;rw[n]at o;refine GT (zAe @vE.eq_1 g2 e g3 a g5 f p b m y j @hS x (zAb v1 v2 v4 v5 g d (show(i+1+1)*40<=140737488355328 by omega) (show i<=9223372036854775805 by omega))) ?_
   all_goals simp[o]
 .have q:i=ql l:=by omega
  subst q;refine GT (zAb g2 e g3 a g5 f p (gA b x)) ?_
  all_goals simp[fS]
def ET(a b:Int):Int:=if a.tmod b<0 then wr (wr (a.tdiv b)-1)else wr (a.tdiv b)
def Hw(a b:Int):Int:=if 0<a.tmod b then wr (wr (a.tdiv b)+1)else wr (a.tdiv b)
theorem EU(a b:Int)(c:b≠0):aO 155 (Z a) (Z b) (Z (ET a b)):=by
 refine Dp func155 λC hP hN=>?_
 with_reducible repeat' (first|refine Sp.h ?_|((first|refine Ss.h ?_|(refine Sb.h ?_ ?_ ?_<;>(try intro hgd)<;>try exact Xy))<;>simp -implicitDefEqProofs (maxSteps:=2000000) [hP,hN,c])|refine X2 ?_ ?_|(refine Xd ?_ ?_<;>intro hcd<;>try exact Xx))
 all_goals (first|(simp_all[ET];done)|((try simp_all[ET])<;>(try omega)<;>grind))
theorem Dl(a b:Int)(c:b≠0):aO 226 (Z a) (Z b) (Z (Hw a b)):=by
 refine Dp func226 λC hP hN=>?_
 with_reducible repeat' (first|refine Sp.h ?_|((first|refine Ss.h ?_|(refine Sb.h ?_ ?_ ?_<;>(try intro hgd)<;>try exact Xy))<;>simp -implicitDefEqProofs (maxSteps:=2000000) [hP,hN,c])|refine X2 ?_ ?_|(refine Xd ?_ ?_<;>intro hcd<;>try exact Xx))
 all_goals (first|(simp_all[Hw];done)|((try simp_all[Hw])<;>(try omega)<;>grind))
theorem tw{k:Int}(c:0<b)(h1:k*b<=a)(d:a<(k+1)*b):a/b=k:=by
 have:=(Wn c).2 h1;have:=(Wo c).2 d;omega
theorem EV{B:Int}(c:0<b)(d:0<=B)(h1:-B<=a)(e:a<=B):-B<=a/b/\a/b<=B:=by
 constructor
 .refine(Wn c).2 ?_
  have:B*1<=B*b:=U5 (by omega) d;rw[Wv];omega
 .have f:a/b<B+1:=(Wo c).2 (by
   have:(B+1)*1<=(B+1)*b:=U5 (by omega) (by omega)
   omega)
  omega
theorem tx(c:0<b)(h1:-4611686018427387904<=a)(d:a<=4611686018427387904):ET a b=a/b:=by
 have hq:=Wr a b;have g:-b<a.tmod b:=Wa a c;have i:a.tmod b<b:=VL a c;have f:=EV (a:=a) (b:=b) (B:=4611686018427387904) c (by decide) h1 d;rw[Int.mul_comm]at hq;unfold ET;split
 .have e:a/b=a.tdiv b-1:=tw c (by rw[Int.sub_mul];omega) (by rw[show a.tdiv b-1+1=a.tdiv b by omega];omega)
  rw[aa (n:=a.tdiv b) (by omega) (by omega),aa (by omega) (by omega),e]
 .have e:a/b=a.tdiv b:=tw c (by omega) (by rw[Int.add_mul];omega)
  rw[aa (n:=a.tdiv b) (by omega) (by omega),e]
theorem rU(c:0<b)(h1:-4611686018427387904<=a)(f:a<=4611686018427387904):Hw a b=dM a b:=by
 have hq:=Wr a b;have g:-b<a.tmod b:=Wa a c;have i:a.tmod b<b:=VL a c;have d:=EV (a:=-a) (b:=b) (B:=4611686018427387904) c (by decide) (by omega) (by omega);rw[Int.mul_comm]at hq;unfold Hw dM;split
 .have e:-a/b=-a.tdiv b-1:=tw c (by rw[Int.sub_mul,Wv];omega) (by rw[show -a.tdiv b-1+1=-a.tdiv b by omega,Wv];omega)
  rw[aa (n:=a.tdiv b) (by omega) (by omega),aa (by omega) (by omega),e];omega
 .have e:-a/b=-a.tdiv b:=tw c (by rw[Wv];omega) (by rw[Int.add_mul,Wv];omega)
  rw[aa (n:=a.tdiv b) (by omega) (by omega),e];omega
theorem ME(x:Int×Int):bk 101 (aP x) (Z (jr x)):=by
 cases a:aw x.1 x.2 with
 |false=>
  have b:jr x=0:=by simp[jr,a]
  rw[b];refine Dp func101 λC hP hN=>?_;have d:=@oA;exact GS a
 |true=>
  have c:=em.1 a
  have b:jr x=ET (wr (x.1+x.2)) 2:=by
   rw[jr,a];simp only[Ui];rw[aa (by omega) (by omega),tx (by decide) (by omega) (by omega),Int.fdiv_eq_ediv_of_nonneg _ (by decide)]
  rw[b];refine Dp func101 λC hP hN=>?_
  with_reducible repeat' (first|refine Sp.h ?_|((first|refine Ss.h ?_|refine Sc.h (oA _ _) ?_|refine Sc.h (EU _ _ (by decide)) ?_|(refine Sb.h ?_ ?_ ?_<;>(try intro hgd)<;>try exact Xy))<;>simp -implicitDefEqProofs (maxSteps:=2000000) [hP,hN,a])|refine X2 ?_ ?_|(refine Xd ?_ ?_<;>intro hcd<;>try exact Xx))
theorem li.trans{a b c:List Iv}(h:li a b)(g:li b c):li a c:=by
 refine⟨h.1.trans g.1,λk x z d i=>?_⟩;have f:k<a.length:=(th.1 d).1;have e:b[k]?=some (b[k]'(by rw[<-h.1];exact f)):=an _;exact(h.2 k x _ d e).trans (g.2 k _ z e i)
theorem li.valid{a b:List Iv}(h:li a b):∀x∈a,aw x.1 x.2=true:=λx e=>by
 obtain⟨k,d⟩:=Uy e;have c:k<a.length:=(th.1 d).1;exact(h.2 k x _ d (an (by rw[<-h.1];exact c))).vx
theorem vP(js:List J)(ms:List Ms)(l:Int)(a:js.length<=9223372036854775807):aO 117 (gP js ms) (Z l) (B (dJ js.length l)):=by
 refine Dp func117 λC hP hN=>?_
 with_reducible repeat' (first|refine Sp.h ?_|((first|refine Ss.h ?_|(refine Sb.h ?_ ?_ ?_<;>(try intro hgd)<;>try exact Xy))<;>simp -implicitDefEqProofs (maxSteps:=2000000) [hP,hN])|refine X2 ?_ ?_|(refine Xd ?_ ?_<;>intro hcd<;>try exact Xx))
 all_goals (simp only[dJ,L4,Uc]at *;first|done|(simp;intros;omega)|(simp;omega)|omega)
theorem P0(a b:Bool):ao prog (Op.equal 4 (.bool a) (.bool b))=some (a==b):=by cases a<;>cases b<;>kernel_rfl
def J8(x:AV):Option Bool:=match x with
 |.pv (.val (.bool a))=>some a
 |_=>none
theorem C5{x:AV}{a:Bool}(h:J8 x=some a):x=.pv (B a):=by
 unfold J8 at h;split at h
 .injection h with h;subst h;rfl
 .cases h
def FQ(x y:AV)(fb:Option cX):Option cX:=match J8 x,J8 y with
 |some a,some b=>some (.pv (.val (.bool !(a==b))),[])
 |_,_=>fb
@[simp] theorem NT(a b:Bool)(fb:Option cX):FQ (.pv (.val (.bool a))) (.pv (.val (.bool b))) fb=some (.pv (.val (.bool !(a==b))),[]):=rfl
@[simp] theorem TO(x y:Operand):
 bF prog ⟨dst,.binOp .neq 4 x y 4,ty,pos,aft,g⟩ ρ=FQ (ρ x) (ρ y) (jv prog ⟨dst,.binOp .neq 4 x y 4,ty,pos,aft,g⟩ ρ):=by
 unfold FQ;split
 .rename_i a b c d
  exact DG rfl (C5 c) (C5 d) (by kernel_rfl) (P0 a b)
 .rfl
def kL(xs:List Int)(x:Int):Bool:=xs.any (λy=>y==x)
theorem Mg(xs:List Int)(x:Int)(m:xs.length<=9223372036854775807):aO 287 (zs xs) (Z x) (B (kL xs x)):=by
 have hd:kL xs x=xs.any (λy=>y==x):=rfl;rw[hd];refine Dp func287 λC hP hN=>?_;refine Gz ?_;refine WP.loopN [] xs.length (λi st=>st.t 0=.pv (zs xs)/\st.t 1=.pv (Z x)/\st.t 5=.pv (Z i)/\∀k y,k<i->xs[k]?=some y->(y==x)=false) (by simp) ?_;rintro i st hi ⟨g0,g1,g5,hq⟩;by_cases a:i<xs.length
 .have n:=am a m
  generalize d:xs[i]=v at *
  have f:xs[i]?=some v:=by rw[an a,d]
  have c:=FU (p:=λy=>y==x) f hq;have j:=I3 (p:=λy=>y==x) f
  cases e:(v==x)with
  |true=>
   have g:=j e;exact Gy
  |false=>
   have b:=c e;refine Gz ?_
   all_goals (intro k y l g;simpa using b k y l g)
 .have hn:=I4 hq a
  exact Gy
def sQ(js:List J)(k:Int):Int:=((js[k.toNat]?).map J.parent).getD (-1)
def gl(js:List J):Nat->Int->List Int
 |0,_=>[]
 |f+1,k=>if k=-1 then[]else gl js f (sQ js k)++[k]
theorem wN(b:rP js){k:Int}(c:0<=k)(h1:k<js.length):∃j,js[k.toNat]?=some j/\sQ js k=j.parent/\-1<=j.parent/\j.parent<k:=by
 have a:js[k.toNat]?=some (js[k.toNat]'(by omega)):=an _;have:=b _ _ a;unfold Au at this;refine⟨_,a,by simp[sQ,a],by omega,by omega⟩
theorem C6{js:List J}(e:rP js):∀(f:Nat)(k:Int),-1<=k->k<js.length->(k+1).toNat<=f->gl js (f+1) k=gl js f k
 |0,k,g,d,hf=>by
  have:k=-1:=by omega
  subst this;simp[gl]
 |f+1,k,g,d,hf=>by
  by_cases c:k=-1
  .subst c;simp[gl]
  .obtain⟨j,_,hp,a,b⟩:=wN e (by omega) d
   rw[gl,TZ c,C6 e f (sQ js k) (by omega) (by omega) (by omega),gl,TZ c]
theorem C7(c:rP js)(e:js.length<=10){k:Int}(d:0<=k)(h1:k<js.length):gl js 11 k=gl js 11 (sQ js k)++[k]:=by
 obtain⟨j,_,hp,a,b⟩:=wN c d h1;rw[gl,TZ (by omega),C6 c 10 (sQ js k) (by omega) (by omega) (by omega)]
theorem At{js:List J}:∀(f:Nat)(k:Int),(gl js f k).length<=f
 |0,k=>by simp[gl]
 |f+1,k=>by
  have:=At (js:=js) f (sQ js k);rw[gl];split
  .simp
  .simp;omega
theorem Mh(js:List J)(ms:List Ms)(l:Int)(F:js.length<=10)(G:ms.length<=9223372036854775807)(u:aW js ms=0)(y:dJ js.length l=true):aO 286 (gP js ms) (Z l) (zs (gl js 11 l)):=by
 have D:=xq js ms (by omega) G;have B:=vP js ms l (by omega);rw[u]at D;rw[y]at B;obtain⟨x,_,_⟩:=sB u;simp only[dJ,An,L4]at y;refine Dp func286 λC hP hN=>?_;refine Gz ?_;refine WP.nilsl 5 (by simp) ?_;refine WP.loopN [26] (l+1).toNat (λi st=>∃(A:List Int)(k:Int),st.t 2=.ptr 2 0/\st.h 2=some (.box [.pv (.sl (js.map bR)),.pv (.sl (ms.map dC))] true false)/\st.t 5=.pv (zs A)/\st.t 6=.pv (Z k)/\st.h 26=none/\st.h 28=none/\gl js 11 k++A=gl js 11 l/\-1<=k/\k<js.length/\(k+1).toNat+i<=(l+1).toNat/\A.length<=i) ⟨[],l,by simp;omega⟩ ?_;rintro i st hi ⟨A,k,g2,f,g5,s,b,c,p,K,z,L,E⟩;by_cases a:k=-1
 .subst a
  have q:A=gl js 11 l:=by rw[<-p];simp[gl]
  subst q;exact Gy
 .obtain⟨j,m,hp,H,pb⟩:=wN x (by omega) z
  have d:(k != -1)=true:=by simp[a]
  obtain⟨n,rfl⟩:∃n:Nat,k=n:=⟨k.toNat,by omega⟩
  have g:n<js.length:=by omega
  have o:∀h,js[n]'h=j:=λh=>by rw[Uh,an h]at m;exact UJ m
  rw[Uh]at m;have r:=C7 x F (k:=n) (by omega) z;rw[r,U4,hp]at p
  have v:A.length<=9:=by omega
  have I:(A.map Z).length=A.length:=by simp
  with_reducible iterate 8 any_goals (first|refine Sp.h ?_|((first|refine Wh [26] ?_|refine Ss.h ?_|(refine Sb.h ?_ ?_ ?_<;>(try intro hgd)<;>try exact Xy))<;>simp -implicitDefEqProofs (maxSteps:=2000000) [hP,hN,g2,f,g5,s,b,c,a,d,m,o,g,show(1+A.length)*8<=140737488355328 by omega,show(A.length+1)*8<=140737488355328 by omega,show 1+A.length<=9223372036854775807 by omega,show A.length+1<=9223372036854775807 by omega])|refine X2 ?_ ?_|(refine Xd ?_ ?_<;>intro hcd<;>try exact Xx))
  refine WP.freeze 5 (k:=26) (e:=3) (sz:=1) (fz:=0) (xs:=((n:Int)::A).map Z) (by simp) (by simp;omega) ?_;refine GT (zAc g2 f g5 s b c a d m (gA o g)) ?_;exact⟨by omega,(n:Int)::A,by simp,by simpa using p,H,by omega,by omega,by simp;omega⟩
def Hl(js:List J)(a b:Int)(k:Nat):Bool:=kL (gl js 11 a) k !=kL (gl js 11 b) k
def qp(js:List J)(a b:Int)(n:Nat):List Int:=((List.range n).filter (Hl js a b)).map Int.ofNat
theorem IQ(js:List J)(a b:Int)(n:Nat):qp js a b (n+1)=qp js a b n++(if Hl js a b n=true then[(n:Int)]else[]):=by
 simp only[qp,Vn,VK,V0]
 congr 1
 cases h:Hl js a b n<;>simp[h]
theorem EL(js:List J)(a b:Int)(n:Nat):(qp js a b n).length<=n:=by
 simp only[qp,Uu];exact VJ (Wq _ _) (by simp)
theorem P1(js:List J)(ms:List Ms)(a b:Int)(u:js.length<=10)(n:ms.length<=9223372036854775807)(l:aW js ms=0)(r:dJ js.length a=true)(s:dJ js.length b=true):mm 264 (gP js ms) (Z a) (Z b) (zs (qp js a b js.length)):=by
 have B:=xq js ms (by omega) n;have y:=vP js ms a (by omega);have z:=vP js ms b (by omega);have F:=Mh js ms a u n l r;have G:=Mh js ms b u n l s;have H:=At (js:=js) 11 a;have I:=At (js:=js) 11 b;rw[l]at B;rw[r]at y;rw[s]at z;refine Dp func264 λC hP hN=>?_;refine sh [9] trivial ?_;refine WP.loopN [] js.length (λi st=>st.t 3=.ptr 3 0/\st.h 3=some (.box [.pv (.sl (js.map bR)),.pv (.sl (ms.map dC))] true false)/\st.t 7=.pv (zs (gl js 11 a))/\st.t 8=.pv (zs (gl js 11 b))/\st.t 10=.pv (Z i)/\st.t 9=.arr 9 (qp js a b i).length/\st.h 9=some (.row 3 1 ((qp js a b i).map Z) 0)) (by simp[qp]) ?_;rintro i st hi ⟨g3,f,o,p,e,q,g⟩;by_cases d:i<js.length
 .have v:=am d (by omega)
  have hS:=IQ js a b i;have hL:=EL js a b i;have hd:Hl js a b i=(kL (gl js 11 a) i !=kL (gl js 11 b) i):=rfl;have j:=Mg (gl js 11 a) i (by omega);have k:=Mg (gl js 11 b) i (by omega)
  have c:(i:Int)<(js.length:Int):=by omega
  generalize gl js 11 a=A at *;generalize gl js 11 b=x at *;cases D:kL A i<;>cases E:kL x i<;>rw[D]at j hd<;>rw[E]at k hd<;>rw[hd]at hS<;>simp only[bne_self_eq_false,T3,Ud,V7,show(true !=false)=true from rfl,show(false !=true)=true from rfl,Ui]at hS
  all_goals (generalize qp js a b i=P at *;rw[hS])
  .skip
   exact Gy
  .skip
   with_reducible repeat' (first|refine Sp.h ?_|((first|refine Wd ?_|refine Ss.h ?_|refine Sc.h (j) ?_|refine Sc.h (k) ?_|(refine Sb.h ?_ ?_ ?_<;>(try intro hgd)<;>try exact Xy))<;>simp -implicitDefEqProofs (maxSteps:=2000000) [hP,hN,g3,f,o,p,e,q,g,d,c,v,show(P.length+1)*8<=140737488355328 by omega,show P.length<=9223372036854775806 by omega]<;>try refine Ya ?_)|refine X2 ?_ ?_|(refine Xd ?_ ?_<;>intro hcd<;>try exact Xx))
  .skip
   with_reducible repeat' (first|refine Sp.h ?_|((first|refine Wd ?_|refine Ss.h ?_|refine Sc.h (j) ?_|refine Sc.h (k) ?_|(refine Sb.h ?_ ?_ ?_<;>(try intro hgd)<;>try exact Xy))<;>simp -implicitDefEqProofs (maxSteps:=2000000) [hP,hN,g3,f,o,p,e,q,g,d,c,v,show(P.length+1)*8<=140737488355328 by omega,show P.length<=9223372036854775806 by omega]<;>try refine Ya ?_)|refine X2 ?_ ?_|(refine Xd ?_ ?_<;>intro hcd<;>try exact Xx))
  .skip
   exact Gy
 .have m:i=js.length:=by omega
  subst m;exact Gy
def pL(js:List J)(k:Nat):Bool:=match js[k]? with
 |some j=>decide (j.lo<j.hi)
 |none=>false
def uW(js:List J)(a b:Int):Bool:=(qp js a b js.length).all λk=>!pL js k.toNat
theorem P2(js:List J)(ms:List Ms)(a b:Int)(L:js.length<=10)(D:ms.length<=9223372036854775807)(u:aW js ms=0)(y:dJ js.length a=true)(z:dJ js.length b=true):mm 219 (gP js ms) (Z a) (Z b) (B (uW js a b)):=by
 have G:=xq js ms (by omega) D;have E:=vP js ms a (by omega);have F:=vP js ms b (by omega);have Q:=P1 js ms a b L D u y z;have R:=EL js a b js.length;rw[u]at G;rw[y]at E;rw[z]at F;have hd:uW js a b=(qp js a b js.length).all λk=>!pL js k.toNat:=rfl
 have f:∀x∈qp js a b js.length,∃n:Nat,x=n/\n<js.length:=λx d=>by
  simp only[qp,Uo,U1,UE]at d;obtain⟨n,hn,rfl⟩:=d;exact⟨n,rfl,hn.1⟩
 rw[hd];generalize qp js a b js.length=P at *;refine Dp func219 λC hP hN=>?_;refine Gz ?_;refine WP.loopN [] P.length (λi st=>st.t 3=.ptr 3 0/\st.h 3=some (.box [.pv (.sl (js.map bR)),.pv (.sl (ms.map dC))] true false)/\st.t 7=.pv (zs P)/\st.t 8=.pv (Z i)/\∀k x,k<i->P[k]?=some x->(!pL js x.toNat)=true) (by simp) ?_;rintro i st hi ⟨g3,H,M,N,hq⟩;by_cases c:i<P.length
 .have O:=am c (by omega)
  obtain⟨n,s,o⟩:=f P[i] (Ul c);generalize r:P[i]=v at *
  have d:P[i]?=some v:=by rw[an c,r]
  have q:=m9 (p:=λk=>!pL js k.toNat) d hq;subst s;obtain⟨j,m⟩:∃j,js[n]?=some j:=⟨_,an o⟩
  have I:∀h,js[n]'h=j:=λh=>by rw[an h]at m;exact UJ m
  have g:pL js n=decide (j.lo<j.hi):=by simp[pL,m]
  by_cases A:j.lo<j.hi
  .have e:(P.all λk=>!pL js k.toNat)=false:=by
    rw[Vw];exact⟨_,Is d,by simp[g,A]⟩
   exact Gy
  .have l:=q (by simp[g,A])
   refine Gz ?_
   all_goals (intro k x K d;simpa using l k x K d)
 .have e:(P.all λk=>!pL js k.toNat)=true:=oX hq c
  exact Gy
theorem P3(s:Sce)(a b:Int)(D:s.sks.length<=9223372036854775807):mm 220 (gb s) (Z a) (Z b) (B (ki s a b)):=by
 have o:ki s a b=s.sks.any (vT a b):=rfl;rw[o];refine Dp func220 λC hP hN=>?_;refine Gz ?_;refine WP.loopN [8] s.sks.length (λi st=>st.t 3=.ptr 3 0/\st.h 3=some (.box [.pv (.sl (s.js.map bR)),.pv (.sl (s.ms.map dC)),.pv (.sl (s.shs.map dc)),.pv (.sl (s.sks.map aP))] true false)/\st.t 1=.pv (Z a)/\st.t 2=.pv (Z b)/\st.t 7=.pv (Z i)/\st.h 8=none/\∀k x,k<i->s.sks[k]?=some x->vT a b x=false) (by simp) ?_;rintro i st hi ⟨g3,m,g1,g2,A,n,hq⟩;by_cases c:i<s.sks.length
 .have E:=am c D
  have d:(i:Int)<(s.sks.length:Int):=by omega
  generalize j:s.sks[i]=v at *
  have f:s.sks[i]?=some v:=by rw[an c,j]
  have e:=FU (p:=vT a b) f hq;have l:=I3 (p:=vT a b) f;have hp:vT a b v=((v.1==a&&v.2==b)||(v.1==b&&v.2==a)):=rfl;cases q:(v.1==a)<;>cases r:(v.2==b)<;>cases y:(v.1==b)<;>cases z:(v.2==a)<;>rw[q,r,y,z]at hp<;>simp only[Vi,Vl,UB,Bool.or_false,Bool.false_or,Bool.or_self,Bool.or_true,Bool.true_or]at hp
  all_goals (first|(have g:=e hp;clear e l)|(have G:=l hp;clear e l))
  all_goals
   with_reducible repeat' (first|refine Sp.h ?_|((first|refine Ss.h ?_|(refine Sb.h ?_ ?_ ?_<;>(try intro hgd)<;>try exact Xy))<;>simp -implicitDefEqProofs (maxSteps:=2000000) [hP,hN,g3,m,g1,g2,A,n,c,d,E,f,j,q,r,y,z])|refine X2 ?_ ?_|(refine Xd ?_ ?_<;>intro hcd<;>try exact Xx))
  all_goals (first|exact λk u v F f=>g k (u,v) (by omega) f|exact⟨_,_,Is f,hp⟩)
 .have:=I4 hq c
  have d:¬(i:Int)<(s.sks.length:Int):=by omega
  exact Gy
theorem J9(s:Sce)(hs:ScL s):bk 58 (gb s) (Z (aZ s)):=by
 have Y:=xq s.js s.ms hs.js hs.ms;obtain⟨Q,l2,l3,l4,l5⟩:=hs;by_cases H:aW s.js s.ms=0
 case neg=>
  have hf:aZ s=aW s.js s.ms:=by simp[aZ,H]
  have ad:(aW s.js s.ms !=0)=true:=by simp[H]
  rw[hf];generalize aW s.js s.ms=r at *;refine Dp func58 λC hP hN=>?_;exact Gy
 rw[H]at Y;by_cases V:24<s.shs.length
 .have hf:aZ s=901:=by simp[aZ,H,V]
  have N:(24:Int)<s.shs.length:=by omega
  rw[hf];refine Dp func58 λC hP hN=>?_;exact Gy
 have N:¬(24:Int)<s.shs.length:=by omega
 have hf:aZ s=if gY s.js.length s.shs≠0 then gY s.js.length s.shs else if 64<s.sks.length then 903 else if s.sks.all (kM s.js.length)=true then 0 else 903:=by simp only[aZ,H,V,Ud,ne_eq,Vs]
 rw[hf];refine Dp func58 λC hP hN=>?_;refine Gz ?_;refine WP.loopN [5] s.shs.length (λi st=>st.t 1=.ptr 1 0/\st.h 1=some (.box [.pv (.sl (s.js.map bR)),.pv (.sl (s.ms.map dC)),.pv (.sl (s.shs.map dc)),.pv (.sl (s.sks.map aP))] true false)/\st.t 4=.pv (Z i)/\st.h 5=none/\∀k x,k<i->s.shs[k]?=some x->dG s.js.length x=0) (by simp) ?_;rintro i st hi ⟨g1,o,g4,E,hq⟩;by_cases g:i<s.shs.length
 .have W:=am g l3
  have l:(i:Int)<(s.shs.length:Int):=by omega
  have q:=uX (n:=s.js.length) g hq;have y:=λhe=>m9 (p:=λx=>dG s.js.length x==0) (an g) (λk x D u=>by simp[hq k x D u]) he;generalize B:s.shs[i]=v at *
  have u:s.shs[i]?=some v:=by rw[an g,B]
  have U:=vP s.js s.ms v.link Q;have T:=Ft v.rad 1 1048576;have lv:=l5 v (Is u)
  cases D:dJ s.js.length v.link with
  |false=>
   have e:dG s.js.length v=902:=by simp[dG,D]
   have d:=q (by rw[e];decide);rw[e]at d;rw[D]at U;exact Gy
   all_goals simp[d]
  |true=>
   rw[D]at U
   cases K:bu v.rad 1 1048576 with
   |false=>
    have e:dG s.js.length v=902:=by
     unfold dG;rw[TZ];simp only[bu]at K;simp only[An,L4];simp at K;omega
    have d:=q (by rw[e];decide);rw[e]at d;rw[K]at T;exact Gy
    all_goals simp[d]
   |true=>
    rw[K]at T;by_cases h3:(v.pts.length:Int)<1
    .have e:dG s.js.length v=902:=by
      unfold dG;rw[TZ];simp only[An,L4];omega
     have d:=q (by rw[e];decide);rw[e]at d;exact Gy
     all_goals simp[d]
    by_cases h4:(8:Int)<v.pts.length
    .have e:dG s.js.length v=902:=by
      unfold dG;rw[TZ];simp only[An,L4];omega
     have d:=q (by rw[e];decide);rw[e]at d;exact Gy
     all_goals simp[d]
    have ar:¬v.pts.length<1:=by omega
    have a1:¬8<v.pts.length:=by omega
    have e:dG s.js.length v=if v.pts.all (aC 4194304)=true then 0 else 805:=by
     unfold dG;rw[T6];simp only[bu,An,L4]at K|-;exact⟨⟨⟨⟨D,by omega⟩,by omega⟩,by omega⟩,by omega⟩
    rw[e]at q y;refine Gz ?_;refine WP.loopN [] v.pts.length (λk st=>st.t 1=.ptr 1 0/\st.h 1=some (.box [.pv (.sl (s.js.map bR)),.pv (.sl (s.ms.map dC)),.pv (.sl (s.shs.map dc)),.pv (.sl (s.sks.map aP))] true false)/\st.t 4=.pv (Z i)/\st.t 5=.ptr 5 0/\st.h 5=some (.box [.pv (Z v.link),.pv (Z v.rad),.pv (aV v.pts)] true false)/\st.t 6=.pv (Z k)/\∀j x,j<k->v.pts[j]?=some x->aC 4194304 x=true) (by simp[g1,o,g4]) ?_;clear g1 o g4 E;rintro k st a5 ⟨g1,o,g4,g5,E,g6,hn⟩;by_cases F:k<v.pts.length
    .have a6:=am F lv
     have J:(k:Int)<(v.pts.length:Int):=by omega
     generalize P:v.pts[k]=p at *
     have X:v.pts[k]?=some p:=by rw[an F,P]
     have M:=rB p.1 p.2.1 p.2.2 4194304 (by decide) (by decide);have O:aC 4194304 p=gS p.1 p.2.1 p.2.2 4194304:=rfl;rw[<-O]at M;have L:=m9 (p:=aC 4194304) X hn
     cases z:aC 4194304 p with
     |true=>
      rw[z]at M;have m:=L z;refine Gz ?_
      all_goals (intro j a b c hj G;exact m j (a,b,c) (by omega) G)
     |false=>
      rw[z]at M
      have f:v.pts.all (aC 4194304)=false:=by
       rw[Vw];exact⟨p,Is X,by simp[z]⟩
      rw[f]at q;have d:=q (by decide);simp only[T3,Ud]at d;exact Gy
      all_goals simp[d]
    .have f:v.pts.all (aC 4194304)=true:=oX hn F
     have J:¬(k:Int)<(v.pts.length:Int):=by omega
     rw[f]at y
     have m:∀k x,k<i+1->s.shs[k]?=some x->dG s.js.length x=0:=λk x D u=>by simpa using y (by simp) k x D u
     refine Gz ?_
     all_goals exact m
 .have hz:gY s.js.length s.shs=0:=rO (λk x u=>hq k x (by have:=(th.1 u).1;omega) u)
  have l:¬(i:Int)<(s.shs.length:Int):=by omega
  rw[hz];by_cases a2:64<s.sks.length
  .have I:(64:Int)<s.sks.length:=by omega
   exact Gy
  .have I:¬(64:Int)<s.sks.length:=by omega
   refine Gz ?_;refine WP.loopN [] s.sks.length (λi st=>st.t 1=.ptr 1 0/\st.h 1=some (.box [.pv (.sl (s.js.map bR)),.pv (.sl (s.ms.map dC)),.pv (.sl (s.shs.map dc)),.pv (.sl (s.sks.map aP))] true false)/\st.t 7=.pv (Z i)/\∀k x,k<i->s.sks[k]?=some x->kM s.js.length x=true) (by simp[g1,o]) ?_;clear g1 o g4 E hq g l;rintro i st hi ⟨g1,o,g7,hq⟩;by_cases g:i<s.sks.length
   .have W:=am g l4
    have l:(i:Int)<(s.sks.length:Int):=by omega
    generalize B:s.sks[i]=v at *
    have u:s.sks[i]?=some v:=by rw[an g,B]
    have y:=m9 (p:=kM s.js.length) u hq;have hp:kM s.js.length v=(dJ s.js.length v.1&&dJ s.js.length v.2):=rfl;have R:=vP s.js s.ms v.1 Q;have S:=vP s.js s.ms v.2 Q
    cases z:kM s.js.length v with
    |true=>
     have A:=hp;rw[z]at A;simp only[Bool.true_eq,An]at A;rw[A.1]at R;rw[A.2]at S;have m:=y z;refine Gz ?_
     all_goals (intro j a b hj G;exact m j (a,b) (by omega) G)
    |false=>
     have f:s.sks.all (kM s.js.length)=false:=by
      rw[Vw];exact⟨v,Is u,by simp[z]⟩
     rw[f];rw[z]at hp
     cases k1:dJ s.js.length v.1<;>cases k2:dJ s.js.length v.2<;>rw[k1]at R hp<;>rw[k2]at S hp<;>try (exact absurd hp (by decide))
     all_goals
      exact GS (zAb g1 o g7 g l W u B)
   .have f:s.sks.all (kM s.js.length)=true:=oX hq g
    have l:¬(i:Int)<(s.sks.length:Int):=by omega
    rw[f];exact Gy
theorem Hm{j:J}(h:cO js i j=0):j.lo<=j.hi:=by
 unfold cO at h
 repeat' split at h
 all_goals (try (cases h;done))
 all_goals omega
theorem DX(h:aW js ms=0):∀(i:Nat) j,js[i]?=some j->j.lo<=j.hi:=by
 unfold aW at h;split at h
 .cases h
 .split at h
  .rename_i c;exact absurd h c
  .rename_i k
   intro i j b
   have a:jG js=0:=by simpa using k
   rw[pI]at a;by_cases d:cO js i j=0
   .exact Hm d
   .exfalso
    cases hf:(js.mapIdx (cO js)).find? (λe=>e !=0)with
    |none=>
     rw[U9]at hf
     have l:cO js i j∈js.mapIdx (cO js):=by
      rw[List.mem_mapIdx];obtain⟨f,g⟩:=th.1 b;exact⟨i,f,by rw[g]⟩
     exact hf _ l (by simpa using d)
    |some e=>
     rw[hf]at a;have:=VM hf;simp only at a;rw[a]at this;simp at this
def tn(js:List J)(n:Nat):Int:=((kO js)[n]?).getD 0
theorem IR(js:List J):tn js 0=-1:=by
 have h:=rR (js:=js) (k:=0) js.length (UO _) (T8 _) 0 (T8 _)
 have:(kO js)[0]?=some (-1):=by rw[kO,h];rfl
 simp[tn,this]
theorem IS(a:rP js){j:J}(h:js[n]?=some j):tn js (n+1)=if j.lo=j.hi then tn js (j.parent+1).toNat else(n:Int):=by
 have:=EO h (a n j h);simp[tn,this]
def oR(js:List J)(l:Int)(k:Nat):Prop:=kL (gl js 11 l) k=true/\pL js k=true
theorem yq{xs:List Int}{x:Int}:kL xs x=true↔x∈xs:=by
 simp[kL]
theorem Hn(js:List J):gl js 11 (-1)=[]:=by simp[gl]
theorem Be(d:rP js)(e:js.length<=10){j:J}(h:js[n]?=some j)(k:Nat):oR js n k↔oR js j.parent k\/(k=n/\pL js n=true):=by
 have f:n<js.length:=(th.1 h).1;have b:=C7 d e (k:=n) (by omega) (by omega)
 have hp:sQ js n=j.parent:=by simp[sQ,h]
 rw[hp]at b;simp only[oR,b,yq,Uf,Uz];constructor
 .rintro⟨c|c,a⟩
  .exact .inl ⟨c,a⟩
  .have:k=n:=by omega
   subst this;exact .inr ⟨rfl,a⟩
 .rintro(⟨c,a⟩|⟨rfl,a⟩)
  .exact⟨.inl c,a⟩
  .exact⟨.inr rfl,a⟩
theorem Mi{j:J}(h:js[n]?=some j)(b:j.lo<=j.hi):pL js n=!decide (j.lo=j.hi):=by
 simp only[pL,h];by_cases a:j.lo=j.hi
 .simp[a]
 .simp[a];omega
theorem C8{js:List J}(e:rP js)(p:js.length<=10)(f:∀(i:Nat) j,js[i]?=some j->j.lo<=j.hi):∀(m n:Nat),n<=m->n<=js.length->(tn js n=-1/\∀k,¬oR js ((n:Int)-1) k)\/(∃c:Nat,tn js n=c/\c<js.length/\oR js ((n:Int)-1) c/\∀k,oR js ((n:Int)-1) k↔oR js c k)
 |m,0,_,_=>by
  left
  refine⟨IR js,λk h=>?_⟩;have:=h.1;rw[show((0:Nat):Int)-1=-1 by omega,Hn]at this;cases this
 |0,n+1,h,_=>by omega
 |m+1,n+1,v,hn=>by
  have d:js[n]?=some (js[n]'(by omega)):=an _;generalize js[n]'(by omega)=j at d;have q:=e n j d;unfold Au at q;have hs:=IS e d;have b:=Mi d (f n j d);rw[show((n+1:Nat):Int)-1=(n:Int) by omega];by_cases g:j.lo=j.hi
  .rw[T6 g]at hs
   simp only[g,VR,Vy]at b
   have a:∀k,oR js n k↔oR js j.parent k:=λk=>by
    rw[Be e p d k,b];simp
   have ih:=C8 e p f m (j.parent+1).toNat (by omega) (by omega);rw[show(((j.parent+1).toNat:Nat):Int)-1=j.parent by omega,<-hs]at ih;rcases ih with⟨l,o⟩|⟨c,l,o,r,s⟩
   .exact .inl ⟨l,λk u=>o k ((a k).1 u)⟩
   .exact .inr ⟨c,l,o,(a c).2 r,λk=>(a k).trans (s k)⟩
  .rw[TZ g]at hs
   simp only[g,decide_false,WH]at b;exact .inr ⟨n,hs,by omega,(Be e p d n).2 (.inr ⟨rfl,b⟩),λk=>Vh⟩
theorem C9{js:List J}(d:rP js):∀(f:Nat)(l:Int),-1<=l->l<js.length->∀x∈gl js f l,0<=x/\x<=l
 |0,l,_,_,x,c=>by cases c
 |f+1,l,g,e,x,c=>by
  rw[gl]at c;split at c
  .cases c
  .obtain⟨j,_,hp,a,b⟩:=wN d (k:=l) (by omega) e
   rcases Uf.1 c with c|c
   .have:=C9 d f (sQ js l) (by omega) (by omega) x c;omega
   .rw[Uz]at c;omega
theorem EM:uW js a b=true↔∀k,k<js.length->pL js k=true->(kL (gl js 11 a) k=kL (gl js 11 b) k):=by
 simp only[uW,qp,TY,Uo,U1,UE];constructor
 .intro h k e d
  cases c:(kL (gl js 11 a) k !=kL (gl js 11 b) k)with
  |false=>simpa using c
  |true=>
   have:=h (k:Int) ⟨k,⟨e,c⟩,rfl⟩;rw[Uh,d]at this;cases this
 .rintro h x ⟨k,⟨e,c⟩,rfl⟩
  cases d:pL js k with
  |false=>rw[show(Int.ofNat k).toNat=k from rfl,d];rfl
  |true=>
   have:=h k e d;simp only[Hl,this,bne_self_eq_false]at c;cases c
theorem Ka(h:pL js k=true):k<js.length:=by
 unfold pL at h;split at h
 .rename_i j a;exact(th.1 a).1
 .cases h
theorem IT(n:aW js ms=0)(q:dJ js.length a=true)(r:dJ js.length b=true):(tn js (a+1).toNat==tn js (b+1).toNat)=uW js a b:=by
 obtain⟨j,o,_⟩:=sB n;have i:=DX n;simp only[dJ,An,L4]at q r;have l:=C8 j o i _ (a+1).toNat (T8 _) (by omega);have m:=C8 j o i _ (b+1).toNat (T8 _) (by omega);rw[show(((a+1).toNat:Nat):Int)-1=a by omega]at l;rw[show(((b+1).toNat:Nat):Int)-1=b by omega]at m
 have e:(tn js (a+1).toNat==tn js (b+1).toNat)=true↔uW js a b=true:=by
  rw[EM,UP]
  have p:(∀k,k<js.length->pL js k=true->(kL (gl js 11 a) k=kL (gl js 11 b) k))↔∀k,oR js a k↔oR js b k:=by
   constructor
   .intro h k
    simp only[oR];constructor
    .rintro⟨g,f⟩;rw[h k (Ka f) f]at g;exact⟨g,f⟩
    .rintro⟨g,f⟩;rw[<-h k (Ka f) f]at g;exact⟨g,f⟩
   .intro h k u s
    have:=h k;simp only[oR,s,WM]at this;cases g:kL (gl js 11 a) k<;>cases f:kL (gl js 11 b) k<;>simp_all
  rw[p];rcases l with⟨a1,a2⟩|⟨c,a1,a2,a3,a4⟩<;>rcases m with⟨b1,b2⟩|⟨d,b1,b2,b3,b4⟩<;>rw[a1,b1]
  .exact⟨λ_ k=>⟨λh=>absurd h (a2 k),λh=>absurd h (b2 k)⟩,λ_=>rfl⟩
  .exact⟨λh=>by omega,λh=>absurd ((h d).2 b3) (a2 d)⟩
  .exact⟨λh=>by omega,λh=>absurd ((h c).1 a3) (b2 c)⟩
  .constructor
   .intro h k
    have:c=d:=by omega
    subst this;rw[a4,b4]
   .intro h
    have g:=(h c).1 a3;have f:=(h d).2 b3;rw[b4]at g;rw[a4]at f;have v:=C9 j 11 d (by omega) (by omega) c (yq.1 g.1);have x:=C9 j 11 c (by omega) (by omega) d (yq.1 f.1);omega
 cases g:(tn js (a+1).toNat==tn js (b+1).toNat)<;>cases f:uW js a b<;>simp_all
theorem IU{s:Sce}(d:aZ s=0){a b:Sh}(g:dJ s.js.length a.link=true)(i:dJ s.js.length b.link=true):BJ s a b=(!(a.link==b.link)&& !uW s.js a.link b.link&& !ki s a.link b.link):=by
 have j:aW s.js s.ms=0:=by
  unfold aZ at d;split at d
  .rename_i h;exact absurd d h
  .rename_i h;simpa using h
 have e:=IT j g i;have c:Av (kO s.js) a b=uW s.js a.link b.link:=e;unfold BJ;rw[c];by_cases f:a.link=b.link
 .have:uW s.js a.link b.link=true:=by
   rw[EM,f];exact λ_ _ _=>rfl
  rw[this];simp
 .have:(a.link==b.link)=false:=by simp[f]
  rw[this];simp
theorem P4(s:Sce)(hs:ScL s):bk 159 (gb s) (.sl ((dB s).map qM)):=by
 have cc:=J9 s hs;have I:=λa b=>P3 s a b hs.sks;by_cases v:aZ s=0
 case neg=>
  have U:(aZ s !=0)=true:=by simp[v]
  have hf:dB s=[]:=by simp[dB,v]
  rw[hf];generalize aZ s=r at *;refine Dp func159 λC hP hN=>?_;exact Gy
 have Y:aW s.js s.ms=0:=by
  unfold aZ at v;split at v
  .rename_i h;exact absurd v h
  .rename_i h;simpa using h
 obtain⟨v1,v2,v3,v4,v5,T,v7⟩:=nD v;have H:=λa b=>P2 s.js s.ms a b v2 hs.ms Y;have R:=λa b=>IU v (a:=a) (b:=b)
 have hf:dB s=jM s s.shs.length:=by simp[dB,v]
 rw[hf];rw[v]at cc;have nL:=wQ s;have iL:=wP s;refine Dp func159 λC hP hN=>?_;refine sh [3] trivial ?_;refine WP.loopN [] s.shs.length (λi st=>st.t 1=.ptr 1 0/\st.h 1=some (.box [.pv (.sl (s.js.map bR)),.pv (.sl (s.ms.map dC)),.pv (.sl (s.shs.map dc)),.pv (.sl (s.sks.map aP))] true false)/\st.t 4=.pv (Z i)/\st.t 3=.arr 3 (jM s i).length/\st.h 3=some (.row 200 2 ((jM s i).map qM) 0)) (by simp[jM]) ?_;rintro i st hi ⟨g1,g,g4,g3,d⟩;by_cases l:i<s.shs.length
 .have hw:=am l (by omega)
  have j:(i:Int)<(s.shs.length:Int):=by omega
  generalize p:s.shs[i]=a at *
  have B:s.shs[i]?=some a:=by rw[an l,p]
  have F:=(T a (Is B)).1;have A:jM s (i+1)=jM s i++lp s i s.shs.length:=rfl;have ad:=nL i;have X:i*s.shs.length<=24*24:=Vj (by omega) (by omega);have J:=Aw s i (i+1) (T8 _);refine Gz ?_;refine WP.loopN [] (s.shs.length-(i+1)) (λq st=>st.t 1=.ptr 1 0/\st.h 1=some (.box [.pv (.sl (s.js.map bR)),.pv (.sl (s.ms.map dC)),.pv (.sl (s.shs.map dc)),.pv (.sl (s.sks.map aP))] true false)/\st.t 4=.pv (Z i)/\st.t 5=.pv (Z ((i+1+q:Nat):Int))/\st.t 3=.arr 3 (jM s i++lp s i (i+1+q)).length/\st.h 3=some (.row 200 2 ((jM s i++lp s i (i+1+q)).map qM) 0)) (by simp[g1,g,g4,g3,d,J]) ?_;clear g1 g g4 g3 d;rintro q st hq ⟨g1,g,g4,g5,g3,d⟩;obtain⟨k,V⟩:∃k,k=i+1+q:=⟨_,rfl⟩
  have O:i+1+(q+1)=k+1:=by omega
  rw[<-V]at g5 g3 d;rw[O];have K:lp s i (k+1)=lp s i k++(if i<k/\gC s i k=true then[(i,k)]else[]):=rfl;have W:=iL i k;by_cases n:k<s.shs.length
  .have e:(k:Int)<(s.shs.length:Int):=by omega
   have y:i64.wrap ((k:Int)+1)=(k:Int)+1:=aa;generalize u:s.shs[k]=b at *
   have D:s.shs[k]?=some b:=by rw[an n,u]
   have G:=(T b (Is D)).1
   have o:gC s i k=(!(a.link==b.link)&& !uW s.js a.link b.link&& !ki s a.link b.link):=by
    simp only[gC,B,D];exact R a b F G
   have cs:=I a.link b.link;have cg:=H a.link b.link F G
   have M:i<k:=by omega
   have S:(jM s i++lp s i k).length<=1000:=by simp only[Uj];omega
   generalize z:jM s i++lp s i k=P at *
   have x:q<s.shs.length-(i+1):=by omega
   have L:jM s i++lp s i (k+1)=P++(if gC s i k=true then[(i,k)]else[]):=by
    rw[K,<-U4,z];simp[M]
   rw[L];generalize ki s a.link b.link=sk at *;generalize uW s.js a.link b.link=rg at *;by_cases f:a.link=b.link
   .have c:gC s i k=false:=by rw[o,f];simp
    rw[c];exact GS (zAe g1 g g4 g5 g3 d n e y B p D u f (be l j x))
   .have m:(a.link !=b.link)=true:=by simp[f]
    have E:(a.link==b.link)=false:=by simp[f]
    rw[E]at o
    cases rg with
    |true=>
     have c:gC s i k=false:=by rw[o];rfl
     rw[c];exact GS (zAe g1 g g4 g5 g3 d n e y B p D u f (it m l j x))
    |false=>
     cases sk with
     |true=>
      have c:gC s i k=false:=by rw[o];rfl
      rw[c];exact GS (zAe g1 g g4 g5 g3 d n e y B p D u f (it m l j x))
     |false=>
      have c:gC s i k=true:=by rw[o];rfl
      rw[c];exact GS (zAe g1 g g4 g5 g3 d n e y B p D u f (s4 m l j x (show(P.length+1)*16<=140737488355328 by omega) (show P.length<=9223372036854775806 by omega)))
  .have Q:k=s.shs.length:=by omega
   have e:¬(k:Int)<(s.shs.length:Int):=by omega
   rw[Q,<-A]at g3 d;exact Gy
 .have N:i=s.shs.length:=by omega
  subst N;exact Gy
theorem Dk{h:Sh}(h1:dJ n h.link=true)(a:1<=h.rad)(b:h.rad<=1048576)(c:1<=h.pts.length)(h5:h.pts.length<=8)(h6:∀p∈h.pts,aC 4194304 p=true):dG n h=0:=by
 unfold dG;rw[T6 (by simp only[An,L4];exact⟨⟨⟨⟨h1,a⟩,b⟩,c⟩,h5⟩),T6 (TY.2 h6)]
theorem Jq(l:List Int):aZ (fS l)=0:=by
 have j:=wI l;have e:=gz l (qb l) (k:=4) (by decide) (by decide)
 have m:ql l<4:=by unfold ql;omega
 have g:aW (fS l).js (fS l).ms=0:=by
  show aW (qi 64 (qj l)) []=0
  have:qj l=1\/qj l=2:=by omega
  rcases this with h|h<;>rw[h]<;>decide +kernel
 have hs:¬24<(fS l).shs.length:=by simp only[fS,yf];omega
 have hf:gY (fS l).js.length (fS l).shs=0:=by
  refine rO λk x e=>?_;have d:=Is e
  have f:(fS l).js.length=qj l:=by simp only[fS,td]
  rw[f];simp only[fS,sP,Uq,Uo]at d;rcases d with rfl|⟨i,_,rfl⟩
  .have a:=gz l (mr l) (k:=4) (by decide) (by decide)
   refine Dk ?_ (by simp only;omega) (by simp only;omega) (by simp) (by simp) (λp hp=>?_)
   .simp only[dJ,An,L4];omega
   .simp only[Uz]at hp
    subst hp
    decide
  .have a:=gz l (nn l (nn l (nn l (fC l i)))) (k:=9) (by decide) (by decide)
   have b:=gz l (fC l i) (k:=65) (by decide) (by decide);have c:=gz l (nn l (fC l i)) (k:=65) (by decide) (by decide);refine Dk ?_ (by simp only[zu];omega) (by simp only[zu];omega) ?_ ?_ (λp hp=>?_)
   .show dJ (qj l) (-1)=true
    simp only[dJ,An,L4];omega
   .simp only[zu,Cs];split<;>simp
   .simp only[zu,Cs];split<;>simp
   .simp only[zu,Cs]at hp
    rw[cD];split at hp
    .simp only[Uq,Uw,UV]at hp
     rcases hp with rfl|rfl
     all_goals simp only[bm];omega
    .simp only[Uz]at hp
     subst hp;simp only[bm];omega
 unfold aZ;rw[TZ (by simp[g]),TZ hs,TZ (by simp[hf]),TZ (by simp[fS]),T6 (by simp[fS])]
def F0(x y z u:AV)(fb:Option cX):Option cX:=match x,y,z,u with
 |.pv (.val (.int .i64 a)),.pv (.val (.int .i64 b)),.pv (.val (.int .i64 c)),.pv (.val (.int .i64 d))=>some (.pv (Z (max a (max b (max c d)))),[])
 |_,_,_,_=>fb
@[simp] theorem NY(a b c d:Int)(fb:Option cX):F0 (.pv (.val (.int .i64 a))) (.pv (.val (.int .i64 b))) (.pv (.val (.int .i64 c))) (.pv (.val (.int .i64 d))) fb=some (.pv (Z (max a (max b (max c d)))),[]):=rfl
@[simp] theorem Ta(x y z u:Operand):
 bF prog ⟨dst,.call ⟨.builtin .max,#[x,y,z,u],ts⟩,ty,pos,aft,g⟩ ρ=F0 (ρ x) (ρ y) (ρ z) (ρ u) (jv prog ⟨dst,.call ⟨.builtin .max,#[x,y,z,u],ts⟩,ty,pos,aft,g⟩ ρ):=by
 unfold F0;split
 .rename_i a b c d f i j e
  refine eh (by simp[Op.operands,Call.operands,f,i,j,e,fp]) ?_;unfold execOp;simp[resolve,invoke,builtin,Builtin.max_,f,i,j,e,qA,fp,Builtin.max2,ah,dW]
  try omega
 .rfl
def F1(x y z u:AV)(fb:Option cX):Option cX:=match x,y,z,u with
 |.pv (.val (.int .i64 a)),.pv (.val (.int .i64 b)),.pv (.val (.int .i64 c)),.pv (.val (.int .i64 d))=>some (.pv (Z (min a (min b (min c d)))),[])
 |_,_,_,_=>fb
@[simp] theorem NZ(a b c d:Int)(fb:Option cX):F1 (.pv (.val (.int .i64 a))) (.pv (.val (.int .i64 b))) (.pv (.val (.int .i64 c))) (.pv (.val (.int .i64 d))) fb=some (.pv (Z (min a (min b (min c d)))),[]):=rfl
@[simp] theorem Tb(x y z u:Operand):
 bF prog ⟨dst,.call ⟨.builtin .min,#[x,y,z,u],ts⟩,ty,pos,aft,g⟩ ρ=F1 (ρ x) (ρ y) (ρ z) (ρ u) (jv prog ⟨dst,.call ⟨.builtin .min,#[x,y,z,u],ts⟩,ty,pos,aft,g⟩ ρ):=by
 unfold F1;split
 .rename_i a b c d f i j e
  refine eh (by simp[Op.operands,Call.operands,f,i,j,e,fp]) ?_;unfold execOp;simp[resolve,invoke,builtin,Builtin.min_,f,i,j,e,qA,fp,Builtin.min2,ah,dW]
  try omega
 .rfl
theorem Je(a:Int):bk 306 (Z a) (Z (fZ a)):=by
 refine Dp func306 λC hP hN=>?_;refine Gz ?_
 all_goals (try simp[fZ])<;>(try omega)
theorem Kc(a b:Int):aO 318 (Z a) (Z b) (I (fZ a) (fZ b)):=by
 have c:=Je a;have d:=Je b;refine Dp func318 λC hP hN=>?_;exact Gy
 all_goals (try simp[fZ])<;>(try omega)
theorem Dr(a:Int):bk 285 (Z a) (I (fZ a) (fZ a)):=by
 have b:=Je a;refine Dp func285 λC hP hN=>?_;exact Gy
 all_goals (try simp[fZ])<;>(try omega)
theorem Ds{c d:Int}:aO 304 (I a b) (I c d) (aP (f7 (a,b) (c,d))):=by
 have v1:=oA a b;have v2:=oA c d;cases e:aw a b<;>cases f:aw c d<;>rw[e]at v1<;>rw[f]at v2
 case true.true=>
  have g:f7 (a,b) (c,d)=(fZ (a+c),fZ (b+d)):=by simp only[f7,e,f,Vi,Ui]
  rw[g];rw[em]at e f;have i:i64.wrap (a+c)=a+c:=aa;have j:i64.wrap (b+d)=b+d:=aa;refine Dp func304 λC hP hN=>?_
  with_reducible repeat' (first|refine Sp.h ?_|((first|refine Ss.h ?_|refine Sc.h (v1) ?_|refine Sc.h (v2) ?_|refine Sc.h (Kc _ _) ?_)<;>simp -implicitDefEqProofs [hP,hN,i,j]))
 all_goals (
  have g:f7 (a,b) (c,d)=(0,0):=by simp[f7,e,f]
  rw[g])
 all_goals
  refine Dp func304 λC hP hN=>?_;exact Gy
theorem Jf:bk 317 (I a b) (aP (iJ (a,b))):=by
 have v1:=oA a b;cases c:aw a b<;>rw[c]at v1
 .have d:iJ (a,b)=(0,0):=by simp[iJ,c]
  rw[d];refine Dp func317 λC hP hN=>?_;exact Gy
 .have d:iJ (a,b)=(-b,-a):=by simp only[iJ,c,Ui]
  rw[d];rw[em]at c;have e:i64.wrap (0-a)=-a:=(aa (n:=0-a) (by omega) (by omega)).trans (by omega);have f:i64.wrap (0-b)=-b:=(aa (n:=0-b) (by omega) (by omega)).trans (by omega);have g:i64.wrap (-a)=-a:=aa;have i:i64.wrap (-b)=-b:=aa;refine Dp func317 λC hP hN=>?_;exact Gy
theorem F2{c d:Int}:aO 305 (I a b) (I c d) (aP (fw (a,b) (c,d))):=by
 have v1:=oA a b;have v2:=oA c d;cases e:aw a b<;>cases f:aw c d<;>rw[e]at v1<;>rw[f]at v2
 case true.true=>
  have j:=em.1 e;have k:=em.1 f;have p:=bQ (a:=a) (b:=c) 2147483648 2147483648 (by omega) (by omega) (by omega) (by omega);have q:=bQ (a:=a) (b:=d) 2147483648 2147483648 (by omega) (by omega) (by omega) (by omega);have r:=bQ (a:=b) (b:=c) 2147483648 2147483648 (by omega) (by omega) (by omega) (by omega);have s:=bQ (a:=b) (b:=d) 2147483648 2147483648 (by omega) (by omega) (by omega) (by omega);have l:i64.wrap (a*c)=a*c:=aa;have m:i64.wrap (a*d)=a*d:=aa;have n:i64.wrap (b*c)=b*c:=aa;have o:i64.wrap (b*d)=b*d:=aa;have i:=EU (min (a*c) (min (a*d) (min (b*c) (b*d)))) 65536 (by decide);have cc:=Dl (max (a*c) (max (a*d) (max (b*c) (b*d)))) 65536 (by decide);rw[tx (by decide) (by omega) (by omega)]at i;rw[rU (by decide) (by omega) (by omega)]at cc
  have g:fw (a,b) (c,d)=(fZ (min (a*c) (min (a*d) (min (b*c) (b*d)))/65536),fZ (dM (max (a*c) (max (a*d) (max (b*c) (b*d)))) 65536)):=by simp only[fw,e,f,Vi,Ui]
  rw[g];refine Dp func305 λC hP hN=>?_
  with_reducible repeat' (first|refine Sp.h ?_|((first|refine Wd ?_|refine Ss.h ?_|refine Sc.h (v1) ?_|refine Sc.h (v2) ?_|refine Sc.h (i) ?_|refine Sc.h (cc) ?_|refine Sc.h (Kc _ _) ?_)<;>simp -implicitDefEqProofs [hP,hN,l,m,n,o]<;>try refine Ya ?_))
 all_goals (
  have g:fw (a,b) (c,d)=(0,0):=by simp[fw,e,f]
  rw[g])
 all_goals
  refine Dp func305 λC hP hN=>?_;exact Gy
theorem Jg(a:Int):bk 328 (Z a) (Z (a%65536)):=by
 have c:a.tmod 65536=a-65536*a.tdiv 65536:=by have:=Wr a 65536;omega
 have d:-65536<a.tmod 65536:=Wa a (by decide);have f:a.tmod 65536<65536:=VL a (by decide);have b:i64.wrap (a.tmod 65536+65536)=a.tmod 65536+65536:=aa
 have e:(a.tmod 65536+65536).tmod 65536=a%65536:=by
  rw[WE (by omega)];omega
 refine Dp func328 λC hP hN=>?_;exact GS (gA b e)
theorem MP(x:Int)(u:0<=x)(h1:x<=8192):bk 339 (Z x) (.tup [BI (λk=>if k=0 then 0 else fq x k),BI (λk=>if k=0 then 0 else ft x k)]):=by
 have w1:i64.wrap (x*6746518852)=x*6746518852:=aa;have w2:i64.wrap (x*6746518853)=x*6746518853:=aa
 have U:bf prog 155 [.pv (Z (x*6746518852)),.pv (Z 65536)] [] [] (.pv (Z (fq x 1))):=by
  have:=EU (x*6746518852) 65536 (by decide);rw[tx (by decide) (by omega) (by omega)]at this;exact this
 have V:bf prog 226 [.pv (Z (x*6746518853)),.pv (Z 65536)] [] [] (.pv (Z (ft x 1))):=by
  have:=Dl (x*6746518853) 65536 (by decide);rw[rU (by decide) (by omega) (by omega)]at this;exact this
 have m1:∀j,i64.wrap (fq x j*fq x 1)=fq x j*fq x 1:=λj=>aa (by have:=tp u h1 j;omega) (by have:=tp u h1 j;omega);have m2:∀j,i64.wrap (ft x j*ft x 1)=ft x j*ft x 1:=λj=>aa (by have:=oU u h1 j;omega) (by have:=oU u h1 j;omega)
 have S:∀j,bf prog 155 [.pv (Z (fq x (j+1)*fq x 1)),.pv (Z 1073741824)] [] [] (.pv (Z (fq x (j+2)))):=λj=>by
  have:=EU (fq x (j+1)*fq x 1) 1073741824 (by decide);have Y:=tp u h1 (j+1);rw[tx (by decide) (by omega) (by omega)]at this;exact this
 have T:∀j,bf prog 226 [.pv (Z (ft x (j+1)*ft x 1)),.pv (Z 1073741824)] [] [] (.pv (Z (ft x (j+2)))):=λj=>by
  have:=Dl (ft x (j+1)*ft x 1) 1073741824 (by decide);have Y:=oU u h1 (j+1);rw[rU (by decide) (by omega) (by omega)]at this;exact this
 generalize hf:fq x=f at *;generalize X:ft x=g at *
 obtain⟨e,r⟩:∃e:Nat->Int,e=λk=>if k=0 then 0 else f k:=⟨_,rfl⟩
 obtain⟨l,s⟩:∃l:Nat->Int,l=λk=>if k=0 then 0 else g k:=⟨_,rfl⟩
 rw[<-r,<-s]
 have p:e 0=0:=by rw[r];rfl
 have q:l 0=0:=by rw[s];rfl
 have Q:∀k,f (k+1)=e (k+1):=λk=>by rw[r];simp
 have R:∀k,g (k+1)=l (k+1):=λk=>by rw[s];simp
 rw[show f 1=e 1 from Q 0]at U m1 S;rw[show g 1=l 1 from R 0]at V m2 T
 have n:∀j,i64.wrap (e (j+1)*e 1)=e (j+1)*e 1:=λj=>by rw[<-Q j];exact m1 _
 have o:∀j,i64.wrap (l (j+1)*l 1)=l (j+1)*l 1:=λj=>by rw[<-R j];exact m2 _
 have d3:∀j,bf prog 155 [.pv (Z (e (j+1)*e 1)),.pv (Z 1073741824)] [] [] (.pv (Z (e (j+2)))):=λj=>by have:=S j;rw[Q j,Q (j+1)]at this;exact this
 have d4:∀j,bf prog 226 [.pv (Z (l (j+1)*l 1)),.pv (Z 1073741824)] [] [] (.pv (Z (l (j+2)))):=λj=>by have:=T j;rw[R j,R (j+1)]at this;exact this
 have v:=n 0;have y:=n 1;have z:=n 2;have A:=n 3;have B:=n 4;have D:=n 5;have E:=n 6;have F:=n 7;have G:=n 8;have H:=o 0;have I:=o 1;have J:=o 2;have K:=o 3;have L:=o 4;have M:=o 5;have N:=o 6;have O:=o 7;have P:=o 8;simp only[Nat.reduceAdd]at v y z A B D E F G H I J K L M N O P;clear n o m1 m2 S T Q R hf X r s;refine Dp func339 λC hP hN=>?_;refine Gz ?_;refine WP.loopN [] 9 (λi st=>st.t 2=.ptr 2 0/\st.t 3=.ptr 3 0/\st.t 4=.ptr 4 0/\st.t 5=.ptr 5 0/\st.t 6=.pv (Z (i+2:Nat))/\st.h 2=some (.box (jq e 0) true false)/\st.h 3=some (.box (jq e 0) true false)/\st.h 4=some (.box (jq e (i+2)) true false)/\st.h 5=some (.box (jq l (i+2)) true false)) (by simp[jq,p,q]) ?_;rintro i st hi ⟨g2,g3,g4,g5,m,a,b,c,d⟩
 have W:i=0\/i=1\/i=2\/i=3\/i=4\/i=5\/i=6\/i=7\/i=8\/i=9:=by omega
 rcases W with rfl|rfl|rfl|rfl|rfl|rfl|rfl|rfl|rfl|rfl
 all_goals (simp only[jq]at a b c d;simp at m a b c d)
 .skip
  with_reducible repeat' (first|refine Sp.h ?_|((first|refine Wd ?_|refine Ss.h ?_|refine Sc.h (d3 0) ?_|refine Sc.h (d4 0) ?_)<;>simp -implicitDefEqProofs [hP,hN,g2,g3,g4,g5,m,a,b,c,d,p,q,v,H,jq]<;>try refine Ya ?_))
 .skip
  with_reducible repeat' (first|refine Sp.h ?_|((first|refine Wd ?_|refine Ss.h ?_|refine Sc.h (d3 1) ?_|refine Sc.h (d4 1) ?_)<;>simp -implicitDefEqProofs [hP,hN,g2,g3,g4,g5,m,a,b,c,d,p,q,y,I,jq]<;>try refine Ya ?_))
 .skip
  with_reducible repeat' (first|refine Sp.h ?_|((first|refine Wd ?_|refine Ss.h ?_|refine Sc.h (d3 2) ?_|refine Sc.h (d4 2) ?_)<;>simp -implicitDefEqProofs [hP,hN,g2,g3,g4,g5,m,a,b,c,d,p,q,z,J,jq]<;>try refine Ya ?_))
 .skip
  with_reducible repeat' (first|refine Sp.h ?_|((first|refine Wd ?_|refine Ss.h ?_|refine Sc.h (d3 3) ?_|refine Sc.h (d4 3) ?_)<;>simp -implicitDefEqProofs [hP,hN,g2,g3,g4,g5,m,a,b,c,d,p,q,A,K,jq]<;>try refine Ya ?_))
 .skip
  with_reducible repeat' (first|refine Sp.h ?_|((first|refine Wd ?_|refine Ss.h ?_|refine Sc.h (d3 4) ?_|refine Sc.h (d4 4) ?_)<;>simp -implicitDefEqProofs [hP,hN,g2,g3,g4,g5,m,a,b,c,d,p,q,B,L,jq]<;>try refine Ya ?_))
 .skip
  with_reducible repeat' (first|refine Sp.h ?_|((first|refine Wd ?_|refine Ss.h ?_|refine Sc.h (d3 5) ?_|refine Sc.h (d4 5) ?_)<;>simp -implicitDefEqProofs [hP,hN,g2,g3,g4,g5,m,a,b,c,d,p,q,D,M,jq]<;>try refine Ya ?_))
 .skip
  with_reducible repeat' (first|refine Sp.h ?_|((first|refine Wd ?_|refine Ss.h ?_|refine Sc.h (d3 6) ?_|refine Sc.h (d4 6) ?_)<;>simp -implicitDefEqProofs [hP,hN,g2,g3,g4,g5,m,a,b,c,d,p,q,E,N,jq]<;>try refine Ya ?_))
 .skip
  with_reducible repeat' (first|refine Sp.h ?_|((first|refine Wd ?_|refine Ss.h ?_|refine Sc.h (d3 7) ?_|refine Sc.h (d4 7) ?_)<;>simp -implicitDefEqProofs [hP,hN,g2,g3,g4,g5,m,a,b,c,d,p,q,F,O,jq]<;>try refine Ya ?_))
 .skip
  with_reducible repeat' (first|refine Sp.h ?_|((first|refine Wd ?_|refine Ss.h ?_|refine Sc.h (d3 8) ?_|refine Sc.h (d4 8) ?_)<;>simp -implicitDefEqProofs [hP,hN,g2,g3,g4,g5,m,a,b,c,d,p,q,G,P,jq]<;>try refine Ya ?_))
 .skip
  exact Gy
theorem MQ(lo hi:Int)(h1:-4611686018427387904<=hi)(c:hi<=4611686018427387904)(d:-4611686018427387904<=lo)(e:lo<=4611686018427387904):aO 340 (Z lo) (Z hi) (aP (sR lo hi)):=by
 have a:=EU lo 16384 (by decide);have b:=Dl hi 16384 (by decide);rw[tx (by decide) d e]at a;rw[rU (by decide) h1 c]at b;have f:sR lo hi=(max 0 (lo/16384),min 65536 (dM hi 16384)):=rfl;rw[f];generalize lo/16384=u at *;generalize dM hi 16384=v at *;refine Dp func340 λC hP hN=>?_;exact Gy
 all_goals (try simp)<;>(try omega)
theorem EX{n d:Int}(hd:0<d):dM n d=bh n d:=by
 unfold dM bh;have e:=Int.mul_ediv_add_emod (n+d-1) d;have a:=U8 (n+d-1) (show d≠0 by omega);have b:=Va (n+d-1) hd
 have:-n/d=-((n+d-1)/d):=by
  refine tw hd ?_ ?_
  .rw[Wv,Int.mul_comm];omega
  .rw[Int.add_mul,Wv,Int.mul_comm];omega
 omega
theorem cR{g:Nat->Int}(b:∀j,0<=g j/\g j<=1073741824)(j:Nat)(d:Int)(a:0<d):bf prog 226 [.pv (Z (g j)),.pv (Z d)] [] [] (.pv (Z (bh (g j) d))):=by
 have:=Dl (g j) d (by omega);have h:=b j;rw[rU a (by omega) (by omega),EX a]at this;exact this
theorem fR{f:Nat->Int}(hf:∀j,0<=f j/\f j<=1073741824)(j:Nat)(d:Int)(a:0<d):bf prog 155 [.pv (Z (f j)),.pv (Z d)] [] [] (.pv (Z (f j/d))):=by
 have:=EU (f j) d (by omega);have h:=hf j;rw[tx a (by omega) (by omega)]at this;exact this
theorem Q9(x:Int)(b:0<=x)(h1:x<=8192):bk 333 (Z x) (aP (uy x)):=by
 have m:=MP x b h1;have hf:=oS b h1;have a:=oT b h1;have c:uy x=sR (fD (og (fq x) (ft x))) (fD (md (fq x) (ft x))):=rfl;rw[c];generalize fq x=f at *;generalize ft x=g at *;simp only[og,md,QZ,MD];have A:=hf 1;have u:=fl (a 3).1 (a 3).2 (d:=6) (by decide) (by decide);have e:=cR a 3 6 (by decide);have r:=rJ hf 5 (d:=120) (by decide);have o:=fR hf 5 120 (by decide);have y:=fl (a 7).1 (a 7).2 (d:=5040) (by decide) (by decide);have j:=cR a 7 5040 (by decide);have v1:=a 1;have q:=rJ hf 3 (d:=6) (by decide);have n:=fR hf 3 6 (by decide);have v:=fl (a 5).1 (a 5).2 (d:=120) (by decide) (by decide);have i:=cR a 5 120 (by decide);have s:=rJ hf 7 (d:=5040) (by decide);have p:=fR hf 7 5040 (by decide);have z:=fl (a 9).1 (a 9).2 (d:=362880) (by decide) (by decide);have k:=cR a 9 362880 (by decide);have w0:i64.wrap (f 1-bh (g 3) 6)=f 1-bh (g 3) 6:=aa;have B:i64.wrap (f 1-bh (g 3) 6+f 5/120)=f 1-bh (g 3) 6+f 5/120:=aa;have D:i64.wrap (f 1-bh (g 3) 6+f 5/120-bh (g 7) 5040)=f 1-bh (g 3) 6+f 5/120-bh (g 7) 5040:=aa;have E:i64.wrap (g 1-f 3/6)=g 1-f 3/6:=aa;have F:i64.wrap (g 1-f 3/6+bh (g 5) 120)=g 1-f 3/6+bh (g 5) 120:=aa;have G:i64.wrap (g 1-f 3/6+bh (g 5) 120-f 7/5040)=g 1-f 3/6+bh (g 5) 120-f 7/5040:=aa;have H:i64.wrap (g 1-f 3/6+bh (g 5) 120-f 7/5040+bh (g 9) 362880)=g 1-f 3/6+bh (g 5) 120-f 7/5040+bh (g 9) 362880:=aa;have l:=MQ (f 1-bh (g 3) 6+f 5/120-bh (g 7) 5040) (g 1-f 3/6+bh (g 5) 120-f 7/5040+bh (g 9) 362880) (by omega) (by omega) (by omega) (by omega);refine Dp func333 λC hP hN=>?_;exact Gy
theorem Ra(x:Int)(b:0<=x)(h1:x<=8192):bk 334 (Z x) (aP (yr x)):=by
 have n:=MP x b h1;have hf:=oS b h1;have a:=oT b h1;have e:yr x=sR (fD (rI (fq x) (ft x))) (fD (oV (fq x) (ft x))):=rfl;rw[e];generalize fq x=f at *;generalize ft x=g at *;simp only[rI,oV,MD,Q0];have z:=fl (a 2).1 (a 2).2 (d:=2) (by decide) (by decide);have j:=cR a 2 2 (by decide);have u:=rJ hf 4 (d:=24) (by decide);have p:=fR hf 4 24 (by decide);have B:=fl (a 6).1 (a 6).2 (d:=720) (by decide) (by decide);have c6:=cR a 6 720 (by decide);have y:=rJ hf 8 (d:=40320) (by decide);have r:=fR hf 8 40320 (by decide);have i:=fl (a 10).1 (a 10).2 (d:=3628800) (by decide) (by decide);have c:=cR a 10 3628800 (by decide);have s:=rJ hf 2 (d:=2) (by decide);have o:=fR hf 2 2 (by decide);have A:=fl (a 4).1 (a 4).2 (d:=24) (by decide) (by decide);have k:=cR a 4 24 (by decide);have v:=rJ hf 6 (d:=720) (by decide);have q:=fR hf 6 720 (by decide);have D:=fl (a 8).1 (a 8).2 (d:=40320) (by decide) (by decide);have l:=cR a 8 40320 (by decide);have w0:i64.wrap (1073741824-bh (g 2) 2)=1073741824-bh (g 2) 2:=aa;have E:i64.wrap (1073741824-bh (g 2) 2+f 4/24)=1073741824-bh (g 2) 2+f 4/24:=aa;have F:i64.wrap (1073741824-bh (g 2) 2+f 4/24-bh (g 6) 720)=1073741824-bh (g 2) 2+f 4/24-bh (g 6) 720:=aa;have G:i64.wrap (1073741824-bh (g 2) 2+f 4/24-bh (g 6) 720+f 8/40320)=1073741824-bh (g 2) 2+f 4/24-bh (g 6) 720+f 8/40320:=aa;have H:i64.wrap (1073741824-bh (g 2) 2+f 4/24-bh (g 6) 720+f 8/40320-bh (g 10) 3628800)=1073741824-bh (g 2) 2+f 4/24-bh (g 6) 720+f 8/40320-bh (g 10) 3628800:=aa;have I:i64.wrap (1073741824-f 2/2)=1073741824-f 2/2:=aa;have J:i64.wrap (1073741824-f 2/2+bh (g 4) 24)=1073741824-f 2/2+bh (g 4) 24:=aa;have K:i64.wrap (1073741824-f 2/2+bh (g 4) 24-f 6/720)=1073741824-f 2/2+bh (g 4) 24-f 6/720:=aa;have L:i64.wrap (1073741824-f 2/2+bh (g 4) 24-f 6/720+bh (g 8) 40320)=1073741824-f 2/2+bh (g 4) 24-f 6/720+bh (g 8) 40320:=aa;have m:=MQ (1073741824-bh (g 2) 2+f 4/24-bh (g 6) 720+f 8/40320-bh (g 10) 3628800) (1073741824-f 2/2+bh (g 4) 24-f 6/720+bh (g 8) 40320) (by omega) (by omega) (by omega) (by omega);refine Dp func334 λC hP hN=>?_;exact Gy
theorem MR(r:Int)(b:0<=r)(h1:r<=16384):bk 329 (Z r) (aP (fu r)):=by
 by_cases h:r<=8192
 .have a:fu r=uy r:=by simp[fu,h]
  rw[a];have c:=Q9 r b h;refine Dp func329 λC hP hN=>?_;exact Gy
 .have a:fu r=yr (16384-r):=by simp[fu,h]
  rw[a];have c:=Ra (16384-r) (by omega) (by omega);have w:i64.wrap (16384-r)=16384-r:=aa;refine Dp func329 λC hP hN=>?_;exact Gy
theorem Jh(a:Int):bk 322 (Z a) (aP (oW a)):=by
 have b:oW a=qe (a%65536):=rfl;have f:=Jg a;have m0:0<=a%65536:=U8 _ (by decide);have m1:a%65536<65536:=Va _ (by decide);rw[b];generalize a%65536=m at *;have i:m.tdiv 16384=m/16384:=Uk m0;have j:m.tmod 16384=m%16384:=WE m0;have l:i64.wrap (m/16384)=m/16384:=aa;have c:0<=m%16384:=U8 _ (by decide);have k:m%16384<16384:=Va _ (by decide);have d:=MR (m%16384) c (by omega);have e:=MR (16384-m%16384) (by omega) (by omega);have n:i64.wrap (16384-m%16384)=16384-m%16384:=aa
 have hq:m/16384=0\/m/16384=1\/m/16384=2\/m/16384=3:=by omega
 unfold qe;generalize fu (m%16384)=u at *;generalize fu (16384-m%16384)=v at *;have g:bf prog 317 [.pv (aP u)] [] [] (.pv (aP (iJ u))):=Jf;have cv:bf prog 317 [.pv (aP v)] [] [] (.pv (aP (iJ v))):=Jf;rcases hq with hq|hq|hq|hq<;>rw[hq]
 all_goals
  refine Dp func322 λC hP hN=>?_;exact Gy
theorem MS(a:Int):bk 321 (Z a) (aP (uz a)):=by
 have c:=Jg a;have m0:0<=a%65536:=U8 _ (by decide);have m1:a%65536<65536:=Va _ (by decide);have d:=Jh (a%65536+16384);have w:i64.wrap (a%65536+16384)=a%65536+16384:=aa;have b:uz a=oW (a%65536+16384):=rfl;rw[b];refine Dp func321 λC hP hN=>?_;exact Gy
def pO(a:Iv)(t:Int):Bool:=decide (a.1+(t-a.1)%65536<=a.2)
theorem MT(t:Int)(h1:-2147483648<=a)(d:a<=2147483648)(e:-2147483648<=t)(f:t<=2147483648):aO 327 (I a b) (Z t) (B (pO (a,b) t)):=by
 have c:=Jg (t-a);have m0:0<=(t-a)%65536:=U8 _ (by decide);have m1:(t-a)%65536<65536:=Va _ (by decide);have g:i64.wrap (t-a)=t-a:=aa;have i:i64.wrap (a+(t-a)%65536)=a+(t-a)%65536:=aa;refine Dp func327 λC hP hN=>?_;refine Gz ?_
 all_goals rfl
theorem Bk{a:Iv}{t:Int}(b:aw a.1 a.2=true):mJ a t=pO a t:=by
 have m0:0<=(t-a.1)%65536:=U8 _ (by decide);simp only[mJ,pO,b,Un];rw[UA (show a.1<=a.1+(t-a.1)%65536 by omega),Un]
theorem MU(v:Int->Iv)(t u:Int)(n:-2147483648<=t)(i:t<=2147483648)(o:-2147483648<=u)(j:u<=2147483648):xL 320 (I a b) (aP (v a)) (aP (v b)) (Z t) (Z u) (aP (jp (a,b) v t u)):=by
 have cv:=oA a b
 cases c:aw a b with
 |false=>
  rw[c]at cv
  have e:jp (a,b) v t u=(0,0):=by simp[jp,c]
  rw[e];refine Dp func320 λC hP hN=>?_;exact Gy
 |true=>
  rw[c]at cv;have f:=em.1 c;have w:i64.wrap (b-a)=b-a:=aa;have l:=MT (b:=b) t f.1 (by omega) n i;have m:=MT (b:=b) u f.1 (by omega) o j;by_cases k:65536<=b-a
  .have e:jp (a,b) v t u=(-65536,65536):=by simp only[jp,c];rw[TZ (by simp),T6 k]
   rw[e];refine Dp func320 λC hP hN=>?_;exact Gy
  .have e:jp (a,b) v t u=(if pO (a,b) u then gR (if pO (a,b) t then gR (gR (v a) (v b)) (pK 65536)else gR (v a) (v b)) (pK (-65536))else(if pO (a,b) t then gR (gR (v a) (v b)) (pK 65536)else gR (v a) (v b))):=by
    simp only[jp,c];rw[TZ (by simp),TZ k,Bk c,Bk c]
   rw[e];have r:=Fp (v a).1 (v a).2 (v b).1 (v b).2;have s:=Dr 65536;have x:=Dr (-65536);have p:pK 65536=(fZ 65536,fZ 65536):=rfl;have q:pK (-65536)=(fZ (-65536),fZ (-65536)):=rfl;rw[p,q];generalize fZ 65536=d at *;generalize fZ (-65536)=g at *;generalize A:gR (v a) (v b)=H at *;have y:=Fp H.1 H.2 d d;have z:=Fp H.1 H.2 g g;have c6:=Fp (gR H (d,d)).1 (gR H (d,d)).2 g g;cases m1:pO (a,b) t<;>cases m2:pO (a,b) u<;>rw[m1]at l<;>rw[m2]at m<;>simp only[T3,Ud,Ui]
   all_goals
    refine Dp func320 λC hP hN=>?_;exact Gy
theorem Rb:bk 316 (I a b) (aP (rK (a,b))):=by
 have h:rK (a,b)=jp (a,b) oW 16384 49152:=rfl;rw[h];have c:=MU (a:=a) (b:=b) oW 16384 49152 (by decide) (by decide) (by decide) (by decide);have d:=Jh a;have e:=Jh b;generalize oW a=u at *;generalize oW b=v at *;refine Dp func316 λC hP hN=>?_;exact Gy
theorem Rc:bk 315 (I a b) (aP (rL (a,b))):=by
 have h:rL (a,b)=jp (a,b) uz 0 32768:=rfl;rw[h];have c:=MU (a:=a) (b:=b) uz 0 32768 (by decide) (by decide) (by decide) (by decide);have d:=MS a;have e:=MS b;generalize uz a=u at *;generalize uz b=v at *;refine Dp func315 λC hP hN=>?_;exact Gy
theorem HB(h:aw x.1 x.2=true):f7 (0,0) x=x:=by
 have a:=em.1 h;simp only[f7,h,show aw 0 0=true from rfl,Vi,Ui,fZ]
 ext<;>(try simp only[])<;>omega
theorem F3(x y:Iv):aw (fw x y).1 (fw x y).2=true:=by
 unfold fw;split
 .rw[em];simp only[fZ,dM];omega
 .rfl
theorem wU(m v:av):jZ m v 3=f7 (f7 (fw m.1 v.1) (fw m.2.1 v.2.1)) (fw m.2.2 v.2.2):=by
 show f7 (f7 (f7 (0,0) (fw m.1 v.1)) (fw m.2.1 v.2.1)) (fw m.2.2 v.2.2)=_;rw[HB (F3 _ _)]
theorem Kd:fZ 65536=65536:=by decide
theorem MV(x y z:Int):bk 263 (n5 x y z) (bP (dZ (x,y,z))):=by
 have hp:dZ (x,y,z)=((fZ x,fZ x),(fZ y,fZ y),(fZ z,fZ z)):=rfl;rw[hp];refine Dp func263 λC hP hN=>?_;have a:=@Dr;exact GS trivial
theorem MW:aO 283 (V6 a0 a1 a2 a3 a4 a5) (V6 b0 b1 b2 b3 b4 b5) (bP (rM ((a0,a1),(a2,a3),(a4,a5)) ((b0,b1),(b2,b3),(b4,b5)))):=by
 refine Dp func283 λC hP hN=>?_;have a:=@Ds;refine GT trivial ?_
 all_goals (try simp[rM])
theorem MX:Bs 260 (wO mK):=by
 have a:=Dr 65536;rw[Kd]at a;refine Dp func260 λC hP hN=>?_;refine Gz ?_
 all_goals (try simp[mK])
theorem Rd(x:Int):aO 303 (Z x) (I a b) (wO (fJ x (a,b))):=by
 have j:=Dr 65536;rw[Kd]at j;have cv:=oA a b
 cases e:aw a b with
 |false=>
  rw[e]at cv
  have c:fJ x (a,b)=(bA,bA,bA):=by simp[fJ,e]
  rw[c];refine Dp func303 λC hP hN=>?_
  with_reducible repeat' (first|refine Sp.h ?_|((first|refine Ss.h ?_|refine Sc.h (cv) ?_)<;>simp -implicitDefEqProofs [hP,hN,bA]))
 |true=>
  rw[e]at cv;have l:=Rb (a:=a) (b:=b);have cc:=Rc (a:=a) (b:=b);generalize hS:rK (a,b)=S at *;generalize d:rL (a,b)=Q at *;have k:=Jf (a:=S.1) (b:=S.2);by_cases f:x=0
  .have c:fJ x (a,b)=(((65536,65536),(0,0),(0,0)),((0,0),Q,iJ S),((0,0),S,Q)):=by simp[fJ,e,f,hS,d]
   rw[c];subst f;refine Dp func303 λC hP hN=>?_;exact Gy
  by_cases g:x=1
  .have c:fJ x (a,b)=((Q,(0,0),S),((0,0),(65536,65536),(0,0)),(iJ S,(0,0),Q)):=by simp[fJ,e,g,hS,d]
   rw[c];subst g;refine Dp func303 λC hP hN=>?_;exact Gy
  by_cases i:x=2
  .have c:fJ x (a,b)=((Q,iJ S,(0,0)),(S,Q,(0,0)),((0,0),(0,0),(65536,65536))):=by simp[fJ,e,i,hS,d]
   rw[c];subst i;refine Dp func303 λC hP hN=>?_;exact Gy
  have c:fJ x (a,b)=(bA,bA,bA):=by simp[fJ,e,f,g,i]
  rw[c]
  have m:(x==0)=false:=by simp[f]
  have n:(x==1)=false:=by simp[g]
  have o:(x==2)=false:=by simp[i]
  refine Dp func303 λC hP hN=>?_
  with_reducible repeat' (first|refine Sp.h ?_|((first|refine Wd ?_|refine Ss.h ?_|refine Sc.h (cv) ?_|refine Sc.h (l) ?_|refine Sc.h (cc) ?_|refine Sc.h (k) ?_|refine Sc.h (j) ?_)<;>simp -implicitDefEqProofs [hP,hN,bA,m,n,o,f,g,i]<;>try refine Ya ?_))
theorem MY:aO 284 (Dd a0 a1 a2 a3 a4 a5 a6 a7 a8 a9 a10 a11 a12 a13 a14 a15 a16 a17) (V6 v0 v1 v2 v3 v4 v5) (bP (tr (((a0,a1),(a2,a3),(a4,a5)),((a6,a7),(a8,a9),(a10,a11)),((a12,a13),(a14,a15),(a16,a17))) ((v0,v1),(v2,v3),(v4,v5)))):=by
 obtain⟨D,f⟩:∃D:av,D=tr (((a0,a1),(a2,a3),(a4,a5)),((a6,a7),(a8,a9),(a10,a11)),((a12,a13),(a14,a15),(a16,a17))) ((v0,v1),(v2,v3),(v4,v5)):=⟨_,rfl⟩
 have j:f7 (f7 (fw (a0,a1) (v0,v1)) (fw (a2,a3) (v2,v3))) (fw (a4,a5) (v4,v5))=D.1:=by rw[f];exact(wU ((a0,a1),(a2,a3),(a4,a5)) ((v0,v1),(v2,v3),(v4,v5))).symm
 have k:f7 (f7 (fw (a6,a7) (v0,v1)) (fw (a8,a9) (v2,v3))) (fw (a10,a11) (v4,v5))=D.2.1:=by rw[f];exact(wU ((a6,a7),(a8,a9),(a10,a11)) ((v0,v1),(v2,v3),(v4,v5))).symm
 have l:f7 (f7 (fw (a12,a13) (v0,v1)) (fw (a14,a15) (v2,v3))) (fw (a16,a17) (v4,v5))=D.2.2:=by rw[f];exact(wU ((a12,a13),(a14,a15),(a16,a17)) ((v0,v1),(v2,v3),(v4,v5))).symm
 rw[<-f];clear f;refine Dp func284 λC hP hN=>?_;refine Gz ?_;refine WP.loopN [] 3 (λi st=>st.t 2=.ptr 2 0/\st.t 3=.ptr 3 0/\st.t 4=.ptr 4 0/\st.t 5=.ptr 5 0/\st.h 2=some (.box [.pv (Z a0),.pv (Z a1),.pv (Z a2),.pv (Z a3),.pv (Z a4),.pv (Z a5),.pv (Z a6),.pv (Z a7),.pv (Z a8),.pv (Z a9),.pv (Z a10),.pv (Z a11),.pv (Z a12),.pv (Z a13),.pv (Z a14),.pv (Z a15),.pv (Z a16),.pv (Z a17)] true false)/\st.h 3=some (.box [.pv (Z v0),.pv (Z v1),.pv (Z v2),.pv (Z v3),.pv (Z v4),.pv (Z v5)] true false)/\st.h 4=some (.box (c6 D 0) true false)/\st.t 6=.pv (Z i)/\st.h 5=some (.box (c6 D i) true false)) (by simp[c6]) ?_;rintro i st hi ⟨g2,c,g4,g5,d,e,a,g,b⟩;rcases eF hi with rfl|rfl|rfl|rfl
 all_goals (simp[c6]at g a b)
 .skip
  with_reducible repeat' (first|refine Sp.h ?_|((first|refine Wd ?_|refine Ss.h ?_|refine Sc.h (F2) ?_|refine Sc.h (Ds) ?_)<;>simp -implicitDefEqProofs [hP,hN,g2,c,g4,g5,g,d,e,a,b,j,c6]<;>try refine Ya ?_))
 .skip
  with_reducible repeat' (first|refine Sp.h ?_|((first|refine Wd ?_|refine Ss.h ?_|refine Sc.h (F2) ?_|refine Sc.h (Ds) ?_)<;>simp -implicitDefEqProofs [hP,hN,g2,c,g4,g5,g,d,e,a,b,k,c6]<;>try refine Ya ?_))
 .skip
  with_reducible repeat' (first|refine Sp.h ?_|((first|refine Wd ?_|refine Ss.h ?_|refine Sc.h (F2) ?_|refine Sc.h (Ds) ?_)<;>simp -implicitDefEqProofs [hP,hN,g2,c,g4,g5,g,d,e,a,b,l,c6]<;>try refine Ya ?_))
 .skip
  exact Gy
theorem MZ(x:Int):max (-65536) (min x 65536)=vQ x:=by unfold vQ;omega
theorem Re{b6 F G H p q r s u v y z:Int}:aO 282 (Dd a0 a1 a2 a3 a4 a5 a6 a7 a8 a9 a10 a11 a12 a13 a14 a15 a16 a17) (Dd b0 b1 b2 b3 b4 b5 b6 F G H p q r s u v y z) (wO (zJ (((a0,a1),(a2,a3),(a4,a5)),((a6,a7),(a8,a9),(a10,a11)),((a12,a13),(a14,a15),(a16,a17))) (((b0,b1),(b2,b3),(b4,b5)),((b6,F),(G,H),(p,q)),((r,s),(u,v),(y,z))))):=by
 obtain⟨A,I⟩:∃A:oh,A=(((a0,a1),(a2,a3),(a4,a5)),((a6,a7),(a8,a9),(a10,a11)),((a12,a13),(a14,a15),(a16,a17))):=⟨_,rfl⟩;obtain⟨B,J⟩:∃B:oh,B=(((b0,b1),(b2,b3),(b4,b5)),((b6,F),(G,H),(p,q)),((r,s),(u,v),(y,z))):=⟨_,rfl⟩;rw[<-I,<-J];obtain⟨N,j⟩:∃l:List AV,l=[a0,a1,a2,a3,a4,a5,a6,a7,a8,a9,a10,a11,a12,a13,a14,a15,a16,a17].map λx=>.pv (Z x):=⟨_,rfl⟩;obtain⟨O,m⟩:∃l:List AV,l=[b0,b1,b2,b3,b4,b5,b6,F,G,H,p,q,r,s,u,v,y,z].map λx=>.pv (Z x):=⟨_,rfl⟩;simp only[U7,WB]at j m
 have P:g3 (g3 A 0) 0=(a0,a1)/\g3 (g3 A 0) 1=(a2,a3)/\g3 (g3 A 0) 2=(a4,a5)/\g3 (g3 A 1) 0=(a6,a7)/\g3 (g3 A 1) 1=(a8,a9)/\g3 (g3 A 1) 2=(a10,a11)/\g3 (g3 A 2) 0=(a12,a13)/\g3 (g3 A 2) 1=(a14,a15)/\g3 (g3 A 2) 2=(a16,a17)/\g3 (fT B 0) 0=(b0,b1)/\g3 (fT B 1) 0=(b2,b3)/\g3 (fT B 2) 0=(b4,b5)/\g3 (fT B 0) 1=(b6,F)/\g3 (fT B 1) 1=(G,H)/\g3 (fT B 2) 1=(p,q)/\g3 (fT B 0) 2=(r,s)/\g3 (fT B 1) 2=(u,v)/\g3 (fT B 2) 2=(y,z):=by
  rw[I,J]
  repeat' (first|rfl|constructor)
 have f:∀i k,vQ (f7 (f7 (fw (g3 (g3 A i) 0) (g3 (fT B k) 0)) (fw (g3 (g3 A i) 1) (g3 (fT B k) 1))) (fw (g3 (g3 A i) 2) (g3 (fT B k) 2))).1=(tu A B i k).1/\vQ (f7 (f7 (fw (g3 (g3 A i) 0) (g3 (fT B k) 0)) (fw (g3 (g3 A i) 1) (g3 (fT B k) 1))) (fw (g3 (g3 A i) 2) (g3 (fT B k) 2))).2=(tu A B i k).2:=λi k=>by
  have e:=Vt FS (wU (g3 A i) (fT B k));exact⟨(Vt Prod.fst e).symm,(Vt Prod.snd e).symm⟩
 clear I J;refine Dp func282 λC hP hN=>?_
 with_reducible repeat' (first|refine Sp.h ?_|((first|refine Wd ?_|refine Ss.h ?_|(refine Sb.h ?_ ?_ ?_<;>(try intro hgd)<;>try exact Xy))<;>simp -implicitDefEqProofs (maxSteps:=2000000) [hP,hN,j,m]<;>try refine Ya ?_)|refine X2 ?_ ?_|(refine Xd ?_ ?_<;>intro hcd<;>try exact Xx))
 refine WP.loopN [8] 3 (λi st=>sA N O A B st/\st.t 6=.pv (Z i)/\st.h 5=some (.box (cC A B i 0) true false)/\st.h 8=none) (by simp[sA,cC,iZ,j,m]) ?_;rintro i st hi ⟨⟨g2,n,g4,g5,b,c,d⟩,E,g,D⟩;rw[j]at b;rw[m]at c;by_cases M:i=3
 .simp[cC,iZ,M]at E d g
  with_reducible repeat' (first|refine Sp.h ?_|((first|refine Wd ?_|refine Ss.h ?_|(refine Sb.h ?_ ?_ ?_<;>(try intro hgd)<;>try exact Xy))<;>simp -implicitDefEqProofs (maxSteps:=2000000) [hP,hN,g2,n,g4,g5,E,b,c,d,g,D,zJ,M]<;>try refine Ya ?_)|refine X2 ?_ ?_|(refine Xd ?_ ?_<;>intro hcd<;>try exact Xx))
 have a:i=0\/i=1\/i=2:=by omega
 rcases a with a|a|a
 all_goals
  with_reducible repeat' (first|refine Sp.h ?_|((first|refine Wd ?_|refine Ss.h ?_|(refine Sb.h ?_ ?_ ?_<;>(try intro hgd)<;>try exact Xy))<;>simp -implicitDefEqProofs (maxSteps:=2000000) [hP,hN,g2,n,g4,g5,E,b,c,d,g,D,a]<;>try refine Ya ?_)|refine X2 ?_ ?_|(refine Xd ?_ ?_<;>intro hcd<;>try exact Xx))
  refine WP.loopN [8] 3 (λk st=>sA N O A B st/\st.t 6=.pv (Z i)/\st.t 7=.pv (Z k)/\st.h 5=some (.box (cC A B i k) true false)/\st.h 8=none) (by simp[sA,cC,iZ,j,m,g2,n,g4,g5,E,b,c,d,g,a]) ?_;clear g2 n g4 g5 E b c d g D;rintro k st Q ⟨⟨g2,n,g4,g5,b,c,d⟩,E,L,g,D⟩;rw[j]at b;rw[m]at c;have K:=f i k;rcases eF Q with o|o|o|o
  all_goals
   simp only[a,o,P]at K;simp[cC,iZ,a,o]at L d g
   with_reducible repeat' (first|refine Sp.h ?_|((first|refine Wd ?_|refine Ss.h ?_|refine Sc.h (F2) ?_|refine Sc.h (Ds) ?_|(refine Sb.h ?_ ?_ ?_<;>(try intro hgd)<;>try exact Xy))<;>simp -implicitDefEqProofs (maxSteps:=2000000) [hP,hN,g2,n,g4,g5,E,L,b,c,d,g,D,sA,j,m,cC,iZ,MZ,K,a,o]<;>try refine Ya ?_)|refine X2 ?_ ?_|(refine Xd ?_ ?_<;>intro hcd<;>try exact Xx))
theorem Ji:Bs 217 (cG gV):=by
 refine Dp func217 λC hP hN=>?_;have a:=@MX;refine GT trivial ?_
 all_goals (try simp[gV,bA,mK])
theorem F4:bk 281 (V6 v0 v1 v2 v3 v4 v5) (cG (d8 ((v0,v1),(v2,v3),(v4,v5)))):=by
 refine Dp func281 λC hP hN=>?_;have a:=@MX;refine GT trivial ?_
 all_goals (try simp[d8])
theorem Jj(x:Int):aO 280 (Z x) (I a b) (cG (ie x (a,b))):=by
 have d:=Rd (a:=a) (b:=b) x;have c:ie x (a,b)=(fJ x (a,b),bA):=rfl;rw[c];generalize fJ x (a,b)=m at *;refine Dp func280 λC hP hN=>?_;refine Gz ?_
 all_goals (try simp[bA])
theorem Rf{a b c d a22 e:Int}:aO 262 (xx a0 a1 a2 a3 a4 a5 a6 a7 a8 a9 a10 a11 a12 a13 a14 a15 a16 a17 a b c d a22 e) (V6 v0 v1 v2 v3 v4 v5) (bP (iN ((((a0,a1),(a2,a3),(a4,a5)),((a6,a7),(a8,a9),(a10,a11)),((a12,a13),(a14,a15),(a16,a17))),((a,b),(c,d),(a22,e))) ((v0,v1),(v2,v3),(v4,v5)))):=by
 refine Dp func262 λC hP hN=>?_;have f:=@MY;have g:=@MW;refine GT trivial ?_
 all_goals (try simp[iN])
theorem vX{a b c d a22 e b6 v x y f g i j k l m n o p q r s u:Int}:aO 259 (xx a0 a1 a2 a3 a4 a5 a6 a7 a8 a9 a10 a11 a12 a13 a14 a15 a16 a17 a b c d a22 e) (xx b0 b1 b2 b3 b4 b5 b6 v x y f g i j k l m n o p q r s u) (cG (om ((((a0,a1),(a2,a3),(a4,a5)),((a6,a7),(a8,a9),(a10,a11)),((a12,a13),(a14,a15),(a16,a17))),((a,b),(c,d),(a22,e))) ((((b0,b1),(b2,b3),(b4,b5)),((b6,v),(x,y),(f,g)),((i,j),(k,l),(m,n))),((o,p),(q,r),(s,u))))):=by
 refine Dp func259 λC hP hN=>?_;have z:=@MY;have A:=@MW;have B:=@Re;refine GT trivial ?_
 all_goals (try simp[om,iN])
theorem Rg(j:J)(o:0<=j.kind)(h6:j.kind<=6):aO 258 (bR j) (I a b) (cG (mL j (a,b))):=by
 have n:=MV j.ox j.oy j.oz;have l:=Ji;have m:mL j (a,b)=om (d8 (dZ (j.ox,j.oy,j.oz))) (gg j.kind (a,b)):=rfl;rw[m];generalize dZ (j.ox,j.oy,j.oz)=pv at *;have k:=F4 (v0:=pv.1.1) (v1:=pv.1.2) (v2:=pv.2.1.1) (v3:=pv.2.1.2) (v4:=pv.2.2.1) (v5:=pv.2.2.2);have k:bf prog 281 [.pv (bP pv)] [] [] (.pv (cG (d8 pv))):=k;generalize d8 pv=sp at *;generalize i:gV=g at *
 have key:j.kind=0\/j.kind=1\/j.kind=2\/j.kind=3\/j.kind=4\/j.kind=5\/j.kind=6:=by omega
 rcases key with c|c|c|c|c|c|c
 .have d:gg j.kind (a,b)=g:=by simp[gg,c,i]
  have e:=l;rw[d];generalize g=mp at *;refine Dp func258 λC hP hN=>?_;have f:=@vX;exact GS c
 .have d:gg j.kind (a,b)=ie 0 (a,b):=by simp[gg,c]
  have e:=Jj (a:=a) (b:=b) 0;rw[d];generalize ie 0 (a,b)=mp at *;refine Dp func258 λC hP hN=>?_;have f:=@vX;exact GS c
 .have d:gg j.kind (a,b)=ie 1 (a,b):=by simp[gg,c]
  have e:=Jj (a:=a) (b:=b) 1;rw[d];generalize ie 1 (a,b)=mp at *;refine Dp func258 λC hP hN=>?_;have f:=@vX;exact GS c
 .have d:gg j.kind (a,b)=ie 2 (a,b):=by simp[gg,c]
  have e:=Jj (a:=a) (b:=b) 2;rw[d];generalize ie 2 (a,b)=mp at *;refine Dp func258 λC hP hN=>?_;have f:=@vX;exact GS c
 .have d:gg j.kind (a,b)=d8 ((a,b),(0,0),(0,0)):=by simp[gg,c]
  have e:=F4 (v0:=((a,b),(0,0),(0,0)).1.1) (v1:=((a,b),(0,0),(0,0)).1.2) (v2:=((a,b),(0,0),(0,0)).2.1.1) (v3:=((a,b),(0,0),(0,0)).2.1.2) (v4:=((a,b),(0,0),(0,0)).2.2.1) (v5:=((a,b),(0,0),(0,0)).2.2.2);rw[d];generalize d8 ((a,b),(0,0),(0,0))=mp at *;refine Dp func258 λC hP hN=>?_;have f:=@vX;exact GS c
 .have d:gg j.kind (a,b)=d8 ((0,0),(a,b),(0,0)):=by simp[gg,c]
  have e:=F4 (v0:=((0,0),(a,b),(0,0)).1.1) (v1:=((0,0),(a,b),(0,0)).1.2) (v2:=((0,0),(a,b),(0,0)).2.1.1) (v3:=((0,0),(a,b),(0,0)).2.1.2) (v4:=((0,0),(a,b),(0,0)).2.2.1) (v5:=((0,0),(a,b),(0,0)).2.2.2);rw[d];generalize d8 ((0,0),(a,b),(0,0))=mp at *;refine Dp func258 λC hP hN=>?_;have f:=@vX;exact GS c
 .have d:gg j.kind (a,b)=d8 ((0,0),(0,0),(a,b)):=by simp[gg,c]
  have e:=F4 (v0:=((0,0),(0,0),(a,b)).1.1) (v1:=((0,0),(0,0),(a,b)).1.2) (v2:=((0,0),(0,0),(a,b)).2.1.1) (v3:=((0,0),(0,0),(a,b)).2.1.2) (v4:=((0,0),(0,0),(a,b)).2.2.1) (v5:=((0,0),(0,0),(a,b)).2.2.2);rw[d];generalize d8 ((0,0),(0,0),(a,b))=mp at *;refine Dp func258 λC hP hN=>?_;have f:=@vX;exact GS c
theorem Rh(s:Sh)(E:s.pts.length<=9223372036854775807):bk 261 (dc s) (B (gB s)):=by
 have hd:gB s=(decide (1<=s.rad)&&decide (s.rad<=1048576)&&decide (1<=s.pts.length)&&decide (s.pts.length<=8)&&s.pts.all (aC 4194304)):=rfl;by_cases A:s.rad<1\/1048576<s.rad\/(s.pts.length:Int)<1\/(8:Int)<s.pts.length
 .have hf:gB s=false:=by
   cases h:gB s with
   |false=>rfl
   |true=>
    rw[hd]at h;simp only[An,L4]at h;omega
  rw[hf];rcases A with l|l|l|l
  all_goals
   refine Dp func261 λC hP hN=>?_;exact Gy
 have l:¬s.rad<1:=by omega
 have G:¬1048576<s.rad:=by omega
 have H:¬(s.pts.length:Int)<1:=by omega
 have I:¬(8:Int)<s.pts.length:=by omega
 have v:¬s.pts.length<1:=by omega
 have y:¬8<s.pts.length:=by omega
 have hf:gB s=s.pts.all (aC 4194304):=by
  rw[hd,UA (by omega),UA (by omega),UA (by omega),UA (by omega)];rfl
 rw[hf];refine Dp func261 λC hP hN=>?_;refine Gz ?_;refine WP.loopN [] s.pts.length (λk st=>st.t 1=.ptr 1 0/\st.h 1=some (.box [.pv (Z s.link),.pv (Z s.rad),.pv (aV s.pts)] true false)/\st.t 3=.pv (Z k)/\∀j x,j<k->s.pts[j]?=some x->aC 4194304 x=true) (by simp) ?_;rintro k st D ⟨g1,z,g3,hn⟩;by_cases d:k<s.pts.length
 .have F:=am d E
  have f:(k:Int)<(s.pts.length:Int):=by omega
  generalize r:s.pts[k]=p at *
  have u:s.pts[k]?=some p:=by rw[an d,r]
  have n:=rB p.1 p.2.1 p.2.2 4194304 (by decide) (by decide);have o:aC 4194304 p=gS p.1 p.2.1 p.2.2 4194304:=rfl;rw[<-o]at n;have i:=m9 (p:=aC 4194304) u hn
  cases m:aC 4194304 p with
  |true=>
   rw[m]at n;have g:=i m;refine Gz ?_
   all_goals (intro j a b c J q;exact g j (a,b,c) (by omega) q)
  |false=>
   rw[m]at n
   have e:s.pts.all (aC 4194304)=false:=by
    rw[Vw];exact⟨p,Is u,by simp[m]⟩
   exact Gy
 .have e:s.pts.all (aC 4194304)=true:=oX hn d
  have f:¬(k:Int)<(s.pts.length:Int):=by omega
  exact Gy
theorem Ri(h:Sh)(p:ol)(hs:gB h=true):aO 218 (dc h) (cG p) (aH (eO h p)):=by
 have h8:h.pts.length<=8:=by
  simp only[gB,An,L4]at hs;omega
 have cc:=Rh h (by omega);rw[hs]at cc;have c:eO h p=h.pts.map λq=>iN p (dZ q):=rfl;have o:∀v:av,bf prog 262 [.pv (cG p),.pv (bP v)] [] [] (.pv (bP (iN p v))):=λv=>Rf;have r:∀q:Vc,bf prog 263 [.pv (ax q)] [] [] (.pv (bP (dZ q))):=λq=>MV q.1 q.2.1 q.2.2;have k:(cG p).cells=[Z p.1.1.1.1,Z p.1.1.1.2,Z p.1.1.2.1.1,Z p.1.1.2.1.2,Z p.1.1.2.2.1,Z p.1.1.2.2.2,Z p.1.2.1.1.1,Z p.1.2.1.1.2,Z p.1.2.1.2.1.1,Z p.1.2.1.2.1.2,Z p.1.2.1.2.2.1,Z p.1.2.1.2.2.2,Z p.1.2.2.1.1,Z p.1.2.2.1.2,Z p.1.2.2.2.1.1,Z p.1.2.2.2.1.2,Z p.1.2.2.2.2.1,Z p.1.2.2.2.2.2,Z p.2.1.1,Z p.2.1.2,Z p.2.2.1.1,Z p.2.2.1.2,Z p.2.2.2.1,Z p.2.2.2.2]:=rfl;refine Dp func218 λC hP hN=>?_;refine sh [5] trivial ?_;refine WP.loopN [] h.pts.length (λi st=>st.t 2=.ptr 2 0/\st.t 3=.ptr 3 0/\st.h 2=some (.box [.pv (Z h.link),.pv (Z h.rad),.pv (aV h.pts)] true false)/\st.h 3=some (.box ((cG p).cells.map .pv) true false)/\st.t 6=.pv (Z i)/\st.t 5=.arr 5 i/\st.h 5=some (.row 216 6 (((eO h p).map bP).take i) 0)) (by simp) ?_;rintro i st hi ⟨g2,g3,g,d,m,g5,e⟩
 have l:min i (eO h p).length=i:=by rw[c,Uu];omega
 by_cases b:i<h.pts.length
 .have u:=am b (by omega)
  have a:(i:Int)<(h.pts.length:Int):=by omega
  generalize j:h.pts[i]=q at *
  have n:h.pts[i]?=some q:=by rw[an b,j]
  have hS:((eO h p).map bP).take (i+1)=((eO h p).map bP).take i++[bP (iN p (dZ q))]:=by
   rw[List.take_succ,T0,c,T0,n];rfl
  have s:=r q;have cv:=o (dZ q);rw[hS]
  have hL:(((eO h p).map bP).take i).length=i:=by simp[l]
  generalize((eO h p).map bP).take i=R at *;generalize iN p (dZ q)=x at *;generalize dZ q=w at *;rw[k]at d
  with_reducible repeat' (first|refine Sp.h ?_|((first|refine Wd ?_|refine Ss.h ?_|refine Sc.h (s) ?_|refine Sc.h (cv) ?_|(refine Sb.h ?_ ?_ ?_<;>(try intro hgd)<;>try exact Xy))<;>simp -implicitDefEqProofs (maxSteps:=2000000) [hP,hN,g2,g3,g,d,m,g5,e,b,a,n,j,u,hL,show(i+1)*48<=140737488355328 by omega,show i<=9223372036854775806 by omega]<;>try refine Ya ?_)|refine X2 ?_ ?_|(refine Xd ?_ ?_<;>intro hcd<;>try exact Xx))
 .have a:¬(i:Int)<(h.pts.length:Int):=by omega
  have f:((eO h p).map bP).take i=(eO h p).map bP:=Up (by rw[Uu,c,Uu];omega);rw[f]at e
  have hL:(eO h p).length=i:=by rw[c,Uu];omega
  with_reducible repeat' (first|refine Sp.h ?_|((first|refine Wd ?_|refine Ss.h ?_|(refine Sb.h ?_ ?_ ?_<;>(try intro hgd)<;>try exact Xy))<;>simp -implicitDefEqProofs (maxSteps:=2000000) [hP,hN,g2,g3,g,d,m,g5,e,b,a,hL]<;>try refine Ya ?_)|refine X2 ?_ ?_|(refine Xd ?_ ?_<;>intro hcd<;>try exact Xx))
theorem F5(h:dO x=false):x.1< -268435456\/x.2<x.1\/268435456<x.2:=by
 by_cases a:x.1< -268435456\/x.2<x.1\/268435456<x.2
 .exact a
 .have:dO x=true:=by rw[f8];omega
  rw[h]at this;cases this
theorem Bl{x0 x1 x2 x3 x4 x5:Int}:bk 270 (V6 x0 x1 x2 x3 x4 x5) (B (df ((x0,x1),(x2,x3),(x4,x5)))):=by
 have hd:df ((x0,x1),(x2,x3),(x4,x5))=(dO (x0,x1)&&dO (x2,x3)&&dO (x4,x5)):=rfl;rw[hd];obtain⟨m,b⟩:∃m:Nat,m=(if dO (x0,x1)then(if dO (x2,x3)then(if dO (x4,x5)then 3 else 2)else 1)else 0):=⟨_,rfl⟩;refine Dp func270 λC hP hN=>?_;refine Gz ?_;refine WP.loopN [] 3 (λk st=>st.t 1=.ptr 1 0/\st.h 1=some (.box [.pv (Z x0),.pv (Z x1),.pv (Z x2),.pv (Z x3),.pv (Z x4),.pv (Z x5)] true false)/\st.t 3=.pv (Z k)/\k<=m) (by simp) ?_;rintro k st i ⟨g1,g,g3,j⟩;cases c:dO (x0,x1)<;>rw[c]at b
 .simp only[T3,Ud]at b
  have:k=0:=by omega
  subst this;have a:=F5 c;simp only at a;rcases a with q|q|q
  all_goals
   exact Gy
 simp only[Ui]at b;have l:=f8.1 c;simp only at l;cases d:dO (x2,x3)<;>rw[d]at b
 .simp only[T3,Ud]at b
  have f:k=0\/k=1:=by omega
  rcases f with rfl|rfl
  .skip
   exact Gy
   all_goals omega
  .have a:=F5 d
   simp only at a;rcases a with q|q|q
   all_goals
    exact Gy
 simp only[Ui]at b;have n:=f8.1 d;simp only at n;cases e:dO (x4,x5)<;>rw[e]at b
 .simp only[T3,Ud]at b
  have f:k=0\/k=1\/k=2:=by omega
  rcases f with rfl|rfl|rfl
  .skip
   exact Gy
   all_goals omega
  .skip
   exact Gy
   all_goals omega
  .have a:=F5 e
   simp only at a;rcases a with q|q|q
   all_goals
    exact Gy
 simp only[Ui]at b;have o:=f8.1 e;simp only at o;rcases eF i with rfl|rfl|rfl|rfl
 .skip
  exact Gy
  all_goals omega
 .skip
  exact Gy
  all_goals omega
 .skip
  exact Gy
  all_goals omega
 .skip
  exact Gy
theorem M5(v:av):bk 270 (bP v) (B (df v)):=Bl
theorem vY(xs:List av)(M:xs.length<=9223372036854775807):bk 239 (aH xs) (B (az xs)):=by
 by_cases h8:xs.length<=8
 .have F:∀i:Nat,i<xs.length->i64.wrap ((i:Int)+1)=(i:Int)+1:=λi h=>aa (by omega) (by omega)
  refine Dp func239 λC hP hN=>?_;refine Gz ?_;refine WP.loopN [] xs.length (λi st=>st.t 0=.pv (aH xs)/\st.t 3=.pv (Z i)/\∀k x,k<i->xs[k]?=some x->df x=true) (by simp) ?_;rintro i st hi ⟨g0,g3,hq⟩;by_cases g:i<xs.length
  .have J:=F i g
   have m:(i:Int)<(xs.length:Int):=by omega
   have A:(i:Int)<=8:=by omega
   have r:i<=8:=by omega
   generalize n:xs[i]=v at *
   have G:xs[i]?=some v:=by rw[an g,n]
   have u:=M5 v;have E:=m9 (p:=df) G hq
   cases o:df v with
   |true=>
    rw[o]at u;have s:=E o;refine Gz ?_
    all_goals exact λk a b c d e f L H=>s k ((a,b),(c,d),(e,f)) (by omega) H
   |false=>
    rw[o]at u
    have j:xs.all df=false:=by
     rw[Vw];exact⟨v,Is G,by simp[o]⟩
    have l:az xs=false:=by simp[az,j]
    rw[l];exact Gy
  .have j:xs.all df=true:=oX hq g
   have m:¬(i:Int)<(xs.length:Int):=by omega
   have l:az xs=decide (1<=xs.length):=by
    rw[az,j,UA h8,VD,VD]
   rw[l];by_cases I:1<=xs.length
   .have q:(1:Int)<=(xs.length:Int):=by omega
    have y:(xs.length:Int)<=8:=by omega
    exact Gy
   .have q:¬(1:Int)<=(xs.length:Int):=by omega
    exact Gy
 .have l:az xs=false:=by
   cases h:az xs with
   |false=>rfl
   |true=>simp only[az,An,L4]at h;omega
  rw[l];refine Dp func239 λC hP hN=>?_;refine Gz ?_;refine WP.loopN [] 9 (λi st=>st.t 0=.pv (aH xs)/\st.t 3=.pv (Z i)) (by simp) ?_;rintro i st hi ⟨g0,g3⟩
  have g:i<xs.length\/i=9:=by omega
  by_cases A:i<=8
  .have g:i<xs.length:=by omega
   have J:i64.wrap ((i:Int)+1)=(i:Int)+1:=aa
   have m:(i:Int)<(xs.length:Int):=by omega
   have r:(i:Int)<=8:=by omega
   generalize n:xs[i]=v at *
   have G:xs[i]?=some v:=by rw[an g,n]
   have u:=M5 v;cases o:df v<;>rw[o]at u
   .skip
    exact Gy
   .skip
    refine Gz ?_
    all_goals omega
  .have D:i=9:=by omega
   subst D
   have y:¬(xs.length:Int)<=8:=by omega
   have q:(1:Int)<=(xs.length:Int):=by omega
   have I:1<=xs.length:=by omega
   by_cases K:(9:Int)<(xs.length:Int)
   .have z:9<xs.length:=by omega
    exact Gy
   .have z:¬9<xs.length:=by omega
    exact Gy
theorem M6(x:Iv):jr x=mv x:=by
 unfold jr mv;split
 .rename_i h
  have h:=em.1 h;rw[aa (by omega) (by omega),Int.fdiv_eq_ediv_of_nonneg _ (by decide)]
 .rfl
theorem AD(xs:List av)(o:xs.length<=9223372036854775807):bk 165 (aH xs) (aV (aE xs)):=by
 have m:=vY xs o
 cases hp:az xs with
 |false=>
  rw[hp]at m
  have f:aE xs=[]:=by simp[aE,hp]
  rw[f];refine Dp func165 λC hP hN=>?_;exact Gy
 |true=>
  rw[hp]at m
  have h8:xs.length<=8:=by
   simp only[az,An,L4]at hp;omega
  have f:aE xs=xs.map jx:=by simp[aE,hp]
  rw[f];refine Dp func165 λC hP hN=>?_;refine sh [3] trivial ?_;refine WP.loopN [] xs.length (λi st=>st.t 0=.pv (aH xs)/\st.t 4=.pv (Z i)/\st.t 3=.arr 3 i/\st.h 3=some (.row 68 3 (((xs.map jx).map ax).take i) 0)) (by simp) ?_;rintro i st hi ⟨g0,g4,g3,d⟩
  have g:min i xs.length=i:=by omega
  by_cases c:i<xs.length
  .have p:=am c (by omega)
   have a:(i:Int)<(xs.length:Int):=by omega
   generalize e:xs[i]=v at *
   have n:xs[i]?=some v:=by rw[an c,e]
   have j:=ME v.1;have k:=ME v.2.1;have l:=ME v.2.2;rw[M6]at j k l
   have hS:((xs.map jx).map ax).take (i+1)=((xs.map jx).map ax).take i++[ax (mv v.1,mv v.2.1,mv v.2.2)]:=by
    rw[List.take_succ,T0,T0,n];rfl
   rw[hS]
   have hL:(((xs.map jx).map ax).take i).length=i:=by simp[g]
   generalize((xs.map jx).map ax).take i=R at *
   with_reducible repeat' (first|refine Sp.h ?_|((first|refine Wd ?_|refine Ss.h ?_|refine Sc.h (j) ?_|refine Sc.h (k) ?_|refine Sc.h (l) ?_|(refine Sb.h ?_ ?_ ?_<;>(try intro hgd)<;>try exact Xy))<;>simp -implicitDefEqProofs (maxSteps:=2000000) [hP,hN,g0,g4,g3,d,c,a,n,e,p,hL,show(i+1)*24<=140737488355328 by omega,show i<=9223372036854775806 by omega]<;>try refine Ya ?_)|refine X2 ?_ ?_|(refine Xd ?_ ?_<;>intro hcd<;>try exact Xx))
  .have a:¬(i:Int)<(xs.length:Int):=by omega
   have b:((xs.map jx).map ax).take i=(xs.map jx).map ax:=Up (by simp;omega);rw[b]at d
   have hL:xs.length=i:=by omega
   exact Gy
theorem M7(js:List J)(ms:List Ms)(bx:List Iv)(d:js.length<=9223372036854775807)(a:bx.length<=9223372036854775807):aO 112 (gP js ms) (iv bx) (B (kj js bx)):=by
 have hd:kj js bx=(decide (bx.length=js.length)&&bi vI bx):=rfl;have c:=ik bx a;by_cases h:bx.length=js.length
 .rw[hd,UA h,Un]
  have b:((bx.length:Int)==(js.length:Int))=true:=by simp[h]
  generalize bi vI bx=r at *;refine Dp func112 λC hP hN=>?_;exact Gy
 .rw[hd,U0 h,UB]
  have b:((bx.length:Int)==(js.length:Int))=false:=by simp;omega
  refine Dp func112 λC hP hN=>?_;exact Gy
set_option maxRecDepth 4000 in
theorem Rj(js:List J)(ms:List Ms)(bx:List Iv)(hm:ms.length<=9223372036854775807)(h0:aW js ms=0)(F:kj js bx=true):aO 216 (gP js ms) (iv bx) (.sl ((iy js bx).map cG)):=by
 obtain⟨hj,hl,_⟩:=sB h0;have hb:=(uC.1 F).1;have cr:=xq js ms (by omega) hm;have cb:=M7 js ms bx (by omega) (by omega);rw[h0]at cr;rw[F]at cb;have M:(iy js bx).length=js.length:=kP hb _ (T8 _);have N:=λi j v(h1:js[i]?=some j)(h2:bx[i]?=some v)=>Dg hb h1 h2 (hj i j h1);generalize iy js bx=l at *;generalize z:l.map cG=e at *
 have ad:e.length=js.length:=by rw[<-z];simpa using M
 have B:∀k p,l[k]?=some p->e[k]?=some (cG p):=λk p h=>by rw[<-z,T0,h];rfl
 refine Dp func216 λC hP hN=>?_;refine sh [5] trivial ?_;refine WP.loopN [7] bx.length (λi st=>st.t 2=.ptr 2 0/\st.h 2=some (.box [.pv (.sl (js.map bR)),.pv (.sl (ms.map dC))] true false)/\st.t 1=.pv (iv bx)/\st.t 6=.pv (Z i)/\st.h 7=none/\st.t 5=.arr 5 i/\st.h 5=some (.row 247 24 (e.take i) 0)) (by simp) ?_;rintro i st hi ⟨g2,m,g1,L,n,g5,f⟩
 have g:(e.take i).length=i:=by simp;omega
 by_cases c:i<bx.length
 .have hw:=am c (by omega)
  have s:i<js.length:=by omega
  have d:(i:Int)<(bx.length:Int):=by omega
  generalize y:js[i]=j at *
  have K:js[i]?=some j:=by rw[an s,y]
  generalize u:bx[i]=v at *
  have V:bx[i]?=some v:=by rw[an c,u]
  obtain⟨⟨P,Q⟩,ar,a1⟩:=hj i j K;have cj:=Rg (a:=v.1) (b:=v.2) j P Q;have E:=N i j v K V;generalize hq:mL j (v.1,v.2)=q at *
  have key:∀x,l[i]?=some x->e.take (i+1)=e.take i++[cG x]:=λx W=>by
   rw[List.take_succ,B i x W];rfl
  by_cases I:j.parent=-1
  .rw[T6 I]at E
   have X:=key q E;rw[X]
   have o:(j.parent != -1)=false:=by simp[I]
   generalize e.take i=R at *;exact GS (zAe g2 m g1 L n g5 f g s c d hw K y (so V u o (show(i+1)*192<=140737488355328 by omega) (show i<=9223372036854775806 by omega)))
  .rw[TZ I]at E
   obtain⟨p,hp⟩:∃p:Nat,j.parent=p:=⟨j.parent.toNat,by omega⟩
   have o:(j.parent != -1)=true:=by simp[I]
   have S:(0:Int)<=j.parent:=by omega
   have H:j.parent.toNat=p:=by omega
   have G:p<i:=by omega
   have U:p<l.length:=by omega
   have A:l[p]?=some l[p]:=an U;rw[H,A,Ug]at E
   have D:(e.take i)[p]?=some (cG l[p]):=by rw[Ur,T6 G];exact B p _ A
   have O:=pM D;generalize l[p]=Y at *;have X:=key _ E;rw[X];have cc:bf prog 259 [.pv (cG Y),.pv (cG q)] [] [] (.pv (cG (om Y q))):=vX;generalize om Y q=a2 at *;generalize e.take i=R at *
   have T:p<R.length:=by omega
   exact GS (zAe g2 m g1 L n g5 f g s c d hw K y (zAc V u o S H G D O T (gA (show(i+1)*192<=140737488355328 by omega) (show i<=9223372036854775806 by omega))))
 .have r:e.take i=e:=Up (by omega)
  have d:¬(i:Int)<(bx.length:Int):=by omega
  rw[r]at f g;exact GS (zAc g2 m g1 L n g5 f c d g)
set_option maxRecDepth 4000 in
theorem Rk(s:Sce)(bx:List Iv)(hs:ScL s)(y:aZ s=0)(m:kj s.js bx=true):aO 158 (gb s) (iv bx) (.sl ((fK s bx).map aH)):=by
 have cc:=J9 s hs;rw[y]at cc
 have Y:aW s.js s.ms=0:=by
  unfold aZ at y;split at y
  .rename_i h;exact absurd y h
  .rename_i h;simpa using h
 obtain⟨v1,v2,v3,v4,v5,v6,v7⟩:=nD y;have J:=(uC.1 m).1;have T:=M7 s.js s.ms bx hs.js (by omega);have cl:=Rj s.js s.ms bx hs.ms Y m;rw[m]at T;have U:(iy s.js bx).length=s.js.length:=kP J _ (T8 _);have B:fK s bx=s.shs.map λh=>eO h (iA (iy s.js bx) h):=rfl;rw[B];generalize iy s.js bx=b at *;generalize g:(s.shs.map λh=>eO h (iA b h)).map aH=d
 have V:d.length=s.shs.length:=by rw[<-g];simp
 have A:∀k h,s.shs[k]?=some h->d[k]?=some (aH (eO h (iA b h))):=λk q W=>by rw[<-g,T0,T0,W];rfl
 refine Dp func158 λC hP hN=>?_;refine sh [6] trivial ?_;refine WP.loopN [8] s.shs.length (λi st=>st.t 2=.ptr 2 0/\st.h 2=some (.box [.pv (.sl (s.js.map bR)),.pv (.sl (s.ms.map dC)),.pv (.sl (s.shs.map dc)),.pv (.sl (s.sks.map aP))] true false)/\st.t 5=.pv (.sl (b.map cG))/\st.t 7=.pv (Z i)/\st.h 8=none/\st.t 6=.arr 6 i/\st.h 6=some (.row 153 1 (d.take i) 0)) (by simp) ?_;rintro i st hi ⟨g2,j,g5,I,l,H,e⟩
 have f:(d.take i).length=i:=by simp;omega
 by_cases c:i<s.shs.length
 .have Q:=am c (by omega)
  have a:(i:Int)<(s.shs.length:Int):=by omega
  generalize v:s.shs[i]=h at *
  have E:s.shs[i]?=some h:=by rw[an c,v]
  have X:=Is E;obtain⟨K,N⟩:=v6 h X;simp only[dJ,An,L4]at K;have P:=λp=>Ri h p N
  have k2:d.take (i+1)=d.take i++[aH (eO h (iA b h))]:=by rw[List.take_succ,A i h E];rfl
  rw[k2];clear A g B;by_cases x:h.link=-1
  .have n:(h.link==-1)=true:=by simp[x]
   have o:(h.link != -1)=false:=by simp[x]
   have u:iA b h=gV:=by simp[iA,x]
   rw[u];have F:=P gV;have G:=Ji;generalize eO h gV=pl at *;generalize gV=O at *;generalize d.take i=R at *;exact GS (zAe g2 j g5 I l H e f c a Q E v n (be o (show(i+1)*24<=140737488355328 by omega) (show i<=9223372036854775806 by omega)))
  .have n:(h.link==-1)=false:=by simp[x]
   have o:(h.link != -1)=true:=by simp[x]
   have L:(0:Int)<=h.link:=by omega
   obtain⟨p,hp⟩:∃p:Nat,h.link.toNat=p:=⟨_,rfl⟩
   have D:p<b.length:=by omega
   have z:b[p]?=some b[p]:=an D
   have u:iA b h=b[p]:=by simp only[iA,TZ x,hp,z,Ug]
   rw[u];generalize M:b[p]=S at *;have F:=P S;have G:=Ji;generalize eO h S=pl at *;generalize gV=O at *;generalize d.take i=R at *;exact GS (zAe g2 j g5 I l H e f c a Q E v n (zAb o L hp D z M (show(i+1)*24<=140737488355328 by omega) (show i<=9223372036854775806 by omega)))
 .have r:d.take i=d:=Up (by omega)
  have a:¬(i:Int)<(s.shs.length:Int):=by omega
  rw[r]at e f;exact GS (zAc g2 j g5 I l H e c a f)
theorem Rl(n:Nat)(hn:n<4611686018427387904):bk 288 (Z n) (Z (dK n)):=by
 by_cases B:n=0
 .subst B
  have hs:dK 0=0:=by decide +kernel
  rw[hs];refine Dp func288 λC hP hN=>?_;exact Gy
 have F:¬(n:Int)<1:=by omega
 have s:¬n<1:=by omega
 have o:=rS (n:=n) (by omega);refine Dp func288 λC hP hN=>?_;refine Gz ?_;refine WP.loopN [] 32 (λi st=>∃lo hi:Nat,st.t 0=.pv (Z n)/\st.t 3=.pv (Z lo)/\st.t 4=.pv (Z hi)/\1<=lo/\lo<hi/\hi<=4294967296/\lo*lo<=n/\n<hi*hi/\hi-lo<=2^(32-i)) ⟨1,4294967296,by simp;omega⟩ ?_;rintro i st hi ⟨lo,a,g0,g3,g4,b1,b2,b3,b4,b5,b6⟩;have u:i64.wrap ((a:Int)-(lo:Int))=((a-lo:Nat):Int):=(aa (by omega) (by omega)).trans (by omega);by_cases r:1<a-lo
 .have f:i<32:=by
   by_cases h:i<32
   .exact h
   .have:i=32:=by omega
    subst this;simp at b6;omega
  have hp:2^(32-i)=2*2^(31-i):=by
   rw[show 32-i=(31-i)+1 by omega,WA];omega
  rw[hp]at b6;obtain⟨m,H⟩:∃m:Nat,m=lo+(a-lo)/2:=⟨_,rfl⟩
  have k:(1:Int)<((a-lo:Nat):Int):=by omega
  obtain⟨hf,E⟩:∃hf:Nat,hf=(a-lo)/2:=⟨_,rfl⟩
  have v:i64.wrap ((((a-lo:Nat):Int)).tdiv 2)=(hf:Int):=by
   rw[Uk (by omega)];exact(aa (by omega) (by omega)).trans (by omega)
  have x:i64.wrap ((lo:Int)+(hf:Int))=(m:Int):=(aa (by omega) (by omega)).trans (by omega)
  have l:0<m:=by omega
  have g:¬(m:Int)=0:=by omega
  have c:¬m=0:=by omega
  obtain⟨j,d⟩:∃j:Nat,j=n/m:=⟨_,rfl⟩
  have G:j<=n:=by rw[d];exact Nat.div_le_self n m
  have y:i64.wrap ((n:Int).tdiv (m:Int))=(j:Int):=by
   rw[Uk (by omega),<-Int.natCast_ediv,<-d];exact aa (by omega) (by omega)
  have z:i64.wrap (((a-lo:Nat):Int)/2)=(hf:Int):=(aa (by omega) (by omega)).trans (by omega)
  have A:i64.wrap ((n:Int)/(m:Int))=(j:Int):=by
   rw[<-Int.natCast_ediv,<-d];exact aa (by omega) (by omega)
  by_cases e:m<=j
  .have q:m*m<=n:=(Wp l).1 (d▸e)
   have b:(m:Int)<=(j:Int):=by omega
   with_reducible repeat' (first|refine Sp.h ?_|((first|refine Ss.h ?_|(refine Sb.h ?_ ?_ ?_<;>(try intro hgd)<;>try exact Xy))<;>simp -implicitDefEqProofs (maxSteps:=2000000) [hP,hN,g0,g3,g4,u,v,x,y,z,A,r,k,g,c,e,b])|refine X2 ?_ ?_|(refine Xd ?_ ?_<;>intro hcd<;>try exact Xx))
   exact⟨f,m,rfl,a,rfl,by omega,by omega,by omega,by omega,by omega,by omega⟩
  .have q:n<m*m:=by
    rcases Nat.lt_or_ge n (m*m)with h|h
    .exact h
    .exact absurd (d▸(Wp l).2 h) e
   have b:¬(m:Int)<=(j:Int):=by omega
   with_reducible repeat' (first|refine Sp.h ?_|((first|refine Ss.h ?_|(refine Sb.h ?_ ?_ ?_<;>(try intro hgd)<;>try exact Xy))<;>simp -implicitDefEqProofs (maxSteps:=2000000) [hP,hN,g0,g3,g4,u,v,x,y,z,A,r,k,g,c,e,b])|refine X2 ?_ ?_|(refine Xd ?_ ?_<;>intro hcd<;>try exact Xx))
   exact⟨f,lo,rfl,m,rfl,by omega,by omega,by omega,by omega,by omega,by omega⟩
 .have p:a=lo+1:=by omega
  subst p;have D:lo=dK n:=Bg b4 b5 o.1 o.2
  have k:¬(1:Int)<((lo+1-lo:Nat):Int):=by omega
  exact Gy
  all_goals simp[D]
theorem Rm(n:Nat)(hn:n<4611686018427387904):bk 267 (Z n) (Z (sD n)):=by
 have f:=Rl n hn;have e:=rS (n:=n) (by omega);have d:=sS hn
 have hd:sD n=if dK n*dK n<n then dK n+1 else dK n:=rfl
 have i:i64.wrap ((dK n:Int)*(dK n:Int))=((dK n*dK n:Nat):Int):=by
  rw[<-Int.natCast_mul];exact aa (by omega) (by omega)
 have j:i64.wrap ((dK n:Int)+1)=((dK n+1:Nat):Int):=(aa (by omega) (by omega)).trans (by omega);rw[hd];generalize dK n=r at *;by_cases g:0<n
 .have a:(0:Int)<(n:Int):=by omega
  by_cases c:r*r<n
  .have b:((r*r:Nat):Int)<(n:Int):=by omega
   rw[T6 c];refine Dp func267 λC hP hN=>?_;exact Gy
  .have b:¬((r*r:Nat):Int)<(n:Int):=by omega
   rw[TZ c];refine Dp func267 λC hP hN=>?_;exact Gy
 .have a:¬(0:Int)<(n:Int):=by omega
  rw[TZ (by omega)];refine Dp func267 λC hP hN=>?_;exact Gy
theorem M8(v:Vc):bk 224 (ax v) (Z (fX v)):=by
 have d:=As v;rw[tj]at d
 cases c:aQ v with
 |false=>
  rw[c]at d
  have e:fX v=0:=by simp[fX,c]
  rw[e];refine Dp func224 λC hP hN=>?_;exact Gy
 |true=>
  rw[c]at d
  have hn:aC 16384 v=true:=by simp only[aQ,An]at c;exact c.1
  have hs:=Ht hn
  have e:fX v=(sD (vU v):Int):=by simp[fX,c]
  have f:=Rm (vU v) (by omega);have g:=wR (cD.1 hn).1;have i:=wR (cD.1 hn).2.1;have j:=wR (cD.1 hn).2.2;have n:=bQ (a:=v.1) (b:=v.1) 16384 16384 (by omega) (by omega) (by omega) (by omega);have o:=bQ (a:=v.2.1) (b:=v.2.1) 16384 16384 (by omega) (by omega) (by omega) (by omega);have p:=bQ (a:=v.2.2) (b:=v.2.2) 16384 16384 (by omega) (by omega) (by omega) (by omega);have k:=FP v.1;have l:=FP v.2.1;have m:=FP v.2.2;have q:i64.wrap (v.1*v.1)=v.1*v.1:=aa;have r:i64.wrap (v.2.1*v.2.1)=v.2.1*v.2.1:=aa;have s:i64.wrap (v.2.2*v.2.2)=v.2.2*v.2.2:=aa;have u:i64.wrap (v.1*v.1+v.2.1*v.2.1)=v.1*v.1+v.2.1*v.2.1:=aa;have x:i64.wrap (v.1*v.1+v.2.1*v.2.1+v.2.2*v.2.2)=(vU v:Int):=(aa (by omega) (by omega)).trans (by unfold vU;omega);rw[e];refine Dp func224 λC hP hN=>?_;exact Gy
theorem Ke{c d e x0 x1 x2 x3 x4 x5:Int}(l:aQ (c,d,e)=true)(m:df ((x0,x1),(x2,x3),(x4,x5))=true):aO 266 (ax (c,d,e)) (V6 x0 x1 x2 x3 x4 x5) (.tup [Z (gD (c,d,e) ((x0,x1),(x2,x3),(x4,x5))),Z (gE (c,d,e) ((x0,x1),(x2,x3),(x4,x5)))]):=by
 have o:=As (c,d,e);rw[tj,l]at o;have n:=Bl (x0:=x0) (x1:=x1) (x2:=x2) (x3:=x3) (x4:=x4) (x5:=x5);rw[m]at n
 have hn:aC 16384 (c,d,e)=true:=by simp only[aQ,An]at l;exact l.1
 have i:=cD.1 hn;have j:=gv.1 m;have m0:=oq i.1 j.1;have m1:=oq i.2.1 j.2.1;have m2:=oq i.2.2 j.2.2;simp only[qq,qu]at m0 m1 m2;have g:gD (c,d,e) ((x0,x1),(x2,x3),(x4,x5))=min (c*x0) (c*x1)+min (d*x2) (d*x3)+min (e*x4) (e*x5):=rfl;have f:gE (c,d,e) ((x0,x1),(x2,x3),(x4,x5))=max (c*x0) (c*x1)+max (d*x2) (d*x3)+max (e*x4) (e*x5):=rfl;rw[g,f];have w:∀y:Int,-100000000000000<=y->y<=100000000000000->i64.wrap y=y:=λy a b=>aa (by omega) (by omega);have a0:=w (c*x0) (by omega) (by omega);have a1:=w (c*x1) (by omega) (by omega);have a2:=w (d*x2) (by omega) (by omega);have a3:=w (d*x3) (by omega) (by omega);have a4:=w (e*x4) (by omega) (by omega);have a5:=w (e*x5) (by omega) (by omega)
 have z:∀a b:Int,(if b<a then b else a)=min a b:=λa b=>by omega
 have x:∀a b:Int,(if a<b then b else a)=max a b:=λa b=>by omega
 have b0:=w (min (c*x0) (c*x1)) (by omega) (by omega);have b1:=w (min (c*x0) (c*x1)+min (d*x2) (d*x3)) (by omega) (by omega);have b2:=w (min (c*x0) (c*x1)+min (d*x2) (d*x3)+min (e*x4) (e*x5)) (by omega) (by omega);have d0:=w (max (c*x0) (c*x1)) (by omega) (by omega);have d1:=w (max (c*x0) (c*x1)+max (d*x2) (d*x3)) (by omega) (by omega);have d2:=w (max (c*x0) (c*x1)+max (d*x2) (d*x3)+max (e*x4) (e*x5)) (by omega) (by omega);refine Dp func266 λC hP hN=>?_;refine Gz ?_;refine WP.loopN [] 3 (λk st=>st.t 2=.ptr 2 0/\st.t 3=.ptr 3 0/\st.h 2=some (.box [.pv (Z c),.pv (Z d),.pv (Z e)] true false)/\st.h 3=some (.box [.pv (Z x0),.pv (Z x1),.pv (Z x2),.pv (Z x3),.pv (Z x4),.pv (Z x5)] true false)/\st.t 8=.pv (Z k)/\st.t 6=.pv (Z (if k=0 then 0 else if k=1 then min (c*x0) (c*x1)else if k=2 then min (c*x0) (c*x1)+min (d*x2) (d*x3)else min (c*x0) (c*x1)+min (d*x2) (d*x3)+min (e*x4) (e*x5)))/\st.t 7=.pv (Z (if k=0 then 0 else if k=1 then max (c*x0) (c*x1)else if k=2 then max (c*x0) (c*x1)+max (d*x2) (d*x3)else max (c*x0) (c*x1)+max (d*x2) (d*x3)+max (e*x4) (e*x5)))) (by simp) ?_;rintro k st v ⟨g2,g3,s,u,r,p,q⟩;rcases eF v with rfl|rfl|rfl|rfl
 all_goals (simp at p q r)
 all_goals
  exact Gy
end Go.Ab
