/- The contracts and facts that the laws of this seat need, in one text (DlL, Dc4, DcR, Dc12, Dc14, Gr1, Gr2, Gr3, Gr4, Gr5, Gr6, Gr7, KM1, KM2, KM3, KM4, K15, K15b, K16, K17, KM5, L28a, TrW, TrY, L28d, L28b, L28e, TC1, DeQ, Gr8, De2, De3, Gs1, Gs2, Ru1, KR1, KR2, KR3, KR4, KR5, K18, KR6, KR7, KR8, KR9, KR10). -/
import Derived.Test.YtdbgcnplnhmjgaaGreatV10
import Derived.Test.YtdbgcnplnhmjgaaGreatProg
import Derived.Shelf.Slices.Delete
set_option linter.all false
set_option maxRecDepth 10000
set_option maxHeartbeats 16000000
namespace Go.Ab
open IntKind (i64)
open Go.Proofs.Tryz
open Go.Proofs Go.Shelf Go.Sort
def UD(x:Nat):Nat:=match x with
 |23=>91
 |n=>n
def UE(x:Nat):Nat:=match x with
 |22=>31
 |n=>n
def Rh:Ren:=⟨UD,UE,λx=>x⟩
theorem Ri:Lays2.n23 prog Rh:=
 {mixed:=by kernel_rfl,f23:=func91.trans (Xq some (by kernel_rfl)),
  t0:=Tryz.underlying0,a0:=Tryz.isAgg0,z0:=Tryz.sizeOf0,v0:=Tryz.zeroValue0,t3:=Tryz.underlying3,a3:=Tryz.isAgg3,z3:=Tryz.sizeOf3,v3:=Tryz.zeroValue3,
  t4:=Tryz.underlying4,a4:=Tryz.isAgg4,z4:=Tryz.sizeOf4,v4:=Tryz.zeroValue4,t22:=Tryz.underlying31,a22:=Tryz.isAgg31,z22:=Tryz.sizeOf31,v22:=Tryz.zeroValue31,i3:=by kernel_rfl}
theorem JZ:Gr prog 91:=⟨by kernel_rfl,λa cap i j zs w c d f b e=>Any.slices_Delete_int Ri a 0 cap i j zs w c d f b e⟩
end Go.Ab
namespace Go.Ab
open IntKind (i64)
open Go.Proofs.Tryz
open Go.Proofs
variable {P:Nat->List Bool}{Q:St->Prop}{a a0 a1 a10 a11 a12 a13 a14 a15 a16 a17 a2 a3 a4 a5 a6 a7 a8 a9 b b0 b1 b2 b3 b4 b5 j joint sort v0 v1 v2 v3 v4 v5 w:Int}{aft:Array Edge}{args:List AV}{c i k leaf n:Nat}{d dst:Option Nat}{f:Operand}{g:Option (Nat×Bool)}{jn p q:List Int}{js:List J}{ms:List Ms}{op:List Bool}{pos:String}{s:Spc}{sc:Sce}{st:St}{t:Tr}{ts:Array TypeId}{ty:TypeId}{x:Iv}{xs:List Operand}{ρ:Operand->AV}
theorem GF(xs:List (Int×Int))(j:Int):(aW xs j).length<=xs.length:=by
 unfold aW;split
 .split<;>simp
 .simp
theorem GG(xs:List (Int×Int))(j:Int):(aX xs j).length<=xs.length:=by
 unfold aX;split
 .split<;>simp
 .simp
theorem JQ{r:Nat}:((iM s.near).set leaf dE++[dE,dE]++List.replicate r dE).map (bQ (leaf+300) 250)=(iM s.near).set leaf dE++[dE,dE]++List.replicate r dE:=by
 rw[XZ,XZ,List.map_replicate]
 congr 1
 congr 1
 apply WA;intro v;rw[VN,VV];split
 .rename_i e;subst e
  split<;>rfl
 .rename_i e
  simp only[iM,VN]
  cases h:(List.range s.near.length)[v]? with
  |none=>rfl
  |some w=>
   have b:w=v:=by
    have:=(th.1 h).2;simp at this;exact this.symm
   subst b;simp[bQ,bn,rk,show¬w=leaf from λa=>e a.symm]
theorem JR{r:Nat}(i:Nat)(x:AV)(a:leaf<s.near.length)(h:(iM (dB s leaf joint).near++List.replicate r dE)[i]?=some x):
 ((iM s.near).set leaf dE++[dE,dE]++List.replicate r dE)[i]?=some x\/(((iM s.near).set leaf dE++[dE,dE]++List.replicate r dE)[i]?=some dE/\∃q,(decide (q=leaf+300)||decide (q=s.near.length+300)||decide (q=s.near.length+301))=true/\x=.arr q 0):=by
 have hN:(dB s leaf joint).near.length=s.near.length+2:=by simp[dB]
 by_cases g:i<s.near.length+2
 .rw[VO (by rw[da];omega),mO (by omega)]at h
  injection h with h
  have d:(((dB s leaf joint).near[i]?).getD [])=if i=leaf then[]else ab s i:=pd a
  rw[d]at h;rw[VO (by simp[da];omega)];by_cases c:i<s.near.length
  .rw[VO (by simp[da];omega),VV]
   by_cases e:leaf=i
   .subst e
    rw[VS rfl]at h;exact .inr ⟨by simp[da,a],leaf+300,by simp,h.symm⟩
   .rw[VM (λb=>e b.symm)]at h
    rw[VM e,mO c];exact .inl (by rw[<-h];rfl)
  .have f:ab s i=[]:=by unfold ab;rw[VW (by omega)];rfl
   rw[VM (by omega),f]at h;rw[VR (by simp[da];omega)];simp only[Xl,da]
   have:i-s.near.length=0\/i-s.near.length=1:=by omega
   refine .inr ⟨by rcases this with e|e<;>rw[e]<;>rfl,i+300,?_,h.symm⟩;rcases this with e|e
   .simp[show i=s.near.length by omega]
   .simp[show i=s.near.length+1 by omega]
 .rw[VR (by rw[da];omega),da,hN]at h
  refine .inl ?_;rw[VR (by simp[da];omega)];simpa[da]using h
theorem DB{v:Nat}:∀{l:List Nat},v∈l->∃j,l[j]?=some v/\(∀i,i<j->l[i]?≠some v)/\l.erase v=l.take j++l.drop (j+1)
 |a::l,h=>by
  by_cases e:a=v
  .subst e
   exact⟨0,rfl,λi hi=>by omega,by simp⟩
  .obtain⟨j,c,d,f⟩:=DB (l:=l) (by simpa[show¬v=a from λb=>e b.symm]using h)
   refine⟨j+1,by simpa using c,λi hi=>?_,?_⟩
   .cases i with
    |zero=>simp[e]
    |succ i=>simpa using d i (by omega)
   .rw[List.erase_cons_tail (by simpa using e),f];rfl
theorem Rg(xs:List Nat)(v j:Nat)(m:xs.length<=9223372036854775807)(g:xs[j]?=some v)(n:∀i,i<j->xs[i]?≠some v):aH 90 (vZ xs) (Z v) (Z j):=by
 obtain⟨l,k⟩:=th.1 g;refine Dp func90 λC hP hN=>?_;refine Gz ?_;refine WP.loopN [] xs.length (λi st=>st.t 0=.pv (vZ xs)/\st.t 1=.pv (Z v)/\st.t 7=.pv (Z xs.length)/\st.t 8=.pv (Z i)/\i<=j) (by simp) ?_;rintro i st hi ⟨g0,g1,p,q,f⟩
 have a:i<xs.length:=by omega
 have r:=aj a m;have c:xs[i]?=some xs[i]:=an a;by_cases e:i=j
 .subst e
  exact Gy
 .have b:=n i (by omega)
  generalize s:xs[i]=y at *;have o:¬v=y:=λd=>b (by rw[c,d])
  have d:¬(v:Int)=(y:Int):=by omega
  refine Gz ?_
  all_goals omega
theorem Uo(s:Spc)(c n leaf:Nat)(joint:Int)(cM:s.cc=false)(h1:s.near.length=n)(h2:s.bx.length=n)(h3:s.cells.length=n)(h4:s.jn.length=n)(hn:n<=2046)(cU:leaf<n)(ch:∀x∈s.bx,x.length<=16777216)(ct:∀v,(ab s v).length<=2046)(cr:(ab s leaf).Nodup)(c0:∀k∈ab s leaf,k<n/\k≠leaf/\leaf∈ab s k):
 nY prog 37 [.ptr 290 0,.pv (Z leaf),.pv (Z joint)] (bo false s c) (λr h'=>r=.pv (.sl [Z n,Z ((n:Int)+1)])/\∃c',h'=bo false (bA s leaf joint) c'):=by
 have a1:s.bx[leaf]?=some (ax s leaf):=by simp[ax,an (by omega:leaf<s.bx.length)]
 have b0:leaf<s.bx.length:=by omega
 have b1:leaf<s.cells.length:=by omega
 have a6:=iK a1 b0;have cH:=Qa (ax s leaf) joint (ch _ (Is a1));have ck:s.cells[leaf]?=some s.cells[leaf]:=an b1;generalize cj:s.cells[leaf]=cl at *;have E:=oZ false s c;have U:=rB false s c cM;rw[sX cM]at E;have V:=rC false s c;have M:=o8 false s c;have W:=ud false s c;have h9:bo false s c 9=none:=rfl;have cx:i64.wrap ((n:Int)+1)=(n:Int)+1:=aa;rw[h1]at E;rw[h2]at E;rw[h3]at E;rw[h4]at E;have bb:=mh (own:=false) (s:=s) (c:=c) (v:=leaf) (by omega);obtain⟨cs,G⟩:∃cs,cs=iM s.near++List.replicate c dE:=⟨_,rfl⟩;rw[<-G]at M
 have F:cs.length=n+c:=by rw[G];simp[da,h1]
 have ca:cs[leaf]?=some (.arr (leaf+300) (ab s leaf).length):=by rw[G,VO (by rw[da];omega),mO (by omega)];rfl
 have Y:∀h,cs[leaf]'h=.arr (leaf+300) (ab s leaf).length:=λh=>iK ca h;have sa:∀x,cs.take leaf++x::cs.drop (leaf+1)=cs.set leaf x:=λx=>qR (by omega)
 have cq:leaf+1<=n+c:=by omega
 have a7:leaf<n+c:=by omega
 refine Hs func37 (pc (by omega)) ?_;intro C hP hN;simp only[f37]at hN|-;generalize hH:bo false s c=H at *
 with_reducible repeat' (first|refine Sp.h ?_|((with_unfolding_all refine WP.appBAt (hn:=[2000101]) (d:=102) 6 rfl rfl rfl rfl ?_);simp -implicitDefEqProofs (maxSteps:=2000000) [hP,hN,tQ,h1,h2,h3,h4,E,U,V,M,W,h9,cx,b0,b1,a1,a6,ck,cj,bb,ca,Y,sa,cq,a7,F,cU,show¬leaf+300=290 by omega,show¬leaf+300=291 by omega,show¬leaf+300=292 by omega,show¬leaf+300=293 by omega,show¬leaf+300=294 by omega,show(n+2)*8<=140737488355328 by omega,show(n+2)*24<=140737488355328 by omega,show(n+2)*112<=140737488355328 by omega,show n+2<=9223372036854775807 by omega])|((first|refine Wd ?_|refine Ss.h ?_|refine Sc.h (cH) ?_|(refine Sb.h ?_ ?_ ?_<;>(try intro hgd)<;>try exact Xy))<;>simp -implicitDefEqProofs (maxSteps:=2000000) [hP,hN,tQ,h1,h2,h3,h4,E,U,V,M,W,h9,cx,b0,b1,a1,a6,ck,cj,bb,ca,Y,sa,cq,a7,F,cU,show¬leaf+300=290 by omega,show¬leaf+300=291 by omega,show¬leaf+300=292 by omega,show¬leaf+300=293 by omega,show¬leaf+300=294 by omega,show(n+2)*8<=140737488355328 by omega,show(n+2)*24<=140737488355328 by omega,show(n+2)*112<=140737488355328 by omega,show n+2<=9223372036854775807 by omega]<;>try refine Yc ?_)|refine X2 ?_ ?_|(refine Xd ?_ ?_<;>intro hcd<;>try exact Xx))
 refine⟨293,n,c,(iM s.near).set leaf dE,.slice none 0 0,31,24,_,[.val (.slice none 0 0),.val (.slice none 0 0)],by simp[St.ev],?_,by simp[da,h1],?_,by simp[St.ev],by simp,by simp[PV.cells,Value.cells],by simp,by rw[hP];exact TC,rfl,rfl,by simp;omega,by simp;omega,by omega,by omega,by omega,?_⟩
 .have:cs.set leaf dE=(iM s.near).set leaf dE++List.replicate c dE:=by rw[G,XQ _ _ (by rw[da];omega)]
  simp[ag,this]
 .intro y hy
  rcases WH hy with hy|rfl
  .simp only[iM,Wf,Wz]at hy
   obtain⟨v,hv,rfl⟩:=hy;simp[bC,aK]
  .rfl
 intro N;simp -implicitDefEqProofs (maxSteps:=2000000) [hP,hN,tQ,rekey,az,bG,bC,aK,h1,h2,h3,h4,E,U,V,M,W,h9];refine HP (s7 @tQ.eq_1 @rekey.eq_1 @az.eq_1 @bG.eq_1 @bG.eq_2 @bC.eq_1 @bC.eq_2 @bC.eq_3 @bC.eq_4 @aK.eq_1 @aK.eq_2 @aK.eq_3 @aK.eq_4 h1 (s5 h2 h3 h4 E U V M W h9 bb)) ?_
 refine WP.of_st (P:=λst=>st.t 0=.ptr 290 0/\st.t 1=.pv (Z leaf)/\st.t 7=.pv (Z n)/\st.t 8=.pv (Z ((n:Int)+1))/\st.t 105=.arr (leaf+300) (ab s leaf).length/\st.t 106=.pv (Z (ab s leaf).length)/\st.t 107=.pv (Z 0)/\
  st.h 250=none/\st.h 290=some (.box [.pv (iv s.root),.arr 291 (n+2),.arr 292 (n+2),.ext (.barr 293 (n+2) (n+2+N)),.arr 294 (n+2)] false false)/\st.h 291=some (.row 58 8 (((dB s leaf joint).cells).map bw) 0)/\st.h 292=some (.row 39 1 ((dB s leaf joint).bx.map iv) 0)/\st.h 294=some (.row 3 1 ((dB s leaf joint).jn.map Z) 0)/\
  st.h 293=some (.box ((iM s.near).set leaf dE++[dE,dE]++List.replicate N dE) true false)/\∀k,295<=k->st.h k=H k) ⟨?_,?_⟩
 .simp[dB,h3,bw,aD,G,rekey,az,bG,bC,aK,ag]
  refine⟨by rw[<-hH];rfl,rfl,λk hk=>?_⟩
  have O:H k=none\/∃xs,H k=some (.row 3 1 xs 0):=by rw[<-hH];exact Ij (by omega)
  rcases O with O|⟨xs,O⟩
  all_goals simp[O,show¬k=290 by omega,show¬k=291 by omega,show¬k=292 by omega,show¬k=293 by omega,show¬k=294 by omega,show¬k=9 by omega]
  trace_state
 generalize D:dB s leaf joint=s0 at *;rintro st ⟨g0,g1,I,J,o,p,u,B,b2,b3,b4,b7,b5,a2⟩;have bc:H (leaf+300)=some (.row 3 1 ((ab s leaf).map λn:Nat=>Z (n:Int)) 0):=bb;refine WP.ren (leaf+300) 250 (by omega) B (by omega) (by rw[a2 _ (by omega),bc];intro cs f e;cases e) ?_;refine WP.nilRows (λq=>decide (q=leaf+300)||decide (q=n+300)||decide (q=n+301)) 3 293 (cs:=(iM s.near).set leaf dE++[dE,dE]++List.replicate N dE) (cs':=iM s0.near++List.replicate N dE) (own:=true) (fb:=false) ?_ ?_ ?_ ?_ ?_
 .show bE (leaf+300) 250 st.h 293=_
  unfold bE;rw[VM (by omega),VM (by omega),b5];simp only[WG,df,JQ]
 .intro q hq
  simp only[WL,L4]at hq;refine⟨?_,by omega⟩;show bE (leaf+300) 250 st.h q=none;unfold bE;rw[VM (by omega)];by_cases e:q=leaf+300
  .rw[VS e]
  .rw[VM e,a2 q (by omega),<-hH]
   unfold bo;rw[VM (by omega),VM (by omega),VM (by omega),VM (by omega),VM (by omega),VM (by omega)];rfl
 .simp[da,<-D,dB,h1];omega
 .intro i x K
  rw[<-D]at K;have:=JR i x (by omega) K;rw[h1]at this;exact this
 obtain⟨A,ba⟩:∃A,A=ab s leaf:=⟨_,rfl⟩
 have el:A.length<=2046:=by rw[ba];exact ct leaf
 rw[<-ba]at o p bc cr c0
 refine WP.of_st (P:=λst=>st.t 0=.ptr 290 0/\st.t 1=.pv (Z leaf)/\st.t 7=.pv (Z n)/\st.t 8=.pv (Z ((n:Int)+1))/\st.t 105=.arr 250 A.length/\st.t 106=.pv (Z A.length)/\st.t 107=.pv (Z 0)/\st.h 250=some (.row 3 1 (A.map λn:Nat=>Z (n:Int)) 0)/\∀k,inK k=true->st.h k=bo false s0 N k)
  ⟨⟨by simp[g0,bQ,bn,rk],by simp[g1,bQ,bn],by simp[I,bQ,bn],by simp[J,bQ,bn],by simp[o,bQ,bn,rk],by simp[p,bQ,bn],by simp[u,bQ,bn],?_,?_⟩,?_⟩
 .have:=a2 (leaf+300) (by omega)
  rw[bc]at this;simp[bE,this,df]
 .intro k hk
  have cb:s0.near.length=n+2:=by rw[<-D];simp[dB,h1]
  have c2:s0.bx.length=n+2:=by rw[<-D];simp[dB,h2]
  have c3:s0.cells.length=n+2:=by rw[<-D];simp[dB,h3]
  have c4:s0.jn.length=n+2:=by rw[<-D];simp[dB,h4]
  have c5:s0.root=s.root:=by rw[<-D];rfl
  have b9:s0.cc=false:=by rw[<-D];rfl
  have cd:∀v,ab s0 v=if v=leaf then[]else ab s v:=λv=>by rw[<-D];exact pd (by omega)
  have hz:∀v,n<=v->ab s v=[]:=λv hv=>by unfold ab;rw[VW (by omega)];rfl
  simp only;simp only[inK,An,L4]at hk;by_cases e0:k=290
  .subst e0
   rw[VM (by simp),VM (by omega),oZ,sX b9,cb,c2,c3,c4,c5];simp[bE,b2,df,bQ,bn,jr,rk,show¬290=leaf+300 by omega,show¬291=leaf+300 by omega,show¬292=leaf+300 by omega,show¬293=leaf+300 by omega,show¬294=leaf+300 by omega]
  by_cases e1:k=291
  .subst e1
   rw[VM (by simp),VM (by omega),rB _ _ _ b9];simp[bE,b3,df,show¬291=leaf+300 by omega]
  by_cases e2:k=292
  .subst e2
   rw[VM (by simp),VM (by omega),rC];simp[bE,b4,df,show¬292=leaf+300 by omega]
  by_cases e3:k=293
  .subst e3
   rw[VM (by simp),VS rfl,o8]
  by_cases e4:k=294
  .subst e4
   rw[VM (by simp),VM (by omega),ud];simp[bE,b7,df,show¬294=leaf+300 by omega]
  by_cases hK:(decide (k=leaf+300)||decide (k=n+300)||decide (k=n+301))=true
  .rw[VS hK]
   simp only[WL,L4]at hK;obtain⟨v,rfl⟩:∃v,k=v+300:=⟨k-300,by omega⟩;rw[mh (by omega),cd];split
   .rfl
   .rw[hz v (by omega)];rfl
  .rw[VM hK,VM e3]
   simp only[WL,L4,not_or]at hK
   have h5:bE (leaf+300) 250 st.h k=H k:=by
    unfold bE;rw[VM (by omega),VM hK.1.1,a2 k (by omega)]
    have O:H k=none\/∃xs,H k=some (.row 3 1 xs 0):=by rw[<-hH];exact Ij (by omega)
    rcases O with O|⟨xs,O⟩<;>rw[O]<;>rfl
   rw[h5,<-hH];unfold bo;rw[VM e0,VM e1,VM e2,VM e3,VM e4,VM e0,VM e1,VM e2,VM e3,VM e4,cb,h1];by_cases h6:300<=k/\k<300+n
   .rw[VS h6,VS (by omega),cd,VM (by omega)]
   .rw[VM h6,VM (by omega)]
 clear g0 g1 I J o p u B b2 b3 b4 b5 b7 a2 st;rintro st ⟨g0,g1,I,J,o,p,u,B,bH⟩;clear E U V M W h9 bb bc sa ca Y F G cx cq a7 a6 b0 b1 ck cj cH
 have cB:∀x∈s0.bx,x.length<=9223372036854775807:=by
  rw[<-D];intro x K;simp only[dB,V4,Wj,Wr,WR]at K;have hh:(ax s leaf).length<=16777216:=ch _ (Is a1);rcases K with K|rfl|rfl
  .have:=ch x K;omega
  .have:=GF (ax s leaf) joint;omega
  .have:=GG (ax s leaf) joint;omega
 clear a1;refine WP.loopN [] A.length (λi st=>st.t 0=.ptr 290 0/\st.t 1=.pv (Z leaf)/\st.t 7=.pv (Z n)/\st.t 8=.pv (Z ((n:Int)+1))/\st.t 105=.arr 250 A.length/\st.t 106=.pv (Z A.length)/\st.t 107=.pv (Z i)/\st.h 250=some (.row 3 1 (A.map λn:Nat=>Z (n:Int)) 0)/\∃S,S=(A.take i).foldl (dj n leaf) s0/\LpI s0 n leaf A i S/\∀k,inK k=true->st.h k=bo false S N k) ?_ ?_
 .refine⟨by simp[St.kill,az,bC,aK,g0],by simp[St.kill,az,bC,aK,g1],by simp[St.kill,az,bC,aK,I],by simp[St.kill,az,bC,aK,J],by simp[St.kill,az,bC,aK,o],by simp[St.kill,az,bC,aK,p],by simp[St.kill,az,bC,aK,u],by simp[St.kill,bG,B],s0,rfl,by rw[<-D];exact LpI.zero h1,λk hk=>?_⟩
  show(st.h k).map (bG [])=_;rw[bH k hk,kS]
 clear g0 g1 I J o p u B bH st;rintro i st hi ⟨g0,g1,I,J,o,p,u,B,S,hS,hI,bH⟩;by_cases a8:i<A.length
 .have cz:=aj a8 (by omega)
  obtain⟨k,hk⟩:∃k,A[i]?=some k:=⟨_,an a8⟩;have cQ:∀h,A[i]'h=k:=λh=>iK hk h;obtain⟨cS,ef,cV⟩:=c0 k (Is hk)
  have ei:k∉A.take i:=λhm=>by
   have ht:A.take (i+1)=A.take i++[k]:=by rw[Yb,hk];rfl
   have:=(List.take_sublist (i+1) A).nodup cr;rw[ht,XM]at this;exact this.2.2 k hm k (by simp) rfl
  have cg:=hI.nl
  have c8:ab S k=ab s k:=by rw[hI.low k cS ei,<-D,pd (by omega),VM ef]
  have X:∀v,(ab S v).length<=4094:=λv=>by
   have h5:=hI.len v;rw[<-D,pd (by omega)]at h5;have h6:=ct v;split at h5
   .split at h5<;>simp at h5<;>omega
   .split at h5<;>omega
  rw[<-c8]at cV;obtain⟨j,cP,eb,ec⟩:=DB cV;have en:j<(ab S k).length:=(th.1 cP).1;have ci:=Rg (ab S k) leaf j (by have:=X k;omega) cP eb;have cu:=hI.step cr hk cS;obtain⟨cs,G⟩:∃cs,cs=iM S.near++List.replicate N dE:=⟨_,rfl⟩
  have F:cs.length=n+2+N:=by rw[G];simp[da,cg]
  have ca:cs[k]?=some (.arr (k+300) (ab S k).length):=by rw[G,VO (by rw[da];omega),mO (by omega)];rfl
  have Y:∀h,cs[k]'h=.arr (k+300) (ab S k).length:=λh=>iK ca h;have sa:∀x,cs.take k++x::cs.drop (k+1)=cs.set k x:=λx=>qR (by omega)
  have cn:k+1<=n+2+N:=by omega
  have bs:k<n+2+N:=by omega
  have cp:k<n+2:=by omega
  have L:=(bH 290 rfl).trans (oZ false S N);have Q:=(bH 293 rfl).trans (o8 false S N);rw[sX (hI.cc.trans (by rw[<-D];rfl))]at L;have R:=(bH (k+300) (by simp[inK];omega)).trans (mh (own:=false) (s:=S) (c:=N) (v:=k) (by omega));rw[<-G]at Q;rw[cg]at L;have c7:i64.wrap ((j:Int)+1)=((j+1:Nat):Int):=(aa (by have:=X k;omega) (by have:=X k;omega)).trans (by omega)
  with_reducible repeat' (first|refine Sp.h ?_|((with_unfolding_all refine WP.drawX (hn:=[]) 15 rfl (by rw[hP];kernel_rfl) (by kernel_rfl) ?_);simp -implicitDefEqProofs (maxSteps:=2000000) [hP,hN,g0,g1,I,J,o,p,u,B,a8,cz,hk,cQ,L,Q,R,ca,Y,sa,F,cn,bs,cp,c7])|((first|refine Wd ?_|refine Ss.h ?_|refine Sc.h (ci) ?_|(refine Sb.h ?_ ?_ ?_<;>(try intro hgd)<;>try exact Xy))<;>simp -implicitDefEqProofs (maxSteps:=2000000) [hP,hN,g0,g1,I,J,o,p,u,B,a8,cz,hk,cQ,L,Q,R,ca,Y,sa,F,cn,bs,cp,c7]<;>try refine Yc ?_)|refine X2 ?_ ?_|(refine Xd ?_ ?_<;>intro hcd<;>try exact Xx))
  refine⟨_,LZ (f:=.func 91) (x:=.tmp 131) (y:=.tmp 132) (z:=.tmp 134) (g:=91) (k:=k+300) (e:=3) (i:=j) (j:=j+1) (zs:=(ab S k).map λn:Nat=>(n:Int)) rfl rfl (by simp[dv]) rfl JZ (by simp[St.ev]) (by simp[St.ev]) (by simp[St.ev]) (by simp[R]) (by omega) (by simp;omega),?_⟩;simp -implicitDefEqProofs (maxSteps:=2000000) [hP,hN,L,Q,R,ca,Y,sa,F,cn,bs,cp];refine Yc ?_
  have cN:∀i x,cs[i]?=some x->x=dE\/∃m,x=.arr (i+300) m:=λv x K=>by
   rw[G]at K;by_cases hv:v<S.near.length
   .rw[VO (by rw[da];omega),mO hv]at K
    injection K with K;exact .inr ⟨_,K.symm⟩
   .rw[VR (by rw[da];omega),Wn]at K
    split at K
    .injection K with K;exact .inl K.symm
    .cases K
  refine WP.cutRow 293 k (k+300) (m:=(ab S k).length-1) (t:=(ab S k).length) (e:=3) (sz:=1) (own:=true) (fb:=false) (cs:=cs.set k (.ext (.suf (k+300) 0 ((ab S k).length-1) (ab S k).length))) (xs:=pR (((ab S k).map λn:Nat=>(n:Int)).take j++((ab S k).map λn:Nat=>(n:Int)).drop (j+1)++[0])) ?_ ?_ ?_ ?_ ?_ (by omega) ?_
  .simp[ag]
  .simp[bs,F]
  .intro v x K hv
   rw[VV,VM (λe=>hv e.symm)]at K;rcases cN v x K with rfl|⟨m,rfl⟩
   .rfl
   .simp[bC,aK,hv]
  .simp[ag]
  .simp;omega
  have cf:∀v,ab (gY S k leaf) v=if v=k then(ab S k).take j++(ab S k).drop (j+1)else ab S v:=by
   intro v;rw[u7 (by omega),ec]
  have c9:(gY S k leaf).near.length=n+2:=by simp[gY,cg]
  refine WP.of_st (P:=λst=>st.t 0=.ptr 290 0/\st.t 1=.pv (Z leaf)/\st.t 7=.pv (Z n)/\st.t 8=.pv (Z ((n:Int)+1))/\st.t 15=.pv (Z k)/\st.t 105=.arr 250 A.length/\st.t 106=.pv (Z A.length)/\st.t 107=.pv (Z i)/\st.h 250=some (.row 3 1 (A.map λn:Nat=>Z (n:Int)) 0)/\∀k2,inK k2=true->st.h k2=bo false (gY S k leaf) N k2)
   ⟨⟨by simp[g0,az,bC,aK,ag],by simp[g1,az,bC,aK,ag],by simp[I,az,bC,aK,ag],by simp[J,az,bC,aK,ag],by simp[az,bC,aK,ag],by simp[o,az,bC,aK,ag],by simp[p,az,bC,aK,ag],by simp[u,az,bC,aK,ag],?_,?_⟩,?_⟩
  .simp[B,ag,bG,show¬250=k+300 by omega]
  .intro k2 ee
   simp only;by_cases e1:k2=k+300
   .subst e1
    rw[VS rfl,mh (by omega),cf,VS rfl]
    congr 2
    simp only[XZ,List.map_take,YE,List.map_map,W5,Yu];rw[XG (by simp;omega),Wg (by simp;omega)];rfl
   .rw[VM e1]
    by_cases e2:k2=293
    .subst e2
     rw[VS rfl,o8];simp only[List.set_set]
     congr 2
     rw[G,XQ _ _ (by rw[da];omega)]
     congr 1
     .apply WA
      intro v;rw[VV,da];by_cases hv:v<n+2
      .have hr:(iM (gY S k leaf).near)[v]?=some (.arr (v+300) (ab (gY S k leaf) v).length):=mO (by omega)
       rw[hr,cf];by_cases e:k=v
       .subst e
        rw[VS rfl,VS (by omega),VS rfl];simp;omega
       .rw[VM e,VM (λe9=>e e9.symm),mO (by omega)];rfl
      .rw[VW (l:=iM (gY S k leaf).near) (by rw[da];omega)]
       split
       .rw[VM (by omega)]
       .rw[VW (by rw[da];omega)]
    .rw[VM e2]
     rw[bN e2,bN e1,bH k2 ee];have h6:bo false (gY S k leaf) N k2=bo false S N k2:=BW (by simp) e2 (λv hv a8=>by rw[VV,VM (by omega)]);rw[h6];exact Il e2 (by omega)
  clear L Q R g0 g1 I J o p u B bH st;rintro st ⟨g0,g1,I,J,T,o,p,u,B,bH⟩;obtain⟨S1,ar⟩:∃S1,S1=gY S k leaf:=⟨_,rfl⟩
  have d1:S1.near.length=n+2:=by rw[ar];exact c9
  have d2:S1.bx.length=n+2:=by rw[ar];show S.bx.length=_;rw[hI.bx,<-D];simp[dB,h2]
  have d3:∀x∈S1.bx,x.length<=9223372036854775807:=by rw[ar];show∀x∈S.bx,_;rw[hI.bx];exact cB
  have d4:∀v,(ab S1 v).length<=4094:=λv=>by
   rw[ar,cf];have h5:=X k;have h6:=X v;split
   .simp;omega
   .exact h6
  have d5:∀v,(ab (fK S1 n k) v).length<=4096:=λv=>by
   rw[kH (by omega) (by omega) (by omega)];have h6:=d4 v;split
   .simp;omega
   .omega
  obtain⟨m1,m2,m3,m4,m5⟩:=gq S1 n k
  have cw:fK (fK S1 n k) (n+1) k=dj n leaf S k:=by rw[ar];rfl
  rw[<-ar]at bH
  with_reducible repeat' (first|refine Sp.h ?_|((with_unfolding_all refine WP.takeAt (hn:=[]) 3 rfl rfl rfl ?_);simp -implicitDefEqProofs (maxSteps:=2000000) [hP,hN,g0,g1,I,J,T,o,p,u,B])|((first|refine Wd ?_|refine Ss.h ?_|(refine Sb.h ?_ ?_ ?_<;>(try intro hgd)<;>try exact Xy))<;>simp -implicitDefEqProofs (maxSteps:=2000000) [hP,hN,g0,g1,I,J,T,o,p,u,B]<;>try refine Yc ?_)|refine X2 ?_ ?_|(refine Xd ?_ ?_<;>intro hcd<;>try exact Xx))
  refine zj (s:=S1) (c:=N) (a:=n) (b:=k) hP rfl (by simp[St.ev]) bH (by omega) (by omega) (by omega) (by omega) (by omega) d3 (λv=>XH (d4 v) (by omega)) (by simp[dv,hN]) ?_;intro r9 h9 bq c1;have ad:=c1 250 rfl;simp only[B,WG,jp]at ad;simp -implicitDefEqProofs (maxSteps:=2000000) [hP,hN,gw,nF,iP,lE,inK,g0,g1,I,J,T,o,p,u]
  with_reducible repeat' (first|refine Sp.h ?_|((with_unfolding_all refine WP.takeAt (hn:=[]) 3 rfl rfl rfl ?_);simp -implicitDefEqProofs (maxSteps:=2000000) [hP,hN,gw,nF,iP,lE,inK,g0,g1,I,J,T,o,p,u,ad])|((first|refine Wd ?_|refine Ss.h ?_|(refine Sb.h ?_ ?_ ?_<;>(try intro hgd)<;>try exact Xy))<;>simp -implicitDefEqProofs (maxSteps:=2000000) [hP,hN,gw,nF,iP,lE,inK,g0,g1,I,J,T,o,p,u,ad]<;>try refine Yc ?_)|refine X2 ?_ ?_|(refine Xd ?_ ?_<;>intro hcd<;>try exact Xx))
  refine zj (s:=fK S1 n k) (c:=N) (a:=n+1) (b:=k) hP rfl (by simp[St.ev,gw,nF,iP,lE,inK,g0,g1,I,J,T]) bq (by omega) (by omega) (by omega) (by omega) (by rw[m2,m1,d2,d1]) (by rw[m2];exact d3) d5 (by simp[dv,hN]) ?_;intro r8 h8 cm ek;have a5:=ek 250 rfl;simp only[ad,WG,jp]at a5;rw[cw,hS]at cm;rw[hS]at cu
  have dd:(A.take (i+1)).foldl (dj n leaf) s0=dj n leaf ((A.take i).foldl (dj n leaf) s0) k:=by
   rw[Yb,hk,Option.toList_some,Yd];rfl
  rw[<-dd]at cm cu;simp -implicitDefEqProofs (maxSteps:=2000000) [hP,hN,gw,nF,iP,lE,inK,g0,g1,I,J,T,o,p,u]
  with_reducible repeat' (first|refine Sp.h ?_|((first|refine Wd ?_|refine Ss.h ?_|(refine Sb.h ?_ ?_ ?_<;>(try intro hgd)<;>try exact Xy))<;>simp -implicitDefEqProofs (maxSteps:=2000000) [hP,hN,gw,nF,iP,lE,inK,g0,g1,I,J,T,o,p,u,a5,cz]<;>try refine Yc ?_)|refine X2 ?_ ?_|(refine Xd ?_ ?_<;>intro hcd<;>try exact Xx))
  exact⟨cu,λk2 a b=>by rw[cm k2 (by simp[inK,a,b]),kS]⟩
 .have ea:i=A.length:=by omega
  subst ea;rw[Wg (VU _)]at hS;have d1:=hI.nl
  have d2:S.bx.length=n+2:=by rw[hI.bx,<-D];simp[dB,h2]
  have d3:∀x∈S.bx,x.length<=9223372036854775807:=by rw[hI.bx];exact cB
  have d4:∀v,(ab S v).length<=4096:=λv=>by
   have h5:=hI.len v;rw[<-D,pd (by omega)]at h5;have h6:=ct v;split at h5
   .split at h5<;>simp at h5<;>omega
   .split at h5<;>omega
  have b8:fK S n (n+1)=bA s leaf joint:=by rw[hS,<-D,ba];unfold bA;rw[h3]
  have d5:(bA s leaf joint).near.length=n+2:=by rw[<-b8,(gq S n (n+1)).1,d1]
  with_reducible repeat' (first|refine Sp.h ?_|((with_unfolding_all refine WP.takeAt (hn:=[]) 3 rfl rfl rfl ?_);simp -implicitDefEqProofs (maxSteps:=2000000) [hP,hN,g0,g1,I,J,o,p,u])|((first|refine Wd ?_|refine Ss.h ?_|(refine Sb.h ?_ ?_ ?_<;>(try intro hgd)<;>try exact Xy))<;>simp -implicitDefEqProofs (maxSteps:=2000000) [hP,hN,g0,g1,I,J,o,p,u]<;>try refine Yc ?_)|refine X2 ?_ ?_|(refine Xd ?_ ?_<;>intro hcd<;>try exact Xx))
  refine zj (s:=S) (c:=N) (a:=n) (b:=n+1) hP rfl (by simp[St.ev,I,J,g0]) bH (by omega) (by omega) (by omega) (by omega) (by omega) d3 d4 (by simp[dv,hN]) ?_;intro r9 h9 bq c1;rw[b8]at bq;simp -implicitDefEqProofs (maxSteps:=2000000) [hP,hN,gw,nF,iP,lE,inK,g0,g1,I,J,o,p,u]
  with_reducible repeat' (first|refine Sp.h ?_|((first|refine Wd ?_|refine Ss.h ?_|(refine Sb.h ?_ ?_ ?_<;>(try intro hgd)<;>try exact Xy))<;>simp -implicitDefEqProofs (maxSteps:=2000000) [hP,hN,gw,nF,iP,lE,inK,g0,g1,I,J,o,p,u]<;>try refine Yc ?_)|refine X2 ?_ ?_|(refine Xd ?_ ?_<;>intro hcd<;>try exact Xx))
  subst hH;exact zi (s':=bA s leaf joint) (c':=N) rfl rfl (by omega) ⟨rfl,_,rfl⟩ bq
def CC(s:Spc)(n p:Nat):Bool:=decide ((ab s p).length<=2046)&&decide (ab s p).Nodup&&(ab s p).all λk=>decide (k<n)&&decide (k≠p)&&decide ((av s k).low=-1)&&decide (p∈ab s k)
def AC(s:Spc)(i p:Nat):Bool:=(fS s.bx i p==fS s.bx p i)&&(!(decide ((av s i).low=-1)&&decide ((av s p).low=-1)&&decide (i≠p))||(decide (i∈ab s p)==fS s.bx i p))
def BV(s:Spc):Bool:=decide (s.cells.length<=2040)&&decide (s.bx.length=s.cells.length)&&decide (s.near.length=s.cells.length)&&decide (s.jn.length=s.cells.length)&&(s.cc==false) &&
 s.bx.all (λb=>decide (b.length<=16))&&s.cells.all (λc=>decide (c.v.nor.length<=4096))&&(List.range s.cells.length).all (λp=>CC s s.cells.length p)&&(List.range s.cells.length).all λi=>(List.range s.cells.length).all (AC s i)
def gx(sc:Sce)(w:Int)(a:List Vc)(s:Spc)(h:Nat):Spc:={s with cells:=s.cells.set h {(av s h)with v:=aV (bD sc (ax s h) a)},jn:=s.jn.set h (iE sc.js sc.ms w (ax s h))}
def fl(s:Spc)(p q:List Int):Int×Int×Int:=qd s s.cells.length p q (fS s.bx)
def jC(sc:Sce)(w:Int)(s:Spc)(leaf:Nat)(joint:Int):Spc:=gx sc w (av s leaf).v.nor (gx sc w (av s leaf).v.nor (bA s leaf joint) s.cells.length) (s.cells.length+1)
def oB(sc:Sce)(p q:List Int)(w cells:Int):Nat->Spc->Option (Spc×Int)
 |0,_=>none
 |f+1,s=>if BV s then(if(fl s p q).2.2=3 then(if cells-2<s.cells.length then some (s,4)else if decide ((fl s p q).1=(fl s p q).1.toNat)&&decide ((fl s p q).1.toNat<s.cells.length)then oB sc p q w cells f (jC sc w s (fl s p q).1.toNat (fl s p q).2.1)else none)else some (s,(fl s p q).2.2))else none
def kQ(sc:Sce)(w:Int):Spc:={root:=af sc.js sc.ms,cells:=[aD (aV (bD sc (af sc.js sc.ms) []))],bx:=[af sc.js sc.ms],near:=[[]],jn:=[iE sc.js sc.ms w (af sc.js sc.ms)]}
section
variable {s:Spc} (h:BV s=true)
include h
theorem sW:s.cells.length<=2040/\s.bx.length=s.cells.length/\s.near.length=s.cells.length/\s.jn.length=s.cells.length/\s.cc=false/\(∀b∈s.bx,b.length<=16)/\(∀c∈s.cells,c.v.nor.length<=4096)/\(∀p,p<s.cells.length->CC s s.cells.length p=true)/\∀i p,i<s.cells.length->p<s.cells.length->AC s i p=true:=by
 simp only[BV,An,L4,WK,VL,Wz]at h;obtain⟨⟨⟨⟨⟨⟨⟨⟨a1,a2⟩,a3⟩,a4⟩,a5⟩,a6⟩,a7⟩,a8⟩,a9⟩:=h;exact⟨a1,a2,a3,a4,a5,a6,a7,a8,λi p hi hp=>a9 i hi p hp⟩
theorem Fs:∀p,(ab s p).length<=2046/\(ab s p).Nodup/\∀k∈ab s p,k<s.cells.length/\k≠p/\(av s k).low=-1/\p∈ab s k:=by
 obtain⟨a1,a2,a3,a4,a5,a6,a7,a8,a9⟩:=sW h;intro p;by_cases hp:p<s.cells.length
 .have:=a8 p hp
  simp only[CC,An,L4,VL]at this;exact⟨this.1.1,this.1.2,λk a=>⟨(this.2 k a).1.1.1,(this.2 k a).1.1.2,(this.2 k a).1.2,(this.2 k a).2⟩⟩
 .have:ab s p=[]:=by unfold ab;rw[VW (by omega)];rfl
  rw[this];exact⟨by simp,List.nodup_nil,λk a=>by cases a⟩
theorem Pv:SpcC s s.cells.length (fS s.bx):=by
 obtain⟨a1,a2,a3,a4,a5,a6,a7,a8,a9⟩:=sW h;have e:=Fs h;refine⟨⟨by omega,rfl,a2,a3,a4,λb f=>by have:=a6 b f;omega,λp i hi=>?_,λp=>by have:=(e p).1;omega⟩,λi j hi g=>?_,λi p hi a hp d c=>?_⟩
 .have:=(e p).2.2 i hi
  exact⟨this.1,this.2.2.1⟩
 .have:=a9 i j hi g
  simp only[AC,An,WK]at this;exact this.1
 .have:=a9 i p hi hp
  simp only[AC,An,a,d,XP,We,ne_eq,c,YD,Xv,Bool.false_or,WK]at this;rw[<-this.2];simp
end
theorem kR(s:Spc)(leaf:Nat)(joint:Int):(bA s leaf joint).near.length=s.near.length+2/\(bA s leaf joint).bx.length=s.bx.length+2/\(bA s leaf joint).cells.length=s.cells.length+2/\(bA s leaf joint).jn.length=s.jn.length+2/\(bA s leaf joint).cc=false:=by
 have fold:∀(l:List Nat)(x:Spc),(l.foldl (dj s.cells.length leaf) x).near.length=x.near.length/\(l.foldl (dj s.cells.length leaf) x).bx=x.bx/\(l.foldl (dj s.cells.length leaf) x).cells=x.cells/\(l.foldl (dj s.cells.length leaf) x).jn=x.jn/\(l.foldl (dj s.cells.length leaf) x).cc=x.cc:=by
  intro l
  induction l with
  |nil=>intro x;exact⟨rfl,rfl,rfl,rfl,rfl⟩
  |cons a l ih=>
   intro x;obtain⟨b1,b2,b3,b4,b5⟩:=ih (dj s.cells.length leaf x a);obtain⟨b,c,d,e,_⟩:=qe s.cells.length leaf x a;exact⟨b1.trans b,b2.trans c,b3.trans d,b4.trans e,b5.trans (Fu _ _ _ _)⟩
 obtain⟨b1,b2,b3,b4,b5⟩:=fold (ab s leaf) (dB s leaf joint);unfold bA;obtain⟨b,c,d,e,_⟩:=gq ((ab s leaf).foldl (dj s.cells.length leaf) (dB s leaf joint)) s.cells.length (s.cells.length+1);rw[b,c,d,e,Bb,b1,b2,b3,b4,b5];simp[dB]
theorem Mh{own:Bool}(a:jn.length=s.jn.length)(h1:k≠294):bo own {s with jn:=jn} c k=bo own s c k:=by
 unfold bo;simp only[a,VM h1];rfl
set_option maxRecDepth 100000 in
@[simp] theorem TU:fC prog 28:=by
 have hf:=func28;have nt:=ntmps28;have rs:=results28;exact BL
theorem GD{C:Cx}{g:FuncId}{r:AV}{e sz:Nat}{ys:List PV}(c:cJ (st.ev f)=some (g,[],[]))(a:xs.map st.ev=args)(l:args.all rH=true)(m:∀k,inK k=true->st.h k=none)
 (p:nY C.P g args mw (λi b=>i=r/\b=fI e sz ys))(hd:dv C.N d=true)
 (h:∀b,(∀k,inK k=true->b k=fI e sz ys k)->(∀k,inK k=false->b k=(st.h k).map jp)->Q (St.put ⟨λn=>gw (st.t n),b⟩ d r [])):uB C Q f xs d st:=by
 refine⟨_,λi b=>i=r/\b=fI e sz ys,c,Im m,?_,by rw[a];exact l,hd,λi b hL q hp=>?_⟩
 .rw[a,JV m];exact p
 .obtain⟨rfl,rfl⟩:=hp
  refine h _ (λk j=>?_) (λk j=>by unfold fY;rw[VM (by rw[j];decide)]);unfold fY;rw[VS j];split
  .rename_i o;subst o;rfl
  .rfl
theorem GE{C:Cx}{g:FuncId}{e sz:Nat}{ys:List PV}(p:cJ (st.ev f)=some (g,[],[]))(i:xs.map st.ev=args)(v:args.all rH=true)(m:∀k,inK k=true->st.h k=fI e sz ys k)
 (z:nY C.P g args (fI e sz ys) (λq l=>q=.ptr 290 0/\l=bo true s 0))(hd:dv C.N d=true)
 (h:∀l,(∀k,inK k=true->l k=bo true s 0 k)->(∀k,inK k=false->l k=(st.h k).map jp)->Q (St.put ⟨λn=>gw (st.t n),l⟩ d (.ptr 290 0) [])):uB C Q f xs d st:=by
 have c:st.h 290=none:=by rw[m 290 rfl];rfl
 have hL:LookH (fI e sz ys):=BT
 have u:gF st.h=fI e sz ys:=by
  funext k
  unfold gF;by_cases a:inK k=true
  .rw[VS a]
   split
   .rename_i r;subst r;rw[c];rfl
   .exact m k a
  .rw[VM a]
   cases A:fI e sz ys k with
   |none=>rfl
   |some b=>exact absurd (hL.keys k b A) a
 refine⟨_,λq l=>q=.ptr 290 0/\l=bo true s 0,p,⟨λk b o a j=>hL.nf k b o (by rw[<-m k a];exact j),λk b a j=>hL.nm k b (by rw[<-m k a];exact j),λk x o f a j=>hL.cl k x o f (by rw[<-m k a];exact j),λk x f a j=>?_,λb j=>(by rw[c]at j;cases j)⟩,?_,by rw[i];exact v,hd,λq l hL B hp=>?_⟩
 .rw[m k a]at j
  obtain⟨_,y⟩:=fZ j;cases y
 .rw[i,u];exact z
 .obtain⟨rfl,rfl⟩:=hp
  refine h _ (λk a=>?_) (λk a=>by unfold fY;rw[VM (by rw[a];decide)]);unfold fY;rw[VS a];split
  .rename_i r;subst r
   have:m7 st.h 290=true:=by simp only[m7,c]
   rw[this];rfl
  .rfl
theorem If{C:Cx}{g:FuncId}{s':Spc}{r:AV}(i:cJ (st.ev f)=some (g,[],[]))(a:xs.map st.ev=args)(o:args.all rH=true)(l:∀k,inK k=true->st.h k=bo true s c k)(hn:s.near.length<=4096)
 (p:nY C.P g args (bo false s c) (λj b=>j=r/\∃e,b=bo false s' e))(hd:dv C.N d=true)
 (h:∀b e,(∀k,inK k=true->b k=bo true s' e k)->(∀k,inK k=false->b k=(st.h k).map jp)->Q (St.put ⟨λn=>gw (st.t n),b⟩ d r [])):uB C Q f xs d st:=by
 refine⟨_,λj b=>j=r/\∃e,b=bo false s' e,i,DG hn l,?_,by rw[a];exact o,hd,λj b hL q hp=>?_⟩
 .rw[a,Fw hn l];exact p
 .obtain⟨rfl,e,rfl⟩:=hp
  exact h _ e (λk m=>DH l m) (λk m=>by unfold fY;rw[VM (by rw[m];decide)])
def qL(sc:Sce)(w:Int)(H:List Vc)(a:Spc)(n:Nat):Nat->Spc
 |0=>a
 |j+1=>gx sc w H (qL sc w H a n j) (n+j)
theorem zh(sc:Sce)(w:Int)(H:List Vc)(a:Spc)(n:Nat):∀j,(qL sc w H a n j).near=a.near/\(qL sc w H a n j).bx=a.bx/\(qL sc w H a n j).cells.length=a.cells.length/\(qL sc w H a n j).jn.length=a.jn.length/\(qL sc w H a n j).cc=a.cc
 |0=>⟨rfl,rfl,rfl,rfl,rfl⟩
 |j+1=>by
  obtain⟨b1,b2,b3,b4,b5⟩:=zh sc w H a n j;refine⟨b1,b2,?_,?_,b5⟩
  .simp only[qL,gx,Xl];exact b3
  .simp only[qL,gx,Xl];exact b4
theorem Ig{own:Bool}{cs:List Cel}(a:s.cc=false)(h1:cs.length=s.cells.length)(d:jn.length=s.jn.length)(b:k≠291)(f:k≠294):bo own {s with cells:=cs,jn:=jn} c k=bo own s c k:=by
 unfold bo;by_cases e:k=290
 .rw[VS e,VS e,sX (s:={s with cells:=cs,jn:=jn}) a,sX a]
  simp only[h1,d]
 .rw[VM e,VM e,VM b,VM b]
  simp only[VM f];rfl
def JN(sc:Sce):Spc:=AB (af sc.js sc.ms) (aV (bD sc (af sc.js sc.ms) []))
theorem Mj(sc:Sce)(w:Int):kQ sc w={JN sc with jn:=[iE sc.js sc.ms w (af sc.js sc.ms)]}:=rfl
theorem Qh(sc:Sce)(p q:List Int)(w cells:Int)(f:Nat)(R:Spc×Int)(hs:ScL sc)(h0:aY sc=0)(h1:bW sc.js sc.ms p=true)(h2:bW sc.js sc.ms q=true)(h3:1<=w)(h4:1<=cells)(h5:cells<=2048)(eB:p.length<=9223372036854775807)(eS:q.length<=9223372036854775807)(cM:dy (af sc.js sc.ms)=true)(ea:gU sc.js sc.ms (af sc.js sc.ms)=true)(cd:aT (mN (af sc.js sc.ms) bm)=true)(cS:cO (mN (af sc.js sc.ms) bm) 0 (aV (bD sc (af sc.js sc.ms) []))=true)(ep:tx 16777216 (aV (bD sc (af sc.js sc.ms) [])))(el:TSm (mN (af sc.js sc.ms) bm))(en:aT (mN (af sc.js sc.ms) (aV (bD sc (af sc.js sc.ms) [])))=true)(e5:(af sc.js sc.ms).length<=16)(hR:oB sc p q w cells f (kQ sc w)=some R):uw 13 (eK sc) (zs p) (zs q) (Z w) (Z cells) (.tup [.agg [iv R.1.root,.sl (R.1.cells.map bw)],Z R.2]):=by
 have cs:=Eg sc hs;have cp:=Fh sc.js sc.ms p hs.js hs.ms;have cq:=Fh sc.js sc.ms q hs.js hs.ms;have cl:=T7 sc.js sc.ms hs.js hs.ms;have cn:=Vj (af sc.js sc.ms) (by omega);rw[h0]at cs;rw[h1]at cp;rw[h2]at cq;rw[cM]at cn
 have ei:im (af sc.js sc.ms)=mN (af sc.js sc.ms) bm:=by unfold im;rw[VS cM]
 rw[ei]at cn
 have b0:dt (mN (af sc.js sc.ms) bm) 0=af sc.js sc.ms:=by
  have ar:eX (mN (af sc.js sc.ms) bm) 0=true:=by simp[eX,cd]
  unfold dt;rw[VS ar];exact zG cd
 have c1:eX (mN (af sc.js sc.ms) bm) 0=true:=by simp[eX,cd]
 have cu:=Um sc (mN (af sc.js sc.ms) bm) (aD bm) hs el h0 c1 (by rw[b0];exact ea) rfl (by rw[b0];omega) (by simp[aD,bm]) (by rw[b0];exact ep) (by rw[b0];exact cS);rw[b0]at cu;have cU:=Ps (af sc.js sc.ms) (aV (bD sc (af sc.js sc.ms) [])) en
 have er:¬w<1:=by omega
 have c4:¬cells<1:=by omega
 have c7:¬2048<cells:=by omega
 have cQ:i64.wrap (cells-2)=cells-2:=aa;refine Dp func13 λC hP hN=>?_
 with_reducible repeat' (first|refine Sp.h ?_|((with_unfolding_all refine WP.takeAt (hn:=[]) (f:=.func 33) 2 rfl rfl rfl ?_);simp -implicitDefEqProofs (maxSteps:=2000000) [hP,hN,er,c4,c7,aD])|((first|refine Wd ?_|refine Ss.h ?_|refine Sc.h (cs) ?_|refine Sc.h (cp) ?_|refine Sc.h (cq) ?_|refine Sc.h (cl) ?_|refine Sc.h (cn) ?_|(refine Sb.h ?_ ?_ ?_<;>(try intro hgd)<;>try exact Xy))<;>simp -implicitDefEqProofs (maxSteps:=2000000) [hP,hN,er,c4,c7,aD]<;>try refine Ya ?_)|refine X2 ?_ ?_|(refine Xd ?_ ?_<;>intro hcd<;>try exact Xx))
 have b4:(bX (mN (af sc.js sc.ms) bm) 0 (aV (bD sc (af sc.js sc.ms) []))).cells.map bw=[bw (aD (aV (bD sc (af sc.js sc.ms) [])))]:=by unfold bX;rw[VS cS];simp[dl]
 have cg:nY prog 33 ([eK sc,eT (mN (af sc.js sc.ms) bm),Z 0].map .pv) mw (λr h'=>r=.tup [.agg [.pv (iv (af sc.js sc.ms)),.arr 291 1],.pv (B true)]/\h'=fI 58 8 [bw (aD (aV (bD sc (af sc.js sc.ms) [])))]):=by
  have:=cu;simp only[aD,bm]at this|-;rw[show bD sc (af sc.js sc.ms) ([]:List Vc)=bD sc (af sc.js sc.ms) [] from rfl]at this;simp only[aD,bm]at b4;rw[b4]at this;exact this
 clear cu b4;refine GD (g:=33) (args:=[eK sc,eT (mN (af sc.js sc.ms) bm),Z 0].map .pv) rfl (by simp[St.ev,aD]) rfl ?_ (by rw[hP];exact cg) (by simp[dv,hN]) ?_
 .intro k hk
  simp only[inK,An,L4]at hk;simp[uP,show¬k=5 by omega,show¬k=10 by omega,show¬k=11 by omega,show¬k=12 by omega]
 intro h' hh ho;have c5:=ho 5 rfl;have K:=ho 10 rfl;have L:=ho 11 rfl;have b7:=ho 12 rfl;have E:h' 291=some (.row 58 8 [bw (aD (aV (bD sc (af sc.js sc.ms) [])))] 0):=(hh 291 rfl).trans (by simp[fI]);simp[jp,gw,nF,iP,uP]at c5 K L b7;simp -implicitDefEqProofs (maxSteps:=2000000) [hP,hN,gw,nF,iP,uA,lE,inK,c5,K,L,b7,E];refine WP.of_st (P:=λst=>st.t 1=.pv (zs p)/\st.t 2=.pv (zs q)/\st.t 3=.pv (Z w)/\st.t 4=.pv (Z cells)/\st.t 5=.ptr 5 0/\st.t 10=.ptr 10 0/\st.t 11=.ptr 11 0/\st.t 12=.ptr 12 0/\st.h 5=some (.box [.pv (.sl (sc.js.map bu)),.pv (.sl (sc.ms.map cE)),.pv (.sl (sc.shs.map cD)),.pv (.sl (sc.sks.map aN))] true false)/\(∃x y,st.h 10=some (.box [.pv x,.pv y] true false))/\(∃x,st.h 11=some (.box [.pv x] true false))/\st.h 12=some (.box [.pv (iv (af sc.js sc.ms)),.arr 291 1] true false)/\∀k,inK k=true->st.h k=fI 58 8 [bw (aD (aV (bD sc (af sc.js sc.ms) [])))] k) ⟨?_,?_⟩
 .simp[gw,nF,iP,uA,lE,inK,c5,K,L,b7]
  exact λk a b=>by rw[VM (by omega)];exact hh k (by simp[inK,a,b])
 clear hh ho c5 K L b7 E h';rintro st ⟨g1,g2,g3,g4,g5,d,l,b8,b5,⟨G,J,u⟩,⟨I,z⟩,cr,F⟩
 with_reducible repeat' (first|refine Sp.h ?_|((with_unfolding_all refine WP.takeAt (hn:=[]) (f:=.func 34) 1 rfl rfl rfl ?_);simp -implicitDefEqProofs (maxSteps:=2000000) [hP,hN,g1,g2,g3,g4,g5,d,l,b8,b5,u,z,cr])|((first|refine Wd ?_|refine Ss.h ?_|(refine Sb.h ?_ ?_ ?_<;>(try intro hgd)<;>try exact Xy))<;>simp -implicitDefEqProofs (maxSteps:=2000000) [hP,hN,g1,g2,g3,g4,g5,d,l,b8,b5,u,z,cr]<;>try refine Yc ?_)|refine X2 ?_ ?_|(refine Xd ?_ ?_<;>intro hcd<;>try exact Xx))
 refine GE (g:=34) (args:=[.agg [.pv (iv (af sc.js sc.ms)),.arr 291 1]]) rfl (by simp[St.ev]) rfl F (by rw[hP];exact cU) (by simp[dv,hN]) ?_;intro h' hh ho;have c5:=ho 5 rfl;have K:=ho 10 rfl;have L:=ho 11 rfl;simp only[b5,u,z,WG,jp,W5,Yu]at c5 K L;have ba:h' 5=some (.box [.pv (.sl (sc.js.map bu)),.pv (.sl (sc.ms.map cE)),.pv (.sl (sc.shs.map cD)),.pv (.sl (sc.sks.map aN))] true false):=c5;have N:h' 10=some (.box [.pv G,.pv J] true false):=K;have O:h' 11=some (.box [.pv I] true false):=L;simp -implicitDefEqProofs (maxSteps:=2000000) [hP,hN,gw,nF,iP,uA,lE,inK,g1,g2,g3,g4,g5,d,l,b8,ba,N,O];refine WP.of_st (P:=λst=>st.t 1=.pv (zs p)/\st.t 2=.pv (zs q)/\st.t 3=.pv (Z w)/\st.t 4=.pv (Z cells)/\st.t 5=.ptr 5 0/\st.t 10=.ptr 10 0/\st.t 11=.ptr 11 0/\st.t 14=.ptr 290 0/\st.h 5=some (.box [.pv (.sl (sc.js.map bu)),.pv (.sl (sc.ms.map cE)),.pv (.sl (sc.shs.map cD)),.pv (.sl (sc.sks.map aN))] true false)/\(∃x y,st.h 10=some (.box [.pv x,.pv y] true false))/\(∃x,st.h 11=some (.box [.pv x] true false))/\∀k,inK k=true->st.h k=bo true (JN sc) 0 k) ⟨?_,?_⟩
 .simp[gw,nF,iP,uA,lE,inK,g1,g2,g3,g4,g5,d,l,ba,N,O]
  exact λk a b=>hh k (by simp[inK,a,b])
 clear hh ho c5 K L ba N O h' F b5 u z cr g1 g2 g3 g4 g5 d l b8 G J I st;rintro st ⟨g1,g2,g3,g4,g5,d,l,o,b5,⟨G,J,u⟩,⟨I,z⟩,F⟩;have D:st.h 290=some (.box [.pv (iv (af sc.js sc.ms)),.arr 291 1,.arr 292 1,.ext (.barr 293 1 1),.arr 294 1] true false):=F 290 rfl;have W:st.h 292=some (.row 39 1 [iv (af sc.js sc.ms)] 0):=F 292 rfl;have bb:st.h 294=some (.row 3 1 [Z (-1)] 0):=F 294 rfl;have cf:=Qi sc.js sc.ms (af sc.js sc.ms) w hs.js hs.ms (by omega)
 with_reducible repeat' (first|refine Sp.h ?_|((first|refine Wd ?_|refine Ss.h ?_|refine Sc.h (cf) ?_|(refine Sb.h ?_ ?_ ?_<;>(try intro hgd)<;>try exact Xy))<;>simp -implicitDefEqProofs (maxSteps:=2000000) [hP,hN,g1,g2,g3,g4,g5,d,l,o,b5,u,z,D,W,bb]<;>try refine Yc ?_)|refine X2 ?_ ?_|(refine Xd ?_ ?_<;>intro hcd<;>try exact Xx))
 refine WP.of_st (P:=λst=>st.t 1=.pv (zs p)/\st.t 2=.pv (zs q)/\st.t 3=.pv (Z w)/\st.t 4=.pv (Z cells)/\st.t 5=.ptr 5 0/\st.t 10=.ptr 10 0/\st.t 11=.ptr 11 0/\st.t 14=.ptr 290 0/\st.h 5=some (.box [.pv (.sl (sc.js.map bu)),.pv (.sl (sc.ms.map cE)),.pv (.sl (sc.shs.map cD)),.pv (.sl (sc.sks.map aN))] true false)/\(∃x y,st.h 10=some (.box [.pv x,.pv y] true false))/\(∃x,st.h 11=some (.box [.pv x] true false))/\∀k,inK k=true->st.h k=bo true (kQ sc w) 0 k) ⟨?_,?_⟩
 .simp[ag,g1,g2,g3,g4,g5,d,l,o,b5,u,z]
  intro k hk;by_cases e:k=294
  .subst e;rw[VS rfl];rfl
  .rw[VM e,F k hk,Mj]
   exact(Mh (s:=JN sc) (jn:=[iE sc.js sc.ms w (af sc.js sc.ms)]) (by rfl) e).symm
 clear D W bb F b5 u z g1 g2 g3 g4 g5 d l o G J I st;rintro st ⟨g1,g2,g3,g4,g5,d,l,o,b5,⟨G,J,u⟩,⟨I,z⟩,F⟩;clear cg cU cd cS ep el en cM ea c1 b0 ei cn cl cs cp cq cf h1 h2 h0;refine WP.loopN [] f (λi st=>(∃S c,oB sc p q w cells (f-i) S=some R/\∀k,inK k=true->st.h k=bo true S c k)/\st.t 1=.pv (zs p)/\st.t 2=.pv (zs q)/\st.t 3=.pv (Z w)/\st.t 4=.pv (Z cells)/\st.t 5=.ptr 5 0/\st.t 10=.ptr 10 0/\st.t 11=.ptr 11 0/\st.t 14=.ptr 290 0/\st.h 5=some (.box [.pv (.sl (sc.js.map bu)),.pv (.sl (sc.ms.map cE)),.pv (.sl (sc.shs.map cD)),.pv (.sl (sc.sks.map aN))] true false)/\(∃x y,st.h 10=some (.box [.pv x,.pv y] true false))/\(∃x,st.h 11=some (.box [.pv x] true false))) ?_ ?_
 .refine⟨⟨kQ sc w,0,by simpa using hR,λk hk=>?_⟩,by simp[St.kill,az,bC,aK,g1],by simp[St.kill,az,bC,aK,g2],by simp[St.kill,az,bC,aK,g3],by simp[St.kill,az,bC,aK,g4],by simp[St.kill,az,bC,aK,g5],by simp[St.kill,az,bC,aK,d],by simp[St.kill,az,bC,aK,l],by simp[St.kill,az,bC,aK,o],by simp[St.kill,az,bG,bC,aK,b5],⟨G,J,by simp[St.kill,az,bG,bC,aK,u]⟩,⟨I,by simp[St.kill,az,bG,bC,aK,z]⟩⟩
  show(st.h k).map (bG [])=_;rw[F k hk,kS]
 clear F b5 u z g1 g2 g3 g4 g5 d l o G J I st hR;rintro i st hi ⟨⟨S,c,A,F⟩,g1,g2,g3,g4,g5,d,l,o,b5,⟨G,J,u⟩,⟨I,z⟩⟩
 obtain⟨m,hm⟩:∃m,f-i=m+1:=by
  cases h:f-i with
  |zero=>rw[h]at A;cases A
  |succ m=>exact⟨m,rfl⟩
 rw[hm]at A;simp only[oB]at A;by_cases ar:BV S=true
 case neg=>rw[VM ar]at A;cases A
 rw[VS ar]at A;obtain⟨a1,a2,a3,a4,a5,a6,a7,a8,a9⟩:=sW ar;have cN:=Uu S S.cells.length p q (fS S.bx) (Pv ar) eB eS;have eA:qd S S.cells.length p q (fS S.bx)=fl S p q:=rfl;rw[eA]at cN;have bc:=Mn (by omega) F;have cb:=JU F;have b9:∀x,iQ st.h 3 (.pv x)=some x:=λ_=>rfl;have D:=(F 290 rfl).trans (oZ true S c);rw[sX a5,a2,a3,a4]at D;have E:=(F 291 rfl).trans (rB true S c a5);have W:=(F 292 rfl).trans (rC true S c);by_cases e3:(fl S p q).2.2=3
 case neg=>
  rw[VM e3]at A;injection A with A;subst A
  have bq:((fl S p q).2.2 !=3)=true:=by simp[e3]
  generalize fl S p q=NX at *
  with_reducible repeat' (first|refine Sp.h ?_|((with_unfolding_all refine WP.lendAt (hn:=[]) (f:=.func 36) 3 rfl rfl rfl ?_);simp -implicitDefEqProofs (maxSteps:=2000000) [hP,hN,g1,g2,g3,g4,g5,d,l,o,b5,u,z])|((first|refine Wd ?_|refine Ss.h ?_|(refine Sb.h ?_ ?_ ?_<;>(try intro hgd)<;>try exact Xy))<;>simp -implicitDefEqProofs (maxSteps:=2000000) [hP,hN,g1,g2,g3,g4,g5,d,l,o,b5,u,z]<;>try refine Yc ?_)|refine X2 ?_ ?_|(refine Xd ?_ ?_<;>intro hcd<;>try exact Xx))
  refine⟨36,[nO S,zs p,zs q],_,rfl,cb,by simp[St.ev,nj,g1,g2,o,bc,b9],by rw[hP];exact cN,rfl,by simp[dv,hN],?_⟩;simp -implicitDefEqProofs (maxSteps:=2000000) [hP,hN,g1,g2,g3,g4,g5,d,l,o]
  with_reducible repeat' (first|refine Sp.h ?_|((first|refine Wd ?_|refine Ss.h ?_|(refine Sb.h ?_ ?_ ?_<;>(try intro hgd)<;>try exact Xy))<;>simp -implicitDefEqProofs [hP,hN,e3,bq,D,E,g1,g2,g3,g4,g5,d,l,o,b5,u,z]<;>try refine Yc ?_)|refine X2 ?_ ?_|(refine Xd ?_ ?_<;>intro hcd<;>try exact Xx))
 rw[VS e3]at A
 have bq:((fl S p q).2.2 !=3)=false:=by simp[e3]
 by_cases e4:cells-2<S.cells.length
 case pos=>
  rw[VS e4]at A;injection A with A;subst A;generalize fl S p q=NX at *
  with_reducible repeat' (first|refine Sp.h ?_|((with_unfolding_all refine WP.lendAt (hn:=[]) (f:=.func 36) 3 rfl rfl rfl ?_);simp -implicitDefEqProofs (maxSteps:=2000000) [hP,hN,g1,g2,g3,g4,g5,d,l,o,b5,u,z])|((first|refine Wd ?_|refine Ss.h ?_|(refine Sb.h ?_ ?_ ?_<;>(try intro hgd)<;>try exact Xy))<;>simp -implicitDefEqProofs (maxSteps:=2000000) [hP,hN,g1,g2,g3,g4,g5,d,l,o,b5,u,z]<;>try refine Yc ?_)|refine X2 ?_ ?_|(refine Xd ?_ ?_<;>intro hcd<;>try exact Xx))
  refine⟨36,[nO S,zs p,zs q],_,rfl,cb,by simp[St.ev,nj,g1,g2,o,bc,b9],by rw[hP];exact cN,rfl,by simp[dv,hN],?_⟩;simp -implicitDefEqProofs (maxSteps:=2000000) [hP,hN,g1,g2,g3,g4,g5,d,l,o]
  with_reducible repeat' (first|refine Sp.h ?_|((first|refine Wd ?_|refine Ss.h ?_|(refine Sb.h ?_ ?_ ?_<;>(try intro hgd)<;>try exact Xy))<;>simp -implicitDefEqProofs [hP,hN,e3,bq,e4,cQ,D,E,g1,g2,g3,g4,g5,d,l,o,b5,u,z]<;>try refine Yc ?_)|refine X2 ?_ ?_|(refine Xd ?_ ?_<;>intro hcd<;>try exact Xx))
 case neg=>
  rw[VM e4]at A;by_cases ek:(decide ((fl S p q).1=(fl S p q).1.toNat)&&decide ((fl S p q).1.toNat<S.cells.length))=true
  case neg=>rw[VM ek]at A;cases A
  rw[VS ek]at A;simp only[An,L4]at ek;obtain⟨k,hk⟩:∃k,k=(fl S p q).1.toNat:=⟨_,rfl⟩;rw[<-hk]at ek A;obtain⟨ct,ca⟩:=ek
  have b1:S.cells[k]?=some (av S k):=by simp[av,an ca]
  have b2:∀h,S.cells[k]'h=av S k:=λh=>iK b1 h;have X:=Fs ar;have c0:=Uo S c S.cells.length k (fl S p q).2.1 a5 a3 a2 rfl a4 (by omega) ca (λx hx=>by have:=a6 x hx;omega) (λv=>(X v).1) (X k).2.1 (λx hx=>⟨((X k).2.2 x hx).1,((X k).2.2 x hx).2.1,((X k).2.2 x hx).2.2.2⟩);obtain⟨q1,q2,q3,q4,q5⟩:=kR S k (fl S p q).2.1;generalize e2:fl S p q=NX at *
  with_reducible repeat' (first|refine Sp.h ?_|((with_unfolding_all refine WP.lendAt (hn:=[]) (f:=.func 36) 3 rfl rfl rfl ?_);simp -implicitDefEqProofs (maxSteps:=2000000) [hP,hN,g1,g2,g3,g4,g5,d,l,o,b5,u,z])|((first|refine Wd ?_|refine Ss.h ?_|(refine Sb.h ?_ ?_ ?_<;>(try intro hgd)<;>try exact Xy))<;>simp -implicitDefEqProofs (maxSteps:=2000000) [hP,hN,g1,g2,g3,g4,g5,d,l,o,b5,u,z]<;>try refine Yc ?_)|refine X2 ?_ ?_|(refine Xd ?_ ?_<;>intro hcd<;>try exact Xx))
  refine⟨36,[nO S,zs p,zs q],_,rfl,cb,by simp[St.ev,nj,g1,g2,o,bc,b9],by rw[hP];exact cN,rfl,by simp[dv,hN],?_⟩;simp -implicitDefEqProofs (maxSteps:=2000000) [hP,hN,g1,g2,g3,g4,g5,d,l,o]
  with_reducible repeat' (first|refine Sp.h ?_|((with_unfolding_all refine WP.takeAt (hn:=[]) (f:=.func 37) 3 rfl rfl rfl ?_);simp -implicitDefEqProofs [hP,hN,e3,bq,e4,ct,ca,b1,b2,cQ,D,E,g1,g2,g3,g4,g5,d,l,o,b5,u,z])|((first|refine Wd ?_|refine Ss.h ?_|(refine Sb.h ?_ ?_ ?_<;>(try intro hgd)<;>try exact Xy))<;>simp -implicitDefEqProofs [hP,hN,e3,bq,e4,ct,ca,b1,b2,cQ,D,E,g1,g2,g3,g4,g5,d,l,o,b5,u,z]<;>try refine Yc ?_)|refine X2 ?_ ?_|(refine Xd ?_ ?_<;>intro hcd<;>try exact Xx))
  refine If (s':=bA S k NX.2.1) (r:=.pv (.sl [Z S.cells.length,Z ((S.cells.length:Int)+1)])) (args:=[.ptr 290 0,.pv (Z k),.pv (Z NX.2.1)]) rfl (by simp[St.ev]) rfl F (by omega) (by rw[hP];exact c0) (by simp[dv,hN]) ?_;intro h' c' hh ho;have c5:=ho 5 rfl;have K:=ho 10 rfl;have L:=ho 11 rfl;simp only[b5,u,z,WG,jp,W5,Yu]at c5 K L;have ba:h' 5=some (.box [.pv (.sl (sc.js.map bu)),.pv (.sl (sc.ms.map cE)),.pv (.sl (sc.shs.map cD)),.pv (.sl (sc.sks.map aN))] true false):=c5;have N:h' 10=some (.box [.pv G,.pv J] true false):=K;have O:h' 11=some (.box [.pv I] true false):=L;simp -implicitDefEqProofs (maxSteps:=2000000) [hP,hN,gw,nF,iP,uA,lE,inK,g1,g2,g3,g4,g5,d,l,o,ba,N,O];have ef:oB sc p q w cells m (jC sc w S k NX.2.1)=some R:=A;refine WP.of_st (P:=λst=>st.t 1=.pv (zs p)/\st.t 2=.pv (zs q)/\st.t 3=.pv (Z w)/\st.t 4=.pv (Z cells)/\st.t 5=.ptr 5 0/\st.t 10=.ptr 10 0/\st.t 11=.ptr 11 0/\st.t 14=.ptr 290 0/\st.t 18=.pv (aP (av S k).v.nor)/\st.t 122=.pv (.sl [Z S.cells.length,Z ((S.cells.length:Int)+1)])/\st.t 123=.pv (Z 2)/\st.t 124=.pv (Z 0)/\st.h 5=some (.box [.pv (.sl (sc.js.map bu)),.pv (.sl (sc.ms.map cE)),.pv (.sl (sc.shs.map cD)),.pv (.sl (sc.sks.map aN))] true false)/\(∃x y,st.h 10=some (.box [.pv x,.pv y] true false))/\(∃x,st.h 11=some (.box [.pv x] true false))/\∀k2,inK k2=true->st.h k2=bo true (bA S k NX.2.1) c' k2) ⟨?_,?_⟩
  .simp[gw,nF,iP,uA,lE,inK,g1,g2,g3,g4,g5,d,l,o,ba,N,O]
   exact λk2 a b=>hh k2 (by simp[inK,a,b])
  clear hh ho c5 K L ba N O h' F b5 u z g1 g2 g3 g4 g5 d l o G J I bc cb b9 D E W cN c0 st;rintro st ⟨g1,g2,g3,g4,g5,d,l,o,bs,Q,Y,ad,b5,⟨G,J,u⟩,⟨I,z⟩,F⟩;obtain⟨H,hH⟩:∃H,H=(av S k).v.nor:=⟨_,rfl⟩
  have U:oB sc p q w cells m (qL sc w H (bA S k NX.2.1) S.cells.length 2)=some R:=by rw[hH];exact ef
  have cm:BV (qL sc w H (bA S k NX.2.1) S.cells.length 2)=true:=by
   cases m with
   |zero=>cases U
   |succ m=>
    simp only[oB]at U;by_cases h:BV (qL sc w H (bA S k NX.2.1) S.cells.length 2)=true
    .exact h
    .rw[VM h]at U;cases U
  have et:H.length<=4096:=by rw[hH];exact a7 _ (Is b1)
  obtain⟨p1,p2,p3,p4,p5⟩:=zh sc w H (bA S k NX.2.1) S.cells.length 2;obtain⟨o1,o2,o3,o4,o5,o6,_⟩:=sW cm;rw[p2]at o6;rw[<-hH]at bs;clear p1 p2 p3 p4 p5 o1 o2 o3 o4 o5 ef A ar cm X;generalize bA S k NX.2.1=S0 at *;obtain⟨n,b3⟩:∃n,n=S.cells.length:=⟨_,rfl⟩;rw[a3,<-b3]at q1;rw[a2,<-b3]at q2;rw[<-b3]at q3 Q U;rw[a4,<-b3]at q4;have e6:i64.wrap ((n:Int)+1)=(n:Int)+1:=aa;refine HP Q ?_;refine WP.loopN [] 2 (λj st=>st.t 1=.pv (zs p)/\st.t 2=.pv (zs q)/\st.t 3=.pv (Z w)/\st.t 4=.pv (Z cells)/\st.t 5=.ptr 5 0/\st.t 10=.ptr 10 0/\st.t 11=.ptr 11 0/\st.t 14=.ptr 290 0/\st.t 18=.pv (aP H)/\st.t 122=.pv (.sl [Z n,Z ((n:Int)+1)])/\st.t 123=.pv (Z 2)/\st.t 124=.pv (Z j)/\st.h 5=some (.box [.pv (.sl (sc.js.map bu)),.pv (.sl (sc.ms.map cE)),.pv (.sl (sc.shs.map cD)),.pv (.sl (sc.sks.map aN))] true false)/\(∃x y,st.h 10=some (.box [.pv x,.pv y] true false))/\(∃x,st.h 11=some (.box [.pv x] true false))/\∀k2,inK k2=true->st.h k2=bo true (qL sc w H S0 n j) c' k2) ?_ ?_
  .refine⟨by simp[St.kill,az,bC,aK,g1],by simp[St.kill,az,bC,aK,g2],by simp[St.kill,az,bC,aK,g3],by simp[St.kill,az,bC,aK,g4],by simp[St.kill,az,bC,aK,g5],by simp[St.kill,az,bC,aK,d],by simp[St.kill,az,bC,aK,l],by simp[St.kill,az,bC,aK,o],by simp[St.kill,az,bC,aK,bs],by simp[St.kill,az,bC,aK,Q],by simp[St.kill,az,bC,aK,Y],by simp[St.kill,az,bC,aK,ad],by simp[St.kill,az,bG,bC,aK,b5],⟨G,J,by simp[St.kill,az,bG,bC,aK,u]⟩,⟨I,by simp[St.kill,az,bG,bC,aK,z]⟩,λk2 cH=>?_⟩
   show(st.h k2).map (bG [])=_;rw[F k2 cH,kS];rfl
  clear g1 g2 g3 g4 g5 d l o bs Q Y ad b5 u z G J I F st;rintro j st hj ⟨g1,g2,g3,g4,g5,d,l,o,bs,Q,Y,ad,b5,⟨G,J,u⟩,⟨I,z⟩,F⟩;obtain⟨p1,p2,p3,p4,p5⟩:=zh sc w H S0 n j;have cP:qL sc w H S0 n (j+1)=gx sc w H (qL sc w H S0 n j) (n+j):=rfl;by_cases ee:j<2
  .generalize qL sc w H S0 n j=T at *
   have D:=(F 290 rfl).trans (oZ true T c');rw[sX (p5.trans q5),p2,p3,p4,p1,q1,q2,q3,q4]at D;have E:=(F 291 rfl).trans (rB true T c' (p5.trans q5));have W:=(F 292 rfl).trans (rC true T c');have bb:=(F 294 rfl).trans (ud true T c');obtain⟨M,cz⟩:∃M,M=n+j:=⟨_,rfl⟩
   have eW:M<n+2:=by omega
   have ck:([Z n,Z ((n:Int)+1)]:List PV)[j]?=some (Z (M:Int)):=by rcases(by omega:j=0\/j=1)with rfl|rfl<;>simp[cz]
   have cV:([Z n,Z ((n:Int)+1)]:List PV).length=2:=rfl;generalize([Z n,Z ((n:Int)+1)]:List PV)=L2 at *;have cx:∀h,L2[j]'h=Z (M:Int):=λh=>iK ck h;rw[<-cz]at cP
   have cj:M<T.cells.length:=by omega
   have ch:M<T.bx.length:=by rw[p2];omega
   have ec:M<T.jn.length:=by omega
   have c9:T.cells[M]?=some (av T M):=by simp[av,an cj]
   have dd:∀h,T.cells[M]'h=av T M:=λh=>iK c9 h
   have cw:T.bx[M]?=some (ax T M):=by simp[ax,an ch]
   have c3:∀h,T.bx[M]'h=ax T M:=λh=>iK cw h;have e1:(ax T M).length<=16:=o6 _ (by rw[<-p2];exact Is cw);have cB:=Ql sc (ax T M) H hs (by omega) (by omega);have cf:=Qi sc.js sc.ms (ax T M) w hs.js hs.ms (by omega);have e0:=aj ee (by omega)
   have c8:T.cells.length=n+2:=by omega
   have c2:T.bx.length=n+2:=by rw[p2];omega
   have eb:T.jn.length=n+2:=by omega
   rw[cP];unfold gx;generalize bD sc (ax T M) H=V at *;generalize iE sc.js sc.ms w (ax T M)=FJ at *;generalize av T M=cv at *;generalize ax T M=bv at *;clear b1 b2 cP a6 a7 a8 a9 U o6 hH et ct hk e3 bq e4 cz b3
   with_reducible repeat' (first|refine Sp.h ?_|((first|refine Wd ?_|refine Ss.h ?_|refine Sc.h (cB) ?_|refine Sc.h (cf) ?_|(refine Sb.h ?_ ?_ ?_<;>(try intro hgd)<;>try exact Xy))<;>simp -implicitDefEqProofs [hP,hN,g1,g2,g3,g4,g5,d,l,o,bs,Q,Y,ad,b5,u,z,D,E,W,bb,ee,eW,ck,cx,cV,c9,dd,cw,c3,e0,cj,ch,ec,c8,c2,eb]<;>try refine Yc ?_)|refine X2 ?_ ?_|(refine Xd ?_ ?_<;>intro hcd<;>try exact Xx))
   intro k2 cH;by_cases u1:k2=294
   .subst u1
    rw[VS rfl];refine Eq.trans ?_ (ud _ _ _).symm;simp only[WG,bG,Xs]
   .by_cases u2:k2=291
    .subst u2
     rw[VM (by omega),VS rfl];refine Eq.trans ?_ (rB true {T with cells:=T.cells.set M {cv with v:=aV V},jn:=T.jn.set M FJ} c' (p5.trans q5)).symm;simp only[WG,bG,Xs];rfl
    .rw[VM u1,VM u2,F k2 cH,kS]
     exact(Ig (p5.trans q5) (by simp) (by simp) u2 u1).symm
  .have ez:j=2:=by omega
   subst ez
   with_reducible repeat' (first|refine Sp.h ?_|((first|refine Wd ?_|refine Ss.h ?_|(refine Sb.h ?_ ?_ ?_<;>(try intro hgd)<;>try exact Xy))<;>simp -implicitDefEqProofs [hP,hN,g1,g2,g3,g4,g5,d,l,o,bs,Q,Y,ad,b5,u,z]<;>try refine Yc ?_)|refine X2 ?_ ?_|(refine Xd ?_ ?_<;>intro hcd<;>try exact Xx))
   exact⟨by omega,qL sc w H S0 n 2,(by rw[show f-(i+1)=m by omega];exact U),c',λk a b=>by rw[F k (by simp[inK,a,b]),kS]⟩
structure SB(a b:Bx):Prop where
 len:a.length=b.length
 va:bj vI a=true
 vb:bj vI b=true
 sub:∀(i:Nat) x y,a[i]?=some x->b[i]?=some y->y.1<=x.1/\x.2<=y.2
theorem SB.refl{b:Bx}(h:bj vI b=true):SB b b:=⟨rfl,h,h,λi x y c a=>by rw[c]at a;injection a with a;subst a;omega⟩
theorem SB.trans{a b c:Bx}(h:SB a b)(h':SB b c):SB a c:=by
 refine⟨h.len.trans h'.len,h.va,h'.vb,λi x y d f=>?_⟩
 have hi:i<b.length:=by rw[<-h.len];exact(th.1 d).1
 have e:=an hi;have g:=h.sub i x _ d e;have j:=h'.sub i _ y e f;omega
theorem SB.touch{a b c g:Bx}(h:SB a b)(h':SB c g)(f:bk a c=true):bk b g=true:=by
 rw[nW h.va h'.va]at f;rw[nW h.vb h'.vb];refine⟨by rw[<-h.len,<-h'.len];exact f.1,λi x y k l=>?_⟩
 have hi:i<a.length:=by rw[h.len];exact(th.1 k).1
 have d:i<c.length:=by rw[h'.len];exact(th.1 l).1
 have e:=an hi;have j:=an d;have m:=h.sub i _ x e k;have n:=h'.sub i _ y j l;have o:=f.2 i _ _ e j;omega
theorem J0{b:Bx}(h:bz b j=true):SB (aW b j) b/\SB (aX b j) b:=by
 obtain⟨x,d,n,l,g,k⟩:=zC h;obtain⟨v1,v2⟩:=tO h;have vb:=(lW.1 h).2.1;have f:=xj h;have m:=(th.1 d).1;refine⟨⟨f.1,v1,vb,λi y z a c=>?_⟩,⟨f.2,v2,vb,λi y z a c=>?_⟩⟩
 .rw[g,VV]at a
  split at a
  .rename_i e;subst e
   injection a with a;subst a;rw[d]at c;injection c with c;subst c;exact⟨Yp _,by simp only;omega⟩
  .rw[c]at a;injection a with a;subst a;omega
 .rw[k,VV]at a
  split at a
  .rename_i e;subst e
   injection a with a;subst a;rw[d]at c;injection c with c;subst c;exact⟨by simp only;omega,Yp _⟩
  .rw[c]at a;injection a with a;subst a;omega
theorem ve{b:Bx}(h:gy js ms w b=true):bz b (fW js ms b)=true:=by
 unfold gy at h;simp only[An,L4]at h;rcases u9 js ms b with e|⟨j,e,d,_,a,x,c,h5⟩
 .omega
 .rw[lW,e]
  exact⟨by omega,a,x,by simpa using c,h5⟩
def v8(sc:Sce):List Bool->Bx×Verd
 |[]=>(af sc.js sc.ms,aV (bD sc (af sc.js sc.ms) []))
 |c::π=>let b:=if c then aX (v8 sc π).1 (fW sc.js sc.ms (v8 sc π).1)else aW (v8 sc π).1 (fW sc.js sc.ms (v8 sc π).1);(b,aV (bD sc b (v8 sc π).2.nor))
structure Grw(sc:Sce)(w:Int)(s:Spc)(P:Nat->List Bool)(I:List (List Bool)):Prop where
 leaf:∀i,i<s.cells.length->(av s i).low=-1->ax s i=(v8 sc (P i)).1/\(av s i).v=(v8 sc (P i)).2/\dc s i=iE sc.js sc.ms w (ax s i)
 cov:∀π,(∃i,i<s.cells.length/\(av s i).low=-1/\P i <:+ π)\/π∈I
 anc:∀i,i<s.cells.length->(av s i).low=-1->∀π,π <:+ P i->π=P i\/π∈I
 opn:∀π∈I,(v8 sc π).2.kind=0/\gy sc.js sc.ms w (v8 sc π).1=true
theorem nB{a b:Bx}(e:bj vI a=true)(f:bj vI b=true):bk a b=bk b a:=by
 rw[Bool.eq_iff_iff,nW e f,nW f e];exact⟨λh=>⟨h.1.symm,λi x y c d=>(h.2 i y x d c).symm⟩,λh=>⟨h.1.symm,λi x y c d=>(h.2 i y x d c).symm⟩⟩
theorem Iz:∀(n:Nat)(l:List Nat),l.Nodup->(∀x∈l,x<n)->l.length<=n
 |0,l,_,h=>by
  cases l with
  |nil=>exact VU _
  |cons a l=>exact absurd (h a (by simp)) (by omega)
 |n+1,l,hd,h=>by
  have:=Iz n (l.erase n) (hd.erase n) λx c=>by
   have b:=(hd.mem_erase_iff.1 c);have d:=h x b.2;omega
  rw[List.length_erase]at this;split at this<;>omega
structure NrOk(s:Spc):Prop where
 bl:s.bx.length=s.cells.length
 nl:s.near.length=s.cells.length
 jl:s.jn.length=s.cells.length
 cc:s.cc=false
 vi:∀b∈s.bx,bj vI b=true/\b.length<=16
 nd:∀p,(ab s p).Nodup
 mem:∀p k,k∈ab s p↔(k<s.cells.length/\(av s k).low=-1)/\(p<s.cells.length/\(av s p).low=-1)/\k≠p/\bk (ax s k) (ax s p)=true
theorem NrOk.at(h:NrOk s)(hi:i<s.cells.length):s.bx[i]?=some (ax s i)/\bj vI (ax s i)=true:=by
 have:i<s.bx.length:=by rw[h.bl];exact hi
 have e:s.bx[i]?=some (ax s i):=by simp[ax,an this]
 exact⟨e,(h.vi _ (Is e)).1⟩
theorem NrOk.sy(h:NrOk s){p:Nat}(hi:i<s.cells.length)(hp:p<s.cells.length):bk (ax s i) (ax s p)=bk (ax s p) (ax s i):=nB (h.at hi).2 (h.at hp).2
theorem NrOk.ok(h:NrOk s)(hn:s.cells.length<=2040)(n:∀c∈s.cells,c.v.nor.length<=4096):BV s=true:=by
 simp only[BV,An,L4,WK,VL,Wz];refine⟨⟨⟨⟨⟨⟨⟨⟨hn,h.bl⟩,h.nl⟩,h.jl⟩,h.cc⟩,λb l=>(h.vi b l).2⟩,n⟩,λp _=>?_⟩,λi hi p hp=>?_⟩
 .simp only[CC,An,L4,VL]
  refine⟨⟨?_,h.nd p⟩,λk m=>?_⟩
  .have:=Iz _ _ (h.nd p) λx o=>((h.mem p x).1 o).1.1
   omega
  .obtain⟨a,b,c,d⟩:=(h.mem p k).1 m
   refine⟨⟨⟨a.1,c⟩,a.2⟩,(h.mem k p).2 ⟨b,a,λe=>c e.symm,?_⟩⟩;rw[h.sy b.1 a.1];exact d
 .have e:∀a b,fS s.bx a b=bk (ax s a) (ax s b):=λ_ _=>rfl
  simp only[AC,An,WK,e];refine⟨h.sy hi hp,?_⟩;by_cases f:(av s i).low=-1
  .by_cases g:(av s p).low=-1
   .by_cases j:i=p
    .simp[j]
    .have:=h.mem p i
     simp only[hi,hp,f,g,true_and,ne_eq,j,YD]at this;simp[f,g,j,this]
   .simp[g]
  .simp[f]
theorem Bd{low v:Nat}(g:low+1<s.near.length)(f:k<low):ab (dj low leaf s k) v=
 if v=k then(ab s k).erase leaf++(if bk (ax s low) (ax s k)then[low]else[])++(if bk (ax s (low+1)) (ax s k)then[low+1]else[])
 else if v=low then ab s low++(if bk (ax s low) (ax s k)then[k]else[])
 else if v=low+1 then ab s (low+1)++(if bk (ax s (low+1)) (ax s k)then[k]else[])
 else ab s v:=by
 obtain⟨b1,b2,_⟩:=gq (gY s k leaf) low k
 have hd:(gY s k leaf).near.length=s.near.length:=by simp[gY]
 have d:∀i,ax (gY s k leaf) i=ax s i:=λ_=>rfl
 have a:∀i,ax (fK (gY s k leaf) low k) i=ax s i:=λi=>by unfold ax;rw[b2];rfl
 unfold dj;rw[kH (by omega) (by omega) (by omega),a,a,kH (by omega) (by omega) (by omega),d,d,u7 (by omega)];by_cases e:v=k
 .subst e
  simp only[V8,or_true,YF,show¬v=low+1 by omega,show¬v=low by omega,VZ];cases bk (ax s low) (ax s v)<;>cases bk (ax s (low+1)) (ax s v)<;>simp
 .by_cases b:v=low
  .subst b
   simp only[e,WR,VZ,V8,YF,show¬v=v+1 by omega,and_false];cases bk (ax s v) (ax s k)<;>simp
  .by_cases c:v=low+1
   .subst c
    simp only[e,WR,VZ,V8,YF,b,and_false];cases bk (ax s (low+1)) (ax s k)<;>simp
   .simp[e,b,c]
theorem FB{low leaf:Nat}:∀(l:List Nat)(s:Spc),l.Nodup->(∀k∈l,k<low)->low+1<s.near.length->∀v,ab (l.foldl (dj low leaf) s) v=
 if v∈l then(ab s v).erase leaf++(if bk (ax s low) (ax s v)then[low]else[])++(if bk (ax s (low+1)) (ax s v)then[low+1]else[])
 else if v=low then ab s low++l.filter λk=>bk (ax s low) (ax s k)
 else if v=low+1 then ab s (low+1)++l.filter λk=>bk (ax s (low+1)) (ax s k)
 else ab s v
 |[],s,_,_,_,v=>by
  simp only[List.foldl_nil,Wr,VZ,List.filter_nil,X1];split
  .rename_i e;rw[e]
  .split
   .rename_i e;rw[e]
   .rfl
 |a::l,s,hd,f,hn,v=>by
  obtain⟨c,d⟩:=Yq.1 hd;have b:=f a (by simp);obtain⟨n,j,_⟩:=qe low leaf s a
  have m:∀i,ax (dj low leaf s a) i=ax s i:=λi=>by unfold ax;rw[j]
  have ih:=FB (low:=low) (leaf:=leaf) l (dj low leaf s a) d (λk h=>f k (by simp[h])) (by omega) v;simp only[m]at ih;rw[Xo,ih,Bd hn b,Bd hn b,Bd hn b];by_cases e:v=a
  .subst e
   simp only[c,VZ,V8,Wj,true_or,show¬v=low by omega,show¬v=low+1 by omega]
  .by_cases g:v∈l
   .have:=f v (by simp[g])
    simp only[g,V8,e,VZ,Wj,or_true,show¬v=low by omega,show¬v=low+1 by omega]
   .simp only[g,e,VZ,Wj,or_self,show¬low=a by omega,V8,show¬low+1=a by omega,show¬low+1=low by omega,List.filter_cons]
    split
    .split<;>simp
    .split
     .split<;>simp
     .rfl
theorem lQ(s:Spc)(leaf:Nat)(joint:Int):(bA s leaf joint).bx=(dB s leaf joint).bx/\(bA s leaf joint).cells=(dB s leaf joint).cells/\(bA s leaf joint).jn=(dB s leaf joint).jn:=by
 have fold:∀(l:List Nat)(x:Spc),(l.foldl (dj s.cells.length leaf) x).bx=x.bx/\(l.foldl (dj s.cells.length leaf) x).cells=x.cells/\(l.foldl (dj s.cells.length leaf) x).jn=x.jn:=by
  intro l
  induction l with
  |nil=>intro x;exact⟨rfl,rfl,rfl⟩
  |cons a l ih=>
   intro x;obtain⟨b1,b2,b3⟩:=ih (dj s.cells.length leaf x a);obtain⟨_,b,c,d,_⟩:=qe s.cells.length leaf x a;exact⟨b1.trans b,b2.trans c,b3.trans d⟩
 unfold bA;obtain⟨_,b,c,d,_⟩:=gq ((ab s leaf).foldl (dj s.cells.length leaf) (dB s leaf joint)) s.cells.length (s.cells.length+1);obtain⟨f1,f2,f3⟩:=fold (ab s leaf) (dB s leaf joint);exact⟨b.trans f1,c.trans f2,d.trans f3⟩
theorem vf(h:NrOk s)(a:leaf<s.cells.length)(i:Nat):av (bA s leaf joint) i=(if i=leaf then⟨joint,s.cells.length,s.cells.length+1,bm⟩else if i<s.cells.length then av s i else aD bm):=by
 unfold av;rw[(lQ s leaf joint).2.1];unfold dB;simp only;by_cases e:i=leaf
 .subst e
  rw[VO (by simpa using a),List.getElem?_set_self a,VS rfl];rfl
 .rw[VM e]
  by_cases hi:i<s.cells.length
  .rw[VO (by simpa using hi),List.getElem?_set_ne (λx=>e x.symm),VS hi]
  .rw[VM hi,VR (by simpa using(by omega:s.cells.length<=i))]
   simp only[Xl]
   match i-s.cells.length with
   |0=>rfl
   |1=>rfl
   |m+2=>simp
theorem s9(h:NrOk s)(leaf:Nat)(joint:Int)(i:Nat):ax (bA s leaf joint) i=(if i<s.cells.length then ax s i else if i=s.cells.length then aW (ax s leaf) joint else if i=s.cells.length+1 then aX (ax s leaf) joint else[]):=by
 unfold ax;rw[(lQ s leaf joint).1];unfold dB;simp only;by_cases hi:i<s.cells.length
 .rw[VO (by rw[h.bl];exact hi),VS hi]
 .rw[VM hi,VR (by rw[h.bl];omega),h.bl]
  by_cases a:i=s.cells.length
  .subst a;simp[ax]
  .by_cases b:i=s.cells.length+1
   .subst b;simp[ax]
   .rw[VM a,VM b,VW (by simp;omega)];rfl
theorem GK(h:NrOk s)(S:leaf<s.cells.length)(hf:(av s leaf).low=-1)(v:Nat):(∀k,k∈ab (bA s leaf joint) v↔
 ((v∈ab s leaf/\((k∈ab s v/\k≠leaf)\/(k=s.cells.length/\bk (aW (ax s leaf) joint) (ax s v)=true)\/(k=s.cells.length+1/\bk (aX (ax s leaf) joint) (ax s v)=true)))\/
  (v∉ab s leaf/\v≠leaf/\v<s.cells.length/\k∈ab s v)\/
  (v=s.cells.length/\((k∈ab s leaf/\bk (aW (ax s leaf) joint) (ax s k)=true)\/(k=s.cells.length+1/\bk (aW (ax s leaf) joint) (aX (ax s leaf) joint)=true)))\/
  (v=s.cells.length+1/\((k∈ab s leaf/\bk (aX (ax s leaf) joint) (ax s k)=true)\/(k=s.cells.length/\bk (aW (ax s leaf) joint) (aX (ax s leaf) joint)=true)))))/\(ab (bA s leaf joint) v).Nodup:=by
 have E:=s9 h leaf joint
 have c:∀x∈ab s leaf,x<s.cells.length/\x≠leaf:=λx J=>by have:=(h.mem leaf x).1 J;exact⟨this.1.1,this.2.2.1⟩
 have z:(dB s leaf joint).near.length=s.cells.length+2:=by simp[dB,h.nl]
 have J:∀i,ax (dB s leaf joint) i=ax (bA s leaf joint) i:=λi=>by unfold ax;rw[(lQ s leaf joint).1]
 have p:=FB (low:=s.cells.length) (leaf:=leaf) (ab s leaf) (dB s leaf joint) (h.nd leaf) (λk F=>(c k F).1) (by omega)
 have q:∀v,ab (dB s leaf joint) v=if v=leaf then[]else ab s v:=λv=>pd (by rw[h.nl];exact S)
 have j:∀v,s.cells.length<=v->ab s v=[]:=λv l=>by
  apply List.eq_nil_iff_forall_not_mem.2;intro x K;have:=((h.mem v x).1 K).2.1.1;omega
 have n:ab (bA s leaf joint) v=_:=kH (s:=(ab s leaf).foldl (dj s.cells.length leaf) (dB s leaf joint)) (a:=s.cells.length) (b:=s.cells.length+1) (v:=v) (by omega) (by
  have:((ab s leaf).foldl (dj s.cells.length leaf) (dB s leaf joint)).near.length=(dB s leaf joint).near.length:=by
   have:=(gq ((ab s leaf).foldl (dj s.cells.length leaf) (dB s leaf joint)) s.cells.length (s.cells.length+1)).1;have m:=(kR s leaf joint).1;unfold bA at m;rw[this]at m;rw[m,z,h.nl]
  omega) (by
  have:=(gq ((ab s leaf).foldl (dj s.cells.length leaf) (dB s leaf joint)) s.cells.length (s.cells.length+1)).1;have m:=(kR s leaf joint).1;unfold bA at m
  rw[this]at m;rw[m,h.nl];omega)
 have y:∀i,ax ((ab s leaf).foldl (dj s.cells.length leaf) (dB s leaf joint)) i=ax (bA s leaf joint) i:=λi=>by
  have:=(gq ((ab s leaf).foldl (dj s.cells.length leaf) (dB s leaf joint)) s.cells.length (s.cells.length+1)).2.1;unfold ax bA;rw[this]
 have M:ax (bA s leaf joint) s.cells.length=aW (ax s leaf) joint:=by rw[E,VM (by omega),VS rfl]
 have O:ax (bA s leaf joint) (s.cells.length+1)=aX (ax s leaf) joint:=by rw[E,VM (by omega),VM (by omega),VS rfl]
 have N:∀i,i<s.cells.length->ax (bA s leaf joint) i=ax s i:=λi hi=>by rw[E,VS hi]
 have u:∀(X:Bx),(ab s leaf).filter (λk=>bk X (ax (bA s leaf joint) k))=(ab s leaf).filter λk=>bk X (ax s k):=λX=>List.filter_congr λk F=>by rw[N k (c k F).1]
 have o:=p v;simp only[J]at o;rw[M,O,u,u,q,q,q,VM (show¬s.cells.length=leaf by omega),VM (show¬s.cells.length+1=leaf by omega),j s.cells.length (by omega),j (s.cells.length+1) (by omega)]at o;rw[y,y,M,O,o]at n;have I:leaf∉ab s leaf:=λd=>(c leaf d).2 rfl
 have H:s.cells.length∉ab s leaf:=λd=>by have:=(c _ d).1;omega
 have A:s.cells.length+1∉ab s leaf:=λd=>by have:=(c _ d).1;omega
 by_cases l:v∈ab s leaf
 .obtain⟨v1,v2⟩:=c v l
  rw[VS l,VM v2,VM (by omega),N v v1]at n
  have P:s.cells.length∉ab s v:=λd=>by have:=((h.mem v _).1 d).1.1;omega
  have m:s.cells.length+1∉ab s v:=λd=>by have:=((h.mem v _).1 d).1.1;omega
  have Q:s.cells.length∉(ab s v).erase leaf:=λd=>P (List.mem_of_mem_erase d);have R:s.cells.length+1∉(ab s v).erase leaf:=λd=>m (List.mem_of_mem_erase d);have G:=(h.nd v).erase leaf;have d:=λk=>(h.nd v).mem_erase_iff (a:=k) (b:=leaf);rw[n];refine⟨λk=>?_,?_⟩
  .simp only[l,true_and,Xp,false_and,false_or,show¬v=s.cells.length by omega,show¬v=s.cells.length+1 by omega,WR,V4,d]
   cases bk (aW (ax s leaf) joint) (ax s v)<;>cases bk (aX (ax s leaf) joint) (ax s v)<;>simp[and_comm,or_assoc]
  .generalize(ab s v).erase leaf=L at *
   cases bk (aW (ax s leaf) joint) (ax s v)<;>cases bk (aX (ax s leaf) joint) (ax s v)<;>simp[XM,G,Q,R]<;>(intro a C;first|(rintro rfl;contradiction)|(constructor<;>(rintro rfl;contradiction)))
 .rw[VM l]at n
  by_cases r:v=s.cells.length
  .subst r
   rw[n];simp only[V8,List.nil_append,true_or,YF,l,false_and,YD,true_and,false_or,show¬s.cells.length<s.cells.length by omega,and_false,show¬s.cells.length=s.cells.length+1 by omega,WR];have g:=(h.nd leaf).filter (λk=>bk (aW (ax s leaf) joint) (ax s k));refine⟨λk=>?_,?_⟩
   .cases bk (aW (ax s leaf) joint) (aX (ax s leaf) joint)<;>simp
   .split
    .rw[XM]
     refine⟨g,by simp,λa C b f=>?_⟩;simp at f;subst f;rintro rfl;exact A (WX.1 C).1
    .exact g
  .by_cases e:v=s.cells.length+1
   .subst e
    rw[n];simp only[V8,List.nil_append,or_true,YF,l,false_and,YD,true_and,false_or,show¬s.cells.length+1<s.cells.length by omega,and_false,show¬s.cells.length+1=s.cells.length by omega,VZ];have g:=(h.nd leaf).filter (λk=>bk (aX (ax s leaf) joint) (ax s k));refine⟨λk=>?_,?_⟩
    .cases bk (aW (ax s leaf) joint) (aX (ax s leaf) joint)<;>simp
    .split
     .rw[XM]
      refine⟨g,by simp,λa C b f=>?_⟩;simp at f;subst f;rintro rfl;exact H (WX.1 C).1
     .exact g
   .rw[VM r,VM e,VM (by simp[r,e])]at n
    rw[n];by_cases D:v=leaf
    .subst D
     simp only[V8,l,r,e,false_and,WR,Xp,and_false,ne_eq,Wr,List.nodup_nil,YF,implies_true]
    .rw[VM D]
     by_cases B:v<s.cells.length
     .simp[l,D,B,r,e,h.nd v]
     .rw[j v (by omega)];simp[l,B,r,e]
theorem AD(h:NrOk s)(a:leaf<s.cells.length)(i:Nat):(av (bA s leaf joint) i).low=-1↔i≠leaf/\(i<s.cells.length->(av s i).low=-1):=by
 rw[vf h a];by_cases e:i=leaf
 .subst e;simp
 .rw[VM e]
  by_cases hi:i<s.cells.length
  .simp[e,hi]
  .simp[e,hi,aD]
theorem NrOk.split(h:NrOk s)(z:leaf<s.cells.length)(hf:(av s leaf).low=-1)(T:bz (ax s leaf) joint=true):NrOk (bA s leaf joint):=by
 obtain⟨U,V,J,W,X⟩:=kR s leaf joint;obtain⟨r,u⟩:=J0 T;have K:=s9 h leaf joint
 have B:ax (bA s leaf joint) s.cells.length=aW (ax s leaf) joint:=by rw[K,VM (by omega),VS rfl]
 have C:ax (bA s leaf joint) (s.cells.length+1)=aX (ax s leaf) joint:=by rw[K,VM (by omega),VM (by omega),VS rfl]
 have o:∀i,i<s.cells.length->ax (bA s leaf joint) i=ax s i:=λi hi=>by rw[K,VS hi]
 have hL:=AD (joint:=joint) h z;have F:=λv=>GK (joint:=joint) h z hf v;refine⟨by rw[V,J,h.bl],by rw[U,J,h.nl],by rw[W,J,h.jl],X,?_,λp=>(F p).2,λp k=>?_⟩
 .rw[(lQ s leaf joint).1]
  intro b D;simp only[dB,V4,Wj,Wr,WR]at D;have E:=(h.vi _ (Is (h.at z).1)).2;rcases D with e|e|e
  .exact h.vi b e
  .subst e;exact⟨r.va,by rw[r.len];exact E⟩
  .subst e;exact⟨u.va,by rw[u.len];exact E⟩
 .rw[(F p).1 k,J,hL,hL]
  have f:=h.mem;have n:∀x,x<s.cells.length->(av s x).low=-1->x≠leaf->bk (ax s leaf) (ax s x)=true->x∈ab s leaf:=λx a b c d=>(f leaf x).2 ⟨⟨a,b⟩,⟨z,hf⟩,c,by rw[h.sy a z];exact d⟩
  have g:∀x∈ab s leaf,x<s.cells.length/\(av s x).low=-1/\x≠leaf:=λx L=>by have:=(f leaf x).1 L;exact⟨this.1.1,this.1.2,this.2.2.1⟩
  have vi:∀{x},x<s.cells.length->bj vI (ax s x)=true:=λL=>(h.at L).2;by_cases m:p<s.cells.length
  .have R:¬p=s.cells.length:=by omega
   have I:¬p=s.cells.length+1:=by omega
   have S:(p∈ab s leaf)↔(p<s.cells.length/\(av s p).low=-1)/\p≠leaf/\bk (ax s p) (ax s leaf)=true:=by rw[f leaf p];simp[z,hf]
   by_cases A:p=leaf
   .subst A
    have:=g p;constructor
    .rintro(⟨a,_⟩|⟨_,a,_⟩|⟨a,_⟩|⟨a,_⟩)
     .exact absurd rfl (this a).2.2
     .exact absurd rfl a
     .exact absurd a R
     .exact absurd a I
    .rintro⟨_,⟨_,a,_⟩,_⟩
     exact absurd rfl a
   .constructor
    .rintro(⟨a,b⟩|⟨a,_,_,b⟩|⟨a,_⟩|⟨a,_⟩)
     .have hp:=g p a
      refine⟨?_,⟨by omega,hp.2.2,λ_=>hp.2.1⟩,?_⟩
      .rcases b with⟨b,c⟩|⟨rfl,_⟩|⟨rfl,_⟩
       .have:=(f p k).1 b
        exact⟨by omega,c,λ_=>this.1.2⟩
       all_goals exact⟨by omega,by omega,by omega⟩
      .rw[o p m]
       rcases b with⟨b,c⟩|⟨rfl,c⟩|⟨rfl,c⟩
       .have:=(f p k).1 b
        rw[o k this.1.1];exact this.2.2
       .rw[B];exact⟨by omega,c⟩
       .rw[C];exact⟨by omega,c⟩
     .have:=(f p k).1 b
      refine⟨⟨by omega,?_,λ_=>this.1.2⟩,⟨by omega,A,λ_=>this.2.1.2⟩,this.2.2.1,by rw[o p m,o k this.1.1];exact this.2.2.2⟩;rintro rfl;exact a (n p m this.2.1.2 A this.2.2.2)
     .exact absurd a R
     .exact absurd a I
    .rintro⟨⟨Q,G,H⟩,⟨_,_,Y⟩,M,j⟩
     rw[o p m]at j;have y:=Y m;by_cases l:k<s.cells.length
     .rw[o k l]at j
      have P:k∈ab s p:=(f p k).2 ⟨⟨l,H l⟩,⟨m,y⟩,M,j⟩;by_cases a:p∈ab s leaf
      .exact .inl ⟨a,.inl ⟨P,G⟩⟩
      .exact .inr (.inl ⟨a,A,m,P⟩)
     .by_cases e:k=s.cells.length
      .rw[e,B]at j
       exact .inl ⟨n p m y A (r.touch (.refl (vi m)) j),.inr (.inl ⟨e,j⟩)⟩
      .have q:k=s.cells.length+1:=by omega
       rw[q,C]at j;exact .inl ⟨n p m y A (u.touch (.refl (vi m)) j),.inr (.inr ⟨q,j⟩)⟩
  .have N:p∉ab s leaf:=λa=>m (g p a).1
   by_cases e:p=s.cells.length
   .subst e
    rw[B];constructor
    .rintro(⟨a,_⟩|⟨_,_,a,_⟩|⟨_,b⟩|⟨a,_⟩)
     .exact absurd a N
     .exact absurd a m
     .refine⟨?_,⟨by omega,by omega,by omega⟩,?_⟩
      .rcases b with⟨b,_⟩|⟨rfl,_⟩
       .have:=g k b
        exact⟨by omega,this.2.2,λ_=>this.2.1⟩
       .exact⟨by omega,by omega,by omega⟩
      .rcases b with⟨b,c⟩|⟨rfl,c⟩
       .have:=(g k b).1
        rw[o k this,nB (vi this) r.va];exact⟨by omega,c⟩
       .rw[C,nB u.va r.va]
        exact⟨by omega,c⟩
     .omega
    .rintro⟨⟨Q,G,H⟩,_,M,j⟩
     refine .inr (.inr (.inl ⟨rfl,?_⟩));by_cases l:k<s.cells.length
     .rw[o k l,nB (vi l) r.va]at j
      exact .inl ⟨n k l (H l) G (r.touch (.refl (vi l)) j),j⟩
     .have q:k=s.cells.length+1:=by omega
      rw[q,C,nB u.va r.va]at j;exact .inr ⟨q,j⟩
   .by_cases q:p=s.cells.length+1
    .subst q
     rw[C];constructor
     .rintro(⟨a,_⟩|⟨_,_,a,_⟩|⟨a,_⟩|⟨_,b⟩)
      .exact absurd a N
      .exact absurd a m
      .omega
      .refine⟨?_,⟨by omega,by omega,by omega⟩,?_⟩
       .rcases b with⟨b,_⟩|⟨rfl,_⟩
        .have:=g k b
         exact⟨by omega,this.2.2,λ_=>this.2.1⟩
        .exact⟨by omega,by omega,by omega⟩
       .rcases b with⟨b,c⟩|⟨rfl,c⟩
        .have:=(g k b).1
         rw[o k this,nB (vi this) u.va];exact⟨by omega,c⟩
        .rw[B]
         exact⟨by omega,c⟩
     .rintro⟨⟨Q,G,H⟩,_,M,j⟩
      refine .inr (.inr (.inr ⟨rfl,?_⟩));by_cases l:k<s.cells.length
      .rw[o k l,nB (vi l) u.va]at j
       exact .inl ⟨n k l (H l) G (u.touch (.refl (vi l)) j),j⟩
      .have O:k=s.cells.length:=by omega
       rw[O,B]at j;exact .inr ⟨O,j⟩
    .constructor
     .rintro(⟨a,_⟩|⟨_,_,a,_⟩|⟨a,_⟩|⟨a,_⟩)
      .exact absurd a N
      .exact absurd a m
      .exact absurd a e
      .exact absurd a q
     .rintro⟨_,⟨a,_⟩,_⟩
      omega
theorem nQ(sc:Sce)(w:Int)(a:List Vc)(s:Spc)(h:Nat):(gx sc w a s h).cells.length=s.cells.length/\(∀i,(av (gx sc w a s h) i).low=(av s i).low)/\(∀i,ax (gx sc w a s h) i=ax s i)/\∀i,ab (gx sc w a s h) i=ab s i:=by
 refine⟨by simp[gx],λi=>?_,λ_=>rfl,λ_=>rfl⟩;unfold av gx;simp only[VV];split
 .rename_i e
  subst e;split
  .rfl
  .rename_i b;rw[VW (by omega)]
 .rfl
theorem NrOk.half(h:NrOk s)(sc:Sce)(w:Int)(a:List Vc)(k:Nat):NrOk (gx sc w a s k):=by
 obtain⟨a1,a2,a3,a4⟩:=nQ sc w a s k;refine⟨by rw[a1];exact h.bl,by rw[a1];exact h.nl,by rw[a1];simp[gx,h.jl],h.cc,h.vi,h.nd,λp q=>?_⟩;simp only[a1,a2,a3,a4];exact h.mem p q
theorem ta(sc:Sce)(w:Int)(a:List Vc)(s:Spc){h:Nat}(b:h<s.cells.length)(i:Nat):av (gx sc w a s h) i=if i=h then{av s h with v:=aV (bD sc (ax s h) a)}else av s i:=by
 unfold av gx;simp only[VV];by_cases e:i=h
 .subst e;simp[b,av]
 .simp[e,show¬h=i from λx=>e x.symm]
theorem FC(sc:Sce)(w:Int)(a:List Vc)(s:Spc){h:Nat}(b:h<s.jn.length)(i:Nat):dc (gx sc w a s h) i=if i=h then iE sc.js sc.ms w (ax s h)else dc s i:=by
 unfold dc gx;simp only[VV];by_cases e:i=h
 .subst e;simp[b]
 .simp[e,show¬h=i from λx=>e x.symm]
theorem J1{P π:List Bool}(h:P <:+ π):π=P\/∃c,(c::P) <:+ π:=by
 obtain⟨t,rfl⟩:=h;rcases List.eq_nil_or_concat t with rfl|⟨t',c,rfl⟩
 .exact .inl rfl
 .exact .inr ⟨c,t',by simp⟩
theorem xW{b:Bx}(h:iE js ms w b≠-1):gy js ms w b=true/\iE js ms w b=fW js ms b:=by
 unfold iE at h|-
 cases a:gy js ms w b with
 |true=>simp
 |false=>rw[a]at h;simp at h
section
variable {sc:Sce} {w:Int} {s:Spc}
theorem DP(leaf:Nat)(joint:Int):(jC sc w s leaf joint).cells.length=s.cells.length+2:=by
 unfold jC;rw[(nQ _ _ _ _ _).1,(nQ _ _ _ _ _).1,(kR s leaf joint).2.2.1]
theorem NrOk.more(h:NrOk s)(b:leaf<s.cells.length)(hf:(av s leaf).low=-1)(a:bz (ax s leaf) joint=true):NrOk (jC sc w s leaf joint):=((h.split b hf a).half _ _ _ _).half _ _ _ _
theorem Grw.step{s':Spc}{I:List (List Bool)}(g:Grw sc w s P I)(r:leaf<s.cells.length)(hf:(av s leaf).low=-1)(y:(av s leaf).v.kind=0)(z:gy sc.js sc.ms w (ax s leaf)=true)(hn:s'.cells.length=s.cells.length+2)(f:∀i,(av s' i).low=-1↔i≠leaf/\(i<s.cells.length->(av s i).low=-1))
 (o:∀i,i<s.cells.length->i≠leaf->ax s' i=ax s i/\(av s' i).v=(av s i).v/\dc s' i=dc s i)
 (u:ax s' s.cells.length=aW (ax s leaf) (fW sc.js sc.ms (ax s leaf))/\(av s' s.cells.length).v=aV (bD sc (aW (ax s leaf) (fW sc.js sc.ms (ax s leaf))) (av s leaf).v.nor)/\dc s' s.cells.length=iE sc.js sc.ms w (ax s' s.cells.length))
 (x:ax s' (s.cells.length+1)=aX (ax s leaf) (fW sc.js sc.ms (ax s leaf))/\(av s' (s.cells.length+1)).v=aV (bD sc (aX (ax s leaf) (fW sc.js sc.ms (ax s leaf))) (av s leaf).v.nor)/\dc s' (s.cells.length+1)=iE sc.js sc.ms w (ax s' (s.cells.length+1))):
 Grw sc w s' (λi=>if i=s.cells.length then false::P leaf else if i=s.cells.length+1 then true::P leaf else P i) (P leaf::I):=by
 obtain⟨g1,g2,g3⟩:=g.leaf leaf r hf;refine⟨λi hi j=>?_,λπ=>?_,λi hi j π l=>?_,λπ l=>?_⟩
 .rw[f]at j
  rw[hn]at hi;by_cases m:i=s.cells.length+1
  .subst m
   simp only[show¬s.cells.length+1=s.cells.length by omega,VZ,V8,v8,<-g1,<-g2];exact x
  .by_cases q:i=s.cells.length
   .subst q
    simp only[V8,v8,<-g1,<-g2];exact u
   .have k:i<s.cells.length:=by omega
    obtain⟨A,B,C⟩:=o i k j.1;rw[VM q,VM m,A,B,C];exact g.leaf i k (j.2 k)
 .rcases g.cov π with⟨i,a,b,c⟩|a
  .by_cases e:i=leaf
   .subst e
    rcases J1 c with e|⟨d,hd⟩
    .exact .inr (by simp[e])
    .cases d with
     |false=>exact .inl ⟨s.cells.length,by omega,(f _).2 ⟨by omega,by omega⟩,by simpa using hd⟩
     |true=>exact .inl ⟨s.cells.length+1,by omega,(f _).2 ⟨by omega,by omega⟩,by simpa using hd⟩
   .exact .inl ⟨i,by omega,(f _).2 ⟨e,λ_=>b⟩,by rw[VM (by omega),VM (by omega)];exact c⟩
  .exact .inr (by simp[a])
 .have p:∀π,π <:+ P leaf->π∈P leaf::I:=λπ hp=>by
   rcases g.anc leaf r hf π hp with e|e<;>simp[e]
  rw[f]at j;rw[hn]at hi;split at l
  .rcases List.suffix_cons_iff.1 l with e|e
   .rename_i n;left;rw[e,VS n]
   .exact .inr (p π e)
  .split at l
   .rcases List.suffix_cons_iff.1 l with e|e
    .rename_i m n;left;rw[e,VM m,VS n]
    .exact .inr (p π e)
   .rename_i m n
    rw[VM m,VM n];rcases g.anc i (by omega) (j.2 (by omega)) π l with e|e
    .exact .inl e
    .exact .inr (by simp[e])
 .rcases Wj.1 l with e|e
  .subst e
   rw[<-g2,<-g1];exact⟨y,z⟩
  .exact g.opn π e
theorem Grw.more{I:List (List Bool)}(g:Grw sc w s P I)(h:NrOk s)(m:leaf<s.cells.length)(hf:(av s leaf).low=-1)(x:(av s leaf).v.kind=0)(u:dc s leaf≠-1):
 Grw sc w (jC sc w s leaf (dc s leaf)) (λi=>if i=s.cells.length then false::P leaf else if i=s.cells.length+1 then true::P leaf else P i) (P leaf::I):=by
 obtain⟨g1,g2,g3⟩:=g.leaf leaf m hf;have j:=xW (w:=w) (js:=sc.js) (ms:=sc.ms) (b:=ax s leaf) (by rw[<-g3];exact u);rw[j.2]at g3;obtain⟨y,z,q,r,A⟩:=kR s leaf (dc s leaf);have k:=DP (sc:=sc) (w:=w) (s:=s) leaf (dc s leaf);have c:=s9 h leaf (dc s leaf);have n:=vf (joint:=dc s leaf) h m;have d:∀i,ax (jC sc w s leaf (dc s leaf)) i=ax (bA s leaf (dc s leaf)) i:=λ_=>rfl
 have a:∀i,av (jC sc w s leaf (dc s leaf)) i=if i=s.cells.length+1 then⟨-1,-1,-1,aV (bD sc (aX (ax s leaf) (dc s leaf)) (av s leaf).v.nor)⟩else if i=s.cells.length then⟨-1,-1,-1,aV (bD sc (aW (ax s leaf) (dc s leaf)) (av s leaf).v.nor)⟩else av (bA s leaf (dc s leaf)) i:=by
  intro i;unfold jC;rw[ta _ _ _ _ (by rw[(nQ _ _ _ _ _).1,q];omega),(nQ _ _ _ _ _).2.2.1,ta _ _ _ _ (by rw[q];omega),ta _ _ _ _ (by rw[q];omega),c,c,n,n];simp only[show¬s.cells.length+1=leaf by omega,show¬s.cells.length=leaf by omega,show¬s.cells.length+1<s.cells.length by omega,show¬s.cells.length+1=s.cells.length by omega,VZ,V8,Nat.lt_irrefl,aD]
 have f:∀i,dc (jC sc w s leaf (dc s leaf)) i=if i=s.cells.length+1 then iE sc.js sc.ms w (aX (ax s leaf) (dc s leaf))else if i=s.cells.length then iE sc.js sc.ms w (aW (ax s leaf) (dc s leaf))else dc (bA s leaf (dc s leaf)) i:=by
  intro i;unfold jC;rw[FC _ _ _ _ (by simp[gx,r,h.jl]),(nQ _ _ _ _ _).2.2.1,FC _ _ _ _ (by rw[r,h.jl];omega),c,c];simp only[show¬s.cells.length+1<s.cells.length by omega,show¬s.cells.length+1=s.cells.length by omega,VZ,V8,Nat.lt_irrefl]
 have l:∀i,(av (jC sc w s leaf (dc s leaf)) i).low=-1↔i≠leaf/\(i<s.cells.length->(av s i).low=-1):=by
  intro i;rw[a];split
  .rename_i e;simp[e];omega
  .split
   .rename_i e;simp[e];omega
   .exact AD h m i
 have o:∀i,i<s.cells.length->dc (bA s leaf (dc s leaf)) i=dc s i:=by
  intro i hi;unfold dc;rw[(lQ s leaf _).2.2];simp only[dB];rw[VO (by rw[h.jl];exact hi)]
 refine g.step m hf x j.1 k l (λi hi p=>?_) ?_ ?_
 .rw[d,a,f,c,VS hi,VM (by omega),VM (by omega),VM (by omega),VM (by omega),n,VM p,VS hi,o i hi]
  exact⟨rfl,rfl,rfl⟩
 .rw[d,a,f,c,<-g3]
  simp
 .rw[d,a,f,c,<-g3]
  simp only[show¬s.cells.length+1<s.cells.length by omega,show¬s.cells.length+1=s.cells.length by omega,VZ,V8];exact⟨by trivial,by trivial,by trivial⟩
theorem IA(h:NrOk s)(hn:(fl s p q).2.2=3):∃k:Nat,(fl s p q).1=(k:Int)/\k<s.cells.length/\(av s k).low=-1/\(av s k).v.kind=0/\dc s k≠-1/\(fl s p q).2.1=dc s k:=by
 have a:∀i j,i<s.cells.length->j<s.cells.length->fS s.bx i j=fS s.bx j i:=λi j hi g=>h.sy hi g
 have key:∀(f:Int->Int->Bool),(jU s (eM s.cells.length (cF s f) (aG s.bx q) (aG s.bx p) (fS s.bx))).2.2=3->∃k:Nat,(jU s (eM s.cells.length (cF s f) (aG s.bx q) (aG s.bx p) (fS s.bx))).1=(k:Int)/\k<s.cells.length/\(av s k).low=-1/\(av s k).v.kind=0/\dc s k≠-1/\(jU s (eM s.cells.length (cF s f) (aG s.bx q) (aG s.bx p) (fS s.bx))).2.1=dc s k:=by
  intro f e;unfold jU at e|-;split at e
  .rename_i k m
   have n:=List.mem_of_find?_eq_some m;have hq:=XK m;simp only[wP,An,L4]at hq
   cases l:dq s.cells.length (cF s f) (aG s.bx q) (aG s.bx p) (fS s.bx)with
   |false=>simp[eM,l]at n
   |true=>
    obtain⟨_,_,b3,_⟩:=ro a l;obtain⟨j,g⟩:=Wt n;obtain⟨c,b,_⟩:=b3 j k g;simp only[cF,An,L4]at b;exact⟨k,rfl,c,b.1,hq.1,hq.2,rfl⟩
  .simp at e
 unfold fl qd at hn|-;split at hn
 .simp at hn
 .rename_i c
  rw[VM c];split at hn
  .simp at hn
  .rename_i b
   rw[VM b];split at hn
   .rename_i d
    rw[VS d];exact key _ hn
   .rename_i d
    rw[VM d];split at hn
    .simp at hn
    .rename_i o
     rw[VM o];exact key _ hn
end
structure RunE(sc:Sce)(p q:List Int)(w cells:Int)(R:Spc×Int):Prop where
 nr:NrOk R.1
 gr:∃P I,Grw sc w R.1 P I
 len:(R.1.cells.length:Int)<=cells
 st:(R.2=4/\(fl R.1 p q).2.2=3)\/(R.2=(fl R.1 p q).2.2/\R.2≠3)
theorem Mq{cells:Int}(u:∀b a,(aV (bD sc b a)).nor.length<=4096)(D:cells<=2040):∀(f:Nat)(s:Spc),NrOk s->(∃P I,Grw sc w s P I)->(∀c∈s.cells,c.v.nor.length<=4096)->(s.cells.length:Int)<=cells->cells<s.cells.length+f->∃R,oB sc p q w cells f s=some R/\RunE sc p q w cells R:=by
 intro f
 induction f with
 |zero=>intro s _ _ _ m y;omega
 |succ f ih=>
  rintro s h ⟨P,I,g⟩ hn m y;simp only[oB];rw[VS (h.ok (by omega) hn)];by_cases d:(fl s p q).2.2=3
  .rw[VS d]
   by_cases o:cells-2<s.cells.length
   .rw[VS o]
    exact⟨_,rfl,h,⟨P,I,g⟩,m,.inl ⟨rfl,d⟩⟩
   .rw[VM o]
    obtain⟨k,A,l,n,B,x,C⟩:=IA h d;rw[A,C,V7,VS (by simp[l])];have g3:=(g.leaf k l n);have j:=xW (w:=w) (js:=sc.js) (ms:=sc.ms) (b:=ax s k) (by rw[<-g3.2.2];exact x)
    have z:bz (ax s k) (dc s k)=true:=by rw[g3.2.2,j.2];exact ve j.1
    have r:=DP (sc:=sc) (w:=w) (s:=s) k (dc s k);refine ih _ (h.more l n z) ⟨_,_,g.more h l n B x⟩ ?_ (by rw[r];omega) (by rw[r];omega);intro c i;unfold jC gx at i;rcases WH i with e|e
    .rcases WH e with e|e
     .rw[(lQ s k _).2.1]at e
      simp only[dB,V4,Wj,Wr,WR]at e;rcases e with e|e|e
      .rcases WH e with e|e
       .exact hn c e
       .subst e;simp[bm]
      all_goals subst e;simp[aD,bm]
     .subst e;exact u _ _
    .subst e;exact u _ _
  .rw[VM d]
   exact⟨_,rfl,h,⟨P,I,g⟩,m,.inr ⟨rfl,d⟩⟩
section
variable {sc:Sce} {w w':Int} {a b:Spc} {P P':Nat->List Bool} {I I':List (List Bool)}
theorem Mr(g:Grw sc w a P I)(hi:i<a.cells.length)(b:(av a i).low=-1):(av a i).v.kind=(v8 sc (P i)).2.kind:=by rw[(g.leaf i hi b).2.1]
end
section
variable {sc:Sce} {p q:List Int} {w w' cells cells':Int} {A B:Spc×Int}
theorem RunE.kind(h:RunE sc p q w cells A)(d:∀b a,(bD sc b a).kind=0\/(bD sc b a).kind=1\/(bD sc b a).kind=2):∀i,i<A.1.cells.length->(av A.1 i).low=-1->(av A.1 i).v.kind=0\/(av A.1 i).v.kind=1\/(av A.1 i).v.kind=2:=by
 intro i hi e;obtain⟨P,I,g⟩:=h.gr;rw[Mr g hi e]
 cases P i with
 |nil=>exact d _ _
 |cons c π=>exact d _ _
end
structure SubI(x y:Iv):Prop where
 vx:aw x.1 x.2=true
 vy:aw y.1 y.2=true
 lo:y.1<=x.1
 hi:x.2<=y.2
theorem SubI.all{y:Iv}(h:SubI x y):-2147483648<=y.1/\y.1<=x.1/\x.1<=x.2/\x.2<=y.2/\y.2<=2147483648:=by
 have a:=ew.1 h.vx;have b:=ew.1 h.vy;have c:=h.lo;have d:=h.hi;omega
theorem SubI.refl(h:aw x.1 x.2=true):SubI x x:=⟨h,h,Yp _,Yp _⟩
theorem SubI.trans{y z:Iv}(h:SubI x y)(g:SubI y z):SubI x z:=⟨h.vx,g.vy,Int.le_trans g.lo h.lo,Int.le_trans h.hi g.hi⟩
theorem SQ(a b c d:Int):fG [a,b,c,d]=a-b+c-d:=by simp[fG,oF,mS];omega
theorem Ot(a b c d e:Int):fG [a,b,c,d,e]=a-b+c-d+e:=by simp[fG,oF,mS];omega
theorem SR(a b c d e f:Int):fG [a,b,c,d,e,f]=a-b+c-d+e-f:=by simp[fG,oF,mS];omega
def qI(a b:List Iv):Prop:=a.length=b.length/\∀(k:Nat) x y,a[k]?=some x->b[k]?=some y->SubI x y
def Lx(v:Vc):Bool:=!(v.1==0&&v.2.1==0&&v.2.2==0)&&hC v.1 v.2.1 v.2.2 16384
theorem Bj(v:Vc):bh 265 (ao v) (B (Lx v)):=by
 have a:=rW v.1 v.2.1 v.2.2 16384 (by decide) (by decide);have hd:Lx v=(!(v.1==0&&v.2.1==0&&v.2.2==0)&&hC v.1 v.2.1 v.2.2 16384):=rfl;rw[hd];generalize hC v.1 v.2.1 v.2.2 16384=b at *;refine Dp func265 λC hP hN=>?_;exact Gy
 all_goals (try (cases b<;>simp_all))
theorem ug{v:Vc}:Lx v=aR v:=by
 unfold Lx aR nz;rw[Bool.and_comm];rfl
theorem FM(l:List Int)(n:Nat)(c:Vc):(FL l n c).length<=4:=by
 have a:=cY l n (k:=4) (by decide) (by decide)
 have:oS l n<4:=by unfold oS;omega
 unfold FL;rw[FK];omega
theorem Bk(l:List Int)(n:Nat):∀i,∀h∈(iV l n i).1,h.pts.length<=4
 |0,h,a=>by cases a
 |i+1,h,a=>by
  simp only[iV]at a;split at a
  .rcases V4.1 a with a|a
   .exact Bk l n i h a
   .rw[Wu]at a;subst a;exact FM _ _ _
  .exact Bk l n i h a
theorem FO(l:List Int)(xs:List Sh)(n:Nat)(b:∀h∈xs,h.pts.length<=4):∀i,∀h∈(kI l xs n i).1,h.pts.length<=4
 |0,h,a=>b h a
 |i+1,h,a=>by
  simp only[kI]at a;rcases V4.1 a with a|a
  .exact FO l xs n b i h a
  .rw[Wu]at a;subst a;exact FM _ _ _
theorem N3(l:List Int):ScL (tJ l):=by
 have c:=Fk l 0;have g:=cY l (rM l 0) (k:=3) (by decide) (by decide);have d:(sQ l 0).length=rK l 0:=A6 _ _ _ _
 have e:rK l 0<3:=by unfold rK;omega
 have hN:=cY l 0 (k:=3) (by decide) (by decide)
 have f:rN l 0<=3:=by unfold rN;omega
 have h5:=(D2 l (wL l 0) (rN l 0)).2;have h6:=(D3 l (mA l).1 (nn l (mA l).2) (wW l (mA l).2)).2;have b:=cY l (mA l).2 (k:=3) (by decide) (by decide)
 have h7:wW l (mA l).2<=3:=by unfold wW;omega
 have h8:(mA l).1.length<=3:=by unfold mA;omega
 refine⟨by show(nN l 0).length<=_;omega,by show(sQ l 0).length<=_;omega,by show(mB l).1.length<=_;unfold mB;omega,?_,?_⟩
 .show(if nx l (mB l).2 5=1 then[((-1:Int),nx l (nn l (mB l).2) (rN l 0))]else[]).length<=_
  split<;>simp
 .intro h a
  have:h.pts.length<=4:=FO l _ _ (Bk l _ _) _ h a;omega
theorem zn{SH:List Sh}{PR:List (Nat×Nat)}{PT:List (List aq)}{c:List Vc}(hf:PR.length<=576):∀f k d,(jz SH PR PT c f k d).ns.length<=576/\(jz SH PR PT c f k d).w.a.length<=8/\(jz SH PR PT c f k d).w.b.length<=8
 |0,k,d=>by
  simp only[jz];split<;>simp[dT,hf]
 |f+1,k,d=>by
  simp only[jz];split
  .split
   .exact zn hf f _ _
   .split
    .exact⟨by simp,wV _ _ _ _⟩
    .exact zn hf f _ _
  .split<;>simp[dT,hf]
theorem vt(s:Sce)(bx:List Iv)(c:List Vc):(bD s bx c).ns.length<=576/\(bD s bx c).w.a.length<=8/\(bD s bx c).w.b.length<=8:=by
 unfold bD;split
 .rename_i h;exact zn (GX h).few _ _ _
 .simp
theorem Ka{a b:List aq}{c d:Int}{h:List Vc}(hf:(kW a c b d h).2=true):jH (kW a c b d h).1 a c b d=true:=by
 unfold kW at hf|-;split
 .rename_i n e;have:=XK e;exact this
 .rename_i e;rw[e]at hf;cases hf
theorem MA{SH:List Sh}{PR:List (Nat×Nat)}{PT:List (List aq)}{w:Wit}:J8 SH PR PT w=true↔∃p,0<=w.pair/\PR[w.pair.toNat]?=some p/\sf SH PT w.a w.b p=true:=by
 unfold J8
 cases h:PR[w.pair.toNat]? with
 |none=>simp
 |some p=>simp
section
variable {SH:List Sh} {PR:List (Nat×Nat)} {PT:List (List aq)} {hs:List Vc}
theorem Br:∀f k a,k+f=PR.length->(∃(j:Nat)(p:Nat×Nat),PR[j]?=some p/\jz SH PR PT hs f k a=⟨2,[],⟨j,(qF SH PT p).2.w,(qF SH PT p).2.v⟩⟩/\sf SH PT (qF SH PT p).2.w (qF SH PT p).2.v p=true)\/(jz SH PR PT hs f k a=⟨1,dT SH PR PT hs,⟨0,[],[]⟩⟩/\a=true/\∀j p,k<=j->PR[j]?=some p->(qM SH PT hs j p).2=true)\/jz SH PR PT hs f k a=⟨0,dT SH PR PT hs,⟨0,[],[]⟩⟩
 |0,k,a,l=>by
  right
  cases a with
  |true=>
   left
   refine⟨rfl,rfl,λj p i hp=>?_⟩;have:=(th.1 hp).1;omega
  |false=>right;rfl
 |f+1,k,a,l=>by
  have hp:PR[k]?=some (PR[k]'(by omega)):=an _;simp only[jz,hp];split
  .rename_i hf
   rcases Br f (k+1) a (by omega)with h|⟨d,c,e⟩|h
   .exact .inl h
   .refine .inr (.inl ⟨d,c,λj p i b=>?_⟩)
    by_cases g:j=k
    .subst g;rw[hp]at b;cases b;exact hf
    .exact e j p (by omega) b
   .exact .inr (.inr h)
  .split
   .rename_i m
    exact .inl ⟨k,_,hp,rfl,m⟩
   .rcases Br f (k+1) false (by omega)with h|⟨d,c,e⟩|h
    .exact .inl h
    .cases c
    .exact .inr (.inr h)
theorem EX{p:Nat×Nat}(h:PR[k]?=some p):(dT SH PR PT hs)[k]?=some (qM SH PT hs k p).1:=by
 simp[dT,List.getElem?_mapIdx,h]
theorem yJ:(dT SH PR PT hs).length=PR.length:=by simp[dT]
theorem MB{p:Nat×Nat}(h:(qM SH PT hs k p).2=true):J7 SH PT (qM SH PT hs k p).1 p=true:=Ka h
theorem IP(h:∀j p,PR[j]?=some p->(qM SH PT hs j p).2=true):xZ SH PR PT (dT SH PR PT hs)=true:=by
 refine ID yJ λk n p a hn hp=>?_;rw[EX hp]at hn;cases hn;exact MB (h k p hp)
end
theorem MC(s:Sce)(bx:List Iv)(hs:List Vc):(∃w,bD s bx hs=⟨2,[],w⟩/\DZ s bx w=true)\/(∃ns,bD s bx hs=⟨1,ns,⟨0,[],[]⟩⟩/\DY s bx ns=true)\/(∃ns,bD s bx hs=⟨0,ns,⟨0,[],[]⟩⟩/\(ns.length=(dD s).length\/gt s bx=false)):=by
 unfold bD
 cases hp:gt s bx with
 |false=>exact .inr (.inr ⟨[],rfl,.inr rfl⟩)
 |true=>
  simp only[V8];rcases Br (SH:=s.shs) (PR:=dD s) (PT:=fO s bx) (hs:=hs) (dD s).length 0 true (by omega)with⟨j,p,a,c,b⟩|⟨a,_,b⟩|h
  .refine .inl ⟨_,c,?_⟩
   simp only[DZ,hp,We,MA];exact⟨p,by omega,by simpa using a,b⟩
  .refine .inr (.inl ⟨_,a,?_⟩)
   simp only[DY,hp,We];exact IP λj p hp=>b j p (by omega) hp
  .exact .inr (.inr ⟨_,h,.inl yJ⟩)
theorem tr(a:aT t=true)(h:i<t.cells.length):eX t (i:Int)=true/\dt t (i:Int)=aZ t (i:Int):=by
 have:eX t (i:Int)=true:=by simp[eX,a,h]
 exact⟨this,by simp[dt,this]⟩
theorem KQ(xs:List (Int×Int×Int))(e:xs.length<=9223372036854775807):aH 118 (aP xs) (aP xs) (B true):=by
 refine Dp func118 λC hP hN=>?_;refine GT trivial ?_;refine WP.loopN [] xs.length (λi st=>st.t 0=.pv (aP xs)/\st.t 1=.pv (aP xs)/\st.t 5=.pv (Z i)) (by simp) ?_;rintro i st hi ⟨b,c,d⟩;by_cases a:i<xs.length
 .have f:=aj a e
  exact GS (f8 b c d a f)
 .skip
  exact GS (f7 b c d a)
theorem MR(p:Int)(l r:List Int)(a:l.length<=9223372036854775807)(b:r.length<=9223372036854775807):aH 119 (Hh p l r) (Hh p l r) (B true):=by
 have c:=Nm l l a a;have d:=Nm r r b b;rw[Cm,Wv rfl]at c d;refine Dp func119 λC hP hN=>?_;exact GS trivial
theorem KR(v:Verd)(h1:v.nor.length<=9223372036854775807)(a:v.left.length<=9223372036854775807)(b:v.right.length<=9223372036854775807):aH 61 (nh v) (nh v) (B true):=by
 have c:=KQ v.nor h1;have d:=MR v.pair v.left v.right a b;refine Dp func61 λC hP hN=>?_;exact GS trivial
def TA(v:Verd):Prop:=v.nor.length<=9223372036854775807/\v.left.length<=9223372036854775807/\v.right.length<=9223372036854775807
theorem KS(t:Tr)(k:t.root.length<=9223372036854775807)(m:t.cells.length<=9223372036854775807)(n:∀c∈t.cells,TA c.v):aH 27 (eT t) (eT t) (B true):=by
 have l:=Ub t.root t.root k k;rw[Cm,Wv rfl]at l;refine Dp func27 λC hP hN=>?_;refine GT trivial ?_;refine WP.loopN [6,7] t.cells.length (λi st=>st.t 2=.ptr 2 0/\st.t 3=.ptr 3 0/\st.t 5=.pv (Z i)/\st.h 2=some (.box [.pv (iv t.root),.pv (.sl (t.cells.map bw))] true false)/\st.h 3=some (.box [.pv (iv t.root),.pv (.sl (t.cells.map bw))] true false)/\st.h 6=none/\st.h 7=none) (by simp) ?_;rintro i st hi ⟨g2,g3,g5,b,d,e,f⟩;by_cases a:i<t.cells.length
 .have o:=aj a m
  generalize j:t.cells[i]=c at *
  have g:t.cells[i]?=some c:=by rw[an a,j]
  obtain⟨v1,v2,v3⟩:=n c (Is g);have cv:=KR c.v v1 v2 v3;exact GS (s5 g2 g3 g5 b d e f a o (gA g j))
 .skip
  exact GS (so g2 g3 g5 b d e f a)
def Es(x y:AV)(fb:Option db):Option db:=match CB x y with
 |some (a,b)=>some (.pv (.val (.bool (!(a==b)))),[])
 |none=>fb
@[simp] theorem Pf(a b:Bool)(fb:Option db):Es (.pv (.val (.bool a))) (.pv (.val (.bool b))) fb=some (.pv (.val (.bool (!(a==b)))),[]):=rfl
@[simp] theorem Tn(x y:Operand):
 bL prog ⟨dst,.binOp .neq 4 x y 4,ty,pos,aft,g⟩ ρ=Es (ρ x) (ρ y) (jI prog ⟨dst,.binOp .neq 4 x y 4,ty,pos,aft,g⟩ ρ):=by
 unfold Es;split
 .rename_i a b h
  unfold CB at h;split at h
  .rename_i c d i j
   injection h with h;injection h with e f;subst e;subst f;refine eo (by simp[Op.operands,i,j,fu]) ?_;unfold execOp;simp only[(bT i).2,(bT j).2]
   have e:am prog (eqGuard .neq 4 x y (.bool c) (.bool d))=some ():=by kernel_rfl
   have f:am prog (binOp .neq 4 (.bool c) (.bool d))=some (.bool (!(c==d))):=by
    simp only[binOp,ai];rw[show am prog (Op.equal 4 (.bool c) (.bool d))=some (c==d) from Fl 9999 4 c d Tryz.underlying4];rfl
   simp only[ai,e,f,VX];rfl
  .cases h
 .rfl
def oM(n:Nat)(t:Tr):Prop:=∀c∈t.cells,tx n c.v
theorem Et(n:Nat):tx n bm:=by simp[tx,bm]
theorem OV(h:oM n t)(i:Nat):tx n (eD t i):=by
 unfold eD;split
 .rename_i c a;exact h c (Is a)
 .exact Et n
theorem KE(h:oM n t)(i j:Int):oM n (cL t i j):=by
 unfold cL;split
 .intro c a
  simp only[fV,V4,Wj,Wr,WR]at a;rcases a with a|rfl|rfl
  .rcases WH a with b|rfl
   .exact h c b
   .exact Et n
  all_goals exact OV h _
 .exact h
theorem IW(h:oM n t)(i:Int){v:Verd}(d:tx n v):oM n (bX t i v):=by
 unfold bX;split
 .intro c b
  rcases WH b with a|rfl
  .exact h c a
  .exact d
 .exact h
theorem IX(s:aT t=true){k:Nat}(hs:dA t (k:Int) j=true):
 ah (cL t k j)=ah t++[aW (aZ t (k:Int)) j,aX (aZ t (k:Int)) j]/\(cL t k j).cells.length=t.cells.length+2/\∃v,cL t (k:Int) j=fV t k j v:=by
 have l:=hs;simp only[dA,An,L4,V7]at hs;obtain⟨⟨⟨⟨⟨u,o⟩,d⟩,p⟩,h5⟩,h6⟩:=hs;obtain⟨L,hL⟩:=Wo.1 s;obtain⟨c,q,r,n⟩:=xl p
 have i:k<t.cells.length:=by omega
 obtain⟨b,a⟩:=(qo hL).pre k i
 have f:(ah t)[k]?=some b:=by
  have:=j5 hL;rw[this]at a;simpa using a
 have g:aZ t (k:Int)=b:=zF hL a;rw[f]at h6;have m:=yP hL q r h5 a h6
 have e:cL t (k:Int) j=fV t k j c.v:=by simp[cL,l,n]
 refine⟨?_,?_,c.v,e⟩
 .rw[e,g]
  have:=j5 m;rw[j5 hL]at this
  have o:((ah t).map some++[some (aW b j),some (aX b j)])=(ah t++[aW b j,aX b j]).map some:=by simp
  rw[o]at this;have d:=Xq (List.map (λx:Option Bx=>x.getD [])) this;simp[Function.comp_def]at d;exact d.symm
 .rw[e,mr]
theorem tu(s:Sce)(b:List Iv)(hs:List Vc):eU (aV (bD s b hs))=true:=by
 rcases MC s b hs with⟨w,a,_⟩|⟨ns,a,_⟩|⟨ns,a,_⟩<;>rw[a]<;>simp[aV,eU,kC]
theorem Cg{b:Bx}(h:bz b j=true):qI (aW b j) b/\qI (aX b j) b:=by
 obtain⟨x,l,d,n,g,i⟩:=zC h;have f:=(lW.1 h).2.1
 have key:∀z:Int×Int,SubI z x->qI (b.set j.toNat z) b:=λz m=>⟨by simp,λk u v c a=>by
  rw[VV]at c;by_cases e:j.toNat=k
  .subst e
   rw[VS rfl]at c;split at c
   .injection c with c;subst c
    rw[l]at a;injection a with a;subst a;exact m
   .cases c
  .rw[VM e,a]at c;injection c with c;subst c
   exact SubI.refl (fq.1 f _ (Is a))⟩
 have o:=fc.1 d;rw[g,i];exact⟨key _ ⟨fc.2 (by omega),d,by simp only;omega,by simp only;omega⟩,key _ ⟨fc.2 (by omega),d,by simp only;omega,by simp only;omega⟩⟩
theorem I4{b:Bx}(a:dy b=true):im b=⟨b,[aD bm]⟩:=by rw[im,VS a]
theorem Fx{a b c:List Iv}(h:qI a b)(g:qI b c):qI a c:=⟨h.1.trans g.1,λk x z d i=>by
 obtain⟨f,_⟩:=th.1 d;have e:b[k]?=some (b[k]'(by rw[<-h.1];exact f)):=an _
 exact(h.2 k _ _ d e).trans (g.2 k _ _ e i)⟩
theorem Fy{b:List Iv}(d:bj vI b=true):qI b b:=⟨rfl,λk x y c a=>by
 rw[c]at a;injection a with a;subst a
 exact SubI.refl (fq.1 d _ (Is c))⟩
theorem Iu(o:aT t=true)(hi:i<t.cells.length):qI (aZ t (i:Int)) t.root:=by
 have g:=(eg.1 (je o)).2.2.2.2
 have key:∀(k:Nat)(L:OL),(∀(j:Nat) b,L[j]?=some (some b)->qI b t.root)->∀c d,gz t.cells.length k c L=some d->L.length=t.cells.length->(∀(j:Nat) b,d[j]?=some (some b)->qI b t.root):=by
  intro k L hL c d hs q j b a;obtain⟨b0,e,⟨_,_,rfl⟩|⟨_,f,m,_,_,rfl⟩⟩:=jc hs
  .exact hL j b a
  .have l:=hL k b0 e
   rw[zD q f]at a;split at a
   .injection a with a;injection a with a;subst a
    exact Fx (Cg m).2 l
   .split at a
    .injection a with a;injection a with a;subst a
     exact Fx (Cg m).1 l
    .exact hL j b a
 obtain⟨L,hL⟩:=Wo.1 o
 have hP:=kJ (P:=λk M=>BOk t k M/\∀(j:Nat) b,M[j]?=some (some b)->qI b t.root) hL ⟨vJ (lq hL),λj b a=>by
  cases j with
  |zero=>simp[j0]at a;subst a;exact Fy g
  |succ j=>simp[j0,Wn]at a⟩ (λk c M p _ hp n=>⟨vK hp.1 n,key k M hp.2 c p n hp.1.len⟩)
 obtain⟨b,a⟩:=hP.1.pre i hi;rw[zF hL a];exact hP.2 i b a
theorem Fz{b:Bx}(d:aO js ms=0)(h:qI b (af js ms)):gU js ms b=true:=by
 have f:af js ms=js.map gX:=by simp[af,d]
 rw[f]at h;obtain⟨c,e⟩:=h;rw[Wp]at c;simp only[gU,d,c,XP,We];rw[ny];intro i hi a;have:=e i b[i] (gX js[i]) (an a) (by rw[VN,an hi];rfl);simp only[dS,An,L4];exact⟨⟨⟨this.vx,this.vy⟩,this.lo⟩,this.hi⟩
theorem EU(h:aO js ms=0):∀(i:Nat) j,js[i]?=some j->cZ js i j=0:=by
 unfold aO at h;split at h
 .cases h
 .split at h
  .rename_i c;exact absurd h c
  .rename_i k
   intro i j b
   have a:jT js=0:=by simpa using k
   rw[qc]at a;by_cases d:cZ js i j=0
   .exact d
   .exfalso
    cases hf:(js.mapIdx (cZ js)).find? (λe=>e !=0)with
    |none=>
     rw[W7]at hf
     have l:cZ js i j∈js.mapIdx (cZ js):=by
      rw[List.mem_mapIdx];obtain⟨f,g⟩:=th.1 b;exact⟨i,f,by rw[g]⟩
     exact hf _ l (by simpa using d)
    |some e=>
     rw[hf]at a;have:=XK hf;simp only at a;rw[a]at this;simp at this
theorem JY{j:J}(h:cZ js i j=0):-4194304<=j.lo/\j.lo<=j.hi/\j.hi<=4194304:=by
 have:=tG j.kind;unfold cZ at h
 repeat' split at h
 all_goals (try (cases h;done))
 all_goals omega
theorem ue(h:aO js ms=0):dy (af js ms)=true:=by
 have c:af js ms=js.map gX:=by simp[af,h]
 have a:=qY h;rw[c];simp only[dy,Wp,An,L4];refine⟨⟨by omega,by omega⟩,fq.2 λx d=>?_⟩;obtain⟨j,b,rfl⟩:=Wf.1 d;obtain⟨i,hi⟩:=Wt b;have:=JY (EU h i j hi);exact fc.2 ⟨by simp only[gX];omega,by simp only[gX];omega,by simp only[gX];omega⟩
theorem kg{s:Sce}(h:aY s=0):aO s.js s.ms=0:=Decidable.byContradiction λhn=>by
 unfold aY at h;rw[VS hn]at h;exact hn h
theorem rd(d:aT t=true)(b:ej t k=true)(c:k<t.cells.length)(a:(eD t k).kind=0){V:Verd}(hf:eU V=true):cO t (k:Int) V=true:=by
 unfold cO;rw[d,V7,b,a,hf,Wv (by omega:(0:Int)<=(k:Int)),Wv (by omega:(k:Int)<(t.cells.length:Int))];rfl
structure TL(t:Tr):Prop where
 c:t.cells.length<=1000000
 r:t.root.length<=1000000
 v:∀c∈t.cells,c.v.nor.length<=9223372036854775807
theorem zk(h:TL t)(a:t.cells.length<=999990)(i j:Int):TL (cL t i j):=by
 unfold cL;split
 .refine⟨by rw[mr];omega,h.r,λc a=>?_⟩
  simp only[fV,V4]at a
  have b:(eD t i.toNat).nor.length<=9223372036854775807:=by
   unfold eD;split
   .rename_i c a;exact h.v c (Is a)
   .simp[bm]
  rcases a with a|a
  .rcases WH a with a|rfl
   .exact h.v c a
   .simp[bm]
  .simp only[Wj,Wr,WR]at a
   rcases a with rfl|rfl<;>exact b
 .exact h
theorem Iw(h:TL t)(i:Int){v:Verd}(b:v.nor.length<=9223372036854775807):TL (bX t i v):=by
 unfold bX;split
 .refine⟨by simpa[dl]using h.c,h.r,λc a=>?_⟩
  simp only[dl]at a;rcases WH a with a|rfl
  .exact h.v c a
  .exact b
 .exact h
theorem Iy{s:Sce}(h:TL t)(i:Int):TL (gJ s t i):=by
 unfold gJ;split
 .refine Iw h i ?_
  have:=(vt s (dt t i) (eD t i.toNat).nor).1;simp only[kf,aV];omega
 .exact h
theorem uf(s:Sce)(t:Tr)(i:Int):(gJ s t i).cells.length=t.cells.length/\(gJ s t i).root=t.root:=by
 unfold gJ bX;split
 .split<;>simp[dl]
 .simp
theorem FD(w:Int)(i:aY sc=0):NrOk (kQ sc w):=by
 have f:=ue (kg i);simp only[dy,An,L4]at f;refine⟨rfl,rfl,rfl,rfl,?_,λp=>?_,λp k=>?_⟩
 .intro b d
  simp only[kQ,Wu]at d;subst d;exact⟨f.2,by omega⟩
 .unfold ab kQ
  cases p<;>simp
 .have e:ab (kQ sc w) p=[]:=by unfold ab kQ;cases p<;>simp
  rw[e];have g:(kQ sc w).cells.length=1:=rfl;rw[g];constructor
  .intro h;cases h
  .rintro⟨a,b,c,_⟩;omega
theorem FE(sc:Sce)(w:Int):Grw sc w (kQ sc w) (λ_=>[]) []:=by
 have a:(kQ sc w).cells.length=1:=rfl;refine⟨λi hi _=>?_,λπ=>?_,λi _ _ π hp=>?_,λπ hp=>by cases hp⟩
 .have:i=0:=by omega
  subst this;exact⟨rfl,rfl,rfl⟩
 .exact .inl ⟨0,by omega,rfl,List.nil_suffix⟩
 .exact .inl (by simpa using hp)
def Rj(sc:Sce)(p q:List Int):Prop:=aY sc=0/\bW sc.js sc.ms p=true/\bW sc.js sc.ms q=true
theorem Px(sc:Sce)(p q:List Int)(w cells:Int)(hs:ScL sc)(j:p.length<=9223372036854775807)(k:q.length<=9223372036854775807)(h:¬(aY sc=0/\bW sc.js sc.ms p=true/\bW sc.js sc.ms q=true)):aQ prog 13 [.pv (eK sc),.pv (zs p),.pv (zs q),.pv (Z w),.pv (Z cells)] [] [] (.pv (.tup [.agg [.sl [],.sl []],Z 0])):=by
 have c:=Eg sc hs;have g:=Fh sc.js sc.ms p hs.js hs.ms;have i:=Fh sc.js sc.ms q hs.js hs.ms;generalize aY sc=e at *;generalize bW sc.js sc.ms p=a at *;generalize bW sc.js sc.ms q=b at *;by_cases d:e=0
 .subst d
  cases a with
  |false=>
   refine Dp func13 λC hP hN=>?_
   with_reducible repeat' (first|refine Sp.h ?_|((first|refine Wd ?_|refine Ss.h ?_|refine Sc.h (c) ?_|refine Sc.h (g) ?_|(refine Sb.h ?_ ?_ ?_<;>(try intro hgd)<;>try exact Xy))<;>simp -implicitDefEqProofs (maxSteps:=2000000) [hP,hN]<;>try refine Ya ?_)|refine X2 ?_ ?_|(refine Xd ?_ ?_<;>intro hcd<;>try exact Xx))
  |true=>
  cases b with
  |false=>
   refine Dp func13 λC hP hN=>?_
   with_reducible repeat' (first|refine Sp.h ?_|((first|refine Wd ?_|refine Ss.h ?_|refine Sc.h (c) ?_|refine Sc.h (g) ?_|refine Sc.h (i) ?_|(refine Sb.h ?_ ?_ ?_<;>(try intro hgd)<;>try exact Xy))<;>simp -implicitDefEqProofs (maxSteps:=2000000) [hP,hN]<;>try refine Ya ?_)|refine X2 ?_ ?_|(refine Xd ?_ ?_<;>intro hcd<;>try exact Xx))
  |true=>exact absurd ⟨rfl,rfl,rfl⟩ h
 .have f:(e==0)=false:=by simp[d]
  refine Dp func13 λC hP hN=>?_
  with_reducible repeat' (first|refine Sp.h ?_|((first|refine Wd ?_|refine Ss.h ?_|refine Sc.h (c) ?_|(refine Sb.h ?_ ?_ ?_<;>(try intro hgd)<;>try exact Xy))<;>simp -implicitDefEqProofs (maxSteps:=2000000) [hP,hN,f,d]<;>try refine Ya ?_)|refine X2 ?_ ?_|(refine Xd ?_ ?_<;>intro hcd<;>try exact Xx))
theorem Py(sc:Sce)(p q:List Int)(w cells:Int)(hs:ScL sc)(x:1<=w)(o:1<=cells)(h5:cells<=2040)(l:p.length<=9223372036854775807)(m:q.length<=9223372036854775807)(h:Rj sc p q):∃R:Spc×Int,oB sc p q w cells 2041 (kQ sc w)=some R/\RunE sc p q w cells R/\bj vI (af sc.js sc.ms)=true/\aQ prog 13 [.pv (eK sc),.pv (zs p),.pv (zs q),.pv (Z w),.pv (Z cells)] [] [] (.pv (.tup [.agg [iv R.1.root,.sl (R.1.cells.map bw)],Z R.2])):=by
 obtain⟨j,u,v⟩:=h;have n:=ue (kg j);have d:=n;simp only[dy,An,L4]at d
 have s:∀b a,(aV (bD sc b a)).nor.length<=4096:=λb a=>by have:=(vt sc b a).1;simp only[aV];omega
 have e:aT (mN (af sc.js sc.ms) bm)=true:=by have:=qq (af sc.js sc.ms);rw[n]at this;exact this
 have z:=vt sc (af sc.js sc.ms) [];obtain⟨R,r,y⟩:=Mq (sc:=sc) (p:=p) (q:=q) (w:=w) s h5 2041 (kQ sc w) (FD w j) ⟨_,_,FE sc w⟩ (λc f=>by simp only[kQ,Wu]at f;subst f;exact s _ _) (by show(1:Int)<=cells;exact o) (by show cells<(1:Int)+(2041:Nat);omega);have i:cO (mN (af sc.js sc.ms) bm) 0 (aV (bD sc (af sc.js sc.ms) []))=true:=rd (k:=0) e rfl (by simp) rfl (tu _ _ _);have g:=(oO e 0 (aV (bD sc (af sc.js sc.ms) []))).1;rw[bX,VS i]at g;refine⟨R,r,y,d.2,Qh sc p q w cells 2041 R hs j u v x o (by omega) l m n ?_ e i ⟨by simp only[aV];omega,by simp only[aV];omega,by simp only[aV];omega⟩ ⟨by show(af sc.js sc.ms).length<=_;omega,by simp,λc f=>by simp at f;subst f;simp[tx,bm,aD]⟩ (by simpa[dl]using g) (by omega) r⟩;exact Fz (kg j) (Fy d.2)
theorem Bc(c:aT t=true):(ja t op p q sort).length<=t.cells.length/\∀k∈ja t op p q sort,k<t.cells.length/\oP t.cells op sort k=true:=by
 unfold ja
 cases h:dq t.cells.length (oP t.cells op sort) (aG (ah t) q) (aG (ah t) p) (fS (ah t))with
 |true=>
  obtain⟨b1,b2,b3,_⟩:=ro (I5 c) h;refine⟨b2,λk b=>?_⟩;obtain⟨j,a⟩:=Wt b;obtain⟨d,e,_⟩:=b3 j k a;exact⟨d,e⟩
 |false=>simp[eM,h]
theorem Io{L:List PV}{z v:PV}(hL:L.length=n)(hi:i<n)(b:L[i]?=some v):(L.take i++List.replicate (n-i) z).set i v=L.take (i+1)++List.replicate (n-(i+1)) z:=by
 have a:(L.take i).length=i:=by rw[WD];omega
 rw[Xn _ _ (by omega),a,XU,show n-i=(n-(i+1))+1 by omega,List.replicate_succ,List.set_cons_zero,Yb,b];simp
theorem JW{L:List PV}{z:PV}(hL:L.length=n)(hi:i<=n):(L.take i++List.replicate (n-i) z).length=n:=by
 rw[V9,WD,List.length_replicate];omega
theorem DI{b:Bx}(h:fW js ms b=-1):gy js ms w b=false:=by simp[gy,h]
theorem Ip{b:Bx}{j:Nat}{x:Int×Int}(h:fW js ms b=(j:Int))(c:b[j]?=some x):gy js ms w b=decide (w<x.2-x.1):=by
 have a:(0:Int)<=(j:Int):=by omega
 unfold gy;rw[h,V7,c,Wv a,We]
theorem BX(a:aT t=true):(iN js ms w t).length=t.cells.length:=by rw[iN,Wp,fA a]
theorem Mp(js:List J)(ms:List Ms)(t:Tr)(w:Int)(L:js.length<=9223372036854775807)(M:ms.length<=9223372036854775807)(U:t.cells.length<=9223372036854775807):mW 53 (gB js ms) (eT t) (Z w) (.tup [if aT t then Hl t.cells (ah t) (iN js ms w t)else .agg [.sl [],.sl [],.sl []],B (aT t)]):=by
 have R:=LJ t U
 cases D:aT t with
 |false=>
  rw[D]at R;refine Dp func53 λC hP hN=>?_;exact Gy
 |true=>
  rw[D]at R;have f:=fA D;have X:=eg.1 (je D);have A:=BX (js:=js) (ms:=ms) (w:=w) D
  have O:∀i b,(ah t)[i]?=some b->(iN js ms w t)[i]?=some (gy js ms w b):=λi b h=>by rw[iN,VN,h];rfl
  generalize T:iN js ms w t=OL at *;simp only[V8];generalize hn:t.cells.length=n at *
  have q:(OL.map B).length=n:=by rw[Wp,A]
  refine Dp func53 λC hP hN=>?_;refine GT (f8 f hn (show(1:Int)*n<=281474976710656 by omega) (show(n:Int)<=281474976710656 by omega) (show(n:Int)<=9223372036854775807 by omega)) ?_;refine WP.loopN [] n (λi st=>st.t 2=.pv (Z w)/\st.t 3=.ptr 3 0/\st.t 6=.ptr 6 0/\st.t 8=.pv (.sl ((ah t).map iv))/\st.t 10=.ptr 10 0/\st.t 11=.pv (Z i)/\st.h 3=some (.box [.pv (.sl (js.map bu)),.pv (.sl (ms.map cE))] true false)/\st.h 6=some (.box [.pv (.val (.slice none 0 0)),.pv (.val (.slice none 0 0)),.pv (.val (.slice none 0 0))] true false)/\st.h 10=some (.box [.pv (.sl (t.cells.map bw)),.pv (.sl ((ah t).map iv)),.arr 26 n] true false)/\st.h 26=some (.row 4 1 ((OL.map B).take i++List.replicate (n-i) (B false)) 0)) (by simp) ?_;rintro i st hi ⟨g2,g3,G,H,k,l,m,o,c,a⟩;have u:=JW (z:=B false) q hi;by_cases d:i<n
  .have S:=aj d (by omega)
   have p:i<(ah t).length:=by omega
   have e:(ah t)[i]?=some (ah t)[i]:=an p;have r:=kK e;generalize s:(ah t)[i]=b at *;have N:=O i b e;have E:=Nd js ms b L M (by omega)
   have I:(OL.map B)[i]?=some (B (gy js ms w b)):=by rw[VN,N];rfl
   have g:=Io (z:=B false) q d I;rcases u9 js ms b with v|⟨j,v,y,_,_,x,F,W⟩
   .rw[DI v]at g
    rw[v]at E
    with_reducible repeat' (first|refine Sp.h ?_|((first|refine Wd ?_|refine Ss.h ?_|refine Sc.h (E) ?_|(refine Sb.h ?_ ?_ ?_<;>(try intro hgd)<;>try exact Xy))<;>simp -implicitDefEqProofs (maxSteps:=2000000) [hP,hN,g2,g3,G,H,k,l,m,o,c,a,d,S,p,f,e,s,u,g]<;>try refine Ya ?_)|refine X2 ?_ ?_|(refine Xd ?_ ?_<;>intro hcd<;>try exact Xx))
   .rw[Ip v F]at g
    rw[v]at E;have Q:∀h,b[j]'h=x:=λh=>bP F h;have V:=fc.1 (fq.1 r.2 _ (Is F));have P:i64.wrap (x.2-x.1)=x.2-x.1:=aa
    with_reducible repeat' (first|refine Sp.h ?_|((first|refine Wd ?_|refine Ss.h ?_|refine Sc.h (E) ?_|(refine Sb.h ?_ ?_ ?_<;>(try intro hgd)<;>try exact Xy))<;>simp -implicitDefEqProofs (maxSteps:=2000000) [hP,hN,g2,g3,G,H,k,l,m,o,c,a,d,S,p,f,e,s,u,y,F,Q,P,g]<;>try refine Ya ?_)|refine X2 ?_ ?_|(refine Xd ?_ ?_<;>intro hcd<;>try exact Xx))
  .have K:i=n:=by omega
   subst K;rw[Wg (by omega),XU,List.replicate_zero,X1]at a
   with_reducible repeat' (first|refine Sp.h ?_|((first|refine Wd ?_|refine Ss.h ?_|(refine Sb.h ?_ ?_ ?_<;>(try intro hgd)<;>try exact Xy))<;>simp -implicitDefEqProofs (maxSteps:=2000000) [hP,hN,g2,g3,G,H,k,l,m,o,c,a,d,f,A]<;>try refine Ya ?_)|refine X2 ?_ ?_|(refine Xd ?_ ?_<;>intro hcd<;>try exact Xx))
theorem GI(t:Tr)(op:List Bool)(p q:List Int)(sort:Int)(a:aT t=true)(e:op.length=t.cells.length)(hp:p.length<=9223372036854775807)(hq:q.length<=9223372036854775807):aQ prog 55 [.pv (Hl t.cells (ah t) op),.pv (zs p),.pv (zs q),.pv (Z sort)] [] [] (.pv (.tup [.sl ((ja t op p q sort).map zN),B (ly t op p q sort)])):=by
 have f:=eg.1 (je a)
 exact Ve t.cells (ah t) op p q sort (by omega) (fA a) e (λb c=>by
  obtain⟨j,d⟩:=Wt c;have:=(kK d).1
  omega) hp hq (I5 a)
def BY(t:Tr)(op:List Bool)(c:List Nat)(i:Nat):Prop:=∀j x,j<i->c[j]?=some x->r5 t op x=false
theorem BZ{c:List Nat}(h:BY t op c c.length):pf js ms t op c=(-1,-1,0):=by
 have:c.find? (r5 t op)=none:=B4 λj x a b=>h j x a b;rw[pf,this]
theorem B0{c:List Nat}(h:BY t op c i)(a:c[i]?=some k)(hp:r5 t op k=true):pf js ms t op c=((k:Int),fW js ms (aZ t (k:Int)),3):=by
 have:c.find? (r5 t op)=some k:=tf a hp h;rw[pf,this]
theorem Uy(js:List J)(ms:List Ms)(t:Tr)(p q:List Int)(w:Int)(D:js.length<=9223372036854775807)(F:ms.length<=9223372036854775807)(hl:t.cells.length<=9223372036854775807)(hr:t.root.length<=9223372036854775807)(z:p.length<=9223372036854775807)(A:q.length<=9223372036854775807):uw 60 (gB js ms) (eT t) (zs p) (zs q) (Z w) (.tup [Z (jw js ms t p q w).1,Z (jw js ms t p q w).2.1,Z (jw js ms t p q w).2.2]):=by
 have cr:=sR js ms D F;have V:=Lh t.root p hr z;have W:=Lh t.root q hr A;rw[Fm]at V W;have co:=Mp js ms t w D F hl
 have hN:jw js ms t p q w=if xV js ms t p q w&&aT t then DO js ms t (iN js ms w t) p q else(-1,-1,0):=rfl
 have hP:xV js ms t p q w=(decide (aO js ms=0)&&decide (t.root.length=js.length)&&decide (1<=w)&&lO t.root p&&lO t.root q):=rfl;by_cases T:aO js ms=0
 case neg=>
  rw[WW T,Ww,Ww,Ww,Ww]at hP;rw[hP,Ww,VM (by simp)]at hN
  have ar:(aO js ms !=0)=true:=by simp[T]
  rw[hN];refine Dp func60 λC hP hN=>?_;exact Gy
 have ar:(aO js ms !=0)=false:=by simp[T]
 rw[Wv T,We]at hP;by_cases h1:t.root.length=js.length
 case neg=>
  rw[WW h1,Ww,Ww,Ww]at hP;rw[hP,Ww,VM (by simp)]at hN
  have a1:((t.root.length:Int)!=(js.length:Int))=true:=by simp;omega
  rw[hN];refine Dp func60 λC hP hN=>?_;exact Gy
 have a1:((t.root.length:Int)!=(js.length:Int))=false:=by simp[h1]
 rw[Wv h1,We]at hP;by_cases h2:1<=w
 case neg=>
  rw[WW h2,Ww,Ww]at hP;rw[hP,Ww,VM (by simp)]at hN
  have a2:w<1:=by omega
  rw[hN];refine Dp func60 λC hP hN=>?_;exact Gy
 have a2:¬w<1:=by omega
 rw[Wv h2,We]at hP
 cases U:lO t.root p with
 |false=>
  rw[U,Ww]at hP;rw[hP,Ww,VM (by simp)]at hN;rw[U]at V;rw[hN];refine Dp func60 λC hP hN=>?_;exact Gy
 |true=>
 rw[U,We]at hP;rw[U]at V
 cases h4:lO t.root q with
 |false=>
  rw[h4]at hP W;rw[hP,Ww,VM (by simp)]at hN;rw[hN];refine Dp func60 λC hP hN=>?_;exact Gy
 |true=>
 rw[h4]at hP W;rw[hP,We]at hN
 cases f:aT t with
 |false=>
  rw[f,VM (by simp)]at hN;rw[f,VM (by simp)]at co;rw[hN];refine Dp func60 λC hP hN=>?_;exact Gy
 |true=>
 rw[f,VS rfl]at hN co;rw[hN];clear hN hP;have hz:=eg.1 (je f);have bc:=fA f;have G:=BX (js:=js) (ms:=ms) (w:=w) f;generalize iN js ms w t=OL at *;have b0:=GI t OL p q 0 f G z A;have b1:=GI t OL p q 1 f G z A;have b2:=GI t OL p q 2 f G z A;have b3:=GI t OL p q 3 f G z A
 have hG:DO js ms t OL p q=if ly t OL p q 0=true then(-1,-1,1)else if ly t OL p q 3=false then(-1,-1,2)else if ly t OL p q 1=true then pf js ms t OL (ja t OL p q 1)else if ly t OL p q 2=true then(-1,-1,5)else pf js ms t OL (ja t OL p q 3):=rfl
 rw[hG];clear hG;have m1:=Bc (op:=OL) (p:=p) (q:=q) (sort:=1) f;have m3:=Bc (op:=OL) (p:=p) (q:=q) (sort:=3) f
 cases e0:ly t OL p q 0 with
 |true=>
  rw[e0]at b0;simp only[V8];generalize ja t OL p q 0=S at *;refine Dp func60 λC hP hN=>?_;exact Gy
 |false=>
 rw[e0]at b0;simp only[VP,VZ]
 cases e3:ly t OL p q 3 with
 |false=>
  rw[e3]at b3;simp only[V8];generalize ja t OL p q 0=S at *;generalize ja t OL p q 3=n at *;refine Dp func60 λC hP hN=>?_;exact Gy
 |true=>
 rw[e3]at b3;simp only[Bool.true_eq_false,VZ]
 cases e1:ly t OL p q 1 with
 |true=>
  rw[e1]at b1;simp only[V8];obtain⟨P,y⟩:=m1;generalize ja t OL p q 0=S at *;generalize ja t OL p q 1=r at *;generalize ja t OL p q 3=n at *;refine Dp func60 λC hP hN=>?_;refine Gz ?_;refine WP.loopN [] (r).length (λi st=>st.t 5=.ptr 5 0/\st.h 5=some (.box [.pv (.sl (js.map bu)),.pv (.sl (ms.map cE))] true false)/\st.t 13=.ptr 13 0/\st.h 13=some (.box [.pv (.sl (t.cells.map bw)),.pv (.sl ((ah t).map iv)),.pv (.sl (OL.map B))] true false)/\st.t 17=.pv (.sl ((r).map zN))/\st.t 23=.pv (Z i)/\BY t OL (r) i) ?_ ?_
  .simp
   exact λj x O=>by omega
  rintro i st hi ⟨g5,a5,X,M,Y,ad,d⟩;by_cases u:i<(r).length
  .have Q:(i:Int)<((r).length:Int):=by omega
   have bb:=aj u (by omega);generalize K:(r)[i]=k at *
   have E:(r)[i]?=some k:=by rw[an u,K]
   obtain⟨g,_⟩:=y k (Is E);obtain⟨c,N⟩:∃c,t.cells[k]?=some c:=⟨_,an g⟩;have a7:∀h,t.cells[k]'h=c:=λh=>bP N h
   have L:k<OL.length:=by omega
   obtain⟨o,R⟩:∃o,OL[k]?=some o:=⟨_,an L⟩;have ba:∀h,OL[k]'h=o:=λh=>bP R h
   have a8:k<(ah t).length:=by omega
   have H:(ah t)[k]?=some (aZ t (k:Int)):=(iT f (c:=(k:Int)) g).1;have a6:∀h,(ah t)[k]'h=aZ t (k:Int):=λh=>bP H h;have cw:=Nd js ms (aZ t (k:Int)) D F (by have:=(iT f (c:=(k:Int)) g).2.1;omega)
   have l:r5 t OL k=(decide (c.v.kind=0)&&o):=by simp[r5,eD,N,R]
   by_cases b:c.v.kind=0
   .have s:(c.v.kind==0)=true:=by simp[b]
    cases o with
    |true=>
     have:=B0 (js:=js) (ms:=ms) d E (by rw[l,b];rfl);rw[this];exact Gy
    |false=>
     have m:BY t OL (r) (i+1):=λj x O a=>by
      by_cases e:j=i
      .subst e;rw[E]at a;injection a with a;subst a;rw[l,Xi]
      .exact d j x (by omega) a
     exact Gy
     all_goals exact m
   .have s:(c.v.kind==0)=false:=by simp[b]
    have m:BY t OL (r) (i+1):=λj x O a=>by
     by_cases e:j=i
     .subst e;rw[E]at a;injection a with a;subst a;rw[l,WW b,Ww]
     .exact d j x (by omega) a
    exact Gy
    all_goals exact m
  .have I:i=(r).length:=by omega
   subst I;rw[BZ d];exact Gy
 |false=>
 rw[e1]at b1;simp only[VP,VZ]
 cases e2:ly t OL p q 2 with
 |true=>
  rw[e2]at b2;simp only[V8];generalize ja t OL p q 0=S at *;generalize ja t OL p q 1=r at *;generalize ja t OL p q 2=C2 at *;generalize ja t OL p q 3=n at *;refine Dp func60 λC hP hN=>?_;exact Gy
 |false=>
  rw[e2]at b2;simp only[VP,VZ];obtain⟨P,y⟩:=m3;generalize ja t OL p q 0=S at *;generalize ja t OL p q 1=r at *;generalize ja t OL p q 2=C2 at *;generalize ja t OL p q 3=n at *;refine Dp func60 λC hP hN=>?_;refine Gz ?_;refine WP.loopN [] (n).length (λi st=>st.t 5=.ptr 5 0/\st.h 5=some (.box [.pv (.sl (js.map bu)),.pv (.sl (ms.map cE))] true false)/\st.t 13=.ptr 13 0/\st.h 13=some (.box [.pv (.sl (t.cells.map bw)),.pv (.sl ((ah t).map iv)),.pv (.sl (OL.map B))] true false)/\st.t 17=.pv (.sl ((n).map zN))/\st.t 23=.pv (Z i)/\BY t OL (n) i) ?_ ?_
  .simp
   exact λj x O=>by omega
  rintro i st hi ⟨g5,a5,X,M,Y,ad,d⟩;by_cases u:i<(n).length
  .have Q:(i:Int)<((n).length:Int):=by omega
   have bb:=aj u (by omega);generalize K:(n)[i]=k at *
   have E:(n)[i]?=some k:=by rw[an u,K]
   obtain⟨g,_⟩:=y k (Is E);obtain⟨c,N⟩:∃c,t.cells[k]?=some c:=⟨_,an g⟩;have a7:∀h,t.cells[k]'h=c:=λh=>bP N h
   have L:k<OL.length:=by omega
   obtain⟨o,R⟩:∃o,OL[k]?=some o:=⟨_,an L⟩;have ba:∀h,OL[k]'h=o:=λh=>bP R h
   have a8:k<(ah t).length:=by omega
   have H:(ah t)[k]?=some (aZ t (k:Int)):=(iT f (c:=(k:Int)) g).1;have a6:∀h,(ah t)[k]'h=aZ t (k:Int):=λh=>bP H h;have cw:=Nd js ms (aZ t (k:Int)) D F (by have:=(iT f (c:=(k:Int)) g).2.1;omega)
   have l:r5 t OL k=(decide (c.v.kind=0)&&o):=by simp[r5,eD,N,R]
   by_cases b:c.v.kind=0
   .have s:(c.v.kind==0)=true:=by simp[b]
    cases o with
    |true=>
     have:=B0 (js:=js) (ms:=ms) d E (by rw[l,b];rfl);rw[this];exact Gy
    |false=>
     have m:BY t OL (n) (i+1):=λj x O a=>by
      by_cases e:j=i
      .subst e;rw[E]at a;injection a with a;subst a;rw[l,Xi]
      .exact d j x (by omega) a
     exact Gy
     all_goals exact m
   .have s:(c.v.kind==0)=false:=by simp[b]
    have m:BY t OL (n) (i+1):=λj x O a=>by
     by_cases e:j=i
     .subst e;rw[E]at a;injection a with a;subst a;rw[l,WW b,Ww]
     .exact d j x (by omega) a
    exact Gy
    all_goals exact m
  .have I:i=(n).length:=by omega
   subst I;rw[BZ d];exact Gy
theorem NO{C:List Nat}(h:pf js ms t op C=(a,b,3)):∃k,k∈C/\a=(k:Int)/\b=fW js ms (aZ t (k:Int))/\r5 t op k=true:=by
 unfold pf at h;split at h
 .rename_i k c
  injection h with h1 h2;injection h2 with h2 _;exact⟨k,List.mem_of_find?_eq_some c,h1.symm,h2.symm,by have:=XK c;exact this⟩
 .injection h with _ h2;injection h2 with _ h3;cases h3
structure Nx(t:Tr)(a b:Int):Prop where
 ex:∃k j:Nat,a=(k:Int)/\b=(j:Int)/\k<t.cells.length/\ej t k=true/\(eD t k).kind=0/\bz (aZ t (k:Int)) (j:Int)=true
theorem Iq(h:oP t.cells op sort k=true):ej t k=true:=by
 unfold oP at h;unfold ej;split at h
 .rename_i c a
  simp only[An]at h;rw[a];exact h.1
 .cases h
theorem JX(h:jw js ms t p q w=(a,b,3)):Nx t a b:=by
 unfold jw at h;split at h
 case isFalse=>injection h with _ d;injection d with _ h3;cases h3
 rename_i n;simp only[An,xV,L4]at n;obtain⟨⟨⟨⟨⟨_,_⟩,B⟩,_⟩,_⟩,o⟩:=n
 have fin:∀sort,pf js ms t (iN js ms w t) (ja t (iN js ms w t) p q sort)=(a,b,3)->Nx t a b:=λsort h=>by
  obtain⟨k,v,r,s,hp⟩:=NO h;obtain⟨g,y⟩:=(Bc o).2 k v;simp only[r5,An,L4]at hp;obtain⟨f,u,l⟩:=iT o (c:=(k:Int)) (by simpa using g)
  have i:gy js ms w (aZ t (k:Int))=true:=by
   have d:=hp.2;rw[iN,VN]at d;rw[V7]at f;rw[f]at d;simpa using d
  rcases u9 js ms (aZ t (k:Int))with e|⟨j,e,A,_,_,x,z,m⟩
  .rw[DI e]at i;cases i
  .refine⟨k,j,r,s.trans e,g,Iq y,hp.1,lW.2 ⟨by omega,l,x,by simpa using z,m⟩⟩
 unfold DO at h;split at h
 .injection h with _ d;injection d with _ h3;cases h3
 .split at h
  .injection h with _ d;injection d with _ h3;cases h3
  .split at h
   .exact fin 1 h
   .split at h
    .injection h with _ d;injection d with _ h3;cases h3
    .exact fin 3 h
structure DeI(s:Sce)(t:Tr):Prop where
 valid:aT t=true
 root:t.root=af s.js s.ms
 tl:TL t
theorem rD{s:Sce}(e:aY s=0)(a:DeI s t)(g:ej t k=true)(b:k<t.cells.length)(i:(eD t k).kind=0):km s t (k:Int)=true/\gJ s t (k:Int)=dl t k (kf s t (k:Int))/\DeI s (gJ s t (k:Int)):=by
 obtain⟨b1,b2⟩:=tr a.valid b
 have d:gU s.js s.ms (dt t (k:Int))=true:=by
  rw[b2];exact Fz (kg e) (by rw[<-a.root];exact Iu a.valid b)
 have hp:r6 s t (k:Int)=true:=by simp[r6,e,b1,d]
 have hs:cO t (k:Int) (kf s t (k:Int))=true:=rd a.valid g b i (tu _ _ _)
 have c:gJ s t (k:Int)=bX t (k:Int) (kf s t (k:Int)):=by rw[gJ,VS hp]
 have f:bX t (k:Int) (kf s t (k:Int))=dl t k (kf s t (k:Int)):=by rw[bX,VS hs,V7]
 obtain⟨v1,v2,v3,_⟩:=oO a.valid (k:Int) (kf s t (k:Int));refine⟨by rw[km,hp,hs];rfl,c.trans f,?_⟩;refine⟨by rw[c];exact v1,by rw[c,v2];exact a.root,Iy a.tl _⟩
theorem DJ{s:Sce}(A:aY s=0)(d:DeI s t)(hn:Nx t a b)(L:t.cells.length+2<=2048):wQ s t a b=true/\DeI s (qf s t a b)/\(qf s t a b).cells.length=t.cells.length+2:=by
 obtain⟨k,j,rfl,rfl,o,K,B,J⟩:=hn.ex;have n:(ah t)[k]?=some (aZ t (k:Int)):=(iT d.valid (c:=(k:Int)) (by simpa using o)).1
 have f:dA t (k:Int) (j:Int)=true:=by
  simp only[dA,d.valid,V7,K,n,V5,J,Xw,We,An,L4];exact⟨⟨by omega,by omega⟩,L⟩
 have q:cL t (k:Int) (j:Int)=fV t k (j:Int) (eD t k):=by rw[cL,VS f,V7]
 obtain⟨v1,v2,v3⟩:=yQ d.valid (k:Int) (j:Int);have m:DeI s (cL t (k:Int) (j:Int)):=⟨v1,by rw[v2];exact d.root,zk d.tl (by omega) _ _⟩
 have E:(cL t (k:Int) (j:Int)).cells[t.cells.length]?=some (aD (eD t k)):=by
  rw[q];simp only[fV];rw[VR (by simp)];simp
 have F:(cL t (k:Int) (j:Int)).cells[t.cells.length+1]?=some (aD (eD t k)):=by
  rw[q];simp only[fV];rw[VR (by simp)];simp
 have r:(cL t (k:Int) (j:Int)).cells.length=t.cells.length+2:=by rw[q,mr]
 have p:mP s t (k:Int) (j:Int)=gJ s (cL t (k:Int) (j:Int)) (t.cells.length:Int):=rfl;have I:wQ s t (k:Int) (j:Int)=(dA t (k:Int) (j:Int)&&km s (cL t (k:Int) (j:Int)) (t.cells.length:Int)&&km s (mP s t (k:Int) (j:Int)) ((t.cells.length:Int)+1)):=rfl
 have hF:qf s t (k:Int) (j:Int)=if wQ s t (k:Int) (j:Int)then gJ s (mP s t (k:Int) (j:Int)) ((t.cells.length:Int)+1)else t:=rfl
 generalize cL t (k:Int) (j:Int)=u at *;have C:∀(x:Tr)(i:Nat) V,x.cells[i]?=some (aD V)->ej x i=true/\eD x i=V:=λx i V h=>⟨by simp only[ej,h];exact lc V,by simp[eD,h,aD]⟩;obtain⟨M,P⟩:=C u t.cells.length _ E;obtain⟨O,l,y⟩:=rD A m M (by omega) (by rw[P];exact B);rw[<-p]at l y;generalize mP s t (k:Int) (j:Int)=v at *
 have G:v.cells[t.cells.length+1]?=some (aD (eD t k)):=by
  rw[l];simp only[dl];rw[VV,VM (by omega)];exact F
 have g:v.cells.length=t.cells.length+2:=by rw[l];simp[dl,r]
 obtain⟨N,Q⟩:=C v (t.cells.length+1) _ G;obtain⟨D,H,z⟩:=rD A y N (by omega) (by rw[Q];exact B);rw[Int.natCast_add,Int.natCast_one]at D H z
 have e:wQ s t (k:Int) (j:Int)=true:=by rw[I,f,O,D];rfl
 rw[e,VS rfl]at hF;rw[hF];refine⟨e,z,?_⟩;rw[(uf _ _ _).1,g]
theorem Ir{s:Sce}(d:aY s=0):DeI s (sY s)/\(sY s).cells.length=1/\im (af s.js s.ms)=⟨af s.js s.ms,[aD bm]⟩/\TL (im (af s.js s.ms)):=by
 have b:=ue (kg d);have hn:=I4 b
 have f:(af s.js s.ms).length<=10:=by
  simp only[dy,An,L4]at b;omega
 have g:TL (im (af s.js s.ms)):=by
  rw[hn];refine⟨by simp,by simp only;omega,λc e=>?_⟩;simp at e;subst e;simp[aD,bm]
 have j:DeI s (im (af s.js s.ms)):=⟨by rw[hn,qq];exact b,by rw[hn],g⟩
 have a:ej (im (af s.js s.ms)) 0=true/\(eD (im (af s.js s.ms)) 0).kind=0:=by
  rw[hn];exact⟨lc _,rfl⟩
 obtain⟨_,_,i⟩:=rD d j a.1 (by rw[hn];simp) a.2;refine⟨i,?_,hn,g⟩;rw[sY,(uf _ _ _).1,hn];rfl
theorem DK{s:Sce}{cells:Int}{f:Nat}(h:(jw s.js s.ms t p q w).2.2≠3):qg s p q w cells (f+1) t=(t,(jw s.js s.ms t p q w).2.2):=by
 simp only[qg,VM h]
theorem DL{s:Sce}{cells:Int}{f:Nat}(h:(jw s.js s.ms t p q w).2.2=3)(a:cells-2<t.cells.length):qg s p q w cells (f+1) t=(t,4):=by
 simp only[qg,VS h,VS a]
theorem DM{s:Sce}{cells:Int}{f:Nat}(h:(jw s.js s.ms t p q w).2.2=3)(a:¬cells-2<t.cells.length):qg s p q w cells (f+1) t=qg s p q w cells f (qf s t (jw s.js s.ms t p q w).1 (jw s.js s.ms t p q w).2.1):=by
 simp only[qg,VS h,VM a]
structure SiT(sc:Sce)(s:Spc)(t:Tr):Prop where
 di:DeI sc t
 root:s.root=t.root
 cells:s.cells=t.cells
 bx:s.bx=ah t
theorem FF(k:bj vI (af js ms)=true)(h:bW js ms p=true):lO (af js ms) p=true:=by
 simp only[bW,An,L4]at h;obtain⟨⟨c,d⟩,e⟩:=h
 have g:af js ms=js.map gX:=by simp[af,c]
 rw[MO k,g];refine⟨by simpa using d,λi x y b l=>?_⟩;rw[VN,VK]at b;obtain⟨j,f,rfl⟩:=b;obtain⟨hi,rfl⟩:=th.1 f;obtain⟨a,rfl⟩:=th.1 l;have:=(ny.1 e) i hi a;simp only[qK,An,L4]at this;simp only[gX];omega
section
variable {sc:Sce} {w:Int} {s:Spc} {t:Tr} {P:Nat->List Bool} {I:List (List Bool)}
theorem DQ(h:SiT sc s t)(g:Grw sc w s P I)(hi:i<t.cells.length)(b:(av s i).low=-1):dc s i=iE sc.js sc.ms w (gv (ah t) i)/\(iN sc.js sc.ms w t)[i]?=some (gy sc.js sc.ms w (gv (ah t) i)):=by
 have e:=(g.leaf i (by rw[h.cells];exact hi) b).2.2
 have a:ax s i=gv (ah t) i:=by unfold ax gv;rw[h.bx]
 exact⟨by rw[e,a],(Mm h.di.valid hi).2⟩
theorem xX(h:SiT sc s t)(g:Grw sc w s P I){f:Int->Int->Bool}(hf:∀(k j:Int)(o:Bool),(j != -1)=o->f k j=pF k sort o)(i:Nat)(hi:i<t.cells.length):cF s f i=oP t.cells (iN sc.js sc.ms w t) sort i:=by
 have a:t.cells[i]?=some t.cells[i]:=an hi;have b:av s i=t.cells[i]:=Ba (by rw[h.cells];exact a);unfold cF oP;rw[a];simp only;by_cases c:(av s i).low=-1
 .obtain⟨a1,a2⟩:=DQ h g hi c
  have d:(dc s i != -1)=((iN sc.js sc.ms w t)[i]?).getD false:=by rw[a1,a2];exact DE
  rw[hf _ _ _ d,b,zz h.di.valid a]
 .rw[<-zz h.di.valid a,<-b]
  simp[c]
theorem DR(h:SiT sc s t)(g:Grw sc w s P I){c:List Nat}(f:∀k∈c,k<t.cells.length/\(av s k).low=-1):jU s c=pf sc.js sc.ms t (iN sc.js sc.ms w t) c:=by
 have l:∀x:Int,decide (x≠-1)=(x != -1):=λx=>by by_cases h:x=-1<;>simp[h]
 have hp:∀k∈c,wP s k=r5 t (iN sc.js sc.ms w t) k:=by
  intro k d;obtain⟨hi,e⟩:=f k d;obtain⟨a1,a2⟩:=DQ h g hi e;have a:t.cells[k]?=some t.cells[k]:=an hi;have i:av s k=t.cells[k]:=Ba (by rw[h.cells];exact a);unfold wP r5 eD;rw[i,a1,a,a2,V5,l,DE]
 unfold jU pf;rw[BU hp]
 cases b:c.find? (r5 t (iN sc.js sc.ms w t))with
 |none=>rfl
 |some k=>
  have d:=List.mem_of_find?_eq_some b;obtain⟨hi,e⟩:=f k d;obtain⟨a1,a2⟩:=DQ h g hi e;have hq:=XK b;unfold r5 at hq;rw[a2,V5,An]at hq
  have j:iE sc.js sc.ms w (gv (ah t) k)=fW sc.js sc.ms (aZ t (k:Int)):=by
   unfold iE;rw[VS hq.2];rfl
  simp only[a1,j]
theorem J2(h:SiT sc s t)(n:NrOk s)(g:Grw sc w s P I)(x:1<=w)(d:aY sc=0)(hp:bW sc.js sc.ms p=true)(hq:bW sc.js sc.ms q=true):fl s p q=jw sc.js sc.ms t p q w:=by
 have l:=ue (kg d);simp only[dy,An,L4]at l
 have a:t.root.length=sc.js.length:=by rw[h.di.root];simp[af,kg d]
 have b:xV sc.js sc.ms t p q w=true:=by
  simp only[xV,An,L4];rw[h.di.root];exact⟨⟨⟨⟨kg d,by rw[<-h.di.root];exact a⟩,x⟩,FF l.2 hp⟩,FF l.2 hq⟩
 have c:∀i j,i<t.cells.length->j<t.cells.length->fS (ah t) i j=fS (ah t) j i:=λi j hi e=>by
  have:=n.sy (i:=i) (p:=j) (by rw[h.cells];exact hi) (by rw[h.cells];exact e);unfold ax at this;rw[h.bx]at this;exact this
 have m0:=u0 (has:=aG (ah t) q) (tch:=fS (ah t)) (hasF:=aG (ah t) p) (xX h g (f:=uZ) (sort:=0) λ_ _ _ _=>rfl);have u:=u0 (has:=aG (ah t) q) (tch:=fS (ah t)) (hasF:=aG (ah t) p) (xX h g (f:=oY) (sort:=3) λ_ _ _ _=>rfl);have m1:=u0 (has:=aG (ah t) q) (tch:=fS (ah t)) (hasF:=aG (ah t) p) (xX h g (f:=oA) (sort:=1) Pt);have m2:=u0 (has:=aG (ah t) q) (tch:=fS (ah t)) (hasF:=aG (ah t) p) (xX h g (f:=tH) (sort:=2) Pu)
 have lf:∀(f:Int->Int->Bool),∀k∈eM t.cells.length (cF s f) (aG (ah t) q) (aG (ah t) p) (fS (ah t)),k<t.cells.length/\(av s k).low=-1:=by
  intro f k r
  cases o:dq t.cells.length (cF s f) (aG (ah t) q) (aG (ah t) p) (fS (ah t))with
  |false=>simp[eM,o]at r
  |true=>
   obtain⟨_,_,b3,_⟩:=ro c o;obtain⟨j,e⟩:=Wt r;obtain⟨v,m,_⟩:=b3 j k e;simp only[cF,An,L4]at m;exact⟨v,m.1⟩
 unfold jw;rw[b,h.di.valid];simp only[Xf,V8];unfold fl qd DO ly ja;rw[h.bx,h.cells,DR h g (lf oA),DR h g (lf oY),m0.1,u.1,m1.1,m2.1,m1.2,u.2]
theorem Mt{k j:Nat}(F:aY sc=0)(d:DeI sc t)(r:k<t.cells.length)(N:ej t k=true)(y:(eD t k).kind=0)(M:bz (aZ t (k:Int)) (j:Int)=true)(O:t.cells.length+2<=2048):
 qf sc t k j=⟨t.root,t.cells.set k ⟨j,t.cells.length,t.cells.length+1,bm⟩++[aD (aV (bD sc (aW (aZ t (k:Int)) j) (eD t k).nor)),aD (aV (bD sc (aX (aZ t (k:Int)) j) (eD t k).nor))]⟩/\ah (qf sc t k j)=ah t++[aW (aZ t (k:Int)) j,aX (aZ t (k:Int)) j]:=by
 have G:(ah t)[k]?=some (aZ t (k:Int)):=(iT d.valid (c:=(k:Int)) (by simpa using r)).1
 have s:dA t (k:Int) (j:Int)=true:=by
  simp only[dA,d.valid,V7,N,G,V5,M,Xw,We,An,L4];exact⟨⟨by omega,by omega⟩,O⟩
 have P:cL t (k:Int) (j:Int)=fV t k (j:Int) (eD t k):=by rw[cL,VS s,V7]
 obtain⟨v1,v2,v3⟩:=yQ d.valid (k:Int) (j:Int);have b:DeI sc (cL t (k:Int) (j:Int)):=⟨v1,by rw[v2];exact d.root,zk d.tl (by omega) _ _⟩;have f:=(IX d.valid s).1;have q:=fA d.valid;rw[P]at b f;have l:(fV t k (j:Int) (eD t k)).cells=t.cells.set k ⟨j,t.cells.length,t.cells.length+1,bm⟩++[aD (eD t k),aD (eD t k)]:=rfl;have I:(fV t k (j:Int) (eD t k)).root=t.root:=rfl
 have a:(t.cells.set k (⟨j,t.cells.length,t.cells.length+1,bm⟩:Cel)).length=t.cells.length:=by simp
 have hF:qf sc t (k:Int) (j:Int)=gJ sc (mP sc t (k:Int) (j:Int)) ((t.cells.length:Int)+1):=by
  have:=(DJ F d ⟨k,j,rfl,rfl,r,N,y,M⟩ O).1;unfold qf;rw[VS this]
 have hA:mP sc t (k:Int) (j:Int)=gJ sc (fV t k (j:Int) (eD t k)) (t.cells.length:Int):=by unfold mP;rw[P]
 generalize hB:t.cells.set k (⟨j,t.cells.length,t.cells.length+1,bm⟩:Cel)=B at *;generalize fV t k (j:Int) (eD t k)=u at *;have T:∀(x:Tr)(i:Nat) V,x.cells[i]?=some (aD V)->ej x i=true/\eD x i=V:=λx i V h=>⟨by simp only[ej,h];exact lc V,by simp[eD,h,aD]⟩
 have X:u.cells[t.cells.length]?=some (aD (eD t k)):=by rw[l,VR (by omega),a];simp
 have ad:u.cells.length=t.cells.length+2:=by rw[l];simp[a]
 obtain⟨R,J⟩:=T u t.cells.length _ X;obtain⟨o1,o,n⟩:=rD F b R (by omega) (by rw[J];exact y);have m:=oO b.valid (t.cells.length:Int) (kf sc u (t.cells.length:Int));have C:=tr b.valid (show t.cells.length<u.cells.length by omega)
 have z:aZ u (t.cells.length:Int)=aW (aZ t (k:Int)) j:=by
  unfold aZ;rw[f,V7,VR (by omega),q];simp[aZ]
 have U:kf sc u (t.cells.length:Int)=aV (bD sc (aW (aZ t (k:Int)) j) (eD t k).nor):=by unfold kf;rw[C.2,z,V7,J]
 rw[U]at o m;rw[<-hA]at o n
 have Z:bX u (t.cells.length:Int) (aV (bD sc (aW (aZ t (k:Int)) j) (eD t k).nor))=dl u t.cells.length (aV (bD sc (aW (aZ t (k:Int)) j) (eD t k).nor)):=by
  rw[bX,VS (rd b.valid R (by omega) (by rw[J];exact y) (tu _ _ _)),V7]
 rw[Z]at m
 have g:(mP sc t (k:Int) (j:Int)).cells=B++[aD (aV (bD sc (aW (aZ t (k:Int)) j) (eD t k).nor)),aD (eD t k)]:=by
  rw[o];simp only[dl];rw[l,<-a,Xn _ _ (by omega)];simp
 have p:ah (mP sc t (k:Int) (j:Int))=ah t++[aW (aZ t (k:Int)) j,aX (aZ t (k:Int)) j]:=by rw[o,m.2.2.2,f]
 have H:(mP sc t (k:Int) (j:Int)).root=t.root:=by rw[o];exact I
 generalize mP sc t (k:Int) (j:Int)=e at *
 have Q:e.cells.length=t.cells.length+2:=by rw[g];simp[a]
 have Y:e.cells[t.cells.length+1]?=some (aD (eD t k)):=by rw[g,VR (by omega),a];simp
 obtain⟨S,K⟩:=T e (t.cells.length+1) _ Y;obtain⟨o2,L,I2⟩:=rD F n S (by omega) (by rw[K];exact y);have D:=tr n.valid (show t.cells.length+1<e.cells.length by omega)
 have A:aZ e ((t.cells.length+1:Nat):Int)=aX (aZ t (k:Int)) j:=by
  unfold aZ;rw[p,V7,VR (by omega),q];simp[aZ]
 have W:kf sc e ((t.cells.length+1:Nat):Int)=aV (bD sc (aX (aZ t (k:Int)) j) (eD t k).nor):=by unfold kf;rw[D.2,A,V7,K]
 have v:=oO n.valid ((t.cells.length+1:Nat):Int) (aV (bD sc (aX (aZ t (k:Int)) j) (eD t k).nor));rw[W]at L
 have E:bX e ((t.cells.length+1:Nat):Int) (aV (bD sc (aX (aZ t (k:Int)) j) (eD t k).nor))=dl e (t.cells.length+1) (aV (bD sc (aX (aZ t (k:Int)) j) (eD t k).nor)):=by
  rw[bX,VS (rd n.valid S (by omega) (by rw[K];exact y) (tu _ _ _)),V7]
 rw[E]at v;rw[hF,<-Int.natCast_one,<-Int.natCast_add,L];refine⟨?_,by rw[v.2.2.2,p]⟩;simp only[dl];rw[g,H,<-a,Xn _ _ (by omega)];simp
end
section
variable {sc:Sce} {w:Int} {s:Spc} {t:Tr} {P:Nat->List Bool} {I:List (List Bool)}
theorem GL(h:NrOk s)(f:leaf<s.cells.length):(jC sc w s leaf joint).cells=s.cells.set leaf ⟨joint,s.cells.length,s.cells.length+1,bm⟩++[aD (aV (bD sc (aW (ax s leaf) joint) (av s leaf).v.nor)),aD (aV (bD sc (aX (ax s leaf) joint) (av s leaf).v.nor))]:=by
 have b:=s9 h leaf joint;have c:=vf (joint:=joint) h f;have hs:=(lQ s leaf joint).2.1;have d:(gx sc w (av s leaf).v.nor (bA s leaf joint) s.cells.length).cells=(bA s leaf joint).cells.set s.cells.length {(av (bA s leaf joint) s.cells.length)with v:=aV (bD sc (ax (bA s leaf joint) s.cells.length) (av s leaf).v.nor)}:=rfl;have e:(jC sc w s leaf joint).cells=(gx sc w (av s leaf).v.nor (bA s leaf joint) s.cells.length).cells.set (s.cells.length+1) {(av (gx sc w (av s leaf).v.nor (bA s leaf joint) s.cells.length) (s.cells.length+1))with v:=aV (bD sc (ax (bA s leaf joint) (s.cells.length+1)) (av s leaf).v.nor)}:=rfl;rw[e,ta _ _ _ _ (by rw[(kR s leaf joint).2.2.1];omega),VM (by omega),d,b,b,c,c,hs]
 have a:(s.cells.set leaf (⟨joint,s.cells.length,s.cells.length+1,bm⟩:Cel)).length=s.cells.length:=by simp
 simp only[dB,show¬s.cells.length=leaf by omega,show¬s.cells.length+1=leaf by omega,VZ,Nat.lt_irrefl,V8,show¬s.cells.length+1<s.cells.length by omega,show¬s.cells.length+1=s.cells.length by omega];rw[Xn _ _ (by omega),Xn _ _ (by omega),a];simp[aD]
theorem J3(h:SiT sc s t)(n:NrOk s)(g:Grw sc w s P I)(A:aY sc=0)(r:k<s.cells.length)(B:(av s k).low=-1)(C:(av s k).v.kind=0)(E:dc s k≠-1)(F:s.cells.length+2<=2048):SiT sc (jC sc w s k (dc s k)) (qf sc t k (dc s k)):=by
 have d:k<t.cells.length:=by rw[<-h.cells];exact r
 have c:t.cells[k]?=some t.cells[k]:=an d;have z:av s k=t.cells[k]:=Ba (by rw[h.cells];exact c)
 have m:ej t k=true:=by
  simp only[ej,c];rw[<-zz h.di.valid c,<-z,B];rfl
 have y:eD t k=(av s k).v:=by simp only[eD,c];rw[z]
 have D:ax s k=aZ t (k:Int):=by unfold ax aZ;rw[h.bx];rfl
 have g3:=(g.leaf k r B).2.2;have f:=xW (w:=w) (js:=sc.js) (ms:=sc.ms) (b:=ax s k) (by rw[<-g3];exact E)
 have i:bz (ax s k) (dc s k)=true:=by rw[g3,f.2];exact ve f.1
 obtain⟨j,q⟩:∃j:Nat,dc s k=(j:Int):=⟨(dc s k).toNat,by have:=(lW.1 i).1;omega⟩
 have p:s.cells.length=t.cells.length:=by rw[h.cells]
 have u:=GL (sc:=sc) (w:=w) (joint:=dc s k) n r;have e:(jC sc w s k (dc s k)).bx=s.bx++[aW (ax s k) (dc s k),aX (ax s k) (dc s k)]:=(lQ s k (dc s k)).1
 have o:(jC sc w s k (dc s k)).root=s.root:=by
  have fold:∀(l:List Nat)(x:Spc),(l.foldl (dj s.cells.length k) x).root=x.root:=by
   intro l
   induction l with
   |nil=>intro x;rfl
   |cons a l ih=>intro x;exact(ih _).trans (qe s.cells.length k x a).2.2.2.2
  exact((gq _ _ _).2.2.2.2.trans (fold _ _))
 rw[q]at u e o i|-;rw[D]at i u e;have hf:=Mt A h.di d m (by rw[y];exact C) i (by omega);have hd:=(DJ A h.di ⟨k,j,rfl,rfl,d,m,by rw[y];exact C,i⟩ (by omega)).2.1;refine⟨hd,?_,?_,?_⟩
 .rw[o,h.root,hd.root,h.di.root]
 .rw[u,hf.1,y,p,h.cells]
 .rw[e,hf.2,h.bx]
theorem NP{cells:Int}(x:aY sc=0)(D:1<=w)(hp:bW sc.js sc.ms p=true)(hq:bW sc.js sc.ms q=true)(B:cells<=2048):∀(f c:Nat)(s:Spc)(t:Tr)(R:Spc×Int),f<=c->NrOk s->(∃P I,Grw sc w s P I)->SiT sc s t->oB sc p q w cells f s=some R->qg sc p q w cells c t=(⟨R.1.root,R.1.cells⟩,R.2):=by
 intro f
 induction f with
 |zero=>intro c s t R _ _ _ _ h;cases h
 |succ f ih=>
  rintro c s t R hf n ⟨P,I,g⟩ h a;obtain⟨c,rfl⟩:∃m,c=m+1:=⟨c-1,by omega⟩;have j:=J2 h n g D x hp hq
  have d:s.cells.length=t.cells.length:=by rw[h.cells]
  have u:t=⟨s.root,s.cells⟩:=by rw[h.root,h.cells]
  simp only[oB]at a;split at a
  .by_cases e:(fl s p q).2.2=3
   .rw[VS e]at a
    by_cases o:cells-2<s.cells.length
    .rw[VS o]at a
     injection a with a;subst a;rw[DL (by rw[<-j];exact e) (by rw[<-d];exact o),u]
    .rw[VM o]at a
     obtain⟨k,y,l,r,z,v,A⟩:=IA n e;rw[y,A,V7,VS (by simp[l])]at a;rw[DM (by rw[<-j];exact e) (by rw[<-d];exact o),<-j,y,A];have g3:=g.leaf k l r;have i:=xW (w:=w) (js:=sc.js) (ms:=sc.ms) (b:=ax s k) (by rw[<-g3.2.2];exact v)
     have C:bz (ax s k) (dc s k)=true:=by rw[g3.2.2,i.2];exact ve i.1
     exact ih c _ _ R (by omega) (n.more l r C) ⟨_,_,g.more n l r z v⟩ (J3 h n g x l r z v (by omega)) a
   .rw[VM e]at a
    injection a with a;subst a;rw[DK (by rw[<-j];exact e),u,<-u,<-j]
  .cases a
end
theorem KI(w:Int)(f:aY sc=0):SiT sc (kQ sc w) (sY sc):=by
 obtain⟨l,r,hn,o⟩:=Ir f;have s:=ue (kg f)
 have a:aT (⟨af sc.js sc.ms,[aD bm]⟩:Tr)=true:=by have:=qq (af sc.js sc.ms);rw[s]at this;exact this
 have i:DeI sc ⟨af sc.js sc.ms,[aD bm]⟩:=⟨a,rfl,by rw[<-hn];exact o⟩;have j:ej (⟨af sc.js sc.ms,[aD bm]⟩:Tr) 0=true:=rfl;obtain⟨u,m,_⟩:=rD (k:=0) f i j (by simp) rfl
 have q:dt (⟨af sc.js sc.ms,[aD bm]⟩:Tr) 0=af sc.js sc.ms:=by
  rw[show(0:Int)=((0:Nat):Int) from rfl,(tr a (by simp)).2];exact zG a
 have p:kf sc (⟨af sc.js sc.ms,[aD bm]⟩:Tr) ((0:Nat):Int)=aV (bD sc (af sc.js sc.ms) []):=by
  unfold kf;rw[show((0:Nat):Int)=0 from rfl,q];rfl
 have e:sY sc=⟨af sc.js sc.ms,[aD (aV (bD sc (af sc.js sc.ms) []))]⟩:=by
  unfold sY;rw[hn,show(0:Int)=((0:Nat):Int) from rfl,m,p];rfl
 have d:=l.valid;refine⟨l,by rw[e];rfl,by rw[e];rfl,?_⟩;have g:=fA d;have c:=zG d;rw[r]at g;rw[e]at c;rw[e]at g|-;unfold aZ at c
 match n:ah (⟨af sc.js sc.ms,[aD (aV (bD sc (af sc.js sc.ms) []))]⟩:Tr),g with
 |[b],_=>
  rw[n]at c;simp only[show(0:Int).toNat=0 from rfl,W9,V5]at c;rw[c];rfl
theorem PP(sc:Sce)(p q:List Int)(w cells:Int)(hs:ScL sc)(i:p.length<=9223372036854775807)(j:q.length<=9223372036854775807)(l:cells<=2040)(h:vd sc p q w cells=false):aQ prog 13 [.pv (eK sc),.pv (zs p),.pv (zs q),.pv (Z w),.pv (Z cells)] [] [] (.pv (.tup [.agg [.sl [],.sl []],Z 0])):=by
 by_cases a:aY sc=0/\bW sc.js sc.ms p=true/\bW sc.js sc.ms q=true
 case neg=>exact Px sc p q w cells hs i j a
 obtain⟨a,f,g⟩:=a;have e:=Eg sc hs;have c:=Fh sc.js sc.ms p hs.js hs.ms;have d:=Fh sc.js sc.ms q hs.js hs.ms;rw[a]at e;rw[f]at c;rw[g]at d;simp only[vd,a,f,g,XP,Xw,We,Bool.and_eq_false_iff,VY]at h
 have b:w<1\/(¬w<1/\cells<1):=by omega
 clear h a f g;rcases b with b|⟨b,k⟩
 .skip
  refine Dp func13 λC hP hN=>?_
  with_reducible repeat' (first|refine Sp.h ?_|((first|refine Wd ?_|refine Ss.h ?_|refine Sc.h (e) ?_|refine Sc.h (c) ?_|refine Sc.h (d) ?_|(refine Sb.h ?_ ?_ ?_<;>(try intro hgd)<;>try exact Xy))<;>simp -implicitDefEqProofs (maxSteps:=2000000) [hP,hN,b]<;>try refine Ya ?_)|refine X2 ?_ ?_|(refine Xd ?_ ?_<;>intro hcd<;>try exact Xx))
 .skip
  refine Dp func13 λC hP hN=>?_
  with_reducible repeat' (first|refine Sp.h ?_|((first|refine Wd ?_|refine Ss.h ?_|refine Sc.h (e) ?_|refine Sc.h (c) ?_|refine Sc.h (d) ?_|(refine Sb.h ?_ ?_ ?_<;>(try intro hgd)<;>try exact Xy))<;>simp -implicitDefEqProofs (maxSteps:=2000000) [hP,hN,b,k]<;>try refine Ya ?_)|refine X2 ?_ ?_|(refine Xd ?_ ?_<;>intro hcd<;>try exact Xx))
theorem PQ(sc:Sce)(p q:List Int)(w cells:Int)(hs:ScL sc)(i:cells<=2040)(b:p.length<=9223372036854775807)(c:q.length<=9223372036854775807):aQ prog 13 [.pv (eK sc),.pv (zs p),.pv (zs q),.pv (Z w),.pv (Z cells)] [] [] (.pv (.tup [eT (sZ sc p q w cells).1,Z (sZ sc p q w cells).2])):=by
 cases hP:vd sc p q w cells with
 |false=>
  have:=PP sc p q w cells hs b c i hP;unfold sZ;rw[hP];exact this
 |true=>
  have a:=hP;simp only[vd,An,L4]at a;obtain⟨⟨⟨⟨⟨d,e⟩,f⟩,g⟩,j⟩,_⟩:=a;obtain⟨R,l,_,_,k⟩:=Py sc p q w cells hs g j i b c ⟨d,e,f⟩;unfold sZ;rw[hP,VS rfl,NP d g e f (by omega) 2041 2048 _ _ R (by omega) (FD w d) ⟨_,_,FE sc w⟩ (KI w d) l];exact k
def FW(a b:Int):Int:=if a.tmod b<0 then wr (wr (a.tdiv b)-1)else wr (a.tdiv b)
def IQ(a b:Int):Int:=if 0<a.tmod b then wr (wr (a.tdiv b)+1)else wr (a.tdiv b)
theorem FX(a b:Int)(c:b≠0):aH 155 (Z a) (Z b) (Z (FW a b)):=by
 refine Dp func155 λC hP hN=>?_
 with_reducible repeat' (first|refine Sp.h ?_|((first|refine Ss.h ?_|(refine Sb.h ?_ ?_ ?_<;>(try intro hgd)<;>try exact Xy))<;>simp -implicitDefEqProofs (maxSteps:=2000000) [hP,hN,c])|refine X2 ?_ ?_|(refine Xd ?_ ?_<;>intro hcd<;>try exact Xx))
 all_goals (first|(simp_all[FW];done)|((try simp_all[FW])<;>(try omega)<;>grind))
theorem El(a b:Int)(c:b≠0):aH 226 (Z a) (Z b) (Z (IQ a b)):=by
 refine Dp func226 λC hP hN=>?_
 with_reducible repeat' (first|refine Sp.h ?_|((first|refine Ss.h ?_|(refine Sb.h ?_ ?_ ?_<;>(try intro hgd)<;>try exact Xy))<;>simp -implicitDefEqProofs (maxSteps:=2000000) [hP,hN,c])|refine X2 ?_ ?_|(refine Xd ?_ ?_<;>intro hcd<;>try exact Xx))
 all_goals (first|(simp_all[IQ];done)|((try simp_all[IQ])<;>(try omega)<;>grind))
theorem uo{k:Int}(c:0<b)(h1:k*b<=a)(d:a<(k+1)*b):a/b=k:=by
 have:=(Yg c).2 h1;have:=(Yh c).2 d;omega
theorem FY{B:Int}(c:0<b)(d:0<=B)(h1:-B<=a)(e:a<=B):-B<=a/b/\a/b<=B:=by
 constructor
 .refine(Yg c).2 ?_
  have:B*1<=B*b:=W4 (by omega) d;rw[Yo];omega
 .have f:a/b<B+1:=(Yh c).2 (by
   have:(B+1)*1<=(B+1)*b:=W4 (by omega) (by omega)
   omega)
  omega
theorem uq(c:0<b)(h1:-4611686018427387904<=a)(d:a<=4611686018427387904):FW a b=a/b:=by
 have hq:=Yk a b;have g:-b<a.tmod b:=X6 a c;have i:a.tmod b<b:=XJ a c;have f:=FY (a:=a) (b:=b) (B:=4611686018427387904) c (by decide) h1 d;rw[Int.mul_comm]at hq;unfold FW;split
 .have e:a/b=a.tdiv b-1:=uo c (by rw[Int.sub_mul];omega) (by rw[show a.tdiv b-1+1=a.tdiv b by omega];omega)
  rw[aa (n:=a.tdiv b) (by omega) (by omega),aa (by omega) (by omega),e]
 .have e:a/b=a.tdiv b:=uo c (by omega) (by rw[Int.add_mul];omega)
  rw[aa (n:=a.tdiv b) (by omega) (by omega),e]
theorem sC(c:0<b)(h1:-4611686018427387904<=a)(f:a<=4611686018427387904):IQ a b=dK a b:=by
 have hq:=Yk a b;have g:-b<a.tmod b:=X6 a c;have i:a.tmod b<b:=XJ a c;have d:=FY (a:=-a) (b:=b) (B:=4611686018427387904) c (by decide) (by omega) (by omega);rw[Int.mul_comm]at hq;unfold IQ dK;split
 .have e:-a/b=-a.tdiv b-1:=uo c (by rw[Int.sub_mul,Yo];omega) (by rw[show -a.tdiv b-1+1=-a.tdiv b by omega,Yo];omega)
  rw[aa (n:=a.tdiv b) (by omega) (by omega),aa (by omega) (by omega),e];omega
 .have e:-a/b=-a.tdiv b:=uo c (by rw[Yo];omega) (by rw[Int.add_mul,Yo];omega)
  rw[aa (n:=a.tdiv b) (by omega) (by omega),e];omega
theorem Ou(x:Int×Int):bh 101 (aN x) (Z (jG x)):=by
 cases a:aw x.1 x.2 with
 |false=>
  have b:jG x=0:=by simp[jG,a]
  rw[b];refine Dp func101 λC hP hN=>?_;have d:=@oR;exact GS a
 |true=>
  have c:=ew.1 a
  have b:jG x=FW (wr (x.1+x.2)) 2:=by
   rw[jG,a];simp only[V8];rw[aa (by omega) (by omega),uq (by decide) (by omega) (by omega),Int.fdiv_eq_ediv_of_nonneg _ (by decide)]
  rw[b];refine Dp func101 λC hP hN=>?_
  with_reducible repeat' (first|refine Sp.h ?_|((first|refine Ss.h ?_|refine Sc.h (oR _ _) ?_|refine Sc.h (FX _ _ (by decide)) ?_|(refine Sb.h ?_ ?_ ?_<;>(try intro hgd)<;>try exact Xy))<;>simp -implicitDefEqProofs (maxSteps:=2000000) [hP,hN,a])|refine X2 ?_ ?_|(refine Xd ?_ ?_<;>intro hcd<;>try exact Xx))
def G9(x y z u:AV)(fb:Option db):Option db:=match x,y,z,u with
 |.pv (.val (.int .i64 a)),.pv (.val (.int .i64 b)),.pv (.val (.int .i64 c)),.pv (.val (.int .i64 d))=>some (.pv (Z (max a (max b (max c d)))),[])
 |_,_,_,_=>fb
@[simp] theorem PL(a b c d:Int)(fb:Option db):G9 (.pv (.val (.int .i64 a))) (.pv (.val (.int .i64 b))) (.pv (.val (.int .i64 c))) (.pv (.val (.int .i64 d))) fb=some (.pv (Z (max a (max b (max c d)))),[]):=rfl
@[simp] theorem UX(x y z u:Operand):
 bL prog ⟨dst,.call ⟨.builtin .max,#[x,y,z,u],ts⟩,ty,pos,aft,g⟩ ρ=G9 (ρ x) (ρ y) (ρ z) (ρ u) (jI prog ⟨dst,.call ⟨.builtin .max,#[x,y,z,u],ts⟩,ty,pos,aft,g⟩ ρ):=by
 unfold G9;split
 .rename_i a b c d f i j e
  refine eo (by simp[Op.operands,Call.operands,f,i,j,e,fu]) ?_;unfold execOp;simp[resolve,invoke,builtin,Builtin.max_,f,i,j,e,qS,fu,Builtin.max2,ai,dW]
  try omega
 .rfl
def Ha(x y z u:AV)(fb:Option db):Option db:=match x,y,z,u with
 |.pv (.val (.int .i64 a)),.pv (.val (.int .i64 b)),.pv (.val (.int .i64 c)),.pv (.val (.int .i64 d))=>some (.pv (Z (min a (min b (min c d)))),[])
 |_,_,_,_=>fb
@[simp] theorem PM(a b c d:Int)(fb:Option db):Ha (.pv (.val (.int .i64 a))) (.pv (.val (.int .i64 b))) (.pv (.val (.int .i64 c))) (.pv (.val (.int .i64 d))) fb=some (.pv (Z (min a (min b (min c d)))),[]):=rfl
@[simp] theorem UY(x y z u:Operand):
 bL prog ⟨dst,.call ⟨.builtin .min,#[x,y,z,u],ts⟩,ty,pos,aft,g⟩ ρ=Ha (ρ x) (ρ y) (ρ z) (ρ u) (jI prog ⟨dst,.call ⟨.builtin .min,#[x,y,z,u],ts⟩,ty,pos,aft,g⟩ ρ):=by
 unfold Ha;split
 .rename_i a b c d f i j e
  refine eo (by simp[Op.operands,Call.operands,f,i,j,e,fu]) ?_;unfold execOp;simp[resolve,invoke,builtin,Builtin.min_,f,i,j,e,qS,fu,Builtin.min2,ai,dW]
  try omega
 .rfl
theorem Kw(a:Int):bh 306 (Z a) (Z (ge a)):=by
 refine Dp func306 λC hP hN=>?_;refine Gz ?_
 all_goals (try simp[ge])<;>(try omega)
theorem LD(a b:Int):aH 318 (Z a) (Z b) (I (ge a) (ge b)):=by
 have c:=Kw a;have d:=Kw b;refine Dp func318 λC hP hN=>?_;exact Gy
 all_goals (try simp[ge])<;>(try omega)
theorem Ep(a:Int):bh 285 (Z a) (I (ge a) (ge a)):=by
 have b:=Kw a;refine Dp func285 λC hP hN=>?_;exact Gy
 all_goals (try simp[ge])<;>(try omega)
theorem Er{c d:Int}:aH 304 (I a b) (I c d) (aN (gg (a,b) (c,d))):=by
 have v1:=oR a b;have v2:=oR c d;cases e:aw a b<;>cases f:aw c d<;>rw[e]at v1<;>rw[f]at v2
 case true.true=>
  have g:gg (a,b) (c,d)=(ge (a+c),ge (b+d)):=by simp only[gg,e,f,Xf,V8]
  rw[g];rw[ew]at e f;have i:i64.wrap (a+c)=a+c:=aa;have j:i64.wrap (b+d)=b+d:=aa;refine Dp func304 λC hP hN=>?_
  with_reducible repeat' (first|refine Sp.h ?_|((first|refine Ss.h ?_|refine Sc.h (v1) ?_|refine Sc.h (v2) ?_|refine Sc.h (LD _ _) ?_)<;>simp -implicitDefEqProofs [hP,hN,i,j]))
 all_goals (
  have g:gg (a,b) (c,d)=(0,0):=by simp[gg,e,f]
  rw[g])
 all_goals
  refine Dp func304 λC hP hN=>?_;exact Gy
theorem Kx:bh 317 (I a b) (aN (iR (a,b))):=by
 have v1:=oR a b;cases c:aw a b<;>rw[c]at v1
 .have d:iR (a,b)=(0,0):=by simp[iR,c]
  rw[d];refine Dp func317 λC hP hN=>?_;exact Gy
 .have d:iR (a,b)=(-b,-a):=by simp only[iR,c,V8]
  rw[d];rw[ew]at c;have e:i64.wrap (0-a)=-a:=(aa (n:=0-a) (by omega) (by omega)).trans (by omega);have f:i64.wrap (0-b)=-b:=(aa (n:=0-b) (by omega) (by omega)).trans (by omega);have g:i64.wrap (-a)=-a:=aa;have i:i64.wrap (-b)=-b:=aa;refine Dp func317 λC hP hN=>?_;exact Gy
theorem Hb{c d:Int}:aH 305 (I a b) (I c d) (aN (fB (a,b) (c,d))):=by
 have v1:=oR a b;have v2:=oR c d;cases e:aw a b<;>cases f:aw c d<;>rw[e]at v1<;>rw[f]at v2
 case true.true=>
  have j:=ew.1 e;have k:=ew.1 f;have p:=bS (a:=a) (b:=c) 2147483648 2147483648 (by omega) (by omega) (by omega) (by omega);have q:=bS (a:=a) (b:=d) 2147483648 2147483648 (by omega) (by omega) (by omega) (by omega);have r:=bS (a:=b) (b:=c) 2147483648 2147483648 (by omega) (by omega) (by omega) (by omega);have s:=bS (a:=b) (b:=d) 2147483648 2147483648 (by omega) (by omega) (by omega) (by omega);have l:i64.wrap (a*c)=a*c:=aa;have m:i64.wrap (a*d)=a*d:=aa;have n:i64.wrap (b*c)=b*c:=aa;have o:i64.wrap (b*d)=b*d:=aa;have i:=FX (min (a*c) (min (a*d) (min (b*c) (b*d)))) 65536 (by decide);have cc:=El (max (a*c) (max (a*d) (max (b*c) (b*d)))) 65536 (by decide);rw[uq (by decide) (by omega) (by omega)]at i;rw[sC (by decide) (by omega) (by omega)]at cc
  have g:fB (a,b) (c,d)=(ge (min (a*c) (min (a*d) (min (b*c) (b*d)))/65536),ge (dK (max (a*c) (max (a*d) (max (b*c) (b*d)))) 65536)):=by simp only[fB,e,f,Xf,V8]
  rw[g];refine Dp func305 λC hP hN=>?_
  with_reducible repeat' (first|refine Sp.h ?_|((first|refine Wd ?_|refine Ss.h ?_|refine Sc.h (v1) ?_|refine Sc.h (v2) ?_|refine Sc.h (i) ?_|refine Sc.h (cc) ?_|refine Sc.h (LD _ _) ?_)<;>simp -implicitDefEqProofs [hP,hN,l,m,n,o]<;>try refine Ya ?_))
 all_goals (
  have g:fB (a,b) (c,d)=(0,0):=by simp[fB,e,f]
  rw[g])
 all_goals
  refine Dp func305 λC hP hN=>?_;exact Gy
theorem Ky(a:Int):bh 328 (Z a) (Z (a%65536)):=by
 have c:a.tmod 65536=a-65536*a.tdiv 65536:=by have:=Yk a 65536;omega
 have d:-65536<a.tmod 65536:=X6 a (by decide);have f:a.tmod 65536<65536:=XJ a (by decide);have b:i64.wrap (a.tmod 65536+65536)=a.tmod 65536+65536:=aa
 have e:(a.tmod 65536+65536).tmod 65536=a%65536:=by
  rw[Yw (by omega)];omega
 refine Dp func328 λC hP hN=>?_;exact GS (gA b e)
theorem OF(x:Int)(u:0<=x)(h1:x<=8192):bh 339 (Z x) (.tup [CD (λk=>if k=0 then 0 else fv x k),CD (λk=>if k=0 then 0 else fw x k)]):=by
 have w1:i64.wrap (x*6746518852)=x*6746518852:=aa;have w2:i64.wrap (x*6746518853)=x*6746518853:=aa
 have U:aQ prog 155 [.pv (Z (x*6746518852)),.pv (Z 65536)] [] [] (.pv (Z (fv x 1))):=by
  have:=FX (x*6746518852) 65536 (by decide);rw[uq (by decide) (by omega) (by omega)]at this;exact this
 have V:aQ prog 226 [.pv (Z (x*6746518853)),.pv (Z 65536)] [] [] (.pv (Z (fw x 1))):=by
  have:=El (x*6746518853) 65536 (by decide);rw[sC (by decide) (by omega) (by omega)]at this;exact this
 have m1:∀j,i64.wrap (fv x j*fv x 1)=fv x j*fv x 1:=λj=>aa (by have:=uj u h1 j;omega) (by have:=uj u h1 j;omega);have m2:∀j,i64.wrap (fw x j*fw x 1)=fw x j*fw x 1:=λj=>aa (by have:=pA u h1 j;omega) (by have:=pA u h1 j;omega)
 have S:∀j,aQ prog 155 [.pv (Z (fv x (j+1)*fv x 1)),.pv (Z 1073741824)] [] [] (.pv (Z (fv x (j+2)))):=λj=>by
  have:=FX (fv x (j+1)*fv x 1) 1073741824 (by decide);have Y:=uj u h1 (j+1);rw[uq (by decide) (by omega) (by omega)]at this;exact this
 have T:∀j,aQ prog 226 [.pv (Z (fw x (j+1)*fw x 1)),.pv (Z 1073741824)] [] [] (.pv (Z (fw x (j+2)))):=λj=>by
  have:=El (fw x (j+1)*fw x 1) 1073741824 (by decide);have Y:=pA u h1 (j+1);rw[sC (by decide) (by omega) (by omega)]at this;exact this
 generalize hf:fv x=f at *;generalize X:fw x=g at *
 obtain⟨e,r⟩:∃e:Nat->Int,e=λk=>if k=0 then 0 else f k:=⟨_,rfl⟩
 obtain⟨l,s⟩:∃l:Nat->Int,l=λk=>if k=0 then 0 else g k:=⟨_,rfl⟩
 rw[<-r,<-s]
 have p:e 0=0:=by rw[r];rfl
 have q:l 0=0:=by rw[s];rfl
 have Q:∀k,f (k+1)=e (k+1):=λk=>by rw[r];simp
 have R:∀k,g (k+1)=l (k+1):=λk=>by rw[s];simp
 rw[show f 1=e 1 from Q 0]at U m1 S;rw[show g 1=l 1 from R 0]at V m2 T
 have n:∀j,i64.wrap (e (j+1)*e 1)=e (j+1)*e 1:=λj=>by rw[<-Q j];exact m1 _
 have o:∀j,i64.wrap (l (j+1)*l 1)=l (j+1)*l 1:=λj=>by rw[<-R j];exact m2 _
 have d3:∀j,aQ prog 155 [.pv (Z (e (j+1)*e 1)),.pv (Z 1073741824)] [] [] (.pv (Z (e (j+2)))):=λj=>by have:=S j;rw[Q j,Q (j+1)]at this;exact this
 have d4:∀j,aQ prog 226 [.pv (Z (l (j+1)*l 1)),.pv (Z 1073741824)] [] [] (.pv (Z (l (j+2)))):=λj=>by have:=T j;rw[R j,R (j+1)]at this;exact this
 have v:=n 0;have y:=n 1;have z:=n 2;have A:=n 3;have B:=n 4;have D:=n 5;have E:=n 6;have F:=n 7;have G:=n 8;have H:=o 0;have I:=o 1;have J:=o 2;have K:=o 3;have L:=o 4;have M:=o 5;have N:=o 6;have O:=o 7;have P:=o 8;simp only[Nat.reduceAdd]at v y z A B D E F G H I J K L M N O P;clear n o m1 m2 S T Q R hf X r s;refine Dp func339 λC hP hN=>?_;refine Gz ?_;refine WP.loopN [] 9 (λi st=>st.t 2=.ptr 2 0/\st.t 3=.ptr 3 0/\st.t 4=.ptr 4 0/\st.t 5=.ptr 5 0/\st.t 6=.pv (Z (i+2:Nat))/\st.h 2=some (.box (jF e 0) true false)/\st.h 3=some (.box (jF e 0) true false)/\st.h 4=some (.box (jF e (i+2)) true false)/\st.h 5=some (.box (jF l (i+2)) true false)) (by simp[jF,p,q]) ?_;rintro i st hi ⟨g2,g3,g4,g5,m,a,b,c,d⟩
 have W:i=0\/i=1\/i=2\/i=3\/i=4\/i=5\/i=6\/i=7\/i=8\/i=9:=by omega
 rcases W with rfl|rfl|rfl|rfl|rfl|rfl|rfl|rfl|rfl|rfl
 all_goals (simp only[jF]at a b c d;simp at m a b c d)
 .skip
  with_reducible repeat' (first|refine Sp.h ?_|((first|refine Wd ?_|refine Ss.h ?_|refine Sc.h (d3 0) ?_|refine Sc.h (d4 0) ?_)<;>simp -implicitDefEqProofs [hP,hN,g2,g3,g4,g5,m,a,b,c,d,p,q,v,H,jF]<;>try refine Ya ?_))
 .skip
  with_reducible repeat' (first|refine Sp.h ?_|((first|refine Wd ?_|refine Ss.h ?_|refine Sc.h (d3 1) ?_|refine Sc.h (d4 1) ?_)<;>simp -implicitDefEqProofs [hP,hN,g2,g3,g4,g5,m,a,b,c,d,p,q,y,I,jF]<;>try refine Ya ?_))
 .skip
  with_reducible repeat' (first|refine Sp.h ?_|((first|refine Wd ?_|refine Ss.h ?_|refine Sc.h (d3 2) ?_|refine Sc.h (d4 2) ?_)<;>simp -implicitDefEqProofs [hP,hN,g2,g3,g4,g5,m,a,b,c,d,p,q,z,J,jF]<;>try refine Ya ?_))
 .skip
  with_reducible repeat' (first|refine Sp.h ?_|((first|refine Wd ?_|refine Ss.h ?_|refine Sc.h (d3 3) ?_|refine Sc.h (d4 3) ?_)<;>simp -implicitDefEqProofs [hP,hN,g2,g3,g4,g5,m,a,b,c,d,p,q,A,K,jF]<;>try refine Ya ?_))
 .skip
  with_reducible repeat' (first|refine Sp.h ?_|((first|refine Wd ?_|refine Ss.h ?_|refine Sc.h (d3 4) ?_|refine Sc.h (d4 4) ?_)<;>simp -implicitDefEqProofs [hP,hN,g2,g3,g4,g5,m,a,b,c,d,p,q,B,L,jF]<;>try refine Ya ?_))
 .skip
  with_reducible repeat' (first|refine Sp.h ?_|((first|refine Wd ?_|refine Ss.h ?_|refine Sc.h (d3 5) ?_|refine Sc.h (d4 5) ?_)<;>simp -implicitDefEqProofs [hP,hN,g2,g3,g4,g5,m,a,b,c,d,p,q,D,M,jF]<;>try refine Ya ?_))
 .skip
  with_reducible repeat' (first|refine Sp.h ?_|((first|refine Wd ?_|refine Ss.h ?_|refine Sc.h (d3 6) ?_|refine Sc.h (d4 6) ?_)<;>simp -implicitDefEqProofs [hP,hN,g2,g3,g4,g5,m,a,b,c,d,p,q,E,N,jF]<;>try refine Ya ?_))
 .skip
  with_reducible repeat' (first|refine Sp.h ?_|((first|refine Wd ?_|refine Ss.h ?_|refine Sc.h (d3 7) ?_|refine Sc.h (d4 7) ?_)<;>simp -implicitDefEqProofs [hP,hN,g2,g3,g4,g5,m,a,b,c,d,p,q,F,O,jF]<;>try refine Ya ?_))
 .skip
  with_reducible repeat' (first|refine Sp.h ?_|((first|refine Wd ?_|refine Ss.h ?_|refine Sc.h (d3 8) ?_|refine Sc.h (d4 8) ?_)<;>simp -implicitDefEqProofs [hP,hN,g2,g3,g4,g5,m,a,b,c,d,p,q,G,P,jF]<;>try refine Ya ?_))
 .skip
  exact Gy
theorem OG(lo hi:Int)(h1:-4611686018427387904<=hi)(c:hi<=4611686018427387904)(d:-4611686018427387904<=lo)(e:lo<=4611686018427387904):aH 340 (Z lo) (Z hi) (aN (tM lo hi)):=by
 have a:=FX lo 16384 (by decide);have b:=El hi 16384 (by decide);rw[uq (by decide) d e]at a;rw[sC (by decide) h1 c]at b;have f:tM lo hi=(max 0 (lo/16384),min 65536 (dK hi 16384)):=rfl;rw[f];generalize lo/16384=u at *;generalize dK hi 16384=v at *;refine Dp func340 λC hP hN=>?_;exact Gy
 all_goals (try simp)<;>(try omega)
theorem F0{n d:Int}(hd:0<d):dK n d=bg n d:=by
 unfold dK bg;have e:=Int.mul_ediv_add_emod (n+d-1) d;have a:=W6 (n+d-1) (show d≠0 by omega);have b:=W8 (n+d-1) hd
 have:-n/d=-((n+d-1)/d):=by
  refine uo hd ?_ ?_
  .rw[Yo,Int.mul_comm];omega
  .rw[Int.add_mul,Yo,Int.mul_comm];omega
 omega
theorem cR{g:Nat->Int}(b:∀j,0<=g j/\g j<=1073741824)(j:Nat)(d:Int)(a:0<d):aQ prog 226 [.pv (Z (g j)),.pv (Z d)] [] [] (.pv (Z (bg (g j) d))):=by
 have:=El (g j) d (by omega);have h:=b j;rw[sC a (by omega) (by omega),F0 a]at this;exact this
theorem fR{f:Nat->Int}(hf:∀j,0<=f j/\f j<=1073741824)(j:Nat)(d:Int)(a:0<d):aQ prog 155 [.pv (Z (f j)),.pv (Z d)] [] [] (.pv (Z (f j/d))):=by
 have:=FX (f j) d (by omega);have h:=hf j;rw[uq a (by omega) (by omega)]at this;exact this
theorem S3(x:Int)(b:0<=x)(h1:x<=8192):bh 333 (Z x) (aN (vA x)):=by
 have m:=OF x b h1;have hf:=pt b h1;have a:=pu b h1;have c:vA x=tM (fG (oG (fv x) (fw x))) (fG (mm (fv x) (fw x))):=rfl;rw[c];generalize fv x=f at *;generalize fw x=g at *;simp only[oG,mm,SQ,Ot];have A:=hf 1;have u:=fp (a 3).1 (a 3).2 (d:=6) (by decide) (by decide);have e:=cR a 3 6 (by decide);have r:=si hf 5 (d:=120) (by decide);have o:=fR hf 5 120 (by decide);have y:=fp (a 7).1 (a 7).2 (d:=5040) (by decide) (by decide);have j:=cR a 7 5040 (by decide);have v1:=a 1;have q:=si hf 3 (d:=6) (by decide);have n:=fR hf 3 6 (by decide);have v:=fp (a 5).1 (a 5).2 (d:=120) (by decide) (by decide);have i:=cR a 5 120 (by decide);have s:=si hf 7 (d:=5040) (by decide);have p:=fR hf 7 5040 (by decide);have z:=fp (a 9).1 (a 9).2 (d:=362880) (by decide) (by decide);have k:=cR a 9 362880 (by decide);have w0:i64.wrap (f 1-bg (g 3) 6)=f 1-bg (g 3) 6:=aa;have B:i64.wrap (f 1-bg (g 3) 6+f 5/120)=f 1-bg (g 3) 6+f 5/120:=aa;have D:i64.wrap (f 1-bg (g 3) 6+f 5/120-bg (g 7) 5040)=f 1-bg (g 3) 6+f 5/120-bg (g 7) 5040:=aa;have E:i64.wrap (g 1-f 3/6)=g 1-f 3/6:=aa;have F:i64.wrap (g 1-f 3/6+bg (g 5) 120)=g 1-f 3/6+bg (g 5) 120:=aa;have G:i64.wrap (g 1-f 3/6+bg (g 5) 120-f 7/5040)=g 1-f 3/6+bg (g 5) 120-f 7/5040:=aa;have H:i64.wrap (g 1-f 3/6+bg (g 5) 120-f 7/5040+bg (g 9) 362880)=g 1-f 3/6+bg (g 5) 120-f 7/5040+bg (g 9) 362880:=aa;have l:=OG (f 1-bg (g 3) 6+f 5/120-bg (g 7) 5040) (g 1-f 3/6+bg (g 5) 120-f 7/5040+bg (g 9) 362880) (by omega) (by omega) (by omega) (by omega);refine Dp func333 λC hP hN=>?_;exact Gy
theorem S4(x:Int)(b:0<=x)(h1:x<=8192):bh 334 (Z x) (aN (zp x)):=by
 have n:=OF x b h1;have hf:=pt b h1;have a:=pu b h1;have e:zp x=tM (fG (sh (fv x) (fw x))) (fG (pB (fv x) (fw x))):=rfl;rw[e];generalize fv x=f at *;generalize fw x=g at *;simp only[sh,pB,Ot,SR];have z:=fp (a 2).1 (a 2).2 (d:=2) (by decide) (by decide);have j:=cR a 2 2 (by decide);have u:=si hf 4 (d:=24) (by decide);have p:=fR hf 4 24 (by decide);have B:=fp (a 6).1 (a 6).2 (d:=720) (by decide) (by decide);have c6:=cR a 6 720 (by decide);have y:=si hf 8 (d:=40320) (by decide);have r:=fR hf 8 40320 (by decide);have i:=fp (a 10).1 (a 10).2 (d:=3628800) (by decide) (by decide);have c:=cR a 10 3628800 (by decide);have s:=si hf 2 (d:=2) (by decide);have o:=fR hf 2 2 (by decide);have A:=fp (a 4).1 (a 4).2 (d:=24) (by decide) (by decide);have k:=cR a 4 24 (by decide);have v:=si hf 6 (d:=720) (by decide);have q:=fR hf 6 720 (by decide);have D:=fp (a 8).1 (a 8).2 (d:=40320) (by decide) (by decide);have l:=cR a 8 40320 (by decide);have w0:i64.wrap (1073741824-bg (g 2) 2)=1073741824-bg (g 2) 2:=aa;have E:i64.wrap (1073741824-bg (g 2) 2+f 4/24)=1073741824-bg (g 2) 2+f 4/24:=aa;have F:i64.wrap (1073741824-bg (g 2) 2+f 4/24-bg (g 6) 720)=1073741824-bg (g 2) 2+f 4/24-bg (g 6) 720:=aa;have G:i64.wrap (1073741824-bg (g 2) 2+f 4/24-bg (g 6) 720+f 8/40320)=1073741824-bg (g 2) 2+f 4/24-bg (g 6) 720+f 8/40320:=aa;have H:i64.wrap (1073741824-bg (g 2) 2+f 4/24-bg (g 6) 720+f 8/40320-bg (g 10) 3628800)=1073741824-bg (g 2) 2+f 4/24-bg (g 6) 720+f 8/40320-bg (g 10) 3628800:=aa;have I:i64.wrap (1073741824-f 2/2)=1073741824-f 2/2:=aa;have J:i64.wrap (1073741824-f 2/2+bg (g 4) 24)=1073741824-f 2/2+bg (g 4) 24:=aa;have K:i64.wrap (1073741824-f 2/2+bg (g 4) 24-f 6/720)=1073741824-f 2/2+bg (g 4) 24-f 6/720:=aa;have L:i64.wrap (1073741824-f 2/2+bg (g 4) 24-f 6/720+bg (g 8) 40320)=1073741824-f 2/2+bg (g 4) 24-f 6/720+bg (g 8) 40320:=aa;have m:=OG (1073741824-bg (g 2) 2+f 4/24-bg (g 6) 720+f 8/40320-bg (g 10) 3628800) (1073741824-f 2/2+bg (g 4) 24-f 6/720+bg (g 8) 40320) (by omega) (by omega) (by omega) (by omega);refine Dp func334 λC hP hN=>?_;exact Gy
theorem OH(r:Int)(b:0<=r)(h1:r<=16384):bh 329 (Z r) (aN (fx r)):=by
 by_cases h:r<=8192
 .have a:fx r=vA r:=by simp[fx,h]
  rw[a];have c:=S3 r b h;refine Dp func329 λC hP hN=>?_;exact Gy
 .have a:fx r=zp (16384-r):=by simp[fx,h]
  rw[a];have c:=S4 (16384-r) (by omega) (by omega);have w:i64.wrap (16384-r)=16384-r:=aa;refine Dp func329 λC hP hN=>?_;exact Gy
theorem Kz(a:Int):bh 322 (Z a) (aN (pC a)):=by
 have b:pC a=qG (a%65536):=rfl;have f:=Ky a;have m0:0<=a%65536:=W6 _ (by decide);have m1:a%65536<65536:=W8 _ (by decide);rw[b];generalize a%65536=m at *;have i:m.tdiv 16384=m/16384:=Wa m0;have j:m.tmod 16384=m%16384:=Yw m0;have l:i64.wrap (m/16384)=m/16384:=aa;have c:0<=m%16384:=W6 _ (by decide);have k:m%16384<16384:=W8 _ (by decide);have d:=OH (m%16384) c (by omega);have e:=OH (16384-m%16384) (by omega) (by omega);have n:i64.wrap (16384-m%16384)=16384-m%16384:=aa
 have hq:m/16384=0\/m/16384=1\/m/16384=2\/m/16384=3:=by omega
 unfold qG;generalize fx (m%16384)=u at *;generalize fx (16384-m%16384)=v at *;have g:aQ prog 317 [.pv (aN u)] [] [] (.pv (aN (iR u))):=Kx;have cv:aQ prog 317 [.pv (aN v)] [] [] (.pv (aN (iR v))):=Kx;rcases hq with hq|hq|hq|hq<;>rw[hq]
 all_goals
  refine Dp func322 λC hP hN=>?_;exact Gy
theorem OI(a:Int):bh 321 (Z a) (aN (vB a)):=by
 have c:=Ky a;have m0:0<=a%65536:=W6 _ (by decide);have m1:a%65536<65536:=W8 _ (by decide);have d:=Kz (a%65536+16384);have w:i64.wrap (a%65536+16384)=a%65536+16384:=aa;have b:vB a=pC (a%65536+16384):=rfl;rw[b];refine Dp func321 λC hP hN=>?_;exact Gy
def qm(a:Iv)(t:Int):Bool:=decide (a.1+(t-a.1)%65536<=a.2)
theorem OJ(t:Int)(h1:-2147483648<=a)(d:a<=2147483648)(e:-2147483648<=t)(f:t<=2147483648):aH 327 (I a b) (Z t) (B (qm (a,b) t)):=by
 have c:=Ky (t-a);have m0:0<=(t-a)%65536:=W6 _ (by decide);have m1:(t-a)%65536<65536:=W8 _ (by decide);have g:i64.wrap (t-a)=t-a:=aa;have i:i64.wrap (a+(t-a)%65536)=a+(t-a)%65536:=aa;refine Dp func327 λC hP hN=>?_;refine Gz ?_
 all_goals rfl
theorem Cd{a:Iv}{t:Int}(b:aw a.1 a.2=true):mT a t=qm a t:=by
 have m0:0<=(t-a.1)%65536:=W6 _ (by decide);simp only[mT,qm,b,We];rw[Wv (show a.1<=a.1+(t-a.1)%65536 by omega),We]
theorem OK(v:Int->Iv)(t u:Int)(n:-2147483648<=t)(i:t<=2147483648)(o:-2147483648<=u)(j:u<=2147483648):uw 320 (I a b) (aN (v a)) (aN (v b)) (Z t) (Z u) (aN (jE (a,b) v t u)):=by
 have cv:=oR a b
 cases c:aw a b with
 |false=>
  rw[c]at cv
  have e:jE (a,b) v t u=(0,0):=by simp[jE,c]
  rw[e];refine Dp func320 λC hP hN=>?_;exact Gy
 |true=>
  rw[c]at cv;have f:=ew.1 c;have w:i64.wrap (b-a)=b-a:=aa;have l:=OJ (b:=b) t f.1 (by omega) n i;have m:=OJ (b:=b) u f.1 (by omega) o j;by_cases k:65536<=b-a
  .have e:jE (a,b) v t u=(-65536,65536):=by simp only[jE,c];rw[VM (by simp),VS k]
   rw[e];refine Dp func320 λC hP hN=>?_;exact Gy
  .have e:jE (a,b) v t u=(if qm (a,b) u then gZ (if qm (a,b) t then gZ (gZ (v a) (v b)) (qh 65536)else gZ (v a) (v b)) (qh (-65536))else(if qm (a,b) t then gZ (gZ (v a) (v b)) (qh 65536)else gZ (v a) (v b))):=by
    simp only[jE,c];rw[VM (by simp),VM k,Cd c,Cd c]
   rw[e];have r:=Gt (v a).1 (v a).2 (v b).1 (v b).2;have s:=Ep 65536;have x:=Ep (-65536);have p:qh 65536=(ge 65536,ge 65536):=rfl;have q:qh (-65536)=(ge (-65536),ge (-65536)):=rfl;rw[p,q];generalize ge 65536=d at *;generalize ge (-65536)=g at *;generalize A:gZ (v a) (v b)=H at *;have y:=Gt H.1 H.2 d d;have z:=Gt H.1 H.2 g g;have c6:=Gt (gZ H (d,d)).1 (gZ H (d,d)).2 g g;cases m1:qm (a,b) t<;>cases m2:qm (a,b) u<;>rw[m1]at l<;>rw[m2]at m<;>simp only[VP,VZ,V8]
   all_goals
    refine Dp func320 λC hP hN=>?_;exact Gy
theorem S5:bh 316 (I a b) (aN (sj (a,b))):=by
 have h:sj (a,b)=jE (a,b) pC 16384 49152:=rfl;rw[h];have c:=OK (a:=a) (b:=b) pC 16384 49152 (by decide) (by decide) (by decide) (by decide);have d:=Kz a;have e:=Kz b;generalize pC a=u at *;generalize pC b=v at *;refine Dp func316 λC hP hN=>?_;exact Gy
theorem S6:bh 315 (I a b) (aN (sm (a,b))):=by
 have h:sm (a,b)=jE (a,b) vB 0 32768:=rfl;rw[h];have c:=OK (a:=a) (b:=b) vB 0 32768 (by decide) (by decide) (by decide) (by decide);have d:=OI a;have e:=OI b;generalize vB a=u at *;generalize vB b=v at *;refine Dp func315 λC hP hN=>?_;exact Gy
theorem IV(h:aw x.1 x.2=true):gg (0,0) x=x:=by
 have a:=ew.1 h;simp only[gg,h,show aw 0 0=true from rfl,Xf,V8,ge]
 ext<;>(try simp only[])<;>omega
theorem Hc(x y:Iv):aw (fB x y).1 (fB x y).2=true:=by
 unfold fB;split
 .rw[ew];simp only[ge,dK];omega
 .rfl
theorem yf(m v:aq):kj m v 3=gg (gg (fB m.1 v.1) (fB m.2.1 v.2.1)) (fB m.2.2 v.2.2):=by
 show gg (gg (gg (0,0) (fB m.1 v.1)) (fB m.2.1 v.2.1)) (fB m.2.2 v.2.2)=_;rw[IV (Hc _ _)]
theorem LE:ge 65536=65536:=by decide
theorem OM(x y z:Int):bh 263 (ow x y z) (bR (dZ (x,y,z))):=by
 have hp:dZ (x,y,z)=((ge x,ge x),(ge y,ge y),(ge z,ge z)):=rfl;rw[hp];refine Dp func263 λC hP hN=>?_;have a:=@Ep;exact GS trivial
theorem ON:aH 283 (V6 a0 a1 a2 a3 a4 a5) (V6 b0 b1 b2 b3 b4 b5) (bR (sq ((a0,a1),(a2,a3),(a4,a5)) ((b0,b1),(b2,b3),(b4,b5)))):=by
 refine Dp func283 λC hP hN=>?_;have a:=@Er;refine GT trivial ?_
 all_goals (try simp[sq])
theorem OO:Cn 260 (yb mU):=by
 have a:=Ep 65536;rw[LE]at a;refine Dp func260 λC hP hN=>?_;refine Gz ?_
 all_goals (try simp[mU])
theorem S7(x:Int):aH 303 (Z x) (I a b) (yb (fN x (a,b))):=by
 have j:=Ep 65536;rw[LE]at j;have cv:=oR a b
 cases e:aw a b with
 |false=>
  rw[e]at cv
  have c:fN x (a,b)=(bB,bB,bB):=by simp[fN,e]
  rw[c];refine Dp func303 λC hP hN=>?_
  with_reducible repeat' (first|refine Sp.h ?_|((first|refine Ss.h ?_|refine Sc.h (cv) ?_)<;>simp -implicitDefEqProofs [hP,hN,bB]))
 |true=>
  rw[e]at cv;have l:=S5 (a:=a) (b:=b);have cc:=S6 (a:=a) (b:=b);generalize hS:sj (a,b)=S at *;generalize d:sm (a,b)=Q at *;have k:=Kx (a:=S.1) (b:=S.2);by_cases f:x=0
  .have c:fN x (a,b)=(((65536,65536),(0,0),(0,0)),((0,0),Q,iR S),((0,0),S,Q)):=by simp[fN,e,f,hS,d]
   rw[c];subst f;refine Dp func303 λC hP hN=>?_;exact Gy
  by_cases g:x=1
  .have c:fN x (a,b)=((Q,(0,0),S),((0,0),(65536,65536),(0,0)),(iR S,(0,0),Q)):=by simp[fN,e,g,hS,d]
   rw[c];subst g;refine Dp func303 λC hP hN=>?_;exact Gy
  by_cases i:x=2
  .have c:fN x (a,b)=((Q,iR S,(0,0)),(S,Q,(0,0)),((0,0),(0,0),(65536,65536))):=by simp[fN,e,i,hS,d]
   rw[c];subst i;refine Dp func303 λC hP hN=>?_;exact Gy
  have c:fN x (a,b)=(bB,bB,bB):=by simp[fN,e,f,g,i]
  rw[c]
  have m:(x==0)=false:=by simp[f]
  have n:(x==1)=false:=by simp[g]
  have o:(x==2)=false:=by simp[i]
  refine Dp func303 λC hP hN=>?_
  with_reducible repeat' (first|refine Sp.h ?_|((first|refine Wd ?_|refine Ss.h ?_|refine Sc.h (cv) ?_|refine Sc.h (l) ?_|refine Sc.h (cc) ?_|refine Sc.h (k) ?_|refine Sc.h (j) ?_)<;>simp -implicitDefEqProofs [hP,hN,bB,m,n,o,f,g,i]<;>try refine Ya ?_))
theorem OP:aH 284 (Ec a0 a1 a2 a3 a4 a5 a6 a7 a8 a9 a10 a11 a12 a13 a14 a15 a16 a17) (V6 v0 v1 v2 v3 v4 v5) (bR (uk (((a0,a1),(a2,a3),(a4,a5)),((a6,a7),(a8,a9),(a10,a11)),((a12,a13),(a14,a15),(a16,a17))) ((v0,v1),(v2,v3),(v4,v5)))):=by
 obtain⟨D,f⟩:∃D:aq,D=uk (((a0,a1),(a2,a3),(a4,a5)),((a6,a7),(a8,a9),(a10,a11)),((a12,a13),(a14,a15),(a16,a17))) ((v0,v1),(v2,v3),(v4,v5)):=⟨_,rfl⟩
 have j:gg (gg (fB (a0,a1) (v0,v1)) (fB (a2,a3) (v2,v3))) (fB (a4,a5) (v4,v5))=D.1:=by rw[f];exact(yf ((a0,a1),(a2,a3),(a4,a5)) ((v0,v1),(v2,v3),(v4,v5))).symm
 have k:gg (gg (fB (a6,a7) (v0,v1)) (fB (a8,a9) (v2,v3))) (fB (a10,a11) (v4,v5))=D.2.1:=by rw[f];exact(yf ((a6,a7),(a8,a9),(a10,a11)) ((v0,v1),(v2,v3),(v4,v5))).symm
 have l:gg (gg (fB (a12,a13) (v0,v1)) (fB (a14,a15) (v2,v3))) (fB (a16,a17) (v4,v5))=D.2.2:=by rw[f];exact(yf ((a12,a13),(a14,a15),(a16,a17)) ((v0,v1),(v2,v3),(v4,v5))).symm
 rw[<-f];clear f;refine Dp func284 λC hP hN=>?_;refine Gz ?_;refine WP.loopN [] 3 (λi st=>st.t 2=.ptr 2 0/\st.t 3=.ptr 3 0/\st.t 4=.ptr 4 0/\st.t 5=.ptr 5 0/\st.h 2=some (.box [.pv (Z a0),.pv (Z a1),.pv (Z a2),.pv (Z a3),.pv (Z a4),.pv (Z a5),.pv (Z a6),.pv (Z a7),.pv (Z a8),.pv (Z a9),.pv (Z a10),.pv (Z a11),.pv (Z a12),.pv (Z a13),.pv (Z a14),.pv (Z a15),.pv (Z a16),.pv (Z a17)] true false)/\st.h 3=some (.box [.pv (Z v0),.pv (Z v1),.pv (Z v2),.pv (Z v3),.pv (Z v4),.pv (Z v5)] true false)/\st.h 4=some (.box (c6 D 0) true false)/\st.t 6=.pv (Z i)/\st.h 5=some (.box (c6 D i) true false)) (by simp[c6]) ?_;rintro i st hi ⟨g2,c,g4,g5,d,e,a,g,b⟩;rcases eJ hi with rfl|rfl|rfl|rfl
 all_goals (simp[c6]at g a b)
 .skip
  with_reducible repeat' (first|refine Sp.h ?_|((first|refine Wd ?_|refine Ss.h ?_|refine Sc.h (Hb) ?_|refine Sc.h (Er) ?_)<;>simp -implicitDefEqProofs [hP,hN,g2,c,g4,g5,g,d,e,a,b,j,c6]<;>try refine Ya ?_))
 .skip
  with_reducible repeat' (first|refine Sp.h ?_|((first|refine Wd ?_|refine Ss.h ?_|refine Sc.h (Hb) ?_|refine Sc.h (Er) ?_)<;>simp -implicitDefEqProofs [hP,hN,g2,c,g4,g5,g,d,e,a,b,k,c6]<;>try refine Ya ?_))
 .skip
  with_reducible repeat' (first|refine Sp.h ?_|((first|refine Wd ?_|refine Ss.h ?_|refine Sc.h (Hb) ?_|refine Sc.h (Er) ?_)<;>simp -implicitDefEqProofs [hP,hN,g2,c,g4,g5,g,d,e,a,b,l,c6]<;>try refine Ya ?_))
 .skip
  exact Gy
theorem OQ(x:Int):max (-65536) (min x 65536)=wY x:=by unfold wY;omega
theorem S8{b6 F G H p q r s u v y z:Int}:aH 282 (Ec a0 a1 a2 a3 a4 a5 a6 a7 a8 a9 a10 a11 a12 a13 a14 a15 a16 a17) (Ec b0 b1 b2 b3 b4 b5 b6 F G H p q r s u v y z) (yb (AI (((a0,a1),(a2,a3),(a4,a5)),((a6,a7),(a8,a9),(a10,a11)),((a12,a13),(a14,a15),(a16,a17))) (((b0,b1),(b2,b3),(b4,b5)),((b6,F),(G,H),(p,q)),((r,s),(u,v),(y,z))))):=by
 obtain⟨A,I⟩:∃A:oH,A=(((a0,a1),(a2,a3),(a4,a5)),((a6,a7),(a8,a9),(a10,a11)),((a12,a13),(a14,a15),(a16,a17))):=⟨_,rfl⟩;obtain⟨B,J⟩:∃B:oH,B=(((b0,b1),(b2,b3),(b4,b5)),((b6,F),(G,H),(p,q)),((r,s),(u,v),(y,z))):=⟨_,rfl⟩;rw[<-I,<-J];obtain⟨N,j⟩:∃l:List AV,l=[a0,a1,a2,a3,a4,a5,a6,a7,a8,a9,a10,a11,a12,a13,a14,a15,a16,a17].map λx=>.pv (Z x):=⟨_,rfl⟩;obtain⟨O,m⟩:∃l:List AV,l=[b0,b1,b2,b3,b4,b5,b6,F,G,H,p,q,r,s,u,v,y,z].map λx=>.pv (Z x):=⟨_,rfl⟩;simp only[W5,Yu]at j m
 have P:g3 (g3 A 0) 0=(a0,a1)/\g3 (g3 A 0) 1=(a2,a3)/\g3 (g3 A 0) 2=(a4,a5)/\g3 (g3 A 1) 0=(a6,a7)/\g3 (g3 A 1) 1=(a8,a9)/\g3 (g3 A 1) 2=(a10,a11)/\g3 (g3 A 2) 0=(a12,a13)/\g3 (g3 A 2) 1=(a14,a15)/\g3 (g3 A 2) 2=(a16,a17)/\g3 (fX B 0) 0=(b0,b1)/\g3 (fX B 1) 0=(b2,b3)/\g3 (fX B 2) 0=(b4,b5)/\g3 (fX B 0) 1=(b6,F)/\g3 (fX B 1) 1=(G,H)/\g3 (fX B 2) 1=(p,q)/\g3 (fX B 0) 2=(r,s)/\g3 (fX B 1) 2=(u,v)/\g3 (fX B 2) 2=(y,z):=by
  rw[I,J]
  repeat' (first|rfl|constructor)
 have f:∀i k,wY (gg (gg (fB (g3 (g3 A i) 0) (g3 (fX B k) 0)) (fB (g3 (g3 A i) 1) (g3 (fX B k) 1))) (fB (g3 (g3 A i) 2) (g3 (fX B k) 2))).1=(um A B i k).1/\wY (gg (gg (fB (g3 (g3 A i) 0) (g3 (fX B k) 0)) (fB (g3 (g3 A i) 1) (g3 (fX B k) 1))) (fB (g3 (g3 A i) 2) (g3 (fX B k) 2))).2=(um A B i k).2:=λi k=>by
  have e:=Xq G1 (yf (g3 A i) (fX B k));exact⟨(Xq Prod.fst e).symm,(Xq Prod.snd e).symm⟩
 clear I J;refine Dp func282 λC hP hN=>?_
 with_reducible repeat' (first|refine Sp.h ?_|((first|refine Wd ?_|refine Ss.h ?_|(refine Sb.h ?_ ?_ ?_<;>(try intro hgd)<;>try exact Xy))<;>simp -implicitDefEqProofs (maxSteps:=2000000) [hP,hN,j,m]<;>try refine Ya ?_)|refine X2 ?_ ?_|(refine Xd ?_ ?_<;>intro hcd<;>try exact Xx))
 refine WP.loopN [8] 3 (λi st=>tg N O A B st/\st.t 6=.pv (Z i)/\st.h 5=some (.box (cC A B i 0) true false)/\st.h 8=none) (by simp[tg,cC,jk,j,m]) ?_;rintro i st hi ⟨⟨g2,n,g4,g5,b,c,d⟩,E,g,D⟩;rw[j]at b;rw[m]at c;by_cases M:i=3
 .simp[cC,jk,M]at E d g
  with_reducible repeat' (first|refine Sp.h ?_|((first|refine Wd ?_|refine Ss.h ?_|(refine Sb.h ?_ ?_ ?_<;>(try intro hgd)<;>try exact Xy))<;>simp -implicitDefEqProofs (maxSteps:=2000000) [hP,hN,g2,n,g4,g5,E,b,c,d,g,D,AI,M]<;>try refine Ya ?_)|refine X2 ?_ ?_|(refine Xd ?_ ?_<;>intro hcd<;>try exact Xx))
 have a:i=0\/i=1\/i=2:=by omega
 rcases a with a|a|a
 all_goals
  with_reducible repeat' (first|refine Sp.h ?_|((first|refine Wd ?_|refine Ss.h ?_|(refine Sb.h ?_ ?_ ?_<;>(try intro hgd)<;>try exact Xy))<;>simp -implicitDefEqProofs (maxSteps:=2000000) [hP,hN,g2,n,g4,g5,E,b,c,d,g,D,a]<;>try refine Ya ?_)|refine X2 ?_ ?_|(refine Xd ?_ ?_<;>intro hcd<;>try exact Xx))
  refine WP.loopN [8] 3 (λk st=>tg N O A B st/\st.t 6=.pv (Z i)/\st.t 7=.pv (Z k)/\st.h 5=some (.box (cC A B i k) true false)/\st.h 8=none) (by simp[tg,cC,jk,j,m,g2,n,g4,g5,E,b,c,d,g,a]) ?_;clear g2 n g4 g5 E b c d g D;rintro k st Q ⟨⟨g2,n,g4,g5,b,c,d⟩,E,L,g,D⟩;rw[j]at b;rw[m]at c;have K:=f i k;rcases eJ Q with o|o|o|o
  all_goals
   simp only[a,o,P]at K;simp[cC,jk,a,o]at L d g
   with_reducible repeat' (first|refine Sp.h ?_|((first|refine Wd ?_|refine Ss.h ?_|refine Sc.h (Hb) ?_|refine Sc.h (Er) ?_|(refine Sb.h ?_ ?_ ?_<;>(try intro hgd)<;>try exact Xy))<;>simp -implicitDefEqProofs (maxSteps:=2000000) [hP,hN,g2,n,g4,g5,E,L,b,c,d,g,D,tg,j,m,cC,jk,OQ,K,a,o]<;>try refine Ya ?_)|refine X2 ?_ ?_|(refine Xd ?_ ?_<;>intro hcd<;>try exact Xx))
theorem KA:Cn 217 (cK ig):=by
 refine Dp func217 λC hP hN=>?_;have a:=@OO;refine GT trivial ?_
 all_goals (try simp[ig,bB,mU])
theorem Hd:bh 281 (V6 v0 v1 v2 v3 v4 v5) (cK (ed ((v0,v1),(v2,v3),(v4,v5)))):=by
 refine Dp func281 λC hP hN=>?_;have a:=@OO;refine GT trivial ?_
 all_goals (try simp[ed])
theorem KB(x:Int):aH 280 (Z x) (I a b) (cK (iu x (a,b))):=by
 have d:=S7 (a:=a) (b:=b) x;have c:iu x (a,b)=(fN x (a,b),bB):=rfl;rw[c];generalize fN x (a,b)=m at *;refine Dp func280 λC hP hN=>?_;refine Gz ?_
 all_goals (try simp[bB])
theorem S9{a b c d a22 e:Int}:aH 262 (yI a0 a1 a2 a3 a4 a5 a6 a7 a8 a9 a10 a11 a12 a13 a14 a15 a16 a17 a b c d a22 e) (V6 v0 v1 v2 v3 v4 v5) (bR (iW ((((a0,a1),(a2,a3),(a4,a5)),((a6,a7),(a8,a9),(a10,a11)),((a12,a13),(a14,a15),(a16,a17))),((a,b),(c,d),(a22,e))) ((v0,v1),(v2,v3),(v4,v5)))):=by
 refine Dp func262 λC hP hN=>?_;have f:=@OP;have g:=@ON;refine GT trivial ?_
 all_goals (try simp[iW])
theorem xh{a b c d a22 e b6 v x y f g i j k l m n o p q r s u:Int}:aH 259 (yI a0 a1 a2 a3 a4 a5 a6 a7 a8 a9 a10 a11 a12 a13 a14 a15 a16 a17 a b c d a22 e) (yI b0 b1 b2 b3 b4 b5 b6 v x y f g i j k l m n o p q r s u) (cK (oJ ((((a0,a1),(a2,a3),(a4,a5)),((a6,a7),(a8,a9),(a10,a11)),((a12,a13),(a14,a15),(a16,a17))),((a,b),(c,d),(a22,e))) ((((b0,b1),(b2,b3),(b4,b5)),((b6,v),(x,y),(f,g)),((i,j),(k,l),(m,n))),((o,p),(q,r),(s,u))))):=by
 refine Dp func259 λC hP hN=>?_;have z:=@OP;have A:=@ON;have B:=@S8;refine GT trivial ?_
 all_goals (try simp[oJ,iW])
theorem Ta(j:J)(o:0<=j.kind)(h6:j.kind<=6):aH 258 (bu j) (I a b) (cK (mV j (a,b))):=by
 have n:=OM j.ox j.oy j.oz;have l:=KA;have m:mV j (a,b)=oJ (ed (dZ (j.ox,j.oy,j.oz))) (gk j.kind (a,b)):=rfl;rw[m];generalize dZ (j.ox,j.oy,j.oz)=pv at *;have k:=Hd (v0:=pv.1.1) (v1:=pv.1.2) (v2:=pv.2.1.1) (v3:=pv.2.1.2) (v4:=pv.2.2.1) (v5:=pv.2.2.2);have k:aQ prog 281 [.pv (bR pv)] [] [] (.pv (cK (ed pv))):=k;generalize ed pv=sp at *;generalize i:ig=g at *
 have key:j.kind=0\/j.kind=1\/j.kind=2\/j.kind=3\/j.kind=4\/j.kind=5\/j.kind=6:=by omega
 rcases key with c|c|c|c|c|c|c
 .have d:gk j.kind (a,b)=g:=by simp[gk,c,i]
  have e:=l;rw[d];generalize g=mp at *;refine Dp func258 λC hP hN=>?_;have f:=@xh;exact GS c
 .have d:gk j.kind (a,b)=iu 0 (a,b):=by simp[gk,c]
  have e:=KB (a:=a) (b:=b) 0;rw[d];generalize iu 0 (a,b)=mp at *;refine Dp func258 λC hP hN=>?_;have f:=@xh;exact GS c
 .have d:gk j.kind (a,b)=iu 1 (a,b):=by simp[gk,c]
  have e:=KB (a:=a) (b:=b) 1;rw[d];generalize iu 1 (a,b)=mp at *;refine Dp func258 λC hP hN=>?_;have f:=@xh;exact GS c
 .have d:gk j.kind (a,b)=iu 2 (a,b):=by simp[gk,c]
  have e:=KB (a:=a) (b:=b) 2;rw[d];generalize iu 2 (a,b)=mp at *;refine Dp func258 λC hP hN=>?_;have f:=@xh;exact GS c
 .have d:gk j.kind (a,b)=ed ((a,b),(0,0),(0,0)):=by simp[gk,c]
  have e:=Hd (v0:=((a,b),(0,0),(0,0)).1.1) (v1:=((a,b),(0,0),(0,0)).1.2) (v2:=((a,b),(0,0),(0,0)).2.1.1) (v3:=((a,b),(0,0),(0,0)).2.1.2) (v4:=((a,b),(0,0),(0,0)).2.2.1) (v5:=((a,b),(0,0),(0,0)).2.2.2);rw[d];generalize ed ((a,b),(0,0),(0,0))=mp at *;refine Dp func258 λC hP hN=>?_;have f:=@xh;exact GS c
 .have d:gk j.kind (a,b)=ed ((0,0),(a,b),(0,0)):=by simp[gk,c]
  have e:=Hd (v0:=((0,0),(a,b),(0,0)).1.1) (v1:=((0,0),(a,b),(0,0)).1.2) (v2:=((0,0),(a,b),(0,0)).2.1.1) (v3:=((0,0),(a,b),(0,0)).2.1.2) (v4:=((0,0),(a,b),(0,0)).2.2.1) (v5:=((0,0),(a,b),(0,0)).2.2.2);rw[d];generalize ed ((0,0),(a,b),(0,0))=mp at *;refine Dp func258 λC hP hN=>?_;have f:=@xh;exact GS c
 .have d:gk j.kind (a,b)=ed ((0,0),(0,0),(a,b)):=by simp[gk,c]
  have e:=Hd (v0:=((0,0),(0,0),(a,b)).1.1) (v1:=((0,0),(0,0),(a,b)).1.2) (v2:=((0,0),(0,0),(a,b)).2.1.1) (v3:=((0,0),(0,0),(a,b)).2.1.2) (v4:=((0,0),(0,0),(a,b)).2.2.1) (v5:=((0,0),(0,0),(a,b)).2.2.2);rw[d];generalize ed ((0,0),(0,0),(a,b))=mp at *;refine Dp func258 λC hP hN=>?_;have f:=@xh;exact GS c
theorem wX(js:List J)(ms:List Ms)(l:Int)(a:js.length<=9223372036854775807):aH 117 (gB js ms) (Z l) (B (eL js.length l)):=by
 refine Dp func117 λC hP hN=>?_
 with_reducible repeat' (first|refine Sp.h ?_|((first|refine Ss.h ?_|(refine Sb.h ?_ ?_ ?_<;>(try intro hgd)<;>try exact Xy))<;>simp -implicitDefEqProofs (maxSteps:=2000000) [hP,hN])|refine X2 ?_ ?_|(refine Xd ?_ ?_<;>intro hcd<;>try exact Xx))
 all_goals (simp only[eL,L4,VY]at *;first|done|(simp;intros;omega)|(simp;omega)|omega)
theorem RG(a b:Bool):am prog (Op.equal 4 (.bool a) (.bool b))=some (a==b):=by cases a<;>cases b<;>kernel_rfl
def Ly(x:AV):Option Bool:=match x with
 |.pv (.val (.bool a))=>some a
 |_=>none
theorem D4{x:AV}{a:Bool}(h:Ly x=some a):x=.pv (B a):=by
 unfold Ly at h;split at h
 .injection h with h;subst h;rfl
 .cases h
def GZ(x y:AV)(fb:Option db):Option db:=match Ly x,Ly y with
 |some a,some b=>some (.pv (.val (.bool !(a==b))),[])
 |_,_=>fb
@[simp] theorem PH(a b:Bool)(fb:Option db):GZ (.pv (.val (.bool a))) (.pv (.val (.bool b))) fb=some (.pv (.val (.bool !(a==b))),[]):=rfl
@[simp] theorem VA(x y:Operand):
 bL prog ⟨dst,.binOp .neq 4 x y 4,ty,pos,aft,g⟩ ρ=GZ (ρ x) (ρ y) (jI prog ⟨dst,.binOp .neq 4 x y 4,ty,pos,aft,g⟩ ρ):=by
 unfold GZ;split
 .rename_i a b c d
  exact EH rfl (D4 c) (D4 d) (by kernel_rfl) (RG a b)
 .rfl
def kX(xs:List Int)(x:Int):Bool:=xs.any (λy=>y==x)
theorem N4(xs:List Int)(x:Int)(m:xs.length<=9223372036854775807):aH 287 (zs xs) (Z x) (B (kX xs x)):=by
 have hd:kX xs x=xs.any (λy=>y==x):=rfl;rw[hd];refine Dp func287 λC hP hN=>?_;refine Gz ?_;refine WP.loopN [] xs.length (λi st=>st.t 0=.pv (zs xs)/\st.t 1=.pv (Z x)/\st.t 5=.pv (Z i)/\∀k y,k<i->xs[k]?=some y->(y==x)=false) (by simp) ?_;rintro i st hi ⟨g0,g1,g5,hq⟩;by_cases a:i<xs.length
 .have n:=aj a m
  generalize d:xs[i]=v at *
  have f:xs[i]?=some v:=by rw[an a,d]
  have c:=G3 (p:=λy=>y==x) f hq;have j:=Kl (p:=λy=>y==x) f
  cases e:(v==x)with
  |true=>
   have g:=j e;exact Gy
  |false=>
   have b:=c e;refine Gz ?_
   all_goals (intro k y l g;simpa using b k y l g)
 .have hn:=Km hq a
  exact Gy
def tK(js:List J)(k:Int):Int:=((js[k.toNat]?).map J.parent).getD (-1)
def gu(js:List J):Nat->Int->List Int
 |0,_=>[]
 |f+1,k=>if k=-1 then[]else gu js f (tK js k)++[k]
theorem ya(b:ss js){k:Int}(c:0<=k)(h1:k<js.length):∃j,js[k.toNat]?=some j/\tK js k=j.parent/\-1<=j.parent/\j.parent<k:=by
 have a:js[k.toNat]?=some (js[k.toNat]'(by omega)):=an _;have:=b _ _ a;unfold Bm at this;refine⟨_,a,by simp[tK,a],by omega,by omega⟩
theorem D5{js:List J}(e:ss js):∀(f:Nat)(k:Int),-1<=k->k<js.length->(k+1).toNat<=f->gu js (f+1) k=gu js f k
 |0,k,g,d,hf=>by
  have:k=-1:=by omega
  subst this;simp[gu]
 |f+1,k,g,d,hf=>by
  by_cases c:k=-1
  .subst c;simp[gu]
  .obtain⟨j,_,hp,a,b⟩:=ya e (by omega) d
   rw[gu,VM c,D5 e f (tK js k) (by omega) (by omega) (by omega),gu,VM c]
theorem D6(c:ss js)(e:js.length<=10){k:Int}(d:0<=k)(h1:k<js.length):gu js 11 k=gu js 11 (tK js k)++[k]:=by
 obtain⟨j,_,hp,a,b⟩:=ya c d h1;rw[gu,VM (by omega),D5 c 10 (tK js k) (by omega) (by omega) (by omega)]
theorem Bl{js:List J}:∀(f:Nat)(k:Int),(gu js f k).length<=f
 |0,k=>by simp[gu]
 |f+1,k=>by
  have:=Bl (js:=js) f (tK js k);rw[gu];split
  .simp
  .simp;omega
theorem N5(js:List J)(ms:List Ms)(l:Int)(F:js.length<=10)(G:ms.length<=9223372036854775807)(u:aO js ms=0)(y:eL js.length l=true):aH 286 (gB js ms) (Z l) (zs (gu js 11 l)):=by
 have D:=sR js ms (by omega) G;have B:=wX js ms l (by omega);rw[u]at D;rw[y]at B;obtain⟨x,_,_⟩:=tj u;simp only[eL,An,L4]at y;refine Dp func286 λC hP hN=>?_;refine Gz ?_;refine WP.nilsl 5 (by simp) ?_;refine WP.loopN [26] (l+1).toNat (λi st=>∃(A:List Int)(k:Int),st.t 2=.ptr 2 0/\st.h 2=some (.box [.pv (.sl (js.map bu)),.pv (.sl (ms.map cE))] true false)/\st.t 5=.pv (zs A)/\st.t 6=.pv (Z k)/\st.h 26=none/\st.h 28=none/\gu js 11 k++A=gu js 11 l/\-1<=k/\k<js.length/\(k+1).toNat+i<=(l+1).toNat/\A.length<=i) ⟨[],l,by simp;omega⟩ ?_;rintro i st hi ⟨A,k,g2,f,g5,s,b,c,p,K,z,L,E⟩;by_cases a:k=-1
 .subst a
  have q:A=gu js 11 l:=by rw[<-p];simp[gu]
  subst q;exact Gy
 .obtain⟨j,m,hp,H,pb⟩:=ya x (by omega) z
  have d:(k != -1)=true:=by simp[a]
  obtain⟨n,rfl⟩:∃n:Nat,k=n:=⟨k.toNat,by omega⟩
  have g:n<js.length:=by omega
  have o:∀h,js[n]'h=j:=λh=>by rw[V7,an h]at m;exact WE m
  rw[V7]at m;have r:=D6 x F (k:=n) (by omega) z;rw[r,W3,hp]at p
  have v:A.length<=9:=by omega
  have I:(A.map Z).length=A.length:=by simp
  with_reducible iterate 8 any_goals (first|refine Sp.h ?_|((first|refine Wh [26] ?_|refine Ss.h ?_|(refine Sb.h ?_ ?_ ?_<;>(try intro hgd)<;>try exact Xy))<;>simp -implicitDefEqProofs (maxSteps:=2000000) [hP,hN,g2,f,g5,s,b,c,a,d,m,o,g,show(1+A.length)*8<=140737488355328 by omega,show(A.length+1)*8<=140737488355328 by omega,show 1+A.length<=9223372036854775807 by omega,show A.length+1<=9223372036854775807 by omega])|refine X2 ?_ ?_|(refine Xd ?_ ?_<;>intro hcd<;>try exact Xx))
  refine WP.freeze 5 (k:=26) (e:=3) (sz:=1) (fz:=0) (xs:=((n:Int)::A).map Z) (by simp) (by simp;omega) ?_;refine GT (s5 g2 f g5 s b c a d m (gA o g)) ?_;exact⟨by omega,(n:Int)::A,by simp,by simpa using p,H,by omega,by omega,by simp;omega⟩
def IG(js:List J)(a b:Int)(k:Nat):Bool:=kX (gu js 11 a) k !=kX (gu js 11 b) k
def qN(js:List J)(a b:Int)(n:Nat):List Int:=((List.range n).filter (IG js a b)).map Int.ofNat
theorem Kb(js:List J)(a b:Int)(n:Nat):qN js a b (n+1)=qN js a b n++(if IG js a b n=true then[(n:Int)]else[]):=by
 simp only[qN,Xk,XI,XZ]
 congr 1
 cases h:IG js a b n<;>simp[h]
theorem FP(js:List J)(a b:Int)(n:Nat):(qN js a b n).length<=n:=by
 simp only[qN,Wp];exact XH (Yj _ _) (by simp)
theorem RH(js:List J)(ms:List Ms)(a b:Int)(u:js.length<=10)(n:ms.length<=9223372036854775807)(l:aO js ms=0)(r:eL js.length a=true)(s:eL js.length b=true):mW 264 (gB js ms) (Z a) (Z b) (zs (qN js a b js.length)):=by
 have B:=sR js ms (by omega) n;have y:=wX js ms a (by omega);have z:=wX js ms b (by omega);have F:=N5 js ms a u n l r;have G:=N5 js ms b u n l s;have H:=Bl (js:=js) 11 a;have I:=Bl (js:=js) 11 b;rw[l]at B;rw[r]at y;rw[s]at z;refine Dp func264 λC hP hN=>?_;refine sN [9] trivial ?_;refine WP.loopN [] js.length (λi st=>st.t 3=.ptr 3 0/\st.h 3=some (.box [.pv (.sl (js.map bu)),.pv (.sl (ms.map cE))] true false)/\st.t 7=.pv (zs (gu js 11 a))/\st.t 8=.pv (zs (gu js 11 b))/\st.t 10=.pv (Z i)/\st.t 9=.arr 9 (qN js a b i).length/\st.h 9=some (.row 3 1 ((qN js a b i).map Z) 0)) (by simp[qN]) ?_;rintro i st hi ⟨g3,f,o,p,e,q,g⟩;by_cases d:i<js.length
 .have v:=aj d (by omega)
  have hS:=Kb js a b i;have hL:=FP js a b i;have hd:IG js a b i=(kX (gu js 11 a) i !=kX (gu js 11 b) i):=rfl;have j:=N4 (gu js 11 a) i (by omega);have k:=N4 (gu js 11 b) i (by omega)
  have c:(i:Int)<(js.length:Int):=by omega
  generalize gu js 11 a=A at *;generalize gu js 11 b=x at *;cases D:kX A i<;>cases E:kX x i<;>rw[D]at j hd<;>rw[E]at k hd<;>rw[hd]at hS<;>simp only[bne_self_eq_false,VP,VZ,X1,show(true !=false)=true from rfl,show(false !=true)=true from rfl,V8]at hS
  all_goals (generalize qN js a b i=P at *;rw[hS])
  .skip
   exact Gy
  .skip
   with_reducible repeat' (first|refine Sp.h ?_|((first|refine Wd ?_|refine Ss.h ?_|refine Sc.h (j) ?_|refine Sc.h (k) ?_|(refine Sb.h ?_ ?_ ?_<;>(try intro hgd)<;>try exact Xy))<;>simp -implicitDefEqProofs (maxSteps:=2000000) [hP,hN,g3,f,o,p,e,q,g,d,c,v,show(P.length+1)*8<=140737488355328 by omega,show P.length<=9223372036854775806 by omega]<;>try refine Ya ?_)|refine X2 ?_ ?_|(refine Xd ?_ ?_<;>intro hcd<;>try exact Xx))
  .skip
   with_reducible repeat' (first|refine Sp.h ?_|((first|refine Wd ?_|refine Ss.h ?_|refine Sc.h (j) ?_|refine Sc.h (k) ?_|(refine Sb.h ?_ ?_ ?_<;>(try intro hgd)<;>try exact Xy))<;>simp -implicitDefEqProofs (maxSteps:=2000000) [hP,hN,g3,f,o,p,e,q,g,d,c,v,show(P.length+1)*8<=140737488355328 by omega,show P.length<=9223372036854775806 by omega]<;>try refine Ya ?_)|refine X2 ?_ ?_|(refine Xd ?_ ?_<;>intro hcd<;>try exact Xx))
  .skip
   exact Gy
 .have m:i=js.length:=by omega
  subst m;exact Gy
def qi(js:List J)(k:Nat):Bool:=match js[k]? with
 |some j=>decide (j.lo<j.hi)
 |none=>false
def v9(js:List J)(a b:Int):Bool:=(qN js a b js.length).all λk=>!qi js k.toNat
theorem RI(js:List J)(ms:List Ms)(a b:Int)(L:js.length<=10)(D:ms.length<=9223372036854775807)(u:aO js ms=0)(y:eL js.length a=true)(z:eL js.length b=true):mW 219 (gB js ms) (Z a) (Z b) (B (v9 js a b)):=by
 have G:=sR js ms (by omega) D;have E:=wX js ms a (by omega);have F:=wX js ms b (by omega);have Q:=RH js ms a b L D u y z;have R:=FP js a b js.length;rw[u]at G;rw[y]at E;rw[z]at F;have hd:v9 js a b=(qN js a b js.length).all λk=>!qi js k.toNat:=rfl
 have f:∀x∈qN js a b js.length,∃n:Nat,x=n/\n<js.length:=λx d=>by
  simp only[qN,Wf,WX,Wz]at d;obtain⟨n,hn,rfl⟩:=d;exact⟨n,rfl,hn.1⟩
 rw[hd];generalize qN js a b js.length=P at *;refine Dp func219 λC hP hN=>?_;refine Gz ?_;refine WP.loopN [] P.length (λi st=>st.t 3=.ptr 3 0/\st.h 3=some (.box [.pv (.sl (js.map bu)),.pv (.sl (ms.map cE))] true false)/\st.t 7=.pv (zs P)/\st.t 8=.pv (Z i)/\∀k x,k<i->P[k]?=some x->(!qi js x.toNat)=true) (by simp) ?_;rintro i st hi ⟨g3,H,M,N,hq⟩;by_cases c:i<P.length
 .have O:=aj c (by omega)
  obtain⟨n,s,o⟩:=f P[i] (Wb c);generalize r:P[i]=v at *
  have d:P[i]?=some v:=by rw[an c,r]
  have q:=nE (p:=λk=>!qi js k.toNat) d hq;subst s;obtain⟨j,m⟩:∃j,js[n]?=some j:=⟨_,an o⟩
  have I:∀h,js[n]'h=j:=λh=>by rw[an h]at m;exact WE m
  have g:qi js n=decide (j.lo<j.hi):=by simp[qi,m]
  by_cases A:j.lo<j.hi
  .have e:(P.all λk=>!qi js k.toNat)=false:=by
    rw[Xt];exact⟨_,Is d,by simp[g,A]⟩
   exact Gy
  .have l:=q (by simp[g,A])
   refine Gz ?_
   all_goals (intro k x K d;simpa using l k x K d)
 .have e:(P.all λk=>!qi js k.toNat)=true:=pD hq c
  exact Gy
theorem RJ(s:Sce)(a b:Int)(D:s.sks.length<=9223372036854775807):mW 220 (eK s) (Z a) (Z b) (B (kz s a b)):=by
 have o:kz s a b=s.sks.any (xd a b):=rfl;rw[o];refine Dp func220 λC hP hN=>?_;refine Gz ?_;refine WP.loopN [8] s.sks.length (λi st=>st.t 3=.ptr 3 0/\st.h 3=some (.box [.pv (.sl (s.js.map bu)),.pv (.sl (s.ms.map cE)),.pv (.sl (s.shs.map cD)),.pv (.sl (s.sks.map aN))] true false)/\st.t 1=.pv (Z a)/\st.t 2=.pv (Z b)/\st.t 7=.pv (Z i)/\st.h 8=none/\∀k x,k<i->s.sks[k]?=some x->xd a b x=false) (by simp) ?_;rintro i st hi ⟨g3,m,g1,g2,A,n,hq⟩;by_cases c:i<s.sks.length
 .have E:=aj c D
  have d:(i:Int)<(s.sks.length:Int):=by omega
  generalize j:s.sks[i]=v at *
  have f:s.sks[i]?=some v:=by rw[an c,j]
  have e:=G3 (p:=xd a b) f hq;have l:=Kl (p:=xd a b) f;have hp:xd a b v=((v.1==a&&v.2==b)||(v.1==b&&v.2==a)):=rfl;cases q:(v.1==a)<;>cases r:(v.2==b)<;>cases y:(v.1==b)<;>cases z:(v.2==a)<;>rw[q,r,y,z]at hp<;>simp only[Xf,Xi,Ww,Bool.or_false,Bool.false_or,Bool.or_self,Bool.or_true,Bool.true_or]at hp
  all_goals (first|(have g:=e hp;clear e l)|(have G:=l hp;clear e l))
  all_goals
   with_reducible repeat' (first|refine Sp.h ?_|((first|refine Ss.h ?_|(refine Sb.h ?_ ?_ ?_<;>(try intro hgd)<;>try exact Xy))<;>simp -implicitDefEqProofs (maxSteps:=2000000) [hP,hN,g3,m,g1,g2,A,n,c,d,E,f,j,q,r,y,z])|refine X2 ?_ ?_|(refine Xd ?_ ?_<;>intro hcd<;>try exact Xx))
  all_goals (first|exact λk u v F f=>g k (u,v) (by omega) f|exact⟨_,_,Is f,hp⟩)
 .have:=Km hq c
  have d:¬(i:Int)<(s.sks.length:Int):=by omega
  exact Gy
theorem IH(s:Sce)(hs:ScL s):bh 58 (eK s) (Z (aY s)):=by
 have Y:=sR s.js s.ms hs.js hs.ms;obtain⟨Q,l2,l3,l4,l5⟩:=hs;by_cases H:aO s.js s.ms=0
 case neg=>
  have hf:aY s=aO s.js s.ms:=by simp[aY,H]
  have ad:(aO s.js s.ms !=0)=true:=by simp[H]
  rw[hf];generalize aO s.js s.ms=r at *;refine Dp func58 λC hP hN=>?_;exact Gy
 rw[H]at Y;by_cases V:24<s.shs.length
 .have hf:aY s=901:=by simp[aY,H,V]
  have N:(24:Int)<s.shs.length:=by omega
  rw[hf];refine Dp func58 λC hP hN=>?_;exact Gy
 have N:¬(24:Int)<s.shs.length:=by omega
 have hf:aY s=if iO s.js.length s.shs≠0 then iO s.js.length s.shs else if 64<s.sks.length then 903 else if s.sks.all (kY s.js.length)=true then 0 else 903:=by simp only[aY,H,V,VZ,ne_eq,Xp]
 rw[hf];refine Dp func58 λC hP hN=>?_;refine Gz ?_;refine WP.loopN [5] s.shs.length (λi st=>st.t 1=.ptr 1 0/\st.h 1=some (.box [.pv (.sl (s.js.map bu)),.pv (.sl (s.ms.map cE)),.pv (.sl (s.shs.map cD)),.pv (.sl (s.sks.map aN))] true false)/\st.t 4=.pv (Z i)/\st.h 5=none/\∀k x,k<i->s.shs[k]?=some x->dQ s.js.length x=0) (by simp) ?_;rintro i st hi ⟨g1,o,g4,E,hq⟩;by_cases g:i<s.shs.length
 .have W:=aj g l3
  have l:(i:Int)<(s.shs.length:Int):=by omega
  have q:=wc (n:=s.js.length) g hq;have y:=λhe=>nE (p:=λx=>dQ s.js.length x==0) (an g) (λk x D u=>by simp[hq k x D u]) he;generalize B:s.shs[i]=v at *
  have u:s.shs[i]?=some v:=by rw[an g,B]
  have U:=wX s.js s.ms v.link Q;have T:=Gw v.rad 1 1048576;have lv:=l5 v (Is u)
  cases D:eL s.js.length v.link with
  |false=>
   have e:dQ s.js.length v=902:=by simp[dQ,D]
   have d:=q (by rw[e];decide);rw[e]at d;rw[D]at U;exact Gy
   all_goals simp[d]
  |true=>
   rw[D]at U
   cases K:bt v.rad 1 1048576 with
   |false=>
    have e:dQ s.js.length v=902:=by
     unfold dQ;rw[VM];simp only[bt]at K;simp only[An,L4];simp at K;omega
    have d:=q (by rw[e];decide);rw[e]at d;rw[K]at T;exact Gy
    all_goals simp[d]
   |true=>
    rw[K]at T;by_cases h3:(v.pts.length:Int)<1
    .have e:dQ s.js.length v=902:=by
      unfold dQ;rw[VM];simp only[An,L4];omega
     have d:=q (by rw[e];decide);rw[e]at d;exact Gy
     all_goals simp[d]
    by_cases h4:(8:Int)<v.pts.length
    .have e:dQ s.js.length v=902:=by
      unfold dQ;rw[VM];simp only[An,L4];omega
     have d:=q (by rw[e];decide);rw[e]at d;exact Gy
     all_goals simp[d]
    have ar:¬v.pts.length<1:=by omega
    have a1:¬8<v.pts.length:=by omega
    have e:dQ s.js.length v=if v.pts.all (aB 4194304)=true then 0 else 805:=by
     unfold dQ;rw[VS];simp only[bt,An,L4]at K|-;exact⟨⟨⟨⟨D,by omega⟩,by omega⟩,by omega⟩,by omega⟩
    rw[e]at q y;refine Gz ?_;refine WP.loopN [] v.pts.length (λk st=>st.t 1=.ptr 1 0/\st.h 1=some (.box [.pv (.sl (s.js.map bu)),.pv (.sl (s.ms.map cE)),.pv (.sl (s.shs.map cD)),.pv (.sl (s.sks.map aN))] true false)/\st.t 4=.pv (Z i)/\st.t 5=.ptr 5 0/\st.h 5=some (.box [.pv (Z v.link),.pv (Z v.rad),.pv (aP v.pts)] true false)/\st.t 6=.pv (Z k)/\∀j x,j<k->v.pts[j]?=some x->aB 4194304 x=true) (by simp[g1,o,g4]) ?_;clear g1 o g4 E;rintro k st a5 ⟨g1,o,g4,g5,E,g6,hn⟩;by_cases F:k<v.pts.length
    .have a6:=aj F lv
     have J:(k:Int)<(v.pts.length:Int):=by omega
     generalize P:v.pts[k]=p at *
     have X:v.pts[k]?=some p:=by rw[an F,P]
     have M:=rW p.1 p.2.1 p.2.2 4194304 (by decide) (by decide);have O:aB 4194304 p=hC p.1 p.2.1 p.2.2 4194304:=rfl;rw[<-O]at M;have L:=nE (p:=aB 4194304) X hn
     cases z:aB 4194304 p with
     |true=>
      rw[z]at M;have m:=L z;refine Gz ?_
      all_goals (intro j a b c hj G;exact m j (a,b,c) (by omega) G)
     |false=>
      rw[z]at M
      have f:v.pts.all (aB 4194304)=false:=by
       rw[Xt];exact⟨p,Is X,by simp[z]⟩
      rw[f]at q;have d:=q (by decide);simp only[VP,VZ]at d;exact Gy
      all_goals simp[d]
    .have f:v.pts.all (aB 4194304)=true:=pD hn F
     have J:¬(k:Int)<(v.pts.length:Int):=by omega
     rw[f]at y
     have m:∀k x,k<i+1->s.shs[k]?=some x->dQ s.js.length x=0:=λk x D u=>by simpa using y (by simp) k x D u
     refine Gz ?_
     all_goals exact m
 .have hz:iO s.js.length s.shs=0:=xc (λk x u=>hq k x (by have:=(th.1 u).1;omega) u)
  have l:¬(i:Int)<(s.shs.length:Int):=by omega
  rw[hz];by_cases a2:64<s.sks.length
  .have I:(64:Int)<s.sks.length:=by omega
   exact Gy
  .have I:¬(64:Int)<s.sks.length:=by omega
   refine Gz ?_;refine WP.loopN [] s.sks.length (λi st=>st.t 1=.ptr 1 0/\st.h 1=some (.box [.pv (.sl (s.js.map bu)),.pv (.sl (s.ms.map cE)),.pv (.sl (s.shs.map cD)),.pv (.sl (s.sks.map aN))] true false)/\st.t 7=.pv (Z i)/\∀k x,k<i->s.sks[k]?=some x->kY s.js.length x=true) (by simp[g1,o]) ?_;clear g1 o g4 E hq g l;rintro i st hi ⟨g1,o,g7,hq⟩;by_cases g:i<s.sks.length
   .have W:=aj g l4
    have l:(i:Int)<(s.sks.length:Int):=by omega
    generalize B:s.sks[i]=v at *
    have u:s.sks[i]?=some v:=by rw[an g,B]
    have y:=nE (p:=kY s.js.length) u hq;have hp:kY s.js.length v=(eL s.js.length v.1&&eL s.js.length v.2):=rfl;have R:=wX s.js s.ms v.1 Q;have S:=wX s.js s.ms v.2 Q
    cases z:kY s.js.length v with
    |true=>
     have A:=hp;rw[z]at A;simp only[Bool.true_eq,An]at A;rw[A.1]at R;rw[A.2]at S;have m:=y z;refine Gz ?_
     all_goals (intro j a b hj G;exact m j (a,b) (by omega) G)
    |false=>
     have f:s.sks.all (kY s.js.length)=false:=by
      rw[Xt];exact⟨v,Is u,by simp[z]⟩
     rw[f];rw[z]at hp
     cases k1:eL s.js.length v.1<;>cases k2:eL s.js.length v.2<;>rw[k1]at R hp<;>rw[k2]at S hp<;>try (exact absurd hp (by decide))
     all_goals
      exact GS (so g1 o g7 g l W u B)
   .have f:s.sks.all (kY s.js.length)=true:=pD hq g
    have l:¬(i:Int)<(s.sks.length:Int):=by omega
    rw[f];exact Gy
theorem Tb(s:Sh)(E:s.pts.length<=9223372036854775807):bh 261 (cD s) (B (gM s)):=by
 have hd:gM s=(decide (1<=s.rad)&&decide (s.rad<=1048576)&&decide (1<=s.pts.length)&&decide (s.pts.length<=8)&&s.pts.all (aB 4194304)):=rfl;by_cases A:s.rad<1\/1048576<s.rad\/(s.pts.length:Int)<1\/(8:Int)<s.pts.length
 .have hf:gM s=false:=by
   cases h:gM s with
   |false=>rfl
   |true=>
    rw[hd]at h;simp only[An,L4]at h;omega
  rw[hf];rcases A with l|l|l|l
  all_goals
   refine Dp func261 λC hP hN=>?_;exact Gy
 have l:¬s.rad<1:=by omega
 have G:¬1048576<s.rad:=by omega
 have H:¬(s.pts.length:Int)<1:=by omega
 have I:¬(8:Int)<s.pts.length:=by omega
 have v:¬s.pts.length<1:=by omega
 have y:¬8<s.pts.length:=by omega
 have hf:gM s=s.pts.all (aB 4194304):=by
  rw[hd,Wv (by omega),Wv (by omega),Wv (by omega),Wv (by omega)];rfl
 rw[hf];refine Dp func261 λC hP hN=>?_;refine Gz ?_;refine WP.loopN [] s.pts.length (λk st=>st.t 1=.ptr 1 0/\st.h 1=some (.box [.pv (Z s.link),.pv (Z s.rad),.pv (aP s.pts)] true false)/\st.t 3=.pv (Z k)/\∀j x,j<k->s.pts[j]?=some x->aB 4194304 x=true) (by simp) ?_;rintro k st D ⟨g1,z,g3,hn⟩;by_cases d:k<s.pts.length
 .have F:=aj d E
  have f:(k:Int)<(s.pts.length:Int):=by omega
  generalize r:s.pts[k]=p at *
  have u:s.pts[k]?=some p:=by rw[an d,r]
  have n:=rW p.1 p.2.1 p.2.2 4194304 (by decide) (by decide);have o:aB 4194304 p=hC p.1 p.2.1 p.2.2 4194304:=rfl;rw[<-o]at n;have i:=nE (p:=aB 4194304) u hn
  cases m:aB 4194304 p with
  |true=>
   rw[m]at n;have g:=i m;refine Gz ?_
   all_goals (intro j a b c J q;exact g j (a,b,c) (by omega) q)
  |false=>
   rw[m]at n
   have e:s.pts.all (aB 4194304)=false:=by
    rw[Xt];exact⟨p,Is u,by simp[m]⟩
   exact Gy
 .have e:s.pts.all (aB 4194304)=true:=pD hn d
  have f:¬(k:Int)<(s.pts.length:Int):=by omega
  exact Gy
theorem Tc(h:Sh)(p:oI)(hs:gM h=true):aH 218 (cD h) (cK p) (aF (eR h p)):=by
 have h8:h.pts.length<=8:=by
  simp only[gM,An,L4]at hs;omega
 have cc:=Tb h (by omega);rw[hs]at cc;have c:eR h p=h.pts.map λq=>iW p (dZ q):=rfl;have o:∀v:aq,aQ prog 262 [.pv (cK p),.pv (bR v)] [] [] (.pv (bR (iW p v))):=λv=>S9;have r:∀q:Vc,aQ prog 263 [.pv (ao q)] [] [] (.pv (bR (dZ q))):=λq=>OM q.1 q.2.1 q.2.2;have k:(cK p).cells=[Z p.1.1.1.1,Z p.1.1.1.2,Z p.1.1.2.1.1,Z p.1.1.2.1.2,Z p.1.1.2.2.1,Z p.1.1.2.2.2,Z p.1.2.1.1.1,Z p.1.2.1.1.2,Z p.1.2.1.2.1.1,Z p.1.2.1.2.1.2,Z p.1.2.1.2.2.1,Z p.1.2.1.2.2.2,Z p.1.2.2.1.1,Z p.1.2.2.1.2,Z p.1.2.2.2.1.1,Z p.1.2.2.2.1.2,Z p.1.2.2.2.2.1,Z p.1.2.2.2.2.2,Z p.2.1.1,Z p.2.1.2,Z p.2.2.1.1,Z p.2.2.1.2,Z p.2.2.2.1,Z p.2.2.2.2]:=rfl;refine Dp func218 λC hP hN=>?_;refine sN [5] trivial ?_;refine WP.loopN [] h.pts.length (λi st=>st.t 2=.ptr 2 0/\st.t 3=.ptr 3 0/\st.h 2=some (.box [.pv (Z h.link),.pv (Z h.rad),.pv (aP h.pts)] true false)/\st.h 3=some (.box ((cK p).cells.map .pv) true false)/\st.t 6=.pv (Z i)/\st.t 5=.arr 5 i/\st.h 5=some (.row 216 6 (((eR h p).map bR).take i) 0)) (by simp) ?_;rintro i st hi ⟨g2,g3,g,d,m,g5,e⟩
 have l:min i (eR h p).length=i:=by rw[c,Wp];omega
 by_cases b:i<h.pts.length
 .have u:=aj b (by omega)
  have a:(i:Int)<(h.pts.length:Int):=by omega
  generalize j:h.pts[i]=q at *
  have n:h.pts[i]?=some q:=by rw[an b,j]
  have hS:((eR h p).map bR).take (i+1)=((eR h p).map bR).take i++[bR (iW p (dZ q))]:=by
   rw[List.take_succ,VN,c,VN,n];rfl
  have s:=r q;have cv:=o (dZ q);rw[hS]
  have hL:(((eR h p).map bR).take i).length=i:=by simp[l]
  generalize((eR h p).map bR).take i=R at *;generalize iW p (dZ q)=x at *;generalize dZ q=w at *;rw[k]at d
  with_reducible repeat' (first|refine Sp.h ?_|((first|refine Wd ?_|refine Ss.h ?_|refine Sc.h (s) ?_|refine Sc.h (cv) ?_|(refine Sb.h ?_ ?_ ?_<;>(try intro hgd)<;>try exact Xy))<;>simp -implicitDefEqProofs (maxSteps:=2000000) [hP,hN,g2,g3,g,d,m,g5,e,b,a,n,j,u,hL,show(i+1)*48<=140737488355328 by omega,show i<=9223372036854775806 by omega]<;>try refine Ya ?_)|refine X2 ?_ ?_|(refine Xd ?_ ?_<;>intro hcd<;>try exact Xx))
 .have a:¬(i:Int)<(h.pts.length:Int):=by omega
  have f:((eR h p).map bR).take i=(eR h p).map bR:=Wg (by rw[Wp,c,Wp];omega);rw[f]at e
  have hL:(eR h p).length=i:=by rw[c,Wp];omega
  with_reducible repeat' (first|refine Sp.h ?_|((first|refine Wd ?_|refine Ss.h ?_|(refine Sb.h ?_ ?_ ?_<;>(try intro hgd)<;>try exact Xy))<;>simp -implicitDefEqProofs (maxSteps:=2000000) [hP,hN,g2,g3,g,d,m,g5,e,b,a,hL]<;>try refine Ya ?_)|refine X2 ?_ ?_|(refine Xd ?_ ?_<;>intro hcd<;>try exact Xx))
theorem He(h:dM x=false):x.1< -268435456\/x.2<x.1\/268435456<x.2:=by
 by_cases a:x.1< -268435456\/x.2<x.1\/268435456<x.2
 .exact a
 .have:dM x=true:=by rw[gh];omega
  rw[h]at this;cases this
theorem Ce{x0 x1 x2 x3 x4 x5:Int}:bh 270 (V6 x0 x1 x2 x3 x4 x5) (B (dk ((x0,x1),(x2,x3),(x4,x5)))):=by
 have hd:dk ((x0,x1),(x2,x3),(x4,x5))=(dM (x0,x1)&&dM (x2,x3)&&dM (x4,x5)):=rfl;rw[hd];obtain⟨m,b⟩:∃m:Nat,m=(if dM (x0,x1)then(if dM (x2,x3)then(if dM (x4,x5)then 3 else 2)else 1)else 0):=⟨_,rfl⟩;refine Dp func270 λC hP hN=>?_;refine Gz ?_;refine WP.loopN [] 3 (λk st=>st.t 1=.ptr 1 0/\st.h 1=some (.box [.pv (Z x0),.pv (Z x1),.pv (Z x2),.pv (Z x3),.pv (Z x4),.pv (Z x5)] true false)/\st.t 3=.pv (Z k)/\k<=m) (by simp) ?_;rintro k st i ⟨g1,g,g3,j⟩;cases c:dM (x0,x1)<;>rw[c]at b
 .simp only[VP,VZ]at b
  have:k=0:=by omega
  subst this;have a:=He c;simp only at a;rcases a with q|q|q
  all_goals
   exact Gy
 simp only[V8]at b;have l:=gh.1 c;simp only at l;cases d:dM (x2,x3)<;>rw[d]at b
 .simp only[VP,VZ]at b
  have f:k=0\/k=1:=by omega
  rcases f with rfl|rfl
  .skip
   exact Gy
   all_goals omega
  .have a:=He d
   simp only at a;rcases a with q|q|q
   all_goals
    exact Gy
 simp only[V8]at b;have n:=gh.1 d;simp only at n;cases e:dM (x4,x5)<;>rw[e]at b
 .simp only[VP,VZ]at b
  have f:k=0\/k=1\/k=2:=by omega
  rcases f with rfl|rfl|rfl
  .skip
   exact Gy
   all_goals omega
  .skip
   exact Gy
   all_goals omega
  .have a:=He e
   simp only at a;rcases a with q|q|q
   all_goals
    exact Gy
 simp only[V8]at b;have o:=gh.1 e;simp only at o;rcases eJ i with rfl|rfl|rfl|rfl
 .skip
  exact Gy
  all_goals omega
 .skip
  exact Gy
  all_goals omega
 .skip
  exact Gy
  all_goals omega
 .skip
  exact Gy
theorem OR(v:aq):bh 270 (bR v) (B (dk v)):=Ce
theorem xi(xs:List aq)(M:xs.length<=9223372036854775807):bh 239 (aF xs) (B (ay xs)):=by
 by_cases h8:xs.length<=8
 .have F:∀i:Nat,i<xs.length->i64.wrap ((i:Int)+1)=(i:Int)+1:=λi h=>aa (by omega) (by omega)
  refine Dp func239 λC hP hN=>?_;refine Gz ?_;refine WP.loopN [] xs.length (λi st=>st.t 0=.pv (aF xs)/\st.t 3=.pv (Z i)/\∀k x,k<i->xs[k]?=some x->dk x=true) (by simp) ?_;rintro i st hi ⟨g0,g3,hq⟩;by_cases g:i<xs.length
  .have J:=F i g
   have m:(i:Int)<(xs.length:Int):=by omega
   have A:(i:Int)<=8:=by omega
   have r:i<=8:=by omega
   generalize n:xs[i]=v at *
   have G:xs[i]?=some v:=by rw[an g,n]
   have u:=OR v;have E:=nE (p:=dk) G hq
   cases o:dk v with
   |true=>
    rw[o]at u;have s:=E o;refine Gz ?_
    all_goals exact λk a b c d e f L H=>s k ((a,b),(c,d),(e,f)) (by omega) H
   |false=>
    rw[o]at u
    have j:xs.all dk=false:=by
     rw[Xt];exact⟨v,Is G,by simp[o]⟩
    have l:ay xs=false:=by simp[ay,j]
    rw[l];exact Gy
  .have j:xs.all dk=true:=pD hq g
   have m:¬(i:Int)<(xs.length:Int):=by omega
   have l:ay xs=decide (1<=xs.length):=by
    rw[ay,j,Wv h8,Xw,Xw]
   rw[l];by_cases I:1<=xs.length
   .have q:(1:Int)<=(xs.length:Int):=by omega
    have y:(xs.length:Int)<=8:=by omega
    exact Gy
   .have q:¬(1:Int)<=(xs.length:Int):=by omega
    exact Gy
 .have l:ay xs=false:=by
   cases h:ay xs with
   |false=>rfl
   |true=>simp only[ay,An,L4]at h;omega
  rw[l];refine Dp func239 λC hP hN=>?_;refine Gz ?_;refine WP.loopN [] 9 (λi st=>st.t 0=.pv (aF xs)/\st.t 3=.pv (Z i)) (by simp) ?_;rintro i st hi ⟨g0,g3⟩
  have g:i<xs.length\/i=9:=by omega
  by_cases A:i<=8
  .have g:i<xs.length:=by omega
   have J:i64.wrap ((i:Int)+1)=(i:Int)+1:=aa
   have m:(i:Int)<(xs.length:Int):=by omega
   have r:(i:Int)<=8:=by omega
   generalize n:xs[i]=v at *
   have G:xs[i]?=some v:=by rw[an g,n]
   have u:=OR v;cases o:dk v<;>rw[o]at u
   .skip
    exact Gy
   .skip
    refine Gz ?_
    all_goals omega
  .have D:i=9:=by omega
   subst D
   have y:¬(xs.length:Int)<=8:=by omega
   have q:(1:Int)<=(xs.length:Int):=by omega
   have I:1<=xs.length:=by omega
   by_cases K:(9:Int)<(xs.length:Int)
   .have z:9<xs.length:=by omega
    exact Gy
   .have z:¬9<xs.length:=by omega
    exact Gy
theorem OS(x:Iv):jG x=mG x:=by
 unfold jG mG;split
 .rename_i h
  have h:=ew.1 h;rw[aa (by omega) (by omega),Int.fdiv_eq_ediv_of_nonneg _ (by decide)]
 .rfl
theorem Bv(xs:List aq)(o:xs.length<=9223372036854775807):bh 165 (aF xs) (aP (aA xs)):=by
 have m:=xi xs o
 cases hp:ay xs with
 |false=>
  rw[hp]at m
  have f:aA xs=[]:=by simp[aA,hp]
  rw[f];refine Dp func165 λC hP hN=>?_;exact Gy
 |true=>
  rw[hp]at m
  have h8:xs.length<=8:=by
   simp only[ay,An,L4]at hp;omega
  have f:aA xs=xs.map jK:=by simp[aA,hp]
  rw[f];refine Dp func165 λC hP hN=>?_;refine sN [3] trivial ?_;refine WP.loopN [] xs.length (λi st=>st.t 0=.pv (aF xs)/\st.t 4=.pv (Z i)/\st.t 3=.arr 3 i/\st.h 3=some (.row 68 3 (((xs.map jK).map ao).take i) 0)) (by simp) ?_;rintro i st hi ⟨g0,g4,g3,d⟩
  have g:min i xs.length=i:=by omega
  by_cases c:i<xs.length
  .have p:=aj c (by omega)
   have a:(i:Int)<(xs.length:Int):=by omega
   generalize e:xs[i]=v at *
   have n:xs[i]?=some v:=by rw[an c,e]
   have j:=Ou v.1;have k:=Ou v.2.1;have l:=Ou v.2.2;rw[OS]at j k l
   have hS:((xs.map jK).map ao).take (i+1)=((xs.map jK).map ao).take i++[ao (mG v.1,mG v.2.1,mG v.2.2)]:=by
    rw[List.take_succ,VN,VN,n];rfl
   rw[hS]
   have hL:(((xs.map jK).map ao).take i).length=i:=by simp[g]
   generalize((xs.map jK).map ao).take i=R at *
   with_reducible repeat' (first|refine Sp.h ?_|((first|refine Wd ?_|refine Ss.h ?_|refine Sc.h (j) ?_|refine Sc.h (k) ?_|refine Sc.h (l) ?_|(refine Sb.h ?_ ?_ ?_<;>(try intro hgd)<;>try exact Xy))<;>simp -implicitDefEqProofs (maxSteps:=2000000) [hP,hN,g0,g4,g3,d,c,a,n,e,p,hL,show(i+1)*24<=140737488355328 by omega,show i<=9223372036854775806 by omega]<;>try refine Ya ?_)|refine X2 ?_ ?_|(refine Xd ?_ ?_<;>intro hcd<;>try exact Xx))
  .have a:¬(i:Int)<(xs.length:Int):=by omega
   have b:((xs.map jK).map ao).take i=(xs.map jK).map ao:=Wg (by simp;omega);rw[b]at d
   have hL:xs.length=i:=by omega
   exact Gy
theorem OT(js:List J)(ms:List Ms)(bx:List Iv)(d:js.length<=9223372036854775807)(a:bx.length<=9223372036854775807):aH 112 (gB js ms) (iv bx) (B (kA js bx)):=by
 have hd:kA js bx=(decide (bx.length=js.length)&&bj vI bx):=rfl;have c:=iy bx a;by_cases h:bx.length=js.length
 .rw[hd,Wv h,We]
  have b:((bx.length:Int)==(js.length:Int))=true:=by simp[h]
  generalize bj vI bx=r at *;refine Dp func112 λC hP hN=>?_;exact Gy
 .rw[hd,WW h,Ww]
  have b:((bx.length:Int)==(js.length:Int))=false:=by simp;omega
  refine Dp func112 λC hP hN=>?_;exact Gy
set_option maxRecDepth 4000 in
theorem Td(js:List J)(ms:List Ms)(bx:List Iv)(hm:ms.length<=9223372036854775807)(h0:aO js ms=0)(F:kA js bx=true):aH 216 (gB js ms) (iv bx) (.sl ((iG js bx).map cK)):=by
 obtain⟨hj,hl,_⟩:=tj h0;have hb:=(vF.1 F).1;have cr:=sR js ms (by omega) hm;have cb:=OT js ms bx (by omega) (by omega);rw[h0]at cr;rw[F]at cb;have M:(iG js bx).length=js.length:=k8 hb _ (VU _);have N:=λi j v(h1:js[i]?=some j)(h2:bx[i]?=some v)=>Eh hb h1 h2 (hj i j h1);generalize iG js bx=l at *;generalize z:l.map cK=e at *
 have ad:e.length=js.length:=by rw[<-z];simpa using M
 have B:∀k p,l[k]?=some p->e[k]?=some (cK p):=λk p h=>by rw[<-z,VN,h];rfl
 refine Dp func216 λC hP hN=>?_;refine sN [5] trivial ?_;refine WP.loopN [7] bx.length (λi st=>st.t 2=.ptr 2 0/\st.h 2=some (.box [.pv (.sl (js.map bu)),.pv (.sl (ms.map cE))] true false)/\st.t 1=.pv (iv bx)/\st.t 6=.pv (Z i)/\st.h 7=none/\st.t 5=.arr 5 i/\st.h 5=some (.row 247 24 (e.take i) 0)) (by simp) ?_;rintro i st hi ⟨g2,m,g1,L,n,g5,f⟩
 have g:(e.take i).length=i:=by simp;omega
 by_cases c:i<bx.length
 .have hw:=aj c (by omega)
  have s:i<js.length:=by omega
  have d:(i:Int)<(bx.length:Int):=by omega
  generalize y:js[i]=j at *
  have K:js[i]?=some j:=by rw[an s,y]
  generalize u:bx[i]=v at *
  have V:bx[i]?=some v:=by rw[an c,u]
  obtain⟨⟨P,Q⟩,ar,a1⟩:=hj i j K;have cj:=Ta (a:=v.1) (b:=v.2) j P Q;have E:=N i j v K V;generalize hq:mV j (v.1,v.2)=q at *
  have key:∀x,l[i]?=some x->e.take (i+1)=e.take i++[cK x]:=λx W=>by
   rw[List.take_succ,B i x W];rfl
  by_cases I:j.parent=-1
  .rw[VS I]at E
   have X:=key q E;rw[X]
   have o:(j.parent != -1)=false:=by simp[I]
   generalize e.take i=R at *;exact GS (s7 g2 m g1 L n g5 f g s c d hw K y (f8 V u o (show(i+1)*192<=140737488355328 by omega) (show i<=9223372036854775806 by omega)))
  .rw[VM I]at E
   obtain⟨p,hp⟩:∃p:Nat,j.parent=p:=⟨j.parent.toNat,by omega⟩
   have o:(j.parent != -1)=true:=by simp[I]
   have S:(0:Int)<=j.parent:=by omega
   have H:j.parent.toNat=p:=by omega
   have G:p<i:=by omega
   have U:p<l.length:=by omega
   have A:l[p]?=some l[p]:=an U;rw[H,A,V5]at E
   have D:(e.take i)[p]?=some (cK l[p]):=by rw[Wk,VS G];exact B p _ A
   have O:=qj D;generalize l[p]=Y at *;have X:=key _ E;rw[X];have cc:aQ prog 259 [.pv (cK Y),.pv (cK q)] [] [] (.pv (cK (oJ Y q))):=xh;generalize oJ Y q=a2 at *;generalize e.take i=R at *
   have T:p<R.length:=by omega
   exact GS (s7 g2 m g1 L n g5 f g s c d hw K y (s5 V u o S H G D O T (gA (show(i+1)*192<=140737488355328 by omega) (show i<=9223372036854775806 by omega))))
 .have r:e.take i=e:=Wg (by omega)
  have d:¬(i:Int)<(bx.length:Int):=by omega
  rw[r]at f g;exact GS (s5 g2 m g1 L n g5 f c d g)
set_option maxRecDepth 4000 in
theorem Te(s:Sce)(bx:List Iv)(hs:ScL s)(y:aY s=0)(m:kA s.js bx=true):aH 158 (eK s) (iv bx) (.sl ((fO s bx).map aF)):=by
 have cc:=IH s hs;rw[y]at cc
 have Y:aO s.js s.ms=0:=by
  unfold aY at y;split at y
  .rename_i h;exact absurd y h
  .rename_i h;simpa using h
 obtain⟨v1,v2,v3,v4,v5,v6,v7⟩:=nU y;have J:=(vF.1 m).1;have T:=OT s.js s.ms bx hs.js (by omega);have cl:=Td s.js s.ms bx hs.ms Y m;rw[m]at T;have U:(iG s.js bx).length=s.js.length:=k8 J _ (VU _);have B:fO s bx=s.shs.map λh=>eR h (iH (iG s.js bx) h):=rfl;rw[B];generalize iG s.js bx=b at *;generalize g:(s.shs.map λh=>eR h (iH b h)).map aF=d
 have V:d.length=s.shs.length:=by rw[<-g];simp
 have A:∀k h,s.shs[k]?=some h->d[k]?=some (aF (eR h (iH b h))):=λk q W=>by rw[<-g,VN,VN,W];rfl
 refine Dp func158 λC hP hN=>?_;refine sN [6] trivial ?_;refine WP.loopN [8] s.shs.length (λi st=>st.t 2=.ptr 2 0/\st.h 2=some (.box [.pv (.sl (s.js.map bu)),.pv (.sl (s.ms.map cE)),.pv (.sl (s.shs.map cD)),.pv (.sl (s.sks.map aN))] true false)/\st.t 5=.pv (.sl (b.map cK))/\st.t 7=.pv (Z i)/\st.h 8=none/\st.t 6=.arr 6 i/\st.h 6=some (.row 153 1 (d.take i) 0)) (by simp) ?_;rintro i st hi ⟨g2,j,g5,I,l,H,e⟩
 have f:(d.take i).length=i:=by simp;omega
 by_cases c:i<s.shs.length
 .have Q:=aj c (by omega)
  have a:(i:Int)<(s.shs.length:Int):=by omega
  generalize v:s.shs[i]=h at *
  have E:s.shs[i]?=some h:=by rw[an c,v]
  have X:=Is E;obtain⟨K,N⟩:=v6 h X;simp only[eL,An,L4]at K;have P:=λp=>Tc h p N
  have k2:d.take (i+1)=d.take i++[aF (eR h (iH b h))]:=by rw[List.take_succ,A i h E];rfl
  rw[k2];clear A g B;by_cases x:h.link=-1
  .have n:(h.link==-1)=true:=by simp[x]
   have o:(h.link != -1)=false:=by simp[x]
   have u:iH b h=ig:=by simp[iH,x]
   rw[u];have F:=P ig;have G:=KA;generalize eR h ig=pl at *;generalize ig=O at *;generalize d.take i=R at *;exact GS (s7 g2 j g5 I l H e f c a Q E v n (be o (show(i+1)*24<=140737488355328 by omega) (show i<=9223372036854775806 by omega)))
  .have n:(h.link==-1)=false:=by simp[x]
   have o:(h.link != -1)=true:=by simp[x]
   have L:(0:Int)<=h.link:=by omega
   obtain⟨p,hp⟩:∃p:Nat,h.link.toNat=p:=⟨_,rfl⟩
   have D:p<b.length:=by omega
   have z:b[p]?=some b[p]:=an D
   have u:iH b h=b[p]:=by simp only[iH,VM x,hp,z,V5]
   rw[u];generalize M:b[p]=S at *;have F:=P S;have G:=KA;generalize eR h S=pl at *;generalize ig=O at *;generalize d.take i=R at *;exact GS (s7 g2 j g5 I l H e f c a Q E v n (so o L hp D z M (show(i+1)*24<=140737488355328 by omega) (show i<=9223372036854775806 by omega)))
 .have r:d.take i=d:=Wg (by omega)
  have a:¬(i:Int)<(s.shs.length:Int):=by omega
  rw[r]at e f;exact GS (s5 g2 j g5 I l H e c a f)
theorem Tf(n:Nat)(hn:n<4611686018427387904):bh 288 (Z n) (Z (dI n)):=by
 by_cases B:n=0
 .subst B
  have hs:dI 0=0:=by decide +kernel
  rw[hs];refine Dp func288 λC hP hN=>?_;exact Gy
 have F:¬(n:Int)<1:=by omega
 have s:¬n<1:=by omega
 have o:=sA (n:=n) (by omega);refine Dp func288 λC hP hN=>?_;refine Gz ?_;refine WP.loopN [] 32 (λi st=>∃lo hi:Nat,st.t 0=.pv (Z n)/\st.t 3=.pv (Z lo)/\st.t 4=.pv (Z hi)/\1<=lo/\lo<hi/\hi<=4294967296/\lo*lo<=n/\n<hi*hi/\hi-lo<=2^(32-i)) ⟨1,4294967296,by simp;omega⟩ ?_;rintro i st hi ⟨lo,a,g0,g3,g4,b1,b2,b3,b4,b5,b6⟩;have u:i64.wrap ((a:Int)-(lo:Int))=((a-lo:Nat):Int):=(aa (by omega) (by omega)).trans (by omega);by_cases r:1<a-lo
 .have f:i<32:=by
   by_cases h:i<32
   .exact h
   .have:i=32:=by omega
    subst this;simp at b6;omega
  have hp:2^(32-i)=2*2^(31-i):=by
   rw[show 32-i=(31-i)+1 by omega,Yt];omega
  rw[hp]at b6;obtain⟨m,H⟩:∃m:Nat,m=lo+(a-lo)/2:=⟨_,rfl⟩
  have k:(1:Int)<((a-lo:Nat):Int):=by omega
  obtain⟨hf,E⟩:∃hf:Nat,hf=(a-lo)/2:=⟨_,rfl⟩
  have v:i64.wrap ((((a-lo:Nat):Int)).tdiv 2)=(hf:Int):=by
   rw[Wa (by omega)];exact(aa (by omega) (by omega)).trans (by omega)
  have x:i64.wrap ((lo:Int)+(hf:Int))=(m:Int):=(aa (by omega) (by omega)).trans (by omega)
  have l:0<m:=by omega
  have g:¬(m:Int)=0:=by omega
  have c:¬m=0:=by omega
  obtain⟨j,d⟩:∃j:Nat,j=n/m:=⟨_,rfl⟩
  have G:j<=n:=by rw[d];exact Nat.div_le_self n m
  have y:i64.wrap ((n:Int).tdiv (m:Int))=(j:Int):=by
   rw[Wa (by omega),<-Int.natCast_ediv,<-d];exact aa (by omega) (by omega)
  have z:i64.wrap (((a-lo:Nat):Int)/2)=(hf:Int):=(aa (by omega) (by omega)).trans (by omega)
  have A:i64.wrap ((n:Int)/(m:Int))=(j:Int):=by
   rw[<-Int.natCast_ediv,<-d];exact aa (by omega) (by omega)
  by_cases e:m<=j
  .have q:m*m<=n:=(Yi l).1 (d▸e)
   have b:(m:Int)<=(j:Int):=by omega
   with_reducible repeat' (first|refine Sp.h ?_|((first|refine Ss.h ?_|(refine Sb.h ?_ ?_ ?_<;>(try intro hgd)<;>try exact Xy))<;>simp -implicitDefEqProofs (maxSteps:=2000000) [hP,hN,g0,g3,g4,u,v,x,y,z,A,r,k,g,c,e,b])|refine X2 ?_ ?_|(refine Xd ?_ ?_<;>intro hcd<;>try exact Xx))
   exact⟨f,m,rfl,a,rfl,by omega,by omega,by omega,by omega,by omega,by omega⟩
  .have q:n<m*m:=by
    rcases Nat.lt_or_ge n (m*m)with h|h
    .exact h
    .exact absurd (d▸(Yi l).2 h) e
   have b:¬(m:Int)<=(j:Int):=by omega
   with_reducible repeat' (first|refine Sp.h ?_|((first|refine Ss.h ?_|(refine Sb.h ?_ ?_ ?_<;>(try intro hgd)<;>try exact Xy))<;>simp -implicitDefEqProofs (maxSteps:=2000000) [hP,hN,g0,g3,g4,u,v,x,y,z,A,r,k,g,c,e,b])|refine X2 ?_ ?_|(refine Xd ?_ ?_<;>intro hcd<;>try exact Xx))
   exact⟨f,lo,rfl,m,rfl,by omega,by omega,by omega,by omega,by omega,by omega⟩
 .have p:a=lo+1:=by omega
  subst p;have D:lo=dI n:=B9 b4 b5 o.1 o.2
  have k:¬(1:Int)<((lo+1-lo:Nat):Int):=by omega
  exact Gy
  all_goals simp[D]
theorem Tg(n:Nat)(hn:n<4611686018427387904):bh 267 (Z n) (Z (tp n)):=by
 have f:=Tf n hn;have e:=sA (n:=n) (by omega);have d:=tN hn
 have hd:tp n=if dI n*dI n<n then dI n+1 else dI n:=rfl
 have i:i64.wrap ((dI n:Int)*(dI n:Int))=((dI n*dI n:Nat):Int):=by
  rw[<-Int.natCast_mul];exact aa (by omega) (by omega)
 have j:i64.wrap ((dI n:Int)+1)=((dI n+1:Nat):Int):=(aa (by omega) (by omega)).trans (by omega);rw[hd];generalize dI n=r at *;by_cases g:0<n
 .have a:(0:Int)<(n:Int):=by omega
  by_cases c:r*r<n
  .have b:((r*r:Nat):Int)<(n:Int):=by omega
   rw[VS c];refine Dp func267 λC hP hN=>?_;exact Gy
  .have b:¬((r*r:Nat):Int)<(n:Int):=by omega
   rw[VM c];refine Dp func267 λC hP hN=>?_;exact Gy
 .have a:¬(0:Int)<(n:Int):=by omega
  rw[VM (by omega)];refine Dp func267 λC hP hN=>?_;exact Gy
theorem OU(v:Vc):bh 224 (ao v) (Z (gb v)):=by
 have d:=Bj v;rw[ug]at d
 cases c:aR v with
 |false=>
  rw[c]at d
  have e:gb v=0:=by simp[gb,c]
  rw[e];refine Dp func224 λC hP hN=>?_;exact Gy
 |true=>
  rw[c]at d
  have hn:aB 16384 v=true:=by simp only[aR,An]at c;exact c.1
  have hs:=IN hn
  have e:gb v=(tp (xe v):Int):=by simp[gb,c]
  have f:=Tg (xe v) (by omega);have g:=ye (cT.1 hn).1;have i:=ye (cT.1 hn).2.1;have j:=ye (cT.1 hn).2.2;have n:=bS (a:=v.1) (b:=v.1) 16384 16384 (by omega) (by omega) (by omega) (by omega);have o:=bS (a:=v.2.1) (b:=v.2.1) 16384 16384 (by omega) (by omega) (by omega) (by omega);have p:=bS (a:=v.2.2) (b:=v.2.2) 16384 16384 (by omega) (by omega) (by omega) (by omega);have k:=GY v.1;have l:=GY v.2.1;have m:=GY v.2.2;have q:i64.wrap (v.1*v.1)=v.1*v.1:=aa;have r:i64.wrap (v.2.1*v.2.1)=v.2.1*v.2.1:=aa;have s:i64.wrap (v.2.2*v.2.2)=v.2.2*v.2.2:=aa;have u:i64.wrap (v.1*v.1+v.2.1*v.2.1)=v.1*v.1+v.2.1*v.2.1:=aa;have x:i64.wrap (v.1*v.1+v.2.1*v.2.1+v.2.2*v.2.2)=(xe v:Int):=(aa (by omega) (by omega)).trans (by unfold xe;omega);rw[e];refine Dp func224 λC hP hN=>?_;exact Gy
theorem LF{c d e x0 x1 x2 x3 x4 x5:Int}(l:aR (c,d,e)=true)(m:dk ((x0,x1),(x2,x3),(x4,x5))=true):aH 266 (ao (c,d,e)) (V6 x0 x1 x2 x3 x4 x5) (.tup [Z (gP (c,d,e) ((x0,x1),(x2,x3),(x4,x5))),Z (gQ (c,d,e) ((x0,x1),(x2,x3),(x4,x5)))]):=by
 have o:=Bj (c,d,e);rw[ug,l]at o;have n:=Ce (x0:=x0) (x1:=x1) (x2:=x2) (x3:=x3) (x4:=x4) (x5:=x5);rw[m]at n
 have hn:aB 16384 (c,d,e)=true:=by simp only[aR,An]at l;exact l.1
 have i:=cT.1 hn;have j:=gE.1 m;have m0:=oL i.1 j.1;have m1:=oL i.2.1 j.2.1;have m2:=oL i.2.2 j.2.2;simp only[qO,qP]at m0 m1 m2;have g:gP (c,d,e) ((x0,x1),(x2,x3),(x4,x5))=min (c*x0) (c*x1)+min (d*x2) (d*x3)+min (e*x4) (e*x5):=rfl;have f:gQ (c,d,e) ((x0,x1),(x2,x3),(x4,x5))=max (c*x0) (c*x1)+max (d*x2) (d*x3)+max (e*x4) (e*x5):=rfl;rw[g,f];have w:∀y:Int,-100000000000000<=y->y<=100000000000000->i64.wrap y=y:=λy a b=>aa (by omega) (by omega);have a0:=w (c*x0) (by omega) (by omega);have a1:=w (c*x1) (by omega) (by omega);have a2:=w (d*x2) (by omega) (by omega);have a3:=w (d*x3) (by omega) (by omega);have a4:=w (e*x4) (by omega) (by omega);have a5:=w (e*x5) (by omega) (by omega)
 have z:∀a b:Int,(if b<a then b else a)=min a b:=λa b=>by omega
 have x:∀a b:Int,(if a<b then b else a)=max a b:=λa b=>by omega
 have b0:=w (min (c*x0) (c*x1)) (by omega) (by omega);have b1:=w (min (c*x0) (c*x1)+min (d*x2) (d*x3)) (by omega) (by omega);have b2:=w (min (c*x0) (c*x1)+min (d*x2) (d*x3)+min (e*x4) (e*x5)) (by omega) (by omega);have d0:=w (max (c*x0) (c*x1)) (by omega) (by omega);have d1:=w (max (c*x0) (c*x1)+max (d*x2) (d*x3)) (by omega) (by omega);have d2:=w (max (c*x0) (c*x1)+max (d*x2) (d*x3)+max (e*x4) (e*x5)) (by omega) (by omega);refine Dp func266 λC hP hN=>?_;refine Gz ?_;refine WP.loopN [] 3 (λk st=>st.t 2=.ptr 2 0/\st.t 3=.ptr 3 0/\st.h 2=some (.box [.pv (Z c),.pv (Z d),.pv (Z e)] true false)/\st.h 3=some (.box [.pv (Z x0),.pv (Z x1),.pv (Z x2),.pv (Z x3),.pv (Z x4),.pv (Z x5)] true false)/\st.t 8=.pv (Z k)/\st.t 6=.pv (Z (if k=0 then 0 else if k=1 then min (c*x0) (c*x1)else if k=2 then min (c*x0) (c*x1)+min (d*x2) (d*x3)else min (c*x0) (c*x1)+min (d*x2) (d*x3)+min (e*x4) (e*x5)))/\st.t 7=.pv (Z (if k=0 then 0 else if k=1 then max (c*x0) (c*x1)else if k=2 then max (c*x0) (c*x1)+max (d*x2) (d*x3)else max (c*x0) (c*x1)+max (d*x2) (d*x3)+max (e*x4) (e*x5)))) (by simp) ?_;rintro k st v ⟨g2,g3,s,u,r,p,q⟩;rcases eJ v with rfl|rfl|rfl|rfl
 all_goals (simp at p q r)
 all_goals
  exact Gy
theorem Th(n:Vc)(xs:List aq)(x:xs.length<=9223372036854775807):aH 221 (ao n) (aF xs) (.tup (if aR n&&ay xs then[Z (gR n xs).1,Z (gR n xs).2,B true]else[Z 0,Z 0,B false])):=by
 have e:=Bj n;rw[ug]at e;have d:=xi xs x
 cases k:aR n with
 |false=>
  rw[k]at e;cases hp:ay xs<;>rw[hp]at d
  all_goals
   refine Dp func221 λC hP hN=>?_;exact Gy
 |true=>
 rw[k]at e
 cases hp:ay xs with
 |false=>
  rw[hp]at d;refine Dp func221 λC hP hN=>?_;exact Gy
 |true=>
 rw[hp]at d;obtain⟨a,h8,_⟩:=bZ hp;have hd:gR n xs=ik (gP n) fe xs xs.length:=rfl;rw[hd];refine Dp func221 λC hP hN=>?_;refine Gz ?_;refine WP.loopN [] xs.length (λi st=>st.t 2=.ptr 2 0/\st.h 2=some (.box [.pv (Z n.1),.pv (Z n.2.1),.pv (Z n.2.2)] true false)/\st.t 1=.pv (aF xs)/\st.t 9=.pv (Z i)/\st.t 7=.pv (Z (ik (gP n) fe xs i).1)/\st.t 8=.pv (Z (ik (gP n) fe xs i).2)) (by simp[ik]) ?_;rintro i st hi ⟨g2,u,g1,D,z,A⟩;by_cases b:i<xs.length
 .have E:=aj b (by omega)
  have c:(i:Int)<(xs.length:Int):=by omega
  generalize l:xs[i]=v at *
  have r:xs[i]?=some v:=by rw[an b,l]
  have j:dk v=true:=VL.1 a v (Is r);have y:aQ prog 266 [.pv (ao n),.pv (bR v)] [] [] (.pv (.tup [Z (gP n v),Z (gQ n v)])):=LF k j;have hs:=xf (val:=gP n) (bet:=fe) r;rw[hs];by_cases o:i=0
  .subst o
   exact Gy
  .have s:((i:Int)==0)=false:=by simp;omega
   generalize hq:ik (gP n) fe xs i=q at *;obtain⟨m,F⟩:=q;by_cases p:gP n v<m
   .have f:fe (gP n v) m=true:=by simp only[fe,L4];exact p
    simp only[f,or_true,V8]at hs|-;exact Gy
   .have f:fe (gP n v) m=false:=by simp only[fe,VY];exact p
    simp only[f,o,VP,or_self,VZ]at hs|-;exact Gy
 .have c:¬(i:Int)<(xs.length:Int):=by omega
  have g:i=xs.length:=by omega
  subst g;exact Gy
theorem Ti(n:Vc)(xs:List aq)(x:xs.length<=9223372036854775807):aH 222 (ao n) (aF xs) (.tup (if aR n&&ay xs then[Z (gS n xs).1,Z (gS n xs).2,B true]else[Z 0,Z 0,B false])):=by
 have e:=Bj n;rw[ug]at e;have d:=xi xs x
 cases k:aR n with
 |false=>
  rw[k]at e;cases hp:ay xs<;>rw[hp]at d
  all_goals
   refine Dp func222 λC hP hN=>?_;exact Gy
 |true=>
 rw[k]at e
 cases hp:ay xs with
 |false=>
  rw[hp]at d;refine Dp func222 λC hP hN=>?_;exact Gy
 |true=>
 rw[hp]at d;obtain⟨a,h8,_⟩:=bZ hp;have hd:gS n xs=ik (gQ n) ff xs xs.length:=rfl;rw[hd];refine Dp func222 λC hP hN=>?_;refine Gz ?_;refine WP.loopN [] xs.length (λi st=>st.t 2=.ptr 2 0/\st.h 2=some (.box [.pv (Z n.1),.pv (Z n.2.1),.pv (Z n.2.2)] true false)/\st.t 1=.pv (aF xs)/\st.t 9=.pv (Z i)/\st.t 7=.pv (Z (ik (gQ n) ff xs i).1)/\st.t 8=.pv (Z (ik (gQ n) ff xs i).2)) (by simp[ik]) ?_;rintro i st hi ⟨g2,u,g1,D,z,A⟩;by_cases b:i<xs.length
 .have E:=aj b (by omega)
  have c:(i:Int)<(xs.length:Int):=by omega
  generalize l:xs[i]=v at *
  have r:xs[i]?=some v:=by rw[an b,l]
  have j:dk v=true:=VL.1 a v (Is r);have y:aQ prog 266 [.pv (ao n),.pv (bR v)] [] [] (.pv (.tup [Z (gP n v),Z (gQ n v)])):=LF k j;have hs:=xf (val:=gQ n) (bet:=ff) r;rw[hs];by_cases o:i=0
  .subst o
   exact Gy
  .have s:((i:Int)==0)=false:=by simp;omega
   generalize hq:ik (gQ n) ff xs i=q at *;obtain⟨m,F⟩:=q;by_cases p:m<gQ n v
   .have f:ff (gQ n v) m=true:=by simp only[ff,L4];exact p
    simp only[f,or_true,V8]at hs|-;exact Gy
   .have f:ff (gQ n v) m=false:=by simp only[ff,VY];exact p
    simp only[f,o,VP,or_self,VZ]at hs|-;exact Gy
 .have c:¬(i:Int)<(xs.length:Int):=by omega
  have g:i=xs.length:=by omega
  subst g;exact Gy
theorem Bw(r:Int):bh 223 (Z r) (B (bt r 0 1048576)):=by
 refine Dp func223 λC hP hN=>?_
 with_reducible repeat' (first|refine Sp.h ?_|((first|refine Ss.h ?_|(refine Sb.h ?_ ?_ ?_<;>(try intro hgd)<;>try exact Xy))<;>simp -implicitDefEqProofs (maxSteps:=2000000) [hP,hN])|refine X2 ?_ ?_|(refine Xd ?_ ?_<;>intro hcd<;>try exact Xx))
 all_goals (first|(simp_all[bt];done)|((try simp_all[bt])<;>(try omega)<;>grind))
theorem Tj(n:Vc)(a:List aq)(c:Int)(b:List aq)(d:Int)(u:a.length<=9223372036854775807)(o:b.length<=9223372036854775807):uw 160 (ao n) (aF a) (Z c) (aF b) (Z d) (.tup (if lp n a c b d then[Z (mq n a c b d),B true]else[Z 0,B false])):=by
 have l:=Th n a u;have m:=Ti n b o;have p:=Bw c;have q:=Bw d;have s:=OU n
 have k:lp n a c b d=(ay a&&bt c 0 1048576&&(ay b&&bt d 0 1048576)&&aR n):=by
  simp only[lp,pU,bt,Bool.and_assoc]
 have nr:=vH n;have r:mq n a c b d=(gR n a).1-(gS n b).1-gb n*(c+d):=rfl;cases j:aR n<;>cases e:ay a<;>cases f:ay b<;>cases g:bt c 0 1048576<;>cases i:bt d 0 1048576
 case true.true.true.true.true=>
  rw[j,e,f,g,i]at k;rw[j,e]at l;rw[j,f]at m;rw[g]at p;rw[i]at q
  have hn:aB 16384 n=true:=by simp only[aR,An]at j;exact j.1
  have v:=Ca (n:=n) hn (bZ e).1;have A:=Cb (n:=n) hn (bZ f).1;simp only[bt,An,L4]at g i;have D:=bS (a:=gb n) (b:=c+d) 32768 2097152 (by omega) (by omega) (by omega) (by omega);have E:i64.wrap (c+d)=c+d:=aa;have F:i64.wrap (gb n*(c+d))=gb n*(c+d):=aa;have G:i64.wrap ((gR n a).1-(gS n b).1)=(gR n a).1-(gS n b).1:=aa;have H:i64.wrap ((gR n a).1-(gS n b).1-gb n*(c+d))=(gR n a).1-(gS n b).1-gb n*(c+d):=aa;rw[k,r];simp only[Xf,V8]at l m|-;generalize gR n a=x at *;generalize gS n b=y at *;generalize gb n=z at *;refine Dp func160 λC hP hN=>?_;exact Gy
 all_goals (
  rw[j,e,f,g,i]at k;rw[j,e]at l;rw[j,f]at m;rw[g]at p;rw[i]at q;rw[k];simp only[Xf,Xi,Ww,We,Xw,V8,VP,VZ]at l m|-;clear k r nr s;generalize gR n a=x at *
  generalize gS n b=y at *)
 all_goals
  refine Dp func160 λC hP hN=>?_;exact Gy
theorem Tk(n:Vc)(a:List aq)(c:Int)(b:List aq)(d:Int)(i:a.length<=9223372036854775807)(e:b.length<=9223372036854775807):uw 106 (ao n) (aF a) (Z c) (aF b) (Z d) (B (jH n a c b d)):=by
 have f:=Tj n a c b d i e;have hs:jH n a c b d=(lp n a c b d&&decide (0<mq n a c b d)):=rfl;rw[hs];generalize mq n a c b d=m at *;cases g:lp n a c b d<;>rw[g]at f<;>simp only[VP,VZ,V8,Ww,We]at f|-
 all_goals
  refine Dp func106 λC hP hN=>?_;exact Gy
theorem Tl(l:List Vc)(a:List aq)(d:Int)(b:List aq)(e:Int)(u:l.length<=9223372036854775807)(G:a.length<=9223372036854775807)(s:b.length<=9223372036854775807):uw 230 (aP l) (aF a) (Z d) (aF b) (Z e) (.tup (match l.findIdx? (λn=>jH n a d b e)with|some i=>[Z i,B true]|none=>[Z 0,B false])):=by
 refine Dp func230 λC hP hN=>?_;refine Gz ?_;refine WP.loopN [] l.length (λi st=>st.t 0=.pv (aP l)/\st.t 1=.pv (aF a)/\st.t 2=.pv (Z d)/\st.t 3=.pv (aF b)/\st.t 4=.pv (Z e)/\st.t 12=.pv (Z i)/\∀k x,k<i->l[k]?=some x->jH x a d b e=false) (by simp) ?_;rintro i st hi ⟨g0,g1,g2,g3,g4,E,hq⟩;by_cases f:i<l.length
 .have H:=aj f u
  have g:(i:Int)<(l.length:Int):=by omega
  generalize o:l[i]=v at *
  have z:l[i]?=some v:=by rw[an f,o]
  have D:=Tk v a d b e G s;have y:=G3 (p:=λn=>jH n a d b e) z hq
  cases q:jH v a d b e with
  |true=>
   rw[q]at D
   have hf:l.findIdx? (λn=>jH n a d b e)=some i:=by
    rw[X8];refine⟨f,by rw[o];exact q,λj F=>?_⟩;have:=hq j l[j] F (an (by omega));simp[this]
   rw[hf];exact Gy
  |false=>
   rw[q]at D;have m:=y q;refine Gz ?_
   all_goals exact λk a b c r A=>m k (a,b,c) (by omega) A
 .have g:¬(i:Int)<(l.length:Int):=by omega
  have hf:l.findIdx? (λn=>jH n a d b e)=none:=by
   rw[List.findIdx?_eq_none_iff];intro x z;obtain⟨k,r⟩:=Wt z;exact hq k x (by have:=(th.1 r).1;omega) r
  rw[hf];exact Gy
theorem Tm:Cn 269 (aP kU):=by
 refine Dp func269 λC hP hN=>?_;exact Gy
theorem Kp(v w:Vc)(a:fy 1152921504606846976 v)(b:fy 1152921504606846976 w):aH 232 (ao v) (ao w) (ao (bf v w)):=by
 have d:i64.wrap (v.1-w.1)=v.1-w.1:=aa (by have:=a.1;have:=b.1;omega) (by have:=a.1;have:=b.1;omega);have e:i64.wrap (v.2.1-w.2.1)=v.2.1-w.2.1:=aa (by have:=a.2.1;have:=b.2.1;omega) (by have:=a.2.1;have:=b.2.1;omega);have f:i64.wrap (v.2.2-w.2.2)=v.2.2-w.2.2:=aa (by have:=a.2.2;have:=b.2.2;omega) (by have:=a.2.2;have:=b.2.2;omega);have c:bf v w=(v.1-w.1,v.2.1-w.2.1,v.2.2-w.2.2):=rfl;rw[c];refine Dp func232 λC hP hN=>?_;exact Gy
theorem Bs(v w:Vc)(m n:Nat)(c:fy m v)(d:fy n w)(a:3*(m*n)<=9223372036854775807):aH 237 (ao v) (ao w) (Z (bM v w)):=by
 have h:=lS c d;have e:i64.wrap (v.1*w.1)=v.1*w.1:=aa;have f:i64.wrap (v.2.1*w.2.1)=v.2.1*w.2.1:=aa;have g:i64.wrap (v.2.2*w.2.2)=v.2.2*w.2.2:=aa;have i:i64.wrap (v.1*w.1+v.2.1*w.2.1)=v.1*w.1+v.2.1*w.2.1:=aa;have j:i64.wrap (v.1*w.1+v.2.1*w.2.1+v.2.2*w.2.2)=v.1*w.1+v.2.1*w.2.1+v.2.2*w.2.2:=aa;have b:bM v w=v.1*w.1+v.2.1*w.2.1+v.2.2*w.2.2:=rfl;rw[b];refine Dp func237 λC hP hN=>?_;exact Gy
theorem Ov(l:List Vc)(K:l.length<=9223372036854775807):bh 231 (aP l) (B (fL l)):=by
 by_cases h8:l.length<=8
 .skip
  refine Dp func231 λC hP hN=>?_;refine Gz ?_;refine WP.loopN [] l.length (λi st=>st.t 0=.pv (aP l)/\st.t 3=.pv (Z i)/\∀k x,k<i->l[k]?=some x->aB 268435456 x=true) (by simp) ?_;rintro i st hi ⟨g0,g3,hq⟩;by_cases f:i<l.length
  .have H:i64.wrap ((i:Int)+1)=(i:Int)+1:=aa
   have g:(i:Int)<(l.length:Int):=by omega
   have u:(i:Int)<=8:=by omega
   have q:i<=8:=by omega
   generalize j:l[i]=v at *
   have D:l[i]?=some v:=by rw[an f,j]
   have n:=rW v.1 v.2.1 v.2.2 268435456 (by decide) (by decide);have z:aB 268435456 v=hC v.1 v.2.1 v.2.2 268435456:=rfl;rw[<-z]at n;have A:=nE (p:=aB 268435456) D hq
   cases m:aB 268435456 v with
   |true=>
    rw[m]at n;have r:=A m;refine Gz ?_
    all_goals exact λk a b c J E=>r k (a,b,c) (by omega) E
   |false=>
    rw[m]at n
    have d:l.all (aB 268435456)=false:=by
     rw[Xt];exact⟨v,Is D,by simp[m]⟩
    have e:fL l=false:=by simp[fL,d]
    rw[e];exact Gy
  .have d:l.all (aB 268435456)=true:=pD hq f
   have g:¬(i:Int)<(l.length:Int):=by omega
   have e:fL l=decide (1<=l.length):=by
    rw[fL,d,Wv h8,Xw,Xw]
   rw[e];by_cases F:1<=l.length
   .have o:(1:Int)<=(l.length:Int):=by omega
    have s:(l.length:Int)<=8:=by omega
    exact Gy
   .have o:¬(1:Int)<=(l.length:Int):=by omega
    exact Gy
 .have e:fL l=false:=by
   cases h:fL l with
   |false=>rfl
   |true=>simp only[fL,An,L4]at h;omega
  rw[e];refine Dp func231 λC hP hN=>?_;refine Gz ?_;refine WP.loopN [] 9 (λi st=>st.t 0=.pv (aP l)/\st.t 3=.pv (Z i)) (by simp) ?_;rintro i st hi ⟨g0,g3⟩;by_cases u:i<=8
  .have f:i<l.length:=by omega
   have H:i64.wrap ((i:Int)+1)=(i:Int)+1:=aa
   have g:(i:Int)<(l.length:Int):=by omega
   have q:(i:Int)<=8:=by omega
   generalize j:l[i]=v at *
   have D:l[i]?=some v:=by rw[an f,j]
   have n:=rW v.1 v.2.1 v.2.2 268435456 (by decide) (by decide);cases m:hC v.1 v.2.1 v.2.2 268435456<;>rw[m]at n
   .skip
    exact Gy
   .skip
    refine Gz ?_
    all_goals omega
  .have y:i=9:=by omega
   subst y
   have s:¬(l.length:Int)<=8:=by omega
   have o:(1:Int)<=(l.length:Int):=by omega
   have F:1<=l.length:=by omega
   by_cases I:9<l.length
   .have G:(9:Int)<(l.length:Int):=by omega
    exact Gy
   .skip
    exact Gy
theorem SS(v:Vc)(rho:Int)(e:fy 35184372088832 v)(E:0<=rho/\rho<=2097152):aH 234 (ao v) (Z rho) (B (ph v rho)):=by
 have q:=rE e.1;have r:=rE e.2.1;have s:=rE e.2.2;have D:=bS (a:=rho) (b:=rho) 2097152 2097152 (by omega) (by omega) (by omega) (by omega);have w0:i64.wrap (rho*rho)=rho*rho:=aa;have g:∀x:Int,-35184372088832<=x->x<=35184372088832->i64.wrap (-x)=-x/\i64.wrap (0-x)=-x:=λx a b=>⟨aa (by omega) (by omega),(aa (n:=0-x) (by omega) (by omega)).trans (by omega)⟩;have m0:=g v.1 e.1.1 e.1.2;have m1:=g v.2.1 e.2.1.1 e.2.1.2;have m2:=g v.2.2 e.2.2.1 e.2.2.2
 have cc:∀x:Int,-35184372088832<=x->x<=35184372088832->aQ prog 226 [.pv (Z (max x (-x))),.pv (Z 65536)] [] [] (.pv (Z (dK (max x (-x)) 65536))):=λx a b=>by
  have:=El (max x (-x)) 65536 (by decide);rw[sC (by decide) (by omega) (by omega)]at this;exact this
 have u:=cc v.1 e.1.1 e.1.2;have y:=cc v.2.1 e.2.1.1 e.2.1.2;have z:=cc v.2.2 e.2.2.1 e.2.2.2
 have A:∀a b:Int,(if a<b then b else a)=max a b:=λa b=>by omega
 have hd:ph v rho=decide (mR v.1+mR v.2.1+mR v.2.2<=rho*rho):=rfl;have i:mR v.1=dK (max v.1 (-v.1)) 65536*dK (max v.1 (-v.1)) 65536:=rfl;have j:mR v.2.1=dK (max v.2.1 (-v.2.1)) 65536*dK (max v.2.1 (-v.2.1)) 65536:=rfl;have l:mR v.2.2=dK (max v.2.2 (-v.2.2)) 65536*dK (max v.2.2 (-v.2.2)) 65536:=rfl;rw[hd];generalize dK (max v.1 (-v.1)) 65536=c at *;generalize dK (max v.2.1 (-v.2.1)) 65536=d at *;generalize dK (max v.2.2 (-v.2.2)) 65536=f at *;rw[i,j,l];rw[i]at q;rw[j]at r;rw[l]at s;have F:i64.wrap (c*c)=c*c:=aa;have G:i64.wrap (d*d)=d*d:=aa;have H:i64.wrap (f*f)=f*f:=aa;have I:i64.wrap (c*c+d*d)=c*c+d*d:=aa;have J:i64.wrap (c*c+d*d+f*f)=c*c+d*d+f*f:=aa;refine Dp func234 λC hP hN=>?_;refine Gz ?_;refine WP.loopN [] 3 (λk st=>st.t 2=.ptr 2 0/\st.h 2=some (.box [.pv (Z v.1),.pv (Z v.2.1),.pv (Z v.2.2)] true false)/\st.t 1=.pv (Z rho)/\st.t 6=.pv (Z k)/\st.t 5=.pv (Z (if k=0 then 0 else if k=1 then c*c else if k=2 then c*c+d*d else c*c+d*d+f*f))) (by simp) ?_;rintro k st p ⟨g2,o,g1,m,g5⟩;rcases eJ p with rfl|rfl|rfl|rfl
 all_goals (simp at g5 m)
 all_goals
  exact Gy
end Go.Ab
