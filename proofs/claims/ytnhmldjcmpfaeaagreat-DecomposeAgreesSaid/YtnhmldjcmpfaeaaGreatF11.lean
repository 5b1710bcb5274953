/- The contracts and facts that the laws of this seat need, in one text (DlL, Dc4, DcR, Dc12, Dc14, Ck0, De2, De5, Dc9, Dl1, Gr1, Gr2, Gr3, Gr4, Gr5, Gr6, Gr7, KM1, KM2, KM3, KM4, K15, K15b, K16, K17, KM5, L28a, TrW, TrY, L28d, L28b, L28e, TC1, DeQ, Gr8, Fi1). -/
import Derived.Test.YtnhmldjcmpfaeaaGreatF10
import Derived.Test.YtnhmldjcmpfaeaaGreatProg
import Derived.Shelf.Slices.Delete
set_option linter.all false
set_option maxHeartbeats 16000000
namespace Go.Ab
open Go.Proofs Go.Shelf Go.Sort
def Oh(x:Nat):Nat:=match x with
 |23=>58
 |n=>n
def Oi(x:Nat):Nat:=match x with
 |22=>22
 |n=>n
def Lt:Ren:=⟨Oh,Oi,λx=>x⟩
theorem Lu:Lays2.n23 Tryz.prog Lt:=
 {mixed:=by kernel_rfl,f23:=Tryz.func58.trans (congrArg some (by kernel_rfl)),
  t0:=Tryz.underlying0,a0:=Tryz.isAgg0,z0:=Tryz.sizeOf0,v0:=Tryz.zeroValue0,t3:=Tryz.underlying3,a3:=Tryz.isAgg3,z3:=Tryz.sizeOf3,v3:=Tryz.zeroValue3,
  t4:=Tryz.underlying4,a4:=Tryz.isAgg4,z4:=Tryz.sizeOf4,v4:=Tryz.zeroValue4,t22:=Tryz.underlying22,a22:=Tryz.isAgg22,z22:=Tryz.sizeOf22,v22:=Tryz.zeroValue22,i3:=by kernel_rfl}
theorem FV:Dk Tryz.prog 58:=⟨by kernel_rfl,λblk cap i j zs w hH hc hm hij hj=>Any.slices_Delete_int Lu blk 0 cap i j zs w hH hc hm hij hj⟩
end Go.Ab
namespace Go.Ab
open Go.Proofs
variable {P:Nat->List Bool}{Q:St->Prop}{a b:Bx}{args:List AV}{c i j k leaf:Nat}{d:Option Nat}{f:Operand}{g:FuncId}{img:Nat->Nat->Prop}{jn p q:List Int}{joint w w':Int}{js:List J}{may':Nat->Bool}{ms:List Ms}{s:Spc}{sc:Sce}{st:St}{tch':Nat->Nat->Bool}{xs:List Operand}{π:List Bool}
theorem Du(xs:List (Int×Int))(j:Int):(cF xs j).length<=xs.length:=by
 unfold cF;split
 .split<;>simp
 .simp
theorem Dv(xs:List (Int×Int))(j:Int):(cG xs j).length<=xs.length:=by
 unfold cG;split
 .split<;>simp
 .simp
theorem FK{r:Nat}:((fZ s.near).set leaf cL++[cL,cL]++List.replicate r cL).map (aY (leaf+300) 250)=(fZ s.near).set leaf cL++[cL,cL]++List.replicate r cL:=by
 rw[List.map_append,List.map_append,List.map_replicate]
 congr 1
 congr 1
 apply List.ext_getElem?;intro v;rw[List.getElem?_map,List.getElem?_set];split
 .rename_i e;subst e
  split<;>rfl
 .rename_i e
  simp only[fZ,List.getElem?_map]
  cases h:(List.range s.near.length)[v]? with
  |none=>rfl
  |some w=>
   have hw:w=v:=by
    have:=(List.getElem?_eq_some_iff.1 h).2;simp at this;exact this.symm
   subst hw;simp[aY,aN,rk,show¬w=leaf from λe2=>e e2.symm]
theorem FL{r:Nat}(i:Nat)(x:AV)(hl:leaf<s.near.length)(h:(fZ (ga s leaf joint).near++List.replicate r cL)[i]?=some x):
 ((fZ s.near).set leaf cL++[cL,cL]++List.replicate r cL)[i]?=some x∨(((fZ s.near).set leaf cL++[cL,cL]++List.replicate r cL)[i]?=some cL∧∃q,(decide (q=leaf+300)||decide (q=s.near.length+300)||decide (q=s.near.length+301))=true∧x=.arr q 0):=by
 have hN:(ga s leaf joint).near.length=s.near.length+2:=by simp[ga]
 by_cases h1:i<s.near.length+2
 .rw[List.getElem?_append_left (by rw[bL];omega),jX (by omega)]at h
  injection h with h
  have hv:(((ga s leaf joint).near[i]?).getD [])=if i=leaf then[]else ae s i:=pf hl
  rw[hv]at h;rw[List.getElem?_append_left (by simp[bL];omega)];by_cases h2:i<s.near.length
  .rw[List.getElem?_append_left (by simp[bL];omega),List.getElem?_set]
   by_cases e:leaf=i
   .subst e
    rw[if_pos rfl]at h;exact .inr ⟨by simp[bL,hl],leaf+300,by simp,h.symm⟩
   .rw[if_neg (λe2=>e e2.symm)]at h
    rw[if_neg e,jX h2];exact .inl (by rw[<-h];rfl)
  .have hz:ae s i=[]:=by unfold ae;rw[List.getElem?_eq_none (by omega)];rfl
   rw[if_neg (by omega),hz]at h;rw[List.getElem?_append_right (by simp[bL];omega)];simp only[List.length_set,bL]
   have:i-s.near.length=0∨i-s.near.length=1:=by omega
   refine .inr ⟨by rcases this with e|e<;>rw[e]<;>rfl,i+300,?_,h.symm⟩;rcases this with e|e
   .simp[show i=s.near.length by omega]
   .simp[show i=s.near.length+1 by omega]
 .rw[List.getElem?_append_right (by rw[bL];omega),bL,hN]at h
  refine .inl ?_;rw[List.getElem?_append_right (by simp[bL];omega)];simpa[bL]using h
theorem A0{v:Nat}:∀{l:List Nat},v∈l->∃j,l[j]?=some v∧(∀i,i<j->l[i]?≠some v)∧l.erase v=l.take j++l.drop (j+1)
 |a::l,h=>by
  by_cases e:a=v
  .subst e
   exact⟨0,rfl,λi hi=>by omega,by simp⟩
  .obtain⟨j,h1,h2,h3⟩:=A0 (l:=l) (by simpa[show¬v=a from λe2=>e e2.symm]using h)
   refine⟨j+1,by simpa using h1,λi hi=>?_,?_⟩
   .cases i with
    |zero=>simp[e]
    |succ i=>simpa using h2 i (by omega)
   .rw[List.erase_cons_tail (by simpa using e),h3];rfl
theorem Ls(xs:List Nat)(v j:Nat)(hl:xs.length<=9223372036854775807)(hj:xs[j]?=some v)(hm:∀i,i<j->xs[i]?≠some v):aa Tryz.prog 57 [.pv (pd xs),.pv (Z v)] [] [] (.pv (Z j)):=by
 obtain⟨hjl,hje⟩:=List.getElem?_eq_some_iff.1 hj;refine Dp Tryz.func57 ?_;intro C hP hN;simp only[Tryz.f57]at hN|-;refine Gz ?_;refine WP.loopN [] xs.length (λi st=>st.t 0=.pv (pd xs)∧st.t 1=.pv (Z v)∧st.t 7=.pv (Z xs.length)∧st.t 8=.pv (Z i)∧i<=j) (by simp) ?_;rintro i st hi ⟨g0,g1,g7,g8,hij⟩
 have hlt:i<xs.length:=by omega
 have hw:=au hlt hl;have hxi:xs[i]?=some xs[i]:=List.getElem?_eq_getElem hlt;by_cases e:i=j
 .subst e
  exact Gy
 .have hne:=hm i (by omega)
  generalize hx:xs[i]=y at *;have e1:¬v=y:=λe2=>hne (by rw[hxi,e2])
  have e2:¬(v:Int)=(y:Int):=by omega
  refine Gz ?_
  all_goals omega
theorem LK(s:Spc)(c n leaf:Nat)(joint:Int)(hcc:s.cc=false)(h1:s.near.length=n)(h2:s.bx.length=n)(h3:s.cells.length=n)(h4:s.jn.length=n)(hn:n<=2046)(hlf:leaf<n)(hbl:∀x∈s.bx,x.length<=16777216)(hnl:∀v,(ae s v).length<=2046)(hnd:(ae s leaf).Nodup)(hmm:∀k∈ae s leaf,k<n∧k≠leaf∧leaf∈ae s k):
 kC Tryz.prog 23 [.ptr 290 0,.pv (Z leaf),.pv (Z joint)] (aM false s c) (λr h'=>r=.pv (.sl [Z n,Z ((n:Int)+1)])∧∃c',h'=aM false (fu s leaf joint) c'):=by
 have hbx:s.bx[leaf]?=some (fE s leaf):=by simp[fE,List.getElem?_eq_getElem (by omega:leaf<s.bx.length)]
 have hlb:leaf<s.bx.length:=by omega
 have hlc:leaf<s.cells.length:=by omega
 have hbx':=fy hbx hlb;have cH:=I1 (fE s leaf) joint (hbl _ (List.mem_of_getElem? hbx));have hcl:s.cells[leaf]?=some s.cells[leaf]:=List.getElem?_eq_getElem hlc;generalize hce:s.cells[leaf]=cl at *;have h290:=lx false s c;have h291:=oI false s c hcc;rw[p8 hcc]at h290;have h292:=oJ false s c;have h293:=mL false s c;have h294:=rf false s c;have h9:aM false s c 9=none:=rfl;have hw1:IntKind.i64.wrap ((n:Int)+1)=(n:Int)+1:=ab;rw[h1]at h290;rw[h2]at h290;rw[h3]at h290;rw[h4]at h290;have hra:=gh (own:=false) (s:=s) (c:=c) (v:=leaf) (by omega);obtain⟨cs,hcs⟩:∃cs,cs=fZ s.near++List.replicate c cL:=⟨_,rfl⟩;rw[<-hcs]at h293
 have hcl9:cs.length=n+c:=by rw[hcs];simp[bL,h1]
 have ca:cs[leaf]?=some (.arr (leaf+300) (ae s leaf).length):=by rw[hcs,List.getElem?_append_left (by rw[bL];omega),jX (by omega)];rfl
 have ca':∀h,cs[leaf]'h=.arr (leaf+300) (ae s leaf).length:=λh=>fy ca h;have sa:∀x,cs.take leaf++x::cs.drop (leaf+1)=cs.set leaf x:=λx=>nY (by omega)
 have hl1:leaf+1<=n+c:=by omega
 have hlc1:leaf<n+c:=by omega
 refine B8 Tryz.func23 (lg (by omega)) ?_;intro C hP hN;simp only[Tryz.f23]at hN|-;generalize hH:aM false s c=H at *
 with_reducible repeat' (first|refine Sp.h ?_|((with_unfolding_all refine WP.appBAt (hn:=[2000101]) (d:=102) 6 rfl rfl rfl rfl ?_);simp -implicitDefEqProofs (maxSteps:=2000000) [hP,hN,pO,h1,h2,h3,h4,h290,h291,h292,h293,h294,h9,hw1,hlb,hlc,hbx,hbx',hcl,hce,hra,ca,ca',sa,hl1,hlc1,hcl9,hlf,show¬leaf+300=290 by omega,show¬leaf+300=291 by omega,show¬leaf+300=292 by omega,show¬leaf+300=293 by omega,show¬leaf+300=294 by omega,show(n+2)*8<=140737488355328 by omega,show(n+2)*24<=140737488355328 by omega,show(n+2)*112<=140737488355328 by omega,show n+2<=9223372036854775807 by omega])|((first|refine Wd ?_|refine Ss.h ?_|refine Sc.h (cH) ?_|(refine Sb.h ?_ ?_ ?_<;>(try intro hgd)<;>try exact Xy))<;>simp -implicitDefEqProofs (maxSteps:=2000000) [hP,hN,pO,h1,h2,h3,h4,h290,h291,h292,h293,h294,h9,hw1,hlb,hlc,hbx,hbx',hcl,hce,hra,ca,ca',sa,hl1,hlc1,hcl9,hlf,show¬leaf+300=290 by omega,show¬leaf+300=291 by omega,show¬leaf+300=292 by omega,show¬leaf+300=293 by omega,show¬leaf+300=294 by omega,show(n+2)*8<=140737488355328 by omega,show(n+2)*24<=140737488355328 by omega,show(n+2)*112<=140737488355328 by omega,show n+2<=9223372036854775807 by omega]<;>try refine Yc ?_)|refine X2 ?_ ?_|(refine Xd ?_ ?_<;>intro hcd<;>try exact Xx))
 refine⟨293,n,c,(fZ s.near).set leaf cL,.slice none 0 0,22,24,_,[.val (.slice none 0 0),.val (.slice none 0 0)],by simp[St.ev],?_,by simp[bL,h1],?_,by simp[St.ev],by simp,by simp[PV.cells,Value.cells],by simp,by rw[hP];exact Kp,rfl,rfl,by simp;omega,by simp;omega,by omega,by omega,by omega,?_⟩
 .have:cs.set leaf cL=(fZ s.near).set leaf cL++List.replicate c cL:=by rw[hcs,List.set_append_left _ _ (by rw[bL];omega)]
  simp[ah,this]
 .intro y hy
  rcases List.mem_or_eq_of_mem_set hy with hy|rfl
  .simp only[fZ,List.mem_map,List.mem_range]at hy
   obtain⟨v,hv,rfl⟩:=hy;simp[aQ,ax]
  .rfl
 intro r';simp -implicitDefEqProofs (maxSteps:=2000000) [hP,hN,pO,rekey,aq,bm,aQ,ax,h1,h2,h3,h4,h290,h291,h292,h293,h294,h9];refine ym (gA @pO.eq_1 (gA @rekey.eq_1 (gA @aq.eq_1 (gA @bm.eq_1 (gA @bm.eq_2 (gA @aQ.eq_1 (gA @aQ.eq_2 (gA @aQ.eq_3 (gA @aQ.eq_4 (gA @ax.eq_1 (gA @ax.eq_2 (gA @ax.eq_3 (gA @ax.eq_4 (gA h1 (gA h2 (gA h3 (gA h4 (gA h290 (gA h291 (gA h292 (gA h293 (gA h294 (gA h9 hra))))))))))))))))))))))) ?_
 refine WP.of_st (P:=λst=>st.t 0=.ptr 290 0∧st.t 1=.pv (Z leaf)∧st.t 7=.pv (Z n)∧st.t 8=.pv (Z ((n:Int)+1))∧st.t 105=.arr (leaf+300) (ae s leaf).length∧st.t 106=.pv (Z (ae s leaf).length)∧st.t 107=.pv (Z 0)∧
  st.h 250=none∧st.h 290=some (.box [.pv (iv s.root),.arr 291 (n+2),.arr 292 (n+2),.ext (.barr 293 (n+2) (n+2+r')),.arr 294 (n+2)] false false)∧st.h 291=some (.row 76 8 (((ga s leaf joint).cells).map aW) 0)∧st.h 292=some (.row 35 1 ((ga s leaf joint).bx.map iv) 0)∧st.h 294=some (.row 3 1 ((ga s leaf joint).jn.map Z) 0)∧
  st.h 293=some (.box ((fZ s.near).set leaf cL++[cL,cL]++List.replicate r' cL) true false)∧∀k,295<=k->st.h k=H k) ⟨?_,?_⟩
 .simp[ga,h3,aW,aP,hcs,rekey,aq,bm,aQ,ax,ah]
  refine⟨by rw[<-hH];rfl,rfl,λk hk=>?_⟩
  have hk0:H k=none∨∃xs,H k=some (.row 3 1 xs 0):=by rw[<-hH];exact EJ (by omega)
  rcases hk0 with hk0|⟨xs,hk0⟩
  all_goals simp[hk0,show¬k=290 by omega,show¬k=291 by omega,show¬k=292 by omega,show¬k=293 by omega,show¬k=294 by omega,show¬k=9 by omega]
  trace_state
 generalize hS0:ga s leaf joint=s0 at *;rintro st ⟨g0,g1,g7,g8,g105,g106,g107,b250,b290,b291,b292,b294,b293,bhi⟩;have hbL:H (leaf+300)=some (.row 3 1 ((ae s leaf).map λn:Nat=>Z (n:Int)) 0):=hra;refine WP.ren (leaf+300) 250 (by omega) b250 (by omega) (by rw[bhi _ (by omega),hbL];intro cs f e;cases e) ?_;refine WP.nilRows (λq=>decide (q=leaf+300)||decide (q=n+300)||decide (q=n+301)) 3 293 (cs:=(fZ s.near).set leaf cL++[cL,cL]++List.replicate r' cL) (cs':=fZ s0.near++List.replicate r' cL) (own:=true) (fb:=false) ?_ ?_ ?_ ?_ ?_
 .show aL (leaf+300) 250 st.h 293=_
  unfold aL;rw[if_neg (by omega),if_neg (by omega),b293];simp only[Option.map_some,bN,FK]
 .intro q hq
  simp only[Bool.or_eq_true,decide_eq_true_eq]at hq;refine⟨?_,by omega⟩;show aL (leaf+300) 250 st.h q=none;unfold aL;rw[if_neg (by omega)];by_cases e:q=leaf+300
  .rw[if_pos e]
  .rw[if_neg e,bhi q (by omega),<-hH]
   unfold aM;rw[if_neg (by omega),if_neg (by omega),if_neg (by omega),if_neg (by omega),if_neg (by omega),if_neg (by omega)];rfl
 .simp[bL,<-hS0,ga,h1];omega
 .intro i x hx
  rw[<-hS0]at hx;have:=FL i x (by omega) hx;rw[h1]at this;exact this
 obtain⟨old,hold⟩:∃old,old=ae s leaf:=⟨_,rfl⟩
 have hold9:old.length<=2046:=by rw[hold];exact hnl leaf
 rw[<-hold]at g105 g106 hbL hnd hmm
 refine WP.of_st (P:=λst=>st.t 0=.ptr 290 0∧st.t 1=.pv (Z leaf)∧st.t 7=.pv (Z n)∧st.t 8=.pv (Z ((n:Int)+1))∧st.t 105=.arr 250 old.length∧st.t 106=.pv (Z old.length)∧st.t 107=.pv (Z 0)∧st.h 250=some (.row 3 1 (old.map λn:Nat=>Z (n:Int)) 0)∧∀k,inK k=true->st.h k=aM false s0 r' k)
  ⟨⟨by simp[g0,aY,aN,rk],by simp[g1,aY,aN],by simp[g7,aY,aN],by simp[g8,aY,aN],by simp[g105,aY,aN,rk],by simp[g106,aY,aN],by simp[g107,aY,aN],?_,?_⟩,?_⟩
 .have:=bhi (leaf+300) (by omega)
  rw[hbL]at this;simp[aL,this,bN]
 .intro k hk
  have hs0l:s0.near.length=n+2:=by rw[<-hS0];simp[ga,h1]
  have hs0b:s0.bx.length=n+2:=by rw[<-hS0];simp[ga,h2]
  have hs0c:s0.cells.length=n+2:=by rw[<-hS0];simp[ga,h3]
  have hs0j:s0.jn.length=n+2:=by rw[<-hS0];simp[ga,h4]
  have hs0r:s0.root=s.root:=by rw[<-hS0];rfl
  have hs0k:s0.cc=false:=by rw[<-hS0];rfl
  have hs0n:∀v,ae s0 v=if v=leaf then[]else ae s v:=λv=>by rw[<-hS0];exact pf (by omega)
  have hz:∀v,n<=v->ae s v=[]:=λv hv=>by unfold ae;rw[List.getElem?_eq_none (by omega)];rfl
  simp only;simp only[inK,Bool.and_eq_true,decide_eq_true_eq]at hk;by_cases e0:k=290
  .subst e0
   rw[if_neg (by simp),if_neg (by omega),lx,p8 hs0k,hs0l,hs0b,hs0c,hs0j,hs0r];simp[aL,b290,bN,aY,aN,gR,rk,show¬290=leaf+300 by omega,show¬291=leaf+300 by omega,show¬292=leaf+300 by omega,show¬293=leaf+300 by omega,show¬294=leaf+300 by omega]
  by_cases e1:k=291
  .subst e1
   rw[if_neg (by simp),if_neg (by omega),oI _ _ _ hs0k];simp[aL,b291,bN,show¬291=leaf+300 by omega]
  by_cases e2:k=292
  .subst e2
   rw[if_neg (by simp),if_neg (by omega),oJ];simp[aL,b292,bN,show¬292=leaf+300 by omega]
  by_cases e3:k=293
  .subst e3
   rw[if_neg (by simp),if_pos rfl,mL]
  by_cases e4:k=294
  .subst e4
   rw[if_neg (by simp),if_neg (by omega),rf];simp[aL,b294,bN,show¬294=leaf+300 by omega]
  by_cases hK:(decide (k=leaf+300)||decide (k=n+300)||decide (k=n+301))=true
  .rw[if_pos hK]
   simp only[Bool.or_eq_true,decide_eq_true_eq]at hK;obtain⟨v,rfl⟩:∃v,k=v+300:=⟨k-300,by omega⟩;rw[gh (by omega),hs0n];split
   .rfl
   .rw[hz v (by omega)];rfl
  .rw[if_neg hK,if_neg e3]
   simp only[Bool.or_eq_true,decide_eq_true_eq,not_or]at hK
   have h5:aL (leaf+300) 250 st.h k=H k:=by
    unfold aL;rw[if_neg (by omega),if_neg hK.1.1,bhi k (by omega)]
    have hk0:H k=none∨∃xs,H k=some (.row 3 1 xs 0):=by rw[<-hH];exact EJ (by omega)
    rcases hk0 with hk0|⟨xs,hk0⟩<;>rw[hk0]<;>rfl
   rw[h5,<-hH];unfold aM;rw[if_neg e0,if_neg e1,if_neg e2,if_neg e3,if_neg e4,if_neg e0,if_neg e1,if_neg e2,if_neg e3,if_neg e4,hs0l,h1];by_cases h6:300<=k∧k<300+n
   .rw[if_pos h6,if_pos (by omega),hs0n,if_neg (by omega)]
   .rw[if_neg h6,if_neg (by omega)]
 clear g0 g1 g7 g8 g105 g106 g107 b250 b290 b291 b292 b293 b294 bhi st;rintro st ⟨g0,g1,g7,g8,g105,g106,g107,b250,bH⟩;clear h290 h291 h292 h293 h294 h9 hra hbL sa ca ca' hcl9 hcs hw1 hl1 hlc1 hbx' hlb hlc hcl hce cH
 have hb0:∀x∈s0.bx,x.length<=9223372036854775807:=by
  rw[<-hS0];intro x hx;simp only[ga,List.mem_append,List.mem_cons,List.not_mem_nil,or_false]at hx;have hh:(fE s leaf).length<=16777216:=hbl _ (List.mem_of_getElem? hbx);rcases hx with hx|rfl|rfl
  .have:=hbl x hx;omega
  .have:=Du (fE s leaf) joint;omega
  .have:=Dv (fE s leaf) joint;omega
 clear hbx;refine WP.loopN [] old.length (λi st=>st.t 0=.ptr 290 0∧st.t 1=.pv (Z leaf)∧st.t 7=.pv (Z n)∧st.t 8=.pv (Z ((n:Int)+1))∧st.t 105=.arr 250 old.length∧st.t 106=.pv (Z old.length)∧st.t 107=.pv (Z i)∧st.h 250=some (.row 3 1 (old.map λn:Nat=>Z (n:Int)) 0)∧∃S,S=(old.take i).foldl (eD n leaf) s0∧LpI s0 n leaf old i S∧∀k,inK k=true->st.h k=aM false S r' k) ?_ ?_
 .refine⟨by simp[St.kill,aq,aQ,ax,g0],by simp[St.kill,aq,aQ,ax,g1],by simp[St.kill,aq,aQ,ax,g7],by simp[St.kill,aq,aQ,ax,g8],by simp[St.kill,aq,aQ,ax,g105],by simp[St.kill,aq,aQ,ax,g106],by simp[St.kill,aq,aQ,ax,g107],by simp[St.kill,bm,b250],s0,rfl,by rw[<-hS0];exact LpI.zero h1,λk hk=>?_⟩
  show(st.h k).map (bm [])=_;rw[bH k hk,fJ]
 clear g0 g1 g7 g8 g105 g106 g107 b250 bH st;rintro i st hi ⟨g0,g1,g7,g8,g105,g106,g107,b250,S,hS,hI,bH⟩;by_cases hlt:i<old.length
 .have hwr:=au hlt (by omega)
  obtain⟨k,hk⟩:∃k,old[i]?=some k:=⟨_,List.getElem?_eq_getElem hlt⟩;have hk':∀h,old[i]'h=k:=λh=>fy hk h;obtain⟨hkn,hkl,hlk⟩:=hmm k (List.mem_of_getElem? hk)
  have hni:k∉old.take i:=λhm=>by
   have ht:old.take (i+1)=old.take i++[k]:=by rw[List.take_add_one,hk];rfl
   have:=(List.take_sublist (i+1) old).nodup hnd;rw[ht,List.nodup_append]at this;exact this.2.2 k hm k (by simp) rfl
  have hSl:=hI.nl
  have hSk:ae S k=ae s k:=by rw[hI.low k hkn hni,<-hS0,pf (by omega),if_neg hkl]
  have hlen:∀v,(ae S v).length<=4094:=λv=>by
   have h5:=hI.len v;rw[<-hS0,pf (by omega)]at h5;have h6:=hnl v;split at h5
   .split at h5<;>simp at h5<;>omega
   .split at h5<;>omega
  rw[<-hSk]at hlk;obtain⟨j,hj1,hj2,hj3⟩:=A0 hlk;have hjl:j<(ae S k).length:=(List.getElem?_eq_some_iff.1 hj1).1;have ci:=Ls (ae S k) leaf j (by have:=hlen k;omega) hj1 hj2;have hst:=hI.step hnd hk hkn;obtain⟨cs,hcs⟩:∃cs,cs=fZ S.near++List.replicate r' cL:=⟨_,rfl⟩
  have hcl9:cs.length=n+2+r':=by rw[hcs];simp[bL,hSl]
  have ca:cs[k]?=some (.arr (k+300) (ae S k).length):=by rw[hcs,List.getElem?_append_left (by rw[bL];omega),jX (by omega)];rfl
  have ca':∀h,cs[k]'h=.arr (k+300) (ae S k).length:=λh=>fy ca h;have sa:∀x,cs.take k++x::cs.drop (k+1)=cs.set k x:=λx=>nY (by omega)
  have hk1:k+1<=n+2+r':=by omega
  have hk2:k<n+2+r':=by omega
  have hk3:k<n+2:=by omega
  have c290:=(bH 290 rfl).trans (lx false S r');have c293:=(bH 293 rfl).trans (mL false S r');rw[p8 (hI.cc.trans (by rw[<-hS0];rfl))]at c290;have crow:=(bH (k+300) (by simp[inK];omega)).trans (gh (own:=false) (s:=S) (c:=r') (v:=k) (by omega));rw[<-hcs]at c293;rw[hSl]at c290;have hwj:IntKind.i64.wrap ((j:Int)+1)=((j+1:Nat):Int):=(ab (by have:=hlen k;omega) (by have:=hlen k;omega)).trans (by omega)
  with_reducible repeat' (first|refine Sp.h ?_|((with_unfolding_all refine WP.drawX (hn:=[]) 15 rfl (by rw[hP];kernel_rfl) (by kernel_rfl) ?_);simp -implicitDefEqProofs (maxSteps:=2000000) [hP,hN,g0,g1,g7,g8,g105,g106,g107,b250,hlt,hwr,hk,hk',c290,c293,crow,ca,ca',sa,hcl9,hk1,hk2,hk3,hwj])|((first|refine Wd ?_|refine Ss.h ?_|refine Sc.h (ci) ?_|(refine Sb.h ?_ ?_ ?_<;>(try intro hgd)<;>try exact Xy))<;>simp -implicitDefEqProofs (maxSteps:=2000000) [hP,hN,g0,g1,g7,g8,g105,g106,g107,b250,hlt,hwr,hk,hk',c290,c293,crow,ca,ca',sa,hcl9,hk1,hk2,hk3,hwj]<;>try refine Yc ?_)|refine X2 ?_ ?_|(refine Xd ?_ ?_<;>intro hcd<;>try exact Xx))
  refine⟨_,Hj (f:=.func 58) (x:=.tmp 131) (y:=.tmp 132) (z:=.tmp 134) (g:=58) (k:=k+300) (e:=3) (i:=j) (j:=j+1) (zs:=(ae S k).map λn:Nat=>(n:Int)) rfl rfl (by simp[bX]) rfl FV (by simp[St.ev]) (by simp[St.ev]) (by simp[St.ev]) (by simp[crow]) (by omega) (by simp;omega),?_⟩;simp -implicitDefEqProofs (maxSteps:=2000000) [hP,hN,c290,c293,crow,ca,ca',sa,hcl9,hk1,hk2,hk3];refine Yc ?_
  have hcsk:∀i x,cs[i]?=some x->x=cL∨∃m,x=.arr (i+300) m:=λv x hx=>by
   rw[hcs]at hx;by_cases hv:v<S.near.length
   .rw[List.getElem?_append_left (by rw[bL];omega),jX hv]at hx
    injection hx with hx;exact .inr ⟨_,hx.symm⟩
   .rw[List.getElem?_append_right (by rw[bL];omega),List.getElem?_replicate]at hx
    split at hx
    .injection hx with hx;exact .inl hx.symm
    .cases hx
  refine WP.cutRow 293 k (k+300) (m:=(ae S k).length-1) (t:=(ae S k).length) (e:=3) (sz:=1) (own:=true) (fb:=false) (cs:=cs.set k (.ext (.suf (k+300) 0 ((ae S k).length-1) (ae S k).length))) (xs:=m7 (((ae S k).map λn:Nat=>(n:Int)).take j++((ae S k).map λn:Nat=>(n:Int)).drop (j+1)++[0])) ?_ ?_ ?_ ?_ ?_ (by omega) ?_
  .simp[ah]
  .simp[hk2,hcl9]
  .intro v x hx hv
   rw[List.getElem?_set,if_neg (λe=>hv e.symm)]at hx;rcases hcsk v x hx with rfl|⟨m,rfl⟩
   .rfl
   .simp[aQ,ax,hv]
  .simp[ah]
  .simp;omega
  have hSd:∀v,ae (gW S k leaf) v=if v=k then(ae S k).take j++(ae S k).drop (j+1)else ae S v:=by
   intro v;rw[vK (by omega),hj3]
  have hdl:(gW S k leaf).near.length=n+2:=by simp[gW,hSl]
  refine WP.of_st (P:=λst=>st.t 0=.ptr 290 0∧st.t 1=.pv (Z leaf)∧st.t 7=.pv (Z n)∧st.t 8=.pv (Z ((n:Int)+1))∧st.t 15=.pv (Z k)∧st.t 105=.arr 250 old.length∧st.t 106=.pv (Z old.length)∧st.t 107=.pv (Z i)∧st.h 250=some (.row 3 1 (old.map λn:Nat=>Z (n:Int)) 0)∧∀k2,inK k2=true->st.h k2=aM false (gW S k leaf) r' k2)
   ⟨⟨by simp[g0,aq,aQ,ax,ah],by simp[g1,aq,aQ,ax,ah],by simp[g7,aq,aQ,ax,ah],by simp[g8,aq,aQ,ax,ah],by simp[aq,aQ,ax,ah],by simp[g105,aq,aQ,ax,ah],by simp[g106,aq,aQ,ax,ah],by simp[g107,aq,aQ,ax,ah],?_,?_⟩,?_⟩
  .simp[b250,ah,bm,show¬250=k+300 by omega]
  .intro k2 hk9
   simp only;by_cases e1:k2=k+300
   .subst e1
    rw[if_pos rfl,gh (by omega),hSd,if_pos rfl]
    congr 2
    simp only[List.map_append,List.map_take,List.map_drop,List.map_map,List.map_cons,List.map_nil];rw[List.take_append_of_le_length (by simp;omega),List.take_of_length_le (by simp;omega)];rfl
   .rw[if_neg e1]
    by_cases e2:k2=293
    .subst e2
     rw[if_pos rfl,mL];simp only[List.set_set]
     congr 2
     rw[hcs,List.set_append_left _ _ (by rw[bL];omega)]
     congr 1
     .apply List.ext_getElem?
      intro v;rw[List.getElem?_set,bL];by_cases hv:v<n+2
      .have hr:(fZ (gW S k leaf).near)[v]?=some (.arr (v+300) (ae (gW S k leaf) v).length):=jX (by omega)
       rw[hr,hSd];by_cases e:k=v
       .subst e
        rw[if_pos rfl,if_pos (by omega),if_pos rfl];simp;omega
       .rw[if_neg e,if_neg (λe9=>e e9.symm),jX (by omega)];rfl
      .rw[List.getElem?_eq_none (l:=fZ (gW S k leaf).near) (by rw[bL];omega)]
       split
       .rw[if_neg (by omega)]
       .rw[List.getElem?_eq_none (by rw[bL];omega)]
    .rw[if_neg e2]
     rw[bj e2,bj e1,bH k2 hk9];have h6:aM false (gW S k leaf) r' k2=aM false S r' k2:=zj (by simp) e2 (λv hv hlt=>by rw[List.getElem?_set,if_neg (by omega)]);rw[h6];exact EL e2 (by omega)
  clear c290 c293 crow g0 g1 g7 g8 g105 g106 g107 b250 bH st;rintro st ⟨g0,g1,g7,g8,g15,g105,g106,g107,b250,bH⟩;obtain⟨S1,hS1⟩:∃S1,S1=gW S k leaf:=⟨_,rfl⟩
  have d1:S1.near.length=n+2:=by rw[hS1];exact hdl
  have d2:S1.bx.length=n+2:=by rw[hS1];show S.bx.length=_;rw[hI.bx,<-hS0];simp[ga,h2]
  have d3:∀x∈S1.bx,x.length<=9223372036854775807:=by rw[hS1];show∀x∈S.bx,_;rw[hI.bx];exact hb0
  have d4:∀v,(ae S1 v).length<=4094:=λv=>by
   rw[hS1,hSd];have h5:=hlen k;have h6:=hlen v;split
   .simp;omega
   .exact h6
  have d5:∀v,(ae (dP S1 n k) v).length<=4096:=λv=>by
   rw[ly (by omega) (by omega) (by omega)];have h6:=d4 v;split
   .simp;omega
   .omega
  obtain⟨m1,m2,m3,m4,m5⟩:=gG S1 n k
  have hstep:dP (dP S1 n k) (n+1) k=eD n leaf S k:=by rw[hS1];rfl
  rw[<-hS1]at bH
  with_reducible repeat' (first|refine Sp.h ?_|((with_unfolding_all refine WP.takeAt (hn:=[]) 3 rfl rfl rfl ?_);simp -implicitDefEqProofs (maxSteps:=2000000) [hP,hN,g0,g1,g7,g8,g15,g105,g106,g107,b250])|((first|refine Wd ?_|refine Ss.h ?_|(refine Sb.h ?_ ?_ ?_<;>(try intro hgd)<;>try exact Xy))<;>simp -implicitDefEqProofs (maxSteps:=2000000) [hP,hN,g0,g1,g7,g8,g15,g105,g106,g107,b250]<;>try refine Yc ?_)|refine X2 ?_ ?_|(refine Xd ?_ ?_<;>intro hcd<;>try exact Xx))
  refine se (s:=S1) (c:=r') (a:=n) (b:=k) hP rfl (by simp[St.ev]) bH (by omega) (by omega) (by omega) (by omega) (by omega) d3 (λv=>Nat.le_trans (d4 v) (by omega)) (by simp[bX,hN]) ?_;intro r9 h9 hh9 ho9;have c250:=ho9 250 rfl;simp only[b250,Option.map_some,fR]at c250;simp -implicitDefEqProofs (maxSteps:=2000000) [hP,hN,dO,iV,fa,iC,inK,g0,g1,g7,g8,g15,g105,g106,g107]
  with_reducible repeat' (first|refine Sp.h ?_|((with_unfolding_all refine WP.takeAt (hn:=[]) 3 rfl rfl rfl ?_);simp -implicitDefEqProofs (maxSteps:=2000000) [hP,hN,dO,iV,fa,iC,inK,g0,g1,g7,g8,g15,g105,g106,g107,c250])|((first|refine Wd ?_|refine Ss.h ?_|(refine Sb.h ?_ ?_ ?_<;>(try intro hgd)<;>try exact Xy))<;>simp -implicitDefEqProofs (maxSteps:=2000000) [hP,hN,dO,iV,fa,iC,inK,g0,g1,g7,g8,g15,g105,g106,g107,c250]<;>try refine Yc ?_)|refine X2 ?_ ?_|(refine Xd ?_ ?_<;>intro hcd<;>try exact Xx))
  refine se (s:=dP S1 n k) (c:=r') (a:=n+1) (b:=k) hP rfl (by simp[St.ev,dO,iV,fa,iC,inK,g0,g1,g7,g8,g15]) hh9 (by omega) (by omega) (by omega) (by omega) (by rw[m2,m1,d2,d1]) (by rw[m2];exact d3) d5 (by simp[bX,hN]) ?_;intro r8 h8 hh8 ho8;have c250':=ho8 250 rfl;simp only[c250,Option.map_some,fR]at c250';rw[hstep,hS]at hh8;rw[hS]at hst
  have hfo:(old.take (i+1)).foldl (eD n leaf) s0=eD n leaf ((old.take i).foldl (eD n leaf) s0) k:=by
   rw[List.take_add_one,hk,Option.toList_some,List.foldl_append];rfl
  rw[<-hfo]at hh8 hst;simp -implicitDefEqProofs (maxSteps:=2000000) [hP,hN,dO,iV,fa,iC,inK,g0,g1,g7,g8,g15,g105,g106,g107]
  with_reducible repeat' (first|refine Sp.h ?_|((first|refine Wd ?_|refine Ss.h ?_|(refine Sb.h ?_ ?_ ?_<;>(try intro hgd)<;>try exact Xy))<;>simp -implicitDefEqProofs (maxSteps:=2000000) [hP,hN,dO,iV,fa,iC,inK,g0,g1,g7,g8,g15,g105,g106,g107,c250',hwr]<;>try refine Yc ?_)|refine X2 ?_ ?_|(refine Xd ?_ ?_<;>intro hcd<;>try exact Xx))
  exact⟨hst,λk2 a b=>by rw[hh8 k2 (by simp[inK,a,b]),fJ]⟩
 .have hin:i=old.length:=by omega
  subst hin;rw[List.take_of_length_le (Nat.le_refl _)]at hS;have d1:=hI.nl
  have d2:S.bx.length=n+2:=by rw[hI.bx,<-hS0];simp[ga,h2]
  have d3:∀x∈S.bx,x.length<=9223372036854775807:=by rw[hI.bx];exact hb0
  have d4:∀v,(ae S v).length<=4096:=λv=>by
   have h5:=hI.len v;rw[<-hS0,pf (by omega)]at h5;have h6:=hnl v;split at h5
   .split at h5<;>simp at h5<;>omega
   .split at h5<;>omega
  have hfin:dP S n (n+1)=fu s leaf joint:=by rw[hS,<-hS0,hold];unfold fu;rw[h3]
  have d5:(fu s leaf joint).near.length=n+2:=by rw[<-hfin,(gG S n (n+1)).1,d1]
  with_reducible repeat' (first|refine Sp.h ?_|((with_unfolding_all refine WP.takeAt (hn:=[]) 3 rfl rfl rfl ?_);simp -implicitDefEqProofs (maxSteps:=2000000) [hP,hN,g0,g1,g7,g8,g105,g106,g107])|((first|refine Wd ?_|refine Ss.h ?_|(refine Sb.h ?_ ?_ ?_<;>(try intro hgd)<;>try exact Xy))<;>simp -implicitDefEqProofs (maxSteps:=2000000) [hP,hN,g0,g1,g7,g8,g105,g106,g107]<;>try refine Yc ?_)|refine X2 ?_ ?_|(refine Xd ?_ ?_<;>intro hcd<;>try exact Xx))
  refine se (s:=S) (c:=r') (a:=n) (b:=n+1) hP rfl (by simp[St.ev,g7,g8,g0]) bH (by omega) (by omega) (by omega) (by omega) (by omega) d3 d4 (by simp[bX,hN]) ?_;intro r9 h9 hh9 ho9;rw[hfin]at hh9;simp -implicitDefEqProofs (maxSteps:=2000000) [hP,hN,dO,iV,fa,iC,inK,g0,g1,g7,g8,g105,g106,g107]
  with_reducible repeat' (first|refine Sp.h ?_|((first|refine Wd ?_|refine Ss.h ?_|(refine Sb.h ?_ ?_ ?_<;>(try intro hgd)<;>try exact Xy))<;>simp -implicitDefEqProofs (maxSteps:=2000000) [hP,hN,dO,iV,fa,iC,inK,g0,g1,g7,g8,g105,g106,g107]<;>try refine Yc ?_)|refine X2 ?_ ?_|(refine Xd ?_ ?_<;>intro hcd<;>try exact Xx))
  subst hH;exact vJ (s':=fu s leaf joint) (c':=r') rfl rfl (by omega) ⟨rfl,_,rfl⟩ hh9
def Dw(s:Spc)(n p:Nat):Bool:=decide ((ae s p).length<=2046)&&decide (ae s p).Nodup&&(ae s p).all λk=>decide (k<n)&&decide (k≠p)&&decide ((bo s k).low=-1)&&decide (p∈ae s k)
def zT(s:Spc)(i p:Nat):Bool:=(cQ s.bx i p==cQ s.bx p i)&&(!(decide ((bo s i).low=-1)&&decide ((bo s p).low=-1)&&decide (i≠p))||(decide (i∈ae s p)==cQ s.bx i p))
def Cv(s:Spc):Bool:=decide (s.cells.length<=2040)&&decide (s.bx.length=s.cells.length)&&decide (s.near.length=s.cells.length)&&decide (s.jn.length=s.cells.length)&&(s.cc==false) &&
 s.bx.all (λb=>decide (b.length<=16))&&s.cells.all (λc=>decide (c.v.nor.length<=4096))&&(List.range s.cells.length).all (λp=>Dw s s.cells.length p)&&(List.range s.cells.length).all λi=>(List.range s.cells.length).all (zT s i)
def r7(sc:Sce)(w:Int)(hints:List Vc)(s:Spc)(h:Nat):Spc:={s with cells:=s.cells.set h {(bo s h)with v:=dN (eS sc (fE s h) hints)},jn:=s.jn.set h (qD sc.js sc.ms w (fE s h))}
def gg(s:Spc)(p q:List Int):Int×Int×Int:=rd s s.cells.length p q (cQ s.bx)
def GV(sc:Sce)(w:Int)(s:Spc)(leaf:Nat)(joint:Int):Spc:=r7 sc w (bo s leaf).v.nor (r7 sc w (bo s leaf).v.nor (fu s leaf joint) s.cells.length) (s.cells.length+1)
def sd(sc:Sce)(p q:List Int)(w cells:Int):Nat->Spc->Option (Spc×Int)
 |0,_=>none
 |f+1,s=>if Cv s then(if(gg s p q).2.2=3 then(if cells-2<s.cells.length then some (s,4)else if decide ((gg s p q).1=(gg s p q).1.toNat)&&decide ((gg s p q).1.toNat<s.cells.length)then sd sc p q w cells f (GV sc w s (gg s p q).1.toNat (gg s p q).2.1)else none)else some (s,(gg s p q).2.2))else none
def vH(sc:Sce)(w:Int):Spc:={root:=aI sc.js sc.ms,cells:=[aP (dN (eS sc (aI sc.js sc.ms) []))],bx:=[aI sc.js sc.ms],near:=[[]],jn:=[qD sc.js sc.ms w (aI sc.js sc.ms)]}
section
variable {s:Spc} (h:Cv s=true)
include h
theorem p7:s.cells.length<=2040∧s.bx.length=s.cells.length∧s.near.length=s.cells.length∧s.jn.length=s.cells.length∧s.cc=false∧(∀b∈s.bx,b.length<=16)∧(∀c∈s.cells,c.v.nor.length<=4096)∧(∀p,p<s.cells.length->Dw s s.cells.length p=true)∧∀i p,i<s.cells.length->p<s.cells.length->zT s i p=true:=by
 simp only[Cv,Bool.and_eq_true,decide_eq_true_eq,beq_iff_eq,List.all_eq_true,List.mem_range]at h;obtain⟨⟨⟨⟨⟨⟨⟨⟨a1,a2⟩,a3⟩,a4⟩,a5⟩,a6⟩,a7⟩,a8⟩,a9⟩:=h;exact⟨a1,a2,a3,a4,a5,a6,a7,a8,λi p hi hp=>a9 i hi p hp⟩
theorem Cw:∀p,(ae s p).length<=2046∧(ae s p).Nodup∧∀k∈ae s p,k<s.cells.length∧k≠p∧(bo s k).low=-1∧p∈ae s k:=by
 obtain⟨a1,a2,a3,a4,a5,a6,a7,a8,a9⟩:=p7 h;intro p;by_cases hp:p<s.cells.length
 .have:=a8 p hp
  simp only[Dw,Bool.and_eq_true,decide_eq_true_eq,List.all_eq_true]at this;exact⟨this.1.1,this.1.2,λk hk=>⟨(this.2 k hk).1.1.1,(this.2 k hk).1.1.2,(this.2 k hk).1.2,(this.2 k hk).2⟩⟩
 .have:ae s p=[]:=by unfold ae;rw[List.getElem?_eq_none (by omega)];rfl
  rw[this];exact⟨by simp,List.nodup_nil,λk hk=>by cases hk⟩
theorem JX:SpcC s s.cells.length (cQ s.bx):=by
 obtain⟨a1,a2,a3,a4,a5,a6,a7,a8,a9⟩:=p7 h;have hr:=Cw h;refine⟨⟨by omega,rfl,a2,a3,a4,λb hb=>by have:=a6 b hb;omega,λp i hi=>?_,λp=>by have:=(hr p).1;omega⟩,λi j hi hj=>?_,λi p hi hil hp hpl hne=>?_⟩
 .have:=(hr p).2.2 i hi
  exact⟨this.1,this.2.2.1⟩
 .have:=a9 i j hi hj
  simp only[zT,Bool.and_eq_true,beq_iff_eq]at this;exact this.1
 .have:=a9 i p hi hp
  simp only[zT,Bool.and_eq_true,hil,hpl,decide_true,Bool.true_and,ne_eq,hne,not_false_eq_true,Bool.not_true,Bool.false_or,beq_iff_eq]at this;rw[<-this.2];simp
end
theorem Dx(s:Spc)(leaf:Nat)(joint:Int):(fu s leaf joint).near.length=s.near.length+2∧(fu s leaf joint).bx.length=s.bx.length+2∧(fu s leaf joint).cells.length=s.cells.length+2∧(fu s leaf joint).jn.length=s.jn.length+2∧(fu s leaf joint).cc=false:=by
 have fold:∀(l:List Nat)(x:Spc),(l.foldl (eD s.cells.length leaf) x).near.length=x.near.length∧(l.foldl (eD s.cells.length leaf) x).bx=x.bx∧(l.foldl (eD s.cells.length leaf) x).cells=x.cells∧(l.foldl (eD s.cells.length leaf) x).jn=x.jn∧(l.foldl (eD s.cells.length leaf) x).cc=x.cc:=by
  intro l
  induction l with
  |nil=>intro x;exact⟨rfl,rfl,rfl,rfl,rfl⟩
  |cons a l ih=>
   intro x;obtain⟨b1,b2,b3,b4,b5⟩:=ih (eD s.cells.length leaf x a);obtain⟨c1,c2,c3,c4,_⟩:=zk s.cells.length leaf x a;exact⟨b1.trans c1,b2.trans c2,b3.trans c3,b4.trans c4,b5.trans (Cz _ _ _ _)⟩
 obtain⟨b1,b2,b3,b4,b5⟩:=fold (ae s leaf) (ga s leaf joint);unfold fu;obtain⟨c1,c2,c3,c4,_⟩:=gG ((ae s leaf).foldl (eD s.cells.length leaf) (ga s leaf joint)) s.cells.length (s.cells.length+1);rw[c1,c2,c3,c4,uz,b1,b2,b3,b4,b5];simp[ga]
theorem Hw{own:Bool}(hl:jn.length=s.jn.length)(h1:k≠294):aM own {s with jn:=jn} c k=aM own s c k:=by
 unfold aM;simp only[hl,if_neg h1];rfl
set_option maxRecDepth 100000 in
@[simp] theorem KD:dp Tryz.prog 14:=by
 have hf:=Tryz.func14;have nt:=Tryz.ntmps14;have rs:=Tryz.results14;exact wY
theorem Ds{C:Cx}{r:AV}{e sz:Nat}{ys:List PV}(hcal:bC (st.ev f)=some (g,[],[]))(hargs:xs.map st.ev=args)(hok:args.all nR=true)(hH:∀k,inK k=true->st.h k=none)
 (hD:kC C.P g args iX (λr' h'=>r'=r∧h'=eh e sz ys))(hd:bX C.N d=true)
 (h:∀h',(∀k,inK k=true->h' k=eh e sz ys k)->(∀k,inK k=false->h' k=(st.h k).map fR)->Q (St.put ⟨λn=>dO (st.t n),h'⟩ d r [])):nX C Q f xs d st:=by
 refine⟨_,λr' h'=>r'=r∧h'=eh e sz ys,hcal,zl hH,?_,by rw[hargs];exact hok,hd,λr' h' hL ho hp=>?_⟩
 .rw[hargs,A9 hH];exact hD
 .obtain⟨rfl,rfl⟩:=hp
  refine h _ (λk hk=>?_) (λk hk=>by unfold dX;rw[if_neg (by rw[hk];decide)]);unfold dX;rw[if_pos hk];split
  .rename_i e9;subst e9;rfl
  .rfl
theorem Dt{C:Cx}{e sz:Nat}{ys:List PV}(hcal:bC (st.ev f)=some (g,[],[]))(hargs:xs.map st.ev=args)(hok:args.all nR=true)(hH:∀k,inK k=true->st.h k=eh e sz ys k)
 (hD:kC C.P g args (eh e sz ys) (λr' h'=>r'=.ptr 290 0∧h'=aM true s 0))(hd:bX C.N d=true)
 (h:∀h',(∀k,inK k=true->h' k=aM true s 0 k)->(∀k,inK k=false->h' k=(st.h k).map fR)->Q (St.put ⟨λn=>dO (st.t n),h'⟩ d (.ptr 290 0) [])):nX C Q f xs d st:=by
 have h290:st.h 290=none:=by rw[hH 290 rfl];rfl
 have hL:LookH (eh e sz ys):=zf
 have hin:fh st.h=eh e sz ys:=by
  funext k
  unfold fh;by_cases hk:inK k=true
  .rw[if_pos hk]
   split
   .rename_i e9;subst e9;rw[h290];rfl
   .exact hH k hk
  .rw[if_neg hk]
   cases hr:eh e sz ys k with
   |none=>rfl
   |some b=>exact absurd (hL.keys k b hr) hk
 refine⟨_,λr' h'=>r'=.ptr 290 0∧h'=aM true s 0,hcal,⟨λk b o hk hb=>hL.nf k b o (by rw[<-hH k hk];exact hb),λk b hk hb=>hL.nm k b (by rw[<-hH k hk];exact hb),λk cs o f hk hb=>hL.cl k cs o f (by rw[<-hH k hk];exact hb),λk cs f hk hb=>?_,λb hb=>(by rw[h290]at hb;cases hb)⟩,?_,by rw[hargs];exact hok,hd,λr' h' hL ho hp=>?_⟩
 .rw[hH k hk]at hb
  obtain⟨_,h9⟩:=dn hb;cases h9
 .rw[hargs,hin];exact hD
 .obtain⟨rfl,rfl⟩:=hp
  refine h _ (λk hk=>?_) (λk hk=>by unfold dX;rw[if_neg (by rw[hk];decide)]);unfold dX;rw[if_pos hk];split
  .rename_i e9;subst e9
   have:jA st.h 290=true:=by simp only[jA,h290]
   rw[this];rfl
  .rfl
theorem EB{C:Cx}{s':Spc}{r:AV}(hcal:bC (st.ev f)=some (g,[],[]))(hargs:xs.map st.ev=args)(hok:args.all nR=true)(hH:∀k,inK k=true->st.h k=aM true s c k)(hn:s.near.length<=4096)
 (hD:kC C.P g args (aM false s c) (λr' h'=>r'=r∧∃c',h'=aM false s' c'))(hd:bX C.N d=true)
 (h:∀h' c',(∀k,inK k=true->h' k=aM true s' c' k)->(∀k,inK k=false->h' k=(st.h k).map fR)->Q (St.put ⟨λn=>dO (st.t n),h'⟩ d r [])):nX C Q f xs d st:=by
 refine⟨_,λr' h'=>r'=r∧∃c',h'=aM false s' c',hcal,A6 hn hH,?_,by rw[hargs];exact hok,hd,λr' h' hL ho hp=>?_⟩
 .rw[hargs,CA hn hH];exact hD
 .obtain⟨rfl,c',rfl⟩:=hp
  exact h _ c' (λk hk=>A7 hH hk) (λk hk=>by unfold dX;rw[if_neg (by rw[hk];decide)])
def nT(sc:Sce)(w:Int)(H:List Vc)(S0:Spc)(n:Nat):Nat->Spc
 |0=>S0
 |j+1=>r7 sc w H (nT sc w H S0 n j) (n+j)
theorem vD(sc:Sce)(w:Int)(H:List Vc)(S0:Spc)(n:Nat):∀j,(nT sc w H S0 n j).near=S0.near∧(nT sc w H S0 n j).bx=S0.bx∧(nT sc w H S0 n j).cells.length=S0.cells.length∧(nT sc w H S0 n j).jn.length=S0.jn.length∧(nT sc w H S0 n j).cc=S0.cc
 |0=>⟨rfl,rfl,rfl,rfl,rfl⟩
 |j+1=>by
  obtain⟨b1,b2,b3,b4,b5⟩:=vD sc w H S0 n j;refine⟨b1,b2,?_,?_,b5⟩
  .simp only[nT,r7,List.length_set];exact b3
  .simp only[nT,r7,List.length_set];exact b4
theorem EC{own:Bool}{cs:List Cel}(hcc:s.cc=false)(h1:cs.length=s.cells.length)(h2:jn.length=s.jn.length)(n1:k≠291)(n2:k≠294):aM own {s with cells:=cs,jn:=jn} c k=aM own s c k:=by
 unfold aM;by_cases e:k=290
 .rw[if_pos e,if_pos e,p8 (s:={s with cells:=cs,jn:=jn}) hcc,p8 hcc]
  simp only[h1,h2]
 .rw[if_neg e,if_neg e,if_neg n1,if_neg n1]
  simp only[if_neg n2];rfl
def FF(sc:Sce):Spc:=xk (aI sc.js sc.ms) (dN (eS sc (aI sc.js sc.ms) []))
theorem Hy(sc:Sce)(w:Int):vH sc w={FF sc with jn:=[qD sc.js sc.ms w (aI sc.js sc.ms)]}:=rfl
set_option maxRecDepth 10000 in
theorem d8(sc:Sce)(p q:List Int)(w cells:Int)(f:Nat)(R:Spc×Int)(hs:ScL sc)(h0:eu sc=0)(h1:kl sc.js sc.ms p=true)(h2:kl sc.js sc.ms q=true)(h3:1<=w)(h4:1<=cells)(h5:cells<=2048)(hpl:p.length<=9223372036854775807)(hql:q.length<=9223372036854775807)(hr0:dt (aI sc.js sc.ms)=true)(hi0:kX sc.js sc.ms (aI sc.js sc.ms)=true)(hv0:ay (lZ (aI sc.js sc.ms) bn)=true)(hy0:cX (lZ (aI sc.js sc.ms) bn) 0 (dN (eS sc (aI sc.js sc.ms) []))=true)(hvv:CQ 16777216 (dN (eS sc (aI sc.js sc.ms) [])))(ht0:TSm (lZ (aI sc.js sc.ms) bn))(hv1:ay (lZ (aI sc.js sc.ms) (dN (eS sc (aI sc.js sc.ms) [])))=true)(hll:(aI sc.js sc.ms).length<=16)(hR:sd sc p q w cells f (vH sc w)=some R):aa Tryz.prog 8 [.pv (jG sc),.pv (zs p),.pv (zs q),.pv (Z w),.pv (Z cells)] [] [] (.pv (.tup [.agg [iv R.1.root,.sl (R.1.cells.map aW)],Z R.2])):=by
 have cs:=OO sc hs;have cp:=FW sc.js sc.ms p hs.js hs.ms;have cq:=FW sc.js sc.ms q hs.js hs.ms;have cl:=wZ sc.js sc.ms hs.js hs.ms;have cn:=OT (aI sc.js sc.ms) (by omega);rw[h0]at cs;rw[h1]at cp;rw[h2]at cq;rw[hr0]at cn
 have hnt:qK (aI sc.js sc.ms)=lZ (aI sc.js sc.ms) bn:=by unfold qK;rw[if_pos hr0]
 rw[hnt]at cn
 have hbo:fP (lZ (aI sc.js sc.ms) bn) 0=aI sc.js sc.ms:=by
  have hok:iK (lZ (aI sc.js sc.ms) bn) 0=true:=by simp[iK,hv0]
  unfold fP;rw[if_pos hok];exact Gp hv0
 have hb0:iK (lZ (aI sc.js sc.ms) bn) 0=true:=by simp[iK,hv0]
 have hD1:=LC sc (lZ (aI sc.js sc.ms) bn) (aP bn) hs ht0 h0 hb0 (by rw[hbo];exact hi0) rfl (by rw[hbo];omega) (by simp[aP,bn]) (by rw[hbo];exact hvv) (by rw[hbo];exact hy0);rw[hbo]at hD1;have hD2:=JU (aI sc.js sc.ms) (dN (eS sc (aI sc.js sc.ms) [])) hv1
 have hw3:¬w<1:=by omega
 have hc4:¬cells<1:=by omega
 have hc5:¬2048<cells:=by omega
 have hwc:IntKind.i64.wrap (cells-2)=cells-2:=ab;refine Dp Tryz.func8 ?_;intro C hP hN;simp only[Tryz.f8]at hN|-
 with_reducible repeat' (first|refine Sp.h ?_|((with_unfolding_all refine WP.takeAt (hn:=[]) (f:=.func 19) 2 rfl rfl rfl ?_);simp -implicitDefEqProofs (maxSteps:=2000000) [hP,hN,hw3,hc4,hc5,aP])|((first|refine Wd ?_|refine Ss.h ?_|refine Sc.h (cs) ?_|refine Sc.h (cp) ?_|refine Sc.h (cq) ?_|refine Sc.h (cl) ?_|refine Sc.h (cn) ?_|(refine Sb.h ?_ ?_ ?_<;>(try intro hgd)<;>try exact Xy))<;>simp -implicitDefEqProofs (maxSteps:=2000000) [hP,hN,hw3,hc4,hc5,aP]<;>try refine Ya ?_)|refine X2 ?_ ?_|(refine Xd ?_ ?_<;>intro hcd<;>try exact Xx))
 have hset:(dE (lZ (aI sc.js sc.ms) bn) 0 (dN (eS sc (aI sc.js sc.ms) []))).cells.map aW=[aW (aP (dN (eS sc (aI sc.js sc.ms) [])))]:=by unfold dE;rw[if_pos hy0];simp[eI]
 have hD1':kC Tryz.prog 19 ([jG sc,da (lZ (aI sc.js sc.ms) bn),Z 0].map .pv) iX (λr h'=>r=.tup [.agg [.pv (iv (aI sc.js sc.ms)),.arr 291 1],.pv (B true)]∧h'=eh 76 8 [aW (aP (dN (eS sc (aI sc.js sc.ms) [])))]):=by
  have:=hD1;simp only[aP,bn]at this|-;rw[show eS sc (aI sc.js sc.ms) ([]:List Vc)=eS sc (aI sc.js sc.ms) [] from rfl]at this;simp only[aP,bn]at hset;rw[hset]at this;exact this
 clear hD1 hset;refine Ds (g:=19) (args:=[jG sc,da (lZ (aI sc.js sc.ms) bn),Z 0].map .pv) rfl (by simp[St.ev,aP]) rfl ?_ (by rw[hP];exact hD1') (by simp[bX,hN]) ?_
 .intro k hk
  simp only[inK,Bool.and_eq_true,decide_eq_true_eq]at hk;simp[oX,show¬k=5 by omega,show¬k=10 by omega,show¬k=11 by omega,show¬k=12 by omega]
 intro h' hh ho;have c5:=ho 5 rfl;have c10:=ho 10 rfl;have c11:=ho 11 rfl;have c12:=ho 12 rfl;have c291:h' 291=some (.row 76 8 [aW (aP (dN (eS sc (aI sc.js sc.ms) [])))] 0):=(hh 291 rfl).trans (by simp[eh]);simp[fR,dO,iV,fa,oX]at c5 c10 c11 c12;simp -implicitDefEqProofs (maxSteps:=2000000) [hP,hN,dO,iV,fa,ry,iC,inK,c5,c10,c11,c12,c291];refine WP.of_st (P:=λst=>st.t 1=.pv (zs p)∧st.t 2=.pv (zs q)∧st.t 3=.pv (Z w)∧st.t 4=.pv (Z cells)∧st.t 5=.ptr 5 0∧st.t 10=.ptr 10 0∧st.t 11=.ptr 11 0∧st.t 12=.ptr 12 0∧st.h 5=some (.box [.pv (.sl (sc.js.map cW)),.pv (.sl (sc.ms.map fc)),.pv (.sl (sc.shs.map eL)),.pv (.sl (sc.sks.map aU))] true false)∧(∃x y,st.h 10=some (.box [.pv x,.pv y] true false))∧(∃x,st.h 11=some (.box [.pv x] true false))∧st.h 12=some (.box [.pv (iv (aI sc.js sc.ms)),.arr 291 1] true false)∧∀k,inK k=true->st.h k=eh 76 8 [aW (aP (dN (eS sc (aI sc.js sc.ms) [])))] k) ⟨?_,?_⟩
 .simp[dO,iV,fa,ry,iC,inK,c5,c10,c11,c12]
  exact λk a b=>by rw[if_neg (by omega)];exact hh k (by simp[inK,a,b])
 clear hh ho c5 c10 c11 c12 c291 h';rintro st ⟨g1,g2,g3,g4,g5,g10,g11,g12,b5,⟨x10,y10,b10⟩,⟨x11,b11⟩,b12,bH⟩
 with_reducible repeat' (first|refine Sp.h ?_|((with_unfolding_all refine WP.takeAt (hn:=[]) (f:=.func 20) 1 rfl rfl rfl ?_);simp -implicitDefEqProofs (maxSteps:=2000000) [hP,hN,g1,g2,g3,g4,g5,g10,g11,g12,b5,b10,b11,b12])|((first|refine Wd ?_|refine Ss.h ?_|(refine Sb.h ?_ ?_ ?_<;>(try intro hgd)<;>try exact Xy))<;>simp -implicitDefEqProofs (maxSteps:=2000000) [hP,hN,g1,g2,g3,g4,g5,g10,g11,g12,b5,b10,b11,b12]<;>try refine Yc ?_)|refine X2 ?_ ?_|(refine Xd ?_ ?_<;>intro hcd<;>try exact Xx))
 refine Dt (g:=20) (args:=[.agg [.pv (iv (aI sc.js sc.ms)),.arr 291 1]]) rfl (by simp[St.ev]) rfl bH (by rw[hP];exact hD2) (by simp[bX,hN]) ?_;intro h' hh ho;have c5:=ho 5 rfl;have c10:=ho 10 rfl;have c11:=ho 11 rfl;simp only[b5,b10,b11,Option.map_some,fR,List.map_cons,List.map_nil]at c5 c10 c11;have c5':h' 5=some (.box [.pv (.sl (sc.js.map cW)),.pv (.sl (sc.ms.map fc)),.pv (.sl (sc.shs.map eL)),.pv (.sl (sc.sks.map aU))] true false):=c5;have c10':h' 10=some (.box [.pv x10,.pv y10] true false):=c10;have c11':h' 11=some (.box [.pv x11] true false):=c11;simp -implicitDefEqProofs (maxSteps:=2000000) [hP,hN,dO,iV,fa,ry,iC,inK,g1,g2,g3,g4,g5,g10,g11,g12,c5',c10',c11'];refine WP.of_st (P:=λst=>st.t 1=.pv (zs p)∧st.t 2=.pv (zs q)∧st.t 3=.pv (Z w)∧st.t 4=.pv (Z cells)∧st.t 5=.ptr 5 0∧st.t 10=.ptr 10 0∧st.t 11=.ptr 11 0∧st.t 14=.ptr 290 0∧st.h 5=some (.box [.pv (.sl (sc.js.map cW)),.pv (.sl (sc.ms.map fc)),.pv (.sl (sc.shs.map eL)),.pv (.sl (sc.sks.map aU))] true false)∧(∃x y,st.h 10=some (.box [.pv x,.pv y] true false))∧(∃x,st.h 11=some (.box [.pv x] true false))∧∀k,inK k=true->st.h k=aM true (FF sc) 0 k) ⟨?_,?_⟩
 .simp[dO,iV,fa,ry,iC,inK,g1,g2,g3,g4,g5,g10,g11,c5',c10',c11']
  exact λk a b=>hh k (by simp[inK,a,b])
 clear hh ho c5 c10 c11 c5' c10' c11' h' bH b5 b10 b11 b12 g1 g2 g3 g4 g5 g10 g11 g12 x10 y10 x11 st;rintro st ⟨g1,g2,g3,g4,g5,g10,g11,g14,b5,⟨x10,y10,b10⟩,⟨x11,b11⟩,bH⟩;have c290:st.h 290=some (.box [.pv (iv (aI sc.js sc.ms)),.arr 291 1,.arr 292 1,.ext (.barr 293 1 1),.arr 294 1] true false):=bH 290 rfl;have c292:st.h 292=some (.row 35 1 [iv (aI sc.js sc.ms)] 0):=bH 292 rfl;have c294:st.h 294=some (.row 3 1 [Z (-1)] 0):=bH 294 rfl;have cf:=I3 sc.js sc.ms (aI sc.js sc.ms) w hs.js hs.ms (by omega)
 with_reducible repeat' (first|refine Sp.h ?_|((first|refine Wd ?_|refine Ss.h ?_|refine Sc.h (cf) ?_|(refine Sb.h ?_ ?_ ?_<;>(try intro hgd)<;>try exact Xy))<;>simp -implicitDefEqProofs (maxSteps:=2000000) [hP,hN,g1,g2,g3,g4,g5,g10,g11,g14,b5,b10,b11,c290,c292,c294]<;>try refine Yc ?_)|refine X2 ?_ ?_|(refine Xd ?_ ?_<;>intro hcd<;>try exact Xx))
 refine WP.of_st (P:=λst=>st.t 1=.pv (zs p)∧st.t 2=.pv (zs q)∧st.t 3=.pv (Z w)∧st.t 4=.pv (Z cells)∧st.t 5=.ptr 5 0∧st.t 10=.ptr 10 0∧st.t 11=.ptr 11 0∧st.t 14=.ptr 290 0∧st.h 5=some (.box [.pv (.sl (sc.js.map cW)),.pv (.sl (sc.ms.map fc)),.pv (.sl (sc.shs.map eL)),.pv (.sl (sc.sks.map aU))] true false)∧(∃x y,st.h 10=some (.box [.pv x,.pv y] true false))∧(∃x,st.h 11=some (.box [.pv x] true false))∧∀k,inK k=true->st.h k=aM true (vH sc w) 0 k) ⟨?_,?_⟩
 .simp[ah,g1,g2,g3,g4,g5,g10,g11,g14,b5,b10,b11]
  intro k hk;by_cases e:k=294
  .subst e;rw[if_pos rfl];rfl
  .rw[if_neg e,bH k hk,Hy]
   exact(Hw (s:=FF sc) (jn:=[qD sc.js sc.ms w (aI sc.js sc.ms)]) (by rfl) e).symm
 clear c290 c292 c294 bH b5 b10 b11 g1 g2 g3 g4 g5 g10 g11 g14 x10 y10 x11 st;rintro st ⟨g1,g2,g3,g4,g5,g10,g11,g14,b5,⟨x10,y10,b10⟩,⟨x11,b11⟩,bH⟩;clear hD1' hD2 hv0 hy0 hvv ht0 hv1 hr0 hi0 hb0 hbo hnt cn cl cs cp cq cf h1 h2 h0;refine WP.loopN [] f (λi st=>(∃S c,sd sc p q w cells (f-i) S=some R∧∀k,inK k=true->st.h k=aM true S c k)∧st.t 1=.pv (zs p)∧st.t 2=.pv (zs q)∧st.t 3=.pv (Z w)∧st.t 4=.pv (Z cells)∧st.t 5=.ptr 5 0∧st.t 10=.ptr 10 0∧st.t 11=.ptr 11 0∧st.t 14=.ptr 290 0∧st.h 5=some (.box [.pv (.sl (sc.js.map cW)),.pv (.sl (sc.ms.map fc)),.pv (.sl (sc.shs.map eL)),.pv (.sl (sc.sks.map aU))] true false)∧(∃x y,st.h 10=some (.box [.pv x,.pv y] true false))∧(∃x,st.h 11=some (.box [.pv x] true false))) ?_ ?_
 .refine⟨⟨vH sc w,0,by simpa using hR,λk hk=>?_⟩,by simp[St.kill,aq,aQ,ax,g1],by simp[St.kill,aq,aQ,ax,g2],by simp[St.kill,aq,aQ,ax,g3],by simp[St.kill,aq,aQ,ax,g4],by simp[St.kill,aq,aQ,ax,g5],by simp[St.kill,aq,aQ,ax,g10],by simp[St.kill,aq,aQ,ax,g11],by simp[St.kill,aq,aQ,ax,g14],by simp[St.kill,aq,bm,aQ,ax,b5],⟨x10,y10,by simp[St.kill,aq,bm,aQ,ax,b10]⟩,⟨x11,by simp[St.kill,aq,bm,aQ,ax,b11]⟩⟩
  show(st.h k).map (bm [])=_;rw[bH k hk,fJ]
 clear bH b5 b10 b11 g1 g2 g3 g4 g5 g10 g11 g14 x10 y10 x11 st hR;rintro i st hi ⟨⟨S,c,hgo,bH⟩,g1,g2,g3,g4,g5,g10,g11,g14,b5,⟨x10,y10,b10⟩,⟨x11,b11⟩⟩
 obtain⟨m,hm⟩:∃m,f-i=m+1:=by
  cases h:f-i with
  |zero=>rw[h]at hgo;cases hgo
  |succ m=>exact⟨m,rfl⟩
 rw[hm]at hgo;simp only[sd]at hgo;by_cases hok:Cv S=true
 case neg=>rw[if_neg hok]at hgo;cases hgo
 rw[if_pos hok]at hgo;obtain⟨a1,a2,a3,a4,a5,a6,a7,a8,a9⟩:=p7 hok;have cN:=NP S S.cells.length p q (cQ S.bx) (JX hok) hpl hql;have hnx:rd S S.cells.length p q (cQ S.bx)=gg S p q:=rfl;rw[hnx]at cN;have hcon:=CB (by omega) bH;have hlo:=A8 bH;have hcp:∀x,fS st.h 3 (.pv x)=some x:=λ_=>rfl;have c290:=(bH 290 rfl).trans (lx true S c);rw[p8 a5,a2,a3,a4]at c290;have c291:=(bH 291 rfl).trans (oI true S c a5);have c292:=(bH 292 rfl).trans (oJ true S c);by_cases e3:(gg S p q).2.2=3
 case neg=>
  rw[if_neg e3]at hgo;injection hgo with hgo;subst hgo
  have e3':((gg S p q).2.2 !=3)=true:=by simp[e3]
  generalize gg S p q=NX at *
  with_reducible repeat' (first|refine Sp.h ?_|((with_unfolding_all refine WP.lendAt (hn:=[]) (f:=.func 22) 3 rfl rfl rfl ?_);simp -implicitDefEqProofs (maxSteps:=2000000) [hP,hN,g1,g2,g3,g4,g5,g10,g11,g14,b5,b10,b11])|((first|refine Wd ?_|refine Ss.h ?_|(refine Sb.h ?_ ?_ ?_<;>(try intro hgd)<;>try exact Xy))<;>simp -implicitDefEqProofs (maxSteps:=2000000) [hP,hN,g1,g2,g3,g4,g5,g10,g11,g14,b5,b10,b11]<;>try refine Yc ?_)|refine X2 ?_ ?_|(refine Xd ?_ ?_<;>intro hcd<;>try exact Xx))
  refine⟨22,[hC S,zs p,zs q],_,rfl,hlo,by simp[St.ev,k9,g1,g2,g14,hcon,hcp],by rw[hP];exact cN,rfl,by simp[bX,hN],?_⟩;simp -implicitDefEqProofs (maxSteps:=2000000) [hP,hN,g1,g2,g3,g4,g5,g10,g11,g14]
  with_reducible repeat' (first|refine Sp.h ?_|((first|refine Wd ?_|refine Ss.h ?_|(refine Sb.h ?_ ?_ ?_<;>(try intro hgd)<;>try exact Xy))<;>simp -implicitDefEqProofs (maxSteps:=2000000) [hP,hN,e3,e3',c290,c291,g1,g2,g3,g4,g5,g10,g11,g14,b5,b10,b11]<;>try refine Yc ?_)|refine X2 ?_ ?_|(refine Xd ?_ ?_<;>intro hcd<;>try exact Xx))
 rw[if_pos e3]at hgo
 have e3':((gg S p q).2.2 !=3)=false:=by simp[e3]
 by_cases e4:cells-2<S.cells.length
 case pos=>
  rw[if_pos e4]at hgo;injection hgo with hgo;subst hgo;generalize gg S p q=NX at *
  with_reducible repeat' (first|refine Sp.h ?_|((with_unfolding_all refine WP.lendAt (hn:=[]) (f:=.func 22) 3 rfl rfl rfl ?_);simp -implicitDefEqProofs (maxSteps:=2000000) [hP,hN,g1,g2,g3,g4,g5,g10,g11,g14,b5,b10,b11])|((first|refine Wd ?_|refine Ss.h ?_|(refine Sb.h ?_ ?_ ?_<;>(try intro hgd)<;>try exact Xy))<;>simp -implicitDefEqProofs (maxSteps:=2000000) [hP,hN,g1,g2,g3,g4,g5,g10,g11,g14,b5,b10,b11]<;>try refine Yc ?_)|refine X2 ?_ ?_|(refine Xd ?_ ?_<;>intro hcd<;>try exact Xx))
  refine⟨22,[hC S,zs p,zs q],_,rfl,hlo,by simp[St.ev,k9,g1,g2,g14,hcon,hcp],by rw[hP];exact cN,rfl,by simp[bX,hN],?_⟩;simp -implicitDefEqProofs (maxSteps:=2000000) [hP,hN,g1,g2,g3,g4,g5,g10,g11,g14]
  with_reducible repeat' (first|refine Sp.h ?_|((first|refine Wd ?_|refine Ss.h ?_|(refine Sb.h ?_ ?_ ?_<;>(try intro hgd)<;>try exact Xy))<;>simp -implicitDefEqProofs (maxSteps:=2000000) [hP,hN,e3,e3',e4,hwc,c290,c291,g1,g2,g3,g4,g5,g10,g11,g14,b5,b10,b11]<;>try refine Yc ?_)|refine X2 ?_ ?_|(refine Xd ?_ ?_<;>intro hcd<;>try exact Xx))
 case neg=>
  rw[if_neg e4]at hgo;by_cases ek:(decide ((gg S p q).1=(gg S p q).1.toNat)&&decide ((gg S p q).1.toNat<S.cells.length))=true
  case neg=>rw[if_neg ek]at hgo;cases hgo
  rw[if_pos ek]at hgo;simp only[Bool.and_eq_true,decide_eq_true_eq]at ek;obtain⟨k,hk⟩:∃k,k=(gg S p q).1.toNat:=⟨_,rfl⟩;rw[<-hk]at ek hgo;obtain⟨ek1,hkn⟩:=ek
  have hck:S.cells[k]?=some (bo S k):=by simp[bo,List.getElem?_eq_getElem hkn]
  have hck':∀h,S.cells[k]'h=bo S k:=λh=>fy hck h;have hrow:=Cw hok;have hSp:=LK S c S.cells.length k (gg S p q).2.1 a5 a3 a2 rfl a4 (by omega) hkn (λx hx=>by have:=a6 x hx;omega) (λv=>(hrow v).1) (hrow k).2.1 (λx hx=>⟨((hrow k).2.2 x hx).1,((hrow k).2.2 x hx).2.1,((hrow k).2.2 x hx).2.2.2⟩);obtain⟨q1,q2,q3,q4,q5⟩:=Dx S k (gg S p q).2.1;generalize hNX:gg S p q=NX at *
  with_reducible repeat' (first|refine Sp.h ?_|((with_unfolding_all refine WP.lendAt (hn:=[]) (f:=.func 22) 3 rfl rfl rfl ?_);simp -implicitDefEqProofs (maxSteps:=2000000) [hP,hN,g1,g2,g3,g4,g5,g10,g11,g14,b5,b10,b11])|((first|refine Wd ?_|refine Ss.h ?_|(refine Sb.h ?_ ?_ ?_<;>(try intro hgd)<;>try exact Xy))<;>simp -implicitDefEqProofs (maxSteps:=2000000) [hP,hN,g1,g2,g3,g4,g5,g10,g11,g14,b5,b10,b11]<;>try refine Yc ?_)|refine X2 ?_ ?_|(refine Xd ?_ ?_<;>intro hcd<;>try exact Xx))
  refine⟨22,[hC S,zs p,zs q],_,rfl,hlo,by simp[St.ev,k9,g1,g2,g14,hcon,hcp],by rw[hP];exact cN,rfl,by simp[bX,hN],?_⟩;simp -implicitDefEqProofs (maxSteps:=2000000) [hP,hN,g1,g2,g3,g4,g5,g10,g11,g14]
  with_reducible repeat' (first|refine Sp.h ?_|((with_unfolding_all refine WP.takeAt (hn:=[]) (f:=.func 23) 3 rfl rfl rfl ?_);simp -implicitDefEqProofs (maxSteps:=2000000) [hP,hN,e3,e3',e4,ek1,hkn,hck,hck',hwc,c290,c291,g1,g2,g3,g4,g5,g10,g11,g14,b5,b10,b11])|((first|refine Wd ?_|refine Ss.h ?_|(refine Sb.h ?_ ?_ ?_<;>(try intro hgd)<;>try exact Xy))<;>simp -implicitDefEqProofs (maxSteps:=2000000) [hP,hN,e3,e3',e4,ek1,hkn,hck,hck',hwc,c290,c291,g1,g2,g3,g4,g5,g10,g11,g14,b5,b10,b11]<;>try refine Yc ?_)|refine X2 ?_ ?_|(refine Xd ?_ ?_<;>intro hcd<;>try exact Xx))
  refine EB (s':=fu S k NX.2.1) (r:=.pv (.sl [Z S.cells.length,Z ((S.cells.length:Int)+1)])) (args:=[.ptr 290 0,.pv (Z k),.pv (Z NX.2.1)]) rfl (by simp[St.ev]) rfl bH (by omega) (by rw[hP];exact hSp) (by simp[bX,hN]) ?_;intro h' c' hh ho;have c5:=ho 5 rfl;have c10:=ho 10 rfl;have c11:=ho 11 rfl;simp only[b5,b10,b11,Option.map_some,fR,List.map_cons,List.map_nil]at c5 c10 c11;have c5':h' 5=some (.box [.pv (.sl (sc.js.map cW)),.pv (.sl (sc.ms.map fc)),.pv (.sl (sc.shs.map eL)),.pv (.sl (sc.sks.map aU))] true false):=c5;have c10':h' 10=some (.box [.pv x10,.pv y10] true false):=c10;have c11':h' 11=some (.box [.pv x11] true false):=c11;simp -implicitDefEqProofs (maxSteps:=2000000) [hP,hN,dO,iV,fa,ry,iC,inK,g1,g2,g3,g4,g5,g10,g11,g14,c5',c10',c11'];have hmo:sd sc p q w cells m (GV sc w S k NX.2.1)=some R:=hgo;refine WP.of_st (P:=λst=>st.t 1=.pv (zs p)∧st.t 2=.pv (zs q)∧st.t 3=.pv (Z w)∧st.t 4=.pv (Z cells)∧st.t 5=.ptr 5 0∧st.t 10=.ptr 10 0∧st.t 11=.ptr 11 0∧st.t 14=.ptr 290 0∧st.t 18=.pv (bQ (bo S k).v.nor)∧st.t 122=.pv (.sl [Z S.cells.length,Z ((S.cells.length:Int)+1)])∧st.t 123=.pv (Z 2)∧st.t 124=.pv (Z 0)∧st.h 5=some (.box [.pv (.sl (sc.js.map cW)),.pv (.sl (sc.ms.map fc)),.pv (.sl (sc.shs.map eL)),.pv (.sl (sc.sks.map aU))] true false)∧(∃x y,st.h 10=some (.box [.pv x,.pv y] true false))∧(∃x,st.h 11=some (.box [.pv x] true false))∧∀k2,inK k2=true->st.h k2=aM true (fu S k NX.2.1) c' k2) ⟨?_,?_⟩
  .simp[dO,iV,fa,ry,iC,inK,g1,g2,g3,g4,g5,g10,g11,g14,c5',c10',c11']
   exact λk2 a b=>hh k2 (by simp[inK,a,b])
  clear hh ho c5 c10 c11 c5' c10' c11' h' bH b5 b10 b11 g1 g2 g3 g4 g5 g10 g11 g14 x10 y10 x11 hcon hlo hcp c290 c291 c292 cN hSp st;rintro st ⟨g1,g2,g3,g4,g5,g10,g11,g14,g18,g122,g123,g124,b5,⟨x10,y10,b10⟩,⟨x11,b11⟩,bH⟩;obtain⟨H,hH⟩:∃H,H=(bo S k).v.nor:=⟨_,rfl⟩
  have hmo2:sd sc p q w cells m (nT sc w H (fu S k NX.2.1) S.cells.length 2)=some R:=by rw[hH];exact hmo
  have hok2:Cv (nT sc w H (fu S k NX.2.1) S.cells.length 2)=true:=by
   cases m with
   |zero=>cases hmo2
   |succ m=>
    simp only[sd]at hmo2;by_cases h:Cv (nT sc w H (fu S k NX.2.1) S.cells.length 2)=true
    .exact h
    .rw[if_neg h]at hmo2;cases hmo2
  have hHl:H.length<=4096:=by rw[hH];exact a7 _ (List.mem_of_getElem? hck)
  obtain⟨p1,p2,p3,p4,p5⟩:=vD sc w H (fu S k NX.2.1) S.cells.length 2;obtain⟨o1,o2,o3,o4,o5,o6,_⟩:=p7 hok2;rw[p2]at o6;rw[<-hH]at g18;clear p1 p2 p3 p4 p5 o1 o2 o3 o4 o5 hmo hgo hok hok2 hrow;generalize fu S k NX.2.1=S0 at *;obtain⟨n,hn9⟩:∃n,n=S.cells.length:=⟨_,rfl⟩;rw[a3,<-hn9]at q1;rw[a2,<-hn9]at q2;rw[<-hn9]at q3 g122 hmo2;rw[a4,<-hn9]at q4;have hn1:IntKind.i64.wrap ((n:Int)+1)=(n:Int)+1:=ab;refine ym g122 ?_;refine WP.loopN [] 2 (λj st=>st.t 1=.pv (zs p)∧st.t 2=.pv (zs q)∧st.t 3=.pv (Z w)∧st.t 4=.pv (Z cells)∧st.t 5=.ptr 5 0∧st.t 10=.ptr 10 0∧st.t 11=.ptr 11 0∧st.t 14=.ptr 290 0∧st.t 18=.pv (bQ H)∧st.t 122=.pv (.sl [Z n,Z ((n:Int)+1)])∧st.t 123=.pv (Z 2)∧st.t 124=.pv (Z j)∧st.h 5=some (.box [.pv (.sl (sc.js.map cW)),.pv (.sl (sc.ms.map fc)),.pv (.sl (sc.shs.map eL)),.pv (.sl (sc.sks.map aU))] true false)∧(∃x y,st.h 10=some (.box [.pv x,.pv y] true false))∧(∃x,st.h 11=some (.box [.pv x] true false))∧∀k2,inK k2=true->st.h k2=aM true (nT sc w H S0 n j) c' k2) ?_ ?_
  .refine⟨by simp[St.kill,aq,aQ,ax,g1],by simp[St.kill,aq,aQ,ax,g2],by simp[St.kill,aq,aQ,ax,g3],by simp[St.kill,aq,aQ,ax,g4],by simp[St.kill,aq,aQ,ax,g5],by simp[St.kill,aq,aQ,ax,g10],by simp[St.kill,aq,aQ,ax,g11],by simp[St.kill,aq,aQ,ax,g14],by simp[St.kill,aq,aQ,ax,g18],by simp[St.kill,aq,aQ,ax,g122],by simp[St.kill,aq,aQ,ax,g123],by simp[St.kill,aq,aQ,ax,g124],by simp[St.kill,aq,bm,aQ,ax,b5],⟨x10,y10,by simp[St.kill,aq,bm,aQ,ax,b10]⟩,⟨x11,by simp[St.kill,aq,bm,aQ,ax,b11]⟩,λk2 hk2=>?_⟩
   show(st.h k2).map (bm [])=_;rw[bH k2 hk2,fJ];rfl
  clear g1 g2 g3 g4 g5 g10 g11 g14 g18 g122 g123 g124 b5 b10 b11 x10 y10 x11 bH st;rintro j st hj ⟨g1,g2,g3,g4,g5,g10,g11,g14,g18,g122,g123,g124,b5,⟨x10,y10,b10⟩,⟨x11,b11⟩,bH⟩;obtain⟨p1,p2,p3,p4,p5⟩:=vD sc w H S0 n j;have hsu:nT sc w H S0 n (j+1)=r7 sc w H (nT sc w H S0 n j) (n+j):=rfl;by_cases hlt:j<2
  .generalize nT sc w H S0 n j=T at *
   have c290:=(bH 290 rfl).trans (lx true T c');rw[p8 (p5.trans q5),p2,p3,p4,p1,q1,q2,q3,q4]at c290;have c291:=(bH 291 rfl).trans (oI true T c' (p5.trans q5));have c292:=(bH 292 rfl).trans (oJ true T c');have c294:=(bH 294 rfl).trans (rf true T c');obtain⟨hv,hhv⟩:∃hv,hv=n+j:=⟨_,rfl⟩
   have hvn:hv<n+2:=by omega
   have helt:([Z n,Z ((n:Int)+1)]:List PV)[j]?=some (Z (hv:Int)):=by rcases(by omega:j=0∨j=1)with rfl|rfl<;>simp[hhv]
   have hL2l:([Z n,Z ((n:Int)+1)]:List PV).length=2:=rfl;generalize([Z n,Z ((n:Int)+1)]:List PV)=L2 at *;have helt':∀h,L2[j]'h=Z (hv:Int):=λh=>fy helt h;rw[<-hhv]at hsu
   have hcl9:hv<T.cells.length:=by omega
   have hbl9:hv<T.bx.length:=by rw[p2];omega
   have hjl9:hv<T.jn.length:=by omega
   have hcv:T.cells[hv]?=some (bo T hv):=by simp[bo,List.getElem?_eq_getElem hcl9]
   have hcv':∀h,T.cells[hv]'h=bo T hv:=λh=>fy hcv h
   have hbv:T.bx[hv]?=some (fE T hv):=by simp[fE,List.getElem?_eq_getElem hbl9]
   have hbv':∀h,T.bx[hv]'h=fE T hv:=λh=>fy hbv h;have hbl8:(fE T hv).length<=16:=o6 _ (by rw[<-p2];exact List.mem_of_getElem? hbv);have cB:=wO sc (fE T hv) H hs (by omega) (by omega);have cf:=I3 sc.js sc.ms (fE T hv) w hs.js hs.ms (by omega);have hwj:=au hlt (by omega)
   have hcl7:T.cells.length=n+2:=by omega
   have hbl7:T.bx.length=n+2:=by rw[p2];omega
   have hjl7:T.jn.length=n+2:=by omega
   rw[hsu];unfold r7;generalize eS sc (fE T hv) H=V at *;generalize qD sc.js sc.ms w (fE T hv)=FJ at *;generalize bo T hv=cv at *;generalize fE T hv=bv at *;clear hck hck' hsu a6 a7 a8 a9 hmo2 o6 hH hHl ek1 hk e3 e3' e4 hhv hn9
   with_reducible repeat' (first|refine Sp.h ?_|((first|refine Wd ?_|refine Ss.h ?_|refine Sc.h (cB) ?_|refine Sc.h (cf) ?_|(refine Sb.h ?_ ?_ ?_<;>(try intro hgd)<;>try exact Xy))<;>simp -implicitDefEqProofs (maxSteps:=2000000) [hP,hN,g1,g2,g3,g4,g5,g10,g11,g14,g18,g122,g123,g124,b5,b10,b11,c290,c291,c292,c294,hlt,hvn,helt,helt',hL2l,hcv,hcv',hbv,hbv',hwj,hcl9,hbl9,hjl9,hcl7,hbl7,hjl7]<;>try refine Yc ?_)|refine X2 ?_ ?_|(refine Xd ?_ ?_<;>intro hcd<;>try exact Xx))
   intro k2 hk2;by_cases u1:k2=294
   .subst u1
    rw[if_pos rfl];refine Eq.trans ?_ (rf _ _ _).symm;simp only[Option.map_some,bm,List.map_set]
   .by_cases u2:k2=291
    .subst u2
     rw[if_neg (by omega),if_pos rfl];refine Eq.trans ?_ (oI true {T with cells:=T.cells.set hv {cv with v:=dN V},jn:=T.jn.set hv FJ} c' (p5.trans q5)).symm;simp only[Option.map_some,bm,List.map_set];rfl
    .rw[if_neg u1,if_neg u2,bH k2 hk2,fJ]
     exact(EC (p5.trans q5) (by simp) (by simp) u2 u1).symm
  .have hj2:j=2:=by omega
   subst hj2
   with_reducible repeat' (first|refine Sp.h ?_|((first|refine Wd ?_|refine Ss.h ?_|(refine Sb.h ?_ ?_ ?_<;>(try intro hgd)<;>try exact Xy))<;>simp -implicitDefEqProofs (maxSteps:=2000000) [hP,hN,g1,g2,g3,g4,g5,g10,g11,g14,g18,g122,g123,g124,b5,b10,b11]<;>try refine Yc ?_)|refine X2 ?_ ?_|(refine Xd ?_ ?_<;>intro hcd<;>try exact Xx))
   exact⟨by omega,nT sc w H S0 n 2,(by rw[show f-(i+1)=m by omega];exact hmo2),c',λk a b=>by rw[bH k (by simp[inK,a,b]),fJ]⟩
def GP(hi:Int)(i:Nat):J:=⟨yr i,4+(i:Int).tmod 2,(i:Int)-1,0,0,0,0,hi,1,65536,65536,65536⟩
def sL(hi:Int)(k:Nat):List J:=(List.range k).map (GP hi)
theorem FA(hi:Int)(k:Nat):(sL hi (k+1)).map cW=(sL hi k).map cW++[cW (GP hi k)]:=by simp[sL,List.range_succ]
theorem Cp(hi:Int)(k:Nat):(sL hi k).length=k:=by simp[sL]
theorem N0(n:Nat)(hi:Int)(h0:0<n)(hn:n<=3):aa Tryz.prog 13 [.pv (Z n),.pv (Z hi)] [] [] (.pv (ja (sL hi n) [])):=by
 refine Dp Tryz.func13 ?_;intro C hP hN;simp only[Tryz.f13]at hN|-;refine Gz ?_
 refine WP.loopN [] n (λi st=>st.t 0=.pv (Z n)∧st.t 1=.pv (Z hi)∧st.t 4=.ptr 4 0∧st.h 4=some (.box [AN,AN] true false)∧st.t 5=.ptr 5 0∧st.t 6=.pv (Z i)∧
  ((i=0∧st.h 5=some (.box [AN,AN] true false)∧st.h 24=none)∨(0<i∧st.h 5=some (.box [.arr 24 i,AN] true false)∧st.h 24=some (.row 54 12 ((sL hi i).map cW) 0)))) (by simp) ?_
 rintro i st hi' ⟨g0,g1,g4,hb4,g5,g6,hor⟩;by_cases hlt:i<n
 .have hw:IntKind.i64.wrap ((i:Int)+1)=(i:Int)+1:=by rw[IntKind.wrap_i64];omega
  have hlt':(i:Int)<(n:Int):=by omega
  have hJ:=FA hi i;have hr1:=Int.tmod_nonneg 2 (Int.natCast_nonneg i);have hr2:=Int.tmod_lt_of_pos (i:Int) (b:=2) (by decide);have h2:IntKind.i64.wrap ((i:Int).tmod 2)=(i:Int).tmod 2:=ab;have h3:IntKind.i64.wrap (4+(i:Int).tmod 2)=4+(i:Int).tmod 2:=ab;have h4:IntKind.i64.wrap ((i:Int)-1)=(i:Int)-1:=ab;have hz:=Cp hi i;rcases hor with⟨hi0,hb5,hb24⟩|⟨hi0,hb5,hb24⟩
  .subst hi0
   have cl:=HA 0 (by omega);rw[show((0:Nat):Int)=0 from rfl]at cl
   have v1:IntKind.i64.wrap 0=0:=by decide
   have v2:IntKind.i64.wrap 4=4:=by decide
   have v3:IntKind.i64.wrap (-1)=-1:=by decide
   have v4:IntKind.i64.wrap (0+1)=1:=by decide
   have v5:IntKind.i64.wrap (0-1)=-1:=by decide
   have v6:Int.tmod 0 2=0:=by decide
   refine Gz ?_
   all_goals simp[sL,GP]
  .have cl:=HA i (by omega)
   refine GT (gA g0 (gA g1 (gA g4 (gA hb4 (gA g5 (gA g6 (gA hb5 (gA hb24 (gA hlt (gA hlt' (gA hw (gA h2 (gA h3 (gA h4 (gA hz (gA (show(i+1)*104<=140737488355328 by omega) (show i<=9223372036854775806 by omega))))))))))))))))) ?_
   all_goals simp[hJ,GP]
 .have hir:i=n:=by omega
  subst hir;rcases hor with⟨hi0,_⟩|⟨hi0,hb5,hb24⟩
  .omega
  have hz:=Cp hi i;exact Gy
def qX(l:List Int):Nat:=(1+nx l 0 2).toNat
def gk(l:List Int):Nat:=nn l 0
def mj(l:List Int):Nat:=nn l (gk l)
def Fx(l:List Int):Nat:=nn l (mj l)
def mP(l:List Int):Nat:=(nx l (mj l) 4).toNat
def F2(l:List Int)(m:Nat):List Vc:=if nx l (nn l (nn l m)) 3=0 then[(nx l m 65,-9,0),(nx l m 65,80,0)]else[(nx l m 65,nx l (nn l m) 65,0)]
def I2(l:List Int)(m:Nat):Nat:=nn l (nn l (nn l (nn l m)))
def F6(l:List Int)(m:Nat):Sh:=⟨-1,2+nx l (nn l (nn l (nn l m))) 9,F2 l m⟩
def dK(l:List Int):Nat->Nat
 |0=>Fx l
 |i+1=>I2 l (dK l i)
theorem Dn(l:List Int):∀i,dK l i<=3+4*i
 |0=>by
  have h1:=lV l 0;have h2:=lV l (gk l);have h3:=lV l (mj l);simp only[dK,Fx,mj,gk]at *;omega
 |i+1=>by
  have h:=Dn l i;have l1:=lV l (dK l i);have l2:=lV l (nn l (dK l i));have l3:=lV l (nn l (nn l (dK l i)));have l4:=lV l (nn l (nn l (nn l (dK l i))));simp only[dK,I2];omega
def o8(l:List Int)(k:Nat):List Sh:=⟨(qX l:Int)-1,1+nx l (gk l) 4,[(0,0,0)]⟩::(List.range k).map λi=>F6 l (dK l i)
theorem Dq(l:List Int)(k:Nat):(o8 l (k+1)).map eL=(o8 l k).map eL++[eL (F6 l (dK l k))]:=by simp[o8,List.range_succ]
theorem yM(l:List Int)(k:Nat):(o8 l k).length=k+1:=by simp[o8]
def ft(l:List Int):Sce:=⟨sL 64 (qX l),[],o8 l (mP l),[]⟩
theorem vA(l:List Int):0<qX l∧qX l<=2∧(qX l:Int)=1+nx l 0 2:=by
 have hx:=ld l 0 (k:=2) (by decide) (by decide);unfold qX;omega
theorem HE(l:List Int):ScL (ft l):=by
 have h1:=vA l;have hx:=ld l (mj l) (k:=4) (by decide) (by decide)
 have h2:mP l<4:=by unfold mP;omega
 refine⟨?_,by simp[ft],?_,by simp[ft],?_⟩
 .simp only[ft,Cp];omega
 .simp only[ft,yM];omega
 .intro h hh
  simp only[ft,o8,List.mem_cons,List.mem_map]at hh;rcases hh with rfl|⟨i,_,rfl⟩
  .simp
  .simp only[F6,F2];split<;>simp
theorem d5(l:List Int):aa Tryz.prog 5 [.pv (zs l)] [] [] (.pv (jG (ft l))):=by
 have hnr:=vA l;have hx1:=ld l (gk l) (k:=4) (by decide) (by decide);have hx2:=ld l (mj l) (k:=4) (by decide) (by decide)
 have hk:nx l (mj l) 4=((mP l:Nat):Int):=by unfold mP;omega
 have hk4:mP l<4:=by unfold mP;omega
 have hl1:=lV l 0;have hl2:=lV l (gk l)
 have hw1:IntKind.i64.wrap (1+nx l 0 2)=((qX l:Nat):Int):=by rw[IntKind.wrap_i64];omega
 have hw2:IntKind.i64.wrap ((qX l:Int)-1)=(qX l:Int)-1:=ab;have hw3:IntKind.i64.wrap (1+nx l (gk l) 4)=1+nx l (gk l) 4:=ab;have hw4:IntKind.i64.wrap (nx l (gk l) 4)=nx l (gk l) 4:=ab;have c0:=FD l;have c1:=NV l 0 2 (by decide) (by omega);have c2:=N0 (qX l) 64 (by omega) (by omega);have c3:=NV l (gk l) 4 (by decide) (by unfold gk;omega);have c4:=NV l (mj l) 4 (by decide) (by unfold mj gk at *;omega);have e1:nn l 0=gk l:=rfl;have e2:nn l (gk l)=mj l:=rfl;have e3:nn l (mj l)=Fx l:=rfl;rw[e1]at c1;rw[e2]at c3;rw[e3]at c4;refine Dp Tryz.func5 ?_;intro C hP hN;simp only[Tryz.f5]at hN|-
 with_reducible repeat' (first|refine Sp.h ?_|((first|refine Wd ?_|refine Ss.h ?_|refine Sc.h (c0) ?_|refine Sc.h (c1) ?_|refine Sc.h (c2) ?_|refine Sc.h (c3) ?_|refine Sc.h (c4) ?_|(refine Sb.h ?_ ?_ ?_<;>(try intro hgd)<;>try exact Xy))<;>simp -implicitDefEqProofs (maxSteps:=2000000) [hP,hN,gx,hk,hw1,hw2,hw3,hw4]<;>try refine Ya ?_)|refine X2 ?_ ?_|(refine Xd ?_ ?_<;>intro hcd<;>try exact Xx))
 refine WP.loopN [] (mP l) (λi st=>st.t 2=.ptr 2 0∧st.h 2=some (.box [AN,AN,AN,AN] true false)∧st.t 3=.ptr 10 0∧st.h 10=some (.box [.pv (zs l),.pv (Z (dK l i))] true false)∧st.t 5=.ptr 5 0∧st.h 5=some (.box [.pv (.sl ((sL 64 (qX l)).map cW)),.pv (.sl []),.arr 28 (i+1),AN] true false)∧st.t 6=.pv (Z ((mP l:Int)-i))∧st.h 28=some (.row 52 3 ((o8 l i).map eL) 0)) (by simp[dK,o8]) ?_;rintro i st hi ⟨g2,hb2,g3,hb10,g5,hb5,g6,hb28⟩;have hz:=yM l i;by_cases hlt:i<mP l
 .have hw:IntKind.i64.wrap ((mP l:Int)-i-1)=(mP l:Int)-((i:Int)+1):=by rw[IntKind.wrap_i64];omega
  have hgt:(0:Int)<(mP l:Int)-i:=by omega
  have hm:=Dn l i;have l1:=lV l (dK l i);have l2:=lV l (nn l (dK l i));have l3:=lV l (nn l (nn l (dK l i)));have d1:=NV l (dK l i) 65 (by decide) (by omega);have d2:=NV l (nn l (dK l i)) 65 (by decide) (by omega);have d3:=NV l (nn l (nn l (dK l i))) 3 (by decide) (by omega);have d4:=NV l (nn l (nn l (nn l (dK l i)))) 9 (by decide) (by omega);have y1:=ld l (dK l i) (k:=65) (by decide) (by decide);have y2:=ld l (nn l (dK l i)) (k:=65) (by decide) (by decide);have y4:=ld l (nn l (nn l (nn l (dK l i)))) (k:=9) (by decide) (by decide);have v1:IntKind.i64.wrap (nx l (dK l i) 65)=nx l (dK l i) 65:=ab;have v2:IntKind.i64.wrap (nx l (nn l (dK l i)) 65)=nx l (nn l (dK l i)) 65:=ab;have v4:IntKind.i64.wrap (nx l (nn l (nn l (nn l (dK l i)))) 9)=nx l (nn l (nn l (nn l (dK l i)))) 9:=ab;have v5:IntKind.i64.wrap (2+nx l (nn l (nn l (nn l (dK l i)))) 9)=2+nx l (nn l (nn l (nn l (dK l i)))) 9:=ab;have hJ:=Dq l i;have hS:dK l (i+1)=nn l (nn l (nn l (nn l (dK l i)))):=rfl;have hH:F6 l (dK l i)=⟨-1,2+nx l (nn l (nn l (nn l (dK l i)))) 9,F2 l (dK l i)⟩:=rfl
  have hPd:F2 l (dK l i)=if nx l (nn l (nn l (dK l i))) 3=0 then[(nx l (dK l i) 65,-9,0),(nx l (dK l i) 65,80,0)]else[(nx l (dK l i) 65,nx l (nn l (dK l i)) 65,0)]:=rfl
  by_cases h3:nx l (nn l (nn l (dK l i))) 3=0
  .have h3':(nx l (nn l (nn l (dK l i))) 3==0)=true:=by simp[h3]
   rw[if_pos h3]at hPd;rw[hPd]at hH;rw[hH]at hJ
   with_reducible repeat' (first|refine Sp.h ?_|((first|refine Wd ?_|refine Ss.h ?_|refine Sc.h (d1) ?_|refine Sc.h (d2) ?_|refine Sc.h (d3) ?_|refine Sc.h (d4) ?_|(refine Sb.h ?_ ?_ ?_<;>(try intro hgd)<;>try exact Xy))<;>simp -implicitDefEqProofs (maxSteps:=2000000) [hP,hN,gx,g2,hb2,g3,hb10,g5,hb5,g6,hb28,hlt,hw,hgt,hS,hz,v1,v2,v4,v5,h3,h3',show(i+1+1)*40<=140737488355328 by omega,show i<=9223372036854775805 by omega]<;>try refine Ya ?_)|refine X2 ?_ ?_|(refine Xd ?_ ?_<;>intro hcd<;>try exact Xx))
   all_goals simp[hJ]
  .have h3':(nx l (nn l (nn l (dK l i))) 3==0)=false:=by simp[h3]
   rw[if_neg h3]at hPd;rw[hPd]at hH;rw[hH]at hJ
   with_reducible repeat' (first|refine Sp.h ?_|((first|refine Wd ?_|refine Ss.h ?_|refine Sc.h (d1) ?_|refine Sc.h (d2) ?_|refine Sc.h (d3) ?_|refine Sc.h (d4) ?_|(refine Sb.h ?_ ?_ ?_<;>(try intro hgd)<;>try exact Xy))<;>simp -implicitDefEqProofs (maxSteps:=2000000) [hP,hN,gx,g2,hb2,g3,hb10,g5,hb5,g6,hb28,hlt,hw,hgt,hS,hz,v1,v2,v4,v5,h3,h3',show(i+1+1)*40<=140737488355328 by omega,show i<=9223372036854775805 by omega]<;>try refine Ya ?_)|refine X2 ?_ ?_|(refine Xd ?_ ?_<;>intro hcd<;>try exact Xx))
   all_goals simp[hJ]
 .have hir:i=mP l:=by omega
  subst hir
  with_reducible repeat' (first|refine Sp.h ?_|((first|refine Wd ?_|refine Ss.h ?_|(refine Sb.h ?_ ?_ ?_<;>(try intro hgd)<;>try exact Xy))<;>simp -implicitDefEqProofs (maxSteps:=2000000) [hP,hN,g2,hb2,g3,hb10,g5,hb5,g6,hb28,hz]<;>try refine Ya ?_)|refine X2 ?_ ?_|(refine Xd ?_ ?_<;>intro hcd<;>try exact Xx))
  all_goals simp[ft]
def dD(shs:List Sh):Sce:=⟨sL 8 1,[],shs,[]⟩
abbrev CC:List Sh:=[⟨0,1,[(0,0,0)]⟩,⟨-1,1,[(4,0,0)]⟩]
def uY(shs:List Sh)(cells:Int):Spc×Int:=(sd (dD shs) [0] [8] 1 cells 60 (vH (dD shs) 1)).getD (vH (dD shs) 1,0)
def Dy(shs:List Sh)(cells:Int):Bool:=decide (eu (dD shs)=0)&&kl (dD shs).js (dD shs).ms [0]&&kl (dD shs).js (dD shs).ms [8]&&dt (aI (dD shs).js (dD shs).ms)&&kX (dD shs).js (dD shs).ms (aI (dD shs).js (dD shs).ms)&&ay (lZ (aI (dD shs).js (dD shs).ms) bn) &&
 cX (lZ (aI (dD shs).js (dD shs).ms) bn) 0 (dN (eS (dD shs) (aI (dD shs).js (dD shs).ms) []))&&ay (lZ (aI (dD shs).js (dD shs).ms) (dN (eS (dD shs) (aI (dD shs).js (dD shs).ms) [])))&&decide ((aI (dD shs).js (dD shs).ms).length<=16)&&(sd (dD shs) [0] [8] 1 cells 60 (vH (dD shs) 1)).isSome &&
 decide ((eS (dD shs) (aI (dD shs).js (dD shs).ms) []).ns.length<=100)&&decide ((eS (dD shs) (aI (dD shs).js (dD shs).ms) []).w.a.length<=100)&&decide ((eS (dD shs) (aI (dD shs).js (dD shs).ms) []).w.b.length<=100)
set_option maxRecDepth 100000 in
theorem Oe:Dy [] 9=true:=by kernel_rfl
set_option maxRecDepth 100000 in
theorem Of:Dy CC 40=true:=by kernel_rfl
set_option maxRecDepth 100000 in
theorem Og:(uY [] 9).2=1∧(uY [] 9).1.cells.length=1∧(uY CC 40).2=2:=by
 refine⟨by kernel_rfl,by kernel_rfl,by kernel_rfl⟩
theorem GW(shs:List Sh)(cells:Int)(hs:ScL (dD shs))(h4:1<=cells)(h5:cells<=2048)(hok:Dy shs cells=true):aa Tryz.prog 8 [.pv (jG (dD shs)),.pv (zs [0]),.pv (zs [8]),.pv (Z 1),.pv (Z cells)] [] [] (.pv (.tup [.agg [iv (uY shs cells).1.root,.sl ((uY shs cells).1.cells.map aW)],Z (uY shs cells).2])):=by
 simp only[Dy,Bool.and_eq_true,decide_eq_true_eq]at hok;obtain⟨⟨⟨⟨⟨⟨⟨⟨⟨⟨⟨⟨q1,q2⟩,q3⟩,q4⟩,q5⟩,q6⟩,q7⟩,q8⟩,q9⟩,q10⟩,q11⟩,q12⟩,q13⟩:=hok;obtain⟨R,hR⟩:=Option.isSome_iff_exists.1 q10
 have hRe:uY shs cells=R:=by unfold uY;rw[hR];rfl
 rw[hRe];exact d8 (dD shs) [0] [8] 1 cells 60 R hs q1 q2 q3 (by omega) h4 h5 (by simp) (by simp) q4 q5 q6 q7 ⟨by simp only[dN];omega,by simp only[dN];omega,by simp only[dN];omega⟩ ⟨by show(aI (dD shs).js (dD shs).ms).length<=_;omega,by simp,λc hc=>by simp at hc;subst hc;simp[CQ,bn,aP]⟩ q8 q9 hR
theorem d9:aa Tryz.prog 9 [] [] [] (.pv (B true)):=by
 have cs:=N0 1 8 (by omega) (by omega);have r1:=GW [] 9 ⟨by simp[dD,sL],by simp[dD],by simp[dD],by simp[dD],by simp[dD]⟩ (by omega) (by omega) Oe;have r2:=GW CC 40 ⟨by simp[dD,sL],by simp[dD],by simp[dD,CC],by simp[dD],by simp[dD,CC]⟩ (by omega) (by omega) Of;obtain⟨f1,f2,f3⟩:=Og;rw[f1]at r1;rw[f3]at r2;simp only[dD,CC,jG,eL,bQ,zs,List.map_cons,List.map_nil]at r1 r2;generalize uY [] 9=R1 at *;generalize hRR:(uY [⟨0,1,[(0,0,0)]⟩,⟨-1,1,[(4,0,0)]⟩] 40).1=R2 at *;generalize sL 8 1=J at *;refine Dp Tryz.func9 ?_;intro C hP hN;simp only[Tryz.f9]at hN|-;exact GS f2
section
variable {n:Nat} {may has hasF:Nat->Bool} {tch:Nat->Nat->Bool}
inductive Pth(n:Nat)(may:Nat->Bool)(tch:Nat->Nat->Bool):Nat->Nat->Prop
 |nil {i:Nat}:i<n->may i=true->Pth n may tch i i
 |cons {i p j:Nat}:Pth n may tch p j->i<n->may i=true->tch i p=true->Pth n may tch i j
theorem Pth.ends(h:Pth n may tch i j):(i<n∧may i=true)∧j<n∧may j=true:=by
 induction h with
 |nil a b=>exact⟨⟨a,b⟩,a,b⟩
 |cons _ a b _ ih=>exact⟨⟨a,b⟩,ih.2⟩
theorem Pth.snoc{p:Nat}(h:Pth n may tch i p)(hj:j<n)(hm:may j=true)(ht:tch p j=true):Pth n may tch i j:=by
 induction h with
 |nil a b=>exact .cons (.nil hj hm) a b ht
 |cons _ a b t ih=>exact .cons (ih ht) a b t
theorem Pth.rev(hs:∀i j,i<n->j<n->tch i j=tch j i)(h:Pth n may tch i j):Pth n may tch j i:=by
 induction h with
 |nil a b=>exact .nil a b
 |cons h a b t ih=>exact ih.snoc a b ((hs _ _ h.ends.1.1 a).trans t)
theorem Bc{far:List Int}(h:FarOk n may has tch far):1<=am far i↔∃j,has j=true∧Pth n may tch i j:=by
 constructor
 .intro hi
  have key:∀(m:Nat)(i:Nat),am far i<=m->1<=am far i->∃j,has j=true∧Pth n may tch i j:=by
   intro m
   induction m with
   |zero=>intro i h1 h2;omega
   |succ m ih=>
    intro i h1 h2;obtain⟨hn,hm⟩:=h.rng i h2;rcases h.back i h2 with⟨_,hh⟩|⟨p,hp,he,h3,ht⟩
    .exact⟨i,hh,.nil hn hm⟩
    .obtain⟨j,hj,hpj⟩:=ih p (by omega) h3
     exact⟨j,hj,.cons hpj hn hm ht⟩
  exact key (am far i).toNat i (by omega) hi
 .rintro⟨j,hj,hp⟩
  induction hp with
  |nil a b=>have:=h.start _ a b hj;omega
  |cons _ a b t ih=>exact(h.clo _ _ (ih hj) a b t).1
theorem Gc{far:List Int}:∀m,(0<=aS far hasF m↔∃i,i<m∧0<am far i∧hasF i=true)
 |0=>by simp[aS]
 |m+1=>by
  have ih:=Gc (far:=far) m;simp only[aS];split
  .rename_i hc
   simp only[Bool.and_eq_true,decide_eq_true_eq]at hc;exact⟨λ_=>⟨m,by omega,hc.1.1,hc.1.2⟩,λ_=>by omega⟩
  .rename_i hc
   rw[ih];constructor
   .rintro⟨i,h1,h2⟩;exact⟨i,by omega,h2⟩
   .rintro⟨i,h1,h2,h3⟩
    by_cases e:i=m
    .subst e
     by_cases h0:0<=aS far hasF i
     .exact ih.1 h0
     .exfalso;apply hc;simp[h2,h3];omega
    .exact⟨i,by omega,h2,h3⟩
theorem pg:bU n may has hasF tch=true↔∃i j,hasF i=true∧has j=true∧Pth n may tch i j:=by
 have hF:=rc (n:=n) (may:=may) (has:=has) (tch:=tch);unfold bU ql;rw[decide_eq_true_eq,Gc];constructor
 .rintro⟨i,_,h2,h3⟩
  obtain⟨j,hj,hp⟩:=(Bc hF (i:=i)).1 (by omega);exact⟨i,j,h3,hj,hp⟩
 .rintro⟨i,j,h1,h2,h3⟩
  have:=(Bc hF).2 ⟨j,h2,h3⟩;exact⟨i,h3.ends.1.1,by omega,h1⟩
theorem FH(hs:∀i j,i<n->j<n->tch i j=tch j i):bU n may has hasF tch=bU n may hasF has tch:=by
 rw[Bool.eq_iff_iff,pg,pg];exact⟨λ⟨i,j,a,b,c⟩=>⟨j,i,b,a,c.rev hs⟩,λ⟨i,j,a,b,c⟩=>⟨j,i,b,a,c.rev hs⟩⟩
theorem Pth.map{n':Nat}(h:∀i,i<n->may i=true->∃i',img i i'∧i'<n'∧may' i'=true)(ht:∀i j i' j',i<n->j<n->i'<n'->j'<n'->img i i'->img j j'->tch i j=true->tch' i' j'=true)(hp:Pth n may tch i j):∃i' j',img i i'∧img j j'∧Pth n' may' tch' i' j':=by
 induction hp with
 |nil a b=>
  obtain⟨i',h1,h2,h3⟩:=h _ a b;exact⟨i',i',h1,h1,.nil h2 h3⟩
 |cons hp a b t ih=>
  obtain⟨p',j',h1,h2,h3⟩:=ih;obtain⟨i',g1,g2,g3⟩:=h _ a b;exact⟨i',j',g1,h2,.cons h3 g2 g3 (ht _ _ _ _ a hp.ends.1.1 g2 h3.ends.1.1 g1 h1 t)⟩
theorem yV{n':Nat}{has' hasF':Nat->Bool}(h:∀i,i<n->may i=true->∃i',img i i'∧i'<n'∧may' i'=true)(ht:∀i j i' j',i<n->j<n->i'<n'->j'<n'->img i i'->img j j'->tch i j=true->tch' i' j'=true)(h1:∀i i',i<n->i'<n'->img i i'->has i=true->has' i'=true)(h2:∀i i',i<n->i'<n'->img i i'->hasF i=true->hasF' i'=true)(hb:bU n may has hasF tch=true):bU n' may' has' hasF' tch'=true:=by
 rw[pg]at hb|-;obtain⟨i,j,a,b,c⟩:=hb;obtain⟨i',j',e1,e2,e3⟩:=c.map h ht;exact⟨i',j',h2 _ _ c.ends.1.1 e3.ends.1.1 e1 a,h1 _ _ c.ends.2.1 e3.ends.2.1 e2 b,e3⟩
theorem DT(h:∀i,i<n->may i=true->may' i=true)(hb:bU n may has hasF tch=true):bU n may' has hasF tch=true:=
 yV (img:=λi j=>i=j) (λi hi hm=>⟨i,rfl,hi,h i hi hm⟩) (λ_ _ _ _ _ _ _ _ e1 e2 ht=>e1▸e2▸ht) (λ_ _ _ _ e h=>e▸h) (λ_ _ _ _ e h=>e▸h) hb
end
structure SB(a b:Bx):Prop where
 len:a.length=b.length
 va:bi vI a=true
 vb:bi vI b=true
 sub:∀(i:Nat) x y,a[i]?=some x->b[i]?=some y->y.1<=x.1∧x.2<=y.2
theorem SB.refl(h:bi vI b=true):SB b b:=⟨rfl,h,h,λi x y h1 h2=>by rw[h1]at h2;injection h2 with h2;subst h2;omega⟩
theorem SB.trans{c:Bx}(h:SB a b)(h':SB b c):SB a c:=by
 refine⟨h.len.trans h'.len,h.va,h'.vb,λi x y h1 h2=>?_⟩
 have hi:i<b.length:=by rw[<-h.len];exact(List.getElem?_eq_some_iff.1 h1).1
 have e:=List.getElem?_eq_getElem hi;have q1:=h.sub i x _ h1 e;have q2:=h'.sub i _ y e h2;omega
theorem SB.has(h:SB a b)(hp:jz a p=true):jz b p=true:=by
 rw[Co h.va]at hp;rw[Co h.vb];refine⟨by rw[<-h.len];exact hp.1,λi x y h1 h2=>?_⟩
 have hi:i<a.length:=by rw[h.len];exact(List.getElem?_eq_some_iff.1 h1).1
 have e:=List.getElem?_eq_getElem hi;have q1:=h.sub i _ x e h1;have q2:=hp.2 i _ y e h2;omega
theorem SB.touch{a' b':Bx}(h:SB a b)(h':SB a' b')(ht:eo a a'=true):eo b b'=true:=by
 rw[zA h.va h'.va]at ht;rw[zA h.vb h'.vb];refine⟨by rw[<-h.len,<-h'.len];exact ht.1,λi x y h1 h2=>?_⟩
 have hi:i<a.length:=by rw[h.len];exact(List.getElem?_eq_some_iff.1 h1).1
 have hi':i<a'.length:=by rw[h'.len];exact(List.getElem?_eq_some_iff.1 h2).1
 have e:=List.getElem?_eq_getElem hi;have e':=List.getElem?_eq_getElem hi';have q1:=h.sub i _ x e h1;have q2:=h'.sub i _ y e' h2;have q3:=ht.2 i _ _ e e';omega
theorem yW{j:Int}(h:br b j=true):SB (cF b j) b∧SB (cG b j) b:=by
 obtain⟨x,hx,hv,h3,ea,ez⟩:=Gh h;obtain⟨v1,v2⟩:=u9 h;have vb:=(v9.1 h).2.1;have hl:=zw h;have hj:=(List.getElem?_eq_some_iff.1 hx).1;refine⟨⟨hl.1,v1,vb,λi y z h1 h2=>?_⟩,⟨hl.2,v2,vb,λi y z h1 h2=>?_⟩⟩
 .rw[ea,List.getElem?_set]at h1
  split at h1
  .rename_i e;subst e
   injection h1 with h1;subst h1;rw[hx]at h2;injection h2 with h2;subst h2;exact⟨Int.le_refl _,by simp only;omega⟩
  .rw[h2]at h1;injection h1 with h1;subst h1;omega
 .rw[ez,List.getElem?_set]at h1
  split at h1
  .rename_i e;subst e
   injection h1 with h1;subst h1;rw[hx]at h2;injection h2 with h2;subst h2;exact⟨by simp only;omega,Int.le_refl _⟩
  .rw[h2]at h1;injection h1 with h1;subst h1;omega
theorem tU(h:kY js ms w b=true):br b (iS js ms b)=true:=by
 unfold kY at h;simp only[Bool.and_eq_true,decide_eq_true_eq]at h;rcases Bb js ms b with e|⟨j,e,h1,_,h3,x,h4,h5⟩
 .omega
 .rw[v9,e]
  exact⟨by omega,h3,x,by simpa using h4,h5⟩
theorem yX(hw:w'<=w)(h:kY js ms w b=true):kY js ms w' b=true:=by
 unfold kY at h|-;simp only[Bool.and_eq_true,decide_eq_true_eq]at h|-;refine⟨h.1,?_⟩;split
 .rename_i x hx
  have:=h.2;rw[hx]at this;simp only[decide_eq_true_eq]at this|-;omega
 .rename_i hx
  have:=h.2;rw[hx]at this;exact this
def iF(sc:Sce):List Bool->Bx×Verd
 |[]=>(aI sc.js sc.ms,dN (eS sc (aI sc.js sc.ms) []))
 |c::π=>let b:=if c then cG (iF sc π).1 (iS sc.js sc.ms (iF sc π).1)else cF (iF sc π).1 (iS sc.js sc.ms (iF sc π).1);(b,dN (eS sc b (iF sc π).2.nor))
structure Grw(sc:Sce)(w:Int)(s:Spc)(P:Nat->List Bool)(I:List (List Bool)):Prop where
 leaf:∀i,i<s.cells.length->(bo s i).low=-1->fE s i=(iF sc (P i)).1∧(bo s i).v=(iF sc (P i)).2∧iB s i=qD sc.js sc.ms w (fE s i)
 cov:∀π,(∃i,i<s.cells.length∧(bo s i).low=-1∧P i <:+ π)∨π∈I
 anc:∀i,i<s.cells.length->(bo s i).low=-1->∀π,π <:+ P i->π=P i∨π∈I
 opn:∀π∈I,(iF sc π).2.kind=0∧kY sc.js sc.ms w (iF sc π).1=true
theorem Grw.sb{I:List (List Bool)}(h:Grw sc w s P I)(hr:bi vI (aI sc.js sc.ms)=true)(hi:i<s.cells.length)(hl:(bo s i).low=-1)(hs:π <:+ P i):SB (iF sc (P i)).1 (iF sc π).1:=by
 have key:∀(ρ:List Bool) π,(∀σ,σ <:+ ρ->σ=ρ∨σ∈I)->π <:+ ρ->SB (iF sc ρ).1 (iF sc π).1:=by
  intro ρ
  induction ρ with
  |nil=>
   intro π _ hp
   have:π=[]:=by simpa using hp
   subst this;exact SB.refl hr
  |cons c ρ ih=>
   intro π ha hp
   have hρ:ρ∈I:=by
    rcases ha ρ (List.suffix_cons c ρ)with e|e
    .have:=congrArg List.length e;simp at this
    .exact e
   have hh:=yW (tU (h.opn ρ hρ).2);have ih':=ih
   have hup:∀σ,σ <:+ ρ->σ=ρ∨σ∈I:=λσ hσ=>by
    rcases ha σ (hσ.trans (List.suffix_cons c ρ))with e|e
    .subst e;have:=hσ.length_le;simp at this;omega
    .exact .inr e
   have h1:SB (iF sc (c::ρ)).1 (iF sc ρ).1:=by
    simp only[iF];cases c
    .exact hh.1
    .exact hh.2
   rcases List.suffix_cons_iff.1 hp with e|e
   .subst e;exact SB.refl h1.va
   .exact h1.trans (ih π hup e)
 exact key _ _ (h.anc i hi hl) hs
theorem gm(ha:bi vI a=true)(hb:bi vI b=true):eo a b=eo b a:=by
 rw[Bool.eq_iff_iff,zA ha hb,zA hb ha];exact⟨λh=>⟨h.1.symm,λi x y h1 h2=>(h.2 i y x h2 h1).symm⟩,λh=>⟨h.1.symm,λi x y h1 h2=>(h.2 i y x h2 h1).symm⟩⟩
theorem DU:∀(n:Nat)(l:List Nat),l.Nodup->(∀x∈l,x<n)->l.length<=n
 |0,l,_,h=>by
  cases l with
  |nil=>exact Nat.le_refl _
  |cons a l=>exact absurd (h a (by simp)) (by omega)
 |n+1,l,hd,h=>by
  have:=DU n (l.erase n) (hd.erase n) λx hx=>by
   have h1:=(hd.mem_erase_iff.1 hx);have h2:=h x h1.2;omega
  rw[List.length_erase]at this;split at this<;>omega
structure NrOk(s:Spc):Prop where
 bl:s.bx.length=s.cells.length
 nl:s.near.length=s.cells.length
 jl:s.jn.length=s.cells.length
 cc:s.cc=false
 vi:∀b∈s.bx,bi vI b=true∧b.length<=16
 nd:∀p,(ae s p).Nodup
 mem:∀p k,k∈ae s p↔(k<s.cells.length∧(bo s k).low=-1)∧(p<s.cells.length∧(bo s p).low=-1)∧k≠p∧eo (fE s k) (fE s p)=true
theorem NrOk.at(h:NrOk s)(hi:i<s.cells.length):s.bx[i]?=some (fE s i)∧bi vI (fE s i)=true:=by
 have:i<s.bx.length:=by rw[h.bl];exact hi
 have e:s.bx[i]?=some (fE s i):=by simp[fE,List.getElem?_eq_getElem this]
 exact⟨e,(h.vi _ (List.mem_of_getElem? e)).1⟩
theorem NrOk.sy(h:NrOk s){p:Nat}(hi:i<s.cells.length)(hp:p<s.cells.length):eo (fE s i) (fE s p)=eo (fE s p) (fE s i):=gm (h.at hi).2 (h.at hp).2
theorem NrOk.ok(h:NrOk s)(hn:s.cells.length<=2040)(hv:∀c∈s.cells,c.v.nor.length<=4096):Cv s=true:=by
 simp only[Cv,Bool.and_eq_true,decide_eq_true_eq,beq_iff_eq,List.all_eq_true,List.mem_range];refine⟨⟨⟨⟨⟨⟨⟨⟨hn,h.bl⟩,h.nl⟩,h.jl⟩,h.cc⟩,λb hb=>(h.vi b hb).2⟩,hv⟩,λp _=>?_⟩,λi hi p hp=>?_⟩
 .simp only[Dw,Bool.and_eq_true,decide_eq_true_eq,List.all_eq_true]
  refine⟨⟨?_,h.nd p⟩,λk hk=>?_⟩
  .have:=DU _ _ (h.nd p) λx hx=>((h.mem p x).1 hx).1.1
   omega
  .obtain⟨a,b,c,d⟩:=(h.mem p k).1 hk
   refine⟨⟨⟨a.1,c⟩,a.2⟩,(h.mem k p).2 ⟨b,a,λe=>c e.symm,?_⟩⟩;rw[h.sy b.1 a.1];exact d
 .have e:∀a b,cQ s.bx a b=eo (fE s a) (fE s b):=λ_ _=>rfl
  simp only[zT,Bool.and_eq_true,beq_iff_eq,e];refine⟨h.sy hi hp,?_⟩;by_cases h1:(bo s i).low=-1
  .by_cases h2:(bo s p).low=-1
   .by_cases h3:i=p
    .simp[h3]
    .have:=h.mem p i
     simp only[hi,hp,h1,h2,true_and,ne_eq,h3,not_false_eq_true]at this;simp[h1,h2,h3,this]
   .simp[h2]
  .simp[h1]
theorem vF{low v:Nat}(hl:low+1<s.near.length)(hk:k<low):ae (eD low leaf s k) v=
 if v=k then(ae s k).erase leaf++(if eo (fE s low) (fE s k)then[low]else[])++(if eo (fE s (low+1)) (fE s k)then[low+1]else[])
 else if v=low then ae s low++(if eo (fE s low) (fE s k)then[k]else[])
 else if v=low+1 then ae s (low+1)++(if eo (fE s (low+1)) (fE s k)then[k]else[])
 else ae s v:=by
 obtain⟨b1,b2,_⟩:=gG (gW s k leaf) low k
 have hd:(gW s k leaf).near.length=s.near.length:=by simp[gW]
 have hx:∀i,fE (gW s k leaf) i=fE s i:=λ_=>rfl
 have hx':∀i,fE (dP (gW s k leaf) low k) i=fE s i:=λi=>by unfold fE;rw[b2];rfl
 unfold eD;rw[ly (by omega) (by omega) (by omega),hx',hx',ly (by omega) (by omega) (by omega),hx,hx,vK (by omega)];by_cases e:v=k
 .subst e
  simp only[if_true,or_true,and_true,show¬v=low+1 by omega,show¬v=low by omega,if_false];cases eo (fE s low) (fE s v)<;>cases eo (fE s (low+1)) (fE s v)<;>simp
 .by_cases e1:v=low
  .subst e1
   simp only[e,or_false,if_false,if_true,and_true,show¬v=v+1 by omega,and_false];cases eo (fE s v) (fE s k)<;>simp
  .by_cases e2:v=low+1
   .subst e2
    simp only[e,or_false,if_false,if_true,and_true,e1,and_false];cases eo (fE s (low+1)) (fE s k)<;>simp
   .simp[e,e1,e2]
theorem Bd{low leaf:Nat}:∀(l:List Nat)(s:Spc),l.Nodup->(∀k∈l,k<low)->low+1<s.near.length->∀v,ae (l.foldl (eD low leaf) s) v=
 if v∈l then(ae s v).erase leaf++(if eo (fE s low) (fE s v)then[low]else[])++(if eo (fE s (low+1)) (fE s v)then[low+1]else[])
 else if v=low then ae s low++l.filter λk=>eo (fE s low) (fE s k)
 else if v=low+1 then ae s (low+1)++l.filter λk=>eo (fE s (low+1)) (fE s k)
 else ae s v
 |[],s,_,_,_,v=>by
  simp only[List.foldl_nil,List.not_mem_nil,if_false,List.filter_nil,List.append_nil];split
  .rename_i e;rw[e]
  .split
   .rename_i e;rw[e]
   .rfl
 |a::l,s,hd,hk,hn,v=>by
  obtain⟨hd1,hd2⟩:=List.nodup_cons.1 hd;have hka:=hk a (by simp);obtain⟨c1,c2,_⟩:=zk low leaf s a
  have hx:∀i,fE (eD low leaf s a) i=fE s i:=λi=>by unfold fE;rw[c2]
  have ih:=Bd (low:=low) (leaf:=leaf) l (eD low leaf s a) hd2 (λk h=>hk k (by simp[h])) (by omega) v;simp only[hx]at ih;rw[List.foldl_cons,ih,vF hn hka,vF hn hka,vF hn hka];by_cases e:v=a
  .subst e
   simp only[hd1,if_false,if_true,List.mem_cons,true_or,show¬v=low by omega,show¬v=low+1 by omega]
  .by_cases hv:v∈l
   .have:=hk v (by simp[hv])
    simp only[hv,if_true,e,if_false,List.mem_cons,or_true,show¬v=low by omega,show¬v=low+1 by omega]
   .simp only[hv,e,if_false,List.mem_cons,or_self,show¬low=a by omega,if_true,show¬low+1=a by omega,show¬low+1=low by omega,List.filter_cons]
    split
    .split<;>simp
    .split
     .split<;>simp
     .rfl
theorem lm(s:Spc)(leaf:Nat)(joint:Int):(fu s leaf joint).bx=(ga s leaf joint).bx∧(fu s leaf joint).cells=(ga s leaf joint).cells∧(fu s leaf joint).jn=(ga s leaf joint).jn:=by
 have fold:∀(l:List Nat)(x:Spc),(l.foldl (eD s.cells.length leaf) x).bx=x.bx∧(l.foldl (eD s.cells.length leaf) x).cells=x.cells∧(l.foldl (eD s.cells.length leaf) x).jn=x.jn:=by
  intro l
  induction l with
  |nil=>intro x;exact⟨rfl,rfl,rfl⟩
  |cons a l ih=>
   intro x;obtain⟨b1,b2,b3⟩:=ih (eD s.cells.length leaf x a);obtain⟨_,c2,c3,c4,_⟩:=zk s.cells.length leaf x a;exact⟨b1.trans c2,b2.trans c3,b3.trans c4⟩
 unfold fu;obtain⟨_,c2,c3,c4,_⟩:=gG ((ae s leaf).foldl (eD s.cells.length leaf) (ga s leaf joint)) s.cells.length (s.cells.length+1);obtain⟨f1,f2,f3⟩:=fold (ae s leaf) (ga s leaf joint);exact⟨c2.trans f1,c3.trans f2,c4.trans f3⟩
theorem uV(h:NrOk s)(hl:leaf<s.cells.length)(i:Nat):bo (fu s leaf joint) i=(if i=leaf then⟨joint,s.cells.length,s.cells.length+1,bn⟩else if i<s.cells.length then bo s i else aP bn):=by
 unfold bo;rw[(lm s leaf joint).2.1];unfold ga;simp only;by_cases e:i=leaf
 .subst e
  rw[List.getElem?_append_left (by simpa using hl),List.getElem?_set_self hl,if_pos rfl];rfl
 .rw[if_neg e]
  by_cases hi:i<s.cells.length
  .rw[List.getElem?_append_left (by simpa using hi),List.getElem?_set_ne (λx=>e x.symm),if_pos hi]
  .rw[if_neg hi,List.getElem?_append_right (by simpa using(by omega:s.cells.length<=i))]
   simp only[List.length_set]
   match i-s.cells.length with
   |0=>rfl
   |1=>rfl
   |m+2=>simp
theorem qZ(h:NrOk s)(leaf:Nat)(joint:Int)(i:Nat):fE (fu s leaf joint) i=(if i<s.cells.length then fE s i else if i=s.cells.length then cF (fE s leaf) joint else if i=s.cells.length+1 then cG (fE s leaf) joint else[]):=by
 unfold fE;rw[(lm s leaf joint).1];unfold ga;simp only;by_cases hi:i<s.cells.length
 .rw[List.getElem?_append_left (by rw[h.bl];exact hi),if_pos hi]
 .rw[if_neg hi,List.getElem?_append_right (by rw[h.bl];omega),h.bl]
  by_cases e0:i=s.cells.length
  .subst e0;simp[fE]
  .by_cases e1:i=s.cells.length+1
   .subst e1;simp[fE]
   .rw[if_neg e0,if_neg e1,List.getElem?_eq_none (by simp;omega)];rfl
theorem Cu(h:NrOk s)(hl:leaf<s.cells.length)(hf:(bo s leaf).low=-1)(v:Nat):(∀k,k∈ae (fu s leaf joint) v↔
 ((v∈ae s leaf∧((k∈ae s v∧k≠leaf)∨(k=s.cells.length∧eo (cF (fE s leaf) joint) (fE s v)=true)∨(k=s.cells.length+1∧eo (cG (fE s leaf) joint) (fE s v)=true)))∨
  (v∉ae s leaf∧v≠leaf∧v<s.cells.length∧k∈ae s v)∨
  (v=s.cells.length∧((k∈ae s leaf∧eo (cF (fE s leaf) joint) (fE s k)=true)∨(k=s.cells.length+1∧eo (cF (fE s leaf) joint) (cG (fE s leaf) joint)=true)))∨
  (v=s.cells.length+1∧((k∈ae s leaf∧eo (cG (fE s leaf) joint) (fE s k)=true)∨(k=s.cells.length∧eo (cF (fE s leaf) joint) (cG (fE s leaf) joint)=true)))))∧(ae (fu s leaf joint) v).Nodup:=by
 have hb:=qZ h leaf joint
 have hold:∀x∈ae s leaf,x<s.cells.length∧x≠leaf:=λx hx=>by have:=(h.mem leaf x).1 hx;exact⟨this.1.1,this.2.2.1⟩
 have hlen:(ga s leaf joint).near.length=s.cells.length+2:=by simp[ga,h.nl]
 have hx:∀i,fE (ga s leaf joint) i=fE (fu s leaf joint) i:=λi=>by unfold fE;rw[(lm s leaf joint).1]
 have hfold:=Bd (low:=s.cells.length) (leaf:=leaf) (ae s leaf) (ga s leaf joint) (h.nd leaf) (λk hk=>(hold k hk).1) (by omega)
 have hsn:∀v,ae (ga s leaf joint) v=if v=leaf then[]else ae s v:=λv=>pf (by rw[h.nl];exact hl)
 have hout:∀v,s.cells.length<=v->ae s v=[]:=λv hv=>by
  apply List.eq_nil_iff_forall_not_mem.2;intro x hx';have:=((h.mem v x).1 hx').2.1.1;omega
 have e1:ae (fu s leaf joint) v=_:=ly (s:=(ae s leaf).foldl (eD s.cells.length leaf) (ga s leaf joint)) (a:=s.cells.length) (b:=s.cells.length+1) (v:=v) (by omega) (by
  have:((ae s leaf).foldl (eD s.cells.length leaf) (ga s leaf joint)).near.length=(ga s leaf joint).near.length:=by
   have:=(gG ((ae s leaf).foldl (eD s.cells.length leaf) (ga s leaf joint)) s.cells.length (s.cells.length+1)).1;have h2:=(Dx s leaf joint).1;unfold fu at h2;rw[this]at h2;rw[h2,hlen,h.nl]
  omega) (by
  have:=(gG ((ae s leaf).foldl (eD s.cells.length leaf) (ga s leaf joint)) s.cells.length (s.cells.length+1)).1;have h2:=(Dx s leaf joint).1;unfold fu at h2
  rw[this]at h2;rw[h2,h.nl];omega)
 have hfb:∀i,fE ((ae s leaf).foldl (eD s.cells.length leaf) (ga s leaf joint)) i=fE (fu s leaf joint) i:=λi=>by
  have:=(gG ((ae s leaf).foldl (eD s.cells.length leaf) (ga s leaf joint)) s.cells.length (s.cells.length+1)).2.1;unfold fE fu;rw[this]
 have hA:fE (fu s leaf joint) s.cells.length=cF (fE s leaf) joint:=by rw[hb,if_neg (by omega),if_pos rfl]
 have hZ:fE (fu s leaf joint) (s.cells.length+1)=cG (fE s leaf) joint:=by rw[hb,if_neg (by omega),if_neg (by omega),if_pos rfl]
 have hB:∀i,i<s.cells.length->fE (fu s leaf joint) i=fE s i:=λi hi=>by rw[hb,if_pos hi]
 have hf1:∀(X:Bx),(ae s leaf).filter (λk=>eo X (fE (fu s leaf joint) k))=(ae s leaf).filter λk=>eo X (fE s k):=λX=>List.filter_congr λk hk=>by rw[hB k (hold k hk).1]
 have hf2:=hfold v;simp only[hx]at hf2;rw[hA,hZ,hf1,hf1,hsn,hsn,hsn,if_neg (show¬s.cells.length=leaf by omega),if_neg (show¬s.cells.length+1=leaf by omega),hout s.cells.length (by omega),hout (s.cells.length+1) (by omega)]at hf2;rw[hfb,hfb,hA,hZ,hf2]at e1;have hself:leaf∉ae s leaf:=λhm=>(hold leaf hm).2 rfl
 have hnn:s.cells.length∉ae s leaf:=λhm=>by have:=(hold _ hm).1;omega
 have hnn1:s.cells.length+1∉ae s leaf:=λhm=>by have:=(hold _ hm).1;omega
 by_cases hv:v∈ae s leaf
 .obtain⟨v1,v2⟩:=hold v hv
  rw[if_pos hv,if_neg v2,if_neg (by omega),hB v v1]at e1
  have h1:s.cells.length∉ae s v:=λhm=>by have:=((h.mem v _).1 hm).1.1;omega
  have h2:s.cells.length+1∉ae s v:=λhm=>by have:=((h.mem v _).1 hm).1.1;omega
  have h3:s.cells.length∉(ae s v).erase leaf:=λhm=>h1 (List.mem_of_mem_erase hm);have h4:s.cells.length+1∉(ae s v).erase leaf:=λhm=>h2 (List.mem_of_mem_erase hm);have hne:=(h.nd v).erase leaf;have hm:=λk=>(h.nd v).mem_erase_iff (a:=k) (b:=leaf);rw[e1];refine⟨λk=>?_,?_⟩
  .simp only[hv,true_and,not_true_eq_false,false_and,false_or,show¬v=s.cells.length by omega,show¬v=s.cells.length+1 by omega,or_false,List.mem_append,hm]
   cases eo (cF (fE s leaf) joint) (fE s v)<;>cases eo (cG (fE s leaf) joint) (fE s v)<;>simp[and_comm,or_assoc]
  .generalize(ae s v).erase leaf=L at *
   cases eo (cF (fE s leaf) joint) (fE s v)<;>cases eo (cG (fE s leaf) joint) (fE s v)<;>simp[List.nodup_append,hne,h3,h4]<;>(intro a ha;first|(rintro rfl;contradiction)|(constructor<;>(rintro rfl;contradiction)))
 .rw[if_neg hv]at e1
  by_cases en:v=s.cells.length
  .subst en
   rw[e1];simp only[if_true,List.nil_append,true_or,and_true,hv,false_and,not_false_eq_true,true_and,false_or,show¬s.cells.length<s.cells.length by omega,and_false,show¬s.cells.length=s.cells.length+1 by omega,or_false];have hnf:=(h.nd leaf).filter (λk=>eo (cF (fE s leaf) joint) (fE s k));refine⟨λk=>?_,?_⟩
   .cases eo (cF (fE s leaf) joint) (cG (fE s leaf) joint)<;>simp
   .split
    .rw[List.nodup_append]
     refine⟨hnf,by simp,λa ha b hb2=>?_⟩;simp at hb2;subst hb2;rintro rfl;exact hnn1 (List.mem_filter.1 ha).1
    .exact hnf
  .by_cases en1:v=s.cells.length+1
   .subst en1
    rw[e1];simp only[if_true,List.nil_append,or_true,and_true,hv,false_and,not_false_eq_true,true_and,false_or,show¬s.cells.length+1<s.cells.length by omega,and_false,show¬s.cells.length+1=s.cells.length by omega,if_false];have hnf:=(h.nd leaf).filter (λk=>eo (cG (fE s leaf) joint) (fE s k));refine⟨λk=>?_,?_⟩
    .cases eo (cF (fE s leaf) joint) (cG (fE s leaf) joint)<;>simp
    .split
     .rw[List.nodup_append]
      refine⟨hnf,by simp,λa ha b hb2=>?_⟩;simp at hb2;subst hb2;rintro rfl;exact hnn (List.mem_filter.1 ha).1
     .exact hnf
   .rw[if_neg en,if_neg en1,if_neg (by simp[en,en1])]at e1
    rw[e1];by_cases el:v=leaf
    .subst el
     simp only[if_true,hv,en,en1,false_and,or_false,not_true_eq_false,and_false,ne_eq,List.not_mem_nil,List.nodup_nil,and_true,implies_true]
    .rw[if_neg el]
     by_cases hvn:v<s.cells.length
     .simp[hv,el,hvn,en,en1,h.nd v]
     .rw[hout v (by omega)];simp[hv,hvn,en,en1]
theorem uW(h:NrOk s)(hl:leaf<s.cells.length)(i:Nat):(bo (fu s leaf joint) i).low=-1↔i≠leaf∧(i<s.cells.length->(bo s i).low=-1):=by
 rw[uV h hl];by_cases e:i=leaf
 .subst e;simp
 .rw[if_neg e]
  by_cases hi:i<s.cells.length
  .simp[e,hi]
  .simp[e,hi,aP]
theorem NrOk.split(h:NrOk s)(hl:leaf<s.cells.length)(hf:(bo s leaf).low=-1)(hh:br (fE s leaf) joint=true):NrOk (fu s leaf joint):=by
 obtain⟨l1,l2,l3,l4,l5⟩:=Dx s leaf joint;obtain⟨sa,sz⟩:=yW hh;have hb:=qZ h leaf joint
 have hA:fE (fu s leaf joint) s.cells.length=cF (fE s leaf) joint:=by rw[hb,if_neg (by omega),if_pos rfl]
 have hZ:fE (fu s leaf joint) (s.cells.length+1)=cG (fE s leaf) joint:=by rw[hb,if_neg (by omega),if_neg (by omega),if_pos rfl]
 have hB:∀i,i<s.cells.length->fE (fu s leaf joint) i=fE s i:=λi hi=>by rw[hb,if_pos hi]
 have hL:=uW (joint:=joint) h hl;have hsn:=λv=>Cu (joint:=joint) h hl hf v;refine⟨by rw[l2,l3,h.bl],by rw[l1,l3,h.nl],by rw[l4,l3,h.jl],l5,?_,λp=>(hsn p).2,λp k=>?_⟩
 .rw[(lm s leaf joint).1]
  intro b hbm;simp only[ga,List.mem_append,List.mem_cons,List.not_mem_nil,or_false]at hbm;have hlb:=(h.vi _ (List.mem_of_getElem? (h.at hl).1)).2;rcases hbm with e|e|e
  .exact h.vi b e
  .subst e;exact⟨sa.va,by rw[sa.len];exact hlb⟩
  .subst e;exact⟨sz.va,by rw[sz.len];exact hlb⟩
 .rw[(hsn p).1 k,l3,hL,hL]
  have hmem:=h.mem;have hin:∀x,x<s.cells.length->(bo s x).low=-1->x≠leaf->eo (fE s leaf) (fE s x)=true->x∈ae s leaf:=λx a b c d=>(hmem leaf x).2 ⟨⟨a,b⟩,⟨hl,hf⟩,c,by rw[h.sy a hl];exact d⟩
  have hold:∀x∈ae s leaf,x<s.cells.length∧(bo s x).low=-1∧x≠leaf:=λx hx=>by have:=(hmem leaf x).1 hx;exact⟨this.1.1,this.1.2,this.2.2.1⟩
  have vi:∀{x},x<s.cells.length->bi vI (fE s x)=true:=λhx=>(h.at hx).2;by_cases p0:p<s.cells.length
  .have pn:¬p=s.cells.length:=by omega
   have pn1:¬p=s.cells.length+1:=by omega
   have ein:(p∈ae s leaf)↔(p<s.cells.length∧(bo s p).low=-1)∧p≠leaf∧eo (fE s p) (fE s leaf)=true:=by rw[hmem leaf p];simp[hl,hf]
   by_cases pl:p=leaf
   .subst pl
    have:=hold p;constructor
    .rintro(⟨a,_⟩|⟨_,a,_⟩|⟨a,_⟩|⟨a,_⟩)
     .exact absurd rfl (this a).2.2
     .exact absurd rfl a
     .exact absurd a pn
     .exact absurd a pn1
    .rintro⟨_,⟨_,a,_⟩,_⟩
     exact absurd rfl a
   .constructor
    .rintro(⟨a,b⟩|⟨a,_,_,b⟩|⟨a,_⟩|⟨a,_⟩)
     .have hp:=hold p a
      refine⟨?_,⟨by omega,hp.2.2,λ_=>hp.2.1⟩,?_⟩
      .rcases b with⟨b,c⟩|⟨rfl,_⟩|⟨rfl,_⟩
       .have:=(hmem p k).1 b
        exact⟨by omega,c,λ_=>this.1.2⟩
       all_goals exact⟨by omega,by omega,by omega⟩
      .rw[hB p p0]
       rcases b with⟨b,c⟩|⟨rfl,c⟩|⟨rfl,c⟩
       .have:=(hmem p k).1 b
        rw[hB k this.1.1];exact this.2.2
       .rw[hA];exact⟨by omega,c⟩
       .rw[hZ];exact⟨by omega,c⟩
     .have:=(hmem p k).1 b
      refine⟨⟨by omega,?_,λ_=>this.1.2⟩,⟨by omega,pl,λ_=>this.2.1.2⟩,this.2.2.1,by rw[hB p p0,hB k this.1.1];exact this.2.2.2⟩;rintro rfl;exact a (hin p p0 this.2.1.2 pl this.2.2.2)
     .exact absurd a pn
     .exact absurd a pn1
    .rintro⟨⟨k1,k2,k3⟩,⟨_,_,p3⟩,kp,ht⟩
     rw[hB p p0]at ht;have hpl:=p3 p0;by_cases k0:k<s.cells.length
     .rw[hB k k0]at ht
      have hk:k∈ae s p:=(hmem p k).2 ⟨⟨k0,k3 k0⟩,⟨p0,hpl⟩,kp,ht⟩;by_cases a:p∈ae s leaf
      .exact .inl ⟨a,.inl ⟨hk,k2⟩⟩
      .exact .inr (.inl ⟨a,pl,p0,hk⟩)
     .by_cases e:k=s.cells.length
      .rw[e,hA]at ht
       exact .inl ⟨hin p p0 hpl pl (sa.touch (.refl (vi p0)) ht),.inr (.inl ⟨e,ht⟩)⟩
      .have e1:k=s.cells.length+1:=by omega
       rw[e1,hZ]at ht;exact .inl ⟨hin p p0 hpl pl (sz.touch (.refl (vi p0)) ht),.inr (.inr ⟨e1,ht⟩)⟩
  .have np:p∉ae s leaf:=λa=>p0 (hold p a).1
   by_cases e:p=s.cells.length
   .subst e
    rw[hA];constructor
    .rintro(⟨a,_⟩|⟨_,_,a,_⟩|⟨_,b⟩|⟨a,_⟩)
     .exact absurd a np
     .exact absurd a p0
     .refine⟨?_,⟨by omega,by omega,by omega⟩,?_⟩
      .rcases b with⟨b,_⟩|⟨rfl,_⟩
       .have:=hold k b
        exact⟨by omega,this.2.2,λ_=>this.2.1⟩
       .exact⟨by omega,by omega,by omega⟩
      .rcases b with⟨b,c⟩|⟨rfl,c⟩
       .have:=(hold k b).1
        rw[hB k this,gm (vi this) sa.va];exact⟨by omega,c⟩
       .rw[hZ,gm sz.va sa.va]
        exact⟨by omega,c⟩
     .omega
    .rintro⟨⟨k1,k2,k3⟩,_,kp,ht⟩
     refine .inr (.inr (.inl ⟨rfl,?_⟩));by_cases k0:k<s.cells.length
     .rw[hB k k0,gm (vi k0) sa.va]at ht
      exact .inl ⟨hin k k0 (k3 k0) k2 (sa.touch (.refl (vi k0)) ht),ht⟩
     .have e1:k=s.cells.length+1:=by omega
      rw[e1,hZ,gm sz.va sa.va]at ht;exact .inr ⟨e1,ht⟩
   .by_cases e1:p=s.cells.length+1
    .subst e1
     rw[hZ];constructor
     .rintro(⟨a,_⟩|⟨_,_,a,_⟩|⟨a,_⟩|⟨_,b⟩)
      .exact absurd a np
      .exact absurd a p0
      .omega
      .refine⟨?_,⟨by omega,by omega,by omega⟩,?_⟩
       .rcases b with⟨b,_⟩|⟨rfl,_⟩
        .have:=hold k b
         exact⟨by omega,this.2.2,λ_=>this.2.1⟩
        .exact⟨by omega,by omega,by omega⟩
       .rcases b with⟨b,c⟩|⟨rfl,c⟩
        .have:=(hold k b).1
         rw[hB k this,gm (vi this) sz.va];exact⟨by omega,c⟩
        .rw[hA]
         exact⟨by omega,c⟩
     .rintro⟨⟨k1,k2,k3⟩,_,kp,ht⟩
      refine .inr (.inr (.inr ⟨rfl,?_⟩));by_cases k0:k<s.cells.length
      .rw[hB k k0,gm (vi k0) sz.va]at ht
       exact .inl ⟨hin k k0 (k3 k0) k2 (sz.touch (.refl (vi k0)) ht),ht⟩
      .have e2:k=s.cells.length:=by omega
       rw[e2,hA]at ht;exact .inr ⟨e2,ht⟩
    .constructor
     .rintro(⟨a,_⟩|⟨_,_,a,_⟩|⟨a,_⟩|⟨a,_⟩)
      .exact absurd a np
      .exact absurd a p0
      .exact absurd a e
      .exact absurd a e1
     .rintro⟨_,⟨a,_⟩,_⟩
      omega
theorem ij(sc:Sce)(w:Int)(hints:List Vc)(s:Spc)(h:Nat):(r7 sc w hints s h).cells.length=s.cells.length∧(∀i,(bo (r7 sc w hints s h) i).low=(bo s i).low)∧(∀i,fE (r7 sc w hints s h) i=fE s i)∧∀i,ae (r7 sc w hints s h) i=ae s i:=by
 refine⟨by simp[r7],λi=>?_,λ_=>rfl,λ_=>rfl⟩;unfold bo r7;simp only[List.getElem?_set];split
 .rename_i e
  subst e;split
  .rfl
  .rename_i e2;rw[List.getElem?_eq_none (by omega)]
 .rfl
theorem NrOk.half(h:NrOk s)(sc:Sce)(w:Int)(hints:List Vc)(k:Nat):NrOk (r7 sc w hints s k):=by
 obtain⟨a1,a2,a3,a4⟩:=ij sc w hints s k;refine⟨by rw[a1];exact h.bl,by rw[a1];exact h.nl,by rw[a1];simp[r7,h.jl],h.cc,h.vi,h.nd,λp q=>?_⟩;simp only[a1,a2,a3,a4];exact h.mem p q
theorem rt(sc:Sce)(w:Int)(hints:List Vc)(s:Spc){h:Nat}(hh:h<s.cells.length)(i:Nat):bo (r7 sc w hints s h) i=if i=h then{bo s h with v:=dN (eS sc (fE s h) hints)}else bo s i:=by
 unfold bo r7;simp only[List.getElem?_set];by_cases e:i=h
 .subst e;simp[hh,bo]
 .simp[e,show¬h=i from λx=>e x.symm]
theorem BA(sc:Sce)(w:Int)(hints:List Vc)(s:Spc){h:Nat}(hh:h<s.jn.length)(i:Nat):iB (r7 sc w hints s h) i=if i=h then qD sc.js sc.ms w (fE s h)else iB s i:=by
 unfold iB r7;simp only[List.getElem?_set];by_cases e:i=h
 .subst e;simp[hh]
 .simp[e,show¬h=i from λx=>e x.symm]
theorem FM{P:List Bool}(h:P <:+ π):π=P∨∃c,(c::P) <:+ π:=by
 obtain⟨t,rfl⟩:=h;rcases List.eq_nil_or_concat t with rfl|⟨t',c,rfl⟩
 .exact .inl rfl
 .exact .inr ⟨c,t',by simp⟩
theorem BG(h:qD js ms w b≠-1):kY js ms w b=true∧qD js ms w b=iS js ms b:=by
 unfold qD at h|-
 cases ho:kY js ms w b with
 |true=>simp
 |false=>rw[ho]at h;simp at h
section
variable {sc:Sce} {w:Int} {s:Spc}
theorem yY(leaf:Nat)(joint:Int):(GV sc w s leaf joint).cells.length=s.cells.length+2:=by
 unfold GV;rw[(ij _ _ _ _ _).1,(ij _ _ _ _ _).1,(Dx s leaf joint).2.2.1]
theorem NrOk.more(h:NrOk s)(hl:leaf<s.cells.length)(hf:(bo s leaf).low=-1)(hh:br (fE s leaf) joint=true):NrOk (GV sc w s leaf joint):=((h.split hl hf hh).half _ _ _ _).half _ _ _ _
theorem Grw.more{I:List (List Bool)}(g:Grw sc w s P I)(h:NrOk s)(hl:leaf<s.cells.length)(hf:(bo s leaf).low=-1)(hk:(bo s leaf).v.kind=0)(hj:iB s leaf≠-1):
 Grw sc w (GV sc w s leaf (iB s leaf)) (λi=>if i=s.cells.length then false::P leaf else if i=s.cells.length+1 then true::P leaf else P i) (P leaf::I):=by
 obtain⟨g1,g2,g3⟩:=g.leaf leaf hl hf;have hfy:=BG (w:=w) (js:=sc.js) (ms:=sc.ms) (b:=fE s leaf) (by rw[<-g3];exact hj);rw[hfy.2]at g3;obtain⟨l1,l2,l3,l4,l5⟩:=Dx s leaf (iB s leaf);have hlen:=yY (sc:=sc) (w:=w) (s:=s) leaf (iB s leaf);have hb:=qZ h leaf (iB s leaf);have hc:=uV (joint:=iB s leaf) h hl;have hmb:∀i,fE (GV sc w s leaf (iB s leaf)) i=fE (fu s leaf (iB s leaf)) i:=λ_=>rfl
 have hmc:∀i,bo (GV sc w s leaf (iB s leaf)) i=if i=s.cells.length+1 then⟨-1,-1,-1,dN (eS sc (cG (fE s leaf) (iB s leaf)) (bo s leaf).v.nor)⟩else if i=s.cells.length then⟨-1,-1,-1,dN (eS sc (cF (fE s leaf) (iB s leaf)) (bo s leaf).v.nor)⟩else bo (fu s leaf (iB s leaf)) i:=by
  intro i;unfold GV;rw[rt _ _ _ _ (by rw[(ij _ _ _ _ _).1,l3];omega),(ij _ _ _ _ _).2.2.1,rt _ _ _ _ (by rw[l3];omega),rt _ _ _ _ (by rw[l3];omega),hb,hb,hc,hc];simp only[show¬s.cells.length+1=leaf by omega,show¬s.cells.length=leaf by omega,show¬s.cells.length+1<s.cells.length by omega,show¬s.cells.length+1=s.cells.length by omega,if_false,if_true,Nat.lt_irrefl,aP]
 have hmj:∀i,iB (GV sc w s leaf (iB s leaf)) i=if i=s.cells.length+1 then qD sc.js sc.ms w (cG (fE s leaf) (iB s leaf))else if i=s.cells.length then qD sc.js sc.ms w (cF (fE s leaf) (iB s leaf))else iB (fu s leaf (iB s leaf)) i:=by
  intro i;unfold GV;rw[BA _ _ _ _ (by simp[r7,l4,h.jl]),(ij _ _ _ _ _).2.2.1,BA _ _ _ _ (by rw[l4,h.jl];omega),hb,hb];simp only[show¬s.cells.length+1<s.cells.length by omega,show¬s.cells.length+1=s.cells.length by omega,if_false,if_true,Nat.lt_irrefl]
 have hlow:∀i,(bo (GV sc w s leaf (iB s leaf)) i).low=-1↔i≠leaf∧(i<s.cells.length->(bo s i).low=-1):=by
  intro i;rw[hmc];split
  .rename_i e;simp[e];omega
  .split
   .rename_i e;simp[e];omega
   .exact uW h hl i
 have hjo:∀i,i<s.cells.length->iB (fu s leaf (iB s leaf)) i=iB s i:=by
  intro i hi;unfold iB;rw[(lm s leaf _).2.2];simp only[ga];rw[List.getElem?_append_left (by rw[h.jl];exact hi)]
 refine⟨λi hi hil=>?_,λπ=>?_,λi hi hil π hπ=>?_,λπ hπ=>?_⟩
 .rw[hlow]at hil
  rw[hlen]at hi;rw[hmb,hmc,hmj,hb];by_cases e1:i=s.cells.length+1
  .subst e1
   simp only[show¬s.cells.length+1<s.cells.length by omega,show¬s.cells.length+1=s.cells.length by omega,if_false,if_true,iF,<-g1,<-g2,g3];exact⟨by trivial,by trivial,by trivial⟩
  .by_cases e0:i=s.cells.length
   .subst e0
    simp only[show¬s.cells.length=s.cells.length+1 by omega,if_false,if_true,Nat.lt_irrefl,iF,<-g1,<-g2,g3];exact⟨by trivial,by trivial,by trivial⟩
   .have hi':i<s.cells.length:=by omega
    rw[if_pos hi',if_neg e1,if_neg e0,if_neg e1,if_neg e0,if_neg e0,if_neg e1,hc,if_neg hil.1,if_pos hi',hjo i hi'];exact g.leaf i hi' (hil.2 hi')
 .rcases g.cov π with⟨i,a,b,c⟩|a
  .by_cases e:i=leaf
   .subst e
    rcases FM c with e|⟨d,hd⟩
    .exact .inr (by simp[e])
    .cases d with
     |false=>exact .inl ⟨s.cells.length,by omega,(hlow _).2 ⟨by omega,by omega⟩,by simpa using hd⟩
     |true=>exact .inl ⟨s.cells.length+1,by omega,(hlow _).2 ⟨by omega,by omega⟩,by simpa using hd⟩
   .exact .inl ⟨i,by omega,(hlow _).2 ⟨e,λ_=>b⟩,by rw[if_neg (by omega),if_neg (by omega)];exact c⟩
  .exact .inr (by simp[a])
 .have hup:∀π,π <:+ P leaf->π∈P leaf::I:=λπ hp=>by
   rcases g.anc leaf hl hf π hp with e|e<;>simp[e]
  rw[hlow]at hil;rw[hlen]at hi;split at hπ
  .rcases List.suffix_cons_iff.1 hπ with e|e
   .rename_i e2;left;rw[e,if_pos e2]
   .exact .inr (hup π e)
  .split at hπ
   .rcases List.suffix_cons_iff.1 hπ with e|e
    .rename_i e1 e2;left;rw[e,if_neg e1,if_pos e2]
    .exact .inr (hup π e)
   .rename_i e1 e2
    rw[if_neg e1,if_neg e2];rcases g.anc i (by omega) (hil.2 (by omega)) π hπ with e|e
    .exact .inl e
    .exact .inr (by simp[e])
 .rcases List.mem_cons.1 hπ with e|e
  .subst e
   rw[<-g2,<-g1];exact⟨hk,hfy.1⟩
  .exact g.opn π e
theorem HF(h:NrOk s)(hn:(gg s p q).2.2=3):∃k:Nat,(gg s p q).1=(k:Int)∧k<s.cells.length∧(bo s k).low=-1∧(bo s k).v.kind=0∧iB s k≠-1∧(gg s p q).2.1=iB s k:=by
 have hsym:∀i j,i<s.cells.length->j<s.cells.length->cQ s.bx i j=cQ s.bx j i:=λi j hi hj=>h.sy hi hj
 have key:∀(f:Int->Int->Bool),(nu s (dQ s.cells.length (aZ s f) (aw s.bx q) (aw s.bx p) (cQ s.bx))).2.2=3->∃k:Nat,(nu s (dQ s.cells.length (aZ s f) (aw s.bx q) (aw s.bx p) (cQ s.bx))).1=(k:Int)∧k<s.cells.length∧(bo s k).low=-1∧(bo s k).v.kind=0∧iB s k≠-1∧(nu s (dQ s.cells.length (aZ s f) (aw s.bx q) (aw s.bx p) (cQ s.bx))).2.1=iB s k:=by
  intro f h3;unfold nu at h3|-;split at h3
  .rename_i k hk
   have hm:=List.mem_of_find?_eq_some hk;have hq:=List.find?_some hk;simp only[zg,Bool.and_eq_true,decide_eq_true_eq]at hq
   cases hb:bU s.cells.length (aZ s f) (aw s.bx q) (aw s.bx p) (cQ s.bx)with
   |false=>simp[dQ,hb]at hm
   |true=>
    obtain⟨_,_,b3,_⟩:=xT hsym hb;obtain⟨j,hj⟩:=List.getElem?_of_mem hm;obtain⟨c1,c2,_⟩:=b3 j k hj;simp only[aZ,Bool.and_eq_true,decide_eq_true_eq]at c2;exact⟨k,rfl,c1,c2.1,hq.1,hq.2,rfl⟩
  .simp at h3
 unfold gg rd at hn|-;split at hn
 .simp at hn
 .rename_i c1
  rw[if_neg c1];split at hn
  .simp at hn
  .rename_i c2
   rw[if_neg c2];split at hn
   .rename_i c3
    rw[if_pos c3];exact key _ hn
   .rename_i c3
    rw[if_neg c3];split at hn
    .simp at hn
    .rename_i c4
     rw[if_neg c4];exact key _ hn
end
structure RunE(sc:Sce)(p q:List Int)(w cells:Int)(R:Spc×Int):Prop where
 nr:NrOk R.1
 gr:∃P I,Grw sc w R.1 P I
 len:(R.1.cells.length:Int)<=cells
 st:(R.2=4∧(gg R.1 p q).2.2=3)∨(R.2=(gg R.1 p q).2.2∧R.2≠3)
theorem GY{cells:Int}(hv:∀b hints,(dN (eS sc b hints)).nor.length<=4096)(hc:cells<=2040):∀(f:Nat)(s:Spc),NrOk s->(∃P I,Grw sc w s P I)->(∀c∈s.cells,c.v.nor.length<=4096)->(s.cells.length:Int)<=cells->cells<s.cells.length+f->∃R,sd sc p q w cells f s=some R∧RunE sc p q w cells R:=by
 intro f
 induction f with
 |zero=>intro s _ _ _ h1 h2;omega
 |succ f ih=>
  rintro s h ⟨P,I,g⟩ hn h1 h2;simp only[sd];rw[if_pos (h.ok (by omega) hn)];by_cases h3:(gg s p q).2.2=3
  .rw[if_pos h3]
   by_cases h4:cells-2<s.cells.length
   .rw[if_pos h4]
    exact⟨_,rfl,h,⟨P,I,g⟩,h1,.inl ⟨rfl,h3⟩⟩
   .rw[if_neg h4]
    obtain⟨k,k1,k2,k3,k4,k5,k6⟩:=HF h h3;rw[k1,k6,Int.toNat_natCast,if_pos (by simp[k2])];have g3:=(g.leaf k k2 k3);have hfy:=BG (w:=w) (js:=sc.js) (ms:=sc.ms) (b:=fE s k) (by rw[<-g3.2.2];exact k5)
    have hh:br (fE s k) (iB s k)=true:=by rw[g3.2.2,hfy.2];exact tU hfy.1
    have hl:=yY (sc:=sc) (w:=w) (s:=s) k (iB s k);refine ih _ (h.more k2 k3 hh) ⟨_,_,g.more h k2 k3 k4 k5⟩ ?_ (by rw[hl];omega) (by rw[hl];omega);intro c hcm;unfold GV r7 at hcm;rcases List.mem_or_eq_of_mem_set hcm with e|e
    .rcases List.mem_or_eq_of_mem_set e with e|e
     .rw[(lm s k _).2.1]at e
      simp only[ga,List.mem_append,List.mem_cons,List.not_mem_nil,or_false]at e;rcases e with e|e|e
      .rcases List.mem_or_eq_of_mem_set e with e|e
       .exact hn c e
       .subst e;simp[bn]
      all_goals subst e;simp[aP,bn]
     .subst e;exact hv _ _
    .subst e;exact hv _ _
  .rw[if_neg h3]
   exact⟨_,rfl,h,⟨P,I,g⟩,h1,.inr ⟨rfl,h3⟩⟩
theorem xn{n:Nat}{may:Nat->Bool}{tch:Nat->Nat->Bool}{l:List Nat}(h1:∀(r:Nat) x,l[r]?=some x->x<n∧may x=true)(h2:∀(r:Nat) x y,l[r]?=some x->l[r+1]?=some y->tch x y=true):∀(r:Nat) x y,l[0]?=some x->l[r]?=some y->Pth n may tch x y
 |0,x,y,hx,hy=>by
  rw[hx]at hy;injection hy with hy;subst hy;exact .nil (h1 0 x hx).1 (h1 0 x hx).2
 |r+1,x,y,hx,hy=>by
  have hr:r<l.length:=by have:=(List.getElem?_eq_some_iff.1 hy).1;omega
  have hz:=List.getElem?_eq_getElem hr;exact(xn h1 h2 r x _ hx hz).snoc (h1 _ y hy).1 (h1 _ y hy).2 (h2 r _ y hz hy)
theorem DX{n:Nat}{may has hasF:Nat->Bool}{tch:Nat->Nat->Bool}(hsym:∀i j,i<n->j<n->tch i j=tch j i)(h:bU n may has hasF tch=true)(hm:∀x∈dQ n may has hasF tch,x<n->may x=true->may' x=true):bU n may' has hasF tch=true:=by
 obtain⟨b1,b2,b3,b4,b5,b6⟩:=xT hsym h;generalize hL:dQ n may has hasF tch=L at *;have e0:=List.getElem?_eq_getElem b1;have eN:=List.getElem?_eq_getElem (show L.length-1<L.length by omega);exact pg.2 ⟨_,_,b5 _ e0,b6 _ eN,xn (λr x hx=>⟨(b3 r x hx).1,hm x (List.mem_of_getElem? hx) (b3 r x hx).1 (b3 r x hx).2.1⟩) (λr x y hx hy=>b4 r x y hx hy) _ _ _ e0 eN⟩
section
variable {sc:Sce} {w w':Int} {a b:Spc} {P P':Nat->List Bool} {I I':List (List Bool)}
theorem vG(g:Grw sc w a P I)(g':Grw sc w' b P' I')(hr:bi vI (aI sc.js sc.ms)=true)(f f':Int->Int->Bool)(p q:List Int)
 (h1:∀i,i<a.cells.length->(bo a i).low=-1->f (bo a i).v.kind (iB a i)=true->P i∉I')
 (h2:∀i j,i<a.cells.length->(bo a i).low=-1->f (bo a i).v.kind (iB a i)=true->j<b.cells.length->(bo b j).low=-1->P' j=P i->f' (bo b j).v.kind (iB b j)=true)
 (h3:∀j,j<b.cells.length->(bo b j).low=-1->P' j∈I->f' (bo b j).v.kind (iB b j)=true)
 (hb:bU a.cells.length (aZ a f) (aw a.bx q) (aw a.bx p) (cQ a.bx)=true):bU b.cells.length (aZ b f') (aw b.bx q) (aw b.bx p) (cQ b.bx)=true:=by
 have hsb:∀i j,(i<a.cells.length∧(bo a i).low=-1)∧(j<b.cells.length∧(bo b j).low=-1)∧P' j <:+ P i->SB (ff a.bx i) (ff b.bx j):=by
  rintro i j ⟨⟨x1,x2⟩,⟨y1,y2⟩,hs⟩;have e1:=(g.leaf i x1 x2).1;have e2:=(g'.leaf j y1 y2).1;have:=g.sb hr x1 x2 hs;rw[<-e1,<-e2]at this;exact this
 refine yV (img:=λi j=>(i<a.cells.length∧(bo a i).low=-1)∧(j<b.cells.length∧(bo b j).low=-1)∧P' j <:+ P i) (λi hi hm=>?_) (λi j i' j' _ _ _ _ e1 e2 ht=>(hsb _ _ e1).touch (hsb _ _ e2) ht) (λi i' _ _ e h=>(hsb _ _ e).has h) (λi i' _ _ e h=>(hsb _ _ e).has h) hb;simp only[aZ,Bool.and_eq_true,decide_eq_true_eq]at hm;rcases g'.cov (P i)with⟨j,j1,j2,j3⟩|e
 .refine⟨j,⟨⟨hi,hm.1⟩,⟨j1,j2⟩,j3⟩,j1,?_⟩
  simp only[aZ,Bool.and_eq_true,decide_eq_true_eq];refine⟨j2,?_⟩;rcases g.anc i hi hm.1 _ j3 with e|e
  .exact h2 i j hi hm.1 hm.2 j1 j2 e
  .exact h3 j j1 j2 e
 .exact absurd e (h1 i hi hm.1 hm.2)
theorem fk(g:Grw sc w a P I)(hi:i<a.cells.length)(hl:(bo a i).low=-1):(bo a i).v.kind=(iF sc (P i)).2.kind:=by rw[(g.leaf i hi hl).2.1]
theorem xp(g:Grw sc w a P I)(g':Grw sc w' b P' I')(hr:bi vI (aI sc.js sc.ms)=true)(p q:List Int)(hb:bU a.cells.length (aZ a qB) (aw a.bx q) (aw a.bx p) (cQ a.bx)=true):bU b.cells.length (aZ b mK) (aw b.bx q) (aw b.bx p) (cQ b.bx)=true:=by
 refine vG g g' hr _ _ p q (λi hi hl hf hm=>?_) (λi j hi hl hf hj hlj e=>?_) (λj hj hlj hm=>?_) hb
 .have h0:=(g'.opn _ hm).1
  rw[<-fk g hi hl]at h0;simp[qB,h0]at hf
 .have e1:=fk g hi hl
  have e2:=fk g' hj hlj;rw[e,<-e1]at e2;simp only[qB,beq_iff_eq]at hf;simp[mK,e2,hf]
 .have h0:=(g.opn _ hm).1
  rw[<-fk g' hj hlj]at h0;simp[mK,h0]
theorem D4(g:Grw sc w a P I)(g':Grw sc w' b P' I')(hw:w'<=w)(hr:bi vI (aI sc.js sc.ms)=true)(p q:List Int)(hb:bU a.cells.length (aZ a qB) (aw a.bx q) (aw a.bx p) (cQ a.bx)=true):bU b.cells.length (aZ b qC) (aw b.bx q) (aw b.bx p) (cQ b.bx)=true:=by
 refine vG g g' hr _ _ p q (λi hi hl hf hm=>?_) (λi j hi hl hf hj hlj e=>?_) (λj hj hlj hm=>?_) hb
 .have h0:=(g'.opn _ hm).1
  rw[<-fk g hi hl]at h0;simp[qB,h0]at hf
 .have e1:=fk g hi hl
  have e2:=fk g' hj hlj;rw[e,<-e1]at e2;simp only[qB,beq_iff_eq]at hf;simp[qC,e2,hf]
 .obtain⟨h0,ho⟩:=g.opn _ hm
  obtain⟨l1,l2,l3⟩:=g'.leaf j hj hlj;rw[<-fk g' hj hlj]at h0;rw[<-l1]at ho;have:=zz (js:=sc.js) (ms:=sc.ms) (w:=w') (b:=fE b j);rw[yX hw ho,<-l3]at this;simp[qC,h0,this]
theorem CN(g:Grw sc w a P I)(g':Grw sc w' b P' I')(hw:w<=w')(hr:bi vI (aI sc.js sc.ms)=true)(p q:List Int)(hb:bU a.cells.length (aZ a vE) (aw a.bx q) (aw a.bx p) (cQ a.bx)=true):bU b.cells.length (aZ b mK) (aw b.bx q) (aw b.bx p) (cQ b.bx)=true:=by
 have hk:∀{k j:Int},vE k j=true->k=1∨(k=0∧j=-1):=by
  intro k j h;simpa[vE]using h
 refine vG g g' hr _ _ p q (λi hi hl hf hm=>?_) (λi j hi hl hf hj hlj e=>?_) (λj hj hlj hm=>?_) hb
 .obtain⟨h0,ho⟩:=g'.opn _ hm
  obtain⟨l1,l2,l3⟩:=g.leaf i hi hl;rw[<-fk g hi hl]at h0;rw[<-l1]at ho;have:=zz (js:=sc.js) (ms:=sc.ms) (w:=w) (b:=fE a i);rw[yX hw ho,<-l3]at this;rcases hk hf with e|⟨_,e⟩
  .omega
  .simp[e]at this
 .have e1:=fk g hi hl
  have e2:=fk g' hj hlj;rw[e,<-e1]at e2;rcases hk hf with e|⟨e,_⟩<;>simp[mK,e2,e]
 .have h0:=(g.opn _ hm).1
  rw[<-fk g' hj hlj]at h0;simp[mK,h0]
end
section
variable {sc:Sce} {p q:List Int} {w w' cells cells':Int} {A B:Spc×Int}
theorem nj(h:NrOk s)(hk:∀i,i<s.cells.length->(bo s i).low=-1->(bo s i).v.kind=0∨(bo s i).v.kind=1∨(bo s i).v.kind=2)(p q:List Int):
 ((gg s p q).2.2=1∧bU s.cells.length (aZ s qB) (aw s.bx q) (aw s.bx p) (cQ s.bx)=true)∨
 ((gg s p q).2.2=2∧bU s.cells.length (aZ s qB) (aw s.bx q) (aw s.bx p) (cQ s.bx)=false∧bU s.cells.length (aZ s mK) (aw s.bx q) (aw s.bx p) (cQ s.bx)=false)∨
 ((gg s p q).2.2=3∧bU s.cells.length (aZ s qB) (aw s.bx q) (aw s.bx p) (cQ s.bx)=false∧bU s.cells.length (aZ s mK) (aw s.bx q) (aw s.bx p) (cQ s.bx)=true)∨
 ((gg s p q).2.2=5∧bU s.cells.length (aZ s qB) (aw s.bx q) (aw s.bx p) (cQ s.bx)=false∧bU s.cells.length (aZ s mK) (aw s.bx q) (aw s.bx p) (cQ s.bx)=true∧bU s.cells.length (aZ s qC) (aw s.bx q) (aw s.bx p) (cQ s.bx)=false∧bU s.cells.length (aZ s vE) (aw s.bx q) (aw s.bx p) (cQ s.bx)=true):=by
 have hsym:∀i j,i<s.cells.length->j<s.cells.length->cQ s.bx i j=cQ s.bx j i:=λi j hi hj=>h.sy hi hj
 have pick:∀(f f':Int->Int->Bool),(∀i,i<s.cells.length->(bo s i).low=-1->f (bo s i).v.kind (iB s i)=true->zg s i=false->f' (bo s i).v.kind (iB s i)=true)->bU s.cells.length (aZ s f) (aw s.bx q) (aw s.bx p) (cQ s.bx)=true->bU s.cells.length (aZ s f') (aw s.bx q) (aw s.bx p) (cQ s.bx)=false->(nu s (dQ s.cells.length (aZ s f) (aw s.bx q) (aw s.bx p) (cQ s.bx))).2.2=3:=by
  intro f f' hff hb hn;unfold nu;split
  .rfl
  .rename_i hno
   rw[List.find?_eq_none]at hno
   have:=DX (may':=aZ s f') hsym hb λx hx hxn hm=>by
    simp only[aZ,Bool.and_eq_true,decide_eq_true_eq]at hm|-;exact⟨hm.1,hff x hxn hm.1 hm.2 (by simpa using hno x hx)⟩
   rw[hn]at this;cases this
 unfold gg rd
 cases c0:bU s.cells.length (aZ s qB) (aw s.bx q) (aw s.bx p) (cQ s.bx)with
 |true=>simp
 |false=>
 cases c3:bU s.cells.length (aZ s mK) (aw s.bx q) (aw s.bx p) (cQ s.bx)with
 |false=>simp
 |true=>
 cases c1:bU s.cells.length (aZ s qC) (aw s.bx q) (aw s.bx p) (cQ s.bx)with
 |true=>
  have:=pick qC qB (λi hi hl h1 h2=>by
   simp only[qC,Bool.or_eq_true,Bool.and_eq_true,beq_iff_eq,bne_iff_ne]at h1;simp only[zg,Bool.and_eq_false_iff,decide_eq_false_iff_not]at h2;simp only[qB,beq_iff_eq];rcases h1 with e|⟨e,e'⟩
   .exact e
   .rcases h2 with h2|h2
    .exact absurd e h2
    .exact absurd e' h2) c1 c0
  simp[this]
 |false=>
 cases c2:bU s.cells.length (aZ s vE) (aw s.bx q) (aw s.bx p) (cQ s.bx)with
 |true=>simp
 |false=>
  have:=pick mK vE (λi hi hl h1 h2=>by
   simp only[mK,bne_iff_ne]at h1;simp only[zg,Bool.and_eq_false_iff,decide_eq_false_iff_not]at h2;simp only[vE,Bool.or_eq_true,Bool.and_eq_true,beq_iff_eq];rcases hk i hi hl with e|e|e
   .right
    rcases h2 with h2|h2
    .exact absurd e h2
    .exact⟨e,by simpa using h2⟩
   .exact .inl e
   .exact absurd e h1) c3 c2
  simp[this]
theorem RunE.kind(h:RunE sc p q w cells A)(hk:∀b hints,(eS sc b hints).kind=0∨(eS sc b hints).kind=1∨(eS sc b hints).kind=2):∀i,i<A.1.cells.length->(bo A.1 i).low=-1->(bo A.1 i).v.kind=0∨(bo A.1 i).v.kind=1∨(bo A.1 i).v.kind=2:=by
 intro i hi hl;obtain⟨P,I,g⟩:=h.gr;rw[fk g hi hl]
 cases P i with
 |nil=>exact hk _ _
 |cons c π=>exact hk _ _
theorem Ed(hk:∀b hints,(eS sc b hints).kind=0∨(eS sc b hints).kind=1∨(eS sc b hints).kind=2)(hr:bi vI (aI sc.js sc.ms)=true)(hA:RunE sc p q w cells A)(hB:RunE sc p q w' cells' B)(hw:w'<=w)(ha:A.2=1∨A.2=2):A.2=B.2∨B.2=4:=by
 obtain⟨P,I,g⟩:=hA.gr;obtain⟨P',I',g'⟩:=hB.gr;have kA:=nj hA.nr (hA.kind hk) p q;have kB:=nj hB.nr (hB.kind hk) p q;rcases hB.st with⟨e,_⟩|⟨eB,e3⟩
 .exact .inr e
 left
 have eA:A.2=(gg A.1 p q).2.2:=by rcases hA.st with⟨e,_⟩|⟨e,_⟩<;>omega
 rcases kA with⟨s1,f0⟩|⟨s1,_,f3⟩|⟨s1,_⟩|⟨s1,_⟩
 .have f1:=D4 g g' hw hr p q f0
  rcases kB with⟨t1,_⟩|⟨t1,_,t3⟩|⟨t1,_⟩|⟨t1,_,_,t4,_⟩
  .omega
  .exfalso
   have:=DT (may':=aZ B.1 mK) (λi hi hm=>by
    simp only[aZ,Bool.and_eq_true,decide_eq_true_eq,qC,mK,Bool.or_eq_true,beq_iff_eq,bne_iff_ne]at hm|-
    omega) f1
   rw[t3]at this;cases this
  .omega
  .rw[t4]at f1;cases f1
 .rcases kB with⟨t1,t0⟩|⟨t1,_⟩|⟨t1,_⟩|⟨t1,_,_,_,t2⟩
  .have:=xp g' g hr p q t0
   rw[f3]at this;cases this
  .omega
  .omega
  .have:=CN g' g hw hr p q t2
   rw[f3]at this;cases this
 all_goals omega
theorem Er(hk:∀b hints,(eS sc b hints).kind=0∨(eS sc b hints).kind=1∨(eS sc b hints).kind=2)(hr:bi vI (aI sc.js sc.ms)=true)(hA:RunE sc p q w cells A)(hB:RunE sc q p w' cells' B)(ha:A.2=1)(hb:B.2=2):False:=by
 obtain⟨P,I,g⟩:=hA.gr;obtain⟨P',I',g'⟩:=hB.gr;have kA:=nj hA.nr (hA.kind hk) p q;have kB:=nj hB.nr (hB.kind hk) q p
 have eA:A.2=(gg A.1 p q).2.2:=by rcases hA.st with⟨e,_⟩|⟨e,_⟩<;>omega
 have eB:B.2=(gg B.1 q p).2.2:=by rcases hB.st with⟨e,_⟩|⟨e,_⟩<;>omega
 rcases kA with⟨s1,f0⟩|⟨s1,_⟩|⟨s1,_⟩|⟨s1,_⟩
 .rcases kB with⟨t1,_⟩|⟨t1,_,t3⟩|⟨t1,_⟩|⟨t1,_⟩
  .omega
  .have:=xp g g' hr p q f0
   rw[FH (tch:=cQ B.1.bx) λi j hi hj=>hB.nr.sy hi hj,t3]at this;cases this
  all_goals omega
 all_goals omega
end
structure SubI(x y:Iv):Prop where
 vx:aC x.1 x.2=true
 vy:aC y.1 y.2=true
 lo:y.1<=x.1
 hi:x.2<=y.2
theorem SubI.all{x y:Iv}(h:SubI x y):-2147483648<=y.1∧y.1<=x.1∧x.1<=x.2∧x.2<=y.2∧y.2<=2147483648:=by
 have h1:=jY.1 h.vx;have h2:=jY.1 h.vy;have h3:=h.lo;have h4:=h.hi;omega
theorem SubI.refl{x:Iv}(h:aC x.1 x.2=true):SubI x x:=⟨h,h,Int.le_refl _,Int.le_refl _⟩
theorem SubI.trans{x y z:Iv}(h:SubI x y)(g:SubI y z):SubI x z:=⟨h.vx,g.vy,Int.le_trans g.lo h.lo,Int.le_trans h.hi g.hi⟩
def IG(a b:List Iv):Prop:=a.length=b.length∧∀(k:Nat) x y,a[k]?=some x->b[k]?=some y->SubI x y
theorem B4(l:List Int)(n:Nat)(c:Vc):(B3 l n c).length<=4:=by
 have hx:=ld l n (k:=4) (by decide) (by decide)
 have:ky l n<4:=by unfold ky;omega
 unfold B3;rw[B2];omega
theorem vQ(l:List Int)(n:Nat):∀i,∀h∈(eJ l n i).1,h.pts.length<=4
 |0,h,hm=>by cases hm
 |i+1,h,hm=>by
  simp only[eJ]at hm;split at hm
  .rcases List.mem_append.1 hm with hm|hm
   .exact vQ l n i h hm
   .rw[List.mem_singleton]at hm;subst hm;exact B4 _ _ _
  .exact vQ l n i h hm
theorem B5(l:List Int)(xs:List Sh)(n:Nat)(hx:∀h∈xs,h.pts.length<=4):∀i,∀h∈(fA l xs n i).1,h.pts.length<=4
 |0,h,hm=>hx h hm
 |i+1,h,hm=>by
  simp only[fA]at hm;rcases List.mem_append.1 hm with hm|hm
  .exact B5 l xs n hx i h hm
  .rw[List.mem_singleton]at hm;subst hm;exact B4 _ _ _
theorem Io(l:List Int):ScL (ny l):=by
 have h1:=A4 l 0;have hx:=ld l (rM l 0) (k:=3) (by decide) (by decide);have h2:(mI l 0).length=rK l 0:=vz _ _ _ _
 have h3:rK l 0<3:=by unfold rK;omega
 have hN:=ld l 0 (k:=3) (by decide) (by decide)
 have h4:rN l 0<=3:=by unfold rN;omega
 have h5:=(zi l (qu l 0) (rN l 0)).2;have h6:=(zm l (mA l).1 (nn l (mA l).2) (rC l (mA l).2)).2;have hx3:=ld l (mA l).2 (k:=3) (by decide) (by decide)
 have h7:rC l (mA l).2<=3:=by unfold rC;omega
 have h8:(mA l).1.length<=3:=by unfold mA;omega
 refine⟨by show(gD l 0).length<=_;omega,by show(mI l 0).length<=_;omega,by show(mB l).1.length<=_;unfold mB;omega,?_,?_⟩
 .show(if nx l (mB l).2 5=1 then[((-1:Int),nx l (nn l (mB l).2) (rN l 0))]else[]).length<=_
  split<;>simp
 .intro h hm
  have:h.pts.length<=4:=B5 l _ _ (vQ l _ _) _ h hm;omega
theorem s8{SH:List Sh}{PR:List (Nat×Nat)}{PT:List (List aH)}{hints:List Vc}(hf:PR.length<=576):∀f k ap,(tG SH PR PT hints f k ap).ns.length<=576∧(tG SH PR PT hints f k ap).w.a.length<=8∧(tG SH PR PT hints f k ap).w.b.length<=8
 |0,k,ap=>by
  simp only[tG];split<;>simp[jw,hf]
 |f+1,k,ap=>by
  simp only[tG];split
  .split
   .exact s8 hf f _ _
   .split
    .exact⟨by simp,ET _ _ _ _⟩
    .exact s8 hf f _ _
  .split<;>simp[jw,hf]
theorem zx(s:Sce)(bx:List Iv)(hints:List Vc):(eS s bx hints).ns.length<=576∧(eS s bx hints).w.a.length<=8∧(eS s bx hints).w.b.length<=8:=by
 unfold eS;split
 .rename_i h;exact s8 (LT h).few _ _ _
 .simp
theorem FT{a b:List aH}{ra rb:Int}{h:List Vc}(hf:(qe a ra b rb h).2=true):qH (qe a ra b rb h).1 a ra b rb=true:=by
 unfold qe at hf|-;split
 .rename_i n e;have:=List.find?_some e;exact this
 .rename_i e;rw[e]at hf;cases hf
theorem Hr{SH:List Sh}{PR:List (Nat×Nat)}{PT:List (List aH)}{w:Wit}:FP SH PR PT w=true↔∃p,0<=w.pair∧PR[w.pair.toNat]?=some p∧F1 SH PT w.a w.b p=true:=by
 unfold FP
 cases h:PR[w.pair.toNat]? with
 |none=>simp
 |some p=>simp
section
variable {SH:List Sh} {PR:List (Nat×Nat)} {PT:List (List aH)} {hs:List Vc}
theorem xe:∀f k ap,k+f=PR.length->(∃(j:Nat)(p:Nat×Nat),PR[j]?=some p∧tG SH PR PT hs f k ap=⟨2,[],⟨j,(yz SH PT p).2.w,(yz SH PT p).2.v⟩⟩∧F1 SH PT (yz SH PT p).2.w (yz SH PT p).2.v p=true)∨(tG SH PR PT hs f k ap=⟨1,jw SH PR PT hs,⟨0,[],[]⟩⟩∧ap=true∧∀j p,k<=j->PR[j]?=some p->(zt SH PT hs j p).2=true)∨tG SH PR PT hs f k ap=⟨0,jw SH PR PT hs,⟨0,[],[]⟩⟩
 |0,k,ap,hk=>by
  right
  cases ap with
  |true=>
   left
   refine⟨rfl,rfl,λj p hj hp=>?_⟩;have:=(List.getElem?_eq_some_iff.1 hp).1;omega
  |false=>right;rfl
 |f+1,k,ap,hk=>by
  have hp:PR[k]?=some (PR[k]'(by omega)):=List.getElem?_eq_getElem _;simp only[tG,hp];split
  .rename_i hf
   rcases xe f (k+1) ap (by omega)with h|⟨h1,h2,h3⟩|h
   .exact .inl h
   .refine .inr (.inl ⟨h1,h2,λj p hj hpj=>?_⟩)
    by_cases he:j=k
    .subst he;rw[hp]at hpj;cases hpj;exact hf
    .exact h3 j p (by omega) hpj
   .exact .inr (.inr h)
  .split
   .rename_i ho
    exact .inl ⟨k,_,hp,rfl,ho⟩
   .rcases xe f (k+1) false (by omega)with h|⟨h1,h2,h3⟩|h
    .exact .inl h
    .cases h2
    .exact .inr (.inr h)
theorem Av{p:Nat×Nat}(h:PR[k]?=some p):(jw SH PR PT hs)[k]?=some (zt SH PT hs k p).1:=by
 simp[jw,List.getElem?_mapIdx,h]
theorem sn:(jw SH PR PT hs).length=PR.length:=by simp[jw]
theorem Hs{p:Nat×Nat}(h:(zt SH PT hs k p).2=true):FO SH PT (zt SH PT hs k p).1 p=true:=FT h
theorem EF(h:∀j p,PR[j]?=some p->(zt SH PT hs j p).2=true):rD SH PR PT (jw SH PR PT hs)=true:=by
 refine Ev sn λk n p hk hn hp=>?_;rw[Av hp]at hn;cases hn;exact Hs (h k p hp)
end
theorem Cn(s:Sce)(bx:List Iv)(hs:List Vc):(∃w,eS s bx hs=⟨2,[],w⟩∧zd s bx w=true)∨(∃ns,eS s bx hs=⟨1,ns,⟨0,[],[]⟩⟩∧y3 s bx ns=true)∨(∃ns,eS s bx hs=⟨0,ns,⟨0,[],[]⟩⟩∧(ns.length=(gq s).length∨ku s bx=false)):=by
 unfold eS
 cases hp:ku s bx with
 |false=>exact .inr (.inr ⟨[],rfl,.inr rfl⟩)
 |true=>
  simp only[if_true];rcases xe (SH:=s.shs) (PR:=gq s) (PT:=kw s bx) (hs:=hs) (gq s).length 0 true (by omega)with⟨j,p,h1,h2,h3⟩|⟨h1,_,h3⟩|h
  .refine .inl ⟨_,h2,?_⟩
   simp only[zd,hp,Bool.true_and,Hr];exact⟨p,by omega,by simpa using h1,h3⟩
  .refine .inr (.inl ⟨_,h1,?_⟩)
   simp only[y3,hp,Bool.true_and];exact EF λj p hp=>h3 j p (by omega) hp
  .exact .inr (.inr ⟨_,h,.inl sn⟩)
def zK(x y:AV)(fb:Option dm):Option dm:=match GN x y with
 |some (a,b)=>some (.pv (.val (.bool (!(a==b)))),[])
 |none=>fb
@[simp] theorem IL(a b:Bool)(fb:Option dm):zK (.pv (.val (.bool a))) (.pv (.val (.bool b))) fb=some (.pv (.val (.bool (!(a==b)))),[]):=rfl
@[simp] theorem Kc{dst:Option Nat}{ty:TypeId}{pos:String}{aft:Array Edge}{g:Option (Nat×Bool)}{ρ:Operand->AV}(x y:Operand):
 bz Tryz.prog ⟨dst,.binOp .neq 4 x y 4,ty,pos,aft,g⟩ ρ=zK (ρ x) (ρ y) (mF Tryz.prog ⟨dst,.binOp .neq 4 x y 4,ty,pos,aft,g⟩ ρ):=by
 unfold zK;split
 .rename_i a b h
  unfold GN at h;split at h
  .rename_i a' b' hx hy
   injection h with h;injection h with h1 h2;subst h1;subst h2;refine eC (by simp[Op.operands,hx,hy,fl]) ?_;unfold execOp;simp only[(bO hx).2,(bO hy).2]
   have h1:al Tryz.prog (eqGuard .neq 4 x y (.bool a') (.bool b'))=some ():=by kernel_rfl
   have h2:al Tryz.prog (binOp .neq 4 (.bool a') (.bool b'))=some (.bool (!(a'==b'))):=by
    simp only[binOp,aj];rw[show al Tryz.prog (Op.equal 4 (.bool a') (.bool b'))=some (a'==b') from Hn 9999 4 a' b' Tryz.underlying4];rfl
   simp only[aj,h1,h2,Option.bind_some];rfl
  .cases h
 .rfl
theorem EG(s:Sce)(b:List Iv)(hs:List Vc):dW (dN (eS s b hs))=true:=by
 rcases Cn s b hs with⟨w,h1,_⟩|⟨ns,h1,_⟩|⟨ns,h1,_⟩<;>rw[h1]<;>simp[dN,dW,ji]
theorem Gm{b:List Iv}(hv:bi vI b=true):IG b b:=⟨rfl,λk x y hx hy=>by
 rw[hx]at hy;injection hy with hy;subst hy
 exact SubI.refl (ey.1 hv _ (List.mem_of_getElem? hx))⟩
theorem GB(hc:bF js ms=0)(h:IG b (aI js ms)):kX js ms b=true:=by
 have hl:aI js ms=js.map lq:=by simp[aI,hc]
 rw[hl]at h;obtain⟨h1,h2⟩:=h;rw[List.length_map]at h1;simp only[kX,hc,h1,decide_true,Bool.true_and];rw[AQ];intro i hi hi';have:=h2 i b[i] (lq js[i]) (List.getElem?_eq_getElem hi') (by rw[List.getElem?_map,List.getElem?_eq_getElem hi];rfl);simp only[oH,Bool.and_eq_true,decide_eq_true_eq];exact⟨⟨⟨this.vx,this.vy⟩,this.lo⟩,this.hi⟩
theorem Au(h:bF js ms=0):∀(i:Nat) j,js[i]?=some j->dv js i j=0:=by
 unfold bF at h;split at h
 .cases h
 .split at h
  .rename_i hne;exact absurd h hne
  .rename_i he
   intro i j hij
   have he':jg js=0:=by simpa using he
   rw[tx]at he';by_cases hz:dv js i j=0
   .exact hz
   .exfalso
    cases hf:(js.mapIdx (dv js)).find? (λe=>e !=0)with
    |none=>
     rw[List.find?_eq_none]at hf
     have hm:dv js i j∈js.mapIdx (dv js):=by
      rw[List.mem_mapIdx];obtain⟨h1,h2⟩:=List.getElem?_eq_some_iff.1 hij;exact⟨i,h1,by rw[h2]⟩
     exact hf _ hm (by simpa using hz)
    |some e=>
     rw[hf]at he';have:=List.find?_some hf;simp only at he';rw[he']at this;simp at this
theorem FE{j:J}(h:dv js i j=0):-4194304<=j.lo∧j.lo<=j.hi∧j.hi<=4194304:=by
 have:=uT j.kind;unfold dv at h
 repeat' split at h
 all_goals (try (cases h;done))
 all_goals omega
theorem DD(h:bF js ms=0):dt (aI js ms)=true:=by
 have hl:aI js ms=js.map lq:=by simp[aI,h]
 have hlen:=nM h;rw[hl];simp only[dt,List.length_map,Bool.and_eq_true,decide_eq_true_eq];refine⟨⟨by omega,by omega⟩,ey.2 λx hx=>?_⟩;obtain⟨j,hj,rfl⟩:=List.mem_map.1 hx;obtain⟨i,hi⟩:=List.getElem?_of_mem hj;have:=FE (Au h i j hi);exact ej.2 ⟨by simp only[lq];omega,by simp only[lq];omega,by simp only[lq];omega⟩
theorem ss{s:Sce}(h:eu s=0):bF s.js s.ms=0:=Decidable.byContradiction λhn=>by
 unfold eu at h;rw[if_pos hn]at h;exact hn h
theorem Ct{t:Tr}(hv:ay t=true)(hk:dZ t k=true)(hlt:k<t.cells.length)(h0:(zy t k).kind=0){V:Verd}(hf:dW V=true):cX t (k:Int) V=true:=by
 unfold cX;rw[hv,Int.toNat_natCast,hk,h0,hf,decide_eq_true (by omega:(0:Int)<=(k:Int)),decide_eq_true (by omega:(k:Int)<(t.cells.length:Int))];rfl
theorem BH(s:Sce)(b:List Iv)(hs:List Vc):(eS s b hs).kind=0∨(eS s b hs).kind=1∨(eS s b hs).kind=2:=by
 rcases Cn s b hs with⟨_,h1,_⟩|⟨_,h1,_⟩|⟨_,h1,_⟩<;>rw[h1]<;>simp
theorem G6(w:Int)(h0:eu sc=0):NrOk (vH sc w):=by
 have hr:=DD (ss h0);simp only[dt,Bool.and_eq_true,decide_eq_true_eq]at hr;refine⟨rfl,rfl,rfl,rfl,?_,λp=>?_,λp k=>?_⟩
 .intro b hb
  simp only[vH,List.mem_singleton]at hb;subst hb;exact⟨hr.2,by omega⟩
 .unfold ae vH
  cases p<;>simp
 .have e:ae (vH sc w) p=[]:=by unfold ae vH;cases p<;>simp
  rw[e];have el:(vH sc w).cells.length=1:=rfl;rw[el];constructor
  .intro h;cases h
  .rintro⟨a,b,c,_⟩;omega
theorem G7(sc:Sce)(w:Int):Grw sc w (vH sc w) (λ_=>[]) []:=by
 have el:(vH sc w).cells.length=1:=rfl;refine⟨λi hi _=>?_,λπ=>?_,λi _ _ π hp=>?_,λπ hp=>by cases hp⟩
 .have:i=0:=by omega
  subst this;exact⟨rfl,rfl,rfl⟩
 .exact .inl ⟨0,by omega,rfl,List.nil_suffix⟩
 .exact .inl (by simpa using hp)
def nk(sc:Sce)(p q:List Int):Prop:=eu sc=0∧kl sc.js sc.ms p=true∧kl sc.js sc.ms q=true
theorem IN(sc:Sce)(p q:List Int)(w cells:Int)(hs:ScL sc)(hpl:p.length<=9223372036854775807)(hql:q.length<=9223372036854775807)(h:¬(eu sc=0∧kl sc.js sc.ms p=true∧kl sc.js sc.ms q=true)):aa Tryz.prog 8 [.pv (jG sc),.pv (zs p),.pv (zs q),.pv (Z w),.pv (Z cells)] [] [] (.pv (.tup [.agg [.sl [],.sl []],Z 0])):=by
 have cs:=OO sc hs;have cp:=FW sc.js sc.ms p hs.js hs.ms;have cq:=FW sc.js sc.ms q hs.js hs.ms;generalize eu sc=e at *;generalize kl sc.js sc.ms p=a at *;generalize kl sc.js sc.ms q=b at *;by_cases h0:e=0
 .subst h0
  cases a with
  |false=>
   refine Dp Tryz.func8 ?_;intro C hP hN;simp only[Tryz.f8]at hN|-
   with_reducible repeat' (first|refine Sp.h ?_|((first|refine Wd ?_|refine Ss.h ?_|refine Sc.h (cs) ?_|refine Sc.h (cp) ?_|(refine Sb.h ?_ ?_ ?_<;>(try intro hgd)<;>try exact Xy))<;>simp -implicitDefEqProofs (maxSteps:=2000000) [hP,hN]<;>try refine Ya ?_)|refine X2 ?_ ?_|(refine Xd ?_ ?_<;>intro hcd<;>try exact Xx))
  |true=>
  cases b with
  |false=>
   refine Dp Tryz.func8 ?_;intro C hP hN;simp only[Tryz.f8]at hN|-
   with_reducible repeat' (first|refine Sp.h ?_|((first|refine Wd ?_|refine Ss.h ?_|refine Sc.h (cs) ?_|refine Sc.h (cp) ?_|refine Sc.h (cq) ?_|(refine Sb.h ?_ ?_ ?_<;>(try intro hgd)<;>try exact Xy))<;>simp -implicitDefEqProofs (maxSteps:=2000000) [hP,hN]<;>try refine Ya ?_)|refine X2 ?_ ?_|(refine Xd ?_ ?_<;>intro hcd<;>try exact Xx))
  |true=>exact absurd ⟨rfl,rfl,rfl⟩ h
 .have h0':(e==0)=false:=by simp[h0]
  refine Dp Tryz.func8 ?_;intro C hP hN;simp only[Tryz.f8]at hN|-
  with_reducible repeat' (first|refine Sp.h ?_|((first|refine Wd ?_|refine Ss.h ?_|refine Sc.h (cs) ?_|(refine Sb.h ?_ ?_ ?_<;>(try intro hgd)<;>try exact Xy))<;>simp -implicitDefEqProofs (maxSteps:=2000000) [hP,hN,h0',h0]<;>try refine Ya ?_)|refine X2 ?_ ?_|(refine Xd ?_ ?_<;>intro hcd<;>try exact Xx))
theorem xU(sc:Sce)(p q:List Int)(w cells:Int)(hs:ScL sc)(h3:1<=w)(h4:1<=cells)(h5:cells<=2040)(hpl:p.length<=9223372036854775807)(hql:q.length<=9223372036854775807):∃R:Spc×Int,aa Tryz.prog 8 [.pv (jG sc),.pv (zs p),.pv (zs q),.pv (Z w),.pv (Z cells)] [] [] (.pv (.tup [.agg [iv R.1.root,.sl (R.1.cells.map aW)],Z R.2]))∧((nk sc p q∧RunE sc p q w cells R∧bi vI (aI sc.js sc.ms)=true)∨(¬nk sc p q∧R.2=0)):=by
 by_cases h:eu sc=0∧kl sc.js sc.ms p=true∧kl sc.js sc.ms q=true
 .obtain⟨h0,h1,h2⟩:=h
  have hr:=DD (ss h0);have hr':=hr;simp only[dt,Bool.and_eq_true,decide_eq_true_eq]at hr'
  have hv:∀b hints,(dN (eS sc b hints)).nor.length<=4096:=λb hints=>by have:=(zx sc b hints).1;simp only[dN];omega
  have hv0:ay (lZ (aI sc.js sc.ms) bn)=true:=by have:=qt (aI sc.js sc.ms);rw[hr]at this;exact this
  have hbl:=zx sc (aI sc.js sc.ms) [];obtain⟨R,hR,hE⟩:=GY (sc:=sc) (p:=p) (q:=q) (w:=w) hv h5 2041 (vH sc w) (G6 w h0) ⟨_,_,G7 sc w⟩ (λc hc=>by simp only[vH,List.mem_singleton]at hc;subst hc;exact hv _ _) (by show(1:Int)<=cells;exact h4) (by show cells<(1:Int)+(2041:Nat);omega);have hy0:cX (lZ (aI sc.js sc.ms) bn) 0 (dN (eS sc (aI sc.js sc.ms) []))=true:=Ct (k:=0) hv0 rfl (by simp) rfl (EG _ _ _);have hv1:=(BF hv0 0 (dN (eS sc (aI sc.js sc.ms) []))).1;rw[dE,if_pos hy0]at hv1;refine⟨R,d8 sc p q w cells 2041 R hs h0 h1 h2 h3 h4 (by omega) hpl hql hr ?_ hv0 hy0 ⟨by simp only[dN];omega,by simp only[dN];omega,by simp only[dN];omega⟩ ⟨by show(aI sc.js sc.ms).length<=_;omega,by simp,λc hc=>by simp at hc;subst hc;simp[CQ,bn,aP]⟩ (by simpa[eI]using hv1) (by omega) hR,.inl ⟨⟨h0,h1,h2⟩,hE,hr'.2⟩⟩;exact GB (ss h0) (Gm hr'.2)
 .refine⟨(⟨[],[],[],[],[],false⟩,0),IN sc p q w cells hs hpl hql h,.inr ⟨h,rfl⟩⟩
theorem Hd{n n':Int}{A B:Spc×Int}(hA:(nk sc p q∧RunE sc p q w n A∧bi vI (aI sc.js sc.ms)=true)∨(¬nk sc p q∧A.2=0))(hB:(nk sc p q∧RunE sc p q w' n' B∧bi vI (aI sc.js sc.ms)=true)∨(¬nk sc p q∧B.2=0))(hw:w'<=w)(ha:A.2=1∨A.2=2):A.2=B.2∨B.2=4:=by
 rcases hA with⟨c,h1,h2⟩|⟨_,h⟩
 .rcases hB with⟨_,h3,_⟩|⟨c',_⟩
  .exact Ed (BH sc) h2 h1 h3 hw ha
  .exact absurd c c'
 .omega
theorem BV{n n':Int}{A B:Spc×Int}(hA:(nk sc p q∧RunE sc p q w n A∧bi vI (aI sc.js sc.ms)=true)∨(¬nk sc p q∧A.2=0))(hB:(nk sc q p∧RunE sc q p w' n' B∧bi vI (aI sc.js sc.ms)=true)∨(¬nk sc q p∧B.2=0)):¬(A.2=1∧B.2=2):=by
 rintro⟨ha,hb⟩;rcases hA with⟨_,h1,h2⟩|⟨_,h⟩
 .rcases hB with⟨_,h3,_⟩|⟨_,h⟩
  .exact Er (BH sc) h2 h1 h3 ha hb
  .omega
 .omega
theorem DH(l:List Int):∀j∈(ft l).js,tQ j:=by
 intro j hj;simp only[ft,sL,List.mem_map]at hj;obtain⟨i,_,rfl⟩:=hj;unfold tQ;simp only[GP];omega
theorem d3(l m o:List Int)(width less cells more:Int):aa Tryz.prog 3 [.pv (zs l),.pv (zs m),.pv (zs o),.pv (Z width),.pv (Z less),.pv (Z cells),.pv (Z more)] [] [] (.pv (B true)):=by
 have c0:=d9;have hL:=HE l
 have hjl:(ft l).js.length<=10:=by have:=vA l;simp only[ft,Cp];omega
 have ct:=d5 l;have cm:=d6 m (ft l).js (ft l).ms (by omega) (DH l);have co:=d6 o (ft l).js (ft l).ms (by omega) (DH l)
 have hml:(fo m (ft l).js).length=(ft l).js.length:=by simp[fo]
 have hol:(fo o (ft l).js).length=(ft l).js.length:=by simp[fo]
 generalize ft l=s at *;generalize fo m s.js=a at *;generalize fo o s.js=b at *;have c1:=d7 width 20 (by decide);have r1:=eF width (k:=20) (by decide) (by decide);have c2:=d7 cells 60 (by decide);have r2:=eF cells (k:=60) (by decide) (by decide);have c3:=d7 more 60 (by decide);have r3:=eF more (k:=60) (by decide) (by decide);generalize tp width 20=w at *;generalize tp cells 60=n at *;generalize tp more 60=e at *;have c4:=d7 less (2+w) (by omega);have r4:=eF less (k:=2+w) (by omega) (by omega);generalize tp less (2+w)=f at *;have w1:IntKind.i64.wrap (2+w)=2+w:=ab;have w2:IntKind.i64.wrap (1+n)=1+n:=ab;have w3:IntKind.i64.wrap (2+w-f)=2+w-f:=ab;have w4:IntKind.i64.wrap (1+n+e)=1+n+e:=ab;obtain⟨A,cA,hA⟩:=xU s a b (2+w) (1+n) hL (by omega) (by omega) (by omega) (by omega) (by omega);obtain⟨A',cB,hB⟩:=xU s a b (2+w-f) (1+n+e) hL (by omega) (by omega) (by omega) (by omega) (by omega);have hl:=Hd hA hB (by omega);clear hA hB;generalize A.1.cells.map aW=ca at *;generalize A'.1.cells.map aW=cb at *;generalize A.1.root=ra at *;generalize A'.1.root=rb at *;generalize A.2=x at *;generalize A'.2=y at *;by_cases h1:x=1∨x=2
 .rcases h1 with rfl|rfl
  .rcases hl (.inl rfl)with rfl|rfl
   all_goals
    refine Dp Tryz.func3 ?_;intro C hP hN;simp only[Tryz.f3]at hN|-
    with_reducible repeat' (first|refine Sp.h ?_|((first|refine Wd ?_|refine Ss.h ?_|refine Sc.h (c0) ?_|refine Sc.h (ct) ?_|refine Sc.h (cm) ?_|refine Sc.h (co) ?_|refine Sc.h (c1) ?_|refine Sc.h (c2) ?_|refine Sc.h (c3) ?_|refine Sc.h (c4) ?_|refine Sc.h (cA) ?_|refine Sc.h (cB) ?_|(refine Sb.h ?_ ?_ ?_<;>(try intro hgd)<;>try exact Xy))<;>simp -implicitDefEqProofs (maxSteps:=2000000) [hP,hN,w1,w2,w3,w4]<;>try refine Ya ?_)|refine X2 ?_ ?_|(refine Xd ?_ ?_<;>intro hcd<;>try exact Xx))
  .rcases hl (.inr rfl)with rfl|rfl
   all_goals
    refine Dp Tryz.func3 ?_;intro C hP hN;simp only[Tryz.f3]at hN|-
    with_reducible repeat' (first|refine Sp.h ?_|((first|refine Wd ?_|refine Ss.h ?_|refine Sc.h (c0) ?_|refine Sc.h (ct) ?_|refine Sc.h (cm) ?_|refine Sc.h (co) ?_|refine Sc.h (c1) ?_|refine Sc.h (c2) ?_|refine Sc.h (c3) ?_|refine Sc.h (c4) ?_|refine Sc.h (cA) ?_|refine Sc.h (cB) ?_|(refine Sb.h ?_ ?_ ?_<;>(try intro hgd)<;>try exact Xy))<;>simp -implicitDefEqProofs (maxSteps:=2000000) [hP,hN,w1,w2,w3,w4]<;>try refine Ya ?_)|refine X2 ?_ ?_|(refine Xd ?_ ?_<;>intro hcd<;>try exact Xx))
 .have h2:(x !=1)=true:=by simp;omega
  have h3:(x !=2)=true:=by simp;omega
  have h4:x≠1:=by omega
  have h5:x≠2:=by omega
  clear hl h1;refine Dp Tryz.func3 ?_;intro C hP hN;simp only[Tryz.f3]at hN|-
  with_reducible repeat' (first|refine Sp.h ?_|((first|refine Wd ?_|refine Ss.h ?_|refine Sc.h (c0) ?_|refine Sc.h (ct) ?_|refine Sc.h (cm) ?_|refine Sc.h (co) ?_|refine Sc.h (c1) ?_|refine Sc.h (c2) ?_|refine Sc.h (c3) ?_|refine Sc.h (c4) ?_|refine Sc.h (cA) ?_|refine Sc.h (cB) ?_|(refine Sb.h ?_ ?_ ?_<;>(try intro hgd)<;>try exact Xy))<;>simp -implicitDefEqProofs (maxSteps:=2000000) [hP,hN,w1,w2,w3,w4,h2,h3,h4,h5]<;>try refine Ya ?_)|refine X2 ?_ ?_|(refine Xd ?_ ?_<;>intro hcd<;>try exact Xx))
theorem d4(l m o:List Int)(v w:Int):aa Tryz.prog 4 [.pv (zs l),.pv (zs m),.pv (zs o),.pv (Z v),.pv (Z w)] [] [] (.pv (B true)):=by
 have c0:=d9;have ct:=Oa l;have hL:=Io l;have hj:=A4 l 0;have cm:=d6 m (gD l 0) (mI l 0) (by omega) (Dm l 0);have co:=d6 o (gD l 0) (mI l 0) (by omega) (Dm l 0);have hjs:(ny l).js=gD l 0:=rfl;have hms:(ny l).ms=mI l 0:=rfl;rw[<-hjs,<-hms]at cm co;rw[<-hjs]at hj;clear hjs hms
 have hml:(fo m (ny l).js).length=(ny l).js.length:=by simp[fo]
 have hol:(fo o (ny l).js).length=(ny l).js.length:=by simp[fo]
 generalize ny l=s at *;generalize fo m s.js=a at *;generalize fo o s.js=b at *;have c1:=d7 v 9000 (by decide);have r1:=eF v (k:=9000) (by decide) (by decide);have c2:=d7 w 9000 (by decide);have r2:=eF w (k:=9000) (by decide) (by decide);generalize tp v 9000=v' at *;generalize tp w 9000=w' at *;have w1:IntKind.i64.wrap (1+v')=1+v':=ab;have w2:IntKind.i64.wrap (1+w')=1+w':=ab;obtain⟨A,cA,hA⟩:=xU s a b (1+v') 30 hL (by omega) (by omega) (by omega) (by omega) (by omega);obtain⟨A',cB,hB⟩:=xU s b a (1+w') 30 hL (by omega) (by omega) (by omega) (by omega) (by omega);have h1:=BV hA hB;have h2:=BV hB hA;clear hA hB;generalize A.1.cells.map aW=ca at *;generalize A'.1.cells.map aW=cb at *;generalize A.1.root=ra at *;generalize A'.1.root=rb at *;generalize A.2=x at *;generalize A'.2=y at *;by_cases x1:x=1
 .subst x1
  have y2:y≠2:=λe=>h1 ⟨rfl,e⟩
  have y2':(y==2)=false:=by simp[y2]
  clear h1 h2;refine Dp Tryz.func4 ?_;intro C hP hN;simp only[Tryz.f4]at hN|-
  with_reducible repeat' (first|refine Sp.h ?_|((first|refine Wd ?_|refine Ss.h ?_|refine Sc.h (c0) ?_|refine Sc.h (ct) ?_|refine Sc.h (cm) ?_|refine Sc.h (co) ?_|refine Sc.h (c1) ?_|refine Sc.h (c2) ?_|refine Sc.h (cA) ?_|refine Sc.h (cB) ?_|(refine Sb.h ?_ ?_ ?_<;>(try intro hgd)<;>try exact Xy))<;>simp -implicitDefEqProofs (maxSteps:=2000000) [hP,hN,w1,w2,y2,y2']<;>try refine Ya ?_)|refine X2 ?_ ?_|(refine Xd ?_ ?_<;>intro hcd<;>try exact Xx))
 .have x1':(x==1)=false:=by simp[x1]
  by_cases x2:x=2
  .subst x2
   have y1:y≠1:=λe=>h2 ⟨e,rfl⟩
   have y1':(y==1)=false:=by simp[y1]
   clear h1 h2;refine Dp Tryz.func4 ?_;intro C hP hN;simp only[Tryz.f4]at hN|-
   with_reducible repeat' (first|refine Sp.h ?_|((first|refine Wd ?_|refine Ss.h ?_|refine Sc.h (c0) ?_|refine Sc.h (ct) ?_|refine Sc.h (cm) ?_|refine Sc.h (co) ?_|refine Sc.h (c1) ?_|refine Sc.h (c2) ?_|refine Sc.h (cA) ?_|refine Sc.h (cB) ?_|(refine Sb.h ?_ ?_ ?_<;>(try intro hgd)<;>try exact Xy))<;>simp -implicitDefEqProofs (maxSteps:=2000000) [hP,hN,w1,w2,y1,y1']<;>try refine Ya ?_)|refine X2 ?_ ?_|(refine Xd ?_ ?_<;>intro hcd<;>try exact Xx))
  .have x2':(x==2)=false:=by simp[x2]
   clear h1 h2;refine Dp Tryz.func4 ?_;intro C hP hN;simp only[Tryz.f4]at hN|-
   with_reducible repeat' (first|refine Sp.h ?_|((first|refine Wd ?_|refine Ss.h ?_|refine Sc.h (c0) ?_|refine Sc.h (ct) ?_|refine Sc.h (cm) ?_|refine Sc.h (co) ?_|refine Sc.h (c1) ?_|refine Sc.h (c2) ?_|refine Sc.h (cA) ?_|refine Sc.h (cB) ?_|(refine Sb.h ?_ ?_ ?_<;>(try intro hgd)<;>try exact Xy))<;>simp -implicitDefEqProofs (maxSteps:=2000000) [hP,hN,w1,w2,x1,x1',x2,x2']<;>try refine Ya ?_)|refine X2 ?_ ?_|(refine Xd ?_ ?_<;>intro hcd<;>try exact Xx))
end Go.Ab
