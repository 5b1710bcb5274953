/- The contracts and facts that the laws of this seat need, in one text (DlL, Dc4, DcR, Dc12, Dc14, Ck0, De2, De5, Dc9, Dl1, Dn1, Dn2). -/
import Derived.Test.YtpiahagjopediaaGreatX10
import Derived.Test.YtpiahagjopediaaGreatProg
import Derived.Shelf.Slices.Delete
set_option linter.all false
set_option maxHeartbeats 16000000
namespace Go.Ab
open Go.Proofs Go.Shelf Go.Sort
def Oh(x:Nat):Nat:=match x with
 |23=>85
 |n=>n
def Oi(x:Nat):Nat:=match x with
 |22=>27
 |n=>n
def Lt:Ren:=⟨Oh,Oi,λx=>x⟩
theorem Lu:Lays2.n23 Tryz.prog Lt:=
 {mixed:=by kernel_rfl,f23:=Tryz.func85.trans (congrArg some (by kernel_rfl)),
  t0:=Tryz.underlying0,a0:=Tryz.isAgg0,z0:=Tryz.sizeOf0,v0:=Tryz.zeroValue0,t3:=Tryz.underlying3,a3:=Tryz.isAgg3,z3:=Tryz.sizeOf3,v3:=Tryz.zeroValue3,
  t4:=Tryz.underlying4,a4:=Tryz.isAgg4,z4:=Tryz.sizeOf4,v4:=Tryz.zeroValue4,t22:=Tryz.underlying27,a22:=Tryz.isAgg27,z22:=Tryz.sizeOf27,v22:=Tryz.zeroValue27,i3:=by kernel_rfl}
theorem FV:Dk Tryz.prog 85:=⟨by kernel_rfl,λblk cap i j zs w hH hc hm hij hj=>Any.slices_Delete_int Lu blk 0 cap i j zs w hH hc hm hij hj⟩
end Go.Ab
namespace Go.Ab
open Go.Proofs
variable {Q:St->Prop}{args:List AV}{c i k:Nat}{d:Option Nat}{f:Operand}{g:FuncId}{jn:List Int}{js:List J}{ms:List Ms}{op:List Bool}{s:Spc}{st:St}{t:Tr}{w:Int}{xs:List Operand}
theorem Du(xs:List (Int×Int))(j:Int):(cF xs j).length<=xs.length:=by
 unfold cF;split
 .split<;>simp
 .simp
theorem Dv(xs:List (Int×Int))(j:Int):(cG xs j).length<=xs.length:=by
 unfold cG;split
 .split<;>simp
 .simp
theorem FK{leaf r:Nat}:((fZ s.near).set leaf cL++[cL,cL]++List.replicate r cL).map (aY (leaf+300) 250)=(fZ s.near).set leaf cL++[cL,cL]++List.replicate r cL:=by
 rw[List.map_append,List.map_append,List.map_replicate]
 congr 1
 congr 1
 apply List.ext_getElem?;intro v;rw[List.getElem?_map,List.getElem?_set];split
 .rename_i e;subst e
  split<;>rfl
 .rename_i e
  simp only[fZ,List.getElem?_map]
  cases h:(List.range s.near.length)[v]? with
  |none=>rfl
  |some w=>
   have hw:w=v:=by
    have:=(List.getElem?_eq_some_iff.1 h).2;simp at this;exact this.symm
   subst hw;simp[aY,aN,rk,show¬w=leaf from λe2=>e e2.symm]
theorem FL{leaf r:Nat}{joint:Int}(i:Nat)(x:AV)(hl:leaf<s.near.length)(h:(fZ (ga s leaf joint).near++List.replicate r cL)[i]?=some x):
 ((fZ s.near).set leaf cL++[cL,cL]++List.replicate r cL)[i]?=some x∨(((fZ s.near).set leaf cL++[cL,cL]++List.replicate r cL)[i]?=some cL∧∃q,(decide (q=leaf+300)||decide (q=s.near.length+300)||decide (q=s.near.length+301))=true∧x=.arr q 0):=by
 have hN:(ga s leaf joint).near.length=s.near.length+2:=by simp[ga]
 by_cases h1:i<s.near.length+2
 .rw[List.getElem?_append_left (by rw[bL];omega),jX (by omega)]at h
  injection h with h
  have hv:(((ga s leaf joint).near[i]?).getD [])=if i=leaf then[]else ae s i:=pf hl
  rw[hv]at h;rw[List.getElem?_append_left (by simp[bL];omega)];by_cases h2:i<s.near.length
  .rw[List.getElem?_append_left (by simp[bL];omega),List.getElem?_set]
   by_cases e:leaf=i
   .subst e
    rw[if_pos rfl]at h;exact .inr ⟨by simp[bL,hl],leaf+300,by simp,h.symm⟩
   .rw[if_neg (λe2=>e e2.symm)]at h
    rw[if_neg e,jX h2];exact .inl (by rw[<-h];rfl)
  .have hz:ae s i=[]:=by unfold ae;rw[List.getElem?_eq_none (by omega)];rfl
   rw[if_neg (by omega),hz]at h;rw[List.getElem?_append_right (by simp[bL];omega)];simp only[List.length_set,bL]
   have:i-s.near.length=0∨i-s.near.length=1:=by omega
   refine .inr ⟨by rcases this with e|e<;>rw[e]<;>rfl,i+300,?_,h.symm⟩;rcases this with e|e
   .simp[show i=s.near.length by omega]
   .simp[show i=s.near.length+1 by omega]
 .rw[List.getElem?_append_right (by rw[bL];omega),bL,hN]at h
  refine .inl ?_;rw[List.getElem?_append_right (by simp[bL];omega)];simpa[bL]using h
theorem A0{v:Nat}:∀{l:List Nat},v∈l->∃j,l[j]?=some v∧(∀i,i<j->l[i]?≠some v)∧l.erase v=l.take j++l.drop (j+1)
 |a::l,h=>by
  by_cases e:a=v
  .subst e
   exact⟨0,rfl,λi hi=>by omega,by simp⟩
  .obtain⟨j,h1,h2,h3⟩:=A0 (l:=l) (by simpa[show¬v=a from λe2=>e e2.symm]using h)
   refine⟨j+1,by simpa using h1,λi hi=>?_,?_⟩
   .cases i with
    |zero=>simp[e]
    |succ i=>simpa using h2 i (by omega)
   .rw[List.erase_cons_tail (by simpa using e),h3];rfl
theorem Ls(xs:List Nat)(v j:Nat)(hl:xs.length<=9223372036854775807)(hj:xs[j]?=some v)(hm:∀i,i<j->xs[i]?≠some v):aa Tryz.prog 84 [.pv (pd xs),.pv (Z v)] [] [] (.pv (Z j)):=by
 obtain⟨hjl,hje⟩:=List.getElem?_eq_some_iff.1 hj;refine Dp Tryz.func84 ?_;intro C hP hN;simp only[Tryz.f84]at hN|-;refine Gz ?_;refine WP.loopN [] xs.length (λi st=>st.t 0=.pv (pd xs)∧st.t 1=.pv (Z v)∧st.t 7=.pv (Z xs.length)∧st.t 8=.pv (Z i)∧i<=j) (by simp) ?_;rintro i st hi ⟨g0,g1,g7,g8,hij⟩
 have hlt:i<xs.length:=by omega
 have hw:=au hlt hl;have hxi:xs[i]?=some xs[i]:=List.getElem?_eq_getElem hlt;by_cases e:i=j
 .subst e
  exact Gy
 .have hne:=hm i (by omega)
  generalize hx:xs[i]=y at *;have e1:¬v=y:=λe2=>hne (by rw[hxi,e2])
  have e2:¬(v:Int)=(y:Int):=by omega
  refine Gz ?_
  all_goals omega
theorem N2(s:Spc)(c n leaf:Nat)(joint:Int)(hcc:s.cc=false)(h1:s.near.length=n)(h2:s.bx.length=n)(h3:s.cells.length=n)(h4:s.jn.length=n)(hn:n<=2046)(hlf:leaf<n)(hbl:∀x∈s.bx,x.length<=16777216)(hnl:∀v,(ae s v).length<=2046)(hnd:(ae s leaf).Nodup)(hmm:∀k∈ae s leaf,k<n∧k≠leaf∧leaf∈ae s k):
 kC Tryz.prog 37 [.ptr 290 0,.pv (Z leaf),.pv (Z joint)] (aM false s c) (λr h'=>r=.pv (.sl [Z n,Z ((n:Int)+1)])∧∃c',h'=aM false (fu s leaf joint) c'):=by
 have hbx:s.bx[leaf]?=some (fE s leaf):=by simp[fE,List.getElem?_eq_getElem (by omega:leaf<s.bx.length)]
 have hlb:leaf<s.bx.length:=by omega
 have hlc:leaf<s.cells.length:=by omega
 have hbx':=fy hbx hlb;have cH:=Ir (fE s leaf) joint (hbl _ (List.mem_of_getElem? hbx));have hcl:s.cells[leaf]?=some s.cells[leaf]:=List.getElem?_eq_getElem hlc;generalize hce:s.cells[leaf]=cl at *;have h290:=lx false s c;have h291:=oI false s c hcc;rw[p8 hcc]at h290;have h292:=oJ false s c;have h293:=mL false s c;have h294:=rf false s c;have h9:aM false s c 9=none:=rfl;have hw1:IntKind.i64.wrap ((n:Int)+1)=(n:Int)+1:=ab;rw[h1]at h290;rw[h2]at h290;rw[h3]at h290;rw[h4]at h290;have hra:=kp (own:=false) (s:=s) (c:=c) (v:=leaf) (by omega);obtain⟨cs,hcs⟩:∃cs,cs=fZ s.near++List.replicate c cL:=⟨_,rfl⟩;rw[<-hcs]at h293
 have hcl9:cs.length=n+c:=by rw[hcs];simp[bL,h1]
 have ca:cs[leaf]?=some (.arr (leaf+300) (ae s leaf).length):=by rw[hcs,List.getElem?_append_left (by rw[bL];omega),jX (by omega)];rfl
 have ca':∀h,cs[leaf]'h=.arr (leaf+300) (ae s leaf).length:=λh=>fy ca h;have sa:∀x,cs.take leaf++x::cs.drop (leaf+1)=cs.set leaf x:=λx=>nY (by omega)
 have hl1:leaf+1<=n+c:=by omega
 have hlc1:leaf<n+c:=by omega
 refine B8 Tryz.func37 (lg (by omega)) ?_;intro C hP hN;simp only[Tryz.f37]at hN|-;generalize hH:aM false s c=H at *
 with_reducible repeat' (first|refine Sp.h ?_|((with_unfolding_all refine WP.appBAt (hn:=[2000101]) (d:=102) 6 rfl rfl rfl rfl ?_);simp -implicitDefEqProofs (maxSteps:=2000000) [hP,hN,pO,h1,h2,h3,h4,h290,h291,h292,h293,h294,h9,hw1,hlb,hlc,hbx,hbx',hcl,hce,hra,ca,ca',sa,hl1,hlc1,hcl9,hlf,show¬leaf+300=290 by omega,show¬leaf+300=291 by omega,show¬leaf+300=292 by omega,show¬leaf+300=293 by omega,show¬leaf+300=294 by omega,show(n+2)*8<=140737488355328 by omega,show(n+2)*24<=140737488355328 by omega,show(n+2)*112<=140737488355328 by omega,show n+2<=9223372036854775807 by omega])|((first|refine Wd ?_|refine Ss.h ?_|refine Sc.h (cH) ?_|(refine Sb.h ?_ ?_ ?_<;>(try intro hgd)<;>try exact Xy))<;>simp -implicitDefEqProofs (maxSteps:=2000000) [hP,hN,pO,h1,h2,h3,h4,h290,h291,h292,h293,h294,h9,hw1,hlb,hlc,hbx,hbx',hcl,hce,hra,ca,ca',sa,hl1,hlc1,hcl9,hlf,show¬leaf+300=290 by omega,show¬leaf+300=291 by omega,show¬leaf+300=292 by omega,show¬leaf+300=293 by omega,show¬leaf+300=294 by omega,show(n+2)*8<=140737488355328 by omega,show(n+2)*24<=140737488355328 by omega,show(n+2)*112<=140737488355328 by omega,show n+2<=9223372036854775807 by omega]<;>try refine Yc ?_)|refine X2 ?_ ?_|(refine Xd ?_ ?_<;>intro hcd<;>try exact Xx))
 refine⟨293,n,c,(fZ s.near).set leaf cL,.slice none 0 0,27,24,_,[.val (.slice none 0 0),.val (.slice none 0 0)],by simp[St.ev],?_,by simp[bL,h1],?_,by simp[St.ev],by simp,by simp[PV.cells,Value.cells],by simp,by rw[hP];exact M9,rfl,rfl,by simp;omega,by simp;omega,by omega,by omega,by omega,?_⟩
 .have:cs.set leaf cL=(fZ s.near).set leaf cL++List.replicate c cL:=by rw[hcs,List.set_append_left _ _ (by rw[bL];omega)]
  simp[ah,this]
 .intro y hy
  rcases List.mem_or_eq_of_mem_set hy with hy|rfl
  .simp only[fZ,List.mem_map,List.mem_range]at hy
   obtain⟨v,hv,rfl⟩:=hy;simp[aQ,ax]
  .rfl
 intro r';simp -implicitDefEqProofs (maxSteps:=2000000) [hP,hN,pO,rekey,aq,bm,aQ,ax,h1,h2,h3,h4,h290,h291,h292,h293,h294,h9]
 with_reducible repeat' (first|refine Sp.h ?_|((first|refine Wd ?_|refine Ss.h ?_|(refine Sb.h ?_ ?_ ?_<;>(try intro hgd)<;>try exact Xy))<;>simp -implicitDefEqProofs (maxSteps:=2000000) [hP,hN,pO,rekey,aq,bm,aQ,ax,h1,h2,h3,h4,h290,h291,h292,h293,h294,h9,hra]<;>try refine Yc ?_)|refine X2 ?_ ?_|(refine Xd ?_ ?_<;>intro hcd<;>try exact Xx))
 refine WP.of_st (P:=λst=>st.t 0=.ptr 290 0∧st.t 1=.pv (Z leaf)∧st.t 7=.pv (Z n)∧st.t 8=.pv (Z ((n:Int)+1))∧st.t 105=.arr (leaf+300) (ae s leaf).length∧st.t 106=.pv (Z (ae s leaf).length)∧st.t 107=.pv (Z 0)∧
  st.h 250=none∧st.h 290=some (.box [.pv (iv s.root),.arr 291 (n+2),.arr 292 (n+2),.ext (.barr 293 (n+2) (n+2+r')),.arr 294 (n+2)] false false)∧st.h 291=some (.row 91 8 (((ga s leaf joint).cells).map aW) 0)∧st.h 292=some (.row 22 1 ((ga s leaf joint).bx.map iv) 0)∧st.h 294=some (.row 3 1 ((ga s leaf joint).jn.map Z) 0)∧
  st.h 293=some (.box ((fZ s.near).set leaf cL++[cL,cL]++List.replicate r' cL) true false)∧∀k,295<=k->st.h k=H k) ⟨?_,?_⟩
 .simp[ga,h3,aW,aP,hcs,rekey,aq,bm,aQ,ax,ah]
  refine⟨by rw[<-hH];rfl,rfl,λk hk=>?_⟩
  have hk0:H k=none∨∃xs,H k=some (.row 3 1 xs 0):=by rw[<-hH];exact EJ (by omega)
  rcases hk0 with hk0|⟨xs,hk0⟩
  all_goals simp[hk0,show¬k=290 by omega,show¬k=291 by omega,show¬k=292 by omega,show¬k=293 by omega,show¬k=294 by omega,show¬k=9 by omega]
  trace_state
 generalize hS0:ga s leaf joint=s0 at *;rintro st ⟨g0,g1,g7,g8,g105,g106,g107,b250,b290,b291,b292,b294,b293,bhi⟩;have hbL:H (leaf+300)=some (.row 3 1 ((ae s leaf).map λn:Nat=>Z (n:Int)) 0):=hra;refine WP.ren (leaf+300) 250 (by omega) b250 (by omega) (by rw[bhi _ (by omega),hbL];intro cs f e;cases e) ?_;refine WP.nilRows (λq=>decide (q=leaf+300)||decide (q=n+300)||decide (q=n+301)) 3 293 (cs:=(fZ s.near).set leaf cL++[cL,cL]++List.replicate r' cL) (cs':=fZ s0.near++List.replicate r' cL) (own:=true) (fb:=false) ?_ ?_ ?_ ?_ ?_
 .show aL (leaf+300) 250 st.h 293=_
  unfold aL;rw[if_neg (by omega),if_neg (by omega),b293];simp only[Option.map_some,bN,FK]
 .intro q hq
  simp only[Bool.or_eq_true,decide_eq_true_eq]at hq;refine⟨?_,by omega⟩;show aL (leaf+300) 250 st.h q=none;unfold aL;rw[if_neg (by omega)];by_cases e:q=leaf+300
  .rw[if_pos e]
  .rw[if_neg e,bhi q (by omega),<-hH]
   unfold aM;rw[if_neg (by omega),if_neg (by omega),if_neg (by omega),if_neg (by omega),if_neg (by omega),if_neg (by omega)];rfl
 .simp[bL,<-hS0,ga,h1];omega
 .intro i x hx
  rw[<-hS0]at hx;have:=FL i x (by omega) hx;rw[h1]at this;exact this
 obtain⟨old,hold⟩:∃old,old=ae s leaf:=⟨_,rfl⟩
 have hold9:old.length<=2046:=by rw[hold];exact hnl leaf
 rw[<-hold]at g105 g106 hbL hnd hmm
 refine WP.of_st (P:=λst=>st.t 0=.ptr 290 0∧st.t 1=.pv (Z leaf)∧st.t 7=.pv (Z n)∧st.t 8=.pv (Z ((n:Int)+1))∧st.t 105=.arr 250 old.length∧st.t 106=.pv (Z old.length)∧st.t 107=.pv (Z 0)∧st.h 250=some (.row 3 1 (old.map λn:Nat=>Z (n:Int)) 0)∧∀k,inK k=true->st.h k=aM false s0 r' k)
  ⟨⟨by simp[g0,aY,aN,rk],by simp[g1,aY,aN],by simp[g7,aY,aN],by simp[g8,aY,aN],by simp[g105,aY,aN,rk],by simp[g106,aY,aN],by simp[g107,aY,aN],?_,?_⟩,?_⟩
 .have:=bhi (leaf+300) (by omega)
  rw[hbL]at this;simp[aL,this,bN]
 .intro k hk
  have hs0l:s0.near.length=n+2:=by rw[<-hS0];simp[ga,h1]
  have hs0b:s0.bx.length=n+2:=by rw[<-hS0];simp[ga,h2]
  have hs0c:s0.cells.length=n+2:=by rw[<-hS0];simp[ga,h3]
  have hs0j:s0.jn.length=n+2:=by rw[<-hS0];simp[ga,h4]
  have hs0r:s0.root=s.root:=by rw[<-hS0];rfl
  have hs0k:s0.cc=false:=by rw[<-hS0];rfl
  have hs0n:∀v,ae s0 v=if v=leaf then[]else ae s v:=λv=>by rw[<-hS0];exact pf (by omega)
  have hz:∀v,n<=v->ae s v=[]:=λv hv=>by unfold ae;rw[List.getElem?_eq_none (by omega)];rfl
  simp only;simp only[inK,Bool.and_eq_true,decide_eq_true_eq]at hk;by_cases e0:k=290
  .subst e0
   rw[if_neg (by simp),if_neg (by omega),lx,p8 hs0k,hs0l,hs0b,hs0c,hs0j,hs0r];simp[aL,b290,bN,aY,aN,gR,rk,show¬290=leaf+300 by omega,show¬291=leaf+300 by omega,show¬292=leaf+300 by omega,show¬293=leaf+300 by omega,show¬294=leaf+300 by omega]
  by_cases e1:k=291
  .subst e1
   rw[if_neg (by simp),if_neg (by omega),oI _ _ _ hs0k];simp[aL,b291,bN,show¬291=leaf+300 by omega]
  by_cases e2:k=292
  .subst e2
   rw[if_neg (by simp),if_neg (by omega),oJ];simp[aL,b292,bN,show¬292=leaf+300 by omega]
  by_cases e3:k=293
  .subst e3
   rw[if_neg (by simp),if_pos rfl,mL]
  by_cases e4:k=294
  .subst e4
   rw[if_neg (by simp),if_neg (by omega),rf];simp[aL,b294,bN,show¬294=leaf+300 by omega]
  by_cases hK:(decide (k=leaf+300)||decide (k=n+300)||decide (k=n+301))=true
  .rw[if_pos hK]
   simp only[Bool.or_eq_true,decide_eq_true_eq]at hK;obtain⟨v,rfl⟩:∃v,k=v+300:=⟨k-300,by omega⟩;rw[kp (by omega),hs0n];split
   .rfl
   .rw[hz v (by omega)];rfl
  .rw[if_neg hK,if_neg e3]
   simp only[Bool.or_eq_true,decide_eq_true_eq,not_or]at hK
   have h5:aL (leaf+300) 250 st.h k=H k:=by
    unfold aL;rw[if_neg (by omega),if_neg hK.1.1,bhi k (by omega)]
    have hk0:H k=none∨∃xs,H k=some (.row 3 1 xs 0):=by rw[<-hH];exact EJ (by omega)
    rcases hk0 with hk0|⟨xs,hk0⟩<;>rw[hk0]<;>rfl
   rw[h5,<-hH];unfold aM;rw[if_neg e0,if_neg e1,if_neg e2,if_neg e3,if_neg e4,if_neg e0,if_neg e1,if_neg e2,if_neg e3,if_neg e4,hs0l,h1];by_cases h6:300<=k∧k<300+n
   .rw[if_pos h6,if_pos (by omega),hs0n,if_neg (by omega)]
   .rw[if_neg h6,if_neg (by omega)]
 clear g0 g1 g7 g8 g105 g106 g107 b250 b290 b291 b292 b293 b294 bhi st;rintro st ⟨g0,g1,g7,g8,g105,g106,g107,b250,bH⟩;clear h290 h291 h292 h293 h294 h9 hra hbL sa ca ca' hcl9 hcs hw1 hl1 hlc1 hbx' hlb hlc hcl hce cH
 have hb0:∀x∈s0.bx,x.length<=9223372036854775807:=by
  rw[<-hS0];intro x hx;simp only[ga,List.mem_append,List.mem_cons,List.not_mem_nil,or_false]at hx;have hh:(fE s leaf).length<=16777216:=hbl _ (List.mem_of_getElem? hbx);rcases hx with hx|rfl|rfl
  .have:=hbl x hx;omega
  .have:=Du (fE s leaf) joint;omega
  .have:=Dv (fE s leaf) joint;omega
 clear hbx;refine WP.loopN [] old.length (λi st=>st.t 0=.ptr 290 0∧st.t 1=.pv (Z leaf)∧st.t 7=.pv (Z n)∧st.t 8=.pv (Z ((n:Int)+1))∧st.t 105=.arr 250 old.length∧st.t 106=.pv (Z old.length)∧st.t 107=.pv (Z i)∧st.h 250=some (.row 3 1 (old.map λn:Nat=>Z (n:Int)) 0)∧∃S,S=(old.take i).foldl (eD n leaf) s0∧LpI s0 n leaf old i S∧∀k,inK k=true->st.h k=aM false S r' k) ?_ ?_
 .refine⟨by simp[St.kill,aq,aQ,ax,g0],by simp[St.kill,aq,aQ,ax,g1],by simp[St.kill,aq,aQ,ax,g7],by simp[St.kill,aq,aQ,ax,g8],by simp[St.kill,aq,aQ,ax,g105],by simp[St.kill,aq,aQ,ax,g106],by simp[St.kill,aq,aQ,ax,g107],by simp[St.kill,bm,b250],s0,rfl,by rw[<-hS0];exact LpI.zero h1,λk hk=>?_⟩
  show(st.h k).map (bm [])=_;rw[bH k hk,fJ]
 clear g0 g1 g7 g8 g105 g106 g107 b250 bH st;rintro i st hi ⟨g0,g1,g7,g8,g105,g106,g107,b250,S,hS,hI,bH⟩;by_cases hlt:i<old.length
 .have hwr:=au hlt (by omega)
  obtain⟨k,hk⟩:∃k,old[i]?=some k:=⟨_,List.getElem?_eq_getElem hlt⟩;have hk':∀h,old[i]'h=k:=λh=>fy hk h;obtain⟨hkn,hkl,hlk⟩:=hmm k (List.mem_of_getElem? hk)
  have hni:k∉old.take i:=λhm=>by
   have ht:old.take (i+1)=old.take i++[k]:=by rw[List.take_add_one,hk];rfl
   have:=(List.take_sublist (i+1) old).nodup hnd;rw[ht,List.nodup_append]at this;exact this.2.2 k hm k (by simp) rfl
  have hSl:=hI.nl
  have hSk:ae S k=ae s k:=by rw[hI.low k hkn hni,<-hS0,pf (by omega),if_neg hkl]
  have hlen:∀v,(ae S v).length<=4094:=λv=>by
   have h5:=hI.len v;rw[<-hS0,pf (by omega)]at h5;have h6:=hnl v;split at h5
   .split at h5<;>simp at h5<;>omega
   .split at h5<;>omega
  rw[<-hSk]at hlk;obtain⟨j,hj1,hj2,hj3⟩:=A0 hlk;have hjl:j<(ae S k).length:=(List.getElem?_eq_some_iff.1 hj1).1;have ci:=Ls (ae S k) leaf j (by have:=hlen k;omega) hj1 hj2;have hst:=hI.step hnd hk hkn;obtain⟨cs,hcs⟩:∃cs,cs=fZ S.near++List.replicate r' cL:=⟨_,rfl⟩
  have hcl9:cs.length=n+2+r':=by rw[hcs];simp[bL,hSl]
  have ca:cs[k]?=some (.arr (k+300) (ae S k).length):=by rw[hcs,List.getElem?_append_left (by rw[bL];omega),jX (by omega)];rfl
  have ca':∀h,cs[k]'h=.arr (k+300) (ae S k).length:=λh=>fy ca h;have sa:∀x,cs.take k++x::cs.drop (k+1)=cs.set k x:=λx=>nY (by omega)
  have hk1:k+1<=n+2+r':=by omega
  have hk2:k<n+2+r':=by omega
  have hk3:k<n+2:=by omega
  have c290:=(bH 290 rfl).trans (lx false S r');have c293:=(bH 293 rfl).trans (mL false S r');rw[p8 (hI.cc.trans (by rw[<-hS0];rfl))]at c290;have crow:=(bH (k+300) (by simp[inK];omega)).trans (kp (own:=false) (s:=S) (c:=r') (v:=k) (by omega));rw[<-hcs]at c293;rw[hSl]at c290;have hwj:IntKind.i64.wrap ((j:Int)+1)=((j+1:Nat):Int):=(ab (by have:=hlen k;omega) (by have:=hlen k;omega)).trans (by omega)
  with_reducible repeat' (first|refine Sp.h ?_|((with_unfolding_all refine WP.drawX (hn:=[]) 15 rfl (by rw[hP];kernel_rfl) (by kernel_rfl) ?_);simp -implicitDefEqProofs (maxSteps:=2000000) [hP,hN,g0,g1,g7,g8,g105,g106,g107,b250,hlt,hwr,hk,hk',c290,c293,crow,ca,ca',sa,hcl9,hk1,hk2,hk3,hwj])|((first|refine Wd ?_|refine Ss.h ?_|refine Sc.h (ci) ?_|(refine Sb.h ?_ ?_ ?_<;>(try intro hgd)<;>try exact Xy))<;>simp -implicitDefEqProofs (maxSteps:=2000000) [hP,hN,g0,g1,g7,g8,g105,g106,g107,b250,hlt,hwr,hk,hk',c290,c293,crow,ca,ca',sa,hcl9,hk1,hk2,hk3,hwj]<;>try refine Yc ?_)|refine X2 ?_ ?_|(refine Xd ?_ ?_<;>intro hcd<;>try exact Xx))
  refine⟨_,Hj (f:=.func 85) (x:=.tmp 131) (y:=.tmp 132) (z:=.tmp 134) (g:=85) (k:=k+300) (e:=3) (i:=j) (j:=j+1) (zs:=(ae S k).map λn:Nat=>(n:Int)) rfl rfl (by simp[bX]) rfl FV (by simp[St.ev]) (by simp[St.ev]) (by simp[St.ev]) (by simp[crow]) (by omega) (by simp;omega),?_⟩;simp -implicitDefEqProofs (maxSteps:=2000000) [hP,hN,c290,c293,crow,ca,ca',sa,hcl9,hk1,hk2,hk3];refine Yc ?_
  have hcsk:∀i x,cs[i]?=some x->x=cL∨∃m,x=.arr (i+300) m:=λv x hx=>by
   rw[hcs]at hx;by_cases hv:v<S.near.length
   .rw[List.getElem?_append_left (by rw[bL];omega),jX hv]at hx
    injection hx with hx;exact .inr ⟨_,hx.symm⟩
   .rw[List.getElem?_append_right (by rw[bL];omega),List.getElem?_replicate]at hx
    split at hx
    .injection hx with hx;exact .inl hx.symm
    .cases hx
  refine WP.cutRow 293 k (k+300) (m:=(ae S k).length-1) (t:=(ae S k).length) (e:=3) (sz:=1) (own:=true) (fb:=false) (cs:=cs.set k (.ext (.suf (k+300) 0 ((ae S k).length-1) (ae S k).length))) (xs:=m7 (((ae S k).map λn:Nat=>(n:Int)).take j++((ae S k).map λn:Nat=>(n:Int)).drop (j+1)++[0])) ?_ ?_ ?_ ?_ ?_ (by omega) ?_
  .simp[ah]
  .simp[hk2,hcl9]
  .intro v x hx hv
   rw[List.getElem?_set,if_neg (λe=>hv e.symm)]at hx;rcases hcsk v x hx with rfl|⟨m,rfl⟩
   .rfl
   .simp[aQ,ax,hv]
  .simp[ah]
  .simp;omega
  have hSd:∀v,ae (gW S k leaf) v=if v=k then(ae S k).take j++(ae S k).drop (j+1)else ae S v:=by
   intro v;rw[vK (by omega),hj3]
  have hdl:(gW S k leaf).near.length=n+2:=by simp[gW,hSl]
  refine WP.of_st (P:=λst=>st.t 0=.ptr 290 0∧st.t 1=.pv (Z leaf)∧st.t 7=.pv (Z n)∧st.t 8=.pv (Z ((n:Int)+1))∧st.t 15=.pv (Z k)∧st.t 105=.arr 250 old.length∧st.t 106=.pv (Z old.length)∧st.t 107=.pv (Z i)∧st.h 250=some (.row 3 1 (old.map λn:Nat=>Z (n:Int)) 0)∧∀k2,inK k2=true->st.h k2=aM false (gW S k leaf) r' k2)
   ⟨⟨by simp[g0,aq,aQ,ax,ah],by simp[g1,aq,aQ,ax,ah],by simp[g7,aq,aQ,ax,ah],by simp[g8,aq,aQ,ax,ah],by simp[aq,aQ,ax,ah],by simp[g105,aq,aQ,ax,ah],by simp[g106,aq,aQ,ax,ah],by simp[g107,aq,aQ,ax,ah],?_,?_⟩,?_⟩
  .simp[b250,ah,bm,show¬250=k+300 by omega]
  .intro k2 hk9
   simp only;by_cases e1:k2=k+300
   .subst e1
    rw[if_pos rfl,kp (by omega),hSd,if_pos rfl]
    congr 2
    simp only[List.map_append,List.map_take,List.map_drop,List.map_map,List.map_cons,List.map_nil];rw[List.take_append_of_le_length (by simp;omega),List.take_of_length_le (by simp;omega)];rfl
   .rw[if_neg e1]
    by_cases e2:k2=293
    .subst e2
     rw[if_pos rfl,mL];simp only[List.set_set]
     congr 2
     rw[hcs,List.set_append_left _ _ (by rw[bL];omega)]
     congr 1
     .apply List.ext_getElem?
      intro v;rw[List.getElem?_set,bL];by_cases hv:v<n+2
      .have hr:(fZ (gW S k leaf).near)[v]?=some (.arr (v+300) (ae (gW S k leaf) v).length):=jX (by omega)
       rw[hr,hSd];by_cases e:k=v
       .subst e
        rw[if_pos rfl,if_pos (by omega),if_pos rfl];simp;omega
       .rw[if_neg e,if_neg (λe9=>e e9.symm),jX (by omega)];rfl
      .rw[List.getElem?_eq_none (l:=fZ (gW S k leaf).near) (by rw[bL];omega)]
       split
       .rw[if_neg (by omega)]
       .rw[List.getElem?_eq_none (by rw[bL];omega)]
    .rw[if_neg e2]
     rw[bj e2,bj e1,bH k2 hk9];have h6:aM false (gW S k leaf) r' k2=aM false S r' k2:=zj (by simp) e2 (λv hv hlt=>by rw[List.getElem?_set,if_neg (by omega)]);rw[h6];exact EL e2 (by omega)
  clear c290 c293 crow g0 g1 g7 g8 g105 g106 g107 b250 bH st;rintro st ⟨g0,g1,g7,g8,g15,g105,g106,g107,b250,bH⟩;obtain⟨S1,hS1⟩:∃S1,S1=gW S k leaf:=⟨_,rfl⟩
  have d1:S1.near.length=n+2:=by rw[hS1];exact hdl
  have d2:S1.bx.length=n+2:=by rw[hS1];show S.bx.length=_;rw[hI.bx,<-hS0];simp[ga,h2]
  have d3:∀x∈S1.bx,x.length<=9223372036854775807:=by rw[hS1];show∀x∈S.bx,_;rw[hI.bx];exact hb0
  have d4:∀v,(ae S1 v).length<=4094:=λv=>by
   rw[hS1,hSd];have h5:=hlen k;have h6:=hlen v;split
   .simp;omega
   .exact h6
  have d5:∀v,(ae (dP S1 n k) v).length<=4096:=λv=>by
   rw[ly (by omega) (by omega) (by omega)];have h6:=d4 v;split
   .simp;omega
   .omega
  obtain⟨m1,m2,m3,m4,m5⟩:=gG S1 n k
  have hstep:dP (dP S1 n k) (n+1) k=eD n leaf S k:=by rw[hS1];rfl
  rw[<-hS1]at bH
  with_reducible repeat' (first|refine Sp.h ?_|((with_unfolding_all refine WP.takeAt (hn:=[]) 3 rfl rfl rfl ?_);simp -implicitDefEqProofs (maxSteps:=2000000) [hP,hN,g0,g1,g7,g8,g15,g105,g106,g107,b250])|((first|refine Wd ?_|refine Ss.h ?_|(refine Sb.h ?_ ?_ ?_<;>(try intro hgd)<;>try exact Xy))<;>simp -implicitDefEqProofs (maxSteps:=2000000) [hP,hN,g0,g1,g7,g8,g15,g105,g106,g107,b250]<;>try refine Yc ?_)|refine X2 ?_ ?_|(refine Xd ?_ ?_<;>intro hcd<;>try exact Xx))
  refine se (s:=S1) (c:=r') (a:=n) (b:=k) hP rfl (by simp[St.ev]) bH (by omega) (by omega) (by omega) (by omega) (by omega) d3 (λv=>Nat.le_trans (d4 v) (by omega)) (by simp[bX,hN]) ?_;intro r9 h9 hh9 ho9;have c250:=ho9 250 rfl;simp only[b250,Option.map_some,fR]at c250;simp -implicitDefEqProofs (maxSteps:=2000000) [hP,hN,dO,iV,fa,iC,inK,g0,g1,g7,g8,g15,g105,g106,g107]
  with_reducible repeat' (first|refine Sp.h ?_|((with_unfolding_all refine WP.takeAt (hn:=[]) 3 rfl rfl rfl ?_);simp -implicitDefEqProofs (maxSteps:=2000000) [hP,hN,dO,iV,fa,iC,inK,g0,g1,g7,g8,g15,g105,g106,g107,c250])|((first|refine Wd ?_|refine Ss.h ?_|(refine Sb.h ?_ ?_ ?_<;>(try intro hgd)<;>try exact Xy))<;>simp -implicitDefEqProofs (maxSteps:=2000000) [hP,hN,dO,iV,fa,iC,inK,g0,g1,g7,g8,g15,g105,g106,g107,c250]<;>try refine Yc ?_)|refine X2 ?_ ?_|(refine Xd ?_ ?_<;>intro hcd<;>try exact Xx))
  refine se (s:=dP S1 n k) (c:=r') (a:=n+1) (b:=k) hP rfl (by simp[St.ev,dO,iV,fa,iC,inK,g0,g1,g7,g8,g15]) hh9 (by omega) (by omega) (by omega) (by omega) (by rw[m2,m1,d2,d1]) (by rw[m2];exact d3) d5 (by simp[bX,hN]) ?_;intro r8 h8 hh8 ho8;have c250':=ho8 250 rfl;simp only[c250,Option.map_some,fR]at c250';rw[hstep,hS]at hh8;rw[hS]at hst
  have hfo:(old.take (i+1)).foldl (eD n leaf) s0=eD n leaf ((old.take i).foldl (eD n leaf) s0) k:=by
   rw[List.take_add_one,hk,Option.toList_some,List.foldl_append];rfl
  rw[<-hfo]at hh8 hst;simp -implicitDefEqProofs (maxSteps:=2000000) [hP,hN,dO,iV,fa,iC,inK,g0,g1,g7,g8,g15,g105,g106,g107]
  with_reducible repeat' (first|refine Sp.h ?_|((first|refine Wd ?_|refine Ss.h ?_|(refine Sb.h ?_ ?_ ?_<;>(try intro hgd)<;>try exact Xy))<;>simp -implicitDefEqProofs (maxSteps:=2000000) [hP,hN,dO,iV,fa,iC,inK,g0,g1,g7,g8,g15,g105,g106,g107,c250',hwr]<;>try refine Yc ?_)|refine X2 ?_ ?_|(refine Xd ?_ ?_<;>intro hcd<;>try exact Xx))
  exact⟨hst,λk2 a b=>by rw[hh8 k2 (by simp[inK,a,b]),fJ]⟩
 .have hin:i=old.length:=by omega
  subst hin;rw[List.take_of_length_le (Nat.le_refl _)]at hS;have d1:=hI.nl
  have d2:S.bx.length=n+2:=by rw[hI.bx,<-hS0];simp[ga,h2]
  have d3:∀x∈S.bx,x.length<=9223372036854775807:=by rw[hI.bx];exact hb0
  have d4:∀v,(ae S v).length<=4096:=λv=>by
   have h5:=hI.len v;rw[<-hS0,pf (by omega)]at h5;have h6:=hnl v;split at h5
   .split at h5<;>simp at h5<;>omega
   .split at h5<;>omega
  have hfin:dP S n (n+1)=fu s leaf joint:=by rw[hS,<-hS0,hold];unfold fu;rw[h3]
  have d5:(fu s leaf joint).near.length=n+2:=by rw[<-hfin,(gG S n (n+1)).1,d1]
  with_reducible repeat' (first|refine Sp.h ?_|((with_unfolding_all refine WP.takeAt (hn:=[]) 3 rfl rfl rfl ?_);simp -implicitDefEqProofs (maxSteps:=2000000) [hP,hN,g0,g1,g7,g8,g105,g106,g107])|((first|refine Wd ?_|refine Ss.h ?_|(refine Sb.h ?_ ?_ ?_<;>(try intro hgd)<;>try exact Xy))<;>simp -implicitDefEqProofs (maxSteps:=2000000) [hP,hN,g0,g1,g7,g8,g105,g106,g107]<;>try refine Yc ?_)|refine X2 ?_ ?_|(refine Xd ?_ ?_<;>intro hcd<;>try exact Xx))
  refine se (s:=S) (c:=r') (a:=n) (b:=n+1) hP rfl (by simp[St.ev,g7,g8,g0]) bH (by omega) (by omega) (by omega) (by omega) (by omega) d3 d4 (by simp[bX,hN]) ?_;intro r9 h9 hh9 ho9;rw[hfin]at hh9;simp -implicitDefEqProofs (maxSteps:=2000000) [hP,hN,dO,iV,fa,iC,inK,g0,g1,g7,g8,g105,g106,g107]
  with_reducible repeat' (first|refine Sp.h ?_|((first|refine Wd ?_|refine Ss.h ?_|(refine Sb.h ?_ ?_ ?_<;>(try intro hgd)<;>try exact Xy))<;>simp -implicitDefEqProofs (maxSteps:=2000000) [hP,hN,dO,iV,fa,iC,inK,g0,g1,g7,g8,g105,g106,g107]<;>try refine Yc ?_)|refine X2 ?_ ?_|(refine Xd ?_ ?_<;>intro hcd<;>try exact Xx))
  subst hH;exact vJ (s':=fu s leaf joint) (c':=r') rfl rfl (by omega) ⟨rfl,_,rfl⟩ hh9
def Dw(s:Spc)(n p:Nat):Bool:=decide ((ae s p).length<=2046)&&decide (ae s p).Nodup&&(ae s p).all λk=>decide (k<n)&&decide (k≠p)&&decide ((bo s k).low=-1)&&decide (p∈ae s k)
def zT(s:Spc)(i p:Nat):Bool:=(eA s.bx i p==eA s.bx p i)&&(!(decide ((bo s i).low=-1)&&decide ((bo s p).low=-1)&&decide (i≠p))||(decide (i∈ae s p)==eA s.bx i p))
def Cv(s:Spc):Bool:=decide (s.cells.length<=2040)&&decide (s.bx.length=s.cells.length)&&decide (s.near.length=s.cells.length)&&decide (s.jn.length=s.cells.length)&&(s.cc==false) &&
 s.bx.all (λb=>decide (b.length<=16))&&s.cells.all (λc=>decide (c.v.nor.length<=4096))&&(List.range s.cells.length).all (λp=>Dw s s.cells.length p)&&(List.range s.cells.length).all λi=>(List.range s.cells.length).all (zT s i)
def r7(sc:Sce)(w:Int)(hints:List Vc)(s:Spc)(h:Nat):Spc:={s with cells:=s.cells.set h {(bo s h)with v:=dN (eS sc (fE s h) hints)},jn:=s.jn.set h (qD sc.js sc.ms w (fE s h))}
def gg(s:Spc)(p q:List Int):Int×Int×Int:=rd s s.cells.length p q (eA s.bx)
def GV(sc:Sce)(w:Int)(s:Spc)(leaf:Nat)(joint:Int):Spc:=r7 sc w (bo s leaf).v.nor (r7 sc w (bo s leaf).v.nor (fu s leaf joint) s.cells.length) (s.cells.length+1)
def sd(sc:Sce)(p q:List Int)(w cells:Int):Nat->Spc->Option (Spc×Int)
 |0,_=>none
 |f+1,s=>if Cv s then(if(gg s p q).2.2=3 then(if cells-2<s.cells.length then some (s,4)else if decide ((gg s p q).1=(gg s p q).1.toNat)&&decide ((gg s p q).1.toNat<s.cells.length)then sd sc p q w cells f (GV sc w s (gg s p q).1.toNat (gg s p q).2.1)else none)else some (s,(gg s p q).2.2))else none
def vH(sc:Sce)(w:Int):Spc:={root:=aI sc.js sc.ms,cells:=[aP (dN (eS sc (aI sc.js sc.ms) []))],bx:=[aI sc.js sc.ms],near:=[[]],jn:=[qD sc.js sc.ms w (aI sc.js sc.ms)]}
section
variable {s:Spc} (h:Cv s=true)
include h
theorem p7:s.cells.length<=2040∧s.bx.length=s.cells.length∧s.near.length=s.cells.length∧s.jn.length=s.cells.length∧s.cc=false∧(∀b∈s.bx,b.length<=16)∧(∀c∈s.cells,c.v.nor.length<=4096)∧(∀p,p<s.cells.length->Dw s s.cells.length p=true)∧∀i p,i<s.cells.length->p<s.cells.length->zT s i p=true:=by
 simp only[Cv,Bool.and_eq_true,decide_eq_true_eq,beq_iff_eq,List.all_eq_true,List.mem_range]at h;obtain⟨⟨⟨⟨⟨⟨⟨⟨a1,a2⟩,a3⟩,a4⟩,a5⟩,a6⟩,a7⟩,a8⟩,a9⟩:=h;exact⟨a1,a2,a3,a4,a5,a6,a7,a8,λi p hi hp=>a9 i hi p hp⟩
theorem Cw:∀p,(ae s p).length<=2046∧(ae s p).Nodup∧∀k∈ae s p,k<s.cells.length∧k≠p∧(bo s k).low=-1∧p∈ae s k:=by
 obtain⟨a1,a2,a3,a4,a5,a6,a7,a8,a9⟩:=p7 h;intro p;by_cases hp:p<s.cells.length
 .have:=a8 p hp
  simp only[Dw,Bool.and_eq_true,decide_eq_true_eq,List.all_eq_true]at this;exact⟨this.1.1,this.1.2,λk hk=>⟨(this.2 k hk).1.1.1,(this.2 k hk).1.1.2,(this.2 k hk).1.2,(this.2 k hk).2⟩⟩
 .have:ae s p=[]:=by unfold ae;rw[List.getElem?_eq_none (by omega)];rfl
  rw[this];exact⟨by simp,List.nodup_nil,λk hk=>by cases hk⟩
theorem JX:SpcC s s.cells.length (eA s.bx):=by
 obtain⟨a1,a2,a3,a4,a5,a6,a7,a8,a9⟩:=p7 h;have hr:=Cw h;refine⟨⟨by omega,rfl,a2,a3,a4,λb hb=>by have:=a6 b hb;omega,λp i hi=>?_,λp=>by have:=(hr p).1;omega⟩,λi j hi hj=>?_,λi p hi hil hp hpl hne=>?_⟩
 .have:=(hr p).2.2 i hi
  exact⟨this.1,this.2.2.1⟩
 .have:=a9 i j hi hj
  simp only[zT,Bool.and_eq_true,beq_iff_eq]at this;exact this.1
 .have:=a9 i p hi hp
  simp only[zT,Bool.and_eq_true,hil,hpl,decide_true,Bool.true_and,ne_eq,hne,not_false_eq_true,Bool.not_true,Bool.false_or,beq_iff_eq]at this;rw[<-this.2];simp
end
theorem Dx(s:Spc)(leaf:Nat)(joint:Int):(fu s leaf joint).near.length=s.near.length+2∧(fu s leaf joint).bx.length=s.bx.length+2∧(fu s leaf joint).cells.length=s.cells.length+2∧(fu s leaf joint).jn.length=s.jn.length+2∧(fu s leaf joint).cc=false:=by
 have fold:∀(l:List Nat)(x:Spc),(l.foldl (eD s.cells.length leaf) x).near.length=x.near.length∧(l.foldl (eD s.cells.length leaf) x).bx=x.bx∧(l.foldl (eD s.cells.length leaf) x).cells=x.cells∧(l.foldl (eD s.cells.length leaf) x).jn=x.jn∧(l.foldl (eD s.cells.length leaf) x).cc=x.cc:=by
  intro l
  induction l with
  |nil=>intro x;exact⟨rfl,rfl,rfl,rfl,rfl⟩
  |cons a l ih=>
   intro x;obtain⟨b1,b2,b3,b4,b5⟩:=ih (eD s.cells.length leaf x a);obtain⟨c1,c2,c3,c4,_⟩:=zk s.cells.length leaf x a;exact⟨b1.trans c1,b2.trans c2,b3.trans c3,b4.trans c4,b5.trans (Cz _ _ _ _)⟩
 obtain⟨b1,b2,b3,b4,b5⟩:=fold (ae s leaf) (ga s leaf joint);unfold fu;obtain⟨c1,c2,c3,c4,_⟩:=gG ((ae s leaf).foldl (eD s.cells.length leaf) (ga s leaf joint)) s.cells.length (s.cells.length+1);rw[c1,c2,c3,c4,uz,b1,b2,b3,b4,b5];simp[ga]
theorem NZ{P:Program}(h:dp P g:=by
 refine⟨by kernel_rfl,λargs w=>?_⟩;refine callsD_of_wpS hf rfl λc₀ cs hu=>?_;apply wpS_seq;apply wpS_region;have hk:=qk nt args;have h0:=hk 0 (by decide);have h1:=hk 1 (by decide);have h2:=hk 2 (by decide);have h3:=hk 3 (by decide);have h4:=hk 4 (by decide);simp[wpOpsS,go_sem,recoverD,hu,nt,Exit.thenS,h0,h1,h2,h3,h4];refine wpS_cond (t:=false) (by simp[Act.eval,h0,h1,h2,h3,h4]) ?_;simp only[Bool.false_eq_true,if_false];refine wpS_of_wp (wp_skip ?_);cases c₀
 simp_all[bodyPostS,results,rs]):dp P g:=h
set_option maxRecDepth 100000 in
@[simp] theorem Nq:dp Tryz.prog 57:=by
 have hf:=Tryz.func57;have nt:=Tryz.ntmps57;have rs:=Tryz.results57;exact NZ
def d8(js:List J)(ms:List Ms)(w:Int)(t:Tr)(i:Nat):Spc:={iF true t with jn:=(d7 js ms w t).take i++List.replicate (t.cells.length-i) (-1)}
theorem B4:d8 js ms w t 0=iF true t:=by
 unfold d8 iF cQ;simp
theorem nF(hv:ay t=true):(d7 js ms w t).length=t.cells.length:=by unfold d7;rw[List.length_map,eN hv]
theorem FH(hv:ay t=true)(hi:i<=t.cells.length):(d8 js ms w t i).jn.length=t.cells.length:=by
 have:=nF (js:=js) (ms:=ms) (w:=w) hv;simp[d8];omega
theorem D4(hv:ay t=true)(hi:i<t.cells.length):(d8 js ms w t (i+1)).jn=(d8 js ms w t i).jn.set i (qD js ms w (ff (ao t) i)):=by
 have hl:=nF (js:=js) (ms:=ms) (w:=w) hv;have hg:=(mr (js:=js) (ms:=ms) (w:=w) hv hi).1
 have hlt:((d7 js ms w t).take i).length=i:=by rw[List.length_take];omega
 simp only[d8];rw[List.set_append_right _ _ (by omega),hlt,Nat.sub_self,show t.cells.length-i=(t.cells.length-(i+1))+1 by omega,List.replicate_succ,List.set_cons_zero,List.take_add_one,hg];simp
theorem Hw{own:Bool}(hl:jn.length=s.jn.length)(h1:k≠294):aM own {s with jn:=jn} c k=aM own s c k:=by
 unfold aM;simp only[hl,if_neg h1];rfl
set_option maxRecDepth 10000 in
theorem JV(js:List J)(ms:List Ms)(t:Tr)(p q:List Int)(w:Int)(hjl:js.length<=9223372036854775807)(hml:ms.length<=9223372036854775807)(hl:t.cells.length<=9223372036854775807)(hr:t.root.length<=9223372036854775807)(hpl:p.length<=9223372036854775807)(hql:q.length<=9223372036854775807):aa Tryz.prog 25 [.pv (ja js ms),.pv (da t),.pv (zs p),.pv (zs q),.pv (Z w)] [] [] (.pv (.tup [Z (rC js ms t p q w).1,Z (rC js ms t p q w).2.1,Z (rC js ms t p q w).2.2])):=by
 have cr:=uV js ms hjl hml;have cp:=Cn t.root p hr;have cq:=Cn t.root q hr;have cv:=Jw t hl
 have hN9:rC js ms t p q w=if qq js ms t p q w&&ay t then og js ms t (gh js ms w t) p q else(-1,-1,0):=rfl
 have hP9:qq js ms t p q w=(decide (bF js ms=0)&&decide (t.root.length=js.length)&&decide (1<=w)&&jz t.root p&&jz t.root q):=rfl
 cases hv:ay t with
 |false=>
  rw[hv,Bool.and_false,if_neg (by simp)]at hN9;rw[hv]at cv;rw[hN9];refine Dp Tryz.func25 ?_;intro C hP hN;simp only[Tryz.f25]at hN|-;exact GS trivial
 |true=>
 rw[hv,Bool.and_true]at hN9;rw[hv]at cv;by_cases h0:bF js ms=0
 case neg=>
  rw[decide_eq_false h0,Bool.false_and,Bool.false_and,Bool.false_and,Bool.false_and]at hP9;rw[hP9,if_neg (by simp)]at hN9
  have h0':(bF js ms !=0)=true:=by simp[h0]
  rw[hN9];refine Dp Tryz.func25 ?_;intro C hP hN;simp only[Tryz.f25]at hN|-;exact GS (gA h0 h0')
 have h0':(bF js ms !=0)=false:=by simp[h0]
 rw[decide_eq_true h0,Bool.true_and]at hP9;by_cases h1:t.root.length=js.length
 case neg=>
  rw[decide_eq_false h1,Bool.false_and,Bool.false_and,Bool.false_and]at hP9;rw[hP9,if_neg (by simp)]at hN9
  have h1':((t.root.length:Int)!=(js.length:Int))=true:=by simp;omega
  rw[hN9];refine Dp Tryz.func25 ?_;intro C hP hN;simp only[Tryz.f25]at hN|-;exact GS (gA h0 (gA h0' h1'))
 have h1':((t.root.length:Int)!=(js.length:Int))=false:=by simp[h1]
 rw[decide_eq_true h1,Bool.true_and]at hP9;by_cases h2:1<=w
 case neg=>
  rw[decide_eq_false h2,Bool.false_and,Bool.false_and]at hP9;rw[hP9,if_neg (by simp)]at hN9
  have h2':w<1:=by omega
  rw[hN9];refine Dp Tryz.func25 ?_;intro C hP hN;simp only[Tryz.f25]at hN|-;exact GS (gA h0 (gA h0' (gA h1' h2')))
 have h2':¬w<1:=by omega
 rw[decide_eq_true h2,Bool.true_and]at hP9
 cases h3:jz t.root p with
 |false=>
  rw[h3,Bool.false_and]at hP9;rw[hP9,if_neg (by simp)]at hN9;rw[h3]at cp;rw[hN9];refine Dp Tryz.func25 ?_;intro C hP hN;simp only[Tryz.f25]at hN|-;exact GS (gA h0 (gA h0' (gA h1' h2')))
 |true=>
 rw[h3,Bool.true_and]at hP9;rw[h3]at cp
 cases h4:jz t.root q with
 |false=>
  rw[h4]at hP9 cq;rw[hP9,if_neg (by simp)]at hN9;rw[hN9];refine Dp Tryz.func25 ?_;intro C hP hN;simp only[Tryz.f25]at hN|-;exact GS (gA h0 (gA h0' (gA h1' h2')))
 |true=>
 rw[h4]at hP9 cq;rw[hP9,if_pos rfl]at hN9;rw[hN9];clear hN9 hP9;obtain⟨z1,z2,z3,z4,z5⟩:=bG.1 (dz hv);have hD:=N9 t hv;refine Dp Tryz.func25 ?_;intro C hP hN;simp only[Tryz.f25]at hN|-
 with_reducible repeat' (first|refine Sp.h ?_|((with_unfolding_all refine WP.takeAt (hn:=[]) (f:=.func 34) 1 rfl rfl rfl ?_);simp -implicitDefEqProofs (maxSteps:=2000000) [hP,hN,h0,h0',h1',h2'])|((first|refine Wd ?_|refine Ss.h ?_|refine Sc.h (cv) ?_|refine Sc.h (cr) ?_|refine Sc.h (cp) ?_|refine Sc.h (cq) ?_|(refine Sb.h ?_ ?_ ?_<;>(try intro hgd)<;>try exact Xy))<;>simp -implicitDefEqProofs (maxSteps:=2000000) [hP,hN,h0,h0',h1',h2']<;>try refine Ya ?_)|refine X2 ?_ ?_|(refine Xd ?_ ?_<;>intro hcd<;>try exact Xx))
 refine HC (g:=34) (args:=[.pv (da t)]) (s:=iF true t) rfl (by simp[St.ev]) rfl ?_ (by rw[hP];exact hD) (by simp[bX,hN]) ?_
 .intro k hk
  simp only[inK,Bool.and_eq_true,decide_eq_true_eq]at hk;simp[oX,show¬k=5 by omega,show¬k=6 by omega,show¬k=10 by omega,show¬k=11 by omega,show¬k=12 by omega]
 intro h' hh ho;have c5:=ho 5 rfl;have c10:=ho 10 rfl;have c11:=ho 11 rfl;have c12:=ho 12 rfl;simp[fR,dO,iV,fa,oX]at c5 c10 c11 c12;rw[<-B4 (js:=js) (ms:=ms) (w:=w)]at hh;simp -implicitDefEqProofs (maxSteps:=2000000) [hP,hN,dO,iV,fa,iC,inK,c5,c10,c11,c12];refine WP.of_st (P:=λst=>st.t 2=.pv (zs p)∧st.t 3=.pv (zs q)∧st.t 4=.pv (Z w)∧st.t 5=.ptr 5 0∧st.t 10=.ptr 10 0∧st.t 11=.ptr 11 0∧st.t 12=.ptr 12 0∧st.t 13=.ptr 290 0∧st.h 5=some (.box [.pv (.sl (js.map cW)),.pv (.sl (ms.map fc))] true false)∧(∃x,st.h 10=some (.box [.pv (Z x)] true false))∧(∃x,st.h 11=some (.box [.pv (Z x)] true false))∧(∃x,st.h 12=some (.box [.pv (Z x)] true false))∧∀k,inK k=true->st.h k=aM true (d8 js ms w t 0) 0 k) ⟨?_,?_⟩
 .simp[dO,iV,fa,iC,inK,c5,c10,c11,c12]
  exact λk a b=>hh k (by simp[inK,a,b])
 clear hh ho c5 c10 c11 c12 h';rintro st ⟨g2,g3,g4,g5,g10,g11,g12,g13,b5,⟨x10,b10⟩,⟨x11,b11⟩,⟨x12,b12⟩,bH⟩;have hbl:=eN hv;have c290:=(bH 290 rfl).trans (lx true _ 0);have c292:=(bH 292 rfl).trans (oJ true _ 0);have e1:∀i,(d8 js ms w t i).bx=ao t:=λ_=>rfl;rw[e1,hbl]at c290;rw[e1]at c292
 with_reducible repeat' (first|refine Sp.h ?_|((first|refine Wd ?_|refine Ss.h ?_|(refine Sb.h ?_ ?_ ?_<;>(try intro hgd)<;>try exact Xy))<;>simp -implicitDefEqProofs (maxSteps:=2000000) [hP,hN,g2,g3,g4,g5,g10,g11,g12,g13,b5,c290,c292,hbl]<;>try refine Yc ?_)|refine X2 ?_ ?_|(refine Xd ?_ ?_<;>intro hcd<;>try exact Xx))
 refine WP.loopN [] t.cells.length (λi st=>st.t 2=.pv (zs p)∧st.t 3=.pv (zs q)∧st.t 4=.pv (Z w)∧st.t 5=.ptr 5 0∧st.t 10=.ptr 10 0∧st.t 11=.ptr 11 0∧st.t 12=.ptr 12 0∧st.t 13=.ptr 290 0∧st.t 55=.arr 292 t.cells.length∧st.t 56=.pv (Z t.cells.length)∧st.t 57=.pv (Z i)∧st.h 5=some (.box [.pv (.sl (js.map cW)),.pv (.sl (ms.map fc))] true false)∧(∃x,st.h 10=some (.box [.pv (Z x)] true false))∧(∃x,st.h 11=some (.box [.pv (Z x)] true false))∧(∃x,st.h 12=some (.box [.pv (Z x)] true false))∧∀k,inK k=true->st.h k=aM true (d8 js ms w t i) 0 k) ?_ ?_
 .refine⟨by simp[St.kill,aq,aQ,ax,ah,g2],by simp[St.kill,aq,aQ,ax,ah,g3],by simp[St.kill,aq,aQ,ax,ah,g4],by simp[St.kill,aq,aQ,ax,ah,g5],by simp[St.kill,aq,aQ,ax,ah,g10],by simp[St.kill,aq,aQ,ax,ah,g11],by simp[St.kill,aq,aQ,ax,ah,g12],by simp[St.kill,aq,aQ,ax,ah,g13],by simp[St.kill,aq,aQ,ax,ah],by simp[St.kill,aq,aQ,ax,ah],by simp[St.kill,aq,aQ,ax,ah],by simp[St.kill,aq,bm,aQ,ax,b5],⟨x10,by simp[St.kill,aq,bm,aQ,ax,b10]⟩,⟨x11,by simp[St.kill,aq,bm,aQ,ax,b11]⟩,⟨x12,by simp[St.kill,aq,bm,aQ,ax,b12]⟩,λk hk=>?_⟩
  show(st.h k).map (bm [])=_;rw[bH k hk,fJ]
 clear g2 g3 g4 g5 g10 g11 g12 g13 b5 b10 b11 b12 bH c290 c292 st;rintro i st hi ⟨g2,g3,g4,g5,g10,g11,g12,g13,g55,g56,g57,b5,⟨x10,b10⟩,⟨x11,b11⟩,⟨x12,b12⟩,bH⟩;have c290:=(bH 290 rfl).trans (lx true _ 0);have c292:=(bH 292 rfl).trans (oJ true _ 0);have c294:=(bH 294 rfl).trans (rf true _ 0);have hjl9:=FH (js:=js) (ms:=ms) (w:=w) hv hi;rw[e1,hbl,hjl9]at c290;rw[e1]at c292;by_cases hlt:i<t.cells.length
 .have hw9:=au hlt (by omega)
  have hst:=D4 (js:=js) (ms:=ms) (w:=w) hv hlt
  have hib:i<(ao t).length:=by omega
  obtain⟨b,hbi⟩:∃b,(ao t)[i]?=some b:=⟨_,List.getElem?_eq_getElem hib⟩;have hbi':∀h,(ao t)[i]'h=b:=λh=>fy hbi h
  have hbn:ff (ao t) i=b:=by simp[ff,hbi]
  have hbk:=gJ hbi;have cf:=Kx js ms b w hjl hml (by omega);rw[hbn]at hst
  have hjm:i<((d8 js ms w t i).jn.map Z).length:=by rw[List.length_map];omega
  have hset:(d8 js ms w t (i+1))={d8 js ms w t i with jn:=(d8 js ms w t i).jn.set i (qD js ms w b)}:=by
   have:d8 js ms w t (i+1)={d8 js ms w t i with jn:=(d8 js ms w t (i+1)).jn}:=rfl;rw[this,hst]
  have hjs:((d8 js ms w t i).jn.map Z).set i (Z (qD js ms w b))=((d8 js ms w t i).jn.set i (qD js ms w b)).map Z:=by rw[List.map_set]
  generalize qD js ms w b=F at *;generalize d8 js ms w t i=S at *
  with_reducible repeat' (first|refine Sp.h ?_|((first|refine Wd ?_|refine Ss.h ?_|refine Sc.h (cf) ?_|(refine Sb.h ?_ ?_ ?_<;>(try intro hgd)<;>try exact Xy))<;>simp -implicitDefEqProofs (maxSteps:=2000000) [hP,hN,g2,g3,g4,g5,g10,g11,g12,g13,g55,g56,g57,b5,b10,b11,b12,c290,c292,c294,hbl,hlt,hw9,hib,hbi,hbi',hjl9]<;>try refine Yc ?_)|refine X2 ?_ ?_|(refine Xd ?_ ?_<;>intro hcd<;>try exact Xx))
  intro k hk;rw[hset];by_cases e:k=294
  .subst e
   rw[if_pos rfl,rf];show some (Blk.row _ 1 _ 0)=_;rw[List.map_set]
  .rw[if_neg e,bH k hk,fJ]
   exact(Hw (by simp) e).symm
 .have hin:i=t.cells.length:=by omega
  have hfl:=nF (js:=js) (ms:=ms) (w:=w) hv
  have hfin:d8 js ms w t i={iF true t with jn:=d7 js ms w t}:=by
   unfold d8;rw[hin,List.take_of_length_le (by omega),Nat.sub_self,List.replicate_zero,List.append_nil]
  have hnear:(d8 js ms w t i).near.length<=4096:=by simp[d8,iF,cQ];omega
  have cN:=N8 _ t.cells.length p q (eA (ao t)) (JW (cc:=true) hv hfl) hpl hql;rw[FU hv,<-hfin]at cN;have hcon:=CB hnear bH;have hlo:=A8 bH;have hcp:∀x,fS st.h 3 (.pv x)=some x:=λ_=>rfl;generalize og js ms t (gh js ms w t) p q=R at *;generalize d8 js ms w t i=S at *
  with_reducible repeat' (first|refine Sp.h ?_|((with_unfolding_all refine WP.lendAt (hn:=[]) (f:=.func 36) 3 rfl rfl rfl ?_);simp -implicitDefEqProofs (maxSteps:=2000000) [hP,hN,g2,g3,g4,g5,g10,g11,g12,g13,g55,g56,g57,b5,b10,b11,b12,hlt])|((first|refine Wd ?_|refine Ss.h ?_|(refine Sb.h ?_ ?_ ?_<;>(try intro hgd)<;>try exact Xy))<;>simp -implicitDefEqProofs (maxSteps:=2000000) [hP,hN,g2,g3,g4,g5,g10,g11,g12,g13,g55,g56,g57,b5,b10,b11,b12,hlt]<;>try refine Yc ?_)|refine X2 ?_ ?_|(refine Xd ?_ ?_<;>intro hcd<;>try exact Xx))
  refine⟨36,[hZ S,zs p,zs q],_,rfl,hlo,by simp[St.ev,k9,g2,g3,g13,hcon,hcp],by rw[hP];exact cN,rfl,by simp[bX,hN],?_⟩;simp -implicitDefEqProofs (maxSteps:=2000000) [hP,hN,g2,g3,g10,g11,g12,b10,b11,b12]
  with_reducible repeat' (first|refine Sp.h ?_|((first|refine Wd ?_|refine Ss.h ?_|(refine Sb.h ?_ ?_ ?_<;>(try intro hgd)<;>try exact Xy))<;>simp -implicitDefEqProofs (maxSteps:=2000000) [hP,hN,g10,g11,g12,b10,b11,b12]<;>try refine Yc ?_)|refine X2 ?_ ?_|(refine Xd ?_ ?_<;>intro hcd<;>try exact Xx))
set_option maxRecDepth 100000 in
@[simp] theorem Nr:dp Tryz.prog 28:=by
 have hf:=Tryz.func28;have nt:=Tryz.ntmps28;have rs:=Tryz.results28;exact wY
theorem Ds{C:Cx}{r:AV}{e sz:Nat}{ys:List PV}(hcal:bC (st.ev f)=some (g,[],[]))(hargs:xs.map st.ev=args)(hok:args.all nR=true)(hH:∀k,inK k=true->st.h k=none)
 (hD:kC C.P g args iX (λr' h'=>r'=r∧h'=eh e sz ys))(hd:bX C.N d=true)
 (h:∀h',(∀k,inK k=true->h' k=eh e sz ys k)->(∀k,inK k=false->h' k=(st.h k).map fR)->Q (St.put ⟨λn=>dO (st.t n),h'⟩ d r [])):nX C Q f xs d st:=by
 refine⟨_,λr' h'=>r'=r∧h'=eh e sz ys,hcal,zl hH,?_,by rw[hargs];exact hok,hd,λr' h' hL ho hp=>?_⟩
 .rw[hargs,A9 hH];exact hD
 .obtain⟨rfl,rfl⟩:=hp
  refine h _ (λk hk=>?_) (λk hk=>by unfold dX;rw[if_neg (by rw[hk];decide)]);unfold dX;rw[if_pos hk];split
  .rename_i e9;subst e9;rfl
  .rfl
theorem Dt{C:Cx}{e sz:Nat}{ys:List PV}(hcal:bC (st.ev f)=some (g,[],[]))(hargs:xs.map st.ev=args)(hok:args.all nR=true)(hH:∀k,inK k=true->st.h k=eh e sz ys k)
 (hD:kC C.P g args (eh e sz ys) (λr' h'=>r'=.ptr 290 0∧h'=aM true s 0))(hd:bX C.N d=true)
 (h:∀h',(∀k,inK k=true->h' k=aM true s 0 k)->(∀k,inK k=false->h' k=(st.h k).map fR)->Q (St.put ⟨λn=>dO (st.t n),h'⟩ d (.ptr 290 0) [])):nX C Q f xs d st:=by
 have h290:st.h 290=none:=by rw[hH 290 rfl];rfl
 have hL:LookH (eh e sz ys):=zf
 have hin:fh st.h=eh e sz ys:=by
  funext k
  unfold fh;by_cases hk:inK k=true
  .rw[if_pos hk]
   split
   .rename_i e9;subst e9;rw[h290];rfl
   .exact hH k hk
  .rw[if_neg hk]
   cases hr:eh e sz ys k with
   |none=>rfl
   |some b=>exact absurd (hL.keys k b hr) hk
 refine⟨_,λr' h'=>r'=.ptr 290 0∧h'=aM true s 0,hcal,⟨λk b o hk hb=>hL.nf k b o (by rw[<-hH k hk];exact hb),λk b hk hb=>hL.nm k b (by rw[<-hH k hk];exact hb),λk cs o f hk hb=>hL.cl k cs o f (by rw[<-hH k hk];exact hb),λk cs f hk hb=>?_,λb hb=>(by rw[h290]at hb;cases hb)⟩,?_,by rw[hargs];exact hok,hd,λr' h' hL ho hp=>?_⟩
 .rw[hH k hk]at hb
  obtain⟨_,h9⟩:=eB hb;cases h9
 .rw[hargs,hin];exact hD
 .obtain⟨rfl,rfl⟩:=hp
  refine h _ (λk hk=>?_) (λk hk=>by unfold dX;rw[if_neg (by rw[hk];decide)]);unfold dX;rw[if_pos hk];split
  .rename_i e9;subst e9
   have:jA st.h 290=true:=by simp only[jA,h290]
   rw[this];rfl
  .rfl
theorem EB{C:Cx}{s':Spc}{r:AV}(hcal:bC (st.ev f)=some (g,[],[]))(hargs:xs.map st.ev=args)(hok:args.all nR=true)(hH:∀k,inK k=true->st.h k=aM true s c k)(hn:s.near.length<=4096)
 (hD:kC C.P g args (aM false s c) (λr' h'=>r'=r∧∃c',h'=aM false s' c'))(hd:bX C.N d=true)
 (h:∀h' c',(∀k,inK k=true->h' k=aM true s' c' k)->(∀k,inK k=false->h' k=(st.h k).map fR)->Q (St.put ⟨λn=>dO (st.t n),h'⟩ d r [])):nX C Q f xs d st:=by
 refine⟨_,λr' h'=>r'=r∧∃c',h'=aM false s' c',hcal,A6 hn hH,?_,by rw[hargs];exact hok,hd,λr' h' hL ho hp=>?_⟩
 .rw[hargs,CA hn hH];exact hD
 .obtain⟨rfl,c',rfl⟩:=hp
  exact h _ c' (λk hk=>A7 hH hk) (λk hk=>by unfold dX;rw[if_neg (by rw[hk];decide)])
def nT(sc:Sce)(w:Int)(H:List Vc)(S0:Spc)(n:Nat):Nat->Spc
 |0=>S0
 |j+1=>r7 sc w H (nT sc w H S0 n j) (n+j)
theorem vD(sc:Sce)(w:Int)(H:List Vc)(S0:Spc)(n:Nat):∀j,(nT sc w H S0 n j).near=S0.near∧(nT sc w H S0 n j).bx=S0.bx∧(nT sc w H S0 n j).cells.length=S0.cells.length∧(nT sc w H S0 n j).jn.length=S0.jn.length∧(nT sc w H S0 n j).cc=S0.cc
 |0=>⟨rfl,rfl,rfl,rfl,rfl⟩
 |j+1=>by
  obtain⟨b1,b2,b3,b4,b5⟩:=vD sc w H S0 n j;refine⟨b1,b2,?_,?_,b5⟩
  .simp only[nT,r7,List.length_set];exact b3
  .simp only[nT,r7,List.length_set];exact b4
theorem EC{own:Bool}{cs:List Cel}(hcc:s.cc=false)(h1:cs.length=s.cells.length)(h2:jn.length=s.jn.length)(n1:k≠291)(n2:k≠294):aM own {s with cells:=cs,jn:=jn} c k=aM own s c k:=by
 unfold aM;by_cases e:k=290
 .rw[if_pos e,if_pos e,p8 (s:={s with cells:=cs,jn:=jn}) hcc,p8 hcc]
  simp only[h1,h2]
 .rw[if_neg e,if_neg e,if_neg n1,if_neg n1]
  simp only[if_neg n2];rfl
def FF(sc:Sce):Spc:=xk (aI sc.js sc.ms) (dN (eS sc (aI sc.js sc.ms) []))
theorem Hy(sc:Sce)(w:Int):vH sc w={FF sc with jn:=[qD sc.js sc.ms w (aI sc.js sc.ms)]}:=rfl
set_option maxRecDepth 10000 in
theorem N0(sc:Sce)(p q:List Int)(w cells:Int)(f:Nat)(R:Spc×Int)(hs:ScL sc)(h0:eu sc=0)(h1:kl sc.js sc.ms p=true)(h2:kl sc.js sc.ms q=true)(h3:1<=w)(h4:1<=cells)(h5:cells<=2048)(hpl:p.length<=9223372036854775807)(hql:q.length<=9223372036854775807)(hr0:dt (aI sc.js sc.ms)=true)(hi0:lq sc.js sc.ms (aI sc.js sc.ms)=true)(hv0:ay (lZ (aI sc.js sc.ms) bn)=true)(hy0:cX (lZ (aI sc.js sc.ms) bn) 0 (dN (eS sc (aI sc.js sc.ms) []))=true)(hvv:CQ 16777216 (dN (eS sc (aI sc.js sc.ms) [])))(ht0:TSm (lZ (aI sc.js sc.ms) bn))(hv1:ay (lZ (aI sc.js sc.ms) (dN (eS sc (aI sc.js sc.ms) [])))=true)(hll:(aI sc.js sc.ms).length<=16)(hR:sd sc p q w cells f (vH sc w)=some R):aa Tryz.prog 13 [.pv (jG sc),.pv (zs p),.pv (zs q),.pv (Z w),.pv (Z cells)] [] [] (.pv (.tup [.agg [iv R.1.root,.sl (R.1.cells.map aW)],Z R.2])):=by
 have cs:=EV sc hs;have cp:=Kq sc.js sc.ms p hs.js hs.ms;have cq:=Kq sc.js sc.ms q hs.js hs.ms;have cl:=NE sc.js sc.ms hs.js hs.ms;have cn:=OZ (aI sc.js sc.ms) (by omega);rw[h0]at cs;rw[h1]at cp;rw[h2]at cq;rw[hr0]at cn
 have hnt:qK (aI sc.js sc.ms)=lZ (aI sc.js sc.ms) bn:=by unfold qK;rw[if_pos hr0]
 rw[hnt]at cn
 have hbo:fP (lZ (aI sc.js sc.ms) bn) 0=aI sc.js sc.ms:=by
  have hok:iK (lZ (aI sc.js sc.ms) bn) 0=true:=by simp[iK,hv0]
  unfold fP;rw[if_pos hok];exact Gp hv0
 have hb0:iK (lZ (aI sc.js sc.ms) bn) 0=true:=by simp[iK,hv0]
 have hD1:=NY sc (lZ (aI sc.js sc.ms) bn) (aP bn) hs ht0 h0 hb0 (by rw[hbo];exact hi0) rfl (by rw[hbo];omega) (by simp[aP,bn]) (by rw[hbo];exact hvv) (by rw[hbo];exact hy0);rw[hbo]at hD1;have hD2:=JU (aI sc.js sc.ms) (dN (eS sc (aI sc.js sc.ms) [])) hv1
 have hw3:¬w<1:=by omega
 have hc4:¬cells<1:=by omega
 have hc5:¬2048<cells:=by omega
 have hwc:IntKind.i64.wrap (cells-2)=cells-2:=ab;refine Dp Tryz.func13 ?_;intro C hP hN;simp only[Tryz.f13]at hN|-
 with_reducible repeat' (first|refine Sp.h ?_|((with_unfolding_all refine WP.takeAt (hn:=[]) (f:=.func 33) 2 rfl rfl rfl ?_);simp -implicitDefEqProofs (maxSteps:=2000000) [hP,hN,hw3,hc4,hc5,aP])|((first|refine Wd ?_|refine Ss.h ?_|refine Sc.h (cs) ?_|refine Sc.h (cp) ?_|refine Sc.h (cq) ?_|refine Sc.h (cl) ?_|refine Sc.h (cn) ?_|(refine Sb.h ?_ ?_ ?_<;>(try intro hgd)<;>try exact Xy))<;>simp -implicitDefEqProofs (maxSteps:=2000000) [hP,hN,hw3,hc4,hc5,aP]<;>try refine Ya ?_)|refine X2 ?_ ?_|(refine Xd ?_ ?_<;>intro hcd<;>try exact Xx))
 have hset:(dE (lZ (aI sc.js sc.ms) bn) 0 (dN (eS sc (aI sc.js sc.ms) []))).cells.map aW=[aW (aP (dN (eS sc (aI sc.js sc.ms) [])))]:=by unfold dE;rw[if_pos hy0];simp[eI]
 have hD1':kC Tryz.prog 33 ([jG sc,da (lZ (aI sc.js sc.ms) bn),Z 0].map .pv) iX (λr h'=>r=.tup [.agg [.pv (iv (aI sc.js sc.ms)),.arr 291 1],.pv (B true)]∧h'=eh 91 8 [aW (aP (dN (eS sc (aI sc.js sc.ms) [])))]):=by
  have:=hD1;simp only[aP,bn]at this|-;rw[show eS sc (aI sc.js sc.ms) ([]:List Vc)=eS sc (aI sc.js sc.ms) [] from rfl]at this;simp only[aP,bn]at hset;rw[hset]at this;exact this
 clear hD1 hset;refine Ds (g:=33) (args:=[jG sc,da (lZ (aI sc.js sc.ms) bn),Z 0].map .pv) rfl (by simp[St.ev,aP]) rfl ?_ (by rw[hP];exact hD1') (by simp[bX,hN]) ?_
 .intro k hk
  simp only[inK,Bool.and_eq_true,decide_eq_true_eq]at hk;simp[oX,show¬k=5 by omega,show¬k=10 by omega,show¬k=11 by omega,show¬k=12 by omega]
 intro h' hh ho;have c5:=ho 5 rfl;have c10:=ho 10 rfl;have c11:=ho 11 rfl;have c12:=ho 12 rfl;have c291:h' 291=some (.row 91 8 [aW (aP (dN (eS sc (aI sc.js sc.ms) [])))] 0):=(hh 291 rfl).trans (by simp[eh]);simp[fR,dO,iV,fa,oX]at c5 c10 c11 c12;simp -implicitDefEqProofs (maxSteps:=2000000) [hP,hN,dO,iV,fa,ry,iC,inK,c5,c10,c11,c12,c291];refine WP.of_st (P:=λst=>st.t 1=.pv (zs p)∧st.t 2=.pv (zs q)∧st.t 3=.pv (Z w)∧st.t 4=.pv (Z cells)∧st.t 5=.ptr 5 0∧st.t 10=.ptr 10 0∧st.t 11=.ptr 11 0∧st.t 12=.ptr 12 0∧st.h 5=some (.box [.pv (.sl (sc.js.map cW)),.pv (.sl (sc.ms.map fc)),.pv (.sl (sc.shs.map eL)),.pv (.sl (sc.sks.map aU))] true false)∧(∃x y,st.h 10=some (.box [.pv x,.pv y] true false))∧(∃x,st.h 11=some (.box [.pv x] true false))∧st.h 12=some (.box [.pv (iv (aI sc.js sc.ms)),.arr 291 1] true false)∧∀k,inK k=true->st.h k=eh 91 8 [aW (aP (dN (eS sc (aI sc.js sc.ms) [])))] k) ⟨?_,?_⟩
 .simp[dO,iV,fa,ry,iC,inK,c5,c10,c11,c12]
  exact λk a b=>by rw[if_neg (by omega)];exact hh k (by simp[inK,a,b])
 clear hh ho c5 c10 c11 c12 c291 h';rintro st ⟨g1,g2,g3,g4,g5,g10,g11,g12,b5,⟨x10,y10,b10⟩,⟨x11,b11⟩,b12,bH⟩
 with_reducible repeat' (first|refine Sp.h ?_|((with_unfolding_all refine WP.takeAt (hn:=[]) (f:=.func 34) 1 rfl rfl rfl ?_);simp -implicitDefEqProofs (maxSteps:=2000000) [hP,hN,g1,g2,g3,g4,g5,g10,g11,g12,b5,b10,b11,b12])|((first|refine Wd ?_|refine Ss.h ?_|(refine Sb.h ?_ ?_ ?_<;>(try intro hgd)<;>try exact Xy))<;>simp -implicitDefEqProofs (maxSteps:=2000000) [hP,hN,g1,g2,g3,g4,g5,g10,g11,g12,b5,b10,b11,b12]<;>try refine Yc ?_)|refine X2 ?_ ?_|(refine Xd ?_ ?_<;>intro hcd<;>try exact Xx))
 refine Dt (g:=34) (args:=[.agg [.pv (iv (aI sc.js sc.ms)),.arr 291 1]]) rfl (by simp[St.ev]) rfl bH (by rw[hP];exact hD2) (by simp[bX,hN]) ?_;intro h' hh ho;have c5:=ho 5 rfl;have c10:=ho 10 rfl;have c11:=ho 11 rfl;simp only[b5,b10,b11,Option.map_some,fR,List.map_cons,List.map_nil]at c5 c10 c11;have c5':h' 5=some (.box [.pv (.sl (sc.js.map cW)),.pv (.sl (sc.ms.map fc)),.pv (.sl (sc.shs.map eL)),.pv (.sl (sc.sks.map aU))] true false):=c5;have c10':h' 10=some (.box [.pv x10,.pv y10] true false):=c10;have c11':h' 11=some (.box [.pv x11] true false):=c11;simp -implicitDefEqProofs (maxSteps:=2000000) [hP,hN,dO,iV,fa,ry,iC,inK,g1,g2,g3,g4,g5,g10,g11,g12,c5',c10',c11'];refine WP.of_st (P:=λst=>st.t 1=.pv (zs p)∧st.t 2=.pv (zs q)∧st.t 3=.pv (Z w)∧st.t 4=.pv (Z cells)∧st.t 5=.ptr 5 0∧st.t 10=.ptr 10 0∧st.t 11=.ptr 11 0∧st.t 14=.ptr 290 0∧st.h 5=some (.box [.pv (.sl (sc.js.map cW)),.pv (.sl (sc.ms.map fc)),.pv (.sl (sc.shs.map eL)),.pv (.sl (sc.sks.map aU))] true false)∧(∃x y,st.h 10=some (.box [.pv x,.pv y] true false))∧(∃x,st.h 11=some (.box [.pv x] true false))∧∀k,inK k=true->st.h k=aM true (FF sc) 0 k) ⟨?_,?_⟩
 .simp[dO,iV,fa,ry,iC,inK,g1,g2,g3,g4,g5,g10,g11,c5',c10',c11']
  exact λk a b=>hh k (by simp[inK,a,b])
 clear hh ho c5 c10 c11 c5' c10' c11' h' bH b5 b10 b11 b12 g1 g2 g3 g4 g5 g10 g11 g12 x10 y10 x11 st;rintro st ⟨g1,g2,g3,g4,g5,g10,g11,g14,b5,⟨x10,y10,b10⟩,⟨x11,b11⟩,bH⟩;have c290:st.h 290=some (.box [.pv (iv (aI sc.js sc.ms)),.arr 291 1,.arr 292 1,.ext (.barr 293 1 1),.arr 294 1] true false):=bH 290 rfl;have c292:st.h 292=some (.row 22 1 [iv (aI sc.js sc.ms)] 0):=bH 292 rfl;have c294:st.h 294=some (.row 3 1 [Z (-1)] 0):=bH 294 rfl;have cf:=Kx sc.js sc.ms (aI sc.js sc.ms) w hs.js hs.ms (by omega)
 with_reducible repeat' (first|refine Sp.h ?_|((first|refine Wd ?_|refine Ss.h ?_|refine Sc.h (cf) ?_|(refine Sb.h ?_ ?_ ?_<;>(try intro hgd)<;>try exact Xy))<;>simp -implicitDefEqProofs (maxSteps:=2000000) [hP,hN,g1,g2,g3,g4,g5,g10,g11,g14,b5,b10,b11,c290,c292,c294]<;>try refine Yc ?_)|refine X2 ?_ ?_|(refine Xd ?_ ?_<;>intro hcd<;>try exact Xx))
 refine WP.of_st (P:=λst=>st.t 1=.pv (zs p)∧st.t 2=.pv (zs q)∧st.t 3=.pv (Z w)∧st.t 4=.pv (Z cells)∧st.t 5=.ptr 5 0∧st.t 10=.ptr 10 0∧st.t 11=.ptr 11 0∧st.t 14=.ptr 290 0∧st.h 5=some (.box [.pv (.sl (sc.js.map cW)),.pv (.sl (sc.ms.map fc)),.pv (.sl (sc.shs.map eL)),.pv (.sl (sc.sks.map aU))] true false)∧(∃x y,st.h 10=some (.box [.pv x,.pv y] true false))∧(∃x,st.h 11=some (.box [.pv x] true false))∧∀k,inK k=true->st.h k=aM true (vH sc w) 0 k) ⟨?_,?_⟩
 .simp[ah,g1,g2,g3,g4,g5,g10,g11,g14,b5,b10,b11]
  intro k hk;by_cases e:k=294
  .subst e;rw[if_pos rfl];rfl
  .rw[if_neg e,bH k hk,Hy]
   exact(Hw (s:=FF sc) (jn:=[qD sc.js sc.ms w (aI sc.js sc.ms)]) (by rfl) e).symm
 clear c290 c292 c294 bH b5 b10 b11 g1 g2 g3 g4 g5 g10 g11 g14 x10 y10 x11 st;rintro st ⟨g1,g2,g3,g4,g5,g10,g11,g14,b5,⟨x10,y10,b10⟩,⟨x11,b11⟩,bH⟩;clear hD1' hD2 hv0 hy0 hvv ht0 hv1 hr0 hi0 hb0 hbo hnt cn cl cs cp cq cf h1 h2 h0;refine WP.loopN [] f (λi st=>(∃S c,sd sc p q w cells (f-i) S=some R∧∀k,inK k=true->st.h k=aM true S c k)∧st.t 1=.pv (zs p)∧st.t 2=.pv (zs q)∧st.t 3=.pv (Z w)∧st.t 4=.pv (Z cells)∧st.t 5=.ptr 5 0∧st.t 10=.ptr 10 0∧st.t 11=.ptr 11 0∧st.t 14=.ptr 290 0∧st.h 5=some (.box [.pv (.sl (sc.js.map cW)),.pv (.sl (sc.ms.map fc)),.pv (.sl (sc.shs.map eL)),.pv (.sl (sc.sks.map aU))] true false)∧(∃x y,st.h 10=some (.box [.pv x,.pv y] true false))∧(∃x,st.h 11=some (.box [.pv x] true false))) ?_ ?_
 .refine⟨⟨vH sc w,0,by simpa using hR,λk hk=>?_⟩,by simp[St.kill,aq,aQ,ax,g1],by simp[St.kill,aq,aQ,ax,g2],by simp[St.kill,aq,aQ,ax,g3],by simp[St.kill,aq,aQ,ax,g4],by simp[St.kill,aq,aQ,ax,g5],by simp[St.kill,aq,aQ,ax,g10],by simp[St.kill,aq,aQ,ax,g11],by simp[St.kill,aq,aQ,ax,g14],by simp[St.kill,aq,bm,aQ,ax,b5],⟨x10,y10,by simp[St.kill,aq,bm,aQ,ax,b10]⟩,⟨x11,by simp[St.kill,aq,bm,aQ,ax,b11]⟩⟩
  show(st.h k).map (bm [])=_;rw[bH k hk,fJ]
 clear bH b5 b10 b11 g1 g2 g3 g4 g5 g10 g11 g14 x10 y10 x11 st hR;rintro i st hi ⟨⟨S,c,hgo,bH⟩,g1,g2,g3,g4,g5,g10,g11,g14,b5,⟨x10,y10,b10⟩,⟨x11,b11⟩⟩
 obtain⟨m,hm⟩:∃m,f-i=m+1:=by
  cases h:f-i with
  |zero=>rw[h]at hgo;cases hgo
  |succ m=>exact⟨m,rfl⟩
 rw[hm]at hgo;simp only[sd]at hgo;by_cases hok:Cv S=true
 case neg=>rw[if_neg hok]at hgo;cases hgo
 rw[if_pos hok]at hgo;obtain⟨a1,a2,a3,a4,a5,a6,a7,a8,a9⟩:=p7 hok;have cN:=N8 S S.cells.length p q (eA S.bx) (JX hok) hpl hql;have hnx:rd S S.cells.length p q (eA S.bx)=gg S p q:=rfl;rw[hnx]at cN;have hcon:=CB (by omega) bH;have hlo:=A8 bH;have hcp:∀x,fS st.h 3 (.pv x)=some x:=λ_=>rfl;have c290:=(bH 290 rfl).trans (lx true S c);rw[p8 a5,a2,a3,a4]at c290;have c291:=(bH 291 rfl).trans (oI true S c a5);have c292:=(bH 292 rfl).trans (oJ true S c);by_cases e3:(gg S p q).2.2=3
 case neg=>
  rw[if_neg e3]at hgo;injection hgo with hgo;subst hgo
  have e3':((gg S p q).2.2 !=3)=true:=by simp[e3]
  generalize gg S p q=NX at *
  with_reducible repeat' (first|refine Sp.h ?_|((with_unfolding_all refine WP.lendAt (hn:=[]) (f:=.func 36) 3 rfl rfl rfl ?_);simp -implicitDefEqProofs (maxSteps:=2000000) [hP,hN,g1,g2,g3,g4,g5,g10,g11,g14,b5,b10,b11])|((first|refine Wd ?_|refine Ss.h ?_|(refine Sb.h ?_ ?_ ?_<;>(try intro hgd)<;>try exact Xy))<;>simp -implicitDefEqProofs (maxSteps:=2000000) [hP,hN,g1,g2,g3,g4,g5,g10,g11,g14,b5,b10,b11]<;>try refine Yc ?_)|refine X2 ?_ ?_|(refine Xd ?_ ?_<;>intro hcd<;>try exact Xx))
  refine⟨36,[hZ S,zs p,zs q],_,rfl,hlo,by simp[St.ev,k9,g1,g2,g14,hcon,hcp],by rw[hP];exact cN,rfl,by simp[bX,hN],?_⟩;simp -implicitDefEqProofs (maxSteps:=2000000) [hP,hN,g1,g2,g3,g4,g5,g10,g11,g14]
  with_reducible repeat' (first|refine Sp.h ?_|((first|refine Wd ?_|refine Ss.h ?_|(refine Sb.h ?_ ?_ ?_<;>(try intro hgd)<;>try exact Xy))<;>simp -implicitDefEqProofs (maxSteps:=2000000) [hP,hN,e3,e3',c290,c291,g1,g2,g3,g4,g5,g10,g11,g14,b5,b10,b11]<;>try refine Yc ?_)|refine X2 ?_ ?_|(refine Xd ?_ ?_<;>intro hcd<;>try exact Xx))
 rw[if_pos e3]at hgo
 have e3':((gg S p q).2.2 !=3)=false:=by simp[e3]
 by_cases e4:cells-2<S.cells.length
 case pos=>
  rw[if_pos e4]at hgo;injection hgo with hgo;subst hgo;generalize gg S p q=NX at *
  with_reducible repeat' (first|refine Sp.h ?_|((with_unfolding_all refine WP.lendAt (hn:=[]) (f:=.func 36) 3 rfl rfl rfl ?_);simp -implicitDefEqProofs (maxSteps:=2000000) [hP,hN,g1,g2,g3,g4,g5,g10,g11,g14,b5,b10,b11])|((first|refine Wd ?_|refine Ss.h ?_|(refine Sb.h ?_ ?_ ?_<;>(try intro hgd)<;>try exact Xy))<;>simp -implicitDefEqProofs (maxSteps:=2000000) [hP,hN,g1,g2,g3,g4,g5,g10,g11,g14,b5,b10,b11]<;>try refine Yc ?_)|refine X2 ?_ ?_|(refine Xd ?_ ?_<;>intro hcd<;>try exact Xx))
  refine⟨36,[hZ S,zs p,zs q],_,rfl,hlo,by simp[St.ev,k9,g1,g2,g14,hcon,hcp],by rw[hP];exact cN,rfl,by simp[bX,hN],?_⟩;simp -implicitDefEqProofs (maxSteps:=2000000) [hP,hN,g1,g2,g3,g4,g5,g10,g11,g14]
  with_reducible repeat' (first|refine Sp.h ?_|((first|refine Wd ?_|refine Ss.h ?_|(refine Sb.h ?_ ?_ ?_<;>(try intro hgd)<;>try exact Xy))<;>simp -implicitDefEqProofs (maxSteps:=2000000) [hP,hN,e3,e3',e4,hwc,c290,c291,g1,g2,g3,g4,g5,g10,g11,g14,b5,b10,b11]<;>try refine Yc ?_)|refine X2 ?_ ?_|(refine Xd ?_ ?_<;>intro hcd<;>try exact Xx))
 case neg=>
  rw[if_neg e4]at hgo;by_cases ek:(decide ((gg S p q).1=(gg S p q).1.toNat)&&decide ((gg S p q).1.toNat<S.cells.length))=true
  case neg=>rw[if_neg ek]at hgo;cases hgo
  rw[if_pos ek]at hgo;simp only[Bool.and_eq_true,decide_eq_true_eq]at ek;obtain⟨k,hk⟩:∃k,k=(gg S p q).1.toNat:=⟨_,rfl⟩;rw[<-hk]at ek hgo;obtain⟨ek1,hkn⟩:=ek
  have hck:S.cells[k]?=some (bo S k):=by simp[bo,List.getElem?_eq_getElem hkn]
  have hck':∀h,S.cells[k]'h=bo S k:=λh=>fy hck h;have hrow:=Cw hok;have hSp:=N2 S c S.cells.length k (gg S p q).2.1 a5 a3 a2 rfl a4 (by omega) hkn (λx hx=>by have:=a6 x hx;omega) (λv=>(hrow v).1) (hrow k).2.1 (λx hx=>⟨((hrow k).2.2 x hx).1,((hrow k).2.2 x hx).2.1,((hrow k).2.2 x hx).2.2.2⟩);obtain⟨q1,q2,q3,q4,q5⟩:=Dx S k (gg S p q).2.1;generalize hNX:gg S p q=NX at *
  with_reducible repeat' (first|refine Sp.h ?_|((with_unfolding_all refine WP.lendAt (hn:=[]) (f:=.func 36) 3 rfl rfl rfl ?_);simp -implicitDefEqProofs (maxSteps:=2000000) [hP,hN,g1,g2,g3,g4,g5,g10,g11,g14,b5,b10,b11])|((first|refine Wd ?_|refine Ss.h ?_|(refine Sb.h ?_ ?_ ?_<;>(try intro hgd)<;>try exact Xy))<;>simp -implicitDefEqProofs (maxSteps:=2000000) [hP,hN,g1,g2,g3,g4,g5,g10,g11,g14,b5,b10,b11]<;>try refine Yc ?_)|refine X2 ?_ ?_|(refine Xd ?_ ?_<;>intro hcd<;>try exact Xx))
  refine⟨36,[hZ S,zs p,zs q],_,rfl,hlo,by simp[St.ev,k9,g1,g2,g14,hcon,hcp],by rw[hP];exact cN,rfl,by simp[bX,hN],?_⟩;simp -implicitDefEqProofs (maxSteps:=2000000) [hP,hN,g1,g2,g3,g4,g5,g10,g11,g14]
  with_reducible repeat' (first|refine Sp.h ?_|((with_unfolding_all refine WP.takeAt (hn:=[]) (f:=.func 37) 3 rfl rfl rfl ?_);simp -implicitDefEqProofs (maxSteps:=2000000) [hP,hN,e3,e3',e4,ek1,hkn,hck,hck',hwc,c290,c291,g1,g2,g3,g4,g5,g10,g11,g14,b5,b10,b11])|((first|refine Wd ?_|refine Ss.h ?_|(refine Sb.h ?_ ?_ ?_<;>(try intro hgd)<;>try exact Xy))<;>simp -implicitDefEqProofs (maxSteps:=2000000) [hP,hN,e3,e3',e4,ek1,hkn,hck,hck',hwc,c290,c291,g1,g2,g3,g4,g5,g10,g11,g14,b5,b10,b11]<;>try refine Yc ?_)|refine X2 ?_ ?_|(refine Xd ?_ ?_<;>intro hcd<;>try exact Xx))
  refine EB (s':=fu S k NX.2.1) (r:=.pv (.sl [Z S.cells.length,Z ((S.cells.length:Int)+1)])) (args:=[.ptr 290 0,.pv (Z k),.pv (Z NX.2.1)]) rfl (by simp[St.ev]) rfl bH (by omega) (by rw[hP];exact hSp) (by simp[bX,hN]) ?_;intro h' c' hh ho;have c5:=ho 5 rfl;have c10:=ho 10 rfl;have c11:=ho 11 rfl;simp only[b5,b10,b11,Option.map_some,fR,List.map_cons,List.map_nil]at c5 c10 c11;have c5':h' 5=some (.box [.pv (.sl (sc.js.map cW)),.pv (.sl (sc.ms.map fc)),.pv (.sl (sc.shs.map eL)),.pv (.sl (sc.sks.map aU))] true false):=c5;have c10':h' 10=some (.box [.pv x10,.pv y10] true false):=c10;have c11':h' 11=some (.box [.pv x11] true false):=c11;simp -implicitDefEqProofs (maxSteps:=2000000) [hP,hN,dO,iV,fa,ry,iC,inK,g1,g2,g3,g4,g5,g10,g11,g14,c5',c10',c11'];have hmo:sd sc p q w cells m (GV sc w S k NX.2.1)=some R:=hgo;refine WP.of_st (P:=λst=>st.t 1=.pv (zs p)∧st.t 2=.pv (zs q)∧st.t 3=.pv (Z w)∧st.t 4=.pv (Z cells)∧st.t 5=.ptr 5 0∧st.t 10=.ptr 10 0∧st.t 11=.ptr 11 0∧st.t 14=.ptr 290 0∧st.t 18=.pv (bQ (bo S k).v.nor)∧st.t 122=.pv (.sl [Z S.cells.length,Z ((S.cells.length:Int)+1)])∧st.t 123=.pv (Z 2)∧st.t 124=.pv (Z 0)∧st.h 5=some (.box [.pv (.sl (sc.js.map cW)),.pv (.sl (sc.ms.map fc)),.pv (.sl (sc.shs.map eL)),.pv (.sl (sc.sks.map aU))] true false)∧(∃x y,st.h 10=some (.box [.pv x,.pv y] true false))∧(∃x,st.h 11=some (.box [.pv x] true false))∧∀k2,inK k2=true->st.h k2=aM true (fu S k NX.2.1) c' k2) ⟨?_,?_⟩
  .simp[dO,iV,fa,ry,iC,inK,g1,g2,g3,g4,g5,g10,g11,g14,c5',c10',c11']
   exact λk2 a b=>hh k2 (by simp[inK,a,b])
  clear hh ho c5 c10 c11 c5' c10' c11' h' bH b5 b10 b11 g1 g2 g3 g4 g5 g10 g11 g14 x10 y10 x11 hcon hlo hcp c290 c291 c292 cN hSp st;rintro st ⟨g1,g2,g3,g4,g5,g10,g11,g14,g18,g122,g123,g124,b5,⟨x10,y10,b10⟩,⟨x11,b11⟩,bH⟩;obtain⟨H,hH⟩:∃H,H=(bo S k).v.nor:=⟨_,rfl⟩
  have hmo2:sd sc p q w cells m (nT sc w H (fu S k NX.2.1) S.cells.length 2)=some R:=by rw[hH];exact hmo
  have hok2:Cv (nT sc w H (fu S k NX.2.1) S.cells.length 2)=true:=by
   cases m with
   |zero=>cases hmo2
   |succ m=>
    simp only[sd]at hmo2;by_cases h:Cv (nT sc w H (fu S k NX.2.1) S.cells.length 2)=true
    .exact h
    .rw[if_neg h]at hmo2;cases hmo2
  have hHl:H.length<=4096:=by rw[hH];exact a7 _ (List.mem_of_getElem? hck)
  obtain⟨p1,p2,p3,p4,p5⟩:=vD sc w H (fu S k NX.2.1) S.cells.length 2;obtain⟨o1,o2,o3,o4,o5,o6,_⟩:=p7 hok2;rw[p2]at o6;rw[<-hH]at g18;clear p1 p2 p3 p4 p5 o1 o2 o3 o4 o5 hmo hgo hok hok2 hrow;generalize fu S k NX.2.1=S0 at *;obtain⟨n,hn9⟩:∃n,n=S.cells.length:=⟨_,rfl⟩;rw[a3,<-hn9]at q1;rw[a2,<-hn9]at q2;rw[<-hn9]at q3 g122 hmo2;rw[a4,<-hn9]at q4;have hn1:IntKind.i64.wrap ((n:Int)+1)=(n:Int)+1:=ab
  with_reducible repeat' (first|refine Sp.h ?_|((first|refine Wd ?_|refine Ss.h ?_|(refine Sb.h ?_ ?_ ?_<;>(try intro hgd)<;>try exact Xy))<;>simp -implicitDefEqProofs (maxSteps:=2000000) [hP,hN,g122]<;>try refine Yc ?_)|refine X2 ?_ ?_|(refine Xd ?_ ?_<;>intro hcd<;>try exact Xx))
  refine WP.loopN [] 2 (λj st=>st.t 1=.pv (zs p)∧st.t 2=.pv (zs q)∧st.t 3=.pv (Z w)∧st.t 4=.pv (Z cells)∧st.t 5=.ptr 5 0∧st.t 10=.ptr 10 0∧st.t 11=.ptr 11 0∧st.t 14=.ptr 290 0∧st.t 18=.pv (bQ H)∧st.t 122=.pv (.sl [Z n,Z ((n:Int)+1)])∧st.t 123=.pv (Z 2)∧st.t 124=.pv (Z j)∧st.h 5=some (.box [.pv (.sl (sc.js.map cW)),.pv (.sl (sc.ms.map fc)),.pv (.sl (sc.shs.map eL)),.pv (.sl (sc.sks.map aU))] true false)∧(∃x y,st.h 10=some (.box [.pv x,.pv y] true false))∧(∃x,st.h 11=some (.box [.pv x] true false))∧∀k2,inK k2=true->st.h k2=aM true (nT sc w H S0 n j) c' k2) ?_ ?_
  .refine⟨by simp[St.kill,aq,aQ,ax,g1],by simp[St.kill,aq,aQ,ax,g2],by simp[St.kill,aq,aQ,ax,g3],by simp[St.kill,aq,aQ,ax,g4],by simp[St.kill,aq,aQ,ax,g5],by simp[St.kill,aq,aQ,ax,g10],by simp[St.kill,aq,aQ,ax,g11],by simp[St.kill,aq,aQ,ax,g14],by simp[St.kill,aq,aQ,ax,g18],by simp[St.kill,aq,aQ,ax,g122],by simp[St.kill,aq,aQ,ax,g123],by simp[St.kill,aq,aQ,ax,g124],by simp[St.kill,aq,bm,aQ,ax,b5],⟨x10,y10,by simp[St.kill,aq,bm,aQ,ax,b10]⟩,⟨x11,by simp[St.kill,aq,bm,aQ,ax,b11]⟩,λk2 hk2=>?_⟩
   show(st.h k2).map (bm [])=_;rw[bH k2 hk2,fJ];rfl
  clear g1 g2 g3 g4 g5 g10 g11 g14 g18 g122 g123 g124 b5 b10 b11 x10 y10 x11 bH st;rintro j st hj ⟨g1,g2,g3,g4,g5,g10,g11,g14,g18,g122,g123,g124,b5,⟨x10,y10,b10⟩,⟨x11,b11⟩,bH⟩;obtain⟨p1,p2,p3,p4,p5⟩:=vD sc w H S0 n j;have hsu:nT sc w H S0 n (j+1)=r7 sc w H (nT sc w H S0 n j) (n+j):=rfl;by_cases hlt:j<2
  .generalize nT sc w H S0 n j=T at *
   have c290:=(bH 290 rfl).trans (lx true T c');rw[p8 (p5.trans q5),p2,p3,p4,p1,q1,q2,q3,q4]at c290;have c291:=(bH 291 rfl).trans (oI true T c' (p5.trans q5));have c292:=(bH 292 rfl).trans (oJ true T c');have c294:=(bH 294 rfl).trans (rf true T c');obtain⟨hv,hhv⟩:∃hv,hv=n+j:=⟨_,rfl⟩
   have hvn:hv<n+2:=by omega
   have helt:([Z n,Z ((n:Int)+1)]:List PV)[j]?=some (Z (hv:Int)):=by rcases(by omega:j=0∨j=1)with rfl|rfl<;>simp[hhv]
   have hL2l:([Z n,Z ((n:Int)+1)]:List PV).length=2:=rfl;generalize([Z n,Z ((n:Int)+1)]:List PV)=L2 at *;have helt':∀h,L2[j]'h=Z (hv:Int):=λh=>fy helt h;rw[<-hhv]at hsu
   have hcl9:hv<T.cells.length:=by omega
   have hbl9:hv<T.bx.length:=by rw[p2];omega
   have hjl9:hv<T.jn.length:=by omega
   have hcv:T.cells[hv]?=some (bo T hv):=by simp[bo,List.getElem?_eq_getElem hcl9]
   have hcv':∀h,T.cells[hv]'h=bo T hv:=λh=>fy hcv h
   have hbv:T.bx[hv]?=some (fE T hv):=by simp[fE,List.getElem?_eq_getElem hbl9]
   have hbv':∀h,T.bx[hv]'h=fE T hv:=λh=>fy hbv h;have hbl8:(fE T hv).length<=16:=o6 _ (by rw[<-p2];exact List.mem_of_getElem? hbv);have cB:=KA sc (fE T hv) H hs (by omega) (by omega);have cf:=Kx sc.js sc.ms (fE T hv) w hs.js hs.ms (by omega);have hwj:=au hlt (by omega)
   have hcl7:T.cells.length=n+2:=by omega
   have hbl7:T.bx.length=n+2:=by rw[p2];omega
   have hjl7:T.jn.length=n+2:=by omega
   rw[hsu];unfold r7;generalize eS sc (fE T hv) H=V at *;generalize qD sc.js sc.ms w (fE T hv)=FJ at *;generalize bo T hv=cv at *;generalize fE T hv=bv at *;clear hck hck' hsu a6 a7 a8 a9 hmo2 o6 hH hHl ek1 hk e3 e3' e4 hhv hn9
   with_reducible repeat' (first|refine Sp.h ?_|((first|refine Wd ?_|refine Ss.h ?_|refine Sc.h (cB) ?_|refine Sc.h (cf) ?_|(refine Sb.h ?_ ?_ ?_<;>(try intro hgd)<;>try exact Xy))<;>simp -implicitDefEqProofs (maxSteps:=2000000) [hP,hN,g1,g2,g3,g4,g5,g10,g11,g14,g18,g122,g123,g124,b5,b10,b11,c290,c291,c292,c294,hlt,hvn,helt,helt',hL2l,hcv,hcv',hbv,hbv',hwj,hcl9,hbl9,hjl9,hcl7,hbl7,hjl7]<;>try refine Yc ?_)|refine X2 ?_ ?_|(refine Xd ?_ ?_<;>intro hcd<;>try exact Xx))
   intro k2 hk2;by_cases u1:k2=294
   .subst u1
    rw[if_pos rfl];refine Eq.trans ?_ (rf _ _ _).symm;simp only[Option.map_some,bm,List.map_set]
   .by_cases u2:k2=291
    .subst u2
     rw[if_neg (by omega),if_pos rfl];refine Eq.trans ?_ (oI true {T with cells:=T.cells.set hv {cv with v:=dN V},jn:=T.jn.set hv FJ} c' (p5.trans q5)).symm;simp only[Option.map_some,bm,List.map_set];rfl
    .rw[if_neg u1,if_neg u2,bH k2 hk2,fJ]
     exact(EC (p5.trans q5) (by simp) (by simp) u2 u1).symm
  .have hj2:j=2:=by omega
   subst hj2
   with_reducible repeat' (first|refine Sp.h ?_|((first|refine Wd ?_|refine Ss.h ?_|(refine Sb.h ?_ ?_ ?_<;>(try intro hgd)<;>try exact Xy))<;>simp -implicitDefEqProofs (maxSteps:=2000000) [hP,hN,g1,g2,g3,g4,g5,g10,g11,g14,g18,g122,g123,g124,b5,b10,b11]<;>try refine Yc ?_)|refine X2 ?_ ?_|(refine Xd ?_ ?_<;>intro hcd<;>try exact Xx))
   exact⟨by omega,nT sc w H S0 n 2,(by rw[show f-(i+1)=m by omega];exact hmo2),c',λk a b=>by rw[bH k (by simp[inK,a,b]),fJ]⟩
def GP(hi:Int)(i:Nat):J:=⟨yr i,4+(i:Int).tmod 2,(i:Int)-1,0,0,0,0,hi,1,65536,65536,65536⟩
def sL(hi:Int)(k:Nat):List J:=(List.range k).map (GP hi)
theorem FA(hi:Int)(k:Nat):(sL hi (k+1)).map cW=(sL hi k).map cW++[cW (GP hi k)]:=by simp[sL,List.range_succ]
theorem Cp(hi:Int)(k:Nat):(sL hi k).length=k:=by simp[sL]
theorem NV(n:Nat)(hi:Int)(h0:0<n)(hn:n<=3):aa Tryz.prog 12 [.pv (Z n),.pv (Z hi)] [] [] (.pv (ja (sL hi n) [])):=by
 refine Dp Tryz.func12 ?_;intro C hP hN;simp only[Tryz.f12]at hN|-;refine Gz ?_
 refine WP.loopN [] n (λi st=>st.t 0=.pv (Z n)∧st.t 1=.pv (Z hi)∧st.t 4=.ptr 4 0∧st.h 4=some (.box [AN,AN] true false)∧st.t 5=.ptr 5 0∧st.t 6=.pv (Z i)∧
  ((i=0∧st.h 5=some (.box [AN,AN] true false)∧st.h 24=none)∨(0<i∧st.h 5=some (.box [.arr 24 i,AN] true false)∧st.h 24=some (.row 73 12 ((sL hi i).map cW) 0)))) (by simp) ?_
 rintro i st hi' ⟨g0,g1,g4,hb4,g5,g6,hor⟩;by_cases hlt:i<n
 .have hw:IntKind.i64.wrap ((i:Int)+1)=(i:Int)+1:=by rw[IntKind.wrap_i64];omega
  have hlt':(i:Int)<(n:Int):=by omega
  have hJ:=FA hi i;have hr1:=Int.tmod_nonneg 2 (Int.natCast_nonneg i);have hr2:=Int.tmod_lt_of_pos (i:Int) (b:=2) (by decide);have h2:IntKind.i64.wrap ((i:Int).tmod 2)=(i:Int).tmod 2:=ab;have h3:IntKind.i64.wrap (4+(i:Int).tmod 2)=4+(i:Int).tmod 2:=ab;have h4:IntKind.i64.wrap ((i:Int)-1)=(i:Int)-1:=ab;have hz:=Cp hi i;rcases hor with⟨hi0,hb5,hb24⟩|⟨hi0,hb5,hb24⟩
  .subst hi0
   have cl:=Ks 0 (by omega);rw[show((0:Nat):Int)=0 from rfl]at cl
   have v1:IntKind.i64.wrap 0=0:=by decide
   have v2:IntKind.i64.wrap 4=4:=by decide
   have v3:IntKind.i64.wrap (-1)=-1:=by decide
   have v4:IntKind.i64.wrap (0+1)=1:=by decide
   have v5:IntKind.i64.wrap (0-1)=-1:=by decide
   have v6:Int.tmod 0 2=0:=by decide
   refine Gz ?_
   all_goals simp[sL,GP]
  .have cl:=Ks i (by omega)
   refine GT (gA g0 (gA g1 (gA g4 (gA hb4 (gA g5 (gA g6 (gA hb5 (gA hb24 (gA hlt (gA hlt' (gA hw (gA h2 (gA h3 (gA h4 (gA hz (gA (show(i+1)*104<=140737488355328 by omega) (show i<=9223372036854775806 by omega))))))))))))))))) ?_
   all_goals simp[hJ,GP]
 .have hir:i=n:=by omega
  subst hir;rcases hor with⟨hi0,_⟩|⟨hi0,hb5,hb24⟩
  .omega
  have hz:=Cp hi i;exact Gy
theorem HD{p q:List Int}{sort:Int}(hv:ay t=true):(pg t op p q sort).length<=t.cells.length∧∀k∈pg t op p q sort,k<t.cells.length∧mu t.cells op sort k=true:=by
 unfold pg
 cases h:bU t.cells.length (mu t.cells op sort) (aw (ao t) q) (aw (ao t) p) (eA (ao t))with
 |true=>
  obtain⟨b1,b2,b3,_⟩:=xT (xL hv) h;refine⟨b2,λk hk=>?_⟩;obtain⟨j,hj⟩:=List.getElem?_of_mem hk;obtain⟨x1,x2,_⟩:=b3 j k hj;exact⟨x1,x2⟩
 |false=>simp[dQ,h]
theorem EM{L:List PV}{n:Nat}{z v:PV}(hL:L.length=n)(hi:i<n)(hv:L[i]?=some v):(L.take i++List.replicate (n-i) z).set i v=L.take (i+1)++List.replicate (n-(i+1)) z:=by
 have hl:(L.take i).length=i:=by rw[List.length_take];omega
 rw[List.set_append_right _ _ (by omega),hl,Nat.sub_self,show n-i=(n-(i+1))+1 by omega,List.replicate_succ,List.set_cons_zero,List.take_add_one,hv];simp
theorem FS{L:List PV}{n:Nat}{z:PV}(hL:L.length=n)(hi:i<=n):(L.take i++List.replicate (n-i) z).length=n:=by
 rw[List.length_append,List.length_take,List.length_replicate];omega
theorem FT{b:Bx}(h:iS js ms b=-1):kY js ms w b=false:=by simp[kY,h]
theorem EN{b:Bx}{j:Nat}{x:Int×Int}(h:iS js ms b=(j:Int))(hx:b[j]?=some x):kY js ms w b=decide (w<x.2-x.1):=by
 have hj:(0:Int)<=(j:Int):=by omega
 unfold kY;rw[h,Int.toNat_natCast,hx,decide_eq_true hj,Bool.true_and]
theorem zm(hv:ay t=true):(gh js ms w t).length=t.cells.length:=by rw[gh,List.length_map,eN hv]
set_option maxRecDepth 10000 in
theorem HE(js:List J)(ms:List Ms)(t:Tr)(w:Int)(hjl:js.length<=9223372036854775807)(hml:ms.length<=9223372036854775807)(hl:t.cells.length<=9223372036854775807):aa Tryz.prog 51 [.pv (ja js ms),.pv (da t),.pv (Z w)] [] [] (.pv (.tup [if ay t then DX t.cells (ao t) (gh js ms w t)else .agg [.sl [],.sl [],.sl []],B (ay t)])):=by
 have cb:=Jp t hl
 cases hv:ay t with
 |false=>
  rw[hv]at cb;refine Dp Tryz.func51 ?_;intro C hP hN;simp only[Tryz.f51]at hN|-;exact Gy
 |true=>
  rw[hv]at cb;have hbl:=eN hv;have hz:=bG.1 (dz hv);have hol:=zm (js:=js) (ms:=ms) (w:=w) hv
  have hok:∀i b,(ao t)[i]?=some b->(gh js ms w t)[i]?=some (kY js ms w b):=λi b h=>by rw[gh,List.getElem?_map,h];rfl
  generalize hOL:gh js ms w t=OL at *;simp only[if_true];generalize hn:t.cells.length=n at *
  have hOm:(OL.map B).length=n:=by rw[List.length_map,hol]
  refine Dp Tryz.func51 ?_;intro C hP hN;simp only[Tryz.f51]at hN|-;refine GT (gA hbl (gA hn (gA (show(1:Int)*n<=281474976710656 by omega) (gA (show(n:Int)<=281474976710656 by omega) (show(n:Int)<=9223372036854775807 by omega))))) ?_;refine WP.loopN [] n (λi st=>st.t 2=.pv (Z w)∧st.t 3=.ptr 3 0∧st.t 6=.ptr 6 0∧st.t 8=.pv (.sl ((ao t).map iv))∧st.t 10=.ptr 10 0∧st.t 11=.pv (Z i)∧st.h 3=some (.box [.pv (.sl (js.map cW)),.pv (.sl (ms.map fc))] true false)∧st.h 6=some (.box [.pv (.val (.slice none 0 0)),.pv (.val (.slice none 0 0)),.pv (.val (.slice none 0 0))] true false)∧st.h 10=some (.box [.pv (.sl (t.cells.map aW)),.pv (.sl ((ao t).map iv)),.arr 26 n] true false)∧st.h 26=some (.row 4 1 ((OL.map B).take i++List.replicate (n-i) (B false)) 0)) (by simp) ?_;rintro i st hi ⟨g2,g3,g6,g8,g10,g11,hb3,hb6,hb10,hb26⟩;have hfl:=FS (z:=B false) hOm hi;by_cases hlt:i<n
  .have hw:=au hlt (by omega)
   have hib:i<(ao t).length:=by omega
   have hbi:(ao t)[i]?=some (ao t)[i]:=List.getElem?_eq_getElem hib;have hbok:=gJ hbi;generalize hbx:(ao t)[i]=b at *;have hoi:=hok i b hbi;have cw:=NH js ms b hjl hml (by omega)
   have hOi:(OL.map B)[i]?=some (B (kY js ms w b)):=by rw[List.getElem?_map,hoi];rfl
   have hfs:=EM (z:=B false) hOm hlt hOi;rcases Bb js ms b with hj|⟨j,hj,hjl2,_,_,x,hx,hw2⟩
   .rw[FT hj]at hfs
    rw[hj]at cw
    with_reducible repeat' (first|refine Sp.h ?_|((first|refine Wd ?_|refine Ss.h ?_|refine Sc.h (cw) ?_|(refine Sb.h ?_ ?_ ?_<;>(try intro hgd)<;>try exact Xy))<;>simp -implicitDefEqProofs (maxSteps:=2000000) [hP,hN,g2,g3,g6,g8,g10,g11,hb3,hb6,hb10,hb26,hlt,hw,hib,hbl,hbi,hbx,hfl,hfs]<;>try refine Ya ?_)|refine X2 ?_ ?_|(refine Xd ?_ ?_<;>intro hcd<;>try exact Xx))
   .rw[EN hj hx]at hfs
    rw[hj]at cw;have hxe:∀h,b[j]'h=x:=λh=>aT hx h;have hvx:=ej.1 (ey.1 hbok.2 _ (List.mem_of_getElem? hx));have hwx:IntKind.i64.wrap (x.2-x.1)=x.2-x.1:=ab
    with_reducible repeat' (first|refine Sp.h ?_|((first|refine Wd ?_|refine Ss.h ?_|refine Sc.h (cw) ?_|(refine Sb.h ?_ ?_ ?_<;>(try intro hgd)<;>try exact Xy))<;>simp -implicitDefEqProofs (maxSteps:=2000000) [hP,hN,g2,g3,g6,g8,g10,g11,hb3,hb6,hb10,hb26,hlt,hw,hib,hbl,hbi,hbx,hfl,hjl2,hx,hxe,hwx,hfs]<;>try refine Ya ?_)|refine X2 ?_ ?_|(refine Xd ?_ ?_<;>intro hcd<;>try exact Xx))
  .have hin:i=n:=by omega
   subst hin;rw[List.take_of_length_le (by omega),Nat.sub_self,List.replicate_zero,List.append_nil]at hb26
   with_reducible repeat' (first|refine Sp.h ?_|((first|refine Wd ?_|refine Ss.h ?_|(refine Sb.h ?_ ?_ ?_<;>(try intro hgd)<;>try exact Xy))<;>simp -implicitDefEqProofs (maxSteps:=2000000) [hP,hN,g2,g3,g6,g8,g10,g11,hb3,hb6,hb10,hb26,hlt,hbl,hol]<;>try refine Ya ?_)|refine X2 ?_ ?_|(refine Xd ?_ ?_<;>intro hcd<;>try exact Xx))
theorem IN(t:Tr)(op:List Bool)(p q:List Int)(sort:Int)(hv:ay t=true)(ho:op.length=t.cells.length)(hp:p.length<=9223372036854775807)(hq:q.length<=9223372036854775807):aa Tryz.prog 53 [.pv (DX t.cells (ao t) op),.pv (zs p),.pv (zs q),.pv (Z sort)] [] [] (.pv (.tup [.sl ((pg t op p q sort).map zN),B (p9 t op p q sort)])):=by
 have hz:=bG.1 (dz hv)
 exact OU t.cells (ao t) op p q sort (by omega) (eN hv) ho (λb hb=>by
  obtain⟨j,hj⟩:=List.getElem?_of_mem hb;have:=(gJ hj).1
  omega) hp hq (xL hv)
def va(t:Tr)(op:List Bool)(c:List Nat)(i:Nat):Prop:=∀j x,j<i->c[j]?=some x->ky t op x=false
theorem vF{c:List Nat}(h:va t op c c.length):jx js ms t op c=(-1,-1,0):=by
 have:c.find? (ky t op)=none:=ES λj x hj hx=>h j x hj hx;rw[jx,this]
theorem xQ{c:List Nat}(h:va t op c i)(hk:c[i]?=some k)(hp:ky t op k=true):jx js ms t op c=((k:Int),iS js ms (dU t (k:Int)),3):=by
 have:c.find? (ky t op)=some k:=zq hk hp h;rw[jx,this]
set_option maxRecDepth 10000 in
theorem NK(js:List J)(ms:List Ms)(t:Tr)(p q:List Int)(w:Int)(hjl:js.length<=9223372036854775807)(hml:ms.length<=9223372036854775807)(hl:t.cells.length<=9223372036854775807)(hr:t.root.length<=9223372036854775807)(hpl:p.length<=9223372036854775807)(hql:q.length<=9223372036854775807):aa Tryz.prog 26 [.pv (ja js ms),.pv (da t),.pv (zs p),.pv (zs q),.pv (Z w)] [] [] (.pv (.tup [Z (rC js ms t p q w).1,Z (rC js ms t p q w).2.1,Z (rC js ms t p q w).2.2])):=by
 have cr:=IE js ms hjl hml;have cp:=GM t.root p hr hpl;have cq:=GM t.root q hr hql;rw[Co]at cp cq;have co:=HE js ms t w hjl hml hl
 have hN:rC js ms t p q w=if qq js ms t p q w&&ay t then og js ms t (gh js ms w t) p q else(-1,-1,0):=rfl
 have hP:qq js ms t p q w=(decide (bF js ms=0)&&decide (t.root.length=js.length)&&decide (1<=w)&&jz t.root p&&jz t.root q):=rfl;by_cases h0:bF js ms=0
 case neg=>
  rw[decide_eq_false h0,Bool.false_and,Bool.false_and,Bool.false_and,Bool.false_and]at hP;rw[hP,Bool.false_and,if_neg (by simp)]at hN
  have h0':(bF js ms !=0)=true:=by simp[h0]
  rw[hN];refine Dp Tryz.func26 ?_;intro C hP hN;simp only[Tryz.f26]at hN|-;exact Gy
 have h0':(bF js ms !=0)=false:=by simp[h0]
 rw[decide_eq_true h0,Bool.true_and]at hP;by_cases h1:t.root.length=js.length
 case neg=>
  rw[decide_eq_false h1,Bool.false_and,Bool.false_and,Bool.false_and]at hP;rw[hP,Bool.false_and,if_neg (by simp)]at hN
  have h1':((t.root.length:Int)!=(js.length:Int))=true:=by simp;omega
  rw[hN];refine Dp Tryz.func26 ?_;intro C hP hN;simp only[Tryz.f26]at hN|-;exact Gy
 have h1':((t.root.length:Int)!=(js.length:Int))=false:=by simp[h1]
 rw[decide_eq_true h1,Bool.true_and]at hP;by_cases h2:1<=w
 case neg=>
  rw[decide_eq_false h2,Bool.false_and,Bool.false_and]at hP;rw[hP,Bool.false_and,if_neg (by simp)]at hN
  have h2':w<1:=by omega
  rw[hN];refine Dp Tryz.func26 ?_;intro C hP hN;simp only[Tryz.f26]at hN|-;exact Gy
 have h2':¬w<1:=by omega
 rw[decide_eq_true h2,Bool.true_and]at hP
 cases h3:jz t.root p with
 |false=>
  rw[h3,Bool.false_and]at hP;rw[hP,Bool.false_and,if_neg (by simp)]at hN;rw[h3]at cp;rw[hN];refine Dp Tryz.func26 ?_;intro C hP hN;simp only[Tryz.f26]at hN|-;exact Gy
 |true=>
 rw[h3,Bool.true_and]at hP;rw[h3]at cp
 cases h4:jz t.root q with
 |false=>
  rw[h4]at hP cq;rw[hP,Bool.false_and,if_neg (by simp)]at hN;rw[hN];refine Dp Tryz.func26 ?_;intro C hP hN;simp only[Tryz.f26]at hN|-;exact Gy
 |true=>
 rw[h4]at hP cq;rw[hP,Bool.true_and]at hN
 cases hv:ay t with
 |false=>
  rw[hv,if_neg (by simp)]at hN;rw[hv,if_neg (by simp)]at co;rw[hN];refine Dp Tryz.func26 ?_;intro C hP hN;simp only[Tryz.f26]at hN|-;exact Gy
 |true=>
 rw[hv,if_pos rfl]at hN co;rw[hN];clear hN hP;have hz:=bG.1 (dz hv);have hbl:=eN hv;have hol:=zm (js:=js) (ms:=ms) (w:=w) hv;generalize gh js ms w t=OL at *;have b0:=IN t OL p q 0 hv hol hpl hql;have b1:=IN t OL p q 1 hv hol hpl hql;have b2:=IN t OL p q 2 hv hol hpl hql;have b3:=IN t OL p q 3 hv hol hpl hql
 have hG:og js ms t OL p q=if p9 t OL p q 0=true then(-1,-1,1)else if p9 t OL p q 3=false then(-1,-1,2)else if p9 t OL p q 1=true then jx js ms t OL (pg t OL p q 1)else if p9 t OL p q 2=true then(-1,-1,5)else jx js ms t OL (pg t OL p q 3):=rfl
 rw[hG];clear hG;have m1:=HD (op:=OL) (p:=p) (q:=q) (sort:=1) hv;have m3:=HD (op:=OL) (p:=p) (q:=q) (sort:=3) hv
 cases e0:p9 t OL p q 0 with
 |true=>
  rw[e0]at b0;simp only[if_true];generalize pg t OL p q 0=C0 at *;refine Dp Tryz.func26 ?_;intro C hP hN;simp only[Tryz.f26]at hN|-;exact Gy
 |false=>
 rw[e0]at b0;simp only[Bool.false_eq_true,if_false]
 cases e3:p9 t OL p q 3 with
 |false=>
  rw[e3]at b3;simp only[if_true];generalize pg t OL p q 0=C0 at *;generalize pg t OL p q 3=C3 at *;refine Dp Tryz.func26 ?_;intro C hP hN;simp only[Tryz.f26]at hN|-;exact Gy
 |true=>
 rw[e3]at b3;simp only[Bool.true_eq_false,if_false]
 cases e1:p9 t OL p q 1 with
 |true=>
  rw[e1]at b1;simp only[if_true];obtain⟨hlen,hmem⟩:=m1;generalize pg t OL p q 0=C0 at *;generalize pg t OL p q 1=C1 at *;generalize pg t OL p q 3=C3 at *;refine Dp Tryz.func26 ?_;intro C hP hN;simp only[Tryz.f26]at hN|-;refine Gz ?_;refine WP.loopN [] (C1).length (λi st=>st.t 5=.ptr 5 0∧st.h 5=some (.box [.pv (.sl (js.map cW)),.pv (.sl (ms.map fc))] true false)∧st.t 13=.ptr 13 0∧st.h 13=some (.box [.pv (.sl (t.cells.map aW)),.pv (.sl ((ao t).map iv)),.pv (.sl (OL.map B))] true false)∧st.t 17=.pv (.sl ((C1).map zN))∧st.t 23=.pv (Z i)∧va t OL (C1) i) ?_ ?_
  .simp
   exact λj x hj=>by omega
  rintro i st hi ⟨g5,hb5,g13,hb13,g17,g23,hq0⟩;by_cases hlt:i<(C1).length
  .have hlt':(i:Int)<((C1).length:Int):=by omega
   have hwr:=au hlt (by omega);generalize hke:(C1)[i]=k at *
   have hk:(C1)[i]?=some k:=by rw[List.getElem?_eq_getElem hlt,hke]
   obtain⟨hkn,_⟩:=hmem k (List.mem_of_getElem? hk);obtain⟨c,hc⟩:∃c,t.cells[k]?=some c:=⟨_,List.getElem?_eq_getElem hkn⟩;have hce:∀h,t.cells[k]'h=c:=λh=>aT hc h
   have hko:k<OL.length:=by omega
   obtain⟨o,ho⟩:∃o,OL[k]?=some o:=⟨_,List.getElem?_eq_getElem hko⟩;have hoe:∀h,OL[k]'h=o:=λh=>aT ho h
   have hkb:k<(ao t).length:=by omega
   have hbk:(ao t)[k]?=some (dU t (k:Int)):=(wi hv (c:=(k:Int)) hkn).1;have hbe:∀h,(ao t)[k]'h=dU t (k:Int):=λh=>aT hbk h;have cw:=NH js ms (dU t (k:Int)) hjl hml (by have:=(wi hv (c:=(k:Int)) hkn).2.1;omega)
   have hnp:ky t OL k=(decide (c.v.kind=0)&&o):=by simp[ky,zy,hc,ho]
   by_cases hk0:c.v.kind=0
   .have hk0':(c.v.kind==0)=true:=by simp[hk0]
    cases o with
    |true=>
     have:=xQ (js:=js) (ms:=ms) hq0 hk (by rw[hnp,hk0];rfl);rw[this];exact Gy
    |false=>
     have hst:va t OL (C1) (i+1):=λj x hj hx=>by
      by_cases e:j=i
      .subst e;rw[hk]at hx;injection hx with hx;subst hx;rw[hnp,Bool.and_false]
      .exact hq0 j x (by omega) hx
     exact Gy
     all_goals exact hst
   .have hk0':(c.v.kind==0)=false:=by simp[hk0]
    have hst:va t OL (C1) (i+1):=λj x hj hx=>by
     by_cases e:j=i
     .subst e;rw[hk]at hx;injection hx with hx;subst hx;rw[hnp,decide_eq_false hk0,Bool.false_and]
     .exact hq0 j x (by omega) hx
    exact Gy
    all_goals exact hst
  .have hin:i=(C1).length:=by omega
   subst hin;rw[vF hq0];exact Gy
 |false=>
 rw[e1]at b1;simp only[Bool.false_eq_true,if_false]
 cases e2:p9 t OL p q 2 with
 |true=>
  rw[e2]at b2;simp only[if_true];generalize pg t OL p q 0=C0 at *;generalize pg t OL p q 1=C1 at *;generalize pg t OL p q 2=C2 at *;generalize pg t OL p q 3=C3 at *;refine Dp Tryz.func26 ?_;intro C hP hN;simp only[Tryz.f26]at hN|-;exact Gy
 |false=>
  rw[e2]at b2;simp only[Bool.false_eq_true,if_false];obtain⟨hlen,hmem⟩:=m3;generalize pg t OL p q 0=C0 at *;generalize pg t OL p q 1=C1 at *;generalize pg t OL p q 2=C2 at *;generalize pg t OL p q 3=C3 at *;refine Dp Tryz.func26 ?_;intro C hP hN;simp only[Tryz.f26]at hN|-;refine Gz ?_;refine WP.loopN [] (C3).length (λi st=>st.t 5=.ptr 5 0∧st.h 5=some (.box [.pv (.sl (js.map cW)),.pv (.sl (ms.map fc))] true false)∧st.t 13=.ptr 13 0∧st.h 13=some (.box [.pv (.sl (t.cells.map aW)),.pv (.sl ((ao t).map iv)),.pv (.sl (OL.map B))] true false)∧st.t 17=.pv (.sl ((C3).map zN))∧st.t 23=.pv (Z i)∧va t OL (C3) i) ?_ ?_
  .simp
   exact λj x hj=>by omega
  rintro i st hi ⟨g5,hb5,g13,hb13,g17,g23,hq0⟩;by_cases hlt:i<(C3).length
  .have hlt':(i:Int)<((C3).length:Int):=by omega
   have hwr:=au hlt (by omega);generalize hke:(C3)[i]=k at *
   have hk:(C3)[i]?=some k:=by rw[List.getElem?_eq_getElem hlt,hke]
   obtain⟨hkn,_⟩:=hmem k (List.mem_of_getElem? hk);obtain⟨c,hc⟩:∃c,t.cells[k]?=some c:=⟨_,List.getElem?_eq_getElem hkn⟩;have hce:∀h,t.cells[k]'h=c:=λh=>aT hc h
   have hko:k<OL.length:=by omega
   obtain⟨o,ho⟩:∃o,OL[k]?=some o:=⟨_,List.getElem?_eq_getElem hko⟩;have hoe:∀h,OL[k]'h=o:=λh=>aT ho h
   have hkb:k<(ao t).length:=by omega
   have hbk:(ao t)[k]?=some (dU t (k:Int)):=(wi hv (c:=(k:Int)) hkn).1;have hbe:∀h,(ao t)[k]'h=dU t (k:Int):=λh=>aT hbk h;have cw:=NH js ms (dU t (k:Int)) hjl hml (by have:=(wi hv (c:=(k:Int)) hkn).2.1;omega)
   have hnp:ky t OL k=(decide (c.v.kind=0)&&o):=by simp[ky,zy,hc,ho]
   by_cases hk0:c.v.kind=0
   .have hk0':(c.v.kind==0)=true:=by simp[hk0]
    cases o with
    |true=>
     have:=xQ (js:=js) (ms:=ms) hq0 hk (by rw[hnp,hk0];rfl);rw[this];exact Gy
    |false=>
     have hst:va t OL (C3) (i+1):=λj x hj hx=>by
      by_cases e:j=i
      .subst e;rw[hk]at hx;injection hx with hx;subst hx;rw[hnp,Bool.and_false]
      .exact hq0 j x (by omega) hx
     exact Gy
     all_goals exact hst
   .have hk0':(c.v.kind==0)=false:=by simp[hk0]
    have hst:va t OL (C3) (i+1):=λj x hj hx=>by
     by_cases e:j=i
     .subst e;rw[hk]at hx;injection hx with hx;subst hx;rw[hnp,decide_eq_false hk0,Bool.false_and]
     .exact hq0 j x (by omega) hx
    exact Gy
    all_goals exact hst
  .have hin:i=(C3).length:=by omega
   subst hin;rw[vF hq0];exact Gy
set_option maxRecDepth 100000 in
@[simp] theorem Ns:dp Tryz.prog 45:=by
 have hf:=Tryz.func45;have nt:=Tryz.ntmps45;have rs:=Tryz.results45;exact wY
def dD(shs:List Sh):Sce:=⟨sL 8 1,[],shs,[]⟩
abbrev CC:List Sh:=[⟨0,1,[(0,0,0)]⟩,⟨-1,1,[(4,0,0)]⟩]
def uY(shs:List Sh)(cells:Int):Spc×Int:=(sd (dD shs) [0] [8] 1 cells 60 (vH (dD shs) 1)).getD (vH (dD shs) 1,0)
def Dy(shs:List Sh)(cells:Int):Bool:=decide (eu (dD shs)=0)&&kl (dD shs).js (dD shs).ms [0]&&kl (dD shs).js (dD shs).ms [8]&&dt (aI (dD shs).js (dD shs).ms)&&lq (dD shs).js (dD shs).ms (aI (dD shs).js (dD shs).ms)&&ay (lZ (aI (dD shs).js (dD shs).ms) bn) &&
 cX (lZ (aI (dD shs).js (dD shs).ms) bn) 0 (dN (eS (dD shs) (aI (dD shs).js (dD shs).ms) []))&&ay (lZ (aI (dD shs).js (dD shs).ms) (dN (eS (dD shs) (aI (dD shs).js (dD shs).ms) [])))&&decide ((aI (dD shs).js (dD shs).ms).length<=16)&&(sd (dD shs) [0] [8] 1 cells 60 (vH (dD shs) 1)).isSome &&
 decide ((eS (dD shs) (aI (dD shs).js (dD shs).ms) []).ns.length<=100)&&decide ((eS (dD shs) (aI (dD shs).js (dD shs).ms) []).w.a.length<=100)&&decide ((eS (dD shs) (aI (dD shs).js (dD shs).ms) []).w.b.length<=100)
set_option maxRecDepth 100000 in
theorem Oe:Dy [] 9=true:=by kernel_rfl
set_option maxRecDepth 100000 in
theorem Of:Dy CC 40=true:=by kernel_rfl
set_option maxRecDepth 100000 in
theorem Og:(uY [] 9).2=1∧(uY [] 9).1.cells.length=1∧(uY CC 40).2=2:=by
 refine⟨by kernel_rfl,by kernel_rfl,by kernel_rfl⟩
theorem GW(shs:List Sh)(cells:Int)(hs:ScL (dD shs))(h4:1<=cells)(h5:cells<=2048)(hok:Dy shs cells=true):aa Tryz.prog 13 [.pv (jG (dD shs)),.pv (zs [0]),.pv (zs [8]),.pv (Z 1),.pv (Z cells)] [] [] (.pv (.tup [.agg [iv (uY shs cells).1.root,.sl ((uY shs cells).1.cells.map aW)],Z (uY shs cells).2])):=by
 simp only[Dy,Bool.and_eq_true,decide_eq_true_eq]at hok;obtain⟨⟨⟨⟨⟨⟨⟨⟨⟨⟨⟨⟨q1,q2⟩,q3⟩,q4⟩,q5⟩,q6⟩,q7⟩,q8⟩,q9⟩,q10⟩,q11⟩,q12⟩,q13⟩:=hok;obtain⟨R,hR⟩:=Option.isSome_iff_exists.1 q10
 have hRe:uY shs cells=R:=by unfold uY;rw[hR];rfl
 rw[hRe];exact N0 (dD shs) [0] [8] 1 cells 60 R hs q1 q2 q3 (by omega) h4 h5 (by simp) (by simp) q4 q5 q6 q7 ⟨by simp only[dN];omega,by simp only[dN];omega,by simp only[dN];omega⟩ ⟨by show(aI (dD shs).js (dD shs).ms).length<=_;omega,by simp,λc hc=>by simp at hc;subst hc;simp[CQ,bn,aP]⟩ q8 q9 hR
theorem d6:aa Tryz.prog 6 [] [] [] (.pv (B true)):=by
 have cs:=NV 1 8 (by omega) (by omega);have r1:=GW [] 9 ⟨by simp[dD,sL],by simp[dD],by simp[dD],by simp[dD],by simp[dD]⟩ (by omega) (by omega) Oe;have r2:=GW CC 40 ⟨by simp[dD,sL],by simp[dD],by simp[dD,CC],by simp[dD],by simp[dD,CC]⟩ (by omega) (by omega) Of;obtain⟨f1,f2,f3⟩:=Og;rw[f1]at r1;rw[f3]at r2;simp only[dD,CC,jG,eL,bQ,zs,List.map_cons,List.map_nil]at r1 r2;generalize uY [] 9=R1 at *;generalize hRR:(uY [⟨0,1,[(0,0,0)]⟩,⟨-1,1,[(4,0,0)]⟩] 40).1=R2 at *;generalize sL 8 1=J at *;refine Dp Tryz.func6 ?_;intro C hP hN;simp only[Tryz.f6]at hN|-;exact GS f2
def gm(l:List Int):Nat:=(1+tp l.length 2).toNat
def fO(l:List Int):Bx:=aI (sL 40 (gm l)) []
def xW(l:List Int):Tr:=yM ⟨fO l,[aP bn]⟩ l (3+tp l.length 9).toNat
theorem lG(l:List Int):gm l=1∨gm l=2:=by
 have:=eF l.length (k:=2) (by omega) (by omega);unfold gm;omega
theorem BG(l:List Int):dt (fO l)=true∧(fO l).length<=2:=by
 unfold fO;rcases lG l with h|h<;>rw[h]<;>exact⟨by kernel_rfl,by decide +kernel⟩
theorem HA(l:List Int):ay (xW l)=true∧(xW l).root=fO l∧(xW l).cells.length<=60:=by
 have hv:ay ⟨fO l,[aP bn]⟩=true:=by rw[qt];exact(BG l).1
 have hr:=eF l.length (k:=9) (by omega) (by omega);have h1:=CN l hv (3+tp l.length 9).toNat;have h2:=CO (de ⟨fO l,[aP bn]⟩ l (3+tp l.length 9).toNat).2 (aD (de ⟨fO l,[aP bn]⟩ l (3+tp l.length 9).toNat).1) l h1.1 (aD (de ⟨fO l,[aP bn]⟩ l (3+tp l.length 9).toNat).1).length;have h3:=h1.2.2.1;simp only[List.length_singleton]at h3;exact⟨h2.1,by rw[xW,yM,h2.2.1,h1.2.1],by rw[xW,yM,h2.2.2.1];omega⟩
theorem Oa(l:List Int)(hl:l.length<=9223372036854775807):aa Tryz.prog 10 [.pv (zs l)] [] [] (.pv (.tup [ja (sL 40 (gm l)) [],da (xW l)])):=by
 have r2:=eF l.length (k:=2) (by omega) (by omega);have r9:=eF l.length (k:=9) (by omega) (by omega);have c2:=NJ l.length 2 (by decide);have c9:=NJ l.length 9 (by decide);have hk:=lG l
 have e1:IntKind.i64.wrap (1+tp l.length 2)=(gm l:Int):=by
  rw[show(1+tp l.length 2)=(gm l:Int) by unfold gm;omega];exact ab (by omega) (by omega)
 have e2:IntKind.i64.wrap (3+tp l.length 9)=((3+tp l.length 9).toNat:Int):=(ab (by omega) (by omega)).trans (by omega);have cs:=NV (gm l) 40 (by omega) (by omega);have cl:=IJ (sL 40 (gm l)) [] (by rw[Cp];omega) (by simp);have cn:=OO (fO l);have hro:=(BG l).1
 have e3:qK (fO l)=⟨fO l,[aP bn]⟩:=by simp[qK,hro]
 rw[hro,e3]at cn;have cd:=OT ⟨fO l,[aP bn]⟩ l (3+tp l.length 9).toNat (by omega) (by rw[qt];exact hro) (by simp);have e4:yM ⟨fO l,[aP bn]⟩ l (3+tp l.length 9).toNat=xW l:=rfl;have e5:aI (sL 40 (gm l)) []=fO l:=rfl;rw[e4]at cd;rw[e5]at cl;generalize((3+tp l.length 9).toNat:Int)=m at *;generalize sL 40 (gm l)=R at *;generalize(⟨fO l,[aP bn]⟩:Tr)=T at cn cd;generalize fO l=b at cl cn;clear e3 e4 e5;refine Dp Tryz.func10 ?_;intro C hP hN;simp only[Tryz.f10]at hN|-
 with_reducible repeat' (first|refine Sp.h ?_|((first|refine Wd ?_|refine Ss.h ?_|refine Sc.h (c2) ?_|refine Sc.h (c9) ?_|refine Sc.h (cs) ?_|refine Sc.h (cl) ?_|refine Sc.h (cn) ?_|refine Sc.h (cd) ?_|(refine Sb.h ?_ ?_ ?_<;>(try intro hgd)<;>try exact Xy))<;>simp -implicitDefEqProofs (maxSteps:=2000000) [hP,hN,e1,e2]<;>try refine Ya ?_)|refine X2 ?_ ?_|(refine Xd ?_ ?_<;>intro hcd<;>try exact Xx))
theorem FD(js:List J)(ms:List Ms)(t:Tr)(p q:List Int)(w:Int)(hjl:js.length<=9223372036854775807)(hml:ms.length<=9223372036854775807)(hl:t.cells.length<=9223372036854775807)(hr:t.root.length<=9223372036854775807)(hpl:p.length<=9223372036854775807)(hql:q.length<=9223372036854775807):aa Tryz.prog 11 [.pv (ja js ms),.pv (da t),.pv (zs p),.pv (zs q),.pv (Z w)] [] [] (.pv (B true)):=by
 have ca:=JV js ms t p q w hjl hml hl hr hpl hql;have cb:=NK js ms t p q w hjl hml hl hr hpl hql;generalize rC js ms t p q w=x at *;refine Dp Tryz.func11 ?_;intro C hP hN;simp only[Tryz.f11]at hN|-
 with_reducible repeat' (first|refine Sp.h ?_|((first|refine Ss.h ?_|refine Sc.h (ca) ?_|refine Sc.h (cb) ?_|(refine Sb.h ?_ ?_ ?_<;>(try intro hgd)<;>try exact Xy))<;>simp -implicitDefEqProofs (maxSteps:=2000000) [hP,hN])|refine X2 ?_ ?_|(refine Xd ?_ ?_<;>intro hcd<;>try exact Xx))
theorem IP(t:Tr):aa Tryz.prog 5 [.pv (da t)] [] [] (.pv (B (decide (t.root.length<=12)&&decide (t.cells.length<=60)))):=by
 have h1:decide ((t.root.length:Int)<=12)=decide (t.root.length<=12):=by rw[decide_eq_decide];omega
 have h2:decide ((t.cells.length:Int)<=60)=decide (t.cells.length<=60):=by rw[decide_eq_decide];omega
 rw[<-h1,<-h2];generalize hx:decide ((t.root.length:Int)<=12)=x at *;generalize hy:decide ((t.cells.length:Int)<=60)=y at *;cases x
 .skip
  refine Dp Tryz.func5 ?_;intro C hP hN;simp only[Tryz.f5]at hN|-
  with_reducible repeat' (first|refine Sp.h ?_|((first|refine Ss.h ?_|(refine Sb.h ?_ ?_ ?_<;>(try intro hgd)<;>try exact Xy))<;>simp -implicitDefEqProofs (maxSteps:=2000000) [hP,hN,hx,hy])|refine X2 ?_ ?_|(refine Xd ?_ ?_<;>intro hcd<;>try exact Xx))
 .skip
  refine Dp Tryz.func5 ?_;intro C hP hN;simp only[Tryz.f5]at hN|-
  with_reducible repeat' (first|refine Sp.h ?_|((first|refine Ss.h ?_|(refine Sb.h ?_ ?_ ?_<;>(try intro hgd)<;>try exact Xy))<;>simp -implicitDefEqProofs (maxSteps:=2000000) [hP,hN,hx,hy])|refine X2 ?_ ?_|(refine Xd ?_ ?_<;>intro hcd<;>try exact Xx))
set_option maxRecDepth 10000 in
theorem d4(js:List J)(ms:List Ms)(any:Tr)(p q:List Int)(w:Int)(l m o:List Int)(hjl:js.length<=9223372036854775807)(hml:ms.length<=9223372036854775807)(hl:any.cells.length<=9223372036854775807)(hr:any.root.length<=9223372036854775807)(hpl:p.length<=9223372036854775807)(hql:q.length<=9223372036854775807)(hll:l.length<=9223372036854775807):aa Tryz.prog 4 [.pv (ja js ms),.pv (da any),.pv (zs p),.pv (zs q),.pv (Z w),.pv (zs l),.pv (zs m),.pv (zs o)] [] [] (.pv (B true)):=by
 have c0:=d6;have c1:=IP any;have c2:=Oa l hll;have c3:=FD js ms any p q w hjl hml hl hr hpl hql;obtain⟨hv,hR,hC⟩:=HA l;obtain⟨z1,z2,z3,z4,z5⟩:=bG.1 (dz hv);have hk:=lG l
 have hs:(sL 40 (gm l)).length<=9223372036854775807:=by rw[Cp];omega
 generalize xW l=T at *;generalize sL 40 (gm l)=S at *;have c4:=d9 T.root m (by omega) z5;have c5:=d9 T.root o (by omega) z5
 have lm:(mB T.root m).length<=100:=by rw[rt];omega
 have lo:(mB T.root o).length<=100:=by rw[rt];omega
 have c6:=FD S [] T (mB T.root m) (mB T.root o) (yc .and .i64 w 15) hs (by simp) (by omega) (by omega) (by omega) (by omega);have c7:=FD S [] T (mB T.root m) (mB T.root o) 1 hs (by simp) (by omega) (by omega) (by omega) (by omega);have c8:=FD S [] any p q w hs (by simp) hl hr hpl hql;generalize mB T.root m=M at *;generalize mB T.root o=O at *;generalize hW:yc .and .i64 w 15=W at *
 cases hs2:(decide (any.root.length<=12)&&decide (any.cells.length<=60))with
 |false=>
  rw[hs2]at c1;refine Dp Tryz.func4 ?_;intro C hP hN;simp only[Tryz.f4]at hN|-
  with_reducible repeat' (first|refine Sp.h ?_|((first|refine Wd ?_|refine Ss.h ?_|refine Sc.h (c0) ?_|refine Sc.h (c1) ?_|(refine Sb.h ?_ ?_ ?_<;>(try intro hgd)<;>try exact Xy))<;>simp -implicitDefEqProofs (maxSteps:=2000000) [hP,hN]<;>try refine Ya ?_)|refine X2 ?_ ?_|(refine Xd ?_ ?_<;>intro hcd<;>try exact Xx))
 |true=>
 rw[hs2]at c1;by_cases h0:12<js.length
 .have h0':(12:Int)<(js.length:Int):=by omega
  refine Dp Tryz.func4 ?_;intro C hP hN;simp only[Tryz.f4]at hN|-
  with_reducible repeat' (first|refine Sp.h ?_|((first|refine Wd ?_|refine Ss.h ?_|refine Sc.h (c0) ?_|refine Sc.h (c1) ?_|(refine Sb.h ?_ ?_ ?_<;>(try intro hgd)<;>try exact Xy))<;>simp -implicitDefEqProofs (maxSteps:=2000000) [hP,hN,h0,h0']<;>try refine Ya ?_)|refine X2 ?_ ?_|(refine Xd ?_ ?_<;>intro hcd<;>try exact Xx))
 have h0':¬(12:Int)<(js.length:Int):=by omega
 by_cases h1:20<p.length
 .have h1':(20:Int)<(p.length:Int):=by omega
  refine Dp Tryz.func4 ?_;intro C hP hN;simp only[Tryz.f4]at hN|-
  with_reducible repeat' (first|refine Sp.h ?_|((first|refine Wd ?_|refine Ss.h ?_|refine Sc.h (c0) ?_|refine Sc.h (c1) ?_|(refine Sb.h ?_ ?_ ?_<;>(try intro hgd)<;>try exact Xy))<;>simp -implicitDefEqProofs (maxSteps:=2000000) [hP,hN,h0,h0',h1,h1']<;>try refine Ya ?_)|refine X2 ?_ ?_|(refine Xd ?_ ?_<;>intro hcd<;>try exact Xx))
 have h1':¬(20:Int)<(p.length:Int):=by omega
 by_cases h2:20<q.length
 .have h2':(20:Int)<(q.length:Int):=by omega
  refine Dp Tryz.func4 ?_;intro C hP hN;simp only[Tryz.f4]at hN|-
  with_reducible repeat' (first|refine Sp.h ?_|((first|refine Wd ?_|refine Ss.h ?_|refine Sc.h (c0) ?_|refine Sc.h (c1) ?_|(refine Sb.h ?_ ?_ ?_<;>(try intro hgd)<;>try exact Xy))<;>simp -implicitDefEqProofs (maxSteps:=2000000) [hP,hN,h0,h0',h1,h1',h2,h2']<;>try refine Ya ?_)|refine X2 ?_ ?_|(refine Xd ?_ ?_<;>intro hcd<;>try exact Xx))
 have h2':¬(20:Int)<(q.length:Int):=by omega
 refine Dp Tryz.func4 ?_;intro C hP hN;simp only[Tryz.f4]at hN|-
 with_reducible repeat' (first|refine Sp.h ?_|((first|refine Wd ?_|refine Ss.h ?_|refine Sc.h (c0) ?_|refine Sc.h (c1) ?_|refine Sc.h (c2) ?_|refine Sc.h (c3) ?_|refine Sc.h (c4) ?_|refine Sc.h (c5) ?_|refine Sc.h (c6) ?_|refine Sc.h (c7) ?_|refine Sc.h (c8) ?_|(refine Sb.h ?_ ?_ ?_<;>(try intro hgd)<;>try exact Xy))<;>simp -implicitDefEqProofs (maxSteps:=2000000) [hP,hN,hW,h0,h0',h1,h1',h2,h2']<;>try refine Ya ?_)|refine X2 ?_ ?_|(refine Xd ?_ ?_<;>intro hcd<;>try exact Xx))
end Go.Ab
