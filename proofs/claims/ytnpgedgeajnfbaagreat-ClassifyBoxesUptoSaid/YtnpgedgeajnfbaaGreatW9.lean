/- The contracts and facts that the laws of this seat need, in one text (Ab32, K18, KR6, KR7, KR8, KR9, KR10, KR11, KR12, KR13, KR14, KR15, KR16, KR17, K19, KR18, KR19, Ab40, KL7). -/
import Derived.Test.YtnpgedgeajnfbaaGreatW8
set_option linter.all false
set_option maxHeartbeats 16000000
namespace Go.Ab
theorem WP.freeze {C : Cx} {c : Code} {Q : Exit→St→Prop} {st : St} (s : Nat) {k e sz fz : Nat} {xs : List PV} (hk : st.h k=some (.row e sz xs fz)) (ht : st.t s=.arr k xs.length) (h : WP C c Q ⟨al st.t s (.pv (.sl xs)),al st.h k (some (.row e sz xs xs.length))⟩) : WP C c Q st:=by
 intro a w hs
 obtain ⟨L,hm,hN,hdf,htm⟩:=hs
 obtain ⟨hA,hR⟩:=tj hm hk
 refine h a w ⟨L,hA.1,hN,hdf,fun n=>?_⟩
 have hold:=(htm n).mono hA.2.1 hA.2.2
 show RepA w _ L _ (al st.t s (.pv (.sl xs)) n) _
 by_cases hn : n=s
 ·subst hn
  rw [bo]
  have hv:=htm n
  rw [ht] at hv
  cases hv with
  |arr hk2 hn2 hu=>
   rw [hk] at hk2;injection hk2 with hk2;injection hk2 with _ _ a3 _
   subst a3
   rw [hu rfl]
   exact .pv hR
 ·rw [bY hn];exact hold
theorem xX {P : Program} {o : Oper} {ρ : Operand→AV} {t t' : TypeId} {x y : Operand} {a b c : Bool} (ho : o.op=.binOp .neq t x y t') (hx : ρ x=.pv (.val (.bool a))) (hy : ρ y=.pv (.val (.bool b)))
 (hg : P.eqGuardType P.depth t=false) (h : ai P (Op.equal t (.bool a) (.bool b))=some c) : bf P o ρ=some (.pv (.val (.bool !c)),[]):=by
 refine bV (by rw [ho];simp [Op.operands,hx,hy,cL]) ?_
 unfold execOp
 rw [ho]
 simp only [(aR hx).2,(aR hy).2]
 have h1 : ai P (eqGuard .neq t x y (.bool a) (.bool b))=some ():=by
  unfold eqGuard;simp only [Bool.not_true,Bool.false_eq_true,if_false,ag,eI,Option.bind_some,hg,Bool.not_false,if_true];rfl
 have h2 : ai P (binOp .neq t (.bool a) (.bool b))=some (.bool !c):=by
  simp only [binOp,ag,h,Option.bind_some];rfl
 simp only [ag,h1,h2,Option.bind_some];rfl
theorem WP.nilsl {C : Cx} {c : Code} {Q : Exit→St→Prop} {st : St} (s : Nat) (ht : st.t s=.pv (.val (.slice none 0 0))) (h : WP C c Q ⟨al st.t s (.pv (.sl [])),st.h⟩) : WP C c Q st:=by
 intro a w hs
 obtain ⟨L,hm,hN,hdf,htm⟩:=hs
 refine h a w ⟨L,hm,hN,hdf,fun n=>?_⟩
 show RepA w _ L _ (al st.t s (.pv (.sl [])) n) _
 by_cases hn : n=s
 ·subst hn
  rw [bo]
  have hv:=htm n
  rw [ht] at hv
  cases hv with
  |pv hr=>rw [bI hr];exact .pv (.sl0 none 0)
 ·rw [bY hn];exact htm n
end Go.Ab
namespace Go.Ab
open Go.Proofs
theorem rz (js : List J) (ms : List Ms) (l : Int) (hl : js.length≤9223372036854775807) : ah Tryz.prog 104 [.pv (jq js ms),.pv (Z l)] [] [] (.pv (B (dV js.length l))):=by
 refine Dp Tryz.func104 ?_
 intro C hP hN
 simp only [Tryz.f104] at hN ⊢
 with_reducible repeat' (first|refine Sp.h ?_|((first|refine Ss.h ?_|(refine Sb.h ?_ ?_ ?_<;>(try intro hgd)<;>try exact Xy))<;>simp -implicitDefEqProofs (maxSteps:=2000000) [hP,hN])|refine X2 ?_ ?_|(refine Xd ?_ ?_<;>intro hcd<;>try exact Xx))
 all_goals (simp only [dV,decide_eq_true_eq,decide_eq_false_iff_not] at *;first|done|(simp;intros;omega)|(simp;omega)|omega)
theorem G8 (a b : Bool) : ai Tryz.prog (Op.equal 4 (.bool a) (.bool b))=some (a==b):=by cases a<;>cases b<;>kernel_rfl
def C9 (x : AV) : Option Bool:=match x with
 |.pv (.val (.bool a))=>some a
 |_=>none
theorem xm {x : AV} {a : Bool} (h : C9 x=some a) : x=.pv (B a):=by
 unfold C9 at h
 split at h
 ·injection h with h;subst h;rfl
 ·cases h
def zW (x y : AV) (fb : Option bw) : Option bw:=match C9 x,C9 y with
 |some a,some b=>some (.pv (.val (.bool !(a==b))),[])
 |_,_=>fb
@[simp] theorem F0 (a b : Bool) (fb : Option bw) : zW (.pv (.val (.bool a))) (.pv (.val (.bool b))) fb=some (.pv (.val (.bool !(a==b))),[]):=rfl
@[simp] theorem JC {dst : Option Nat} {ty : TypeId} {pos : String} {aft : Array Edge} {g : Option (Nat × Bool)} {ρ : Operand→AV} (x y : Operand) :
 bf Tryz.prog ⟨dst,.binOp .neq 4 x y 4,ty,pos,aft,g⟩ ρ=zW (ρ x) (ρ y) (i9 Tryz.prog ⟨dst,.binOp .neq 4 x y 4,ty,pos,aft,g⟩ ρ):=by
 unfold zW
 split
 ·rename_i a b hx hy
  exact xX rfl (xm hx) (xm hy) (by kernel_rfl) (G8 a b)
 ·rfl
def iV (xs : List Int) (x : Int) : Bool:=xs.any (fun y=>y==x)
theorem EW (xs : List Int) (x : Int) (hl : xs.length≤9223372036854775807) : ah Tryz.prog 179 [.pv (zs xs),.pv (Z x)] [] [] (.pv (B (iV xs x))):=by
 have hd : iV xs x=xs.any (fun y=>y==x):=rfl
 rw [hd]
 refine Dp Tryz.func179 ?_
 intro C hP hN
 simp only [Tryz.f179] at hN ⊢
 refine Gz ?_
 refine WP.loopN [] xs.length (fun i st=>st.t 0=.pv (zs xs)∧st.t 1=.pv (Z x)∧st.t 5=.pv (Z i)∧∀ k y,k < i→xs[k]?=some y→(y==x)=false) (by simp) ?_
 rintro i st hi ⟨g0,g1,g5,hq⟩
 by_cases hlt : i < xs.length
 ·have hw:=bi hlt hl
  generalize hxe : xs[i]=v at *
  have hx : xs[i]?=some v:=by rw [List.getElem?_eq_getElem hlt,hxe]
  have hst:=zZ (p:=fun y=>y==x) hx hq
  have hY:=Cq (p:=fun y=>y==x) hx
  cases hc : (v==x) with
  |true=>
   have hy:=hY hc
   exact Gy
  |false=>
   have hst':=hst hc
   refine Gz ?_
   all_goals (intro k y hk hy;simpa using hst' k y hk hy)
 ·have hn:=Cr hq hlt
  exact Gy
def o4 (js : List J) (k : Int) : Int:=((js[k.toNat]?).map J.parent).getD (-1)
def fq (js : List J) : Nat→Int→List Int
 |0,_=>[]
 |f+1,k=>if k=-1 then [] else fq js f (o4 js k)++[k]
theorem rU {js : List J} (hj : oh js) {k : Int} (h0 : 0≤k) (h1 : k < js.length) : ∃ j,js[k.toNat]?=some j∧o4 js k=j.parent∧-1≤j.parent∧j.parent < k:=by
 have hx : js[k.toNat]?=some (js[k.toNat]'(by omega)):=List.getElem?_eq_getElem _
 have:=hj _ _ hx
 unfold uM at this
 refine ⟨_,hx,by simp [o4,hx],by omega,by omega⟩
theorem xn {js : List J} (hj : oh js) : ∀ (f : Nat) (k : Int),-1≤k→k < js.length→(k+1).toNat≤f→fq js (f+1) k=fq js f k
 |0,k,h0,h1,hf=>by
  have : k=-1:=by omega
  subst this
  simp [fq]
 |f+1,k,h0,h1,hf=>by
  by_cases hk : k=-1
  ·subst hk;simp [fq]
  ·obtain ⟨j,_,hp,a,b⟩:=rU hj (by omega) h1
   rw [fq,if_neg hk,xn hj f (o4 js k) (by omega) (by omega) (by omega),fq,if_neg hk]
theorem xp {js : List J} (hj : oh js) (hl : js.length≤10) {k : Int} (h0 : 0≤k) (h1 : k < js.length) : fq js 11 k=fq js 11 (o4 js k)++[k]:=by
 obtain ⟨j,_,hp,a,b⟩:=rU hj h0 h1
 rw [fq,if_neg (by omega),xn hj 10 (o4 js k) (by omega) (by omega) (by omega)]
theorem uL {js : List J} : ∀ (f : Nat) (k : Int),(fq js f k).length≤f
 |0,k=>by simp [fq]
 |f+1,k=>by
  have:=uL (js:=js) f (o4 js k)
  rw [fq]
  split
  ·simp
  ·simp;omega
theorem EX (js : List J) (ms : List Ms) (l : Int) (hl : js.length≤10) (hm : ms.length≤9223372036854775807) (h0 : cY js ms=0) (hk : dV js.length l=true) : ah Tryz.prog 178 [.pv (jq js ms),.pv (Z l)] [] [] (.pv (zs (fq js 11 l))):=by
 have cr:=wW js ms (by omega) hm
 have ci:=rz js ms l (by omega)
 rw [h0] at cr
 rw [hk] at ci
 obtain ⟨hj,_,_⟩:=oM h0
 simp only [dV,Bool.and_eq_true,decide_eq_true_eq] at hk
 refine Dp Tryz.func178 ?_
 intro C hP hN
 simp only [Tryz.f178] at hN ⊢
 refine Gz ?_
 refine WP.nilsl 5 (by simp) ?_
 refine WP.loopN [26] (l+1).toNat (fun i st=>∃ (A : List Int) (k : Int),st.t 2=.ptr 2 0∧st.h 2=some (.box [.pv (.sl (js.map gq)),.pv (.sl (ms.map eG))] true false)∧st.t 5=.pv (zs A)∧st.t 6=.pv (Z k)∧st.h 26=none∧st.h 28=none∧fq js 11 k++A=fq js 11 l∧-1≤k∧k < js.length∧(k+1).toNat+i≤(l+1).toNat∧A.length≤i) ⟨[],l,by simp;omega⟩ ?_
 rintro i st hi ⟨A,k,g2,hb2,g5,g6,hb26,hb28,hA,k0,k1,kN,hAl⟩
 by_cases hlt : k=-1
 ·subst hlt
  have hA' : A=fq js 11 l:=by rw [← hA];simp [fq]
  subst hA'
  exact Gy
 ·obtain ⟨j,hx,hp,pa,pb⟩:=rU hj (by omega) k1
  have hlt' : (k !=-1)=true:=by simp [hlt]
  obtain ⟨n,rfl⟩ : ∃ n : Nat,k=n:=⟨k.toNat,by omega⟩
  have hnl : n < js.length:=by omega
  have hxe : ∀ h,js[n]'h=j:=fun h=>by rw [Int.toNat_natCast,List.getElem?_eq_getElem h] at hx;exact Option.some.inj hx
  rw [Int.toNat_natCast] at hx
  have hst:=xp hj hl (k:=n) (by omega) k1
  rw [hst,List.append_assoc,hp] at hA
  have hAl2 : A.length≤9:=by omega
  have hZ : (A.map Z).length=A.length:=by simp
  with_reducible iterate 8 any_goals (first|refine Sp.h ?_|((first|refine Wh [26] ?_|refine Ss.h ?_|(refine Sb.h ?_ ?_ ?_<;>(try intro hgd)<;>try exact Xy))<;>simp -implicitDefEqProofs (maxSteps:=2000000) [hP,hN,g2,hb2,g5,g6,hb26,hb28,hlt,hlt',hx,hxe,hnl,show (1+A.length) * 8≤140737488355328 by omega,show (A.length+1) * 8≤140737488355328 by omega,show 1+A.length≤9223372036854775807 by omega,show A.length+1≤9223372036854775807 by omega])|refine X2 ?_ ?_|(refine Xd ?_ ?_<;>intro hcd<;>try exact Xx))
  refine WP.freeze 5 (k:=26) (e:=3) (sz:=1) (fz:=0) (xs:=((n : Int) :: A).map Z) (by simp) (by simp;omega) ?_
  with_reducible repeat' (first|refine Sp.h ?_|((first|refine Ss.h ?_|(refine Sb.h ?_ ?_ ?_<;>(try intro hgd)<;>try exact Xy))<;>simp -implicitDefEqProofs (maxSteps:=2000000) [hP,hN,g2,hb2,g5,g6,hb26,hb28,hlt,hlt',hx,hxe,hnl])|refine X2 ?_ ?_|(refine Xd ?_ ?_<;>intro hcd<;>try exact Xx))
  exact ⟨by omega,(n : Int) :: A,by simp,by simpa using hA,pa,by omega,by omega,by simp;omega⟩
def Bl (js : List J) (a b : Int) (k : Nat) : Bool:=iV (fq js 11 a) k !=iV (fq js 11 b) k
def mN (js : List J) (a b : Int) (n : Nat) : List Int:=((List.range n).filter (Bl js a b)).map Int.ofNat
theorem Ch (js : List J) (a b : Int) (n : Nat) : mN js a b (n+1)=mN js a b n++(if Bl js a b n=true then [(n : Int)] else []):=by
 simp only [mN,List.range_succ,List.filter_append,List.map_append]
 congr 1
 cases h : Bl js a b n<;>simp [h]
theorem y4 (js : List J) (a b : Int) (n : Nat) : (mN js a b n).length≤n:=by
 simp only [mN,List.length_map]
 exact Nat.le_trans (List.length_filter_le _ _) (by simp)
theorem G9 (js : List J) (ms : List Ms) (a b : Int) (hl : js.length≤10) (hm : ms.length≤9223372036854775807) (h0 : cY js ms=0) (ha : dV js.length a=true) (hb : dV js.length b=true) : ah Tryz.prog 151 [.pv (jq js ms),.pv (Z a),.pv (Z b)] [] [] (.pv (zs (mN js a b js.length))):=by
 have cr:=wW js ms (by omega) hm
 have ca:=rz js ms a (by omega)
 have cb:=rz js ms b (by omega)
 have ka:=EX js ms a hl hm h0 ha
 have kb:=EX js ms b hl hm h0 hb
 have na:=uL (js:=js) 11 a
 have nb:=uL (js:=js) 11 b
 rw [h0] at cr
 rw [ha] at ca
 rw [hb] at cb
 refine Dp Tryz.func151 ?_
 intro C hP hN
 simp only [Tryz.f151] at hN ⊢
 with_reducible repeat' (first|refine Sp.h ?_|((first|refine Wh [9] ?_|refine Wi [9] ?_|refine Ss.h ?_|refine Sc.h (cr) ?_|refine Sc.h (ca) ?_|refine Sc.h (cb) ?_|refine Sc.h (ka) ?_|refine Sc.h (kb) ?_|(refine Sb.h ?_ ?_ ?_<;>(try intro hgd)<;>try exact Xy))<;>simp -implicitDefEqProofs (maxSteps:=2000000) [hP,hN]<;>try refine Ya ?_)|refine X2 ?_ ?_|(refine Xd ?_ ?_<;>intro hcd<;>try exact Xx))
 refine WP.loopN [] js.length (fun i st=>st.t 3=.ptr 3 0∧st.h 3=some (.box [.pv (.sl (js.map gq)),.pv (.sl (ms.map eG))] true false)∧st.t 7=.pv (zs (fq js 11 a))∧st.t 8=.pv (zs (fq js 11 b))∧st.t 10=.pv (Z i)∧st.t 9=.arr 9 (mN js a b i).length∧st.h 9=some (.row 3 1 ((mN js a b i).map Z) 0)) (by simp [mN]) ?_
 rintro i st hi ⟨g3,hb3,g7,g8,g10,g9,hb9⟩
 by_cases hlt : i < js.length
 ·have hw:=bi hlt (by omega)
  have hS:=Ch js a b i
  have hL:=y4 js a b i
  have hd : Bl js a b i=(iV (fq js 11 a) i !=iV (fq js 11 b) i):=rfl
  have c1:=EW (fq js 11 a) i (by omega)
  have c2:=EW (fq js 11 b) i (by omega)
  have hlt' : (i : Int) < (js.length : Int):=by omega
  generalize fq js 11 a=A at *
  generalize fq js 11 b=B' at *
  cases h1 : iV A i<;>cases h2 : iV B' i<;>rw [h1] at c1 hd<;>rw [h2] at c2 hd<;>rw [hd] at hS<;>simp only [bne_self_eq_false,Bool.false_eq_true,if_false,List.append_nil,show (true !=false)=true from rfl,show (false !=true)=true from rfl,if_true] at hS
  all_goals (generalize mN js a b i=P at *;rw [hS])
  ·skip
   exact Gy
  ·skip
   with_reducible repeat' (first|refine Sp.h ?_|((first|refine Wd ?_|refine Ss.h ?_|refine Sc.h (c1) ?_|refine Sc.h (c2) ?_|(refine Sb.h ?_ ?_ ?_<;>(try intro hgd)<;>try exact Xy))<;>simp -implicitDefEqProofs (maxSteps:=2000000) [hP,hN,g3,hb3,g7,g8,g10,g9,hb9,hlt,hlt',hw,show (P.length+1) * 8≤140737488355328 by omega,show P.length≤9223372036854775806 by omega]<;>try refine Ya ?_)|refine X2 ?_ ?_|(refine Xd ?_ ?_<;>intro hcd<;>try exact Xx))
  ·skip
   with_reducible repeat' (first|refine Sp.h ?_|((first|refine Wd ?_|refine Ss.h ?_|refine Sc.h (c1) ?_|refine Sc.h (c2) ?_|(refine Sb.h ?_ ?_ ?_<;>(try intro hgd)<;>try exact Xy))<;>simp -implicitDefEqProofs (maxSteps:=2000000) [hP,hN,g3,hb3,g7,g8,g10,g9,hb9,hlt,hlt',hw,show (P.length+1) * 8≤140737488355328 by omega,show P.length≤9223372036854775806 by omega]<;>try refine Ya ?_)|refine X2 ?_ ?_|(refine Xd ?_ ?_<;>intro hcd<;>try exact Xx))
  ·skip
   exact Gy
 ·have hin : i=js.length:=by omega
  subst hin
  exact Gy
def mi (js : List J) (k : Nat) : Bool:=match js[k]? with
 |some j=>decide (j.lo < j.hi)
 |none=>false
def qJ (js : List J) (a b : Int) : Bool:=(mN js a b js.length).all fun k=>!mi js k.toNat
theorem Ha (js : List J) (ms : List Ms) (a b : Int) (hl : js.length≤10) (hm : ms.length≤9223372036854775807) (h0 : cY js ms=0) (ha : dV js.length a=true) (hb : dV js.length b=true) : ah Tryz.prog 111 [.pv (jq js ms),.pv (Z a),.pv (Z b)] [] [] (.pv (B (qJ js a b))):=by
 have cr:=wW js ms (by omega) hm
 have ca:=rz js ms a (by omega)
 have cb:=rz js ms b (by omega)
 have kb:=G9 js ms a b hl hm h0 ha hb
 have nb:=y4 js a b js.length
 rw [h0] at cr
 rw [ha] at ca
 rw [hb] at cb
 have hd : qJ js a b=(mN js a b js.length).all fun k=>!mi js k.toNat:=rfl
 have hmem : ∀ x ∈ mN js a b js.length,∃ n : Nat,x=n∧n < js.length:=fun x hx=>by
  simp only [mN,List.mem_map,List.mem_filter,List.mem_range] at hx
  obtain ⟨n,hn,rfl⟩:=hx
  exact ⟨n,rfl,hn.1⟩
 rw [hd]
 generalize mN js a b js.length=P at *
 refine Dp Tryz.func111 ?_
 intro C hP hN
 simp only [Tryz.f111] at hN ⊢
 refine Gz ?_
 refine WP.loopN [] P.length (fun i st=>st.t 3=.ptr 3 0∧st.h 3=some (.box [.pv (.sl (js.map gq)),.pv (.sl (ms.map eG))] true false)∧st.t 7=.pv (zs P)∧st.t 8=.pv (Z i)∧∀ k x,k < i→P[k]?=some x→(!mi js x.toNat)=true) (by simp) ?_
 rintro i st hi ⟨g3,hb3,g7,g8,hq⟩
 by_cases hlt : i < P.length
 ·have hw:=bi hlt (by omega)
  obtain ⟨n,hxn,hnl⟩:=hmem P[i] (List.getElem_mem hlt)
  generalize hxe : P[i]=v at *
  have hx : P[i]?=some v:=by rw [List.getElem?_eq_getElem hlt,hxe]
  have hst:=ky (p:=fun k=>!mi js k.toNat) hx hq
  subst hxn
  obtain ⟨j,hj⟩ : ∃ j,js[n]?=some j:=⟨_,List.getElem?_eq_getElem hnl⟩
  have hje : ∀ h,js[n]'h=j:=fun h=>by rw [List.getElem?_eq_getElem h] at hj;exact Option.some.inj hj
  have hmv : mi js n=decide (j.lo < j.hi):=by simp [mi,hj]
  by_cases hc : j.lo < j.hi
  ·have hall : (P.all fun k=>!mi js k.toNat)=false:=by
    rw [List.all_eq_false]
    exact ⟨_,List.mem_of_getElem? hx,by simp [hmv,hc]⟩
   exact Gy
  ·have hst':=hst (by simp [hmv,hc])
   refine Gz ?_
   all_goals (intro k x hk hx;simpa using hst' k x hk hx)
 ·have hall : (P.all fun k=>!mi js k.toNat)=true:=lO hq hlt
  exact Gy
theorem Hb (s : Sce) (a b : Int) (hl : s.sks.length≤9223372036854775807) : ah Tryz.prog 112 [.pv (fh s),.pv (Z a),.pv (Z b)] [] [] (.pv (B (iE s a b))):=by
 have hsk : iE s a b=s.sks.any (rC a b):=rfl
 rw [hsk]
 refine Dp Tryz.func112 ?_
 intro C hP hN
 simp only [Tryz.f112] at hN ⊢
 refine Gz ?_
 refine WP.loopN [8] s.sks.length (fun i st=>st.t 3=.ptr 3 0∧st.h 3=some (.box [.pv (.sl (s.js.map gq)),.pv (.sl (s.ms.map eG)),.pv (.sl (s.shs.map dU)),.pv (.sl (s.sks.map bF))] true false)∧st.t 1=.pv (Z a)∧st.t 2=.pv (Z b)∧st.t 7=.pv (Z i)∧st.h 8=none∧∀ k x,k < i→s.sks[k]?=some x→rC a b x=false) (by simp) ?_
 rintro i st hi ⟨g3,hb3,g1,g2,g7,hb8,hq⟩
 by_cases hlt : i < s.sks.length
 ·have hw:=bi hlt hl
  have hlt' : (i : Int) < (s.sks.length : Int):=by omega
  generalize hxe : s.sks[i]=v at *
  have hx : s.sks[i]?=some v:=by rw [List.getElem?_eq_getElem hlt,hxe]
  have hst:=zZ (p:=rC a b) hx hq
  have hY:=Cq (p:=rC a b) hx
  have hp : rC a b v=((v.1==a && v.2==b) || (v.1==b && v.2==a)):=rfl
  cases c1 : (v.1==a)<;>cases c2 : (v.2==b)<;>cases c3 : (v.1==b)<;>cases c4 : (v.2==a)<;>rw [c1,c2,c3,c4] at hp<;>simp only [Bool.and_self,Bool.and_false,Bool.false_and,Bool.or_false,Bool.false_or,Bool.or_self,Bool.or_true,Bool.true_or] at hp
  all_goals (first|(have hst':=hst hp;clear hst hY)|(have hy:=hY hp;clear hst hY))
  all_goals
   with_reducible repeat' (first|refine Sp.h ?_|((first|refine Ss.h ?_|(refine Sb.h ?_ ?_ ?_<;>(try intro hgd)<;>try exact Xy))<;>simp -implicitDefEqProofs (maxSteps:=2000000) [hP,hN,g3,hb3,g1,g2,g7,hb8,hlt,hlt',hw,hx,hxe,c1,c2,c3,c4])|refine X2 ?_ ?_|(refine Xd ?_ ?_<;>intro hcd<;>try exact Xx))
  all_goals (first|exact fun k u v hk hx=>hst' k (u,v) (by omega) hx|exact ⟨_,_,List.mem_of_getElem? hx,hp⟩)
 ·have:=Cr hq hlt
  have hlt' : ¬ (i : Int) < (s.sks.length : Int):=by omega
  exact Gy
theorem Da (s : Sce) (hs : ScL s) : ah Tryz.prog 53 [.pv (fh s)] [] [] (.pv (Z (cD s))):=by
 have cr:=wW s.js s.ms hs.js hs.ms
 obtain ⟨l1,l2,l3,l4,l5⟩:=hs
 by_cases h0 : cY s.js s.ms=0
 case neg=>
  have hf : cD s=cY s.js s.ms:=by simp [cD,h0]
  have h0' : (cY s.js s.ms !=0)=true:=by simp [h0]
  rw [hf]
  generalize cY s.js s.ms=r at *
  refine Dp Tryz.func53 ?_
  intro C hP hN
  simp only [Tryz.f53] at hN ⊢
  exact Gy
 rw [h0] at cr
 by_cases h1 : 24 < s.shs.length
 ·have hf : cD s=901:=by simp [cD,h0,h1]
  have h1' : (24 : Int) < s.shs.length:=by omega
  rw [hf]
  refine Dp Tryz.func53 ?_
  intro C hP hN
  simp only [Tryz.f53] at hN ⊢
  exact Gy
 have h1' : ¬ (24 : Int) < s.shs.length:=by omega
 have hf : cD s=if gj s.js.length s.shs≠0 then gj s.js.length s.shs else if 64 < s.sks.length then 903 else if s.sks.all (iW s.js.length)=true then 0 else 903:=by simp only [cD,h0,h1,if_false,ne_eq,not_true_eq_false]
 rw [hf]
 refine Dp Tryz.func53 ?_
 intro C hP hN
 simp only [Tryz.f53] at hN ⊢
 refine Gz ?_
 refine WP.loopN [5] s.shs.length (fun i st=>st.t 1=.ptr 1 0∧st.h 1=some (.box [.pv (.sl (s.js.map gq)),.pv (.sl (s.ms.map eG)),.pv (.sl (s.shs.map dU)),.pv (.sl (s.sks.map bF))] true false)∧st.t 4=.pv (Z i)∧st.h 5=none∧∀ k x,k < i→s.shs[k]?=some x→dy s.js.length x=0) (by simp) ?_
 rintro i st hi ⟨g1,hb1,g4,hb5,hq⟩
 by_cases hlt : i < s.shs.length
 ·have hw:=bi hlt l3
  have hlt' : (i : Int) < (s.shs.length : Int):=by omega
  have hfd:=qK (n:=s.js.length) hlt hq
  have hst:=fun he=>ky (p:=fun x=>dy s.js.length x==0) (List.getElem?_eq_getElem hlt) (fun k x hk hx=>by simp [hq k x hk hx]) he
  generalize hxe : s.shs[i]=v at *
  have hx : s.shs[i]?=some v:=by rw [List.getElem?_eq_getElem hlt,hxe]
  have ci:=rz s.js s.ms v.link l1
  have cb:=zL v.rad 1 1048576
  have lv:=l5 v (List.mem_of_getElem? hx)
  cases hk : dV s.js.length v.link with
  |false=>
   have hev : dy s.js.length v=902:=by simp [dy,hk]
   have hfe:=hfd (by rw [hev];decide)
   rw [hev] at hfe
   rw [hk] at ci
   exact Gy
   all_goals simp [hfe]
  |true=>
   rw [hk] at ci
   cases hr : bM v.rad 1 1048576 with
   |false=>
    have hev : dy s.js.length v=902:=by
     unfold dy
     rw [if_neg]
     simp only [bM] at hr
     simp only [Bool.and_eq_true,decide_eq_true_eq]
     simp at hr
     omega
    have hfe:=hfd (by rw [hev];decide)
    rw [hev] at hfe
    rw [hr] at cb
    exact Gy
    all_goals simp [hfe]
   |true=>
    rw [hr] at cb
    by_cases h3 : (v.pts.length : Int) < 1
    ·have hev : dy s.js.length v=902:=by
      unfold dy
      rw [if_neg]
      simp only [Bool.and_eq_true,decide_eq_true_eq]
      omega
     have hfe:=hfd (by rw [hev];decide)
     rw [hev] at hfe
     exact Gy
     all_goals simp [hfe]
    by_cases h4 : (8 : Int) < v.pts.length
    ·have hev : dy s.js.length v=902:=by
      unfold dy
      rw [if_neg]
      simp only [Bool.and_eq_true,decide_eq_true_eq]
      omega
     have hfe:=hfd (by rw [hev];decide)
     rw [hev] at hfe
     exact Gy
     all_goals simp [hfe]
    have h3' : ¬ v.pts.length < 1:=by omega
    have h4' : ¬ 8 < v.pts.length:=by omega
    have hev : dy s.js.length v=if v.pts.all (bg 4194304)=true then 0 else 805:=by
     unfold dy
     rw [if_pos]
     simp only [bM,Bool.and_eq_true,decide_eq_true_eq] at hr ⊢
     exact ⟨⟨⟨⟨hk,by omega⟩,by omega⟩,by omega⟩,by omega⟩
    rw [hev] at hfd hst
    refine Gz ?_
    refine WP.loopN [] v.pts.length (fun k st=>st.t 1=.ptr 1 0∧st.h 1=some (.box [.pv (.sl (s.js.map gq)),.pv (.sl (s.ms.map eG)),.pv (.sl (s.shs.map dU)),.pv (.sl (s.sks.map bF))] true false)∧st.t 4=.pv (Z i)∧st.t 5=.ptr 5 0∧st.h 5=some (.box [.pv (Z v.link),.pv (Z v.rad),.pv (bp v.pts)] true false)∧st.t 6=.pv (Z k)∧∀ j x,j < k→v.pts[j]?=some x→bg 4194304 x=true) (by simp [g1,hb1,g4]) ?_
    clear g1 hb1 g4 hb5
    rintro k st hk2 ⟨g1,hb1,g4,g5,hb5,g6,hn⟩
    by_cases hkl : k < v.pts.length
    ·have hwk:=bi hkl lv
     have hkl' : (k : Int) < (v.pts.length : Int):=by omega
     generalize hye : v.pts[k]=p at *
     have hy : v.pts[k]?=some p:=by rw [List.getElem?_eq_getElem hkl,hye]
     have cn:=nK p.1 p.2.1 p.2.2 4194304 (by decide) (by decide)
     have hnp : bg 4194304 p=fL p.1 p.2.1 p.2.2 4194304:=rfl
     rw [← hnp] at cn
     have hstn:=ky (p:=bg 4194304) hy hn
     cases hc : bg 4194304 p with
     |true=>
      rw [hc] at cn
      have hst2:=hstn hc
      refine Gz ?_
      all_goals (intro j a b c hj hx2;exact hst2 j (a,b,c) (by omega) hx2)
     |false=>
      rw [hc] at cn
      have hall : v.pts.all (bg 4194304)=false:=by
       rw [List.all_eq_false]
       exact ⟨p,List.mem_of_getElem? hy,by simp [hc]⟩
      rw [hall] at hfd
      have hfe:=hfd (by decide)
      simp only [Bool.false_eq_true,if_false] at hfe
      exact Gy
      all_goals simp [hfe]
    ·have hall : v.pts.all (bg 4194304)=true:=lO hn hkl
     have hkl' : ¬ (k : Int) < (v.pts.length : Int):=by omega
     rw [hall] at hst
     have hst2 : ∀ k x,k < i+1→s.shs[k]?=some x→dy s.js.length x=0:=fun k x hk hx=>by simpa using hst (by simp) k x hk hx
     refine Gz ?_
     all_goals exact hst2
 ·have hz : gj s.js.length s.shs=0:=rB (fun k x hx=>hq k x (by have:=(List.getElem?_eq_some_iff.1 hx).1;omega) hx)
  have hlt' : ¬ (i : Int) < (s.shs.length : Int):=by omega
  rw [hz]
  by_cases h64 : 64 < s.sks.length
  ·have h64' : (64 : Int) < s.sks.length:=by omega
   exact Gy
  ·have h64' : ¬ (64 : Int) < s.sks.length:=by omega
   refine Gz ?_
   refine WP.loopN [] s.sks.length (fun i st=>st.t 1=.ptr 1 0∧st.h 1=some (.box [.pv (.sl (s.js.map gq)),.pv (.sl (s.ms.map eG)),.pv (.sl (s.shs.map dU)),.pv (.sl (s.sks.map bF))] true false)∧st.t 7=.pv (Z i)∧∀ k x,k < i→s.sks[k]?=some x→iW s.js.length x=true) (by simp [g1,hb1]) ?_
   clear g1 hb1 g4 hb5 hq hlt hlt'
   rintro i st hi ⟨g1,hb1,g7,hq⟩
   by_cases hlt : i < s.sks.length
   ·have hw:=bi hlt l4
    have hlt' : (i : Int) < (s.sks.length : Int):=by omega
    generalize hxe : s.sks[i]=v at *
    have hx : s.sks[i]?=some v:=by rw [List.getElem?_eq_getElem hlt,hxe]
    have hst:=ky (p:=iW s.js.length) hx hq
    have hp : iW s.js.length v=(dV s.js.length v.1 && dV s.js.length v.2):=rfl
    have c1:=rz s.js s.ms v.1 l1
    have c2:=rz s.js s.ms v.2 l1
    cases hc : iW s.js.length v with
    |true=>
     have hp':=hp
     rw [hc] at hp'
     simp only [Bool.true_eq,Bool.and_eq_true] at hp'
     rw [hp'.1] at c1
     rw [hp'.2] at c2
     have hst2:=hst hc
     refine Gz ?_
     all_goals (intro j a b hj hx2;exact hst2 j (a,b) (by omega) hx2)
    |false=>
     have hall : s.sks.all (iW s.js.length)=false:=by
      rw [List.all_eq_false]
      exact ⟨v,List.mem_of_getElem? hx,by simp [hc]⟩
     rw [hall]
     rw [hc] at hp
     cases k1 : dV s.js.length v.1<;>cases k2 : dV s.js.length v.2<;>rw [k1] at c1 hp<;>rw [k2] at c2 hp<;>try (exact absurd hp (by decide))
     all_goals
      with_reducible repeat' (first|refine Sp.h ?_|((first|refine Wd ?_|refine Ss.h ?_|refine Sc.h (c1) ?_|refine Sc.h (c2) ?_|(refine Sb.h ?_ ?_ ?_<;>(try intro hgd)<;>try exact Xy))<;>simp -implicitDefEqProofs (maxSteps:=2000000) [hP,hN,g1,hb1,g7,hlt,hlt',hw,hx,hxe]<;>try refine Ya ?_)|refine X2 ?_ ?_|(refine Xd ?_ ?_<;>intro hcd<;>try exact Xx))
   ·have hall : s.sks.all (iW s.js.length)=true:=lO hq hlt
    have hlt' : ¬ (i : Int) < (s.sks.length : Int):=by omega
    rw [hall]
    exact Gy
end Go.Ab
namespace Go.Ab
open Go.Proofs
theorem H7 (s : Sh) (hl : s.pts.length≤9223372036854775807) : ah Tryz.prog 148 [.pv (dU s)] [] [] (.pv (B (fx s))):=by
 have hd : fx s=(decide (1≤s.rad) && decide (s.rad≤1048576) && decide (1≤s.pts.length) && decide (s.pts.length≤8) && s.pts.all (bg 4194304)):=rfl
 by_cases hh : s.rad < 1∨1048576 < s.rad∨(s.pts.length : Int) < 1∨(8 : Int) < s.pts.length
 ·have hf : fx s=false:=by
   cases h : fx s with
   |false=>rfl
   |true=>
    rw [hd] at h
    simp only [Bool.and_eq_true,decide_eq_true_eq] at h
    omega
  rw [hf]
  rcases hh with h1|h1|h1|h1
  all_goals
   refine Dp Tryz.func148 ?_
   intro C hP hN
   simp only [Tryz.f148] at hN ⊢
   exact Gy
 have h1 : ¬ s.rad < 1:=by omega
 have h2 : ¬ 1048576 < s.rad:=by omega
 have h3 : ¬ (s.pts.length : Int) < 1:=by omega
 have h4 : ¬ (8 : Int) < s.pts.length:=by omega
 have h3' : ¬ s.pts.length < 1:=by omega
 have h4' : ¬ 8 < s.pts.length:=by omega
 have hf : fx s=s.pts.all (bg 4194304):=by
  rw [hd,decide_eq_true (by omega),decide_eq_true (by omega),decide_eq_true (by omega),decide_eq_true (by omega)];rfl
 rw [hf]
 refine Dp Tryz.func148 ?_
 intro C hP hN
 simp only [Tryz.f148] at hN ⊢
 refine Gz ?_
 refine WP.loopN [] s.pts.length (fun k st=>st.t 1=.ptr 1 0∧st.h 1=some (.box [.pv (Z s.link),.pv (Z s.rad),.pv (bp s.pts)] true false)∧st.t 3=.pv (Z k)∧∀ j x,j < k→s.pts[j]?=some x→bg 4194304 x=true) (by simp) ?_
 rintro k st hk2 ⟨g1,hb1,g3,hn⟩
 by_cases hkl : k < s.pts.length
 ·have hwk:=bi hkl hl
  have hkl' : (k : Int) < (s.pts.length : Int):=by omega
  generalize hye : s.pts[k]=p at *
  have hy : s.pts[k]?=some p:=by rw [List.getElem?_eq_getElem hkl,hye]
  have cn:=nK p.1 p.2.1 p.2.2 4194304 (by decide) (by decide)
  have hnp : bg 4194304 p=fL p.1 p.2.1 p.2.2 4194304:=rfl
  rw [← hnp] at cn
  have hstn:=ky (p:=bg 4194304) hy hn
  cases hc : bg 4194304 p with
  |true=>
   rw [hc] at cn
   have hst2:=hstn hc
   refine Gz ?_
   all_goals (intro j a b c hj hx2;exact hst2 j (a,b,c) (by omega) hx2)
  |false=>
   rw [hc] at cn
   have hall : s.pts.all (bg 4194304)=false:=by
    rw [List.all_eq_false]
    exact ⟨p,List.mem_of_getElem? hy,by simp [hc]⟩
   exact Gy
 ·have hall : s.pts.all (bg 4194304)=true:=lO hn hkl
  have hkl' : ¬ (k : Int) < (s.pts.length : Int):=by omega
  exact Gy
theorem H8 (h : Sh) (p : lk) (hs : fx h=true) : ah Tryz.prog 110 [.pv (dU h),.pv (cS p)] [] [] (.pv (bn (ed h p))):=by
 have h8 : h.pts.length≤8:=by
  simp only [fx,Bool.and_eq_true,decide_eq_true_eq] at hs;omega
 have cc:=H7 h (by omega)
 rw [hs] at cc
 have hpl : ed h p=h.pts.map fun q=>gw p (dD q):=rfl
 have ca : ∀ v : aU,ah Tryz.prog 149 [.pv (cS p),.pv (bZ v)] [] [] (.pv (bZ (gw p v))):=fun v=>H5
 have cp : ∀ q : Vc,ah Tryz.prog 150 [.pv (aG q)] [] [] (.pv (bZ (dD q))):=fun q=>FA q.1 q.2.1 q.2.2
 have hbx : (cS p).cells=[Z p.1.1.1.1,Z p.1.1.1.2,Z p.1.1.2.1.1,Z p.1.1.2.1.2,Z p.1.1.2.2.1,Z p.1.1.2.2.2,Z p.1.2.1.1.1,Z p.1.2.1.1.2,Z p.1.2.1.2.1.1,Z p.1.2.1.2.1.2,Z p.1.2.1.2.2.1,Z p.1.2.1.2.2.2,Z p.1.2.2.1.1,Z p.1.2.2.1.2,Z p.1.2.2.2.1.1,Z p.1.2.2.2.1.2,Z p.1.2.2.2.2.1,Z p.1.2.2.2.2.2,Z p.2.1.1,Z p.2.1.2,Z p.2.2.1.1,Z p.2.2.1.2,Z p.2.2.2.1,Z p.2.2.2.2]:=rfl
 refine Dp Tryz.func110 ?_
 intro C hP hN
 simp only [Tryz.f110] at hN ⊢
 with_reducible repeat' (first|refine Sp.h ?_|((first|refine Wh [5] ?_|refine Wi [5] ?_|refine Ss.h ?_|refine Sc.h (cc) ?_|(refine Sb.h ?_ ?_ ?_<;>(try intro hgd)<;>try exact Xy))<;>simp -implicitDefEqProofs (maxSteps:=2000000) [hP,hN]<;>try refine Ya ?_)|refine X2 ?_ ?_|(refine Xd ?_ ?_<;>intro hcd<;>try exact Xx))
 refine WP.loopN [] h.pts.length (fun i st=>st.t 2=.ptr 2 0∧st.t 3=.ptr 3 0∧st.h 2=some (.box [.pv (Z h.link),.pv (Z h.rad),.pv (bp h.pts)] true false)∧st.h 3=some (.box ((cS p).cells.map .pv) true false)∧st.t 6=.pv (Z i)∧st.t 5=.arr 5 i∧st.h 5=some (.row 124 6 (((ed h p).map bZ).take i) 0)) (by simp) ?_
 rintro i st hi ⟨g2,g3,hb2,hb3,g6,g5,hb5⟩
 have hzT : min i (ed h p).length=i:=by rw [hpl,List.length_map];omega
 by_cases hlt : i < h.pts.length
 ·have hw:=bi hlt (by omega)
  have hlt' : (i : Int) < (h.pts.length : Int):=by omega
  generalize hxe : h.pts[i]=q at *
  have hx : h.pts[i]?=some q:=by rw [List.getElem?_eq_getElem hlt,hxe]
  have hS : ((ed h p).map bZ).take (i+1)=((ed h p).map bZ).take i++[bZ (gw p (dD q))]:=by
   rw [List.take_succ,List.getElem?_map,hpl,List.getElem?_map,hx];rfl
  have cq:=cp q
  have cv:=ca (dD q)
  rw [hS]
  have hL : (((ed h p).map bZ).take i).length=i:=by simp [hzT]
  generalize ((ed h p).map bZ).take i=R at *
  generalize gw p (dD q)=res at *
  generalize dD q=w at *
  rw [hbx] at hb3
  with_reducible repeat' (first|refine Sp.h ?_|((first|refine Wd ?_|refine Ss.h ?_|refine Sc.h (cq) ?_|refine Sc.h (cv) ?_|(refine Sb.h ?_ ?_ ?_<;>(try intro hgd)<;>try exact Xy))<;>simp -implicitDefEqProofs (maxSteps:=2000000) [hP,hN,g2,g3,hb2,hb3,g6,g5,hb5,hlt,hlt',hx,hxe,hw,hL,show (i+1) * 48≤140737488355328 by omega,show i≤9223372036854775806 by omega]<;>try refine Ya ?_)|refine X2 ?_ ?_|(refine Xd ?_ ?_<;>intro hcd<;>try exact Xx))
 ·have hlt' : ¬ (i : Int) < (h.pts.length : Int):=by omega
  have hfull : ((ed h p).map bZ).take i=(ed h p).map bZ:=List.take_of_length_le (by rw [List.length_map,hpl,List.length_map];omega)
  rw [hfull] at hb5
  have hL : (ed h p).length=i:=by rw [hpl,List.length_map];omega
  with_reducible repeat' (first|refine Sp.h ?_|((first|refine Wd ?_|refine Ss.h ?_|(refine Sb.h ?_ ?_ ?_<;>(try intro hgd)<;>try exact Xy))<;>simp -implicitDefEqProofs (maxSteps:=2000000) [hP,hN,g2,g3,hb2,hb3,g6,g5,hb5,hlt,hlt',hL]<;>try refine Ya ?_)|refine X2 ?_ ?_|(refine Xd ?_ ?_<;>intro hcd<;>try exact Xx))
end Go.Ab
namespace Go.Ab
open Go.Proofs
theorem Af {x : Iv} (h : dx x=false) : x.1 < -268435456∨x.2 < x.1∨268435456 < x.2:=by
 by_cases hc : x.1 < -268435456∨x.2 < x.1∨268435456 < x.2
 ·exact hc
 ·have : dx x=true:=by rw [fg];omega
  rw [h] at this;cases this
theorem vM {x0 x1 x2 x3 x4 x5 : Int} : ah Tryz.prog 119 [.pv (V6 x0 x1 x2 x3 x4 x5)] [] [] (.pv (B (df ((x0,x1),(x2,x3),(x4,x5))))):=by
 have hd : df ((x0,x1),(x2,x3),(x4,x5))=(dx (x0,x1) && dx (x2,x3) && dx (x4,x5)):=rfl
 rw [hd]
 obtain ⟨m,hm⟩ : ∃ m : Nat,m=(if dx (x0,x1) then (if dx (x2,x3) then (if dx (x4,x5) then 3 else 2) else 1) else 0):=⟨_,rfl⟩
 refine Dp Tryz.func119 ?_
 intro C hP hN
 simp only [Tryz.f119] at hN ⊢
 refine Gz ?_
 refine WP.loopN [] 3 (fun k st=>st.t 1=.ptr 1 0∧st.h 1=some (.box [.pv (Z x0),.pv (Z x1),.pv (Z x2),.pv (Z x3),.pv (Z x4),.pv (Z x5)] true false)∧st.t 3=.pv (Z k)∧k≤m) (by simp) ?_
 rintro k st hk ⟨g1,hb1,g3,hkm⟩
 cases h0 : dx (x0,x1)<;>rw [h0] at hm
 ·simp only [Bool.false_eq_true,if_false] at hm
  have : k=0:=by omega
  subst this
  have h0':=Af h0
  simp only at h0'
  rcases h0' with q|q|q
  all_goals
   exact Gy
 simp only [if_true] at hm
 have i0:=fg.1 h0
 simp only at i0
 cases h1 : dx (x2,x3)<;>rw [h1] at hm
 ·simp only [Bool.false_eq_true,if_false] at hm
  have hc : k=0∨k=1:=by omega
  rcases hc with rfl|rfl
  ·skip
   exact Gy
   all_goals omega
  ·have h0':=Af h1
   simp only at h0'
   rcases h0' with q|q|q
   all_goals
    exact Gy
 simp only [if_true] at hm
 have i1:=fg.1 h1
 simp only at i1
 cases h2 : dx (x4,x5)<;>rw [h2] at hm
 ·simp only [Bool.false_eq_true,if_false] at hm
  have hc : k=0∨k=1∨k=2:=by omega
  rcases hc with rfl|rfl|rfl
  ·skip
   exact Gy
   all_goals omega
  ·skip
   exact Gy
   all_goals omega
  ·have h0':=Af h2
   simp only at h0'
   rcases h0' with q|q|q
   all_goals
    exact Gy
 simp only [if_true] at hm
 have i2:=fg.1 h2
 simp only at i2
 rcases cE hk with rfl|rfl|rfl|rfl
 ·skip
  exact Gy
  all_goals omega
 ·skip
  exact Gy
  all_goals omega
 ·skip
  exact Gy
  all_goals omega
 ·skip
  exact Gy
theorem FE (v : aU) : ah Tryz.prog 119 [.pv (bZ v)] [] [] (.pv (B (df v))):=vM
theorem vN (xs : List aU) (hl : xs.length≤9223372036854775807) : ah Tryz.prog 68 [.pv (bn xs)] [] [] (.pv (B (aZ xs))):=by
 by_cases h8 : xs.length≤8
 ·have hw8 : ∀ i : Nat,i < xs.length→IntKind.i64.wrap ((i : Int)+1)=(i : Int)+1:=fun i h=>ao (by omega) (by omega)
  refine Dp Tryz.func68 ?_
  intro C hP hN
  simp only [Tryz.f68] at hN ⊢
  refine Gz ?_
  refine WP.loopN [] xs.length (fun i st=>st.t 0=.pv (bn xs)∧st.t 3=.pv (Z i)∧∀ k x,k < i→xs[k]?=some x→df x=true) (by simp) ?_
  rintro i st hi ⟨g0,g3,hq⟩
  by_cases hlt : i < xs.length
  ·have hw:=hw8 i hlt
   have hlt' : (i : Int) < (xs.length : Int):=by omega
   have hi8 : (i : Int)≤8:=by omega
   have hi8' : i≤8:=by omega
   generalize hxe : xs[i]=v at *
   have hx : xs[i]?=some v:=by rw [List.getElem?_eq_getElem hlt,hxe]
   have cr:=FE v
   have hst:=ky (p:=df) hx hq
   cases hc : df v with
   |true=>
    rw [hc] at cr
    have hst2:=hst hc
    refine Gz ?_
    all_goals exact fun k a b c d e f hk hx2=>hst2 k ((a,b),(c,d),(e,f)) (by omega) hx2
   |false=>
    rw [hc] at cr
    have hall : xs.all df=false:=by
     rw [List.all_eq_false]
     exact ⟨v,List.mem_of_getElem? hx,by simp [hc]⟩
    have hpb : aZ xs=false:=by simp [aZ,hall]
    rw [hpb]
    exact Gy
  ·have hall : xs.all df=true:=lO hq hlt
   have hlt' : ¬ (i : Int) < (xs.length : Int):=by omega
   have hpb : aZ xs=decide (1≤xs.length):=by
    rw [aZ,hall,decide_eq_true h8,Bool.and_true,Bool.and_true]
   rw [hpb]
   by_cases h1 : 1≤xs.length
   ·have h1' : (1 : Int)≤(xs.length : Int):=by omega
    have h8' : (xs.length : Int)≤8:=by omega
    exact Gy
   ·have h1' : ¬ (1 : Int)≤(xs.length : Int):=by omega
    exact Gy
 ·have hpb : aZ xs=false:=by
   cases h : aZ xs with
   |false=>rfl
   |true=>simp only [aZ,Bool.and_eq_true,decide_eq_true_eq] at h;omega
  rw [hpb]
  refine Dp Tryz.func68 ?_
  intro C hP hN
  simp only [Tryz.f68] at hN ⊢
  refine Gz ?_
  refine WP.loopN [] 9 (fun i st=>st.t 0=.pv (bn xs)∧st.t 3=.pv (Z i)) (by simp) ?_
  rintro i st hi ⟨g0,g3⟩
  have hlt : i < xs.length∨i=9:=by omega
  by_cases hi8 : i≤8
  ·have hlt : i < xs.length:=by omega
   have hw : IntKind.i64.wrap ((i : Int)+1)=(i : Int)+1:=ao
   have hlt' : (i : Int) < (xs.length : Int):=by omega
   have hi8' : (i : Int)≤8:=by omega
   generalize hxe : xs[i]=v at *
   have hx : xs[i]?=some v:=by rw [List.getElem?_eq_getElem hlt,hxe]
   have cr:=FE v
   cases hc : df v<;>rw [hc] at cr
   ·skip
    exact Gy
   ·skip
    refine Gz ?_
    all_goals omega
  ·have hi9 : i=9:=by omega
   subst hi9
   have h8' : ¬ (xs.length : Int)≤8:=by omega
   have h1' : (1 : Int)≤(xs.length : Int):=by omega
   have h1 : 1≤xs.length:=by omega
   by_cases h9 : (9 : Int) < (xs.length : Int)
   ·have h9' : 9 < xs.length:=by omega
    exact Gy
   ·have h9' : ¬ 9 < xs.length:=by omega
    exact Gy
theorem FF (x : Iv) : nH x=jY x:=by
 unfold nH jY
 split
 ·rename_i h
  have h:=er.1 h
  rw [ao (by omega) (by omega),Int.fdiv_eq_ediv_of_nonneg _ (by decide)]
 ·rfl
theorem zi (xs : List aU) (hl : xs.length≤9223372036854775807) : ah Tryz.prog 31 [.pv (bn xs)] [] [] (.pv (bp (ba xs))):=by
 have cp:=vN xs hl
 cases hp : aZ xs with
 |false=>
  rw [hp] at cp
  have hc : ba xs=[]:=by simp [ba,hp]
  rw [hc]
  refine Dp Tryz.func31 ?_
  intro C hP hN
  simp only [Tryz.f31] at hN ⊢
  exact Gy
 |true=>
  rw [hp] at cp
  have h8 : xs.length≤8:=by
   simp only [aZ,Bool.and_eq_true,decide_eq_true_eq] at hp;omega
  have hc : ba xs=xs.map gV:=by simp [ba,hp]
  rw [hc]
  refine Dp Tryz.func31 ?_
  intro C hP hN
  simp only [Tryz.f31] at hN ⊢
  with_reducible repeat' (first|refine Sp.h ?_|((first|refine Wh [3] ?_|refine Wi [3] ?_|refine Ss.h ?_|refine Sc.h (cp) ?_|(refine Sb.h ?_ ?_ ?_<;>(try intro hgd)<;>try exact Xy))<;>simp -implicitDefEqProofs (maxSteps:=2000000) [hP,hN]<;>try refine Ya ?_)|refine X2 ?_ ?_|(refine Xd ?_ ?_<;>intro hcd<;>try exact Xx))
  refine WP.loopN [] xs.length (fun i st=>st.t 0=.pv (bn xs)∧st.t 4=.pv (Z i)∧st.t 3=.arr 3 i∧st.h 3=some (.row 51 3 (((xs.map gV).map aG).take i) 0)) (by simp) ?_
  rintro i st hi ⟨g0,g4,g3,hb3⟩
  have hzT : min i xs.length=i:=by omega
  by_cases hlt : i < xs.length
  ·have hw:=bi hlt (by omega)
   have hlt' : (i : Int) < (xs.length : Int):=by omega
   generalize hxe : xs[i]=v at *
   have hx : xs[i]?=some v:=by rw [List.getElem?_eq_getElem hlt,hxe]
   have c0:=Fl v.1
   have c1:=Fl v.2.1
   have c2:=Fl v.2.2
   rw [FF] at c0 c1 c2
   have hS : ((xs.map gV).map aG).take (i+1)=((xs.map gV).map aG).take i++[aG (jY v.1,jY v.2.1,jY v.2.2)]:=by
    rw [List.take_succ,List.getElem?_map,List.getElem?_map,hx];rfl
   rw [hS]
   have hL : (((xs.map gV).map aG).take i).length=i:=by simp [hzT]
   generalize ((xs.map gV).map aG).take i=R at *
   with_reducible repeat' (first|refine Sp.h ?_|((first|refine Wd ?_|refine Ss.h ?_|refine Sc.h (c0) ?_|refine Sc.h (c1) ?_|refine Sc.h (c2) ?_|(refine Sb.h ?_ ?_ ?_<;>(try intro hgd)<;>try exact Xy))<;>simp -implicitDefEqProofs (maxSteps:=2000000) [hP,hN,g0,g4,g3,hb3,hlt,hlt',hx,hxe,hw,hL,show (i+1) * 24≤140737488355328 by omega,show i≤9223372036854775806 by omega]<;>try refine Ya ?_)|refine X2 ?_ ?_|(refine Xd ?_ ?_<;>intro hcd<;>try exact Xx))
  ·have hlt' : ¬ (i : Int) < (xs.length : Int):=by omega
   have hfull : ((xs.map gV).map aG).take i=(xs.map gV).map aG:=List.take_of_length_le (by simp;omega)
   rw [hfull] at hb3
   have hL : xs.length=i:=by omega
   exact Gy
theorem FG (js : List J) (ms : List Ms) (bx : List Iv) (hl : js.length≤9223372036854775807) (hl2 : bx.length≤9223372036854775807) : ah Tryz.prog 54 [.pv (jq js ms),.pv (iv bx)] [] [] (.pv (B (iF js bx))):=by
 have hd : iF js bx=(decide (bx.length=js.length) && fe vI bx):=rfl
 have ca:=GQ bx hl2
 by_cases h : bx.length=js.length
 ·rw [hd,decide_eq_true h,Bool.true_and]
  have h' : ((bx.length : Int)==(js.length : Int))=true:=by simp [h]
  generalize fe vI bx=r at *
  refine Dp Tryz.func54 ?_
  intro C hP hN
  simp only [Tryz.f54] at hN ⊢
  exact Gy
 ·rw [hd,decide_eq_false h,Bool.false_and]
  have h' : ((bx.length : Int)==(js.length : Int))=false:=by simp;omega
  refine Dp Tryz.func54 ?_
  intro C hP hN
  simp only [Tryz.f54] at hN ⊢
  exact Gy
set_option maxRecDepth 4000 in
theorem H9 (js : List J) (ms : List Ms) (bx : List Iv) (hm : ms.length≤9223372036854775807) (h0 : cY js ms=0) (hbx : iF js bx=true) : ah Tryz.prog 108 [.pv (jq js ms),.pv (iv bx)] [] [] (.pv (.sl ((gb js bx).map cS))):=by
 obtain ⟨hj,hl,_⟩:=oM h0
 have hb:=(qq.1 hbx).1
 have cr:=wW js ms (by omega) hm
 have cb:=FG js ms bx (by omega) (by omega)
 rw [h0] at cr
 rw [hbx] at cb
 have hLl : (gb js bx).length=js.length:=i6 hb _ (Nat.le_refl _)
 have hat:=fun i j v (h1 : js[i]?=some j) (h2 : bx[i]?=some v)=>xD hb h1 h2 (hj i j h1)
 generalize gb js bx=LL at *
 generalize hLM : LL.map cS=LM at *
 have hML : LM.length=js.length:=by rw [← hLM];simpa using hLl
 have hMk : ∀ k p,LL[k]?=some p→LM[k]?=some (cS p):=fun k p h=>by rw [← hLM,List.getElem?_map,h];rfl
 refine Dp Tryz.func108 ?_
 intro C hP hN
 simp only [Tryz.f108] at hN ⊢
 with_reducible repeat' (first|refine Sp.h ?_|((first|refine Wh [5] ?_|refine Wi [5] ?_|refine Ss.h ?_|refine Sc.h (cr) ?_|refine Sc.h (cb) ?_|(refine Sb.h ?_ ?_ ?_<;>(try intro hgd)<;>try exact Xy))<;>simp -implicitDefEqProofs (maxSteps:=2000000) [hP,hN]<;>try refine Ya ?_)|refine X2 ?_ ?_|(refine Xd ?_ ?_<;>intro hcd<;>try exact Xx))
 refine WP.loopN [7] bx.length (fun i st=>st.t 2=.ptr 2 0∧st.h 2=some (.box [.pv (.sl (js.map gq)),.pv (.sl (ms.map eG))] true false)∧st.t 1=.pv (iv bx)∧st.t 6=.pv (Z i)∧st.h 7=none∧st.t 5=.arr 5 i∧st.h 5=some (.row 156 24 (LM.take i) 0)) (by simp) ?_
 rintro i st hi ⟨g2,hb2,g1,g6,hb7,g5,hb5⟩
 have hzT : (LM.take i).length=i:=by simp;omega
 by_cases hltb : i < bx.length
 ·have hw:=bi hltb (by omega)
  have hlt : i < js.length:=by omega
  have hlt' : (i : Int) < (bx.length : Int):=by omega
  generalize hxe : js[i]=j at *
  have hx : js[i]?=some j:=by rw [List.getElem?_eq_getElem hlt,hxe]
  generalize hve : bx[i]=v at *
  have hv : bx[i]?=some v:=by rw [List.getElem?_eq_getElem hltb,hve]
  obtain ⟨⟨hk0,hk6⟩,hp1,hp2⟩:=hj i j hx
  have cj:=H6 (a:=v.1) (b:=v.2) j hk0 hk6
  have ha:=hat i j v hx hv
  generalize hq : j6 j (v.1,v.2)=q at *
  have key : ∀ x,LL[i]?=some x→LM.take (i+1)=LM.take i++[cS x]:=fun x hxx=>by
   rw [List.take_succ,hMk i x hxx];rfl
  by_cases he : j.parent=-1
  ·rw [if_pos he] at ha
   have k1:=key q ha
   rw [k1]
   have he2 : (j.parent !=-1)=false:=by simp [he]
   generalize LM.take i=R at *
   with_reducible repeat' (first|refine Sp.h ?_|((first|refine Wd ?_|refine Ss.h ?_|refine Sc.h (cj) ?_|(refine Sb.h ?_ ?_ ?_<;>(try intro hgd)<;>try exact Xy))<;>simp -implicitDefEqProofs (maxSteps:=2000000) [hP,hN,g2,hb2,g1,g6,hb7,g5,hb5,hzT,hlt,hltb,hlt',hw,hx,hxe,hv,hve,he2,show (i+1) * 192≤140737488355328 by omega,show i≤9223372036854775806 by omega]<;>try refine Ya ?_)|refine X2 ?_ ?_|(refine Xd ?_ ?_<;>intro hcd<;>try exact Xx))
  ·rw [if_neg he] at ha
   obtain ⟨p,hp⟩ : ∃ p : Nat,j.parent=p:=⟨j.parent.toNat,by omega⟩
   have he2 : (j.parent !=-1)=true:=by simp [he]
   have hp0 : (0 : Int)≤j.parent:=by omega
   have hpt : j.parent.toNat=p:=by omega
   have hpi : p < i:=by omega
   have hpl : p < LL.length:=by omega
   have hLp : LL[p]?=some LL[p]:=List.getElem?_eq_getElem hpl
   rw [hpt,hLp,Option.getD_some] at ha
   have hRp : (LM.take i)[p]?=some (cS LL[p]):=by rw [List.getElem?_take,if_pos hpi];exact hMk p _ hLp
   have hgp:=mm hRp
   generalize LL[p]=pp at *
   have k1:=key _ ha
   rw [k1]
   have cc : ah Tryz.prog 146 [.pv (cS pp),.pv (cS q)] [] [] (.pv (cS (ll pp q))):=rG
   generalize ll pp q=res at *
   generalize LM.take i=R at *
   have hpR : p < R.length:=by omega
   with_reducible repeat' (first|refine Sp.h ?_|((first|refine Wd ?_|refine Ss.h ?_|refine Sc.h (cj) ?_|refine Sc.h (cc) ?_|(refine Sb.h ?_ ?_ ?_<;>(try intro hgd)<;>try exact Xy))<;>simp -implicitDefEqProofs (maxSteps:=2000000) [hP,hN,g2,hb2,g1,g6,hb7,g5,hb5,hzT,hlt,hltb,hlt',hw,hx,hxe,hv,hve,he2,hp0,hpt,hpi,hRp,hgp,hpR,show (i+1) * 192≤140737488355328 by omega,show i≤9223372036854775806 by omega]<;>try refine Ya ?_)|refine X2 ?_ ?_|(refine Xd ?_ ?_<;>intro hcd<;>try exact Xx))
 ·have hfull : LM.take i=LM:=List.take_of_length_le (by omega)
  have hlt' : ¬ (i : Int) < (bx.length : Int):=by omega
  rw [hfull] at hb5 hzT
  with_reducible repeat' (first|refine Sp.h ?_|((first|refine Wd ?_|refine Ss.h ?_|(refine Sb.h ?_ ?_ ?_<;>(try intro hgd)<;>try exact Xy))<;>simp -implicitDefEqProofs (maxSteps:=2000000) [hP,hN,g2,hb2,g1,g6,hb7,g5,hb5,hltb,hlt',hzT]<;>try refine Ya ?_)|refine X2 ?_ ?_|(refine Xd ?_ ?_<;>intro hcd<;>try exact Xx))
set_option maxRecDepth 4000 in
theorem Jp (s : Sce) (bx : List Iv) (hs : ScL s) (h0 : cD s=0) (hbx : iF s.js bx=true) : ah Tryz.prog 55 [.pv (fh s),.pv (iv bx)] [] [] (.pv (.sl ((dG s bx).map bn))):=by
 have cc:=Da s hs
 rw [h0] at cc
 have hr : cY s.js s.ms=0:=by
  unfold cD at h0
  split at h0
  ·rename_i h;exact absurd h0 h
  ·rename_i h;simpa using h
 obtain ⟨v1,v2,v3,v4,v5,v6,v7⟩:=kF h0
 have hbl:=(qq.1 hbx).1
 have cb:=FG s.js s.ms bx hs.js (by omega)
 have cl:=H9 s.js s.ms bx hs.ms hr hbx
 rw [hbx] at cb
 have hLl : (gb s.js bx).length=s.js.length:=i6 hbl _ (Nat.le_refl _)
 have hpL : dG s bx=s.shs.map fun h=>ed h (gh (gb s.js bx) h):=rfl
 rw [hpL]
 generalize gb s.js bx=LL at *
 generalize hLM : (s.shs.map fun h=>ed h (gh LL h)).map bn=LM
 have hML : LM.length=s.shs.length:=by rw [← hLM];simp
 have hMk : ∀ k h,s.shs[k]?=some h→LM[k]?=some (bn (ed h (gh LL h))):=fun k q hk=>by rw [← hLM,List.getElem?_map,List.getElem?_map,hk];rfl
 refine Dp Tryz.func55 ?_
 intro C hP hN
 simp only [Tryz.f55] at hN ⊢
 with_reducible repeat' (first|refine Sp.h ?_|((first|refine Wh [6] ?_|refine Wi [6] ?_|refine Ss.h ?_|refine Sc.h (cc) ?_|refine Sc.h (cb) ?_|refine Sc.h (cl) ?_|(refine Sb.h ?_ ?_ ?_<;>(try intro hgd)<;>try exact Xy))<;>simp -implicitDefEqProofs (maxSteps:=2000000) [hP,hN]<;>try refine Ya ?_)|refine X2 ?_ ?_|(refine Xd ?_ ?_<;>intro hcd<;>try exact Xx))
 refine WP.loopN [8] s.shs.length (fun i st=>st.t 2=.ptr 2 0∧st.h 2=some (.box [.pv (.sl (s.js.map gq)),.pv (.sl (s.ms.map eG)),.pv (.sl (s.shs.map dU)),.pv (.sl (s.sks.map bF))] true false)∧st.t 5=.pv (.sl (LL.map cS))∧st.t 7=.pv (Z i)∧st.h 8=none∧st.t 6=.arr 6 i∧st.h 6=some (.row 71 1 (LM.take i) 0)) (by simp) ?_
 rintro i st hi ⟨g2,hb2,g5,g7,hb8,g6,hb6⟩
 have hzT : (LM.take i).length=i:=by simp;omega
 by_cases hlt : i < s.shs.length
 ·have hw:=bi hlt (by omega)
  have hlt' : (i : Int) < (s.shs.length : Int):=by omega
  generalize hxe : s.shs[i]=h at *
  have hx : s.shs[i]?=some h:=by rw [List.getElem?_eq_getElem hlt,hxe]
  have hm:=List.mem_of_getElem? hx
  obtain ⟨hl1,hsb⟩:=v6 h hm
  simp only [dV,Bool.and_eq_true,decide_eq_true_eq] at hl1
  have cp:=fun p=>H8 h p hsb
  have k2 : LM.take (i+1)=LM.take i++[bn (ed h (gh LL h))]:=by rw [List.take_succ,hMk i h hx];rfl
  rw [k2]
  clear hMk hLM hpL
  by_cases he : h.link=-1
  ·have he1 : (h.link==-1)=true:=by simp [he]
   have he2 : (h.link !=-1)=false:=by simp [he]
   have hpo : gh LL h=fP:=by simp [gh,he]
   rw [hpo]
   have cps:=cp fP
   have crs:=CF
   generalize ed h fP=pl at *
   generalize fP=sti at *
   generalize LM.take i=R at *
   with_reducible repeat' (first|refine Sp.h ?_|((first|refine Wd ?_|refine Ss.h ?_|refine Sc.h (crs) ?_|refine Sc.h (cps) ?_|(refine Sb.h ?_ ?_ ?_<;>(try intro hgd)<;>try exact Xy))<;>simp -implicitDefEqProofs (maxSteps:=2000000) [hP,hN,g2,hb2,g5,g7,hb8,g6,hb6,hzT,hlt,hlt',hw,hx,hxe,he1,he2,show (i+1) * 24≤140737488355328 by omega,show i≤9223372036854775806 by omega]<;>try refine Ya ?_)|refine X2 ?_ ?_|(refine Xd ?_ ?_<;>intro hcd<;>try exact Xx))
  ·have he1 : (h.link==-1)=false:=by simp [he]
   have he2 : (h.link !=-1)=true:=by simp [he]
   have hp0 : (0 : Int)≤h.link:=by omega
   obtain ⟨p,hp⟩ : ∃ p : Nat,h.link.toNat=p:=⟨_,rfl⟩
   have hpl : p < LL.length:=by omega
   have hLp : LL[p]?=some LL[p]:=List.getElem?_eq_getElem hpl
   have hpo : gh LL h=LL[p]:=by simp only [gh,if_neg he,hp,hLp,Option.getD_some]
   rw [hpo]
   generalize hpp : LL[p]=pp at *
   have cps:=cp pp
   have crs:=CF
   generalize ed h pp=pl at *
   generalize fP=sti at *
   generalize LM.take i=R at *
   with_reducible repeat' (first|refine Sp.h ?_|((first|refine Wd ?_|refine Ss.h ?_|refine Sc.h (crs) ?_|refine Sc.h (cps) ?_|(refine Sb.h ?_ ?_ ?_<;>(try intro hgd)<;>try exact Xy))<;>simp -implicitDefEqProofs (maxSteps:=2000000) [hP,hN,g2,hb2,g5,g7,hb8,g6,hb6,hzT,hlt,hlt',hw,hx,hxe,he1,he2,hp0,hp,hpl,hLp,hpp,show (i+1) * 24≤140737488355328 by omega,show i≤9223372036854775806 by omega]<;>try refine Ya ?_)|refine X2 ?_ ?_|(refine Xd ?_ ?_<;>intro hcd<;>try exact Xx))
 ·have hfull : LM.take i=LM:=List.take_of_length_le (by omega)
  have hlt' : ¬ (i : Int) < (s.shs.length : Int):=by omega
  rw [hfull] at hb6 hzT
  with_reducible repeat' (first|refine Sp.h ?_|((first|refine Wd ?_|refine Ss.h ?_|(refine Sb.h ?_ ?_ ?_<;>(try intro hgd)<;>try exact Xy))<;>simp -implicitDefEqProofs (maxSteps:=2000000) [hP,hN,g2,hb2,g5,g7,hb8,g6,hb6,hlt,hlt',hzT]<;>try refine Ya ?_)|refine X2 ?_ ?_|(refine Xd ?_ ?_<;>intro hcd<;>try exact Xx))
end Go.Ab
namespace Go.Ab
open Go.Proofs
theorem Ia (n : Nat) (hn : n < 4611686018427387904) : ah Tryz.prog 153 [.pv (Z n)] [] [] (.pv (Z (dv n))):=by
 by_cases h0 : n=0
 ·subst h0
  have hs : dv 0=0:=by decide +kernel
  rw [hs]
  refine Dp Tryz.func153 ?_
  intro C hP hN
  simp only [Tryz.f153] at hN ⊢
  exact Gy
 have hn1 : ¬ (n : Int) < 1:=by omega
 have hn1' : ¬ n < 1:=by omega
 have hsq:=oq (n:=n) (by omega)
 refine Dp Tryz.func153 ?_
 intro C hP hN
 simp only [Tryz.f153] at hN ⊢
 refine Gz ?_
 refine WP.loopN [] 32 (fun i st=>∃ lo hi : Nat,st.t 0=.pv (Z n)∧st.t 3=.pv (Z lo)∧st.t 4=.pv (Z hi)∧1≤lo∧lo < hi∧hi≤4294967296∧lo * lo≤n∧n < hi * hi∧hi - lo≤2 ^ (32 - i)) ⟨1,4294967296,by simp;omega⟩ ?_
 rintro i st hi ⟨lo,hi2,g0,g3,g4,b1,b2,b3,b4,b5,b6⟩
 have w1 : IntKind.i64.wrap ((hi2 : Int) - (lo : Int))=((hi2 - lo : Nat) : Int):=(ao (by omega) (by omega)).trans (by omega)
 by_cases hc : 1 < hi2 - lo
 ·have hi32 : i < 32:=by
   by_cases h : i < 32
   ·exact h
   ·have : i=32:=by omega
    subst this;simp at b6;omega
  have hp : 2 ^ (32 - i)=2 * 2 ^ (31 - i):=by
   rw [show 32 - i=(31 - i)+1 by omega,Nat.pow_succ];omega
  rw [hp] at b6
  obtain ⟨m,hm⟩ : ∃ m : Nat,m=lo+(hi2 - lo) / 2:=⟨_,rfl⟩
  have hc' : (1 : Int) < ((hi2 - lo : Nat) : Int):=by omega
  obtain ⟨hf,hhf⟩ : ∃ hf : Nat,hf=(hi2 - lo) / 2:=⟨_,rfl⟩
  have w2 : IntKind.i64.wrap ((((hi2 - lo : Nat) : Int)).tdiv 2)=(hf : Int):=by
   rw [Int.tdiv_eq_ediv_of_nonneg (by omega)];exact (ao (by omega) (by omega)).trans (by omega)
  have w3 : IntKind.i64.wrap ((lo : Int)+(hf : Int))=(m : Int):=(ao (by omega) (by omega)).trans (by omega)
  have hm0 : 0 < m:=by omega
  have hmne : ¬ (m : Int)=0:=by omega
  have hmne' : ¬ m=0:=by omega
  obtain ⟨qt,hqt⟩ : ∃ qt : Nat,qt=n / m:=⟨_,rfl⟩
  have hqn : qt≤n:=by rw [hqt];exact Nat.div_le_self n m
  have w4 : IntKind.i64.wrap ((n : Int).tdiv (m : Int))=(qt : Int):=by
   rw [Int.tdiv_eq_ediv_of_nonneg (by omega),← Int.natCast_ediv,← hqt]
   exact ao (by omega) (by omega)
  have w5 : IntKind.i64.wrap (((hi2 - lo : Nat) : Int) / 2)=(hf : Int):=(ao (by omega) (by omega)).trans (by omega)
  have w6 : IntKind.i64.wrap ((n : Int) / (m : Int))=(qt : Int):=by
   rw [← Int.natCast_ediv,← hqt]
   exact ao (by omega) (by omega)
  by_cases hle : m≤qt
  ·have hmm : m * m≤n:=(Nat.le_div_iff_mul_le hm0).1 (hqt ▸ hle)
   have hle' : (m : Int)≤(qt : Int):=by omega
   with_reducible repeat' (first|refine Sp.h ?_|((first|refine Ss.h ?_|(refine Sb.h ?_ ?_ ?_<;>(try intro hgd)<;>try exact Xy))<;>simp -implicitDefEqProofs (maxSteps:=2000000) [hP,hN,g0,g3,g4,w1,w2,w3,w4,w5,w6,hc,hc',hmne,hmne',hle,hle'])|refine X2 ?_ ?_|(refine Xd ?_ ?_<;>intro hcd<;>try exact Xx))
   exact ⟨hi32,m,rfl,hi2,rfl,by omega,by omega,by omega,by omega,by omega,by omega⟩
  ·have hmm : n < m * m:=by
    rcases Nat.lt_or_ge n (m * m) with h|h
    ·exact h
    ·exact absurd (hqt ▸ (Nat.le_div_iff_mul_le hm0).2 h) hle
   have hle' : ¬ (m : Int)≤(qt : Int):=by omega
   with_reducible repeat' (first|refine Sp.h ?_|((first|refine Ss.h ?_|(refine Sb.h ?_ ?_ ?_<;>(try intro hgd)<;>try exact Xy))<;>simp -implicitDefEqProofs (maxSteps:=2000000) [hP,hN,g0,g3,g4,w1,w2,w3,w4,w5,w6,hc,hc',hmne,hmne',hle,hle'])|refine X2 ?_ ?_|(refine Xd ?_ ?_<;>intro hcd<;>try exact Xx))
   exact ⟨hi32,lo,rfl,m,rfl,by omega,by omega,by omega,by omega,by omega,by omega⟩
 ·have hhi : hi2=lo+1:=by omega
  subst hhi
  have he : lo=dv n:=vF b4 b5 hsq.1 hsq.2
  have hc' : ¬ (1 : Int) < ((lo+1 - lo : Nat) : Int):=by omega
  exact Gy
  all_goals simp [he]
theorem Ib (n : Nat) (hn : n < 4611686018427387904) : ah Tryz.prog 118 [.pv (Z n)] [] [] (.pv (Z (oO n))):=by
 have cr:=Ia n hn
 have hsq:=oq (n:=n) (by omega)
 have hsm:=o6 hn
 have hd : oO n=if dv n * dv n < n then dv n+1 else dv n:=rfl
 have w1 : IntKind.i64.wrap ((dv n : Int) * (dv n : Int))=((dv n * dv n : Nat) : Int):=by
  rw [← Int.natCast_mul];exact ao (by omega) (by omega)
 have w2 : IntKind.i64.wrap ((dv n : Int)+1)=((dv n+1 : Nat) : Int):=(ao (by omega) (by omega)).trans (by omega)
 rw [hd]
 generalize dv n=r at *
 by_cases h0 : 0 < n
 ·have h0' : (0 : Int) < (n : Int):=by omega
  by_cases hc : r * r < n
  ·have hc' : ((r * r : Nat) : Int) < (n : Int):=by omega
   rw [if_pos hc]
   refine Dp Tryz.func118 ?_
   intro C hP hN
   simp only [Tryz.f118] at hN ⊢
   exact Gy
  ·have hc' : ¬ ((r * r : Nat) : Int) < (n : Int):=by omega
   rw [if_neg hc]
   refine Dp Tryz.func118 ?_
   intro C hP hN
   simp only [Tryz.f118] at hN ⊢
   exact Gy
 ·have h0' : ¬ (0 : Int) < (n : Int):=by omega
  rw [if_neg (by omega)]
  refine Dp Tryz.func118 ?_
  intro C hP hN
  simp only [Tryz.f118] at hN ⊢
  exact Gy
theorem GF (v : Vc) : ah Tryz.prog 66 [.pv (aG v)] [] [] (.pv (Z (eY v))):=by
 have cu:=vA v
 rw [ph] at cu
 cases hu : bu v with
 |false=>
  rw [hu] at cu
  have hr : eY v=0:=by simp [eY,hu]
  rw [hr]
  refine Dp Tryz.func66 ?_
  intro C hP hN
  simp only [Tryz.f66] at hN ⊢
  exact Gy
 |true=>
  rw [hu] at cu
  have hn : bg 16384 v=true:=by simp only [bu,Bool.and_eq_true] at hu;exact hu.1
  have hs:=BD hn
  have hr : eY v=(oO (rD v) : Int):=by simp [eY,hu]
  have cr:=Ib (rD v) (by omega)
  have h1:=r6 (cW.1 hn).1
  have h2:=r6 (cW.1 hn).2.1
  have h3:=r6 (cW.1 hn).2.2
  have q1:=ck (a:=v.1) (b:=v.1) 16384 16384 (by omega) (by omega) (by omega) (by omega)
  have q2:=ck (a:=v.2.1) (b:=v.2.1) 16384 16384 (by omega) (by omega) (by omega) (by omega)
  have q3:=ck (a:=v.2.2) (b:=v.2.2) 16384 16384 (by omega) (by omega) (by omega) (by omega)
  have p1:=zT v.1
  have p2:=zT v.2.1
  have p3:=zT v.2.2
  have w1 : IntKind.i64.wrap (v.1 * v.1)=v.1 * v.1:=ao
  have w2 : IntKind.i64.wrap (v.2.1 * v.2.1)=v.2.1 * v.2.1:=ao
  have w3 : IntKind.i64.wrap (v.2.2 * v.2.2)=v.2.2 * v.2.2:=ao
  have w4 : IntKind.i64.wrap (v.1 * v.1+v.2.1 * v.2.1)=v.1 * v.1+v.2.1 * v.2.1:=ao
  have w5 : IntKind.i64.wrap (v.1 * v.1+v.2.1 * v.2.1+v.2.2 * v.2.2)=(rD v : Int):=(ao (by omega) (by omega)).trans (by unfold rD;omega)
  rw [hr]
  refine Dp Tryz.func66 ?_
  intro C hP hN
  simp only [Tryz.f66] at hN ⊢
  exact Gy
theorem Dh {n0 n1 n2 x0 x1 x2 x3 x4 x5 : Int} (hu : bu (n0,n1,n2)=true) (hv : df ((x0,x1),(x2,x3),(x4,x5))=true) : ah Tryz.prog 202 [.pv (aG (n0,n1,n2)),.pv (V6 x0 x1 x2 x3 x4 x5)] [] [] (.pv (.tup [Z (fA (n0,n1,n2) ((x0,x1),(x2,x3),(x4,x5))),Z (fD (n0,n1,n2) ((x0,x1),(x2,x3),(x4,x5)))])):=by
 have cu:=vA (n0,n1,n2)
 rw [ph,hu] at cu
 have cr:=vM (x0:=x0) (x1:=x1) (x2:=x2) (x3:=x3) (x4:=x4) (x5:=x5)
 rw [hv] at cr
 have hn : bg 16384 (n0,n1,n2)=true:=by simp only [bu,Bool.and_eq_true] at hu;exact hu.1
 have i:=cW.1 hn
 have j:=fw.1 hv
 have m0:=ln i.1 j.1
 have m1:=ln i.2.1 j.2.1
 have m2:=ln i.2.2 j.2.2
 simp only [mO,mP] at m0 m1 m2
 have hlo : fA (n0,n1,n2) ((x0,x1),(x2,x3),(x4,x5))=min (n0 * x0) (n0 * x1)+min (n1 * x2) (n1 * x3)+min (n2 * x4) (n2 * x5):=rfl
 have hhi : fD (n0,n1,n2) ((x0,x1),(x2,x3),(x4,x5))=max (n0 * x0) (n0 * x1)+max (n1 * x2) (n1 * x3)+max (n2 * x4) (n2 * x5):=rfl
 rw [hlo,hhi]
 have w : ∀ y : Int,-100000000000000≤y→y≤100000000000000→IntKind.i64.wrap y=y:=fun y a b=>ao (by omega) (by omega)
 have a0:=w (n0 * x0) (by omega) (by omega)
 have a1:=w (n0 * x1) (by omega) (by omega)
 have a2:=w (n1 * x2) (by omega) (by omega)
 have a3:=w (n1 * x3) (by omega) (by omega)
 have a4:=w (n2 * x4) (by omega) (by omega)
 have a5:=w (n2 * x5) (by omega) (by omega)
 have fm : ∀ a b : Int,(if b < a then b else a)=min a b:=fun a b=>by omega
 have fM : ∀ a b : Int,(if a < b then b else a)=max a b:=fun a b=>by omega
 have b0:=w (min (n0 * x0) (n0 * x1)) (by omega) (by omega)
 have b1:=w (min (n0 * x0) (n0 * x1)+min (n1 * x2) (n1 * x3)) (by omega) (by omega)
 have b2:=w (min (n0 * x0) (n0 * x1)+min (n1 * x2) (n1 * x3)+min (n2 * x4) (n2 * x5)) (by omega) (by omega)
 have d0:=w (max (n0 * x0) (n0 * x1)) (by omega) (by omega)
 have d1:=w (max (n0 * x0) (n0 * x1)+max (n1 * x2) (n1 * x3)) (by omega) (by omega)
 have d2:=w (max (n0 * x0) (n0 * x1)+max (n1 * x2) (n1 * x3)+max (n2 * x4) (n2 * x5)) (by omega) (by omega)
 refine Dp Tryz.func202 ?_
 intro C hP hN
 simp only [Tryz.f202] at hN ⊢
 refine Gz ?_
 refine WP.loopN [] 3 (fun k st=>st.t 2=.ptr 2 0∧st.t 3=.ptr 3 0∧st.h 2=some (.box [.pv (Z n0),.pv (Z n1),.pv (Z n2)] true false)∧st.h 3=some (.box [.pv (Z x0),.pv (Z x1),.pv (Z x2),.pv (Z x3),.pv (Z x4),.pv (Z x5)] true false)∧st.t 8=.pv (Z k)∧st.t 6=.pv (Z (if k=0 then 0 else if k=1 then min (n0 * x0) (n0 * x1) else if k=2 then min (n0 * x0) (n0 * x1)+min (n1 * x2) (n1 * x3) else min (n0 * x0) (n0 * x1)+min (n1 * x2) (n1 * x3)+min (n2 * x4) (n2 * x5)))∧st.t 7=.pv (Z (if k=0 then 0 else if k=1 then max (n0 * x0) (n0 * x1) else if k=2 then max (n0 * x0) (n0 * x1)+max (n1 * x2) (n1 * x3) else max (n0 * x0) (n0 * x1)+max (n1 * x2) (n1 * x3)+max (n2 * x4) (n2 * x5)))) (by simp) ?_
 rintro k st hk ⟨g2,g3,hb2,hb3,g8,g6,g7⟩
 rcases cE hk with rfl|rfl|rfl|rfl
 all_goals (simp at g6 g7 g8)
 ·skip
  exact Gy
 ·skip
  exact Gy
 ·skip
  exact Gy
 ·skip
  exact Gy
end Go.Ab
namespace Go.Ab
open Go.Proofs
theorem Ic (n : Vc) (xs : List aU) (hl : xs.length≤9223372036854775807) : ah Tryz.prog 180 [.pv (aG n),.pv (bn xs)] [] [] (.pv (.tup (if bu n && aZ xs then [Z (fE n xs).1,Z (fE n xs).2,B true] else [Z 0,Z 0,B false]))):=by
 have cu:=vA n
 rw [ph] at cu
 have cp:=vN xs hl
 cases hu : bu n with
 |false=>
  rw [hu] at cu
  cases hp : aZ xs<;>rw [hp] at cp
  all_goals
   refine Dp Tryz.func180 ?_
   intro C hP hN
   simp only [Tryz.f180] at hN ⊢
   exact Gy
 |true=>
 rw [hu] at cu
 cases hp : aZ xs with
 |false=>
  rw [hp] at cp
  refine Dp Tryz.func180 ?_
  intro C hP hN
  simp only [Tryz.f180] at hN ⊢
  exact Gy
 |true=>
 rw [hp] at cp
 obtain ⟨hall,h8,_⟩:=cJ hp
 have hd : fE n xs=fS (fA n) ej xs xs.length:=rfl
 rw [hd]
 refine Dp Tryz.func180 ?_
 intro C hP hN
 simp only [Tryz.f180] at hN ⊢
 refine Gz ?_
 refine WP.loopN [] xs.length (fun i st=>st.t 2=.ptr 2 0∧st.h 2=some (.box [.pv (Z n.1),.pv (Z n.2.1),.pv (Z n.2.2)] true false)∧st.t 1=.pv (bn xs)∧st.t 9=.pv (Z i)∧st.t 7=.pv (Z (fS (fA n) ej xs i).1)∧st.t 8=.pv (Z (fS (fA n) ej xs i).2)) (by simp [fS]) ?_
 rintro i st hi ⟨g2,hb2,g1,g9,g7,g8⟩
 by_cases hlt : i < xs.length
 ·have hw:=bi hlt (by omega)
  have hlt' : (i : Int) < (xs.length : Int):=by omega
  generalize hxe : xs[i]=v at *
  have hx : xs[i]?=some v:=by rw [List.getElem?_eq_getElem hlt,hxe]
  have hpv : df v=true:=List.all_eq_true.1 hall v (List.mem_of_getElem? hx)
  have cd : ah Tryz.prog 202 [.pv (aG n),.pv (bZ v)] [] [] (.pv (.tup [Z (fA n v),Z (fD n v)])):=Dh hu hpv
  have hs:=rE (val:=fA n) (bet:=ej) hx
  rw [hs]
  by_cases h0 : i=0
  ·subst h0
   exact Gy
  ·have h0' : ((i : Int)==0)=false:=by simp;omega
   generalize hq : fS (fA n) ej xs i=q at *
   obtain ⟨q1,q2⟩:=q
   by_cases hc : fA n v < q1
   ·have hb : ej (fA n v) q1=true:=by simp only [ej,decide_eq_true_eq];exact hc
    simp only [hb,or_true,if_true] at hs ⊢
    exact Gy
   ·have hb : ej (fA n v) q1=false:=by simp only [ej,decide_eq_false_iff_not];exact hc
    simp only [hb,h0,Bool.false_eq_true,or_self,if_false] at hs ⊢
    exact Gy
 ·have hlt' : ¬ (i : Int) < (xs.length : Int):=by omega
  have hin : i=xs.length:=by omega
  subst hin
  exact Gy
theorem Id (n : Vc) (xs : List aU) (hl : xs.length≤9223372036854775807) : ah Tryz.prog 181 [.pv (aG n),.pv (bn xs)] [] [] (.pv (.tup (if bu n && aZ xs then [Z (fH n xs).1,Z (fH n xs).2,B true] else [Z 0,Z 0,B false]))):=by
 have cu:=vA n
 rw [ph] at cu
 have cp:=vN xs hl
 cases hu : bu n with
 |false=>
  rw [hu] at cu
  cases hp : aZ xs<;>rw [hp] at cp
  all_goals
   refine Dp Tryz.func181 ?_
   intro C hP hN
   simp only [Tryz.f181] at hN ⊢
   exact Gy
 |true=>
 rw [hu] at cu
 cases hp : aZ xs with
 |false=>
  rw [hp] at cp
  refine Dp Tryz.func181 ?_
  intro C hP hN
  simp only [Tryz.f181] at hN ⊢
  exact Gy
 |true=>
 rw [hp] at cp
 obtain ⟨hall,h8,_⟩:=cJ hp
 have hd : fH n xs=fS (fD n) ek xs xs.length:=rfl
 rw [hd]
 refine Dp Tryz.func181 ?_
 intro C hP hN
 simp only [Tryz.f181] at hN ⊢
 refine Gz ?_
 refine WP.loopN [] xs.length (fun i st=>st.t 2=.ptr 2 0∧st.h 2=some (.box [.pv (Z n.1),.pv (Z n.2.1),.pv (Z n.2.2)] true false)∧st.t 1=.pv (bn xs)∧st.t 9=.pv (Z i)∧st.t 7=.pv (Z (fS (fD n) ek xs i).1)∧st.t 8=.pv (Z (fS (fD n) ek xs i).2)) (by simp [fS]) ?_
 rintro i st hi ⟨g2,hb2,g1,g9,g7,g8⟩
 by_cases hlt : i < xs.length
 ·have hw:=bi hlt (by omega)
  have hlt' : (i : Int) < (xs.length : Int):=by omega
  generalize hxe : xs[i]=v at *
  have hx : xs[i]?=some v:=by rw [List.getElem?_eq_getElem hlt,hxe]
  have hpv : df v=true:=List.all_eq_true.1 hall v (List.mem_of_getElem? hx)
  have cd : ah Tryz.prog 202 [.pv (aG n),.pv (bZ v)] [] [] (.pv (.tup [Z (fA n v),Z (fD n v)])):=Dh hu hpv
  have hs:=rE (val:=fD n) (bet:=ek) hx
  rw [hs]
  by_cases h0 : i=0
  ·subst h0
   exact Gy
  ·have h0' : ((i : Int)==0)=false:=by simp;omega
   generalize hq : fS (fD n) ek xs i=q at *
   obtain ⟨q1,q2⟩:=q
   by_cases hc : q1 < fD n v
   ·have hb : ek (fD n v) q1=true:=by simp only [ek,decide_eq_true_eq];exact hc
    simp only [hb,or_true,if_true] at hs ⊢
    exact Gy
   ·have hb : ek (fD n v) q1=false:=by simp only [ek,decide_eq_false_iff_not];exact hc
    simp only [hb,h0,Bool.false_eq_true,or_self,if_false] at hs ⊢
    exact Gy
 ·have hlt' : ¬ (i : Int) < (xs.length : Int):=by omega
  have hin : i=xs.length:=by omega
  subst hin
  exact Gy
theorem uV (r : Int) : ah Tryz.prog 113 [.pv (Z r)] [] [] (.pv (B (bM r 0 1048576))):=by
 refine Dp Tryz.func113 ?_
 intro C hP hN
 simp only [Tryz.f113] at hN ⊢
 with_reducible repeat' (first|refine Sp.h ?_|((first|refine Ss.h ?_|(refine Sb.h ?_ ?_ ?_<;>(try intro hgd)<;>try exact Xy))<;>simp -implicitDefEqProofs (maxSteps:=2000000) [hP,hN])|refine X2 ?_ ?_|(refine Xd ?_ ?_<;>intro hcd<;>try exact Xx))
 all_goals (first|(simp_all [bM];done)|((try simp_all [bM])<;>(try omega)<;>grind))
theorem Ie (n : Vc) (a : List aU) (ra : Int) (b : List aU) (rb : Int) (hl : a.length≤9223372036854775807) (hl' : b.length≤9223372036854775807) : ah Tryz.prog 152 [.pv (aG n),.pv (bn a),.pv (Z ra),.pv (bn b),.pv (Z rb)] [] [] (.pv (.tup (if ji n a ra b rb then [Z (jT n a ra b rb),B true] else [Z 0,B false]))):=by
 have c1:=Ic n a hl
 have c2:=Id n b hl'
 have c3:=uV ra
 have c4:=uV rb
 have c5:=GF n
 have hm : ji n a ra b rb=(aZ a && bM ra 0 1048576 && (aZ b && bM rb 0 1048576) && bu n):=by
  simp only [ji,lZ,bM,Bool.and_assoc]
 have nr:=qv n
 have hI : jT n a ra b rb=(fE n a).1 - (fH n b).1 - eY n * (ra+rb):=rfl
 cases hu : bu n<;>cases hpa : aZ a<;>cases hpb : aZ b<;>cases hra : bM ra 0 1048576<;>cases hrb : bM rb 0 1048576
 case true.true.true.true.true=>
  rw [hu,hpa,hpb,hra,hrb] at hm
  rw [hu,hpa] at c1
  rw [hu,hpb] at c2
  rw [hra] at c3
  rw [hrb] at c4
  have hn : bg 16384 n=true:=by simp only [bu,Bool.and_eq_true] at hu;exact hu.1
  have r1:=vH (n:=n) hn (cJ hpa).1
  have r2:=vJ (n:=n) hn (cJ hpb).1
  simp only [bM,Bool.and_eq_true,decide_eq_true_eq] at hra hrb
  have r3:=ck (a:=eY n) (b:=ra+rb) 32768 2097152 (by omega) (by omega) (by omega) (by omega)
  have w1 : IntKind.i64.wrap (ra+rb)=ra+rb:=ao
  have w2 : IntKind.i64.wrap (eY n * (ra+rb))=eY n * (ra+rb):=ao
  have w3 : IntKind.i64.wrap ((fE n a).1 - (fH n b).1)=(fE n a).1 - (fH n b).1:=ao
  have w4 : IntKind.i64.wrap ((fE n a).1 - (fH n b).1 - eY n * (ra+rb))=(fE n a).1 - (fH n b).1 - eY n * (ra+rb):=ao
  rw [hm,hI]
  simp only [Bool.and_self,if_true] at c1 c2 ⊢
  generalize fE n a=x at *
  generalize fH n b=y at *
  generalize eY n=z at *
  refine Dp Tryz.func152 ?_
  intro C hP hN
  simp only [Tryz.f152] at hN ⊢
  exact Gy
 all_goals (
  rw [hu,hpa,hpb,hra,hrb] at hm
  rw [hu,hpa] at c1
  rw [hu,hpb] at c2
  rw [hra] at c3
  rw [hrb] at c4
  rw [hm]
  simp only [Bool.and_self,Bool.and_false,Bool.false_and,Bool.true_and,Bool.and_true,if_true,Bool.false_eq_true,if_false] at c1 c2 ⊢
  clear hm hI nr c5
  generalize fE n a=x at *
  generalize fH n b=y at *)
 all_goals
  refine Dp Tryz.func152 ?_
  intro C hP hN
  simp only [Tryz.f152] at hN ⊢
  exact Gy
theorem If (n : Vc) (a : List aU) (ra : Int) (b : List aU) (rb : Int) (hl : a.length≤9223372036854775807) (hl' : b.length≤9223372036854775807) : ah Tryz.prog 116 [.pv (aG n),.pv (bn a),.pv (Z ra),.pv (bn b),.pv (Z rb)] [] [] (.pv (B (gT n a ra b rb))):=by
 have cm:=Ie n a ra b rb hl hl'
 have hs : gT n a ra b rb=(ji n a ra b rb && decide (0 < jT n a ra b rb)):=rfl
 rw [hs]
 generalize jT n a ra b rb=m at *
 cases hb : ji n a ra b rb<;>rw [hb] at cm<;>simp only [Bool.false_eq_true,if_false,if_true,Bool.false_and,Bool.true_and] at cm ⊢
 all_goals
  refine Dp Tryz.func116 ?_
  intro C hP hN
  simp only [Tryz.f116] at hN ⊢
  exact Gy
theorem Jq (l : List Vc) (a : List aU) (ra : Int) (b : List aU) (rb : Int) (hll : l.length≤9223372036854775807) (hl : a.length≤9223372036854775807) (hl' : b.length≤9223372036854775807) : ah Tryz.prog 58 [.pv (bp l),.pv (bn a),.pv (Z ra),.pv (bn b),.pv (Z rb)] [] [] (.pv (.tup (match l.findIdx? (fun n=>gT n a ra b rb) with|some i=>[Z i,B true]|none=>[Z 0,B false]))):=by
 refine Dp Tryz.func58 ?_
 intro C hP hN
 simp only [Tryz.f58] at hN ⊢
 refine Gz ?_
 refine WP.loopN [] l.length (fun i st=>st.t 0=.pv (bp l)∧st.t 1=.pv (bn a)∧st.t 2=.pv (Z ra)∧st.t 3=.pv (bn b)∧st.t 4=.pv (Z rb)∧st.t 12=.pv (Z i)∧∀ k x,k < i→l[k]?=some x→gT x a ra b rb=false) (by simp) ?_
 rintro i st hi ⟨g0,g1,g2,g3,g4,g12,hq⟩
 by_cases hlt : i < l.length
 ·have hw:=bi hlt hll
  have hlt' : (i : Int) < (l.length : Int):=by omega
  generalize hxe : l[i]=v at *
  have hx : l[i]?=some v:=by rw [List.getElem?_eq_getElem hlt,hxe]
  have cs:=If v a ra b rb hl hl'
  have hst:=zZ (p:=fun n=>gT n a ra b rb) hx hq
  cases hc : gT v a ra b rb with
  |true=>
   rw [hc] at cs
   have hf : l.findIdx? (fun n=>gT n a ra b rb)=some i:=by
    rw [List.findIdx?_eq_some_iff_getElem]
    refine ⟨hlt,by rw [hxe];exact hc,fun j hj=>?_⟩
    have:=hq j l[j] hj (List.getElem?_eq_getElem (by omega))
    simp [this]
   rw [hf]
   exact Gy
  |false=>
   rw [hc] at cs
   have hst2:=hst hc
   refine Gz ?_
   all_goals exact fun k a b c hk hx2=>hst2 k (a,b,c) (by omega) hx2
 ·have hlt' : ¬ (i : Int) < (l.length : Int):=by omega
  have hf : l.findIdx? (fun n=>gT n a ra b rb)=none:=by
   rw [List.findIdx?_eq_none_iff]
   intro x hx
   obtain ⟨k,hk⟩:=List.getElem?_of_mem hx
   exact hq k x (by have:=(List.getElem?_eq_some_iff.1 hk).1;omega) hk
  rw [hf]
  exact Gy
theorem Ig : ah Tryz.prog 115 [] [] [] (.pv (bp iS)):=by
 refine Dp Tryz.func115 ?_
 intro C hP hN
 simp only [Tryz.f115] at hN ⊢
 exact Gy
end Go.Ab
namespace Go.Ab
open Go.Proofs
theorem Fm (v w : Vc) (hv : eJ 1152921504606846976 v) (hw : eJ 1152921504606846976 w) : ah Tryz.prog 60 [.pv (aG v),.pv (aG w)] [] [] (.pv (aG (bA v w))):=by
 have w1 : IntKind.i64.wrap (v.1 - w.1)=v.1 - w.1:=ao (by have:=hv.1;have:=hw.1;omega) (by have:=hv.1;have:=hw.1;omega)
 have w2 : IntKind.i64.wrap (v.2.1 - w.2.1)=v.2.1 - w.2.1:=ao (by have:=hv.2.1;have:=hw.2.1;omega) (by have:=hv.2.1;have:=hw.2.1;omega)
 have w3 : IntKind.i64.wrap (v.2.2 - w.2.2)=v.2.2 - w.2.2:=ao (by have:=hv.2.2;have:=hw.2.2;omega) (by have:=hv.2.2;have:=hw.2.2;omega)
 have hr : bA v w=(v.1 - w.1,v.2.1 - w.2.1,v.2.2 - w.2.2):=rfl
 rw [hr]
 refine Dp Tryz.func60 ?_
 intro C hP hN
 simp only [Tryz.f60] at hN ⊢
 exact Gy
theorem zf (v w : Vc) (m n : Nat) (hv : eJ m v) (hw : eJ n w) (hmn : 3 * (m * n)≤9223372036854775807) : ah Tryz.prog 65 [.pv (aG v),.pv (aG w)] [] [] (.pv (Z (bT v w))):=by
 have h:=jC hv hw
 have w1 : IntKind.i64.wrap (v.1 * w.1)=v.1 * w.1:=ao
 have w2 : IntKind.i64.wrap (v.2.1 * w.2.1)=v.2.1 * w.2.1:=ao
 have w3 : IntKind.i64.wrap (v.2.2 * w.2.2)=v.2.2 * w.2.2:=ao
 have w4 : IntKind.i64.wrap (v.1 * w.1+v.2.1 * w.2.1)=v.1 * w.1+v.2.1 * w.2.1:=ao
 have w5 : IntKind.i64.wrap (v.1 * w.1+v.2.1 * w.2.1+v.2.2 * w.2.2)=v.1 * w.1+v.2.1 * w.2.1+v.2.2 * w.2.2:=ao
 have hr : bT v w=v.1 * w.1+v.2.1 * w.2.1+v.2.2 * w.2.2:=rfl
 rw [hr]
 refine Dp Tryz.func65 ?_
 intro C hP hN
 simp only [Tryz.f65] at hN ⊢
 exact Gy
theorem Gw (l : List Vc) (hl : l.length≤9223372036854775807) : ah Tryz.prog 59 [.pv (bp l)] [] [] (.pv (B (eU l))):=by
 by_cases h8 : l.length≤8
 ·skip
  refine Dp Tryz.func59 ?_
  intro C hP hN
  simp only [Tryz.f59] at hN ⊢
  refine Gz ?_
  refine WP.loopN [] l.length (fun i st=>st.t 0=.pv (bp l)∧st.t 3=.pv (Z i)∧∀ k x,k < i→l[k]?=some x→bg 268435456 x=true) (by simp) ?_
  rintro i st hi ⟨g0,g3,hq⟩
  by_cases hlt : i < l.length
  ·have hw : IntKind.i64.wrap ((i : Int)+1)=(i : Int)+1:=ao
   have hlt' : (i : Int) < (l.length : Int):=by omega
   have hi8 : (i : Int)≤8:=by omega
   have hi8' : i≤8:=by omega
   generalize hxe : l[i]=v at *
   have hx : l[i]?=some v:=by rw [List.getElem?_eq_getElem hlt,hxe]
   have cn:=nK v.1 v.2.1 v.2.2 268435456 (by decide) (by decide)
   have hnp : bg 268435456 v=fL v.1 v.2.1 v.2.2 268435456:=rfl
   rw [← hnp] at cn
   have hst:=ky (p:=bg 268435456) hx hq
   cases hc : bg 268435456 v with
   |true=>
    rw [hc] at cn
    have hst2:=hst hc
    refine Gz ?_
    all_goals exact fun k a b c hk hx2=>hst2 k (a,b,c) (by omega) hx2
   |false=>
    rw [hc] at cn
    have hall : l.all (bg 268435456)=false:=by
     rw [List.all_eq_false]
     exact ⟨v,List.mem_of_getElem? hx,by simp [hc]⟩
    have hpb : eU l=false:=by simp [eU,hall]
    rw [hpb]
    exact Gy
  ·have hall : l.all (bg 268435456)=true:=lO hq hlt
   have hlt' : ¬ (i : Int) < (l.length : Int):=by omega
   have hpb : eU l=decide (1≤l.length):=by
    rw [eU,hall,decide_eq_true h8,Bool.and_true,Bool.and_true]
   rw [hpb]
   by_cases h1 : 1≤l.length
   ·have h1' : (1 : Int)≤(l.length : Int):=by omega
    have h8' : (l.length : Int)≤8:=by omega
    exact Gy
   ·have h1' : ¬ (1 : Int)≤(l.length : Int):=by omega
    exact Gy
 ·have hpb : eU l=false:=by
   cases h : eU l with
   |false=>rfl
   |true=>simp only [eU,Bool.and_eq_true,decide_eq_true_eq] at h;omega
  rw [hpb]
  refine Dp Tryz.func59 ?_
  intro C hP hN
  simp only [Tryz.f59] at hN ⊢
  refine Gz ?_
  refine WP.loopN [] 9 (fun i st=>st.t 0=.pv (bp l)∧st.t 3=.pv (Z i)) (by simp) ?_
  rintro i st hi ⟨g0,g3⟩
  by_cases hi8 : i≤8
  ·have hlt : i < l.length:=by omega
   have hw : IntKind.i64.wrap ((i : Int)+1)=(i : Int)+1:=ao
   have hlt' : (i : Int) < (l.length : Int):=by omega
   have hi8' : (i : Int)≤8:=by omega
   generalize hxe : l[i]=v at *
   have hx : l[i]?=some v:=by rw [List.getElem?_eq_getElem hlt,hxe]
   have cn:=nK v.1 v.2.1 v.2.2 268435456 (by decide) (by decide)
   cases hc : fL v.1 v.2.1 v.2.2 268435456<;>rw [hc] at cn
   ·skip
    exact Gy
   ·skip
    refine Gz ?_
    all_goals omega
  ·have hi9 : i=9:=by omega
   subst hi9
   have h8' : ¬ (l.length : Int)≤8:=by omega
   have h1' : (1 : Int)≤(l.length : Int):=by omega
   have h1 : 1≤l.length:=by omega
   by_cases h9 : 9 < l.length
   ·have h9' : (9 : Int) < (l.length : Int):=by omega
    exact Gy
   ·skip
    exact Gy
theorem Jg (v : Vc) (rho : Int) (hv : eJ 35184372088832 v) (hr : 0≤rho∧rho≤2097152) : ah Tryz.prog 62 [.pv (aG v),.pv (Z rho)] [] [] (.pv (B (ly v rho))):=by
 have q0:=nq hv.1
 have q1:=nq hv.2.1
 have q2:=nq hv.2.2
 have hm:=ck (a:=rho) (b:=rho) 2097152 2097152 (by omega) (by omega) (by omega) (by omega)
 have w0 : IntKind.i64.wrap (rho * rho)=rho * rho:=ao
 have mx : ∀ x : Int,-35184372088832≤x→x≤35184372088832→IntKind.i64.wrap (-x)=-x∧IntKind.i64.wrap (0 - x)=-x:=fun x a b=>⟨ao (by omega) (by omega),(ao (n:=0 - x) (by omega) (by omega)).trans (by omega)⟩
 have m0:=mx v.1 hv.1.1 hv.1.2
 have m1:=mx v.2.1 hv.2.1.1 hv.2.1.2
 have m2:=mx v.2.2 hv.2.2.1 hv.2.2.2
 have cc : ∀ x : Int,-35184372088832≤x→x≤35184372088832→ah Tryz.prog 117 [.pv (Z (max x (-x))),.pv (Z 65536)] [] [] (.pv (Z (dw (max x (-x)) 65536))):=fun x a b=>by
  have:=xH (max x (-x)) 65536 (by decide)
  rw [ou (by decide) (by omega) (by omega)] at this
  exact this
 have c0:=cc v.1 hv.1.1 hv.1.2
 have c1:=cc v.2.1 hv.2.1.1 hv.2.1.2
 have c2:=cc v.2.2 hv.2.2.1 hv.2.2.2
 have fM : ∀ a b : Int,(if a < b then b else a)=max a b:=fun a b=>by omega
 have hd : ly v rho=decide (j2 v.1+j2 v.2.1+j2 v.2.2≤rho * rho):=rfl
 have s0 : j2 v.1=dw (max v.1 (-v.1)) 65536 * dw (max v.1 (-v.1)) 65536:=rfl
 have s1 : j2 v.2.1=dw (max v.2.1 (-v.2.1)) 65536 * dw (max v.2.1 (-v.2.1)) 65536:=rfl
 have s2 : j2 v.2.2=dw (max v.2.2 (-v.2.2)) 65536 * dw (max v.2.2 (-v.2.2)) 65536:=rfl
 rw [hd]
 generalize dw (max v.1 (-v.1)) 65536=k0 at *
 generalize dw (max v.2.1 (-v.2.1)) 65536=k1 at *
 generalize dw (max v.2.2 (-v.2.2)) 65536=k2 at *
 rw [s0,s1,s2]
 rw [s0] at q0
 rw [s1] at q1
 rw [s2] at q2
 have w1 : IntKind.i64.wrap (k0 * k0)=k0 * k0:=ao
 have w2 : IntKind.i64.wrap (k1 * k1)=k1 * k1:=ao
 have w3 : IntKind.i64.wrap (k2 * k2)=k2 * k2:=ao
 have w4 : IntKind.i64.wrap (k0 * k0+k1 * k1)=k0 * k0+k1 * k1:=ao
 have w5 : IntKind.i64.wrap (k0 * k0+k1 * k1+k2 * k2)=k0 * k0+k1 * k1+k2 * k2:=ao
 refine Dp Tryz.func62 ?_
 intro C hP hN
 simp only [Tryz.f62] at hN ⊢
 refine Gz ?_
 refine WP.loopN [] 3 (fun k st=>st.t 2=.ptr 2 0∧st.h 2=some (.box [.pv (Z v.1),.pv (Z v.2.1),.pv (Z v.2.2)] true false)∧st.t 1=.pv (Z rho)∧st.t 6=.pv (Z k)∧st.t 5=.pv (Z (if k=0 then 0 else if k=1 then k0 * k0 else if k=2 then k0 * k0+k1 * k1 else k0 * k0+k1 * k1+k2 * k2))) (by simp) ?_
 rintro k st hk ⟨g2,hb2,g1,g6,g5⟩
 rcases cE hk with rfl|rfl|rfl|rfl
 all_goals (simp at g5 g6)
 ·skip
  exact Gy
 ·skip
  exact Gy
 ·skip
  exact Gy
 ·skip
  exact Gy
end Go.Ab
namespace Go.Ab
open Go.Proofs
theorem Gx (l : List Vc) (ws : List Int) (h8 : l.length≤8) (hle : ws.length=l.length) (hl : l.all (bg 268435456)=true) (hw : WgOk ws) : ah Tryz.prog 61 [.pv (bp l),.pv (zs ws)] [] [] (.pv (aG (dk l ws l.length))):=by
 refine Dp Tryz.func61 ?_
 intro C hP hN
 simp only [Tryz.f61] at hN ⊢
 refine Gz ?_
 refine WP.loopN [] l.length (fun i st=>st.t 0=.pv (bp l)∧st.t 1=.pv (zs ws)∧st.t 4=.ptr 4 0∧st.h 4=some (.box [.pv (Z 0),.pv (Z 0),.pv (Z 0)] true false)∧st.t 5=.ptr 5 0∧st.h 5=some (.box [.pv (Z (dk l ws i).1),.pv (Z (dk l ws i).2.1),.pv (Z (dk l ws i).2.2)] true false)∧st.t 6=.pv (Z i)) (by simp [dk]) ?_
 rintro i st hi ⟨g0,g1,g4,hb4,g5,hb5,g6⟩
 by_cases hlt : i < l.length
 ·have hwr:=bi hlt (by omega)
  have hlt' : (i : Int) < (l.length : Int):=by omega
  have hltw : i < ws.length:=by omega
  generalize hxe : l[i]=p at *
  have hx : l[i]?=some p:=by rw [List.getElem?_eq_getElem hlt,hxe]
  generalize hye : ws[i]=k at *
  have hy : ws[i]?=some k:=by rw [List.getElem?_eq_getElem hltw,hye]
  have r0:=io hl hw i (by omega)
  have r1:=io hl hw (i+1) (by omega)
  have hk0:=hw.pos k (List.mem_of_getElem? hy)
  have hk1 : k≤65536:=by
   have a1:=kx hy
   have a2:=nM hw.pos i
   have a3:=fZ hw.pos (show i+1≤ws.length by omega)
   have a4:=hw.tot
   omega
  have hp:=dZ (List.all_eq_true.1 hl p (List.mem_of_getElem? hx))
  have hS : dk l ws (i+1)=((dk l ws i).1+k * p.1,(dk l ws i).2.1+k * p.2.1,(dk l ws i).2.2+k * p.2.2):=by simp only [dk,hx,hy]
  have m1:=ck (a:=k) (b:=p.1) 65536 268435456 (by omega) (by omega) hp.1.1 hp.1.2
  have m2:=ck (a:=k) (b:=p.2.1) 65536 268435456 (by omega) (by omega) hp.2.1.1 hp.2.1.2
  have m3:=ck (a:=k) (b:=p.2.2) 65536 268435456 (by omega) (by omega) hp.2.2.1 hp.2.2.2
  generalize dk l ws i=S at *
  generalize dk l ws (i+1)=S' at *
  subst hS
  obtain ⟨q1,q2,q3⟩:=r1
  simp only at q1 q2 q3
  have u1 : IntKind.i64.wrap (k * p.1)=k * p.1:=ao
  have u2 : IntKind.i64.wrap (k * p.2.1)=k * p.2.1:=ao
  have u3 : IntKind.i64.wrap (k * p.2.2)=k * p.2.2:=ao
  have v1 : IntKind.i64.wrap (S.1+k * p.1)=S.1+k * p.1:=ao
  have v2 : IntKind.i64.wrap (S.2.1+k * p.2.1)=S.2.1+k * p.2.1:=ao
  have v3 : IntKind.i64.wrap (S.2.2+k * p.2.2)=S.2.2+k * p.2.2:=ao
  clear r0 q1 q2 q3 m1 m2 m3 hp
  have hbeg : [AV.pv (Z S.1),AV.pv (Z S.2.1),AV.pv (Z S.2.2)]=jk S p k 0:=rfl
  rw [hbeg] at hb5
  refine Gz ?_
  refine WP.loopN [] 3 (fun j st=>st.t 0=.pv (bp l)∧st.t 1=.pv (zs ws)∧st.t 4=.ptr 4 0∧st.h 4=some (.box [.pv (Z 0),.pv (Z 0),.pv (Z 0)] true false)∧st.t 5=.ptr 5 0∧st.h 5=some (.box (jk S p k j) true false)∧st.t 6=.pv (Z i)∧st.t 7=.pv (Z j)) (by simp [g0,g1,g4,hb4,g5,g6,hb5,jk]) ?_
  clear g0 g1 g4 hb4 g5 g6 hb5
  rintro j st hj ⟨g0,g1,g4,hb4,g5,hb5,g6,g7⟩
  rcases cE hj with rfl|rfl|rfl|rfl
  all_goals (simp [jk] at hb5 g7)
  ·skip
   with_reducible repeat' (first|refine Sp.h ?_|((first|refine Wd ?_|refine Ss.h ?_|(refine Sb.h ?_ ?_ ?_<;>(try intro hgd)<;>try exact Xy))<;>simp -implicitDefEqProofs (maxSteps:=2000000) [hP,hN,g0,g1,g4,hb4,g5,hb5,g6,g7,hx,hxe,hy,hye,hlt,hlt',hltw,u1,v1,jk]<;>try refine Ya ?_)|refine X2 ?_ ?_|(refine Xd ?_ ?_<;>intro hcd<;>try exact Xx))
  ·skip
   with_reducible repeat' (first|refine Sp.h ?_|((first|refine Wd ?_|refine Ss.h ?_|(refine Sb.h ?_ ?_ ?_<;>(try intro hgd)<;>try exact Xy))<;>simp -implicitDefEqProofs (maxSteps:=2000000) [hP,hN,g0,g1,g4,hb4,g5,hb5,g6,g7,hx,hxe,hy,hye,hlt,hlt',hltw,u2,v2,jk]<;>try refine Ya ?_)|refine X2 ?_ ?_|(refine Xd ?_ ?_<;>intro hcd<;>try exact Xx))
  ·skip
   with_reducible repeat' (first|refine Sp.h ?_|((first|refine Wd ?_|refine Ss.h ?_|(refine Sb.h ?_ ?_ ?_<;>(try intro hgd)<;>try exact Xy))<;>simp -implicitDefEqProofs (maxSteps:=2000000) [hP,hN,g0,g1,g4,hb4,g5,hb5,g6,g7,hx,hxe,hy,hye,hlt,hlt',hltw,u3,v3,jk]<;>try refine Ya ?_)|refine X2 ?_ ?_|(refine Xd ?_ ?_<;>intro hcd<;>try exact Xx))
  ·skip
   exact Gy
 ·have hin : i=l.length:=by omega
  have hlt' : ¬ (i : Int) < (l.length : Int):=by omega
  subst hin
  exact Gy
theorem vK (l : List Int) (i : Nat) (y : Int) : (List.map Z l).set i (PV.val (Value.int IntKind.i64 y))=List.map Z (l.set i y):=by simp
theorem GA (w : List Int) (t : Int) (q : Nat) (h8 : w.length≤8) (hw : WgOk w) (hq : q < w.length) (ht : 0≤t) (ht2 : t≤256) : ah Tryz.prog 67 [.pv (zs w),.pv (Z t),.pv (Z q)] [] [] (.pv (zs (iA w q t))):=by
 have hg : iA w q t=(dM w t w.length).set q (((dM w t w.length)[q]?).getD 0+dO w t w.length):=rfl
 have hrng : ∀ k ∈ w,0≤k∧k≤65536:=fun k hk=>by
  obtain ⟨i,hi⟩:=List.getElem?_of_mem hk
  have a1:=kx hi
  have a2:=nM hw.pos i
  have a3:=fZ hw.pos (show i+1≤w.length by have:=(List.getElem?_eq_some_iff.1 hi).1;omega)
  have a4:=hw.tot
  exact ⟨hw.pos k hk,by omega⟩
 have hlost:=lA hw.pos ht ht2
 have f1 : w.length * 8≤140737488355328:=by omega
 have f2 : w.length≤9223372036854775807:=by omega
 refine Dp Tryz.func67 ?_
 intro C hP hN
 simp only [Tryz.f67] at hN ⊢
 with_reducible repeat' (first|refine Sp.h ?_|((first|refine Ss.h ?_|(refine Sb.h ?_ ?_ ?_<;>(try intro hgd)<;>try exact Xy))<;>simp -implicitDefEqProofs (maxSteps:=2000000) [hP,hN,f1,f2])|refine X2 ?_ ?_|(refine Xd ?_ ?_<;>intro hcd<;>try exact Xx))
 refine WP.loopN [] w.length (fun i st=>st.t 1=.pv (Z t)∧st.t 2=.pv (Z q)∧st.t 7=.arr 12 w.length∧st.h 12=some (.row 2 1 ((dM w t i).map Z) 0)∧st.t 8=.pv (Z (dO w t i))∧st.t 9=.pv (Z i)) (by simp [pV,dO]) ?_
 rintro i st hi ⟨g1,g2,g7,hb,g8,g9⟩
 have hKl:=kC w t i
 have hl1:=hlost i
 have htw : bD w i≤65536:=by
  have:=fZ hw.pos (show i≤w.length by omega)
  have:=hw.tot
  omega
 by_cases hlt : i < w.length
 ·have hwr:=bi hlt (by omega)
  have hlt' : (i : Int) < (w.length : Int):=by omega
  generalize hye : w[i]=k at *
  have hy : w[i]?=some k:=by rw [List.getElem?_eq_getElem hlt,hye]
  have hk:=hrng k (List.mem_of_getElem? hy)
  have hp:=lz hk.1 ht ht2
  have hKi : (dM w t i)[i]?=some k:=by rw [ie,hy];simp
  have hKs:=pW (t:=t) hy
  have hls : dO w t (i+1)=dO w t i+k * t / 256:=by simp [dO,hy]
  have hl2:=hlost (i+1)
  have htw2 : bD w (i+1)≤65536:=by
   have:=fZ hw.pos (show i+1≤w.length by omega)
   have:=hw.tot
   omega
  rw [hKs]
  rw [hls] at hl2 ⊢
  have hm : (List.map Z (dM w t i)).set i (PV.val (Value.int IntKind.i64 (k - k * t / 256)))=List.map Z ((dM w t i).set i (k - k * t / 256)):=vK _ _ _
  generalize dM w t i=K at *
  have hKe : ∀ h,K[i]'h=k:=fun h=>by rw [List.getElem?_eq_getElem h] at hKi;exact Option.some.inj hKi
  have w1 : IntKind.i64.wrap (k * t)=k * t:=ao
  have w2 : (k * t).tdiv 256=k * t / 256:=Int.tdiv_eq_ediv_of_nonneg (by omega)
  have w3 : IntKind.i64.wrap (k * t / 256)=k * t / 256:=ao
  have w4 : IntKind.i64.wrap (k - k * t / 256)=k - k * t / 256:=ao
  have w5 : IntKind.i64.wrap (dO w t i+k * t / 256)=dO w t i+k * t / 256:=ao
  generalize dO w t i=L at *
  with_reducible repeat' (first|refine Sp.h ?_|((first|refine Ss.h ?_|(refine Sb.h ?_ ?_ ?_<;>(try intro hgd)<;>try exact Xy))<;>simp -implicitDefEqProofs (maxSteps:=2000000) [hP,hN,g1,g2,g7,hb,g8,g9,hlt,hlt',hKi,hKe,hKl,w1,w2,w3,w4,w5,hwr,hm,-List.map_set])|refine X2 ?_ ?_|(refine Xd ?_ ?_<;>intro hcd<;>try exact Xx))
 ·have hin : i=w.length:=by omega
  have hlt' : ¬ (i : Int) < (w.length : Int):=by omega
  subst hin
  have hq' : (q : Int) < (w.length : Int):=by omega
  obtain ⟨u,hu⟩ : ∃ u,(dM w t w.length)[q]?=some u:=⟨_,List.getElem?_eq_getElem (by rw [hKl];exact hq)⟩
  have hur : 0≤u∧u≤65536:=by
   rw [ie] at hu
   obtain ⟨k,hk⟩ : ∃ k,w[q]?=some k:=⟨_,List.getElem?_eq_getElem hq⟩
   rw [hk] at hu
   simp only [Option.map_some,Option.some.injEq] at hu
   have hk2:=hrng k (List.mem_of_getElem? hk)
   have hp:=lz hk2.1 ht ht2
   split at hu<;>omega
  rw [hg,hu]
  have hm : (List.map Z (dM w t w.length)).set q (PV.val (Value.int IntKind.i64 (u+dO w t w.length)))=List.map Z ((dM w t w.length).set q (u+dO w t w.length)):=vK _ _ _
  have w5 : IntKind.i64.wrap (u+dO w t w.length)=u+dO w t w.length:=ao
  generalize dM w t w.length=K at *
  have hKe : ∀ h,K[q]'h=u:=fun h=>by rw [List.getElem?_eq_getElem h] at hu;exact Option.some.inj hu
  generalize dO w t w.length=L at *
  with_reducible repeat' (first|refine Sp.h ?_|((first|refine Ss.h ?_|(refine Sb.h ?_ ?_ ?_<;>(try intro hgd)<;>try exact Xy))<;>simp -implicitDefEqProofs (maxSteps:=2000000) [hP,hN,g1,g2,g7,hb,g8,g9,hlt',hq,hq',hu,hKe,hKl,w5,hm,-List.map_set])|refine X2 ?_ ?_|(refine Xd ?_ ?_<;>intro hcd<;>try exact Xx))
theorem F3 (x : Int) (a : Nat) : (x.tdiv (a : Int)).tdiv 2=x.tdiv ((a * 2 : Nat) : Int):=by
 have h : ∀ n : Nat,((n : Int).tdiv (a : Int)).tdiv 2=(n : Int).tdiv ((a * 2 : Nat) : Int):=fun n=>by
  have e : ∀ p q : Nat,(p : Int).tdiv (q : Int)=((p / q : Nat) : Int):=fun p q=>by rw [Int.tdiv_eq_ediv_of_nonneg (by omega),Int.natCast_ediv]
  rw [e n a,show (2 : Int)=((2 : Nat) : Int) from rfl,e,e,Nat.div_div_eq_div_mul]
 rcases Int.le_total 0 x with hx|hx
 ·have:=h x.toNat
  rw [Int.toNat_of_nonneg hx] at this
  exact this
 ·have:=h (-x).toNat
  rw [Int.toNat_of_nonneg (by omega)] at this
  rw [Int.neg_tdiv,Int.neg_tdiv,Int.neg_tdiv] at this
  omega
def ij (i : Nat) (v : Vc) : Vc:=(v.1.tdiv ((2 ^ i : Nat) : Int),v.2.1.tdiv ((2 ^ i : Nat) : Int),v.2.2.tdiv ((2 ^ i : Nat) : Int))
theorem Cu (v : Vc) : ij 0 v=v:=by simp [ij]
theorem Cv (i : Nat) (v : Vc) : jS (ij i v)=ij (i+1) v:=by
 simp only [jS,ij,F3,Nat.pow_succ]
theorem t8 {v : Vc} : ∀ (i : Nat),i≤64→(∀ j,j < i→bg 16384 (ij j v)=false)→i7 64 v=i7 (64 - i) (ij i v)
 |0,_,_=>by rw [Cu]
 |i+1,hi,h=>by
  rw [t8 i (by omega) (fun j hj=>h j (by omega)),show 64 - i=(64 - (i+1))+1 by omega,i7,if_neg (by rw [h i (by omega)];simp),Cv]
theorem yx {n : Nat} {v : Vc} (h : bg 16384 v=true) : i7 n v=v:=by
 cases n with
 |zero=>rfl
 |succ n=>rw [i7,if_pos h]
theorem BG {v : Vc} {i : Nat} (hi : i≤64) (h : ∀ j,j < i→bg 16384 (ij j v)=false) (hn : bg 16384 (ij i v)=true) : bP v=ij i v:=by
 unfold bP
 rw [t8 i hi h,yx hn]
theorem D0 {v : Vc} (h : bg 16384 v=false) : nz (jS v)=true:=by
 have hn : ¬ (bg 16384 v=true):=by rw [h];simp
 rw [cW,bL,bL,bL] at hn
 cases hz : nz (jS v) with
 |true=>rfl
 |false=>
  exfalso
  simp only [nz,jS,Bool.not_eq_false',Bool.and_eq_true,beq_iff_eq] at hz
  obtain ⟨⟨z1,z2⟩,z3⟩:=hz
  have t : ∀ x : Int,x.tdiv 2=0→-2 < x∧x < 2:=fun x hx=>by
   have:=Int.mul_tdiv_add_tmod x 2
   have:=Int.lt_tmod_of_pos x (show (0 : Int) < 2 by decide)
   have:=Int.tmod_lt_of_pos x (show (0 : Int) < 2 by decide)
   omega
  have a:=t _ z1
  have b:=t _ z2
  have c:=t _ z3
  omega
theorem xI : ∀ (n : Nat) (v : Vc),nz v=true→nz (i7 n v)=true
 |0,v,h=>h
 |n+1,v,h=>by
  rw [i7]
  split
  ·exact h
  ·rename_i hn
   exact xI n _ (D0 (by simpa using hn))
theorem D1 {v : Vc} (h : eJ 1099511627776 v) : bg 16384 (ij 26 v)=true:=by
 have t : ∀ x : Int,-1099511627776≤x→x≤1099511627776→-16384≤x.tdiv ((2 ^ 26 : Nat) : Int)∧x.tdiv ((2 ^ 26 : Nat) : Int)≤16384:=fun x a b=>by
  have e:=Int.mul_tdiv_add_tmod x ((2 ^ 26 : Nat) : Int)
  have e1:=Int.lt_tmod_of_pos x (show (0 : Int) < ((2 ^ 26 : Nat) : Int) by decide)
  have e2:=Int.tmod_lt_of_pos x (show (0 : Int) < ((2 ^ 26 : Nat) : Int) by decide)
  have hk : ((2 ^ 26 : Nat) : Int)=67108864:=by decide
  rw [hk] at e e1 e2 ⊢
  omega
 have a:=t _ h.1.1 h.1.2
 have b:=t _ h.2.1.1 h.2.1.2
 have c:=t _ h.2.2.1 h.2.2.2
 rw [cW,bL,bL,bL]
 simp only [ij]
 omega
@[simp] theorem Io {dst : Option Nat} {ty : TypeId} {pos : String} {aft : Array Edge} {g : Option (Nat × Bool)} {ρ : Operand→AV} (x y : Operand) :
 bf Tryz.prog ⟨dst,.binOp .eql 51 x y 51,ty,pos,aft,g⟩ ρ=Ag (ρ x) (ρ y) (i9 Tryz.prog ⟨dst,.binOp .eql 51 x y 51,ty,pos,aft,g⟩ ρ):=by
 unfold Ag
 split
 ·rename_i a b e c d f hx hy
  exact tE rfl (m9 hx) (m9 hy) (by kernel_rfl) (Di a b e c d f)
 ·rfl
@[simp] theorem FM (a b e c d f : Int) (fb : Option bw) : Ag (.pv (.val (.agg #[.int .i64 a,.int .i64 b,.int .i64 e]))) (.pv (.val (.agg #[.int .i64 c,.int .i64 d,.int .i64 f]))) fb=some (.pv (.val (.bool (a==c && b==d && e==f))),[]):=rfl
theorem GB (v : Vc) (h : eJ 1099511627776 v) : ah Tryz.prog 63 [.pv (aG v)] [] [] (.pv (.tup [aG (bP v),B (nz (bP v))])):=by
 cases hz : nz v with
 |false=>
  have hz' : (v.1==0 && v.2.1==0 && v.2.2==0)=true:=by simpa [nz] using hz
  have hv0 : v=(0,0,0):=by
   simp only [Bool.and_eq_true,beq_iff_eq] at hz'
   obtain ⟨⟨a,b⟩,c⟩:=hz'
   exact Prod.ext a (Prod.ext b c)
  subst hv0
  have hn : bP (0,0,0)=(0,0,0):=by decide +kernel
  rw [hn,hz]
  refine Dp Tryz.func63 ?_
  intro C hP hN
  simp only [Tryz.f63] at hN ⊢
  exact Gy
 |true=>
  have hz' : (v.1==0 && v.2.1==0 && v.2.2==0)=false:=by
   have:=hz
   simp only [nz,Bool.not_eq_true'] at this
   exact this
  have hnz : nz (bP v)=true:=xI 64 v hz
  rw [hnz]
  have p2 : ∀ i,i≤26→(2 ^ i : Nat)≤67108864:=fun i hi=>Nat.pow_le_pow_right (by decide) hi
  have p1 : ∀ i,0 < (2 ^ i : Nat):=fun i=>Nat.pow_pos (by decide)
  refine Dp Tryz.func63 ?_
  intro C hP hN
  simp only [Tryz.f63] at hN ⊢
  refine Gz ?_
  refine WP.loopN [5] 26 (fun i st=>st.t 1=.ptr 1 0∧st.h 1=some (.box [.pv (Z v.1),.pv (Z v.2.1),.pv (Z v.2.2)] true false)∧st.t 2=.ptr 2 0∧st.h 2=some (.box [.pv (Z 0),.pv (Z 0),.pv (Z 0)] true false)∧st.t 4=.pv (Z ((2 ^ i : Nat) : Int))∧st.h 5=none∧∀ j,j < i→bg 16384 (ij j v)=false) (by simp) ?_
  rintro i st hi ⟨g1,hb1,g2,hb2,g4,hb5,hq⟩
  have ha:=p2 i hi
  have hb:=p1 i
  have hne : ¬ ((2 ^ i : Nat) : Int)=0:=by omega
  have hne' : ¬ (2 ^ i : Nat)=0:=by omega
  have cn:=nK (ij i v).1 (ij i v).2.1 (ij i v).2.2 16384 (by decide) (by decide)
  have hnp : bg 16384 (ij i v)=fL (ij i v).1 (ij i v).2.1 (ij i v).2.2 16384:=rfl
  rw [← hnp] at cn
  have hx1 : (ij i v).1=v.1.tdiv ((2 ^ i : Nat) : Int):=rfl
  have hx2 : (ij i v).2.1=v.2.1.tdiv ((2 ^ i : Nat) : Int):=rfl
  have hx3 : (ij i v).2.2=v.2.2.tdiv ((2 ^ i : Nat) : Int):=rfl
  have tb : ∀ x : Int,-1099511627776≤x→x≤1099511627776→IntKind.i64.wrap (x.tdiv ((2 ^ i : Nat) : Int))=x.tdiv ((2 ^ i : Nat) : Int):=fun x a b=>by
   have e:=Int.natAbs_tdiv_le_natAbs x ((2 ^ i : Nat) : Int)
   exact ao (by omega) (by omega)
  have t1:=tb _ h.1.1 h.1.2
  have t2:=tb _ h.2.1.1 h.2.1.2
  have t3:=tb _ h.2.2.1 h.2.2.2
  rw [← hx1] at t1
  rw [← hx2] at t2
  rw [← hx3] at t3
  have hpw : (2 ^ (i+1) : Nat)=2 ^ i * 2:=Nat.pow_succ 2 i
  have w4 : IntKind.i64.wrap (((2 ^ i : Nat) : Int) * 2)=((2 ^ (i+1) : Nat) : Int):=(ao (by omega) (by omega)).trans (by omega)
  have hat:=fun hn=>BG (v:=v) (i:=i) (by omega) hq hn
  have hN26 : bg 16384 (ij i v)=false→i < 26:=fun hf=>by
   by_cases h26 : i < 26
   ·exact h26
   ·have : i=26:=by omega
    subst this
    rw [D1 h] at hf;cases hf
  have hqs : bg 16384 (ij i v)=false→∀ j,j < i+1→bg 16384 (ij j v)=false:=fun hf j hj=>by
   by_cases e : j=i
   ·subst e;exact hf
   ·exact hq j (by omega)
  generalize hH : ij i v=Hv at *
  generalize hPW : (2 ^ (i+1) : Nat)=pw' at *
  generalize (2 ^ i : Nat)=pw at *
  cases hc : bg 16384 Hv with
  |true=>
   rw [hc] at cn
   have he:=hat hc
   rw [he]
   with_reducible repeat' (first|refine Sp.h ?_|((first|refine Wd ?_|refine Ss.h ?_|refine Sc.h (cn) ?_|(refine Sb.h ?_ ?_ ?_<;>(try intro hgd)<;>try exact Xy))<;>simp -implicitDefEqProofs (maxSteps:=2000000) [hP,hN,g1,hb1,g2,hb2,g4,hb5,hne,hne',← hx1,← hx2,← hx3,t1,t2,t3]<;>try refine Ya ?_)|refine X2 ?_ ?_|(refine Xd ?_ ?_<;>intro hcd<;>try exact Xx))
  |false=>
   rw [hc] at cn
   have h26:=hN26 hc
   have hqs':=hqs hc
   with_reducible repeat' (first|refine Sp.h ?_|((first|refine Wd ?_|refine Ss.h ?_|refine Sc.h (cn) ?_|(refine Sb.h ?_ ?_ ?_<;>(try intro hgd)<;>try exact Xy))<;>simp -implicitDefEqProofs (maxSteps:=2000000) [hP,hN,g1,hb1,g2,hb2,g4,hb5,hne,hne',← hx1,← hx2,← hx3,t1,t2,t3,w4]<;>try refine Ya ?_)|refine X2 ?_ ?_|(refine Xd ?_ ?_<;>intro hcd<;>try exact Xx))
   all_goals exact ⟨h26,hqs'⟩
end Go.Ab
namespace Go.Ab
open Go.Proofs
theorem mo {bet : Int→Int→Bool} {n p0 : Vc} {l : List Vc} (h0 : l[0]?=some p0) : ∀ i,∃ p,l[(dt bet n p0 l i).2]?=some p∧(dt bet n p0 l i).1=bT n p
 |0=>⟨p0,h0,rfl⟩
 |i+1=>by
  obtain ⟨p,hp,hv⟩:=mo (bet:=bet) (n:=n) h0 i
  cases hx : l[i]? with
  |none=>simp only [dt,hx];exact ⟨p,hp,hv⟩
  |some v=>
   rw [lg hx]
   split
   ·exact ⟨v,hx,rfl⟩
   ·exact ⟨p,hp,hv⟩
theorem Fo (n : Vc) (l : List Vc) (hn : bg 16384 n=true) (h1 : 1≤l.length) (h8 : l.length≤8) (hl : l.all (bg 268435456)=true) : ah Tryz.prog 64 [.pv (aG n),.pv (bp l),.pv (Z 1)] [] [] (.pv (Z (dg ej n l).2)):=by
 obtain ⟨p0,hp0⟩ : ∃ p0,l[0]?=some p0:=⟨_,List.getElem?_eq_getElem (by omega)⟩
 have hb : dg ej n l=dt ej n p0 l l.length:=by simp [dg,hp0]
 have hval:=mo (bet:=ej) (n:=n) hp0
 have hlt0:=pU (bet:=ej) (n:=n) (p0:=p0) (l:=l) (by omega)
 have hsm:=ro hn
 have hdot : ∀ p ∈ l,ah Tryz.prog 65 [.pv (aG n),.pv (aG p)] [] [] (.pv (Z (bT n p)))∧-13194139533312≤bT n p∧bT n p≤13194139533312:=fun p hp=>by
  have hq:=dZ (List.all_eq_true.1 hl p hp)
  exact ⟨zf n p 16384 268435456 hsm hq (by decide),oK hsm hq⟩
 rw [hb]
 refine Dp Tryz.func64 ?_
 intro C hP hN
 simp only [Tryz.f64] at hN ⊢
 refine Gz ?_
 refine WP.loopN [] (l.length - 1) (fun i st=>st.t 3=.ptr 3 0∧st.h 3=some (.box [.pv (Z n.1),.pv (Z n.2.1),.pv (Z n.2.2)] true false)∧st.t 1=.pv (bp l)∧st.t 2=.pv (Z 1)∧st.t 8=.pv (Z ((i+1 : Nat) : Int))∧st.t 7=.pv (Z (dt ej n p0 l (i+1)).2)) (by simp [dt,hp0,ej]) ?_
 rintro i st hi ⟨g3,hb3,g1,g2,g8,g7⟩
 obtain ⟨m,hm⟩ : ∃ m,m=i+1:=⟨_,rfl⟩
 have hm2 : i+1+1=m+1:=by omega
 rw [← hm] at g8 g7
 rw [hm2]
 by_cases hlt : m < l.length
 ·have hw : IntKind.i64.wrap ((m : Int)+1)=((m+1 : Nat) : Int):=(ao (by omega) (by omega)).trans (by omega)
  have hlt' : (m : Int) < (l.length : Int):=by omega
  have hi2 : i < l.length - 1:=by omega
  obtain ⟨p,hp,hpv⟩:=hval m
  have hls:=hlt0 m
  generalize hxe : l[m]=v at *
  have hx : l[m]?=some v:=by rw [List.getElem?_eq_getElem hlt,hxe]
  obtain ⟨d1,d1a,d1b⟩:=hdot v (List.mem_of_getElem? hx)
  obtain ⟨d2,d2a,d2b⟩:=hdot p (List.mem_of_getElem? hp)
  have hs:=lg (bet:=ej) (n:=n) (p0:=p0) hx
  rw [hs,hpv]
  generalize hqq : (dt ej n p0 l m).2=q at *
  have hpe : ∀ h,l[q]'h=p:=fun h=>by rw [List.getElem?_eq_getElem h] at hp;exact Option.some.inj hp
  generalize bT n v=x at *
  generalize bT n p=y at *
  have w1 : IntKind.i64.wrap x=x:=ao
  have w2 : IntKind.i64.wrap y=y:=ao
  have w3 : IntKind.i64.wrap (-x)=-x:=ao
  have w4 : IntKind.i64.wrap (-y)=-y:=ao
  have w5 : IntKind.i64.wrap (-1 * x)=-x:=(ao (by omega) (by omega)).trans (by omega)
  have w6 : IntKind.i64.wrap (-1 * y)=-y:=(ao (by omega) (by omega)).trans (by omega)
  have w7 : IntKind.i64.wrap (1 * x)=x:=(ao (by omega) (by omega)).trans (by omega)
  have w8 : IntKind.i64.wrap (1 * y)=y:=(ao (by omega) (by omega)).trans (by omega)
  by_cases hc : x < y
  ·have hbt : ej x y=true:=by simp only [ej,decide_eq_true_eq];omega
   rw [hbt]
   simp only [if_true]
   with_reducible repeat' (first|refine Sp.h ?_|((first|refine Wd ?_|refine Ss.h ?_|refine Sc.h (d1) ?_|refine Sc.h (d2) ?_|(refine Sb.h ?_ ?_ ?_<;>(try intro hgd)<;>try exact Xy))<;>simp -implicitDefEqProofs (maxSteps:=2000000) [hP,hN,g3,hb3,g1,g2,g8,g7,hlt,hlt',hw,hx,hxe,hp,hpe,hls,hi2,w1,w2,w3,w4,w5,w6,w7,w8,hc]<;>try refine Ya ?_)|refine X2 ?_ ?_|(refine Xd ?_ ?_<;>intro hcd<;>try exact Xx))
  ·have hbt : ej x y=false:=by simp only [ej,decide_eq_false_iff_not];omega
   rw [hbt]
   simp only [Bool.false_eq_true,if_false]
   with_reducible repeat' (first|refine Sp.h ?_|((first|refine Wd ?_|refine Ss.h ?_|refine Sc.h (d1) ?_|refine Sc.h (d2) ?_|(refine Sb.h ?_ ?_ ?_<;>(try intro hgd)<;>try exact Xy))<;>simp -implicitDefEqProofs (maxSteps:=2000000) [hP,hN,g3,hb3,g1,g2,g8,g7,hlt,hlt',hw,hx,hxe,hp,hpe,hls,hi2,w1,w2,w3,w4,w5,w6,w7,w8,hc]<;>try refine Ya ?_)|refine X2 ?_ ?_|(refine Xd ?_ ?_<;>intro hcd<;>try exact Xx))
   all_goals rw [hqq]
 ·have hin : m=l.length:=by omega
  have hlt' : ¬ (m : Int) < (l.length : Int):=by omega
  subst hin
  exact Gy
theorem Fp (n : Vc) (l : List Vc) (hn : bg 16384 n=true) (h1 : 1≤l.length) (h8 : l.length≤8) (hl : l.all (bg 268435456)=true) : ah Tryz.prog 64 [.pv (aG n),.pv (bp l),.pv (Z (-1))] [] [] (.pv (Z (dg ek n l).2)):=by
 obtain ⟨p0,hp0⟩ : ∃ p0,l[0]?=some p0:=⟨_,List.getElem?_eq_getElem (by omega)⟩
 have hb : dg ek n l=dt ek n p0 l l.length:=by simp [dg,hp0]
 have hval:=mo (bet:=ek) (n:=n) hp0
 have hlt0:=pU (bet:=ek) (n:=n) (p0:=p0) (l:=l) (by omega)
 have hsm:=ro hn
 have hdot : ∀ p ∈ l,ah Tryz.prog 65 [.pv (aG n),.pv (aG p)] [] [] (.pv (Z (bT n p)))∧-13194139533312≤bT n p∧bT n p≤13194139533312:=fun p hp=>by
  have hq:=dZ (List.all_eq_true.1 hl p hp)
  exact ⟨zf n p 16384 268435456 hsm hq (by decide),oK hsm hq⟩
 rw [hb]
 refine Dp Tryz.func64 ?_
 intro C hP hN
 simp only [Tryz.f64] at hN ⊢
 refine Gz ?_
 refine WP.loopN [] (l.length - 1) (fun i st=>st.t 3=.ptr 3 0∧st.h 3=some (.box [.pv (Z n.1),.pv (Z n.2.1),.pv (Z n.2.2)] true false)∧st.t 1=.pv (bp l)∧st.t 2=.pv (Z (-1))∧st.t 8=.pv (Z ((i+1 : Nat) : Int))∧st.t 7=.pv (Z (dt ek n p0 l (i+1)).2)) (by simp [dt,hp0,ek]) ?_
 rintro i st hi ⟨g3,hb3,g1,g2,g8,g7⟩
 obtain ⟨m,hm⟩ : ∃ m,m=i+1:=⟨_,rfl⟩
 have hm2 : i+1+1=m+1:=by omega
 rw [← hm] at g8 g7
 rw [hm2]
 by_cases hlt : m < l.length
 ·have hw : IntKind.i64.wrap ((m : Int)+1)=((m+1 : Nat) : Int):=(ao (by omega) (by omega)).trans (by omega)
  have hlt' : (m : Int) < (l.length : Int):=by omega
  have hi2 : i < l.length - 1:=by omega
  obtain ⟨p,hp,hpv⟩:=hval m
  have hls:=hlt0 m
  generalize hxe : l[m]=v at *
  have hx : l[m]?=some v:=by rw [List.getElem?_eq_getElem hlt,hxe]
  obtain ⟨d1,d1a,d1b⟩:=hdot v (List.mem_of_getElem? hx)
  obtain ⟨d2,d2a,d2b⟩:=hdot p (List.mem_of_getElem? hp)
  have hs:=lg (bet:=ek) (n:=n) (p0:=p0) hx
  rw [hs,hpv]
  generalize hqq : (dt ek n p0 l m).2=q at *
  have hpe : ∀ h,l[q]'h=p:=fun h=>by rw [List.getElem?_eq_getElem h] at hp;exact Option.some.inj hp
  generalize bT n v=x at *
  generalize bT n p=y at *
  have w1 : IntKind.i64.wrap x=x:=ao
  have w2 : IntKind.i64.wrap y=y:=ao
  have w3 : IntKind.i64.wrap (-x)=-x:=ao
  have w4 : IntKind.i64.wrap (-y)=-y:=ao
  have w5 : IntKind.i64.wrap (-1 * x)=-x:=(ao (by omega) (by omega)).trans (by omega)
  have w6 : IntKind.i64.wrap (-1 * y)=-y:=(ao (by omega) (by omega)).trans (by omega)
  have w7 : IntKind.i64.wrap (1 * x)=x:=(ao (by omega) (by omega)).trans (by omega)
  have w8 : IntKind.i64.wrap (1 * y)=y:=(ao (by omega) (by omega)).trans (by omega)
  by_cases hc : y < x
  ·have hbt : ek x y=true:=by simp only [ek,decide_eq_true_eq];omega
   rw [hbt]
   simp only [if_true]
   with_reducible repeat' (first|refine Sp.h ?_|((first|refine Wd ?_|refine Ss.h ?_|refine Sc.h (d1) ?_|refine Sc.h (d2) ?_|(refine Sb.h ?_ ?_ ?_<;>(try intro hgd)<;>try exact Xy))<;>simp -implicitDefEqProofs (maxSteps:=2000000) [hP,hN,g3,hb3,g1,g2,g8,g7,hlt,hlt',hw,hx,hxe,hp,hpe,hls,hi2,w1,w2,w3,w4,w5,w6,w7,w8,hc]<;>try refine Ya ?_)|refine X2 ?_ ?_|(refine Xd ?_ ?_<;>intro hcd<;>try exact Xx))
  ·have hbt : ek x y=false:=by simp only [ek,decide_eq_false_iff_not];omega
   rw [hbt]
   simp only [Bool.false_eq_true,if_false]
   with_reducible repeat' (first|refine Sp.h ?_|((first|refine Wd ?_|refine Ss.h ?_|refine Sc.h (d1) ?_|refine Sc.h (d2) ?_|(refine Sb.h ?_ ?_ ?_<;>(try intro hgd)<;>try exact Xy))<;>simp -implicitDefEqProofs (maxSteps:=2000000) [hP,hN,g3,hb3,g1,g2,g8,g7,hlt,hlt',hw,hx,hxe,hp,hpe,hls,hi2,w1,w2,w3,w4,w5,w6,w7,w8,hc]<;>try refine Ya ?_)|refine X2 ?_ ?_|(refine Xd ?_ ?_<;>intro hcd<;>try exact Xx))
   all_goals rw [hqq]
 ·have hin : m=l.length:=by omega
  have hlt' : ¬ (m : Int) < (l.length : Int):=by omega
  subst hin
  exact Gy
end Go.Ab
namespace Go.Ab
open Go.Proofs
theorem D2 {ws : List Int} (h : ∀ w ∈ ws,0≤w) : ∀ {i j : Nat},i≤j→bD ws i≤bD ws j:=fun hij=>fZ h hij
theorem BH {w : Int} : wB w=true↔0≤w∧w≤65536:=by
 simp only [wB,Bool.not_eq_true',Bool.or_eq_false_iff,decide_eq_false_iff_not];omega
theorem Cw {l : List aU} {ws : List Int} (hp : aZ l=true) (hle : ws.length=l.length) : dH l ws=true↔(∀ w ∈ ws,0≤w∧w≤65536)∧1≤bD ws ws.length∧bD ws ws.length≤65536:=by
 simp only [dH,hp,hle,decide_true,Bool.true_and,Bool.and_eq_true,List.all_eq_true,BH,Bool.not_eq_true',Bool.or_eq_false_iff,decide_eq_false_iff_not]
 rw [← hle]
 constructor
 ·rintro ⟨h1,h2⟩;exact ⟨h1,by omega,by omega⟩
 ·rintro ⟨h1,h2⟩;exact ⟨h1,by omega,by omega⟩
set_option maxRecDepth 4000 in
theorem Fq (l : List aU) (ws : List Int) (hl : l.length≤9223372036854775807) (hws : ws.length≤9223372036854775807) : ah Tryz.prog 122 [.pv (bn l),.pv (zs ws)] [] [] (.pv (eZ l ws)):=by
 have cp:=vN l hl
 have z6 : bZ bO=V6 0 0 0 0 0 0:=rfl
 have hno : dH l ws=false→eZ l ws=.tup [V6 0 0 0 0 0 0,Z 0,B false]:=fun hf=>by unfold eZ;rw [hf];rfl
 cases hp : aZ l with
 |false=>
  rw [hp] at cp
  rw [hno (by simp [dH,hp])]
  refine Dp Tryz.func122 ?_
  intro C hP hN
  simp only [Tryz.f122] at hN ⊢
  exact Gy
 |true=>
 rw [hp] at cp
 by_cases hle : ws.length=l.length
 case neg=>
  have hle' : ((ws.length : Int) !=(l.length : Int))=true:=by simp;omega
  have hle2 : ¬ (ws.length : Int)=(l.length : Int):=by omega
  rw [hno (by simp [dH,hle])]
  refine Dp Tryz.func122 ?_
  intro C hP hN
  simp only [Tryz.f122] at hN ⊢
  exact Gy
 have hle' : ((ws.length : Int) !=(l.length : Int))=false:=by simp [hle]
 have hcb:=Cw hp hle
 have hp':=hp
 simp only [aZ,Bool.and_eq_true,decide_eq_true_eq] at hp'
 obtain ⟨⟨hp1,hp2⟩,hp3⟩:=hp'
 have hpv:=List.all_eq_true.1 hp3
 refine Dp Tryz.func122 ?_
 intro C hP hN
 simp only [Tryz.f122] at hN ⊢
 refine Gz ?_
 refine WP.loopN [] ws.length (fun i st=>st.t 0=.pv (bn l)∧st.t 1=.pv (zs ws)∧st.t 4=.ptr 4 0∧st.h 4=some (.box (b6 bO) true false)∧st.t 7=.pv (Z (bD ws i))∧st.t 8=.pv (Z i)∧st.h 9=none∧(∀ k w,k < i→ws[k]?=some w→0≤w∧w≤65536)∧0≤bD ws i∧bD ws i≤65536) (by simp [bD,bO]) ?_
 rintro i st hi ⟨g0,g1,g4,hb4,g7,g8,hb9,hq,t0,t1⟩
 by_cases hlt : i < ws.length
 ·have hw:=bi hlt hws
  have hlt' : (i : Int) < (ws.length : Int):=by omega
  generalize hxe : ws[i]=w at *
  have hx : ws[i]?=some w:=by rw [List.getElem?_eq_getElem hlt,hxe]
  have hT : bD ws (i+1)=bD ws i+w:=by simp only [bD,hx,Option.getD_some]
  have wS : IntKind.i64.wrap (65536 - bD ws i)=65536 - bD ws i:=ao
  have hall:=hcb.1
  have hmono:=D2 (ws:=ws)
  by_cases h9 : w < 0
  ·rw [hno (by
    cases hc : dH l ws with
    |false=>rfl
    |true=>have:=((hcb.1 hc).1 w (List.mem_of_getElem? hx));omega)]
   exact Gy
  ·by_cases h10 : 65536 - bD ws i < w
   ·rw [hno (by
     cases hc : dH l ws with
     |false=>rfl
     |true=>
      obtain ⟨c1,c2,c3⟩:=hcb.1 hc
      have:=hmono (fun w hw=>(c1 w hw).1) (show i+1≤ws.length by omega)
      omega)]
    exact Gy
   ·have wT : IntKind.i64.wrap (bD ws i+w)=bD ws i+w:=ao
    have hst : ∀ k u,k < i+1→ws[k]?=some u→0≤u∧u≤65536:=fun k u hk hu=>by
     by_cases e : k=i
     ·subst e;rw [hx] at hu;injection hu with hu;subst hu;omega
     ·exact hq k u (by omega) hu
    have t2 : 0≤bD ws i+w∧bD ws i+w≤65536:=by omega
    rw [hT]
    generalize bD ws i=T at *
    with_reducible repeat' (first|refine Sp.h ?_|((first|refine Wd ?_|refine Ss.h ?_|(refine Sb.h ?_ ?_ ?_<;>(try intro hgd)<;>try exact Xy))<;>simp -implicitDefEqProofs (maxSteps:=2000000) [hP,hN,g0,g1,g4,hb4,g7,g8,hb9,hlt,hlt',hx,hxe,h9,wS,h10,wT,hw]<;>try refine Ya ?_)|refine X2 ?_ ?_|(refine Xd ?_ ?_<;>intro hcd<;>try exact Xx))
    all_goals exact ⟨hst,t2⟩
 ·have hin : i=ws.length:=by omega
  have hlt' : ¬ (i : Int) < (ws.length : Int):=by omega
  have hall : ∀ w ∈ ws,0≤w∧w≤65536:=fun w hw=>by
   obtain ⟨k,hk⟩:=List.getElem?_of_mem hw
   exact hq k w (by have:=(List.getElem?_eq_some_iff.1 hk).1;omega) hk
  subst hin
  by_cases h1 : bD ws ws.length < 1
  ·rw [hno (by
    cases hc : dH l ws with
    |false=>rfl
    |true=>have:=hcb.1 hc;omega)]
   exact Gy
  ·have hcT : dH l ws=true:=hcb.2 ⟨hall,by omega,by omega⟩
   have hR : eZ l ws=.tup [bZ (du l ws ws.length),Z (bD ws ws.length),B true]:=by unfold eZ;rw [hcT];rfl
   rw [hR]
   have hwB : ∀ w ∈ ws,wB w=true:=fun w hw=>BH.2 (hall w hw)
   have hrng:=s9 hpv hwB
   have hb4' : st.h 4=some (.box [.pv (Z 0),.pv (Z 0),.pv (Z 0),.pv (Z 0),.pv (Z 0),.pv (Z 0)] true false):=hb4
   clear hb4 hcb hno hq z6
   generalize bD ws ws.length=T at *
   refine Gz ?_
   refine WP.loopN [] l.length (fun i st=>st.t 0=.pv (bn l)∧st.t 1=.pv (zs ws)∧st.t 4=.ptr 4 0∧st.h 4=some (.box [.pv (Z 0),.pv (Z 0),.pv (Z 0),.pv (Z 0),.pv (Z 0),.pv (Z 0)] true false)∧st.t 7=.pv (Z T)∧st.t 9=.ptr 9 0∧st.h 9=some (.box (b6 (du l ws i)) true false)∧st.t 10=.pv (Z i)) (by simp [du,bO,g0,g1,g4,hb4',g7]) ?_
   clear g0 g1 g4 hb4' g7 g8 hb9 hlt' hlt hi
   rintro i st hi ⟨g0,g1,g4,hb4,g7,g9,hb9,g10⟩
   by_cases hlt : i < l.length
   ·have hw:=bi hlt (by omega)
    have hlt' : (i : Int) < (l.length : Int):=by omega
    have hltw : i < ws.length:=by omega
    generalize hxe : ws[i]=w at *
    have hx : ws[i]?=some w:=by rw [List.getElem?_eq_getElem hltw,hxe]
    generalize hye : l[i]=x at *
    have hy : l[i]?=some x:=by rw [List.getElem?_eq_getElem hlt,hye]
    have hwb:=hall w (List.mem_of_getElem? hx)
    have hpx:=hpv x (List.mem_of_getElem? hy)
    rw [fw] at hpx
    have hS : du l ws (i+1)=m7 w (du l ws i) x:=by simp only [du,hx,hy]
    obtain ⟨r1,r2,r3⟩:=hrng i
    have a1:=gn (w:=w) (x:=x.1) hwb hpx.1 r1
    have a2:=gn (w:=w) (x:=x.2.1) hwb hpx.2.1 r2
    have a3:=gn (w:=w) (x:=x.2.2) hwb hpx.2.2 r3
    clear hrng hall hwB hpv
    generalize du l ws i=S at *
    generalize du l ws (i+1)=S' at *
    subst hS
    have d1 : (dp w S.1 x.1).1=S.1.1+w * x.1.1:=rfl
    have d2 : (dp w S.1 x.1).2=S.1.2+w * x.1.2:=rfl
    have d3 : (dp w S.2.1 x.2.1).1=S.2.1.1+w * x.2.1.1:=rfl
    have d4 : (dp w S.2.1 x.2.1).2=S.2.1.2+w * x.2.1.2:=rfl
    have d5 : (dp w S.2.2 x.2.2).1=S.2.2.1+w * x.2.2.1:=rfl
    have d6 : (dp w S.2.2 x.2.2).2=S.2.2.2+w * x.2.2.2:=rfl
    rw [d1,d2] at a1
    rw [d3,d4] at a2
    rw [d5,d6] at a3
    have u1 : IntKind.i64.wrap (w * x.1.1)=w * x.1.1:=ao
    have u2 : IntKind.i64.wrap (w * x.1.2)=w * x.1.2:=ao
    have u3 : IntKind.i64.wrap (w * x.2.1.1)=w * x.2.1.1:=ao
    have u4 : IntKind.i64.wrap (w * x.2.1.2)=w * x.2.1.2:=ao
    have u5 : IntKind.i64.wrap (w * x.2.2.1)=w * x.2.2.1:=ao
    have u6 : IntKind.i64.wrap (w * x.2.2.2)=w * x.2.2.2:=ao
    have v1 : IntKind.i64.wrap (S.1.1+w * x.1.1)=S.1.1+w * x.1.1:=ao
    have v2 : IntKind.i64.wrap (S.1.2+w * x.1.2)=S.1.2+w * x.1.2:=ao
    have v3 : IntKind.i64.wrap (S.2.1.1+w * x.2.1.1)=S.2.1.1+w * x.2.1.1:=ao
    have v4 : IntKind.i64.wrap (S.2.1.2+w * x.2.1.2)=S.2.1.2+w * x.2.1.2:=ao
    have v5 : IntKind.i64.wrap (S.2.2.1+w * x.2.2.1)=S.2.2.1+w * x.2.2.1:=ao
    have v6 : IntKind.i64.wrap (S.2.2.2+w * x.2.2.2)=S.2.2.2+w * x.2.2.2:=ao
    clear a1 a2 a3 r1 r2 r3 d1 d2 d3 d4 d5 d6
    refine Gz ?_
    refine WP.loopN [] 3 (fun k st=>st.t 0=.pv (bn l)∧st.t 1=.pv (zs ws)∧st.t 4=.ptr 4 0∧st.h 4=some (.box [.pv (Z 0),.pv (Z 0),.pv (Z 0),.pv (Z 0),.pv (Z 0),.pv (Z 0)] true false)∧st.t 7=.pv (Z T)∧st.t 9=.ptr 9 0∧st.h 9=some (.box (jp S x w k) true false)∧st.t 10=.pv (Z i)∧st.t 11=.pv (Z k)) (by simp [g0,g1,g4,hb4,g7,g9,hb9,g10,jp]) ?_
    clear g0 g1 g4 hb4 g7 g9 hb9 g10
    rintro k st hk ⟨g0,g1,g4,hb4,g7,g9,hb9,g10,g11⟩
    rcases cE hk with rfl|rfl|rfl|rfl
    all_goals (simp [jp,dp] at hb9 g11)
    ·skip
     with_reducible repeat' (first|refine Sp.h ?_|((first|refine Wd ?_|refine Ss.h ?_|(refine Sb.h ?_ ?_ ?_<;>(try intro hgd)<;>try exact Xy))<;>simp -implicitDefEqProofs (maxSteps:=2000000) [hP,hN,g0,g1,g4,hb4,g7,g9,hb9,g10,g11,hx,hxe,hy,hye,hlt,hltw,u1,u2,v1,v2,jp,dp]<;>try refine Ya ?_)|refine X2 ?_ ?_|(refine Xd ?_ ?_<;>intro hcd<;>try exact Xx))
    ·skip
     with_reducible repeat' (first|refine Sp.h ?_|((first|refine Wd ?_|refine Ss.h ?_|(refine Sb.h ?_ ?_ ?_<;>(try intro hgd)<;>try exact Xy))<;>simp -implicitDefEqProofs (maxSteps:=2000000) [hP,hN,g0,g1,g4,hb4,g7,g9,hb9,g10,g11,hx,hxe,hy,hye,hlt,hltw,u3,u4,v3,v4,jp,dp]<;>try refine Ya ?_)|refine X2 ?_ ?_|(refine Xd ?_ ?_<;>intro hcd<;>try exact Xx))
    ·skip
     with_reducible repeat' (first|refine Sp.h ?_|((first|refine Wd ?_|refine Ss.h ?_|(refine Sb.h ?_ ?_ ?_<;>(try intro hgd)<;>try exact Xy))<;>simp -implicitDefEqProofs (maxSteps:=2000000) [hP,hN,g0,g1,g4,hb4,g7,g9,hb9,g10,g11,hx,hxe,hy,hye,hlt,hltw,u5,u6,v5,v6,jp,dp]<;>try refine Ya ?_)|refine X2 ?_ ?_|(refine Xd ?_ ?_<;>intro hcd<;>try exact Xx))
    ·skip
     with_reducible repeat' (first|refine Sp.h ?_|((first|refine Wd ?_|refine Ss.h ?_|(refine Sb.h ?_ ?_ ?_<;>(try intro hgd)<;>try exact Xy))<;>simp -implicitDefEqProofs (maxSteps:=2000000) [hP,hN,g0,g1,g4,hb4,g7,g9,hb9,g10,g11,hlt,hw,m7,dp]<;>try refine Ya ?_)|refine X2 ?_ ?_|(refine Xd ?_ ?_<;>intro hcd<;>try exact Xx))
   ·have hin : i=l.length:=by omega
    have hlt' : ¬ (i : Int) < (l.length : Int):=by omega
    subst hin
    rw [← hle] at hb9
    exact Gy
end Go.Ab
namespace Go.Ab
open Go.Proofs
theorem uT (x : Int) (h1 : -4611686018427387904≤x) (h2 : x≤4611686018427387904) : ah Tryz.prog 123 [.pv (Z x)] [] [] (.pv (Z (max x (-x)))):=by
 have w1 : IntKind.i64.wrap (-x)=-x:=ao
 have w2 : IntKind.i64.wrap (0 - x)=-x:=(ao (n:=0 - x) (by omega) (by omega)).trans (by omega)
 have fM : ∀ a b : Int,(if a < b then b else a)=max a b:=fun a b=>by omega
 refine Dp Tryz.func123 ?_
 intro C hP hN
 simp only [Tryz.f123] at hN ⊢
 exact Gy
theorem Cy (x y z r : Int) : lx [x,y,z] r=if x≤r∧y≤r∧z≤r then r * r - x * x - y * y - z * z else -1:=by
 unfold lx
 have : [x,y,z].all (fun x=>decide (x≤r))=decide (x≤r∧y≤r∧z≤r):=by simp [Bool.and_assoc]
 rw [this]
 simp [gH]
theorem Cz {u v : Iv} {T : Int} (hT : 1≤T∧T≤65536) (h1 : -281474976710656≤u.1 - v.2∧u.1 - v.2≤281474976710656) (h2 : -281474976710656≤u.2 - v.1∧u.2 - v.1≤281474976710656) :
 ah Tryz.prog 117 [.pv (Z (max (u.1 - v.2) (max (-(u.1 - v.2)) (max (u.2 - v.1) (-(u.2 - v.1)))))),.pv (Z T)] [] [] (.pv (Z (dn u v T)))∧0≤dn u v T:=by
 have hf : max (u.1 - v.2) (max (-(u.1 - v.2)) (max (u.2 - v.1) (-(u.2 - v.1))))=jX (u.1 - v.2) (u.2 - v.1):=by unfold jX;omega
 have hr:=pT h1 h2
 have:=xH (jX (u.1 - v.2) (u.2 - v.1)) T (by omega)
 rw [ou (by omega) (by omega) (by omega),zh (by omega)] at this
 rw [hf]
 exact ⟨this,(rR hr.1 (by omega) hT.1 hT.2).1⟩
set_option maxRecDepth 4000 in
theorem Jh (left right : List Int) (a : List aU) (ra : Int) (b : List aU) (rb : Int) (h1 : left.length≤9223372036854775807) (h2 : right.length≤9223372036854775807) (h3 : a.length≤9223372036854775807) (h4 : b.length≤9223372036854775807) : ah Tryz.prog 70 [.pv (zs left),.pv (zs right),.pv (bn a),.pv (Z ra),.pv (bn b),.pv (Z rb)] [] [] (.pv (.tup [Z (jb left right a ra b rb),B (kw left right a ra b rb)])):=by
 have ca:=Fq a left h3 h1
 have cb:=Fq b right h4 h2
 have cra:=uV ra
 have crb:=uV rb
 have z6 : bZ bO=V6 0 0 0 0 0 0:=rfl
 have hE : kw left right a ra b rb=(dH a left && dH b right && decide (bD left left.length=bD right right.length) && bM ra 0 1048576 && bM rb 0 1048576):=rfl
 have hX : jb left right a ra b rb=if kw left right a ra b rb then lx (ei (du a left left.length) (du b right right.length) (bD left left.length)) (ra+rb) else 0:=rfl
 rw [hX]
 cases hA : dH a left with
 |false=>
  rw [hA] at hE;simp only [Bool.false_and] at hE
  rw [hE]
  simp only [Bool.false_eq_true,if_false]
  simp only [eZ,hA,Bool.false_eq_true,if_false,z6] at ca
  cases hB : dH b right
  all_goals (simp only [eZ,hB,Bool.false_eq_true,if_false,if_true,z6] at cb)
  ·skip
   refine Dp Tryz.func70 ?_
   intro C hP hN
   simp only [Tryz.f70] at hN ⊢
   exact Gy
  ·skip
   generalize du b right right.length=V at *
   generalize bD right right.length=T2 at *
   refine Dp Tryz.func70 ?_
   intro C hP hN
   simp only [Tryz.f70] at hN ⊢
   exact Gy
 |true=>
 simp only [eZ,hA,if_true] at ca
 cases hB : dH b right with
 |false=>
  rw [hB] at hE;simp only [Bool.false_and,Bool.and_false] at hE
  rw [hE]
  simp only [Bool.false_eq_true,if_false]
  simp only [eZ,hB,Bool.false_eq_true,if_false,z6] at cb
  generalize du a left left.length=U at *
  generalize bD left left.length=T at *
  refine Dp Tryz.func70 ?_
  intro C hP hN
  simp only [Tryz.f70] at hN ⊢
  exact Gy
 |true=>
 simp only [eZ,hB,if_true] at cb
 have hUr:=pS hA
 have hVr:=pS hB
 have hTr:=xc hA
 rw [hA,hB] at hE
 simp only [Bool.true_and] at hE
 clear hX hA hB z6
 generalize du a left left.length=U at *
 generalize du b right right.length=V at *
 generalize bD left left.length=T at *
 generalize bD right right.length=T2 at *
 by_cases hT : T=T2
 case neg=>
  have hT' : (T !=T2)=true:=by simp [hT]
  rw [decide_eq_false hT] at hE;simp only [Bool.false_and] at hE
  rw [hE]
  simp only [Bool.false_eq_true,if_false]
  clear hUr hVr
  refine Dp Tryz.func70 ?_
  intro C hP hN
  simp only [Tryz.f70] at hN ⊢
  exact Gy
 subst hT
 simp only [decide_true,Bool.true_and] at hE
 cases hra : bM ra 0 1048576 with
 |false=>
  rw [hra] at hE cra;simp only [Bool.false_and] at hE
  rw [hE]
  simp only [Bool.false_eq_true,if_false]
  clear hUr hVr
  refine Dp Tryz.func70 ?_
  intro C hP hN
  simp only [Tryz.f70] at hN ⊢
  exact Gy
 |true=>
 cases hrb : bM rb 0 1048576 with
 |false=>
  rw [hrb] at hE crb;rw [hra] at cra;simp only [Bool.and_false] at hE
  rw [hE]
  simp only [Bool.false_eq_true,if_false]
  clear hUr hVr
  refine Dp Tryz.func70 ?_
  intro C hP hN
  simp only [Tryz.f70] at hN ⊢
  exact Gy
 |true=>
 rw [hra,hrb] at hE
 rw [hra] at cra
 rw [hrb] at crb
 simp only [Bool.and_self] at hE
 rw [hE]
 simp only [if_true]
 simp only [bM,Bool.and_eq_true,decide_eq_true_eq] at hra hrb
 obtain ⟨re,hre⟩ : ∃ re,re=ra+rb:=⟨_,rfl⟩
 have wre : IntKind.i64.wrap (ra+rb)=re:=(ao (by omega) (by omega)).trans hre.symm
 rw [← hre]
 have hrr:=j0 (x:=re) (m:=2097152) (by omega) (by omega)
 have wrr : IntKind.i64.wrap (re * re)=re * re:=ao
 obtain ⟨⟨⟨a1,a2⟩,a3,a4⟩,⟨⟨b1,b2⟩,b3,b4⟩,⟨c1,c2⟩,c3,c4⟩:=hUr
 obtain ⟨⟨⟨d1,d2⟩,d3,d4⟩,⟨⟨e1,e2⟩,e3,e4⟩,⟨f1,f2⟩,f3,f4⟩:=hVr
 have k0:=Cz (u:=U.1) (v:=V.1) hTr (by omega) (by omega)
 have k1:=Cz (u:=U.2.1) (v:=V.2.1) hTr (by omega) (by omega)
 have k2:=Cz (u:=U.2.2) (v:=V.2.2) hTr (by omega) (by omega)
 have fM : ∀ a b : Int,(if a < b then b else a)=max a b:=fun a b=>by omega
 have w00 : IntKind.i64.wrap (U.1.1 - V.1.2)=U.1.1 - V.1.2:=ao
 have w01 : IntKind.i64.wrap (U.1.2 - V.1.1)=U.1.2 - V.1.1:=ao
 have w10 : IntKind.i64.wrap (U.2.1.1 - V.2.1.2)=U.2.1.1 - V.2.1.2:=ao
 have w11 : IntKind.i64.wrap (U.2.1.2 - V.2.1.1)=U.2.1.2 - V.2.1.1:=ao
 have w20 : IntKind.i64.wrap (U.2.2.1 - V.2.2.2)=U.2.2.1 - V.2.2.2:=ao
 have w21 : IntKind.i64.wrap (U.2.2.2 - V.2.2.1)=U.2.2.2 - V.2.2.1:=ao
 have s00:=uT (U.1.1 - V.1.2) (by omega) (by omega)
 have s01:=uT (U.1.2 - V.1.1) (by omega) (by omega)
 have s10:=uT (U.2.1.1 - V.2.1.2) (by omega) (by omega)
 have s11:=uT (U.2.1.2 - V.2.1.1) (by omega) (by omega)
 have s20:=uT (U.2.2.1 - V.2.2.2) (by omega) (by omega)
 have s21:=uT (U.2.2.2 - V.2.2.1) (by omega) (by omega)
 clear a1 a2 a3 a4 b1 b2 b3 b4 c1 c2 c3 c4 d1 d2 d3 d4 e1 e2 e3 e4 f1 f2 f3 f4
 have hg : ei U V T=[dn U.1 V.1 T,dn U.2.1 V.2.1 T,dn U.2.2 V.2.2 T]:=rfl
 rw [hg,Cy]
 generalize dn U.1 V.1 T=x at *
 generalize dn U.2.1 V.2.1 T=y at *
 generalize dn U.2.2 V.2.2 T=z at *
 obtain ⟨k0,x0⟩:=k0
 obtain ⟨k1,y0⟩:=k1
 obtain ⟨k2,z0⟩:=k2
 have qx : x≤re→0≤x * x∧x * x≤4398046511104:=fun h=>by have:=j0 (x:=x) (m:=2097152) x0 (by omega);omega
 have qy : y≤re→0≤y * y∧y * y≤4398046511104:=fun h=>by have:=j0 (x:=y) (m:=2097152) y0 (by omega);omega
 have qz : z≤re→0≤z * z∧z * z≤4398046511104:=fun h=>by have:=j0 (x:=z) (m:=2097152) z0 (by omega);omega
 refine Dp Tryz.func70 ?_
 intro C hP hN
 simp only [Tryz.f70] at hN ⊢
 with_reducible repeat' (first|refine Sp.h ?_|((first|refine Wd ?_|refine Ss.h ?_|refine Sc.h (ca) ?_|refine Sc.h (cb) ?_|refine Sc.h (cra) ?_|refine Sc.h (crb) ?_|(refine Sb.h ?_ ?_ ?_<;>(try intro hgd)<;>try exact Xy))<;>simp -implicitDefEqProofs (maxSteps:=2000000) [hP,hN,wre,wrr]<;>try refine Ya ?_)|refine X2 ?_ ?_|(refine Xd ?_ ?_<;>intro hcd<;>try exact Xx))
 refine WP.loopN [] 3 (fun k st=>st.t 3=.pv (Z ra)∧st.t 5=.pv (Z rb)∧st.t 14=.ptr 14 0∧st.h 14=some (.box [.pv (Z U.1.1),.pv (Z U.1.2),.pv (Z U.2.1.1),.pv (Z U.2.1.2),.pv (Z U.2.2.1),.pv (Z U.2.2.2)] true false)∧st.t 17=.ptr 17 0∧st.h 17=some (.box [.pv (Z V.1.1),.pv (Z V.1.2),.pv (Z V.2.1.1),.pv (Z V.2.1.2),.pv (Z V.2.2.1),.pv (Z V.2.2.2)] true false)∧st.t 15=.pv (Z T)∧st.t 21=.pv (Z k)∧st.t 20=.pv (Z (if k=0 then re * re else if k=1 then re * re - x * x else if k=2 then re * re - x * x - y * y else re * re - x * x - y * y - z * z))∧(0 < k→x≤re)∧(1 < k→y≤re)∧(2 < k→z≤re)) (by simp) ?_
 rintro k st hk ⟨g3,g5,g14,hb14,g17,hb17,g15,g21,g20,p0,p1,p2⟩
 rcases cE hk with rfl|rfl|rfl|rfl
 all_goals (simp at g20 g21)
 ·by_cases hm : re < x
  ·have hres : (if x≤re∧y≤re∧z≤re then re * re - x * x - y * y - z * z else -1)=-1:=if_neg (by omega)
   rw [hres]
   with_reducible repeat' (first|refine Sp.h ?_|((first|refine Wd ?_|refine Ss.h ?_|refine Sc.h (s00) ?_|refine Sc.h (s01) ?_|refine Sc.h (k0) ?_|(refine Sb.h ?_ ?_ ?_<;>(try intro hgd)<;>try exact Xy))<;>simp -implicitDefEqProofs (maxSteps:=2000000) [hP,hN,g3,g5,g14,hb14,g17,hb17,g15,g20,g21,fM,w00,w01,wre,hm]<;>try refine Ya ?_)|refine X2 ?_ ?_|(refine Xd ?_ ?_<;>intro hcd<;>try exact Xx))
  ·have q:=qx (by omega)
   have u1 : IntKind.i64.wrap (x * x)=x * x:=ao
   have u2 : IntKind.i64.wrap (re * re - x * x)=re * re - x * x:=ao
   with_reducible repeat' (first|refine Sp.h ?_|((first|refine Wd ?_|refine Ss.h ?_|refine Sc.h (s00) ?_|refine Sc.h (s01) ?_|refine Sc.h (k0) ?_|(refine Sb.h ?_ ?_ ?_<;>(try intro hgd)<;>try exact Xy))<;>simp -implicitDefEqProofs (maxSteps:=2000000) [hP,hN,g3,g5,g14,hb14,g17,hb17,g15,g20,g21,fM,w00,w01,wre,hm,u1,u2]<;>try refine Ya ?_)|refine X2 ?_ ?_|(refine Xd ?_ ?_<;>intro hcd<;>try exact Xx))
   all_goals omega
 ·have p0':=p0 (by omega)
  have q':=qx p0'
  by_cases hm : re < y
  ·have hres : (if x≤re∧y≤re∧z≤re then re * re - x * x - y * y - z * z else -1)=-1:=if_neg (by omega)
   rw [hres]
   exact Gy
  ·have q:=qy (by omega)
   have u1 : IntKind.i64.wrap (y * y)=y * y:=ao
   have u2 : IntKind.i64.wrap (re * re - x * x - y * y)=re * re - x * x - y * y:=ao
   with_reducible repeat' (first|refine Sp.h ?_|((first|refine Wd ?_|refine Ss.h ?_|refine Sc.h (s10) ?_|refine Sc.h (s11) ?_|refine Sc.h (k1) ?_|(refine Sb.h ?_ ?_ ?_<;>(try intro hgd)<;>try exact Xy))<;>simp -implicitDefEqProofs (maxSteps:=2000000) [hP,hN,g3,g5,g14,hb14,g17,hb17,g15,g20,g21,fM,w10,w11,wre,hm,u1,u2]<;>try refine Ya ?_)|refine X2 ?_ ?_|(refine Xd ?_ ?_<;>intro hcd<;>try exact Xx))
   all_goals omega
 ·have p0':=p0 (by omega)
  have p1':=p1 (by omega)
  have q':=qx p0'
  have q'':=qy p1'
  by_cases hm : re < z
  ·have hres : (if x≤re∧y≤re∧z≤re then re * re - x * x - y * y - z * z else -1)=-1:=if_neg (by omega)
   rw [hres]
   exact Gy
  ·have q:=qz (by omega)
   have u1 : IntKind.i64.wrap (z * z)=z * z:=ao
   have u2 : IntKind.i64.wrap (re * re - x * x - y * y - z * z)=re * re - x * x - y * y - z * z:=ao
   with_reducible repeat' (first|refine Sp.h ?_|((first|refine Wd ?_|refine Ss.h ?_|refine Sc.h (s20) ?_|refine Sc.h (s21) ?_|refine Sc.h (k2) ?_|(refine Sb.h ?_ ?_ ?_<;>(try intro hgd)<;>try exact Xy))<;>simp -implicitDefEqProofs (maxSteps:=2000000) [hP,hN,g3,g5,g14,hb14,g17,hb17,g15,g20,g21,fM,w20,w21,wre,hm,u1,u2]<;>try refine Ya ?_)|refine X2 ?_ ?_|(refine Xd ?_ ?_<;>intro hcd<;>try exact Xx))
   all_goals omega
 ·have hres : (if x≤re∧y≤re∧z≤re then re * re - x * x - y * y - z * z else -1)=re * re - x * x - y * y - z * z:=if_pos ⟨p0 (by omega),p1 (by omega),p2 (by omega)⟩
  rw [hres]
  exact Gy
theorem Ji (left right : List Int) (a : List aU) (ra : Int) (b : List aU) (rb : Int) (h1 : left.length≤9223372036854775807) (h2 : right.length≤9223372036854775807) (h3 : a.length≤9223372036854775807) (h4 : b.length≤9223372036854775807) : ah Tryz.prog 32 [.pv (zs left),.pv (zs right),.pv (bn a),.pv (Z ra),.pv (bn b),.pv (Z rb)] [] [] (.pv (B (kw left right a ra b rb && decide (0≤jb left right a ra b rb)))):=by
 have ce:=Jh left right a ra b rb h1 h2 h3 h4
 generalize jb left right a ra b rb=e at *
 cases hb : kw left right a ra b rb<;>rw [hb] at ce
 all_goals
  refine Dp Tryz.func32 ?_
  intro C hP hN
  simp only [Tryz.f32] at hN ⊢
  exact Gy
end Go.Ab
namespace Go.Ab
open Go.Proofs
theorem GC (a b : List Vc) (rho steps : Int) (ha : a.length≤9223372036854775807) (hb : b.length≤9223372036854775807) : ah Tryz.prog 30 [.pv (bp a),.pv (bp b),.pv (Z rho),.pv (Z steps)] [] [] (.pv (C3 (gO a b rho steps))):=by
 have ca:=Gw a ha
 have cb:=Gw b hb
 have hno : mZ a b rho steps=false→gO a b rho steps=(0,⟨[],[],(0,0,0),0⟩):=fun h=>by simp [gO,h]
 have hd : mZ a b rho steps=(eU a && eU b && bM rho 0 2097152 && bM steps 0 64):=rfl
 cases hA : eU a with
 |false=>
  rw [hA] at ca
  rw [hno (by rw [hd,hA];rfl)]
  refine Dp Tryz.func30 ?_
  intro C hP hN
  simp only [Tryz.f30] at hN ⊢
  with_reducible repeat' (first|refine Sp.h ?_|((first|refine Wd ?_|refine Ss.h ?_|refine Sc.h (ca) ?_|(refine Sb.h ?_ ?_ ?_<;>(try intro hgd)<;>try exact Xy))<;>simp -implicitDefEqProofs (maxSteps:=2000000) [hP,hN]<;>try refine Ya ?_)|refine X2 ?_ ?_|(refine Xd ?_ ?_<;>intro hcd<;>try exact Xx))
 |true=>
 rw [hA] at ca
 cases hB : eU b with
 |false=>
  rw [hB] at cb
  rw [hno (by rw [hd,hB,Bool.and_false];rfl)]
  refine Dp Tryz.func30 ?_
  intro C hP hN
  simp only [Tryz.f30] at hN ⊢
  with_reducible repeat' (first|refine Sp.h ?_|((first|refine Wd ?_|refine Ss.h ?_|refine Sc.h (ca) ?_|refine Sc.h (cb) ?_|(refine Sb.h ?_ ?_ ?_<;>(try intro hgd)<;>try exact Xy))<;>simp -implicitDefEqProofs (maxSteps:=2000000) [hP,hN]<;>try refine Ya ?_)|refine X2 ?_ ?_|(refine Xd ?_ ?_<;>intro hcd<;>try exact Xx))
 |true=>
 rw [hB] at cb
 by_cases hbad : rho < 0∨2097152 < rho∨steps < 0∨64 < steps
 ·have hf : mZ a b rho steps=false:=by
   cases h : mZ a b rho steps with
   |false=>rfl
   |true=>
    rw [hd] at h
    simp only [bM,Bool.and_eq_true,decide_eq_true_eq] at h
    omega
  rw [hno hf]
  rcases hbad with h|h|h|h
  all_goals
   refine Dp Tryz.func30 ?_
   intro C hP hN
   simp only [Tryz.f30] at hN ⊢
   with_reducible repeat' (first|refine Sp.h ?_|((first|refine Wd ?_|refine Ss.h ?_|refine Sc.h (ca) ?_|refine Sc.h (cb) ?_|(refine Sb.h ?_ ?_ ?_<;>(try intro hgd)<;>try exact Xy))<;>simp -implicitDefEqProofs (maxSteps:=2000000) [hP,hN,h]<;>try refine Ya ?_)|refine X2 ?_ ?_|(refine Xd ?_ ?_<;>intro hcd<;>try exact Xx))
 have q1 : ¬ rho < 0:=by omega
 have q2 : ¬ 2097152 < rho:=by omega
 have q3 : ¬ steps < 0:=by omega
 have q4 : ¬ 64 < steps:=by omega
 have ia:=ip.1 hA
 have ib:=ip.1 hB
 obtain ⟨sn,hsn⟩ : ∃ sn : Nat,steps=sn:=⟨steps.toNat,by omega⟩
 subst hsn
 have hr : gO a b rho sn=iR a b rho sn (sn+1) (oL a b):=by
  have : mZ a b rho sn=true:=by
   rw [hd,hA,hB]
   simp [bM]
   omega
  simp [gO,this]
 rw [hr]
 obtain ⟨R,hR⟩ : ∃ R,R=iR a b rho sn (sn+1) (oL a b):=⟨_,rfl⟩
 rw [← hR]
 have f1 : (8 : Int) * (a.length : Int)≤281474976710656:=by omega
 have f2 : (8 : Int) * (b.length : Int)≤281474976710656:=by omega
 have f3 : (a.length : Int)≤9223372036854775807:=by omega
 have f4 : (b.length : Int)≤9223372036854775807:=by omega
 have f5 : 0 < a.length:=by omega
 have f6 : 0 < b.length:=by omega
 refine Dp Tryz.func30 ?_
 intro C hP hN
 simp only [Tryz.f30] at hN ⊢
 with_reducible repeat' (first|refine Sp.h ?_|((first|refine Wd ?_|refine Ss.h ?_|refine Sc.h (ca) ?_|refine Sc.h (cb) ?_|(refine Sb.h ?_ ?_ ?_<;>(try intro hgd)<;>try exact Xy))<;>simp -implicitDefEqProofs (maxSteps:=2000000) [hP,hN,q1,q2,q3,q4,f1,f2,f3,f4,f5,f6]<;>try refine Ya ?_)|refine X2 ?_ ?_|(refine Xd ?_ ?_<;>intro hcd<;>try exact Xx))
 refine WP.loopN [10,11,12,16] sn (fun i st=>∃ (s : NSt) (X Y : AV),NsOk a b s∧s.r=i∧iR a b rho sn (sn+1 - i) s=R∧st.t 0=.pv (bp a)∧st.t 1=.pv (bp b)∧st.t 2=.pv (Z rho)∧st.t 3=.pv (Z sn)∧st.t 8=.ptr 8 0∧st.h 8=some (.box [.pv (Z 0),.pv (Z 0),.pv (Z 0),.pv (Z 0),.pv (.val (.slice none 0 0)),.pv (.val (.slice none 0 0)),.pv (Z 0)] true false)∧st.t 9=.ptr 9 0∧st.h 10=none∧st.h 11=none∧st.h 12=none∧st.h 16=none∧st.h 9=some (.box [.pv (Z 0),.pv (Z s.n.1),.pv (Z s.n.2.1),.pv (Z s.n.2.2),X,Y,.pv (Z s.r)] true false)∧((X=.arr 47 a.length∧Y=.arr 50 b.length∧st.h 47=some (.row 2 1 (s.w.map Z) 0)∧st.h 50=some (.row 2 1 (s.v.map Z) 0))∨(X=.pv (zs s.w)∧Y=.pv (zs s.v)))) ?_ ?_
 ·refine ⟨oL a b,.arr 47 a.length,.arr 50 b.length,xg ia.1 ib.1,rfl,hR.symm,?_⟩
  simp [oL]
 rintro i st hi ⟨s,X,Y,hs,hsr,hrun,g0,g1,g2,g3,g8,hb8,g9,h10,h11,h12,h16,hb9,hor⟩
 have hfu : sn+1 - i=(sn - i)+1:=by omega
 rw [hfu,iR] at hrun
 obtain ⟨sw,sv,n0,r⟩:=s
 have hsw:=hs.w
 have hsv:=hs.v
 have hwl:=hs.wl
 have hvl:=hs.vl
 simp only at hsw hsv hwl hvl hsr hb9 hor
 subst hsr
 have hrok:=pX (rho:=rho) (steps:=sn) hA hB hs
 have htm:=xf hA hB hs
 have cS1:=Gx a sw ia.2.1 hwl ia.2.2 hsw
 have cS2:=Gx b sv ib.2.1 hvl ib.2.2 hsv
 have sm1:=io ia.2.2 hsw a.length (by omega)
 have sm2:=io ib.2.2 hsv b.length (by omega)
 have cM:=Fm (dk a sw a.length) (dk b sv b.length) (ic sm1 (by decide)) (ic sm2 (by decide))
 have hT : bA (dk a sw a.length) (dk b sv b.length)=dT a sw b sv:=rfl
 rw [hT] at cM
 have cN:=Jg (dT a sw b sv) rho htm ⟨by omega,by omega⟩
 have hX29:=Bc htm
 have cNo:=GB (gJ (dT a sw b sv)) (ic hX29 (by decide))
 have hnn:=vj (gJ (dT a sw b sv)) (ic hX29 (by decide))
 have hxd : gJ (dT a sw b sv)=((dT a sw b sv).1.tdiv 65536,(dT a sw b sv).2.1.tdiv 65536,(dT a sw b sv).2.2.tdiv 65536):=rfl
 rw [lB] at hrun hrok
 simp only at hrun hrok
 have xw : ∀ y : Int,-35184372088832≤y→y≤35184372088832→IntKind.i64.wrap (y.tdiv 65536)=y.tdiv 65536:=fun y p q=>by
  have e:=Int.natAbs_tdiv_le_natAbs y 65536
  exact ao (by omega) (by omega)
 have x1:=xw _ htm.1.1 htm.1.2
 have x2:=xw _ htm.2.1.1 htm.2.1.2
 have x3:=xw _ htm.2.2.1 htm.2.2.2
 clear xw hs
 generalize dk a sw a.length=S1 at *
 generalize dk b sv b.length=S2 at *
 generalize dT a sw b sv=tt at *
 cases hc : ly tt rho with
 |true=>
  rw [hc] at cN hrun
  simp only [if_true] at hrun
  rw [← hrun]
  rcases hor with ⟨rfl,rfl,h47,h50⟩|⟨rfl,rfl⟩
  ·skip
   with_reducible repeat' (first|refine Sp.h ?_|((first|refine Wd ?_|refine Ss.h ?_|refine Sc.h (cS1) ?_|refine Sc.h (cS2) ?_|refine Sc.h (cM) ?_|refine Sc.h (cN) ?_|(refine Sb.h ?_ ?_ ?_<;>(try intro hgd)<;>try exact Xy))<;>simp -implicitDefEqProofs (maxSteps:=2000000) [hP,hN,g0,g1,g2,g3,g8,hb8,g9,h10,h11,h12,h16,hb9,h47,h50,hwl,hvl]<;>try refine Ya ?_)|refine X2 ?_ ?_|(refine Xd ?_ ?_<;>intro hcd<;>try exact Xx))
  ·skip
   with_reducible repeat' (first|refine Sp.h ?_|((first|refine Wd ?_|refine Ss.h ?_|refine Sc.h (cS1) ?_|refine Sc.h (cS2) ?_|refine Sc.h (cM) ?_|refine Sc.h (cN) ?_|(refine Sb.h ?_ ?_ ?_<;>(try intro hgd)<;>try exact Xy))<;>simp -implicitDefEqProofs (maxSteps:=2000000) [hP,hN,g0,g1,g2,g3,g8,hb8,g9,h10,h11,h12,h16,hb9,hwl,hvl]<;>try refine Ya ?_)|refine X2 ?_ ?_|(refine Xd ?_ ?_<;>intro hcd<;>try exact Xx))
 |false=>
 rw [hc] at cN hrun hrok
 simp only [Bool.false_eq_true,if_false] at hrun hrok
 have hno0 : bP (gJ tt)=bP ((tt.1.tdiv 65536,tt.2.1.tdiv 65536,tt.2.2.tdiv 65536)):=by rw [← hxd]
 generalize hxx : gJ tt=x at *
 subst hxd
 generalize hne : bP (tt.1.tdiv 65536,tt.2.1.tdiv 65536,tt.2.2.tdiv 65536)=n at *
 clear hno0
 cases hnz : nz n with
 |false=>
  rw [hnz] at cNo hrun
  simp only [if_true] at hrun
  rw [← hrun]
  rcases hor with ⟨rfl,rfl,h47,h50⟩|⟨rfl,rfl⟩
  ·skip
   with_reducible repeat' (first|refine Sp.h ?_|((first|refine Wd ?_|refine Ss.h ?_|refine Sc.h (cS1) ?_|refine Sc.h (cS2) ?_|refine Sc.h (cM) ?_|refine Sc.h (cN) ?_|refine Sc.h (cNo) ?_|(refine Sb.h ?_ ?_ ?_<;>(try intro hgd)<;>try exact Xy))<;>simp -implicitDefEqProofs (maxSteps:=2000000) [hP,hN,g0,g1,g2,g3,g8,hb8,g9,h10,h11,h12,h16,hb9,h47,h50,hwl,hvl,x1,x2,x3]<;>try refine Ya ?_)|refine X2 ?_ ?_|(refine Xd ?_ ?_<;>intro hcd<;>try exact Xx))
  ·skip
   with_reducible repeat' (first|refine Sp.h ?_|((first|refine Wd ?_|refine Ss.h ?_|refine Sc.h (cS1) ?_|refine Sc.h (cS2) ?_|refine Sc.h (cM) ?_|refine Sc.h (cN) ?_|refine Sc.h (cNo) ?_|(refine Sb.h ?_ ?_ ?_<;>(try intro hgd)<;>try exact Xy))<;>simp -implicitDefEqProofs (maxSteps:=2000000) [hP,hN,g0,g1,g2,g3,g8,hb8,g9,h10,h11,h12,h16,hb9,hwl,hvl,x1,x2,x3]<;>try refine Ya ?_)|refine X2 ?_ ?_|(refine Xd ?_ ?_<;>intro hcd<;>try exact Xx))
 |true=>
 rw [hnz] at cNo hrun hrok
 simp only [Bool.true_eq_false,if_false] at hrun hrok
 have cE1:=Fo n a hnn ia.1 ia.2.1 ia.2.2
 have cE2:=Fp n b hnn ib.1 ib.2.1 ib.2.2
 have cQ:=GF n
 have hq:=qv n
 have l1:=mY (bet:=ej) hnn ia.2.2
 have l2:=mY (bet:=ek) hnn ib.2.2
 have i1:=kD (bet:=ej) (n:=n) ia.1
 have i2:=kD (bet:=ek) (n:=n) ib.1
 obtain ⟨p0,hp0⟩ : ∃ p0,a[0]?=some p0:=⟨_,List.getElem?_eq_getElem (by omega)⟩
 obtain ⟨p1,hp1⟩ : ∃ p1,b[0]?=some p1:=⟨_,List.getElem?_eq_getElem (by omega)⟩
 obtain ⟨pa,hpa,hva⟩:=mo (bet:=ej) (n:=n) hp0 a.length
 obtain ⟨pb,hpb,hvb⟩:=mo (bet:=ek) (n:=n) hp1 b.length
 have hba : dg ej n a=dt ej n p0 a a.length:=by simp [dg,hp0]
 have hbb : dg ek n b=dt ek n p1 b b.length:=by simp [dg,hp1]
 rw [← hba] at hpa hva
 rw [← hbb] at hpb hvb
 clear hba hbb
 generalize dg ej n a=lo at *
 generalize dg ek n b=hi' at *
 generalize eY n=q at *
 have hqr:=ck (a:=q) (b:=rho) 32768 2097152 (by omega) (by omega) (by omega) (by omega)
 have e4 : IntKind.i64.wrap (lo.1 - hi'.1)=lo.1 - hi'.1:=ao
 have e5 : IntKind.i64.wrap (q * rho)=q * rho:=ao
 generalize hpp : q * rho=qr at *
 have hxa : ∀ h,a[lo.2]'h=pa:=fun h=>by rw [List.getElem?_eq_getElem h] at hpa;exact Option.some.inj hpa
 have hxb : ∀ h,b[hi'.2]'h=pb:=fun h=>by rw [List.getElem?_eq_getElem h] at hpb;exact Option.some.inj hpb
 have sa:=dZ (List.all_eq_true.1 ia.2.2 pa (List.mem_of_getElem? hpa))
 have sb:=dZ (List.all_eq_true.1 ib.2.2 pb (List.mem_of_getElem? hpb))
 have cD1:=zf n pa 16384 268435456 (ro hnn) sa (by decide)
 have cD2:=zf n pb 16384 268435456 (ro hnn) sb (by decide)
 rw [← hva] at cD1
 rw [← hvb] at cD2
 have cA:=Fm pa pb (ic sa (by decide)) (ic sb (by decide))
 have sab:=nN sa sb
 have hXs : eJ 536870912 (tt.1.tdiv 65536,tt.2.1.tdiv 65536,tt.2.2.tdiv 65536):=hX29
 have htr:=jO (tt.1.tdiv 65536,tt.2.1.tdiv 65536,tt.2.2.tdiv 65536) (bA pa pb)
 rw [hpa,hpb] at hrun hrok
 simp only [Option.getD_some] at hrun hrok
 have w1 : IntKind.i64.wrap lo.1=lo.1:=ao
 have w2 : IntKind.i64.wrap hi'.1=hi'.1:=ao
 by_cases hsep : qr < lo.1 - hi'.1
 ·rw [if_pos hsep] at hrun
  simp only at hrun
  rw [← hrun]
  rcases hor with ⟨rfl,rfl,h47,h50⟩|⟨rfl,rfl⟩
  ·skip
   with_reducible repeat' (first|refine Sp.h ?_|((first|refine Wd ?_|refine Ss.h ?_|refine Sc.h (cS1) ?_|refine Sc.h (cS2) ?_|refine Sc.h (cM) ?_|refine Sc.h (cN) ?_|refine Sc.h (cNo) ?_|refine Sc.h (cE1) ?_|refine Sc.h (cE2) ?_|refine Sc.h (cD1) ?_|refine Sc.h (cD2) ?_|refine Sc.h (cQ) ?_|(refine Sb.h ?_ ?_ ?_<;>(try intro hgd)<;>try exact Xy))<;>simp -implicitDefEqProofs (maxSteps:=2000000) [hP,hN,g0,g1,g2,g3,g8,hb8,g9,h10,h11,h12,h16,hb9,h47,h50,hwl,hvl,x1,x2,x3,hpa,hpb,hxa,hxb,i1,i2,e4,e5,hpp,hsep]<;>try refine Ya ?_)|refine X2 ?_ ?_|(refine Xd ?_ ?_<;>intro hcd<;>try exact Xx))
  ·skip
   with_reducible repeat' (first|refine Sp.h ?_|((first|refine Wd ?_|refine Ss.h ?_|refine Sc.h (cS1) ?_|refine Sc.h (cS2) ?_|refine Sc.h (cM) ?_|refine Sc.h (cN) ?_|refine Sc.h (cNo) ?_|refine Sc.h (cE1) ?_|refine Sc.h (cE2) ?_|refine Sc.h (cD1) ?_|refine Sc.h (cD2) ?_|refine Sc.h (cQ) ?_|(refine Sb.h ?_ ?_ ?_<;>(try intro hgd)<;>try exact Xy))<;>simp -implicitDefEqProofs (maxSteps:=2000000) [hP,hN,g0,g1,g2,g3,g8,hb8,g9,h10,h11,h12,h16,hb9,hwl,hvl,x1,x2,x3,hpa,hpb,hxa,hxb,i1,i2,e4,e5,hpp,hsep]<;>try refine Ya ?_)|refine X2 ?_ ?_|(refine Xd ?_ ?_<;>intro hcd<;>try exact Xx))
 rw [if_neg hsep] at hrun hrok
 have cB:=Fm (tt.1.tdiv 65536,tt.2.1.tdiv 65536,tt.2.2.tdiv 65536) (bA pa pb) (ic hXs (by decide)) (ic sab (by decide))
 have he:=nN hXs sab
 have cU:=zf (tt.1.tdiv 65536,tt.2.1.tdiv 65536,tt.2.2.tdiv 65536) (bA (tt.1.tdiv 65536,tt.2.1.tdiv 65536,tt.2.2.tdiv 65536) (bA pa pb)) 536870912 1073741824 hXs he (by decide)
 have cV:=zf (bA (tt.1.tdiv 65536,tt.2.1.tdiv 65536,tt.2.2.tdiv 65536) (bA pa pb)) (bA (tt.1.tdiv 65536,tt.2.1.tdiv 65536,tt.2.2.tdiv 65536) (bA pa pb)) 1073741824 1073741824 he he (by decide)
 obtain ⟨r1,r2,r3⟩:=jC (m:=536870912) (n:=1073741824) hXs he
 obtain ⟨t1,t2,t3⟩:=jC (m:=1073741824) (n:=1073741824) he he
 have hu : -1729382256910270464≤bT (tt.1.tdiv 65536,tt.2.1.tdiv 65536,tt.2.2.tdiv 65536) (bA (tt.1.tdiv 65536,tt.2.1.tdiv 65536,tt.2.2.tdiv 65536) (bA pa pb))∧bT (tt.1.tdiv 65536,tt.2.1.tdiv 65536,tt.2.2.tdiv 65536) (bA (tt.1.tdiv 65536,tt.2.1.tdiv 65536,tt.2.2.tdiv 65536) (bA pa pb))≤1729382256910270464:=by unfold bT;omega
 have hv : bT (bA (tt.1.tdiv 65536,tt.2.1.tdiv 65536,tt.2.2.tdiv 65536) (bA pa pb)) (bA (tt.1.tdiv 65536,tt.2.1.tdiv 65536,tt.2.2.tdiv 65536) (bA pa pb))≤3458764513820540928:=by unfold bT;omega
 have hv0:=tU (bA (tt.1.tdiv 65536,tt.2.1.tdiv 65536,tt.2.2.tdiv 65536) (bA pa pb))
 have hpd : jD (tt.1.tdiv 65536,tt.2.1.tdiv 65536,tt.2.2.tdiv 65536) (bA pa pb)=if bT (tt.1.tdiv 65536,tt.2.1.tdiv 65536,tt.2.2.tdiv 65536) (bA (tt.1.tdiv 65536,tt.2.1.tdiv 65536,tt.2.2.tdiv 65536) (bA pa pb))≤0 then 0 else min 256 (bT (tt.1.tdiv 65536,tt.2.1.tdiv 65536,tt.2.2.tdiv 65536) (bA (tt.1.tdiv 65536,tt.2.1.tdiv 65536,tt.2.2.tdiv 65536) (bA pa pb)) / max 1 (bT (bA (tt.1.tdiv 65536,tt.2.1.tdiv 65536,tt.2.2.tdiv 65536) (bA pa pb)) (bA (tt.1.tdiv 65536,tt.2.1.tdiv 65536,tt.2.2.tdiv 65536) (bA pa pb)) / 256)):=rfl
 clear r1 r2 r3 t1 t2 t3 he
 generalize jD (tt.1.tdiv 65536,tt.2.1.tdiv 65536,tt.2.2.tdiv 65536) (bA pa pb)=t at *
 generalize bT (tt.1.tdiv 65536,tt.2.1.tdiv 65536,tt.2.2.tdiv 65536) (bA (tt.1.tdiv 65536,tt.2.1.tdiv 65536,tt.2.2.tdiv 65536) (bA pa pb))=u at *
 generalize bT (bA (tt.1.tdiv 65536,tt.2.1.tdiv 65536,tt.2.2.tdiv 65536) (bA pa pb)) (bA (tt.1.tdiv 65536,tt.2.1.tdiv 65536,tt.2.2.tdiv 65536) (bA pa pb))=v at *
 generalize bA (tt.1.tdiv 65536,tt.2.1.tdiv 65536,tt.2.2.tdiv 65536) (bA pa pb)=e at *
 generalize bA pa pb=pab at *
 by_cases hstp : r=sn
 ·rw [if_pos hstp] at hrun
  simp only at hrun
  rw [← hrun]
  subst hstp
  rcases hor with ⟨rfl,rfl,h47,h50⟩|⟨rfl,rfl⟩
  ·skip
   with_reducible repeat' (first|refine Sp.h ?_|((first|refine Wd ?_|refine Ss.h ?_|refine Sc.h (cS1) ?_|refine Sc.h (cS2) ?_|refine Sc.h (cM) ?_|refine Sc.h (cN) ?_|refine Sc.h (cNo) ?_|refine Sc.h (cE1) ?_|refine Sc.h (cE2) ?_|refine Sc.h (cD1) ?_|refine Sc.h (cD2) ?_|refine Sc.h (cQ) ?_|refine Sc.h (cA) ?_|refine Sc.h (cB) ?_|refine Sc.h (cU) ?_|refine Sc.h (cV) ?_|(refine Sb.h ?_ ?_ ?_<;>(try intro hgd)<;>try exact Xy))<;>simp -implicitDefEqProofs (maxSteps:=2000000) [hP,hN,g0,g1,g2,g3,g8,hb8,g9,h10,h11,h12,h16,hb9,h47,h50,hwl,hvl,x1,x2,x3,hpa,hpb,hxa,hxb,i1,i2,e4,e5,hpp,hsep]<;>try refine Ya ?_)|refine X2 ?_ ?_|(refine Xd ?_ ?_<;>intro hcd<;>try exact Xx))
  ·skip
   with_reducible repeat' (first|refine Sp.h ?_|((first|refine Wd ?_|refine Ss.h ?_|refine Sc.h (cS1) ?_|refine Sc.h (cS2) ?_|refine Sc.h (cM) ?_|refine Sc.h (cN) ?_|refine Sc.h (cNo) ?_|refine Sc.h (cE1) ?_|refine Sc.h (cE2) ?_|refine Sc.h (cD1) ?_|refine Sc.h (cD2) ?_|refine Sc.h (cQ) ?_|refine Sc.h (cA) ?_|refine Sc.h (cB) ?_|refine Sc.h (cU) ?_|refine Sc.h (cV) ?_|(refine Sb.h ?_ ?_ ?_<;>(try intro hgd)<;>try exact Xy))<;>simp -implicitDefEqProofs (maxSteps:=2000000) [hP,hN,g0,g1,g2,g3,g8,hb8,g9,h10,h11,h12,h16,hb9,hwl,hvl,x1,x2,x3,hpa,hpb,hxa,hxb,i1,i2,e4,e5,hpp,hsep]<;>try refine Ya ?_)|refine X2 ?_ ?_|(refine Xd ?_ ?_<;>intro hcd<;>try exact Xx))
 rw [if_neg hstp] at hrun hrok
 have hst : ¬ (sn : Int)≤(r : Int):=by omega
 have hst3 : ¬ sn≤r:=by omega
 by_cases hu0 : u≤0
 ·rw [if_pos hu0] at hpd
  rw [if_pos hpd] at hrun
  simp only at hrun
  rw [← hrun]
  rcases hor with ⟨rfl,rfl,h47,h50⟩|⟨rfl,rfl⟩
  ·skip
   with_reducible repeat' (first|refine Sp.h ?_|((first|refine Wd ?_|refine Ss.h ?_|refine Sc.h (cS1) ?_|refine Sc.h (cS2) ?_|refine Sc.h (cM) ?_|refine Sc.h (cN) ?_|refine Sc.h (cNo) ?_|refine Sc.h (cE1) ?_|refine Sc.h (cE2) ?_|refine Sc.h (cD1) ?_|refine Sc.h (cD2) ?_|refine Sc.h (cQ) ?_|refine Sc.h (cA) ?_|refine Sc.h (cB) ?_|refine Sc.h (cU) ?_|refine Sc.h (cV) ?_|(refine Sb.h ?_ ?_ ?_<;>(try intro hgd)<;>try exact Xy))<;>simp -implicitDefEqProofs (maxSteps:=2000000) [hP,hN,g0,g1,g2,g3,g8,hb8,g9,h10,h11,h12,h16,hb9,h47,h50,hwl,hvl,x1,x2,x3,hpa,hpb,hxa,hxb,i1,i2,e4,e5,hpp,hsep,hst,hst3,hu0]<;>try refine Ya ?_)|refine X2 ?_ ?_|(refine Xd ?_ ?_<;>intro hcd<;>try exact Xx))
  ·skip
   with_reducible repeat' (first|refine Sp.h ?_|((first|refine Wd ?_|refine Ss.h ?_|refine Sc.h (cS1) ?_|refine Sc.h (cS2) ?_|refine Sc.h (cM) ?_|refine Sc.h (cN) ?_|refine Sc.h (cNo) ?_|refine Sc.h (cE1) ?_|refine Sc.h (cE2) ?_|refine Sc.h (cD1) ?_|refine Sc.h (cD2) ?_|refine Sc.h (cQ) ?_|refine Sc.h (cA) ?_|refine Sc.h (cB) ?_|refine Sc.h (cU) ?_|refine Sc.h (cV) ?_|(refine Sb.h ?_ ?_ ?_<;>(try intro hgd)<;>try exact Xy))<;>simp -implicitDefEqProofs (maxSteps:=2000000) [hP,hN,g0,g1,g2,g3,g8,hb8,g9,h10,h11,h12,h16,hb9,hwl,hvl,x1,x2,x3,hpa,hpb,hxa,hxb,i1,i2,e4,e5,hpp,hsep,hst,hst3,hu0]<;>try refine Ya ?_)|refine X2 ?_ ?_|(refine Xd ?_ ?_<;>intro hcd<;>try exact Xx))
 rw [if_neg hu0] at hpd
 have a1 : v.tdiv 256=v / 256:=Int.tdiv_eq_ediv_of_nonneg hv0
 have a2 : IntKind.i64.wrap (v / 256)=v / 256:=ao
 have hm : 1≤max 1 (v / 256):=by omega
 generalize hmm : max 1 (v / 256)=m at *
 have a3 : u.tdiv m=u / m:=Int.tdiv_eq_ediv_of_nonneg (by omega)
 have h4 : u / m≤u:=Int.ediv_le_self m (by omega)
 have h5 : 0≤u / m:=Int.ediv_nonneg (by omega) (by omega)
 have a4 : IntKind.i64.wrap (u / m)=u / m:=ao
 have a5 : ¬ m=0:=by omega
 have a6 : (m==0)=false:=by simp;omega
 have hpt:=hpd.symm
 by_cases ht0 : t=0
 ·rw [if_pos ht0] at hrun
  simp only at hrun
  rw [← hrun]
  rw [ht0] at hpt
  rcases hor with ⟨rfl,rfl,h47,h50⟩|⟨rfl,rfl⟩
  ·skip
   with_reducible repeat' (first|refine Sp.h ?_|((first|refine Wd ?_|refine Ss.h ?_|refine Sc.h (cS1) ?_|refine Sc.h (cS2) ?_|refine Sc.h (cM) ?_|refine Sc.h (cN) ?_|refine Sc.h (cNo) ?_|refine Sc.h (cE1) ?_|refine Sc.h (cE2) ?_|refine Sc.h (cD1) ?_|refine Sc.h (cD2) ?_|refine Sc.h (cQ) ?_|refine Sc.h (cA) ?_|refine Sc.h (cB) ?_|refine Sc.h (cU) ?_|refine Sc.h (cV) ?_|(refine Sb.h ?_ ?_ ?_<;>(try intro hgd)<;>try exact Xy))<;>simp -implicitDefEqProofs (maxSteps:=2000000) [hP,hN,g0,g1,g2,g3,g8,hb8,g9,h10,h11,h12,h16,hb9,h47,h50,hwl,hvl,x1,x2,x3,hpa,hpb,hxa,hxb,i1,i2,e4,e5,hpp,hsep,hst,hst3,hu0,a1,a2,hmm,a3,a4,a5,a6,hpt]<;>try refine Ya ?_)|refine X2 ?_ ?_|(refine Xd ?_ ?_<;>intro hcd<;>try exact Xx))
  ·skip
   with_reducible repeat' (first|refine Sp.h ?_|((first|refine Wd ?_|refine Ss.h ?_|refine Sc.h (cS1) ?_|refine Sc.h (cS2) ?_|refine Sc.h (cM) ?_|refine Sc.h (cN) ?_|refine Sc.h (cNo) ?_|refine Sc.h (cE1) ?_|refine Sc.h (cE2) ?_|refine Sc.h (cD1) ?_|refine Sc.h (cD2) ?_|refine Sc.h (cQ) ?_|refine Sc.h (cA) ?_|refine Sc.h (cB) ?_|refine Sc.h (cU) ?_|refine Sc.h (cV) ?_|(refine Sb.h ?_ ?_ ?_<;>(try intro hgd)<;>try exact Xy))<;>simp -implicitDefEqProofs (maxSteps:=2000000) [hP,hN,g0,g1,g2,g3,g8,hb8,g9,h10,h11,h12,h16,hb9,hwl,hvl,x1,x2,x3,hpa,hpb,hxa,hxb,i1,i2,e4,e5,hpp,hsep,hst,hst3,hu0,a1,a2,hmm,a3,a4,a5,a6,hpt]<;>try refine Ya ?_)|refine X2 ?_ ?_|(refine Xd ?_ ?_<;>intro hcd<;>try exact Xx))
 rw [if_neg ht0] at hrun hrok
 have hok:=hrok.2 _ rfl
 simp only at hrun
 have ht2 : (t==0)=false:=by simp;omega
 have cG1:=GA sw t lo.2 (by omega) hsw (by omega) htr.1 htr.2
 have cG2:=GA sv t hi'.2 (by omega) hsv (by omega) htr.1 htr.2
 have hwr : IntKind.i64.wrap ((r : Int)+1)=(r : Int)+1:=ao
 rcases hor with ⟨rfl,rfl,h47,h50⟩|⟨rfl,rfl⟩
 ·skip
  with_reducible repeat' (first|refine Sp.h ?_|((first|refine Wd ?_|refine Ss.h ?_|refine Sc.h (cS1) ?_|refine Sc.h (cS2) ?_|refine Sc.h (cM) ?_|refine Sc.h (cN) ?_|refine Sc.h (cNo) ?_|refine Sc.h (cE1) ?_|refine Sc.h (cE2) ?_|refine Sc.h (cD1) ?_|refine Sc.h (cD2) ?_|refine Sc.h (cQ) ?_|refine Sc.h (cA) ?_|refine Sc.h (cB) ?_|refine Sc.h (cU) ?_|refine Sc.h (cV) ?_|refine Sc.h (cG1) ?_|refine Sc.h (cG2) ?_|(refine Sb.h ?_ ?_ ?_<;>(try intro hgd)<;>try exact Xy))<;>simp -implicitDefEqProofs (maxSteps:=2000000) [hP,hN,g0,g1,g2,g3,g8,hb8,g9,h10,h11,h12,h16,hb9,h47,h50,hwl,hvl,x1,x2,x3,hpa,hpb,hxa,hxb,i1,i2,e4,e5,hpp,hsep,hst,hst3,hu0,a1,a2,hmm,a3,a4,a5,a6,hpt,ht0,ht2,hwr]<;>try refine Ya ?_)|refine X2 ?_ ?_|(refine Xd ?_ ?_<;>intro hcd<;>try exact Xx))
  refine ⟨by omega,⟨iA sw lo.2 t,iA sv hi'.2 t,n,r+1⟩,hok,by simp only,hrun,?_⟩
  simp
  exact ⟨_,_,⟨rfl,rfl⟩,Or.inr ⟨rfl,rfl⟩⟩
 ·skip
  with_reducible repeat' (first|refine Sp.h ?_|((first|refine Wd ?_|refine Ss.h ?_|refine Sc.h (cS1) ?_|refine Sc.h (cS2) ?_|refine Sc.h (cM) ?_|refine Sc.h (cN) ?_|refine Sc.h (cNo) ?_|refine Sc.h (cE1) ?_|refine Sc.h (cE2) ?_|refine Sc.h (cD1) ?_|refine Sc.h (cD2) ?_|refine Sc.h (cQ) ?_|refine Sc.h (cA) ?_|refine Sc.h (cB) ?_|refine Sc.h (cU) ?_|refine Sc.h (cV) ?_|refine Sc.h (cG1) ?_|refine Sc.h (cG2) ?_|(refine Sb.h ?_ ?_ ?_<;>(try intro hgd)<;>try exact Xy))<;>simp -implicitDefEqProofs (maxSteps:=2000000) [hP,hN,g0,g1,g2,g3,g8,hb8,g9,h10,h11,h12,h16,hb9,hwl,hvl,x1,x2,x3,hpa,hpb,hxa,hxb,i1,i2,e4,e5,hpp,hsep,hst,hst3,hu0,a1,a2,hmm,a3,a4,a5,a6,hpt,ht0,ht2,hwr]<;>try refine Ya ?_)|refine X2 ?_ ?_|(refine Xd ?_ ?_<;>intro hcd<;>try exact Xx))
  refine ⟨by omega,⟨iA sw lo.2 t,iA sv hi'.2 t,n,r+1⟩,hok,by simp only,hrun,?_⟩
  simp
  exact ⟨_,_,⟨rfl,rfl⟩,Or.inr ⟨rfl,rfl⟩⟩
end Go.Ab
namespace Go.Ab
open Go.Proofs
def uU (v : Vc) (j : Nat) : List AV:=[.pv (Z (if 0 < j then v.1 else 0)),.pv (Z (if 1 < j then v.2.1 else 0)),.pv (Z (if 2 < j then v.2.2 else 0))]
theorem HY (a b : List aU) (ha : a.length≤9223372036854775807) (hb : b.length≤9223372036854775807) : ah Tryz.prog 114 [.pv (bn a),.pv (bn b)] [] [] (.pv (.tup [aG (iT a b),B (jP a b)])):=by
 have ca:=vN a ha
 have cb:=vN b hb
 have hN : iT a b=if aZ a && aZ b then bP (jn a b) else (0,0,0):=rfl
 have hM : jP a b=(aZ a && aZ b && nz (bP (jn a b))):=rfl
 rw [hN,hM]
 cases hpa : aZ a with
 |false=>
  rw [hpa] at ca
  refine Dp Tryz.func114 ?_
  intro C hP hN
  simp only [Tryz.f114] at hN ⊢
  exact Gy
 |true=>
 rw [hpa] at ca
 cases hpb : aZ b with
 |false=>
  rw [hpb] at cb
  refine Dp Tryz.func114 ?_
  intro C hP hN
  simp only [Tryz.f114] at hN ⊢
  exact Gy
 |true=>
 rw [hpb] at cb
 have c1:=zi a ha
 have c2:=zi b hb
 have hms:=yM hpa hpb
 have c5:=GB (jn a b) hms
 have h2:=(cJ hpa).2.1
 have h3:=(cJ hpb).2.1
 have hmv : jn a b=((bh (ba a) a.length).1 * b.length - (bh (ba b) b.length).1 * a.length,(bh (ba a) a.length).2.1 * b.length - (bh (ba b) b.length).2.1 * a.length,(bh (ba a) a.length).2.2 * b.length - (bh (ba b) b.length).2.2 * a.length):=rfl
 simp only [Bool.and_self,if_true,Bool.true_and]
 have l1:=fv hpa
 have l2:=fv hpb
 have n1:=jE (l:=a)
 have n2:=jE (l:=b)
 generalize ba a=xa at *
 generalize ba b=xb at *
 generalize jn a b=V at *
 generalize bP V=n at *
 have wa : IntKind.i64.wrap (a.length : Int)=(a.length : Int):=ao
 have wb : IntKind.i64.wrap (b.length : Int)=(b.length : Int):=ao
 refine Dp Tryz.func114 ?_
 intro C hP hN
 simp only [Tryz.f114] at hN ⊢
 refine Gz ?_
 refine WP.loopN [] 3 (fun k st=>st.t 0=.pv (bn a)∧st.t 1=.pv (bn b)∧st.t 4=.ptr 4 0∧st.h 4=some (.box [.pv (Z 0),.pv (Z 0),.pv (Z 0)] true false)∧st.t 5=.pv (B false)∧st.t 6=.ptr 6 0∧st.h 6=some (.box (uU V k) true false)∧st.t 7=.pv (bp xa)∧st.t 8=.pv (bp xb)∧st.t 9=.pv (Z k)) ?_ ?_
 ·simp [uU]
 rintro k st hk ⟨g0,g1,g4,hb4,g5,g6,hb6,g7,g8,g9⟩
 have e : ∀ x : Int,-2147483648≤x∧x≤2147483648→∀ n : Nat,n≤8→-17179869184≤x * n∧x * n≤17179869184:=fun x hx n hn=>by
  have:=ck (a:=x) (b:=(n : Int)) 2147483648 8 (by omega) (by omega) (by omega) (by omega)
  omega
 rcases cE hk with rfl|rfl|rfl|rfl
 all_goals (simp [uU] at hb6 g9)
 ·skip
  have hs1 : ∀ i : Nat,i≤8→-17179869184≤(bh xa i).1 * b.length∧(bh xa i).1 * b.length≤17179869184:=fun i hi=>by
   have h:=ig n1 i
   obtain ⟨q1,q2,q3⟩:=h
   exact e (bh xa i).1 (by omega) _ h3
  have hs2 : ∀ i : Nat,i≤8→-17179869184≤(bh xb i).1 * a.length∧(bh xb i).1 * a.length≤17179869184:=fun i hi=>by
   have h:=ig n2 i
   obtain ⟨q1,q2,q3⟩:=h
   exact e (bh xb i).1 (by omega) _ h2
  skip
  with_reducible repeat' (first|refine Sp.h ?_|((first|refine Wd ?_|refine Ss.h ?_|(refine Sb.h ?_ ?_ ?_<;>(try intro hgd)<;>try exact Xy))<;>simp -implicitDefEqProofs (maxSteps:=2000000) [hP,hN,g0,g1,g4,g5,hb4,hb6,g6,g7,g8,g9]<;>try refine Ya ?_)|refine X2 ?_ ?_|(refine Xd ?_ ?_<;>intro hcd<;>try exact Xx))
  refine WP.loopN [] a.length (fun i st=>st.t 0=.pv (bn a)∧st.t 1=.pv (bn b)∧st.t 4=.ptr 4 0∧st.h 4=some (.box [.pv (Z 0),.pv (Z 0),.pv (Z 0)] true false)∧st.t 5=.pv (B false)∧st.t 6=.ptr 6 0∧st.h 6=some (.box [.pv (Z ((bh xa i).1 * b.length)),.pv (Z 0),.pv (Z 0)] true false)∧st.t 7=.pv (bp xa)∧st.t 8=.pv (bp xb)∧st.t 9=.pv (Z 0)∧st.t 10=.pv (Z i)) ?_ ?_
  ·simp [bh,g0,g1,g4,hb4,g5,g6,hb6,g7,g8,g9]
  clear g0 g1 g4 hb4 g5 g6 hb6 g7 g8 g9
  rintro i st hi ⟨g0,g1,g4,hb4,g5,g6,hb6,g7,g8,g9,g10⟩
  by_cases hlt : i < a.length
  ·have hlx : i < xa.length:=by omega
   have hwr:=bi hlt (by omega)
   obtain ⟨p,hx⟩ : ∃ p,xa[i]?=some p:=⟨_,List.getElem?_eq_getElem hlx⟩
   have hxe : ∀ h,xa[i]'h=p:=fun h=>by rw [List.getElem?_eq_getElem h] at hx;exact Option.some.inj hx
   have hnx:=hs1 (i+1) (by omega)
   have hcu:=hs1 i (by omega)
   have hp:=dZ (List.all_eq_true.1 n1 p (List.mem_of_getElem? hx))
   obtain ⟨p1,p2,p3⟩:=hp
   have hpm:=e p.1 (by omega) _ h3
   have hS : (bh xa (i+1)).1 * (b.length : Int)=(bh xa i).1 * b.length+p.1 * b.length:=by
    rw [← Int.add_mul];simp only [bh,hx]
   rw [hS] at hnx ⊢
   have v1 : IntKind.i64.wrap (p.1 * b.length)=p.1 * b.length:=ao
   generalize (bh xa i).1 * (b.length : Int)=y at *
   have v2 : IntKind.i64.wrap (y+p.1 * b.length)=y+p.1 * b.length:=ao
   with_reducible repeat' (first|refine Sp.h ?_|((first|refine Wd ?_|refine Ss.h ?_|(refine Sb.h ?_ ?_ ?_<;>(try intro hgd)<;>try exact Xy))<;>simp -implicitDefEqProofs (maxSteps:=2000000) [hP,hN,g0,g1,g4,hb4,g5,g6,hb6,g7,g8,g9,g10,hlt,hlx,hwr,hx,hxe,v1,v2,wb,l1,l2]<;>try refine Ya ?_)|refine X2 ?_ ?_|(refine Xd ?_ ?_<;>intro hcd<;>try exact Xx))
  have hin : i=a.length:=by omega
  subst hin
  have hT1:=hs1 a.length (by omega)
  generalize hy : (bh xa a.length).1 * (b.length : Int)=Y at *
  skip
  with_reducible repeat' (first|refine Sp.h ?_|((first|refine Wd ?_|refine Ss.h ?_|(refine Sb.h ?_ ?_ ?_<;>(try intro hgd)<;>try exact Xy))<;>simp -implicitDefEqProofs (maxSteps:=2000000) [hP,hN,g0,g1,g4,g5,hb4,hb6,g6,g7,g8,g9,g10,l1,l2]<;>try refine Ya ?_)|refine X2 ?_ ?_|(refine Xd ?_ ?_<;>intro hcd<;>try exact Xx))
  refine WP.loopN [] b.length (fun i st=>st.t 0=.pv (bn a)∧st.t 1=.pv (bn b)∧st.t 4=.ptr 4 0∧st.h 4=some (.box [.pv (Z 0),.pv (Z 0),.pv (Z 0)] true false)∧st.t 5=.pv (B false)∧st.t 6=.ptr 6 0∧st.h 6=some (.box [.pv (Z (Y - (bh xb i).1 * a.length)),.pv (Z 0),.pv (Z 0)] true false)∧st.t 7=.pv (bp xa)∧st.t 8=.pv (bp xb)∧st.t 9=.pv (Z 0)∧st.t 11=.pv (Z i)) ?_ ?_
  ·simp [bh,g0,g1,g4,hb4,g5,g6,hb6,g7,g8,g9]
  clear g0 g1 g4 hb4 g5 g6 hb6 g7 g8 g9 g10
  rintro i st hi ⟨g0,g1,g4,hb4,g5,g6,hb6,g7,g8,g9,g11⟩
  by_cases hlt : i < b.length
  ·have hlx : i < xb.length:=by omega
   have hwr:=bi hlt (by omega)
   obtain ⟨p,hx⟩ : ∃ p,xb[i]?=some p:=⟨_,List.getElem?_eq_getElem hlx⟩
   have hxe : ∀ h,xb[i]'h=p:=fun h=>by rw [List.getElem?_eq_getElem h] at hx;exact Option.some.inj hx
   have hnx:=hs2 (i+1) (by omega)
   have hcu:=hs2 i (by omega)
   have hp:=dZ (List.all_eq_true.1 n2 p (List.mem_of_getElem? hx))
   obtain ⟨p1,p2,p3⟩:=hp
   have hpm:=e p.1 (by omega) _ h2
   have hS : (bh xb (i+1)).1 * (a.length : Int)=(bh xb i).1 * a.length+p.1 * a.length:=by
    rw [← Int.add_mul];simp only [bh,hx]
   rw [hS] at hnx ⊢
   have v1 : IntKind.i64.wrap (p.1 * a.length)=p.1 * a.length:=ao
   generalize (bh xb i).1 * (a.length : Int)=y at *
   have v2 : IntKind.i64.wrap (Y - y - p.1 * a.length)=Y - (y+p.1 * a.length):=(ao (by omega) (by omega)).trans (by omega)
   exact Gy
  have hin : i=b.length:=by omega
  subst hin
  have hVk : Y - (bh xb b.length).1 * (a.length : Int)=V.1:=by rw [hmv,← hy]
  rw [hVk] at hb6
  skip
  with_reducible repeat' (first|refine Sp.h ?_|((first|refine Wd ?_|refine Ss.h ?_|(refine Sb.h ?_ ?_ ?_<;>(try intro hgd)<;>try exact Xy))<;>simp -implicitDefEqProofs (maxSteps:=2000000) [hP,hN,g0,g1,g4,g5,hb4,hb6,g6,g7,g8,g9,g11,l1,l2,uU]<;>try refine Ya ?_)|refine X2 ?_ ?_|(refine Xd ?_ ?_<;>intro hcd<;>try exact Xx))
 ·skip
  have hs1 : ∀ i : Nat,i≤8→-17179869184≤(bh xa i).2.1 * b.length∧(bh xa i).2.1 * b.length≤17179869184:=fun i hi=>by
   have h:=ig n1 i
   obtain ⟨q1,q2,q3⟩:=h
   exact e (bh xa i).2.1 (by omega) _ h3
  have hs2 : ∀ i : Nat,i≤8→-17179869184≤(bh xb i).2.1 * a.length∧(bh xb i).2.1 * a.length≤17179869184:=fun i hi=>by
   have h:=ig n2 i
   obtain ⟨q1,q2,q3⟩:=h
   exact e (bh xb i).2.1 (by omega) _ h2
  skip
  with_reducible repeat' (first|refine Sp.h ?_|((first|refine Wd ?_|refine Ss.h ?_|(refine Sb.h ?_ ?_ ?_<;>(try intro hgd)<;>try exact Xy))<;>simp -implicitDefEqProofs (maxSteps:=2000000) [hP,hN,g0,g1,g4,g5,hb4,hb6,g6,g7,g8,g9]<;>try refine Ya ?_)|refine X2 ?_ ?_|(refine Xd ?_ ?_<;>intro hcd<;>try exact Xx))
  refine WP.loopN [] a.length (fun i st=>st.t 0=.pv (bn a)∧st.t 1=.pv (bn b)∧st.t 4=.ptr 4 0∧st.h 4=some (.box [.pv (Z 0),.pv (Z 0),.pv (Z 0)] true false)∧st.t 5=.pv (B false)∧st.t 6=.ptr 6 0∧st.h 6=some (.box [.pv (Z V.1),.pv (Z ((bh xa i).2.1 * b.length)),.pv (Z 0)] true false)∧st.t 7=.pv (bp xa)∧st.t 8=.pv (bp xb)∧st.t 9=.pv (Z 1)∧st.t 10=.pv (Z i)) ?_ ?_
  ·simp [bh,g0,g1,g4,hb4,g5,g6,hb6,g7,g8,g9]
  clear g0 g1 g4 hb4 g5 g6 hb6 g7 g8 g9
  rintro i st hi ⟨g0,g1,g4,hb4,g5,g6,hb6,g7,g8,g9,g10⟩
  by_cases hlt : i < a.length
  ·have hlx : i < xa.length:=by omega
   have hwr:=bi hlt (by omega)
   obtain ⟨p,hx⟩ : ∃ p,xa[i]?=some p:=⟨_,List.getElem?_eq_getElem hlx⟩
   have hxe : ∀ h,xa[i]'h=p:=fun h=>by rw [List.getElem?_eq_getElem h] at hx;exact Option.some.inj hx
   have hnx:=hs1 (i+1) (by omega)
   have hcu:=hs1 i (by omega)
   have hp:=dZ (List.all_eq_true.1 n1 p (List.mem_of_getElem? hx))
   obtain ⟨p1,p2,p3⟩:=hp
   have hpm:=e p.2.1 (by omega) _ h3
   have hS : (bh xa (i+1)).2.1 * (b.length : Int)=(bh xa i).2.1 * b.length+p.2.1 * b.length:=by
    rw [← Int.add_mul];simp only [bh,hx]
   rw [hS] at hnx ⊢
   have v1 : IntKind.i64.wrap (p.2.1 * b.length)=p.2.1 * b.length:=ao
   generalize (bh xa i).2.1 * (b.length : Int)=y at *
   have v2 : IntKind.i64.wrap (y+p.2.1 * b.length)=y+p.2.1 * b.length:=ao
   with_reducible repeat' (first|refine Sp.h ?_|((first|refine Wd ?_|refine Ss.h ?_|(refine Sb.h ?_ ?_ ?_<;>(try intro hgd)<;>try exact Xy))<;>simp -implicitDefEqProofs (maxSteps:=2000000) [hP,hN,g0,g1,g4,hb4,g5,g6,hb6,g7,g8,g9,g10,hlt,hlx,hwr,hx,hxe,v1,v2,wb,l1,l2]<;>try refine Ya ?_)|refine X2 ?_ ?_|(refine Xd ?_ ?_<;>intro hcd<;>try exact Xx))
  have hin : i=a.length:=by omega
  subst hin
  have hT1:=hs1 a.length (by omega)
  generalize hy : (bh xa a.length).2.1 * (b.length : Int)=Y at *
  skip
  with_reducible repeat' (first|refine Sp.h ?_|((first|refine Wd ?_|refine Ss.h ?_|(refine Sb.h ?_ ?_ ?_<;>(try intro hgd)<;>try exact Xy))<;>simp -implicitDefEqProofs (maxSteps:=2000000) [hP,hN,g0,g1,g4,g5,hb4,hb6,g6,g7,g8,g9,g10,l1,l2]<;>try refine Ya ?_)|refine X2 ?_ ?_|(refine Xd ?_ ?_<;>intro hcd<;>try exact Xx))
  refine WP.loopN [] b.length (fun i st=>st.t 0=.pv (bn a)∧st.t 1=.pv (bn b)∧st.t 4=.ptr 4 0∧st.h 4=some (.box [.pv (Z 0),.pv (Z 0),.pv (Z 0)] true false)∧st.t 5=.pv (B false)∧st.t 6=.ptr 6 0∧st.h 6=some (.box [.pv (Z V.1),.pv (Z (Y - (bh xb i).2.1 * a.length)),.pv (Z 0)] true false)∧st.t 7=.pv (bp xa)∧st.t 8=.pv (bp xb)∧st.t 9=.pv (Z 1)∧st.t 11=.pv (Z i)) ?_ ?_
  ·simp [bh,g0,g1,g4,hb4,g5,g6,hb6,g7,g8,g9]
  clear g0 g1 g4 hb4 g5 g6 hb6 g7 g8 g9 g10
  rintro i st hi ⟨g0,g1,g4,hb4,g5,g6,hb6,g7,g8,g9,g11⟩
  by_cases hlt : i < b.length
  ·have hlx : i < xb.length:=by omega
   have hwr:=bi hlt (by omega)
   obtain ⟨p,hx⟩ : ∃ p,xb[i]?=some p:=⟨_,List.getElem?_eq_getElem hlx⟩
   have hxe : ∀ h,xb[i]'h=p:=fun h=>by rw [List.getElem?_eq_getElem h] at hx;exact Option.some.inj hx
   have hnx:=hs2 (i+1) (by omega)
   have hcu:=hs2 i (by omega)
   have hp:=dZ (List.all_eq_true.1 n2 p (List.mem_of_getElem? hx))
   obtain ⟨p1,p2,p3⟩:=hp
   have hpm:=e p.2.1 (by omega) _ h2
   have hS : (bh xb (i+1)).2.1 * (a.length : Int)=(bh xb i).2.1 * a.length+p.2.1 * a.length:=by
    rw [← Int.add_mul];simp only [bh,hx]
   rw [hS] at hnx ⊢
   have v1 : IntKind.i64.wrap (p.2.1 * a.length)=p.2.1 * a.length:=ao
   generalize (bh xb i).2.1 * (a.length : Int)=y at *
   have v2 : IntKind.i64.wrap (Y - y - p.2.1 * a.length)=Y - (y+p.2.1 * a.length):=(ao (by omega) (by omega)).trans (by omega)
   exact Gy
  have hin : i=b.length:=by omega
  subst hin
  have hVk : Y - (bh xb b.length).2.1 * (a.length : Int)=V.2.1:=by rw [hmv,← hy]
  rw [hVk] at hb6
  skip
  with_reducible repeat' (first|refine Sp.h ?_|((first|refine Wd ?_|refine Ss.h ?_|(refine Sb.h ?_ ?_ ?_<;>(try intro hgd)<;>try exact Xy))<;>simp -implicitDefEqProofs (maxSteps:=2000000) [hP,hN,g0,g1,g4,g5,hb4,hb6,g6,g7,g8,g9,g11,l1,l2,uU]<;>try refine Ya ?_)|refine X2 ?_ ?_|(refine Xd ?_ ?_<;>intro hcd<;>try exact Xx))
 ·skip
  have hs1 : ∀ i : Nat,i≤8→-17179869184≤(bh xa i).2.2 * b.length∧(bh xa i).2.2 * b.length≤17179869184:=fun i hi=>by
   have h:=ig n1 i
   obtain ⟨q1,q2,q3⟩:=h
   exact e (bh xa i).2.2 (by omega) _ h3
  have hs2 : ∀ i : Nat,i≤8→-17179869184≤(bh xb i).2.2 * a.length∧(bh xb i).2.2 * a.length≤17179869184:=fun i hi=>by
   have h:=ig n2 i
   obtain ⟨q1,q2,q3⟩:=h
   exact e (bh xb i).2.2 (by omega) _ h2
  skip
  with_reducible repeat' (first|refine Sp.h ?_|((first|refine Wd ?_|refine Ss.h ?_|(refine Sb.h ?_ ?_ ?_<;>(try intro hgd)<;>try exact Xy))<;>simp -implicitDefEqProofs (maxSteps:=2000000) [hP,hN,g0,g1,g4,g5,hb4,hb6,g6,g7,g8,g9]<;>try refine Ya ?_)|refine X2 ?_ ?_|(refine Xd ?_ ?_<;>intro hcd<;>try exact Xx))
  refine WP.loopN [] a.length (fun i st=>st.t 0=.pv (bn a)∧st.t 1=.pv (bn b)∧st.t 4=.ptr 4 0∧st.h 4=some (.box [.pv (Z 0),.pv (Z 0),.pv (Z 0)] true false)∧st.t 5=.pv (B false)∧st.t 6=.ptr 6 0∧st.h 6=some (.box [.pv (Z V.1),.pv (Z V.2.1),.pv (Z ((bh xa i).2.2 * b.length))] true false)∧st.t 7=.pv (bp xa)∧st.t 8=.pv (bp xb)∧st.t 9=.pv (Z 2)∧st.t 10=.pv (Z i)) ?_ ?_
  ·simp [bh,g0,g1,g4,hb4,g5,g6,hb6,g7,g8,g9]
  clear g0 g1 g4 hb4 g5 g6 hb6 g7 g8 g9
  rintro i st hi ⟨g0,g1,g4,hb4,g5,g6,hb6,g7,g8,g9,g10⟩
  by_cases hlt : i < a.length
  ·have hlx : i < xa.length:=by omega
   have hwr:=bi hlt (by omega)
   obtain ⟨p,hx⟩ : ∃ p,xa[i]?=some p:=⟨_,List.getElem?_eq_getElem hlx⟩
   have hxe : ∀ h,xa[i]'h=p:=fun h=>by rw [List.getElem?_eq_getElem h] at hx;exact Option.some.inj hx
   have hnx:=hs1 (i+1) (by omega)
   have hcu:=hs1 i (by omega)
   have hp:=dZ (List.all_eq_true.1 n1 p (List.mem_of_getElem? hx))
   obtain ⟨p1,p2,p3⟩:=hp
   have hpm:=e p.2.2 (by omega) _ h3
   have hS : (bh xa (i+1)).2.2 * (b.length : Int)=(bh xa i).2.2 * b.length+p.2.2 * b.length:=by
    rw [← Int.add_mul];simp only [bh,hx]
   rw [hS] at hnx ⊢
   have v1 : IntKind.i64.wrap (p.2.2 * b.length)=p.2.2 * b.length:=ao
   generalize (bh xa i).2.2 * (b.length : Int)=y at *
   have v2 : IntKind.i64.wrap (y+p.2.2 * b.length)=y+p.2.2 * b.length:=ao
   with_reducible repeat' (first|refine Sp.h ?_|((first|refine Wd ?_|refine Ss.h ?_|(refine Sb.h ?_ ?_ ?_<;>(try intro hgd)<;>try exact Xy))<;>simp -implicitDefEqProofs (maxSteps:=2000000) [hP,hN,g0,g1,g4,hb4,g5,g6,hb6,g7,g8,g9,g10,hlt,hlx,hwr,hx,hxe,v1,v2,wb,l1,l2]<;>try refine Ya ?_)|refine X2 ?_ ?_|(refine Xd ?_ ?_<;>intro hcd<;>try exact Xx))
  have hin : i=a.length:=by omega
  subst hin
  have hT1:=hs1 a.length (by omega)
  generalize hy : (bh xa a.length).2.2 * (b.length : Int)=Y at *
  skip
  with_reducible repeat' (first|refine Sp.h ?_|((first|refine Wd ?_|refine Ss.h ?_|(refine Sb.h ?_ ?_ ?_<;>(try intro hgd)<;>try exact Xy))<;>simp -implicitDefEqProofs (maxSteps:=2000000) [hP,hN,g0,g1,g4,g5,hb4,hb6,g6,g7,g8,g9,g10,l1,l2]<;>try refine Ya ?_)|refine X2 ?_ ?_|(refine Xd ?_ ?_<;>intro hcd<;>try exact Xx))
  refine WP.loopN [] b.length (fun i st=>st.t 0=.pv (bn a)∧st.t 1=.pv (bn b)∧st.t 4=.ptr 4 0∧st.h 4=some (.box [.pv (Z 0),.pv (Z 0),.pv (Z 0)] true false)∧st.t 5=.pv (B false)∧st.t 6=.ptr 6 0∧st.h 6=some (.box [.pv (Z V.1),.pv (Z V.2.1),.pv (Z (Y - (bh xb i).2.2 * a.length))] true false)∧st.t 7=.pv (bp xa)∧st.t 8=.pv (bp xb)∧st.t 9=.pv (Z 2)∧st.t 11=.pv (Z i)) ?_ ?_
  ·simp [bh,g0,g1,g4,hb4,g5,g6,hb6,g7,g8,g9]
  clear g0 g1 g4 hb4 g5 g6 hb6 g7 g8 g9 g10
  rintro i st hi ⟨g0,g1,g4,hb4,g5,g6,hb6,g7,g8,g9,g11⟩
  by_cases hlt : i < b.length
  ·have hlx : i < xb.length:=by omega
   have hwr:=bi hlt (by omega)
   obtain ⟨p,hx⟩ : ∃ p,xb[i]?=some p:=⟨_,List.getElem?_eq_getElem hlx⟩
   have hxe : ∀ h,xb[i]'h=p:=fun h=>by rw [List.getElem?_eq_getElem h] at hx;exact Option.some.inj hx
   have hnx:=hs2 (i+1) (by omega)
   have hcu:=hs2 i (by omega)
   have hp:=dZ (List.all_eq_true.1 n2 p (List.mem_of_getElem? hx))
   obtain ⟨p1,p2,p3⟩:=hp
   have hpm:=e p.2.2 (by omega) _ h2
   have hS : (bh xb (i+1)).2.2 * (a.length : Int)=(bh xb i).2.2 * a.length+p.2.2 * a.length:=by
    rw [← Int.add_mul];simp only [bh,hx]
   rw [hS] at hnx ⊢
   have v1 : IntKind.i64.wrap (p.2.2 * a.length)=p.2.2 * a.length:=ao
   generalize (bh xb i).2.2 * (a.length : Int)=y at *
   have v2 : IntKind.i64.wrap (Y - y - p.2.2 * a.length)=Y - (y+p.2.2 * a.length):=(ao (by omega) (by omega)).trans (by omega)
   exact Gy
  have hin : i=b.length:=by omega
  subst hin
  have hVk : Y - (bh xb b.length).2.2 * (a.length : Int)=V.2.2:=by rw [hmv,← hy]
  rw [hVk] at hb6
  skip
  with_reducible repeat' (first|refine Sp.h ?_|((first|refine Wd ?_|refine Ss.h ?_|(refine Sb.h ?_ ?_ ?_<;>(try intro hgd)<;>try exact Xy))<;>simp -implicitDefEqProofs (maxSteps:=2000000) [hP,hN,g0,g1,g4,g5,hb4,hb6,g6,g7,g8,g9,g11,l1,l2,uU]<;>try refine Ya ?_)|refine X2 ?_ ?_|(refine Xd ?_ ?_<;>intro hcd<;>try exact Xx))
 ·skip
  with_reducible repeat' (first|refine Sp.h ?_|((first|refine Wd ?_|refine Ss.h ?_|refine Sc.h (c5) ?_|(refine Sb.h ?_ ?_ ?_<;>(try intro hgd)<;>try exact Xy))<;>simp -implicitDefEqProofs (maxSteps:=2000000) [hP,hN,g0,g1,g4,hb4,g5,g6,hb6,g7,g8,g9]<;>try refine Ya ?_)|refine X2 ?_ ?_|(refine Xd ?_ ?_<;>intro hcd<;>try exact Xx))
end Go.Ab
namespace Go.Ab
open Go.Proofs
theorem ua {n : Nat} (h : n≤100000000000) (m : Nat) (hm : m≤10) : (n+m) * 24≤140737488355328:=by omega
theorem D3 {α : Type} {p : α→Bool} {l : List α} {k : Nat} {v : α} (h : l[k]?=some v) : (l.take (k+1)).filter p=(l.take k).filter p++(if p v=true then [v] else []):=by
 rw [List.take_add_one,h,List.filter_append]
 simp only [Option.toList_some,List.filter_cons,List.filter_nil]
theorem Jj (a : List aU) (ra : Int) (b : List aU) (rb : Int) (hints : List Vc) (ha : a.length≤9223372036854775807) (hb : b.length≤9223372036854775807) (hl : hints.length≤100000000000) : ah Tryz.prog 57 [.pv (bn a),.pv (Z ra),.pv (bn b),.pv (Z rb),.pv (bp hints)] [] [] (.pv (bp (kh a ra b rb hints))):=by
 have ca:=vN a ha
 have cb:=vN b hb
 have cra:=uV ra
 have crb:=uV rb
 have hcl : kh a ra b rb hints=if p9 a ra b rb then hints.filter bu++((if jP a b then [iT a b] else [])++(iS++(if bu (kg a ra b rb) then [kg a ra b rb] else []))) else []:=rfl
 have hcb : p9 a ra b rb=(aZ a && aZ b && bM ra 0 1048576 && bM rb 0 1048576):=rfl
 rw [hcl,hcb]
 cases hpa : aZ a with
 |false=>
  rw [hpa] at ca
  refine Dp Tryz.func57 ?_
  intro C hP hN
  simp only [Tryz.f57] at hN ⊢
  exact Gy
 |true=>
 rw [hpa] at ca
 cases hpb : aZ b with
 |false=>
  rw [hpb] at cb
  refine Dp Tryz.func57 ?_
  intro C hP hN
  simp only [Tryz.f57] at hN ⊢
  exact Gy
 |true=>
 rw [hpb] at cb
 cases hra : bM ra 0 1048576 with
 |false=>
  rw [hra] at cra
  refine Dp Tryz.func57 ?_
  intro C hP hN
  simp only [Tryz.f57] at hN ⊢
  exact Gy
 |true=>
 rw [hra] at cra
 cases hrb : bM rb 0 1048576 with
 |false=>
  rw [hrb] at crb
  refine Dp Tryz.func57 ?_
  intro C hP hN
  simp only [Tryz.f57] at hN ⊢
  exact Gy
 |true=>
 rw [hrb] at crb
 simp only [Bool.and_self,if_true]
 have c1:=zi a ha
 have c2:=zi b hb
 have hla:=(cJ hpa).2.1
 have hlb:=(cJ hpb).2.1
 have hca:=fv hpa
 have hcb:=fv hpb
 simp only [bM,Bool.and_eq_true,decide_eq_true_eq] at hra hrb
 have hw : IntKind.i64.wrap (ra+rb)=ra+rb:=ao
 have c3:=GC (ba a) (ba b) (ra+rb) 64 (by omega) (by omega)
 have hnn : (gO (ba a) (ba b) (ra+rb) 64).2.n=kg a ra b rb:=rfl
 rw [← hnn]
 generalize gO (ba a) (ba b) (ra+rb) 64=R at *
 have cm:=HY a b ha hb
 have cax:=Ig
 have hax : iS.length=6:=rfl
 have hok:=uH iS
 generalize iS=AX at *
 generalize ba a=xa at *
 generalize ba b=xb at *
 have cu:=vA R.2.n
 rw [ph] at cu
 have hfl : ∀ i : Nat,((hints.take i).filter bu).length≤100000000000:=fun i=>Nat.le_trans (List.length_filter_le _ _) (by rw [List.length_take];omega)
 refine Dp Tryz.func57 ?_
 intro C hP hN
 simp only [Tryz.f57] at hN ⊢
 with_reducible repeat' (first|refine Sp.h ?_|((first|refine Wh [11] ?_|refine Ss.h ?_|refine Sc.h (ca) ?_|refine Sc.h (cb) ?_|refine Sc.h (cra) ?_|refine Sc.h (crb) ?_|(refine Sb.h ?_ ?_ ?_<;>(try intro hgd)<;>try exact Xy))<;>simp -implicitDefEqProofs (maxSteps:=2000000) [hP,hN])|refine X2 ?_ ?_|(refine Xd ?_ ?_<;>intro hcd<;>try exact Xx))
 refine WP.loopN [] hints.length (fun i st=>st.t 0=.pv (bn a)∧st.t 1=.pv (Z ra)∧st.t 2=.pv (bn b)∧st.t 3=.pv (Z rb)∧st.t 4=.pv (bp hints)∧st.t 12=.pv (Z i)∧st.t 11=.arr 11 ((hints.take i).filter bu).length∧st.h 11=some (.row 51 3 (((hints.take i).filter bu).map aG) 0)∧st.h 13=none∧st.h 15=none) (by simp) ?_
 rintro i st hi ⟨g0,g1,g2,g3,g4,g12,g11,hb11,hb13,hb15⟩
 by_cases hlt : i < hints.length
 ·have hwr:=bi hlt (by omega)
  generalize hxe : hints[i]=v at *
  have hx : hints[i]?=some v:=by rw [List.getElem?_eq_getElem hlt,hxe]
  have cv:=vA v
  rw [ph] at cv
  have hs:=D3 (p:=bu) hx
  rw [hs]
  have hPl:=hfl i
  generalize (hints.take i).filter bu=P at *
  cases hu : bu v with
  |true=>
   rw [hu] at cv
   simp only [if_true]
   have k1 : (P.length+1) * 24≤140737488355328:=by omega
   have k2 : P.length≤9223372036854775806:=by omega
   skip
   exact Gy
  |false=>
   rw [hu] at cv
   simp only [Bool.false_eq_true,if_false,List.append_nil]
   exact Gy
 ·have hin : i=hints.length:=by omega
  subst hin
  rw [List.take_length] at g11 hb11
  have hPl:=hfl hints.length
  rw [List.take_length] at hPl
  generalize hints.filter bu=P at *
  have k1 : (P.length+1) * 24≤140737488355328:=by omega
  have k2 : P.length≤9223372036854775806:=by omega
  have z0 : P.length≤9223372036854775799:=Nat.le_trans hPl (by decide)
  have z1 : P.length≤9223372036854775800:=Nat.le_trans hPl (by decide)
  have z2 : P.length≤9223372036854775801:=Nat.le_trans hPl (by decide)
  have k3 : (P.length+1+1) * 24≤140737488355328:=ua hPl 2 (by decide)
  have k4 : (P.length+6) * 24≤140737488355328:=ua hPl 6 (by decide)
  have k5 : (P.length+6+1) * 24≤140737488355328:=ua hPl 7 (by decide)
  have k6 : (P.length+1+6) * 24≤140737488355328:=ua hPl 7 (by decide)
  have k7 : (P.length+1+6+1) * 24≤140737488355328:=ua hPl 8 (by decide)
  cases hmb : jP a b with
  |true=>
   rw [hmb] at cm
   generalize iT a b=m at *
   simp only [if_true]
   cases hu : bu R.2.n with
   |true=>
    rw [hu] at cu
    simp only [if_true]
    skip
    with_reducible repeat' (first|refine Sp.h ?_|((first|refine Ss.h ?_|refine Sc.h (cm) ?_|refine Sc.h (cax) ?_|refine Sc.h (c1) ?_|refine Sc.h (c2) ?_|refine Sc.h (c3) ?_|refine Sc.h (cu) ?_|(refine Sb.h ?_ ?_ ?_<;>(try intro hgd)<;>try exact Xy))<;>simp -implicitDefEqProofs (maxSteps:=2000000) [hP,hN,g0,g1,g2,g3,g4,g12,g11,hb11,hb13,hb15,k1,k2,k6,k7,hw,hax,hok,z0,z1,z2])|refine X2 ?_ ?_|(refine Xd ?_ ?_<;>intro hcd<;>try exact Xx))
   |false=>
    rw [hu] at cu
    simp only [Bool.false_eq_true,if_false]
    with_reducible repeat' (first|refine Sp.h ?_|((first|refine Ss.h ?_|refine Sc.h (cm) ?_|refine Sc.h (cax) ?_|refine Sc.h (c1) ?_|refine Sc.h (c2) ?_|refine Sc.h (c3) ?_|refine Sc.h (cu) ?_|(refine Sb.h ?_ ?_ ?_<;>(try intro hgd)<;>try exact Xy))<;>simp -implicitDefEqProofs (maxSteps:=2000000) [hP,hN,g0,g1,g2,g3,g4,g12,g11,hb11,hb13,hb15,k1,k2,k6,k7,hw,hax,hok,z0,z1,z2])|refine X2 ?_ ?_|(refine Xd ?_ ?_<;>intro hcd<;>try exact Xx))
  |false=>
   rw [hmb] at cm
   generalize iT a b=m at *
   simp only [Bool.false_eq_true,if_false]
   cases hu : bu R.2.n with
   |true=>
    rw [hu] at cu
    simp only [if_true]
    skip
    with_reducible repeat' (first|refine Sp.h ?_|((first|refine Ss.h ?_|refine Sc.h (cm) ?_|refine Sc.h (cax) ?_|refine Sc.h (c1) ?_|refine Sc.h (c2) ?_|refine Sc.h (c3) ?_|refine Sc.h (cu) ?_|(refine Sb.h ?_ ?_ ?_<;>(try intro hgd)<;>try exact Xy))<;>simp -implicitDefEqProofs (maxSteps:=2000000) [hP,hN,g0,g1,g2,g3,g4,g12,g11,hb11,hb13,hb15,k1,k2,k4,k5,hw,hax,hok,z0,z1,z2])|refine X2 ?_ ?_|(refine Xd ?_ ?_<;>intro hcd<;>try exact Xx))
   |false=>
    rw [hu] at cu
    simp only [Bool.false_eq_true,if_false]
    with_reducible repeat' (first|refine Sp.h ?_|((first|refine Ss.h ?_|refine Sc.h (cm) ?_|refine Sc.h (cax) ?_|refine Sc.h (c1) ?_|refine Sc.h (c2) ?_|refine Sc.h (c3) ?_|refine Sc.h (cu) ?_|(refine Sb.h ?_ ?_ ?_<;>(try intro hgd)<;>try exact Xy))<;>simp -implicitDefEqProofs (maxSteps:=2000000) [hP,hN,g0,g1,g2,g3,g4,g12,g11,hb11,hb13,hb15,k1,k2,k4,k5,hw,hax,hok,z0,z1,z2])|refine X2 ?_ ?_|(refine Xd ?_ ?_<;>intro hcd<;>try exact Xx))
end Go.Ab
namespace Go.Ab
open Go.Proofs
theorem Bm {js : List J} {i : Nat} {j : J} (h : dq js i j=0) : j.lo≤j.hi:=by
 unfold dq at h
 repeat' split at h
 all_goals (try (cases h;done))
 all_goals omega
theorem yw {js : List J} {ms : List Ms} (h : cY js ms=0) : ∀ (i : Nat) j,js[i]?=some j→j.lo≤j.hi:=by
 unfold cY at h
 split at h
 ·cases h
 ·split at h
  ·rename_i hne;exact absurd h hne
  ·rename_i he
   intro i j hij
   have he' : iz js=0:=by simpa using he
   rw [oI] at he'
   by_cases hz : dq js i j=0
   ·exact Bm hz
   ·exfalso
    cases hf : (js.mapIdx (dq js)).find? (fun e=>e !=0) with
    |none=>
     rw [List.find?_eq_none] at hf
     have hm : dq js i j ∈ js.mapIdx (dq js):=by
      rw [List.mem_mapIdx]
      obtain ⟨h1,h2⟩:=List.getElem?_eq_some_iff.1 hij
      exact ⟨i,h1,by rw [h2]⟩
     exact hf _ hm (by simpa using hz)
    |some e=>
     rw [hf] at he'
     have:=List.find?_some hf
     simp only at he'
     rw [he'] at this
     simp at this
def pj (js : List J) (n : Nat) : Int:=((iX js)[n]?).getD 0
theorem Ci (js : List J) : pj js 0=-1:=by
 have h:=oo (js:=js) (k:=0) js.length (Nat.zero_le _) (Nat.le_refl _) 0 (Nat.le_refl _)
 have : (iX js)[0]?=some (-1):=by rw [iX,h];rfl
 simp [pj,this]
theorem Cj {js : List J} (hj : oh js) {n : Nat} {j : J} (h : js[n]?=some j) : pj js (n+1)=if j.lo=j.hi then pj js (j.parent+1).toNat else (n : Int):=by
 have:=y7 h (hj n j h)
 simp [pj,this]
def lC (js : List J) (l : Int) (k : Nat) : Prop:=iV (fq js 11 l) k=true∧mi js k=true
theorem sV {xs : List Int} {x : Int} : iV xs x=true↔x ∈ xs:=by
 simp [iV]
theorem By (js : List J) : fq js 11 (-1)=[]:=by simp [fq]
theorem vD {js : List J} (hj : oh js) (hl : js.length≤10) {n : Nat} {j : J} (h : js[n]?=some j) (k : Nat) : lC js n k↔lC js j.parent k∨(k=n∧mi js n=true):=by
 have hlt : n < js.length:=(List.getElem?_eq_some_iff.1 h).1
 have hst:=xp hj hl (k:=n) (by omega) (by omega)
 have hp : o4 js n=j.parent:=by simp [o4,h]
 rw [hp] at hst
 simp only [lC,hst,sV,List.mem_append,List.mem_singleton]
 constructor
 ·rintro ⟨h1|h1,h2⟩
  ·exact .inl ⟨h1,h2⟩
  ·have : k=n:=by omega
   subst this;exact .inr ⟨rfl,h2⟩
 ·rintro (⟨h1,h2⟩|⟨rfl,h2⟩)
  ·exact ⟨.inl h1,h2⟩
  ·exact ⟨.inr rfl,h2⟩
theorem EY {js : List J} {n : Nat} {j : J} (h : js[n]?=some j) (hle : j.lo≤j.hi) : mi js n=!decide (j.lo=j.hi):=by
 simp only [mi,h]
 by_cases he : j.lo=j.hi
 ·simp [he]
 ·simp [he];omega
theorem xq {js : List J} (hj : oh js) (hl : js.length≤10) (hle : ∀ (i : Nat) j,js[i]?=some j→j.lo≤j.hi) : ∀ (m n : Nat),n≤m→n≤js.length→(pj js n=-1∧∀ k,¬ lC js ((n : Int) - 1) k)∨(∃ c : Nat,pj js n=c∧c < js.length∧lC js ((n : Int) - 1) c∧∀ k,lC js ((n : Int) - 1) k↔lC js c k)
 |m,0,_,_=>by
  left
  refine ⟨Ci js,fun k h=>?_⟩
  have:=h.1
  rw [show ((0 : Nat) : Int) - 1=-1 by omega,By] at this
  cases this
 |0,n+1,h,_=>by omega
 |m+1,n+1,hm,hn=>by
  have hx : js[n]?=some (js[n]'(by omega)):=List.getElem?_eq_getElem _
  generalize js[n]'(by omega)=j at hx
  have hok:=hj n j hx
  unfold uM at hok
  have hs:=Cj hj hx
  have hmv:=EY hx (hle n j hx)
  rw [show ((n+1 : Nat) : Int) - 1=(n : Int) by omega]
  by_cases he : j.lo=j.hi
  ·rw [if_pos he] at hs
   simp only [he,decide_true,Bool.not_true] at hmv
   have hiff : ∀ k,lC js n k↔lC js j.parent k:=fun k=>by
    rw [vD hj hl hx k,hmv];simp
   have ih:=xq hj hl hle m (j.parent+1).toNat (by omega) (by omega)
   rw [show (((j.parent+1).toNat : Nat) : Int) - 1=j.parent by omega,← hs] at ih
   rcases ih with ⟨h1,h2⟩|⟨c,h1,h2,h3,h4⟩
   ·exact .inl ⟨h1,fun k hk=>h2 k ((hiff k).1 hk)⟩
   ·exact .inr ⟨c,h1,h2,(hiff c).2 h3,fun k=>(hiff k).trans (h4 k)⟩
  ·rw [if_neg he] at hs
   simp only [he,decide_false,Bool.not_false] at hmv
   exact .inr ⟨n,hs,by omega,(vD hj hl hx n).2 (.inr ⟨rfl,hmv⟩),fun k=>Iff.rfl⟩
theorem xr {js : List J} (hj : oh js) : ∀ (f : Nat) (l : Int),-1≤l→l < js.length→∀ x ∈ fq js f l,0≤x∧x≤l
 |0,l,_,_,x,hx=>by cases hx
 |f+1,l,h0,h1,x,hx=>by
  rw [fq] at hx
  split at hx
  ·cases hx
  ·obtain ⟨j,_,hp,a,b⟩:=rU hj (k:=l) (by omega) h1
   rcases List.mem_append.1 hx with hx|hx
   ·have:=xr hj f (o4 js l) (by omega) (by omega) x hx;omega
   ·rw [List.mem_singleton] at hx;omega
theorem y5 {js : List J} {a b : Int} : qJ js a b=true↔∀ k,k < js.length→mi js k=true→(iV (fq js 11 a) k=iV (fq js 11 b) k):=by
 simp only [qJ,mN,List.all_eq_true,List.mem_map,List.mem_filter,List.mem_range]
 constructor
 ·intro h k hk hm
  cases hc : (iV (fq js 11 a) k !=iV (fq js 11 b) k) with
  |false=>simpa using hc
  |true=>
   have:=h (k : Int) ⟨k,⟨hk,hc⟩,rfl⟩
   rw [Int.toNat_natCast,hm] at this
   cases this
 ·rintro h x ⟨k,⟨hk,hc⟩,rfl⟩
  cases hm : mi js k with
  |false=>rw [show (Int.ofNat k).toNat=k from rfl,hm];rfl
  |true=>
   have:=h k hk hm
   simp only [Bl,this,bne_self_eq_false] at hc
   cases hc
theorem Db {js : List J} {k : Nat} (h : mi js k=true) : k < js.length:=by
 unfold mi at h
 split at h
 ·rename_i j hj;exact (List.getElem?_eq_some_iff.1 hj).1
 ·cases h
theorem Ck {js : List J} {ms : List Ms} (h0 : cY js ms=0) {a b : Int} (ha : dV js.length a=true) (hb : dV js.length b=true) : (pj js (a+1).toNat==pj js (b+1).toNat)=qJ js a b:=by
 obtain ⟨hj,hl,_⟩:=oM h0
 have hle:=yw h0
 simp only [dV,Bool.and_eq_true,decide_eq_true_eq] at ha hb
 have ca:=xq hj hl hle _ (a+1).toNat (Nat.le_refl _) (by omega)
 have cb:=xq hj hl hle _ (b+1).toNat (Nat.le_refl _) (by omega)
 rw [show (((a+1).toNat : Nat) : Int) - 1=a by omega] at ca
 rw [show (((b+1).toNat : Nat) : Int) - 1=b by omega] at cb
 have e : (pj js (a+1).toNat==pj js (b+1).toNat)=true↔qJ js a b=true:=by
  rw [y5,beq_iff_eq]
  have hR : (∀ k,k < js.length→mi js k=true→(iV (fq js 11 a) k=iV (fq js 11 b) k))↔∀ k,lC js a k↔lC js b k:=by
   constructor
   ·intro h k
    simp only [lC]
    constructor
    ·rintro ⟨h1,h2⟩;rw [h k (Db h2) h2] at h1;exact ⟨h1,h2⟩
    ·rintro ⟨h1,h2⟩;rw [← h k (Db h2) h2] at h1;exact ⟨h1,h2⟩
   ·intro h k hk hm
    have:=h k
    simp only [lC,hm,and_true] at this
    cases h1 : iV (fq js 11 a) k<;>cases h2 : iV (fq js 11 b) k<;>simp_all
  rw [hR]
  rcases ca with ⟨a1,a2⟩|⟨c,a1,a2,a3,a4⟩<;>rcases cb with ⟨b1,b2⟩|⟨d,b1,b2,b3,b4⟩<;>rw [a1,b1]
  ·exact ⟨fun _ k=>⟨fun h=>absurd h (a2 k),fun h=>absurd h (b2 k)⟩,fun _=>rfl⟩
  ·exact ⟨fun h=>by omega,fun h=>absurd ((h d).2 b3) (a2 d)⟩
  ·exact ⟨fun h=>by omega,fun h=>absurd ((h c).1 a3) (b2 c)⟩
  ·constructor
   ·intro h k
    have : c=d:=by omega
    subst this
    rw [a4,b4]
   ·intro h
    have h1:=(h c).1 a3
    have h2:=(h d).2 b3
    rw [b4] at h1
    rw [a4] at h2
    have k1:=xr hj 11 d (by omega) (by omega) c (sV.1 h1.1)
    have k2:=xr hj 11 c (by omega) (by omega) d (sV.1 h2.1)
    omega
 cases h1 : (pj js (a+1).toNat==pj js (b+1).toNat)<;>cases h2 : qJ js a b<;>simp_all
theorem Cl {s : Sce} (h0 : cD s=0) {a b : Sh} (ha : dV s.js.length a.link=true) (hb : dV s.js.length b.link=true) : we s a b=(!(a.link==b.link) && !qJ s.js a.link b.link && !iE s a.link b.link):=by
 have hr : cY s.js s.ms=0:=by
  unfold cD at h0
  split at h0
  ·rename_i h;exact absurd h0 h
  ·rename_i h;simpa using h
 have e:=Ck hr ha hb
 have hrig : uP (iX s.js) a b=qJ s.js a.link b.link:=e
 unfold we
 rw [hrig]
 by_cases he : a.link=b.link
 ·have : qJ s.js a.link b.link=true:=by
   rw [y5,he];exact fun _ _ _=>rfl
  rw [this]
  simp
 ·have : (a.link==b.link)=false:=by simp [he]
  rw [this]
  simp
theorem IP (s : Sce) (hs : ScL s) : ah Tryz.prog 56 [.pv (fh s)] [] [] (.pv (.sl ((dh s).map lX))):=by
 have cc:=Da s hs
 have csk:=fun a b=>Hb s a b hs.sks
 by_cases h0 : cD s=0
 case neg=>
  have h0' : (cD s !=0)=true:=by simp [h0]
  have hf : dh s=[]:=by simp [dh,h0]
  rw [hf]
  generalize cD s=r at *
  refine Dp Tryz.func56 ?_
  intro C hP hN
  simp only [Tryz.f56] at hN ⊢
  exact Gy
 have hr : cY s.js s.ms=0:=by
  unfold cD at h0
  split at h0
  ·rename_i h;exact absurd h0 h
  ·rename_i h;simpa using h
 obtain ⟨v1,v2,v3,v4,v5,v6,v7⟩:=kF h0
 have crg:=fun a b=>Ha s.js s.ms a b v2 hs.ms hr
 have hpb:=fun a b=>Cl h0 (a:=a) (b:=b)
 have hf : dh s=ii s s.shs.length:=by simp [dh,h0]
 rw [hf]
 rw [h0] at cc
 have nL:=rY s
 have iL:=rX s
 refine Dp Tryz.func56 ?_
 intro C hP hN
 simp only [Tryz.f56] at hN ⊢
 with_reducible repeat' (first|refine Sp.h ?_|((first|refine Wh [3] ?_|refine Wi [3] ?_|refine Ss.h ?_|refine Sc.h (cc) ?_|(refine Sb.h ?_ ?_ ?_<;>(try intro hgd)<;>try exact Xy))<;>simp -implicitDefEqProofs (maxSteps:=2000000) [hP,hN]<;>try refine Ya ?_)|refine X2 ?_ ?_|(refine Xd ?_ ?_<;>intro hcd<;>try exact Xx))
 refine WP.loopN [] s.shs.length (fun i st=>st.t 1=.ptr 1 0∧st.h 1=some (.box [.pv (.sl (s.js.map gq)),.pv (.sl (s.ms.map eG)),.pv (.sl (s.shs.map dU)),.pv (.sl (s.sks.map bF))] true false)∧st.t 4=.pv (Z i)∧st.t 3=.arr 3 (ii s i).length∧st.h 3=some (.row 107 2 ((ii s i).map lX) 0)) (by simp [ii]) ?_
 rintro i st hi ⟨g1,hb1,g4,g3,hb3⟩
 by_cases hlt : i < s.shs.length
 ·have hw:=bi hlt (by omega)
  have hlt' : (i : Int) < (s.shs.length : Int):=by omega
  generalize hxe : s.shs[i]=a at *
  have hx : s.shs[i]?=some a:=by rw [List.getElem?_eq_getElem hlt,hxe]
  have hla:=(v6 a (List.mem_of_getElem? hx)).1
  have hsucc : ii s (i+1)=ii s i++jo s i s.shs.length:=rfl
  have nLi:=nL i
  have hnn : i * s.shs.length≤24 * 24:=Nat.mul_le_mul (by omega) (by omega)
  have hI0:=uQ s i (i+1) (Nat.le_refl _)
  refine Gz ?_
  refine WP.loopN [] (s.shs.length - (i+1)) (fun q st=>st.t 1=.ptr 1 0∧st.h 1=some (.box [.pv (.sl (s.js.map gq)),.pv (.sl (s.ms.map eG)),.pv (.sl (s.shs.map dU)),.pv (.sl (s.sks.map bF))] true false)∧st.t 4=.pv (Z i)∧st.t 5=.pv (Z ((i+1+q : Nat) : Int))∧st.t 3=.arr 3 (ii s i++jo s i (i+1+q)).length∧st.h 3=some (.row 107 2 ((ii s i++jo s i (i+1+q)).map lX) 0)) (by simp [g1,hb1,g4,g3,hb3,hI0]) ?_
  clear g1 hb1 g4 g3 hb3
  rintro q st hq ⟨g1,hb1,g4,g5,g3,hb3⟩
  obtain ⟨k,hk⟩ : ∃ k,k=i+1+q:=⟨_,rfl⟩
  have hk2 : i+1+(q+1)=k+1:=by omega
  rw [← hk] at g5 g3 hb3
  rw [hk2]
  have hIk : jo s i (k+1)=jo s i k++(if i < k∧fy s i k=true then [(i,k)] else []):=rfl
  have hlk:=iL i k
  by_cases hkl : k < s.shs.length
  ·have hkl' : (k : Int) < (s.shs.length : Int):=by omega
   have hwk : IntKind.i64.wrap ((k : Int)+1)=(k : Int)+1:=ao
   generalize hye : s.shs[k]=b at *
   have hy : s.shs[k]?=some b:=by rw [List.getElem?_eq_getElem hkl,hye]
   have hlb:=(v6 b (List.mem_of_getElem? hy)).1
   have hpa : fy s i k=(!(a.link==b.link) && !qJ s.js a.link b.link && !iE s a.link b.link):=by
    simp only [fy,hx,hy];exact hpb a b hla hlb
   have cs:=csk a.link b.link
   have cg:=crg a.link b.link hla hlb
   have hik : i < k:=by omega
   have hlen : (ii s i++jo s i k).length≤1000:=by simp only [List.length_append];omega
   generalize hPdef : ii s i++jo s i k=P at *
   have hq2 : q < s.shs.length - (i+1):=by omega
   have hPs : ii s i++jo s i (k+1)=P++(if fy s i k=true then [(i,k)] else []):=by
    rw [hIk,← List.append_assoc,hPdef]
    simp [hik]
   rw [hPs]
   generalize iE s a.link b.link=sk at *
   generalize qJ s.js a.link b.link=rg at *
   by_cases hab : a.link=b.link
   ·have hpa' : fy s i k=false:=by rw [hpa,hab];simp
    rw [hpa']
    with_reducible repeat' (first|refine Sp.h ?_|((first|refine Wd ?_|refine Ss.h ?_|(refine Sb.h ?_ ?_ ?_<;>(try intro hgd)<;>try exact Xy))<;>simp -implicitDefEqProofs (maxSteps:=2000000) [hP,hN,g1,hb1,g4,g5,g3,hb3,hkl,hkl',hwk,hx,hxe,hy,hye,hab,hlt,hlt',hq2]<;>try refine Ya ?_)|refine X2 ?_ ?_|(refine Xd ?_ ?_<;>intro hcd<;>try exact Xx))
   ·have hab' : (a.link !=b.link)=true:=by simp [hab]
    have hab2 : (a.link==b.link)=false:=by simp [hab]
    rw [hab2] at hpa
    cases rg with
    |true=>
     have hpa' : fy s i k=false:=by rw [hpa];rfl
     rw [hpa']
     with_reducible repeat' (first|refine Sp.h ?_|((first|refine Wd ?_|refine Ss.h ?_|refine Sc.h (cs) ?_|refine Sc.h (cg) ?_|(refine Sb.h ?_ ?_ ?_<;>(try intro hgd)<;>try exact Xy))<;>simp -implicitDefEqProofs (maxSteps:=2000000) [hP,hN,g1,hb1,g4,g5,g3,hb3,hkl,hkl',hwk,hx,hxe,hy,hye,hab,hab',hlt,hlt',hq2]<;>try refine Ya ?_)|refine X2 ?_ ?_|(refine Xd ?_ ?_<;>intro hcd<;>try exact Xx))
    |false=>
     cases sk with
     |true=>
      have hpa' : fy s i k=false:=by rw [hpa];rfl
      rw [hpa']
      with_reducible repeat' (first|refine Sp.h ?_|((first|refine Wd ?_|refine Ss.h ?_|refine Sc.h (cs) ?_|refine Sc.h (cg) ?_|(refine Sb.h ?_ ?_ ?_<;>(try intro hgd)<;>try exact Xy))<;>simp -implicitDefEqProofs (maxSteps:=2000000) [hP,hN,g1,hb1,g4,g5,g3,hb3,hkl,hkl',hwk,hx,hxe,hy,hye,hab,hab',hlt,hlt',hq2]<;>try refine Ya ?_)|refine X2 ?_ ?_|(refine Xd ?_ ?_<;>intro hcd<;>try exact Xx))
     |false=>
      have hpa' : fy s i k=true:=by rw [hpa];rfl
      rw [hpa']
      with_reducible repeat' (first|refine Sp.h ?_|((first|refine Wd ?_|refine Ss.h ?_|refine Sc.h (cs) ?_|refine Sc.h (cg) ?_|(refine Sb.h ?_ ?_ ?_<;>(try intro hgd)<;>try exact Xy))<;>simp -implicitDefEqProofs (maxSteps:=2000000) [hP,hN,g1,hb1,g4,g5,g3,hb3,hkl,hkl',hwk,hx,hxe,hy,hye,hab,hab',hlt,hlt',hq2,show (P.length+1) * 16≤140737488355328 by omega,show P.length≤9223372036854775806 by omega]<;>try refine Ya ?_)|refine X2 ?_ ?_|(refine Xd ?_ ?_<;>intro hcd<;>try exact Xx))
  ·have hkn : k=s.shs.length:=by omega
   have hkl' : ¬ (k : Int) < (s.shs.length : Int):=by omega
   rw [hkn,← hsucc] at g3 hb3
   exact Gy
 ·have hin : i=s.shs.length:=by omega
  subst hin
  exact Gy
end Go.Ab
namespace Go.Ab
open Go.Proofs
theorem CA {α : Type} {p : α→Bool} {l : List α} {i : Nat} (h : l.findIdx? p=some i) : ∃ v,l[i]?=some v∧i < l.length∧l.find? p=some v:=by
 rw [List.findIdx?_eq_some_iff_getElem] at h
 obtain ⟨hi,h1,h2⟩:=h
 refine ⟨l[i],List.getElem?_eq_getElem hi,hi,rq (List.getElem?_eq_getElem hi) h1 fun j x hj hx=>?_⟩
 obtain ⟨hjl,rfl⟩:=List.getElem?_eq_some_iff.1 hx
 have:=h2 j hj
 simpa using this
theorem z8 {α : Type} {p : α→Bool} {l : List α} (h : l.findIdx? p=none) : l.find? p=none:=by
 rw [List.findIdx?_eq_none_iff] at h
 rw [List.find?_eq_none]
 intro x hx
 rw [h x hx];simp
theorem BI (a : List aU) (ra : Int) (b : List aU) (rb : Int) (hints : List Vc) : (kh a ra b rb hints).length≤hints.length+8:=by
 have hcl : kh a ra b rb hints=if p9 a ra b rb then hints.filter bu++((if jP a b then [iT a b] else [])++(iS++(if bu (kg a ra b rb) then [kg a ra b rb] else []))) else []:=rfl
 have hf:=List.length_filter_le bu hints
 have hax : iS.length=6:=rfl
 rw [hcl]
 split
 ·rw [List.length_append,List.length_append,List.length_append,hax]
  have h1 : (if jP a b then [iT a b] else ([] : List Vc)).length≤1:=by split<;>simp
  have h2 : (if bu (kg a ra b rb) then [kg a ra b rb] else ([] : List Vc)).length≤1:=by split<;>simp
  omega
 ·simp
theorem Jk (a : List aU) (ra : Int) (b : List aU) (rb : Int) (hints : List Vc) (ha : a.length≤9223372036854775807) (hb : b.length≤9223372036854775807) (hl : hints.length≤100000000000) : ah Tryz.prog 29 [.pv (bn a),.pv (Z ra),.pv (bn b),.pv (Z rb),.pv (bp hints)] [] [] (.pv (.tup [aG (kr a ra b rb hints).1,B (kr a ra b rb hints).2])):=by
 have c1:=Jj a ra b rb hints ha hb hl
 have hlen:=BI a ra b rb hints
 have hfr : kr a ra b rb hints=match (kh a ra b rb hints).find? (fun n=>gT n a ra b rb) with
  |some n=>(n,true)
  |none=>((0,0,0),false):=rfl
 have c2:=Jq (kh a ra b rb hints) a ra b rb (by omega) ha hb
 generalize kh a ra b rb hints=CL at *
 cases hfi : CL.findIdx? (fun n=>gT n a ra b rb) with
 |none=>
  rw [z8 hfi] at hfr
  rw [hfi] at c2
  simp only at hfr c2
  rw [hfr]
  refine Dp Tryz.func29 ?_
  intro C hP hN
  simp only [Tryz.f29] at hN ⊢
  exact Gy
 |some i=>
  obtain ⟨v,hx,hlt,hf⟩:=CA hfi
  rw [hf] at hfr
  rw [hfi] at c2
  simp only at hfr c2
  have hxe : ∀ h,CL[i]'h=v:=fun h=>by rw [List.getElem?_eq_getElem h] at hx;exact Option.some.inj hx
  rw [hfr]
  refine Dp Tryz.func29 ?_
  intro C hP hN
  simp only [Tryz.f29] at hN ⊢
  exact Gy
abbrev De (p : List aU) (r : Int) : PV:=.agg [bn p,Z r]
def sI (SH : List Sh) (PT : List (List aU)) (p : Nat × Nat) : PV:=De (da PT p.1) (cT SH p.1)
def sJ (SH : List Sh) (PT : List (List aU)) (p : Nat × Nat) : PV:=De (da PT p.2) (cT SH p.2)
abbrev xJ (s : Sce) (bx : List Iv) : PV:=.sl ((dh s).map (sI s.shs (dG s bx)))
abbrev xL (s : Sce) (bx : List Iv) : PV:=.sl ((dh s).map (sJ s.shs (dG s bx)))
theorem zg {α β : Type} (f : α→β) {l : List α} {k : Nat} {v : α} (h : l[k]?=some v) : (l.take (k+1)).map f=(l.take k).map f++[f v]:=by
 rw [List.take_add_one,h,List.map_append];rfl
theorem BJ {α β : Type} (f : α→β) {l : List α} {k : Nat} (h : k≤l.length) : ((l.take k).map f).length=k:=by
 rw [List.length_map,List.length_take];omega
theorem Jm (s : Sce) (bx : List Iv) (hs : ScL s) (hbl : bx.length≤9223372036854775807) : ah Tryz.prog 28 [.pv (fh s),.pv (iv bx)] [] [] (.pv (.tup (if eL s bx then [xJ s bx,xL s bx,B true] else [.sl [],.sl [],B false]))):=by
 have cc:=Da s hs
 have ci:=FG s.js s.ms bx hs.js hbl
 have hd : eL s bx=(decide (cD s=0) && iF s.js bx):=rfl
 by_cases h0 : cD s=0
 case neg=>
  have h0' : (cD s !=0)=true:=by simp [h0]
  rw [decide_eq_false h0,Bool.false_and] at hd
  rw [hd]
  refine Dp Tryz.func28 ?_
  intro C hP hN
  simp only [Tryz.f28] at hN ⊢
  exact Gy
 have h0' : (cD s !=0)=false:=by simp [h0]
 rw [decide_eq_true h0,Bool.true_and] at hd
 cases hbx : iF s.js bx with
 |false=>
  rw [hbx] at hd ci
  rw [hd]
  refine Dp Tryz.func28 ?_
  intro C hP hN
  simp only [Tryz.f28] at hN ⊢
  exact Gy
 |true=>
 have cp:=Jp s bx hs h0 hbx
 have cr:=IP s hs
 rw [hbx] at hd ci
 have hb:=uG hd
 rw [hd]
 simp only [xJ,xL,if_true]
 have hfew:=hb.few
 generalize dh s=PR at *
 generalize dG s bx=PT at *
 obtain ⟨js,ms,SH,sks⟩:=s
 simp only at *
 refine Dp Tryz.func28 ?_
 intro C hP hN
 simp only [Tryz.f28] at hN ⊢
 with_reducible repeat' (first|refine Sp.h ?_|((first|refine Wh [8,9] ?_|refine Wi [8,9] ?_|refine Ss.h ?_|refine Sc.h (cc) ?_|refine Sc.h (ci) ?_|refine Sc.h (cp) ?_|refine Sc.h (cr) ?_|(refine Sb.h ?_ ?_ ?_<;>(try intro hgd)<;>try exact Xy))<;>simp -implicitDefEqProofs (maxSteps:=2000000) [hP,hN,h0,h0']<;>try refine Ya ?_)|refine X2 ?_ ?_|(refine Xd ?_ ?_<;>intro hcd<;>try exact Xx))
 refine WP.loopN [] PR.length (fun i st=>st.t 2=.ptr 2 0∧st.h 2=some (.box [.pv (.sl (js.map gq)),.pv (.sl (ms.map eG)),.pv (.sl (SH.map dU)),.pv (.sl (sks.map bF))] true false)∧st.t 7=.pv (.sl (PT.map bn))∧st.t 8=.arr 8 i∧st.h 8=some (.row 92 2 ((PR.take i).map (sI SH PT)) 0)∧st.t 9=.arr 9 i∧st.h 9=some (.row 92 2 ((PR.take i).map (sJ SH PT)) 0)∧st.t 10=.pv (.sl (PR.map lX))∧st.t 11=.pv (Z i)) (by simp) ?_
 rintro k st hi ⟨g2,hb2,g7,g8,hb8,g9,hb9,g10,g11⟩
 by_cases hlt : k < PR.length
 ·have hwr:=bi hlt (by omega)
  obtain ⟨p,hp⟩ : ∃ p,PR[k]?=some p:=⟨_,List.getElem?_eq_getElem hlt⟩
  have eA:=zg (sI SH PT) hp
  have eB:=zg (sJ SH PT) hp
  have zA:=BJ (sI SH PT) (Nat.le_of_lt hlt)
  have zB:=BJ (sJ SH PT) (Nat.le_of_lt hlt)
  rw [eA,eB]
  generalize (PR.take k).map (sI SH PT)=RA at *
  generalize (PR.take k).map (sJ SH PT)=RB at *
  clear eA eB
  obtain ⟨hlt',hpe⟩:=List.getElem?_eq_some_iff.1 hp
  obtain ⟨i,j⟩:=p
  have hpr:=hb.prs _ (List.mem_of_getElem? hp)
  simp only at hpr
  have hl:=hb.len
  have hxk : ∀ h,PR[k]'h=(i,j):=fun _=>hpe
  have i1 : i < PT.length:=by omega
  have j1 : j < PT.length:=by omega
  obtain ⟨a,ha⟩ : ∃ x,PT[i]?=some x:=⟨_,List.getElem?_eq_getElem i1⟩
  obtain ⟨b,hb'⟩ : ∃ x,PT[j]?=some x:=⟨_,List.getElem?_eq_getElem j1⟩
  obtain ⟨u,hu⟩ : ∃ x,SH[i]?=some x:=⟨_,List.getElem?_eq_getElem hpr.1⟩
  obtain ⟨v,hv⟩ : ∃ x,SH[j]?=some x:=⟨_,List.getElem?_eq_getElem hpr.2⟩
  have hxa : ∀ h,PT[i]'h=a:=fun h=>by rw [List.getElem?_eq_getElem h] at ha;exact Option.some.inj ha
  have hxb : ∀ h,PT[j]'h=b:=fun h=>by rw [List.getElem?_eq_getElem h] at hb';exact Option.some.inj hb'
  have hxu : ∀ h,SH[i]'h=u:=fun h=>by rw [List.getElem?_eq_getElem h] at hu;exact Option.some.inj hu
  have hxv : ∀ h,SH[j]'h=v:=fun h=>by rw [List.getElem?_eq_getElem h] at hv;exact Option.some.inj hv
  have e1 : sI SH PT (i,j)=.agg [bn a,Z u.rad]:=by simp [sI,da,cT,ha,hu]
  have e2 : sJ SH PT (i,j)=.agg [bn b,Z v.rad]:=by simp [sJ,da,cT,hb',hv]
  rw [e1,e2]
  obtain ⟨h1,h2⟩:=hpr
  have k1 : (k+1) * 32≤140737488355328:=by omega
  have k2 : k≤9223372036854775806:=by omega
  skip
  exact Gy
 ·have hin : k=PR.length:=by omega
  subst hin
  rw [List.take_length] at hb8 hb9
  exact Gy
end Go.Ab
namespace Go.Ab
open Go.Proofs
theorem D4 (hints : List Vc) (i : Nat) (hi : i < hints.length) (z : Option Value) (e n : Nat) (y : Option Value) : i4 { size:=n,zero:=z,kind:=TK.slice e 3 24 y } (.pv (bp hints)) (some (.pv (.val (.int .i64 (i : Int))))) (some (.pv (.val (.int .i64 ((i : Int)+1)))))=some (.pv (bp (iC hints i))):=by
 have h1 : (0 : Int)≤(i : Int):=by omega
 have h2 : (0 : Int)≤(i : Int)+1:=by omega
 have h3 : ((i : Int)).toNat=i:=by omega
 have h4 : ((i : Int)+1).toNat=i+1:=by omega
 simp only [i4,if_pos h1,if_pos h2,h3,h4,List.length_map]
 rw [if_pos ⟨by omega,by omega,by decide,uH hints⟩]
 congr 3
 rw [← List.map_take,← List.map_drop]
 congr 1
 unfold iC
 rw [List.drop_take,show i+1 - i=1 by omega]
theorem z9 {hints : List Vc} {i : Nat} (h : ¬ i < hints.length) : iC hints i=[]:=by
 unfold iC
 rw [List.drop_eq_nil_of_le (by omega)];rfl
theorem Fr {SH : List Sh} {PR : List (Nat × Nat)} {PT : List (List aU)} {i : Nat} {p : Nat × Nat} (h : PR[i]?=some p) : (PR.map (sI SH PT))[i]?=some (.agg [bn (da PT p.1),Z (cT SH p.1)]):=by
 rw [List.getElem?_map,h];rfl
theorem Fs {SH : List Sh} {PR : List (Nat × Nat)} {PT : List (List aU)} {i : Nat} {p : Nat × Nat} (h : PR[i]?=some p) : (PR.map (sJ SH PT))[i]?=some (.agg [bn (da PT p.2),Z (cT SH p.2)]):=by
 rw [List.getElem?_map,h];rfl
def rF (ap : Bool) : Int:=if ap then 1 else 0
def GD (FN : List PV) (kd : Int) (i : Nat) (h : Hp) : Prop:=(i=0∧h 10=some (.box [.pv (Z kd),.pv (.val (.slice none 0 0)),.pv (Z 0),.pv (.val (.slice none 0 0)),.pv (.val (.slice none 0 0))] true false)∧h 71=none)∨(0 < i∧h 10=some (.box [.pv (Z kd),.arr 71 i,.pv (Z 0),.pv (.val (.slice none 0 0)),.pv (.val (.slice none 0 0))] true false)∧h 71=some (.row 51 3 (FN.take i) 0))
def GE (SH : List Sh) (PR : List (Nat × Nat)) (PT : List (List aU)) (hints : List Vc) (FN : List PV) (RES : Vd) (i : Nat) (h : Hp) : Prop:=∃ ap,iU SH PR PT hints (PR.length - i) i ap=RES∧GD FN (rF ap) i h
theorem m8 {SH : List Sh} {PR : List (Nat × Nat)} {PT : List (List aU)} {hints : List Vc} {FN : List PV} {RES : Vd} {i : Nat} {h : Hp} (ap : Bool) (h1 : iU SH PR PT hints (PR.length - i) i ap=RES) (h2 : GD FN (rF ap) i h) : GE SH PR PT hints FN RES i h:=⟨ap,h1,h2⟩
set_option maxRecDepth 20000 in
theorem d9 (s : Sce) (bx : List Iv) (hints : List Vc) (hs : ScL s) (hbl : bx.length≤9223372036854775807) (hh : hints.length≤9223372036854775807) : ah Tryz.prog 9 [.pv (fh s),.pv (iv bx),.pv (bp hints)] [] [] (.pv (qa (gm s bx hints))):=by
 have cp:=Jm s bx hs hbl
 have hd : gm s bx hints=if eL s bx then iU s.shs (dh s) (dG s bx) hints (dh s).length 0 true else ⟨0,[],⟨0,[],[]⟩⟩:=rfl
 cases hp : eL s bx with
 |false=>
  rw [hp] at cp hd
  simp only [Bool.false_eq_true,if_false] at cp hd
  rw [hd]
  refine Dp Tryz.func9 ?_
  intro C hP hN
  simp only [Tryz.f9] at hN ⊢
  with_reducible repeat' (first|refine Sp.h ?_|((first|refine Wd ?_|refine Ss.h ?_|refine Sc.h (cp) ?_|(refine Sb.h ?_ ?_ ?_<;>(try intro hgd)<;>try exact Xy))<;>simp -implicitDefEqProofs (maxSteps:=2000000) [hP,hN]<;>try refine Ya ?_)|refine X2 ?_ ?_|(refine Xd ?_ ?_<;>intro hcd<;>try exact Xx))
 |true=>
 rw [hp] at cp hd
 simp only [if_true] at cp hd
 have hb:=uG hp
 have hrd:=yP hp
 rw [hd]
 simp only [xJ,xL] at cp
 generalize dh s=PR at *
 generalize dG s bx=PT at *
 generalize s.shs=SH at *
 have hfew:=hb.few
 generalize hgo : iU SH PR PT hints PR.length 0 true=RES at *
 generalize hFN : (fa SH PR PT hints).map aG=FN
 have hFl : FN.length=PR.length:=by rw [← hFN];simp [fa]
 have hFk : ∀ k p,PR[k]?=some p→FN[k]?=some (aG (ru SH PT hints k p).1):=fun k q hk=>by rw [← hFN,fa,List.getElem?_map,List.getElem?_mapIdx,hk];rfl
 have hAt:=fun (i : Nat) (p : Nat × Nat) (h : PR[i]?=some p)=>Fr (SH:=SH) (PT:=PT) h
 have hBt:=fun (i : Nat) (p : Nat × Nat) (h : PR[i]?=some p)=>Fs (SH:=SH) (PT:=PT) h
 have hLA : (PR.map (sI SH PT)).length=PR.length:=by simp
 have hLB : (PR.map (sJ SH PT)).length=PR.length:=by simp
 generalize PR.map (sI SH PT)=LA at *
 generalize PR.map (sJ SH PT)=LB at *
 refine Dp Tryz.func9 ?_
 intro C hP hN
 simp only [Tryz.f9] at hN ⊢
 with_reducible repeat' (first|refine Sp.h ?_|((first|refine Wd ?_|refine Ss.h ?_|refine Sc.h (cp) ?_|(refine Sb.h ?_ ?_ ?_<;>(try intro hgd)<;>try exact Xy))<;>simp -implicitDefEqProofs (maxSteps:=2000000) [hP,hN,hLA,hLB]<;>try refine Ya ?_)|refine X2 ?_ ?_|(refine Xd ?_ ?_<;>intro hcd<;>try exact Xx))
 refine WP.loopN [13,15] PR.length (fun i st=>st.t 2=.pv (bp hints)∧st.t 6=.ptr 6 0∧st.h 6=some (.box [.pv (Z 0),.pv (.val (.slice none 0 0)),.pv (Z 0),.pv (.val (.slice none 0 0)),.pv (.val (.slice none 0 0))] true false)∧st.t 7=.pv (.sl LA)∧st.t 8=.pv (.sl LB)∧st.t 10=.ptr 10 0∧st.t 11=.pv (Z i)∧st.h 13=none∧st.h 15=none∧GE SH PR PT hints FN RES i st.h) ?_ ?_
 ·simp
  exact m8 true hgo (.inl ⟨rfl,by simp [rF],by simp⟩)
 rintro i st hi ⟨g2,g6,hb6,g7,g8,g10,g11,hb13,hb15,ap,hgo,hN71⟩
 by_cases hlt : i < PR.length
 ·have hwr:=bi hlt (by omega)
  have hlt' : (i : Int) < (PR.length : Int):=by omega
  obtain ⟨p,hp⟩ : ∃ p,PR[i]?=some p:=⟨_,List.getElem?_eq_getElem hlt⟩
  have hA:=hAt i p hp
  have hB:=hBt i p hp
  have hAe : ∀ h,LA[i]'h=.agg [bn (da PT p.1),Z (cT SH p.1)]:=fun h=>by rw [List.getElem?_eq_getElem h] at hA;exact Option.some.inj hA
  have hBe : ∀ h,LB[i]'h=.agg [bn (da PT p.2),Z (cT SH p.2)]:=fun h=>by rw [List.getElem?_eq_getElem h] at hB;exact Option.some.inj hB
  have r1:=hrd p.1
  have r2:=hrd p.2
  have l1:=qb hb p.1
  have l2:=qb hb p.2
  have cf:=Jk (da PT p.1) (cT SH p.1) (da PT p.2) (cT SH p.2) (iC hints i) (by omega) (by omega) (by simp [iC];omega)
  have hfd : ru SH PT hints i p=kr (da PT p.1) (cT SH p.1) (da PT p.2) (cT SH p.2) (iC hints i):=rfl
  rw [← hfd] at cf
  rw [show PR.length - i=(PR.length - i - 1)+1 by omega] at hgo
  simp only [iU,hp] at hgo
  have hMi:=hFk i p hp
  generalize ru SH PT hints i p=F at *
  have hts : FN.take (i+1)=FN.take i++[aG F.1]:=by rw [List.take_add_one,hMi];rfl
  have hz0 : (FN.take i).length=i:=by rw [List.length_take];omega
  have hz1 : i≤FN.length:=by omega
  have c1:=zi (da PT p.1) (by omega)
  have c2:=zi (da PT p.2) (by omega)
  have z1:=lh l1
  have z2:=lh l2
  have c3:=GC (ba (da PT p.1)) (ba (da PT p.2)) (cT SH p.1+cT SH p.2) 64 (by omega) (by omega)
  have hNd : rv SH PT p=gO (ba (da PT p.1)) (ba (da PT p.2)) (cT SH p.1+cT SH p.2) 64:=rfl
  have hln:=rx (ba (da PT p.1)) (ba (da PT p.2)) (cT SH p.1+cT SH p.2) 64
  rw [← hNd] at c3 hln
  have hw : IntKind.i64.wrap (cT SH p.1+cT SH p.2)=cT SH p.1+cT SH p.2:=ao
  generalize rv SH PT p=NN at *
  have co:=Ji NN.2.w NN.2.v (da PT p.1) (cT SH p.1) (da PT p.2) (cT SH p.2) (by omega) (by omega) (by omega) (by omega)
  have hod : mJ SH PT NN.2.w NN.2.v p=(kw NN.2.w NN.2.v (da PT p.1) (cT SH p.1) (da PT p.2) (cT SH p.2) && decide (0≤jb NN.2.w NN.2.v (da PT p.1) (cT SH p.1) (da PT p.2) (cT SH p.2))):=rfl
  rw [← hod] at co
  have k1 : (i+1) * 24≤140737488355328:=by omega
  have k2 : i≤9223372036854775806:=by omega
  clear hFk hFN hAt hBt
  by_cases hil : i < hints.length
  ·have hsl:=D4 hints i hil
   have hlt2 : (i : Int) < (hints.length : Int):=by omega
   rcases hN71 with ⟨hi0,hb10,hb71⟩|⟨hi0,hb10,hb71⟩
   ·have hz2 : FN.take i=[]:=by rw [hi0];rfl
    rw [hz2,List.nil_append] at hts
    cases hF2 : F.2 with
    |true=>
     rw [hF2] at cf hgo
     simp only [if_true] at hgo
     with_reducible repeat' (first|refine Sp.h ?_|((first|refine Wd ?_|refine Ss.h ?_|refine Sc.h (cf) ?_|(refine Sb.h ?_ ?_ ?_<;>(try intro hgd)<;>try exact Xy))<;>simp -implicitDefEqProofs (maxSteps:=2000000) [hP,hN,g2,g6,hb6,g7,g8,g10,g11,hb13,hb15,hb10,hb71,hil,hlt2,hlt,hlt',hwr,hA,hAe,hB,hBe,hLA,hLB,hsl,hz0,hz1,k1,k2]<;>try refine Ya ?_)|refine X2 ?_ ?_|(refine Xd ?_ ?_<;>intro hcd<;>try exact Xx))
     rw [show PR.length - i - 1=PR.length - (i+1) by omega] at hgo
     all_goals exact m8 ap hgo (.inr ⟨by omega,by simp [hi0],by simp [hts]⟩)
    |false=>
     rw [hF2] at cf hgo
     simp only [Bool.false_eq_true,if_false] at hgo
     cases hov : mJ SH PT NN.2.w NN.2.v p with
     |true=>
      rw [hov] at co hgo
      simp only [if_true] at hgo
      subst hgo
      with_reducible repeat' (first|refine Sp.h ?_|((first|refine Wd ?_|refine Ss.h ?_|refine Sc.h (cf) ?_|refine Sc.h (c1) ?_|refine Sc.h (c2) ?_|refine Sc.h (c3) ?_|refine Sc.h (co) ?_|(refine Sb.h ?_ ?_ ?_<;>(try intro hgd)<;>try exact Xy))<;>simp -implicitDefEqProofs (maxSteps:=2000000) [hP,hN,g2,g6,hb6,g7,g8,g10,g11,hb13,hb15,hb10,hb71,hil,hlt2,hlt,hlt',hwr,hA,hAe,hB,hBe,hLA,hLB,hsl,hz0,hz1,k1,k2,hw]<;>try refine Ya ?_)|refine X2 ?_ ?_|(refine Xd ?_ ?_<;>intro hcd<;>try exact Xx))
     |false=>
      rw [hov] at co hgo
      simp only [Bool.false_eq_true,if_false] at hgo
      rw [show PR.length - i - 1=PR.length - (i+1) by omega] at hgo
      with_reducible repeat' (first|refine Sp.h ?_|((first|refine Wd ?_|refine Ss.h ?_|refine Sc.h (cf) ?_|refine Sc.h (c1) ?_|refine Sc.h (c2) ?_|refine Sc.h (c3) ?_|refine Sc.h (co) ?_|(refine Sb.h ?_ ?_ ?_<;>(try intro hgd)<;>try exact Xy))<;>simp -implicitDefEqProofs (maxSteps:=2000000) [hP,hN,g2,g6,hb6,g7,g8,g10,g11,hb13,hb15,hb10,hb71,hil,hlt2,hlt,hlt',hwr,hA,hAe,hB,hBe,hLA,hLB,hsl,hz0,hz1,k1,k2,hw]<;>try refine Ya ?_)|refine X2 ?_ ?_|(refine Xd ?_ ?_<;>intro hcd<;>try exact Xx))
      all_goals exact m8 false hgo (.inr ⟨by omega,by simp [rF,hi0],by simp [hts]⟩)
   ·have hz2 : 0 < i:=hi0
    cases hF2 : F.2 with
    |true=>
     rw [hF2] at cf hgo
     simp only [if_true] at hgo
     with_reducible repeat' (first|refine Sp.h ?_|((first|refine Wd ?_|refine Ss.h ?_|refine Sc.h (cf) ?_|(refine Sb.h ?_ ?_ ?_<;>(try intro hgd)<;>try exact Xy))<;>simp -implicitDefEqProofs (maxSteps:=2000000) [hP,hN,g2,g6,hb6,g7,g8,g10,g11,hb13,hb15,hb10,hb71,hil,hlt2,hlt,hlt',hwr,hA,hAe,hB,hBe,hLA,hLB,hsl,hz0,hz1,k1,k2]<;>try refine Ya ?_)|refine X2 ?_ ?_|(refine Xd ?_ ?_<;>intro hcd<;>try exact Xx))
     rw [show PR.length - i - 1=PR.length - (i+1) by omega] at hgo
     all_goals exact m8 ap hgo (.inr ⟨by omega,by simp [hi0],by simp [hts]⟩)
    |false=>
     rw [hF2] at cf hgo
     simp only [Bool.false_eq_true,if_false] at hgo
     cases hov : mJ SH PT NN.2.w NN.2.v p with
     |true=>
      rw [hov] at co hgo
      simp only [if_true] at hgo
      subst hgo
      with_reducible repeat' (first|refine Sp.h ?_|((first|refine Wd ?_|refine Ss.h ?_|refine Sc.h (cf) ?_|refine Sc.h (c1) ?_|refine Sc.h (c2) ?_|refine Sc.h (c3) ?_|refine Sc.h (co) ?_|(refine Sb.h ?_ ?_ ?_<;>(try intro hgd)<;>try exact Xy))<;>simp -implicitDefEqProofs (maxSteps:=2000000) [hP,hN,g2,g6,hb6,g7,g8,g10,g11,hb13,hb15,hb10,hb71,hil,hlt2,hlt,hlt',hwr,hA,hAe,hB,hBe,hLA,hLB,hsl,hz0,hz1,k1,k2,hw]<;>try refine Ya ?_)|refine X2 ?_ ?_|(refine Xd ?_ ?_<;>intro hcd<;>try exact Xx))
     |false=>
      rw [hov] at co hgo
      simp only [Bool.false_eq_true,if_false] at hgo
      rw [show PR.length - i - 1=PR.length - (i+1) by omega] at hgo
      with_reducible repeat' (first|refine Sp.h ?_|((first|refine Wd ?_|refine Ss.h ?_|refine Sc.h (cf) ?_|refine Sc.h (c1) ?_|refine Sc.h (c2) ?_|refine Sc.h (c3) ?_|refine Sc.h (co) ?_|(refine Sb.h ?_ ?_ ?_<;>(try intro hgd)<;>try exact Xy))<;>simp -implicitDefEqProofs (maxSteps:=2000000) [hP,hN,g2,g6,hb6,g7,g8,g10,g11,hb13,hb15,hb10,hb71,hil,hlt2,hlt,hlt',hwr,hA,hAe,hB,hBe,hLA,hLB,hsl,hz0,hz1,k1,k2,hw]<;>try refine Ya ?_)|refine X2 ?_ ?_|(refine Xd ?_ ?_<;>intro hcd<;>try exact Xx))
      all_goals exact m8 false hgo (.inr ⟨by omega,by simp [rF,hi0],by simp [hts]⟩)
  ·have hsl : ¬ (i : Int) < (hints.length : Int):=by omega
   rw [z9 hil] at cf
   simp only [bp,List.map_nil] at cf
   rcases hN71 with ⟨hi0,hb10,hb71⟩|⟨hi0,hb10,hb71⟩
   ·have hz2 : FN.take i=[]:=by rw [hi0];rfl
    rw [hz2,List.nil_append] at hts
    cases hF2 : F.2 with
    |true=>
     rw [hF2] at cf hgo
     simp only [if_true] at hgo
     with_reducible repeat' (first|refine Sp.h ?_|((first|refine Wd ?_|refine Ss.h ?_|refine Sc.h (cf) ?_|(refine Sb.h ?_ ?_ ?_<;>(try intro hgd)<;>try exact Xy))<;>simp -implicitDefEqProofs (maxSteps:=2000000) [hP,hN,g2,g6,hb6,g7,g8,g10,g11,hb13,hb15,hb10,hb71,hil,hlt,hlt',hwr,hA,hAe,hB,hBe,hLA,hLB,hsl,hz0,hz1,k1,k2]<;>try refine Ya ?_)|refine X2 ?_ ?_|(refine Xd ?_ ?_<;>intro hcd<;>try exact Xx))
     rw [show PR.length - i - 1=PR.length - (i+1) by omega] at hgo
     all_goals exact m8 ap hgo (.inr ⟨by omega,by simp [hi0],by simp [hts]⟩)
    |false=>
     rw [hF2] at cf hgo
     simp only [Bool.false_eq_true,if_false] at hgo
     cases hov : mJ SH PT NN.2.w NN.2.v p with
     |true=>
      rw [hov] at co hgo
      simp only [if_true] at hgo
      subst hgo
      with_reducible repeat' (first|refine Sp.h ?_|((first|refine Wd ?_|refine Ss.h ?_|refine Sc.h (cf) ?_|refine Sc.h (c1) ?_|refine Sc.h (c2) ?_|refine Sc.h (c3) ?_|refine Sc.h (co) ?_|(refine Sb.h ?_ ?_ ?_<;>(try intro hgd)<;>try exact Xy))<;>simp -implicitDefEqProofs (maxSteps:=2000000) [hP,hN,g2,g6,hb6,g7,g8,g10,g11,hb13,hb15,hb10,hb71,hil,hlt,hlt',hwr,hA,hAe,hB,hBe,hLA,hLB,hsl,hz0,hz1,k1,k2,hw]<;>try refine Ya ?_)|refine X2 ?_ ?_|(refine Xd ?_ ?_<;>intro hcd<;>try exact Xx))
     |false=>
      rw [hov] at co hgo
      simp only [Bool.false_eq_true,if_false] at hgo
      rw [show PR.length - i - 1=PR.length - (i+1) by omega] at hgo
      with_reducible repeat' (first|refine Sp.h ?_|((first|refine Wd ?_|refine Ss.h ?_|refine Sc.h (cf) ?_|refine Sc.h (c1) ?_|refine Sc.h (c2) ?_|refine Sc.h (c3) ?_|refine Sc.h (co) ?_|(refine Sb.h ?_ ?_ ?_<;>(try intro hgd)<;>try exact Xy))<;>simp -implicitDefEqProofs (maxSteps:=2000000) [hP,hN,g2,g6,hb6,g7,g8,g10,g11,hb13,hb15,hb10,hb71,hil,hlt,hlt',hwr,hA,hAe,hB,hBe,hLA,hLB,hsl,hz0,hz1,k1,k2,hw]<;>try refine Ya ?_)|refine X2 ?_ ?_|(refine Xd ?_ ?_<;>intro hcd<;>try exact Xx))
      all_goals exact m8 false hgo (.inr ⟨by omega,by simp [rF,hi0],by simp [hts]⟩)
   ·have hz2 : 0 < i:=hi0
    cases hF2 : F.2 with
    |true=>
     rw [hF2] at cf hgo
     simp only [if_true] at hgo
     with_reducible repeat' (first|refine Sp.h ?_|((first|refine Wd ?_|refine Ss.h ?_|refine Sc.h (cf) ?_|(refine Sb.h ?_ ?_ ?_<;>(try intro hgd)<;>try exact Xy))<;>simp -implicitDefEqProofs (maxSteps:=2000000) [hP,hN,g2,g6,hb6,g7,g8,g10,g11,hb13,hb15,hb10,hb71,hil,hlt,hlt',hwr,hA,hAe,hB,hBe,hLA,hLB,hsl,hz0,hz1,k1,k2]<;>try refine Ya ?_)|refine X2 ?_ ?_|(refine Xd ?_ ?_<;>intro hcd<;>try exact Xx))
     rw [show PR.length - i - 1=PR.length - (i+1) by omega] at hgo
     all_goals exact m8 ap hgo (.inr ⟨by omega,by simp [hi0],by simp [hts]⟩)
    |false=>
     rw [hF2] at cf hgo
     simp only [Bool.false_eq_true,if_false] at hgo
     cases hov : mJ SH PT NN.2.w NN.2.v p with
     |true=>
      rw [hov] at co hgo
      simp only [if_true] at hgo
      subst hgo
      with_reducible repeat' (first|refine Sp.h ?_|((first|refine Wd ?_|refine Ss.h ?_|refine Sc.h (cf) ?_|refine Sc.h (c1) ?_|refine Sc.h (c2) ?_|refine Sc.h (c3) ?_|refine Sc.h (co) ?_|(refine Sb.h ?_ ?_ ?_<;>(try intro hgd)<;>try exact Xy))<;>simp -implicitDefEqProofs (maxSteps:=2000000) [hP,hN,g2,g6,hb6,g7,g8,g10,g11,hb13,hb15,hb10,hb71,hil,hlt,hlt',hwr,hA,hAe,hB,hBe,hLA,hLB,hsl,hz0,hz1,k1,k2,hw]<;>try refine Ya ?_)|refine X2 ?_ ?_|(refine Xd ?_ ?_<;>intro hcd<;>try exact Xx))
     |false=>
      rw [hov] at co hgo
      simp only [Bool.false_eq_true,if_false] at hgo
      rw [show PR.length - i - 1=PR.length - (i+1) by omega] at hgo
      with_reducible repeat' (first|refine Sp.h ?_|((first|refine Wd ?_|refine Ss.h ?_|refine Sc.h (cf) ?_|refine Sc.h (c1) ?_|refine Sc.h (c2) ?_|refine Sc.h (c3) ?_|refine Sc.h (co) ?_|(refine Sb.h ?_ ?_ ?_<;>(try intro hgd)<;>try exact Xy))<;>simp -implicitDefEqProofs (maxSteps:=2000000) [hP,hN,g2,g6,hb6,g7,g8,g10,g11,hb13,hb15,hb10,hb71,hil,hlt,hlt',hwr,hA,hAe,hB,hBe,hLA,hLB,hsl,hz0,hz1,k1,k2,hw]<;>try refine Ya ?_)|refine X2 ?_ ?_|(refine Xd ?_ ?_<;>intro hcd<;>try exact Xx))
      all_goals exact m8 false hgo (.inr ⟨by omega,by simp [rF,hi0],by simp [hts]⟩)
 ·have hin : i=PR.length:=by omega
  subst hin
  rw [Nat.sub_self] at hgo
  simp only [iU] at hgo
  have hBL : (fa SH PR PT hints).length=PR.length:=by simp [fa]
  rcases hN71 with ⟨hi0,hb10,hb71⟩|⟨hi0,hb10,hb71⟩
  ·have hz2 : fa SH PR PT hints=[]:=List.eq_nil_of_length_eq_zero (by omega)
   rw [hz2] at hgo
   cases ap with
   |true=>
    simp only [if_true] at hgo
    subst hgo
    simp only [rF,if_true] at hb10
    with_reducible repeat' (first|refine Sp.h ?_|((first|refine Wd ?_|refine Ss.h ?_|(refine Sb.h ?_ ?_ ?_<;>(try intro hgd)<;>try exact Xy))<;>simp -implicitDefEqProofs (maxSteps:=2000000) [hP,hN,g2,g6,hb6,g7,g8,g10,g11,hb10,hb71,hb13,hb15,hLA,hLB,hi0]<;>try refine Ya ?_)|refine X2 ?_ ?_|(refine Xd ?_ ?_<;>intro hcd<;>try exact Xx))
   |false=>
    simp only [Bool.false_eq_true,if_false] at hgo
    subst hgo
    simp only [rF,Bool.false_eq_true,if_false] at hb10
    with_reducible repeat' (first|refine Sp.h ?_|((first|refine Wd ?_|refine Ss.h ?_|(refine Sb.h ?_ ?_ ?_<;>(try intro hgd)<;>try exact Xy))<;>simp -implicitDefEqProofs (maxSteps:=2000000) [hP,hN,g2,g6,hb6,g7,g8,g10,g11,hb10,hb71,hb13,hb15,hLA,hLB,hi0]<;>try refine Ya ?_)|refine X2 ?_ ?_|(refine Xd ?_ ?_<;>intro hcd<;>try exact Xx))
  ·rw [List.take_of_length_le (by omega),← hFN] at hb71
   cases ap with
   |true=>
    simp only [if_true] at hgo
    subst hgo
    simp only [rF,if_true] at hb10
    with_reducible repeat' (first|refine Sp.h ?_|((first|refine Wd ?_|refine Ss.h ?_|(refine Sb.h ?_ ?_ ?_<;>(try intro hgd)<;>try exact Xy))<;>simp -implicitDefEqProofs (maxSteps:=2000000) [hP,hN,g2,g6,hb6,g7,g8,g10,g11,hb10,hb71,hb13,hb15,hLA,hLB,hBL]<;>try refine Ya ?_)|refine X2 ?_ ?_|(refine Xd ?_ ?_<;>intro hcd<;>try exact Xx))
   |false=>
    simp only [Bool.false_eq_true,if_false] at hgo
    subst hgo
    simp only [rF,Bool.false_eq_true,if_false] at hb10
    with_reducible repeat' (first|refine Sp.h ?_|((first|refine Wd ?_|refine Ss.h ?_|(refine Sb.h ?_ ?_ ?_<;>(try intro hgd)<;>try exact Xy))<;>simp -implicitDefEqProofs (maxSteps:=2000000) [hP,hN,g2,g6,hb6,g7,g8,g10,g11,hb10,hb71,hb13,hb15,hLA,hLB,hBL]<;>try refine Ya ?_)|refine X2 ?_ ?_|(refine Xd ?_ ?_<;>intro hcd<;>try exact Xx))
end Go.Ab
namespace Go.Ab
theorem wj {C : Cx} {L : Nat→Loc} {h : Hp} {w : World} (hm : MemL C L h w) {k n e sz fz : Nat} {xs : List PV} (hk' : h k=some (.row e sz xs fz)) (hn : xs.length=n) {t ty : TypeId} {ti : TI} (ht : aj C.P t=some ti) {ebytes : Nat} {z : Value} (hkind : ti.kind=.slice e sz ebytes (some z)) (c2 : z.cells.size=sz)
 {x : AV} {us ux : Value} (hsr : RepA w (aD C L h) L h (.arr k n) us) (hx : RepA w (aD C L h) L h x ux) {ys : List PV} (hys : cX h x=some ys) (c3 : ys.all (lw sz)=true) (h0 : 0 < ys.length) (hbytes : (n+ys.length) * ebytes≤140737488355328) (h63 : n+ys.length≤9223372036854775807) :
 ∃ r w',(Builtin.append_ #[t,t] ty #[us,ux]).run C.P w=.ok r w'∧bq C L h w L h w'∧∃ a c,r=.slice a (n+ys.length) c:=by
 obtain ⟨hund,jt,hj,rfl,rfl,hz⟩:=dK ht hkind
 have husv : us=(L k).slice n:=by
  cases hsr with
  |arr hk2 hn2 hu=>
   rw [hk'] at hk2;injection hk2 with hk2;injection hk2 with a1 a2 a3 a4
   subst a3
   exact hu hn
 subst husv
 obtain ⟨A,c,rfl,hA0,hA⟩:=oY hm (fun _ _ h=>h) hx hys c3
 obtain ⟨g1,g2,g3,g4,g5⟩:=hm.bl k _ hk'
 obtain ⟨b,o,rfl,news,n1,n2,n3,n4⟩:=hA h0
 have hcell : ∀ j u,news[j]?=some u→w.cell? ((⟨b,o,none⟩ : Addr).add j)=some u:=fun j u hu=>by rw [fk];exact n2 j u hu
 rcases nc hm hk' with ⟨hh,hxs⟩|⟨hh,a1,a2,arr,a3,a4,a5⟩
 ·subst hxs
  simp only [List.length_nil] at hn
  subst hn
  have hsl : (L k).slice 0=.slice none 0 0:=by simp [Loc.slice,hh]
  rw [hsl]
  have hrun:=run_append_nil (P:=C.P) w t ty e jt z hund hj hz ⟨b,o,none⟩ ys.length c news n1 hcell (by omega) (by omega) (by rw [Nat.zero_add] at hbytes;omega)
  have hx' : Ext (fun _=>False) w (w.drew.alloc (.cells (news.toArray++Builtin.zeroCells z.cells (grownCap w ys.length 0 e - ys.length)) e)):=(Ext.drew _ w).trans (Ext.alloc _ _ _) (fun _ _ h=>h)
  have hg:=hm.grow hx'
  exact ⟨_,_,hrun,⟨hg.1,hg.2,KC.refl _ _⟩,_,_,by rw [Nat.zero_add]⟩
 ·have hsl : (L k).slice n=.slice (some ⟨(L k).b,0,none⟩) n (L k).cap:=by simp [Loc.slice,hh]
  rw [hsl]
  have hmul : n * jt.size≤arr.size:=by rw [a4];exact Nat.mul_le_mul_right _ (by omega)
  have holen : (arr.toList.take (n * jt.size)).length=xs.length * jt.size:=by simp [hn];omega
  by_cases hroom : n+ys.length≤(L k).cap
  ·have hmul2 : (n+ys.length) * jt.size≤arr.size:=by rw [a4];exact Nat.mul_le_mul_right _ hroom
   rw [Nat.add_mul] at hmul2
   have hrun:=run_append_room (P:=C.P) w t ty e jt hund hj (L k).b n (L k).cap arr a3 ⟨b,o,none⟩ ys.length c news n1 hcell n3 hroom (by omega)
   refine ⟨_,_,hrun,?_,_,_,rfl⟩
   have hw : ∀ b',b' < w.heap.size→((Blk.row e jt.size xs fz).live (L k)→b'≠(L k).b)→(w.setRow (L k).b (arr.toList.take (n * jt.size)++news++arr.toList.drop (n * jt.size+news.length)).toArray).heap[b']?=w.heap[b']?:=
    fun b' _ hb=>setRow_other w _ b' _ (hb hh)
   have hsp : ∀ q,q < n * jt.size→(arr.toList.take (n * jt.size)++news++arr.toList.drop (n * jt.size+news.length))[q]?=arr[q]?:=by
    intro q hq
    rw [List.append_assoc,List.getElem?_append_left (by simp;omega),List.getElem?_take,if_pos hq];simp
   have hpr : ∀ o v,(Blk.row e jt.size xs fz).live (L k)→(Blk.row e jt.size xs fz).frz o→w.cell? ⟨(L k).b,o,none⟩=some v→
    (w.setRow (L k).b (arr.toList.take (n * jt.size)++news++arr.toList.drop (n * jt.size+news.length)).toArray).cell? ⟨(L k).b,o,none⟩=some v:=by
    intro q v _ hf hc
    simp only [Blk.frz] at hf
    have : fz * jt.size≤n * jt.size:=Nat.mul_le_mul_right _ (by omega)
    rw [cell_setRow_same w _ q arr _ _ _ a3,List.getElem?_toArray,hsp q (by omega),← eN a3]
    exact hc
   have hcp : gt (.row e jt.size xs fz) (L k) (.row e jt.size xs fz) (L k):=fc _ _
   have hpk:=hm.touch_pk (blk':=.row e jt.size xs fz) hk' hw hpr (fun o hf=>hf) hcp Iff.rfl
   have hA9:=hm.touch hk' hw (by simp) rfl rfl rfl hpr (fun o hf=>hf) hcp Iff.rfl (hm.own k _ hk') (by
    refine ⟨g1,g2,g3,g4,fun _=>⟨a1,a2,_,setRow_heap w _ arr _ _ _ a3,?_,?_⟩⟩
    ·simp only [List.size_toArray,List.length_append,List.length_take,List.length_drop,Array.length_toList];omega
    ·intro i x j p hxi hxj
     obtain ⟨u,hu,hr⟩:=a5 i x j p hxi hxj
     refine ⟨u,?_,hr.mono hpk.1⟩
     have hjs : j < jt.size:=by rw [← g3 x (List.mem_of_getElem? hxi)];exact (List.getElem?_eq_some_iff.1 hxj).1
     have hil : i < xs.length:=(List.getElem?_eq_some_iff.1 hxi).1
     have : (i+1) * jt.size≤n * jt.size:=Nat.mul_le_mul_right _ (by omega)
     rw [Nat.add_mul] at this
     rw [List.getElem?_toArray,hsp _ (by omega)]
     exact hu)
   rw [pF hk'] at hA9
   exact hA9
  ·have hrun:=run_append_grow (P:=C.P) w t ty e jt z hund hj hz ⟨(L k).b,0,none⟩ n (L k).cap (arr.toList.take (n * jt.size)) (by rw [holen,hn])
    (fun q u hu=>by
      rw [fk,eN a3,Nat.zero_add]
      rw [List.getElem?_take] at hu
      split at hu
      ·simpa using hu
      ·cases hu)
    ⟨b,o,none⟩ ys.length c news n1 hcell (by omega) (by omega) (growslice_fits (by omega) hbytes)
   have hx' : Ext (fun _=>False) w (w.drew.alloc (.cells ((arr.toList.take (n * jt.size)).toArray++news.toArray++Builtin.zeroCells z.cells (grownCap w (n+ys.length) (L k).cap e - (n+ys.length))) e)):=
    (Ext.drew _ w).trans (Ext.alloc _ _ _) (fun _ _ h=>h)
   have hg:=hm.grow hx'
   exact ⟨_,_,hrun,⟨hg.1,hg.2,KC.refl _ _⟩,_,_,rfl⟩
theorem AI {P : Program} {o : Oper} {t : TypeId} {s x : Operand} (hop : o.op=.call { callee:=.builtin .append,args:=#[s,x],argTypes:=#[t,t] }) {a1 : Act} {w1 : World} {v : Value} {w' : World} (h9 : (Builtin.append_ #[t,t] o.type #[a1.eval s,a1.eval x]).run P w1=.ok v w') : (execOp a1.eval o).run P w1=.ok (.value v) w':=by
 obtain ⟨dst,op,ty9,pos,after,guard⟩:=o
 simp only at hop h9
 subst hop
 have hx9 : execOp a1.eval ⟨dst,.call ⟨.builtin .append,#[s,x],#[t,t]⟩,ty9,pos,after,guard⟩=builtin .append #[t,t] ty9 ((#[s,x] : Array Operand).map fun|.const _=>true|_=>false) ((#[s,x] : Array Operand).map a1.eval):=rfl
 rw [hx9]
 simp [builtin,h9]
theorem tf {P : Program} {o : Oper} {t : TypeId} {s x : Operand} {ρ : Operand→AV} {hK : Hp} {k n e sz fz ebytes : Nat} {xs ys : List PV} {ti : TI} {z : Value} (hop : o.op=.call { callee:=.builtin .append,args:=#[s,x],argTypes:=#[t,t] }) (hs : ρ s=.arr k n) (hx : ρ x=.pv (.sl ys)) (hk : hK k=some (.row e sz xs fz)) (hn : xs.length=n)
 (ht : aj P t=some ti) (hkind : ti.kind=.slice e sz ebytes (some z)) (c2 : z.cells.size=sz) (c3 : ys.all (lw sz)=true) (h0 : 0 < ys.length) (hbytes : (n+ys.length) * ebytes≤140737488355328) (h63 : n+ys.length≤9223372036854775807) : jg P o ρ hK (.pv (.hd (n+ys.length))) []:=by
 intro C L h w1 a1 hP hm hs9 hf hρ next Q hnext
 subst hP
 have rep : ∀ q,q=s∨q=x→RepA w1 (aD C L h) L h (ρ q) (a1.eval q):=fun q hq=>hρ q (by rw [hop];rcases hq with rfl|rfl<;>simp [Op.operands,Call.operands])
 have r1:=rep s (.inl rfl)
 have r2:=rep x (.inr rfl)
 rw [hs] at r1
 rw [hx] at r2
 obtain ⟨r,w',hrun,hA,a,c,rfl⟩:=wj (ty:=o.type) hm (hs9 _ _ hk) hn ht hkind c2 r1 r2 (ys:=ys) rfl c3 h0 hbytes h63
 unfold Oper.wp
 rw [AI hop hrun]
 exact hnext _ _ L hA (.pv (.hd _ _ _))
theorem wk {P : Program} {o : Oper} {t : TypeId} {s x : Operand} {ρ : Operand→AV} {hK : Hp} {e sz ebytes : Nat} {xs : List PV} {ti : TI} {z : Option Value} (hop : o.op=.call { callee:=.builtin .append,args:=#[s,x],argTypes:=#[t,t] }) (hs : ρ s=.pv (.sl xs)) (hx : ρ x=.pv (.sl []))
 (ht : aj P t=some ti) (hkind : ti.kind=.slice e sz ebytes z) : jg P o ρ hK (.pv (.sl xs)) []:=by
 intro C L h w1 a1 hP hm hs9 hf hρ next Q hnext
 subst hP
 have rep : ∀ q,q=s∨q=x→RepA w1 (aD C L h) L h (ρ q) (a1.eval q):=fun q hq=>hρ q (by rw [hop];rcases hq with rfl|rfl<;>simp [Op.operands,Call.operands])
 have r1:=rep s (.inl rfl)
 have r2:=rep x (.inr rfl)
 rw [hs] at r1
 rw [hx] at r2
 obtain ⟨hund,jt,hj,rfl,rfl,hz⟩:=dK ht hkind
 have hxv : ∃ A c,a1.eval x=.slice A 0 c:=by
  cases r2 with
  |pv hr=>generalize a1.eval x=u at hr;cases hr with
   |sl0 a c=>exact ⟨_,_,rfl⟩
   |sl=>exact ⟨_,_,rfl⟩
 obtain ⟨A,c,hxv⟩:=hxv
 have hsv : ∃ B cap,a1.eval s=.slice B xs.length cap∧xs.length≤cap:=by
  cases r1 with
  |pv hr=>generalize a1.eval s=u at hr;cases hr with
   |sl0 a c=>exact ⟨_,_,rfl,Nat.zero_le _⟩
   |sl _ b o c sz u hcap=>exact ⟨_,_,rfl,hcap⟩
 obtain ⟨B,cap,hsv,hcap⟩:=hsv
 have hrun : (Builtin.append_ #[t,t] o.type #[a1.eval s,a1.eval x]).run C.P w1=.ok (a1.eval s) w1:=by
  rw [hsv,hxv]
  exact oZ hund hj B _ cap hcap A c
 unfold Oper.wp
 rw [AI hop hrun]
 exact hnext _ _ L (bq.refl hm) r1
theorem pC {P : Program} {hn : List Nat} {N : Nat} {ops : Array Oper} {o : Oper} {st : St} {v : AV} (K : List Nat) (hdd : dI N o.dst=true) (hg : ey ops st.t o.guard=some true) (hs : jg P o st.ev (aP (K++o.dst.toList) st.h) v []) : kX P hn N ops o st ⟨o.dst,v,[],K++o.dst.toList⟩:=
 ⟨hdd,rfl,.inl ⟨hg,fun d hd9=>by simp [hd9],hs,by simp⟩⟩
theorem WP.drawX2 {C : Cx} {hn : List Nat} {ops : Array Oper} {st : St} {Q : Exit→St→Prop} {id : Nat} (n m : Nat) {o o2 : Oper} (ho : ops.toList[n]?=some o) (ho2 : ops.toList[n+1+m]?=some o2) (hmx : C.P.follows .mixedOrders=true) (hslot : ja ops=true)
 (h : fI C.P hn C.N ops (fun acc st1=>∃ f,kX C.P hn C.N ops o st1 f∧fI C.P hn C.N ops (fun acc st2=>∃ f2,kX C.P hn C.N ops o2 st2 f2∧fI C.P hn C.N ops (fun acc st=>kW (i8 ops.toList []) acc=true∧Q .normal st) (ops.toList.drop (n+1+m+1)) (acc++[(f2.W.map (·.1),f2.K)]) (st2.put f2.d f2.v f2.W))
   ((ops.toList.drop (n+1)).take m) (acc++[(f.W.map (·.1),f.K)]) (st1.put f.d f.v f.W)) (ops.toList.take n) [] st) : WP C (.region id ops true) Q st:=by
 obtain ⟨fs1,a1,a2,f,hf,hrest⟩:=nk h
 obtain ⟨fs2,b1,b2,f2,hf2,hrest2⟩:=nk hrest
 obtain ⟨fs3,c1,c2,c3,c4⟩:=nk hrest2
 have hlt:=(List.getElem?_eq_some_iff.1 ho).1
 have hlt2:=(List.getElem?_eq_some_iff.1 ho2).1
 have l1 : fs1.length=n:=by rw [a1,List.length_take];omega
 have l2 : fs2.length=m:=by rw [b1,List.length_take,List.length_drop];omega
 have hsz : ops.toList.length=ops.size:=Array.length_toList
 have l3 : fs3.length=ops.size - (n+1+m+1):=by rw [c1,List.length_drop,hsz]
 have hrun : ∀ i,run ((fs1++f :: (fs2++f2 :: fs3)).take (n+1+i)) st=run ((fs2++f2 :: fs3).take i) ((run fs1 st).put f.d f.v f.W):=by
  intro i
  rw [List.take_append,List.take_of_length_le (by omega),l1,show n+1+i - n=i+1 by omega,List.take_succ_cons]
  simp [run]
 have hrun2 : ∀ i st9,run ((fs2++f2 :: fs3).take (m+1+i)) st9=run (fs3.take i) ((run fs2 st9).put f2.d f2.v f2.W):=by
  intro i st9
  rw [List.take_append,List.take_of_length_le (by omega),l2,show m+1+i - m=i+1 by omega,List.take_succ_cons]
  simp [run]
 refine WP.drawF (hn:=hn) (fs:=fs1++f :: (fs2++f2 :: fs3)) hmx hslot (by simp;omega) (fun i o' f' ho' hf'=>?_) ?_ ?_
 ·rw [← Array.getElem?_toList] at ho'
  by_cases h1 : i < n
  ·rw [List.getElem?_append_left (by omega)] at hf'
   rw [List.take_append_of_le_length (by omega)]
   exact a2 i o' f' (by rw [List.getElem?_take,if_pos h1];exact ho') hf'
  ·by_cases h2 : i=n
   ·subst h2
    rw [List.getElem?_append_right (by omega),l1,Nat.sub_self] at hf'
    injection hf' with hf'
    subst hf'
    rw [ho] at ho'
    injection ho' with ho'
    subst ho'
    rw [List.take_append_of_le_length (by omega),List.take_of_length_le (by omega)]
    exact hf
   ·obtain ⟨i,rfl⟩ : ∃ j,i=n+1+j:=⟨i - (n+1),by omega⟩
    rw [List.getElem?_append_right (by omega),l1,show n+1+i - n=i+1 by omega,List.getElem?_cons_succ] at hf'
    rw [hrun i]
    by_cases h3 : i < m
    ·rw [List.getElem?_append_left (by omega)] at hf'
     rw [List.take_append_of_le_length (by omega)]
     exact b2 i o' f' (by rw [List.getElem?_take,if_pos h3,List.getElem?_drop];exact ho') hf'
    ·by_cases h4 : i=m
     ·subst h4
      rw [List.getElem?_append_right (by omega),l2,Nat.sub_self] at hf'
      injection hf' with hf'
      subst hf'
      rw [ho2] at ho'
      injection ho' with ho'
      subst ho'
      rw [List.take_append_of_le_length (by omega),List.take_of_length_le (by omega)]
      exact hf2
     ·obtain ⟨i,rfl⟩ : ∃ j,i=m+1+j:=⟨i - (m+1),by omega⟩
      rw [List.getElem?_append_right (by omega),l2,show m+1+i - m=i+1 by omega,List.getElem?_cons_succ] at hf'
      rw [hrun2 i]
      refine c2 i o' f' ?_ hf'
      rw [List.getElem?_drop,show n+1+m+1+i=n+1+(m+1+i) by omega]
      exact ho'
 ·simpa [List.append_assoc] using c3
 ·have e1:=hrun (m+1+fs3.length)
  rw [List.take_of_length_le (by simp;omega),hrun2,List.take_length] at e1
  rw [e1];exact c4
end Go.Ab
namespace Go.Ab
open Go.Proofs
abbrev Dd : PV:=.agg [Z 0,.sl [],Z 0,.sl [],.sl []]
section
variable {s : Sce} {n : Nat} (hs : ScL s) (hn : n≠s.js.length)
include hs hn
theorem Jb : ah Tryz.prog 21 [.pv (fh s),.pv (.hd n)] [] [] (.pv (.tup [rS [] [] [],B false])):=by
 have cc:=Dc s hs
 have hjl:=hs.js
 by_cases h0 : cD s=0
 case neg=>
  have h0' : (cD s !=0)=true:=by simp [h0]
  refine Dp Tryz.func21 ?_
  intro C hP hN
  simp only [Tryz.f21] at hN ⊢
  with_reducible repeat' (first|refine Sp.h ?_|((first|refine Wd ?_|refine Ss.h ?_|refine Sc.h (cc) ?_|(refine Sb.h ?_ ?_ ?_<;>(try intro hgd)<;>try exact Xy))<;>simp -implicitDefEqProofs (maxSteps:=2000000) [hP,hN,h0,h0']<;>try refine Ya ?_)|refine X2 ?_ ?_|(refine Xd ?_ ?_<;>intro hcd<;>try exact Xx))
 have h0' : (cD s !=0)=false:=by simp [h0]
 have h1' : ((n : Int) !=(s.js.length : Int))=true:=by simp;omega
 have h1'' : ¬ (n : Int)=(s.js.length : Int):=by omega
 refine Dp Tryz.func21 ?_
 intro C hP hN
 simp only [Tryz.f21] at hN ⊢
 with_reducible repeat' (first|refine Sp.h ?_|((first|refine Wd ?_|refine Ss.h ?_|refine Sc.h (cc) ?_|(refine Sb.h ?_ ?_ ?_<;>(try intro hgd)<;>try exact Xy))<;>simp -implicitDefEqProofs (maxSteps:=2000000) [hP,hN,h0,h0',h1',h1'']<;>try refine Ya ?_)|refine X2 ?_ ?_|(refine Xd ?_ ?_<;>intro hcd<;>try exact Xx))
theorem Jc : ah Tryz.prog 54 [.pv (jq s.js s.ms),.pv (.hd n)] [] [] (.pv (B false)):=by
 have hjl:=hs.js
 have h1' : ((n : Int)==(s.js.length : Int))=false:=by simp;omega
 refine Dp Tryz.func54 ?_
 intro C hP hN
 simp only [Tryz.f54] at hN ⊢
 with_reducible repeat' (first|refine Sp.h ?_|((first|refine Ss.h ?_|(refine Sb.h ?_ ?_ ?_<;>(try intro hgd)<;>try exact Xy))<;>simp -implicitDefEqProofs (maxSteps:=2000000) [hP,hN,h1'])|refine X2 ?_ ?_|(refine Xd ?_ ?_<;>intro hcd<;>try exact Xx))
theorem Jd : ah Tryz.prog 28 [.pv (fh s),.pv (.hd n)] [] [] (.pv (.tup [.sl [],.sl [],B false])):=by
 have cc:=Da s hs
 have ci:=Jc hs hn
 by_cases h0 : cD s=0
 case neg=>
  have h0' : (cD s !=0)=true:=by simp [h0]
  refine Dp Tryz.func28 ?_
  intro C hP hN
  simp only [Tryz.f28] at hN ⊢
  with_reducible repeat' (first|refine Sp.h ?_|((first|refine Wd ?_|refine Ss.h ?_|refine Sc.h (cc) ?_|(refine Sb.h ?_ ?_ ?_<;>(try intro hgd)<;>try exact Xy))<;>simp -implicitDefEqProofs (maxSteps:=2000000) [hP,hN,h0,h0']<;>try refine Ya ?_)|refine X2 ?_ ?_|(refine Xd ?_ ?_<;>intro hcd<;>try exact Xx))
 have h0' : (cD s !=0)=false:=by simp [h0]
 refine Dp Tryz.func28 ?_
 intro C hP hN
 simp only [Tryz.f28] at hN ⊢
 with_reducible repeat' (first|refine Sp.h ?_|((first|refine Wd ?_|refine Ss.h ?_|refine Sc.h (cc) ?_|refine Sc.h (ci) ?_|(refine Sb.h ?_ ?_ ?_<;>(try intro hgd)<;>try exact Xy))<;>simp -implicitDefEqProofs (maxSteps:=2000000) [hP,hN,h0,h0']<;>try refine Ya ?_)|refine X2 ?_ ?_|(refine Xd ?_ ?_<;>intro hcd<;>try exact Xx))
theorem Je (hints : List Vc) : ah Tryz.prog 8 [.pv (fh s),.pv (.hd n),.pv (bp hints)] [] [] (.pv (Dd)):=by
 have cp:=Jb hs hn
 refine Dp Tryz.func8 ?_
 intro C hP hN
 simp only [Tryz.f8] at hN ⊢
 with_reducible repeat' (first|refine Sp.h ?_|((first|refine Wd ?_|refine Ss.h ?_|refine Sc.h (cp) ?_|(refine Sb.h ?_ ?_ ?_<;>(try intro hgd)<;>try exact Xy))<;>simp -implicitDefEqProofs (maxSteps:=2000000) [hP,hN]<;>try refine Ya ?_)|refine X2 ?_ ?_|(refine Xd ?_ ?_<;>intro hcd<;>try exact Xx))
theorem Jf (hints : List Vc) : ah Tryz.prog 9 [.pv (fh s),.pv (.hd n),.pv (bp hints)] [] [] (.pv (Dd)):=by
 have cp:=Jd hs hn
 refine Dp Tryz.func9 ?_
 intro C hP hN
 simp only [Tryz.f9] at hN ⊢
 with_reducible repeat' (first|refine Sp.h ?_|((first|refine Wd ?_|refine Ss.h ?_|refine Sc.h (cp) ?_|(refine Sb.h ?_ ?_ ?_<;>(try intro hgd)<;>try exact Xy))<;>simp -implicitDefEqProofs (maxSteps:=2000000) [hP,hN]<;>try refine Ya ?_)|refine X2 ?_ ?_|(refine Xd ?_ ?_<;>intro hcd<;>try exact Xx))
end
set_option maxRecDepth 20000 in
theorem d3 (raw : Sce) (bx : List Iv) (list : List Vc) (l m o : List Int) (hs : ScL raw) (hbx : bx.length≤1048576) (hll : list.length≤1048576) : ah Tryz.prog 3 [.pv (fh raw),.pv (iv bx),.pv (bp list),.pv (zs l),.pv (zs m),.pv (zs o)] [] [] (.pv (B true)):=by
 have c0:=d6
 have c1:=d4 l
 have hL:=EV l
 have hj:=yL l 0
 have hjs : (uJ l).js=jW l 0:=rfl
 have hms : (uJ l).ms=oH l 0:=rfl
 have hbl:=Bk m (jW l 0)
 have e1:=d8 raw bx list hs (by omega) (by omega)
 have f1:=d9 raw bx list hs (by omega) (by omega)
 obtain ⟨n1,n2,n3⟩:=qc raw bx list
 have s1:=d7 (gm raw bx list) (by omega) (by omega) (by omega)
 have ch:=IN o
 have hhl:=BE o
 generalize pi o=H at *
 have c2:=r5 m (jW l 0) (oH l 0) (by omega) (A7 l 0)
 have c3:=d5 m (jW l 0) (oH l 0) (by omega) (A7 l 0)
 generalize gu m (jW l 0)=b at *
 rw [← hjs] at hj hbl
 rw [← hjs,← hms] at c2 c3
 generalize uJ l=s at *
 have e2:=d8 s b [] hL (by omega) (by simp)
 have f2:=d9 s b [] hL (by omega) (by simp)
 obtain ⟨n4,n5,n6⟩:=qc s b []
 have s2:=d7 (gm s b []) (by omega) (by omega) (by omega)
 have e3:=d8 s b H hL (by omega) (by omega)
 have f3:=d9 s b H hL (by omega) (by omega)
 obtain ⟨n7,n8,n9⟩:=qc s b H
 have s3:=d7 (gm s b H) (by omega) (by omega) (by omega)
 have e4:=d8 s b list hL (by omega) (by omega)
 have f4:=d9 s b list hL (by omega) (by omega)
 obtain ⟨n10,n11,n12⟩:=qc s b list
 have s4:=d7 (gm s b list) (by omega) (by omega) (by omega)
 generalize gm raw bx list=v1 at *
 generalize gm s b []=v2 at *
 generalize gm s b H=v3 at *
 generalize gm s b list=v4 at *
 simp only [bp,List.map_nil] at e2 f2
 cases bx with
 |nil=>
  simp only [iv,List.map_nil] at e1 f1 ⊢
  refine Dp Tryz.func3 ?_
  intro C hP hN
  simp only [Tryz.f3] at hN ⊢
  with_reducible repeat' (first|refine Sp.h ?_|((with_unfolding_all refine WP.drawX2 (hn:=[]) 38 5 rfl rfl (by rw [hP];kernel_rfl) (by kernel_rfl) ?_);simp -implicitDefEqProofs (maxSteps:=2000000) [hP,hN])|((first|refine Wd ?_|refine Ss.h ?_|refine Sc.h (c0) ?_|refine Sc.h (c1) ?_|refine Sc.h (c3) ?_|refine Sc.h (e1) ?_|refine Sc.h (f1) ?_|refine Sc.h (s1) ?_|refine Sc.h (e2) ?_|refine Sc.h (f2) ?_|refine Sc.h (s2) ?_|refine Sc.h (e3) ?_|refine Sc.h (f3) ?_|refine Sc.h (s3) ?_|refine Sc.h (e4) ?_|refine Sc.h (f4) ?_|refine Sc.h (s4) ?_|refine Sc.h (ch) ?_|(refine Sb.h ?_ ?_ ?_<;>(try intro hgd)<;>try exact Xy))<;>simp -implicitDefEqProofs (maxSteps:=2000000) [hP,hN]<;>try refine Ya ?_)|refine X2 ?_ ?_|(refine Xd ?_ ?_<;>intro hcd<;>try exact Xx))
  refine ⟨_,pC [] rfl (by simp [ey]) (wk (t:=30) rfl (xs:=b.map bF) (by simp [St.ev]) (by simp [St.ev]) Du rfl),?_⟩
  simp -implicitDefEqProofs (maxSteps:=2000000) [hP,hN]
  with_reducible repeat' (first|refine Sp.h ?_|((first|refine Wd ?_|refine Ss.h ?_|refine Sc.h (e4) ?_|refine Sc.h (f4) ?_|refine Sc.h (s4) ?_|(refine Sb.h ?_ ?_ ?_<;>(try intro hgd)<;>try exact Xy))<;>simp -implicitDefEqProofs (maxSteps:=2000000) [hP,hN]<;>try refine Ya ?_)|refine X2 ?_ ?_|(refine Xd ?_ ?_<;>intro hcd<;>try exact Xx))
  refine ⟨_,pC [] rfl (by simp [ey]) (wk (t:=30) rfl (xs:=b.map bF) (by simp [St.ev]) (by simp [St.ev]) Du rfl),?_⟩
  simp -implicitDefEqProofs (maxSteps:=2000000) [hP,hN]
  with_reducible repeat' (first|refine Sp.h ?_|((first|refine Wd ?_|refine Ss.h ?_|refine Sc.h (e4) ?_|refine Sc.h (f4) ?_|refine Sc.h (s4) ?_|(refine Sb.h ?_ ?_ ?_<;>(try intro hgd)<;>try exact Xy))<;>simp -implicitDefEqProofs (maxSteps:=2000000) [hP,hN]<;>try refine Ya ?_)|refine X2 ?_ ?_|(refine Xd ?_ ?_<;>intro hcd<;>try exact Xx))
 |cons x0 bx=>
  have hle : b.length+(bx.length+1)≠s.js.length:=by omega
  have e5:=Je hL hle list
  have f5:=Jf hL hle list
  have s5 : ah Tryz.prog 7 [.pv Dd,.pv Dd] [] [] (.pv (B true)):=d7 ⟨0,[],⟨0,[],[]⟩⟩ (by simp) (by simp) (by simp)
  clear e4 f4 s4 n1 n2 n3 n4 n5 n6 n7 n8 n9 n10 n11 n12
  generalize hbb : x0 :: bx=bb at *
  have hbl9 : bb.length=bx.length+1:=by rw [← hbb];rfl
  rw [← hbl9] at hle e5 f5
  refine Dp Tryz.func3 ?_
  intro C hP hN
  simp only [Tryz.f3] at hN ⊢
  with_reducible repeat' (first|refine Sp.h ?_|((with_unfolding_all refine WP.drawX2 (hn:=[]) 38 5 rfl rfl (by rw [hP];kernel_rfl) (by kernel_rfl) ?_);simp -implicitDefEqProofs (maxSteps:=2000000) [hP,hN])|((first|refine Wd ?_|refine Ss.h ?_|refine Sc.h (c0) ?_|refine Sc.h (c1) ?_|refine Sc.h (c2) ?_|refine Sc.h (e1) ?_|refine Sc.h (f1) ?_|refine Sc.h (s1) ?_|refine Sc.h (e2) ?_|refine Sc.h (f2) ?_|refine Sc.h (s2) ?_|refine Sc.h (e3) ?_|refine Sc.h (f3) ?_|refine Sc.h (s3) ?_|refine Sc.h (ch) ?_|(refine Sb.h ?_ ?_ ?_<;>(try intro hgd)<;>try exact Xy))<;>simp -implicitDefEqProofs (maxSteps:=2000000) [hP,hN]<;>try refine Ya ?_)|refine X2 ?_ ?_|(refine Xd ?_ ?_<;>intro hcd<;>try exact Xx))
  refine ⟨_,pC [20] rfl (by simp [ey]) (tf (t:=30) (ys:=bb.map bF) (xs:=b.map bF) (n:=b.length) (k:=20) (e:=60) (sz:=2) (fz:=b.length) (ebytes:=16) rfl (by simp [St.ev]) (by simp [St.ev]) (by simp [aP]) (by simp) Du rfl rfl (by simp [lw]) (by simp;omega) (by simp;omega) (by simp;omega)),?_⟩
  simp -implicitDefEqProofs (maxSteps:=2000000) [hP,hN]
  with_reducible repeat' (first|refine Sp.h ?_|((first|refine Wd ?_|refine Ss.h ?_|refine Sc.h (e5) ?_|refine Sc.h (f5) ?_|refine Sc.h (s5) ?_|(refine Sb.h ?_ ?_ ?_<;>(try intro hgd)<;>try exact Xy))<;>simp -implicitDefEqProofs (maxSteps:=2000000) [hP,hN]<;>try refine Ya ?_)|refine X2 ?_ ?_|(refine Xd ?_ ?_<;>intro hcd<;>try exact Xx))
  refine ⟨_,pC [20] rfl (by simp [ey]) (tf (t:=30) (ys:=bb.map bF) (xs:=b.map bF) (n:=b.length) (k:=20) (e:=60) (sz:=2) (fz:=b.length) (ebytes:=16) rfl (by simp [St.ev]) (by simp [St.ev]) (by simp [aP]) (by simp) Du rfl rfl (by simp [lw]) (by simp;omega) (by simp;omega) (by simp;omega)),?_⟩
  simp -implicitDefEqProofs (maxSteps:=2000000) [hP,hN]
  with_reducible repeat' (first|refine Sp.h ?_|((first|refine Wd ?_|refine Ss.h ?_|refine Sc.h (e5) ?_|refine Sc.h (f5) ?_|refine Sc.h (s5) ?_|(refine Sb.h ?_ ?_ ?_<;>(try intro hgd)<;>try exact Xy))<;>simp -implicitDefEqProofs (maxSteps:=2000000) [hP,hN]<;>try refine Ya ?_)|refine X2 ?_ ?_|(refine Xd ?_ ?_<;>intro hcd<;>try exact Xx))
end Go.Ab
