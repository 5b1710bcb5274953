/- The contracts and facts that the laws of this seat need, in one text (K10, Ab26, Ab29, K11b, K11c, K11d, K11e, K5d, K5e, K5f, K5g, K12). -/
import Derived.Test.YtnpgedgeajnfbaaGreatW6
set_option linter.all false
set_option maxHeartbeats 16000000
namespace Go.Ab
open Go.Proofs
def zM (x y z : AV) (fb : Option bw) : Option bw:=match x,y,z with
 |.pv (.val (.int .i64 a)),.pv (.val (.int .i64 b)),.pv (.val (.int .i64 c))=>some (.pv (Z (max a (max b c))),[])
 |_,_,_=>fb
@[simp] theorem FW (a b c : Int) (fb : Option bw) : zM (.pv (.val (.int .i64 a))) (.pv (.val (.int .i64 b))) (.pv (.val (.int .i64 c))) fb=some (.pv (Z (max a (max b c))),[]):=rfl
@[simp] theorem Iy {dst : Option Nat} {ty : TypeId} {ts : Array TypeId} {pos : String} {aft : Array Edge} {g : Option (Nat × Bool)} {ρ : Operand→AV} (x y z : Operand) :
 bf Tryz.prog ⟨dst,.call ⟨.builtin .max,#[x,y,z],ts⟩,ty,pos,aft,g⟩ ρ=zM (ρ x) (ρ y) (ρ z) (i9 Tryz.prog ⟨dst,.call ⟨.builtin .max,#[x,y,z],ts⟩,ty,pos,aft,g⟩ ρ):=by
 unfold zM
 split
 ·rename_i a b c hx hy hz
  refine bV (by simp [Op.operands,Call.operands,hx,hy,hz,cL]) ?_
  unfold execOp
  simp [resolve,invoke,builtin,Builtin.max_,hx,hy,hz,kR,cL,Builtin.max2,ag,bz]
  try omega
 ·rfl
def jX (x y : Int) : Int:=max (max (max (max 0 x) (-x)) y) (-y)
theorem Cd (x y : Int) (hx : -4611686018427387904≤x∧x≤4611686018427387904) (hy : -4611686018427387904≤y∧y≤4611686018427387904) : ah Tryz.prog 102 [.pv (.sl [Z x,Z y])] [] [] (.pv (Z (jX x y))):=by
 have w1 : IntKind.i64.wrap (-x)=-x:=ao
 have w2 : IntKind.i64.wrap (-y)=-y:=ao
 have w3 : IntKind.i64.wrap (0 - x)=-x:=(ao (n:=0 - x) (by omega) (by omega)).trans (by omega)
 have w4 : IntKind.i64.wrap (0 - y)=-y:=(ao (n:=0 - y) (by omega) (by omega)).trans (by omega)
 have f0 : ∀ a b c : Int,max a (max b c)=max (max a b) c:=fun _ _ _=>by omega
 have f2 : jX x y=max 0 (max x (max (-x) (max y (-y)))):=by unfold jX;omega
 rw [f2]
 refine Dp Tryz.func102 ?_
 intro C hP hN
 simp only [Tryz.f102] at hN ⊢
 with_reducible repeat' (first|refine Sp.h ?_|((first|refine Ss.h ?_|(refine Sb.h ?_ ?_ ?_<;>(try intro hgd)<;>try exact Xy))<;>simp -implicitDefEqProofs (maxSteps:=2000000) [hP,hN])|refine X2 ?_ ?_|(refine Xd ?_ ?_<;>intro hcd<;>try exact Xx))
 refine WP.loopN [] 2 (fun i st=>st.t 6=.pv (.sl [Z x,Z y])∧st.t 7=.pv (Z 2)∧st.t 8=.pv (Z i)∧st.t 3=.pv (Z (if i=0 then 0 else if i=1 then max 0 (max x (-x)) else max 0 (max x (max (-x) (max y (-y))))))) (by simp) ?_
 rintro i st hi ⟨g6,g7,g8,g3⟩
 have hc : i=0∨i=1∨i=2:=by omega
 rcases hc with rfl|rfl|rfl
 all_goals (simp at g3 g8)
 ·skip
  with_reducible repeat' (first|refine Sp.h ?_|((first|refine Ss.h ?_|(refine Sb.h ?_ ?_ ?_<;>(try intro hgd)<;>try exact Xy))<;>simp -implicitDefEqProofs (maxSteps:=2000000) [hP,hN,g6,g7,g8,g3,w1,w2,w3,w4])|refine X2 ?_ ?_|(refine Xd ?_ ?_<;>intro hcd<;>try exact Xx))
  all_goals (try (first|omega|(simp;omega)))
 ·skip
  with_reducible repeat' (first|refine Sp.h ?_|((first|refine Ss.h ?_|(refine Sb.h ?_ ?_ ?_<;>(try intro hgd)<;>try exact Xy))<;>simp -implicitDefEqProofs (maxSteps:=2000000) [hP,hN,g6,g7,g8,g3,w1,w2,w3,w4])|refine X2 ?_ ?_|(refine Xd ?_ ?_<;>intro hcd<;>try exact Xx))
  all_goals (try (first|omega|(simp;omega)))
 ·skip
  with_reducible repeat' (first|refine Sp.h ?_|((first|refine Ss.h ?_|(refine Sb.h ?_ ?_ ?_<;>(try intro hgd)<;>try exact Xy))<;>simp -implicitDefEqProofs (maxSteps:=2000000) [hP,hN,g6,g7,g8,g3])|refine X2 ?_ ?_|(refine Xd ?_ ?_<;>intro hcd<;>try exact Xx))
set_option maxRecDepth 100000 in
@[simp] theorem Ii : dj Tryz.prog 99:=by
 have hf:=Tryz.func99;have nt:=Tryz.ntmps99;have rs:=Tryz.results99;exact Et
set_option maxRecDepth 100000 in
@[simp] theorem Ij : dj Tryz.prog 51:=by
 have hf:=Tryz.func51;have nt:=Tryz.ntmps51;have rs:=Tryz.results51;exact Es
def dn (u v : Iv) (tot : Int) : Int:=(jX (u.1 - v.2) (u.2 - v.1)+tot - 1) / tot
def gH (m : List Int) (reach : Int) : Nat→Int
 |0=>reach * reach
 |k+1=>gH m reach k - (m[k]?).getD 0 * (m[k]?).getD 0
def ei (U V : aU) (tot : Int) : List Int:=[dn U.1 V.1 tot,dn U.2.1 V.2.1 tot,dn U.2.2 V.2.2 tot]
def lx (m : List Int) (reach : Int) : Int:=if m.all (fun x=>decide (x≤reach)) then gH m reach 3 else -1
def kw (left right : List Int) (a : List aU) (ra : Int) (b : List aU) (rb : Int) : Bool:=
 dH a left && dH b right && decide (bD left left.length=bD right right.length) && bM ra 0 1048576 && bM rb 0 1048576
def jb (left right : List Int) (a : List aU) (ra : Int) (b : List aU) (rb : Int) : Int:=
 if kw left right a ra b rb then lx (ei (du a left left.length) (du b right right.length) (bD left left.length)) (ra+rb) else 0
theorem pS {a : List aU} {w : List Int} (h : dH a w=true) : ot 8 (du a w w.length):=by
 simp only [dH,aZ,Bool.and_eq_true,decide_eq_true_eq,List.all_eq_true] at h
 obtain ⟨⟨⟨⟨⟨h1,h2⟩,h3⟩,h4⟩,h5⟩,h6⟩:=h
 obtain ⟨⟨⟨a1,a2⟩,a3,a4⟩,⟨⟨b1,b2⟩,b3,b4⟩,⟨c1,c2⟩,c3,c4⟩:=s9 h3 h5 w.length
 refine ⟨⟨⟨?_,?_⟩,?_,?_⟩,⟨⟨?_,?_⟩,?_,?_⟩,⟨?_,?_⟩,?_,?_⟩<;>omega
theorem xc {a : List aU} {w : List Int} (h : dH a w=true) : 1≤bD w w.length∧bD w w.length≤65536:=by
 simp only [dH,Bool.and_eq_true,Bool.not_eq_true',Bool.or_eq_false_iff,decide_eq_false_iff_not] at h
 omega
theorem pT {x y : Int} {m : Int} (hx : -m≤x∧x≤m) (hy : -m≤y∧y≤m) : 0≤jX x y∧jX x y≤m:=by
 unfold jX;omega
theorem rR {h t : Int} (h0 : 0≤h) (h1 : h≤4503599627370496) (t1 : 1≤t) (t2 : t≤65536) : 0≤(h+t - 1) / t∧(h+t - 1) / t≤4503599627370496:=by
 refine ⟨Int.ediv_nonneg (by omega) (by omega),?_⟩
 have : (h+t - 1) / t < 4503599627370496+1:=Int.ediv_lt_of_lt_mul (by omega) (by
  have h2 : (4503599627370496+1) * 1≤(4503599627370496+1) * t:=by omega
  omega)
 omega
theorem j0 {x m : Int} (h0 : 0≤x) (h1 : x≤m) : 0≤x * x∧x * x≤m * m:=⟨Int.mul_nonneg h0 h0,Int.mul_le_mul h1 h1 h0 (by omega)⟩
set_option maxRecDepth 4000 in
theorem Iz (left right : List Int) (a : List aU) (ra : Int) (b : List aU) (rb : Int) (h1 : left.length≤9223372036854775807) (h2 : right.length≤9223372036854775807) (h3 : a.length≤9223372036854775807) (h4 : b.length≤9223372036854775807) : ah Tryz.prog 52 [.pv (zs left),.pv (zs right),.pv (bn a),.pv (Z ra),.pv (bn b),.pv (Z rb)] [] [] (.pv (.tup [Z (jb left right a ra b rb),B (kw left right a ra b rb)])):=by
 have ca:=Fj a left h3 h1
 have cb:=Fj b right h4 h2
 have cra:=E9 ra
 have crb:=E9 rb
 have z6 : bZ bO=V6 0 0 0 0 0 0:=rfl
 have hE : kw left right a ra b rb=(dH a left && dH b right && decide (bD left left.length=bD right right.length) && bM ra 0 1048576 && bM rb 0 1048576):=rfl
 have hX : jb left right a ra b rb=if kw left right a ra b rb then lx (ei (du a left left.length) (du b right right.length) (bD left left.length)) (ra+rb) else 0:=rfl
 cases hA : dH a left with
 |false=>
  rw [hA] at hE;simp only [Bool.false_and] at hE
  rw [hE] at hX;simp only [Bool.false_eq_true,if_false] at hX
  rw [hE,hX]
  simp only [eZ,hA,Bool.false_eq_true,if_false,z6] at ca
  cases hB : dH b right
  all_goals (simp only [eZ,hB,Bool.false_eq_true,if_false,if_true,z6] at cb)
  ·skip
   refine Dp Tryz.func52 ?_
   intro C hP hN
   simp only [Tryz.f52] at hN ⊢
   exact Gy
  ·skip
   generalize du b right right.length=V at *
   generalize bD right right.length=T2 at *
   refine Dp Tryz.func52 ?_
   intro C hP hN
   simp only [Tryz.f52] at hN ⊢
   exact Gy
 |true=>
 simp only [eZ,hA,if_true] at ca
 generalize hU : du a left left.length=U at *
 generalize hT : bD left left.length=T at *
 cases hB : dH b right with
 |false=>
  rw [hA,hB] at hE;simp only [Bool.false_and,Bool.and_false] at hE
  rw [hE] at hX;simp only [Bool.false_eq_true,if_false] at hX
  rw [hE,hX]
  simp only [eZ,hB,Bool.false_eq_true,if_false,z6] at cb
  refine Dp Tryz.func52 ?_
  intro C hP hN
  simp only [Tryz.f52] at hN ⊢
  exact Gy
 |true=>
 simp only [eZ,hB,if_true] at cb
 rw [hA,hB] at hE;simp only [Bool.true_and] at hE
 generalize hV : du b right right.length=V at *
 generalize hT2 : bD right right.length=T2 at *
 by_cases hTe : T=T2
 case neg=>
  have e1 : (T !=T2)=true:=by simp [hTe]
  simp only [hTe,decide_false,Bool.false_and] at hE
  rw [hE] at hX;simp only [Bool.false_eq_true,if_false] at hX
  rw [hE,hX]
  refine Dp Tryz.func52 ?_
  intro C hP hN
  simp only [Tryz.f52] at hN ⊢
  exact Gy
 have e0 : (T !=T2)=false:=by simp [hTe]
 simp only [hTe,decide_true,Bool.true_and] at hE
 cases hra : bM ra 0 1048576 with
 |false=>
  rw [hra] at cra hE
  simp only [Bool.false_and] at hE
  rw [hE] at hX;simp only [Bool.false_eq_true,if_false] at hX
  rw [hE,hX]
  refine Dp Tryz.func52 ?_
  intro C hP hN
  simp only [Tryz.f52] at hN ⊢
  exact Gy
 |true=>
 cases hrb : bM rb 0 1048576 with
 |false=>
  rw [hra] at cra hE
  rw [hrb] at crb hE
  simp only [Bool.and_false] at hE
  rw [hE] at hX;simp only [Bool.false_eq_true,if_false] at hX
  rw [hE,hX]
  refine Dp Tryz.func52 ?_
  intro C hP hN
  simp only [Tryz.f52] at hN ⊢
  exact Gy
 |true=>
 rw [hra] at cra hE
 rw [hrb] at crb hE
 simp only [Bool.and_self] at hE
 rw [hE] at hX;simp only [if_true] at hX
 rw [hE]
 have hUr : ot 8 U:=by rw [← hU];exact pS hA
 have hVr : ot 8 V:=by rw [← hV];exact pS hB
 have hTr:=xc hA
 rw [hT] at hTr
 subst hTe
 clear hT hT2
 simp only [bM,Bool.and_eq_true,decide_eq_true_eq] at hra hrb
 generalize hre : ra+rb=re at *
 have hwr : IntKind.i64.wrap re=re:=ao
 have hrr:=j0 (x:=re) (m:=2097152) (by omega) (by omega)
 have hwq : IntKind.i64.wrap (re * re)=re * re:=ao
 rw [hX]
 refine Dp Tryz.func52 ?_
 intro C hP hN
 simp only [Tryz.f52] at hN ⊢
 refine Gz ?_
 refine WP.loopN [] 3 (fun k st=>st.t 14=.ptr 14 0∧st.h 14=some (.box (b6 U) true false)∧st.t 17=.ptr 17 0∧st.h 17=some (.box (b6 V) true false)∧st.t 18=.pv (Z T)∧st.t 15=.pv (Z T)∧st.t 20=.pv (Z re)∧st.t 12=.ptr 12 0∧st.h 12=some (.box [.pv (Z (gH (ei U V T) re k))] true false)∧st.t 13=.ptr 13 0∧st.h 13=some (.box [.pv (B false)] true false)∧st.t 66=.pv (Z k)∧(-(k * 4398046511104 : Int)≤gH (ei U V T) re k∧gH (ei U V T) re k≤4398046511104)∧∀ j < k,∀ x,(ei U V T)[j]?=some x→0≤x∧x≤re) ?_ ?_
 ·simp [gH]
  omega
 rintro k st hk ⟨g14,hb14,g17,hb17,g18,g15,g20,g12,hb12,g13,hb13,g66,hEr,hpr⟩
 obtain ⟨⟨⟨a1,a2⟩,a3,a4⟩,⟨⟨b1,b2⟩,b3,b4⟩,⟨c1,c2⟩,c3,c4⟩:=hUr
 obtain ⟨⟨⟨d1,d2⟩,d3,d4⟩,⟨⟨e1,e2⟩,e3,e4⟩,⟨f1,f2⟩,f3,f4⟩:=hVr
 rcases cE hk with rfl|rfl|rfl|rfl
 ·have hlo : -281474976710656≤U.1.1 - V.1.2∧U.1.1 - V.1.2≤281474976710656:=by omega
  have hhi : -281474976710656≤U.1.2 - V.1.1∧U.1.2 - V.1.1≤281474976710656:=by omega
  have cf:=Cd (U.1.1 - V.1.2) (U.1.2 - V.1.1) (by omega) (by omega)
  have hfr:=pT hlo hhi
  have hga:=rR hfr.1 (by omega) hTr.1 hTr.2
  have hgd : dn U.1 V.1 T=(jX (U.1.1 - V.1.2) (U.1.2 - V.1.1)+T - 1) / T:=rfl
  have w1 : IntKind.i64.wrap (U.1.1 - V.1.2)=U.1.1 - V.1.2:=ao
  have w2 : IntKind.i64.wrap (U.1.2 - V.1.1)=U.1.2 - V.1.1:=ao
  generalize jX (U.1.1 - V.1.2) (U.1.2 - V.1.1)=f at *
  have w3 : IntKind.i64.wrap (f+T)=f+T:=ao
  have w4 : IntKind.i64.wrap (f+T - 1)=f+T - 1:=ao
  have w5 : (f+T - 1).tdiv T=(f+T - 1) / T:=Int.tdiv_eq_ediv_of_nonneg (by omega)
  have w6 : IntKind.i64.wrap ((f+T - 1) / T)=(f+T - 1) / T:=ao
  have w7 : ¬ T=0:=by omega
  have w8 : (T==0)=false:=by simp;omega
  by_cases hm : re < dn U.1 V.1 T
  ·have hno : lx (ei U V T) re=-1:=by
    have hm' : ¬ dn U.1 V.1 T≤re:=by omega
    unfold lx ei;simp [hm']
   rw [hno]
   rw [hgd] at hm
   exact Gy
  ·have hsq:=j0 (x:=dn U.1 V.1 T) (m:=re) (by omega) (by omega)
   have hEs : gH (ei U V T) re (0+1)=gH (ei U V T) re 0 - dn U.1 V.1 T * dn U.1 V.1 T:=by simp [gH,ei]
   have hpr' : ∀ j < 0+1,∀ x,(ei U V T)[j]?=some x→0≤x∧x≤re:=fun j hj x hx=>by
    by_cases hk' : j < 0
    ·exact hpr j hk' x hx
    ·have : j=0:=by omega
     subst this
     have : x=dn U.1 V.1 T:=by simpa [ei] using hx.symm
     omega
   generalize gH (ei U V T) re (0+1)=E' at *
   generalize gH (ei U V T) re 0=E at *
   subst hEs
   rw [hgd] at hm hsq
   have w9 : IntKind.i64.wrap ((f+T - 1) / T * ((f+T - 1) / T))=(f+T - 1) / T * ((f+T - 1) / T):=ao
   have w10 : IntKind.i64.wrap (E - (f+T - 1) / T * ((f+T - 1) / T))=E - dn U.1 V.1 T * dn U.1 V.1 T:=(ao (by omega) (by omega)).trans (by rw [hgd])
   rw [← hgd] at hsq
   have hq1 : -(0+1 : Nat) * 4398046511104≤E - dn U.1 V.1 T * dn U.1 V.1 T∧E - dn U.1 V.1 T * dn U.1 V.1 T≤4398046511104:=by omega
   with_reducible repeat' (first|refine Sp.h ?_|((first|refine Wd ?_|refine Ss.h ?_|refine Sc.h (cf) ?_|(refine Sb.h ?_ ?_ ?_<;>(try intro hgd)<;>try exact Xy))<;>simp -implicitDefEqProofs (maxSteps:=2000000) [hP,hN,g14,hb14,g17,hb17,g18,g15,g20,g12,hb12,g13,hb13,g66,w1,w2,w3,w4,w5,w6,w7,w8,w9,w10,hm]<;>try refine Ya ?_)|refine X2 ?_ ?_|(refine Xd ?_ ?_<;>intro hcd<;>try exact Xx))
   all_goals first|exact ⟨hq1,hpr'⟩|exact ⟨hq1.1,hq1.2,hpr'⟩|exact ⟨by omega,fun x hx=>hpr' 0 (by omega) x hx⟩
 ·have hlo : -281474976710656≤U.2.1.1 - V.2.1.2∧U.2.1.1 - V.2.1.2≤281474976710656:=by omega
  have hhi : -281474976710656≤U.2.1.2 - V.2.1.1∧U.2.1.2 - V.2.1.1≤281474976710656:=by omega
  have cf:=Cd (U.2.1.1 - V.2.1.2) (U.2.1.2 - V.2.1.1) (by omega) (by omega)
  have hfr:=pT hlo hhi
  have hga:=rR hfr.1 (by omega) hTr.1 hTr.2
  have hgd : dn U.2.1 V.2.1 T=(jX (U.2.1.1 - V.2.1.2) (U.2.1.2 - V.2.1.1)+T - 1) / T:=rfl
  have w1 : IntKind.i64.wrap (U.2.1.1 - V.2.1.2)=U.2.1.1 - V.2.1.2:=ao
  have w2 : IntKind.i64.wrap (U.2.1.2 - V.2.1.1)=U.2.1.2 - V.2.1.1:=ao
  generalize jX (U.2.1.1 - V.2.1.2) (U.2.1.2 - V.2.1.1)=f at *
  have w3 : IntKind.i64.wrap (f+T)=f+T:=ao
  have w4 : IntKind.i64.wrap (f+T - 1)=f+T - 1:=ao
  have w5 : (f+T - 1).tdiv T=(f+T - 1) / T:=Int.tdiv_eq_ediv_of_nonneg (by omega)
  have w6 : IntKind.i64.wrap ((f+T - 1) / T)=(f+T - 1) / T:=ao
  have w7 : ¬ T=0:=by omega
  have w8 : (T==0)=false:=by simp;omega
  by_cases hm : re < dn U.2.1 V.2.1 T
  ·have hno : lx (ei U V T) re=-1:=by
    have hm' : ¬ dn U.2.1 V.2.1 T≤re:=by omega
    unfold lx ei;simp [hm']
   rw [hno]
   rw [hgd] at hm
   exact Gy
  ·have hsq:=j0 (x:=dn U.2.1 V.2.1 T) (m:=re) (by omega) (by omega)
   have hEs : gH (ei U V T) re (1+1)=gH (ei U V T) re 1 - dn U.2.1 V.2.1 T * dn U.2.1 V.2.1 T:=by simp [gH,ei]
   have hpr' : ∀ j < 1+1,∀ x,(ei U V T)[j]?=some x→0≤x∧x≤re:=fun j hj x hx=>by
    by_cases hk' : j < 1
    ·exact hpr j hk' x hx
    ·have : j=1:=by omega
     subst this
     have : x=dn U.2.1 V.2.1 T:=by simpa [ei] using hx.symm
     omega
   generalize gH (ei U V T) re (1+1)=E' at *
   generalize gH (ei U V T) re 1=E at *
   subst hEs
   rw [hgd] at hm hsq
   have w9 : IntKind.i64.wrap ((f+T - 1) / T * ((f+T - 1) / T))=(f+T - 1) / T * ((f+T - 1) / T):=ao
   have w10 : IntKind.i64.wrap (E - (f+T - 1) / T * ((f+T - 1) / T))=E - dn U.2.1 V.2.1 T * dn U.2.1 V.2.1 T:=(ao (by omega) (by omega)).trans (by rw [hgd])
   rw [← hgd] at hsq
   have hq1 : -(1+1 : Nat) * 4398046511104≤E - dn U.2.1 V.2.1 T * dn U.2.1 V.2.1 T∧E - dn U.2.1 V.2.1 T * dn U.2.1 V.2.1 T≤4398046511104:=by omega
   with_reducible repeat' (first|refine Sp.h ?_|((first|refine Wd ?_|refine Ss.h ?_|refine Sc.h (cf) ?_|(refine Sb.h ?_ ?_ ?_<;>(try intro hgd)<;>try exact Xy))<;>simp -implicitDefEqProofs (maxSteps:=2000000) [hP,hN,g14,hb14,g17,hb17,g18,g15,g20,g12,hb12,g13,hb13,g66,w1,w2,w3,w4,w5,w6,w7,w8,w9,w10,hm]<;>try refine Ya ?_)|refine X2 ?_ ?_|(refine Xd ?_ ?_<;>intro hcd<;>try exact Xx))
   all_goals first|exact ⟨hq1,hpr'⟩|exact ⟨hq1.1,hq1.2,hpr'⟩|exact ⟨by omega,fun x hx=>hpr' 0 (by omega) x hx⟩
 ·have hlo : -281474976710656≤U.2.2.1 - V.2.2.2∧U.2.2.1 - V.2.2.2≤281474976710656:=by omega
  have hhi : -281474976710656≤U.2.2.2 - V.2.2.1∧U.2.2.2 - V.2.2.1≤281474976710656:=by omega
  have cf:=Cd (U.2.2.1 - V.2.2.2) (U.2.2.2 - V.2.2.1) (by omega) (by omega)
  have hfr:=pT hlo hhi
  have hga:=rR hfr.1 (by omega) hTr.1 hTr.2
  have hgd : dn U.2.2 V.2.2 T=(jX (U.2.2.1 - V.2.2.2) (U.2.2.2 - V.2.2.1)+T - 1) / T:=rfl
  have w1 : IntKind.i64.wrap (U.2.2.1 - V.2.2.2)=U.2.2.1 - V.2.2.2:=ao
  have w2 : IntKind.i64.wrap (U.2.2.2 - V.2.2.1)=U.2.2.2 - V.2.2.1:=ao
  generalize jX (U.2.2.1 - V.2.2.2) (U.2.2.2 - V.2.2.1)=f at *
  have w3 : IntKind.i64.wrap (f+T)=f+T:=ao
  have w4 : IntKind.i64.wrap (f+T - 1)=f+T - 1:=ao
  have w5 : (f+T - 1).tdiv T=(f+T - 1) / T:=Int.tdiv_eq_ediv_of_nonneg (by omega)
  have w6 : IntKind.i64.wrap ((f+T - 1) / T)=(f+T - 1) / T:=ao
  have w7 : ¬ T=0:=by omega
  have w8 : (T==0)=false:=by simp;omega
  by_cases hm : re < dn U.2.2 V.2.2 T
  ·have hno : lx (ei U V T) re=-1:=by
    have hm' : ¬ dn U.2.2 V.2.2 T≤re:=by omega
    unfold lx ei;simp [hm']
   rw [hno]
   rw [hgd] at hm
   exact Gy
  ·have hsq:=j0 (x:=dn U.2.2 V.2.2 T) (m:=re) (by omega) (by omega)
   have hEs : gH (ei U V T) re (2+1)=gH (ei U V T) re 2 - dn U.2.2 V.2.2 T * dn U.2.2 V.2.2 T:=by simp [gH,ei]
   have hpr' : ∀ j < 2+1,∀ x,(ei U V T)[j]?=some x→0≤x∧x≤re:=fun j hj x hx=>by
    by_cases hk' : j < 2
    ·exact hpr j hk' x hx
    ·have : j=2:=by omega
     subst this
     have : x=dn U.2.2 V.2.2 T:=by simpa [ei] using hx.symm
     omega
   generalize gH (ei U V T) re (2+1)=E' at *
   generalize gH (ei U V T) re 2=E at *
   subst hEs
   rw [hgd] at hm hsq
   have w9 : IntKind.i64.wrap ((f+T - 1) / T * ((f+T - 1) / T))=(f+T - 1) / T * ((f+T - 1) / T):=ao
   have w10 : IntKind.i64.wrap (E - (f+T - 1) / T * ((f+T - 1) / T))=E - dn U.2.2 V.2.2 T * dn U.2.2 V.2.2 T:=(ao (by omega) (by omega)).trans (by rw [hgd])
   rw [← hgd] at hsq
   have hq1 : -(2+1 : Nat) * 4398046511104≤E - dn U.2.2 V.2.2 T * dn U.2.2 V.2.2 T∧E - dn U.2.2 V.2.2 T * dn U.2.2 V.2.2 T≤4398046511104:=by omega
   with_reducible repeat' (first|refine Sp.h ?_|((first|refine Wd ?_|refine Ss.h ?_|refine Sc.h (cf) ?_|(refine Sb.h ?_ ?_ ?_<;>(try intro hgd)<;>try exact Xy))<;>simp -implicitDefEqProofs (maxSteps:=2000000) [hP,hN,g14,hb14,g17,hb17,g18,g15,g20,g12,hb12,g13,hb13,g66,w1,w2,w3,w4,w5,w6,w7,w8,w9,w10,hm]<;>try refine Ya ?_)|refine X2 ?_ ?_|(refine Xd ?_ ?_<;>intro hcd<;>try exact Xx))
   all_goals first|exact ⟨hq1,hpr'⟩|exact ⟨hq1.1,hq1.2,hpr'⟩|exact ⟨by omega,fun x hx=>hpr' 0 (by omega) x hx⟩
 ·have hyes : lx (ei U V T) re=gH (ei U V T) re 3:=by
   have : (ei U V T).all (fun x=>decide (x≤re))=true:=by
    rw [List.all_eq_true]
    intro x hx
    obtain ⟨j,hj,hx⟩:=List.mem_iff_getElem.1 hx
    have hj3 : j < 3:=by simpa [ei] using hj
    have:=hpr j hj3 x (by rw [List.getElem?_eq_getElem hj,hx])
    simp;omega
   unfold lx;rw [this];rfl
  rw [hyes]
  exact Gy
theorem Gf (left right : List Int) (a : List aU) (ra : Int) (b : List aU) (rb : Int) (h1 : left.length≤9223372036854775807) (h2 : right.length≤9223372036854775807) (h3 : a.length≤9223372036854775807) (h4 : b.length≤9223372036854775807) : ah Tryz.prog 26 [.pv (zs left),.pv (zs right),.pv (bn a),.pv (Z ra),.pv (bn b),.pv (Z rb)] [] [] (.pv (B (kw left right a ra b rb && decide (0≤jb left right a ra b rb)))):=by
 have ce:=Iz left right a ra b rb h1 h2 h3 h4
 generalize kw left right a ra b rb=k at *
 generalize jb left right a ra b rb=e at *
 cases k
 all_goals (by_cases h : 0≤e)
 ·skip
  refine Dp Tryz.func26 ?_
  intro C hP hN
  simp only [Tryz.f26] at hN ⊢
  exact Gy
 ·skip
  refine Dp Tryz.func26 ?_
  intro C hP hN
  simp only [Tryz.f26] at hN ⊢
  exact Gy
 ·skip
  refine Dp Tryz.func26 ?_
  intro C hP hN
  simp only [Tryz.f26] at hN ⊢
  exact Gy
 ·skip
  refine Dp Tryz.func26 ?_
  intro C hP hN
  simp only [Tryz.f26] at hN ⊢
  exact Gy
end Go.Ab
namespace Go.Ab
theorem mQ {C : Cx} {hn : List Nat} {ops : Array Oper} {Q : St→Prop} {Q' : Exit→Act→World→Prop} {rest : List Oper} (hQ : ∀ st a w,gR C st a w→Q st→wpList C.P ops Q' rest a w) :
 ∀ {l : List Oper} {st : St} {a : Act} {w : World},gR C st a w→cz C.P hn C.N ops Q l st→wpList C.P ops Q' (l++rest) a w
 |[],st,a,w,hs,e=>hQ st a w hs e
 |o :: l,st,a,w,hs,e=>by
  obtain ⟨L,hm,hN,hdf,ht⟩:=hs
  rw [cz.eq_2] at e
  obtain ⟨hd,e⟩:=e
  rw [List.cons_append]
  refine wpList_step (fun K hK=>?_)
  split at e
  ·rename_i hg
   rw [em ht (lR hg),if_pos rfl]
   exact rL hm hN hdf ht hd e (fun eff a' w' hk hsim=>hK _ _ (mQ hQ hsim hk))
  ·rename_i d b want hg
   rw [em ht (jZ hg)]
   unfold mT at e
   simp only at e
   split at e
   ·rename_i hgt
    subst hgt
    rw [if_pos (by simp)]
    exact rL hm hN hdf ht hd e (fun eff a' w' hk hsim=>hK _ _ (mQ hQ hsim hk))
   ·rename_i hgt
    rw [if_neg (by simpa using hgt)]
    exact hK _ _ (mQ hQ (gR.put hm hN hdf ht hd (W:=[]) (bq.refl hm) (.pv (.val _))) e)
  ·exact e.elim
def rekey (h : Hp) (ks : List Nat) (k : Nat) (blk : Blk) : Hp:=fun q=>if q=k then some blk else if ks.contains q=true then none else (h q).map (pP ks)
def St.rekey (st : St) (ks : List Nat) (k : Nat) (blk : Blk) : St:=⟨fun n=>iH ks (st.t n),Go.Ab.rekey st.h ks k blk⟩
section
variable {C : Cx} {L : Nat→Loc} {h : Hp} {w : World}
end
section
variable {C : Cx} {Q : Exit→St→Prop} {st : St}
theorem xW {ops : Array Oper} {a : Act} {o : Oper} (hg : o.guard=none) : Region.wanted o (yielded ops a.tmps)=true:=by
 unfold Region.wanted;rw [hg]
end
attribute [simp] St.rekey rekey
end Go.Ab
namespace Go.Ab
def jH (ren : Nat→Nat) : AV→AV
 |.ptr k off=>.ptr (ren k) off
 |.arr k n=>.arr (ren k) n
 |x=>x
def ud (ren : Nat→Nat) : AV→AV
 |.agg cs=>.agg (cs.map (jH ren))
 |x=>jH ren x
def kv (K : List Nat) : AV→Bool
 |.pv _=>true
 |.ptr k _=>K.contains k
 |.arr k _=>K.contains k
 |_=>false
def yz (K : List Nat) : AV→Bool
 |.agg cs=>cs.all (kv K)
 |x=>kv K x
def cG : List (Nat × Blk)→Hp
 |[]=>fun _=>none
 |(k,b) :: r=>fun q=>if q=k then some b else cG r q
def gF (ren : Nat→Nat) (own : Bool) : Blk→Blk
 |.box cs _ _=>.box (cs.map (jH ren)) own false
 |b=>b
def ir (K : List Nat) (k : Nat) : Blk→Bool
 |.box cs own fz=>cs.all (kv K) && !own && !fz && decide (1000000≤k) && decide (k < 2000000)
 |.row _ _ _ fz=>decide (fz=0) && decide (2000000≤k)
 |.mp _ _ _ _=>false
def pB : Blk→Blk→Bool
 |.box _ _ _,.box _ _ _=>true
 |.row e sz xs _,.row e' sz' xs' _=>e==e' && sz==sz' && xs.length==xs'.length
 |_,_=>false
theorem eM {G : List (Nat × Blk)} {k : Nat} {b : Blk} (h : cG G k=some b) : (k,b) ∈ G:=by
 induction G with
 |nil=>cases h
 |cons x r ih=>
  obtain ⟨k',b'⟩:=x
  simp only [cG] at h
  split at h
  ·rename_i e;injection h with h;subst e;subst h;exact List.mem_cons_self
  ·exact List.mem_cons_of_mem _ (ih h)
theorem jr {G : List (Nat × Blk)} (hn : (G.map (·.1)).Nodup) {k : Nat} {b : Blk} (h : (k,b) ∈ G) : cG G k=some b:=by
 induction G with
 |nil=>cases h
 |cons x r ih=>
  obtain ⟨k',b'⟩:=x
  simp only [cG]
  rw [List.map_cons,List.nodup_cons] at hn
  rcases List.mem_cons.1 h with e|e
  ·injection e with e1 e2;subst e1;subst e2;rw [if_pos rfl]
  ·have hne : k≠k':=by
    rintro rfl
    exact hn.1 (List.mem_map.2 ⟨(k,b),e,rfl⟩)
   rw [if_neg hne];exact ih hn.2 e
section
variable {w : World} {M M' : Nat→Nat→Prop} {L L' : Nat→Loc} {h h' : Hp} {ren : Nat→Nat} {K : List Nat}
theorem ow (hM : ∀ b o,M' b o→M b o) (hk : ∀ k ∈ K,∀ blk,h (ren k)=some blk→∃ blk',h' k=some blk'∧gt blk (L (ren k)) blk' (L' k)) {x : AV} {u : Value} (ho : kv K x=true) (hx : RepA w M L h (jH ren x) u) : RepA w M' L' h' x u:=by
 cases x with
 |pv p=>cases hx with
  |pv hr=>exact .pv (hr.mono (Pres.sub hM))
 |ptr k off=>
  cases hx with
  |ptr hb=>
   obtain ⟨blk',h1,h2⟩:=hk k (by simpa [kv] using ho) _ hb
   cases blk' with
   |row=>exact h2.elim
   |mp=>exact h2.elim
   |box cs own fz=>
    have h2 : (L' k).b=(L (ren k)).b:=h2
    rw [← h2];exact .ptr h1
 |arr k n=>
  cases hx with
  |arr hb hn hu=>
   obtain ⟨blk',h1,h2⟩:=hk k (by simpa [kv] using ho) _ hb
   cases blk' with
   |box=>exact h2.elim
   |mp=>exact h2.elim
   |row e sz xs fz=>
    obtain ⟨_,_,a2,a3⟩:=h2
    refine .arr h1 (by omega) (fun e=>?_)
    have : xs.length=_:=Nat.le_antisymm (by omega) a2
    rw [a3 this];exact hu (by omega)
 |_=>cases ho
theorem BQ (hM : ∀ b o,M' b o→M b o) (hk : ∀ k ∈ K,∀ blk,h (ren k)=some blk→∃ blk',h' k=some blk'∧gt blk (L (ren k)) blk' (L' k)) {x : AV} {u : Value} (ho : yz K x=true) (hx : RepA w M L h (ud ren x) u) : RepA w M' L' h' x u:=by
 cases x with
 |agg cs=>
  cases hx with
  |agg _ vs hl hh=>
   refine .agg cs vs (by simpa using hl) (fun i p u hp hu=>?_)
   exact ow hM hk (List.all_eq_true.1 ho p (List.mem_of_getElem? hp)) (hh i _ u (by simp [hp]) hu)
 |_=>exact ow hM hk ho hx
theorem zm (hM : ∀ b o,M' b o→M b o) (hk : ∀ k ∈ K,∀ blk,h' k=some blk→∃ blk',h (ren k)=some blk'∧gt blk (L' k) blk' (L (ren k))) {x : AV} {u : Value} (ho : kv K x=true) (hx : RepA w M L' h' x u) : RepA w M' L h (jH ren x) u:=by
 cases x with
 |pv p=>cases hx with
  |pv hr=>exact .pv (hr.mono (Pres.sub hM))
 |ptr k off=>
  cases hx with
  |ptr hb=>
   obtain ⟨blk',h1,h2⟩:=hk k (by simpa [kv] using ho) _ hb
   cases blk' with
   |row=>exact h2.elim
   |mp=>exact h2.elim
   |box cs own fz=>
    have h2 : (L (ren k)).b=(L' k).b:=h2
    rw [← h2];exact .ptr h1
 |arr k n=>
  cases hx with
  |arr hb hn hu=>
   obtain ⟨blk',h1,h2⟩:=hk k (by simpa [kv] using ho) _ hb
   cases blk' with
   |box=>exact h2.elim
   |mp=>exact h2.elim
   |row e sz xs fz=>
    obtain ⟨_,_,a2,a3⟩:=h2
    refine .arr h1 (by omega) (fun e=>?_)
    have : xs.length=_:=Nat.le_antisymm (by omega) a2
    rw [a3 this];exact hu (by omega)
 |_=>cases ho
end
def vU (G : List (Nat × Blk)) (L : Nat→Loc) (b : Nat) : Prop:=∃ k blk,cG G k=some blk∧blk.live (L k)∧b=(L k).b
structure OkG (G G' : List (Nat × Blk)) : Prop where
 keys : G'.map (·.1)=G.map (·.1)
 nodup : (G.map (·.1)).Nodup
 okin : ∀ k b,(k,b) ∈ G→ir (G.map (·.1)) k b=true
 okout : ∀ k b,(k,b) ∈ G'→ir (G.map (·.1)) k b=true
 same : ∀ k b b',cG G k=some b→cG G' k=some b'→pB b b'=true
def zn (P : Program) (f : FuncId) (args : List AV) (G G' : List (Nat × Blk)) (res : PV) : Prop:=
 bK P f=true∧OkG G G'∧∀ (w : World) (M : Nat→Nat→Prop) (L : Nat→Loc) (vs : List Value),(∀ b o,M b o→b < w.heap.size)→
  (∀ k blk,cG G k=some blk→blk.live (L k)→∀ o,M (L k).b o)→
  (∀ k k' blk blk',k≠k'→cG G k=some blk→cG G k'=some blk'→blk.live (L k)→blk'.live (L k')→(L k).b≠(L k').b)→
  (∀ k blk,cG G k=some blk→bH w M L (cG G) (L k) blk)→aq w M L (cG G) args vs→
  Calls P f vs.toArray w fun e w'=>∃ v,e=.returned v∧Ext (vU G L) w w'∧(∀ k blk,cG G' k=some blk→bH w' M L (cG G') (L k) blk)∧Rep w' M res v
def CS (args : List AV) (G : List (Nat × Blk)) : St:=⟨fun n=>(args[n]?).getD .undef,cG G⟩
def wh (P : Program) (rs : List ResultVar) (G' : List (Nat × Blk)) (res : PV) (st : St) : Prop:=
 ko res=true∧(∃ r,lV P st rs=some r∧∃ W,frz st.h r=some (res,W))∧∀ kb ∈ G',st.h kb.1=some kb.2
def BR (P : Program) (rs : List ResultVar) (G' : List (Nat × Blk)) (res : PV) : Exit→St→Prop
 |.normal,st=>wh P rs G' res st
 |.ret,st=>wh P rs G' res st
 |_,_=>False
@[simp] theorem FH {P : Program} {rs : List ResultVar} {G' : List (Nat × Blk)} {res : PV} {st : St} : BR P rs G' res .normal st=wh P rs G' res st:=rfl
@[simp] theorem GH {P : Program} {rs : List ResultVar} {G' : List (Nat × Blk)} {res : PV} {st : St} : BR P rs G' res .ret st=wh P rs G' res st:=rfl
theorem yA {P : Program} {f : FuncId} {fn : Func} {c : Code} (hf : P.funcs[f]?=some fn) (hb : fn.body=some c) (hcall : bK P f=true) {args : List AV} {G G' : List (Nat × Blk)} {res : PV} (hlen : args.length≤fn.ntmps) (hok : OkG G G')
 (h : ∀ C : Cx,C.P=P→C.N=fn.ntmps→WP C c (BR P fn.results.toList G' res) (CS args G)) : zn P f args G G' res:=by
 refine ⟨hcall,hok,fun w M L vs hM hlv hsep hbl hvs=>?_⟩
 have okin : ∀ {k blk},cG G k=some blk→ir (G.map (·.1)) k blk=true:=fun hk=>hok.okin _ _ (eM hk)
 have okout : ∀ {k blk},cG G' k=some blk→ir (G.map (·.1)) k blk=true:=fun hk=>hok.okout _ _ (eM hk)
 have hnd' : (G'.map (·.1)).Nodup:=by rw [hok.keys];exact hok.nodup
 have hinout : ∀ {k blk},cG G k=some blk→∃ blk',cG G' k=some blk':=by
  intro k blk hk
  have hm : k ∈ G'.map (·.1):=by rw [hok.keys];exact List.mem_map.2 ⟨_,eM hk,rfl⟩
  obtain ⟨⟨k',b'⟩,h1,h2⟩:=List.mem_map.1 hm
  simp only at h2;subst h2
  exact ⟨b',jr hnd' h1⟩
 have houtin : ∀ {k blk},cG G' k=some blk→∃ blk',cG G k=some blk':=by
  intro k blk hk
  have hm : k ∈ G.map (·.1):=by rw [← hok.keys];exact List.mem_map.2 ⟨_,eM hk,rfl⟩
  obtain ⟨⟨k',b'⟩,h1,h2⟩:=List.mem_map.1 hm
  simp only at h2;subst h2
  exact ⟨b',jr hok.nodup h1⟩
 let rowB : Nat→Prop:=fun b=>∃ k e sz xs fz,cG G k=some (.row e sz xs fz)∧(L k).isNil=false∧b=(L k).b
 let C : Cx:={ P:=P,N:=fn.ntmps,M0:=fun b o=>M b o∧¬ rowB b,S:=vU G L,pb:=fun k=>some (L k).b,pr:=fun k=>if 2000000≤k then some (L k) else none,hpr:=(fun k hk=>by rw [if_neg (by omega)]),w0:=w }
 have hMst : ∀ b o,aD C L (cG G) b o↔M b o:=by
  intro b o
  constructor
  ·rintro (h0|⟨k,blk,hk,hl,hbb,_⟩)
   ·exact h0.1
   ·rw [← hbb];exact hlv k blk hk hl o
  ·intro hm
   by_cases hr : rowB b
   ·obtain ⟨k,e,sz,xs,fz,hk,hn,rfl⟩:=hr
    refine .inr ⟨k,_,hk,hn,rfl,?_⟩
    have:=okin hk
    simp only [ir,Bool.and_eq_true,decide_eq_true_eq] at this
    rw [this.1];simp [Blk.frz]
   ·exact .inl ⟨hm,hr⟩
 have hMeq : aD C L (cG G)=M:=by funext b o;exact propext (hMst b o)
 have hvl:=hvs.1
 have hsim : gR C (CS args G) { tmps:=vs.toArray++Array.replicate (fn.ntmps - vs.toArray.size) undef,defers:=[] } w:=by
  refine ⟨L,⟨Ext.refl _ _,fun b o h0=>hM b o h0.1,?_,hsep,?_⟩,by show (vs.toArray++Array.replicate (fn.ntmps - vs.toArray.size) undef).size=fn.ntmps;simp;omega,jz.nil _,fun n=>?_⟩
  ·intro k blk hk
   show bH w (aD C L (cG G)) L (cG G) (L k) blk
   rw [hMeq];exact hbl k blk hk
  ·intro k blk hk
   have ho:=okin hk
   cases blk with
   |mp=>cases ho
   |box cs own fz=>
    simp only [ir,Bool.and_eq_true,Bool.not_eq_true',decide_eq_true_eq] at ho
    obtain ⟨⟨⟨⟨_,h1⟩,h2⟩,h3⟩,h4⟩:=ho
    subst h1;subst h2
    refine ⟨rfl,rfl,⟨k,_,hk,trivial,rfl⟩,?_,fun o=>⟨hlv k _ hk trivial o,?_⟩⟩
    ·exact (hbl k _ hk).lt trivial
    ·rintro ⟨k',e,sz,xs,fz,hk',hn',he⟩
     by_cases e' : k=k'
     ·subst e';rw [show cG G k=_ from hk] at hk';cases hk'
     ·exact hsep k k' _ _ e' hk hk' trivial hn' he
   |row e sz xs fz=>
    simp only [ir,Bool.and_eq_true,decide_eq_true_eq] at ho
    show gi C k (L k) _
    have hpr : C.pr k=some (L k):=if_pos ho.2
    unfold gi
    simp only
    rw [hpr]
    exact ⟨rfl,fun hn=>⟨⟨k,_,hk,hn,rfl⟩,fun o h9=>h9.2 ⟨k,e,sz,xs,fz,hk,hn,rfl⟩⟩⟩
  ·show RepA w (aD C L (cG G)) L (cG G) ((args[n]?).getD .undef) _
   rw [hMeq]
   cases hp : args[n]? with
   |none=>exact .undef _
   |some p=>
    have hlt : n < vs.length:=by rw [← hvl];exact (List.getElem?_eq_some_iff.1 hp).1
    have hget : (vs.toArray++Array.replicate (fn.ntmps - vs.toArray.size) undef).getD n undef=vs[n]:=by
     rw [Array.getD_eq_getD_getElem?,Array.getElem?_append_left (by simpa using hlt)];simp [hlt]
    simp only [hget]
    exact hvs.2 n p _ hp (List.getElem?_eq_getElem hlt)
 refine calls_of_wp_defers hf hb (wp_mono (h C rfl rfl _ w hsim) ?_)
 have hfin : ∀ (a' : Act) w' st',gR C st' a' w'→wh P fn.results.toList G' res st'→jz P a'.defers∧∃ v,(results fn a'.tmps).run P w'=.ok v w'∧
  ∃ v',Ending.returned v=.returned v'∧Ext (vU G L) w w'∧(∀ k blk,cG G' k=some blk→bH w' M L (cG G') (L k) blk)∧Rep w' M res v':=by
  rintro a' w' st' ⟨L',hm,hN,hdf,ht⟩ ⟨hml,⟨r,hr,W,hW⟩,hpb⟩
  obtain ⟨u,hu1,hu2⟩:=pK (C:=C) hm ht hr
  have hpb' : ∀ {k blk},cG G' k=some blk→st'.h k=some blk:=fun hk=>hpb _ (eM hk)
  have hLr : ∀ {k e sz xs fz},cG G' k=some (.row e sz xs fz)→L' k=L k:=by
   intro k e sz xs fz hk
   have ho:=okout hk
   simp only [ir,Bool.and_eq_true,decide_eq_true_eq] at ho
   have how:=hm.own k _ (hpb' hk)
   have hpr : C.pr k=some (L k):=if_pos ho.2
   simp only [gi,hpr] at how
   exact how.1
  have hLb : ∀ {k cs own fz},cG G' k=some (.box cs own fz)→(L' k).b=(L k).b:=by
   intro k cs own fz hk
   have ho:=okout hk
   simp only [ir,Bool.and_eq_true,Bool.not_eq_true',decide_eq_true_eq] at ho
   obtain ⟨⟨⟨⟨_,h1⟩,h2⟩,h3⟩,h4⟩:=ho
   subst h1;subst h2
   have how:=(hm.own k _ (hpb' hk)).2.1
   injection how with how;exact how.symm
  have hsub : ∀ b o,M b o→aD C L' st'.h b o:=by
   intro b o hmo
   by_cases hr' : rowB b
   ·obtain ⟨k,e,sz,xs,fz,hk,hn,rfl⟩:=hr'
    obtain ⟨blk',hk'⟩:=hinout hk
    have hs:=hok.same k _ _ hk hk'
    cases blk' with
    |box=>cases hs
    |mp=>cases hs
    |row e' sz' xs' fz'=>
     have ho:=okout hk'
     simp only [ir,Bool.and_eq_true,decide_eq_true_eq] at ho
     refine .inr ⟨k,_,hpb' hk',?_,?_,?_⟩
     ·show (L' k).isNil=false;rw [hLr hk'];exact hn
     ·rw [hLr hk']
     ·rw [ho.1];simp [Blk.frz]
   ·exact .inl ⟨hmo,hr'⟩
  obtain ⟨b1,b2,_⟩:=kz hm (de.refl _) hu2 hW
  refine ⟨hdf,u,hu1,u,rfl,hm.ext,?_,?_⟩
  ·intro k blk hk
   have hbr:=hm.bl k blk (hpb' hk)
   cases blk with
   |mp=>cases okout hk
   |row e sz xs fz=>
    rw [hLr hk] at hbr
    obtain ⟨g1,g2,g3,g4,g5⟩:=hbr
    refine ⟨g1,g2,g3,g4,fun hn=>?_⟩
    obtain ⟨a1,a2,arr,a3,a4,a5⟩:=g5 hn
    exact ⟨a1,a2,arr,a3,a4,fun i x j p hx hj=>by obtain ⟨u,hu,hr⟩:=a5 i x j p hx hj;exact ⟨u,hu,hr.mono (Pres.sub hsub)⟩⟩
   |box cs own fz=>
    obtain ⟨arr,ty,e1,e2⟩:=hbr
    rw [hLb hk] at e1
    refine ⟨arr,ty,e1,e2.1,fun i p u hp hu=>?_⟩
    have ho:=okout hk
    simp only [ir,Bool.and_eq_true] at ho
    have hop:=List.all_eq_true.1 ho.1.1.1.1 p (List.mem_of_getElem? hp)
    have hx:=e2.2 i p u hp hu
    have e0 : jH id p=p:=by cases p<;>rfl
    have hx' : RepA w' (aD C L' st'.h) L' st'.h (jH id p) u:=by rw [e0];exact hx
    refine ow (ren:=id) (K:=G.map (·.1)) (M':=M) (L':=L) (h':=cG G') hsub (fun q hq blk hb=>?_) hop hx'
    ·obtain ⟨⟨q',b'⟩,h1,h2⟩:=List.mem_map.1 hq
     simp only at h2;subst h2
     obtain ⟨blk',hq'⟩:=hinout (jr hok.nodup h1)
     refine ⟨blk',hq',?_⟩
     have h9:=hpb' hq'
     have hb' : st'.h q'=some blk:=hb
     rw [hb'] at h9;injection h9 with h9;subst h9
     cases blk with
     |mp=>cases okout hq'
     |box=>exact (hLb hq').symm
     |row=>exact ⟨rfl,rfl,Nat.le_refl _,fun _=>(hLr hq').symm⟩
  ·exact o0 hml b2
 rintro e a' w' ⟨st',hs',hq⟩
 cases e with
 |normal=>obtain ⟨h1,v,h2,h3⟩:=hfin a' w' st' hs' hq;exact jA h1 h2 h3
 |ret=>obtain ⟨h1,v,h2,h3⟩:=hfin a' w' st' hs' hq;exact jA h1 h2 h3
 |exit=>exact hq.elim
 |goto=>exact hq.elim
 |panic=>exact hq.elim
 |outgrown=>exact hq.elim
def kc (h : Hp) (q : Nat) : Bool:=match h q with
 |some (.box _ own _)=>own
 |_=>false
def gp (ren : Nat→Nat) (h : Hp) (G' : List (Nat × Blk)) : List (Nat × Blk):=G'.map fun kb=>(ren kb.1,gF ren (kc h (ren kb.1)) kb.2)
theorem tc {ren : Nat→Nat} {g : Nat × Blk→Blk} : ∀ (l : List (Nat × Blk)) (h : Hp),(l.map fun x=>ren x.1).Nodup→∀ x ∈ l,ae h (l.map fun x=>(ren x.1,g x)) (ren x.1)=some (g x)
 |[],_,_,x,hx=>by cases hx
 |y :: l,h,hn,x,hx=>by
  rw [List.map_cons,List.nodup_cons] at hn
  rw [List.map_cons]
  show ae (al h (ren y.1) (some (g y))) (l.map fun x=>(ren x.1,g x)) (ren x.1)=_
  rcases List.mem_cons.1 hx with rfl|hx
  ·rw [jy,bo]
   intro kb hkb
   obtain ⟨z,hz,rfl⟩:=List.mem_map.1 hkb
   intro e
   exact hn.1 (List.mem_map.2 ⟨z,hz,e⟩)
  ·exact tc l _ hn.2 x hx
theorem ma {ren : Nat→Nat} {own : Bool} {b : Blk} {l : Loc} : (gF ren own b).live l↔b.live l:=by cases b<;>exact Iff.rfl
theorem sL {ren : Nat→Nat} {own : Bool} {b : Blk} {K : List Nat} {k o : Nat} (h : ir K k b=true) : ¬ (gF ren own b).frz o:=by
 cases b with
 |mp=>cases h
 |box cs own' fz=>simp [gF,Blk.frz]
 |row e sz xs fz=>
  simp only [ir,Bool.and_eq_true,decide_eq_true_eq] at h
  rw [h.1];simp [gF,Blk.frz]
structure Share (h : Hp) (ren : Nat→Nat) (G G' : List (Nat × Blk)) : Prop where
 ok : OkG G G'
 inj : (G.map fun x=>ren x.1).Nodup
 have_ : ∀ kb ∈ G,h (ren kb.1)=some (gF ren (kc h (ren kb.1)) kb.2)
section
variable {C : Cx} {L : Nat→Loc} {h : Hp} {w : World} {ren : Nat→Nat} {G G' : List (Nat × Blk)}
theorem Share.ren_inj (hs : Share h ren G G') {k k' : Nat} {b b' : Blk} (hk : cG G k=some b) (hk' : cG G k'=some b') (e : ren k=ren k') : k=k':=by
 obtain ⟨i,hi⟩:=List.mem_iff_getElem?.1 (eM hk)
 obtain ⟨j,hj⟩:=List.mem_iff_getElem?.1 (eM hk')
 have h1 : (G.map fun x=>ren x.1)[i]?=some (ren k):=by simp [hi]
 have h2 : (G.map fun x=>ren x.1)[j]?=some (ren k'):=by simp [hj]
 obtain ⟨l1,e1⟩:=List.getElem?_eq_some_iff.1 h1
 obtain ⟨l2,e2⟩:=List.getElem?_eq_some_iff.1 h2
 have : i=j:=(List.getElem_inj hs.inj).1 (e1.trans (e.trans e2.symm))
 subst this
 rw [hi] at hj;injection hj with hj;injection hj with hj
theorem Share.inout (hs : Share h ren G G') {k : Nat} {blk : Blk} (hk : cG G k=some blk) : ∃ blk',cG G' k=some blk':=by
 have hm : k ∈ G'.map (·.1):=by rw [hs.ok.keys];exact List.mem_map.2 ⟨_,eM hk,rfl⟩
 obtain ⟨⟨k',b'⟩,h1,h2⟩:=List.mem_map.1 hm
 simp only at h2;subst h2
 exact ⟨b',jr (by rw [hs.ok.keys];exact hs.ok.nodup) h1⟩
theorem Share.outin (hs : Share h ren G G') {k : Nat} {blk : Blk} (hk : cG G' k=some blk) : ∃ blk',cG G k=some blk':=by
 have hm : k ∈ G.map (·.1):=by rw [← hs.ok.keys];exact List.mem_map.2 ⟨_,eM hk,rfl⟩
 obtain ⟨⟨k',b'⟩,h1,h2⟩:=List.mem_map.1 hm
 simp only at h2;subst h2
 exact ⟨b',jr hs.ok.nodup h1⟩
theorem Share.at_ (hs : Share h ren G G') {k : Nat} {blk : Blk} (hk : cG G k=some blk) : h (ren k)=some (gF ren (kc h (ren k)) blk):=hs.have_ _ (eM hk)
theorem Share.new (hs : Share h ren G G') {k : Nat} {blk : Blk} (hk : cG G' k=some blk) : ae h (gp ren h G') (ren k)=some (gF ren (kc h (ren k)) blk):=by
 have hn : (G'.map fun x=>ren x.1).Nodup:=by
  have e : (G'.map fun x=>ren x.1)=(G.map fun x=>ren x.1):=by
   have:=congrArg (List.map ren) hs.ok.keys
   simpa [List.map_map,Function.comp_def] using this
  rw [e];exact hs.inj
 exact tc (g:=fun kb=>gF ren (kc h (ren kb.1)) kb.2) G' h hn (k,blk) (eM hk)
theorem Share.other (hs : Share h ren G G') {q : Nat} (hq : ∀ k blk,cG G k=some blk→q≠ren k) : ae h (gp ren h G') q=h q:=by
 refine jy ?_
 intro kb hkb e
 obtain ⟨⟨k,b⟩,hz,rfl⟩:=List.mem_map.1 hkb
 obtain ⟨blk',hk'⟩:=hs.outin (jr (by rw [hs.ok.keys];exact hs.ok.nodup) hz)
 exact hq k _ hk' e.symm
theorem Share.cases (hs : Share h ren G G') {q : Nat} {b : Blk} (hq : ae h (gp ren h G') q=some b) :
 (∃ k blk blk',cG G k=some blk∧cG G' k=some blk'∧q=ren k∧b=gF ren (kc h (ren k)) blk')∨((∀ k blk,cG G k=some blk→q≠ren k)∧h q=some b):=by
 by_cases hc : ∃ k blk,cG G k=some blk∧q=ren k
 ·obtain ⟨k,blk,hk,rfl⟩:=hc
  obtain ⟨blk',hk'⟩:=hs.inout hk
  rw [hs.new hk'] at hq;injection hq with hq
  exact .inl ⟨k,blk,blk',hk,hk',rfl,hq.symm⟩
 ·have hne : ∀ k blk,cG G k=some blk→q≠ren k:=fun k blk hk e=>hc ⟨k,blk,hk,e⟩
  rw [hs.other hne] at hq
  exact .inr ⟨hne,hq⟩
theorem wi {b b' : Blk} {l : Loc} {ren : Nat→Nat} {own : Bool} (h : pB b b'=true) : gt (gF ren own b) l (gF ren own b') l:=by
 cases b<;>cases b'<;>first|(cases h;done)|skip
 ·exact rfl
 ·simp only [pB,Bool.and_eq_true,beq_iff_eq] at h
  exact ⟨h.1.1.symm,h.1.2.symm,Nat.le_of_eq h.2,fun _=>rfl⟩
theorem Share.okin (hs : Share h ren G G') {k : Nat} {b : Blk} (hk : cG G k=some b) : ir (G.map (·.1)) k b=true:=hs.ok.okin _ _ (eM hk)
theorem Share.okout (hs : Share h ren G G') {k : Nat} {b : Blk} (hk : cG G' k=some b) : ir (G.map (·.1)) k b=true:=hs.ok.okout _ _ (eM hk)
theorem Share.view (hs : Share h ren G G') (hm : MemL C L h w) {k : Nat} {blk : Blk} (hk : cG G k=some blk) : bH w (aD C L h) (fun k=>L (ren k)) (cG G) (L (ren k)) blk:=by
 have hb:=hm.bl _ _ (hs.at_ hk)
 cases blk with
 |mp=>cases hs.okin hk
 |row e sz xs fz=>exact hb
 |box cs own fz=>
  obtain ⟨arr,ty,e1,e2⟩:=hb
  have ho:=hs.okin hk
  simp only [ir,Bool.and_eq_true] at ho
  refine ⟨arr,ty,e1,by simpa using e2.1,fun i p u hp hu=>?_⟩
  refine ow (ren:=ren) (K:=G.map (·.1)) (fun b o h=>h) (fun q hq b hb=>?_) (List.all_eq_true.1 ho.1.1.1.1 p (List.mem_of_getElem? hp)) (e2.2 i _ u (by simp [hp]) hu)
  obtain ⟨⟨q',b'⟩,h1,h2⟩:=List.mem_map.1 hq
  simp only at h2;subst h2
  have hq':=jr hs.ok.nodup h1
  refine ⟨b',hq',?_⟩
  rw [hs.at_ hq'] at hb;injection hb with hb;subst hb
  cases b' with
  |mp=>exact ⟨rfl,rfl,rfl⟩
  |box=>exact rfl
  |row=>exact ⟨rfl,rfl,Nat.le_refl _,fun _=>rfl⟩
theorem MemL.shareStep (hm : MemL C L h w) (hs : Share h ren G G') {w' : World} (hx : Ext (vU G (fun k=>L (ren k))) w w')
 (hb : ∀ k blk,cG G' k=some blk→bH w' (aD C L h) (fun k=>L (ren k)) (cG G') (L (ren k)) blk) : bq C L h w L (ae h (gp ren h G')) w':=by
 have hMM : ∀ b o,aD C L (ae h (gp ren h G')) b o→aD C L h b o:=by
  rintro b o (h0|⟨q,blk,hq,hl,hqb,hf⟩)
  ·exact .inl h0
  ·rcases hs.cases hq with ⟨k,b1,b2,hk,hk',rfl,rfl⟩|⟨_,hq'⟩
   ·refine .inr ⟨ren k,_,hs.at_ hk,?_,hqb,sL (hs.okin hk)⟩
    have hsm:=hs.ok.same k _ _ hk hk'
    cases b1<;>cases b2<;>first|(cases hsm;done)|exact hl
   ·exact .inr ⟨q,blk,hq',hl,hqb,hf⟩
 have hkc : KC L h L (ae h (gp ren h G')):=by
  intro q blk hq
  by_cases hc : ∃ k b,cG G k=some b∧q=ren k
  ·obtain ⟨k,b,hk,rfl⟩:=hc
   obtain ⟨b',hk'⟩:=hs.inout hk
   rw [hs.at_ hk] at hq;injection hq with hq;subst hq
   exact ⟨_,hs.new hk',wi (hs.ok.same k _ _ hk hk')⟩
  ·exact ⟨blk,by rw [hs.other (fun k b hk e=>hc ⟨k,b,hk,e⟩)];exact hq,fc _ _⟩
 have hpres : Pres w (aD C L h) w' (aD C L (ae h (gp ren h G'))):=by
  refine Pres.ext hx (fun b _ hsb o=>?_) fun b o _ h9=>hMM b o h9
  obtain ⟨k,blk,hk,hl,rfl⟩:=hsb
  exact .inr ⟨ren k,_,hs.at_ hk,ma.2 hl,rfl,sL (hs.okin hk)⟩
 refine ⟨⟨?_,hm.m0,?_,?_,?_⟩,hpres,hkc⟩
 ·refine hm.ext.trans hx (fun b hb0 hmem=>?_)
  obtain ⟨k,blk,hk,hl,rfl⟩:=hmem
  have hb1 : (L (ren k)).b < C.w0.heap.size:=hb0
  have how:=hm.own _ _ (hs.at_ hk)
  cases blk with
  |mp=>cases hs.okin hk
  |box cs own fz=>
   cases hown : kc h (ren k) with
   |false=>rw [hown] at how;exact how.2.2.1
   |true=>
    rw [hown] at how
    rcases how with h9|h9
    ·omega
    ·exact h9.1
  |row e sz xs fz=>
   rcases how.row hl with h9|h9
   ·omega
   ·exact h9.1
 ·intro q blk hq
  rcases hs.cases hq with ⟨k,b1,b2,hk,hk',rfl,rfl⟩|⟨hne,hq'⟩
  ·have hbr:=hb k b2 hk'
   cases b2 with
   |mp=>cases hs.okout hk'
   |row e sz xs fz=>
    obtain ⟨g1,g2,g3,g4,g5⟩:=hbr
    refine ⟨g1,g2,g3,g4,fun hn=>?_⟩
    obtain ⟨a1,a2,arr,a3,a4,a5⟩:=g5 hn
    exact ⟨a1,a2,arr,a3,a4,fun i x j p hx9 hj=>by obtain ⟨u,hu,hr⟩:=a5 i x j p hx9 hj;exact ⟨u,hu,hr.mono (Pres.sub hMM)⟩⟩
   |box cs own fz=>
    obtain ⟨arr,ty,e1,e2⟩:=hbr
    have ho:=hs.okout hk'
    simp only [ir,Bool.and_eq_true] at ho
    refine ⟨arr,ty,e1,by simpa using e2.1,fun i p u hp hu=>?_⟩
    simp only [List.getElem?_map,Option.map_eq_some_iff] at hp
    obtain ⟨y,hy,rfl⟩:=hp
    refine zm (ren:=ren) (K:=G.map (·.1)) (L':=fun k=>L (ren k)) (h':=cG G') hMM (fun q hq b hb=>?_) (List.all_eq_true.1 ho.1.1.1.1 y (List.mem_of_getElem? hy)) (e2.2 i y u hy hu)
    refine ⟨_,hs.new hb,?_⟩
    cases b with
    |mp=>exact ⟨rfl,rfl,rfl⟩
    |box=>exact rfl
    |row=>exact ⟨rfl,rfl,Nat.le_refl _,fun _=>rfl⟩
  ·refine (hm.bl q blk hq').mono hpres hkc (fun hl=>hx.block _ ((hm.bl q blk hq').lt hl) ?_)
   rintro ⟨k,b,hk,hl',e⟩
   exact hm.sep q (ren k) _ _ (hne k b hk) hq' (hs.at_ hk) hl (ma.2 hl') e
 ·have aux : ∀ q b,ae h (gp ren h G') q=some b→b.live (L q)→∃ b0,h q=some b0∧b0.live (L q):=by
   intro q b hq hl
   rcases hs.cases hq with ⟨k,b1,b2,hk,hk',rfl,rfl⟩|⟨_,hq'⟩
   ·refine ⟨_,hs.at_ hk,?_⟩
    have hsm:=hs.ok.same k _ _ hk hk'
    cases b1<;>cases b2<;>first|(cases hsm;done)|exact hl
   ·exact ⟨b,hq',hl⟩
  intro q q' b1 b2 hne hq hq' hl hl'
  obtain ⟨c1,d1,f1⟩:=aux q b1 hq hl
  obtain ⟨c2,d2,f2⟩:=aux q' b2 hq' hl'
  exact hm.sep q q' c1 c2 hne d1 d2 f1 f2
 ·intro q blk hq
  rcases hs.cases hq with ⟨k,b1,b2,hk,hk',rfl,rfl⟩|⟨_,hq'⟩
  ·have how:=hm.own _ _ (hs.at_ hk)
   have hsm:=hs.ok.same k _ _ hk hk'
   cases b1<;>cases b2<;>first|(cases hsm;done)|skip
   ·cases hown : kc h (ren k) with
    |false=>rw [hown] at how;exact how
    |true=>rw [hown] at how;exact how
   ·exact how
  ·exact hm.own q blk hq'
end
section
variable {C : Cx} {Q : Exit→St→Prop} {st : St}
def td (C : Cx) (Q : St→Prop) (f : Operand) (xs : List Operand) (d : Option Nat) (st : St) : Prop:=
 ∃ g args G G' res ren,bE (st.ev f)=some (g,[],[])∧zn C.P g args G G' res∧ko res=true∧xs.map st.ev=args.map (ud ren)∧args.all (yz (G.map (·.1)))=true∧(G.map fun x=>ren x.1).Nodup∧
  (∀ kb ∈ G,st.h (ren kb.1)=some (gF ren (kc st.h (ren kb.1)) kb.2))∧dI C.N d=true∧Q (st.put d (.pv res) (gp ren st.h G'))
theorem WP.share {hn : List Nat} {id : Nat} {ops : Array Oper} {pre post : List Oper} {o : Oper} {f : Operand} {xs : List Operand} {ats : Array TypeId} (hops : ops.toList=pre++o :: post) (hop : o.op=.call { callee:=.value f,args:=xs.toArray,argTypes:=ats }) (hg : o.guard=none)
 (hq : cz C.P hn C.N ops (td C (cz C.P hn C.N ops (Q .normal) post) f xs o.dst) pre st) : WP C (.region id ops false) Q st:=by
 intro a w hs
 refine wp_region_list ?_
 rw [hops]
 refine mQ (fun st1 a1 w1 hs1 hq1=>?_) hs hq
 obtain ⟨g,args,G,G',res,ren,hce,⟨hcall,hok,hD⟩,hml,hargs,hokA,hinj,hhave,hdN,hQ⟩:=hq1
 obtain ⟨L,hm,hN,hdf,ht⟩:=hs1
 have hsh : Share st1.h ren G G':=⟨hok,hinj,hhave⟩
 refine wpList_step (fun K hK=>?_)
 rw [xW hg,if_pos rfl]
 obtain ⟨vs,us,hfv,hv1,hv2⟩:=pc (eX ht f) hce
 have hvs:=hv1.nil_inv
 have hus:=hv2.nil_inv
 subst hvs;subst hus
 have hlenA : xs.length=args.length:=by have:=congrArg List.length hargs;simpa using this
 have hrepA : aq w1 (aD C L st1.h) (fun k=>L (ren k)) (cG G) args (xs.map a1.eval):=by
  refine ⟨by simp [hlenA],fun i p u hp hu=>?_⟩
  simp only [List.getElem?_map,Option.map_eq_some_iff] at hu
  obtain ⟨x,hx,rfl⟩:=hu
  have he:=congrArg (fun l : List AV=>l[i]?) hargs
  simp only [List.getElem?_map,hx,hp,Option.map_some,Option.some.injEq] at he
  have hr:=eX ht x
  rw [he] at hr
  refine BQ (K:=G.map (·.1)) (fun b o h=>h) (fun q hq b hb=>?_) (List.all_eq_true.1 hokA p (List.mem_of_getElem? hp)) hr
  obtain ⟨⟨q',b'⟩,h1,h2⟩:=List.mem_map.1 hq
  simp only at h2;subst h2
  have hq':=jr hsh.ok.nodup h1
  refine ⟨b',hq',?_⟩
  rw [hsh.at_ hq'] at hb;injection hb with hb;subst hb
  cases b' with
  |mp=>exact ⟨rfl,rfl,rfl⟩
  |box=>exact rfl
  |row=>exact ⟨rfl,rfl,Nat.le_refl _,fun _=>rfl⟩
 have hcalls:=hD w1 (aD C L st1.h) (fun k=>L (ren k)) (xs.map a1.eval) (fun b o h=>hm.mlt h)
  (fun k blk hk hl o=>.inr ⟨ren k,_,hsh.at_ hk,ma.2 hl,rfl,sL (hsh.okin hk)⟩)
  (fun k k' b b' hne hk hk' hl hl'=>hm.sep (ren k) (ren k') _ _ (fun e=>hne (hsh.ren_inj hk hk' e)) (hsh.at_ hk) (hsh.at_ hk') (ma.2 hl) (ma.2 hl'))
  (fun k blk hk=>hsh.view hm hk) hrepA
 have hrun : (execOp a1.eval o).run C.P w1=.ok (.enter g (xs.map a1.eval).toArray) w1:=by
  unfold bK at hcall
  cases hfn : C.P.funcs[g]? with
  |none=>rw [hfn] at hcall;cases hcall
  |some fn=>
   rw [hfn] at hcall
   simp only [Bool.and_eq_true,Bool.not_eq_true',beq_eq_false_iff_ne,ne_eq] at hcall
   have hb : fn.body.isNone=false:=by cases hbb : fn.body<;>simp_all
   unfold execOp
   rw [hop]
   simp only [resolve,hfv,Deferred.ofValue,pure_bind,Sem.run_bind,Result.andThen_ok,invoke,callFunc,program,Sem.run,hfn]
   simp [hcall.2,hb]
 unfold Oper.wp
 rw [hrun]
 simp only [Oper.upon]
 refine hcalls.mono ?_
 rintro ee w' ⟨v,rfl,hx,hb,hr⟩
 have hA:=hm.shareStep hsh hx hb
 refine hK _ _ ?_
 exact md (fun st' a' w' hs' hq'=>⟨st',hs',hq'⟩) (gR.put hm hN hdf ht hdN hA (.pv (o0 hml hr))) hQ
end
attribute [simp] ud jH yz kv cG gF ir pB gp kc
end Go.Ab
namespace Go.Ab
open Go.Proofs
def j2 (x : Int) : Int:=dw (max x (-x)) 65536 * dw (max x (-x)) 65536
def ly (v : Vc) (rho : Int) : Bool:=decide (j2 v.1+j2 v.2.1+j2 v.2.2≤rho * rho)
theorem nq {x : Int} (h : -35184372088832≤x∧x≤35184372088832) : (0≤dw (max x (-x)) 65536∧dw (max x (-x)) 65536≤536870912)∧0≤j2 x∧j2 x≤288230376151711744:=by
 have h1 : 0≤dw (max x (-x)) 65536∧dw (max x (-x)) 65536≤536870912:=by unfold dw;omega
 have h2:=j0 h1.1 h1.2
 exact ⟨h1,h2.1,by unfold j2;omega⟩
theorem IC (v : Vc) (rho : Int) (hv : eJ 35184372088832 v) (hr : 0≤rho∧rho≤2097152) : ah Tryz.prog 91 [.pv (aG v),.pv (Z rho)] [] [] (.pv (B (ly v rho))):=by
 obtain ⟨v1,v2,v3⟩:=hv
 have c1:=wZ (max v.1 (-v.1)) (by omega) (by omega)
 have c2:=wZ (max v.2.1 (-v.2.1)) (by omega) (by omega)
 have c3:=wZ (max v.2.2 (-v.2.2)) (by omega) (by omega)
 have q1:=nq v1
 have q2:=nq v2
 have q3:=nq v3
 have qr:=j0 hr.1 hr.2
 have n1 : IntKind.i64.wrap (0 - v.1)=-v.1:=(ao (n:=0 - v.1) (by omega) (by omega)).trans (by omega)
 have n2 : IntKind.i64.wrap (0 - v.2.1)=-v.2.1:=(ao (n:=0 - v.2.1) (by omega) (by omega)).trans (by omega)
 have n3 : IntKind.i64.wrap (0 - v.2.2)=-v.2.2:=(ao (n:=0 - v.2.2) (by omega) (by omega)).trans (by omega)
 have n1' : IntKind.i64.wrap (-v.1)=-v.1:=(ao (n:=-v.1) (by omega) (by omega))
 have n2' : IntKind.i64.wrap (-v.2.1)=-v.2.1:=(ao (n:=-v.2.1) (by omega) (by omega))
 have n3' : IntKind.i64.wrap (-v.2.2)=-v.2.2:=(ao (n:=-v.2.2) (by omega) (by omega))
 have hd : ly v rho=decide (j2 v.1+j2 v.2.1+j2 v.2.2≤rho * rho):=rfl
 rw [hd]
 have d1 : j2 v.1=dw (max v.1 (-v.1)) 65536 * dw (max v.1 (-v.1)) 65536:=rfl
 have d2 : j2 v.2.1=dw (max v.2.1 (-v.2.1)) 65536 * dw (max v.2.1 (-v.2.1)) 65536:=rfl
 have d3 : j2 v.2.2=dw (max v.2.2 (-v.2.2)) 65536 * dw (max v.2.2 (-v.2.2)) 65536:=rfl
 generalize j2 v.1=s1 at *
 generalize j2 v.2.1=s2 at *
 generalize j2 v.2.2=s3 at *
 generalize dw (max v.1 (-v.1)) 65536=t1 at *
 generalize dw (max v.2.1 (-v.2.1)) 65536=t2 at *
 generalize dw (max v.2.2 (-v.2.2)) 65536=t3 at *
 generalize hrr : rho * rho=rr at *
 have u1 : IntKind.i64.wrap (t1 * t1)=s1:=(ao (by rw [← d1];omega) (by rw [← d1];omega)).trans d1.symm
 have u2 : IntKind.i64.wrap (t2 * t2)=s2:=(ao (by rw [← d2];omega) (by rw [← d2];omega)).trans d2.symm
 have u3 : IntKind.i64.wrap (t3 * t3)=s3:=(ao (by rw [← d3];omega) (by rw [← d3];omega)).trans d3.symm
 have ur : IntKind.i64.wrap rr=rr:=ao
 have x1 : IntKind.i64.wrap s1=s1:=ao
 have x2 : IntKind.i64.wrap (s1+s2)=s1+s2:=ao
 have x3 : IntKind.i64.wrap (s1+s2+s3)=s1+s2+s3:=ao
 clear d1 d2 d3 q1 q2 q3
 refine Dp Tryz.func91 ?_
 intro C hP hN
 simp only [Tryz.f91] at hN ⊢
 refine Gz ?_
 refine WP.loopN [] 3 (fun k st=>st.t 9=.pv (aG v)∧st.t 10=.pv (Z k)∧st.t 1=.pv (Z rho)∧st.t 5=.pv (Z (if k=0 then 0 else if k=1 then s1 else if k=2 then s1+s2 else s1+s2+s3))) (by simp) ?_
 rintro k st hk ⟨g9,g10,g1,g5⟩
 rcases cE hk with rfl|rfl|rfl|rfl
 all_goals (simp at g5 g10)
 ·skip
  exact Gy
 ·skip
  exact Gy
 ·skip
  exact Gy
 ·skip
  exact Gy
def jD (x s : Vc) : Int:=if bT x (bA x s)≤0 then 0 else min 256 (bT x (bA x s) / max 1 (bT (bA x s) (bA x s) / 256))
theorem nN {v w : Vc} {a b : Int} (hv : eJ a v) (hw : eJ b w) : eJ (a+b) (bA v w):=by
 obtain ⟨v1,v2,v3⟩:=hv
 obtain ⟨w1,w2,w3⟩:=hw
 refine ⟨?_,?_,?_⟩<;>(simp only [bA];omega)
theorem jO (x s : Vc) : 0≤jD x s∧jD x s≤256:=by
 unfold jD
 split
 ·omega
 ·rename_i h
  have h1 : 0≤bT x (bA x s) / max 1 (bT (bA x s) (bA x s) / 256):=Int.ediv_nonneg (by omega) (by omega)
  omega
theorem ic {v : Vc} {a b : Int} (h : eJ a v) (hab : a≤b) : eJ b v:=by
 obtain ⟨v1,v2,v3⟩:=h
 exact ⟨by omega,by omega,by omega⟩
theorem tU (v : Vc) : 0≤bT v v:=by
 have h : ∀ x : Int,0≤x * x:=fun x=>by
  rcases Int.le_total 0 x with h|h
  ·exact Int.mul_nonneg h h
  ·have:=Int.mul_nonneg (show 0≤-x by omega) (show 0≤-x by omega)
   rw [Int.neg_mul_neg] at this;exact this
 have h1:=h v.1
 have h2:=h v.2.1
 have h3:=h v.2.2
 unfold bT;omega
theorem ID (x s : Vc) (hx : eJ 536870912 x) (hs : eJ 536870912 s) : ah Tryz.prog 96 [.pv (aG x),.pv (aG s)] [] [] (.pv (Z (jD x s))):=by
 have he:=nN hx hs
 have cm:=EO x s (ic hx (by decide)) (ic hs (by decide))
 have cd:=uE x (bA x s) 536870912 1073741824 hx he (by decide)
 have ce:=uE (bA x s) (bA x s) 1073741824 1073741824 he he (by decide)
 obtain ⟨r1,r2,r3⟩:=jC (m:=536870912) (n:=1073741824) hx he
 obtain ⟨t1,t2,t3⟩:=jC (m:=1073741824) (n:=1073741824) he he
 have hu : -1729382256910270464≤bT x (bA x s)∧bT x (bA x s)≤1729382256910270464:=by unfold bT;omega
 have hv : bT (bA x s) (bA x s)≤3458764513820540928:=by unfold bT;omega
 have hv0:=tU (bA x s)
 have hp : jD x s=if bT x (bA x s)≤0 then 0 else min 256 (bT x (bA x s) / max 1 (bT (bA x s) (bA x s) / 256)):=rfl
 rw [hp]
 clear r1 r2 r3 t1 t2 t3 he
 generalize bT x (bA x s)=u at *
 generalize bT (bA x s) (bA x s)=v at *
 generalize bA x s=e at *
 by_cases h0 : u≤0
 ·rw [if_pos h0]
  refine Dp Tryz.func96 ?_
  intro C hP hN
  simp only [Tryz.f96] at hN ⊢
  exact Gy
 ·rw [if_neg h0]
  have a1 : v.tdiv 256=v / 256:=Int.tdiv_eq_ediv_of_nonneg hv0
  have a2 : IntKind.i64.wrap (v / 256)=v / 256:=ao
  have hm : 1≤max 1 (v / 256):=by omega
  generalize hmm : max 1 (v / 256)=m at *
  have a3 : u.tdiv m=u / m:=Int.tdiv_eq_ediv_of_nonneg (by omega)
  have h4 : u / m≤u:=Int.ediv_le_self m (by omega)
  have h5 : 0≤u / m:=Int.ediv_nonneg (by omega) (by omega)
  have a4 : IntKind.i64.wrap (u / m)=u / m:=ao
  have a5 : ¬ m=0:=by omega
  have a6 : (m==0)=false:=by simp;omega
  refine Dp Tryz.func96 ?_
  intro C hP hN
  simp only [Tryz.f96] at hN ⊢
  exact Gy
end Go.Ab
namespace Go.Ab
open Go.Proofs
def dM (w : List Int) (t : Int) (i : Nat) : List Int:=w.mapIdx fun j k=>if j < i then k - k * t / 256 else k
def dO (w : List Int) (t : Int) : Nat→Int
 |0=>0
 |i+1=>dO w t i+(w[i]?).getD 0 * t / 256
def iA (w : List Int) (q : Nat) (t : Int) : List Int:=(dM w t w.length).set q (((dM w t w.length)[q]?).getD 0+dO w t w.length)
theorem kC (w : List Int) (t : Int) (i : Nat) : (dM w t i).length=w.length:=by simp [dM]
theorem ie (w : List Int) (t : Int) (i j : Nat) : (dM w t i)[j]?=(w[j]?).map fun k=>if j < i then k - k * t / 256 else k:=by simp [dM,List.getElem?_mapIdx]
theorem pV (w : List Int) (t : Int) : dM w t 0=w:=by
 apply List.ext_getElem?
 intro j
 rw [ie];cases w[j]?<;>simp
theorem pW {w : List Int} {t : Int} {i : Nat} {k : Int} (hk : w[i]?=some k) : dM w t (i+1)=(dM w t i).set i (k - k * t / 256):=by
 apply List.ext_getElem?
 intro j
 rw [List.getElem?_set,ie,ie,kC]
 by_cases e : i=j
 ·subst e
  obtain ⟨h,_⟩:=List.getElem?_eq_some_iff.1 hk
  rw [hk];simp [h]
 ·rw [if_neg e]
  cases w[j]? with
  |none=>rfl
  |some x=>
   simp only [Option.map_some]
   congr 1
   by_cases h : j < i
   ·rw [if_pos h,if_pos (by omega)]
   ·rw [if_neg h,if_neg (by omega)]
theorem sS (w : List Int) : ∀ i,bD w i=(w.take i).sum
 |0=>by simp [bD]
 |i+1=>by
  rw [List.take_succ]
  cases h : w[i]? with
  |none=>simp [bD,h,sS w i]
  |some k=>simp [bD,h,sS w i]
theorem sT (w : List Int) : bD w w.length=w.sum:=by rw [sS,List.take_length]
theorem uF {w : List Int} {q : Nat} {x y : Int} (h : w[q]?=some y) : (w.set q x).sum=w.sum - y+x:=by
 induction w generalizing q with
 |nil=>simp at h
 |cons a r ih=>
  cases q with
  |zero=>simp at h;subst h;simp;omega
  |succ q=>simp at h;simp only [List.set_cons_succ,List.sum_cons,ih h];omega
theorem xd (w : List Int) (t : Int) : ∀ i,i≤w.length→(dM w t i).sum=w.sum - dO w t i
 |0,_=>by simp [pV,dO]
 |i+1,h=>by
  have hk : w[i]?=some w[i]:=List.getElem?_eq_getElem (by omega)
  have hkk : (dM w t i)[i]?=some w[i]:=by rw [ie,hk];simp
  rw [pW hk,uF hkk,xd w t i (by omega)]
  simp only [dO,hk,Option.getD_some];omega
theorem DU {w : List Int} {q : Nat} {t : Int} (hq : q < w.length) : (iA w q t).sum=w.sum:=by
 have hlen:=kC w t w.length
 have hk : (dM w t w.length)[q]?=some ((dM w t w.length)[q]'(by omega)):=List.getElem?_eq_getElem (by omega)
 unfold iA
 rw [uF hk,xd w t _ (Nat.le_refl _),hk]
 simp only [Option.getD_some];omega
theorem lz {k t : Int} (hk : 0≤k) (ht : 0≤t) (ht2 : t≤256) : 0≤k * t∧k * t≤k * 256∧0≤k * t / 256∧k * t / 256≤k:=by
 have h1 : 0≤k * t:=Int.mul_nonneg hk ht
 have h2 : k * t≤k * 256:=Int.mul_le_mul_of_nonneg_left ht2 hk
 omega
theorem lA {w : List Int} {t : Int} (hw : ∀ k ∈ w,0≤k) (ht : 0≤t) (ht2 : t≤256) : ∀ i,0≤dO w t i∧dO w t i≤bD w i
 |0=>by simp [dO,bD]
 |i+1=>by
  have ih:=lA hw ht ht2 i
  cases h : w[i]? with
  |none=>simp [dO,bD,h];omega
  |some k=>
   have:=lz (hw k (List.mem_of_getElem? h)) ht ht2
   simp only [dO,bD,h,Option.getD_some];omega
theorem nu (w : List Int) (q : Nat) (t : Int) : (iA w q t).length=w.length:=by simp [iA,kC]
theorem xe {w : List Int} {q : Nat} {t : Int} (hw : WgOk w) (hq : q < w.length) (ht : 0≤t) (ht2 : t≤256) : WgOk (iA w q t):=by
 constructor
 ·intro k hk
  obtain ⟨j,hj,rfl⟩:=List.mem_iff_getElem.1 hk
  have hjl : j < w.length:=by rw [nu] at hj;exact hj
  have hwj : w[j]?=some w[j]:=List.getElem?_eq_getElem hjl
  have hp:=lz (hw.pos _ (List.getElem_mem hjl)) ht ht2
  have hkj : (dM w t w.length)[j]?=some (w[j] - w[j] * t / 256):=by rw [ie,hwj];simp [hjl]
  have hl:=lA hw.pos ht ht2 w.length
  generalize hx : (iA w q t)[j]=x
  have hg : (iA w q t)[j]?=some x:=by rw [List.getElem?_eq_getElem hj,hx]
  clear hx hk
  unfold iA at hg
  rw [List.getElem?_set] at hg
  by_cases e : q=j
  ·subst e
   rw [if_pos rfl,if_pos (by rw [kC];exact hjl),hkj] at hg
   simp only [Option.getD_some,Option.some.injEq] at hg
   omega
  ·rw [if_neg e,hkj] at hg
   simp only [Option.some.injEq] at hg
   omega
 ·rw [sT,DU hq,← sT];exact hw.tot
theorem Gi (l : List Vc) (w : List Int) (q : Nat) (t : Int) (h8 : w.length≤8) (hw : WgOk w) (hq : q < w.length) (ht : 0≤t) (ht2 : t≤256) : zn Tryz.prog 97 [.agg [.pv (bp l),.arr 2000000 w.length],.pv (Z q),.pv (Z t)] [(2000000,.row 2 1 (w.map Z) 0)] [(2000000,.row 2 1 ((iA w q t).map Z) 0)] (.tup []):=by
 refine yA Tryz.func97 rfl (by kernel_rfl) (by simp [Tryz.f97]) ?_ ?_
 ·constructor
  ·rfl
  ·simp
  ·intro k b h;simp at h;obtain ⟨rfl,rfl⟩:=h;rfl
  ·intro k b h;simp at h;obtain ⟨rfl,rfl⟩:=h;rfl
  ·intro k b b' h h'
   have e1:=eM h
   have e2:=eM h'
   simp at e1 e2
   obtain ⟨rfl,rfl⟩:=e1
   obtain ⟨_,rfl⟩:=e2
   simp [pB,nu]
 intro C hP hN
 simp only [Tryz.f97] at hN ⊢
 with_reducible repeat' (first|refine Sp.h ?_|((first|refine Ss.h ?_|(refine Sb.h ?_ ?_ ?_<;>(try intro hgd)<;>try exact Xy))<;>simp -implicitDefEqProofs (maxSteps:=2000000) [hP,hN,CS,cG])|refine X2 ?_ ?_|(refine Xd ?_ ?_<;>intro hcd<;>try exact Xx))
 refine WP.loopN [] w.length (fun i st=>st.t 3=.ptr 3 0∧st.h 3=some (.box [.pv (bp l),.arr 2000000 w.length] true false)∧st.t 11=.arr 2000000 w.length∧st.t 12=.pv (Z w.length)∧st.t 13=.pv (Z i)∧st.t 6=.pv (Z (dO w t i))∧st.t 1=.pv (Z q)∧st.t 2=.pv (Z t)∧st.h 2000000=some (.row 2 1 ((dM w t i).map Z) 0)) (by simp [pV,dO]) ?_
 rintro i st hi ⟨g3,hb3,g11,g12,g13,g6,g1,g2,hbR⟩
 have hlen:=kC w t i
 by_cases hlt : i < w.length
 ·have hwr:=bi hlt (by omega)
  generalize hxe : w[i]=k at *
  have hx : w[i]?=some k:=by rw [List.getElem?_eq_getElem hlt,hxe]
  have hkk : (dM w t i)[i]?=some k:=by rw [ie,hx];simp
  have hpos:=hw.pos k (List.mem_of_getElem? hx)
  have hp:=lz hpos ht ht2
  have hl1:=lA hw.pos ht ht2 (i+1)
  have hl0:=lA hw.pos ht ht2 i
  have hm:=fZ hw.pos (show i+1≤w.length by omega)
  have htot:=hw.tot
  have hks:=pW (t:=t) hx
  have hlo : dO w t (i+1)=dO w t i+k * t / 256:=by simp only [dO,hx,Option.getD_some]
  have hk1 : k≤65536:=by
   have a1:=kx hx
   have a2:=nM hw.pos i
   omega
  rw [hlo] at hl1
  generalize dO w t (i+1)=L' at *
  generalize dO w t i=Lo at *
  generalize dM w t (i+1)=R' at *
  generalize dM w t i=R at *
  subst hlo;subst hks
  have u1 : IntKind.i64.wrap (k * t)=k * t:=ao
  have u2 : (k * t).tdiv 256=k * t / 256:=Int.tdiv_eq_ediv_of_nonneg (by omega)
  generalize k * t / 256=p at *
  have u3 : IntKind.i64.wrap p=p:=ao
  have u4 : IntKind.i64.wrap (k - p)=k - p:=ao
  have u5 : IntKind.i64.wrap (Lo+p)=Lo+p:=ao
  have hltR : i < R.length:=by omega
  have hxk : ∀ h,R[i]'h=k:=fun h=>by rw [List.getElem?_eq_getElem h] at hkk;exact Option.some.inj hkk
  with_reducible repeat' (first|refine Sp.h ?_|((first|refine Ss.h ?_|(refine Sb.h ?_ ?_ ?_<;>(try intro hgd)<;>try exact Xy))<;>simp -implicitDefEqProofs (maxSteps:=2000000) [hP,hN,g3,hb3,g11,g12,g13,g6,g1,g2,hbR,hlen,hlt,hltR,hkk,hxk,u1,u2,u3,u4,u5,hwr])|refine X2 ?_ ?_|(refine Xd ?_ ?_<;>intro hcd<;>try exact Xx))
 ·have hin : i=w.length:=by omega
  subst hin
  have hlR:=lA hw.pos ht ht2 w.length
  have hok:=xe hw hq ht ht2
  have hgd : iA w q t=(dM w t w.length).set q (((dM w t w.length)[q]?).getD 0+dO w t w.length):=rfl
  have hwq : w[q]?=some w[q]:=List.getElem?_eq_getElem hq
  have hpq:=lz (hw.pos _ (List.getElem_mem hq)) ht ht2
  have hkq : (dM w t w.length)[q]?=some (w[q] - w[q] * t / 256):=by rw [ie,hwq];simp [hq]
  have hwk : w[q]≤65536:=by
   have a1:=kx hwq
   have a2:=nM hw.pos q
   have a3:=fZ hw.pos (show q+1≤w.length by omega)
   have a4:=hw.tot
   omega
  have htot:=hw.tot
  rw [hkq] at hgd
  simp only [Option.getD_some] at hgd
  have hkr : 0≤w[q] - w[q] * t / 256∧w[q] - w[q] * t / 256≤65536:=by omega
  generalize w[q] - w[q] * t / 256=kq at *
  rw [hgd]
  generalize dM w t w.length=R at *
  generalize dO w t w.length=Lo at *
  have hltR : q < R.length:=by omega
  have hxk : ∀ h,R[q]'h=kq:=fun h=>by rw [List.getElem?_eq_getElem h] at hkq;exact Option.some.inj hkq
  have u5 : IntKind.i64.wrap (kq+Lo)=kq+Lo:=ao
  with_reducible repeat' (first|refine Sp.h ?_|((first|refine Ss.h ?_|(refine Sb.h ?_ ?_ ?_<;>(try intro hgd)<;>try exact Xy))<;>simp -implicitDefEqProofs (maxSteps:=2000000) [hP,hN,g3,hb3,g11,g12,g13,g6,g1,g2,hbR,hlen,hq,hltR,hkq,hxk,u5])|refine X2 ?_ ?_|(refine Xd ?_ ?_<;>intro hcd<;>try exact Xx))
  all_goals exact ⟨rfl,⟨_,rfl,_,rfl⟩,by intro kb h;simp at h;subst h;simp⟩
end Go.Ab
namespace Go.Ab
open Go.Proofs
def dT (A : List Vc) (w : List Int) (B' : List Vc) (v : List Int) : Vc:=bA (dk A w A.length) (dk B' v B'.length)
def gJ (t : Vc) : Vc:=(t.1.tdiv 65536,t.2.1.tdiv 65536,t.2.2.tdiv 65536)
structure NSt where
 w : List Int
 v : List Int
 n : Vc
 r : Nat
inductive NEnd where
 |stop (kind : Int) (s : NSt)
 |step (s : NSt)
def lB (A B' : List Vc) (rho : Int) (steps : Nat) (s : NSt) : NEnd:=
 if ly (dT A s.w B' s.v) rho=true then .stop 2 s
 else if nz (bP (gJ (dT A s.w B' s.v)))=false then .stop 0 ⟨s.w,s.v,bP (gJ (dT A s.w B' s.v)),s.r⟩
 else if eY (bP (gJ (dT A s.w B' s.v))) * rho < (dg ej (bP (gJ (dT A s.w B' s.v))) A).1 - (dg ek (bP (gJ (dT A s.w B' s.v))) B').1 then .stop 1 ⟨s.w,s.v,bP (gJ (dT A s.w B' s.v)),s.r⟩
 else if s.r=steps then .stop 0 ⟨s.w,s.v,bP (gJ (dT A s.w B' s.v)),s.r⟩
 else if jD (gJ (dT A s.w B' s.v)) (bA ((A[(dg ej (bP (gJ (dT A s.w B' s.v))) A).2]?).getD (0,0,0)) ((B'[(dg ek (bP (gJ (dT A s.w B' s.v))) B').2]?).getD (0,0,0)))=0 then .stop 0 ⟨s.w,s.v,bP (gJ (dT A s.w B' s.v)),s.r⟩
 else .step ⟨iA s.w (dg ej (bP (gJ (dT A s.w B' s.v))) A).2 (jD (gJ (dT A s.w B' s.v)) (bA ((A[(dg ej (bP (gJ (dT A s.w B' s.v))) A).2]?).getD (0,0,0)) ((B'[(dg ek (bP (gJ (dT A s.w B' s.v))) B').2]?).getD (0,0,0)))),iA s.v (dg ek (bP (gJ (dT A s.w B' s.v))) B').2 (jD (gJ (dT A s.w B' s.v)) (bA ((A[(dg ej (bP (gJ (dT A s.w B' s.v))) A).2]?).getD (0,0,0)) ((B'[(dg ek (bP (gJ (dT A s.w B' s.v))) B').2]?).getD (0,0,0)))),bP (gJ (dT A s.w B' s.v)),s.r+1⟩
def iR (A B' : List Vc) (rho : Int) (steps : Nat) : Nat→NSt→Int × NSt
 |0,s=>(0,s)
 |f+1,s=>match lB A B' rho steps s with
  |.stop k s'=>(k,s')
  |.step s'=>iR A B' rho steps f s'
theorem Bc {t : Vc} (h : eJ 35184372088832 t) : eJ 536870912 (gJ t):=by
 have h1 : ∀ x : Int,-35184372088832≤x∧x≤35184372088832→-536870912≤x.tdiv 65536∧x.tdiv 65536≤536870912:=fun x hx=>by
  rcases Int.le_total 0 x with h0|h0
  ·rw [Int.tdiv_eq_ediv_of_nonneg h0];omega
  ·have e : x.tdiv 65536=-((-x).tdiv 65536):=by rw [Int.neg_tdiv,Int.neg_neg]
   rw [e,Int.tdiv_eq_ediv_of_nonneg (by omega)];omega
 exact ⟨h1 _ h.1,h1 _ h.2.1,h1 _ h.2.2⟩
structure NsOk (A B' : List Vc) (s : NSt) : Prop where
 w : WgOk s.w
 v : WgOk s.v
 wl : s.w.length=A.length
 vl : s.v.length=B'.length
theorem ip {l : List Vc} : eU l=true↔1≤l.length∧l.length≤8∧l.all (bg 268435456)=true:=by
 simp only [eU,Bool.and_eq_true,decide_eq_true_eq,and_assoc]
theorem xf {A B' : List Vc} {s : NSt} (hA : eU A=true) (hB : eU B'=true) (hs : NsOk A B' s) : eJ 35184372088832 (dT A s.w B' s.v):=by
 rw [ip] at hA hB
 have h1:=io hA.2.2 hs.w A.length (by rw [hs.wl];exact Nat.le_refl _)
 have h2:=io hB.2.2 hs.v B'.length (by rw [hs.vl];exact Nat.le_refl _)
 exact nN h1 h2
theorem kD {bet : Int→Int→Bool} {n : Vc} {l : List Vc} (hl : 1≤l.length) : (dg bet n l).2 < l.length:=pU hl _
abbrev Gj (A : List Vc) (nw : Nat) (B' : List Vc) (nv : Nat) (n : Vc) (r : Nat) : List AV:=[.pv (bp A),.arr 2000000 nw,.pv (bp B'),.arr 2000001 nv,.pv (Z n.1),.pv (Z n.2.1),.pv (Z n.2.2),.pv (Z r)]
abbrev CY (A B' : List Vc) (s : NSt) : List (Nat × Blk):=[(1000000,.box (Gj A s.w.length B' s.v.length s.n s.r) false false),(2000000,.row 2 1 (s.w.map Z) 0),(2000001,.row 2 1 (s.v.map Z) 0)]
theorem tV : ∀ (k : Nat) (v : Vc),eJ (16384 * ((2 ^ k : Nat) : Int)) v→bg 16384 (i7 k v)=true
 |0,v,h=>by
  obtain ⟨h1,h2,h3⟩:=h
  simp only [i7]
  rw [cW,bL,bL,bL]
  simp only [Nat.pow_zero] at h1 h2 h3
  exact ⟨by omega,by omega,by omega⟩
 |k+1,v,h=>by
  simp only [i7]
  split
  ·assumption
  ·refine tV k _ (xF ?_)
   have e : 2 * (16384 * ((2 ^ k : Nat) : Int))=16384 * ((2 ^ (k+1) : Nat) : Int):=by rw [Nat.pow_succ];omega
   rw [e];exact h
theorem vj (v : Vc) (h : eJ 1099511627776 v) : bg 16384 (bP v)=true:=tV 64 v (ic h (by decide))
theorem pX {A B' : List Vc} {rho : Int} {steps : Nat} {s : NSt} (hA : eU A=true) (hB : eU B'=true) (hs : NsOk A B' s) : (∀ k s',lB A B' rho steps s=.stop k s'→NsOk A B' s')∧∀ s',lB A B' rho steps s=.step s'→NsOk A B' s':=by
 rw [ip] at hA hB
 unfold lB
 refine ⟨fun k s' h=>?_,fun s' h=>?_⟩
 ·repeat' split at h
  all_goals first
   |(injection h with _ h;subst h;exact hs)
   |(injection h with _ h;subst h;exact ⟨hs.w,hs.v,hs.wl,hs.vl⟩)
   |cases h
 ·repeat' split at h
  all_goals first
   |cases h;done
   |(injection h with h
     subst h
     exact ⟨xe hs.w (by rw [hs.wl];exact kD hA.1) (jO _ _).1 (jO _ _).2,xe hs.v (by rw [hs.vl];exact kD hB.1) (jO _ _).1 (jO _ _).2,by rw [nu];exact hs.wl,by rw [nu];exact hs.vl⟩)
theorem pY {A B' : List Vc} {rho : Int} {steps : Nat} (hA : eU A=true) (hB : eU B'=true) : ∀ (f : Nat) (s : NSt),NsOk A B' s→NsOk A B' (iR A B' rho steps f s).2
 |0,s,hs=>hs
 |f+1,s,hs=>by
  have h:=pX (rho:=rho) (steps:=steps) hA hB hs
  simp only [iR]
  split
  ·rename_i k s' e;exact h.1 _ _ e
  ·rename_i s' e;exact pY hA hB f s' (h.2 _ e)
theorem oK {n p : Vc} (hn : eJ 16384 n) (hp : eJ 268435456 p) : -13194139533312≤bT n p∧bT n p≤13194139533312:=by
 obtain ⟨r1,r2,r3⟩:=jC (m:=16384) (n:=268435456) hn hp
 unfold bT;omega
theorem vk {bet : Int→Int→Bool} {n p0 : Vc} {l : List Vc} (hn : eJ 16384 n) (hp : eJ 268435456 p0) (hl : l.all (bg 268435456)=true) : ∀ i,-13194139533312≤(dt bet n p0 l i).1∧(dt bet n p0 l i).1≤13194139533312
 |0=>oK hn hp
 |i+1=>by
  have ih:=vk (bet:=bet) hn hp hl i
  simp only [dt]
  split
  ·rename_i v hv
   have:=oK hn (dZ (List.all_eq_true.1 hl v (List.mem_of_getElem? hv)))
   split
   ·exact this
   ·exact ih
  ·exact ih
theorem ro {v : Vc} (h : bg 16384 v=true) : eJ 16384 v:=by
 rw [cW,bL,bL,bL] at h
 exact ⟨⟨by omega,by omega⟩,⟨by omega,by omega⟩,⟨by omega,by omega⟩⟩
theorem mY {bet : Int→Int→Bool} {n : Vc} {l : List Vc} (hn : bg 16384 n=true) (hl : l.all (bg 268435456)=true) : -13194139533312≤(dg bet n l).1∧(dg bet n l).1≤13194139533312:=by
 refine vk (ro hn) ?_ hl _
 cases h : l[0]? with
 |none=>simp [eJ]
 |some p=>exact dZ (List.all_eq_true.1 hl p (List.mem_of_getElem? h))
theorem EQ {A B' : List Vc} {s s' : NSt} (hs : NsOk A B' s) (hs' : NsOk A B' s') : OkG (CY A B' s) (CY A B' s'):=by
 constructor
 ·rfl
 ·simp
 ·intro k b h
  simp only [List.mem_cons,Prod.mk.injEq,List.not_mem_nil,or_false] at h
  rcases h with ⟨rfl,rfl⟩|⟨rfl,rfl⟩|⟨rfl,rfl⟩
  all_goals (simp [ir,kv])
 ·intro k b h
  simp only [List.mem_cons,Prod.mk.injEq,List.not_mem_nil,or_false] at h
  rcases h with ⟨rfl,rfl⟩|⟨rfl,rfl⟩|⟨rfl,rfl⟩
  all_goals (simp [ir,kv])
 ·intro k b b' h h'
  have e1:=eM h
  have e2:=eM h'
  simp only [List.mem_cons,Prod.mk.injEq,List.not_mem_nil,or_false] at e1 e2
  rcases e1 with ⟨rfl,rfl⟩|⟨rfl,rfl⟩|⟨rfl,rfl⟩
  ·rcases e2 with ⟨_,rfl⟩|⟨e,_⟩|⟨e,_⟩
   ·rfl
   ·exact absurd e (by decide)
   ·exact absurd e (by decide)
  ·rcases e2 with ⟨e,_⟩|⟨_,rfl⟩|⟨e,_⟩
   ·exact absurd e (by decide)
   ·simp [pB,hs.wl,hs'.wl]
   ·exact absurd e (by decide)
  ·rcases e2 with ⟨e,_⟩|⟨e,_⟩|⟨_,rfl⟩
   ·exact absurd e (by decide)
   ·exact absurd e (by decide)
   ·simp [pB,hs.vl,hs'.vl]
set_option maxRecDepth 4000 in
theorem IE (A B' : List Vc) (rho : Int) (steps : Nat) (s0 : NSt) (hA : eU A=true) (hB : eU B'=true) (hr : 0≤rho∧rho≤2097152) (hst : steps≤64) (hs : NsOk A B' s0) (h0 : s0.r=0) : zn Tryz.prog 48 [.ptr 1000000 0,.pv (Z rho),.pv (Z steps)] (CY A B' s0) (CY A B' (iR A B' rho steps (steps+1) s0).2) (Z (iR A B' rho steps (steps+1) s0).1):=by
 have hend:=pY (rho:=rho) (steps:=steps) hA hB (steps+1) s0 hs
 generalize hRR : iR A B' rho steps (steps+1) s0=RR at *
 have hA':=ip.1 hA
 have hB':=ip.1 hB
 refine yA Tryz.func48 rfl (by kernel_rfl) (by simp [Tryz.f48]) (EQ hs hend) ?_
 intro C hP hN
 simp only [Tryz.f48] at hN ⊢
 with_reducible repeat' (first|refine Sp.h ?_|((first|refine Wd ?_|refine Ss.h ?_|(refine Sb.h ?_ ?_ ?_<;>(try intro hgd)<;>try exact Xy))<;>simp -implicitDefEqProofs (maxSteps:=2000000) [hP,hN,CS,cG]<;>try refine Ya ?_)|refine X2 ?_ ?_|(refine Xd ?_ ?_<;>intro hcd<;>try exact Xx))
 refine WP.loopN [7,8,9] steps (fun i st=>∃ s : NSt,NsOk A B' s∧s.r=i∧iR A B' rho steps (steps+1 - i) s=RR∧st.t 0=.ptr 1000000 0∧st.t 1=.pv (Z rho)∧st.t 2=.pv (Z steps)∧st.h 7=none∧st.h 8=none∧st.h 9=none∧st.h 1000000=some (.box (Gj A s.w.length B' s.v.length s.n s.r) false false)∧st.h 2000000=some (.row 2 1 (s.w.map Z) 0)∧st.h 2000001=some (.row 2 1 (s.v.map Z) 0)) (by refine ⟨s0,hs,h0,hRR,?_⟩;simp) ?_
 rintro i st hi ⟨s,hs,hsr,hrun,g0,g1,g2,hb7,hb8,hb9,hbS,hbW,hbV⟩
 have hTs:=xf hA hB hs
 have hXs:=Bc hTs
 have hXs2:=ic hXs (show (536870912 : Int)≤1099511627776 by decide)
 have hnn:=vj _ hXs2
 rw [show steps+1 - i=(steps - i)+1 by omega] at hrun
 simp only [iR] at hrun
 have hRo : lB A B' rho steps s=_:=rfl
 conv at hRo=>rhs;unfold lB
 have c1:=Gh A s.w hA'.2.1 hs.wl hA'.2.2 hs.w
 have c2:=Gh B' s.v hB'.2.1 hs.vl hB'.2.2 hs.v
 have hS1:=io hA'.2.2 hs.w A.length (by rw [hs.wl];exact Nat.le_refl _)
 have hS2:=io hB'.2.2 hs.v B'.length (by rw [hs.vl];exact Nat.le_refl _)
 have c3:=EO _ _ (ic hS1 (by decide)) (ic hS2 (by decide))
 have hTd : bA (dk A s.w A.length) (dk B' s.v B'.length)=dT A s.w B' s.v:=rfl
 rw [hTd] at c3
 have c4:=IC _ rho hTs hr
 have hRk:=pX (rho:=rho) (steps:=steps) hA hB hs
 generalize dT A s.w B' s.v=T at *
 have c5:=Gt _ hXs2
 have hXd : gJ T=(T.1.tdiv 65536,T.2.1.tdiv 65536,T.2.2.tdiv 65536):=rfl
 cases hcl : ly T rho with
 |true=>
  rw [hcl] at c4
  rw [if_pos hcl] at hRo
  rw [hRo] at hrun
  simp only at hrun
  subst hrun
  with_reducible repeat' (first|refine Sp.h ?_|((first|refine Wd ?_|refine Ss.h ?_|refine Sc.h (c1) ?_|refine Sc.h (c2) ?_|refine Sc.h (c3) ?_|refine Sc.h (c4) ?_|(refine Sb.h ?_ ?_ ?_<;>(try intro hgd)<;>try exact Xy))<;>simp -implicitDefEqProofs (maxSteps:=2000000) [hP,hN,g0,g1,g2,hb7,hb8,hb9,hbS,hbW,hbV]<;>try refine Ya ?_)|refine X2 ?_ ?_|(refine Xd ?_ ?_<;>intro hcd<;>try exact Xx))
  all_goals exact ⟨rfl,⟨_,rfl,_,rfl⟩,by intro kb h;simp only [List.mem_cons,List.not_mem_nil,or_false] at h;rcases h with rfl|rfl|rfl<;>simp [hbS,hbW,hbV]⟩
 |false=>
  rw [hcl] at c4
  rw [if_neg (by rw [hcl];simp)] at hRo
  have e1 : IntKind.i64.wrap (T.1.tdiv 65536)=T.1.tdiv 65536:=by have:=hXs.1;rw [hXd] at this;simp only at this;exact ao (by omega) (by omega)
  have e2 : IntKind.i64.wrap (T.2.1.tdiv 65536)=T.2.1.tdiv 65536:=by have:=hXs.2.1;rw [hXd] at this;simp only at this;exact ao (by omega) (by omega)
  have e3 : IntKind.i64.wrap (T.2.2.tdiv 65536)=T.2.2.tdiv 65536:=by have:=hXs.2.2;rw [hXd] at this;simp only at this;exact ao (by omega) (by omega)
  generalize bP (gJ T)=n at *
  cases hnz : nz n with
  |false=>
   rw [if_pos hnz] at hRo
   rw [hRo] at hrun
   simp only at hrun
   subst hrun
   rw [hnz,hXd] at c5
   with_reducible repeat' (first|refine Sp.h ?_|((first|refine Wd ?_|refine Ss.h ?_|refine Sc.h (c1) ?_|refine Sc.h (c2) ?_|refine Sc.h (c3) ?_|refine Sc.h (c4) ?_|refine Sc.h (c5) ?_|(refine Sb.h ?_ ?_ ?_<;>(try intro hgd)<;>try exact Xy))<;>simp -implicitDefEqProofs (maxSteps:=2000000) [hP,hN,g0,g1,g2,hb7,hb8,hb9,hbS,hbW,hbV,e1,e2,e3]<;>try refine Ya ?_)|refine X2 ?_ ?_|(refine Xd ?_ ?_<;>intro hcd<;>try exact Xx))
   all_goals exact ⟨rfl,⟨_,rfl,_,rfl⟩,by intro kb h;simp only [List.mem_cons,List.not_mem_nil,or_false] at h;rcases h with rfl|rfl|rfl<;>simp [hbS,hbW,hbV]⟩
  |true=>
   rw [if_neg (by rw [hnz];simp)] at hRo
   have c6:=IA n A s.w hnn hA'.1 hA'.2.1 hA'.2.2
   have c7:=IB n B' s.v hnn hB'.1 hB'.2.1 hB'.2.2
   have c8:=Gu n
   have hq:=qv n
   have l1:=mY (bet:=ej) hnn hA'.2.2
   have l2:=mY (bet:=ek) hnn hB'.2.2
   have i1:=kD (bet:=ej) (n:=n) hA'.1
   have i2:=kD (bet:=ek) (n:=n) hB'.1
   generalize dg ej n A=lo at *
   generalize dg ek n B'=hi' at *
   generalize eY n=q at *
   have hqr:=ck (a:=q) (b:=rho) 32768 2097152 (by omega) (by omega) (by omega) (by omega)
   have e4 : IntKind.i64.wrap (lo.1 - hi'.1)=lo.1 - hi'.1:=ao
   have e5 : IntKind.i64.wrap (q * rho)=q * rho:=ao
   generalize hpp : q * rho=qr at *
   obtain ⟨pa,hpa⟩ : ∃ x,A[lo.2]?=some x:=⟨_,List.getElem?_eq_getElem i1⟩
   obtain ⟨pb,hpb⟩ : ∃ x,B'[hi'.2]?=some x:=⟨_,List.getElem?_eq_getElem i2⟩
   have hxa : ∀ h,A[lo.2]'h=pa:=fun h=>by rw [List.getElem?_eq_getElem h] at hpa;exact Option.some.inj hpa
   have hxb : ∀ h,B'[hi'.2]'h=pb:=fun h=>by rw [List.getElem?_eq_getElem h] at hpb;exact Option.some.inj hpb
   have sa:=dZ (List.all_eq_true.1 hA'.2.2 pa (List.mem_of_getElem? hpa))
   have sb:=dZ (List.all_eq_true.1 hB'.2.2 pb (List.mem_of_getElem? hpb))
   have c9:=EO pa pb (ic sa (by decide)) (ic sb (by decide))
   have sab:=nN sa sb
   have c10:=ID (gJ T) (bA pa pb) hXs sab
   have htr:=jO (gJ T) (bA pa pb)
   rw [hpa,hpb] at hRo
   simp only [Option.getD_some] at hRo
   generalize jD (gJ T) (bA pa pb)=t at *
   generalize bA pa pb=pab at *
   rw [hXd] at c5 c10
   rw [hnz] at c5
   by_cases hsep : qr < lo.1 - hi'.1
   ·rw [if_pos hsep] at hRo
    rw [hRo] at hrun
    simp only at hrun
    subst hrun
    with_reducible repeat' (first|refine Sp.h ?_|((first|refine Wd ?_|refine Ss.h ?_|refine Sc.h (c1) ?_|refine Sc.h (c2) ?_|refine Sc.h (c3) ?_|refine Sc.h (c4) ?_|refine Sc.h (c5) ?_|refine Sc.h (c6) ?_|refine Sc.h (c7) ?_|refine Sc.h (c8) ?_|(refine Sb.h ?_ ?_ ?_<;>(try intro hgd)<;>try exact Xy))<;>simp -implicitDefEqProofs (maxSteps:=2000000) [hP,hN,g0,g1,g2,hb7,hb8,hb9,hbS,hbW,hbV,e1,e2,e3,e4,e5,hpp,hsep]<;>try refine Ya ?_)|refine X2 ?_ ?_|(refine Xd ?_ ?_<;>intro hcd<;>try exact Xx))
    all_goals exact ⟨rfl,⟨_,rfl,_,rfl⟩,by intro kb h;simp only [List.mem_cons,List.not_mem_nil,or_false] at h;rcases h with rfl|rfl|rfl<;>simp [hbS,hbW,hbV]⟩
   rw [if_neg hsep] at hRo
   by_cases hstp : s.r=steps
   ·rw [if_pos hstp] at hRo
    rw [hRo] at hrun
    simp only at hrun
    subst hrun
    have hst2 : ((s.r : Int)==(steps : Int))=true:=by simp;omega
    with_reducible repeat' (first|refine Sp.h ?_|((first|refine Wd ?_|refine Ss.h ?_|refine Sc.h (c1) ?_|refine Sc.h (c2) ?_|refine Sc.h (c3) ?_|refine Sc.h (c4) ?_|refine Sc.h (c5) ?_|refine Sc.h (c6) ?_|refine Sc.h (c7) ?_|refine Sc.h (c8) ?_|(refine Sb.h ?_ ?_ ?_<;>(try intro hgd)<;>try exact Xy))<;>simp -implicitDefEqProofs (maxSteps:=2000000) [hP,hN,g0,g1,g2,hb7,hb8,hb9,hbS,hbW,hbV,e1,e2,e3,e4,e5,hpp,hsep,hst2]<;>try refine Ya ?_)|refine X2 ?_ ?_|(refine Xd ?_ ?_<;>intro hcd<;>try exact Xx))
    all_goals exact ⟨rfl,⟨_,rfl,_,rfl⟩,by intro kb h;simp only [List.mem_cons,List.not_mem_nil,or_false] at h;rcases h with rfl|rfl|rfl<;>simp [hbS,hbW,hbV]⟩
   rw [if_neg hstp] at hRo
   have hst2 : ((s.r : Int)==(steps : Int))=false:=by simp;omega
   by_cases ht0 : t=0
   ·rw [if_pos ht0] at hRo
    rw [hRo] at hrun
    simp only at hrun
    subst hrun
    with_reducible repeat' (first|refine Sp.h ?_|((first|refine Wd ?_|refine Ss.h ?_|refine Sc.h (c1) ?_|refine Sc.h (c2) ?_|refine Sc.h (c3) ?_|refine Sc.h (c4) ?_|refine Sc.h (c5) ?_|refine Sc.h (c6) ?_|refine Sc.h (c7) ?_|refine Sc.h (c8) ?_|refine Sc.h (c9) ?_|refine Sc.h (c10) ?_|(refine Sb.h ?_ ?_ ?_<;>(try intro hgd)<;>try exact Xy))<;>simp -implicitDefEqProofs (maxSteps:=2000000) [hP,hN,g0,g1,g2,hb7,hb8,hb9,hbS,hbW,hbV,e1,e2,e3,e4,e5,hpp,hsep,hst2,hpa,hpb,hxa,hxb,i1,i2,ht0]<;>try refine Ya ?_)|refine X2 ?_ ?_|(refine Xd ?_ ?_<;>intro hcd<;>try exact Xx))
    all_goals exact ⟨rfl,⟨_,rfl,_,rfl⟩,by intro kb h;simp only [List.mem_cons,List.not_mem_nil,or_false] at h;rcases h with rfl|rfl|rfl<;>simp [hbS,hbW,hbV]⟩
   rw [if_neg ht0] at hRo
   have hok:=hRk.2 _ hRo
   rw [hRo] at hrun
   simp only at hrun
   have ht2 : (t==0)=false:=by simp;omega
   have hgL:=Gi A s.w lo.2 t (by rw [hs.wl];exact hA'.2.1) hs.w (by rw [hs.wl];exact i1) htr.1 htr.2
   have hgR:=Gi B' s.v hi'.2 t (by rw [hs.vl];exact hB'.2.1) hs.v (by rw [hs.vl];exact i2) htr.1 htr.2
   with_reducible repeat' (first|refine Sp.h ?_|((refine WP.share (hn:=[]) (pre:=[_,_,_,_,_,_,_]) (post:=[]) rfl rfl rfl ?_);simp -implicitDefEqProofs (maxSteps:=2000000) [hP,hN,g0,g1,g2,hb7,hb8,hb9,hbS,hbW,hbV,e1,e2,e3,e4,e5,hpp,hsep,hst2,hpa,hpb,hxa,hxb,i1,i2,ht0,ht2])|((first|refine Wd ?_|refine Ss.h ?_|refine Sc.h (c1) ?_|refine Sc.h (c2) ?_|refine Sc.h (c3) ?_|refine Sc.h (c4) ?_|refine Sc.h (c5) ?_|refine Sc.h (c6) ?_|refine Sc.h (c7) ?_|refine Sc.h (c8) ?_|refine Sc.h (c9) ?_|refine Sc.h (c10) ?_|(refine Sb.h ?_ ?_ ?_<;>(try intro hgd)<;>try exact Xy))<;>simp -implicitDefEqProofs (maxSteps:=2000000) [hP,hN,g0,g1,g2,hb7,hb8,hb9,hbS,hbW,hbV,e1,e2,e3,e4,e5,hpp,hsep,hst2,hpa,hpb,hxa,hxb,i1,i2,ht0,ht2]<;>try refine Ya ?_)|refine X2 ?_ ?_|(refine Xd ?_ ?_<;>intro hcd<;>try exact Xx))
   simp only [td,hP]
   refine ⟨_,_,_,_,_,fun _=>2000000,rfl,hgL,rfl,?_⟩
   refine ⟨by simp [ud,jH],by simp [yz,kv],by simp,by intro kb h;simp only [List.mem_cons,List.not_mem_nil,or_false] at h;subst h;simp [hbW,gF],by rw [hN];rfl,?_⟩
   simp -implicitDefEqProofs (maxSteps:=2000000) [hP,hN,gp,gF,cz,hbW]
   with_reducible repeat' (first|refine Sp.h ?_|((refine WP.share (hn:=[]) (pre:=[_,_,_,_,_,_,_]) (post:=[]) rfl rfl rfl ?_);simp -implicitDefEqProofs (maxSteps:=2000000) [hP,hN,g0,g1,g2,hb7,hb8,hb9,hbS,hbW,hbV,gp,gF,e1,e2,e3,e4,e5,hpp,hsep,hst2,hpa,hpb,hxa,hxb,i1,i2,ht0,ht2])|((first|refine Wd ?_|refine Ss.h ?_|refine Sc.h (c1) ?_|refine Sc.h (c2) ?_|refine Sc.h (c3) ?_|refine Sc.h (c4) ?_|refine Sc.h (c5) ?_|refine Sc.h (c6) ?_|refine Sc.h (c7) ?_|refine Sc.h (c8) ?_|refine Sc.h (c9) ?_|refine Sc.h (c10) ?_|(refine Sb.h ?_ ?_ ?_<;>(try intro hgd)<;>try exact Xy))<;>simp -implicitDefEqProofs (maxSteps:=2000000) [hP,hN,g0,g1,g2,hb7,hb8,hb9,hbS,hbW,hbV,gp,gF,e1,e2,e3,e4,e5,hpp,hsep,hst2,hpa,hpb,hxa,hxb,i1,i2,ht0,ht2]<;>try refine Ya ?_)|refine X2 ?_ ?_|(refine Xd ?_ ?_<;>intro hcd<;>try exact Xx))
   simp only [td,hP]
   refine ⟨_,_,_,_,_,fun _=>2000001,rfl,hgR,rfl,?_⟩
   refine ⟨by simp [ud,jH],by simp [yz,kv],by simp,by intro kb h;simp only [List.mem_cons,List.not_mem_nil,or_false] at h;subst h;simp [hbV,gF],by rw [hN];rfl,?_⟩
   simp -implicitDefEqProofs (maxSteps:=2000000) [hP,hN,gp,gF,cz,hbW,hbV]
   have hwr : IntKind.i64.wrap ((s.r : Int)+1)=(s.r : Int)+1:=ao
   with_reducible repeat' (first|refine Sp.h ?_|((first|refine Wd ?_|refine Ss.h ?_|refine Sc.h (c1) ?_|(refine Sb.h ?_ ?_ ?_<;>(try intro hgd)<;>try exact Xy))<;>simp -implicitDefEqProofs (maxSteps:=2000000) [hP,hN,g0,g1,g2,hb7,hb8,hb9,hbS,hbW,hbV,hwr,gp,gF,e1,e2,e3,e4,e5,hpp,hsep,hst2,hpa,hpb,hxa,hxb,i1,i2,ht0,ht2]<;>try refine Ya ?_)|refine X2 ?_ ?_|(refine Xd ?_ ?_<;>intro hcd<;>try exact Xx))
   refine ⟨by omega,⟨iA s.w lo.2 t,iA s.v hi'.2 t,n,s.r+1⟩,hok,by simp only;omega,hrun,⟨(nu _ _ _).symm,(nu _ _ _).symm,rfl,rfl,rfl,by simp only;omega⟩,rfl,rfl⟩
end Go.Ab
namespace Go.Ab
open Go.Proofs
def oL (a b : List Vc) : NSt:=⟨(List.replicate a.length 0).set 0 65536,(List.replicate b.length 0).set 0 65536,(0,0,0),0⟩
theorem CZ {n : Nat} (h : 1≤n) : WgOk ((List.replicate n 0).set 0 65536):=by
 constructor
 ·intro k hk
  rcases List.mem_or_eq_of_mem_set hk with h|rfl
  ·have:=List.eq_of_mem_replicate h;omega
  ·decide
 ·rw [sT,uF (y:=0) (by rw [List.getElem?_replicate,if_pos (by omega)])]
  have : (List.replicate n (0 : Int)).sum=0:=by simp
  omega
theorem xg {a b : List Vc} (ha : 1≤a.length) (hb : 1≤b.length) : NsOk a b (oL a b):=⟨CZ ha,CZ hb,by simp [oL],by simp [oL]⟩
def mZ (a b : List Vc) (rho steps : Int) : Bool:=eU a && eU b && bM rho 0 2097152 && bM steps 0 64
def gO (a b : List Vc) (rho steps : Int) : Int × NSt:=if mZ a b rho steps then iR a b rho steps.toNat (steps.toNat+1) (oL a b) else (0,⟨[],[],(0,0,0),0⟩)
abbrev C3 (x : Int × NSt) : PV:=.agg [Z x.1,Z x.2.n.1,Z x.2.n.2.1,Z x.2.n.2.2,zs x.2.w,zs x.2.v,Z x.2.r]
theorem Gk (a b : List Vc) (rho steps : Int) (ha : a.length≤9223372036854775807) (hb : b.length≤9223372036854775807) : ah Tryz.prog 24 [.pv (bp a),.pv (bp b),.pv (Z rho),.pv (Z steps)] [] [] (.pv (C3 (gO a b rho steps))):=by
 have cua:=Gg a ha
 have cub:=Gg b hb
 have hB : mZ a b rho steps=(eU a && eU b && bM rho 0 2097152 && bM steps 0 64):=rfl
 have hR : gO a b rho steps=if mZ a b rho steps then iR a b rho steps.toNat (steps.toNat+1) (oL a b) else (0,⟨[],[],(0,0,0),0⟩):=rfl
 cases hua : eU a with
 |false=>
  rw [hua] at cua hB
  simp only [Bool.false_and] at hB
  rw [hB] at hR
  simp only [Bool.false_eq_true,if_false] at hR
  rw [hR]
  refine Dp Tryz.func24 ?_
  intro C hP hN
  simp only [Tryz.f24] at hN ⊢
  exact Gy
 |true=>
 cases hub : eU b with
 |false=>
  rw [hua] at cua hB
  rw [hub] at cub hB
  simp only [Bool.and_false,Bool.false_and] at hB
  rw [hB] at hR
  simp only [Bool.false_eq_true,if_false] at hR
  rw [hR]
  refine Dp Tryz.func24 ?_
  intro C hP hN
  simp only [Tryz.f24] at hN ⊢
  exact Gy
 |true=>
 rw [hua] at cua hB
 rw [hub] at cub hB
 simp only [Bool.and_self,Bool.true_and] at hB
 by_cases hg : rho < 0∨2097152 < rho∨steps < 0∨64 < steps
 ·have hf : (bM rho 0 2097152 && bM steps 0 64)=false:=by
   simp only [bM]
   rcases hg with h|h|h|h
   ·rw [decide_eq_false (show ¬ 0≤rho by omega)];simp
   ·rw [decide_eq_false (show ¬ rho≤2097152 by omega)];simp
   ·rw [decide_eq_false (show ¬ 0≤steps by omega)];simp
   ·rw [decide_eq_false (show ¬ steps≤64 by omega)];simp
  rw [hf] at hB
  rw [hB] at hR
  simp only [Bool.false_eq_true,if_false] at hR
  rw [hR]
  rcases hg with h|h|h|h
  ·skip
   refine Dp Tryz.func24 ?_
   intro C hP hN
   simp only [Tryz.f24] at hN ⊢
   exact Gy
  ·skip
   refine Dp Tryz.func24 ?_
   intro C hP hN
   simp only [Tryz.f24] at hN ⊢
   exact Gy
  ·skip
   refine Dp Tryz.func24 ?_
   intro C hP hN
   simp only [Tryz.f24] at hN ⊢
   exact Gy
  ·skip
   refine Dp Tryz.func24 ?_
   intro C hP hN
   simp only [Tryz.f24] at hN ⊢
   exact Gy
 have hf : (bM rho 0 2097152 && bM steps 0 64)=true:=by
  simp only [bM,Bool.and_eq_true,decide_eq_true_eq];omega
 rw [hf] at hB
 rw [hB] at hR
 simp only [if_true] at hR
 obtain ⟨m,hm⟩ : ∃ m : Nat,steps=m:=⟨steps.toNat,by omega⟩
 subst hm
 simp only [Int.toNat_natCast] at hR
 have ia:=ip.1 hua
 have ib:=ip.1 hub
 have c1:=EP a ia.1 ia.2.1
 have c2:=EP b ib.1 ib.2.1
 have hs0:=xg ia.1 ib.1
 have hend:=pY (rho:=rho) (steps:=m) hua hub (m+1) (oL a b) hs0
 have hgr:=IE a b rho m (oL a b) hua hub (by omega) (by omega) hs0 rfl
 generalize iR a b rho m (m+1) (oL a b)=RR at *
 rw [hR]
 have h1 : ¬ rho < 0:=by omega
 have h2 : ¬ 2097152 < rho:=by omega
 have h3 : ¬ (m : Int) < 0:=by omega
 have h4 : ¬ 64 < (m : Int):=by omega
 refine Dp Tryz.func24 ?_
 intro C hP hN
 simp only [Tryz.f24] at hN ⊢
 with_reducible repeat' (first|refine Sp.h ?_|((refine WP.share (hn:=[]) (pre:=[_,_]) (post:=[_]) rfl rfl rfl ?_);simp -implicitDefEqProofs (maxSteps:=2000000) [hP,hN,h1,h2,h4])|((first|refine Ss.h ?_|refine Sc.h (cua) ?_|refine Sc.h (cub) ?_|refine Sc.h (c1) ?_|refine Sc.h (c2) ?_|(refine Sb.h ?_ ?_ ?_<;>(try intro hgd)<;>try exact Xy))<;>simp -implicitDefEqProofs (maxSteps:=2000000) [hP,hN,h1,h2,h4])|refine X2 ?_ ?_|(refine Xd ?_ ?_<;>intro hcd<;>try exact Xx))
 simp only [td,hP]
 refine ⟨_,_,_,_,_,fun q=>if q=1000000 then 9 else if q=2000000 then 37 else 40,rfl,hgr,rfl,?_⟩
 refine ⟨by simp [ud,jH],by simp [yz,kv],by simp,by intro kb h;simp only [List.mem_cons,List.not_mem_nil,or_false] at h;rcases h with rfl|rfl|rfl<;>simp [gF,jH,kc,oL],by rw [hN];rfl,?_⟩
 simp -implicitDefEqProofs (maxSteps:=2000000) [hP,hN,gp,gF,jH,kc]
 have hwl:=hend.wl
 have hvl:=hend.vl
 exact Gy
end Go.Ab
namespace Go.Ab
open Go.Proofs
def uM (i : Nat) (j : J) : Prop:=(0≤j.kind∧j.kind≤6)∧-1≤j.parent∧j.parent < (i : Int)
def oh (js : List J) : Prop:=∀ i j,js[i]?=some j→uM i j
theorem BA {js : List J} {i : Nat} {j : J} (h : dq js i j=0) : uM i j:=by
 unfold dq at h
 repeat' split at h
 all_goals (try (cases h;done))
 all_goals (try omega)
 refine ⟨by omega,by omega,by omega⟩
theorem oM {js : List J} {ms : List Ms} (h : cY js ms=0) : oh js∧js.length≤10∧1≤js.length:=by
 unfold cY at h
 split at h
 ·cases h
 ·rename_i hl
  split at h
  ·rename_i hne;exact absurd h hne
  ·rename_i he
   refine ⟨fun i j hij=>?_,by omega,by omega⟩
   have hlt:=(List.getElem?_eq_some_iff.1 hij).1
   have he' : iz js=0:=by simpa using he
   rw [oI] at he'
   by_cases hz : dq js i j=0
   ·exact BA hz
   ·exfalso
    cases hf : (js.mapIdx (dq js)).find? (fun e=>e !=0) with
    |none=>
     rw [List.find?_eq_none] at hf
     have hm : dq js i j ∈ js.mapIdx (dq js):=by
      rw [List.mem_mapIdx]
      obtain ⟨h1,h2⟩:=List.getElem?_eq_some_iff.1 hij
      exact ⟨i,h1,by rw [h2]⟩
     exact hf _ hm (by simpa using hz)
    |some e=>
     rw [hf] at he'
     have:=List.find?_some hf
     simp only at he'
     rw [he'] at this
     simp at this
theorem kF {s : Sce} (h : cD s=0) : oh s.js∧s.js.length≤10∧1≤s.js.length∧s.shs.length≤24∧s.sks.length≤64∧(∀ x ∈ s.shs,dV s.js.length x.link=true∧fx x=true)∧∀ p ∈ s.sks,iW s.js.length p=true:=by
 unfold cD at h
 split at h
 ·rename_i hne;exact absurd h hne
 ·rename_i h0
  have h0 : cY s.js s.ms=0:=by simpa using h0
  split at h
  ·cases h
  ·rename_i h1
   split at h
   ·rename_i hne;exact absurd h hne
   ·rename_i h2
    have h2 : gj s.js.length s.shs=0:=by simpa using h2
    split at h
    ·cases h
    ·rename_i h3
     split at h
     ·rename_i h4
      obtain ⟨a1,a2,a3⟩:=oM h0
      refine ⟨a1,a2,a3,by omega,by omega,fun x hx=>?_,fun p hp=>List.all_eq_true.1 h4 p hp⟩
      have hz : dy s.js.length x=0:=by
       by_cases hz : dy s.js.length x=0
       ·exact hz
       ·exfalso
        unfold gj at h2
        cases hf : (s.shs.map (dy s.js.length)).find? (fun e=>e !=0) with
        |none=>
         rw [List.find?_eq_none] at hf
         exact hf _ (List.mem_map.2 ⟨x,hx,rfl⟩) (by simpa using hz)
        |some e=>
         rw [hf] at h2
         have:=List.find?_some hf
         simp only at h2
         rw [h2] at this
         simp at this
      unfold dy at hz
      split at hz
      ·rename_i hc
       split at hz
       ·rename_i hn
        simp only [Bool.and_eq_true,decide_eq_true_eq] at hc
        obtain ⟨⟨⟨⟨c0,c1⟩,c2⟩,c3⟩,c4⟩:=hc
        refine ⟨c0,?_⟩
        simp only [fx,Bool.and_eq_true,decide_eq_true_eq]
        exact ⟨⟨⟨⟨c1,c2⟩,c3⟩,c4⟩,hn⟩
       ·cases hz
      ·cases hz
     ·cases h
theorem HF (a b c d : Int) : ai Tryz.prog (Op.equal 56 (.agg #[.int .i64 a,.int .i64 b]) (.agg #[.int .i64 c,.int .i64 d]))=some (a==c && b==d):=by
 have hf : (Tryz.prog.fieldsOf 56).toList=[(Tryz.prog.fieldsOf 56)[0]!,(Tryz.prog.fieldsOf 56)[1]!]:=by kernel_rfl
 show ai Tryz.prog (Op.equalIn (9999+1) 56 _ _)=_
 rw [pL 9999 56 _ _ (by kernel_rfl) (by kernel_rfl),hf]
 have h:=mG (P:=Tryz.prog) (d:=9999) (xs:=#[.int .i64 a,.int .i64 b]) (ys:=#[.int .i64 c,.int .i64 d]) (f:=(Tryz.prog.fieldsOf 56)[0]!) (fs:=[(Tryz.prog.fieldsOf 56)[1]!]) (a:=.int .i64 a) (b:=.int .i64 c) (by decide +kernel) (by kernel_rfl) (by kernel_rfl) (lY 9998 _ .i64 .i64 a c (by kernel_rfl))
  (mG (by decide +kernel) (a:=.int .i64 b) (b:=.int .i64 d) (by kernel_rfl) (by kernel_rfl) (lY 9998 _ .i64 .i64 b d (by kernel_rfl)) tT)
 rw [h];simp
def zY (x y : AV) (fb : Option bw) : Option bw:=match mH x,mH y with
 |some (a,b),some (c,d)=>some (.pv (.val (.bool (a==c && b==d))),[])
 |_,_=>fb
@[simp] theorem F2 (a b c d : Int) (fb : Option bw) : zY (.pv (.val (.agg #[.int .i64 a,.int .i64 b]))) (.pv (.val (.agg #[.int .i64 c,.int .i64 d]))) fb=some (.pv (.val (.bool (a==c && b==d))),[]):=rfl
@[simp] theorem JJ {dst : Option Nat} {ty : TypeId} {pos : String} {aft : Array Edge} {g : Option (Nat × Bool)} {ρ : Operand→AV} (x y : Operand) :
 bf Tryz.prog ⟨dst,.binOp .eql 56 x y 56,ty,pos,aft,g⟩ ρ=zY (ρ x) (ρ y) (i9 Tryz.prog ⟨dst,.binOp .eql 56 x y 56,ty,pos,aft,g⟩ ρ):=by
 unfold zY
 split
 ·rename_i a b c d hx hy
  exact tE rfl (iO hx) (iO hy) (by kernel_rfl) (HF a b c d)
 ·rfl
def rC (a b : Int) (p : Int × Int) : Bool:=(p.1==a && p.2==b) || (p.1==b && p.2==a)
def iE (s : Sce) (a b : Int) : Bool:=s.sks.any (rC a b)
theorem Cq {α : Type} {p : α→Bool} {xs : List α} {i : Nat} {v : α} (h : xs[i]?=some v) (hp : p v=true) : xs.any p=true:=List.any_eq_true.2 ⟨v,List.mem_of_getElem? h,hp⟩
theorem Cr {α : Type} {p : α→Bool} {xs : List α} {i : Nat} (hq : ∀ k x,k < i→xs[k]?=some x→p x=false) (h : ¬ i < xs.length) : xs.any p=false:=by
 rw [List.any_eq_false]
 intro x hx
 obtain ⟨k,hk⟩:=List.getElem?_of_mem hx
 simp [hq k x (by have:=(List.getElem?_eq_some_iff.1 hk).1;omega) hk]
theorem zZ {α : Type} {p : α→Bool} {xs : List α} {i : Nat} {v : α} (hv : xs[i]?=some v) (hq : ∀ k x,k < i→xs[k]?=some x→p x=false) (hp : p v=false) : ∀ k x,k < i+1→xs[k]?=some x→p x=false:=by
 intro k x hk hx
 by_cases e : k=i
 ·subst e;rw [hv] at hx;injection hx with hx;subst hx;exact hp
 ·exact hq k x (by omega) hx
theorem IV (s : Sce) (a b : Int) (hl : s.sks.length≤9223372036854775807) : ah Tryz.prog 77 [.pv (fh s),.pv (Z a),.pv (Z b)] [] [] (.pv (B (iE s a b))):=by
 have hsk : iE s a b=s.sks.any (rC a b):=rfl
 rw [hsk]
 refine Dp Tryz.func77 ?_
 intro C hP hN
 simp only [Tryz.f77] at hN ⊢
 refine Gz ?_
 refine WP.loopN [8] s.sks.length (fun i st=>st.t 1=.pv (Z a)∧st.t 2=.pv (Z b)∧st.t 10=.pv (.sl (s.sks.map bF))∧st.t 11=.pv (Z s.sks.length)∧st.t 12=.pv (Z i)∧st.h 8=none∧∀ k x,k < i→s.sks[k]?=some x→rC a b x=false) (by simp) ?_
 rintro i st hi ⟨g1,g2,g10,g11,g12,hb8,hq⟩
 by_cases hlt : i < s.sks.length
 ·have hw:=bi hlt hl
  generalize hxe : s.sks[i]=v at *
  have hx : s.sks[i]?=some v:=by rw [List.getElem?_eq_getElem hlt,hxe]
  have hst:=zZ (p:=rC a b) hx hq
  have hY:=Cq (p:=rC a b) hx
  have hp : rC a b v=((v.1==a && v.2==b) || (v.1==b && v.2==a)):=rfl
  cases c1 : (v.1==a && v.2==b) with
  |true=>
   rw [c1,Bool.true_or] at hp
   have hy:=hY hp
   exact Gy
  |false=>
   rw [c1,Bool.false_or] at hp
   cases c2 : (v.1==b && v.2==a) with
   |true=>
    rw [c2] at hp
    have hy:=hY hp
    exact Gy
   |false=>
    rw [c2] at hp
    have hst':=hst hp
    refine Gz ?_
    all_goals exact fun k a b=>hst' k (a,b)
 ·have hn:=Cr hq hlt
  exact Gy
def HG (L : List Int) (i : Nat) (j : J) : Int:=if j.lo=j.hi then (L[(j.parent+1).toNat]?).getD 0 else (i : Int)
def mL (js : List J) : Nat→List Int
 |0=>[-1]
 |i+1=>match js[i]? with
  |some j=>mL js i++[HG (mL js i) i j]
  |none=>mL js i
def iX (js : List J) : List Int:=mL js js.length
theorem om {js : List J} : ∀ i,i≤js.length→(mL js i).length=i+1
 |0,_=>rfl
 |i+1,h=>by
  have hlt : i < js.length:=by omega
  have ih:=om (js:=js) i (by omega)
  simp only [mL,List.getElem?_eq_getElem hlt,List.length_append,ih,List.length_singleton]
theorem oo {js : List J} {k : Nat} : ∀ i,k≤i→i≤js.length→∀ q,q≤k→(mL js i)[q]?=(mL js k)[q]?
 |0,h1,h2,q,hq=>by have : k=0:=by omega
                   subst this;rfl
 |i+1,h1,h2,q,hq=>by
  by_cases e : k=i+1
  ·subst e;rfl
  ·have hlt : i < js.length:=by omega
   rw [← oo i (by omega) (by omega) q hq]
   simp only [mL,List.getElem?_eq_getElem hlt]
   rw [List.getElem?_append_left (by rw [om i (by omega)];omega)]
theorem y7 {js : List J} {i : Nat} {j : J} (hj : js[i]?=some j) (hk : uM i j) : (iX js)[i+1]?=some (if j.lo=j.hi then ((iX js)[(j.parent+1).toNat]?).getD 0 else (i : Int)):=by
 have hlt:=(List.getElem?_eq_some_iff.1 hj).1
 obtain ⟨_,hp1,hp2⟩:=hk
 have e1 : (iX js)[i+1]?=(mL js (i+1))[i+1]?:=oo js.length (k:=i+1) (by omega) (Nat.le_refl _) _ (Nat.le_refl _)
 have e2 : (iX js)[(j.parent+1).toNat]?=(mL js i)[(j.parent+1).toNat]?:=oo js.length (k:=i) (by omega) (Nat.le_refl _) _ (by omega)
 rw [e1,e2]
 have hlen:=om (js:=js) i (by omega)
 simp only [mL,hj]
 rw [List.getElem?_append_right (by omega),hlen,Nat.sub_self]
 rfl
theorem IW (js : List J) (ms : List Ms) (hj : oh js) (hl : js.length≤10) : ah Tryz.prog 76 [.pv (jq js ms)] [] [] (.pv (zs (iX js))):=by
 have hlen : (iX js).length=js.length+1:=om _ (Nat.le_refl _)
 have h00 : (iX js)[0]?=some (-1):=oo js.length (k:=0) (by omega) (Nat.le_refl _) 0 (Nat.le_refl _)
 have hat:=fun i j (h : js[i]?=some j)=>y7 h (hj i j h)
 generalize iX js=CL at *
 have w1 : IntKind.i64.wrap ((js.length : Int)+1)=((js.length+1 : Nat) : Int):=(ao (by omega) (by omega)).trans (by omega)
 refine Dp Tryz.func76 ?_
 intro C hP hN
 simp only [Tryz.f76] at hN ⊢
 with_reducible repeat' (first|refine Sp.h ?_|((first|refine Ss.h ?_|(refine Sb.h ?_ ?_ ?_<;>(try intro hgd)<;>try exact Xy))<;>simp -implicitDefEqProofs (maxSteps:=2000000) [hP,hN,w1,show (8 : Int) * ((js.length : Int)+1)≤281474976710656 by omega,show (js.length : Int)+1≤9223372036854775807 by omega,show (0 : Int)≤(js.length : Int)+1 by omega])|refine X2 ?_ ?_|(refine Xd ?_ ?_<;>intro hcd<;>try exact Xx))
 refine WP.loopN [5] js.length (fun i st=>∃ R : List Int,st.t 3=.arr 10 (js.length+1)∧st.t 14=.pv (.sl (js.map gq))∧st.t 15=.pv (Z js.length)∧st.t 16=.pv (Z i)∧st.h 5=none∧st.h 10=some (.row 3 1 (R.map Z) 0)∧R.length=js.length+1∧∀ k,k≤i→R[k]?=CL[k]?) ?_ ?_
 ·refine ⟨(List.replicate (js.length+1) 0).set 0 (-1),?_⟩
  simp [h00,List.map_set,List.map_replicate]
 rintro i st hi ⟨R,g3,g14,g15,g16,hb5,hb10,hRl,hR⟩
 by_cases hlt : i < js.length
 ·have hw:=bi hlt (by omega)
  generalize hxe : js[i]=j at *
  have hx : js[i]?=some j:=by rw [List.getElem?_eq_getElem hlt,hxe]
  have ha:=hat i j hx
  obtain ⟨_,hp1,hp2⟩:=hj i j hx
  obtain ⟨p,hp⟩ : ∃ p : Nat,j.parent+1=p:=⟨(j.parent+1).toNat,by omega⟩
  have wp : IntKind.i64.wrap (j.parent+1)=(p : Int):=(ao (by omega) (by omega)).trans hp
  have hpi : p≤i:=by omega
  have hpR : p < R.length:=by omega
  have hi1 : i+1 < R.length:=by omega
  have hRp : R[p]?=some R[p]:=List.getElem?_eq_getElem hpR
  have hRi : R[i+1]?=some R[i+1]:=List.getElem?_eq_getElem hi1
  have hti : ((i : Int)+1).toNat=i+1:=by omega
  have hge : (0 : Int)≤(i : Int)+1:=by omega
  rw [hp] at ha
  have hpc : CL[p]?=some R[p]:=by rw [← hR p hpi];exact hRp
  rw [Int.toNat_natCast,hpc,Option.getD_some] at ha
  generalize R[p]=rp at *
  have key : ∀ x,CL[i+1]?=some x→∀ k,k≤i+1→(R.set (i+1) x)[k]?=CL[k]?:=by
   intro x hxx k hk
   rw [List.getElem?_set]
   by_cases e : i+1=k
   ·subst e;rw [if_pos rfl,if_pos hi1,hxx]
   ·rw [if_neg e];exact hR k (by omega)
  have hsp : ((R.map Z).set (i+1) (Z (i : Int)))[p]?=some (Z rp):=by rw [List.getElem?_set,if_neg (by omega),List.getElem?_map,hRp];rfl
  have hgp : ∀ h,((R.map Z).set (i+1) (Z (i : Int)))[p]'h=Z rp:=fun h=>by
   have:=List.getElem?_eq_getElem h
   rw [hsp] at this;injection this with this;exact this.symm
  by_cases he : j.lo=j.hi
  ·rw [if_pos he] at ha
   have he' : (j.lo==j.hi)=true:=by simp [he]
   with_reducible repeat' (first|refine Sp.h ?_|((first|refine Ss.h ?_|(refine Sb.h ?_ ?_ ?_<;>(try intro hgd)<;>try exact Xy))<;>simp -implicitDefEqProofs (maxSteps:=2000000) [hP,hN,g3,g14,g15,g16,hb5,hb10,hlt,hw,hx,hxe,hRl,hi1,hpi,wp,he,hRi,hti,hge,hRp,hsp,hgp,show p < js.length+1 by omega])|refine X2 ?_ ?_|(refine Xd ?_ ?_<;>intro hcd<;>try exact Xx))
   all_goals exact ⟨R.set (i+1) rp,by simp [List.map_set],by simp [hRl],key _ ha⟩
  ·rw [if_neg he] at ha
   have he' : (j.lo==j.hi)=false:=by simp [he]
   refine Gz ?_
   all_goals exact ⟨R.set (i+1) (i : Int),by simp [List.map_set],by simp [hRl],key _ ha⟩
 ·have hin : i=js.length:=by omega
  subst hin
  have hRC : R=CL:=by
   apply List.ext_getElem?
   intro k
   by_cases hk : k≤js.length
   ·exact hR k hk
   ·rw [List.getElem?_eq_none (by omega),List.getElem?_eq_none (by omega)]
  subst hRC
  exact Gy
end Go.Ab
namespace Go.Ab
open Go.Proofs
def po (h : Sh) : Nat:=(h.link+1).toNat
def uP (CL : List Int) (a b : Sh) : Bool:=(CL[po a]?).getD 0==(CL[po b]?).getD 0
def we (s : Sce) (a b : Sh) : Bool:=!uP (iX s.js) a b && !iE s a.link b.link
def fy (s : Sce) (i q : Nat) : Bool:=match s.shs[i]?,s.shs[q]? with
 |some a,some b=>we s a b
 |_,_=>false
def jo (s : Sce) (i : Nat) : Nat→List (Nat × Nat)
 |0=>[]
 |k+1=>jo s i k++(if i < k∧fy s i k=true then [(i,k)] else [])
def ii (s : Sce) : Nat→List (Nat × Nat)
 |0=>[]
 |i+1=>ii s i++jo s i s.shs.length
def dh (s : Sce) : List (Nat × Nat):=if cD s=0 then ii s s.shs.length else []
abbrev lX (p : Nat × Nat) : PV:=.val (.agg #[.int .i64 (p.1 : Int),.int .i64 (p.2 : Int)])
theorem uQ (s : Sce) (i : Nat) : ∀ k,k≤i+1→jo s i k=[]
 |0,_=>rfl
 |k+1,h=>by
  have : ¬ i < k:=by omega
  simp [jo,uQ s i k (by omega),this]
theorem rX (s : Sce) (i : Nat) : ∀ k,(jo s i k).length≤k
 |0=>Nat.le_refl _
 |k+1=>by
  have:=rX s i k
  simp only [jo,List.length_append]
  split<;>simp<;>omega
theorem rY (s : Sce) : ∀ i,(ii s i).length≤i * s.shs.length
 |0=>by simp [ii]
 |i+1=>by
  have:=rY s i
  have:=rX s i s.shs.length
  simp only [ii,List.length_append,Nat.add_mul]
  omega
theorem Cs {s : Sce} {h : Sh} (hk : dV s.js.length h.link=true) : ∃ x,(iX s.js)[po h]?=some x∧po h < (iX s.js).length∧h.link+1=(po h : Int)∧h.link < s.js.length:=by
 simp only [dV,Bool.and_eq_true,decide_eq_true_eq] at hk
 have hl : (iX s.js).length=s.js.length+1:=om _ (Nat.le_refl _)
 have hlt : po h < (iX s.js).length:=by unfold po;omega
 exact ⟨_,List.getElem?_eq_getElem hlt,hlt,by unfold po;omega,hk.2⟩
theorem IX (s : Sce) (hs : ScL s) : ah Tryz.prog 41 [.pv (fh s)] [] [] (.pv (.sl ((dh s).map lX))):=by
 have cc:=Dc s hs
 by_cases h0 : cD s=0
 case neg=>
  have hf : dh s=[]:=by simp [dh,h0]
  have h0' : (cD s !=0)=true:=by simp [h0]
  rw [hf]
  generalize cD s=r at *
  refine Dp Tryz.func41 ?_
  intro C hP hN
  simp only [Tryz.f41] at hN ⊢
  exact Gy
 have hf : dh s=ii s s.shs.length:=by simp [dh,h0]
 rw [hf];rw [h0] at cc
 obtain ⟨v1,v2,v3,v4,v5,v6,v7⟩:=kF h0
 have cr:=IW s.js s.ms v1 v2
 have csk:=fun a b=>IV s a b hs.sks
 have hcl:=fun h (hh : h ∈ s.shs)=>Cs (s:=s) (v6 h hh).1
 have hpb : ∀ a b : Sh,we s a b=(!uP (iX s.js) a b && !iE s a.link b.link):=fun _ _=>rfl
 generalize iX s.js=CL at *
 have nL:=rY s
 have iL:=rX s
 refine Dp Tryz.func41 ?_
 intro C hP hN
 simp only [Tryz.f41] at hN ⊢
 with_reducible repeat' (first|refine Sp.h ?_|((first|refine Wh [4] ?_|refine Wi [4] ?_|refine Ss.h ?_|refine Sc.h (cc) ?_|refine Sc.h (cr) ?_|(refine Sb.h ?_ ?_ ?_<;>(try intro hgd)<;>try exact Xy))<;>simp -implicitDefEqProofs (maxSteps:=2000000) [hP,hN]<;>try refine Ya ?_)|refine X2 ?_ ?_|(refine Xd ?_ ?_<;>intro hcd<;>try exact Xx))
 refine WP.loopN [6,8] s.shs.length (fun i st=>st.t 1=.ptr 1 0∧st.h 1=some (.box [.pv (.sl (s.js.map gq)),.pv (.sl (s.ms.map eG)),.pv (.sl (s.shs.map dU)),.pv (.sl (s.sks.map bF))] true false)∧st.t 3=.pv (zs CL)∧st.t 17=.pv (.sl (s.shs.map dU))∧st.t 18=.pv (Z s.shs.length)∧st.t 19=.pv (Z i)∧st.h 6=none∧st.h 8=none∧st.t 4=.arr 4 (ii s i).length∧st.h 4=some (.row 107 2 ((ii s i).map lX) 0)) (by simp [ii]) ?_
 rintro i st hi ⟨g1,hb1,g3,g17,g18,g19,hb6,hb8,g4,hb4⟩
 by_cases hlt : i < s.shs.length
 ·have hw:=bi hlt (by omega)
  generalize hxe : s.shs[i]=a at *
  have hx : s.shs[i]?=some a:=by rw [List.getElem?_eq_getElem hlt,hxe]
  obtain ⟨xa,ha1,ha2,ha3,ha4⟩:=hcl a (List.mem_of_getElem? hx)
  have hga : ∀ h,CL[po a]'h=xa:=fun h=>by have:=List.getElem?_eq_getElem h;rw [ha1] at this;injection this with this;exact this.symm
  have hsucc : ii s (i+1)=ii s i++jo s i s.shs.length:=rfl
  have nLi:=nL i
  have hnn : i * s.shs.length≤24 * 24:=Nat.mul_le_mul (by omega) (by omega)
  have hwa : IntKind.i64.wrap (a.link+1)=(po a : Int):=(ao (by omega) (by omega)).trans ha3
  have hap : a.link+1=(po a : Int):=ha3
  refine Gz ?_
  refine WP.loopN [8] (s.shs.length - (i+1)) (fun q st=>st.t 1=.ptr 1 0∧st.h 1=some (.box [.pv (.sl (s.js.map gq)),.pv (.sl (s.ms.map eG)),.pv (.sl (s.shs.map dU)),.pv (.sl (s.sks.map bF))] true false)∧st.t 3=.pv (zs CL)∧st.t 17=.pv (.sl (s.shs.map dU))∧st.t 18=.pv (Z s.shs.length)∧st.t 19=.pv (Z i)∧st.t 5=.pv (Z i)∧st.t 6=.ptr 6 0∧st.h 6=some (.box [.pv (Z a.link),.pv (Z a.rad),.pv (bp a.pts)] true false)∧st.h 8=none∧st.t 7=.pv (Z ((i+1+q : Nat) : Int))∧st.t 4=.arr 4 (ii s i++jo s i (i+1+q)).length∧st.h 4=some (.row 107 2 ((ii s i++jo s i (i+1+q)).map lX) 0)) (by simp [g1,hb1,g3,g17,g18,g19,hb6,hb8,g4,hb4,uQ]) ?_
  clear g1 hb1 g3 g17 g18 g19 hb6 hb8 g4 hb4
  rintro q st hq ⟨g1,hb1,g3,g17,g18,g19,g5,g6,hb6,hb8,g7,g4,hb4⟩
  obtain ⟨k,hk⟩ : ∃ k,k=i+1+q:=⟨_,rfl⟩
  have hk2 : i+1+(q+1)=k+1:=by omega
  rw [← hk] at g7 g4 hb4
  rw [hk2]
  have hIk : jo s i (k+1)=jo s i k++(if i < k∧fy s i k=true then [(i,k)] else []):=rfl
  have hlk:=iL i k
  by_cases hkl : k < s.shs.length
  ·have hkl' : (k : Int) < (s.shs.length : Int):=by omega
   have hwk : IntKind.i64.wrap ((k : Int)+1)=(k : Int)+1:=ao
   generalize hye : s.shs[k]=b at *
   have hy : s.shs[k]?=some b:=by rw [List.getElem?_eq_getElem hkl,hye]
   obtain ⟨xb,hc1,hc2,hc3,hc4⟩:=hcl b (List.mem_of_getElem? hy)
   have hgb : ∀ h,CL[po b]'h=xb:=fun h=>by have:=List.getElem?_eq_getElem h;rw [hc1] at this;injection this with this;exact this.symm
   have hwb : IntKind.i64.wrap (b.link+1)=(po b : Int):=(ao (by omega) (by omega)).trans hc3
   have hpa : fy s i k=(!uP CL a b && !iE s a.link b.link):=by simp only [fy,hx,hy,hpb]
   have hrg : uP CL a b=(xa==xb):=by simp only [uP,ha1,hc1,Option.getD_some]
   rw [hrg] at hpa
   have cs:=csk a.link b.link
   have hik : i < k:=by omega
   have hlen : (ii s i++jo s i k).length≤1000:=by simp only [List.length_append];omega
   generalize hPdef : ii s i++jo s i k=P at *
   have hq2 : q < s.shs.length - (i+1):=by omega
   have hPs : ii s i++jo s i (k+1)=P++(if fy s i k=true then [(i,k)] else []):=by
    rw [hIk,← List.append_assoc,hPdef]
    simp [hik]
   rw [hPs]
   generalize iE s a.link b.link=sk at *
   cases hxx : (xa==xb) with
   |true=>
    rw [hxx] at hpa
    have hpa' : fy s i k=false:=by rw [hpa];rfl
    rw [hpa']
    with_reducible repeat' (first|refine Sp.h ?_|((first|refine Wd ?_|refine Ss.h ?_|refine Sc.h (cs) ?_|(refine Sb.h ?_ ?_ ?_<;>(try intro hgd)<;>try exact Xy))<;>simp -implicitDefEqProofs (maxSteps:=2000000) [hP,hN,g1,hb1,g3,g17,g18,g19,g5,g6,hb6,hb8,g7,g4,hb4,hkl,hkl',hwk,hy,hye,hwa,hwb,ha1,ha2,hc1,hc2,hga,hgb,hxx,hq2]<;>try refine Ya ?_)|refine X2 ?_ ?_|(refine Xd ?_ ?_<;>intro hcd<;>try exact Xx))
   |false=>
    rw [hxx] at hpa
    cases sk with
    |true=>
     have hpa' : fy s i k=false:=by rw [hpa];rfl
     rw [hpa']
     with_reducible repeat' (first|refine Sp.h ?_|((first|refine Wd ?_|refine Ss.h ?_|refine Sc.h (cs) ?_|(refine Sb.h ?_ ?_ ?_<;>(try intro hgd)<;>try exact Xy))<;>simp -implicitDefEqProofs (maxSteps:=2000000) [hP,hN,g1,hb1,g3,g17,g18,g19,g5,g6,hb6,hb8,g7,g4,hb4,hkl,hkl',hwk,hy,hye,hwa,hwb,ha1,ha2,hc1,hc2,hga,hgb,hxx,hq2]<;>try refine Ya ?_)|refine X2 ?_ ?_|(refine Xd ?_ ?_<;>intro hcd<;>try exact Xx))
    |false=>
     have hpa' : fy s i k=true:=by rw [hpa];rfl
     rw [hpa']
     with_reducible repeat' (first|refine Sp.h ?_|((first|refine Wd ?_|refine Ss.h ?_|refine Sc.h (cs) ?_|(refine Sb.h ?_ ?_ ?_<;>(try intro hgd)<;>try exact Xy))<;>simp -implicitDefEqProofs (maxSteps:=2000000) [hP,hN,g1,hb1,g3,g17,g18,g19,g5,g6,hb6,hb8,g7,g4,hb4,hkl,hkl',hwk,hy,hye,hwa,hwb,ha1,ha2,hc1,hc2,hga,hgb,hxx,hq2,show (P.length+1) * 16≤140737488355328 by omega,show P.length≤9223372036854775806 by omega]<;>try refine Ya ?_)|refine X2 ?_ ?_|(refine Xd ?_ ?_<;>intro hcd<;>try exact Xx))
  ·have hkn : k=s.shs.length:=by omega
   have hkl' : ¬ (k : Int) < (s.shs.length : Int):=by omega
   rw [hkn,← hsucc] at g4 hb4
   exact Gy
 ·have hin : i=s.shs.length:=by omega
  subst hin
  exact Gy
theorem HH (x : Int × Int) : ah Tryz.prog 129 [.pv (bF x)] [] [] (.pv (B (!bG x.1 x.2))):=by
 refine Dp Tryz.func129 ?_
 intro C hP hN
 simp only [Tryz.f129] at hN ⊢
 with_reducible repeat' (first|refine Sp.h ?_|((first|refine Ss.h ?_|refine Sc.h (k9 _ _) ?_|(refine Sb.h ?_ ?_ ?_<;>(try intro hgd)<;>try exact Xy))<;>simp -implicitDefEqProofs (maxSteps:=2000000) [hP,hN])|refine X2 ?_ ?_|(refine Xd ?_ ?_<;>intro hcd<;>try exact Xx))
 all_goals (first|(simp_all;done)|((try simp_all)<;>(try omega)<;>grind))
def iF (js : List J) (bx : List Iv) : Bool:=decide (bx.length=js.length) && fe vI bx
theorem IY (js : List J) (ms : List Ms) (bx : List Iv) (hl : js.length≤9223372036854775807) (hl2 : bx.length≤9223372036854775807) : ah Tryz.prog 78 [.pv (jq js ms),.pv (iv bx)] [] [] (.pv (B (iF js bx))):=by
 have cc:=GP 129 (fun x=>!bG x.1 x.2) bx hl2 HH
 have ha : (bx.any fun x=>!bG x.1 x.2)=!fe vI bx:=DB vI bx
 rw [ha] at cc
 have hd : iF js bx=(decide (bx.length=js.length) && fe vI bx):=rfl
 rw [hd]
 generalize fe vI bx=c at *
 by_cases h : bx.length=js.length
 ·have h' : ((bx.length : Int)==(js.length : Int))=true:=by simp [h]
  cases c
  ·skip
   refine Dp Tryz.func78 ?_
   intro C hP hN
   simp only [Tryz.f78] at hN ⊢
   exact Gy
  ·skip
   refine Dp Tryz.func78 ?_
   intro C hP hN
   simp only [Tryz.f78] at hN ⊢
   exact Gy
 ·have h' : ((bx.length : Int)==(js.length : Int))=false:=by simp;omega
  refine Dp Tryz.func78 ?_
  intro C hP hN
  simp only [Tryz.f78] at hN ⊢
  exact Gy
end Go.Ab
namespace Go.Ab
open Go.Proofs
def zP : lk:=((((0,0),(0,0),(0,0)),((0,0),(0,0),(0,0)),((0,0),(0,0),(0,0))),((0,0),(0,0),(0,0)))
def z4 (L : List lk) (j : J) (v : Iv) : lk:=if j.parent=-1 then j6 j v else ll ((L[j.parent.toNat]?).getD zP) (j6 j v)
def iG (js : List J) (bx : List Iv) : Nat→List lk
 |0=>[]
 |i+1=>match js[i]?,bx[i]? with
  |some j,some v=>iG js bx i++[z4 (iG js bx i) j v]
  |_,_=>iG js bx i
def gb (js : List J) (bx : List Iv) : List lk:=iG js bx js.length
theorem i6 {js : List J} {bx : List Iv} (hb : bx.length=js.length) : ∀ i,i≤js.length→(iG js bx i).length=i
 |0,_=>rfl
 |i+1,h=>by
  have hlt : i < js.length:=by omega
  have hlb : i < bx.length:=by omega
  have ih:=i6 hb i (by omega)
  simp only [iG,List.getElem?_eq_getElem hlt,List.getElem?_eq_getElem hlb,List.length_append,ih,List.length_singleton]
theorem qp {js : List J} {bx : List Iv} (hb : bx.length=js.length) {k : Nat} : ∀ i,k≤i→i≤js.length→∀ q,q < k→(iG js bx i)[q]?=(iG js bx k)[q]?
 |0,h1,h2,q,hq=>by omega
 |i+1,h1,h2,q,hq=>by
  by_cases e : k=i+1
  ·subst e;rfl
  ·have hlt : i < js.length:=by omega
   have hlb : i < bx.length:=by omega
   rw [← qp hb i (by omega) (by omega) q hq]
   simp only [iG,List.getElem?_eq_getElem hlt,List.getElem?_eq_getElem hlb]
   rw [List.getElem?_append_left (by rw [i6 hb i (by omega)];omega)]
theorem xD {js : List J} {bx : List Iv} (hb : bx.length=js.length) {i : Nat} {j : J} {v : Iv} (hj : js[i]?=some j) (hv : bx[i]?=some v) (hk : uM i j) : (gb js bx)[i]?=some (if j.parent=-1 then j6 j v else ll (((gb js bx)[j.parent.toNat]?).getD zP) (j6 j v)):=by
 have hlt:=(List.getElem?_eq_some_iff.1 hj).1
 obtain ⟨_,hp1,hp2⟩:=hk
 have e1 : (gb js bx)[i]?=(iG js bx (i+1))[i]?:=qp hb js.length (k:=i+1) (by omega) (Nat.le_refl _) _ (by omega)
 rw [e1]
 have hlen:=i6 hb i (by omega)
 simp only [iG,hj,hv]
 rw [List.getElem?_append_right (by omega),hlen,Nat.sub_self]
 show some (z4 (iG js bx i) j v)=_
 unfold z4
 by_cases he : j.parent=-1
 ·rw [if_pos he,if_pos he]
 ·rw [if_neg he,if_neg he]
  have e2 : (gb js bx)[j.parent.toNat]?=(iG js bx i)[j.parent.toNat]?:=qp hb js.length (k:=i) (by omega) (Nat.le_refl _) _ (by omega)
  rw [e2]
theorem DX : cS zP=.val (.agg #[.int .i64 0,.int .i64 0,.int .i64 0,.int .i64 0,.int .i64 0,.int .i64 0,.int .i64 0,.int .i64 0,.int .i64 0,.int .i64 0,.int .i64 0,.int .i64 0,.int .i64 0,.int .i64 0,.int .i64 0,.int .i64 0,.int .i64 0,.int .i64 0,.int .i64 0,.int .i64 0,.int .i64 0,.int .i64 0,.int .i64 0,.int .i64 0]):=rfl
theorem DY : bZ bO=.val (.agg #[.int .i64 0,.int .i64 0,.int .i64 0,.int .i64 0,.int .i64 0,.int .i64 0]):=rfl
theorem mm {R : List PV} {k : Nat} {x : PV} (h : R[k]?=some x) : ∀ hk,R[k]'hk=x:=fun hk=>by
 have:=List.getElem?_eq_getElem hk
 rw [h] at this;injection this with this;exact this.symm
set_option maxRecDepth 4000 in
theorem IZ (js : List J) (ms : List Ms) (bx : List Iv) (hj : oh js) (hl : js.length≤10) (hb : bx.length=js.length) : ah Tryz.prog 79 [.pv (jq js ms),.pv (iv bx)] [] [] (.pv (.sl ((gb js bx).map cS))):=by
 have hLl : (gb js bx).length=js.length:=i6 hb _ (Nat.le_refl _)
 have hat:=fun i j v (h1 : js[i]?=some j) (h2 : bx[i]?=some v)=>xD hb h1 h2 (hj i j h1)
 generalize gb js bx=LL at *
 generalize hLM : LL.map cS=LM at *
 have hML : LM.length=js.length:=by rw [← hLM];simpa using hLl
 have hMk : ∀ k p,LL[k]?=some p→LM[k]?=some (cS p):=fun k p h=>by rw [← hLM,List.getElem?_map,h];rfl
 refine Dp Tryz.func79 ?_
 intro C hP hN
 simp only [Tryz.f79] at hN ⊢
 with_reducible repeat' (first|refine Sp.h ?_|((first|refine Wd ?_|refine Ss.h ?_|(refine Sb.h ?_ ?_ ?_<;>(try intro hgd)<;>try exact Xy))<;>simp -implicitDefEqProofs (maxSteps:=2000000) [hP,hN,show (192 : Int) * (js.length : Int)≤281474976710656 by omega,show (js.length : Int)≤9223372036854775807 by omega]<;>try refine Ya ?_)|refine X2 ?_ ?_|(refine Xd ?_ ?_<;>intro hcd<;>try exact Xx))
 refine WP.loopN [7] js.length (fun i st=>∃ R : List PV,st.t 1=.pv (iv bx)∧st.t 5=.arr 11 js.length∧st.t 13=.pv (.sl (js.map gq))∧st.t 14=.pv (Z js.length)∧st.t 15=.pv (Z i)∧st.h 7=none∧st.h 11=some (.row 156 24 R 0)∧R.length=js.length∧(∀ k,i≤k→k < js.length→R[k]?=some (cS zP))∧∀ k,k < i→R[k]?=LM[k]?) ?_ ?_
 ·refine ⟨List.replicate js.length (cS zP),?_⟩
  rw [DX]
  simp
  try (intro k hk;first|exact hk|simp [List.getElem?_replicate,hk])
 rintro i st hi ⟨R,g1,g5,g13,g14,g15,hb7,hb11,hRl,hRz,hR⟩
 by_cases hlt : i < js.length
 ·have hw:=bi hlt (by omega)
  generalize hxe : js[i]=j at *
  have hx : js[i]?=some j:=by rw [List.getElem?_eq_getElem hlt,hxe]
  have hltb : i < bx.length:=by omega
  generalize hve : bx[i]=v at *
  have hv : bx[i]?=some v:=by rw [List.getElem?_eq_getElem hltb,hve]
  obtain ⟨⟨hk0,hk6⟩,hp1,hp2⟩:=hj i j hx
  have cj:=HD (a:=v.1) (b:=v.2) j hk0 hk6
  have ha:=hat i j v hx hv
  have hRi:=hRz i (Nat.le_refl _) hlt
  have hgi:=mm hRi
  have hiR : i < R.length:=by omega
  generalize hq : j6 j (v.1,v.2)=q at *
  have key : ∀ x,LL[i]?=some x→(∀ k,i+1≤k→k < js.length→(R.set i (cS x))[k]?=some (cS zP))∧∀ k,k < i+1→(R.set i (cS x))[k]?=LM[k]?:=by
   intro x hxx
   refine ⟨fun k h1 h2=>?_,fun k h1=>?_⟩
   ·rw [List.getElem?_set,if_neg (by omega)];exact hRz k (by omega) h2
   ·rw [List.getElem?_set]
    by_cases e : i=k
    ·subst e;rw [if_pos rfl,if_pos hiR,hMk i x hxx]
    ·rw [if_neg e];exact hR k (by omega)
  have hs1 : (R.set i (cS q))[i]?=some (cS q):=by rw [List.getElem?_set,if_pos rfl,if_pos hiR]
  have hs2:=mm hs1
  have hs3 : ∀ y,(R.set i (cS q)).set i y=R.set i y:=fun y=>List.set_set ..
  by_cases he : j.parent=-1
  ·rw [if_pos he] at ha
   obtain ⟨k1,k2⟩:=key q ha
   have he' : (j.parent==-1)=true:=by simp [he]
   have he2 : (j.parent !=-1)=false:=by simp [he]
   with_reducible repeat' (first|refine Sp.h ?_|((first|refine Wd ?_|refine Ss.h ?_|refine Sc.h (cj) ?_|(refine Sb.h ?_ ?_ ?_<;>(try intro hgd)<;>try exact Xy))<;>simp -implicitDefEqProofs (maxSteps:=2000000) [hP,hN,g1,g5,g13,g14,g15,hb7,hb11,hRl,hlt,hltb,hw,hx,hxe,hv,hve,hRi,hgi,he',he2]<;>try refine Ya ?_)|refine X2 ?_ ?_|(refine Xd ?_ ?_<;>intro hcd<;>try exact Xx))
   all_goals first|exact ⟨_,rfl,by simp [hRl],k1,k2⟩|exact ⟨k1,k2⟩|exact ⟨by simp [hRl],k1,k2⟩|exact k2
  ·rw [if_neg he] at ha
   obtain ⟨p,hp⟩ : ∃ p : Nat,j.parent=p:=⟨j.parent.toNat,by omega⟩
   have he' : (j.parent==-1)=false:=by simp [he]
   have he2 : (j.parent !=-1)=true:=by simp [he]
   have hp0 : (0 : Int)≤j.parent:=by omega
   have hpt : j.parent.toNat=p:=by omega
   have hpi : p < i:=by omega
   have hpl : p < LL.length:=by omega
   have hLp : LL[p]?=some LL[p]:=List.getElem?_eq_getElem hpl
   rw [hpt,hLp,Option.getD_some] at ha
   have hRp:=(hR p hpi).trans (hMk p _ hLp)
   generalize LL[p]=pp at *
   obtain ⟨k1,k2⟩:=key _ ha
   have ht1 : (R.set i (cS q))[p]?=some (cS pp):=by rw [List.getElem?_set,if_neg (by omega)];exact hRp
   have ht2:=mm ht1
   have hpj : p < js.length:=by omega
   with_reducible repeat' (first|refine Sp.h ?_|((first|refine Wd ?_|refine Ss.h ?_|refine Sc.h (cj) ?_|refine Sc.h (rA) ?_|(refine Sb.h ?_ ?_ ?_<;>(try intro hgd)<;>try exact Xy))<;>simp -implicitDefEqProofs (maxSteps:=2000000) [hP,hN,g1,g5,g13,g14,g15,hb7,hb11,hRl,hlt,hltb,hw,hx,hxe,hv,hve,hRi,hgi,hp0,hpt,he',he2,hs1,hs2,hs3,ht1,ht2,hpj]<;>try refine Ya ?_)|refine X2 ?_ ?_|(refine Xd ?_ ?_<;>intro hcd<;>try exact Xx))
   all_goals first|exact ⟨_,rfl,by simp [hRl],k1,k2⟩|exact ⟨k1,k2⟩|exact ⟨by simp [hRl],k1,k2⟩|exact k2
 ·have hin : i=js.length:=by omega
  subst hin
  have hRC : R=LM:=by
   apply List.ext_getElem?
   intro k
   by_cases hk : k < js.length
   ·exact hR k hk
   ·rw [List.getElem?_eq_none (by omega),List.getElem?_eq_none (by omega)]
  subst hRC
  exact Gy
def ed (h : Sh) (p : lk) : List aU:=h.pts.map fun q=>gw p (dD q)
set_option maxRecDepth 4000 in
theorem I0 (h : Sh) (p : lk) (hs : fx h=true) : ah Tryz.prog 81 [.pv (dU h),.pv (cS p)] [] [] (.pv (bn (ed h p))):=by
 have hlen : 1≤h.pts.length∧h.pts.length≤8:=by
  simp only [fx,Bool.and_eq_true,decide_eq_true_eq] at hs
  obtain ⟨⟨⟨_,b3⟩,b4⟩,_⟩:=hs
  exact ⟨b3,b4⟩
 have cc:=HE h (by omega)
 rw [hs] at cc
 have hpl : ed h p=h.pts.map fun q=>gw p (dD q):=rfl
 rw [hpl]
 generalize hLM : (h.pts.map fun q=>gw p (dD q)).map bZ=LM
 have hML : LM.length=h.pts.length:=by rw [← hLM];simp
 have hMk : ∀ k q,h.pts[k]?=some q→LM[k]?=some (bZ (gw p (dD q))):=fun k q hk=>by rw [← hLM,List.getElem?_map,List.getElem?_map,hk];rfl
 refine Dp Tryz.func81 ?_
 intro C hP hN
 simp only [Tryz.f81] at hN ⊢
 with_reducible repeat' (first|refine Sp.h ?_|((first|refine Wd ?_|refine Ss.h ?_|refine Sc.h (cc) ?_|(refine Sb.h ?_ ?_ ?_<;>(try intro hgd)<;>try exact Xy))<;>simp -implicitDefEqProofs (maxSteps:=2000000) [hP,hN,show (48 : Int) * (h.pts.length : Int)≤281474976710656 by omega,show (h.pts.length : Int)≤9223372036854775807 by omega]<;>try refine Ya ?_)|refine X2 ?_ ?_|(refine Xd ?_ ?_<;>intro hcd<;>try exact Xx))
 refine WP.loopN [7] h.pts.length (fun i st=>∃ R : List PV,st.t 3=.ptr 3 0∧st.h 3=some (.box [.pv (Z p.1.1.1.1),.pv (Z p.1.1.1.2),.pv (Z p.1.1.2.1.1),.pv (Z p.1.1.2.1.2),.pv (Z p.1.1.2.2.1),.pv (Z p.1.1.2.2.2),.pv (Z p.1.2.1.1.1),.pv (Z p.1.2.1.1.2),.pv (Z p.1.2.1.2.1.1),.pv (Z p.1.2.1.2.1.2),.pv (Z p.1.2.1.2.2.1),.pv (Z p.1.2.1.2.2.2),.pv (Z p.1.2.2.1.1),.pv (Z p.1.2.2.1.2),.pv (Z p.1.2.2.2.1.1),.pv (Z p.1.2.2.2.1.2),.pv (Z p.1.2.2.2.2.1),.pv (Z p.1.2.2.2.2.2),.pv (Z p.2.1.1),.pv (Z p.2.1.2),.pv (Z p.2.2.1.1),.pv (Z p.2.2.1.2),.pv (Z p.2.2.2.1),.pv (Z p.2.2.2.2)] true false)∧st.t 5=.arr 14 h.pts.length∧st.t 16=.pv (bp h.pts)∧st.t 17=.pv (Z h.pts.length)∧st.t 18=.pv (Z i)∧st.h 7=none∧st.h 14=some (.row 124 6 R 0)∧R.length=h.pts.length∧(∀ k,i≤k→k < h.pts.length→R[k]?=some (bZ bO))∧∀ k,k < i→R[k]?=LM[k]?) ?_ ?_
 ·refine ⟨List.replicate h.pts.length (bZ bO),?_⟩
  rw [DY]
  simp
  try (intro k hk;first|exact hk|simp [List.getElem?_replicate,hk])
 rintro i st hi ⟨R,g3,hb3,g5,g16,g17,g18,hb7,hb14,hRl,hRz,hR⟩
 by_cases hlt : i < h.pts.length
 ·have hw:=bi hlt (by omega)
  generalize hxe : h.pts[i]=q at *
  have hx : h.pts[i]?=some q:=by rw [List.getElem?_eq_getElem hlt,hxe]
  have hRi:=hRz i (Nat.le_refl _) hlt
  have hgi:=mm hRi
  have hiR : i < R.length:=by omega
  have cp:=Cn q.1 q.2.1 q.2.2
  have hpq : dD (q.1,q.2.1,q.2.2)=dD q:=rfl
  rw [hpq] at cp
  have k1 : ∀ y k,i+1≤k→k < h.pts.length→(R.set i y)[k]?=some (bZ bO):=fun y k h1 h2=>by
   rw [List.getElem?_set,if_neg (by omega)];exact hRz k (by omega) h2
  have k2 : ∀ k,k < i+1→(R.set i (bZ (gw p (dD q))))[k]?=LM[k]?:=fun k h1=>by
   rw [List.getElem?_set]
   by_cases e : i=k
   ·subst e;rw [if_pos rfl,if_pos hiR,hMk i q hx]
   ·rw [if_neg e];exact hR k (by omega)
  clear hMk hLM
  generalize dD q=pq at *
  with_reducible repeat' (first|refine Sp.h ?_|((first|refine Wd ?_|refine Ss.h ?_|refine Sc.h (cp) ?_|refine Sc.h (Ho) ?_|(refine Sb.h ?_ ?_ ?_<;>(try intro hgd)<;>try exact Xy))<;>simp -implicitDefEqProofs (maxSteps:=2000000) [hP,hN,g3,hb3,g5,g16,g17,g18,hb7,hb14,hRl,hlt,hw,hx,hxe,hRi,hgi]<;>try refine Ya ?_)|refine X2 ?_ ?_|(refine Xd ?_ ?_<;>intro hcd<;>try exact Xx))
  all_goals first|exact ⟨_,rfl,by simp [hRl],k1 _,k2⟩|exact ⟨k1 _,k2⟩|exact ⟨by simp [hRl],k1 _,k2⟩|exact k2
 ·have hin : i=h.pts.length:=by omega
  subst hin
  have hRC : R=LM:=by
   apply List.ext_getElem?
   intro k
   by_cases hk : k < h.pts.length
   ·exact hR k hk
   ·rw [List.getElem?_eq_none (by omega),List.getElem?_eq_none (by omega)]
  subst hRC
  exact Gy
  all_goals (rw [← hLM];simp)
end Go.Ab
namespace Go.Ab
open Go.Proofs
def gh (LL : List lk) (h : Sh) : lk:=if h.link=-1 then fP else (LL[h.link.toNat]?).getD zP
def dG (s : Sce) (bx : List Iv) : List (List aU):=s.shs.map fun h=>ed h (gh (gb s.js bx) h)
theorem qq {js : List J} {bx : List Iv} : iF js bx=true↔bx.length=js.length∧fe vI bx=true:=by simp [iF]
set_option maxRecDepth 4000 in
theorem I1 (s : Sce) (bx : List Iv) (hs : ScL s) (h0 : cD s=0) (hbx : iF s.js bx=true) : ah Tryz.prog 42 [.pv (fh s),.pv (iv bx)] [] [] (.pv (.sl ((dG s bx).map bn))):=by
 have cc:=Dc s hs
 rw [h0] at cc
 obtain ⟨v1,v2,v3,v4,v5,v6,v7⟩:=kF h0
 have hbl:=(qq.1 hbx).1
 have cb:=IY s.js s.ms bx hs.js (by omega)
 rw [hbx] at cb
 have cl:=IZ s.js s.ms bx v1 v2 hbl
 have hLl : (gb s.js bx).length=s.js.length:=i6 hbl _ (Nat.le_refl _)
 have hpL : dG s bx=s.shs.map fun h=>ed h (gh (gb s.js bx) h):=rfl
 rw [hpL]
 generalize gb s.js bx=LL at *
 generalize hLM : (s.shs.map fun h=>ed h (gh LL h)).map bn=LM
 have hML : LM.length=s.shs.length:=by rw [← hLM];simp
 have hMk : ∀ k h,s.shs[k]?=some h→LM[k]?=some (bn (ed h (gh LL h))):=fun k q hk=>by rw [← hLM,List.getElem?_map,List.getElem?_map,hk];rfl
 refine Dp Tryz.func42 ?_
 intro C hP hN
 simp only [Tryz.f42] at hN ⊢
 with_reducible repeat' (first|refine Sp.h ?_|((first|refine Ss.h ?_|refine Sc.h (cb) ?_|refine Sc.h (cc) ?_|refine Sc.h (cl) ?_|(refine Sb.h ?_ ?_ ?_<;>(try intro hgd)<;>try exact Xy))<;>simp -implicitDefEqProofs (maxSteps:=2000000) [hP,hN,show (24 : Int) * (s.shs.length : Int)≤281474976710656 by omega,show (s.shs.length : Int)≤9223372036854775807 by omega])|refine X2 ?_ ?_|(refine Xd ?_ ?_<;>intro hcd<;>try exact Xx))
 refine WP.loopN [8,9] s.shs.length (fun i st=>∃ R : List PV,st.t 5=.pv (.sl (LL.map cS))∧st.t 6=.arr 27 s.shs.length∧st.t 29=.pv (.sl (s.shs.map dU))∧st.t 30=.pv (Z s.shs.length)∧st.t 31=.pv (Z i)∧st.h 8=none∧st.h 9=none∧st.h 27=some (.row 71 1 R 0)∧R.length=s.shs.length∧(∀ k,i≤k→k < s.shs.length→R[k]?=some (.val (.slice none 0 0)))∧∀ k,k < i→R[k]?=LM[k]?) ?_ ?_
 ·refine ⟨List.replicate s.shs.length (.val (.slice none 0 0)),?_⟩
  simp
  try (intro k hk;first|exact hk|simp [List.getElem?_replicate,hk])
 rintro i st hi ⟨R,g5,g6,g29,g30,g31,hb8,hb9,hb27,hRl,hRz,hR⟩
 by_cases hlt : i < s.shs.length
 ·have hw:=bi hlt (by omega)
  generalize hxe : s.shs[i]=h at *
  have hx : s.shs[i]?=some h:=by rw [List.getElem?_eq_getElem hlt,hxe]
  have hm:=List.mem_of_getElem? hx
  obtain ⟨hl1,hsb⟩:=v6 h hm
  simp only [dV,Bool.and_eq_true,decide_eq_true_eq] at hl1
  have hRi:=hRz i (Nat.le_refl _) hlt
  have hgi:=mm hRi
  have hiR : i < R.length:=by omega
  have cp:=fun p=>I0 h p hsb
  have k1 : ∀ y k,i+1≤k→k < s.shs.length→(R.set i y)[k]?=some (.val (.slice none 0 0)):=fun y k h1 h2=>by
   rw [List.getElem?_set,if_neg (by omega)];exact hRz k (by omega) h2
  have k2 : ∀ k,k < i+1→(R.set i (bn (ed h (gh LL h))))[k]?=LM[k]?:=fun k h1=>by
   rw [List.getElem?_set]
   by_cases e : i=k
   ·subst e;rw [if_pos rfl,if_pos hiR,hMk i h hx]
   ·rw [if_neg e];exact hR k (by omega)
  clear hMk hLM hpL
  by_cases he : h.link=-1
  ·have he1 : (h.link==-1)=true:=by simp [he]
   have he2 : (h.link !=-1)=false:=by simp [he]
   have hpo : gh LL h=fP:=by simp [gh,he]
   rw [hpo] at k2
   have cps:=cp fP
   generalize ed h fP=pl at *
   with_reducible repeat' (first|refine Sp.h ?_|((first|refine Ss.h ?_|refine Sc.h (E6) ?_|refine Sc.h (cps) ?_|(refine Sb.h ?_ ?_ ?_<;>(try intro hgd)<;>try exact Xy))<;>simp -implicitDefEqProofs (maxSteps:=2000000) [hP,hN,g5,g6,g29,g30,g31,hb8,hb9,hb27,hRl,hlt,hw,hx,hxe,hRi,hgi,he1,he2])|refine X2 ?_ ?_|(refine Xd ?_ ?_<;>intro hcd<;>try exact Xx))
   all_goals first|exact ⟨_,rfl,by simp [hRl],k1 _,k2⟩|exact ⟨k1 _,k2⟩|exact ⟨by simp [hRl],k1 _,k2⟩|exact k2
  ·have he1 : (h.link==-1)=false:=by simp [he]
   have he2 : (h.link !=-1)=true:=by simp [he]
   have hp0 : (0 : Int)≤h.link:=by omega
   obtain ⟨p,hp⟩ : ∃ p : Nat,h.link.toNat=p:=⟨_,rfl⟩
   have hpl : p < LL.length:=by omega
   have hLp : LL[p]?=some LL[p]:=List.getElem?_eq_getElem hpl
   have hpo : gh LL h=LL[p]:=by simp only [gh,if_neg he,hp,hLp,Option.getD_some]
   have hgp : ∀ hh,LL[p]'hh=LL[p]:=fun _=>rfl
   rw [hpo] at k2
   generalize hpp : LL[p]=pp at *
   have cps:=cp pp
   generalize ed h pp=pl at *
   with_reducible repeat' (first|refine Sp.h ?_|((first|refine Ss.h ?_|refine Sc.h (E6) ?_|refine Sc.h (cps) ?_|(refine Sb.h ?_ ?_ ?_<;>(try intro hgd)<;>try exact Xy))<;>simp -implicitDefEqProofs (maxSteps:=2000000) [hP,hN,g5,g6,g29,g30,g31,hb8,hb9,hb27,hRl,hlt,hw,hx,hxe,hRi,hgi,he1,he2,hp0,hp,hpl,hLp,hpp])|refine X2 ?_ ?_|(refine Xd ?_ ?_<;>intro hcd<;>try exact Xx))
   all_goals first|exact ⟨_,rfl,by simp [hRl],k1 _,k2⟩|exact ⟨k1 _,k2⟩|exact ⟨by simp [hRl],k1 _,k2⟩|exact k2
 ·have hin : i=s.shs.length:=by omega
  subst hin
  have hRC : R=LM:=by
   apply List.ext_getElem?
   intro k
   by_cases hk : k < s.shs.length
   ·exact hR k hk
   ·rw [List.getElem?_eq_none (by omega),List.getElem?_eq_none (by omega)]
  subst hRC
  exact Gy
  all_goals (rw [← hLM];simp)
def oN (v : aU) (k : Nat) : Vc:=(if 0 < k then jY v.1 else 0,if 1 < k then jY v.2.1 else 0,if 2 < k then jY v.2.2 else 0)
theorem y8 (l : List aU) (hl : l.length≤9223372036854775807) : ah Tryz.prog 25 [.pv (bn l)] [] [] (.pv (bp (ba l))):=by
 have cp:=t7 l hl
 cases hp : aZ l with
 |false=>
  have hc : ba l=[]:=by simp [ba,hp]
  rw [hc];rw [hp] at cp
  refine Dp Tryz.func25 ?_
  intro C hP hN
  simp only [Tryz.f25] at hN ⊢
  exact Gy
 |true=>
 have hc : ba l=l.map gV:=by simp [ba,hp]
 rw [hc];rw [hp] at cp
 simp only [aZ,Bool.and_eq_true,decide_eq_true_eq] at hp
 obtain ⟨⟨hp1,hp2⟩,hp3⟩:=hp
 generalize hLM : (l.map gV).map aG=LM
 have hML : LM.length=l.length:=by rw [← hLM];simp
 have hMk : ∀ k h,l[k]?=some h→LM[k]?=some (aG (gV h)):=fun k q hk=>by rw [← hLM,List.getElem?_map,List.getElem?_map,hk];rfl
 refine Dp Tryz.func25 ?_
 intro C hP hN
 simp only [Tryz.f25] at hN ⊢
 with_reducible repeat' (first|refine Sp.h ?_|((first|refine Wd ?_|refine Ss.h ?_|refine Sc.h (cp) ?_|(refine Sb.h ?_ ?_ ?_<;>(try intro hgd)<;>try exact Xy))<;>simp -implicitDefEqProofs (maxSteps:=2000000) [hP,hN,show (24 : Int) * (l.length : Int)≤281474976710656 by omega,show (l.length : Int)≤9223372036854775807 by omega]<;>try refine Ya ?_)|refine X2 ?_ ?_|(refine Xd ?_ ?_<;>intro hcd<;>try exact Xx))
 refine WP.loopN [5,7] l.length (fun i st=>∃ R : List PV,st.t 3=.arr 13 l.length∧st.t 14=.pv (bn l)∧st.t 15=.pv (Z l.length)∧st.t 16=.pv (Z i)∧st.h 5=none∧st.h 7=none∧st.h 13=some (.row 51 3 R 0)∧R.length=l.length∧(∀ k,i≤k→k < l.length→R[k]?=some (lf 0 0 0))∧∀ k,k < i→R[k]?=LM[k]?) ?_ ?_
 ·refine ⟨List.replicate l.length (lf 0 0 0),?_⟩
  simp
  try (intro k hk;first|exact hk|simp [List.getElem?_replicate,hk])
 rintro i st hi ⟨R,g3,g14,g15,g16,hb5,hb7,hb13,hRl,hRz,hR⟩
 by_cases hlt : i < l.length
 ·have hw:=bi hlt (by omega)
  generalize hxe : l[i]=v at *
  have hx : l[i]?=some v:=by rw [List.getElem?_eq_getElem hlt,hxe]
  have hRi:=hRz i (Nat.le_refl _) hlt
  have hMi:=hMk i v hx
  clear hMk
  refine Gz ?_
  refine WP.loopN [7] 3 (fun k st=>∃ R' : List PV,st.t 3=.arr 13 l.length∧st.t 4=.pv (Z i)∧st.t 14=.pv (bn l)∧st.t 15=.pv (Z l.length)∧st.t 16=.pv (Z i)∧st.t 21=.pv (bZ v)∧st.t 22=.pv (Z k)∧st.h 7=none∧st.h 13=some (.row 51 3 R' 0)∧R'.length=l.length∧R'[i]?=some (lf (oN v k).1 (oN v k).2.1 (oN v k).2.2)∧∀ q,q≠i→R'[q]?=R[q]?) ?_ ?_
  ·refine ⟨R,?_⟩
   simp [g3,g14,g15,g16,hb5,hb7,hb13,hRl,hRi,oN]
  clear g3 g14 g15 g16 hb5 hb7 hb13
  rintro k st hk ⟨R',g3,g4,g14,g15,g16,g21,g22,hb7,hb13,hR'l,hR'i,hR'⟩
  have hgi:=mm hR'i
  have hiR' : i < R'.length:=by omega
  have hset : ∀ y,(R'.set i y)[i]?=some y:=fun y=>by rw [List.getElem?_set,if_pos rfl,if_pos hiR']
  have hoth : ∀ y q,q≠i→(R'.set i y)[q]?=R[q]?:=fun y q hq=>by rw [List.getElem?_set,if_neg (fun e=>hq e.symm)];exact hR' q hq
  rcases cE hk with rfl|rfl|rfl|rfl
  all_goals (simp [oN] at hR'i hgi g22)
  ·skip
   with_reducible repeat' (first|refine Sp.h ?_|((first|refine Wd ?_|refine Ss.h ?_|refine Sc.h (Cp) ?_|(refine Sb.h ?_ ?_ ?_<;>(try intro hgd)<;>try exact Xy))<;>simp -implicitDefEqProofs (maxSteps:=2000000) [hP,hN,g3,g4,g14,g15,g16,g21,g22,hb7,hb13,hR'l,hR'i,hgi,hlt,oN,hset]<;>try refine Ya ?_)|refine X2 ?_ ?_|(refine Xd ?_ ?_<;>intro hcd<;>try exact Xx))
   all_goals first|exact ⟨_,rfl,by simp [hR'l],hset _,hoth _⟩|exact ⟨by simp [hR'l],hset _,hoth _⟩|exact ⟨hset _,hoth _⟩|exact fun q hq=>hoth _ q hq
  ·skip
   with_reducible repeat' (first|refine Sp.h ?_|((first|refine Wd ?_|refine Ss.h ?_|refine Sc.h (Cp) ?_|(refine Sb.h ?_ ?_ ?_<;>(try intro hgd)<;>try exact Xy))<;>simp -implicitDefEqProofs (maxSteps:=2000000) [hP,hN,g3,g4,g14,g15,g16,g21,g22,hb7,hb13,hR'l,hR'i,hgi,hlt,oN,hset]<;>try refine Ya ?_)|refine X2 ?_ ?_|(refine Xd ?_ ?_<;>intro hcd<;>try exact Xx))
   all_goals first|exact ⟨_,rfl,by simp [hR'l],hset _,hoth _⟩|exact ⟨by simp [hR'l],hset _,hoth _⟩|exact ⟨hset _,hoth _⟩|exact fun q hq=>hoth _ q hq
  ·skip
   with_reducible repeat' (first|refine Sp.h ?_|((first|refine Wd ?_|refine Ss.h ?_|refine Sc.h (Cp) ?_|(refine Sb.h ?_ ?_ ?_<;>(try intro hgd)<;>try exact Xy))<;>simp -implicitDefEqProofs (maxSteps:=2000000) [hP,hN,g3,g4,g14,g15,g16,g21,g22,hb7,hb13,hR'l,hR'i,hgi,hlt,oN,hset]<;>try refine Ya ?_)|refine X2 ?_ ?_|(refine Xd ?_ ?_<;>intro hcd<;>try exact Xx))
   all_goals first|exact ⟨_,rfl,by simp [hR'l],hset _,hoth _⟩|exact ⟨by simp [hR'l],hset _,hoth _⟩|exact ⟨hset _,hoth _⟩|exact fun q hq=>hoth _ q hq
  ·have k1 : ∀ k,i+1≤k→k < l.length→R'[k]?=some (lf 0 0 0):=fun k h1 h2=>by rw [hR' k (by omega)];exact hRz k (by omega) h2
   have k2 : ∀ k,k < i+1→R'[k]?=LM[k]?:=fun k h1=>by
    by_cases e : k=i
    ·subst e;rw [hMi,hR'i];rfl
    ·rw [hR' k e];exact hR k (by omega)
   refine Gz ?_
   all_goals first|exact ⟨_,rfl,hR'l,k1,k2⟩|exact ⟨hR'l,k1,k2⟩|exact ⟨k1,k2⟩|exact k2
 ·have hin : i=l.length:=by omega
  subst hin
  have hRC : R=LM:=by
   apply List.ext_getElem?
   intro k
   by_cases hk : k < l.length
   ·exact hR k hk
   ·rw [List.getElem?_eq_none (by omega),List.getElem?_eq_none (by omega)]
  subst hRC
  exact Gy
  all_goals (rw [← hLM];simp)
end Go.Ab
namespace Go.Ab
open Go.Proofs
set_option maxRecDepth 100000 in
@[simp] theorem Ik : dj Tryz.prog 43:=by
 have hf:=Tryz.func43;have nt:=Tryz.ntmps43;have rs:=Tryz.results43;exact Et
set_option maxRecDepth 100000 in
@[simp] theorem G5 : dj Tryz.prog 138:=by
 have hf:=Tryz.func138;have nt:=Tryz.ntmps138;have rs:=Tryz.results138;exact Et
def bh (l : List Vc) : Nat→Vc
 |0=>(0,0,0)
 |i+1=>match l[i]? with
  |some p=>((bh l i).1+p.1,(bh l i).2.1+p.2.1,(bh l i).2.2+p.2.2)
  |none=>bh l i
theorem ig {l : List Vc} (hl : l.all (bg 268435456)=true) : ∀ i : Nat,eJ ((i : Int) * 268435456) (bh l i)
 |0=>by simp [bh,eJ]
 |i+1=>by
  obtain ⟨i1,i2,i3⟩:=ig hl i
  simp only [bh]
  split
  ·rename_i p hp
   obtain ⟨a,b,c⟩:=dZ (List.all_eq_true.1 hl p (List.mem_of_getElem? hp))
   exact ⟨⟨by simp only;omega,by simp only;omega⟩,⟨by simp only;omega,by simp only;omega⟩,⟨by simp only;omega,by simp only;omega⟩⟩
  ·exact ⟨⟨by omega,by omega⟩,⟨by omega,by omega⟩,⟨by omega,by omega⟩⟩
def pZ (s p : Vc) (j : Nat) : List AV:=[.pv (Z (if 0 < j then s.1+p.1 else s.1)),.pv (Z (if 1 < j then s.2.1+p.2.1 else s.2.1)),.pv (Z (if 2 < j then s.2.2+p.2.2 else s.2.2))]
theorem ER (l : List Vc) (h8 : l.length≤8) (hl : l.all (bg 268435456)=true) : ah Tryz.prog 139 [.pv (bp l)] [] [] (.pv (aG (bh l l.length))):=by
 refine Dp Tryz.func139 ?_
 intro C hP hN
 simp only [Tryz.f139] at hN ⊢
 refine Gz ?_
 refine WP.loopN [5] l.length (fun i st=>st.t 2=.ptr 2 0∧st.h 2=some (.box [.pv (Z 0),.pv (Z 0),.pv (Z 0)] true false)∧st.t 3=.ptr 3 0∧st.h 3=some (.box [.pv (Z (bh l i).1),.pv (Z (bh l i).2.1),.pv (Z (bh l i).2.2)] true false)∧st.t 7=.pv (bp l)∧st.t 8=.pv (Z l.length)∧st.t 9=.pv (Z i)∧st.h 5=none) (by simp [bh]) ?_
 rintro i st hi ⟨g2,hb2,g3,hb3,g7,g8,g9,hb5⟩
 by_cases hlt : i < l.length
 ·have hwr:=bi hlt (by omega)
  generalize hxe : l[i]=p at *
  have hx : l[i]?=some p:=by rw [List.getElem?_eq_getElem hlt,hxe]
  have r1:=ig hl (i+1)
  have hp:=dZ (List.all_eq_true.1 hl p (List.mem_of_getElem? hx))
  have hS : bh l (i+1)=((bh l i).1+p.1,(bh l i).2.1+p.2.1,(bh l i).2.2+p.2.2):=by simp only [bh,hx]
  generalize bh l i=S at *
  generalize bh l (i+1)=S' at *
  subst hS
  obtain ⟨q1,q2,q3⟩:=r1
  simp only at q1 q2 q3
  have v1 : IntKind.i64.wrap (S.1+p.1)=S.1+p.1:=ao
  have v2 : IntKind.i64.wrap (S.2.1+p.2.1)=S.2.1+p.2.1:=ao
  have v3 : IntKind.i64.wrap (S.2.2+p.2.2)=S.2.2+p.2.2:=ao
  clear q1 q2 q3 hp
  have hbeg : [AV.pv (Z S.1),AV.pv (Z S.2.1),AV.pv (Z S.2.2)]=pZ S p 0:=rfl
  rw [hbeg] at hb3
  refine Gz ?_
  refine WP.loopN [] 3 (fun j st=>st.t 2=.ptr 2 0∧st.h 2=some (.box [.pv (Z 0),.pv (Z 0),.pv (Z 0)] true false)∧st.t 3=.ptr 3 0∧st.h 3=some (.box (pZ S p j) true false)∧st.t 5=.ptr 5 0∧st.h 5=some (.box [.pv (Z p.1),.pv (Z p.2.1),.pv (Z p.2.2)] true false)∧st.t 7=.pv (bp l)∧st.t 8=.pv (Z l.length)∧st.t 9=.pv (Z i)∧st.t 13=.pv (Z j)) (by simp [g2,hb2,g3,g7,g8,g9,hb3,pZ]) ?_
  clear g2 hb2 g3 g7 g8 g9 hb3 hb5
  rintro j st hj ⟨g2,hb2,g3,hb3,g5,hb5,g7,g8,g9,g13⟩
  rcases cE hj with rfl|rfl|rfl|rfl
  all_goals (simp [pZ] at hb3 g13)
  ·skip
   with_reducible repeat' (first|refine Sp.h ?_|((first|refine Wd ?_|refine Ss.h ?_|(refine Sb.h ?_ ?_ ?_<;>(try intro hgd)<;>try exact Xy))<;>simp -implicitDefEqProofs (maxSteps:=2000000) [hP,hN,g2,hb2,g3,hb3,g5,hb5,g7,g8,g9,g13,v1,pZ]<;>try refine Ya ?_)|refine X2 ?_ ?_|(refine Xd ?_ ?_<;>intro hcd<;>try exact Xx))
  ·skip
   with_reducible repeat' (first|refine Sp.h ?_|((first|refine Wd ?_|refine Ss.h ?_|(refine Sb.h ?_ ?_ ?_<;>(try intro hgd)<;>try exact Xy))<;>simp -implicitDefEqProofs (maxSteps:=2000000) [hP,hN,g2,hb2,g3,hb3,g5,hb5,g7,g8,g9,g13,v2,pZ]<;>try refine Ya ?_)|refine X2 ?_ ?_|(refine Xd ?_ ?_<;>intro hcd<;>try exact Xx))
  ·skip
   with_reducible repeat' (first|refine Sp.h ?_|((first|refine Wd ?_|refine Ss.h ?_|(refine Sb.h ?_ ?_ ?_<;>(try intro hgd)<;>try exact Xy))<;>simp -implicitDefEqProofs (maxSteps:=2000000) [hP,hN,g2,hb2,g3,hb3,g5,hb5,g7,g8,g9,g13,v3,pZ]<;>try refine Ya ?_)|refine X2 ?_ ?_|(refine Xd ?_ ?_<;>intro hcd<;>try exact Xx))
  ·skip
   exact Gy
 ·have hin : i=l.length:=by omega
  subst hin
  exact Gy
abbrev iS : List Vc:=[(1,0,0),(-1,0,0),(0,1,0),(0,-1,0),(0,0,1),(0,0,-1)]
theorem IF : ah Tryz.prog 86 [] [] [] (.pv (bp iS)):=by
 refine Dp Tryz.func86 ?_
 intro C hP hN
 simp only [Tryz.f86] at hN ⊢
 exact Gy
theorem jE {l : List aU} : (ba l).all (bg 268435456)=true:=by
 unfold ba
 split
 ·rename_i h
  have hp:=(cJ h).1
  rw [List.all_eq_true] at hp ⊢
  intro x hx
  obtain ⟨v,hv,rfl⟩:=List.mem_map.1 hx
  have h1:=hp v hv
  rw [fw] at h1
  obtain ⟨a,b,c⟩:=h1
  have hm : ∀ x : Iv,dx x=true→ft (jY x) 268435456=true:=fun x hx=>by
   rw [fg] at hx
   rw [bL]
   unfold jY
   split<;>omega
  rw [cW]
  exact ⟨hm _ a,hm _ b,hm _ c⟩
 ·rfl
theorem fv {l : List aU} (h : aZ l=true) : (ba l).length=l.length:=by simp [ba,h]
def jn (a b : List aU) : Vc:=((bh (ba a) a.length).1 * b.length - (bh (ba b) b.length).1 * a.length,(bh (ba a) a.length).2.1 * b.length - (bh (ba b) b.length).2.1 * a.length,(bh (ba a) a.length).2.2 * b.length - (bh (ba b) b.length).2.2 * a.length)
def iT (a b : List aU) : Vc:=if aZ a && aZ b then bP (jn a b) else (0,0,0)
def jP (a b : List aU) : Bool:=aZ a && aZ b && nz (bP (jn a b))
theorem zO {l : List aU} (h : aZ l=true) : eJ 2147483648 (bh (ba l) l.length):=by
 have h1:=ig (jE (l:=l)) l.length
 have h2:=(cJ h).2.1
 exact ic h1 (by omega)
theorem yM {a b : List aU} (ha : aZ a=true) (hb : aZ b=true) : eJ 1099511627776 (jn a b):=by
 obtain ⟨s1,s2,s3⟩:=zO ha
 obtain ⟨t1,t2,t3⟩:=zO hb
 have h2:=(cJ ha).2.1
 have h3:=(cJ hb).2.1
 have e : ∀ x : Int,-2147483648≤x∧x≤2147483648→∀ n : Nat,n≤8→-17179869184≤x * n∧x * n≤17179869184:=fun x hx n hn=>by
  have:=ck (a:=x) (b:=(n : Int)) 2147483648 8 (by omega) (by omega) (by omega) (by omega)
  omega
 have a1:=e _ s1 _ h3
 have a2:=e _ s2 _ h3
 have a3:=e _ s3 _ h3
 have b1:=e _ t1 _ h2
 have b2:=e _ t2 _ h2
 have b3:=e _ t3 _ h2
 unfold jn
 exact ⟨by simp only;omega,by simp only;omega,by simp only;omega⟩
def yN (v : Vc) (j : Nat) : List AV:=[.pv (Z (if 0 < j then v.1 else 0)),.pv (Z (if 1 < j then v.2.1 else 0)),.pv (Z (if 2 < j then v.2.2 else 0))]
theorem IG (a b : List aU) (ha : a.length≤9223372036854775807) (hb : b.length≤9223372036854775807) : ah Tryz.prog 85 [.pv (bn a),.pv (bn b)] [] [] (.pv (.tup [aG (iT a b),B (jP a b)])):=by
 have ca:=t7 a ha
 have cb:=t7 b hb
 have hN : iT a b=if aZ a && aZ b then bP (jn a b) else (0,0,0):=rfl
 have hM : jP a b=(aZ a && aZ b && nz (bP (jn a b))):=rfl
 rw [hN,hM]
 cases hpa : aZ a with
 |false=>
  rw [hpa] at ca
  refine Dp Tryz.func85 ?_
  intro C hP hN
  simp only [Tryz.f85] at hN ⊢
  exact Gy
 |true=>
 rw [hpa] at ca
 cases hpb : aZ b with
 |false=>
  rw [hpb] at cb
  refine Dp Tryz.func85 ?_
  intro C hP hN
  simp only [Tryz.f85] at hN ⊢
  exact Gy
 |true=>
 rw [hpb] at cb
 have c1:=y8 a ha
 have c2:=y8 b hb
 have c3:=ER (ba a) (by rw [fv hpa];exact (cJ hpa).2.1) jE
 have c4:=ER (ba b) (by rw [fv hpb];exact (cJ hpb).2.1) jE
 rw [fv hpa] at c3
 rw [fv hpb] at c4
 have hms:=yM hpa hpb
 have c5:=Gt (jn a b) hms
 obtain ⟨s1,s2,s3⟩:=zO hpa
 obtain ⟨t1,t2,t3⟩:=zO hpb
 have h2:=(cJ hpa).2.1
 have h3:=(cJ hpb).2.1
 have hmv : jn a b=((bh (ba a) a.length).1 * b.length - (bh (ba b) b.length).1 * a.length,(bh (ba a) a.length).2.1 * b.length - (bh (ba b) b.length).2.1 * a.length,(bh (ba a) a.length).2.2 * b.length - (bh (ba b) b.length).2.2 * a.length):=rfl
 simp only [Bool.and_self,if_true,Bool.true_and]
 have e : ∀ x : Int,-2147483648≤x∧x≤2147483648→∀ n : Nat,n≤8→-17179869184≤x * n∧x * n≤17179869184:=fun x hx n hn=>by
  have:=ck (a:=x) (b:=(n : Int)) 2147483648 8 (by omega) (by omega) (by omega) (by omega)
  omega
 generalize bh (ba a) a.length=S at *
 generalize bh (ba b) b.length=T at *
 generalize jn a b=V at *
 have f1:=e _ s1 _ h3
 have f2:=e _ s2 _ h3
 have f3:=e _ s3 _ h3
 have k1:=e _ t1 _ h2
 have k2:=e _ t2 _ h2
 have k3:=e _ t3 _ h2
 clear e
 have V1 : S.1 * b.length - T.1 * a.length=V.1:=by rw [hmv]
 have V2 : S.2.1 * b.length - T.2.1 * a.length=V.2.1:=by rw [hmv]
 have V3 : S.2.2 * b.length - T.2.2 * a.length=V.2.2:=by rw [hmv]
 clear hmv
 have m01 : IntKind.i64.wrap (S.1 * b.length)=S.1 * b.length:=ao
 have m02 : IntKind.i64.wrap (T.1 * a.length)=T.1 * a.length:=ao
 have w0 : IntKind.i64.wrap (S.1 * b.length - T.1 * a.length)=V.1:=(ao (by omega) (by omega)).trans V1
 have m11 : IntKind.i64.wrap (S.2.1 * b.length)=S.2.1 * b.length:=ao
 have m12 : IntKind.i64.wrap (T.2.1 * a.length)=T.2.1 * a.length:=ao
 have w1 : IntKind.i64.wrap (S.2.1 * b.length - T.2.1 * a.length)=V.2.1:=(ao (by omega) (by omega)).trans V2
 have m21 : IntKind.i64.wrap (S.2.2 * b.length)=S.2.2 * b.length:=ao
 have m22 : IntKind.i64.wrap (T.2.2 * a.length)=T.2.2 * a.length:=ao
 have w2 : IntKind.i64.wrap (S.2.2 * b.length - T.2.2 * a.length)=V.2.2:=(ao (by omega) (by omega)).trans V3
 generalize bP V=n at *
 have wa : IntKind.i64.wrap (a.length : Int)=(a.length : Int):=ao
 have wb : IntKind.i64.wrap (b.length : Int)=(b.length : Int):=ao
 refine Dp Tryz.func85 ?_
 intro C hP hN
 simp only [Tryz.f85] at hN ⊢
 refine Gz ?_
 refine WP.loopN [] 3 (fun k st=>st.t 0=.pv (bn a)∧st.t 1=.pv (bn b)∧st.t 4=.ptr 4 0∧st.h 4=some (.box [.pv (Z 0),.pv (Z 0),.pv (Z 0)] true false)∧st.t 5=.ptr 5 0∧st.h 5=some (.box [.pv (B false)] true false)∧st.t 6=.ptr 6 0∧st.h 6=some (.box [.pv (Z S.1),.pv (Z S.2.1),.pv (Z S.2.2)] true false)∧st.t 7=.ptr 7 0∧st.h 7=some (.box [.pv (Z T.1),.pv (Z T.2.1),.pv (Z T.2.2)] true false)∧st.t 8=.ptr 8 0∧st.h 8=some (.box (yN V k) true false)∧st.t 26=.pv (Z k)) (by simp [yN]) ?_
 rintro k st hk ⟨g0,g1,g4,hb4,g5,hb5,g6,hb6,g7,hb7,g8,hb8,g26⟩
 rcases cE hk with rfl|rfl|rfl|rfl
 all_goals (simp [yN] at hb8 g26)
 ·skip
  with_reducible repeat' (first|refine Sp.h ?_|((first|refine Wd ?_|refine Ss.h ?_|(refine Sb.h ?_ ?_ ?_<;>(try intro hgd)<;>try exact Xy))<;>simp -implicitDefEqProofs (maxSteps:=2000000) [hP,hN,g6,hb6,g7,hb7,g8,hb8,g0,g1,g4,g5,hb4,hb5,g26,m01,m02,w0,wa,wb,yN]<;>try refine Ya ?_)|refine X2 ?_ ?_|(refine Xd ?_ ?_<;>intro hcd<;>try exact Xx))
 ·skip
  with_reducible repeat' (first|refine Sp.h ?_|((first|refine Wd ?_|refine Ss.h ?_|(refine Sb.h ?_ ?_ ?_<;>(try intro hgd)<;>try exact Xy))<;>simp -implicitDefEqProofs (maxSteps:=2000000) [hP,hN,g6,hb6,g7,hb7,g8,hb8,g0,g1,g4,g5,hb4,hb5,g26,m11,m12,w1,wa,wb,yN]<;>try refine Ya ?_)|refine X2 ?_ ?_|(refine Xd ?_ ?_<;>intro hcd<;>try exact Xx))
 ·skip
  with_reducible repeat' (first|refine Sp.h ?_|((first|refine Wd ?_|refine Ss.h ?_|(refine Sb.h ?_ ?_ ?_<;>(try intro hgd)<;>try exact Xy))<;>simp -implicitDefEqProofs (maxSteps:=2000000) [hP,hN,g6,hb6,g7,hb7,g8,hb8,g0,g1,g4,g5,hb4,hb5,g26,m21,m22,w2,wa,wb,yN]<;>try refine Ya ?_)|refine X2 ?_ ?_|(refine Xd ?_ ?_<;>intro hcd<;>try exact Xx))
 ·skip
  exact Gy
end Go.Ab
