/- The contracts and facts that the laws of this seat need, in one text (K10, Ab26, Ab29, K11b, K11c, K11d, K11e, K12). -/
import Derived.Test.YtmcbekbdnddmdaaGreatW6
set_option linter.all false
set_option maxHeartbeats 16000000
namespace Go.Ab
open Go.Proofs
def AR (x y z : AV) (fb : Option bt) : Option bt:=match x,y,z with
 |.pv (.val (.int .i64 a)),.pv (.val (.int .i64 b)),.pv (.val (.int .i64 c))=>some (.pv (Z (max a (max b c))),[])
 |_,_,_=>fb
@[simp] theorem HB (a b c : Int) (fb : Option bt) : AR (.pv (.val (.int .i64 a))) (.pv (.val (.int .i64 b))) (.pv (.val (.int .i64 c))) fb=some (.pv (Z (max a (max b c))),[]):=rfl
@[simp] theorem LH {dst : Option Nat} {ty : TypeId} {ts : Array TypeId} {pos : String} {aft : Array Edge} {g : Option (Nat × Bool)} {ρ : Operand→AV} (x y z : Operand) :
 aT Tryz.prog ⟨dst,.call ⟨.builtin .max,#[x,y,z],ts⟩,ty,pos,aft,g⟩ ρ=AR (ρ x) (ρ y) (ρ z) (fc Tryz.prog ⟨dst,.call ⟨.builtin .max,#[x,y,z],ts⟩,ty,pos,aft,g⟩ ρ):=by
 unfold AR
 split
 ·rename_i a b c hx hy hz
  refine cF (by simp [Op.operands,Call.operands,hx,hy,hz,dw]) ?_
  unfold execOp
  simp [resolve,invoke,builtin,Builtin.max_,hx,hy,hz,mo,dw,Builtin.max2,ae,cE]
  try omega
 ·rfl
def jC (x y : Int) : Int:=max (max (max (max 0 x) (-x)) y) (-y)
theorem Dy (x y : Int) (hx : -4611686018427387904≤x∧x≤4611686018427387904) (hy : -4611686018427387904≤y∧y≤4611686018427387904) : ab Tryz.prog 283 [.pv (.sl [Z x,Z y])] [] [] (.pv (Z (jC x y))):=by
 have w1 : IntKind.i64.wrap (-x)=-x:=aa
 have w2 : IntKind.i64.wrap (-y)=-y:=aa
 have w3 : IntKind.i64.wrap (0 - x)=-x:=(aa (n:=0 - x) (by omega) (by omega)).trans (by omega)
 have w4 : IntKind.i64.wrap (0 - y)=-y:=(aa (n:=0 - y) (by omega) (by omega)).trans (by omega)
 have f0 : ∀ a b c : Int,max a (max b c)=max (max a b) c:=fun _ _ _=>by omega
 have f2 : jC x y=max 0 (max x (max (-x) (max y (-y)))):=by unfold jC;omega
 rw [f2]
 refine Dp Tryz.func283 ?_
 intro C hP hN
 simp only [Tryz.f283] at hN ⊢
 with_reducible repeat' (first|refine Sp.h ?_|((first|refine Ss.h ?_|(refine Sb.h ?_ ?_ ?_<;>(try intro hgd)<;>try exact Xy))<;>simp -implicitDefEqProofs (maxSteps:=2000000) [hP,hN])|refine X2 ?_ ?_|(refine Xd ?_ ?_<;>intro hcd<;>try exact Xx))
 refine WP.loopN [] 2 (fun i st=>st.t 6=.pv (.sl [Z x,Z y])∧st.t 7=.pv (Z 2)∧st.t 8=.pv (Z i)∧st.t 3=.pv (Z (if i=0 then 0 else if i=1 then max 0 (max x (-x)) else max 0 (max x (max (-x) (max y (-y))))))) (by simp) ?_
 rintro i st hi ⟨g6,g7,g8,g3⟩
 have hc : i=0∨i=1∨i=2:=by omega
 rcases hc with rfl|rfl|rfl
 all_goals (simp at g3 g8)
 ·skip
  with_reducible repeat' (first|refine Sp.h ?_|((first|refine Ss.h ?_|(refine Sb.h ?_ ?_ ?_<;>(try intro hgd)<;>try exact Xy))<;>simp -implicitDefEqProofs (maxSteps:=2000000) [hP,hN,g6,g7,g8,g3,w1,w2,w3,w4])|refine X2 ?_ ?_|(refine Xd ?_ ?_<;>intro hcd<;>try exact Xx))
  all_goals (try (first|omega|(simp;omega)))
 ·skip
  with_reducible repeat' (first|refine Sp.h ?_|((first|refine Ss.h ?_|(refine Sb.h ?_ ?_ ?_<;>(try intro hgd)<;>try exact Xy))<;>simp -implicitDefEqProofs (maxSteps:=2000000) [hP,hN,g6,g7,g8,g3,w1,w2,w3,w4])|refine X2 ?_ ?_|(refine Xd ?_ ?_<;>intro hcd<;>try exact Xx))
  all_goals (try (first|omega|(simp;omega)))
 ·skip
  with_reducible repeat' (first|refine Sp.h ?_|((first|refine Ss.h ?_|(refine Sb.h ?_ ?_ ?_<;>(try intro hgd)<;>try exact Xy))<;>simp -implicitDefEqProofs (maxSteps:=2000000) [hP,hN,g6,g7,g8,g3])|refine X2 ?_ ?_|(refine Xd ?_ ?_<;>intro hcd<;>try exact Xx))
set_option maxRecDepth 100000 in
@[simp] theorem Jo : gk Tryz.prog 280:=by
 have hf:=Tryz.func280;have nt:=Tryz.ntmps280;have rs:=Tryz.results280;exact K7
set_option maxRecDepth 100000 in
@[simp] theorem Jp : gk Tryz.prog 278:=by
 have hf:=Tryz.func278;have nt:=Tryz.ntmps278;have rs:=Tryz.results278;exact FM
def bF (u v : Iv) (tot : Int) : Int:=(jC (u.1 - v.2) (u.2 - v.1)+tot - 1) / tot
def fW (m : List Int) (reach : Int) : Nat→Int
 |0=>reach * reach
 |k+1=>fW m reach k - (m[k]?).getD 0 * (m[k]?).getD 0
def dq (U V : ar) (tot : Int) : List Int:=[bF U.1 V.1 tot,bF U.2.1 V.2.1 tot,bF U.2.2 V.2.2 tot]
def kZ (m : List Int) (reach : Int) : Int:=if m.all (fun x=>decide (x≤reach)) then fW m reach 3 else -1
def jX (left right : List Int) (a : List ar) (ra : Int) (b : List ar) (rb : Int) : Bool:=
 cW a left && cW b right && decide (aK left left.length=aK right right.length) && aZ ra 0 1048576 && aZ rb 0 1048576
def iM (left right : List Int) (a : List ar) (ra : Int) (b : List ar) (rb : Int) : Int:=
 if jX left right a ra b rb then kZ (dq (bQ a left left.length) (bQ b right right.length) (aK left left.length)) (ra+rb) else 0
theorem pD {a : List ar} {w : List Int} (h : cW a w=true) : np 8 (bQ a w w.length):=by
 simp only [cW,aw,Bool.and_eq_true,decide_eq_true_eq,List.all_eq_true] at h
 obtain ⟨⟨⟨⟨⟨h1,h2⟩,h3⟩,h4⟩,h5⟩,h6⟩:=h
 obtain ⟨⟨⟨a1,a2⟩,a3,a4⟩,⟨⟨b1,b2⟩,b3,b4⟩,⟨c1,c2⟩,c3,c4⟩:=sZ h3 h5 w.length
 refine ⟨⟨⟨?_,?_⟩,?_,?_⟩,⟨⟨?_,?_⟩,?_,?_⟩,⟨?_,?_⟩,?_,?_⟩<;>omega
theorem xL {a : List ar} {w : List Int} (h : cW a w=true) : 1≤aK w w.length∧aK w w.length≤65536:=by
 simp only [cW,Bool.and_eq_true,Bool.not_eq_true',Bool.or_eq_false_iff,decide_eq_false_iff_not] at h
 omega
theorem pE {x y : Int} {m : Int} (hx : -m≤x∧x≤m) (hy : -m≤y∧y≤m) : 0≤jC x y∧jC x y≤m:=by
 unfold jC;omega
theorem rL {h t : Int} (h0 : 0≤h) (h1 : h≤4503599627370496) (t1 : 1≤t) (t2 : t≤65536) : 0≤(h+t - 1) / t∧(h+t - 1) / t≤4503599627370496:=by
 refine ⟨Int.ediv_nonneg (by omega) (by omega),?_⟩
 have : (h+t - 1) / t < 4503599627370496+1:=Int.ediv_lt_of_lt_mul (by omega) (by
  have h2 : (4503599627370496+1) * 1≤(4503599627370496+1) * t:=by omega
  omega)
 omega
theorem kB {x m : Int} (h0 : 0≤x) (h1 : x≤m) : 0≤x * x∧x * x≤m * m:=⟨Int.mul_nonneg h0 h0,Int.mul_le_mul h1 h1 h0 (by omega)⟩
set_option maxRecDepth 4000 in
theorem Jq (left right : List Int) (a : List ar) (ra : Int) (b : List ar) (rb : Int) (h1 : left.length≤9223372036854775807) (h2 : right.length≤9223372036854775807) (h3 : a.length≤9223372036854775807) (h4 : b.length≤9223372036854775807) : ab Tryz.prog 279 [.pv (zs left),.pv (zs right),.pv (aP a),.pv (Z ra),.pv (aP b),.pv (Z rb)] [] [] (.pv (.tup [Z (iM left right a ra b rb),B (jX left right a ra b rb)])):=by
 have ca:=GH a left h3 h1
 have cb:=GH b right h4 h2
 have cra:=GF ra
 have crb:=GF rb
 have z6 : bg aR=V6 0 0 0 0 0 0:=rfl
 have hE : jX left right a ra b rb=(cW a left && cW b right && decide (aK left left.length=aK right right.length) && aZ ra 0 1048576 && aZ rb 0 1048576):=rfl
 have hX : iM left right a ra b rb=if jX left right a ra b rb then kZ (dq (bQ a left left.length) (bQ b right right.length) (aK left left.length)) (ra+rb) else 0:=rfl
 cases hA : cW a left with
 |false=>
  rw [hA] at hE;simp only [Bool.false_and] at hE
  rw [hE] at hX;simp only [Bool.false_eq_true,if_false] at hX
  rw [hE,hX]
  simp only [dX,hA,Bool.false_eq_true,if_false,z6] at ca
  cases hB : cW b right
  all_goals (simp only [dX,hB,Bool.false_eq_true,if_false,if_true,z6] at cb)
  ·skip
   refine Dp Tryz.func279 ?_
   intro C hP hN
   simp only [Tryz.f279] at hN ⊢
   exact Gy
  ·skip
   generalize bQ b right right.length=V at *
   generalize aK right right.length=T2 at *
   refine Dp Tryz.func279 ?_
   intro C hP hN
   simp only [Tryz.f279] at hN ⊢
   exact Gy
 |true=>
 simp only [dX,hA,if_true] at ca
 generalize hU : bQ a left left.length=U at *
 generalize hT : aK left left.length=T at *
 cases hB : cW b right with
 |false=>
  rw [hA,hB] at hE;simp only [Bool.false_and,Bool.and_false] at hE
  rw [hE] at hX;simp only [Bool.false_eq_true,if_false] at hX
  rw [hE,hX]
  simp only [dX,hB,Bool.false_eq_true,if_false,z6] at cb
  refine Dp Tryz.func279 ?_
  intro C hP hN
  simp only [Tryz.f279] at hN ⊢
  exact Gy
 |true=>
 simp only [dX,hB,if_true] at cb
 rw [hA,hB] at hE;simp only [Bool.true_and] at hE
 generalize hV : bQ b right right.length=V at *
 generalize hT2 : aK right right.length=T2 at *
 by_cases hTe : T=T2
 case neg=>
  have e1 : (T !=T2)=true:=by simp [hTe]
  simp only [hTe,decide_false,Bool.false_and] at hE
  rw [hE] at hX;simp only [Bool.false_eq_true,if_false] at hX
  rw [hE,hX]
  refine Dp Tryz.func279 ?_
  intro C hP hN
  simp only [Tryz.f279] at hN ⊢
  exact Gy
 have e0 : (T !=T2)=false:=by simp [hTe]
 simp only [hTe,decide_true,Bool.true_and] at hE
 cases hra : aZ ra 0 1048576 with
 |false=>
  rw [hra] at cra hE
  simp only [Bool.false_and] at hE
  rw [hE] at hX;simp only [Bool.false_eq_true,if_false] at hX
  rw [hE,hX]
  refine Dp Tryz.func279 ?_
  intro C hP hN
  simp only [Tryz.f279] at hN ⊢
  exact Gy
 |true=>
 cases hrb : aZ rb 0 1048576 with
 |false=>
  rw [hra] at cra hE
  rw [hrb] at crb hE
  simp only [Bool.and_false] at hE
  rw [hE] at hX;simp only [Bool.false_eq_true,if_false] at hX
  rw [hE,hX]
  refine Dp Tryz.func279 ?_
  intro C hP hN
  simp only [Tryz.f279] at hN ⊢
  exact Gy
 |true=>
 rw [hra] at cra hE
 rw [hrb] at crb hE
 simp only [Bool.and_self] at hE
 rw [hE] at hX;simp only [if_true] at hX
 rw [hE]
 have hUr : np 8 U:=by rw [← hU];exact pD hA
 have hVr : np 8 V:=by rw [← hV];exact pD hB
 have hTr:=xL hA
 rw [hT] at hTr
 subst hTe
 clear hT hT2
 simp only [aZ,Bool.and_eq_true,decide_eq_true_eq] at hra hrb
 generalize hre : ra+rb=re at *
 have hwr : IntKind.i64.wrap re=re:=aa
 have hrr:=kB (x:=re) (m:=2097152) (by omega) (by omega)
 have hwq : IntKind.i64.wrap (re * re)=re * re:=aa
 rw [hX]
 refine Dp Tryz.func279 ?_
 intro C hP hN
 simp only [Tryz.f279] at hN ⊢
 refine Gz ?_
 refine WP.loopN [] 3 (fun k st=>st.t 14=.ptr 14 0∧st.h 14=some (.box (b6 U) true false)∧st.t 17=.ptr 17 0∧st.h 17=some (.box (b6 V) true false)∧st.t 18=.pv (Z T)∧st.t 15=.pv (Z T)∧st.t 20=.pv (Z re)∧st.t 12=.ptr 12 0∧st.h 12=some (.box [.pv (Z (fW (dq U V T) re k))] true false)∧st.t 13=.ptr 13 0∧st.h 13=some (.box [.pv (B false)] true false)∧st.t 66=.pv (Z k)∧(-(k * 4398046511104 : Int)≤fW (dq U V T) re k∧fW (dq U V T) re k≤4398046511104)∧∀ j < k,∀ x,(dq U V T)[j]?=some x→0≤x∧x≤re) ?_ ?_
 ·simp [fW]
  omega
 rintro k st hk ⟨g14,hb14,g17,hb17,g18,g15,g20,g12,hb12,g13,hb13,g66,hEr,hpr⟩
 obtain ⟨⟨⟨a1,a2⟩,a3,a4⟩,⟨⟨b1,b2⟩,b3,b4⟩,⟨c1,c2⟩,c3,c4⟩:=hUr
 obtain ⟨⟨⟨d1,d2⟩,d3,d4⟩,⟨⟨e1,e2⟩,e3,e4⟩,⟨f1,f2⟩,f3,f4⟩:=hVr
 rcases bB hk with rfl|rfl|rfl|rfl
 ·have hlo : -281474976710656≤U.1.1 - V.1.2∧U.1.1 - V.1.2≤281474976710656:=by omega
  have hhi : -281474976710656≤U.1.2 - V.1.1∧U.1.2 - V.1.1≤281474976710656:=by omega
  have cf:=Dy (U.1.1 - V.1.2) (U.1.2 - V.1.1) (by omega) (by omega)
  have hfr:=pE hlo hhi
  have hga:=rL hfr.1 (by omega) hTr.1 hTr.2
  have hgd : bF U.1 V.1 T=(jC (U.1.1 - V.1.2) (U.1.2 - V.1.1)+T - 1) / T:=rfl
  have w1 : IntKind.i64.wrap (U.1.1 - V.1.2)=U.1.1 - V.1.2:=aa
  have w2 : IntKind.i64.wrap (U.1.2 - V.1.1)=U.1.2 - V.1.1:=aa
  generalize jC (U.1.1 - V.1.2) (U.1.2 - V.1.1)=f at *
  have w3 : IntKind.i64.wrap (f+T)=f+T:=aa
  have w4 : IntKind.i64.wrap (f+T - 1)=f+T - 1:=aa
  have w5 : (f+T - 1).tdiv T=(f+T - 1) / T:=Int.tdiv_eq_ediv_of_nonneg (by omega)
  have w6 : IntKind.i64.wrap ((f+T - 1) / T)=(f+T - 1) / T:=aa
  have w7 : ¬ T=0:=by omega
  have w8 : (T==0)=false:=by simp;omega
  by_cases hm : re < bF U.1 V.1 T
  ·have hno : kZ (dq U V T) re=-1:=by
    have hm' : ¬ bF U.1 V.1 T≤re:=by omega
    unfold kZ dq;simp [hm']
   rw [hno]
   rw [hgd] at hm
   exact Gy
  ·have hsq:=kB (x:=bF U.1 V.1 T) (m:=re) (by omega) (by omega)
   have hEs : fW (dq U V T) re (0+1)=fW (dq U V T) re 0 - bF U.1 V.1 T * bF U.1 V.1 T:=by simp [fW,dq]
   have hpr' : ∀ j < 0+1,∀ x,(dq U V T)[j]?=some x→0≤x∧x≤re:=fun j hj x hx=>by
    by_cases hk' : j < 0
    ·exact hpr j hk' x hx
    ·have : j=0:=by omega
     subst this
     have : x=bF U.1 V.1 T:=by simpa [dq] using hx.symm
     omega
   generalize fW (dq U V T) re (0+1)=E' at *
   generalize fW (dq U V T) re 0=E at *
   subst hEs
   rw [hgd] at hm hsq
   have w9 : IntKind.i64.wrap ((f+T - 1) / T * ((f+T - 1) / T))=(f+T - 1) / T * ((f+T - 1) / T):=aa
   have w10 : IntKind.i64.wrap (E - (f+T - 1) / T * ((f+T - 1) / T))=E - bF U.1 V.1 T * bF U.1 V.1 T:=(aa (by omega) (by omega)).trans (by rw [hgd])
   rw [← hgd] at hsq
   have hq1 : -(0+1 : Nat) * 4398046511104≤E - bF U.1 V.1 T * bF U.1 V.1 T∧E - bF U.1 V.1 T * bF U.1 V.1 T≤4398046511104:=by omega
   with_reducible repeat' (first|refine Sp.h ?_|((first|refine Wd ?_|refine Ss.h ?_|refine Sc.h (cf) ?_|(refine Sb.h ?_ ?_ ?_<;>(try intro hgd)<;>try exact Xy))<;>simp -implicitDefEqProofs (maxSteps:=2000000) [hP,hN,g14,hb14,g17,hb17,g18,g15,g20,g12,hb12,g13,hb13,g66,w1,w2,w3,w4,w5,w6,w7,w8,w9,w10,hm]<;>try refine Ya ?_)|refine X2 ?_ ?_|(refine Xd ?_ ?_<;>intro hcd<;>try exact Xx))
   all_goals first|exact ⟨hq1,hpr'⟩|exact ⟨hq1.1,hq1.2,hpr'⟩|exact ⟨by omega,fun x hx=>hpr' 0 (by omega) x hx⟩
 ·have hlo : -281474976710656≤U.2.1.1 - V.2.1.2∧U.2.1.1 - V.2.1.2≤281474976710656:=by omega
  have hhi : -281474976710656≤U.2.1.2 - V.2.1.1∧U.2.1.2 - V.2.1.1≤281474976710656:=by omega
  have cf:=Dy (U.2.1.1 - V.2.1.2) (U.2.1.2 - V.2.1.1) (by omega) (by omega)
  have hfr:=pE hlo hhi
  have hga:=rL hfr.1 (by omega) hTr.1 hTr.2
  have hgd : bF U.2.1 V.2.1 T=(jC (U.2.1.1 - V.2.1.2) (U.2.1.2 - V.2.1.1)+T - 1) / T:=rfl
  have w1 : IntKind.i64.wrap (U.2.1.1 - V.2.1.2)=U.2.1.1 - V.2.1.2:=aa
  have w2 : IntKind.i64.wrap (U.2.1.2 - V.2.1.1)=U.2.1.2 - V.2.1.1:=aa
  generalize jC (U.2.1.1 - V.2.1.2) (U.2.1.2 - V.2.1.1)=f at *
  have w3 : IntKind.i64.wrap (f+T)=f+T:=aa
  have w4 : IntKind.i64.wrap (f+T - 1)=f+T - 1:=aa
  have w5 : (f+T - 1).tdiv T=(f+T - 1) / T:=Int.tdiv_eq_ediv_of_nonneg (by omega)
  have w6 : IntKind.i64.wrap ((f+T - 1) / T)=(f+T - 1) / T:=aa
  have w7 : ¬ T=0:=by omega
  have w8 : (T==0)=false:=by simp;omega
  by_cases hm : re < bF U.2.1 V.2.1 T
  ·have hno : kZ (dq U V T) re=-1:=by
    have hm' : ¬ bF U.2.1 V.2.1 T≤re:=by omega
    unfold kZ dq;simp [hm']
   rw [hno]
   rw [hgd] at hm
   exact Gy
  ·have hsq:=kB (x:=bF U.2.1 V.2.1 T) (m:=re) (by omega) (by omega)
   have hEs : fW (dq U V T) re (1+1)=fW (dq U V T) re 1 - bF U.2.1 V.2.1 T * bF U.2.1 V.2.1 T:=by simp [fW,dq]
   have hpr' : ∀ j < 1+1,∀ x,(dq U V T)[j]?=some x→0≤x∧x≤re:=fun j hj x hx=>by
    by_cases hk' : j < 1
    ·exact hpr j hk' x hx
    ·have : j=1:=by omega
     subst this
     have : x=bF U.2.1 V.2.1 T:=by simpa [dq] using hx.symm
     omega
   generalize fW (dq U V T) re (1+1)=E' at *
   generalize fW (dq U V T) re 1=E at *
   subst hEs
   rw [hgd] at hm hsq
   have w9 : IntKind.i64.wrap ((f+T - 1) / T * ((f+T - 1) / T))=(f+T - 1) / T * ((f+T - 1) / T):=aa
   have w10 : IntKind.i64.wrap (E - (f+T - 1) / T * ((f+T - 1) / T))=E - bF U.2.1 V.2.1 T * bF U.2.1 V.2.1 T:=(aa (by omega) (by omega)).trans (by rw [hgd])
   rw [← hgd] at hsq
   have hq1 : -(1+1 : Nat) * 4398046511104≤E - bF U.2.1 V.2.1 T * bF U.2.1 V.2.1 T∧E - bF U.2.1 V.2.1 T * bF U.2.1 V.2.1 T≤4398046511104:=by omega
   with_reducible repeat' (first|refine Sp.h ?_|((first|refine Wd ?_|refine Ss.h ?_|refine Sc.h (cf) ?_|(refine Sb.h ?_ ?_ ?_<;>(try intro hgd)<;>try exact Xy))<;>simp -implicitDefEqProofs (maxSteps:=2000000) [hP,hN,g14,hb14,g17,hb17,g18,g15,g20,g12,hb12,g13,hb13,g66,w1,w2,w3,w4,w5,w6,w7,w8,w9,w10,hm]<;>try refine Ya ?_)|refine X2 ?_ ?_|(refine Xd ?_ ?_<;>intro hcd<;>try exact Xx))
   all_goals first|exact ⟨hq1,hpr'⟩|exact ⟨hq1.1,hq1.2,hpr'⟩|exact ⟨by omega,fun x hx=>hpr' 0 (by omega) x hx⟩
 ·have hlo : -281474976710656≤U.2.2.1 - V.2.2.2∧U.2.2.1 - V.2.2.2≤281474976710656:=by omega
  have hhi : -281474976710656≤U.2.2.2 - V.2.2.1∧U.2.2.2 - V.2.2.1≤281474976710656:=by omega
  have cf:=Dy (U.2.2.1 - V.2.2.2) (U.2.2.2 - V.2.2.1) (by omega) (by omega)
  have hfr:=pE hlo hhi
  have hga:=rL hfr.1 (by omega) hTr.1 hTr.2
  have hgd : bF U.2.2 V.2.2 T=(jC (U.2.2.1 - V.2.2.2) (U.2.2.2 - V.2.2.1)+T - 1) / T:=rfl
  have w1 : IntKind.i64.wrap (U.2.2.1 - V.2.2.2)=U.2.2.1 - V.2.2.2:=aa
  have w2 : IntKind.i64.wrap (U.2.2.2 - V.2.2.1)=U.2.2.2 - V.2.2.1:=aa
  generalize jC (U.2.2.1 - V.2.2.2) (U.2.2.2 - V.2.2.1)=f at *
  have w3 : IntKind.i64.wrap (f+T)=f+T:=aa
  have w4 : IntKind.i64.wrap (f+T - 1)=f+T - 1:=aa
  have w5 : (f+T - 1).tdiv T=(f+T - 1) / T:=Int.tdiv_eq_ediv_of_nonneg (by omega)
  have w6 : IntKind.i64.wrap ((f+T - 1) / T)=(f+T - 1) / T:=aa
  have w7 : ¬ T=0:=by omega
  have w8 : (T==0)=false:=by simp;omega
  by_cases hm : re < bF U.2.2 V.2.2 T
  ·have hno : kZ (dq U V T) re=-1:=by
    have hm' : ¬ bF U.2.2 V.2.2 T≤re:=by omega
    unfold kZ dq;simp [hm']
   rw [hno]
   rw [hgd] at hm
   exact Gy
  ·have hsq:=kB (x:=bF U.2.2 V.2.2 T) (m:=re) (by omega) (by omega)
   have hEs : fW (dq U V T) re (2+1)=fW (dq U V T) re 2 - bF U.2.2 V.2.2 T * bF U.2.2 V.2.2 T:=by simp [fW,dq]
   have hpr' : ∀ j < 2+1,∀ x,(dq U V T)[j]?=some x→0≤x∧x≤re:=fun j hj x hx=>by
    by_cases hk' : j < 2
    ·exact hpr j hk' x hx
    ·have : j=2:=by omega
     subst this
     have : x=bF U.2.2 V.2.2 T:=by simpa [dq] using hx.symm
     omega
   generalize fW (dq U V T) re (2+1)=E' at *
   generalize fW (dq U V T) re 2=E at *
   subst hEs
   rw [hgd] at hm hsq
   have w9 : IntKind.i64.wrap ((f+T - 1) / T * ((f+T - 1) / T))=(f+T - 1) / T * ((f+T - 1) / T):=aa
   have w10 : IntKind.i64.wrap (E - (f+T - 1) / T * ((f+T - 1) / T))=E - bF U.2.2 V.2.2 T * bF U.2.2 V.2.2 T:=(aa (by omega) (by omega)).trans (by rw [hgd])
   rw [← hgd] at hsq
   have hq1 : -(2+1 : Nat) * 4398046511104≤E - bF U.2.2 V.2.2 T * bF U.2.2 V.2.2 T∧E - bF U.2.2 V.2.2 T * bF U.2.2 V.2.2 T≤4398046511104:=by omega
   with_reducible repeat' (first|refine Sp.h ?_|((first|refine Wd ?_|refine Ss.h ?_|refine Sc.h (cf) ?_|(refine Sb.h ?_ ?_ ?_<;>(try intro hgd)<;>try exact Xy))<;>simp -implicitDefEqProofs (maxSteps:=2000000) [hP,hN,g14,hb14,g17,hb17,g18,g15,g20,g12,hb12,g13,hb13,g66,w1,w2,w3,w4,w5,w6,w7,w8,w9,w10,hm]<;>try refine Ya ?_)|refine X2 ?_ ?_|(refine Xd ?_ ?_<;>intro hcd<;>try exact Xx))
   all_goals first|exact ⟨hq1,hpr'⟩|exact ⟨hq1.1,hq1.2,hpr'⟩|exact ⟨by omega,fun x hx=>hpr' 0 (by omega) x hx⟩
 ·have hyes : kZ (dq U V T) re=fW (dq U V T) re 3:=by
   have : (dq U V T).all (fun x=>decide (x≤re))=true:=by
    rw [List.all_eq_true]
    intro x hx
    obtain ⟨j,hj,hx⟩:=List.mem_iff_getElem.1 hx
    have hj3 : j < 3:=by simpa [dq] using hj
    have:=hpr j hj3 x (by rw [List.getElem?_eq_getElem hj,hx])
    simp;omega
   unfold kZ;rw [this];rfl
  rw [hyes]
  exact Gy
theorem Jr (left right : List Int) (a : List ar) (ra : Int) (b : List ar) (rb : Int) (h1 : left.length≤9223372036854775807) (h2 : right.length≤9223372036854775807) (h3 : a.length≤9223372036854775807) (h4 : b.length≤9223372036854775807) : ab Tryz.prog 277 [.pv (zs left),.pv (zs right),.pv (aP a),.pv (Z ra),.pv (aP b),.pv (Z rb)] [] [] (.pv (B (jX left right a ra b rb && decide (0≤iM left right a ra b rb)))):=by
 have ce:=Jq left right a ra b rb h1 h2 h3 h4
 generalize jX left right a ra b rb=k at *
 generalize iM left right a ra b rb=e at *
 cases k
 all_goals (by_cases h : 0≤e)
 ·skip
  refine Dp Tryz.func277 ?_
  intro C hP hN
  simp only [Tryz.f277] at hN ⊢
  exact Gy
 ·skip
  refine Dp Tryz.func277 ?_
  intro C hP hN
  simp only [Tryz.f277] at hN ⊢
  exact Gy
 ·skip
  refine Dp Tryz.func277 ?_
  intro C hP hN
  simp only [Tryz.f277] at hN ⊢
  exact Gy
 ·skip
  refine Dp Tryz.func277 ?_
  intro C hP hN
  simp only [Tryz.f277] at hN ⊢
  exact Gy
end Go.Ab
namespace Go.Ab
theorem km {C : Cx} {hn : List Nat} {ops : Array Oper} {Q : St→Prop} {Q' : Exit→Act→World→Prop} {rest : List Oper} (hQ : ∀ st a w,gp C st a w→Q st→wpList C.P ops Q' rest a w) :
 ∀ {l : List Oper} {st : St} {a : Act} {w : World},gp C st a w→gn C.P hn C.N ops Q l st→wpList C.P ops Q' (l++rest) a w
 |[],st,a,w,hs,e=>hQ st a w hs e
 |o :: l,st,a,w,hs,e=>by
  obtain ⟨L,hm,hN,hdf,ht⟩:=hs
  rw [gn.eq_2] at e
  obtain ⟨hd,e⟩:=e
  rw [List.cons_append]
  refine wpList_step (fun K hK=>?_)
  split at e
  ·rename_i hg
   rw [gV ht (oa hg),if_pos rfl]
   exact rC hm hN hdf ht hd e (fun eff a' w' hk hsim=>hK _ _ (km hQ hsim hk))
  ·rename_i d b want hg
   rw [gV ht (lx hg)]
   unfold tz at e
   simp only at e
   split at e
   ·rename_i hgt
    subst hgt
    rw [if_pos (by simp)]
    exact rC hm hN hdf ht hd e (fun eff a' w' hk hsim=>hK _ _ (km hQ hsim hk))
   ·rename_i hgt
    rw [if_neg (by simpa using hgt)]
    exact hK _ _ (km hQ (gp.put hm hN hdf ht hd (W:=[]) (bf.refl hm) (.pv (.val _))) e)
  ·exact e.elim
theorem tj {w w' : World} {M M' : Nat→Nat→Prop} {L : Nat→Loc} {h : Hp} {ks : List Nat} (hp : bn w M w' M') {x : AV} {u : Value} (hx : RepA w M L h x u) :
 RepA w' M' L (fun k=>if ks.contains k=true then none else (h k).map (gq ks)) (iC ks x) u:=by
 unfold iC
 split
 ·exact .undef _
 ·rename_i hd
  cases hx with
  |pv hr=>exact .pv (hr.mono hp)
  |@ptr k off cs own fz hk=>
   simp only [kt] at hd
   exact .ptr (cs:=cs.map (iC ks)) (own:=own) (fz:=fz) (by simp only [if_neg hd,hk];rfl)
  |@arr k n e sz fz xs u hk hn hu=>
   simp only [kt] at hd
   exact .arr (e:=e) (sz:=sz) (fz:=fz) (xs:=xs) (by simp only [if_neg hd,hk];rfl) hn hu
  |@eptr k n i off e sz fz xs u hk hn hu=>
   simp only [kt] at hd
   exact .eptr (e:=e) (sz:=sz) (fz:=fz) (xs:=xs) (by simp only [if_neg hd,hk];rfl) hn hu
  |agg cs vs hl hh=>
   simp only [kt,Bool.not_eq_true',Bool.not_eq_false] at hd
   refine .agg cs vs hl (fun i p u hp' hu=>?_)
   have:=List.all_eq_true.1 hd p (List.mem_of_getElem? hp')
   have h2:=hh i p u hp' hu
   cases p with
   |pv q=>cases h2 with
    |pv hr=>exact .pv (hr.mono hp)
   |_=>simp at this
  |fn=>simp [kt] at hd
  |tup=>simp [kt] at hd
  |undef=>exact .undef _
def rekey (h : Hp) (ks : List Nat) (k : Nat) (blk : Blk) : Hp:=fun q=>if q=k then some blk else if ks.contains q=true then none else (h q).map (gq ks)
def St.rekey (st : St) (ks : List Nat) (k : Nat) (blk : Blk) : St:=⟨fun n=>iC ks (st.t n),Go.Ab.rekey st.h ks k blk⟩
theorem iU {h : Hp} {ks : List Nat} {k q : Nat} {blk b : Blk} (hq : rekey h ks k blk q=some b) : (q=k∧b=blk)∨(q≠k∧q ∉ ks∧∃ b0,h q=some b0∧b=gq ks b0):=by
 unfold rekey at hq
 split at hq
 ·rename_i e;injection hq with hq;exact .inl ⟨e,hq.symm⟩
 ·rename_i e
  split at hq
  ·cases hq
  ·rename_i hc
   simp only [Option.map_eq_some_iff] at hq
   obtain ⟨b0,h1,h2⟩:=hq
   exact .inr ⟨e,by simpa using hc,b0,h1,h2.symm⟩
theorem oV {ks : List Nat} (b : Blk) (l : Loc) : (gq ks b).live l=b.live l:=by cases b<;>rfl
theorem vk {ks : List Nat} (b : Blk) (o : Nat) : (gq ks b).frz o=b.frz o:=by cases b<;>rfl
theorem vm {C : Cx} {k : Nat} {l : Loc} {ks : List Nat} {b : Blk} (h : fB C k l b) : fB C k l (gq ks b):=by
 cases b with
 |box cs own fz=>cases own<;>exact h
 |row=>exact h
section
variable {C : Cx} {L : Nat→Loc} {h : Hp} {w : World}
theorem MemL.retake (hm : MemL C L h w) {k e sz m : Nat} {xs : List PV} (hk : h k=some (.row e sz xs 0)) :
 MemL C L (rekey h [k] k (.row e sz (xs.take m) 0)) w∧∀ x u,RepA w (am C L h) L h x u→RepA w (am C L (rekey h [k] k (.row e sz (xs.take m) 0))) L (rekey h [k] k (.row e sz (xs.take m) 0)) (iC [k] x) u:=by
 have hM : ∀ b o,am C L (rekey h [k] k (.row e sz (xs.take m) 0)) b o→am C L h b o:=by
  rintro b o (h0|⟨q,blk,hq,hl,hb,hf⟩)
  ·exact .inl h0
  ·rcases iU hq with ⟨rfl,rfl⟩|⟨_,_,b0,h1,rfl⟩
   ·exact .inr ⟨q,_,hk,hl,hb,hf⟩
   ·rw [oV] at hl;rw [vk] at hf
    exact .inr ⟨q,b0,h1,hl,hb,hf⟩
 have hp:=bn.sub (w:=w) hM
 have hkc : KC L (fun q=>if [k].contains q=true then none else (h q).map (gq [k])) L (rekey h [k] k (.row e sz (xs.take m) 0)):=by
  intro q blk hq
  simp only at hq
  split at hq
  ·cases hq
  ·rename_i hc
   have hne : q≠k:=by simpa using hc
   refine ⟨blk,?_,er _ _⟩
   simp only [rekey,if_neg hne,if_neg hc];exact hq
 have hrep : ∀ x u,RepA w (am C L h) L h x u→RepA w (am C L (rekey h [k] k (.row e sz (xs.take m) 0))) L (rekey h [k] k (.row e sz (xs.take m) 0)) (iC [k] x) u:=
  fun x u hx=>(tj (ks:=[k]) hp hx).mono (bn.refl _ _) hkc
 refine ⟨⟨hm.ext,hm.m0,?_,?_,?_⟩,hrep⟩
 ·intro q blk hq
  rcases iU hq with ⟨rfl,rfl⟩|⟨_,_,b0,h1,rfl⟩
  ·obtain ⟨g1,g2,g3,g4,g5⟩:=hm.bl q _ hk
   refine ⟨g1,Nat.zero_le _,fun x hx=>g3 x (List.mem_of_mem_take hx),fun hn=>by rw [g4 hn];simp,fun hn=>?_⟩
   obtain ⟨a1,a2,arr,a3,a4,a5⟩:=g5 hn
   refine ⟨by rw [List.length_take];omega,a2,arr,a3,a4,fun i x j p hx hj=>?_⟩
   rw [List.getElem?_take] at hx
   split at hx
   ·obtain ⟨u,hu,hr⟩:=a5 i x j p hx hj
    exact ⟨u,hu,hr.mono hp⟩
   ·cases hx
  ·have:=hm.bl q b0 h1
   cases b0 with
   |box cs own fz=>
    obtain ⟨arr,ty,e1,e2⟩:=this
    refine ⟨arr,ty,e1,by simpa using e2.1,fun i p u hp' hu=>?_⟩
    simp only [List.getElem?_map,Option.map_eq_some_iff] at hp'
    obtain ⟨y,hy,rfl⟩:=hp'
    exact hrep _ _ (e2.2 i y u hy hu)
   |row e' sz' ys fz=>
    obtain ⟨a1,a2,a3,a4,a5⟩:=this
    refine ⟨a1,a2,a3,a4,fun hn=>?_⟩
    obtain ⟨b1,b2,arr,b3,b4,b5⟩:=a5 hn
    exact ⟨b1,b2,arr,b3,b4,fun i x j p hx hj=>by obtain ⟨u,hu,hr⟩:=b5 i x j p hx hj;exact ⟨u,hu,hr.mono hp⟩⟩
 ·intro q q' b1 b2 hne hq hq' hl hl'
  have aux : ∀ {q b},rekey h [k] k (.row e sz (xs.take m) 0) q=some b→b.live (L q)→∃ b0,h q=some b0∧b0.live (L q):=by
   intro q b hq hl
   rcases iU hq with ⟨rfl,rfl⟩|⟨_,_,b0,h1,rfl⟩
   ·exact ⟨_,hk,hl⟩
   ·rw [oV] at hl;exact ⟨b0,h1,hl⟩
  obtain ⟨c1,d1,f1⟩:=aux hq hl
  obtain ⟨c2,d2,f2⟩:=aux hq' hl'
  exact hm.sep q q' c1 c2 hne d1 d2 f1 f2
 ·intro q blk hq
  rcases iU hq with ⟨rfl,rfl⟩|⟨_,_,b0,h1,rfl⟩
  ·have h9:=hm.own q _ hk;exact h9
  ·exact vm (hm.own q b0 h1)
def CM (P : Program) (f : FuncId) (ps : List PV) (e1 sz1 : Nat) (xs xs' : List PV) (e2 sz2 : Nat) (ys : List PV) : Prop:=
 eM P f=true∧xs'.length=xs.length∧∀ (w : World) (M : Nat→Nat→Prop) (l1 l2 : Loc) (vs : List Value),(∀ b o,M b o→b < w.heap.size)→l1.isNil=false→(l2.isNil=false→l2.b≠l1.b)→
  (∀ o,M l1.b o)→(l2.isNil=false→∀ o,M l2.b o)→bD w M ps vs→ek w M (fun _=>default) (fun _=>none) l1 (.row e1 sz1 xs 0)→ek w M (fun _=>default) (fun _=>none) l2 (.row e2 sz2 ys 0)→
  Calls P f (vs++[l1.slice xs.length,l2.slice ys.length]).toArray w fun e w'=>(∃ v,e=.returned v)∧Ext (fun b=>b=l1.b∨(l2.isNil=false∧b=l2.b)) w w'∧
   ek w' (fun b o=>M b o∧¬ (l2.isNil=false∧b=l2.b)) (fun _=>default) (fun _=>none) l1 (.row e1 sz1 xs' 0)
theorem MemL.handStep (hm : MemL C L h w) {w' : World} {k1 k2 e1 sz1 e2 sz2 : Nat} {xs xs' ys : List PV} (h1 : h k1=some (.row e1 sz1 xs 0)) (h2 : h k2=some (.row e2 sz2 ys 0)) (hne : k1≠k2) (hn1 : (L k1).isNil=false) (hlen : xs'.length=xs.length)
 (hx : Ext (fun b=>b=(L k1).b∨((L k2).isNil=false∧b=(L k2).b)) w w')
 (hb : ek w' (fun b o=>am C L h b o∧¬ ((L k2).isNil=false∧b=(L k2).b)) (fun _=>default) (fun _=>none) (L k1) (.row e1 sz1 xs' 0)) :
 MemL C L (rekey h [k2] k1 (.row e1 sz1 xs' 0)) w'∧∀ x u,RepA w (am C L h) L h x u→RepA w' (am C L (rekey h [k2] k1 (.row e1 sz1 xs' 0))) L (rekey h [k2] k1 (.row e1 sz1 xs' 0)) (iC [k2] x) u:=by
 have aux : ∀ {q b},rekey h [k2] k1 (.row e1 sz1 xs' 0) q=some b→q≠k2∧∃ b0,h q=some b0∧(b.live (L q)→b0.live (L q))∧(∀ o,¬ b.frz o→¬ b0.frz o):=by
  intro q b hq
  rcases iU hq with ⟨rfl,rfl⟩|⟨_,hn,b0,h9,rfl⟩
  ·exact ⟨hne,_,h1,id,fun _=>id⟩
  ·refine ⟨by simpa using hn,b0,h9,?_,?_⟩
   ·rw [oV];exact id
   ·intro o;rw [vk];exact id
 have hM : ∀ b o,am C L (rekey h [k2] k1 (.row e1 sz1 xs' 0)) b o→am C L h b o∧¬ ((L k2).isNil=false∧b=(L k2).b):=by
  rintro b o (h0|⟨q,blk,hq,hl,hbq,hf⟩)
  ·refine ⟨.inl h0,?_⟩
   rintro ⟨hn2,rfl⟩
   have:=hm.m0 _ _ h0
   rcases (hm.own k2 _ h2).row hn2 with h9|h9
   ·omega
   ·exact h9.2 _ h0
  ·obtain ⟨hq2,b0,h9,hl9,hf9⟩:=aux hq
   refine ⟨.inr ⟨q,b0,h9,hl9 hl,hbq,hf9 o hf⟩,?_⟩
   rintro ⟨hn2,hb2⟩
   exact hm.sep q k2 b0 _ hq2 h9 h2 (hl9 hl) hn2 (hbq.trans hb2)
 have hout : ∀ b o,¬ am C L h b o→¬ (b=(L k1).b∨((L k2).isNil=false∧b=(L k2).b)):=by
  rintro b o hn (rfl|⟨hn2,rfl⟩)
  ·exact hn (.inr ⟨k1,_,h1,hn1,rfl,by simp [Blk.frz]⟩)
  ·exact hn (.inr ⟨k2,_,h2,hn2,rfl,by simp [Blk.frz]⟩)
 have hp : bn w (am C L h) w' (am C L (rekey h [k2] k1 (.row e1 sz1 xs' 0))):=fun b o v hc hn=>
  ⟨(hx.cell (j0 hc) (hout b o hn)).trans hc,fun h9=>hn (hM b o h9).1⟩
 have hkc : KC L (fun q=>if [k2].contains q=true then none else (h q).map (gq [k2])) L (rekey h [k2] k1 (.row e1 sz1 xs' 0)):=by
  intro q blk hq
  simp only at hq
  split at hq
  ·cases hq
  ·rename_i hc
   by_cases e : q=k1
   ·subst e
    rw [h1] at hq
    simp only [Option.map_some,gq,Option.some.injEq] at hq
    subst hq
    exact ⟨.row e1 sz1 xs' 0,by simp [rekey],rfl,rfl,by omega,fun _=>rfl⟩
   ·exact ⟨blk,by simp only [rekey,if_neg e,if_neg hc];exact hq,er _ _⟩
 have hrep : ∀ x u,RepA w (am C L h) L h x u→RepA w' (am C L (rekey h [k2] k1 (.row e1 sz1 xs' 0))) L (rekey h [k2] k1 (.row e1 sz1 xs' 0)) (iC [k2] x) u:=
  fun x u hx9=>(tj (ks:=[k2]) hp hx9).mono (bn.refl _ _) hkc
 refine ⟨⟨?_,hm.m0,?_,?_,?_⟩,hrep⟩
 ·refine hm.ext.trans hx (fun b hb0 hs=>?_)
  rcases hs with rfl|⟨hn2,rfl⟩
  ·rcases (hm.own k1 _ h1).row hn1 with h9|h9
   ·omega
   ·exact h9.1
  ·rcases (hm.own k2 _ h2).row hn2 with h9|h9
   ·omega
   ·exact h9.1
 ·intro q blk hq
  rcases iU hq with ⟨rfl,rfl⟩|⟨hq1,hq2,b0,h9,rfl⟩
  ·obtain ⟨g1,g2,g3,g4,g5⟩:=hb
   refine ⟨g1,g2,g3,g4,fun hn=>?_⟩
   obtain ⟨a1,a2,arr,a3,a4,a5⟩:=g5 hn
   exact ⟨a1,a2,arr,a3,a4,fun i x j p hx9 hj=>by obtain ⟨u,hu,hr⟩:=a5 i x j p hx9 hj;exact ⟨u,hu,hr.mono (bn.sub hM)⟩⟩
  ·have hq2' : q≠k2:=by simpa using hq2
   have hsame : b0.live (L q)→w'.heap[(L q).b]?=w.heap[(L q).b]?:=by
    intro hl
    refine hx.block _ ((hm.bl q b0 h9).lt hl) ?_
    rintro (h10|⟨hn2,h10⟩)
    ·exact hm.sep q k1 b0 _ hq1 h9 h1 hl hn1 h10
    ·exact hm.sep q k2 b0 _ hq2' h9 h2 hl hn2 h10
   have:=hm.bl q b0 h9
   cases b0 with
   |box cs own fz=>
    obtain ⟨arr,ty,e1,e2⟩:=this
    refine ⟨arr,ty,(hsame trivial).trans e1,by simpa using e2.1,fun i p u hp' hu=>?_⟩
    simp only [List.getElem?_map,Option.map_eq_some_iff] at hp'
    obtain ⟨y,hy,rfl⟩:=hp'
    exact hrep _ _ (e2.2 i y u hy hu)
   |row e' sz' zs fz=>
    obtain ⟨a1,a2,a3,a4,a5⟩:=this
    refine ⟨a1,a2,a3,a4,fun hn=>?_⟩
    obtain ⟨b1,b2,arr,b3,b4,b5⟩:=a5 hn
    exact ⟨b1,b2,arr,(hsame hn).trans b3,b4,fun i x j p hx9 hj=>by obtain ⟨u,hu,hr⟩:=b5 i x j p hx9 hj;exact ⟨u,hu,hr.mono hp⟩⟩
 ·intro q q' b1 b2 hqq hq hq' hl hl'
  obtain ⟨_,c1,d1,f1,_⟩:=aux hq
  obtain ⟨_,c2,d2,f2,_⟩:=aux hq'
  exact hm.sep q q' c1 c2 hqq d1 d2 (f1 hl) (f2 hl')
 ·intro q blk hq
  rcases iU hq with ⟨rfl,rfl⟩|⟨_,_,b0,h9,rfl⟩
  ·have h10:=hm.own q _ h1;exact h10
  ·exact vm (hm.own q b0 h9)
end
section
variable {C : Cx} {Q : Exit→St→Prop} {st : St}
theorem r6 {ops : Array Oper} {a : Act} {o : Oper} (hg : o.guard=none) : Region.wanted o (yielded ops a.tmps)=true:=by
 unfold Region.wanted;rw [hg]
def Fz (C : Cx) (hn : List Nat) (ops : Array Oper) (Q : St→Prop) (t : TypeId) (x y : Operand) (d : Nat) (post : List Oper) (st : St) : Prop:=
 ∃ k e sz n m kk,st.ev x=.arr k n∧st.ev y=.pv (.val (.int kk (m : Nat)))∧(∃ xs,st.h k=some (.row e sz xs 0)∧xs.length=n∧n≠0∧m≤n∧(∃ ti e' b z,ai C.P t=some ti∧ti.kind=.slice e' sz b z)∧d < C.N∧
  gn C.P hn C.N ops Q post ((st.rekey [k] k (.row e sz (xs.take m) 0)).put (some d) (.arr k m) []))
theorem WP.trunc {hn : List Nat} {id : Nat} {ops : Array Oper} {pre post : List Oper} {o : Oper} {t : TypeId} {x y : Operand} {d : Nat} (hops : ops.toList=pre++o :: post) (hop : o.op=.slice t x none (some y) none) (hd : o.dst=some d) (hg : o.guard=none)
 (hq : gn C.P hn C.N ops (Fz C hn ops (Q .normal) t x y d post) pre st) : WP C (.region id ops false) Q st:=by
 intro a w hs
 refine wp_region_list ?_
 rw [hops]
 refine km (fun st1 a1 w1 hs1 hq1=>?_) hs hq
 obtain ⟨k,e,sz,n,m,kk,hxe,hye,xs,hk,hlen,hn0,hmn,⟨ti,e',b',z',hti,hkd⟩,hdN,hrest⟩:=hq1
 obtain ⟨L,hm,hN,hdf,ht⟩:=hs1
 refine wpList_step (fun K hK=>?_)
 rw [r6 hg,if_pos rfl]
 have hxr:=fT ht x
 rw [hxe] at hxr
 have hxv : a1.eval x=(L k).slice n:=by
  cases hxr with
  |arr hk2 hn2 hu=>
   rw [hk] at hk2;injection hk2 with hk2;injection hk2 with _ _ a3 _
   subst a3;exact hu hlen
 have hyr:=fT ht y
 rw [hye] at hyr
 have hyv : a1.eval y=.int kk (m : Nat):=by
  cases hyr with
  |pv hr=>exact bh hr
 have hlive : (L k).isNil=false∧xs.length≤(L k).cap:=by
  rcases kT hm hk with ⟨_,h9⟩|⟨h9,h10,_⟩
  ·rw [h9] at hlen;simp at hlen;omega
  ·exact ⟨h9,h10⟩
 obtain ⟨hund,jt,hj,hjs,_,_⟩:=ew hti hkd
 have hxs : a1.eval x=.slice (some ⟨(L k).b,0,none⟩) n (L k).cap:=by rw [hxv];simp [Loc.slice,hlive.1]
 have hrun : (execOp a1.eval o).run C.P w1=.ok (.value (.slice (some ⟨(L k).b,0,none⟩) m (L k).cap)) w1:=by
  have hc0 : ¬ (L k).cap=0:=by omega
  have hmc : (0 : Int)≤(m : Int)∧(m : Int)≤((L k).cap : Int):=by omega
  have key : (Instr.sliceBounds true n (L k).cap none (some (.int kk (m : Nat))) none).run C.P w1=.ok (0,m,(L k).cap) w1:=by
   simp [Instr.sliceBounds,Instr.sliceBound,asIntOf,hmc]
   try (intro h9;omega)
  have h2 : (Instr.sliceAt t (a1.eval x) none (some (a1.eval y)) none).run C.P w1=.ok (.slice (some ⟨(L k).b,0,none⟩) m (L k).cap) w1:=by
   rw [hxs,hyv]
   simp only [Instr.sliceAt,Sem.run_bind,dx hund,Result.andThen_ok,Instr.slice,key,fp hj,Sem.run_pure]
   simp [hc0,Addr.add]
  unfold execOp
  rw [hop]
  simp [h2]
 unfold Oper.wp
 rw [hrun]
 refine hK _ _ ?_
 obtain ⟨hm2,hrep⟩:=hm.retake (m:=m) hk
 refine j7 (fun st' a' w' hs' hq'=>⟨st',hs',hq'⟩) (st:=(st1.rekey [k] k (.row e sz (xs.take m) 0)).put (some d) (.arr k m) []) ?_ hrest
 refine ⟨L,hm2,?_,?_,fun n'=>?_⟩
 ·rw [hd];simp [Act.put,hN]
 ·rw [hd];exact hdf
 ·rw [hd,sJ (by rw [hN];exact hdN)]
  simp only [St.put,aM]
  split
  ·refine .arr (e:=e) (sz:=sz) (fz:=0) (xs:=xs.take m) (by simp [St.rekey,Go.Ab.rekey,aj]) (by rw [List.length_take];omega) (fun _=>?_)
   simp [Loc.slice,hlive.1]
  ·exact hrep _ _ (ht n')
def Hm (C : Cx) (Q : St→Prop) (f x0 x1 x2 : Operand) (d : Nat) (st : St) : Prop:=
 ∃ g p W k1 k2 e1 sz1 e2 sz2,∃ xs xs' ys : List PV,dn (st.ev f)=some (g,[],[])∧frz st.h (st.ev x0)=some (p,W)∧st.ev x1=.arr k1 xs.length∧st.ev x2=.arr k2 ys.length∧
  aj st.h W k1=some (.row e1 sz1 xs 0)∧aj st.h W k2=some (.row e2 sz2 ys 0)∧k1≠k2∧xs≠[]∧CM C.P g [p] e1 sz1 xs xs' e2 sz2 ys∧
  d < C.N∧Q ((St.rekey ⟨st.t,aj st.h W⟩ [k2] k1 (.row e1 sz1 xs' 0)).put (some d) .undef [])
theorem WP.hand {hn : List Nat} {id : Nat} {ops : Array Oper} {pre : List Oper} {o : Oper} {f x0 x1 x2 : Operand} {ats : Array TypeId} {d : Nat} (hops : ops.toList=pre++[o]) (hop : o.op=.call { callee:=.value f,args:=#[x0,x1,x2],argTypes:=ats }) (hd : o.dst=some d) (hg : o.guard=none)
 (hq : gn C.P hn C.N ops (Hm C (Q .normal) f x0 x1 x2 d) pre st) : WP C (.region id ops false) Q st:=by
 intro a w hs
 refine wp_region_list ?_
 rw [hops]
 refine km (fun st1 a1 w1 hs1 hq1=>?_) hs hq
 obtain ⟨g,p,W,k1,k2,e1,sz1,e2,sz2,xs,xs',ys,hce,hfz,hx1,hx2,hk1,hk2,hne,hnil,⟨hcall,hlen,hD⟩,hdN,hQ⟩:=hq1
 obtain ⟨L,hm,hN,hdf,ht⟩:=hs1
 refine wpList_step (fun K hK=>?_)
 rw [r6 hg,if_pos rfl]
 obtain ⟨vs,us,hfv,hv1,hv2⟩:=oD (fT ht f) hce
 have hvs:=hv1.nil_inv
 have hus:=hv2.nil_inv
 subst hvs;subst hus
 obtain ⟨a1',a2,_⟩:=lG hm (di.refl _) (fT ht x0) hfz
 obtain ⟨hm1,hp1,hc1⟩:=a1'
 have val : ∀ {x : Operand} {k e sz : Nat} {zs : List PV},st1.ev x=.arr k zs.length→aj st1.h W k=some (.row e sz zs 0)→a1.eval x=(L k).slice zs.length:=by
  intro x k e sz zs hx hk
  have hr:=(fT ht x).mono hp1 hc1
  rw [hx] at hr
  cases hr with
  |arr hk2 hn2 hu=>
   rw [hk] at hk2;injection hk2 with hk2;injection hk2 with _ _ a3 _
   subst a3;exact hu rfl
 have hn1 : (L k1).isNil=false:=by
  rcases kT hm1 hk1 with ⟨_,h9⟩|⟨h9,_⟩
  ·exact absurd h9 hnil
  ·exact h9
 have hcalls:=hD w1 (am C L (aj st1.h W)) (L k1) (L k2) [a1.eval x0] (fun b o h=>hm1.mlt h) hn1
  (fun hn2=>hm1.sep k2 k1 _ _ (fun e=>hne e.symm) hk2 hk1 hn2 hn1)
  (fun o=>.inr ⟨k1,_,hk1,hn1,rfl,by simp [Blk.frz]⟩) (fun hn2 o=>.inr ⟨k2,_,hk2,hn2,rfl,by simp [Blk.frz]⟩)
  (.cons a2 .nil) (hm1.bl k1 _ hk1) (hm1.bl k2 _ hk2)
 have hrun : (execOp a1.eval o).run C.P w1=.ok (.enter g ([a1.eval x0]++[(L k1).slice xs.length,(L k2).slice ys.length]).toArray) w1:=by
  unfold eM at hcall
  cases hfn : C.P.funcs[g]? with
  |none=>rw [hfn] at hcall;cases hcall
  |some fn=>
   rw [hfn] at hcall
   simp only [Bool.and_eq_true,Bool.not_eq_true',beq_eq_false_iff_ne,ne_eq] at hcall
   have hb : fn.body.isNone=false:=by cases hbb : fn.body<;>simp_all
   unfold execOp
   rw [hop]
   simp only [resolve,hfv,Deferred.ofValue,pure_bind,Sem.run_bind,Result.andThen_ok,invoke,callFunc,program,Sem.run,hfn]
   simp [hcall.2,hb,val hx1 hk1,val hx2 hk2]
 unfold Oper.wp
 rw [hrun]
 simp only [Oper.upon]
 refine hcalls.mono ?_
 rintro ee w' ⟨⟨v,rfl⟩,hx,hb⟩
 obtain ⟨hm2,hrep⟩:=hm1.handStep hk1 hk2 hne hn1 hlen hx hb
 refine hK _ _ ?_
 refine j7 (hn:=hn) (l:=[]) (Q:=Q .normal) (fun st' a' w' hs' hq'=>⟨st',hs',hq'⟩) (st:=(St.rekey ⟨st1.t,aj st1.h W⟩ [k2] k1 (.row e1 sz1 xs' 0)).put (some d) .undef []) ?_ hQ
 refine ⟨L,hm2,?_,?_,fun n=>?_⟩
 ·rw [hd];simp [Act.put,hN]
 ·rw [hd];exact hdf
 ·rw [hd,sJ (by rw [hN];exact hdN)]
  simp only [St.put,aM]
  split
  ·exact .undef _
  ·exact hrep _ _ ((ht n).mono hp1 hc1)
end
attribute [simp] St.rekey rekey
def wH (ps : List PV) (e1 sz1 : Nat) (xs : List PV) (e2 sz2 : Nat) (ys : List PV) : St:=
 ⟨fun n=>if n < ps.length then .pv (ps[n]?.getD default) else if n=ps.length then .arr 2000000 xs.length else if n=ps.length+1 then .arr 1500000 ys.length else .undef,
  fun k=>if k=2000000 then some (.row e1 sz1 xs 0) else if k=1500000 then some (.row e2 sz2 ys 0) else none⟩
def CN (e1 sz1 : Nat) (xs' : List PV) : Exit→St→Prop
 |.normal,st=>st.h 2000000=some (.row e1 sz1 xs' 0)
 |.ret,st=>st.h 2000000=some (.row e1 sz1 xs' 0)
 |_,_=>False
@[simp] theorem Hh {e1 sz1 : Nat} {xs' : List PV} {st : St} : CN e1 sz1 xs' .normal st=(st.h 2000000=some (.row e1 sz1 xs' 0)):=rfl
@[simp] theorem IC {e1 sz1 : Nat} {xs' : List PV} {st : St} : CN e1 sz1 xs' .ret st=(st.h 2000000=some (.row e1 sz1 xs' 0)):=rfl
theorem EP {P : Program} {f : FuncId} {fn : Func} {c : Code} (hf : P.funcs[f]?=some fn) (hb : fn.body=some c) (hcall : eM P f=true) (hres : fn.results=#[]) {ps : List PV} {e1 sz1 e2 sz2 : Nat} {xs xs' ys : List PV} (hlen : ps.length+2≤fn.ntmps) (hl : xs'.length=xs.length)
 (h : ∀ C : Cx,C.P=P→C.N=fn.ntmps→WP C c (CN e1 sz1 xs') (wH ps e1 sz1 xs e2 sz2 ys)) : CM P f ps e1 sz1 xs xs' e2 sz2 ys:=by
 refine ⟨hcall,hl,fun w M l1 l2 vs hM hn1 hsep hM1 hM2 hvs hb1 hb2=>?_⟩
 let C : Cx:={ P:=P,N:=fn.ntmps,M0:=fun b o=>M b o∧¬ (b=l1.b∨(l2.isNil=false∧b=l2.b)),S:=fun b=>b=l1.b∨(l2.isNil=false∧b=l2.b),pb:=fun _=>none,pr:=fun k=>if k=2000000 then some l1 else none,hpr:=(fun k hk=>by rw [if_neg (by omega)]),w0:=w }
 let L : Nat→Loc:=fun k=>if k=2000000 then l1 else l2
 have hL1 : L 2000000=l1:=rfl
 have hL2 : L 1500000=l2:=rfl
 have hkey : ∀ k blk,(wH ps e1 sz1 xs e2 sz2 ys).h k=some blk→(k=2000000∧blk=.row e1 sz1 xs 0)∨(k=1500000∧blk=.row e2 sz2 ys 0):=by
  intro k blk hk
  simp only [wH] at hk
  split at hk
  ·rename_i e;injection hk with hk;exact .inl ⟨e,hk.symm⟩
  ·split at hk
   ·rename_i e;injection hk with hk;exact .inr ⟨e,hk.symm⟩
   ·cases hk
 have hMst : ∀ b o,am C L (wH ps e1 sz1 xs e2 sz2 ys).h b o↔M b o:=by
  intro b o
  constructor
  ·rintro (h0|⟨k,blk,hk,hlv,hbb,hf⟩)
   ·exact h0.1
   ·rcases hkey k blk hk with ⟨rfl,rfl⟩|⟨rfl,rfl⟩
    ·rw [← hbb];exact hM1 o
    ·rw [← hbb];exact hM2 hlv o
  ·intro hm
   by_cases h1 : b=l1.b
   ·exact .inr ⟨2000000,.row e1 sz1 xs 0,rfl,hn1,h1.symm,by simp [Blk.frz]⟩
   ·by_cases h2 : l2.isNil=false∧b=l2.b
    ·exact .inr ⟨1500000,.row e2 sz2 ys 0,rfl,h2.1,h2.2.symm,by simp [Blk.frz]⟩
    ·exact .inl ⟨hm,by rintro (h3|h3);exact h1 h3;exact h2 h3⟩
 have hMeq : am C L (wH ps e1 sz1 xs e2 sz2 ys).h=M:=by funext b o;exact propext (hMst b o)
 have hvl:=hvs.1
 have hsim : gp C (wH ps e1 sz1 xs e2 sz2 ys) { tmps:=(vs++[l1.slice xs.length,l2.slice ys.length]).toArray++Array.replicate (fn.ntmps - (vs++[l1.slice xs.length,l2.slice ys.length]).toArray.size) undef,defers:=[] } w:=by
  refine ⟨L,⟨Ext.refl _ _,fun b o h0=>hM b o h0.1,?_,?_,?_⟩,?_,i9.nil _,fun n=>?_⟩
  ·intro k blk hk
   rw [hMeq]
   rcases hkey k blk hk with ⟨rfl,rfl⟩|⟨rfl,rfl⟩
   ·exact hb1
   ·exact hb2
  ·intro k k' b1 b2 hne hk hk' hl1 hl2
   rcases hkey k b1 hk with ⟨rfl,rfl⟩|⟨rfl,rfl⟩<;>rcases hkey k' b2 hk' with ⟨rfl,rfl⟩|⟨rfl,rfl⟩
   ·exact absurd rfl hne
   ·exact fun e=>hsep hl2 e.symm
   ·exact fun e=>hsep hl1 e
   ·exact absurd rfl hne
  ·intro k blk hk
   rcases hkey k blk hk with ⟨rfl,rfl⟩|⟨rfl,rfl⟩
   ·show fB C 2000000 l1 _
    exact ⟨rfl,fun _=>⟨.inl rfl,fun o h9=>h9.2 (.inl rfl)⟩⟩
   ·show fB C 1500000 l2 _
    exact fun hn2=>.inr ⟨.inr ⟨hn2,rfl⟩,fun o h9=>h9.2 (.inr ⟨hn2,rfl⟩)⟩
  ·show ((vs++[l1.slice xs.length,l2.slice ys.length]).toArray++Array.replicate (fn.ntmps - (vs++[l1.slice xs.length,l2.slice ys.length]).toArray.size) undef).size=fn.ntmps
   simp;omega
  ·rw [hMeq]
   have hget : ∀ v,(vs++[l1.slice xs.length,l2.slice ys.length])[n]?=some v→((vs++[l1.slice xs.length,l2.slice ys.length]).toArray++Array.replicate (fn.ntmps - (vs++[l1.slice xs.length,l2.slice ys.length]).toArray.size) undef).getD n undef=v:=by
    intro v hv
    rw [Array.getD_eq_getD_getElem?,Array.getElem?_append_left (by have:=(List.getElem?_eq_some_iff.1 hv).1;simpa using this),List.getElem?_toArray,hv];rfl
   by_cases c1 : n < ps.length
   ·have hv : vs[n]?=some (vs[n]'(by omega)):=List.getElem?_eq_getElem _
    rw [hget _ (by rw [List.getElem?_append_left (by omega)];exact hv)]
    show RepA w M L _ (if n < ps.length then _ else _) _
    rw [if_pos c1,List.getElem?_eq_getElem c1]
    exact .pv (hvs.2 n _ _ (List.getElem?_eq_getElem c1) hv)
   ·by_cases c2 : n=ps.length
    ·rw [hget (l1.slice xs.length) (by rw [List.getElem?_append_right (by omega),show n - vs.length=0 by omega];rfl)]
     show RepA w M L _ (if n < ps.length then _ else if n=ps.length then _ else _) _
     rw [if_neg c1,if_pos c2]
     exact .arr (e:=e1) (sz:=sz1) (fz:=0) (xs:=xs) rfl (Nat.le_refl _) (fun _=>rfl)
    ·by_cases c3 : n=ps.length+1
     ·rw [hget (l2.slice ys.length) (by rw [List.getElem?_append_right (by omega),show n - vs.length=1 by omega];rfl)]
      show RepA w M L _ (if n < ps.length then _ else if n=ps.length then _ else if n=ps.length+1 then _ else _) _
      rw [if_neg c1,if_neg c2,if_pos c3]
      exact .arr (e:=e2) (sz:=sz2) (fz:=0) (xs:=ys) rfl (Nat.le_refl _) (fun _=>rfl)
     ·show RepA w M L _ (if n < ps.length then _ else if n=ps.length then _ else if n=ps.length+1 then _ else _) _
      rw [if_neg c1,if_neg c2,if_neg c3]
      exact .undef _
 refine calls_of_wp_defers hf hb (wp_mono (h C rfl rfl _ w hsim) ?_)
 have hfin : ∀ (a' : Act) w' st',gp C st' a' w'→st'.h 2000000=some (.row e1 sz1 xs' 0)→i9 P a'.defers∧∃ v,(results fn a'.tmps).run P w'=.ok v w'∧
  ((∃ v',Ending.returned v=.returned v')∧Ext (fun b=>b=l1.b∨(l2.isNil=false∧b=l2.b)) w w'∧ek w' (fun b o=>M b o∧¬ (l2.isNil=false∧b=l2.b)) (fun _=>default) (fun _=>none) l1 (.row e1 sz1 xs' 0)):=by
  rintro a' w' st' ⟨L',hm,hN,hdf,ht⟩ hk
  have hLe : L' 2000000=l1:=by
   have:=hm.own _ _ hk
   simp only [fB] at this
   exact this.1
  have hbl:=hm.bl _ _ hk
  rw [hLe] at hbl
  refine ⟨hdf,.tuple #[],?_,⟨_,rfl⟩,hm.ext,?_⟩
  ·unfold results
   rw [hres]
   simp [go_sem]
  ·obtain ⟨g1,g2,g3,g4,g5⟩:=hbl
   refine ⟨g1,g2,g3,g4,fun hn=>?_⟩
   obtain ⟨a1,a2,arr,a3,a4,a5⟩:=g5 hn
   refine ⟨a1,a2,arr,a3,a4,fun i x j p hx hj=>?_⟩
   obtain ⟨u,hu,hr⟩:=a5 i x j p hx hj
   refine ⟨u,hu,hr.mono (bn.sub ?_)⟩
   rintro b o ⟨h9,h10⟩
   by_cases hb9 : b=l1.b
   ·exact .inr ⟨2000000,_,hk,by show (L' 2000000).isNil=false;rw [hLe];exact hn1,by rw [hLe];exact hb9.symm,by simp [Blk.frz]⟩
   ·exact .inl ⟨h9,by rintro (h3|h3);exact hb9 h3;exact h10 h3⟩
 rintro e a' w' ⟨st',hs',hq⟩
 cases e with
 |normal=>obtain ⟨h1,v,h2,h3⟩:=hfin a' w' st' hs' hq;exact ja h1 h2 h3
 |ret=>obtain ⟨h1,v,h2,h3⟩:=hfin a' w' st' hs' hq;exact ja h1 h2 h3
 |exit=>exact hq.elim
 |goto=>exact hq.elim
 |panic=>exact hq.elim
 |outgrown=>exact hq.elim
end Go.Ab
namespace Go.Ab
open Go.Proofs
def ql (x : Int) : Int:=dj (max x (-x)) 65536 * dj (max x (-x)) 65536
def rM (v : Vc) (rho : Int) : Bool:=decide (ql v.1+ql v.2.1+ql v.2.2≤rho * rho)
theorem uV {x : Int} (h : -35184372088832≤x∧x≤35184372088832) : (0≤dj (max x (-x)) 65536∧dj (max x (-x)) 65536≤536870912)∧0≤ql x∧ql x≤288230376151711744:=by
 have h1 : 0≤dj (max x (-x)) 65536∧dj (max x (-x)) 65536≤536870912:=by unfold dj;omega
 have h2:=kB h1.1 h1.2
 exact ⟨h1,h2.1,by unfold ql;omega⟩
def lO (x s : Vc) : Int:=if bP x (aY x s)≤0 then 0 else min 256 (bP x (aY x s) / max 1 (bP (aY x s) (aY x s) / 256))
theorem sQ {v w : Vc} {a b : Int} (hv : eQ a v) (hw : eQ b w) : eQ (a+b) (aY v w):=by
 obtain ⟨v1,v2,v3⟩:=hv
 obtain ⟨w1,w2,w3⟩:=hw
 refine ⟨?_,?_,?_⟩<;>(simp only [aY];omega)
theorem kC (x s : Vc) : 0≤lO x s∧lO x s≤256:=by
 unfold lO
 split
 ·omega
 ·rename_i h
  have h1 : 0≤bP x (aY x s) / max 1 (bP (aY x s) (aY x s) / 256):=Int.ediv_nonneg (by omega) (by omega)
  omega
theorem lC {v : Vc} {a b : Int} (h : eQ a v) (hab : a≤b) : eQ b v:=by
 obtain ⟨v1,v2,v3⟩:=h
 exact ⟨by omega,by omega,by omega⟩
theorem AS (v : Vc) : 0≤bP v v:=by
 have h : ∀ x : Int,0≤x * x:=fun x=>by
  rcases Int.le_total 0 x with h|h
  ·exact Int.mul_nonneg h h
  ·have:=Int.mul_nonneg (show 0≤-x by omega) (show 0≤-x by omega)
   rw [Int.neg_mul_neg] at this;exact this
 have h1:=h v.1
 have h2:=h v.2.1
 have h3:=h v.2.2
 unfold bP;omega
end Go.Ab
namespace Go.Ab
open Go.Proofs
def ed (w : List Int) (t : Int) (i : Nat) : List Int:=w.mapIdx fun j k=>if j < i then k - k * t / 256 else k
def ep (w : List Int) (t : Int) : Nat→Int
 |0=>0
 |i+1=>ep w t i+(w[i]?).getD 0 * t / 256
def jD (w : List Int) (q : Nat) (t : Int) : List Int:=(ed w t w.length).set q (((ed w t w.length)[q]?).getD 0+ep w t w.length)
theorem lP (w : List Int) (t : Int) (i : Nat) : (ed w t i).length=w.length:=by simp [ed]
theorem jf (w : List Int) (t : Int) (i j : Nat) : (ed w t i)[j]?=(w[j]?).map fun k=>if j < i then k - k * t / 256 else k:=by simp [ed,List.getElem?_mapIdx]
theorem uf (w : List Int) (t : Int) : ed w t 0=w:=by
 apply List.ext_getElem?
 intro j
 rw [jf];cases w[j]?<;>simp
theorem ug {w : List Int} {t : Int} {i : Nat} {k : Int} (hk : w[i]?=some k) : ed w t (i+1)=(ed w t i).set i (k - k * t / 256):=by
 apply List.ext_getElem?
 intro j
 rw [List.getElem?_set,jf,jf,lP]
 by_cases e : i=j
 ·subst e
  obtain ⟨h,_⟩:=List.getElem?_eq_some_iff.1 hk
  rw [hk];simp [h]
 ·rw [if_neg e]
  cases w[j]? with
  |none=>rfl
  |some x=>
   simp only [Option.map_some]
   congr 1
   by_cases h : j < i
   ·rw [if_pos h,if_pos (by omega)]
   ·rw [if_neg h,if_neg (by omega)]
theorem sR (w : List Int) : ∀ i,aK w i=(w.take i).sum
 |0=>by simp [aK]
 |i+1=>by
  rw [List.take_succ]
  cases h : w[i]? with
  |none=>simp [aK,h,sR w i]
  |some k=>simp [aK,h,sR w i]
theorem sS (w : List Int) : aK w w.length=w.sum:=by rw [sR,List.take_length]
theorem uW {w : List Int} {q : Nat} {x y : Int} (h : w[q]?=some y) : (w.set q x).sum=w.sum - y+x:=by
 induction w generalizing q with
 |nil=>simp at h
 |cons a r ih=>
  cases q with
  |zero=>simp at h;subst h;simp;omega
  |succ q=>simp at h;simp only [List.set_cons_succ,List.sum_cons,ih h];omega
theorem xP (w : List Int) (t : Int) : ∀ i,i≤w.length→(ed w t i).sum=w.sum - ep w t i
 |0,_=>by simp [uf,ep]
 |i+1,h=>by
  have hk : w[i]?=some w[i]:=List.getElem?_eq_getElem (by omega)
  have hkk : (ed w t i)[i]?=some w[i]:=by rw [jf,hk];simp
  rw [ug hk,uW hkk,xP w t i (by omega)]
  simp only [ep,hk,Option.getD_some];omega
theorem E8 {w : List Int} {q : Nat} {t : Int} (hq : q < w.length) : (jD w q t).sum=w.sum:=by
 have hlen:=lP w t w.length
 have hk : (ed w t w.length)[q]?=some ((ed w t w.length)[q]'(by omega)):=List.getElem?_eq_getElem (by omega)
 unfold jD
 rw [uW hk,xP w t _ (Nat.le_refl _),hk]
 simp only [Option.getD_some];omega
theorem pJ {k t : Int} (hk : 0≤k) (ht : 0≤t) (ht2 : t≤256) : 0≤k * t∧k * t≤k * 256∧0≤k * t / 256∧k * t / 256≤k:=by
 have h1 : 0≤k * t:=Int.mul_nonneg hk ht
 have h2 : k * t≤k * 256:=Int.mul_le_mul_of_nonneg_left ht2 hk
 omega
theorem sT {w : List Int} {t : Int} (hw : ∀ k ∈ w,0≤k) (ht : 0≤t) (ht2 : t≤256) : ∀ i,0≤ep w t i∧ep w t i≤aK w i
 |0=>by simp [ep,aK]
 |i+1=>by
  have ih:=sT hw ht ht2 i
  cases h : w[i]? with
  |none=>simp [ep,aK,h];omega
  |some k=>
   have:=pJ (hw k (List.mem_of_getElem? h)) ht ht2
   simp only [ep,aK,h,Option.getD_some];omega
theorem uX (w : List Int) (q : Nat) (t : Int) : (jD w q t).length=w.length:=by simp [jD,lP]
theorem Cb {w : List Int} {q : Nat} {t : Int} (hw : WgOk w) (hq : q < w.length) (ht : 0≤t) (ht2 : t≤256) : WgOk (jD w q t):=by
 constructor
 ·intro k hk
  obtain ⟨j,hj,rfl⟩:=List.mem_iff_getElem.1 hk
  have hjl : j < w.length:=by rw [uX] at hj;exact hj
  have hwj : w[j]?=some w[j]:=List.getElem?_eq_getElem hjl
  have hp:=pJ (hw.pos _ (List.getElem_mem hjl)) ht ht2
  have hkj : (ed w t w.length)[j]?=some (w[j] - w[j] * t / 256):=by rw [jf,hwj];simp [hjl]
  have hl:=sT hw.pos ht ht2 w.length
  generalize hx : (jD w q t)[j]=x
  have hg : (jD w q t)[j]?=some x:=by rw [List.getElem?_eq_getElem hj,hx]
  clear hx hk
  unfold jD at hg
  rw [List.getElem?_set] at hg
  by_cases e : q=j
  ·subst e
   rw [if_pos rfl,if_pos (by rw [lP];exact hjl),hkj] at hg
   simp only [Option.getD_some,Option.some.injEq] at hg
   omega
  ·rw [if_neg e,hkj] at hg
   simp only [Option.some.injEq] at hg
   omega
 ·rw [sS,E8 hq,← sS];exact hw.tot
end Go.Ab
namespace Go.Ab
open Go.Proofs
def dr (A : List Vc) (w : List Int) (B' : List Vc) (v : List Int) : Vc:=aY (dI A w A.length) (dI B' v B'.length)
def iu (t : Vc) : Vc:=(t.1.tdiv 65536,t.2.1.tdiv 65536,t.2.2.tdiv 65536)
structure NSt where
 w : List Int
 v : List Int
 n : Vc
 r : Nat
inductive NEnd where
 |stop (kind : Int) (s : NSt)
 |step (s : NSt)
def oJ (A B' : List Vc) (rho : Int) (steps : Nat) (s : NSt) : NEnd:=
 if rM (dr A s.w B' s.v) rho=true then .stop 2 s
 else if nz (bm (iu (dr A s.w B' s.v)))=false then .stop 0 ⟨s.w,s.v,bm (iu (dr A s.w B' s.v)),s.r⟩
 else if gb (bm (iu (dr A s.w B' s.v))) * rho < (dv fl (bm (iu (dr A s.w B' s.v))) A).1 - (dv fo (bm (iu (dr A s.w B' s.v))) B').1 then .stop 1 ⟨s.w,s.v,bm (iu (dr A s.w B' s.v)),s.r⟩
 else if s.r=steps then .stop 0 ⟨s.w,s.v,bm (iu (dr A s.w B' s.v)),s.r⟩
 else if lO (iu (dr A s.w B' s.v)) (aY ((A[(dv fl (bm (iu (dr A s.w B' s.v))) A).2]?).getD (0,0,0)) ((B'[(dv fo (bm (iu (dr A s.w B' s.v))) B').2]?).getD (0,0,0)))=0 then .stop 0 ⟨s.w,s.v,bm (iu (dr A s.w B' s.v)),s.r⟩
 else .step ⟨jD s.w (dv fl (bm (iu (dr A s.w B' s.v))) A).2 (lO (iu (dr A s.w B' s.v)) (aY ((A[(dv fl (bm (iu (dr A s.w B' s.v))) A).2]?).getD (0,0,0)) ((B'[(dv fo (bm (iu (dr A s.w B' s.v))) B').2]?).getD (0,0,0)))),jD s.v (dv fo (bm (iu (dr A s.w B' s.v))) B').2 (lO (iu (dr A s.w B' s.v)) (aY ((A[(dv fl (bm (iu (dr A s.w B' s.v))) A).2]?).getD (0,0,0)) ((B'[(dv fo (bm (iu (dr A s.w B' s.v))) B').2]?).getD (0,0,0)))),bm (iu (dr A s.w B' s.v)),s.r+1⟩
def nN (A B' : List Vc) (rho : Int) (steps : Nat) : Nat→NSt→Int × NSt
 |0,s=>(0,s)
 |f+1,s=>match oJ A B' rho steps s with
  |.stop k s'=>(k,s')
  |.step s'=>nN A B' rho steps f s'
theorem Gp {t : Vc} (h : eQ 35184372088832 t) : eQ 536870912 (iu t):=by
 have h1 : ∀ x : Int,-35184372088832≤x∧x≤35184372088832→-536870912≤x.tdiv 65536∧x.tdiv 65536≤536870912:=fun x hx=>by
  rcases Int.le_total 0 x with h0|h0
  ·rw [Int.tdiv_eq_ediv_of_nonneg h0];omega
  ·have e : x.tdiv 65536=-((-x).tdiv 65536):=by rw [Int.neg_tdiv,Int.neg_neg]
   rw [e,Int.tdiv_eq_ediv_of_nonneg (by omega)];omega
 exact ⟨h1 _ h.1,h1 _ h.2.1,h1 _ h.2.2⟩
structure NsOk (A B' : List Vc) (s : NSt) : Prop where
 w : WgOk s.w
 v : WgOk s.v
 wl : s.w.length=A.length
 vl : s.v.length=B'.length
theorem k9 {l : List Vc} : gi l=true↔1≤l.length∧l.length≤8∧l.all (aH 268435456)=true:=by
 simp only [gi,Bool.and_eq_true,decide_eq_true_eq,and_assoc]
theorem Dz {A B' : List Vc} {s : NSt} (hA : gi A=true) (hB : gi B'=true) (hs : NsOk A B' s) : eQ 35184372088832 (dr A s.w B' s.v):=by
 rw [k9] at hA hB
 have h1:=k8 hA.2.2 hs.w A.length (by rw [hs.wl];exact Nat.le_refl _)
 have h2:=k8 hB.2.2 hs.v B'.length (by rw [hs.vl];exact Nat.le_refl _)
 exact sQ h1 h2
theorem nO {bet : Int→Int→Bool} {n : Vc} {l : List Vc} (hl : 1≤l.length) : (dv bet n l).2 < l.length:=pI hl _
theorem ui : ∀ (k : Nat) (v : Vc),eQ (16384 * ((2 ^ k : Nat) : Int)) v→aH 16384 (jP k v)=true
 |0,v,h=>by
  obtain ⟨h1,h2,h3⟩:=h
  simp only [jP]
  rw [dz,bH,bH,bH]
  simp only [Nat.pow_zero] at h1 h2 h3
  exact ⟨by omega,by omega,by omega⟩
 |k+1,v,h=>by
  simp only [jP]
  split
  ·assumption
  ·refine ui k _ (DO ?_)
   have e : 2 * (16384 * ((2 ^ k : Nat) : Int))=16384 * ((2 ^ (k+1) : Nat) : Int):=by rw [Nat.pow_succ];omega
   rw [e];exact h
theorem Cc (v : Vc) (h : eQ 1099511627776 v) : aH 16384 (bm v)=true:=ui 64 v (lC h (by decide))
theorem uj {A B' : List Vc} {rho : Int} {steps : Nat} {s : NSt} (hA : gi A=true) (hB : gi B'=true) (hs : NsOk A B' s) : (∀ k s',oJ A B' rho steps s=.stop k s'→NsOk A B' s')∧∀ s',oJ A B' rho steps s=.step s'→NsOk A B' s':=by
 rw [k9] at hA hB
 unfold oJ
 refine ⟨fun k s' h=>?_,fun s' h=>?_⟩
 ·repeat' split at h
  all_goals first
   |(injection h with _ h;subst h;exact hs)
   |(injection h with _ h;subst h;exact ⟨hs.w,hs.v,hs.wl,hs.vl⟩)
   |cases h
 ·repeat' split at h
  all_goals first
   |cases h;done
   |(injection h with h
     subst h
     exact ⟨Cb hs.w (by rw [hs.wl];exact nO hA.1) (kC _ _).1 (kC _ _).2,Cb hs.v (by rw [hs.vl];exact nO hB.1) (kC _ _).1 (kC _ _).2,by rw [uX];exact hs.wl,by rw [uX];exact hs.vl⟩)
theorem xQ {A B' : List Vc} {rho : Int} {steps : Nat} (hA : gi A=true) (hB : gi B'=true) : ∀ (f : Nat) (s : NSt),NsOk A B' s→NsOk A B' (nN A B' rho steps f s).2
 |0,s,hs=>hs
 |f+1,s,hs=>by
  have h:=uj (rho:=rho) (steps:=steps) hA hB hs
  simp only [nN]
  split
  ·rename_i k s' e;exact h.1 _ _ e
  ·rename_i s' e;exact xQ hA hB f s' (h.2 _ e)
theorem nP {n p : Vc} (hn : eQ 16384 n) (hp : eQ 268435456 p) : -13194139533312≤bP n p∧bP n p≤13194139533312:=by
 obtain ⟨r1,r2,r3⟩:=nM (m:=16384) (n:=268435456) hn hp
 unfold bP;omega
theorem vP {bet : Int→Int→Bool} {n p0 : Vc} {l : List Vc} (hn : eQ 16384 n) (hp : eQ 268435456 p0) (hl : l.all (aH 268435456)=true) : ∀ i,-13194139533312≤(dU bet n p0 l i).1∧(dU bet n p0 l i).1≤13194139533312
 |0=>nP hn hp
 |i+1=>by
  have ih:=vP (bet:=bet) hn hp hl i
  simp only [dU]
  split
  ·rename_i v hv
   have:=nP hn (eP (List.all_eq_true.1 hl v (List.mem_of_getElem? hv)))
   split
   ·exact this
   ·exact ih
  ·exact ih
theorem qZ {v : Vc} (h : aH 16384 v=true) : eQ 16384 v:=by
 rw [dz,bH,bH,bH] at h
 exact ⟨⟨by omega,by omega⟩,⟨by omega,by omega⟩,⟨by omega,by omega⟩⟩
theorem uk {bet : Int→Int→Bool} {n : Vc} {l : List Vc} (hn : aH 16384 n=true) (hl : l.all (aH 268435456)=true) : -13194139533312≤(dv bet n l).1∧(dv bet n l).1≤13194139533312:=by
 refine vP (qZ hn) ?_ hl _
 cases h : l[0]? with
 |none=>simp [eQ]
 |some p=>exact eP (List.all_eq_true.1 hl p (List.mem_of_getElem? h))
end Go.Ab
namespace Go.Ab
open Go.Proofs
def um (a b : List Vc) : NSt:=⟨(List.replicate a.length 0).set 0 65536,(List.replicate b.length 0).set 0 65536,(0,0,0),0⟩
theorem EA {n : Nat} (h : 1≤n) : WgOk ((List.replicate n 0).set 0 65536):=by
 constructor
 ·intro k hk
  rcases List.mem_or_eq_of_mem_set hk with h|rfl
  ·have:=List.eq_of_mem_replicate h;omega
  ·decide
 ·rw [sS,uW (y:=0) (by rw [List.getElem?_replicate,if_pos (by omega)])]
  have : (List.replicate n (0 : Int)).sum=0:=by simp
  omega
theorem Cd {a b : List Vc} (ha : 1≤a.length) (hb : 1≤b.length) : NsOk a b (um a b):=⟨EA ha,EA hb,by simp [um],by simp [um]⟩
def pK (a b : List Vc) (rho steps : Int) : Bool:=gi a && gi b && aZ rho 0 2097152 && aZ steps 0 64
def ju (a b : List Vc) (rho steps : Int) : Int × NSt:=if pK a b rho steps then nN a b rho steps.toNat (steps.toNat+1) (um a b) else (0,⟨[],[],(0,0,0),0⟩)
abbrev HC (x : Int × NSt) : PV:=.agg [Z x.1,Z x.2.n.1,Z x.2.n.2.1,Z x.2.n.2.2,zs x.2.w,zs x.2.v,Z x.2.r]
end Go.Ab
namespace Go.Ab
open Go.Proofs
def az (l : List Vc) : Nat→Vc
 |0=>(0,0,0)
 |i+1=>match l[i]? with
  |some p=>((az l i).1+p.1,(az l i).2.1+p.2.1,(az l i).2.2+p.2.2)
  |none=>az l i
theorem iw {l : List Vc} (hl : l.all (aH 268435456)=true) : ∀ i : Nat,eQ ((i : Int) * 268435456) (az l i)
 |0=>by simp [az,eQ]
 |i+1=>by
  obtain ⟨i1,i2,i3⟩:=iw hl i
  simp only [az]
  split
  ·rename_i p hp
   obtain ⟨a,b,c⟩:=eP (List.all_eq_true.1 hl p (List.mem_of_getElem? hp))
   exact ⟨⟨by simp only;omega,by simp only;omega⟩,⟨by simp only;omega,by simp only;omega⟩,⟨by simp only;omega,by simp only;omega⟩⟩
  ·exact ⟨⟨by omega,by omega⟩,⟨by omega,by omega⟩,⟨by omega,by omega⟩⟩
abbrev nQ : List Vc:=[(1,0,0),(-1,0,0),(0,1,0),(0,-1,0),(0,0,1),(0,0,-1)]
theorem nc {l : List ar} : (aQ l).all (aH 268435456)=true:=by
 unfold aQ
 split
 ·rename_i h
  have hp:=(dM h).1
  rw [List.all_eq_true] at hp ⊢
  intro x hx
  obtain ⟨v,hv,rfl⟩:=List.mem_map.1 hx
  have h1:=hp v hv
  rw [eS] at h1
  obtain ⟨a,b,c⟩:=h1
  have hm : ∀ x : Iv,bR x=true→fe (oo x) 268435456=true:=fun x hx=>by
   rw [dZ] at hx
   rw [bH]
   unfold oo
   split<;>omega
  rw [dz]
  exact ⟨hm _ a,hm _ b,hm _ c⟩
 ·rfl
theorem lD {l : List ar} (h : aw l=true) : (aQ l).length=l.length:=by simp [aQ,h]
def mw (a b : List ar) : Vc:=((az (aQ a) a.length).1 * b.length - (az (aQ b) b.length).1 * a.length,(az (aQ a) a.length).2.1 * b.length - (az (aQ b) b.length).2.1 * a.length,(az (aQ a) a.length).2.2 * b.length - (az (aQ b) b.length).2.2 * a.length)
def nR (a b : List ar) : Vc:=if aw a && aw b then bm (mw a b) else (0,0,0)
def pL (a b : List ar) : Bool:=aw a && aw b && nz (bm (mw a b))
theorem Gq {l : List ar} (h : aw l=true) : eQ 2147483648 (az (aQ l) l.length):=by
 have h1:=iw (nc (l:=l)) l.length
 have h2:=(dM h).2.1
 exact lC h1 (by omega)
theorem E9 {a b : List ar} (ha : aw a=true) (hb : aw b=true) : eQ 1099511627776 (mw a b):=by
 obtain ⟨s1,s2,s3⟩:=Gq ha
 obtain ⟨t1,t2,t3⟩:=Gq hb
 have h2:=(dM ha).2.1
 have h3:=(dM hb).2.1
 have e : ∀ x : Int,-2147483648≤x∧x≤2147483648→∀ n : Nat,n≤8→-17179869184≤x * n∧x * n≤17179869184:=fun x hx n hn=>by
  have:=bA (a:=x) (b:=(n : Int)) 2147483648 8 (by omega) (by omega) (by omega) (by omega)
  omega
 have a1:=e _ s1 _ h3
 have a2:=e _ s2 _ h3
 have a3:=e _ s3 _ h3
 have b1:=e _ t1 _ h2
 have b2:=e _ t2 _ h2
 have b3:=e _ t3 _ h2
 unfold mw
 exact ⟨by simp only;omega,by simp only;omega,by simp only;omega⟩
end Go.Ab
