/- The contracts and facts that the laws of this seat need, in one text (K10, Ab26, Ab29, K11b, K11c, K11d, K11e, K5c, K5d, K5e, K5f, K5g, K12). -/
import Derived.Test.YtpbakcmohoahgaaGreatU6
set_option linter.all false
set_option maxHeartbeats 16000000
namespace Go.Ab
open Go.Proofs
def tE (x y z : AV) (fb : Option bR) : Option bR:=match x,y,z with
 |.pv (.val (.int .i64 a)),.pv (.val (.int .i64 b)),.pv (.val (.int .i64 c))=>some (.pv (Z (max a (max b c))),[])
 |_,_,_=>fb
@[simp] theorem zC (a b c : Int) (fb : Option bR) : tE (.pv (.val (.int .i64 a))) (.pv (.val (.int .i64 b))) (.pv (.val (.int .i64 c))) fb=some (.pv (Z (max a (max b c))),[]):=rfl
@[simp] theorem CJ {dst : Option Nat} {ty : TypeId} {ts : Array TypeId} {pos : String} {aft : Array Edge} {g : Option (Nat × Bool)} {ρ : Operand→AV} (x y z : Operand) :
 aP Tryz.prog ⟨dst,.call ⟨.builtin .max,#[x,y,z],ts⟩,ty,pos,aft,g⟩ ρ=tE (ρ x) (ρ y) (ρ z) (jq Tryz.prog ⟨dst,.call ⟨.builtin .max,#[x,y,z],ts⟩,ty,pos,aft,g⟩ ρ):=by
 unfold tE
 split
 ·rename_i a b c hx hy hz
  refine cB (by simp [Op.operands,Call.operands,hx,hy,hz,cU]) ?_
  unfold execOp
  simp [resolve,invoke,builtin,Builtin.max_,hx,hy,hz,lh,cU,Builtin.max2,ag,bJ]
  try omega
 ·rfl
def iq (x y : Int) : Int:=max (max (max (max 0 x) (-x)) y) (-y)
theorem vT (x y : Int) (hx : -4611686018427387904≤x∧x≤4611686018427387904) (hy : -4611686018427387904≤y∧y≤4611686018427387904) : ab Tryz.prog 339 [.pv (.sl [Z x,Z y])] [] [] (.pv (Z (iq x y))):=by
 have w1 : IntKind.i64.wrap (-x)=-x:=aa (by omega) (by omega)
 have w2 : IntKind.i64.wrap (-y)=-y:=aa (by omega) (by omega)
 have w3 : IntKind.i64.wrap (0 - x)=-x:=(aa (n:=0 - x) (by omega) (by omega)).trans (by omega)
 have w4 : IntKind.i64.wrap (0 - y)=-y:=(aa (n:=0 - y) (by omega) (by omega)).trans (by omega)
 have f0 : ∀ a b c : Int,max a (max b c)=max (max a b) c:=fun _ _ _=>by omega
 have f2 : iq x y=max 0 (max x (max (-x) (max y (-y)))):=by unfold iq;omega
 rw [f2]
 refine Dp Tryz.func339 ?_
 intro C hP hN
 simp only [Tryz.f339] at hN ⊢
 with_reducible repeat' (first|refine Sp.h ?_|((first|refine Ss.h ?_|(refine Sb.h ?_ ?_ ?_<;>(try intro hgd)<;>try exact Xy))<;>simp -implicitDefEqProofs (maxSteps:=2000000) [hP,hN])|refine X2 ?_ ?_|(refine Xd ?_ ?_<;>intro hcd<;>try exact Xx))
 refine WP.loopN [] 2 (fun i st=>st.t 6=.pv (.sl [Z x,Z y])∧st.t 7=.pv (Z 2)∧st.t 8=.pv (Z i)∧st.t 3=.pv (Z (if i=0 then 0 else if i=1 then max 0 (max x (-x)) else max 0 (max x (max (-x) (max y (-y))))))) (by simp) ?_
 rintro i st hi ⟨g6,g7,g8,g3⟩
 have hc : i=0∨i=1∨i=2:=by omega
 rcases hc with rfl|rfl|rfl
 all_goals (simp at g3 g8)
 ·skip
  with_reducible repeat' (first|refine Sp.h ?_|((first|refine Ss.h ?_|(refine Sb.h ?_ ?_ ?_<;>(try intro hgd)<;>try exact Xy))<;>simp -implicitDefEqProofs (maxSteps:=2000000) [hP,hN,g6,g7,g8,g3,w1,w2,w3,w4])|refine X2 ?_ ?_|(refine Xd ?_ ?_<;>intro hcd<;>try exact Xx))
  all_goals (try (first|omega|(simp;omega)))
 ·skip
  with_reducible repeat' (first|refine Sp.h ?_|((first|refine Ss.h ?_|(refine Sb.h ?_ ?_ ?_<;>(try intro hgd)<;>try exact Xy))<;>simp -implicitDefEqProofs (maxSteps:=2000000) [hP,hN,g6,g7,g8,g3,w1,w2,w3,w4])|refine X2 ?_ ?_|(refine Xd ?_ ?_<;>intro hcd<;>try exact Xx))
  all_goals (try (first|omega|(simp;omega)))
 ·skip
  with_reducible repeat' (first|refine Sp.h ?_|((first|refine Ss.h ?_|(refine Sb.h ?_ ?_ ?_<;>(try intro hgd)<;>try exact Xy))<;>simp -implicitDefEqProofs (maxSteps:=2000000) [hP,hN,g6,g7,g8,g3])|refine X2 ?_ ?_|(refine Xd ?_ ?_<;>intro hcd<;>try exact Xx))
set_option maxRecDepth 100000 in
@[simp] theorem AO : bp Tryz.prog 336:=by
 refine ⟨by kernel_rfl,fun args w=>?_⟩
 refine callsD_of_wpS Tryz.func336 rfl fun c₀ cs hu=>?_
 apply wpS_seq
 apply wpS_region
 have hk : ∀ k,k < Tryz.f336.ntmps→k < args.size+(Tryz.f336.ntmps - args.size):=by intro k h;omega
 rw [Tryz.ntmps336] at hk
 have h0:=hk 0 (by decide)
 have h1:=hk 1 (by decide)
 have h2:=hk 2 (by decide)
 have h3:=hk 3 (by decide)
 simp [wpOpsS,go_sem,recoverD,hu,Tryz.ntmps336,Exit.thenS,h0,h1,h2,h3]
 refine wpS_cond (t:=false) (by simp [Act.eval,h0,h1,h2,h3]) ?_
 simp only [Bool.false_eq_true,if_false]
 refine wpS_of_wp (wp_skip ?_)
 cases c₀
 simp_all [bodyPostS,results,Tryz.results336]
set_option maxRecDepth 100000 in
@[simp] theorem AP : bp Tryz.prog 238:=by
 refine ⟨by kernel_rfl,fun args w=>?_⟩
 refine callsD_of_wpS Tryz.func238 rfl fun c₀ cs hu=>?_
 apply wpS_seq
 apply wpS_region
 have hk : ∀ k,k < Tryz.f238.ntmps→k < args.size+(Tryz.f238.ntmps - args.size):=by intro k h;omega
 rw [Tryz.ntmps238] at hk
 have h0:=hk 0 (by decide)
 have h1:=hk 1 (by decide)
 have h2:=hk 2 (by decide)
 simp [wpOpsS,go_sem,recoverD,hu,Tryz.ntmps238,Exit.thenS,h0,h1,h2]
 refine wpS_cond (t:=false) (by simp [Act.eval,h0,h1,h2]) ?_
 simp only [Bool.false_eq_true,if_false]
 refine wpS_of_wp (wp_skip ?_)
 cases c₀
 simp_all [bodyPostS,results,Tryz.results238]
def bt (u v : Iv) (tot : Int) : Int:=(iq (u.1 - v.2) (u.2 - v.1)+tot - 1) / tot
def dZ (m : List Int) (reach : Int) : Nat→Int
 |0=>reach * reach
 |k+1=>dZ m reach k - (m[k]?).getD 0 * (m[k]?).getD 0
def bQ (U V : am) (tot : Int) : List Int:=[bt U.1 V.1 tot,bt U.2.1 V.2.1 tot,bt U.2.2 V.2.2 tot]
def kG (m : List Int) (reach : Int) : Int:=if m.all (fun x=>decide (x≤reach)) then dZ m reach 3 else -1
def lA (left right : List Int) (a : List am) (ra : Int) (b : List am) (rb : Int) : Bool:=
 dw a left && dw b right && decide (aS left left.length=aS right right.length) && bj ra 0 1048576 && bj rb 0 1048576
def jJ (left right : List Int) (a : List am) (ra : Int) (b : List am) (rb : Int) : Int:=
 if lA left right a ra b rb then kG (bQ (cz a left left.length) (cz b right right.length) (aS left left.length)) (ra+rb) else 0
theorem rz {a : List am} {w : List Int} (h : dw a w=true) : j2 8 (cz a w w.length):=by
 simp only [dw,az,Bool.and_eq_true,decide_eq_true_eq,List.all_eq_true] at h
 obtain ⟨⟨⟨⟨⟨h1,h2⟩,h3⟩,h4⟩,h5⟩,h6⟩:=h
 obtain ⟨⟨⟨a1,a2⟩,a3,a4⟩,⟨⟨b1,b2⟩,b3,b4⟩,⟨c1,c2⟩,c3,c4⟩:=r5 h3 h5 w.length
 refine ⟨⟨⟨?_,?_⟩,?_,?_⟩,⟨⟨?_,?_⟩,?_,?_⟩,⟨?_,?_⟩,?_,?_⟩<;>omega
theorem vU {a : List am} {w : List Int} (h : dw a w=true) : 1≤aS w w.length∧aS w w.length≤65536:=by
 simp only [dw,Bool.and_eq_true,Bool.not_eq_true',Bool.or_eq_false_iff,decide_eq_false_iff_not] at h
 omega
theorem n6 {x y : Int} {m : Int} (hx : -m≤x∧x≤m) (hy : -m≤y∧y≤m) : 0≤iq x y∧iq x y≤m:=by
 unfold iq;omega
theorem pR {h t : Int} (h0 : 0≤h) (h1 : h≤4503599627370496) (t1 : 1≤t) (t2 : t≤65536) : 0≤(h+t - 1) / t∧(h+t - 1) / t≤4503599627370496:=by
 refine ⟨Int.ediv_nonneg (by omega) (by omega),?_⟩
 have : (h+t - 1) / t < 4503599627370496+1:=Int.ediv_lt_of_lt_mul (by omega) (by
  have h2 : (4503599627370496+1) * 1≤(4503599627370496+1) * t:=by omega
  omega)
 omega
theorem kW {x m : Int} (h0 : 0≤x) (h1 : x≤m) : 0≤x * x∧x * x≤m * m:=⟨Int.mul_nonneg h0 h0,Int.mul_le_mul h1 h1 h0 (by omega)⟩
set_option maxRecDepth 4000 in
theorem AQ (left right : List Int) (a : List am) (ra : Int) (b : List am) (rb : Int) (h1 : left.length≤9223372036854775807) (h2 : right.length≤9223372036854775807) (h3 : a.length≤9223372036854775807) (h4 : b.length≤9223372036854775807) : ab Tryz.prog 239 [.pv (zs left),.pv (zs right),.pv (aY a),.pv (Z ra),.pv (aY b),.pv (Z rb)] [] [] (.pv (.tup [Z (jJ left right a ra b rb),B (lA left right a ra b rb)])):=by
 have ca:=zk a left h3 h1
 have cb:=zk b right h4 h2
 have cra:=y8 ra
 have crb:=y8 rb
 have z6 : bD bf=V6 0 0 0 0 0 0:=rfl
 have hE : lA left right a ra b rb=(dw a left && dw b right && decide (aS left left.length=aS right right.length) && bj ra 0 1048576 && bj rb 0 1048576):=rfl
 have hX : jJ left right a ra b rb=if lA left right a ra b rb then kG (bQ (cz a left left.length) (cz b right right.length) (aS left left.length)) (ra+rb) else 0:=rfl
 cases hA : dw a left with
 |false=>
  rw [hA] at hE;simp only [Bool.false_and] at hE
  rw [hE] at hX;simp only [Bool.false_eq_true,if_false] at hX
  rw [hE,hX]
  simp only [er,hA,Bool.false_eq_true,if_false,z6] at ca
  cases hB : dw b right
  all_goals (simp only [er,hB,Bool.false_eq_true,if_false,if_true,z6] at cb)
  ·skip
   refine Dp Tryz.func239 ?_
   intro C hP hN
   simp only [Tryz.f239] at hN ⊢
   with_reducible repeat' (first|refine Sp.h ?_|((first|refine Wd ?_|refine Ss.h ?_|refine Sc.h (ca) ?_|refine Sc.h (cb) ?_|(refine Sb.h ?_ ?_ ?_<;>(try intro hgd)<;>try exact Xy))<;>simp -implicitDefEqProofs (maxSteps:=2000000) [hP,hN]<;>try refine Ya ?_)|refine X2 ?_ ?_|(refine Xd ?_ ?_<;>intro hcd<;>try exact Xx))
  ·skip
   generalize cz b right right.length=V at *
   generalize aS right right.length=T2 at *
   refine Dp Tryz.func239 ?_
   intro C hP hN
   simp only [Tryz.f239] at hN ⊢
   with_reducible repeat' (first|refine Sp.h ?_|((first|refine Wd ?_|refine Ss.h ?_|refine Sc.h (ca) ?_|refine Sc.h (cb) ?_|(refine Sb.h ?_ ?_ ?_<;>(try intro hgd)<;>try exact Xy))<;>simp -implicitDefEqProofs (maxSteps:=2000000) [hP,hN]<;>try refine Ya ?_)|refine X2 ?_ ?_|(refine Xd ?_ ?_<;>intro hcd<;>try exact Xx))
 |true=>
 simp only [er,hA,if_true] at ca
 generalize hU : cz a left left.length=U at *
 generalize hT : aS left left.length=T at *
 cases hB : dw b right with
 |false=>
  rw [hA,hB] at hE;simp only [Bool.false_and,Bool.and_false] at hE
  rw [hE] at hX;simp only [Bool.false_eq_true,if_false] at hX
  rw [hE,hX]
  simp only [er,hB,Bool.false_eq_true,if_false,z6] at cb
  refine Dp Tryz.func239 ?_
  intro C hP hN
  simp only [Tryz.f239] at hN ⊢
  with_reducible repeat' (first|refine Sp.h ?_|((first|refine Wd ?_|refine Ss.h ?_|refine Sc.h (ca) ?_|refine Sc.h (cb) ?_|(refine Sb.h ?_ ?_ ?_<;>(try intro hgd)<;>try exact Xy))<;>simp -implicitDefEqProofs (maxSteps:=2000000) [hP,hN]<;>try refine Ya ?_)|refine X2 ?_ ?_|(refine Xd ?_ ?_<;>intro hcd<;>try exact Xx))
 |true=>
 simp only [er,hB,if_true] at cb
 rw [hA,hB] at hE;simp only [Bool.true_and] at hE
 generalize hV : cz b right right.length=V at *
 generalize hT2 : aS right right.length=T2 at *
 by_cases hTe : T=T2
 case neg=>
  have e1 : (T !=T2)=true:=by simp [hTe]
  simp only [hTe,decide_false,Bool.false_and] at hE
  rw [hE] at hX;simp only [Bool.false_eq_true,if_false] at hX
  rw [hE,hX]
  refine Dp Tryz.func239 ?_
  intro C hP hN
  simp only [Tryz.f239] at hN ⊢
  with_reducible repeat' (first|refine Sp.h ?_|((first|refine Wd ?_|refine Ss.h ?_|refine Sc.h (ca) ?_|refine Sc.h (cb) ?_|(refine Sb.h ?_ ?_ ?_<;>(try intro hgd)<;>try exact Xy))<;>simp -implicitDefEqProofs (maxSteps:=2000000) [hP,hN,e1,hTe]<;>try refine Ya ?_)|refine X2 ?_ ?_|(refine Xd ?_ ?_<;>intro hcd<;>try exact Xx))
 have e0 : (T !=T2)=false:=by simp [hTe]
 simp only [hTe,decide_true,Bool.true_and] at hE
 cases hra : bj ra 0 1048576 with
 |false=>
  rw [hra] at cra hE
  simp only [Bool.false_and] at hE
  rw [hE] at hX;simp only [Bool.false_eq_true,if_false] at hX
  rw [hE,hX]
  refine Dp Tryz.func239 ?_
  intro C hP hN
  simp only [Tryz.f239] at hN ⊢
  with_reducible repeat' (first|refine Sp.h ?_|((first|refine Wd ?_|refine Ss.h ?_|refine Sc.h (ca) ?_|refine Sc.h (cb) ?_|refine Sc.h (cra) ?_|refine Sc.h (crb) ?_|(refine Sb.h ?_ ?_ ?_<;>(try intro hgd)<;>try exact Xy))<;>simp -implicitDefEqProofs (maxSteps:=2000000) [hP,hN,e0,hTe]<;>try refine Ya ?_)|refine X2 ?_ ?_|(refine Xd ?_ ?_<;>intro hcd<;>try exact Xx))
 |true=>
 cases hrb : bj rb 0 1048576 with
 |false=>
  rw [hra] at cra hE
  rw [hrb] at crb hE
  simp only [Bool.and_false] at hE
  rw [hE] at hX;simp only [Bool.false_eq_true,if_false] at hX
  rw [hE,hX]
  refine Dp Tryz.func239 ?_
  intro C hP hN
  simp only [Tryz.f239] at hN ⊢
  with_reducible repeat' (first|refine Sp.h ?_|((first|refine Wd ?_|refine Ss.h ?_|refine Sc.h (ca) ?_|refine Sc.h (cb) ?_|refine Sc.h (cra) ?_|refine Sc.h (crb) ?_|(refine Sb.h ?_ ?_ ?_<;>(try intro hgd)<;>try exact Xy))<;>simp -implicitDefEqProofs (maxSteps:=2000000) [hP,hN,e0,hTe]<;>try refine Ya ?_)|refine X2 ?_ ?_|(refine Xd ?_ ?_<;>intro hcd<;>try exact Xx))
 |true=>
 rw [hra] at cra hE
 rw [hrb] at crb hE
 simp only [Bool.and_self] at hE
 rw [hE] at hX;simp only [if_true] at hX
 rw [hE]
 have hUr : j2 8 U:=by rw [← hU];exact rz hA
 have hVr : j2 8 V:=by rw [← hV];exact rz hB
 have hTr:=vU hA
 rw [hT] at hTr
 subst hTe
 clear hT hT2
 simp only [bj,Bool.and_eq_true,decide_eq_true_eq] at hra hrb
 generalize hre : ra+rb=re at *
 have hwr : IntKind.i64.wrap re=re:=aa (by omega) (by omega)
 have hrr:=kW (x:=re) (m:=2097152) (by omega) (by omega)
 have hwq : IntKind.i64.wrap (re * re)=re * re:=aa (by omega) (by omega)
 rw [hX]
 refine Dp Tryz.func239 ?_
 intro C hP hN
 simp only [Tryz.f239] at hN ⊢
 with_reducible repeat' (first|refine Sp.h ?_|((first|refine Wd ?_|refine Ss.h ?_|refine Sc.h (ca) ?_|refine Sc.h (cb) ?_|refine Sc.h (cra) ?_|refine Sc.h (crb) ?_|(refine Sb.h ?_ ?_ ?_<;>(try intro hgd)<;>try exact Xy))<;>simp -implicitDefEqProofs (maxSteps:=2000000) [hP,hN,e0,hre,hwr,hwq]<;>try refine Ya ?_)|refine X2 ?_ ?_|(refine Xd ?_ ?_<;>intro hcd<;>try exact Xx))
 refine WP.loopN [] 3 (fun k st=>st.t 14=.ptr 14 0∧st.h 14=some (.box (b6 U) true false)∧st.t 17=.ptr 17 0∧st.h 17=some (.box (b6 V) true false)∧st.t 18=.pv (Z T)∧st.t 15=.pv (Z T)∧st.t 20=.pv (Z re)∧st.t 12=.ptr 12 0∧st.h 12=some (.box [.pv (Z (dZ (bQ U V T) re k))] true false)∧st.t 13=.ptr 13 0∧st.h 13=some (.box [.pv (B false)] true false)∧st.t 66=.pv (Z k)∧(-(k * 4398046511104 : Int)≤dZ (bQ U V T) re k∧dZ (bQ U V T) re k≤4398046511104)∧∀ j < k,∀ x,(bQ U V T)[j]?=some x→0≤x∧x≤re) ?_ ?_
 ·simp [dZ]
  omega
 rintro k st hk ⟨g14,hb14,g17,hb17,g18,g15,g20,g12,hb12,g13,hb13,g66,hEr,hpr⟩
 obtain ⟨⟨⟨a1,a2⟩,a3,a4⟩,⟨⟨b1,b2⟩,b3,b4⟩,⟨c1,c2⟩,c3,c4⟩:=hUr
 obtain ⟨⟨⟨d1,d2⟩,d3,d4⟩,⟨⟨e1,e2⟩,e3,e4⟩,⟨f1,f2⟩,f3,f4⟩:=hVr
 rcases bh hk with rfl|rfl|rfl|rfl
 ·have hlo : -281474976710656≤U.1.1 - V.1.2∧U.1.1 - V.1.2≤281474976710656:=by omega
  have hhi : -281474976710656≤U.1.2 - V.1.1∧U.1.2 - V.1.1≤281474976710656:=by omega
  have cf:=vT (U.1.1 - V.1.2) (U.1.2 - V.1.1) (by omega) (by omega)
  have hfr:=n6 hlo hhi
  have hga:=pR hfr.1 (by omega) hTr.1 hTr.2
  have hgd : bt U.1 V.1 T=(iq (U.1.1 - V.1.2) (U.1.2 - V.1.1)+T - 1) / T:=rfl
  have w1 : IntKind.i64.wrap (U.1.1 - V.1.2)=U.1.1 - V.1.2:=aa (by omega) (by omega)
  have w2 : IntKind.i64.wrap (U.1.2 - V.1.1)=U.1.2 - V.1.1:=aa (by omega) (by omega)
  generalize iq (U.1.1 - V.1.2) (U.1.2 - V.1.1)=f at *
  have w3 : IntKind.i64.wrap (f+T)=f+T:=aa (by omega) (by omega)
  have w4 : IntKind.i64.wrap (f+T - 1)=f+T - 1:=aa (by omega) (by omega)
  have w5 : (f+T - 1).tdiv T=(f+T - 1) / T:=Int.tdiv_eq_ediv_of_nonneg (by omega)
  have w6 : IntKind.i64.wrap ((f+T - 1) / T)=(f+T - 1) / T:=aa (by omega) (by omega)
  have w7 : ¬ T=0:=by omega
  have w8 : (T==0)=false:=by simp;omega
  by_cases hm : re < bt U.1 V.1 T
  ·have hno : kG (bQ U V T) re=-1:=by
    have hm' : ¬ bt U.1 V.1 T≤re:=by omega
    unfold kG bQ;simp [hm']
   rw [hno]
   rw [hgd] at hm
   with_reducible repeat' (first|refine Sp.h ?_|((first|refine Wd ?_|refine Ss.h ?_|refine Sc.h (cf) ?_|(refine Sb.h ?_ ?_ ?_<;>(try intro hgd)<;>try exact Xy))<;>simp -implicitDefEqProofs (maxSteps:=2000000) [hP,hN,g14,hb14,g17,hb17,g18,g15,g20,g12,hb12,g13,hb13,g66,w1,w2,w3,w4,w5,w6,w7,w8,hm]<;>try refine Ya ?_)|refine X2 ?_ ?_|(refine Xd ?_ ?_<;>intro hcd<;>try exact Xx))
  ·have hsq:=kW (x:=bt U.1 V.1 T) (m:=re) (by omega) (by omega)
   have hEs : dZ (bQ U V T) re (0+1)=dZ (bQ U V T) re 0 - bt U.1 V.1 T * bt U.1 V.1 T:=by simp [dZ,bQ]
   have hpr' : ∀ j < 0+1,∀ x,(bQ U V T)[j]?=some x→0≤x∧x≤re:=fun j hj x hx=>by
    by_cases hk' : j < 0
    ·exact hpr j hk' x hx
    ·have : j=0:=by omega
     subst this
     have : x=bt U.1 V.1 T:=by simpa [bQ] using hx.symm
     omega
   generalize dZ (bQ U V T) re (0+1)=E' at *
   generalize dZ (bQ U V T) re 0=E at *
   subst hEs
   rw [hgd] at hm hsq
   have w9 : IntKind.i64.wrap ((f+T - 1) / T * ((f+T - 1) / T))=(f+T - 1) / T * ((f+T - 1) / T):=aa (by omega) (by omega)
   have w10 : IntKind.i64.wrap (E - (f+T - 1) / T * ((f+T - 1) / T))=E - bt U.1 V.1 T * bt U.1 V.1 T:=(aa (by omega) (by omega)).trans (by rw [hgd])
   rw [← hgd] at hsq
   have hq1 : -(0+1 : Nat) * 4398046511104≤E - bt U.1 V.1 T * bt U.1 V.1 T∧E - bt U.1 V.1 T * bt U.1 V.1 T≤4398046511104:=by omega
   with_reducible repeat' (first|refine Sp.h ?_|((first|refine Wd ?_|refine Ss.h ?_|refine Sc.h (cf) ?_|(refine Sb.h ?_ ?_ ?_<;>(try intro hgd)<;>try exact Xy))<;>simp -implicitDefEqProofs (maxSteps:=2000000) [hP,hN,g14,hb14,g17,hb17,g18,g15,g20,g12,hb12,g13,hb13,g66,w1,w2,w3,w4,w5,w6,w7,w8,w9,w10,hm]<;>try refine Ya ?_)|refine X2 ?_ ?_|(refine Xd ?_ ?_<;>intro hcd<;>try exact Xx))
   all_goals first|exact ⟨hq1,hpr'⟩|exact ⟨hq1.1,hq1.2,hpr'⟩|exact ⟨by omega,fun x hx=>hpr' 0 (by omega) x hx⟩
 ·have hlo : -281474976710656≤U.2.1.1 - V.2.1.2∧U.2.1.1 - V.2.1.2≤281474976710656:=by omega
  have hhi : -281474976710656≤U.2.1.2 - V.2.1.1∧U.2.1.2 - V.2.1.1≤281474976710656:=by omega
  have cf:=vT (U.2.1.1 - V.2.1.2) (U.2.1.2 - V.2.1.1) (by omega) (by omega)
  have hfr:=n6 hlo hhi
  have hga:=pR hfr.1 (by omega) hTr.1 hTr.2
  have hgd : bt U.2.1 V.2.1 T=(iq (U.2.1.1 - V.2.1.2) (U.2.1.2 - V.2.1.1)+T - 1) / T:=rfl
  have w1 : IntKind.i64.wrap (U.2.1.1 - V.2.1.2)=U.2.1.1 - V.2.1.2:=aa (by omega) (by omega)
  have w2 : IntKind.i64.wrap (U.2.1.2 - V.2.1.1)=U.2.1.2 - V.2.1.1:=aa (by omega) (by omega)
  generalize iq (U.2.1.1 - V.2.1.2) (U.2.1.2 - V.2.1.1)=f at *
  have w3 : IntKind.i64.wrap (f+T)=f+T:=aa (by omega) (by omega)
  have w4 : IntKind.i64.wrap (f+T - 1)=f+T - 1:=aa (by omega) (by omega)
  have w5 : (f+T - 1).tdiv T=(f+T - 1) / T:=Int.tdiv_eq_ediv_of_nonneg (by omega)
  have w6 : IntKind.i64.wrap ((f+T - 1) / T)=(f+T - 1) / T:=aa (by omega) (by omega)
  have w7 : ¬ T=0:=by omega
  have w8 : (T==0)=false:=by simp;omega
  by_cases hm : re < bt U.2.1 V.2.1 T
  ·have hno : kG (bQ U V T) re=-1:=by
    have hm' : ¬ bt U.2.1 V.2.1 T≤re:=by omega
    unfold kG bQ;simp [hm']
   rw [hno]
   rw [hgd] at hm
   with_reducible repeat' (first|refine Sp.h ?_|((first|refine Wd ?_|refine Ss.h ?_|refine Sc.h (cf) ?_|(refine Sb.h ?_ ?_ ?_<;>(try intro hgd)<;>try exact Xy))<;>simp -implicitDefEqProofs (maxSteps:=2000000) [hP,hN,g14,hb14,g17,hb17,g18,g15,g20,g12,hb12,g13,hb13,g66,w1,w2,w3,w4,w5,w6,w7,w8,hm]<;>try refine Ya ?_)|refine X2 ?_ ?_|(refine Xd ?_ ?_<;>intro hcd<;>try exact Xx))
  ·have hsq:=kW (x:=bt U.2.1 V.2.1 T) (m:=re) (by omega) (by omega)
   have hEs : dZ (bQ U V T) re (1+1)=dZ (bQ U V T) re 1 - bt U.2.1 V.2.1 T * bt U.2.1 V.2.1 T:=by simp [dZ,bQ]
   have hpr' : ∀ j < 1+1,∀ x,(bQ U V T)[j]?=some x→0≤x∧x≤re:=fun j hj x hx=>by
    by_cases hk' : j < 1
    ·exact hpr j hk' x hx
    ·have : j=1:=by omega
     subst this
     have : x=bt U.2.1 V.2.1 T:=by simpa [bQ] using hx.symm
     omega
   generalize dZ (bQ U V T) re (1+1)=E' at *
   generalize dZ (bQ U V T) re 1=E at *
   subst hEs
   rw [hgd] at hm hsq
   have w9 : IntKind.i64.wrap ((f+T - 1) / T * ((f+T - 1) / T))=(f+T - 1) / T * ((f+T - 1) / T):=aa (by omega) (by omega)
   have w10 : IntKind.i64.wrap (E - (f+T - 1) / T * ((f+T - 1) / T))=E - bt U.2.1 V.2.1 T * bt U.2.1 V.2.1 T:=(aa (by omega) (by omega)).trans (by rw [hgd])
   rw [← hgd] at hsq
   have hq1 : -(1+1 : Nat) * 4398046511104≤E - bt U.2.1 V.2.1 T * bt U.2.1 V.2.1 T∧E - bt U.2.1 V.2.1 T * bt U.2.1 V.2.1 T≤4398046511104:=by omega
   with_reducible repeat' (first|refine Sp.h ?_|((first|refine Wd ?_|refine Ss.h ?_|refine Sc.h (cf) ?_|(refine Sb.h ?_ ?_ ?_<;>(try intro hgd)<;>try exact Xy))<;>simp -implicitDefEqProofs (maxSteps:=2000000) [hP,hN,g14,hb14,g17,hb17,g18,g15,g20,g12,hb12,g13,hb13,g66,w1,w2,w3,w4,w5,w6,w7,w8,w9,w10,hm]<;>try refine Ya ?_)|refine X2 ?_ ?_|(refine Xd ?_ ?_<;>intro hcd<;>try exact Xx))
   all_goals first|exact ⟨hq1,hpr'⟩|exact ⟨hq1.1,hq1.2,hpr'⟩|exact ⟨by omega,fun x hx=>hpr' 0 (by omega) x hx⟩
 ·have hlo : -281474976710656≤U.2.2.1 - V.2.2.2∧U.2.2.1 - V.2.2.2≤281474976710656:=by omega
  have hhi : -281474976710656≤U.2.2.2 - V.2.2.1∧U.2.2.2 - V.2.2.1≤281474976710656:=by omega
  have cf:=vT (U.2.2.1 - V.2.2.2) (U.2.2.2 - V.2.2.1) (by omega) (by omega)
  have hfr:=n6 hlo hhi
  have hga:=pR hfr.1 (by omega) hTr.1 hTr.2
  have hgd : bt U.2.2 V.2.2 T=(iq (U.2.2.1 - V.2.2.2) (U.2.2.2 - V.2.2.1)+T - 1) / T:=rfl
  have w1 : IntKind.i64.wrap (U.2.2.1 - V.2.2.2)=U.2.2.1 - V.2.2.2:=aa (by omega) (by omega)
  have w2 : IntKind.i64.wrap (U.2.2.2 - V.2.2.1)=U.2.2.2 - V.2.2.1:=aa (by omega) (by omega)
  generalize iq (U.2.2.1 - V.2.2.2) (U.2.2.2 - V.2.2.1)=f at *
  have w3 : IntKind.i64.wrap (f+T)=f+T:=aa (by omega) (by omega)
  have w4 : IntKind.i64.wrap (f+T - 1)=f+T - 1:=aa (by omega) (by omega)
  have w5 : (f+T - 1).tdiv T=(f+T - 1) / T:=Int.tdiv_eq_ediv_of_nonneg (by omega)
  have w6 : IntKind.i64.wrap ((f+T - 1) / T)=(f+T - 1) / T:=aa (by omega) (by omega)
  have w7 : ¬ T=0:=by omega
  have w8 : (T==0)=false:=by simp;omega
  by_cases hm : re < bt U.2.2 V.2.2 T
  ·have hno : kG (bQ U V T) re=-1:=by
    have hm' : ¬ bt U.2.2 V.2.2 T≤re:=by omega
    unfold kG bQ;simp [hm']
   rw [hno]
   rw [hgd] at hm
   with_reducible repeat' (first|refine Sp.h ?_|((first|refine Wd ?_|refine Ss.h ?_|refine Sc.h (cf) ?_|(refine Sb.h ?_ ?_ ?_<;>(try intro hgd)<;>try exact Xy))<;>simp -implicitDefEqProofs (maxSteps:=2000000) [hP,hN,g14,hb14,g17,hb17,g18,g15,g20,g12,hb12,g13,hb13,g66,w1,w2,w3,w4,w5,w6,w7,w8,hm]<;>try refine Ya ?_)|refine X2 ?_ ?_|(refine Xd ?_ ?_<;>intro hcd<;>try exact Xx))
  ·have hsq:=kW (x:=bt U.2.2 V.2.2 T) (m:=re) (by omega) (by omega)
   have hEs : dZ (bQ U V T) re (2+1)=dZ (bQ U V T) re 2 - bt U.2.2 V.2.2 T * bt U.2.2 V.2.2 T:=by simp [dZ,bQ]
   have hpr' : ∀ j < 2+1,∀ x,(bQ U V T)[j]?=some x→0≤x∧x≤re:=fun j hj x hx=>by
    by_cases hk' : j < 2
    ·exact hpr j hk' x hx
    ·have : j=2:=by omega
     subst this
     have : x=bt U.2.2 V.2.2 T:=by simpa [bQ] using hx.symm
     omega
   generalize dZ (bQ U V T) re (2+1)=E' at *
   generalize dZ (bQ U V T) re 2=E at *
   subst hEs
   rw [hgd] at hm hsq
   have w9 : IntKind.i64.wrap ((f+T - 1) / T * ((f+T - 1) / T))=(f+T - 1) / T * ((f+T - 1) / T):=aa (by omega) (by omega)
   have w10 : IntKind.i64.wrap (E - (f+T - 1) / T * ((f+T - 1) / T))=E - bt U.2.2 V.2.2 T * bt U.2.2 V.2.2 T:=(aa (by omega) (by omega)).trans (by rw [hgd])
   rw [← hgd] at hsq
   have hq1 : -(2+1 : Nat) * 4398046511104≤E - bt U.2.2 V.2.2 T * bt U.2.2 V.2.2 T∧E - bt U.2.2 V.2.2 T * bt U.2.2 V.2.2 T≤4398046511104:=by omega
   with_reducible repeat' (first|refine Sp.h ?_|((first|refine Wd ?_|refine Ss.h ?_|refine Sc.h (cf) ?_|(refine Sb.h ?_ ?_ ?_<;>(try intro hgd)<;>try exact Xy))<;>simp -implicitDefEqProofs (maxSteps:=2000000) [hP,hN,g14,hb14,g17,hb17,g18,g15,g20,g12,hb12,g13,hb13,g66,w1,w2,w3,w4,w5,w6,w7,w8,w9,w10,hm]<;>try refine Ya ?_)|refine X2 ?_ ?_|(refine Xd ?_ ?_<;>intro hcd<;>try exact Xx))
   all_goals first|exact ⟨hq1,hpr'⟩|exact ⟨hq1.1,hq1.2,hpr'⟩|exact ⟨by omega,fun x hx=>hpr' 0 (by omega) x hx⟩
 ·have hyes : kG (bQ U V T) re=dZ (bQ U V T) re 3:=by
   have : (bQ U V T).all (fun x=>decide (x≤re))=true:=by
    rw [List.all_eq_true]
    intro x hx
    obtain ⟨j,hj,hx⟩:=List.mem_iff_getElem.1 hx
    have hj3 : j < 3:=by simpa [bQ] using hj
    have:=hpr j hj3 x (by rw [List.getElem?_eq_getElem hj,hx])
    simp;omega
   unfold kG;rw [this];rfl
  rw [hyes]
  with_reducible repeat' (first|refine Sp.h ?_|((first|refine Wd ?_|refine Ss.h ?_|(refine Sb.h ?_ ?_ ?_<;>(try intro hgd)<;>try exact Xy))<;>simp -implicitDefEqProofs (maxSteps:=2000000) [hP,hN,g14,hb14,g17,hb17,g18,g15,g20,g12,hb12,g13,hb13,g66]<;>try refine Ya ?_)|refine X2 ?_ ?_|(refine Xd ?_ ?_<;>intro hcd<;>try exact Xx))
theorem yI (left right : List Int) (a : List am) (ra : Int) (b : List am) (rb : Int) (h1 : left.length≤9223372036854775807) (h2 : right.length≤9223372036854775807) (h3 : a.length≤9223372036854775807) (h4 : b.length≤9223372036854775807) : ab Tryz.prog 124 [.pv (zs left),.pv (zs right),.pv (aY a),.pv (Z ra),.pv (aY b),.pv (Z rb)] [] [] (.pv (B (lA left right a ra b rb && decide (0≤jJ left right a ra b rb)))):=by
 have ce:=AQ left right a ra b rb h1 h2 h3 h4
 generalize lA left right a ra b rb=k at *
 generalize jJ left right a ra b rb=e at *
 cases k
 all_goals (by_cases h : 0≤e)
 ·skip
  refine Dp Tryz.func124 ?_
  intro C hP hN
  simp only [Tryz.f124] at hN ⊢
  with_reducible repeat' (first|refine Sp.h ?_|((first|refine Ss.h ?_|refine Sc.h (ce) ?_|(refine Sb.h ?_ ?_ ?_<;>(try intro hgd)<;>try exact Xy))<;>simp -implicitDefEqProofs (maxSteps:=2000000) [hP,hN,h])|refine X2 ?_ ?_|(refine Xd ?_ ?_<;>intro hcd<;>try exact Xx))
 ·skip
  refine Dp Tryz.func124 ?_
  intro C hP hN
  simp only [Tryz.f124] at hN ⊢
  with_reducible repeat' (first|refine Sp.h ?_|((first|refine Ss.h ?_|refine Sc.h (ce) ?_|(refine Sb.h ?_ ?_ ?_<;>(try intro hgd)<;>try exact Xy))<;>simp -implicitDefEqProofs (maxSteps:=2000000) [hP,hN,h])|refine X2 ?_ ?_|(refine Xd ?_ ?_<;>intro hcd<;>try exact Xx))
 ·skip
  refine Dp Tryz.func124 ?_
  intro C hP hN
  simp only [Tryz.f124] at hN ⊢
  with_reducible repeat' (first|refine Sp.h ?_|((first|refine Ss.h ?_|refine Sc.h (ce) ?_|(refine Sb.h ?_ ?_ ?_<;>(try intro hgd)<;>try exact Xy))<;>simp -implicitDefEqProofs (maxSteps:=2000000) [hP,hN,h])|refine X2 ?_ ?_|(refine Xd ?_ ?_<;>intro hcd<;>try exact Xx))
 ·skip
  refine Dp Tryz.func124 ?_
  intro C hP hN
  simp only [Tryz.f124] at hN ⊢
  with_reducible repeat' (first|refine Sp.h ?_|((first|refine Ss.h ?_|refine Sc.h (ce) ?_|(refine Sb.h ?_ ?_ ?_<;>(try intro hgd)<;>try exact Xy))<;>simp -implicitDefEqProofs (maxSteps:=2000000) [hP,hN,h])|refine X2 ?_ ?_|(refine Xd ?_ ?_<;>intro hcd<;>try exact Xx))
end Go.Ab
namespace Go.Ab
theorem i6 {C : Cx} {hn : List Nat} {ops : Array Oper} {Q : St→Prop} {Q' : Exit→Act→World→Prop} {rest : List Oper} (hQ : ∀ st a w,dY C st a w→Q st→wpList C.P ops Q' rest a w) :
 ∀ {l : List Oper} {st : St} {a : Act} {w : World},dY C st a w→cJ C.P hn C.N ops Q l st→wpList C.P ops Q' (l++rest) a w
 |[],st,a,w,hs,e=>hQ st a w hs e
 |o :: l,st,a,w,hs,e=>by
  obtain ⟨L,hm,hN,hdf,ht⟩:=hs
  rw [cJ.eq_2] at e
  obtain ⟨hd,e⟩:=e
  rw [List.cons_append]
  refine wpList_step (fun K hK=>?_)
  split at e
  ·rename_i hg
   rw [bK ht (iA hg),if_pos rfl]
   exact mX hm hN hdf ht hd e (fun eff a' w' hk hsim=>hK _ _ (i6 hQ hsim hk))
  ·rename_i d b want hg
   rw [bK ht (fZ hg)]
   unfold nr at e
   simp only at e
   split at e
   ·rename_i hgt
    subst hgt
    rw [if_pos (by simp)]
    exact mX hm hN hdf ht hd e (fun eff a' w' hk hsim=>hK _ _ (i6 hQ hsim hk))
   ·rename_i hgt
    rw [if_neg (by simpa using hgt)]
    exact hK _ _ (i6 hQ (dY.put hm hN hdf ht hd (W:=[]) (ax.refl hm) (.pv (.val _))) e)
  ·exact e.elim
def rekey (h : Hp) (ks : List Nat) (k : Nat) (blk : Blk) : Hp:=fun q=>if q=k then some blk else if ks.contains q=true then none else (h q).map (eW ks)
def St.rekey (st : St) (ks : List Nat) (k : Nat) (blk : Blk) : St:=⟨fun n=>eI ks (st.t n),Go.Ab.rekey st.h ks k blk⟩
section
variable {C : Cx} {L : Nat→Loc} {h : Hp} {w : World}
end
section
variable {C : Cx} {Q : Exit→St→Prop} {st : St}
theorem sd {ops : Array Oper} {a : Act} {o : Oper} (hg : o.guard=none) : Region.wanted o (yielded ops a.tmps)=true:=by
 unfold Region.wanted;rw [hg]
end
attribute [simp] St.rekey rekey
def xY (e1 sz1 : Nat) (xs' : List PV) : Exit→St→Prop
 |.normal,st=>st.h 2000000=some (.row e1 sz1 xs' 0)
 |.ret,st=>st.h 2000000=some (.row e1 sz1 xs' 0)
 |_,_=>False
@[simp] theorem zl {e1 sz1 : Nat} {xs' : List PV} {st : St} : xY e1 sz1 xs' .normal st=(st.h 2000000=some (.row e1 sz1 xs' 0)):=rfl
@[simp] theorem Aa {e1 sz1 : Nat} {xs' : List PV} {st : St} : xY e1 sz1 xs' .ret st=(st.h 2000000=some (.row e1 sz1 xs' 0)):=rfl
end Go.Ab
namespace Go.Ab
def eV (ren : Nat→Nat) : AV→AV
 |.ptr k off=>.ptr (ren k) off
 |.arr k n=>.arr (ren k) n
 |x=>x
def pA (ren : Nat→Nat) : AV→AV
 |.agg cs=>.agg (cs.map (eV ren))
 |x=>eV ren x
def gl (K : List Nat) : AV→Bool
 |.pv _=>true
 |.ptr k _=>K.contains k
 |.arr k _=>K.contains k
 |_=>false
def sC (K : List Nat) : AV→Bool
 |.agg cs=>cs.all (gl K)
 |x=>gl K x
def aL : List (Nat × Blk)→Hp
 |[]=>fun _=>none
 |(k,b) :: r=>fun q=>if q=k then some b else aL r q
def dx (ren : Nat→Nat) (own : Bool) : Blk→Blk
 |.box cs _ _=>.box (cs.map (eV ren)) own false
 |b=>b
def ew (K : List Nat) (k : Nat) : Blk→Bool
 |.box cs own fz=>cs.all (gl K) && !own && !fz && decide (1000000≤k) && decide (k < 2000000)
 |.row _ _ _ fz=>decide (fz=0) && decide (2000000≤k)
def lc : Blk→Blk→Bool
 |.box _ _ _,.box _ _ _=>true
 |.row e sz xs _,.row e' sz' xs' _=>e==e' && sz==sz' && xs.length==xs'.length
 |_,_=>false
theorem bY {G : List (Nat × Blk)} {k : Nat} {b : Blk} (h : aL G k=some b) : (k,b) ∈ G:=by
 induction G with
 |nil=>cases h
 |cons x r ih=>
  obtain ⟨k',b'⟩:=x
  simp only [aL] at h
  split at h
  ·rename_i e;injection h with h;subst e;subst h;exact List.mem_cons_self
  ·exact List.mem_cons_of_mem _ (ih h)
theorem fc {G : List (Nat × Blk)} (hn : (G.map (·.1)).Nodup) {k : Nat} {b : Blk} (h : (k,b) ∈ G) : aL G k=some b:=by
 induction G with
 |nil=>cases h
 |cons x r ih=>
  obtain ⟨k',b'⟩:=x
  simp only [aL]
  rw [List.map_cons,List.nodup_cons] at hn
  rcases List.mem_cons.1 h with e|e
  ·injection e with e1 e2;subst e1;subst e2;rw [if_pos rfl]
  ·have hne : k≠k':=by
    rintro rfl
    exact hn.1 (List.mem_map.2 ⟨(k,b),e,rfl⟩)
   rw [if_neg hne];exact ih hn.2 e
section
variable {w : World} {M M' : Nat→Nat→Prop} {L L' : Nat→Loc} {h h' : Hp} {ren : Nat→Nat} {K : List Nat}
theorem j3 (hM : ∀ b o,M' b o→M b o) (hk : ∀ k ∈ K,∀ blk,h (ren k)=some blk→∃ blk',h' k=some blk'∧ey blk (L (ren k)) blk' (L' k)) {x : AV} {u : Value} (ho : gl K x=true) (hx : RepA w M L h (eV ren x) u) : RepA w M' L' h' x u:=by
 cases x with
 |pv p=>cases hx with
  |pv hr=>exact .pv (hr.mono (aE.sub hM))
 |ptr k off=>
  cases hx with
  |ptr hb=>
   obtain ⟨blk',h1,h2⟩:=hk k (by simpa [gl] using ho) _ hb
   cases blk' with
   |row=>exact h2.elim
   |box cs own fz=>
    have h2 : (L' k).b=(L (ren k)).b:=h2
    rw [← h2];exact .ptr h1
 |arr k n=>
  cases hx with
  |arr hb hn hu=>
   obtain ⟨blk',h1,h2⟩:=hk k (by simpa [gl] using ho) _ hb
   cases blk' with
   |box=>exact h2.elim
   |row e sz xs fz=>
    obtain ⟨_,_,a2,a3⟩:=h2
    refine .arr h1 (by omega) (fun e=>?_)
    have : xs.length=_:=Nat.le_antisymm (by omega) a2
    rw [a3 this];exact hu (by omega)
 |_=>cases ho
theorem vn (hM : ∀ b o,M' b o→M b o) (hk : ∀ k ∈ K,∀ blk,h (ren k)=some blk→∃ blk',h' k=some blk'∧ey blk (L (ren k)) blk' (L' k)) {x : AV} {u : Value} (ho : sC K x=true) (hx : RepA w M L h (pA ren x) u) : RepA w M' L' h' x u:=by
 cases x with
 |agg cs=>
  cases hx with
  |agg _ vs hl hh=>
   refine .agg cs vs (by simpa using hl) (fun i p u hp hu=>?_)
   exact j3 hM hk (List.all_eq_true.1 ho p (List.mem_of_getElem? hp)) (hh i _ u (by simp [hp]) hu)
 |_=>exact j3 hM hk ho hx
theorem s5 (hM : ∀ b o,M' b o→M b o) (hk : ∀ k ∈ K,∀ blk,h' k=some blk→∃ blk',h (ren k)=some blk'∧ey blk (L' k) blk' (L (ren k))) {x : AV} {u : Value} (ho : gl K x=true) (hx : RepA w M L' h' x u) : RepA w M' L h (eV ren x) u:=by
 cases x with
 |pv p=>cases hx with
  |pv hr=>exact .pv (hr.mono (aE.sub hM))
 |ptr k off=>
  cases hx with
  |ptr hb=>
   obtain ⟨blk',h1,h2⟩:=hk k (by simpa [gl] using ho) _ hb
   cases blk' with
   |row=>exact h2.elim
   |box cs own fz=>
    have h2 : (L (ren k)).b=(L' k).b:=h2
    rw [← h2];exact .ptr h1
 |arr k n=>
  cases hx with
  |arr hb hn hu=>
   obtain ⟨blk',h1,h2⟩:=hk k (by simpa [gl] using ho) _ hb
   cases blk' with
   |box=>exact h2.elim
   |row e sz xs fz=>
    obtain ⟨_,_,a2,a3⟩:=h2
    refine .arr h1 (by omega) (fun e=>?_)
    have : xs.length=_:=Nat.le_antisymm (by omega) a2
    rw [a3 this];exact hu (by omega)
 |_=>cases ho
end
def qC (G : List (Nat × Blk)) (L : Nat→Loc) (b : Nat) : Prop:=∃ k blk,aL G k=some blk∧blk.live (L k)∧b=(L k).b
structure OkG (G G' : List (Nat × Blk)) : Prop where
 keys : G'.map (·.1)=G.map (·.1)
 nodup : (G.map (·.1)).Nodup
 okin : ∀ k b,(k,b) ∈ G→ew (G.map (·.1)) k b=true
 okout : ∀ k b,(k,b) ∈ G'→ew (G.map (·.1)) k b=true
 same : ∀ k b b',aL G k=some b→aL G' k=some b'→lc b b'=true
def s6 (P : Program) (f : FuncId) (args : List AV) (G G' : List (Nat × Blk)) (res : PV) : Prop:=
 bP P f=true∧OkG G G'∧∀ (w : World) (M : Nat→Nat→Prop) (L : Nat→Loc) (vs : List Value),(∀ b o,M b o→b < w.heap.size)→
  (∀ k blk,aL G k=some blk→blk.live (L k)→∀ o,M (L k).b o)→
  (∀ k k' blk blk',k≠k'→aL G k=some blk→aL G k'=some blk'→blk.live (L k)→blk'.live (L k')→(L k).b≠(L k').b)→
  (∀ k blk,aL G k=some blk→cw w M L (aL G) (L k) blk)→au w M L (aL G) args vs→
  Calls P f vs.toArray w fun e w'=>∃ v,e=.returned v∧Ext (qC G L) w w'∧(∀ k blk,aL G' k=some blk→cw w' M L (aL G') (L k) blk)∧Rep w' M res v
def wH (args : List AV) (G : List (Nat × Blk)) : St:=⟨fun n=>(args[n]?).getD .undef,aL G⟩
def qO (P : Program) (rs : List ResultVar) (G' : List (Nat × Blk)) (res : PV) (st : St) : Prop:=
 kP res=true∧(∃ r,mo P st rs=some r∧∃ W,frz st.h r=some (res,W))∧∀ kb ∈ G',st.h kb.1=some kb.2
def vo (P : Program) (rs : List ResultVar) (G' : List (Nat × Blk)) (res : PV) : Exit→St→Prop
 |.normal,st=>qO P rs G' res st
 |.ret,st=>qO P rs G' res st
 |_,_=>False
@[simp] theorem zm {P : Program} {rs : List ResultVar} {G' : List (Nat × Blk)} {res : PV} {st : St} : vo P rs G' res .normal st=qO P rs G' res st:=rfl
@[simp] theorem Ac {P : Program} {rs : List ResultVar} {G' : List (Nat × Blk)} {res : PV} {st : St} : vo P rs G' res .ret st=qO P rs G' res st:=rfl
theorem sD {P : Program} {f : FuncId} {fn : Func} {c : Code} (hf : P.funcs[f]?=some fn) (hb : fn.body=some c) (hcall : bP P f=true) {args : List AV} {G G' : List (Nat × Blk)} {res : PV} (hlen : args.length≤fn.ntmps) (hok : OkG G G')
 (h : ∀ C : Cx,C.P=P→C.N=fn.ntmps→WP C c (vo P fn.results.toList G' res) (wH args G)) : s6 P f args G G' res:=by
 refine ⟨hcall,hok,fun w M L vs hM hlv hsep hbl hvs=>?_⟩
 have okin : ∀ {k blk},aL G k=some blk→ew (G.map (·.1)) k blk=true:=fun hk=>hok.okin _ _ (bY hk)
 have okout : ∀ {k blk},aL G' k=some blk→ew (G.map (·.1)) k blk=true:=fun hk=>hok.okout _ _ (bY hk)
 have hnd' : (G'.map (·.1)).Nodup:=by rw [hok.keys];exact hok.nodup
 have hinout : ∀ {k blk},aL G k=some blk→∃ blk',aL G' k=some blk':=by
  intro k blk hk
  have hm : k ∈ G'.map (·.1):=by rw [hok.keys];exact List.mem_map.2 ⟨_,bY hk,rfl⟩
  obtain ⟨⟨k',b'⟩,h1,h2⟩:=List.mem_map.1 hm
  simp only at h2;subst h2
  exact ⟨b',fc hnd' h1⟩
 have houtin : ∀ {k blk},aL G' k=some blk→∃ blk',aL G k=some blk':=by
  intro k blk hk
  have hm : k ∈ G.map (·.1):=by rw [← hok.keys];exact List.mem_map.2 ⟨_,bY hk,rfl⟩
  obtain ⟨⟨k',b'⟩,h1,h2⟩:=List.mem_map.1 hm
  simp only at h2;subst h2
  exact ⟨b',fc hok.nodup h1⟩
 let rowB : Nat→Prop:=fun b=>∃ k e sz xs fz,aL G k=some (.row e sz xs fz)∧(L k).isNil=false∧b=(L k).b
 let C : Cx:={ P:=P,N:=fn.ntmps,M0:=fun b o=>M b o∧¬ rowB b,S:=qC G L,pb:=fun k=>some (L k).b,pr:=fun k=>if 2000000≤k then some (L k) else none,hpr:=(fun k hk=>by rw [if_neg (by omega)]),w0:=w }
 have hMst : ∀ b o,ah C L (aL G) b o↔M b o:=by
  intro b o
  constructor
  ·rintro (h0|⟨k,blk,hk,hl,hbb,_⟩)
   ·exact h0.1
   ·rw [← hbb];exact hlv k blk hk hl o
  ·intro hm
   by_cases hr : rowB b
   ·obtain ⟨k,e,sz,xs,fz,hk,hn,rfl⟩:=hr
    refine .inr ⟨k,_,hk,hn,rfl,?_⟩
    have:=okin hk
    simp only [ew,Bool.and_eq_true,decide_eq_true_eq] at this
    rw [this.1];simp [Blk.frz]
   ·exact .inl ⟨hm,hr⟩
 have hMeq : ah C L (aL G)=M:=by funext b o;exact propext (hMst b o)
 have hvl:=hvs.1
 have hsim : dY C (wH args G) { tmps:=vs.toArray++Array.replicate (fn.ntmps - vs.toArray.size) undef,defers:=[] } w:=by
  refine ⟨L,⟨Ext.refl _ _,fun b o h0=>hM b o h0.1,?_,hsep,?_⟩,by show (vs.toArray++Array.replicate (fn.ntmps - vs.toArray.size) undef).size=fn.ntmps;simp;omega,fo.nil _,fun n=>?_⟩
  ·intro k blk hk
   show cw w (ah C L (aL G)) L (aL G) (L k) blk
   rw [hMeq];exact hbl k blk hk
  ·intro k blk hk
   have ho:=okin hk
   cases blk with
   |box cs own fz=>
    simp only [ew,Bool.and_eq_true,Bool.not_eq_true',decide_eq_true_eq] at ho
    obtain ⟨⟨⟨⟨_,h1⟩,h2⟩,h3⟩,h4⟩:=ho
    subst h1;subst h2
    refine ⟨rfl,rfl,⟨k,_,hk,trivial,rfl⟩,?_,fun o=>⟨hlv k _ hk trivial o,?_⟩⟩
    ·exact (hbl k _ hk).lt trivial
    ·rintro ⟨k',e,sz,xs,fz,hk',hn',he⟩
     by_cases e' : k=k'
     ·subst e';rw [show aL G k=_ from hk] at hk';cases hk'
     ·exact hsep k k' _ _ e' hk hk' trivial hn' he
   |row e sz xs fz=>
    simp only [ew,Bool.and_eq_true,decide_eq_true_eq] at ho
    show cT C k (L k) _
    have hpr : C.pr k=some (L k):=if_pos ho.2
    unfold cT
    simp only
    rw [hpr]
    exact ⟨rfl,fun hn=>⟨⟨k,_,hk,hn,rfl⟩,fun o h9=>h9.2 ⟨k,e,sz,xs,fz,hk,hn,rfl⟩⟩⟩
  ·show RepA w (ah C L (aL G)) L (aL G) ((args[n]?).getD .undef) _
   rw [hMeq]
   cases hp : args[n]? with
   |none=>exact .undef _
   |some p=>
    have hlt : n < vs.length:=by rw [← hvl];exact (List.getElem?_eq_some_iff.1 hp).1
    have hget : (vs.toArray++Array.replicate (fn.ntmps - vs.toArray.size) undef).getD n undef=vs[n]:=by
     rw [Array.getD_eq_getD_getElem?,Array.getElem?_append_left (by simpa using hlt)];simp [hlt]
    simp only [hget]
    exact hvs.2 n p _ hp (List.getElem?_eq_getElem hlt)
 refine calls_of_wp_defers hf hb (wp_mono (h C rfl rfl _ w hsim) ?_)
 have hfin : ∀ (a' : Act) w' st',dY C st' a' w'→qO P fn.results.toList G' res st'→fo P a'.defers∧∃ v,(results fn a'.tmps).run P w'=.ok v w'∧
  ∃ v',Ending.returned v=.returned v'∧Ext (qC G L) w w'∧(∀ k blk,aL G' k=some blk→cw w' M L (aL G') (L k) blk)∧Rep w' M res v':=by
  rintro a' w' st' ⟨L',hm,hN,hdf,ht⟩ ⟨hml,⟨r,hr,W,hW⟩,hpb⟩
  obtain ⟨u,hu1,hu2⟩:=lr (C:=C) hm ht hr
  have hpb' : ∀ {k blk},aL G' k=some blk→st'.h k=some blk:=fun hk=>hpb _ (bY hk)
  have hLr : ∀ {k e sz xs fz},aL G' k=some (.row e sz xs fz)→L' k=L k:=by
   intro k e sz xs fz hk
   have ho:=okout hk
   simp only [ew,Bool.and_eq_true,decide_eq_true_eq] at ho
   have how:=hm.own k _ (hpb' hk)
   have hpr : C.pr k=some (L k):=if_pos ho.2
   simp only [cT,hpr] at how
   exact how.1
  have hLb : ∀ {k cs own fz},aL G' k=some (.box cs own fz)→(L' k).b=(L k).b:=by
   intro k cs own fz hk
   have ho:=okout hk
   simp only [ew,Bool.and_eq_true,Bool.not_eq_true',decide_eq_true_eq] at ho
   obtain ⟨⟨⟨⟨_,h1⟩,h2⟩,h3⟩,h4⟩:=ho
   subst h1;subst h2
   have how:=(hm.own k _ (hpb' hk)).2.1
   injection how with how;exact how.symm
  have hsub : ∀ b o,M b o→ah C L' st'.h b o:=by
   intro b o hmo
   by_cases hr' : rowB b
   ·obtain ⟨k,e,sz,xs,fz,hk,hn,rfl⟩:=hr'
    obtain ⟨blk',hk'⟩:=hinout hk
    have hs:=hok.same k _ _ hk hk'
    cases blk' with
    |box=>cases hs
    |row e' sz' xs' fz'=>
     have ho:=okout hk'
     simp only [ew,Bool.and_eq_true,decide_eq_true_eq] at ho
     refine .inr ⟨k,_,hpb' hk',?_,?_,?_⟩
     ·show (L' k).isNil=false;rw [hLr hk'];exact hn
     ·rw [hLr hk']
     ·rw [ho.1];simp [Blk.frz]
   ·exact .inl ⟨hmo,hr'⟩
  obtain ⟨b1,b2,_⟩:=gt hm (bA.refl _) hu2 hW
  refine ⟨hdf,u,hu1,u,rfl,hm.ext,?_,?_⟩
  ·intro k blk hk
   have hbr:=hm.bl k blk (hpb' hk)
   cases blk with
   |row e sz xs fz=>
    rw [hLr hk] at hbr
    obtain ⟨g1,g2,g3,g4,g5⟩:=hbr
    refine ⟨g1,g2,g3,g4,fun hn=>?_⟩
    obtain ⟨a1,a2,arr,a3,a4,a5⟩:=g5 hn
    exact ⟨a1,a2,arr,a3,a4,fun i x j p hx hj=>by obtain ⟨u,hu,hr⟩:=a5 i x j p hx hj;exact ⟨u,hu,hr.mono (aE.sub hsub)⟩⟩
   |box cs own fz=>
    obtain ⟨arr,ty,e1,e2⟩:=hbr
    rw [hLb hk] at e1
    refine ⟨arr,ty,e1,e2.1,fun i p u hp hu=>?_⟩
    have ho:=okout hk
    simp only [ew,Bool.and_eq_true] at ho
    have hop:=List.all_eq_true.1 ho.1.1.1.1 p (List.mem_of_getElem? hp)
    have hx:=e2.2 i p u hp hu
    have e0 : eV id p=p:=by cases p<;>rfl
    have hx' : RepA w' (ah C L' st'.h) L' st'.h (eV id p) u:=by rw [e0];exact hx
    refine j3 (ren:=id) (K:=G.map (·.1)) (M':=M) (L':=L) (h':=aL G') hsub (fun q hq blk hb=>?_) hop hx'
    ·obtain ⟨⟨q',b'⟩,h1,h2⟩:=List.mem_map.1 hq
     simp only at h2;subst h2
     obtain ⟨blk',hq'⟩:=hinout (fc hok.nodup h1)
     refine ⟨blk',hq',?_⟩
     have h9:=hpb' hq'
     have hb' : st'.h q'=some blk:=hb
     rw [hb'] at h9;injection h9 with h9;subst h9
     cases blk with
     |box=>exact (hLb hq').symm
     |row=>exact ⟨rfl,rfl,Nat.le_refl _,fun _=>(hLr hq').symm⟩
  ·exact kB hml b2
 rintro e a' w' ⟨st',hs',hq⟩
 cases e with
 |normal=>obtain ⟨h1,v,h2,h3⟩:=hfin a' w' st' hs' hq;exact fp h1 h2 h3
 |ret=>obtain ⟨h1,v,h2,h3⟩:=hfin a' w' st' hs' hq;exact fp h1 h2 h3
 |exit=>exact hq.elim
 |goto=>exact hq.elim
 |panic=>exact hq.elim
 |outgrown=>exact hq.elim
def fF (h : Hp) (q : Nat) : Bool:=match h q with
 |some (.box _ own _)=>own
 |_=>false
def dn (ren : Nat→Nat) (h : Hp) (G' : List (Nat × Blk)) : List (Nat × Blk):=G'.map fun kb=>(ren kb.1,dx ren (fF h (ren kb.1)) kb.2)
theorem ou {ren : Nat→Nat} {g : Nat × Blk→Blk} : ∀ (l : List (Nat × Blk)) (h : Hp),(l.map fun x=>ren x.1).Nodup→∀ x ∈ l,aj h (l.map fun x=>(ren x.1,g x)) (ren x.1)=some (g x)
 |[],_,_,x,hx=>by cases hx
 |y :: l,h,hn,x,hx=>by
  rw [List.map_cons,List.nodup_cons] at hn
  rw [List.map_cons]
  show aj (aq h (ren y.1) (some (g y))) (l.map fun x=>(ren x.1,g x)) (ren x.1)=_
  rcases List.mem_cons.1 hx with rfl|hx
  ·rw [fm,ay]
   intro kb hkb
   obtain ⟨z,hz,rfl⟩:=List.mem_map.1 hkb
   intro e
   exact hn.1 (List.mem_map.2 ⟨z,hz,e⟩)
  ·exact ou l _ hn.2 x hx
theorem iH {ren : Nat→Nat} {own : Bool} {b : Blk} {l : Loc} : (dx ren own b).live l↔b.live l:=by cases b<;>exact Iff.rfl
theorem nN {ren : Nat→Nat} {own : Bool} {b : Blk} {K : List Nat} {k o : Nat} (h : ew K k b=true) : ¬ (dx ren own b).frz o:=by
 cases b with
 |box cs own' fz=>simp [dx,Blk.frz]
 |row e sz xs fz=>
  simp only [ew,Bool.and_eq_true,decide_eq_true_eq] at h
  rw [h.1];simp [dx,Blk.frz]
structure Share (h : Hp) (ren : Nat→Nat) (G G' : List (Nat × Blk)) : Prop where
 ok : OkG G G'
 inj : (G.map fun x=>ren x.1).Nodup
 have_ : ∀ kb ∈ G,h (ren kb.1)=some (dx ren (fF h (ren kb.1)) kb.2)
section
variable {C : Cx} {L : Nat→Loc} {h : Hp} {w : World} {ren : Nat→Nat} {G G' : List (Nat × Blk)}
theorem Share.ren_inj (hs : Share h ren G G') {k k' : Nat} {b b' : Blk} (hk : aL G k=some b) (hk' : aL G k'=some b') (e : ren k=ren k') : k=k':=by
 obtain ⟨i,hi⟩:=List.mem_iff_getElem?.1 (bY hk)
 obtain ⟨j,hj⟩:=List.mem_iff_getElem?.1 (bY hk')
 have h1 : (G.map fun x=>ren x.1)[i]?=some (ren k):=by simp [hi]
 have h2 : (G.map fun x=>ren x.1)[j]?=some (ren k'):=by simp [hj]
 obtain ⟨l1,e1⟩:=List.getElem?_eq_some_iff.1 h1
 obtain ⟨l2,e2⟩:=List.getElem?_eq_some_iff.1 h2
 have : i=j:=(List.getElem_inj hs.inj).1 (e1.trans (e.trans e2.symm))
 subst this
 rw [hi] at hj;injection hj with hj;injection hj with hj
theorem Share.inout (hs : Share h ren G G') {k : Nat} {blk : Blk} (hk : aL G k=some blk) : ∃ blk',aL G' k=some blk':=by
 have hm : k ∈ G'.map (·.1):=by rw [hs.ok.keys];exact List.mem_map.2 ⟨_,bY hk,rfl⟩
 obtain ⟨⟨k',b'⟩,h1,h2⟩:=List.mem_map.1 hm
 simp only at h2;subst h2
 exact ⟨b',fc (by rw [hs.ok.keys];exact hs.ok.nodup) h1⟩
theorem Share.outin (hs : Share h ren G G') {k : Nat} {blk : Blk} (hk : aL G' k=some blk) : ∃ blk',aL G k=some blk':=by
 have hm : k ∈ G.map (·.1):=by rw [← hs.ok.keys];exact List.mem_map.2 ⟨_,bY hk,rfl⟩
 obtain ⟨⟨k',b'⟩,h1,h2⟩:=List.mem_map.1 hm
 simp only at h2;subst h2
 exact ⟨b',fc hs.ok.nodup h1⟩
theorem Share.at_ (hs : Share h ren G G') {k : Nat} {blk : Blk} (hk : aL G k=some blk) : h (ren k)=some (dx ren (fF h (ren k)) blk):=hs.have_ _ (bY hk)
theorem Share.new (hs : Share h ren G G') {k : Nat} {blk : Blk} (hk : aL G' k=some blk) : aj h (dn ren h G') (ren k)=some (dx ren (fF h (ren k)) blk):=by
 have hn : (G'.map fun x=>ren x.1).Nodup:=by
  have e : (G'.map fun x=>ren x.1)=(G.map fun x=>ren x.1):=by
   have:=congrArg (List.map ren) hs.ok.keys
   simpa [List.map_map,Function.comp_def] using this
  rw [e];exact hs.inj
 exact ou (g:=fun kb=>dx ren (fF h (ren kb.1)) kb.2) G' h hn (k,blk) (bY hk)
theorem Share.other (hs : Share h ren G G') {q : Nat} (hq : ∀ k blk,aL G k=some blk→q≠ren k) : aj h (dn ren h G') q=h q:=by
 refine fm ?_
 intro kb hkb e
 obtain ⟨⟨k,b⟩,hz,rfl⟩:=List.mem_map.1 hkb
 obtain ⟨blk',hk'⟩:=hs.outin (fc (by rw [hs.ok.keys];exact hs.ok.nodup) hz)
 exact hq k _ hk' e.symm
theorem Share.cases (hs : Share h ren G G') {q : Nat} {b : Blk} (hq : aj h (dn ren h G') q=some b) :
 (∃ k blk blk',aL G k=some blk∧aL G' k=some blk'∧q=ren k∧b=dx ren (fF h (ren k)) blk')∨((∀ k blk,aL G k=some blk→q≠ren k)∧h q=some b):=by
 by_cases hc : ∃ k blk,aL G k=some blk∧q=ren k
 ·obtain ⟨k,blk,hk,rfl⟩:=hc
  obtain ⟨blk',hk'⟩:=hs.inout hk
  rw [hs.new hk'] at hq;injection hq with hq
  exact .inl ⟨k,blk,blk',hk,hk',rfl,hq.symm⟩
 ·have hne : ∀ k blk,aL G k=some blk→q≠ren k:=fun k blk hk e=>hc ⟨k,blk,hk,e⟩
  rw [hs.other hne] at hq
  exact .inr ⟨hne,hq⟩
theorem qP {b b' : Blk} {l : Loc} {ren : Nat→Nat} {own : Bool} (h : lc b b'=true) : ey (dx ren own b) l (dx ren own b') l:=by
 cases b<;>cases b'<;>first|(cases h;done)|skip
 ·exact rfl
 ·simp only [lc,Bool.and_eq_true,beq_iff_eq] at h
  exact ⟨h.1.1.symm,h.1.2.symm,Nat.le_of_eq h.2,fun _=>rfl⟩
theorem Share.okin (hs : Share h ren G G') {k : Nat} {b : Blk} (hk : aL G k=some b) : ew (G.map (·.1)) k b=true:=hs.ok.okin _ _ (bY hk)
theorem Share.okout (hs : Share h ren G G') {k : Nat} {b : Blk} (hk : aL G' k=some b) : ew (G.map (·.1)) k b=true:=hs.ok.okout _ _ (bY hk)
theorem Share.view (hs : Share h ren G G') (hm : MemL C L h w) {k : Nat} {blk : Blk} (hk : aL G k=some blk) : cw w (ah C L h) (fun k=>L (ren k)) (aL G) (L (ren k)) blk:=by
 have hb:=hm.bl _ _ (hs.at_ hk)
 cases blk with
 |row e sz xs fz=>exact hb
 |box cs own fz=>
  obtain ⟨arr,ty,e1,e2⟩:=hb
  have ho:=hs.okin hk
  simp only [ew,Bool.and_eq_true] at ho
  refine ⟨arr,ty,e1,by simpa using e2.1,fun i p u hp hu=>?_⟩
  refine j3 (ren:=ren) (K:=G.map (·.1)) (fun b o h=>h) (fun q hq b hb=>?_) (List.all_eq_true.1 ho.1.1.1.1 p (List.mem_of_getElem? hp)) (e2.2 i _ u (by simp [hp]) hu)
  obtain ⟨⟨q',b'⟩,h1,h2⟩:=List.mem_map.1 hq
  simp only at h2;subst h2
  have hq':=fc hs.ok.nodup h1
  refine ⟨b',hq',?_⟩
  rw [hs.at_ hq'] at hb;injection hb with hb;subst hb
  cases b' with
  |box=>exact rfl
  |row=>exact ⟨rfl,rfl,Nat.le_refl _,fun _=>rfl⟩
theorem MemL.shareStep (hm : MemL C L h w) (hs : Share h ren G G') {w' : World} (hx : Ext (qC G (fun k=>L (ren k))) w w')
 (hb : ∀ k blk,aL G' k=some blk→cw w' (ah C L h) (fun k=>L (ren k)) (aL G') (L (ren k)) blk) : ax C L h w L (aj h (dn ren h G')) w':=by
 have hMM : ∀ b o,ah C L (aj h (dn ren h G')) b o→ah C L h b o:=by
  rintro b o (h0|⟨q,blk,hq,hl,hqb,hf⟩)
  ·exact .inl h0
  ·rcases hs.cases hq with ⟨k,b1,b2,hk,hk',rfl,rfl⟩|⟨_,hq'⟩
   ·refine .inr ⟨ren k,_,hs.at_ hk,?_,hqb,nN (hs.okin hk)⟩
    have hsm:=hs.ok.same k _ _ hk hk'
    cases b1<;>cases b2<;>first|(cases hsm;done)|exact hl
   ·exact .inr ⟨q,blk,hq',hl,hqb,hf⟩
 have hkc : KC L h L (aj h (dn ren h G')):=by
  intro q blk hq
  by_cases hc : ∃ k b,aL G k=some b∧q=ren k
  ·obtain ⟨k,b,hk,rfl⟩:=hc
   obtain ⟨b',hk'⟩:=hs.inout hk
   rw [hs.at_ hk] at hq;injection hq with hq;subst hq
   exact ⟨_,hs.new hk',qP (hs.ok.same k _ _ hk hk')⟩
  ·exact ⟨blk,by rw [hs.other (fun k b hk e=>hc ⟨k,b,hk,e⟩)];exact hq,dl _ _⟩
 have hpres : aE w (ah C L h) w' (ah C L (aj h (dn ren h G'))):=by
  intro b o v hc hn
  refine ⟨(hx.cell (eQ hc) ?_).trans hc,fun h=>hn (hMM b o h)⟩
  rintro ⟨k,blk,hk,hl,rfl⟩
  exact hn (.inr ⟨ren k,_,hs.at_ hk,iH.2 hl,rfl,nN (hs.okin hk)⟩)
 refine ⟨⟨?_,hm.m0,?_,?_,?_⟩,hpres,hkc⟩
 ·refine hm.ext.trans hx (fun b hb0 hmem=>?_)
  obtain ⟨k,blk,hk,hl,rfl⟩:=hmem
  have hb1 : (L (ren k)).b < C.w0.heap.size:=hb0
  have how:=hm.own _ _ (hs.at_ hk)
  cases blk with
  |box cs own fz=>
   cases hown : fF h (ren k) with
   |false=>rw [hown] at how;exact how.2.2.1
   |true=>rw [hown] at how;simp only [dx,cT] at how;omega
  |row e sz xs fz=>
   rcases how.row hl with h9|h9
   ·omega
   ·exact h9.1
 ·intro q blk hq
  rcases hs.cases hq with ⟨k,b1,b2,hk,hk',rfl,rfl⟩|⟨hne,hq'⟩
  ·have hbr:=hb k b2 hk'
   cases b2 with
   |row e sz xs fz=>
    obtain ⟨g1,g2,g3,g4,g5⟩:=hbr
    refine ⟨g1,g2,g3,g4,fun hn=>?_⟩
    obtain ⟨a1,a2,arr,a3,a4,a5⟩:=g5 hn
    exact ⟨a1,a2,arr,a3,a4,fun i x j p hx9 hj=>by obtain ⟨u,hu,hr⟩:=a5 i x j p hx9 hj;exact ⟨u,hu,hr.mono (aE.sub hMM)⟩⟩
   |box cs own fz=>
    obtain ⟨arr,ty,e1,e2⟩:=hbr
    have ho:=hs.okout hk'
    simp only [ew,Bool.and_eq_true] at ho
    refine ⟨arr,ty,e1,by simpa using e2.1,fun i p u hp hu=>?_⟩
    simp only [List.getElem?_map,Option.map_eq_some_iff] at hp
    obtain ⟨y,hy,rfl⟩:=hp
    refine s5 (ren:=ren) (K:=G.map (·.1)) (L':=fun k=>L (ren k)) (h':=aL G') hMM (fun q hq b hb=>?_) (List.all_eq_true.1 ho.1.1.1.1 y (List.mem_of_getElem? hy)) (e2.2 i y u hy hu)
    refine ⟨_,hs.new hb,?_⟩
    cases b with
    |box=>exact rfl
    |row=>exact ⟨rfl,rfl,Nat.le_refl _,fun _=>rfl⟩
  ·refine (hm.bl q blk hq').mono hpres hkc (fun hl=>hx.block _ ((hm.bl q blk hq').lt hl) ?_)
   rintro ⟨k,b,hk,hl',e⟩
   exact hm.sep q (ren k) _ _ (hne k b hk) hq' (hs.at_ hk) hl (iH.2 hl') e
 ·have aux : ∀ q b,aj h (dn ren h G') q=some b→b.live (L q)→∃ b0,h q=some b0∧b0.live (L q):=by
   intro q b hq hl
   rcases hs.cases hq with ⟨k,b1,b2,hk,hk',rfl,rfl⟩|⟨_,hq'⟩
   ·refine ⟨_,hs.at_ hk,?_⟩
    have hsm:=hs.ok.same k _ _ hk hk'
    cases b1<;>cases b2<;>first|(cases hsm;done)|exact hl
   ·exact ⟨b,hq',hl⟩
  intro q q' b1 b2 hne hq hq' hl hl'
  obtain ⟨c1,d1,f1⟩:=aux q b1 hq hl
  obtain ⟨c2,d2,f2⟩:=aux q' b2 hq' hl'
  exact hm.sep q q' c1 c2 hne d1 d2 f1 f2
 ·intro q blk hq
  rcases hs.cases hq with ⟨k,b1,b2,hk,hk',rfl,rfl⟩|⟨_,hq'⟩
  ·have how:=hm.own _ _ (hs.at_ hk)
   have hsm:=hs.ok.same k _ _ hk hk'
   cases b1<;>cases b2<;>first|(cases hsm;done)|skip
   ·cases hown : fF h (ren k) with
    |false=>rw [hown] at how;exact how
    |true=>rw [hown] at how;exact how
   ·exact how
  ·exact hm.own q blk hq'
end
section
variable {C : Cx} {Q : Exit→St→Prop} {st : St}
def ov (C : Cx) (Q : St→Prop) (f : Operand) (xs : List Operand) (d : Option Nat) (st : St) : Prop:=
 ∃ g args G G' res ren,bH (st.ev f)=some (g,[],[])∧s6 C.P g args G G' res∧kP res=true∧xs.map st.ev=args.map (pA ren)∧args.all (sC (G.map (·.1)))=true∧(G.map fun x=>ren x.1).Nodup∧
  (∀ kb ∈ G,st.h (ren kb.1)=some (dx ren (fF st.h (ren kb.1)) kb.2))∧dW C.N d=true∧Q (st.put d (.pv res) (dn ren st.h G'))
theorem WP.share {hn : List Nat} {id : Nat} {ops : Array Oper} {pre post : List Oper} {o : Oper} {f : Operand} {xs : List Operand} {ats : Array TypeId} (hops : ops.toList=pre++o :: post) (hop : o.op=.call { callee:=.value f,args:=xs.toArray,argTypes:=ats }) (hg : o.guard=none)
 (hq : cJ C.P hn C.N ops (ov C (cJ C.P hn C.N ops (Q .normal) post) f xs o.dst) pre st) : WP C (.region id ops false) Q st:=by
 intro a w hs
 refine wp_region_list ?_
 rw [hops]
 refine i6 (fun st1 a1 w1 hs1 hq1=>?_) hs hq
 obtain ⟨g,args,G,G',res,ren,hce,⟨hcall,hok,hD⟩,hml,hargs,hokA,hinj,hhave,hdN,hQ⟩:=hq1
 obtain ⟨L,hm,hN,hdf,ht⟩:=hs1
 have hsh : Share st1.h ren G G':=⟨hok,hinj,hhave⟩
 refine wpList_step (fun K hK=>?_)
 rw [sd hg,if_pos rfl]
 obtain ⟨vs,us,hfv,hv1,hv2⟩:=kS (cy ht f) hce
 have hvs:=hv1.nil_inv
 have hus:=hv2.nil_inv
 subst hvs;subst hus
 have hlenA : xs.length=args.length:=by have:=congrArg List.length hargs;simpa using this
 have hrepA : au w1 (ah C L st1.h) (fun k=>L (ren k)) (aL G) args (xs.map a1.eval):=by
  refine ⟨by simp [hlenA],fun i p u hp hu=>?_⟩
  simp only [List.getElem?_map,Option.map_eq_some_iff] at hu
  obtain ⟨x,hx,rfl⟩:=hu
  have he:=congrArg (fun l : List AV=>l[i]?) hargs
  simp only [List.getElem?_map,hx,hp,Option.map_some,Option.some.injEq] at he
  have hr:=cy ht x
  rw [he] at hr
  refine vn (K:=G.map (·.1)) (fun b o h=>h) (fun q hq b hb=>?_) (List.all_eq_true.1 hokA p (List.mem_of_getElem? hp)) hr
  obtain ⟨⟨q',b'⟩,h1,h2⟩:=List.mem_map.1 hq
  simp only at h2;subst h2
  have hq':=fc hsh.ok.nodup h1
  refine ⟨b',hq',?_⟩
  rw [hsh.at_ hq'] at hb;injection hb with hb;subst hb
  cases b' with
  |box=>exact rfl
  |row=>exact ⟨rfl,rfl,Nat.le_refl _,fun _=>rfl⟩
 have hcalls:=hD w1 (ah C L st1.h) (fun k=>L (ren k)) (xs.map a1.eval) (fun b o h=>hm.mlt h)
  (fun k blk hk hl o=>.inr ⟨ren k,_,hsh.at_ hk,iH.2 hl,rfl,nN (hsh.okin hk)⟩)
  (fun k k' b b' hne hk hk' hl hl'=>hm.sep (ren k) (ren k') _ _ (fun e=>hne (hsh.ren_inj hk hk' e)) (hsh.at_ hk) (hsh.at_ hk') (iH.2 hl) (iH.2 hl'))
  (fun k blk hk=>hsh.view hm hk) hrepA
 have hrun : (execOp a1.eval o).run C.P w1=.ok (.enter g (xs.map a1.eval).toArray) w1:=by
  unfold bP at hcall
  cases hfn : C.P.funcs[g]? with
  |none=>rw [hfn] at hcall;cases hcall
  |some fn=>
   rw [hfn] at hcall
   simp only [Bool.and_eq_true,Bool.not_eq_true',beq_eq_false_iff_ne,ne_eq] at hcall
   have hb : fn.body.isNone=false:=by cases hbb : fn.body<;>simp_all
   unfold execOp
   rw [hop]
   simp only [resolve,hfv,Deferred.ofValue,pure_bind,Sem.run_bind,Result.andThen_ok,invoke,callFunc,program,Sem.run,hfn]
   simp [hcall.2,hb]
 unfold Oper.wp
 rw [hrun]
 simp only [Oper.upon]
 refine hcalls.mono ?_
 rintro ee w' ⟨v,rfl,hx,hb,hr⟩
 have hA:=hm.shareStep hsh hx hb
 refine hK _ _ ?_
 exact iK (fun st' a' w' hs' hq'=>⟨st',hs',hq'⟩) (dY.put hm hN hdf ht hdN hA (.pv (kB hml hr))) hQ
end
attribute [simp] pA eV sC gl aL dx ew lc dn fF
end Go.Ab
namespace Go.Ab
open Go.Proofs
def jL (x : Int) : Int:=cD (max x (-x)) 65536 * cD (max x (-x)) 65536
def nc (v : Vc) (rho : Int) : Bool:=decide (jL v.1+jL v.2.1+jL v.2.2≤rho * rho)
theorem pT {x : Int} (h : -35184372088832≤x∧x≤35184372088832) : (0≤cD (max x (-x)) 65536∧cD (max x (-x)) 65536≤536870912)∧0≤jL x∧jL x≤288230376151711744:=by
 have h1 : 0≤cD (max x (-x)) 65536∧cD (max x (-x)) 65536≤536870912:=by unfold cD;omega
 have h2:=kW h1.1 h1.2
 exact ⟨h1,h2.1,by unfold jL;omega⟩
theorem AT (v : Vc) (rho : Int) (hv : cL 35184372088832 v) (hr : 0≤rho∧rho≤2097152) : ab Tryz.prog 330 [.pv (av v),.pv (Z rho)] [] [] (.pv (B (nc v rho))):=by
 obtain ⟨v1,v2,v3⟩:=hv
 have c1:=ry (max v.1 (-v.1)) (by omega) (by omega)
 have c2:=ry (max v.2.1 (-v.2.1)) (by omega) (by omega)
 have c3:=ry (max v.2.2 (-v.2.2)) (by omega) (by omega)
 have q1:=pT v1
 have q2:=pT v2
 have q3:=pT v3
 have qr:=kW hr.1 hr.2
 have n1 : IntKind.i64.wrap (0 - v.1)=-v.1:=(aa (n:=0 - v.1) (by omega) (by omega)).trans (by omega)
 have n2 : IntKind.i64.wrap (0 - v.2.1)=-v.2.1:=(aa (n:=0 - v.2.1) (by omega) (by omega)).trans (by omega)
 have n3 : IntKind.i64.wrap (0 - v.2.2)=-v.2.2:=(aa (n:=0 - v.2.2) (by omega) (by omega)).trans (by omega)
 have n1' : IntKind.i64.wrap (-v.1)=-v.1:=(aa (n:=-v.1) (by omega) (by omega))
 have n2' : IntKind.i64.wrap (-v.2.1)=-v.2.1:=(aa (n:=-v.2.1) (by omega) (by omega))
 have n3' : IntKind.i64.wrap (-v.2.2)=-v.2.2:=(aa (n:=-v.2.2) (by omega) (by omega))
 have hd : nc v rho=decide (jL v.1+jL v.2.1+jL v.2.2≤rho * rho):=rfl
 rw [hd]
 have d1 : jL v.1=cD (max v.1 (-v.1)) 65536 * cD (max v.1 (-v.1)) 65536:=rfl
 have d2 : jL v.2.1=cD (max v.2.1 (-v.2.1)) 65536 * cD (max v.2.1 (-v.2.1)) 65536:=rfl
 have d3 : jL v.2.2=cD (max v.2.2 (-v.2.2)) 65536 * cD (max v.2.2 (-v.2.2)) 65536:=rfl
 generalize jL v.1=s1 at *
 generalize jL v.2.1=s2 at *
 generalize jL v.2.2=s3 at *
 generalize cD (max v.1 (-v.1)) 65536=t1 at *
 generalize cD (max v.2.1 (-v.2.1)) 65536=t2 at *
 generalize cD (max v.2.2 (-v.2.2)) 65536=t3 at *
 generalize hrr : rho * rho=rr at *
 have u1 : IntKind.i64.wrap (t1 * t1)=s1:=(aa (by rw [← d1];omega) (by rw [← d1];omega)).trans d1.symm
 have u2 : IntKind.i64.wrap (t2 * t2)=s2:=(aa (by rw [← d2];omega) (by rw [← d2];omega)).trans d2.symm
 have u3 : IntKind.i64.wrap (t3 * t3)=s3:=(aa (by rw [← d3];omega) (by rw [← d3];omega)).trans d3.symm
 have ur : IntKind.i64.wrap rr=rr:=aa (by omega) (by omega)
 have x1 : IntKind.i64.wrap s1=s1:=aa (by omega) (by omega)
 have x2 : IntKind.i64.wrap (s1+s2)=s1+s2:=aa (by omega) (by omega)
 have x3 : IntKind.i64.wrap (s1+s2+s3)=s1+s2+s3:=aa (by omega) (by omega)
 clear d1 d2 d3 q1 q2 q3
 refine Dp Tryz.func330 ?_
 intro C hP hN
 simp only [Tryz.f330] at hN ⊢
 with_reducible repeat' (first|refine Sp.h ?_|((first|refine Ss.h ?_|(refine Sb.h ?_ ?_ ?_<;>(try intro hgd)<;>try exact Xy))<;>simp -implicitDefEqProofs (maxSteps:=2000000) [hP,hN])|refine X2 ?_ ?_|(refine Xd ?_ ?_<;>intro hcd<;>try exact Xx))
 refine WP.loopN [] 3 (fun k st=>st.t 9=.pv (av v)∧st.t 10=.pv (Z k)∧st.t 1=.pv (Z rho)∧st.t 5=.pv (Z (if k=0 then 0 else if k=1 then s1 else if k=2 then s1+s2 else s1+s2+s3))) (by simp) ?_
 rintro k st hk ⟨g9,g10,g1,g5⟩
 rcases bh hk with rfl|rfl|rfl|rfl
 all_goals (simp at g5 g10)
 ·skip
  with_reducible repeat' (first|refine Sp.h ?_|((first|refine Ss.h ?_|refine Sc.h (c1) ?_|(refine Sb.h ?_ ?_ ?_<;>(try intro hgd)<;>try exact Xy))<;>simp -implicitDefEqProofs (maxSteps:=2000000) [hP,hN,g1,g5,g9,g10,n1,n2,n3,n1',n2',n3',u1,u2,u3,x1,x2,x3])|refine X2 ?_ ?_|(refine Xd ?_ ?_<;>intro hcd<;>try exact Xx))
 ·skip
  with_reducible repeat' (first|refine Sp.h ?_|((first|refine Ss.h ?_|refine Sc.h (c2) ?_|(refine Sb.h ?_ ?_ ?_<;>(try intro hgd)<;>try exact Xy))<;>simp -implicitDefEqProofs (maxSteps:=2000000) [hP,hN,g1,g5,g9,g10,n1,n2,n3,n1',n2',n3',u1,u2,u3,x1,x2,x3])|refine X2 ?_ ?_|(refine Xd ?_ ?_<;>intro hcd<;>try exact Xx))
 ·skip
  with_reducible repeat' (first|refine Sp.h ?_|((first|refine Ss.h ?_|refine Sc.h (c3) ?_|(refine Sb.h ?_ ?_ ?_<;>(try intro hgd)<;>try exact Xy))<;>simp -implicitDefEqProofs (maxSteps:=2000000) [hP,hN,g1,g5,g9,g10,n1,n2,n3,n1',n2',n3',u1,u2,u3,x1,x2,x3])|refine X2 ?_ ?_|(refine Xd ?_ ?_<;>intro hcd<;>try exact Xx))
 ·skip
  with_reducible repeat' (first|refine Sp.h ?_|((first|refine Ss.h ?_|(refine Sb.h ?_ ?_ ?_<;>(try intro hgd)<;>try exact Xy))<;>simp -implicitDefEqProofs (maxSteps:=2000000) [hP,hN,g1,g5,g9,g10,hrr,ur])|refine X2 ?_ ?_|(refine Xd ?_ ?_<;>intro hcd<;>try exact Xx))
def gP (x s : Vc) : Int:=if bw x (bk x s)≤0 then 0 else min 256 (bw x (bk x s) / max 1 (bw (bk x s) (bk x s) / 256))
theorem n9 {v w : Vc} {a b : Int} (hv : cL a v) (hw : cL b w) : cL (a+b) (bk v w):=by
 obtain ⟨v1,v2,v3⟩:=hv
 obtain ⟨w1,w2,w3⟩:=hw
 refine ⟨?_,?_,?_⟩<;>(simp only [bk];omega)
theorem gQ (x s : Vc) : 0≤gP x s∧gP x s≤256:=by
 unfold gP
 split
 ·omega
 ·rename_i h
  have h1 : 0≤bw x (bk x s) / max 1 (bw (bk x s) (bk x s) / 256):=Int.ediv_nonneg (by omega) (by omega)
  omega
theorem jh {v : Vc} {a b : Int} (h : cL a v) (hab : a≤b) : cL b v:=by
 obtain ⟨v1,v2,v3⟩:=h
 exact ⟨by omega,by omega,by omega⟩
theorem tG (v : Vc) : 0≤bw v v:=by
 have h : ∀ x : Int,0≤x * x:=fun x=>by
  rcases Int.le_total 0 x with h|h
  ·exact Int.mul_nonneg h h
  ·have:=Int.mul_nonneg (show 0≤-x by omega) (show 0≤-x by omega)
   rw [Int.neg_mul_neg] at this;exact this
 have h1:=h v.1
 have h2:=h v.2.1
 have h3:=h v.2.2
 unfold bw;omega
theorem AU (x s : Vc) (hx : cL 536870912 x) (hs : cL 536870912 s) : ab Tryz.prog 334 [.pv (av x),.pv (av s)] [] [] (.pv (Z (gP x s))):=by
 have he:=n9 hx hs
 have cm:=vV x s (jh hx (by decide)) (jh hs (by decide))
 have cd:=pS x (bk x s) 536870912 1073741824 hx he (by decide)
 have ce:=pS (bk x s) (bk x s) 1073741824 1073741824 he he (by decide)
 obtain ⟨r1,r2,r3⟩:=kh (m:=536870912) (n:=1073741824) hx he
 obtain ⟨t1,t2,t3⟩:=kh (m:=1073741824) (n:=1073741824) he he
 have hu : -1729382256910270464≤bw x (bk x s)∧bw x (bk x s)≤1729382256910270464:=by unfold bw;omega
 have hv : bw (bk x s) (bk x s)≤3458764513820540928:=by unfold bw;omega
 have hv0:=tG (bk x s)
 have hp : gP x s=if bw x (bk x s)≤0 then 0 else min 256 (bw x (bk x s) / max 1 (bw (bk x s) (bk x s) / 256)):=rfl
 rw [hp]
 clear r1 r2 r3 t1 t2 t3 he
 generalize bw x (bk x s)=u at *
 generalize bw (bk x s) (bk x s)=v at *
 generalize bk x s=e at *
 by_cases h0 : u≤0
 ·rw [if_pos h0]
  refine Dp Tryz.func334 ?_
  intro C hP hN
  simp only [Tryz.f334] at hN ⊢
  with_reducible repeat' (first|refine Sp.h ?_|((first|refine Wd ?_|refine Ss.h ?_|refine Sc.h (cm) ?_|refine Sc.h (cd) ?_|refine Sc.h (ce) ?_|(refine Sb.h ?_ ?_ ?_<;>(try intro hgd)<;>try exact Xy))<;>simp -implicitDefEqProofs (maxSteps:=2000000) [hP,hN,h0]<;>try refine Ya ?_)|refine X2 ?_ ?_|(refine Xd ?_ ?_<;>intro hcd<;>try exact Xx))
 ·rw [if_neg h0]
  have a1 : v.tdiv 256=v / 256:=Int.tdiv_eq_ediv_of_nonneg hv0
  have a2 : IntKind.i64.wrap (v / 256)=v / 256:=aa (by omega) (by omega)
  have hm : 1≤max 1 (v / 256):=by omega
  generalize hmm : max 1 (v / 256)=m at *
  have a3 : u.tdiv m=u / m:=Int.tdiv_eq_ediv_of_nonneg (by omega)
  have h4 : u / m≤u:=Int.ediv_le_self m (by omega)
  have h5 : 0≤u / m:=Int.ediv_nonneg (by omega) (by omega)
  have a4 : IntKind.i64.wrap (u / m)=u / m:=aa (by omega) (by omega)
  have a5 : ¬ m=0:=by omega
  have a6 : (m==0)=false:=by simp;omega
  refine Dp Tryz.func334 ?_
  intro C hP hN
  simp only [Tryz.f334] at hN ⊢
  with_reducible repeat' (first|refine Sp.h ?_|((first|refine Wd ?_|refine Ss.h ?_|refine Sc.h (cm) ?_|refine Sc.h (cd) ?_|refine Sc.h (ce) ?_|(refine Sb.h ?_ ?_ ?_<;>(try intro hgd)<;>try exact Xy))<;>simp -implicitDefEqProofs (maxSteps:=2000000) [hP,hN,h0,a1,a2,hmm,a3,a4,a5,a6]<;>try refine Ya ?_)|refine X2 ?_ ?_|(refine Xd ?_ ?_<;>intro hcd<;>try exact Xx))
end Go.Ab
namespace Go.Ab
open Go.Proofs
def cZ (w : List Int) (t : Int) (i : Nat) : List Int:=w.mapIdx fun j k=>if j < i then k - k * t / 256 else k
def dG (w : List Int) (t : Int) : Nat→Int
 |0=>0
 |i+1=>dG w t i+(w[i]?).getD 0 * t / 256
def gR (w : List Int) (q : Nat) (t : Int) : List Int:=(cZ w t w.length).set q (((cZ w t w.length)[q]?).getD 0+dG w t w.length)
theorem iP (w : List Int) (t : Int) (i : Nat) : (cZ w t i).length=w.length:=by simp [cZ]
theorem fv (w : List Int) (t : Int) (i j : Nat) : (cZ w t i)[j]?=(w[j]?).map fun k=>if j < i then k - k * t / 256 else k:=by simp [cZ,List.getElem?_mapIdx]
theorem o5 (w : List Int) (t : Int) : cZ w t 0=w:=by
 apply List.ext_getElem?
 intro j
 rw [fv];cases w[j]?<;>simp
theorem o6 {w : List Int} {t : Int} {i : Nat} {k : Int} (hk : w[i]?=some k) : cZ w t (i+1)=(cZ w t i).set i (k - k * t / 256):=by
 apply List.ext_getElem?
 intro j
 rw [List.getElem?_set,fv,fv,iP]
 by_cases e : i=j
 ·subst e
  obtain ⟨h,_⟩:=List.getElem?_eq_some_iff.1 hk
  rw [hk];simp [h]
 ·rw [if_neg e]
  cases w[j]? with
  |none=>rfl
  |some x=>
   simp only [Option.map_some]
   congr 1
   by_cases h : j < i
   ·rw [if_pos h,if_pos (by omega)]
   ·rw [if_neg h,if_neg (by omega)]
theorem oa (w : List Int) : ∀ i,aS w i=(w.take i).sum
 |0=>by simp [aS]
 |i+1=>by
  rw [List.take_succ]
  cases h : w[i]? with
  |none=>simp [aS,h,oa w i]
  |some k=>simp [aS,h,oa w i]
theorem oc (w : List Int) : aS w w.length=w.sum:=by rw [oa,List.take_length]
theorem pU {w : List Int} {q : Nat} {x y : Int} (h : w[q]?=some y) : (w.set q x).sum=w.sum - y+x:=by
 induction w generalizing q with
 |nil=>simp at h
 |cons a r ih=>
  cases q with
  |zero=>simp at h;subst h;simp;omega
  |succ q=>simp at h;simp only [List.set_cons_succ,List.sum_cons,ih h];omega
theorem rB (w : List Int) (t : Int) : ∀ i,i≤w.length→(cZ w t i).sum=w.sum - dG w t i
 |0,_=>by simp [o5,dG]
 |i+1,h=>by
  have hk : w[i]?=some w[i]:=List.getElem?_eq_getElem (by omega)
  have hkk : (cZ w t i)[i]?=some w[i]:=by rw [fv,hk];simp
  rw [o6 hk,pU hkk,rB w t i (by omega)]
  simp only [dG,hk,Option.getD_some];omega
theorem xE {w : List Int} {q : Nat} {t : Int} (hq : q < w.length) : (gR w q t).sum=w.sum:=by
 have hlen:=iP w t w.length
 have hk : (cZ w t w.length)[q]?=some ((cZ w t w.length)[q]'(by omega)):=List.getElem?_eq_getElem (by omega)
 unfold gR
 rw [pU hk,rB w t _ (Nat.le_refl _),hk]
 simp only [Option.getD_some];omega
theorem lB {k t : Int} (hk : 0≤k) (ht : 0≤t) (ht2 : t≤256) : 0≤k * t∧k * t≤k * 256∧0≤k * t / 256∧k * t / 256≤k:=by
 have h1 : 0≤k * t:=Int.mul_nonneg hk ht
 have h2 : k * t≤k * 256:=Int.mul_le_mul_of_nonneg_left ht2 hk
 omega
theorem jM {w : List Int} {t : Int} (hw : ∀ k ∈ w,0≤k) (ht : 0≤t) (ht2 : t≤256) : ∀ i,0≤dG w t i∧dG w t i≤aS w i
 |0=>by simp [dG,aS]
 |i+1=>by
  have ih:=jM hw ht ht2 i
  cases h : w[i]? with
  |none=>simp [dG,aS,h];omega
  |some k=>
   have:=lB (hw k (List.mem_of_getElem? h)) ht ht2
   simp only [dG,aS,h,Option.getD_some];omega
theorem jr (w : List Int) (q : Nat) (t : Int) : (gR w q t).length=w.length:=by simp [gR,iP]
theorem rC {w : List Int} {q : Nat} {t : Int} (hw : WgOk w) (hq : q < w.length) (ht : 0≤t) (ht2 : t≤256) : WgOk (gR w q t):=by
 constructor
 ·intro k hk
  obtain ⟨j,hj,rfl⟩:=List.mem_iff_getElem.1 hk
  have hjl : j < w.length:=by rw [jr] at hj;exact hj
  have hwj : w[j]?=some w[j]:=List.getElem?_eq_getElem hjl
  have hp:=lB (hw.pos _ (List.getElem_mem hjl)) ht ht2
  have hkj : (cZ w t w.length)[j]?=some (w[j] - w[j] * t / 256):=by rw [fv,hwj];simp [hjl]
  have hl:=jM hw.pos ht ht2 w.length
  generalize hx : (gR w q t)[j]=x
  have hg : (gR w q t)[j]?=some x:=by rw [List.getElem?_eq_getElem hj,hx]
  clear hx hk
  unfold gR at hg
  rw [List.getElem?_set] at hg
  by_cases e : q=j
  ·subst e
   rw [if_pos rfl,if_pos (by rw [iP];exact hjl),hkj] at hg
   simp only [Option.getD_some,Option.some.injEq] at hg
   omega
  ·rw [if_neg e,hkj] at hg
   simp only [Option.some.injEq] at hg
   omega
 ·rw [oc,xE hq,← oc];exact hw.tot
theorem yM (l : List Vc) (w : List Int) (q : Nat) (t : Int) (h8 : w.length≤8) (hw : WgOk w) (hq : q < w.length) (ht : 0≤t) (ht2 : t≤256) : s6 Tryz.prog 335 [.agg [.pv (aT l),.arr 2000000 w.length],.pv (Z q),.pv (Z t)] [(2000000,.row 2 1 (w.map Z) 0)] [(2000000,.row 2 1 ((gR w q t).map Z) 0)] (.tup []):=by
 refine sD Tryz.func335 rfl (by kernel_rfl) (by simp [Tryz.f335]) ?_ ?_
 ·constructor
  ·rfl
  ·simp
  ·intro k b h;simp at h;obtain ⟨rfl,rfl⟩:=h;rfl
  ·intro k b h;simp at h;obtain ⟨rfl,rfl⟩:=h;rfl
  ·intro k b b' h h'
   have e1:=bY h
   have e2:=bY h'
   simp at e1 e2
   obtain ⟨rfl,rfl⟩:=e1
   obtain ⟨_,rfl⟩:=e2
   simp [lc,jr]
 intro C hP hN
 simp only [Tryz.f335] at hN ⊢
 with_reducible repeat' (first|refine Sp.h ?_|((first|refine Ss.h ?_|(refine Sb.h ?_ ?_ ?_<;>(try intro hgd)<;>try exact Xy))<;>simp -implicitDefEqProofs (maxSteps:=2000000) [hP,hN,wH,aL])|refine X2 ?_ ?_|(refine Xd ?_ ?_<;>intro hcd<;>try exact Xx))
 refine WP.loopN [] w.length (fun i st=>st.t 3=.ptr 3 0∧st.h 3=some (.box [.pv (aT l),.arr 2000000 w.length] true false)∧st.t 11=.arr 2000000 w.length∧st.t 12=.pv (Z w.length)∧st.t 13=.pv (Z i)∧st.t 6=.pv (Z (dG w t i))∧st.t 1=.pv (Z q)∧st.t 2=.pv (Z t)∧st.h 2000000=some (.row 2 1 ((cZ w t i).map Z) 0)) (by simp [o5,dG]) ?_
 rintro i st hi ⟨g3,hb3,g11,g12,g13,g6,g1,g2,hbR⟩
 have hlen:=iP w t i
 by_cases hlt : i < w.length
 ·have hwr:=aJ hlt (by omega)
  generalize hxe : w[i]=k at *
  have hx : w[i]?=some k:=by rw [List.getElem?_eq_getElem hlt,hxe]
  have hkk : (cZ w t i)[i]?=some k:=by rw [fv,hx];simp
  have hpos:=hw.pos k (List.mem_of_getElem? hx)
  have hp:=lB hpos ht ht2
  have hl1:=jM hw.pos ht ht2 (i+1)
  have hl0:=jM hw.pos ht ht2 i
  have hm:=gz hw.pos (show i+1≤w.length by omega)
  have htot:=hw.tot
  have hks:=o6 (t:=t) hx
  have hlo : dG w t (i+1)=dG w t i+k * t / 256:=by simp only [dG,hx,Option.getD_some]
  have hk1 : k≤65536:=by
   have a1:=jK hx
   have a2:=n7 hw.pos i
   omega
  rw [hlo] at hl1
  generalize dG w t (i+1)=L' at *
  generalize dG w t i=Lo at *
  generalize cZ w t (i+1)=R' at *
  generalize cZ w t i=R at *
  subst hlo;subst hks
  have u1 : IntKind.i64.wrap (k * t)=k * t:=aa (by omega) (by omega)
  have u2 : (k * t).tdiv 256=k * t / 256:=Int.tdiv_eq_ediv_of_nonneg (by omega)
  generalize k * t / 256=p at *
  have u3 : IntKind.i64.wrap p=p:=aa (by omega) (by omega)
  have u4 : IntKind.i64.wrap (k - p)=k - p:=aa (by omega) (by omega)
  have u5 : IntKind.i64.wrap (Lo+p)=Lo+p:=aa (by omega) (by omega)
  have hltR : i < R.length:=by omega
  have hxk : ∀ h,R[i]'h=k:=fun h=>by rw [List.getElem?_eq_getElem h] at hkk;exact Option.some.inj hkk
  with_reducible repeat' (first|refine Sp.h ?_|((first|refine Ss.h ?_|(refine Sb.h ?_ ?_ ?_<;>(try intro hgd)<;>try exact Xy))<;>simp -implicitDefEqProofs (maxSteps:=2000000) [hP,hN,g3,hb3,g11,g12,g13,g6,g1,g2,hbR,hlen,hlt,hltR,hkk,hxk,u1,u2,u3,u4,u5,hwr])|refine X2 ?_ ?_|(refine Xd ?_ ?_<;>intro hcd<;>try exact Xx))
 ·have hin : i=w.length:=by omega
  subst hin
  have hlR:=jM hw.pos ht ht2 w.length
  have hok:=rC hw hq ht ht2
  have hgd : gR w q t=(cZ w t w.length).set q (((cZ w t w.length)[q]?).getD 0+dG w t w.length):=rfl
  have hwq : w[q]?=some w[q]:=List.getElem?_eq_getElem hq
  have hpq:=lB (hw.pos _ (List.getElem_mem hq)) ht ht2
  have hkq : (cZ w t w.length)[q]?=some (w[q] - w[q] * t / 256):=by rw [fv,hwq];simp [hq]
  have hwk : w[q]≤65536:=by
   have a1:=jK hwq
   have a2:=n7 hw.pos q
   have a3:=gz hw.pos (show q+1≤w.length by omega)
   have a4:=hw.tot
   omega
  have htot:=hw.tot
  rw [hkq] at hgd
  simp only [Option.getD_some] at hgd
  have hkr : 0≤w[q] - w[q] * t / 256∧w[q] - w[q] * t / 256≤65536:=by omega
  generalize w[q] - w[q] * t / 256=kq at *
  rw [hgd]
  generalize cZ w t w.length=R at *
  generalize dG w t w.length=Lo at *
  have hltR : q < R.length:=by omega
  have hxk : ∀ h,R[q]'h=kq:=fun h=>by rw [List.getElem?_eq_getElem h] at hkq;exact Option.some.inj hkq
  have u5 : IntKind.i64.wrap (kq+Lo)=kq+Lo:=aa (by omega) (by omega)
  with_reducible repeat' (first|refine Sp.h ?_|((first|refine Ss.h ?_|(refine Sb.h ?_ ?_ ?_<;>(try intro hgd)<;>try exact Xy))<;>simp -implicitDefEqProofs (maxSteps:=2000000) [hP,hN,g3,hb3,g11,g12,g13,g6,g1,g2,hbR,hlen,hq,hltR,hkq,hxk,u5])|refine X2 ?_ ?_|(refine Xd ?_ ?_<;>intro hcd<;>try exact Xx))
  all_goals exact ⟨rfl,⟨_,rfl,_,rfl⟩,by intro kb h;simp at h;subst h;simp⟩
end Go.Ab
namespace Go.Ab
open Go.Proofs
def cO (A : List Vc) (w : List Int) (B' : List Vc) (v : List Int) : Vc:=bk (cN A w A.length) (cN B' v B'.length)
def eG (t : Vc) : Vc:=(t.1.tdiv 65536,t.2.1.tdiv 65536,t.2.2.tdiv 65536)
structure NSt where
 w : List Int
 v : List Int
 n : Vc
 r : Nat
inductive NEnd where
 |stop (kind : Int) (s : NSt)
 |step (s : NSt)
def ju (A B' : List Vc) (rho : Int) (steps : Nat) (s : NSt) : NEnd:=
 if nc (cO A s.w B' s.v) rho=true then .stop 2 s
 else if nz (aV (eG (cO A s.w B' s.v)))=false then .stop 0 ⟨s.w,s.v,aV (eG (cO A s.w B' s.v)),s.r⟩
 else if fQ (aV (eG (cO A s.w B' s.v))) * rho < (ck e8 (aV (eG (cO A s.w B' s.v))) A).1 - (ck fa (aV (eG (cO A s.w B' s.v))) B').1 then .stop 1 ⟨s.w,s.v,aV (eG (cO A s.w B' s.v)),s.r⟩
 else if s.r=steps then .stop 0 ⟨s.w,s.v,aV (eG (cO A s.w B' s.v)),s.r⟩
 else if gP (eG (cO A s.w B' s.v)) (bk ((A[(ck e8 (aV (eG (cO A s.w B' s.v))) A).2]?).getD (0,0,0)) ((B'[(ck fa (aV (eG (cO A s.w B' s.v))) B').2]?).getD (0,0,0)))=0 then .stop 0 ⟨s.w,s.v,aV (eG (cO A s.w B' s.v)),s.r⟩
 else .step ⟨gR s.w (ck e8 (aV (eG (cO A s.w B' s.v))) A).2 (gP (eG (cO A s.w B' s.v)) (bk ((A[(ck e8 (aV (eG (cO A s.w B' s.v))) A).2]?).getD (0,0,0)) ((B'[(ck fa (aV (eG (cO A s.w B' s.v))) B').2]?).getD (0,0,0)))),gR s.v (ck fa (aV (eG (cO A s.w B' s.v))) B').2 (gP (eG (cO A s.w B' s.v)) (bk ((A[(ck e8 (aV (eG (cO A s.w B' s.v))) A).2]?).getD (0,0,0)) ((B'[(ck fa (aV (eG (cO A s.w B' s.v))) B').2]?).getD (0,0,0)))),aV (eG (cO A s.w B' s.v)),s.r+1⟩
def gS (A B' : List Vc) (rho : Int) (steps : Nat) : Nat→NSt→Int × NSt
 |0,s=>(0,s)
 |f+1,s=>match ju A B' rho steps s with
  |.stop k s'=>(k,s')
  |.step s'=>gS A B' rho steps f s'
theorem yN {t : Vc} (h : cL 35184372088832 t) : cL 536870912 (eG t):=by
 have h1 : ∀ x : Int,-35184372088832≤x∧x≤35184372088832→-536870912≤x.tdiv 65536∧x.tdiv 65536≤536870912:=fun x hx=>by
  rcases Int.le_total 0 x with h0|h0
  ·rw [Int.tdiv_eq_ediv_of_nonneg h0];omega
  ·have e : x.tdiv 65536=-((-x).tdiv 65536):=by rw [Int.neg_tdiv,Int.neg_neg]
   rw [e,Int.tdiv_eq_ediv_of_nonneg (by omega)];omega
 exact ⟨h1 _ h.1,h1 _ h.2.1,h1 _ h.2.2⟩
structure NsOk (A B' : List Vc) (s : NSt) : Prop where
 w : WgOk s.w
 v : WgOk s.v
 wl : s.w.length=A.length
 vl : s.v.length=B'.length
theorem fw {l : List Vc} : d8 l=true↔1≤l.length∧l.length≤8∧l.all (aF 268435456)=true:=by
 simp only [d8,Bool.and_eq_true,decide_eq_true_eq,and_assoc]
theorem vW {A B' : List Vc} {s : NSt} (hA : d8 A=true) (hB : d8 B'=true) (hs : NsOk A B' s) : cL 35184372088832 (cO A s.w B' s.v):=by
 rw [fw] at hA hB
 have h1:=ir hA.2.2 hs.w A.length (by rw [hs.wl];exact Nat.le_refl _)
 have h2:=ir hB.2.2 hs.v B'.length (by rw [hs.vl];exact Nat.le_refl _)
 exact n9 h1 h2
theorem kj {bet : Int→Int→Bool} {n : Vc} {l : List Vc} (hl : 1≤l.length) : (ck bet n l).2 < l.length:=rA hl _
abbrev z3 (A : List Vc) (nw : Nat) (B' : List Vc) (nv : Nat) (n : Vc) (r : Nat) : List AV:=[.pv (aT A),.arr 2000000 nw,.pv (aT B'),.arr 2000001 nv,.pv (Z n.1),.pv (Z n.2.1),.pv (Z n.2.2),.pv (Z r)]
abbrev wU (A B' : List Vc) (s : NSt) : List (Nat × Blk):=[(1000000,.box (z3 A s.w.length B' s.v.length s.n s.r) false false),(2000000,.row 2 1 (s.w.map Z) 0),(2000001,.row 2 1 (s.v.map Z) 0)]
theorem o7 : ∀ (k : Nat) (v : Vc),cL (16384 * ((2 ^ k : Nat) : Int)) v→aF 16384 (kx k v)=true
 |0,v,h=>by
  obtain ⟨h1,h2,h3⟩:=h
  simp only [kx]
  rw [bn,aD,aD,aD]
  simp only [Nat.pow_zero] at h1 h2 h3
  exact ⟨by omega,by omega,by omega⟩
 |k+1,v,h=>by
  simp only [kx]
  split
  ·assumption
  ·refine o7 k _ (rX ?_)
   have e : 2 * (16384 * ((2 ^ k : Nat) : Int))=16384 * ((2 ^ (k+1) : Nat) : Int):=by rw [Nat.pow_succ];omega
   rw [e];exact h
theorem uN (v : Vc) (h : cL 1099511627776 v) : aF 16384 (aV v)=true:=o7 64 v (jh h (by decide))
theorem o8 {A B' : List Vc} {rho : Int} {steps : Nat} {s : NSt} (hA : d8 A=true) (hB : d8 B'=true) (hs : NsOk A B' s) : (∀ k s',ju A B' rho steps s=.stop k s'→NsOk A B' s')∧∀ s',ju A B' rho steps s=.step s'→NsOk A B' s':=by
 rw [fw] at hA hB
 unfold ju
 refine ⟨fun k s' h=>?_,fun s' h=>?_⟩
 ·repeat' split at h
  all_goals first
   |(injection h with _ h;subst h;exact hs)
   |(injection h with _ h;subst h;exact ⟨hs.w,hs.v,hs.wl,hs.vl⟩)
   |cases h
 ·repeat' split at h
  all_goals first
   |cases h;done
   |(injection h with h
     subst h
     exact ⟨rC hs.w (by rw [hs.wl];exact kj hA.1) (gQ _ _).1 (gQ _ _).2,rC hs.v (by rw [hs.vl];exact kj hB.1) (gQ _ _).1 (gQ _ _).2,by rw [jr];exact hs.wl,by rw [jr];exact hs.vl⟩)
theorem lC {A B' : List Vc} {rho : Int} {steps : Nat} (hA : d8 A=true) (hB : d8 B'=true) : ∀ (f : Nat) (s : NSt),NsOk A B' s→NsOk A B' (gS A B' rho steps f s).2
 |0,s,hs=>hs
 |f+1,s,hs=>by
  have h:=o8 (rho:=rho) (steps:=steps) hA hB hs
  simp only [gS]
  split
  ·rename_i k s' e;exact h.1 _ _ e
  ·rename_i s' e;exact lC hA hB f s' (h.2 _ e)
theorem qm {n p : Vc} (hn : cL 16384 n) (hp : cL 268435456 p) : -13194139533312≤bw n p∧bw n p≤13194139533312:=by
 obtain ⟨r1,r2,r3⟩:=kh (m:=16384) (n:=268435456) hn hp
 unfold bw;omega
theorem qn {bet : Int→Int→Bool} {n p0 : Vc} {l : List Vc} (hn : cL 16384 n) (hp : cL 268435456 p0) (hl : l.all (aF 268435456)=true) : ∀ i,-13194139533312≤(cH bet n p0 l i).1∧(cH bet n p0 l i).1≤13194139533312
 |0=>qm hn hp
 |i+1=>by
  have ih:=qn (bet:=bet) hn hp hl i
  simp only [cH]
  split
  ·rename_i v hv
   have:=qm hn (ed (List.all_eq_true.1 hl v (List.mem_of_getElem? hv)))
   split
   ·exact this
   ·exact ih
  ·exact ih
theorem yP {v : Vc} (h : aF 16384 v=true) : cL 16384 v:=by
 rw [bn,aD,aD,aD] at h
 exact ⟨⟨by omega,by omega⟩,⟨by omega,by omega⟩,⟨by omega,by omega⟩⟩
theorem o9 {bet : Int→Int→Bool} {n : Vc} {l : List Vc} (hn : aF 16384 n=true) (hl : l.all (aF 268435456)=true) : -13194139533312≤(ck bet n l).1∧(ck bet n l).1≤13194139533312:=by
 refine qn (yP hn) ?_ hl _
 cases h : l[0]? with
 |none=>simp [cL]
 |some p=>exact ed (List.all_eq_true.1 hl p (List.mem_of_getElem? h))
theorem yQ {A B' : List Vc} {s s' : NSt} (hs : NsOk A B' s) (hs' : NsOk A B' s') : OkG (wU A B' s) (wU A B' s'):=by
 constructor
 ·rfl
 ·simp
 ·intro k b h
  simp only [List.mem_cons,Prod.mk.injEq,List.not_mem_nil,or_false] at h
  rcases h with ⟨rfl,rfl⟩|⟨rfl,rfl⟩|⟨rfl,rfl⟩
  all_goals (simp [ew,gl])
 ·intro k b h
  simp only [List.mem_cons,Prod.mk.injEq,List.not_mem_nil,or_false] at h
  rcases h with ⟨rfl,rfl⟩|⟨rfl,rfl⟩|⟨rfl,rfl⟩
  all_goals (simp [ew,gl])
 ·intro k b b' h h'
  have e1:=bY h
  have e2:=bY h'
  simp only [List.mem_cons,Prod.mk.injEq,List.not_mem_nil,or_false] at e1 e2
  rcases e1 with ⟨rfl,rfl⟩|⟨rfl,rfl⟩|⟨rfl,rfl⟩
  ·rcases e2 with ⟨_,rfl⟩|⟨e,_⟩|⟨e,_⟩
   ·rfl
   ·exact absurd e (by decide)
   ·exact absurd e (by decide)
  ·rcases e2 with ⟨e,_⟩|⟨_,rfl⟩|⟨e,_⟩
   ·exact absurd e (by decide)
   ·simp [lc,hs.wl,hs'.wl]
   ·exact absurd e (by decide)
  ·rcases e2 with ⟨e,_⟩|⟨e,_⟩|⟨_,rfl⟩
   ·exact absurd e (by decide)
   ·exact absurd e (by decide)
   ·simp [lc,hs.vl,hs'.vl]
set_option maxRecDepth 4000 in
theorem AW (A B' : List Vc) (rho : Int) (steps : Nat) (s0 : NSt) (hA : d8 A=true) (hB : d8 B'=true) (hr : 0≤rho∧rho≤2097152) (hst : steps≤64) (hs : NsOk A B' s0) (h0 : s0.r=0) : s6 Tryz.prog 236 [.ptr 1000000 0,.pv (Z rho),.pv (Z steps)] (wU A B' s0) (wU A B' (gS A B' rho steps (steps+1) s0).2) (Z (gS A B' rho steps (steps+1) s0).1):=by
 have hend:=lC (rho:=rho) (steps:=steps) hA hB (steps+1) s0 hs
 generalize hRR : gS A B' rho steps (steps+1) s0=RR at *
 have hA':=fw.1 hA
 have hB':=fw.1 hB
 refine sD Tryz.func236 rfl (by kernel_rfl) (by simp [Tryz.f236]) (yQ hs hend) ?_
 intro C hP hN
 simp only [Tryz.f236] at hN ⊢
 with_reducible repeat' (first|refine Sp.h ?_|((first|refine Wd ?_|refine Ss.h ?_|(refine Sb.h ?_ ?_ ?_<;>(try intro hgd)<;>try exact Xy))<;>simp -implicitDefEqProofs (maxSteps:=2000000) [hP,hN,wH,aL]<;>try refine Ya ?_)|refine X2 ?_ ?_|(refine Xd ?_ ?_<;>intro hcd<;>try exact Xx))
 refine WP.loopN [7,8,9] steps (fun i st=>∃ s : NSt,NsOk A B' s∧s.r=i∧gS A B' rho steps (steps+1 - i) s=RR∧st.t 0=.ptr 1000000 0∧st.t 1=.pv (Z rho)∧st.t 2=.pv (Z steps)∧st.h 7=none∧st.h 8=none∧st.h 9=none∧st.h 1000000=some (.box (z3 A s.w.length B' s.v.length s.n s.r) false false)∧st.h 2000000=some (.row 2 1 (s.w.map Z) 0)∧st.h 2000001=some (.row 2 1 (s.v.map Z) 0)) (by refine ⟨s0,hs,h0,hRR,?_⟩;simp) ?_
 rintro i st hi ⟨s,hs,hsr,hrun,g0,g1,g2,hb7,hb8,hb9,hbS,hbW,hbV⟩
 have hTs:=vW hA hB hs
 have hXs:=yN hTs
 have hXs2:=jh hXs (show (536870912 : Int)≤1099511627776 by decide)
 have hnn:=uN _ hXs2
 rw [show steps+1 - i=(steps - i)+1 by omega] at hrun
 simp only [gS] at hrun
 have hRo : ju A B' rho steps s=_:=rfl
 conv at hRo=>rhs;unfold ju
 have c1:=yL A s.w hA'.2.1 hs.wl hA'.2.2 hs.w
 have c2:=yL B' s.v hB'.2.1 hs.vl hB'.2.2 hs.v
 have hS1:=ir hA'.2.2 hs.w A.length (by rw [hs.wl];exact Nat.le_refl _)
 have hS2:=ir hB'.2.2 hs.v B'.length (by rw [hs.vl];exact Nat.le_refl _)
 have c3:=vV _ _ (jh hS1 (by decide)) (jh hS2 (by decide))
 have hTd : bk (cN A s.w A.length) (cN B' s.v B'.length)=cO A s.w B' s.v:=rfl
 rw [hTd] at c3
 have c4:=AT _ rho hTs hr
 have hRk:=o8 (rho:=rho) (steps:=steps) hA hB hs
 generalize cO A s.w B' s.v=T at *
 have c5:=zd _ hXs2
 have hXd : eG T=(T.1.tdiv 65536,T.2.1.tdiv 65536,T.2.2.tdiv 65536):=rfl
 cases hcl : nc T rho with
 |true=>
  rw [hcl] at c4
  rw [if_pos hcl] at hRo
  rw [hRo] at hrun
  simp only at hrun
  subst hrun
  with_reducible repeat' (first|refine Sp.h ?_|((first|refine Wd ?_|refine Ss.h ?_|refine Sc.h (c1) ?_|refine Sc.h (c2) ?_|refine Sc.h (c3) ?_|refine Sc.h (c4) ?_|(refine Sb.h ?_ ?_ ?_<;>(try intro hgd)<;>try exact Xy))<;>simp -implicitDefEqProofs (maxSteps:=2000000) [hP,hN,g0,g1,g2,hb7,hb8,hb9,hbS,hbW,hbV]<;>try refine Ya ?_)|refine X2 ?_ ?_|(refine Xd ?_ ?_<;>intro hcd<;>try exact Xx))
  all_goals exact ⟨rfl,⟨_,rfl,_,rfl⟩,by intro kb h;simp only [List.mem_cons,List.not_mem_nil,or_false] at h;rcases h with rfl|rfl|rfl<;>simp [hbS,hbW,hbV]⟩
 |false=>
  rw [hcl] at c4
  rw [if_neg (by rw [hcl];simp)] at hRo
  have e1 : IntKind.i64.wrap (T.1.tdiv 65536)=T.1.tdiv 65536:=by have:=hXs.1;rw [hXd] at this;simp only at this;exact aa (by omega) (by omega)
  have e2 : IntKind.i64.wrap (T.2.1.tdiv 65536)=T.2.1.tdiv 65536:=by have:=hXs.2.1;rw [hXd] at this;simp only at this;exact aa (by omega) (by omega)
  have e3 : IntKind.i64.wrap (T.2.2.tdiv 65536)=T.2.2.tdiv 65536:=by have:=hXs.2.2;rw [hXd] at this;simp only at this;exact aa (by omega) (by omega)
  generalize aV (eG T)=n at *
  cases hnz : nz n with
  |false=>
   rw [if_pos hnz] at hRo
   rw [hRo] at hrun
   simp only at hrun
   subst hrun
   rw [hnz,hXd] at c5
   with_reducible repeat' (first|refine Sp.h ?_|((first|refine Wd ?_|refine Ss.h ?_|refine Sc.h (c1) ?_|refine Sc.h (c2) ?_|refine Sc.h (c3) ?_|refine Sc.h (c4) ?_|refine Sc.h (c5) ?_|(refine Sb.h ?_ ?_ ?_<;>(try intro hgd)<;>try exact Xy))<;>simp -implicitDefEqProofs (maxSteps:=2000000) [hP,hN,g0,g1,g2,hb7,hb8,hb9,hbS,hbW,hbV,e1,e2,e3]<;>try refine Ya ?_)|refine X2 ?_ ?_|(refine Xd ?_ ?_<;>intro hcd<;>try exact Xx))
   all_goals exact ⟨rfl,⟨_,rfl,_,rfl⟩,by intro kb h;simp only [List.mem_cons,List.not_mem_nil,or_false] at h;rcases h with rfl|rfl|rfl<;>simp [hbS,hbW,hbV]⟩
  |true=>
   rw [if_neg (by rw [hnz];simp)] at hRo
   have c6:=AR n A s.w hnn hA'.1 hA'.2.1 hA'.2.2
   have c7:=AS n B' s.v hnn hB'.1 hB'.2.1 hB'.2.2
   have c8:=ze n
   have hq:=rZ n
   have l1:=o9 (bet:=e8) hnn hA'.2.2
   have l2:=o9 (bet:=fa) hnn hB'.2.2
   have i1:=kj (bet:=e8) (n:=n) hA'.1
   have i2:=kj (bet:=fa) (n:=n) hB'.1
   generalize ck e8 n A=lo at *
   generalize ck fa n B'=hi' at *
   generalize fQ n=q at *
   have hqr:=bq (a:=q) (b:=rho) 32768 2097152 (by omega) (by omega) (by omega) (by omega)
   have e4 : IntKind.i64.wrap (lo.1 - hi'.1)=lo.1 - hi'.1:=aa (by omega) (by omega)
   have e5 : IntKind.i64.wrap (q * rho)=q * rho:=aa (by omega) (by omega)
   generalize hpp : q * rho=qr at *
   obtain ⟨pa,hpa⟩ : ∃ x,A[lo.2]?=some x:=⟨_,List.getElem?_eq_getElem i1⟩
   obtain ⟨pb,hpb⟩ : ∃ x,B'[hi'.2]?=some x:=⟨_,List.getElem?_eq_getElem i2⟩
   have hxa : ∀ h,A[lo.2]'h=pa:=fun h=>by rw [List.getElem?_eq_getElem h] at hpa;exact Option.some.inj hpa
   have hxb : ∀ h,B'[hi'.2]'h=pb:=fun h=>by rw [List.getElem?_eq_getElem h] at hpb;exact Option.some.inj hpb
   have sa:=ed (List.all_eq_true.1 hA'.2.2 pa (List.mem_of_getElem? hpa))
   have sb:=ed (List.all_eq_true.1 hB'.2.2 pb (List.mem_of_getElem? hpb))
   have c9:=vV pa pb (jh sa (by decide)) (jh sb (by decide))
   have sab:=n9 sa sb
   have c10:=AU (eG T) (bk pa pb) hXs sab
   have htr:=gQ (eG T) (bk pa pb)
   rw [hpa,hpb] at hRo
   simp only [Option.getD_some] at hRo
   generalize gP (eG T) (bk pa pb)=t at *
   generalize bk pa pb=pab at *
   rw [hXd] at c5 c10
   rw [hnz] at c5
   by_cases hsep : qr < lo.1 - hi'.1
   ·rw [if_pos hsep] at hRo
    rw [hRo] at hrun
    simp only at hrun
    subst hrun
    with_reducible repeat' (first|refine Sp.h ?_|((first|refine Wd ?_|refine Ss.h ?_|refine Sc.h (c1) ?_|refine Sc.h (c2) ?_|refine Sc.h (c3) ?_|refine Sc.h (c4) ?_|refine Sc.h (c5) ?_|refine Sc.h (c6) ?_|refine Sc.h (c7) ?_|refine Sc.h (c8) ?_|(refine Sb.h ?_ ?_ ?_<;>(try intro hgd)<;>try exact Xy))<;>simp -implicitDefEqProofs (maxSteps:=2000000) [hP,hN,g0,g1,g2,hb7,hb8,hb9,hbS,hbW,hbV,e1,e2,e3,e4,e5,hpp,hsep]<;>try refine Ya ?_)|refine X2 ?_ ?_|(refine Xd ?_ ?_<;>intro hcd<;>try exact Xx))
    all_goals exact ⟨rfl,⟨_,rfl,_,rfl⟩,by intro kb h;simp only [List.mem_cons,List.not_mem_nil,or_false] at h;rcases h with rfl|rfl|rfl<;>simp [hbS,hbW,hbV]⟩
   rw [if_neg hsep] at hRo
   by_cases hstp : s.r=steps
   ·rw [if_pos hstp] at hRo
    rw [hRo] at hrun
    simp only at hrun
    subst hrun
    have hst2 : ((s.r : Int)==(steps : Int))=true:=by simp;omega
    with_reducible repeat' (first|refine Sp.h ?_|((first|refine Wd ?_|refine Ss.h ?_|refine Sc.h (c1) ?_|refine Sc.h (c2) ?_|refine Sc.h (c3) ?_|refine Sc.h (c4) ?_|refine Sc.h (c5) ?_|refine Sc.h (c6) ?_|refine Sc.h (c7) ?_|refine Sc.h (c8) ?_|(refine Sb.h ?_ ?_ ?_<;>(try intro hgd)<;>try exact Xy))<;>simp -implicitDefEqProofs (maxSteps:=2000000) [hP,hN,g0,g1,g2,hb7,hb8,hb9,hbS,hbW,hbV,e1,e2,e3,e4,e5,hpp,hsep,hst2]<;>try refine Ya ?_)|refine X2 ?_ ?_|(refine Xd ?_ ?_<;>intro hcd<;>try exact Xx))
    all_goals exact ⟨rfl,⟨_,rfl,_,rfl⟩,by intro kb h;simp only [List.mem_cons,List.not_mem_nil,or_false] at h;rcases h with rfl|rfl|rfl<;>simp [hbS,hbW,hbV]⟩
   rw [if_neg hstp] at hRo
   have hst2 : ((s.r : Int)==(steps : Int))=false:=by simp;omega
   by_cases ht0 : t=0
   ·rw [if_pos ht0] at hRo
    rw [hRo] at hrun
    simp only at hrun
    subst hrun
    with_reducible repeat' (first|refine Sp.h ?_|((first|refine Wd ?_|refine Ss.h ?_|refine Sc.h (c1) ?_|refine Sc.h (c2) ?_|refine Sc.h (c3) ?_|refine Sc.h (c4) ?_|refine Sc.h (c5) ?_|refine Sc.h (c6) ?_|refine Sc.h (c7) ?_|refine Sc.h (c8) ?_|refine Sc.h (c9) ?_|refine Sc.h (c10) ?_|(refine Sb.h ?_ ?_ ?_<;>(try intro hgd)<;>try exact Xy))<;>simp -implicitDefEqProofs (maxSteps:=2000000) [hP,hN,g0,g1,g2,hb7,hb8,hb9,hbS,hbW,hbV,e1,e2,e3,e4,e5,hpp,hsep,hst2,hpa,hpb,hxa,hxb,i1,i2,ht0]<;>try refine Ya ?_)|refine X2 ?_ ?_|(refine Xd ?_ ?_<;>intro hcd<;>try exact Xx))
    all_goals exact ⟨rfl,⟨_,rfl,_,rfl⟩,by intro kb h;simp only [List.mem_cons,List.not_mem_nil,or_false] at h;rcases h with rfl|rfl|rfl<;>simp [hbS,hbW,hbV]⟩
   rw [if_neg ht0] at hRo
   have hok:=hRk.2 _ hRo
   rw [hRo] at hrun
   simp only at hrun
   have ht2 : (t==0)=false:=by simp;omega
   have hgL:=yM A s.w lo.2 t (by rw [hs.wl];exact hA'.2.1) hs.w (by rw [hs.wl];exact i1) htr.1 htr.2
   have hgR:=yM B' s.v hi'.2 t (by rw [hs.vl];exact hB'.2.1) hs.v (by rw [hs.vl];exact i2) htr.1 htr.2
   with_reducible repeat' (first|refine Sp.h ?_|((refine WP.share (hn:=[]) (pre:=[_,_,_,_,_,_,_]) (post:=[]) rfl rfl rfl ?_);simp -implicitDefEqProofs (maxSteps:=2000000) [hP,hN,g0,g1,g2,hb7,hb8,hb9,hbS,hbW,hbV,e1,e2,e3,e4,e5,hpp,hsep,hst2,hpa,hpb,hxa,hxb,i1,i2,ht0,ht2])|((first|refine Wd ?_|refine Ss.h ?_|refine Sc.h (c1) ?_|refine Sc.h (c2) ?_|refine Sc.h (c3) ?_|refine Sc.h (c4) ?_|refine Sc.h (c5) ?_|refine Sc.h (c6) ?_|refine Sc.h (c7) ?_|refine Sc.h (c8) ?_|refine Sc.h (c9) ?_|refine Sc.h (c10) ?_|(refine Sb.h ?_ ?_ ?_<;>(try intro hgd)<;>try exact Xy))<;>simp -implicitDefEqProofs (maxSteps:=2000000) [hP,hN,g0,g1,g2,hb7,hb8,hb9,hbS,hbW,hbV,e1,e2,e3,e4,e5,hpp,hsep,hst2,hpa,hpb,hxa,hxb,i1,i2,ht0,ht2]<;>try refine Ya ?_)|refine X2 ?_ ?_|(refine Xd ?_ ?_<;>intro hcd<;>try exact Xx))
   simp only [ov,hP]
   refine ⟨_,_,_,_,_,fun _=>2000000,rfl,hgL,rfl,?_⟩
   refine ⟨by simp [pA,eV],by simp [sC,gl],by simp,by intro kb h;simp only [List.mem_cons,List.not_mem_nil,or_false] at h;subst h;simp [hbW,dx],by rw [hN];rfl,?_⟩
   simp -implicitDefEqProofs (maxSteps:=2000000) [hP,hN,dn,dx,cJ,hbW]
   with_reducible repeat' (first|refine Sp.h ?_|((refine WP.share (hn:=[]) (pre:=[_,_,_,_,_,_,_]) (post:=[]) rfl rfl rfl ?_);simp -implicitDefEqProofs (maxSteps:=2000000) [hP,hN,g0,g1,g2,hb7,hb8,hb9,hbS,hbW,hbV,dn,dx,e1,e2,e3,e4,e5,hpp,hsep,hst2,hpa,hpb,hxa,hxb,i1,i2,ht0,ht2])|((first|refine Wd ?_|refine Ss.h ?_|refine Sc.h (c1) ?_|refine Sc.h (c2) ?_|refine Sc.h (c3) ?_|refine Sc.h (c4) ?_|refine Sc.h (c5) ?_|refine Sc.h (c6) ?_|refine Sc.h (c7) ?_|refine Sc.h (c8) ?_|refine Sc.h (c9) ?_|refine Sc.h (c10) ?_|(refine Sb.h ?_ ?_ ?_<;>(try intro hgd)<;>try exact Xy))<;>simp -implicitDefEqProofs (maxSteps:=2000000) [hP,hN,g0,g1,g2,hb7,hb8,hb9,hbS,hbW,hbV,dn,dx,e1,e2,e3,e4,e5,hpp,hsep,hst2,hpa,hpb,hxa,hxb,i1,i2,ht0,ht2]<;>try refine Ya ?_)|refine X2 ?_ ?_|(refine Xd ?_ ?_<;>intro hcd<;>try exact Xx))
   simp only [ov,hP]
   refine ⟨_,_,_,_,_,fun _=>2000001,rfl,hgR,rfl,?_⟩
   refine ⟨by simp [pA,eV],by simp [sC,gl],by simp,by intro kb h;simp only [List.mem_cons,List.not_mem_nil,or_false] at h;subst h;simp [hbV,dx],by rw [hN];rfl,?_⟩
   simp -implicitDefEqProofs (maxSteps:=2000000) [hP,hN,dn,dx,cJ,hbW,hbV]
   have hwr : IntKind.i64.wrap ((s.r : Int)+1)=(s.r : Int)+1:=aa (by omega) (by omega)
   with_reducible repeat' (first|refine Sp.h ?_|((first|refine Wd ?_|refine Ss.h ?_|refine Sc.h (c1) ?_|(refine Sb.h ?_ ?_ ?_<;>(try intro hgd)<;>try exact Xy))<;>simp -implicitDefEqProofs (maxSteps:=2000000) [hP,hN,g0,g1,g2,hb7,hb8,hb9,hbS,hbW,hbV,hwr,dn,dx,e1,e2,e3,e4,e5,hpp,hsep,hst2,hpa,hpb,hxa,hxb,i1,i2,ht0,ht2]<;>try refine Ya ?_)|refine X2 ?_ ?_|(refine Xd ?_ ?_<;>intro hcd<;>try exact Xx))
   refine ⟨by omega,⟨gR s.w lo.2 t,gR s.v hi'.2 t,n,s.r+1⟩,hok,by simp only;omega,hrun,⟨(jr _ _ _).symm,(jr _ _ _).symm,rfl,rfl,rfl,by simp only;omega⟩,rfl,rfl⟩
end Go.Ab
namespace Go.Ab
open Go.Proofs
def nI (a b : List Vc) : NSt:=⟨(List.replicate a.length 0).set 0 65536,(List.replicate b.length 0).set 0 65536,(0,0,0),0⟩
theorem wV {n : Nat} (h : 1≤n) : WgOk ((List.replicate n 0).set 0 65536):=by
 constructor
 ·intro k hk
  rcases List.mem_or_eq_of_mem_set hk with h|rfl
  ·have:=List.eq_of_mem_replicate h;omega
  ·decide
 ·rw [oc,pU (y:=0) (by rw [List.getElem?_replicate,if_pos (by omega)])]
  have : (List.replicate n (0 : Int)).sum=0:=by simp
  omega
theorem uO {a b : List Vc} (ha : 1≤a.length) (hb : 1≤b.length) : NsOk a b (nI a b):=⟨wV ha,wV hb,by simp [nI],by simp [nI]⟩
def qI (a b : List Vc) (rho steps : Int) : Bool:=d8 a && d8 b && bj rho 0 2097152 && bj steps 0 64
def iF (a b : List Vc) (rho steps : Int) : Int × NSt:=if qI a b rho steps then gS a b rho steps.toNat (steps.toNat+1) (nI a b) else (0,⟨[],[],(0,0,0),0⟩)
abbrev zD (x : Int × NSt) : PV:=.agg [Z x.1,Z x.2.n.1,Z x.2.n.2.1,Z x.2.n.2.2,zs x.2.w,zs x.2.v,Z x.2.r]
theorem yR (a b : List Vc) (rho steps : Int) (ha : a.length≤9223372036854775807) (hb : b.length≤9223372036854775807) : ab Tryz.prog 122 [.pv (aT a),.pv (aT b),.pv (Z rho),.pv (Z steps)] [] [] (.pv (zD (iF a b rho steps))):=by
 have cua:=yJ a ha
 have cub:=yJ b hb
 have hB : qI a b rho steps=(d8 a && d8 b && bj rho 0 2097152 && bj steps 0 64):=rfl
 have hR : iF a b rho steps=if qI a b rho steps then gS a b rho steps.toNat (steps.toNat+1) (nI a b) else (0,⟨[],[],(0,0,0),0⟩):=rfl
 cases hua : d8 a with
 |false=>
  rw [hua] at cua hB
  simp only [Bool.false_and] at hB
  rw [hB] at hR
  simp only [Bool.false_eq_true,if_false] at hR
  rw [hR]
  refine Dp Tryz.func122 ?_
  intro C hP hN
  simp only [Tryz.f122] at hN ⊢
  with_reducible repeat' (first|refine Sp.h ?_|((first|refine Ss.h ?_|refine Sc.h (cua) ?_|refine Sc.h (cub) ?_|(refine Sb.h ?_ ?_ ?_<;>(try intro hgd)<;>try exact Xy))<;>simp -implicitDefEqProofs (maxSteps:=2000000) [hP,hN])|refine X2 ?_ ?_|(refine Xd ?_ ?_<;>intro hcd<;>try exact Xx))
 |true=>
 cases hub : d8 b with
 |false=>
  rw [hua] at cua hB
  rw [hub] at cub hB
  simp only [Bool.and_false,Bool.false_and] at hB
  rw [hB] at hR
  simp only [Bool.false_eq_true,if_false] at hR
  rw [hR]
  refine Dp Tryz.func122 ?_
  intro C hP hN
  simp only [Tryz.f122] at hN ⊢
  with_reducible repeat' (first|refine Sp.h ?_|((first|refine Ss.h ?_|refine Sc.h (cua) ?_|refine Sc.h (cub) ?_|(refine Sb.h ?_ ?_ ?_<;>(try intro hgd)<;>try exact Xy))<;>simp -implicitDefEqProofs (maxSteps:=2000000) [hP,hN])|refine X2 ?_ ?_|(refine Xd ?_ ?_<;>intro hcd<;>try exact Xx))
 |true=>
 rw [hua] at cua hB
 rw [hub] at cub hB
 simp only [Bool.and_self,Bool.true_and] at hB
 by_cases hg : rho < 0∨2097152 < rho∨steps < 0∨64 < steps
 ·have hf : (bj rho 0 2097152 && bj steps 0 64)=false:=by
   simp only [bj]
   rcases hg with h|h|h|h
   ·rw [decide_eq_false (show ¬ 0≤rho by omega)];simp
   ·rw [decide_eq_false (show ¬ rho≤2097152 by omega)];simp
   ·rw [decide_eq_false (show ¬ 0≤steps by omega)];simp
   ·rw [decide_eq_false (show ¬ steps≤64 by omega)];simp
  rw [hf] at hB
  rw [hB] at hR
  simp only [Bool.false_eq_true,if_false] at hR
  rw [hR]
  rcases hg with h|h|h|h
  ·skip
   refine Dp Tryz.func122 ?_
   intro C hP hN
   simp only [Tryz.f122] at hN ⊢
   with_reducible repeat' (first|refine Sp.h ?_|((first|refine Ss.h ?_|refine Sc.h (cua) ?_|refine Sc.h (cub) ?_|(refine Sb.h ?_ ?_ ?_<;>(try intro hgd)<;>try exact Xy))<;>simp -implicitDefEqProofs (maxSteps:=2000000) [hP,hN,h])|refine X2 ?_ ?_|(refine Xd ?_ ?_<;>intro hcd<;>try exact Xx))
  ·skip
   refine Dp Tryz.func122 ?_
   intro C hP hN
   simp only [Tryz.f122] at hN ⊢
   with_reducible repeat' (first|refine Sp.h ?_|((first|refine Ss.h ?_|refine Sc.h (cua) ?_|refine Sc.h (cub) ?_|(refine Sb.h ?_ ?_ ?_<;>(try intro hgd)<;>try exact Xy))<;>simp -implicitDefEqProofs (maxSteps:=2000000) [hP,hN,h])|refine X2 ?_ ?_|(refine Xd ?_ ?_<;>intro hcd<;>try exact Xx))
  ·skip
   refine Dp Tryz.func122 ?_
   intro C hP hN
   simp only [Tryz.f122] at hN ⊢
   with_reducible repeat' (first|refine Sp.h ?_|((first|refine Ss.h ?_|refine Sc.h (cua) ?_|refine Sc.h (cub) ?_|(refine Sb.h ?_ ?_ ?_<;>(try intro hgd)<;>try exact Xy))<;>simp -implicitDefEqProofs (maxSteps:=2000000) [hP,hN,h])|refine X2 ?_ ?_|(refine Xd ?_ ?_<;>intro hcd<;>try exact Xx))
  ·skip
   refine Dp Tryz.func122 ?_
   intro C hP hN
   simp only [Tryz.f122] at hN ⊢
   with_reducible repeat' (first|refine Sp.h ?_|((first|refine Ss.h ?_|refine Sc.h (cua) ?_|refine Sc.h (cub) ?_|(refine Sb.h ?_ ?_ ?_<;>(try intro hgd)<;>try exact Xy))<;>simp -implicitDefEqProofs (maxSteps:=2000000) [hP,hN,h])|refine X2 ?_ ?_|(refine Xd ?_ ?_<;>intro hcd<;>try exact Xx))
 have hf : (bj rho 0 2097152 && bj steps 0 64)=true:=by
  simp only [bj,Bool.and_eq_true,decide_eq_true_eq];omega
 rw [hf] at hB
 rw [hB] at hR
 simp only [if_true] at hR
 obtain ⟨m,hm⟩ : ∃ m : Nat,steps=m:=⟨steps.toNat,by omega⟩
 subst hm
 simp only [Int.toNat_natCast] at hR
 have ia:=fw.1 hua
 have ib:=fw.1 hub
 have c1:=wS a ia.1 ia.2.1
 have c2:=wS b ib.1 ib.2.1
 have hs0:=uO ia.1 ib.1
 have hend:=lC (rho:=rho) (steps:=m) hua hub (m+1) (nI a b) hs0
 have hgr:=AW a b rho m (nI a b) hua hub (by omega) (by omega) hs0 rfl
 generalize gS a b rho m (m+1) (nI a b)=RR at *
 rw [hR]
 have h1 : ¬ rho < 0:=by omega
 have h2 : ¬ 2097152 < rho:=by omega
 have h3 : ¬ (m : Int) < 0:=by omega
 have h4 : ¬ 64 < (m : Int):=by omega
 refine Dp Tryz.func122 ?_
 intro C hP hN
 simp only [Tryz.f122] at hN ⊢
 with_reducible repeat' (first|refine Sp.h ?_|((refine WP.share (hn:=[]) (pre:=[_,_]) (post:=[_]) rfl rfl rfl ?_);simp -implicitDefEqProofs (maxSteps:=2000000) [hP,hN,h1,h2,h4])|((first|refine Ss.h ?_|refine Sc.h (cua) ?_|refine Sc.h (cub) ?_|refine Sc.h (c1) ?_|refine Sc.h (c2) ?_|(refine Sb.h ?_ ?_ ?_<;>(try intro hgd)<;>try exact Xy))<;>simp -implicitDefEqProofs (maxSteps:=2000000) [hP,hN,h1,h2,h4])|refine X2 ?_ ?_|(refine Xd ?_ ?_<;>intro hcd<;>try exact Xx))
 simp only [ov,hP]
 refine ⟨_,_,_,_,_,fun q=>if q=1000000 then 9 else if q=2000000 then 37 else 40,rfl,hgr,rfl,?_⟩
 refine ⟨by simp [pA,eV],by simp [sC,gl],by simp,by intro kb h;simp only [List.mem_cons,List.not_mem_nil,or_false] at h;rcases h with rfl|rfl|rfl<;>simp [dx,eV,fF,nI],by rw [hN];rfl,?_⟩
 simp -implicitDefEqProofs (maxSteps:=2000000) [hP,hN,dn,dx,eV,fF]
 have hwl:=hend.wl
 have hvl:=hend.vl
 with_reducible repeat' (first|refine Sp.h ?_|((first|refine Ss.h ?_|(refine Sb.h ?_ ?_ ?_<;>(try intro hgd)<;>try exact Xy))<;>simp -implicitDefEqProofs (maxSteps:=2000000) [hP,hN,dn,dx,eV,fF,hwl,hvl])|refine X2 ?_ ?_|(refine Xd ?_ ?_<;>intro hcd<;>try exact Xx))
end Go.Ab
namespace Go.Ab
open Go.Proofs
def e7 (n : Nat) (l : Int) : Bool:=decide (-1≤l) && decide (l < n)
theorem rS (s : Sce) (l : Int) (hl : s.js.length≤9223372036854775807) : ab Tryz.prog 223 [.pv (de s),.pv (Z l)] [] [] (.pv (B (e7 s.js.length l))):=by
 refine Dp Tryz.func223 ?_
 intro C hP hN
 simp only [Tryz.f223] at hN ⊢
 with_reducible repeat' (first|refine Sp.h ?_|((first|refine Ss.h ?_|(refine Sb.h ?_ ?_ ?_<;>(try intro hgd)<;>try exact Xy))<;>simp -implicitDefEqProofs (maxSteps:=2000000) [hP,hN])|refine X2 ?_ ?_|(refine Xd ?_ ?_<;>intro hcd<;>try exact Xx))
 all_goals (simp only [e7,decide_eq_true_eq,decide_eq_false_iff_not] at *;first|done|(simp;intros;omega)|(simp;omega)|omega)
def cE (n : Nat) (h : Sh) : Int:=if (e7 n h.link && decide (1≤h.rad) && decide (h.rad≤1048576) && decide (1≤h.pts.length) && decide (h.pts.length≤8))=true then (if h.pts.all (aF 4194304)=true then 0 else 805) else 902
theorem BF (s : Sce) (h : Sh) (hl : s.js.length≤9223372036854775807) (hl2 : h.pts.length≤9223372036854775807) : ab Tryz.prog 222 [.pv (de s),.pv (dc h)] [] [] (.pv (Z (cE s.js.length h))):=by
 have ci:=rS s h.link hl
 cases hk : e7 s.js.length h.link with
 |false=>
  have hf : cE s.js.length h=902:=by simp [cE,hk]
  rw [hf];rw [hk] at ci
  refine Dp Tryz.func222 ?_
  intro C hP hN
  simp only [Tryz.f222] at hN ⊢
  with_reducible repeat' (first|refine Sp.h ?_|((first|refine Ss.h ?_|refine Sc.h (ci) ?_|(refine Sb.h ?_ ?_ ?_<;>(try intro hgd)<;>try exact Xy))<;>simp -implicitDefEqProofs (maxSteps:=2000000) [hP,hN])|refine X2 ?_ ?_|(refine Xd ?_ ?_<;>intro hcd<;>try exact Xx))
 |true=>
 rw [hk] at ci
 by_cases hh : h.rad < 1∨1048576 < h.rad∨(h.pts.length : Int) < 1∨(8 : Int) < h.pts.length
 ·have hf : cE s.js.length h=902:=by
   unfold cE
   rw [if_neg]
   simp only [Bool.and_eq_true,decide_eq_true_eq]
   rintro ⟨⟨⟨⟨b0,b1⟩,b2⟩,b3⟩,b4⟩
   omega
  rw [hf]
  rcases hh with h1|h1|h1|h1
  ·skip
   refine Dp Tryz.func222 ?_
   intro C hP hN
   simp only [Tryz.f222] at hN ⊢
   with_reducible repeat' (first|refine Sp.h ?_|((first|refine Ss.h ?_|refine Sc.h (ci) ?_|(refine Sb.h ?_ ?_ ?_<;>(try intro hgd)<;>try exact Xy))<;>simp -implicitDefEqProofs (maxSteps:=2000000) [hP,hN,h1])|refine X2 ?_ ?_|(refine Xd ?_ ?_<;>intro hcd<;>try exact Xx))
  ·skip
   refine Dp Tryz.func222 ?_
   intro C hP hN
   simp only [Tryz.f222] at hN ⊢
   with_reducible repeat' (first|refine Sp.h ?_|((first|refine Ss.h ?_|refine Sc.h (ci) ?_|(refine Sb.h ?_ ?_ ?_<;>(try intro hgd)<;>try exact Xy))<;>simp -implicitDefEqProofs (maxSteps:=2000000) [hP,hN,h1])|refine X2 ?_ ?_|(refine Xd ?_ ?_<;>intro hcd<;>try exact Xx))
  ·skip
   refine Dp Tryz.func222 ?_
   intro C hP hN
   simp only [Tryz.f222] at hN ⊢
   with_reducible repeat' (first|refine Sp.h ?_|((first|refine Ss.h ?_|refine Sc.h (ci) ?_|(refine Sb.h ?_ ?_ ?_<;>(try intro hgd)<;>try exact Xy))<;>simp -implicitDefEqProofs (maxSteps:=2000000) [hP,hN,h1])|refine X2 ?_ ?_|(refine Xd ?_ ?_<;>intro hcd<;>try exact Xx))
  ·skip
   refine Dp Tryz.func222 ?_
   intro C hP hN
   simp only [Tryz.f222] at hN ⊢
   with_reducible repeat' (first|refine Sp.h ?_|((first|refine Ss.h ?_|refine Sc.h (ci) ?_|(refine Sb.h ?_ ?_ ?_<;>(try intro hgd)<;>try exact Xy))<;>simp -implicitDefEqProofs (maxSteps:=2000000) [hP,hN,h1])|refine X2 ?_ ?_|(refine Xd ?_ ?_<;>intro hcd<;>try exact Xx))
 have h1 : ¬ h.rad < 1:=by omega
 have h2 : ¬ 1048576 < h.rad:=by omega
 have h3 : ¬ (h.pts.length : Int) < 1:=by omega
 have h4 : ¬ (8 : Int) < h.pts.length:=by omega
 have h3' : ¬ h.pts.length < 1:=by omega
 have h4' : ¬ 8 < h.pts.length:=by omega
 have hf : cE s.js.length h=if h.pts.all (aF 4194304)=true then 0 else 805:=by
  unfold cE
  rw [if_pos]
  simp only [Bool.and_eq_true,decide_eq_true_eq]
  exact ⟨⟨⟨⟨hk,by omega⟩,by omega⟩,by omega⟩,by omega⟩
 rw [hf]
 refine Dp Tryz.func222 ?_
 intro C hP hN
 simp only [Tryz.f222] at hN ⊢
 cases hall : h.pts.all (aF 4194304) with
 |true=>
  with_reducible repeat' (first|refine Sp.h ?_|((first|refine Ss.h ?_|refine Sc.h (ci) ?_|(refine Sb.h ?_ ?_ ?_<;>(try intro hgd)<;>try exact Xy))<;>simp -implicitDefEqProofs (maxSteps:=2000000) [hP,hN,hall,h1,h2,h3,h4,h3',h4'])|refine X2 ?_ ?_|(refine Xd ?_ ?_<;>intro hcd<;>try exact Xx))
  refine WP.loopN [7] h.pts.length (fun i st=>True∧st.t 37=.pv (aT h.pts)∧st.t 38=.pv (Z h.pts.length)∧st.t 39=.pv (Z i)∧st.h 7=none) (by simp) ?_
  rintro i st hi ⟨g1,gL,gN,gI,hbx⟩
  by_cases hlt : i < h.pts.length
  ·have hw:=aJ hlt (by omega)
   have hv:=bn.1 (List.all_eq_true.1 hall _ (List.getElem_mem hlt))
   obtain ⟨hv1,hv2,hv3⟩:=hv
   rw [aD] at hv1 hv2 hv3
   generalize hxe : h.pts[i]=v at *
   have hx : h.pts[i]?=some v:=by rw [List.getElem?_eq_getElem hlt,hxe]
   with_reducible repeat' (first|refine Sp.h ?_|((first|refine Ss.h ?_|(refine Sb.h ?_ ?_ ?_<;>(try intro hgd)<;>try exact Xy))<;>simp -implicitDefEqProofs (maxSteps:=2000000) [hP,hN,g1,gL,gN,gI,hbx,hlt,hx,hxe])|refine X2 ?_ ?_|(refine Xd ?_ ?_<;>intro hcd<;>try exact Xx))
   refine WP.loopN [] 3 (fun k st=>True∧st.t 37=.pv (aT h.pts)∧st.t 38=.pv (Z h.pts.length)∧st.t 39=.pv (Z i)∧st.t 43=.pv (av v)∧st.t 44=.pv (Z k)) (by simp [g1,gL,gN,gI]) ?_
   clear g1 gL gN gI hbx
   rintro k st hk ⟨g1,gL,gN,gI,gA,gK⟩
   rcases bh hk with rfl|rfl|rfl|rfl
   ·skip
    with_reducible repeat' (first|refine Sp.h ?_|((first|refine Ss.h ?_|(refine Sb.h ?_ ?_ ?_<;>(try intro hgd)<;>try exact Xy))<;>simp -implicitDefEqProofs (maxSteps:=2000000) [hP,hN,g1,gL,gN,gI,gA,gK,hv1,hv2,hv3,hw])|refine X2 ?_ ?_|(refine Xd ?_ ?_<;>intro hcd<;>try exact Xx))
   ·skip
    with_reducible repeat' (first|refine Sp.h ?_|((first|refine Ss.h ?_|(refine Sb.h ?_ ?_ ?_<;>(try intro hgd)<;>try exact Xy))<;>simp -implicitDefEqProofs (maxSteps:=2000000) [hP,hN,g1,gL,gN,gI,gA,gK,hv1,hv2,hv3,hw])|refine X2 ?_ ?_|(refine Xd ?_ ?_<;>intro hcd<;>try exact Xx))
   ·skip
    with_reducible repeat' (first|refine Sp.h ?_|((first|refine Ss.h ?_|(refine Sb.h ?_ ?_ ?_<;>(try intro hgd)<;>try exact Xy))<;>simp -implicitDefEqProofs (maxSteps:=2000000) [hP,hN,g1,gL,gN,gI,gA,gK,hv1,hv2,hv3,hw])|refine X2 ?_ ?_|(refine Xd ?_ ?_<;>intro hcd<;>try exact Xx))
   ·skip
    with_reducible repeat' (first|refine Sp.h ?_|((first|refine Ss.h ?_|(refine Sb.h ?_ ?_ ?_<;>(try intro hgd)<;>try exact Xy))<;>simp -implicitDefEqProofs (maxSteps:=2000000) [hP,hN,g1,gL,gN,gI,gA,gK,hlt,hw])|refine X2 ?_ ?_|(refine Xd ?_ ?_<;>intro hcd<;>try exact Xx))
  ·skip
   with_reducible repeat' (first|refine Sp.h ?_|((first|refine Ss.h ?_|(refine Sb.h ?_ ?_ ?_<;>(try intro hgd)<;>try exact Xy))<;>simp -implicitDefEqProofs (maxSteps:=2000000) [hP,hN,g1,gL,gN,gI,hbx,hlt])|refine X2 ?_ ?_|(refine Xd ?_ ?_<;>intro hcd<;>try exact Xx))
 |false=>
  with_reducible repeat' (first|refine Sp.h ?_|((first|refine Ss.h ?_|refine Sc.h (ci) ?_|(refine Sb.h ?_ ?_ ?_<;>(try intro hgd)<;>try exact Xy))<;>simp -implicitDefEqProofs (maxSteps:=2000000) [hP,hN,hall,h1,h2,h3,h4,h3',h4'])|refine X2 ?_ ?_|(refine Xd ?_ ?_<;>intro hcd<;>try exact Xx))
  refine WP.loopN [7] h.pts.length (fun i st=>True∧st.t 37=.pv (aT h.pts)∧st.t 38=.pv (Z h.pts.length)∧st.t 39=.pv (Z i)∧st.h 7=none∧∀ k x,k < i→h.pts[k]?=some x→aF 4194304 x=true) (by simp) ?_
  rintro i st hi ⟨g1,gL,gN,gI,hbx,hq⟩
  by_cases hlt : i < h.pts.length
  ·have hw:=aJ hlt (by omega)
   generalize hxe : h.pts[i]=v at *
   have hx : h.pts[i]?=some v:=by rw [List.getElem?_eq_getElem hlt,hxe]
   have hst:=mM (p:=aF 4194304) hx hq
   with_reducible repeat' (first|refine Sp.h ?_|((first|refine Ss.h ?_|(refine Sb.h ?_ ?_ ?_<;>(try intro hgd)<;>try exact Xy))<;>simp -implicitDefEqProofs (maxSteps:=2000000) [hP,hN,g1,gL,gN,gI,hbx,hlt,hx,hxe])|refine X2 ?_ ?_|(refine Xd ?_ ?_<;>intro hcd<;>try exact Xx))
   refine WP.loopN [] 3 (fun k st=>True∧st.t 37=.pv (aT h.pts)∧st.t 38=.pv (Z h.pts.length)∧st.t 39=.pv (Z i)∧st.t 43=.pv (av v)∧st.t 44=.pv (Z k)∧(0 < k→cS v.1 4194304=true)∧(1 < k→cS v.2.1 4194304=true)∧(2 < k→cS v.2.2 4194304=true)) (by simp [g1,gL,gN,gI]) ?_
   clear g1 gL gN gI hbx hq
   rintro k st hk ⟨g1,gL,gN,gI,gA,gK,q0,q1,q2⟩
   rcases bh hk with rfl|rfl|rfl|rfl
   ·skip
    with_reducible repeat' (first|refine Sp.h ?_|((first|refine Ss.h ?_|(refine Sb.h ?_ ?_ ?_<;>(try intro hgd)<;>try exact Xy))<;>simp -implicitDefEqProofs (maxSteps:=2000000) [hP,hN,g1,gL,gN,gI,gA,gK,hw])|refine X2 ?_ ?_|(refine Xd ?_ ?_<;>intro hcd<;>try exact Xx))
    all_goals (try (rw [aD];simp only [decide_eq_false_iff_not,decide_eq_true_eq] at hgd hcd;omega))
   ·skip
    with_reducible repeat' (first|refine Sp.h ?_|((first|refine Ss.h ?_|(refine Sb.h ?_ ?_ ?_<;>(try intro hgd)<;>try exact Xy))<;>simp -implicitDefEqProofs (maxSteps:=2000000) [hP,hN,g1,gL,gN,gI,gA,gK,hw])|refine X2 ?_ ?_|(refine Xd ?_ ?_<;>intro hcd<;>try exact Xx))
    all_goals (try (exact ⟨q0 (by omega),by rw [aD];simp only [decide_eq_false_iff_not,decide_eq_true_eq] at hgd hcd;omega⟩))
   ·skip
    with_reducible repeat' (first|refine Sp.h ?_|((first|refine Ss.h ?_|(refine Sb.h ?_ ?_ ?_<;>(try intro hgd)<;>try exact Xy))<;>simp -implicitDefEqProofs (maxSteps:=2000000) [hP,hN,g1,gL,gN,gI,gA,gK,hw])|refine X2 ?_ ?_|(refine Xd ?_ ?_<;>intro hcd<;>try exact Xx))
    all_goals (try (exact ⟨q0 (by omega),q1 (by omega),by rw [aD];simp only [decide_eq_false_iff_not,decide_eq_true_eq] at hgd hcd;omega⟩))
   ·have hn : aF 4194304 v=true:=bn.2 ⟨q0 (by omega),q1 (by omega),q2 (by omega)⟩
    have hst':=hst hn
    with_reducible repeat' (first|refine Sp.h ?_|((first|refine Ss.h ?_|(refine Sb.h ?_ ?_ ?_<;>(try intro hgd)<;>try exact Xy))<;>simp -implicitDefEqProofs (maxSteps:=2000000) [hP,hN,g1,gL,gN,gI,gA,gK,hlt,hw])|refine X2 ?_ ?_|(refine Xd ?_ ?_<;>intro hcd<;>try exact Xx))
    all_goals (try exact fun k a b c=>hst' k (a,b,c))
  ·have:=oe hq hlt
   rw [this] at hall;cases hall
def dv (n : Nat) (shs : List Sh) : Int:=match (shs.map (cE n)).find? (fun e=>e !=0) with
 |some e=>e
 |none=>0
theorem qA {n : Nat} {shs : List Sh} {i : Nat} (hlt : i < shs.length) (hq : ∀ k x,k < i→shs[k]?=some x→cE n x=0) (he : cE n shs[i]≠0) : dv n shs=cE n shs[i]:=by
 have : (shs.map (cE n)).find? (fun e=>e !=0)=some (cE n shs[i]):=by
  rw [List.find?_eq_some_iff_getElem]
  refine ⟨by simpa using he,i,by simpa using hlt,by simp,fun k hk=>?_⟩
  have hkl : k < shs.length:=by omega
  simp [hq k shs[k] hk (List.getElem?_eq_getElem hkl)]
 rw [dv,this]
theorem rT {n : Nat} {shs : List Sh} (hq : ∀ (k : Nat) x,shs[k]?=some x→cE n x=0) : dv n shs=0:=by
 have : (shs.map (cE n)).find? (fun e=>e !=0)=none:=by
  rw [List.find?_eq_none]
  intro e he
  simp only [List.mem_map] at he
  obtain ⟨x,hx,rfl⟩:=he
  obtain ⟨k,hk⟩:=List.getElem?_of_mem hx
  simp [hq k x hk]
 rw [dv,this]
def kt (n : Nat) (p : Int × Int) : Bool:=e7 n p.1 && e7 n p.2
def cG (s : Sce) : Int:=if dC s.js s.ms≠0 then dC s.js s.ms else if 24 < s.shs.length then 901 else if dv s.js.length s.shs≠0 then dv s.js.length s.shs else if 64 < s.sks.length then 903 else if s.sks.all (kt s.js.length)=true then 0 else 903
structure ScL (s : Sce) : Prop where
 js : s.js.length≤9223372036854775807
 ms : s.ms.length≤9223372036854775807
 shs : s.shs.length≤9223372036854775807
 sks : s.sks.length≤9223372036854775807
 pts : ∀ h ∈ s.shs,h.pts.length≤9223372036854775807
theorem wo (s : Sce) (hs : ScL s) : ab Tryz.prog 110 [.pv (de s)] [] [] (.pv (Z (cG s))):=by
 have cr:=AH s.js s.ms hs.js hs.ms
 obtain ⟨l1,l2,l3,l4,l5⟩:=hs
 by_cases h0 : dC s.js s.ms=0
 case neg=>
  have hf : cG s=dC s.js s.ms:=by simp [cG,h0]
  have h0' : (dC s.js s.ms !=0)=true:=by simp [h0]
  rw [hf]
  generalize dC s.js s.ms=r at *
  refine Dp Tryz.func110 ?_
  intro C hP hN
  simp only [Tryz.f110] at hN ⊢
  with_reducible repeat' (first|refine Sp.h ?_|((first|refine Ss.h ?_|refine Sc.h (cr) ?_|(refine Sb.h ?_ ?_ ?_<;>(try intro hgd)<;>try exact Xy))<;>simp -implicitDefEqProofs (maxSteps:=2000000) [hP,hN,h0',h0])|refine X2 ?_ ?_|(refine Xd ?_ ?_<;>intro hcd<;>try exact Xx))
 rw [h0] at cr
 by_cases h1 : 24 < s.shs.length
 ·have hf : cG s=901:=by simp [cG,h0,h1]
  have h1' : (24 : Int) < s.shs.length:=by omega
  rw [hf]
  refine Dp Tryz.func110 ?_
  intro C hP hN
  simp only [Tryz.f110] at hN ⊢
  with_reducible repeat' (first|refine Sp.h ?_|((first|refine Ss.h ?_|refine Sc.h (cr) ?_|(refine Sb.h ?_ ?_ ?_<;>(try intro hgd)<;>try exact Xy))<;>simp -implicitDefEqProofs (maxSteps:=2000000) [hP,hN,h1,h1'])|refine X2 ?_ ?_|(refine Xd ?_ ?_<;>intro hcd<;>try exact Xx))
 have h1' : ¬ (24 : Int) < s.shs.length:=by omega
 have hf : cG s=if dv s.js.length s.shs≠0 then dv s.js.length s.shs else if 64 < s.sks.length then 903 else if s.sks.all (kt s.js.length)=true then 0 else 903:=by simp only [cG,h0,h1,if_false,ne_eq,not_true_eq_false]
 rw [hf]
 refine Dp Tryz.func110 ?_
 intro C hP hN
 simp only [Tryz.f110] at hN ⊢
 with_reducible repeat' (first|refine Sp.h ?_|((first|refine Ss.h ?_|refine Sc.h (cr) ?_|(refine Sb.h ?_ ?_ ?_<;>(try intro hgd)<;>try exact Xy))<;>simp -implicitDefEqProofs (maxSteps:=2000000) [hP,hN,h1,h1'])|refine X2 ?_ ?_|(refine Xd ?_ ?_<;>intro hcd<;>try exact Xx))
 refine WP.loopN [5] s.shs.length (fun i st=>st.t 1=.ptr 1 0∧st.h 1=some (.box [.pv (.sl (s.js.map dy)),.pv (.sl (s.ms.map di)),.pv (.sl (s.shs.map dc)),.pv (.sl (s.sks.map bF))] true false)∧st.t 20=.pv (.sl (s.shs.map dc))∧st.t 21=.pv (Z s.shs.length)∧st.t 22=.pv (Z i)∧st.h 5=none∧st.h 8=none∧∀ k x,k < i→s.shs[k]?=some x→cE s.js.length x=0) (by simp) ?_
 rintro i st hi ⟨g1,hb1,g20,g21,g22,hb5,hb8,hq⟩
 by_cases hlt : i < s.shs.length
 ·have hw:=aJ hlt l3
  have hfd:=qA (n:=s.js.length) hlt hq
  have hst:=fun he=>mM (p:=fun x=>cE s.js.length x==0) (List.getElem?_eq_getElem hlt) (fun k x hk hx=>by simp [hq k x hk hx]) he
  generalize hxe : s.shs[i]=v at *
  have hx : s.shs[i]?=some v:=by rw [List.getElem?_eq_getElem hlt,hxe]
  have cc:=BF s v l1 (l5 v (List.mem_of_getElem? hx))
  generalize cE s.js.length v=e at *
  by_cases he : e=0
  ·subst he
   have hst2 : ∀ k x,k < i+1→s.shs[k]?=some x→cE s.js.length x=0:=fun k x hk hx=>by simpa using hst rfl k x hk hx
   with_reducible repeat' (first|refine Sp.h ?_|((first|refine Ss.h ?_|refine Sc.h (cc) ?_|(refine Sb.h ?_ ?_ ?_<;>(try intro hgd)<;>try exact Xy))<;>simp -implicitDefEqProofs (maxSteps:=2000000) [hP,hN,g1,hb1,g20,g21,g22,hb5,hb8,hlt,hw,hx,hxe])|refine X2 ?_ ?_|(refine Xd ?_ ?_<;>intro hcd<;>try exact Xx))
   all_goals exact hst2
  ·have he' : (e !=0)=true:=by simp [he]
   have hfe:=hfd he
   with_reducible repeat' (first|refine Sp.h ?_|((first|refine Ss.h ?_|refine Sc.h (cc) ?_|(refine Sb.h ?_ ?_ ?_<;>(try intro hgd)<;>try exact Xy))<;>simp -implicitDefEqProofs (maxSteps:=2000000) [hP,hN,g1,hb1,g20,g21,g22,hb5,hb8,hlt,hw,hx,hxe,he,he'])|refine X2 ?_ ?_|(refine Xd ?_ ?_<;>intro hcd<;>try exact Xx))
   all_goals simp [hfe,he]
 ·have hz : dv s.js.length s.shs=0:=rT (fun k x hx=>hq k x (by have:=(List.getElem?_eq_some_iff.1 hx).1;omega) hx)
  rw [hz]
  by_cases h64 : 64 < s.sks.length
  ·have h64' : (64 : Int) < s.sks.length:=by omega
   with_reducible repeat' (first|refine Sp.h ?_|((first|refine Ss.h ?_|(refine Sb.h ?_ ?_ ?_<;>(try intro hgd)<;>try exact Xy))<;>simp -implicitDefEqProofs (maxSteps:=2000000) [hP,hN,g1,hb1,g20,g21,g22,hb5,hb8,hlt,h64,h64'])|refine X2 ?_ ?_|(refine Xd ?_ ?_<;>intro hcd<;>try exact Xx))
  ·have h64' : ¬ (64 : Int) < s.sks.length:=by omega
   cases hall : s.sks.all (kt s.js.length) with
   |true=>
    with_reducible repeat' (first|refine Sp.h ?_|((first|refine Ss.h ?_|(refine Sb.h ?_ ?_ ?_<;>(try intro hgd)<;>try exact Xy))<;>simp -implicitDefEqProofs (maxSteps:=2000000) [hP,hN,g1,hb1,g20,g21,g22,hb5,hb8,hlt,h64,h64',hall])|refine X2 ?_ ?_|(refine Xd ?_ ?_<;>intro hcd<;>try exact Xx))
    refine WP.loopN [8] s.sks.length (fun i st=>st.t 1=.ptr 1 0∧st.h 1=some (.box [.pv (.sl (s.js.map dy)),.pv (.sl (s.ms.map di)),.pv (.sl (s.shs.map dc)),.pv (.sl (s.sks.map bF))] true false)∧st.t 38=.pv (.sl (s.sks.map bF))∧st.t 39=.pv (Z s.sks.length)∧st.t 40=.pv (Z i)∧st.h 8=none) (by simp [g1,hb1,hb8]) ?_
    clear g1 hb1 g20 g21 g22 hb5 hb8 hq hlt
    rintro i st hi ⟨g1,hb1,g38,g39,g40,hb8⟩
    by_cases hlt : i < s.sks.length
    ·have hw:=aJ hlt l4
     have hv:=List.all_eq_true.1 hall _ (List.getElem_mem hlt)
     generalize hxe : s.sks[i]=v at *
     have hx : s.sks[i]?=some v:=by rw [List.getElem?_eq_getElem hlt,hxe]
     simp only [kt,Bool.and_eq_true] at hv
     have c1:=rS s v.1 l1
     have c2:=rS s v.2 l1
     rw [hv.1] at c1;rw [hv.2] at c2
     with_reducible repeat' (first|refine Sp.h ?_|((first|refine Ss.h ?_|refine Sc.h (c1) ?_|refine Sc.h (c2) ?_|(refine Sb.h ?_ ?_ ?_<;>(try intro hgd)<;>try exact Xy))<;>simp -implicitDefEqProofs (maxSteps:=2000000) [hP,hN,g1,hb1,g38,g39,g40,hb8,hlt,hw,hx,hxe])|refine X2 ?_ ?_|(refine Xd ?_ ?_<;>intro hcd<;>try exact Xx))
    ·skip
     with_reducible repeat' (first|refine Sp.h ?_|((first|refine Ss.h ?_|(refine Sb.h ?_ ?_ ?_<;>(try intro hgd)<;>try exact Xy))<;>simp -implicitDefEqProofs (maxSteps:=2000000) [hP,hN,g1,hb1,g38,g39,g40,hb8,hlt])|refine X2 ?_ ?_|(refine Xd ?_ ?_<;>intro hcd<;>try exact Xx))
   |false=>
    with_reducible repeat' (first|refine Sp.h ?_|((first|refine Ss.h ?_|(refine Sb.h ?_ ?_ ?_<;>(try intro hgd)<;>try exact Xy))<;>simp -implicitDefEqProofs (maxSteps:=2000000) [hP,hN,g1,hb1,g20,g21,g22,hb5,hb8,hlt,h64,h64',hall])|refine X2 ?_ ?_|(refine Xd ?_ ?_<;>intro hcd<;>try exact Xx))
    refine WP.loopN [8] s.sks.length (fun i st=>st.t 1=.ptr 1 0∧st.h 1=some (.box [.pv (.sl (s.js.map dy)),.pv (.sl (s.ms.map di)),.pv (.sl (s.shs.map dc)),.pv (.sl (s.sks.map bF))] true false)∧st.t 38=.pv (.sl (s.sks.map bF))∧st.t 39=.pv (Z s.sks.length)∧st.t 40=.pv (Z i)∧st.h 8=none∧∀ k x,k < i→s.sks[k]?=some x→kt s.js.length x=true) (by simp [g1,hb1,hb8]) ?_
    clear g1 hb1 g20 g21 g22 hb5 hb8 hq hlt
    rintro i st hi ⟨g1,hb1,g38,g39,g40,hb8,hq⟩
    by_cases hlt : i < s.sks.length
    ·have hw:=aJ hlt l4
     generalize hxe : s.sks[i]=v at *
     have hx : s.sks[i]?=some v:=by rw [List.getElem?_eq_getElem hlt,hxe]
     have hst:=mM (p:=kt s.js.length) hx hq
     have c1:=rS s v.1 l1
     have c2:=rS s v.2 l1
     have hsk : kt s.js.length v=(e7 s.js.length v.1 && e7 s.js.length v.2):=rfl
     cases b1 : e7 s.js.length v.1 with
     |false=>
      rw [b1] at c1
      with_reducible repeat' (first|refine Sp.h ?_|((first|refine Ss.h ?_|refine Sc.h (c1) ?_|(refine Sb.h ?_ ?_ ?_<;>(try intro hgd)<;>try exact Xy))<;>simp -implicitDefEqProofs (maxSteps:=2000000) [hP,hN,g1,hb1,g38,g39,g40,hb8,hlt,hw,hx,hxe])|refine X2 ?_ ?_|(refine Xd ?_ ?_<;>intro hcd<;>try exact Xx))
     |true=>
      rw [b1] at c1 hsk
      cases b2 : e7 s.js.length v.2 with
      |false=>
       rw [b2] at c2
       with_reducible repeat' (first|refine Sp.h ?_|((first|refine Ss.h ?_|refine Sc.h (c1) ?_|refine Sc.h (c2) ?_|(refine Sb.h ?_ ?_ ?_<;>(try intro hgd)<;>try exact Xy))<;>simp -implicitDefEqProofs (maxSteps:=2000000) [hP,hN,g1,hb1,g38,g39,g40,hb8,hlt,hw,hx,hxe])|refine X2 ?_ ?_|(refine Xd ?_ ?_<;>intro hcd<;>try exact Xx))
      |true=>
       rw [b2] at c2 hsk
       have hst':=hst hsk
       with_reducible repeat' (first|refine Sp.h ?_|((first|refine Ss.h ?_|refine Sc.h (c1) ?_|refine Sc.h (c2) ?_|(refine Sb.h ?_ ?_ ?_<;>(try intro hgd)<;>try exact Xy))<;>simp -implicitDefEqProofs (maxSteps:=2000000) [hP,hN,g1,hb1,g38,g39,g40,hb8,hlt,hw,hx,hxe])|refine X2 ?_ ?_|(refine Xd ?_ ?_<;>intro hcd<;>try exact Xx))
       all_goals exact fun k a b=>hst' k (a,b)
    ·have:=oe hq hlt
     rw [this] at hall;cases hall
end Go.Ab
namespace Go.Ab
open Go.Proofs
def tU (i : Nat) (j : J) : Prop:=(0≤j.kind∧j.kind≤6)∧-1≤j.parent∧j.parent < (i : Int)
def tV (js : List J) : Prop:=∀ i j,js[i]?=some j→tU i j
theorem uX {js : List J} {i : Nat} {j : J} (h : cQ js i j=0) : tU i j:=by
 unfold cQ at h
 repeat' split at h
 all_goals (try (cases h;done))
 all_goals (try omega)
 refine ⟨by omega,by omega,by omega⟩
theorem uY {js : List J} {ms : List Ms} (h : dC js ms=0) : tV js∧js.length≤10∧1≤js.length:=by
 unfold dC at h
 split at h
 ·cases h
 ·rename_i hl
  split at h
  ·rename_i hne;exact absurd h hne
  ·rename_i he
   refine ⟨fun i j hij=>?_,by omega,by omega⟩
   have hlt:=(List.getElem?_eq_some_iff.1 hij).1
   have he' : gO js=0:=by simpa using he
   rw [my] at he'
   by_cases hz : cQ js i j=0
   ·exact uX hz
   ·exfalso
    cases hf : (js.mapIdx (cQ js)).find? (fun e=>e !=0) with
    |none=>
     rw [List.find?_eq_none] at hf
     have hm : cQ js i j ∈ js.mapIdx (cQ js):=by
      rw [List.mem_mapIdx]
      obtain ⟨h1,h2⟩:=List.getElem?_eq_some_iff.1 hij
      exact ⟨i,h1,by rw [h2]⟩
     exact hf _ hm (by simpa using hz)
    |some e=>
     rw [hf] at he'
     have:=List.find?_some hf
     simp only at he'
     rw [he'] at this
     simp at this
theorem ku {s : Sce} (h : cG s=0) : tV s.js∧s.js.length≤10∧1≤s.js.length∧s.shs.length≤24∧s.sks.length≤64∧(∀ x ∈ s.shs,e7 s.js.length x.link=true∧eP x=true)∧∀ p ∈ s.sks,kt s.js.length p=true:=by
 unfold cG at h
 split at h
 ·rename_i hne;exact absurd h hne
 ·rename_i h0
  have h0 : dC s.js s.ms=0:=by simpa using h0
  split at h
  ·cases h
  ·rename_i h1
   split at h
   ·rename_i hne;exact absurd h hne
   ·rename_i h2
    have h2 : dv s.js.length s.shs=0:=by simpa using h2
    split at h
    ·cases h
    ·rename_i h3
     split at h
     ·rename_i h4
      obtain ⟨a1,a2,a3⟩:=uY h0
      refine ⟨a1,a2,a3,by omega,by omega,fun x hx=>?_,fun p hp=>List.all_eq_true.1 h4 p hp⟩
      have hz : cE s.js.length x=0:=by
       by_cases hz : cE s.js.length x=0
       ·exact hz
       ·exfalso
        unfold dv at h2
        cases hf : (s.shs.map (cE s.js.length)).find? (fun e=>e !=0) with
        |none=>
         rw [List.find?_eq_none] at hf
         exact hf _ (List.mem_map.2 ⟨x,hx,rfl⟩) (by simpa using hz)
        |some e=>
         rw [hf] at h2
         have:=List.find?_some hf
         simp only at h2
         rw [h2] at this
         simp at this
      unfold cE at hz
      split at hz
      ·rename_i hc
       split at hz
       ·rename_i hn
        simp only [Bool.and_eq_true,decide_eq_true_eq] at hc
        obtain ⟨⟨⟨⟨c0,c1⟩,c2⟩,c3⟩,c4⟩:=hc
        refine ⟨c0,?_⟩
        simp only [eP,Bool.and_eq_true,decide_eq_true_eq]
        exact ⟨⟨⟨⟨c1,c2⟩,c3⟩,c4⟩,hn⟩
       ·cases hz
      ·cases hz
     ·cases h
theorem BG (a b c d : Int) : ai Tryz.prog (Op.equal 129 (.agg #[.int .i64 a,.int .i64 b]) (.agg #[.int .i64 c,.int .i64 d]))=some (a==c && b==d):=by
 have hf : (Tryz.prog.fieldsOf 129).toList=[(Tryz.prog.fieldsOf 129)[0]!,(Tryz.prog.fieldsOf 129)[1]!]:=by kernel_rfl
 show ai Tryz.prog (Op.equalIn (9999+1) 129 _ _)=_
 rw [qh 9999 129 _ _ (by kernel_rfl) (by kernel_rfl),hf]
 have h:=mY (P:=Tryz.prog) (d:=9999) (xs:=#[.int .i64 a,.int .i64 b]) (ys:=#[.int .i64 c,.int .i64 d]) (f:=(Tryz.prog.fieldsOf 129)[0]!) (fs:=[(Tryz.prog.fieldsOf 129)[1]!]) (a:=.int .i64 a) (b:=.int .i64 c) (by decide +kernel) (by kernel_rfl) (by kernel_rfl) (mt 9998 _ .i64 .i64 a c (by kernel_rfl))
  (mY (by decide +kernel) (a:=.int .i64 b) (b:=.int .i64 d) (by kernel_rfl) (by kernel_rfl) (mt 9998 _ .i64 .i64 b d (by kernel_rfl)) uA)
 rw [h];simp
def tW (x y : AV) (fb : Option bR) : Option bR:=match mZ x,mZ y with
 |some (a,b),some (c,d)=>some (.pv (.val (.bool (a==c && b==d))),[])
 |_,_=>fb
@[simp] theorem zI (a b c d : Int) (fb : Option bR) : tW (.pv (.val (.agg #[.int .i64 a,.int .i64 b]))) (.pv (.val (.agg #[.int .i64 c,.int .i64 d]))) fb=some (.pv (.val (.bool (a==c && b==d))),[]):=rfl
@[simp] theorem DI {dst : Option Nat} {ty : TypeId} {pos : String} {aft : Array Edge} {g : Option (Nat × Bool)} {ρ : Operand→AV} (x y : Operand) :
 aP Tryz.prog ⟨dst,.binOp .eql 129 x y 129,ty,pos,aft,g⟩ ρ=tW (ρ x) (ρ y) (jq Tryz.prog ⟨dst,.binOp .eql 129 x y 129,ty,pos,aft,g⟩ ρ):=by
 unfold tW
 split
 ·rename_i a b c d hx hy
  exact tr rfl (jd hx) (jd hy) (by kernel_rfl) (BG a b c d)
 ·rfl
def sU (a b : Int) (p : Int × Int) : Bool:=(p.1==a && p.2==b) || (p.1==b && p.2==a)
def jv (s : Sce) (a b : Int) : Bool:=s.sks.any (sU a b)
theorem BH {α : Type} {p : α→Bool} {xs : List α} {i : Nat} {v : α} (h : xs[i]?=some v) (hp : p v=true) : xs.any p=true:=List.any_eq_true.2 ⟨v,List.mem_of_getElem? h,hp⟩
theorem BI {α : Type} {p : α→Bool} {xs : List α} {i : Nat} (hq : ∀ k x,k < i→xs[k]?=some x→p x=false) (h : ¬ i < xs.length) : xs.any p=false:=by
 rw [List.any_eq_false]
 intro x hx
 obtain ⟨k,hk⟩:=List.getElem?_of_mem hx
 simp [hq k x (by have:=(List.getElem?_eq_some_iff.1 hk).1;omega) hk]
theorem BJ {α : Type} {p : α→Bool} {xs : List α} {i : Nat} {v : α} (hv : xs[i]?=some v) (hq : ∀ k x,k < i→xs[k]?=some x→p x=false) (hp : p v=false) : ∀ k x,k < i+1→xs[k]?=some x→p x=false:=by
 intro k x hk hx
 by_cases e : k=i
 ·subst e;rw [hv] at hx;injection hx with hx;subst hx;exact hp
 ·exact hq k x (by omega) hx
theorem BK (s : Sce) (a b : Int) (hl : s.sks.length≤9223372036854775807) : ab Tryz.prog 318 [.pv (de s),.pv (Z a),.pv (Z b)] [] [] (.pv (B (jv s a b))):=by
 have hsk : jv s a b=s.sks.any (sU a b):=rfl
 rw [hsk]
 refine Dp Tryz.func318 ?_
 intro C hP hN
 simp only [Tryz.f318] at hN ⊢
 with_reducible repeat' (first|refine Sp.h ?_|((first|refine Ss.h ?_|(refine Sb.h ?_ ?_ ?_<;>(try intro hgd)<;>try exact Xy))<;>simp -implicitDefEqProofs (maxSteps:=2000000) [hP,hN])|refine X2 ?_ ?_|(refine Xd ?_ ?_<;>intro hcd<;>try exact Xx))
 refine WP.loopN [8] s.sks.length (fun i st=>st.t 1=.pv (Z a)∧st.t 2=.pv (Z b)∧st.t 10=.pv (.sl (s.sks.map bF))∧st.t 11=.pv (Z s.sks.length)∧st.t 12=.pv (Z i)∧st.h 8=none∧∀ k x,k < i→s.sks[k]?=some x→sU a b x=false) (by simp) ?_
 rintro i st hi ⟨g1,g2,g10,g11,g12,hb8,hq⟩
 by_cases hlt : i < s.sks.length
 ·have hw:=aJ hlt hl
  generalize hxe : s.sks[i]=v at *
  have hx : s.sks[i]?=some v:=by rw [List.getElem?_eq_getElem hlt,hxe]
  have hst:=BJ (p:=sU a b) hx hq
  have hY:=BH (p:=sU a b) hx
  have hp : sU a b v=((v.1==a && v.2==b) || (v.1==b && v.2==a)):=rfl
  cases c1 : (v.1==a && v.2==b) with
  |true=>
   rw [c1,Bool.true_or] at hp
   have hy:=hY hp
   with_reducible repeat' (first|refine Sp.h ?_|((first|refine Ss.h ?_|(refine Sb.h ?_ ?_ ?_<;>(try intro hgd)<;>try exact Xy))<;>simp -implicitDefEqProofs (maxSteps:=2000000) [hP,hN,g1,g2,g10,g11,g12,hb8,hlt,hw,hx,hxe,c1,hy])|refine X2 ?_ ?_|(refine Xd ?_ ?_<;>intro hcd<;>try exact Xx))
  |false=>
   rw [c1,Bool.false_or] at hp
   cases c2 : (v.1==b && v.2==a) with
   |true=>
    rw [c2] at hp
    have hy:=hY hp
    with_reducible repeat' (first|refine Sp.h ?_|((first|refine Ss.h ?_|(refine Sb.h ?_ ?_ ?_<;>(try intro hgd)<;>try exact Xy))<;>simp -implicitDefEqProofs (maxSteps:=2000000) [hP,hN,g1,g2,g10,g11,g12,hb8,hlt,hw,hx,hxe,c1,c2,hy])|refine X2 ?_ ?_|(refine Xd ?_ ?_<;>intro hcd<;>try exact Xx))
   |false=>
    rw [c2] at hp
    have hst':=hst hp
    with_reducible repeat' (first|refine Sp.h ?_|((first|refine Ss.h ?_|(refine Sb.h ?_ ?_ ?_<;>(try intro hgd)<;>try exact Xy))<;>simp -implicitDefEqProofs (maxSteps:=2000000) [hP,hN,g1,g2,g10,g11,g12,hb8,hlt,hw,hx,hxe,c1,c2])|refine X2 ?_ ?_|(refine Xd ?_ ?_<;>intro hcd<;>try exact Xx))
    all_goals exact fun k a b=>hst' k (a,b)
 ·have hn:=BI hq hlt
  with_reducible repeat' (first|refine Sp.h ?_|((first|refine Ss.h ?_|(refine Sb.h ?_ ?_ ?_<;>(try intro hgd)<;>try exact Xy))<;>simp -implicitDefEqProofs (maxSteps:=2000000) [hP,hN,g1,g2,g10,g11,g12,hb8,hlt,hn])|refine X2 ?_ ?_|(refine Xd ?_ ?_<;>intro hcd<;>try exact Xx))
def BL (L : List Int) (i : Nat) (j : J) : Int:=if j.lo=j.hi then (L[(j.parent+1).toNat]?).getD 0 else (i : Int)
def iW (js : List J) : Nat→List Int
 |0=>[-1]
 |i+1=>match js[i]? with
  |some j=>iW js i++[BL (iW js i) i j]
  |none=>iW js i
def gp (js : List J) : List Int:=iW js js.length
theorem jX {js : List J} : ∀ i,i≤js.length→(iW js i).length=i+1
 |0,_=>rfl
 |i+1,h=>by
  have hlt : i < js.length:=by omega
  have ih:=jX (js:=js) i (by omega)
  simp only [iW,List.getElem?_eq_getElem hlt,List.length_append,ih,List.length_singleton]
theorem lL {js : List J} {k : Nat} : ∀ i,k≤i→i≤js.length→∀ q,q≤k→(iW js i)[q]?=(iW js k)[q]?
 |0,h1,h2,q,hq=>by have : k=0:=by omega
                   subst this;rfl
 |i+1,h1,h2,q,hq=>by
  by_cases e : k=i+1
  ·subst e;rfl
  ·have hlt : i < js.length:=by omega
   rw [← lL i (by omega) (by omega) q hq]
   simp only [iW,List.getElem?_eq_getElem hlt]
   rw [List.getElem?_append_left (by rw [jX i (by omega)];omega)]
theorem xM {js : List J} {i : Nat} {j : J} (hj : js[i]?=some j) (hk : tU i j) : (gp js)[i+1]?=some (if j.lo=j.hi then ((gp js)[(j.parent+1).toNat]?).getD 0 else (i : Int)):=by
 have hlt:=(List.getElem?_eq_some_iff.1 hj).1
 obtain ⟨_,hp1,hp2⟩:=hk
 have e1 : (gp js)[i+1]?=(iW js (i+1))[i+1]?:=lL js.length (k:=i+1) (by omega) (Nat.le_refl _) _ (Nat.le_refl _)
 have e2 : (gp js)[(j.parent+1).toNat]?=(iW js i)[(j.parent+1).toNat]?:=lL js.length (k:=i) (by omega) (Nat.le_refl _) _ (by omega)
 rw [e1,e2]
 have hlen:=jX (js:=js) i (by omega)
 simp only [iW,hj]
 rw [List.getElem?_append_right (by omega),hlen,Nat.sub_self]
 rfl
theorem BM (js : List J) (ms : List Ms) (hj : tV js) (hl : js.length≤10) : ab Tryz.prog 317 [.pv (kC js ms)] [] [] (.pv (zs (gp js))):=by
 have hlen : (gp js).length=js.length+1:=jX _ (Nat.le_refl _)
 have h00 : (gp js)[0]?=some (-1):=lL js.length (k:=0) (by omega) (Nat.le_refl _) 0 (Nat.le_refl _)
 have hat:=fun i j (h : js[i]?=some j)=>xM h (hj i j h)
 generalize gp js=CL at *
 have w1 : IntKind.i64.wrap ((js.length : Int)+1)=((js.length+1 : Nat) : Int):=(aa (by omega) (by omega)).trans (by omega)
 refine Dp Tryz.func317 ?_
 intro C hP hN
 simp only [Tryz.f317] at hN ⊢
 with_reducible repeat' (first|refine Sp.h ?_|((first|refine Ss.h ?_|(refine Sb.h ?_ ?_ ?_<;>(try intro hgd)<;>try exact Xy))<;>simp -implicitDefEqProofs (maxSteps:=2000000) [hP,hN,w1,show (8 : Int) * ((js.length : Int)+1)≤281474976710656 by omega,show (js.length : Int)+1≤9223372036854775807 by omega,show (0 : Int)≤(js.length : Int)+1 by omega])|refine X2 ?_ ?_|(refine Xd ?_ ?_<;>intro hcd<;>try exact Xx))
 refine WP.loopN [5] js.length (fun i st=>∃ R : List Int,st.t 3=.arr 10 (js.length+1)∧st.t 14=.pv (.sl (js.map dy))∧st.t 15=.pv (Z js.length)∧st.t 16=.pv (Z i)∧st.h 5=none∧st.h 10=some (.row 3 1 (R.map Z) 0)∧R.length=js.length+1∧∀ k,k≤i→R[k]?=CL[k]?) ?_ ?_
 ·refine ⟨(List.replicate (js.length+1) 0).set 0 (-1),?_⟩
  simp [h00,List.map_set,List.map_replicate]
 rintro i st hi ⟨R,g3,g14,g15,g16,hb5,hb10,hRl,hR⟩
 by_cases hlt : i < js.length
 ·have hw:=aJ hlt (by omega)
  generalize hxe : js[i]=j at *
  have hx : js[i]?=some j:=by rw [List.getElem?_eq_getElem hlt,hxe]
  have ha:=hat i j hx
  obtain ⟨_,hp1,hp2⟩:=hj i j hx
  obtain ⟨p,hp⟩ : ∃ p : Nat,j.parent+1=p:=⟨(j.parent+1).toNat,by omega⟩
  have wp : IntKind.i64.wrap (j.parent+1)=(p : Int):=(aa (by omega) (by omega)).trans hp
  have hpi : p≤i:=by omega
  have hpR : p < R.length:=by omega
  have hi1 : i+1 < R.length:=by omega
  have hRp : R[p]?=some R[p]:=List.getElem?_eq_getElem hpR
  have hRi : R[i+1]?=some R[i+1]:=List.getElem?_eq_getElem hi1
  have hti : ((i : Int)+1).toNat=i+1:=by omega
  have hge : (0 : Int)≤(i : Int)+1:=by omega
  rw [hp] at ha
  have hpc : CL[p]?=some R[p]:=by rw [← hR p hpi];exact hRp
  rw [Int.toNat_natCast,hpc,Option.getD_some] at ha
  generalize R[p]=rp at *
  have key : ∀ x,CL[i+1]?=some x→∀ k,k≤i+1→(R.set (i+1) x)[k]?=CL[k]?:=by
   intro x hxx k hk
   rw [List.getElem?_set]
   by_cases e : i+1=k
   ·subst e;rw [if_pos rfl,if_pos hi1,hxx]
   ·rw [if_neg e];exact hR k (by omega)
  have hsp : ((R.map Z).set (i+1) (Z (i : Int)))[p]?=some (Z rp):=by rw [List.getElem?_set,if_neg (by omega),List.getElem?_map,hRp];rfl
  have hgp : ∀ h,((R.map Z).set (i+1) (Z (i : Int)))[p]'h=Z rp:=fun h=>by
   have:=List.getElem?_eq_getElem h
   rw [hsp] at this;injection this with this;exact this.symm
  by_cases he : j.lo=j.hi
  ·rw [if_pos he] at ha
   have he' : (j.lo==j.hi)=true:=by simp [he]
   with_reducible repeat' (first|refine Sp.h ?_|((first|refine Ss.h ?_|(refine Sb.h ?_ ?_ ?_<;>(try intro hgd)<;>try exact Xy))<;>simp -implicitDefEqProofs (maxSteps:=2000000) [hP,hN,g3,g14,g15,g16,hb5,hb10,hlt,hw,hx,hxe,hRl,hi1,hpi,wp,he,hRi,hti,hge,hRp,hsp,hgp,show p < js.length+1 by omega])|refine X2 ?_ ?_|(refine Xd ?_ ?_<;>intro hcd<;>try exact Xx))
   all_goals exact ⟨R.set (i+1) rp,by simp [List.map_set],by simp [hRl],key _ ha⟩
  ·rw [if_neg he] at ha
   have he' : (j.lo==j.hi)=false:=by simp [he]
   with_reducible repeat' (first|refine Sp.h ?_|((first|refine Ss.h ?_|(refine Sb.h ?_ ?_ ?_<;>(try intro hgd)<;>try exact Xy))<;>simp -implicitDefEqProofs (maxSteps:=2000000) [hP,hN,g3,g14,g15,g16,hb5,hb10,hlt,hw,hx,hxe,hRl,hi1,he,he',hRi,hti,hge])|refine X2 ?_ ?_|(refine Xd ?_ ?_<;>intro hcd<;>try exact Xx))
   all_goals exact ⟨R.set (i+1) (i : Int),by simp [List.map_set],by simp [hRl],key _ ha⟩
 ·have hin : i=js.length:=by omega
  subst hin
  have hRC : R=CL:=by
   apply List.ext_getElem?
   intro k
   by_cases hk : k≤js.length
   ·exact hR k hk
   ·rw [List.getElem?_eq_none (by omega),List.getElem?_eq_none (by omega)]
  subst hRC
  with_reducible repeat' (first|refine Sp.h ?_|((first|refine Ss.h ?_|(refine Sb.h ?_ ?_ ?_<;>(try intro hgd)<;>try exact Xy))<;>simp -implicitDefEqProofs (maxSteps:=2000000) [hP,hN,g3,g14,g15,g16,hb5,hb10,hRl])|refine X2 ?_ ?_|(refine Xd ?_ ?_<;>intro hcd<;>try exact Xx))
end Go.Ab
namespace Go.Ab
open Go.Proofs
def k6 (h : Sh) : Nat:=(h.link+1).toNat
def rU (CL : List Int) (a b : Sh) : Bool:=(CL[k6 a]?).getD 0==(CL[k6 b]?).getD 0
def xg (s : Sce) (a b : Sh) : Bool:=!rU (gp s.js) a b && !jv s a.link b.link
def fy (s : Sce) (i q : Nat) : Bool:=match s.shs[i]?,s.shs[q]? with
 |some a,some b=>xg s a b
 |_,_=>false
def i5 (s : Sce) (i : Nat) : Nat→List (Nat × Nat)
 |0=>[]
 |k+1=>i5 s i k++(if i < k∧fy s i k=true then [(i,k)] else [])
def ij (s : Sce) : Nat→List (Nat × Nat)
 |0=>[]
 |i+1=>ij s i++i5 s i s.shs.length
def bT (s : Sce) : List (Nat × Nat):=if cG s=0 then ij s s.shs.length else []
abbrev ni (p : Nat × Nat) : PV:=.val (.agg #[.int .i64 (p.1 : Int),.int .i64 (p.2 : Int)])
theorem sV (s : Sce) (i : Nat) : ∀ k,k≤i+1→i5 s i k=[]
 |0,_=>rfl
 |k+1,h=>by
  have : ¬ i < k:=by omega
  simp [i5,sV s i k (by omega),this]
theorem pZ (s : Sce) (i : Nat) : ∀ k,(i5 s i k).length≤k
 |0=>Nat.le_refl _
 |k+1=>by
  have:=pZ s i k
  simp only [i5,List.length_append]
  split<;>simp<;>omega
theorem p5 (s : Sce) : ∀ i,(ij s i).length≤i * s.shs.length
 |0=>by simp [ij]
 |i+1=>by
  have:=p5 s i
  have:=pZ s i s.shs.length
  simp only [ij,List.length_append,Nat.add_mul]
  omega
theorem wq {s : Sce} {h : Sh} (hk : e7 s.js.length h.link=true) : ∃ x,(gp s.js)[k6 h]?=some x∧k6 h < (gp s.js).length∧h.link+1=(k6 h : Int)∧h.link < s.js.length:=by
 simp only [e7,Bool.and_eq_true,decide_eq_true_eq] at hk
 have hl : (gp s.js).length=s.js.length+1:=jX _ (Nat.le_refl _)
 have hlt : k6 h < (gp s.js).length:=by unfold k6;omega
 exact ⟨_,List.getElem?_eq_getElem hlt,hlt,by unfold k6;omega,hk.2⟩
theorem BN (s : Sce) (hs : ScL s) : ab Tryz.prog 229 [.pv (de s)] [] [] (.pv (.sl ((bT s).map ni))):=by
 have cc:=wo s hs
 by_cases h0 : cG s=0
 case neg=>
  have hf : bT s=[]:=by simp [bT,h0]
  have h0' : (cG s !=0)=true:=by simp [h0]
  rw [hf]
  generalize cG s=r at *
  refine Dp Tryz.func229 ?_
  intro C hP hN
  simp only [Tryz.f229] at hN ⊢
  with_reducible repeat' (first|refine Sp.h ?_|((first|refine Wd ?_|refine Ss.h ?_|refine Sc.h (cc) ?_|(refine Sb.h ?_ ?_ ?_<;>(try intro hgd)<;>try exact Xy))<;>simp -implicitDefEqProofs (maxSteps:=2000000) [hP,hN,h0,h0']<;>try refine Ya ?_)|refine X2 ?_ ?_|(refine Xd ?_ ?_<;>intro hcd<;>try exact Xx))
 have hf : bT s=ij s s.shs.length:=by simp [bT,h0]
 rw [hf];rw [h0] at cc
 obtain ⟨v1,v2,v3,v4,v5,v6,v7⟩:=ku h0
 have cr:=BM s.js s.ms v1 v2
 have csk:=fun a b=>BK s a b hs.sks
 have hcl:=fun h (hh : h ∈ s.shs)=>wq (s:=s) (v6 h hh).1
 have hpb : ∀ a b : Sh,xg s a b=(!rU (gp s.js) a b && !jv s a.link b.link):=fun _ _=>rfl
 generalize gp s.js=CL at *
 have nL:=p5 s
 have iL:=pZ s
 refine Dp Tryz.func229 ?_
 intro C hP hN
 simp only [Tryz.f229] at hN ⊢
 with_reducible repeat' (first|refine Sp.h ?_|((first|refine Wh [4] ?_|refine Wi [4] ?_|refine Ss.h ?_|refine Sc.h (cc) ?_|refine Sc.h (cr) ?_|(refine Sb.h ?_ ?_ ?_<;>(try intro hgd)<;>try exact Xy))<;>simp -implicitDefEqProofs (maxSteps:=2000000) [hP,hN]<;>try refine Ya ?_)|refine X2 ?_ ?_|(refine Xd ?_ ?_<;>intro hcd<;>try exact Xx))
 refine WP.loopN [6,8] s.shs.length (fun i st=>st.t 1=.ptr 1 0∧st.h 1=some (.box [.pv (.sl (s.js.map dy)),.pv (.sl (s.ms.map di)),.pv (.sl (s.shs.map dc)),.pv (.sl (s.sks.map bF))] true false)∧st.t 3=.pv (zs CL)∧st.t 17=.pv (.sl (s.shs.map dc))∧st.t 18=.pv (Z s.shs.length)∧st.t 19=.pv (Z i)∧st.h 6=none∧st.h 8=none∧st.t 4=.arr 4 (ij s i).length∧st.h 4=some (.row 242 2 ((ij s i).map ni) 0)) (by simp [ij]) ?_
 rintro i st hi ⟨g1,hb1,g3,g17,g18,g19,hb6,hb8,g4,hb4⟩
 by_cases hlt : i < s.shs.length
 ·have hw:=aJ hlt (by omega)
  generalize hxe : s.shs[i]=a at *
  have hx : s.shs[i]?=some a:=by rw [List.getElem?_eq_getElem hlt,hxe]
  obtain ⟨xa,ha1,ha2,ha3,ha4⟩:=hcl a (List.mem_of_getElem? hx)
  have hga : ∀ h,CL[k6 a]'h=xa:=fun h=>by have:=List.getElem?_eq_getElem h;rw [ha1] at this;injection this with this;exact this.symm
  have hsucc : ij s (i+1)=ij s i++i5 s i s.shs.length:=rfl
  have nLi:=nL i
  have hnn : i * s.shs.length≤24 * 24:=Nat.mul_le_mul (by omega) (by omega)
  have hwa : IntKind.i64.wrap (a.link+1)=(k6 a : Int):=(aa (by omega) (by omega)).trans ha3
  have hap : a.link+1=(k6 a : Int):=ha3
  with_reducible repeat' (first|refine Sp.h ?_|((first|refine Wd ?_|refine Ss.h ?_|(refine Sb.h ?_ ?_ ?_<;>(try intro hgd)<;>try exact Xy))<;>simp -implicitDefEqProofs (maxSteps:=2000000) [hP,hN,g1,hb1,g3,g17,g18,g19,hb6,hb8,g4,hb4,hlt,hx,hxe,hw]<;>try refine Ya ?_)|refine X2 ?_ ?_|(refine Xd ?_ ?_<;>intro hcd<;>try exact Xx))
  refine WP.loopN [8] (s.shs.length - (i+1)) (fun q st=>st.t 1=.ptr 1 0∧st.h 1=some (.box [.pv (.sl (s.js.map dy)),.pv (.sl (s.ms.map di)),.pv (.sl (s.shs.map dc)),.pv (.sl (s.sks.map bF))] true false)∧st.t 3=.pv (zs CL)∧st.t 17=.pv (.sl (s.shs.map dc))∧st.t 18=.pv (Z s.shs.length)∧st.t 19=.pv (Z i)∧st.t 5=.pv (Z i)∧st.t 6=.ptr 6 0∧st.h 6=some (.box [.pv (Z a.link),.pv (Z a.rad),.pv (aT a.pts)] true false)∧st.h 8=none∧st.t 7=.pv (Z ((i+1+q : Nat) : Int))∧st.t 4=.arr 4 (ij s i++i5 s i (i+1+q)).length∧st.h 4=some (.row 242 2 ((ij s i++i5 s i (i+1+q)).map ni) 0)) (by simp [g1,hb1,g3,g17,g18,g19,hb6,hb8,g4,hb4,sV]) ?_
  clear g1 hb1 g3 g17 g18 g19 hb6 hb8 g4 hb4
  rintro q st hq ⟨g1,hb1,g3,g17,g18,g19,g5,g6,hb6,hb8,g7,g4,hb4⟩
  obtain ⟨k,hk⟩ : ∃ k,k=i+1+q:=⟨_,rfl⟩
  have hk2 : i+1+(q+1)=k+1:=by omega
  rw [← hk] at g7 g4 hb4
  rw [hk2]
  have hIk : i5 s i (k+1)=i5 s i k++(if i < k∧fy s i k=true then [(i,k)] else []):=rfl
  have hlk:=iL i k
  by_cases hkl : k < s.shs.length
  ·have hkl' : (k : Int) < (s.shs.length : Int):=by omega
   have hwk : IntKind.i64.wrap ((k : Int)+1)=(k : Int)+1:=aa (by omega) (by omega)
   generalize hye : s.shs[k]=b at *
   have hy : s.shs[k]?=some b:=by rw [List.getElem?_eq_getElem hkl,hye]
   obtain ⟨xb,hc1,hc2,hc3,hc4⟩:=hcl b (List.mem_of_getElem? hy)
   have hgb : ∀ h,CL[k6 b]'h=xb:=fun h=>by have:=List.getElem?_eq_getElem h;rw [hc1] at this;injection this with this;exact this.symm
   have hwb : IntKind.i64.wrap (b.link+1)=(k6 b : Int):=(aa (by omega) (by omega)).trans hc3
   have hpa : fy s i k=(!rU CL a b && !jv s a.link b.link):=by simp only [fy,hx,hy,hpb]
   have hrg : rU CL a b=(xa==xb):=by simp only [rU,ha1,hc1,Option.getD_some]
   rw [hrg] at hpa
   have cs:=csk a.link b.link
   have hik : i < k:=by omega
   have hlen : (ij s i++i5 s i k).length≤1000:=by simp only [List.length_append];omega
   generalize hPdef : ij s i++i5 s i k=P at *
   have hq2 : q < s.shs.length - (i+1):=by omega
   have hPs : ij s i++i5 s i (k+1)=P++(if fy s i k=true then [(i,k)] else []):=by
    rw [hIk,← List.append_assoc,hPdef]
    simp [hik]
   rw [hPs]
   generalize jv s a.link b.link=sk at *
   cases hxx : (xa==xb) with
   |true=>
    rw [hxx] at hpa
    have hpa' : fy s i k=false:=by rw [hpa];rfl
    rw [hpa']
    with_reducible repeat' (first|refine Sp.h ?_|((first|refine Wd ?_|refine Ss.h ?_|refine Sc.h (cs) ?_|(refine Sb.h ?_ ?_ ?_<;>(try intro hgd)<;>try exact Xy))<;>simp -implicitDefEqProofs (maxSteps:=2000000) [hP,hN,g1,hb1,g3,g17,g18,g19,g5,g6,hb6,hb8,g7,g4,hb4,hkl,hkl',hwk,hy,hye,hwa,hwb,ha1,ha2,hc1,hc2,hga,hgb,hxx,hq2]<;>try refine Ya ?_)|refine X2 ?_ ?_|(refine Xd ?_ ?_<;>intro hcd<;>try exact Xx))
   |false=>
    rw [hxx] at hpa
    cases sk with
    |true=>
     have hpa' : fy s i k=false:=by rw [hpa];rfl
     rw [hpa']
     with_reducible repeat' (first|refine Sp.h ?_|((first|refine Wd ?_|refine Ss.h ?_|refine Sc.h (cs) ?_|(refine Sb.h ?_ ?_ ?_<;>(try intro hgd)<;>try exact Xy))<;>simp -implicitDefEqProofs (maxSteps:=2000000) [hP,hN,g1,hb1,g3,g17,g18,g19,g5,g6,hb6,hb8,g7,g4,hb4,hkl,hkl',hwk,hy,hye,hwa,hwb,ha1,ha2,hc1,hc2,hga,hgb,hxx,hq2]<;>try refine Ya ?_)|refine X2 ?_ ?_|(refine Xd ?_ ?_<;>intro hcd<;>try exact Xx))
    |false=>
     have hpa' : fy s i k=true:=by rw [hpa];rfl
     rw [hpa']
     with_reducible repeat' (first|refine Sp.h ?_|((first|refine Wd ?_|refine Ss.h ?_|refine Sc.h (cs) ?_|(refine Sb.h ?_ ?_ ?_<;>(try intro hgd)<;>try exact Xy))<;>simp -implicitDefEqProofs (maxSteps:=2000000) [hP,hN,g1,hb1,g3,g17,g18,g19,g5,g6,hb6,hb8,g7,g4,hb4,hkl,hkl',hwk,hy,hye,hwa,hwb,ha1,ha2,hc1,hc2,hga,hgb,hxx,hq2,show (P.length+1) * 16≤140737488355328 by omega,show P.length≤9223372036854775806 by omega]<;>try refine Ya ?_)|refine X2 ?_ ?_|(refine Xd ?_ ?_<;>intro hcd<;>try exact Xx))
  ·have hkn : k=s.shs.length:=by omega
   have hkl' : ¬ (k : Int) < (s.shs.length : Int):=by omega
   rw [hkn,← hsucc] at g4 hb4
   with_reducible repeat' (first|refine Sp.h ?_|((first|refine Wd ?_|refine Ss.h ?_|(refine Sb.h ?_ ?_ ?_<;>(try intro hgd)<;>try exact Xy))<;>simp -implicitDefEqProofs (maxSteps:=2000000) [hP,hN,g1,hb1,g3,g17,g18,g19,g5,g6,hb6,hb8,g7,g4,hb4,hkl,hkl',hw,hlt]<;>try refine Ya ?_)|refine X2 ?_ ?_|(refine Xd ?_ ?_<;>intro hcd<;>try exact Xx))
 ·have hin : i=s.shs.length:=by omega
  subst hin
  with_reducible repeat' (first|refine Sp.h ?_|((first|refine Wd ?_|refine Ss.h ?_|(refine Sb.h ?_ ?_ ?_<;>(try intro hgd)<;>try exact Xy))<;>simp -implicitDefEqProofs (maxSteps:=2000000) [hP,hN,g1,hb1,g3,g17,g18,g19,hb6,hb8,g4,hb4]<;>try refine Ya ?_)|refine X2 ?_ ?_|(refine Xd ?_ ?_<;>intro hcd<;>try exact Xx))
theorem BO (x : Int × Int) : ab Tryz.prog 389 [.pv (bF x)] [] [] (.pv (B (!aH x.1 x.2))):=by
 refine Dp Tryz.func389 ?_
 intro C hP hN
 simp only [Tryz.f389] at hN ⊢
 with_reducible repeat' (first|refine Sp.h ?_|((first|refine Ss.h ?_|refine Sc.h (eJ _ _) ?_|(refine Sb.h ?_ ?_ ?_<;>(try intro hgd)<;>try exact Xy))<;>simp -implicitDefEqProofs (maxSteps:=2000000) [hP,hN])|refine X2 ?_ ?_|(refine Xd ?_ ?_<;>intro hcd<;>try exact Xx))
 all_goals (first|(simp_all;done)|((try simp_all)<;>(try omega)<;>grind))
def fA (js : List J) (bx : List Iv) : Bool:=decide (bx.length=js.length) && dq vI bx
theorem BP (js : List J) (ms : List Ms) (bx : List Iv) (hl : js.length≤9223372036854775807) (hl2 : bx.length≤9223372036854775807) : ab Tryz.prog 319 [.pv (kC js ms),.pv (iv bx)] [] [] (.pv (B (fA js bx))):=by
 have cc:=Ax 389 (fun x=>!aH x.1 x.2) bx hl2 BO
 have ha : (bx.any fun x=>!aH x.1 x.2)=!dq vI bx:=xq vI bx
 rw [ha] at cc
 have hd : fA js bx=(decide (bx.length=js.length) && dq vI bx):=rfl
 rw [hd]
 generalize dq vI bx=c at *
 by_cases h : bx.length=js.length
 ·have h' : ((bx.length : Int)==(js.length : Int))=true:=by simp [h]
  cases c
  ·skip
   refine Dp Tryz.func319 ?_
   intro C hP hN
   simp only [Tryz.f319] at hN ⊢
   with_reducible repeat' (first|refine Sp.h ?_|((first|refine Ss.h ?_|refine Sc.h (cc) ?_|(refine Sb.h ?_ ?_ ?_<;>(try intro hgd)<;>try exact Xy))<;>simp -implicitDefEqProofs (maxSteps:=2000000) [hP,hN,h,h'])|refine X2 ?_ ?_|(refine Xd ?_ ?_<;>intro hcd<;>try exact Xx))
  ·skip
   refine Dp Tryz.func319 ?_
   intro C hP hN
   simp only [Tryz.f319] at hN ⊢
   with_reducible repeat' (first|refine Sp.h ?_|((first|refine Ss.h ?_|refine Sc.h (cc) ?_|(refine Sb.h ?_ ?_ ?_<;>(try intro hgd)<;>try exact Xy))<;>simp -implicitDefEqProofs (maxSteps:=2000000) [hP,hN,h,h'])|refine X2 ?_ ?_|(refine Xd ?_ ?_<;>intro hcd<;>try exact Xx))
 ·have h' : ((bx.length : Int)==(js.length : Int))=false:=by simp;omega
  refine Dp Tryz.func319 ?_
  intro C hP hN
  simp only [Tryz.f319] at hN ⊢
  with_reducible repeat' (first|refine Sp.h ?_|((first|refine Ss.h ?_|refine Sc.h (cc) ?_|(refine Sb.h ?_ ?_ ?_<;>(try intro hgd)<;>try exact Xy))<;>simp -implicitDefEqProofs (maxSteps:=2000000) [hP,hN,h,h'])|refine X2 ?_ ?_|(refine Xd ?_ ?_<;>intro hcd<;>try exact Xx))
end Go.Ab
namespace Go.Ab
open Go.Proofs
def zP : ii:=((((0,0),(0,0),(0,0)),((0,0),(0,0),(0,0)),((0,0),(0,0),(0,0))),((0,0),(0,0),(0,0)))
def tX (L : List ii) (j : J) (v : Iv) : ii:=if j.parent=-1 then jV j v else ng ((L[j.parent.toNat]?).getD zP) (jV j v)
def eE (js : List J) (bx : List Iv) : Nat→List ii
 |0=>[]
 |i+1=>match js[i]?,bx[i]? with
  |some j,some v=>eE js bx i++[tX (eE js bx i) j v]
  |_,_=>eE js bx i
def fB (js : List J) (bx : List Iv) : List ii:=eE js bx js.length
theorem gW {js : List J} {bx : List Iv} (hb : bx.length=js.length) : ∀ i,i≤js.length→(eE js bx i).length=i
 |0,_=>rfl
 |i+1,h=>by
  have hlt : i < js.length:=by omega
  have hlb : i < bx.length:=by omega
  have ih:=gW hb i (by omega)
  simp only [eE,List.getElem?_eq_getElem hlt,List.getElem?_eq_getElem hlb,List.length_append,ih,List.length_singleton]
theorem lM {js : List J} {bx : List Iv} (hb : bx.length=js.length) {k : Nat} : ∀ i,k≤i→i≤js.length→∀ q,q < k→(eE js bx i)[q]?=(eE js bx k)[q]?
 |0,h1,h2,q,hq=>by omega
 |i+1,h1,h2,q,hq=>by
  by_cases e : k=i+1
  ·subst e;rfl
  ·have hlt : i < js.length:=by omega
   have hlb : i < bx.length:=by omega
   rw [← lM hb i (by omega) (by omega) q hq]
   simp only [eE,List.getElem?_eq_getElem hlt,List.getElem?_eq_getElem hlb]
   rw [List.getElem?_append_left (by rw [gW hb i (by omega)];omega)]
theorem wt {js : List J} {bx : List Iv} (hb : bx.length=js.length) {i : Nat} {j : J} {v : Iv} (hj : js[i]?=some j) (hv : bx[i]?=some v) (hk : tU i j) : (fB js bx)[i]?=some (if j.parent=-1 then jV j v else ng (((fB js bx)[j.parent.toNat]?).getD zP) (jV j v)):=by
 have hlt:=(List.getElem?_eq_some_iff.1 hj).1
 obtain ⟨_,hp1,hp2⟩:=hk
 have e1 : (fB js bx)[i]?=(eE js bx (i+1))[i]?:=lM hb js.length (k:=i+1) (by omega) (Nat.le_refl _) _ (by omega)
 rw [e1]
 have hlen:=gW hb i (by omega)
 simp only [eE,hj,hv]
 rw [List.getElem?_append_right (by omega),hlen,Nat.sub_self]
 show some (tX (eE js bx i) j v)=_
 unfold tX
 by_cases he : j.parent=-1
 ·rw [if_pos he,if_pos he]
 ·rw [if_neg he,if_neg he]
  have e2 : (fB js bx)[j.parent.toNat]?=(eE js bx i)[j.parent.toNat]?:=lM hb js.length (k:=i) (by omega) (Nat.le_refl _) _ (by omega)
  rw [e2]
theorem xP : bV zP=.val (.agg #[.int .i64 0,.int .i64 0,.int .i64 0,.int .i64 0,.int .i64 0,.int .i64 0,.int .i64 0,.int .i64 0,.int .i64 0,.int .i64 0,.int .i64 0,.int .i64 0,.int .i64 0,.int .i64 0,.int .i64 0,.int .i64 0,.int .i64 0,.int .i64 0,.int .i64 0,.int .i64 0,.int .i64 0,.int .i64 0,.int .i64 0,.int .i64 0]):=rfl
theorem xQ : bD bf=.val (.agg #[.int .i64 0,.int .i64 0,.int .i64 0,.int .i64 0,.int .i64 0,.int .i64 0]):=rfl
theorem jY {R : List PV} {k : Nat} {x : PV} (h : R[k]?=some x) : ∀ hk,R[k]'hk=x:=fun hk=>by
 have:=List.getElem?_eq_getElem hk
 rw [h] at this;injection this with this;exact this.symm
set_option maxRecDepth 4000 in
theorem BQ (js : List J) (ms : List Ms) (bx : List Iv) (hj : tV js) (hl : js.length≤10) (hb : bx.length=js.length) : ab Tryz.prog 320 [.pv (kC js ms),.pv (iv bx)] [] [] (.pv (.sl ((fB js bx).map bV))):=by
 have hLl : (fB js bx).length=js.length:=gW hb _ (Nat.le_refl _)
 have hat:=fun i j v (h1 : js[i]?=some j) (h2 : bx[i]?=some v)=>wt hb h1 h2 (hj i j h1)
 generalize fB js bx=LL at *
 generalize hLM : LL.map bV=LM at *
 have hML : LM.length=js.length:=by rw [← hLM];simpa using hLl
 have hMk : ∀ k p,LL[k]?=some p→LM[k]?=some (bV p):=fun k p h=>by rw [← hLM,List.getElem?_map,h];rfl
 refine Dp Tryz.func320 ?_
 intro C hP hN
 simp only [Tryz.f320] at hN ⊢
 with_reducible repeat' (first|refine Sp.h ?_|((first|refine Wd ?_|refine Ss.h ?_|(refine Sb.h ?_ ?_ ?_<;>(try intro hgd)<;>try exact Xy))<;>simp -implicitDefEqProofs (maxSteps:=2000000) [hP,hN,show (192 : Int) * (js.length : Int)≤281474976710656 by omega,show (js.length : Int)≤9223372036854775807 by omega]<;>try refine Ya ?_)|refine X2 ?_ ?_|(refine Xd ?_ ?_<;>intro hcd<;>try exact Xx))
 refine WP.loopN [7] js.length (fun i st=>∃ R : List PV,st.t 1=.pv (iv bx)∧st.t 5=.arr 11 js.length∧st.t 13=.pv (.sl (js.map dy))∧st.t 14=.pv (Z js.length)∧st.t 15=.pv (Z i)∧st.h 7=none∧st.h 11=some (.row 342 24 R 0)∧R.length=js.length∧(∀ k,i≤k→k < js.length→R[k]?=some (bV zP))∧∀ k,k < i→R[k]?=LM[k]?) ?_ ?_
 ·refine ⟨List.replicate js.length (bV zP),?_⟩
  rw [xP]
  simp
  try (intro k hk;first|exact hk|simp [List.getElem?_replicate,hk])
 rintro i st hi ⟨R,g1,g5,g13,g14,g15,hb7,hb11,hRl,hRz,hR⟩
 by_cases hlt : i < js.length
 ·have hw:=aJ hlt (by omega)
  generalize hxe : js[i]=j at *
  have hx : js[i]?=some j:=by rw [List.getElem?_eq_getElem hlt,hxe]
  have hltb : i < bx.length:=by omega
  generalize hve : bx[i]=v at *
  have hv : bx[i]?=some v:=by rw [List.getElem?_eq_getElem hltb,hve]
  obtain ⟨⟨hk0,hk6⟩,hp1,hp2⟩:=hj i j hx
  have cj:=BD (a:=v.1) (b:=v.2) j hk0 hk6
  have ha:=hat i j v hx hv
  have hRi:=hRz i (Nat.le_refl _) hlt
  have hgi:=jY hRi
  have hiR : i < R.length:=by omega
  generalize hq : jV j (v.1,v.2)=q at *
  have key : ∀ x,LL[i]?=some x→(∀ k,i+1≤k→k < js.length→(R.set i (bV x))[k]?=some (bV zP))∧∀ k,k < i+1→(R.set i (bV x))[k]?=LM[k]?:=by
   intro x hxx
   refine ⟨fun k h1 h2=>?_,fun k h1=>?_⟩
   ·rw [List.getElem?_set,if_neg (by omega)];exact hRz k (by omega) h2
   ·rw [List.getElem?_set]
    by_cases e : i=k
    ·subst e;rw [if_pos rfl,if_pos hiR,hMk i x hxx]
    ·rw [if_neg e];exact hR k (by omega)
  have hs1 : (R.set i (bV q))[i]?=some (bV q):=by rw [List.getElem?_set,if_pos rfl,if_pos hiR]
  have hs2:=jY hs1
  have hs3 : ∀ y,(R.set i (bV q)).set i y=R.set i y:=fun y=>List.set_set ..
  by_cases he : j.parent=-1
  ·rw [if_pos he] at ha
   obtain ⟨k1,k2⟩:=key q ha
   have he' : (j.parent==-1)=true:=by simp [he]
   have he2 : (j.parent !=-1)=false:=by simp [he]
   with_reducible repeat' (first|refine Sp.h ?_|((first|refine Wd ?_|refine Ss.h ?_|refine Sc.h (cj) ?_|(refine Sb.h ?_ ?_ ?_<;>(try intro hgd)<;>try exact Xy))<;>simp -implicitDefEqProofs (maxSteps:=2000000) [hP,hN,g1,g5,g13,g14,g15,hb7,hb11,hRl,hlt,hltb,hw,hx,hxe,hv,hve,hRi,hgi,he',he2]<;>try refine Ya ?_)|refine X2 ?_ ?_|(refine Xd ?_ ?_<;>intro hcd<;>try exact Xx))
   all_goals first|exact ⟨_,rfl,by simp [hRl],k1,k2⟩|exact ⟨k1,k2⟩|exact ⟨by simp [hRl],k1,k2⟩|exact k2
  ·rw [if_neg he] at ha
   obtain ⟨p,hp⟩ : ∃ p : Nat,j.parent=p:=⟨j.parent.toNat,by omega⟩
   have he' : (j.parent==-1)=false:=by simp [he]
   have he2 : (j.parent !=-1)=true:=by simp [he]
   have hp0 : (0 : Int)≤j.parent:=by omega
   have hpt : j.parent.toNat=p:=by omega
   have hpi : p < i:=by omega
   have hpl : p < LL.length:=by omega
   have hLp : LL[p]?=some LL[p]:=List.getElem?_eq_getElem hpl
   rw [hpt,hLp,Option.getD_some] at ha
   have hRp:=(hR p hpi).trans (hMk p _ hLp)
   generalize LL[p]=pp at *
   obtain ⟨k1,k2⟩:=key _ ha
   have ht1 : (R.set i (bV q))[p]?=some (bV pp):=by rw [List.getElem?_set,if_neg (by omega)];exact hRp
   have ht2:=jY ht1
   have hpj : p < js.length:=by omega
   with_reducible repeat' (first|refine Sp.h ?_|((first|refine Wd ?_|refine Ss.h ?_|refine Sc.h (cj) ?_|refine Sc.h (mL) ?_|(refine Sb.h ?_ ?_ ?_<;>(try intro hgd)<;>try exact Xy))<;>simp -implicitDefEqProofs (maxSteps:=2000000) [hP,hN,g1,g5,g13,g14,g15,hb7,hb11,hRl,hlt,hltb,hw,hx,hxe,hv,hve,hRi,hgi,hp0,hpt,he',he2,hs1,hs2,hs3,ht1,ht2,hpj]<;>try refine Ya ?_)|refine X2 ?_ ?_|(refine Xd ?_ ?_<;>intro hcd<;>try exact Xx))
   all_goals first|exact ⟨_,rfl,by simp [hRl],k1,k2⟩|exact ⟨k1,k2⟩|exact ⟨by simp [hRl],k1,k2⟩|exact k2
 ·have hin : i=js.length:=by omega
  subst hin
  have hRC : R=LM:=by
   apply List.ext_getElem?
   intro k
   by_cases hk : k < js.length
   ·exact hR k hk
   ·rw [List.getElem?_eq_none (by omega),List.getElem?_eq_none (by omega)]
  subst hRC
  with_reducible repeat' (first|refine Sp.h ?_|((first|refine Wd ?_|refine Ss.h ?_|(refine Sb.h ?_ ?_ ?_<;>(try intro hgd)<;>try exact Xy))<;>simp -implicitDefEqProofs (maxSteps:=2000000) [hP,hN,g1,g5,g13,g14,g15,hb7,hb11,hML]<;>try refine Ya ?_)|refine X2 ?_ ?_|(refine Xd ?_ ?_<;>intro hcd<;>try exact Xx))
def gg (h : Sh) (p : ii) : List am:=h.pts.map fun q=>gV p (cW q)
set_option maxRecDepth 4000 in
theorem BR (h : Sh) (p : ii) (hs : eP h=true) : ab Tryz.prog 322 [.pv (dc h),.pv (bV p)] [] [] (.pv (aY (gg h p))):=by
 have hlen : 1≤h.pts.length∧h.pts.length≤8:=by
  simp only [eP,Bool.and_eq_true,decide_eq_true_eq] at hs
  obtain ⟨⟨⟨_,b3⟩,b4⟩,_⟩:=hs
  exact ⟨b3,b4⟩
 have cc:=BE h (by omega)
 rw [hs] at cc
 have hpl : gg h p=h.pts.map fun q=>gV p (cW q):=rfl
 rw [hpl]
 generalize hLM : (h.pts.map fun q=>gV p (cW q)).map bD=LM
 have hML : LM.length=h.pts.length:=by rw [← hLM];simp
 have hMk : ∀ k q,h.pts[k]?=some q→LM[k]?=some (bD (gV p (cW q))):=fun k q hk=>by rw [← hLM,List.getElem?_map,List.getElem?_map,hk];rfl
 refine Dp Tryz.func322 ?_
 intro C hP hN
 simp only [Tryz.f322] at hN ⊢
 with_reducible repeat' (first|refine Sp.h ?_|((first|refine Wd ?_|refine Ss.h ?_|refine Sc.h (cc) ?_|(refine Sb.h ?_ ?_ ?_<;>(try intro hgd)<;>try exact Xy))<;>simp -implicitDefEqProofs (maxSteps:=2000000) [hP,hN,show (48 : Int) * (h.pts.length : Int)≤281474976710656 by omega,show (h.pts.length : Int)≤9223372036854775807 by omega]<;>try refine Ya ?_)|refine X2 ?_ ?_|(refine Xd ?_ ?_<;>intro hcd<;>try exact Xx))
 refine WP.loopN [7] h.pts.length (fun i st=>∃ R : List PV,st.t 3=.ptr 3 0∧st.h 3=some (.box [.pv (Z p.1.1.1.1),.pv (Z p.1.1.1.2),.pv (Z p.1.1.2.1.1),.pv (Z p.1.1.2.1.2),.pv (Z p.1.1.2.2.1),.pv (Z p.1.1.2.2.2),.pv (Z p.1.2.1.1.1),.pv (Z p.1.2.1.1.2),.pv (Z p.1.2.1.2.1.1),.pv (Z p.1.2.1.2.1.2),.pv (Z p.1.2.1.2.2.1),.pv (Z p.1.2.1.2.2.2),.pv (Z p.1.2.2.1.1),.pv (Z p.1.2.2.1.2),.pv (Z p.1.2.2.2.1.1),.pv (Z p.1.2.2.2.1.2),.pv (Z p.1.2.2.2.2.1),.pv (Z p.1.2.2.2.2.2),.pv (Z p.2.1.1),.pv (Z p.2.1.2),.pv (Z p.2.2.1.1),.pv (Z p.2.2.1.2),.pv (Z p.2.2.2.1),.pv (Z p.2.2.2.2)] true false)∧st.t 5=.arr 14 h.pts.length∧st.t 16=.pv (aT h.pts)∧st.t 17=.pv (Z h.pts.length)∧st.t 18=.pv (Z i)∧st.h 7=none∧st.h 14=some (.row 256 6 R 0)∧R.length=h.pts.length∧(∀ k,i≤k→k < h.pts.length→R[k]?=some (bD bf))∧∀ k,k < i→R[k]?=LM[k]?) ?_ ?_
 ·refine ⟨List.replicate h.pts.length (bD bf),?_⟩
  rw [xQ]
  simp
  try (intro k hk;first|exact hk|simp [List.getElem?_replicate,hk])
 rintro i st hi ⟨R,g3,hb3,g5,g16,g17,g18,hb7,hb14,hRl,hRz,hR⟩
 by_cases hlt : i < h.pts.length
 ·have hw:=aJ hlt (by omega)
  generalize hxe : h.pts[i]=q at *
  have hx : h.pts[i]?=some q:=by rw [List.getElem?_eq_getElem hlt,hxe]
  have hRi:=hRz i (Nat.le_refl _) hlt
  have hgi:=jY hRi
  have hiR : i < R.length:=by omega
  have cp:=wh q.1 q.2.1 q.2.2
  have hpq : cW (q.1,q.2.1,q.2.2)=cW q:=rfl
  rw [hpq] at cp
  have k1 : ∀ y k,i+1≤k→k < h.pts.length→(R.set i y)[k]?=some (bD bf):=fun y k h1 h2=>by
   rw [List.getElem?_set,if_neg (by omega)];exact hRz k (by omega) h2
  have k2 : ∀ k,k < i+1→(R.set i (bD (gV p (cW q))))[k]?=LM[k]?:=fun k h1=>by
   rw [List.getElem?_set]
   by_cases e : i=k
   ·subst e;rw [if_pos rfl,if_pos hiR,hMk i q hx]
   ·rw [if_neg e];exact hR k (by omega)
  clear hMk hLM
  generalize cW q=pq at *
  with_reducible repeat' (first|refine Sp.h ?_|((first|refine Wd ?_|refine Ss.h ?_|refine Sc.h (cp) ?_|refine Sc.h (Bp) ?_|(refine Sb.h ?_ ?_ ?_<;>(try intro hgd)<;>try exact Xy))<;>simp -implicitDefEqProofs (maxSteps:=2000000) [hP,hN,g3,hb3,g5,g16,g17,g18,hb7,hb14,hRl,hlt,hw,hx,hxe,hRi,hgi]<;>try refine Ya ?_)|refine X2 ?_ ?_|(refine Xd ?_ ?_<;>intro hcd<;>try exact Xx))
  all_goals first|exact ⟨_,rfl,by simp [hRl],k1 _,k2⟩|exact ⟨k1 _,k2⟩|exact ⟨by simp [hRl],k1 _,k2⟩|exact k2
 ·have hin : i=h.pts.length:=by omega
  subst hin
  have hRC : R=LM:=by
   apply List.ext_getElem?
   intro k
   by_cases hk : k < h.pts.length
   ·exact hR k hk
   ·rw [List.getElem?_eq_none (by omega),List.getElem?_eq_none (by omega)]
  subst hRC
  with_reducible repeat' (first|refine Sp.h ?_|((first|refine Wd ?_|refine Ss.h ?_|(refine Sb.h ?_ ?_ ?_<;>(try intro hgd)<;>try exact Xy))<;>simp -implicitDefEqProofs (maxSteps:=2000000) [hP,hN,g3,hb3,g5,g16,g17,g18,hb7,hb14,hML]<;>try refine Ya ?_)|refine X2 ?_ ?_|(refine Xd ?_ ?_<;>intro hcd<;>try exact Xx))
  all_goals (rw [← hLM];simp)
end Go.Ab
namespace Go.Ab
open Go.Proofs
def gX (LL : List ii) (h : Sh) : ii:=if h.link=-1 then ge else (LL[h.link.toNat]?).getD zP
def cK (s : Sce) (bx : List Iv) : List (List am):=s.shs.map fun h=>gg h (gX (fB s.js bx) h)
theorem tY {js : List J} {bx : List Iv} : fA js bx=true↔bx.length=js.length∧dq vI bx=true:=by simp [fA]
set_option maxRecDepth 4000 in
theorem BT (s : Sce) (bx : List Iv) (hs : ScL s) (h0 : cG s=0) (hbx : fA s.js bx=true) : ab Tryz.prog 230 [.pv (de s),.pv (iv bx)] [] [] (.pv (.sl ((cK s bx).map aY))):=by
 have cc:=wo s hs
 rw [h0] at cc
 obtain ⟨v1,v2,v3,v4,v5,v6,v7⟩:=ku h0
 have hbl:=(tY.1 hbx).1
 have cb:=BP s.js s.ms bx hs.js (by omega)
 rw [hbx] at cb
 have cl:=BQ s.js s.ms bx v1 v2 hbl
 have hLl : (fB s.js bx).length=s.js.length:=gW hbl _ (Nat.le_refl _)
 have hpL : cK s bx=s.shs.map fun h=>gg h (gX (fB s.js bx) h):=rfl
 rw [hpL]
 generalize fB s.js bx=LL at *
 generalize hLM : (s.shs.map fun h=>gg h (gX LL h)).map aY=LM
 have hML : LM.length=s.shs.length:=by rw [← hLM];simp
 have hMk : ∀ k h,s.shs[k]?=some h→LM[k]?=some (aY (gg h (gX LL h))):=fun k q hk=>by rw [← hLM,List.getElem?_map,List.getElem?_map,hk];rfl
 refine Dp Tryz.func230 ?_
 intro C hP hN
 simp only [Tryz.f230] at hN ⊢
 with_reducible repeat' (first|refine Sp.h ?_|((first|refine Ss.h ?_|refine Sc.h (cb) ?_|refine Sc.h (cc) ?_|refine Sc.h (cl) ?_|(refine Sb.h ?_ ?_ ?_<;>(try intro hgd)<;>try exact Xy))<;>simp -implicitDefEqProofs (maxSteps:=2000000) [hP,hN,show (24 : Int) * (s.shs.length : Int)≤281474976710656 by omega,show (s.shs.length : Int)≤9223372036854775807 by omega])|refine X2 ?_ ?_|(refine Xd ?_ ?_<;>intro hcd<;>try exact Xx))
 refine WP.loopN [8,9] s.shs.length (fun i st=>∃ R : List PV,st.t 5=.pv (.sl (LL.map bV))∧st.t 6=.arr 27 s.shs.length∧st.t 29=.pv (.sl (s.shs.map dc))∧st.t 30=.pv (Z s.shs.length)∧st.t 31=.pv (Z i)∧st.h 8=none∧st.h 9=none∧st.h 27=some (.row 139 1 R 0)∧R.length=s.shs.length∧(∀ k,i≤k→k < s.shs.length→R[k]?=some (.val (.slice none 0 0)))∧∀ k,k < i→R[k]?=LM[k]?) ?_ ?_
 ·refine ⟨List.replicate s.shs.length (.val (.slice none 0 0)),?_⟩
  simp
  try (intro k hk;first|exact hk|simp [List.getElem?_replicate,hk])
 rintro i st hi ⟨R,g5,g6,g29,g30,g31,hb8,hb9,hb27,hRl,hRz,hR⟩
 by_cases hlt : i < s.shs.length
 ·have hw:=aJ hlt (by omega)
  generalize hxe : s.shs[i]=h at *
  have hx : s.shs[i]?=some h:=by rw [List.getElem?_eq_getElem hlt,hxe]
  have hm:=List.mem_of_getElem? hx
  obtain ⟨hl1,hsb⟩:=v6 h hm
  simp only [e7,Bool.and_eq_true,decide_eq_true_eq] at hl1
  have hRi:=hRz i (Nat.le_refl _) hlt
  have hgi:=jY hRi
  have hiR : i < R.length:=by omega
  have cp:=fun p=>BR h p hsb
  have k1 : ∀ y k,i+1≤k→k < s.shs.length→(R.set i y)[k]?=some (.val (.slice none 0 0)):=fun y k h1 h2=>by
   rw [List.getElem?_set,if_neg (by omega)];exact hRz k (by omega) h2
  have k2 : ∀ k,k < i+1→(R.set i (aY (gg h (gX LL h))))[k]?=LM[k]?:=fun k h1=>by
   rw [List.getElem?_set]
   by_cases e : i=k
   ·subst e;rw [if_pos rfl,if_pos hiR,hMk i h hx]
   ·rw [if_neg e];exact hR k (by omega)
  clear hMk hLM hpL
  by_cases he : h.link=-1
  ·have he1 : (h.link==-1)=true:=by simp [he]
   have he2 : (h.link !=-1)=false:=by simp [he]
   have hpo : gX LL h=ge:=by simp [gX,he]
   rw [hpo] at k2
   have cps:=cp ge
   generalize gg h ge=pl at *
   with_reducible repeat' (first|refine Sp.h ?_|((first|refine Ss.h ?_|refine Sc.h (wi) ?_|refine Sc.h (cps) ?_|(refine Sb.h ?_ ?_ ?_<;>(try intro hgd)<;>try exact Xy))<;>simp -implicitDefEqProofs (maxSteps:=2000000) [hP,hN,g5,g6,g29,g30,g31,hb8,hb9,hb27,hRl,hlt,hw,hx,hxe,hRi,hgi,he1,he2])|refine X2 ?_ ?_|(refine Xd ?_ ?_<;>intro hcd<;>try exact Xx))
   all_goals first|exact ⟨_,rfl,by simp [hRl],k1 _,k2⟩|exact ⟨k1 _,k2⟩|exact ⟨by simp [hRl],k1 _,k2⟩|exact k2
  ·have he1 : (h.link==-1)=false:=by simp [he]
   have he2 : (h.link !=-1)=true:=by simp [he]
   have hp0 : (0 : Int)≤h.link:=by omega
   obtain ⟨p,hp⟩ : ∃ p : Nat,h.link.toNat=p:=⟨_,rfl⟩
   have hpl : p < LL.length:=by omega
   have hLp : LL[p]?=some LL[p]:=List.getElem?_eq_getElem hpl
   have hpo : gX LL h=LL[p]:=by simp only [gX,if_neg he,hp,hLp,Option.getD_some]
   have hgp : ∀ hh,LL[p]'hh=LL[p]:=fun _=>rfl
   rw [hpo] at k2
   generalize hpp : LL[p]=pp at *
   have cps:=cp pp
   generalize gg h pp=pl at *
   with_reducible repeat' (first|refine Sp.h ?_|((first|refine Ss.h ?_|refine Sc.h (wi) ?_|refine Sc.h (cps) ?_|(refine Sb.h ?_ ?_ ?_<;>(try intro hgd)<;>try exact Xy))<;>simp -implicitDefEqProofs (maxSteps:=2000000) [hP,hN,g5,g6,g29,g30,g31,hb8,hb9,hb27,hRl,hlt,hw,hx,hxe,hRi,hgi,he1,he2,hp0,hp,hpl,hLp,hpp])|refine X2 ?_ ?_|(refine Xd ?_ ?_<;>intro hcd<;>try exact Xx))
   all_goals first|exact ⟨_,rfl,by simp [hRl],k1 _,k2⟩|exact ⟨k1 _,k2⟩|exact ⟨by simp [hRl],k1 _,k2⟩|exact k2
 ·have hin : i=s.shs.length:=by omega
  subst hin
  have hRC : R=LM:=by
   apply List.ext_getElem?
   intro k
   by_cases hk : k < s.shs.length
   ·exact hR k hk
   ·rw [List.getElem?_eq_none (by omega),List.getElem?_eq_none (by omega)]
  subst hRC
  with_reducible repeat' (first|refine Sp.h ?_|((first|refine Ss.h ?_|(refine Sb.h ?_ ?_ ?_<;>(try intro hgd)<;>try exact Xy))<;>simp -implicitDefEqProofs (maxSteps:=2000000) [hP,hN,g5,g6,g29,g30,g31,hb8,hb9,hb27,hML])|refine X2 ?_ ?_|(refine Xd ?_ ?_<;>intro hcd<;>try exact Xx))
  all_goals (rw [← hLM];simp)
def kv (v : am) (k : Nat) : Vc:=(if 0 < k then jW v.1 else 0,if 1 < k then jW v.2.1 else 0,if 2 < k then jW v.2.2 else 0)
theorem p6 (l : List am) (hl : l.length≤9223372036854775807) : ab Tryz.prog 123 [.pv (aY l)] [] [] (.pv (aT (aA l))):=by
 have cp:=lK l hl
 cases hp : az l with
 |false=>
  have hc : aA l=[]:=by simp [aA,hp]
  rw [hc];rw [hp] at cp
  refine Dp Tryz.func123 ?_
  intro C hP hN
  simp only [Tryz.f123] at hN ⊢
  with_reducible repeat' (first|refine Sp.h ?_|((first|refine Wd ?_|refine Ss.h ?_|refine Sc.h (cp) ?_|(refine Sb.h ?_ ?_ ?_<;>(try intro hgd)<;>try exact Xy))<;>simp -implicitDefEqProofs (maxSteps:=2000000) [hP,hN]<;>try refine Ya ?_)|refine X2 ?_ ?_|(refine Xd ?_ ?_<;>intro hcd<;>try exact Xx))
 |true=>
 have hc : aA l=l.map nh:=by simp [aA,hp]
 rw [hc];rw [hp] at cp
 simp only [az,Bool.and_eq_true,decide_eq_true_eq] at hp
 obtain ⟨⟨hp1,hp2⟩,hp3⟩:=hp
 generalize hLM : (l.map nh).map av=LM
 have hML : LM.length=l.length:=by rw [← hLM];simp
 have hMk : ∀ k h,l[k]?=some h→LM[k]?=some (av (nh h)):=fun k q hk=>by rw [← hLM,List.getElem?_map,List.getElem?_map,hk];rfl
 refine Dp Tryz.func123 ?_
 intro C hP hN
 simp only [Tryz.f123] at hN ⊢
 with_reducible repeat' (first|refine Sp.h ?_|((first|refine Wd ?_|refine Ss.h ?_|refine Sc.h (cp) ?_|(refine Sb.h ?_ ?_ ?_<;>(try intro hgd)<;>try exact Xy))<;>simp -implicitDefEqProofs (maxSteps:=2000000) [hP,hN,show (24 : Int) * (l.length : Int)≤281474976710656 by omega,show (l.length : Int)≤9223372036854775807 by omega]<;>try refine Ya ?_)|refine X2 ?_ ?_|(refine Xd ?_ ?_<;>intro hcd<;>try exact Xx))
 refine WP.loopN [5,7] l.length (fun i st=>∃ R : List PV,st.t 3=.arr 13 l.length∧st.t 14=.pv (aY l)∧st.t 15=.pv (Z l.length)∧st.t 16=.pv (Z i)∧st.h 5=none∧st.h 7=none∧st.h 13=some (.row 126 3 R 0)∧R.length=l.length∧(∀ k,i≤k→k < l.length→R[k]?=some (ip 0 0 0))∧∀ k,k < i→R[k]?=LM[k]?) ?_ ?_
 ·refine ⟨List.replicate l.length (ip 0 0 0),?_⟩
  simp
  try (intro k hk;first|exact hk|simp [List.getElem?_replicate,hk])
 rintro i st hi ⟨R,g3,g14,g15,g16,hb5,hb7,hb13,hRl,hRz,hR⟩
 by_cases hlt : i < l.length
 ·have hw:=aJ hlt (by omega)
  generalize hxe : l[i]=v at *
  have hx : l[i]?=some v:=by rw [List.getElem?_eq_getElem hlt,hxe]
  have hRi:=hRz i (Nat.le_refl _) hlt
  have hMi:=hMk i v hx
  clear hMk
  with_reducible repeat' (first|refine Sp.h ?_|((first|refine Wd ?_|refine Ss.h ?_|(refine Sb.h ?_ ?_ ?_<;>(try intro hgd)<;>try exact Xy))<;>simp -implicitDefEqProofs (maxSteps:=2000000) [hP,hN,g3,g14,g15,g16,hb5,hb7,hb13,hRl,hlt,hw,hx,hxe]<;>try refine Ya ?_)|refine X2 ?_ ?_|(refine Xd ?_ ?_<;>intro hcd<;>try exact Xx))
  refine WP.loopN [7] 3 (fun k st=>∃ R' : List PV,st.t 3=.arr 13 l.length∧st.t 4=.pv (Z i)∧st.t 14=.pv (aY l)∧st.t 15=.pv (Z l.length)∧st.t 16=.pv (Z i)∧st.t 21=.pv (bD v)∧st.t 22=.pv (Z k)∧st.h 7=none∧st.h 13=some (.row 126 3 R' 0)∧R'.length=l.length∧R'[i]?=some (ip (kv v k).1 (kv v k).2.1 (kv v k).2.2)∧∀ q,q≠i→R'[q]?=R[q]?) ?_ ?_
  ·refine ⟨R,?_⟩
   simp [g3,g14,g15,g16,hb5,hb7,hb13,hRl,hRi,kv]
  clear g3 g14 g15 g16 hb5 hb7 hb13
  rintro k st hk ⟨R',g3,g4,g14,g15,g16,g21,g22,hb7,hb13,hR'l,hR'i,hR'⟩
  have hgi:=jY hR'i
  have hiR' : i < R'.length:=by omega
  have hset : ∀ y,(R'.set i y)[i]?=some y:=fun y=>by rw [List.getElem?_set,if_pos rfl,if_pos hiR']
  have hoth : ∀ y q,q≠i→(R'.set i y)[q]?=R[q]?:=fun y q hq=>by rw [List.getElem?_set,if_neg (fun e=>hq e.symm)];exact hR' q hq
  rcases bh hk with rfl|rfl|rfl|rfl
  all_goals (simp [kv] at hR'i hgi g22)
  ·skip
   with_reducible repeat' (first|refine Sp.h ?_|((first|refine Wd ?_|refine Ss.h ?_|refine Sc.h (wm) ?_|(refine Sb.h ?_ ?_ ?_<;>(try intro hgd)<;>try exact Xy))<;>simp -implicitDefEqProofs (maxSteps:=2000000) [hP,hN,g3,g4,g14,g15,g16,g21,g22,hb7,hb13,hR'l,hR'i,hgi,hlt,kv,hset]<;>try refine Ya ?_)|refine X2 ?_ ?_|(refine Xd ?_ ?_<;>intro hcd<;>try exact Xx))
   all_goals first|exact ⟨_,rfl,by simp [hR'l],hset _,hoth _⟩|exact ⟨by simp [hR'l],hset _,hoth _⟩|exact ⟨hset _,hoth _⟩|exact fun q hq=>hoth _ q hq
  ·skip
   with_reducible repeat' (first|refine Sp.h ?_|((first|refine Wd ?_|refine Ss.h ?_|refine Sc.h (wm) ?_|(refine Sb.h ?_ ?_ ?_<;>(try intro hgd)<;>try exact Xy))<;>simp -implicitDefEqProofs (maxSteps:=2000000) [hP,hN,g3,g4,g14,g15,g16,g21,g22,hb7,hb13,hR'l,hR'i,hgi,hlt,kv,hset]<;>try refine Ya ?_)|refine X2 ?_ ?_|(refine Xd ?_ ?_<;>intro hcd<;>try exact Xx))
   all_goals first|exact ⟨_,rfl,by simp [hR'l],hset _,hoth _⟩|exact ⟨by simp [hR'l],hset _,hoth _⟩|exact ⟨hset _,hoth _⟩|exact fun q hq=>hoth _ q hq
  ·skip
   with_reducible repeat' (first|refine Sp.h ?_|((first|refine Wd ?_|refine Ss.h ?_|refine Sc.h (wm) ?_|(refine Sb.h ?_ ?_ ?_<;>(try intro hgd)<;>try exact Xy))<;>simp -implicitDefEqProofs (maxSteps:=2000000) [hP,hN,g3,g4,g14,g15,g16,g21,g22,hb7,hb13,hR'l,hR'i,hgi,hlt,kv,hset]<;>try refine Ya ?_)|refine X2 ?_ ?_|(refine Xd ?_ ?_<;>intro hcd<;>try exact Xx))
   all_goals first|exact ⟨_,rfl,by simp [hR'l],hset _,hoth _⟩|exact ⟨by simp [hR'l],hset _,hoth _⟩|exact ⟨hset _,hoth _⟩|exact fun q hq=>hoth _ q hq
  ·have k1 : ∀ k,i+1≤k→k < l.length→R'[k]?=some (ip 0 0 0):=fun k h1 h2=>by rw [hR' k (by omega)];exact hRz k (by omega) h2
   have k2 : ∀ k,k < i+1→R'[k]?=LM[k]?:=fun k h1=>by
    by_cases e : k=i
    ·subst e;rw [hMi,hR'i];rfl
    ·rw [hR' k e];exact hR k (by omega)
   with_reducible repeat' (first|refine Sp.h ?_|((first|refine Wd ?_|refine Ss.h ?_|(refine Sb.h ?_ ?_ ?_<;>(try intro hgd)<;>try exact Xy))<;>simp -implicitDefEqProofs (maxSteps:=2000000) [hP,hN,g3,g4,g14,g15,g16,g21,g22,hb7,hb13,hR'l,hlt,hw]<;>try refine Ya ?_)|refine X2 ?_ ?_|(refine Xd ?_ ?_<;>intro hcd<;>try exact Xx))
   all_goals first|exact ⟨_,rfl,hR'l,k1,k2⟩|exact ⟨hR'l,k1,k2⟩|exact ⟨k1,k2⟩|exact k2
 ·have hin : i=l.length:=by omega
  subst hin
  have hRC : R=LM:=by
   apply List.ext_getElem?
   intro k
   by_cases hk : k < l.length
   ·exact hR k hk
   ·rw [List.getElem?_eq_none (by omega),List.getElem?_eq_none (by omega)]
  subst hRC
  with_reducible repeat' (first|refine Sp.h ?_|((first|refine Wd ?_|refine Ss.h ?_|(refine Sb.h ?_ ?_ ?_<;>(try intro hgd)<;>try exact Xy))<;>simp -implicitDefEqProofs (maxSteps:=2000000) [hP,hN,g3,g14,g15,g16,hb5,hb7,hb13,hML]<;>try refine Ya ?_)|refine X2 ?_ ?_|(refine Xd ?_ ?_<;>intro hcd<;>try exact Xx))
  all_goals (rw [← hLM];simp)
end Go.Ab
namespace Go.Ab
open Go.Proofs
set_option maxRecDepth 100000 in
@[simp] theorem AY : bp Tryz.prog 231:=by
 refine ⟨by kernel_rfl,fun args w=>?_⟩
 refine callsD_of_wpS Tryz.func231 rfl fun c₀ cs hu=>?_
 apply wpS_seq
 apply wpS_region
 have hk : ∀ k,k < Tryz.f231.ntmps→k < args.size+(Tryz.f231.ntmps - args.size):=by intro k h;omega
 rw [Tryz.ntmps231] at hk
 have h0:=hk 0 (by decide)
 have h1:=hk 1 (by decide)
 have h2:=hk 2 (by decide)
 have h3:=hk 3 (by decide)
 simp [wpOpsS,go_sem,recoverD,hu,Tryz.ntmps231,Exit.thenS,h0,h1,h2,h3]
 refine wpS_cond (t:=false) (by simp [Act.eval,h0,h1,h2,h3]) ?_
 simp only [Bool.false_eq_true,if_false]
 refine wpS_of_wp (wp_skip ?_)
 cases c₀
 simp_all [bodyPostS,results,Tryz.results231]
set_option maxRecDepth 100000 in
@[simp] theorem AZ : bp Tryz.prog 397:=by
 refine ⟨by kernel_rfl,fun args w=>?_⟩
 refine callsD_of_wpS Tryz.func397 rfl fun c₀ cs hu=>?_
 apply wpS_seq
 apply wpS_region
 have hk : ∀ k,k < Tryz.f397.ntmps→k < args.size+(Tryz.f397.ntmps - args.size):=by intro k h;omega
 rw [Tryz.ntmps397] at hk
 have h0:=hk 0 (by decide)
 have h1:=hk 1 (by decide)
 have h2:=hk 2 (by decide)
 have h3:=hk 3 (by decide)
 simp [wpOpsS,go_sem,recoverD,hu,Tryz.ntmps397,Exit.thenS,h0,h1,h2,h3]
 refine wpS_cond (t:=false) (by simp [Act.eval,h0,h1,h2,h3]) ?_
 simp only [Bool.false_eq_true,if_false]
 refine wpS_of_wp (wp_skip ?_)
 cases c₀
 simp_all [bodyPostS,results,Tryz.results397]
def br (l : List Vc) : Nat→Vc
 |0=>(0,0,0)
 |i+1=>match l[i]? with
  |some p=>((br l i).1+p.1,(br l i).2.1+p.2.1,(br l i).2.2+p.2.2)
  |none=>br l i
theorem mE {l : List Vc} (hl : l.all (aF 268435456)=true) : ∀ i : Nat,cL ((i : Int) * 268435456) (br l i)
 |0=>by simp [br,cL]
 |i+1=>by
  obtain ⟨i1,i2,i3⟩:=mE hl i
  simp only [br]
  split
  ·rename_i p hp
   obtain ⟨a,b,c⟩:=ed (List.all_eq_true.1 hl p (List.mem_of_getElem? hp))
   exact ⟨⟨by simp only;omega,by simp only;omega⟩,⟨by simp only;omega,by simp only;omega⟩,⟨by simp only;omega,by simp only;omega⟩⟩
  ·exact ⟨⟨by omega,by omega⟩,⟨by omega,by omega⟩,⟨by omega,by omega⟩⟩
def kl (s p : Vc) (j : Nat) : List AV:=[.pv (Z (if 0 < j then s.1+p.1 else s.1)),.pv (Z (if 1 < j then s.2.1+p.2.1 else s.2.1)),.pv (Z (if 2 < j then s.2.2+p.2.2 else s.2.2))]
theorem yS (l : List Vc) (h8 : l.length≤8) (hl : l.all (aF 268435456)=true) : ab Tryz.prog 398 [.pv (aT l)] [] [] (.pv (av (br l l.length))):=by
 refine Dp Tryz.func398 ?_
 intro C hP hN
 simp only [Tryz.f398] at hN ⊢
 with_reducible repeat' (first|refine Sp.h ?_|((first|refine Wd ?_|refine Ss.h ?_|(refine Sb.h ?_ ?_ ?_<;>(try intro hgd)<;>try exact Xy))<;>simp -implicitDefEqProofs (maxSteps:=2000000) [hP,hN]<;>try refine Ya ?_)|refine X2 ?_ ?_|(refine Xd ?_ ?_<;>intro hcd<;>try exact Xx))
 refine WP.loopN [5] l.length (fun i st=>st.t 2=.ptr 2 0∧st.h 2=some (.box [.pv (Z 0),.pv (Z 0),.pv (Z 0)] true false)∧st.t 3=.ptr 3 0∧st.h 3=some (.box [.pv (Z (br l i).1),.pv (Z (br l i).2.1),.pv (Z (br l i).2.2)] true false)∧st.t 7=.pv (aT l)∧st.t 8=.pv (Z l.length)∧st.t 9=.pv (Z i)∧st.h 5=none) (by simp [br]) ?_
 rintro i st hi ⟨g2,hb2,g3,hb3,g7,g8,g9,hb5⟩
 by_cases hlt : i < l.length
 ·have hwr:=aJ hlt (by omega)
  generalize hxe : l[i]=p at *
  have hx : l[i]?=some p:=by rw [List.getElem?_eq_getElem hlt,hxe]
  have r1:=mE hl (i+1)
  have hp:=ed (List.all_eq_true.1 hl p (List.mem_of_getElem? hx))
  have hS : br l (i+1)=((br l i).1+p.1,(br l i).2.1+p.2.1,(br l i).2.2+p.2.2):=by simp only [br,hx]
  generalize br l i=S at *
  generalize br l (i+1)=S' at *
  subst hS
  obtain ⟨q1,q2,q3⟩:=r1
  simp only at q1 q2 q3
  have v1 : IntKind.i64.wrap (S.1+p.1)=S.1+p.1:=aa (by omega) (by omega)
  have v2 : IntKind.i64.wrap (S.2.1+p.2.1)=S.2.1+p.2.1:=aa (by omega) (by omega)
  have v3 : IntKind.i64.wrap (S.2.2+p.2.2)=S.2.2+p.2.2:=aa (by omega) (by omega)
  clear q1 q2 q3 hp
  have hbeg : [AV.pv (Z S.1),AV.pv (Z S.2.1),AV.pv (Z S.2.2)]=kl S p 0:=rfl
  rw [hbeg] at hb3
  with_reducible repeat' (first|refine Sp.h ?_|((first|refine Wd ?_|refine Ss.h ?_|(refine Sb.h ?_ ?_ ?_<;>(try intro hgd)<;>try exact Xy))<;>simp -implicitDefEqProofs (maxSteps:=2000000) [hP,hN,g2,hb2,g3,g7,g8,g9,hb5,hb3,hlt,hx,hxe]<;>try refine Ya ?_)|refine X2 ?_ ?_|(refine Xd ?_ ?_<;>intro hcd<;>try exact Xx))
  refine WP.loopN [] 3 (fun j st=>st.t 2=.ptr 2 0∧st.h 2=some (.box [.pv (Z 0),.pv (Z 0),.pv (Z 0)] true false)∧st.t 3=.ptr 3 0∧st.h 3=some (.box (kl S p j) true false)∧st.t 5=.ptr 5 0∧st.h 5=some (.box [.pv (Z p.1),.pv (Z p.2.1),.pv (Z p.2.2)] true false)∧st.t 7=.pv (aT l)∧st.t 8=.pv (Z l.length)∧st.t 9=.pv (Z i)∧st.t 13=.pv (Z j)) (by simp [g2,hb2,g3,g7,g8,g9,hb3,kl]) ?_
  clear g2 hb2 g3 g7 g8 g9 hb3 hb5
  rintro j st hj ⟨g2,hb2,g3,hb3,g5,hb5,g7,g8,g9,g13⟩
  rcases bh hj with rfl|rfl|rfl|rfl
  all_goals (simp [kl] at hb3 g13)
  ·skip
   with_reducible repeat' (first|refine Sp.h ?_|((first|refine Wd ?_|refine Ss.h ?_|(refine Sb.h ?_ ?_ ?_<;>(try intro hgd)<;>try exact Xy))<;>simp -implicitDefEqProofs (maxSteps:=2000000) [hP,hN,g2,hb2,g3,hb3,g5,hb5,g7,g8,g9,g13,v1,kl]<;>try refine Ya ?_)|refine X2 ?_ ?_|(refine Xd ?_ ?_<;>intro hcd<;>try exact Xx))
  ·skip
   with_reducible repeat' (first|refine Sp.h ?_|((first|refine Wd ?_|refine Ss.h ?_|(refine Sb.h ?_ ?_ ?_<;>(try intro hgd)<;>try exact Xy))<;>simp -implicitDefEqProofs (maxSteps:=2000000) [hP,hN,g2,hb2,g3,hb3,g5,hb5,g7,g8,g9,g13,v2,kl]<;>try refine Ya ?_)|refine X2 ?_ ?_|(refine Xd ?_ ?_<;>intro hcd<;>try exact Xx))
  ·skip
   with_reducible repeat' (first|refine Sp.h ?_|((first|refine Wd ?_|refine Ss.h ?_|(refine Sb.h ?_ ?_ ?_<;>(try intro hgd)<;>try exact Xy))<;>simp -implicitDefEqProofs (maxSteps:=2000000) [hP,hN,g2,hb2,g3,hb3,g5,hb5,g7,g8,g9,g13,v3,kl]<;>try refine Ya ?_)|refine X2 ?_ ?_|(refine Xd ?_ ?_<;>intro hcd<;>try exact Xx))
  ·skip
   with_reducible repeat' (first|refine Sp.h ?_|((first|refine Wd ?_|refine Ss.h ?_|(refine Sb.h ?_ ?_ ?_<;>(try intro hgd)<;>try exact Xy))<;>simp -implicitDefEqProofs (maxSteps:=2000000) [hP,hN,g2,hb2,g3,hb3,g5,hb5,g7,g8,g9,g13,hlt,hwr,kl]<;>try refine Ya ?_)|refine X2 ?_ ?_|(refine Xd ?_ ?_<;>intro hcd<;>try exact Xx))
 ·have hin : i=l.length:=by omega
  subst hin
  with_reducible repeat' (first|refine Sp.h ?_|((first|refine Wd ?_|refine Ss.h ?_|(refine Sb.h ?_ ?_ ?_<;>(try intro hgd)<;>try exact Xy))<;>simp -implicitDefEqProofs (maxSteps:=2000000) [hP,hN,g2,hb2,g3,hb3,g7,g8,g9]<;>try refine Ya ?_)|refine X2 ?_ ?_|(refine Xd ?_ ?_<;>intro hcd<;>try exact Xx))
abbrev km : List Vc:=[(1,0,0),(-1,0,0),(0,1,0),(0,-1,0),(0,0,1),(0,0,-1)]
theorem A0 : ab Tryz.prog 326 [] [] [] (.pv (aT km)):=by
 refine Dp Tryz.func326 ?_
 intro C hP hN
 simp only [Tryz.f326] at hN ⊢
 with_reducible repeat' (first|refine Sp.h ?_|((first|refine Ss.h ?_|(refine Sb.h ?_ ?_ ?_<;>(try intro hgd)<;>try exact Xy))<;>simp -implicitDefEqProofs (maxSteps:=2000000) [hP,hN])|refine X2 ?_ ?_|(refine Xd ?_ ?_<;>intro hcd<;>try exact Xx))
theorem jN {l : List am} : (aA l).all (aF 268435456)=true:=by
 unfold aA
 split
 ·rename_i h
  have hp:=(bE h).1
  rw [List.all_eq_true] at hp ⊢
  intro x hx
  obtain ⟨v,hv,rfl⟩:=List.mem_map.1 hx
  have h1:=hp v hv
  rw [dN] at h1
  obtain ⟨a,b,c⟩:=h1
  have hm : ∀ x : Iv,dk x=true→cS (jW x) 268435456=true:=fun x hx=>by
   rw [en] at hx
   rw [aD]
   unfold jW
   split<;>omega
  rw [bn]
  exact ⟨hm _ a,hm _ b,hm _ c⟩
 ·rfl
theorem eT {l : List am} (h : az l=true) : (aA l).length=l.length:=by simp [aA,h]
def ji (a b : List am) : Vc:=((br (aA a) a.length).1 * b.length - (br (aA b) b.length).1 * a.length,(br (aA a) a.length).2.1 * b.length - (br (aA b) b.length).2.1 * a.length,(br (aA a) a.length).2.2 * b.length - (br (aA b) b.length).2.2 * a.length)
def kn (a b : List am) : Vc:=if az a && az b then aV (ji a b) else (0,0,0)
def lD (a b : List am) : Bool:=az a && az b && nz (aV (ji a b))
theorem tH {l : List am} (h : az l=true) : cL 2147483648 (br (aA l) l.length):=by
 have h1:=mE (jN (l:=l)) l.length
 have h2:=(bE h).2.1
 exact jh h1 (by omega)
theorem xF {a b : List am} (ha : az a=true) (hb : az b=true) : cL 1099511627776 (ji a b):=by
 obtain ⟨s1,s2,s3⟩:=tH ha
 obtain ⟨t1,t2,t3⟩:=tH hb
 have h2:=(bE ha).2.1
 have h3:=(bE hb).2.1
 have e : ∀ x : Int,-2147483648≤x∧x≤2147483648→∀ n : Nat,n≤8→-17179869184≤x * n∧x * n≤17179869184:=fun x hx n hn=>by
  have:=bq (a:=x) (b:=(n : Int)) 2147483648 8 (by omega) (by omega) (by omega) (by omega)
  omega
 have a1:=e _ s1 _ h3
 have a2:=e _ s2 _ h3
 have a3:=e _ s3 _ h3
 have b1:=e _ t1 _ h2
 have b2:=e _ t2 _ h2
 have b3:=e _ t3 _ h2
 unfold ji
 exact ⟨by simp only;omega,by simp only;omega,by simp only;omega⟩
def sN (v : Vc) (j : Nat) : List AV:=[.pv (Z (if 0 < j then v.1 else 0)),.pv (Z (if 1 < j then v.2.1 else 0)),.pv (Z (if 2 < j then v.2.2 else 0))]
theorem A1 (a b : List am) (ha : a.length≤9223372036854775807) (hb : b.length≤9223372036854775807) : ab Tryz.prog 325 [.pv (aY a),.pv (aY b)] [] [] (.pv (.tup [av (kn a b),B (lD a b)])):=by
 have ca:=lK a ha
 have cb:=lK b hb
 have hN : kn a b=if az a && az b then aV (ji a b) else (0,0,0):=rfl
 have hM : lD a b=(az a && az b && nz (aV (ji a b))):=rfl
 rw [hN,hM]
 cases hpa : az a with
 |false=>
  rw [hpa] at ca
  refine Dp Tryz.func325 ?_
  intro C hP hN
  simp only [Tryz.f325] at hN ⊢
  with_reducible repeat' (first|refine Sp.h ?_|((first|refine Wd ?_|refine Ss.h ?_|refine Sc.h (ca) ?_|refine Sc.h (cb) ?_|(refine Sb.h ?_ ?_ ?_<;>(try intro hgd)<;>try exact Xy))<;>simp -implicitDefEqProofs (maxSteps:=2000000) [hP,hN]<;>try refine Ya ?_)|refine X2 ?_ ?_|(refine Xd ?_ ?_<;>intro hcd<;>try exact Xx))
 |true=>
 rw [hpa] at ca
 cases hpb : az b with
 |false=>
  rw [hpb] at cb
  refine Dp Tryz.func325 ?_
  intro C hP hN
  simp only [Tryz.f325] at hN ⊢
  with_reducible repeat' (first|refine Sp.h ?_|((first|refine Wd ?_|refine Ss.h ?_|refine Sc.h (ca) ?_|refine Sc.h (cb) ?_|(refine Sb.h ?_ ?_ ?_<;>(try intro hgd)<;>try exact Xy))<;>simp -implicitDefEqProofs (maxSteps:=2000000) [hP,hN]<;>try refine Ya ?_)|refine X2 ?_ ?_|(refine Xd ?_ ?_<;>intro hcd<;>try exact Xx))
 |true=>
 rw [hpb] at cb
 have c1:=p6 a ha
 have c2:=p6 b hb
 have c3:=yS (aA a) (by rw [eT hpa];exact (bE hpa).2.1) jN
 have c4:=yS (aA b) (by rw [eT hpb];exact (bE hpb).2.1) jN
 rw [eT hpa] at c3
 rw [eT hpb] at c4
 have hms:=xF hpa hpb
 have c5:=zd (ji a b) hms
 obtain ⟨s1,s2,s3⟩:=tH hpa
 obtain ⟨t1,t2,t3⟩:=tH hpb
 have h2:=(bE hpa).2.1
 have h3:=(bE hpb).2.1
 have hmv : ji a b=((br (aA a) a.length).1 * b.length - (br (aA b) b.length).1 * a.length,(br (aA a) a.length).2.1 * b.length - (br (aA b) b.length).2.1 * a.length,(br (aA a) a.length).2.2 * b.length - (br (aA b) b.length).2.2 * a.length):=rfl
 simp only [Bool.and_self,if_true,Bool.true_and]
 have e : ∀ x : Int,-2147483648≤x∧x≤2147483648→∀ n : Nat,n≤8→-17179869184≤x * n∧x * n≤17179869184:=fun x hx n hn=>by
  have:=bq (a:=x) (b:=(n : Int)) 2147483648 8 (by omega) (by omega) (by omega) (by omega)
  omega
 generalize br (aA a) a.length=S at *
 generalize br (aA b) b.length=T at *
 generalize ji a b=V at *
 have f1:=e _ s1 _ h3
 have f2:=e _ s2 _ h3
 have f3:=e _ s3 _ h3
 have k1:=e _ t1 _ h2
 have k2:=e _ t2 _ h2
 have k3:=e _ t3 _ h2
 clear e
 have V1 : S.1 * b.length - T.1 * a.length=V.1:=by rw [hmv]
 have V2 : S.2.1 * b.length - T.2.1 * a.length=V.2.1:=by rw [hmv]
 have V3 : S.2.2 * b.length - T.2.2 * a.length=V.2.2:=by rw [hmv]
 clear hmv
 have m01 : IntKind.i64.wrap (S.1 * b.length)=S.1 * b.length:=aa (by omega) (by omega)
 have m02 : IntKind.i64.wrap (T.1 * a.length)=T.1 * a.length:=aa (by omega) (by omega)
 have w0 : IntKind.i64.wrap (S.1 * b.length - T.1 * a.length)=V.1:=(aa (by omega) (by omega)).trans V1
 have m11 : IntKind.i64.wrap (S.2.1 * b.length)=S.2.1 * b.length:=aa (by omega) (by omega)
 have m12 : IntKind.i64.wrap (T.2.1 * a.length)=T.2.1 * a.length:=aa (by omega) (by omega)
 have w1 : IntKind.i64.wrap (S.2.1 * b.length - T.2.1 * a.length)=V.2.1:=(aa (by omega) (by omega)).trans V2
 have m21 : IntKind.i64.wrap (S.2.2 * b.length)=S.2.2 * b.length:=aa (by omega) (by omega)
 have m22 : IntKind.i64.wrap (T.2.2 * a.length)=T.2.2 * a.length:=aa (by omega) (by omega)
 have w2 : IntKind.i64.wrap (S.2.2 * b.length - T.2.2 * a.length)=V.2.2:=(aa (by omega) (by omega)).trans V3
 generalize aV V=n at *
 have wa : IntKind.i64.wrap (a.length : Int)=(a.length : Int):=aa (by omega) (by omega)
 have wb : IntKind.i64.wrap (b.length : Int)=(b.length : Int):=aa (by omega) (by omega)
 refine Dp Tryz.func325 ?_
 intro C hP hN
 simp only [Tryz.f325] at hN ⊢
 with_reducible repeat' (first|refine Sp.h ?_|((first|refine Wd ?_|refine Ss.h ?_|refine Sc.h (ca) ?_|refine Sc.h (cb) ?_|refine Sc.h (c1) ?_|refine Sc.h (c2) ?_|refine Sc.h (c3) ?_|refine Sc.h (c4) ?_|(refine Sb.h ?_ ?_ ?_<;>(try intro hgd)<;>try exact Xy))<;>simp -implicitDefEqProofs (maxSteps:=2000000) [hP,hN]<;>try refine Ya ?_)|refine X2 ?_ ?_|(refine Xd ?_ ?_<;>intro hcd<;>try exact Xx))
 refine WP.loopN [] 3 (fun k st=>st.t 0=.pv (aY a)∧st.t 1=.pv (aY b)∧st.t 4=.ptr 4 0∧st.h 4=some (.box [.pv (Z 0),.pv (Z 0),.pv (Z 0)] true false)∧st.t 5=.ptr 5 0∧st.h 5=some (.box [.pv (B false)] true false)∧st.t 6=.ptr 6 0∧st.h 6=some (.box [.pv (Z S.1),.pv (Z S.2.1),.pv (Z S.2.2)] true false)∧st.t 7=.ptr 7 0∧st.h 7=some (.box [.pv (Z T.1),.pv (Z T.2.1),.pv (Z T.2.2)] true false)∧st.t 8=.ptr 8 0∧st.h 8=some (.box (sN V k) true false)∧st.t 26=.pv (Z k)) (by simp [sN]) ?_
 rintro k st hk ⟨g0,g1,g4,hb4,g5,hb5,g6,hb6,g7,hb7,g8,hb8,g26⟩
 rcases bh hk with rfl|rfl|rfl|rfl
 all_goals (simp [sN] at hb8 g26)
 ·skip
  with_reducible repeat' (first|refine Sp.h ?_|((first|refine Wd ?_|refine Ss.h ?_|(refine Sb.h ?_ ?_ ?_<;>(try intro hgd)<;>try exact Xy))<;>simp -implicitDefEqProofs (maxSteps:=2000000) [hP,hN,g6,hb6,g7,hb7,g8,hb8,g0,g1,g4,g5,hb4,hb5,g26,m01,m02,w0,wa,wb,sN]<;>try refine Ya ?_)|refine X2 ?_ ?_|(refine Xd ?_ ?_<;>intro hcd<;>try exact Xx))
 ·skip
  with_reducible repeat' (first|refine Sp.h ?_|((first|refine Wd ?_|refine Ss.h ?_|(refine Sb.h ?_ ?_ ?_<;>(try intro hgd)<;>try exact Xy))<;>simp -implicitDefEqProofs (maxSteps:=2000000) [hP,hN,g6,hb6,g7,hb7,g8,hb8,g0,g1,g4,g5,hb4,hb5,g26,m11,m12,w1,wa,wb,sN]<;>try refine Ya ?_)|refine X2 ?_ ?_|(refine Xd ?_ ?_<;>intro hcd<;>try exact Xx))
 ·skip
  with_reducible repeat' (first|refine Sp.h ?_|((first|refine Wd ?_|refine Ss.h ?_|(refine Sb.h ?_ ?_ ?_<;>(try intro hgd)<;>try exact Xy))<;>simp -implicitDefEqProofs (maxSteps:=2000000) [hP,hN,g6,hb6,g7,hb7,g8,hb8,g0,g1,g4,g5,hb4,hb5,g26,m21,m22,w2,wa,wb,sN]<;>try refine Ya ?_)|refine X2 ?_ ?_|(refine Xd ?_ ?_<;>intro hcd<;>try exact Xx))
 ·skip
  with_reducible repeat' (first|refine Sp.h ?_|((first|refine Wd ?_|refine Ss.h ?_|refine Sc.h (c5) ?_|(refine Sb.h ?_ ?_ ?_<;>(try intro hgd)<;>try exact Xy))<;>simp -implicitDefEqProofs (maxSteps:=2000000) [hP,hN,g6,hb6,g7,hb7,g8,hb8,g0,g1,g4,g5,hb4,hb5,g26]<;>try refine Ya ?_)|refine X2 ?_ ?_|(refine Xd ?_ ?_<;>intro hcd<;>try exact Xx))
end Go.Ab
