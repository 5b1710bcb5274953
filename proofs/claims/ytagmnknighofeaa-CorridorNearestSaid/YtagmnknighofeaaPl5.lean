/- Made robots are valid. -/
import Derived.Test.YtagmnknighofeaaCf15
set_option linter.all false
namespace Go.Ab
theorem let_name {i : Nat} (h : i < 3) : nameB (letB i) = true := by
  have : i = 0 ∨ i = 1 ∨ i = 2 := by omega
  rcases this with rfl | rfl | rfl <;> decide +kernel
theorem let_ne {i k : Nat} (h : i < 3) (hk : k < i) : sameN (letB k) (letB i) = false := by
  have : (i = 1 ∧ k = 0) ∨ (i = 2 ∧ k = 0) ∨ (i = 2 ∧ k = 1) := by omega
  rcases this with ⟨rfl, rfl⟩ | ⟨rfl, rfl⟩ | ⟨rfl, rfl⟩ <;> decide +kernel
theorem kind_range (l : List Int) (n : Nat) : 0 ≤ jKind l n ∧ jKind l n ≤ 5 := by
  unfold jKind kindOf
  repeat' split
  all_goals omega
theorem joint_reach (l : List Int) (n i : Nat) : (jointF l n i).lo ≤ (jointF l n i).hi ∧ -reachI (jointF l n i).kind ≤ (jointF l n i).lo ∧ (jointF l n i).hi ≤ reachI (jointF l n i).kind := by
  have h1 := nx_range l (jN5 l n i) (k := 3) (by decide) (by decide)
  have h2 := nx_range l (jN5 l n i) (k := 5) (by decide) (by decide)
  have h3 := nx_range l (nn l (jN5 l n i)) (k := 4) (by decide) (by decide)
  have h4 := nx_range l (nn l (nn l (jN5 l n i))) (k := 3) (by decide) (by decide)
  have hk := kind_range l n
  have ok := joint_ok l n i
  simp only [jointF] at ok ⊢
  refine ⟨by have := ok.1.2.1; exact this, ?_⟩
  unfold jLo jHi reachI
  generalize jKind l n = kd at *
  generalize nx l (jN5 l n i) 3 = a at *
  generalize nx l (jN5 l n i) 5 = b at *
  generalize nx l (nn l (jN5 l n i)) 4 = c at *
  generalize nx l (nn l (nn l (jN5 l n i))) 3 = d at *
  have hb : ∀ b : Int, 0 ≤ b → b < 5 → -32768 ≤ wr ((wr (wr (-b) * 65536)).tdiv 8) := by
    intro b h0 h5
    have : b = 0 ∨ b = 1 ∨ b = 2 ∨ b = 3 ∨ b = 4 := by omega
    rcases this with rfl | rfl | rfl | rfl | rfl <;> decide
  have hc : ∀ c : Int, 0 ≤ c → c < 4 → 0 ≤ wr ((wr (wr (1 + c) * 65536)).tdiv 8) ∧ wr ((wr (wr (1 + c) * 65536)).tdiv 8) ≤ 32768 := by
    intro c h0 h4
    have : c = 0 ∨ c = 1 ∨ c = 2 ∨ c = 3 := by omega
    rcases this with rfl | rfl | rfl | rfl <;> decide
  have hb' := hb b h2.1 h2.2
  have hc' := hc c h3.1 h3.2
  have hd : kd = 0 ∨ kd = 1 ∨ kd = 2 ∨ kd = 3 ∨ kd = 4 ∨ kd = 5 := by omega
  have e1 : wr (wr (-a) * 65536) = -a * 65536 := by rw [wr_id (n := -a) (by omega) (by omega), wr_id (by omega) (by omega)]
  have e2 : wr (c * 32768) = c * 32768 := wr_id (by omega) (by omega)
  have e3 : wr (wr ((wr (wr (1 + c) * 65536)).tdiv 8) + d) = wr ((wr (wr (1 + c) * 65536)).tdiv 8) + d := wr_id (by omega) (by omega)
  rcases hd with rfl | rfl | rfl | rfl | rfl | rfl
  · simp
  · simp only [e3]; simp; omega
  · simp only [e3]; simp; omega
  · simp only [e3]; simp; omega
  · simp only [e1, e2]; simp; omega
  · simp only [e1, e2]; simp; omega
theorem joint_err (l : List Int) (n i : Nat) (h : i < 3) (js : List J) (hd : dupB js i (letB i) = false) : errJ js i (jointF l n i) = 0 := by
  have hk := kind_range l n
  obtain ⟨r1, r2, r3⟩ := joint_reach l n i
  have a1 := nx_range l n (k := 4) (by decide) (by decide)
  have a2 := nx_range l (nn l n) (k := 3) (by decide) (by decide)
  have a3 := nx_range l (jN4 l n) (k := 5) (by decide) (by decide)
  have a4 := nx_range l (nn l (jN4 l n)) (k := 3) (by decide) (by decide)
  have w1 : wr (1 + nx l n 4) = 1 + nx l n 4 := wr_id (by omega) (by omega)
  have w2 : wr (65536 + nx l (nn l n) 3) = 65536 + nx l (nn l n) 3 := wr_id (by omega) (by omega)
  have w3 : wr (wr (nx l (jN4 l n) 5 - 2) * 32768) = (nx l (jN4 l n) 5 - 2) * 32768 := by rw [wr_id (n := nx l (jN4 l n) 5 - 2) (by omega) (by omega), wr_id (by omega) (by omega)]
  have w4 : wr (wr (nx l (nn l (jN4 l n)) 3 - 1) * 32768) = (nx l (nn l (jN4 l n)) 3 - 1) * 32768 := by rw [wr_id (n := nx l (nn l (jN4 l n)) 3 - 1) (by omega) (by omega), wr_id (by omega) (by omega)]
  have w5 : wr ((i : Int) - 1) = (i : Int) - 1 := wr_id (by omega) (by omega)
  have hp : ¬ ((jointF l n i).parent < -1 ∨ (i : Int) ≤ (jointF l n i).parent) := by
    simp only [jointF, w5]; split <;> omega
  have hv : nearB (jointF l n i).ox (jointF l n i).oy (jointF l n i).oz 4194304 = true := by
    simp only [jointF, w3, w4, nearB, inB, Bool.and_eq_true, decide_eq_true_eq]
    repeat' split
    all_goals omega
  rw [errJ, if_neg (by simp [jointF, let_name h, hd]), if_neg (by show ¬ (jKind l n < 0 ∨ 6 < jKind l n); omega), if_neg hp, if_neg (by simp [hv]), if_neg (by omega), if_neg]
  simp only [jointF, w1, w2, fromB]
  simp
  omega
theorem rJs_getElem (l : List Int) {i : Nat} (h : i < (rJs l 0).length) : (rJs l 0)[i] = jointF l (jSt l (nn l 0) i) i := by simp [rJs, jsF]
theorem robot_ok (l : List Int) : checkR (rJs l 0) (rMs l 0) = 0 := by
  have hlen := rJs_len l 0
  have hf : firstE (rJs l 0) = 0 := by
    refine first_none (fun k x hx => ?_)
    have hk := (List.getElem?_eq_some_iff.1 hx)
    have hk1 := hk.1
    rw [← hk.2, rJs_getElem l hk.1]
    refine joint_err l _ k (by omega) _ (dup_no (fun m y hm hy => ?_))
    have hy' := (List.getElem?_eq_some_iff.1 hy)
    rw [← hy'.2, rJs_getElem l hy'.1]
    exact let_ne (by omega) hm
  have hms : (rMs l 0).length ≤ 2 := by
    have := nx_range l (rM l 0) (k := 3) (by decide) (by decide)
    rw [rMs, msF_len, rK]; omega
  have hany : ((rMs l 0).any fun m => !massOk (rJs l 0).length m) = false := by
    rw [List.any_eq_false]
    intro m hm
    simp only [rMs, msF, List.mem_map] at hm
    obtain ⟨i, _, rfl⟩ := hm
    have hn : (rN l 0 : Int) = ((rJs l 0).length : Int) := by rw [rJs, jsF_len]
    generalize mSt l (nn l (rM l 0)) i = st
    have b1 := nx_range l st (k := (rN l 0 : Int)) (by omega) (by omega)
    have b2 := nx_range l (nn l st) (k := 9000) (by decide) (by decide)
    have b3 := nx_range l (nn l (nn l st)) (k := 7) (by decide) (by decide)
    have b4 := nx_range l (nn l (nn l (nn l st))) (k := 5) (by decide) (by decide)
    have w2 : wr (1 + nx l (nn l st) 9000) = 1 + nx l (nn l st) 9000 := wr_id (by omega) (by omega)
    have w3 : wr (wr (nx l (nn l (nn l st)) 7 - 3) * 32768) = (nx l (nn l (nn l st)) 7 - 3) * 32768 := by rw [wr_id (n := nx l (nn l (nn l st)) 7 - 3) (by omega) (by omega), wr_id (by omega) (by omega)]
    have w4 : wr (wr (nx l (nn l (nn l (nn l st))) 5 - 2) * 32768) = (nx l (nn l (nn l (nn l st))) 5 - 2) * 32768 := by rw [wr_id (n := nx l (nn l (nn l (nn l st))) 5 - 2) (by omega) (by omega), wr_id (by omega) (by omega)]
    have : massOk (rJs l 0).length (massF l st (rN l 0)) = true := by
      simp only [massOk, massF, w2, w3, w4, fromB, nearB, inB, Bool.and_eq_true, decide_eq_true_eq]
      omega
    simp [this]
  unfold checkR
  rw [if_neg (by omega), hf, if_neg (by simp), hany]
  simp; omega
theorem rMs_len (l : List Int) : (rMs l 0).length ≤ 2 := by
  have := nx_range l (rM l 0) (k := 3) (by decide) (by decide)
  rw [rMs, msF_len, rK]; omega
/-! ## Distances of made robots -/
def wOk (j : J) : Prop := 1 ≤ j.w ∧ j.w ≤ 4
theorem rJs_w (l : List Int) : ∀ j ∈ rJs l 0, wOk j := by
  intro j hj
  simp only [rJs, jsF, List.mem_map] at hj
  obtain ⟨i, _, rfl⟩ := hj
  have a1 := nx_range l (jSt l (nn l 0) i) (k := 4) (by decide) (by decide)
  have w1 : wr (1 + nx l (jSt l (nn l 0) i) 4) = 1 + nx l (jSt l (nn l 0) i) 4 := wr_id (by omega) (by omega)
  simp only [wOk, jointF, w1]; omega
/-- The sum without the wrapping. -/
def distP (js : List J) (p q : List Int) : Nat → Int
  | 0 => 0
  | i + 1 => match js[i]?, p[i]?, q[i]? with
    | some j, some a, some b => distP js p q i + j.w * max (b - a) (a - b)
    | _, _, _ => distP js p q i
theorem term_range {w d : Int} (hw : 1 ≤ w ∧ w ≤ 4) (hd : 0 ≤ d ∧ d ≤ 2000000) : 0 ≤ w * d ∧ w * d ≤ 8000000 := by
  have h1 : 0 ≤ w * d := Int.mul_nonneg (by omega) hd.1
  have h2 : w * d ≤ 4 * d := Int.mul_le_mul_of_nonneg_right hw.2 hd.1
  omega
section
variable {js : List J} {p q : List Int}
theorem distP_step {i : Nat} (h1 : i < js.length) (h2 : i < p.length) (h3 : i < q.length) : distP js p q (i + 1) = distP js p q i + js[i].w * max (q[i] - p[i]) (p[i] - q[i]) := by
  simp [distP, h1, h2, h3]
theorem dist_eq (hw : ∀ j ∈ js, wOk j) (hp : ∀ x ∈ p, -1000000 ≤ x ∧ x ≤ 1000000) (hq : ∀ x ∈ q, -1000000 ≤ x ∧ x ≤ 1000000) (h1 : p.length = js.length) (h2 : q.length = js.length) (h3 : js.length ≤ 3) :
    ∀ i, i ≤ js.length → distT js p q i = distP js p q i ∧ 0 ≤ distP js p q i ∧ distP js p q i ≤ 8000000 * i := by
  intro i
  induction i with
  | zero => intro _; simp [distT, distP]
  | succ i ih =>
    intro hi
    obtain ⟨e1, e2, e3⟩ := ih (by omega)
    have l1 : i < js.length := by omega
    have l2 : i < p.length := by omega
    have l3 : i < q.length := by omega
    have a := hp _ (List.getElem_mem l2)
    have b := hq _ (List.getElem_mem l3)
    have c := hw _ (List.getElem_mem l1)
    have t := term_range (w := js[i].w) (d := max (q[i] - p[i]) (p[i] - q[i])) c (by omega)
    rw [distT_step l1 l2 l3, distP_step l1 l2 l3, e1, dTerm, wr_id (n := q[i] - p[i]) (by omega) (by omega), wr_id (n := p[i] - q[i]) (by omega) (by omega)]
    generalize js[i].w * max (q[i] - p[i]) (p[i] - q[i]) = x at *
    rw [wr_id (n := x) (by omega) (by omega), wr_id (by omega) (by omega)]
    omega
theorem dist_symm (h1 : p.length = js.length) (h2 : q.length = js.length) : ∀ i, i ≤ js.length → distP js p q i = distP js q p i := by
  intro i
  induction i with
  | zero => intro _; rfl
  | succ i ih =>
    intro hi
    rw [distP_step (by omega) (by omega) (by omega), distP_step (by omega) (by omega) (by omega), ih (by omega), Int.max_comm]
theorem dist_tri {r : List Int} (hw : ∀ j ∈ js, wOk j) (h1 : p.length = js.length) (h2 : q.length = js.length) (h3 : r.length = js.length) : ∀ i, i ≤ js.length → distP js p q i ≤ distP js p r i + distP js r q i := by
  intro i
  induction i with
  | zero => intro _; simp [distP]
  | succ i ih =>
    intro hi
    have l1 : i < js.length := by omega
    have := ih (by omega)
    rw [distP_step (by omega) (by omega) (by omega), distP_step (by omega) (by omega) (by omega), distP_step (by omega) (by omega) (by omega)]
    have c := hw _ (List.getElem_mem l1)
    have key : js[i].w * max (q[i] - p[i]) (p[i] - q[i]) ≤ js[i].w * (max (r[i] - p[i]) (p[i] - r[i]) + max (q[i] - r[i]) (r[i] - q[i])) := Int.mul_le_mul_of_nonneg_left (by omega) (by unfold wOk at c; omega)
    rw [Int.mul_add] at key
    omega
theorem dist_mid {r : List Int} (h1 : p.length = js.length) (h2 : q.length = js.length) (h3 : r.length = js.length) (hm : ∀ (i : Nat) (h : i < p.length) (h' : i < q.length) (h'' : i < r.length), min p[i] q[i] ≤ r[i] ∧ r[i] ≤ max p[i] q[i]) : ∀ i, i ≤ js.length → distP js p r i + distP js r q i = distP js p q i := by
  intro i
  induction i with
  | zero => intro _; simp [distP]
  | succ i ih =>
    intro hi
    have := ih (by omega)
    rw [distP_step (by omega) (by omega) (by omega), distP_step (by omega) (by omega) (by omega), distP_step (by omega) (by omega) (by omega)]
    have b := hm i (by omega) (by omega) (by omega)
    have key : max (q[i] - p[i]) (p[i] - q[i]) = max (r[i] - p[i]) (p[i] - r[i]) + max (q[i] - r[i]) (r[i] - q[i]) := by omega
    rw [key, Int.mul_add]; omega
theorem dist_zero (hw : ∀ j ∈ js, wOk j) (h1 : p.length = js.length) (h2 : q.length = js.length) : ∀ i, i ≤ js.length → (0 ≤ distP js p q i ∧ (distP js p q i = 0 ↔ ∀ k, k < i → p[k]? = q[k]?)) := by
  intro i
  induction i with
  | zero => intro _; simp [distP]
  | succ i ih =>
    intro hi
    obtain ⟨e1, e2⟩ := ih (by omega)
    have l1 : i < js.length := by omega
    have l2 : i < p.length := by omega
    have l3 : i < q.length := by omega
    rw [distP_step l1 l2 l3]
    have c := hw _ (List.getElem_mem l1)
    have hd : 0 ≤ max (q[i] - p[i]) (p[i] - q[i]) := by omega
    have ht : 0 ≤ js[i].w * max (q[i] - p[i]) (p[i] - q[i]) := Int.mul_nonneg (by unfold wOk at c; omega) hd
    refine ⟨by omega, ?_⟩
    constructor
    · intro h0 k hk
      have z1 : distP js p q i = 0 := by omega
      have z2 : js[i].w * max (q[i] - p[i]) (p[i] - q[i]) = 0 := by omega
      by_cases e : k = i
      · subst e
        rcases Int.mul_eq_zero.1 z2 with h | h
        · unfold wOk at c; omega
        · rw [List.getElem?_eq_getElem l2, List.getElem?_eq_getElem l3]; congr 1; omega
      · exact e2.1 z1 k (by omega)
    · intro hk
      have z1 := e2.2 (fun k h => hk k (by omega))
      have hi' := hk i (by omega)
      rw [List.getElem?_eq_getElem l2, List.getElem?_eq_getElem l3] at hi'
      injection hi' with hi'
      rw [z1, hi']; simp
end
end Go.Ab
