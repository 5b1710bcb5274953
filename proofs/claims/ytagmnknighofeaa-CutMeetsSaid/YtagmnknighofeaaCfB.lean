/- Cf12, L4, Pl1, Pl2, Pl3, Cf13, Cf14, Cf17, Cf18: as one text. -/
import Derived.Test.YtagmnknighofeaaCfA
set_option linter.all false
/- Contracts: made boxes. -/
namespace Go.Ab
open Go.Proofs
/-- An array of the caller's own, told by content. -/
theorem detRow_pv {P : Program} {f : FuncId} {args : List Arg} {e sz : Nat} {xs : List PV} (h : DetH P f args [] [] (.row e sz xs)) : DetH P f args [] [] (.pv (.sl xs)) := by
  refine ⟨h.1, h.2.1, fun w M bs vs hM h1 h2 h3 h4 h5 => (h.2.2 w M bs vs hM h1 h2 h3 h4 h5).mono ?_⟩
  rintro en w' ⟨v, rfl, hx, hb, l, hv, hown, hrel⟩
  refine ⟨v, rfl, hx, hb, ?_⟩
  obtain ⟨c1, c2, c3, c4, c5⟩ := hrel
  show Rep w' M (.sl xs) v
  cases hn : l.isNil with
  | true =>
    have hxs := c4 hn
    subst hxs
    rw [hv, Loc.slice, hn]
    exact .sl0 _ _
  | false =>
    obtain ⟨d1, d2, arr, d3, d4, d5⟩ := c5 hn
    rw [hv, Loc.slice, hn]
    refine .sl xs l.b 0 l.cap sz (fun i j => (arr[i * sz + j]?).getD undef) d1 (fun i x hx' => c3 x (List.mem_of_getElem? hx')) ?_ ?_
    · intro i x j p hx' hj
      obtain ⟨u, hu, _⟩ := d5 i x j p hx' hj
      refine ⟨by rw [cell_heap d3, Nat.zero_add, hu]; rfl, fun hm => ?_⟩
      have := hM _ _ hm
      have := hown hn
      omega
    · intro i x j p hx' hj
      obtain ⟨u, hu, hr⟩ := d5 i x j p hx' hj
      rw [hu]
      exact hr.mono (Pres.sub (fun b o h => .inl h))
def bX (l : List Int) (m : Nat) (lo hi : Int) : Int := wr (lo + nx l m (hi - lo + 1))
def bC (l : List Int) (m : Nat) : Int := nx l (nn l m) 5
def bW (l : List Int) (m : Nat) (lo hi : Int) : Int := if bC l m = 0 then hi - lo else if bC l m = 1 then nx l (nn l (nn l m)) 3000 else if bC l m = 2 then nx l (nn l (nn l m)) 3000 else if bC l m = 3 then nx l (nn l (nn l m)) 200 else 0
def bN (l : List Int) (m : Nat) : Nat := if bC l m = 0 then nn l (nn l m) else if bC l m = 1 then nn l (nn l (nn l m)) else if bC l m = 2 then nn l (nn l (nn l m)) else if bC l m = 3 then nn l (nn l (nn l m)) else nn l (nn l m)
def bVal (l : List Int) (m : Nat) (lo hi : Int) : Int × Int := (bX l m lo hi, min hi (wr (bX l m lo hi + bW l m lo hi)))
def bSt (l : List Int) : Nat → Nat
  | 0 => 0
  | i + 1 => bN l (bSt l i)
theorem bSt_le (l : List Int) (i : Nat) : bSt l i ≤ 3 * i := by
  induction i with
  | zero => simp [bSt]
  | succ i ih =>
    have l1 := nn_le l (bSt l i)
    have l2 := nn_le l (nn l (bSt l i))
    have l3 := nn_le l (nn l (nn l (bSt l i)))
    simp only [bSt, bN]
    repeat' split
    all_goals omega
def mkBoxL (l : List Int) (js : List J) : List (Int × Int) := js.mapIdx fun i j => bVal l (bSt l i) j.lo j.hi
theorem mkBox_step {l : List Int} {js : List J} {i : Nat} (hlt : i < js.length) : ((mkBoxL l js).map encI).take i ++ [encI (bVal l (bSt l i) js[i].lo js[i].hi)] = ((mkBoxL l js).map encI).take (i + 1) := by
  rw [List.take_succ_eq_append_getElem (by simpa [mkBoxL] using hlt)]; simp [mkBoxL]
theorem bX_range {l : List Int} {m : Nat} {lo hi : Int} (h1 : -1000000 ≤ lo) (h2 : lo ≤ hi) (h3 : hi ≤ 1000000) : lo ≤ bX l m lo hi ∧ bX l m lo hi ≤ hi := by
  have h := nx_range l m (k := hi - lo + 1) (by omega) (by omega)
  unfold bX; rw [wr_id (by omega) (by omega)]; omega
theorem bW_range {l : List Int} {m : Nat} {lo hi : Int} (h1 : -1000000 ≤ lo) (h2 : lo ≤ hi) (h3 : hi ≤ 1000000) : 0 ≤ bW l m lo hi ∧ bW l m lo hi ≤ 2000000 := by
  have a := nx_range l (nn l (nn l m)) (k := 3000) (by omega) (by omega)
  have b := nx_range l (nn l (nn l m)) (k := 200) (by omega) (by omega)
  unfold bW
  repeat' split
  all_goals omega
theorem bVal_range {l : List Int} {m : Nat} {lo hi : Int} (h1 : -1000000 ≤ lo) (h2 : lo ≤ hi) (h3 : hi ≤ 1000000) : lo ≤ (bVal l m lo hi).1 ∧ (bVal l m lo hi).1 ≤ (bVal l m lo hi).2 ∧ (bVal l m lo hi).2 ≤ hi := by
  have a := bX_range (l := l) (m := m) h1 h2 h3
  have b := bW_range (l := l) (m := m) h1 h2 h3
  unfold bVal; simp only
  rw [wr_id (by omega) (by omega)]; omega
theorem bit1 (a : Int) : bitI .and .i64 a 1 = a % 2 := by
  unfold bitI
  have h1 : (BitVec.ofInt 64 a &&& BitVec.ofInt 64 1).toNat = (a % 2).toNat := by
    rw [BitVec.toNat_and, BitVec.toNat_ofInt, BitVec.toNat_ofInt]
    have e1 : ((1 : Int) % ((2 ^ 64 : Nat) : Int)).toNat = 1 := by decide
    rw [e1, Nat.and_one_is_mod]
    have h0 : 0 ≤ a % ((2 ^ 64 : Nat) : Int) := Int.emod_nonneg _ (by decide)
    have h2 : (a % ((2 ^ 64 : Nat) : Int)) % 2 = a % 2 := Int.emod_emod_of_dvd a (by decide)
    omega
  show IntKind.i64.wrap ((BitVec.ofInt 64 a &&& BitVec.ofInt 64 1).toNat : Int) = _
  rw [h1, IntKind.wrap_i64]
  have := Int.emod_nonneg a (b := 2) (by decide)
  have := Int.emod_lt_of_pos a (b := 2) (by decide)
  omega
def partI (a : Int × Int) (m n : Int) : Int × Int :=
  let w := a.2 - a.1 + 1; let x := a.1 + roundI m w
  if n % 2 = 0 then (x, x) else let y := a.1 + roundI (n / 2) w; (min x y, max x y)
def mwSt (l : List Int) : Nat → Nat
  | 0 => 0
  | i + 1 => nn l (nn l (mwSt l i))
theorem mwSt_le (l : List Int) (i : Nat) : mwSt l i ≤ 2 * i := by
  induction i with
  | zero => simp [mwSt]
  | succ i ih =>
    have l1 := nn_le l (mwSt l i)
    have l2 := nn_le l (nn l (mwSt l i))
    simp only [mwSt]; omega
def mkWithinL (xs : List (Int × Int)) (l : List Int) : List (Int × Int) := xs.mapIdx fun i x => partI x (nx l (mwSt l i) 1073741824) (nx l (nn l (mwSt l i)) 1073741824)
theorem mkWithin_step {l : List Int} {xs : List (Int × Int)} {i : Nat} (hlt : i < xs.length) : ((mkWithinL xs l).map encI).take i ++ [encI (partI xs[i] (nx l (mwSt l i) 1073741824) (nx l (nn l (mwSt l i)) 1073741824))] = ((mkWithinL xs l).map encI).take (i + 1) := by
  rw [List.take_succ_eq_append_getElem (by simpa [mkWithinL] using hlt)]; simp [mkWithinL]
end Go.Ab

/- The walk of ConfigReverse. -/
namespace Go.Ab
open Go.Proofs
theorem cfgL_len (l : List Int) (js : List J) : (cfgL l js).length = js.length := by simp [cfgL]
theorem piece_len (xs ys : List Int) (d i : Int) : (pieceL xs ys d i).1.length ≤ xs.length := by
  unfold pieceL; split <;> simp; omega
theorem mot_facts (depth index : Int) : 0 ≤ motD depth ∧ motD depth < 20 ∧ 0 ≤ motI depth index ∧ motI depth index < 2 ^ (motD depth).toNat ∧ (2 : Int) ^ (motD depth).toNat ≤ 524288 := by
  have h := round_range depth (k := 20) (by decide) (by decide)
  have hp : ∀ n : Nat, n < 20 → (2 : Int) ^ n ≤ 524288 ∧ 0 < (2 : Int) ^ n := by decide
  have hp' := hp (motD depth).toNat (by unfold motD; omega)
  have h2 := round_range index (k := 2 ^ (motD depth).toNat) hp'.2 (by omega)
  exact ⟨h.1, h.2, h2.1, h2.2, hp'.1⟩
def revB (p q : List Int) (d i : Int) : Bool := (pieceL p q d i).2 && (pieceL q p d (2 ^ d.toNat - 1 - i)).2 && sameX (pieceL p q d i).1 (pieceL q p d (2 ^ d.toNat - 1 - i)).1
end Go.Ab

/- Plain facts about pieces of motions. -/
namespace Go.Ab
theorem mul_bound {i D A B : Int} (h0 : 0 ≤ i) (hA : i ≤ A) (h1 : -B ≤ D) (h2 : D ≤ B) : -(A * B) ≤ i * D ∧ i * D ≤ A * B := by
  have hB : 0 ≤ B := by omega
  have hAB : i * B ≤ A * B := Int.mul_le_mul_of_nonneg_right hA hB
  have e1 : i * D ≤ i * B := Int.mul_le_mul_of_nonneg_left h2 h0
  have e2 : i * (-B) ≤ i * D := Int.mul_le_mul_of_nonneg_left h1 h0
  rw [Int.mul_neg] at e2
  omega
theorem pow_pos2 (n : Nat) : (0 : Int) < 2 ^ n := Int.pow_pos (by decide)
theorem fdiv_ediv (a : Int) (n : Nat) : a.fdiv (2 ^ n) = a / 2 ^ n := Int.fdiv_eq_ediv_of_nonneg a (Int.le_of_lt (pow_pos2 n))
theorem ediv_bound {a N B : Int} (hN : 0 < N) (h1 : -B ≤ a) (h2 : a ≤ B) : -B ≤ a / N ∧ a / N ≤ B := by
  have hB : 0 ≤ B := by omega
  constructor
  · have : (-B) * N ≤ a := by
      have : (-B) * N ≤ (-B) * 1 := Int.mul_le_mul_of_nonpos_left (by omega) (by omega)
      omega
    exact (Int.le_ediv_iff_mul_le hN).2 this
  · have : a / N < B + 1 := (Int.ediv_lt_iff_lt_mul hN).2 (by
      have : (B + 1) * 1 ≤ (B + 1) * N := Int.mul_le_mul_of_nonneg_left (by omega) (by omega)
      omega)
    omega
def small (x : Int) : Prop := -2147483648 ≤ x ∧ x ≤ 2147483648
/-- A piece without the wrapping. -/
def pieceP (N i f t : Int) : Int × Int := (f + min (i * (t - f)) ((i + 1) * (t - f)) / N, f - (-max (i * (t - f)) ((i + 1) * (t - f))) / N)
theorem pieceI_eq {i d f t : Int} (hi : 0 ≤ i) (hi' : i ≤ 1048576) (hf : small f) (ht : small t) : pieceI i d f t = pieceP (2 ^ d.toNat) i f t := by
  unfold small at hf ht
  have e1 : wr (t - f) = t - f := wr_id (by omega) (by omega)
  have e0 : wr (i + 1) = i + 1 := wr_id (by omega) (by omega)
  have b1 := mul_bound (i := i) (D := t - f) (A := 1048577) (B := 4294967296) hi (by omega) (by omega) (by omega)
  have b2 := mul_bound (i := i + 1) (D := t - f) (A := 1048577) (B := 4294967296) (by omega) (by omega) (by omega) (by omega)
  have e2 : wr (i * (t - f)) = i * (t - f) := wr_id (by omega) (by omega)
  have e3 : wr ((i + 1) * (t - f)) = (i + 1) * (t - f) := wr_id (by omega) (by omega)
  simp only [pieceI, pieceP, e1, e0, e2, e3, fdiv_ediv]
  generalize i * (t - f) = a at *
  generalize (i + 1) * (t - f) = b at *
  have e4 : wr (-max a b) = -max a b := wr_id (by omega) (by omega)
  rw [e4]
  have c1 := ediv_bound (a := min a b) (N := 2 ^ d.toNat) (B := 1048577 * 4294967296) (pow_pos2 _) (by omega) (by omega)
  have c2 := ediv_bound (a := -max a b) (N := 2 ^ d.toNat) (B := 1048577 * 4294967296) (pow_pos2 _) (by omega) (by omega)
  rw [wr_id (by omega) (by omega), wr_id (by omega) (by omega)]
theorem pieceP_rev {N i f t : Int} (hN : 0 < N) : pieceP N i f t = pieceP N (N - 1 - i) t f := by
  have h1 : (N - 1 - i) * (f - t) = (i + 1) * (t - f) + N * (-(t - f)) := by
    have : f - t = -(t - f) := by omega
    rw [this]
    generalize t - f = D
    simp only [Int.sub_mul, Int.add_mul, Int.mul_neg, Int.neg_mul]
    omega
  have h2 : (N - 1 - i + 1) * (f - t) = i * (t - f) + N * (-(t - f)) := by
    have : f - t = -(t - f) := by omega
    rw [this]
    generalize t - f = D
    simp only [Int.sub_mul, Int.add_mul, Int.mul_neg, Int.neg_mul]
    omega
  unfold pieceP
  rw [h1, h2]
  generalize i * (t - f) = a
  generalize (i + 1) * (t - f) = b
  have e1 : min (b + N * (-(t - f))) (a + N * (-(t - f))) = min a b + N * (-(t - f)) := by omega
  have e2 : -max (b + N * (-(t - f))) (a + N * (-(t - f))) = -max a b + N * (t - f) := by rw [Int.mul_neg]; omega
  rw [e1, e2, Int.add_mul_ediv_left _ _ (by omega), Int.add_mul_ediv_left _ _ (by omega)]
  refine Prod.ext ?_ ?_ <;> simp <;> omega
end Go.Ab

/- The plain law of ConfigReverse. -/
namespace Go.Ab
theorem cVal_range {l : List Int} {m : Nat} {lo hi : Int} (h1 : -1000000 ≤ lo) (h2 : lo ≤ hi) (h3 : hi ≤ 1000000) : lo ≤ cVal l m lo hi ∧ cVal l m lo hi ≤ hi := by
  have h := nx_range l (nn l m) (k := hi - lo + 1) (by omega) (by omega)
  unfold cVal
  split
  · omega
  · split
    · omega
    · rw [wr_id (by omega) (by omega)]; omega
theorem cfgL_mem {l : List Int} {js : List J} (hj : ∀ j ∈ js, jOk j) : ∀ x ∈ cfgL l js, -1000000 ≤ x ∧ x ≤ 1000000 := by
  intro x hx
  simp only [cfgL, List.mem_mapIdx] at hx
  obtain ⟨i, hi, rfl⟩ := hx
  have h := hj js[i] (List.getElem_mem hi)
  unfold jOk at h
  have := cVal_range (l := l) (m := cSt l i) h.1 h.2.1 h.2.2
  omega
theorem allSmall {xs : List Int} (h : ∀ x ∈ xs, -1000000 ≤ x ∧ x ≤ 1000000) : allB smallB xs = true := by
  rw [allB, List.all_eq_true]
  intro x hx
  have := h x hx
  simp [smallB]; omega
/-- What the laws know of the ends of a motion. -/
structure Mot (p q : List Int) (d i : Int) : Prop where
  len : p.length = q.length
  pos : 0 < p.length
  le : p.length ≤ 3
  sp : ∀ x ∈ p, -1000000 ≤ x ∧ x ≤ 1000000
  sq : ∀ x ∈ q, -1000000 ≤ x ∧ x ≤ 1000000
  d0 : 0 ≤ d
  d1 : d < 20
  i0 : 0 ≤ i
  i1 : i < 2 ^ d.toNat
theorem mot_mot (l m n : List Int) (depth index : Int) : Mot (cfgL m (rJs l 0)) (cfgL n (rJs l 0)) (motD depth) (motI depth index) := by
  obtain ⟨h1, h2, h3, h4, _⟩ := mot_facts depth index
  have hl := rJs_len l 0
  exact ⟨by simp [cfgL_len], by rw [cfgL_len]; omega, by rw [cfgL_len]; omega, cfgL_mem (rJs_ok l 0), cfgL_mem (rJs_ok l 0), h1, h2, h3, h4⟩
theorem Mot.flip {p q : List Int} {d i : Int} (h : Mot p q d i) : Mot q p d (2 ^ d.toNat - 1 - i) :=
  ⟨h.len.symm, by rw [← h.len]; exact h.pos, by rw [← h.len]; exact h.le, h.sq, h.sp, h.d0, h.d1, by have := h.i1; omega, by have := h.i0; omega⟩
theorem pow_le20 {d : Int} (h : d ≤ 20) : (2 : Int) ^ d.toNat ≤ 1048576 := by
  have hp : ∀ n : Nat, n ≤ 20 → (2 : Int) ^ n ≤ 1048576 := by decide
  exact hp _ (by omega)
theorem piece_of {p q : List Int} {d i : Int} (hl : p.length = q.length) (hp : ∀ x ∈ p, -1000000 ≤ x ∧ x ≤ 1000000) (hq : ∀ x ∈ q, -1000000 ≤ x ∧ x ≤ 1000000) (h0 : 0 ≤ d) (h1 : d ≤ 20) (hi : 0 ≤ i) (hi' : i < 2 ^ d.toNat) :
    pieceL p q d i = (List.zipWith (pieceP (2 ^ d.toNat) i) p q, true) := by
  have hm : motionB p q d = true := by simp [motionB, hl, allSmall hp, allSmall hq, h0, h1]
  have hb := pow_le20 h1
  rw [pieceL, hm]
  simp only [Bool.true_and, hi, hi', decide_true, if_true]
  refine Prod.ext ?_ rfl
  refine List.ext_getElem (by simp) (fun k h1 h2 => ?_)
  simp only [List.getElem_zipWith]
  have hk : k < p.length := by simp at h1; omega
  have hk' : k < q.length := by omega
  have a := hp _ (List.getElem_mem hk)
  have b := hq _ (List.getElem_mem hk')
  exact pieceI_eq hi (by omega) (by unfold small; omega) (by unfold small; omega)
theorem zipWith_swap {α β γ : Type} {f : α → β → γ} {g : β → α → γ} (h : ∀ a b, f a b = g b a) : ∀ (xs : List α) (ys : List β), List.zipWith f xs ys = List.zipWith g ys xs
  | [], [] => rfl
  | [], _ :: _ => rfl
  | _ :: _, [] => rfl
  | a :: xs, b :: ys => by simp [h, zipWith_swap h xs ys]
theorem same_refl {α : Type} [DecidableEq α] (xs : List α) : sameX xs xs = true := by simp [sameX, allZ_eq rfl]
theorem rev_true {p q : List Int} {d i : Int} (h : Mot p q d i) : revB p q d i = true := by
  have h' := h.flip
  rw [revB, piece_of h.len h.sp h.sq h.d0 (by have := h.d1; omega) h.i0 h.i1, piece_of h'.len h'.sp h'.sq h'.d0 (by have := h'.d1; omega) h'.i0 h'.i1]
  simp only [Bool.true_and]
  rw [zipWith_swap (f := pieceP (2 ^ d.toNat) i) (g := pieceP (2 ^ d.toNat) (2 ^ d.toNat - 1 - i)) (fun a b => pieceP_rev (pow_pos2 _)) p q]
  exact same_refl _
end Go.Ab

/- The plain laws of ConfigNested and ConfigEnds. -/
namespace Go.Ab
theorem mul_nonneg' {a b : Int} (ha : 0 ≤ a) (hb : 0 ≤ b) : 0 ≤ a * b := Int.mul_nonneg ha hb
/-- floor and ceiling of a product's parts -/
theorem ediv_le_ceil {a b N : Int} (hN : 0 < N) (h : a ≤ b) : a / N ≤ -(-b / N) := by
  have h1 : a / N * N ≤ a := Int.ediv_mul_le a (by omega)
  have h2 : -b / N * N ≤ -b := Int.ediv_mul_le (-b) (by omega)
  have h3 : (a / N + -b / N) * N ≤ 0 := by rw [Int.add_mul]; omega
  have h4 : a / N + -b / N ≤ 0 := by
    rcases Int.lt_or_le 0 (a / N + -b / N) with h | h
    · have := Int.mul_pos h hN; omega
    · exact h
  omega
theorem ediv_scale {a N K : Int} (hK : 0 < K) : (K * a) / (N * K) = a / N := by
  rw [Int.mul_comm N K, Int.mul_ediv_mul_of_pos _ _ hK]
theorem pieceP_nest {N K i j f t : Int} (hN : 0 < N) (hK : 0 < K) (h1 : i * K ≤ j) (h2 : j + 1 ≤ (i + 1) * K) :
    (pieceP N i f t).1 ≤ (pieceP (N * K) j f t).1 ∧ (pieceP (N * K) j f t).2 ≤ (pieceP N i f t).2 := by
  unfold pieceP
  simp only
  generalize t - f = D
  have hNK : 0 < N * K := Int.mul_pos hN hK
  have key : K * min (i * D) ((i + 1) * D) ≤ min (j * D) ((j + 1) * D) ∧ max (j * D) ((j + 1) * D) ≤ K * max (i * D) ((i + 1) * D) := by
    have e1 : K * (i * D) = (i * K) * D := by rw [← Int.mul_assoc, Int.mul_comm K i]
    have e2 : K * ((i + 1) * D) = ((i + 1) * K) * D := by rw [← Int.mul_assoc, Int.mul_comm K (i + 1)]
    rcases Int.le_total 0 D with hD | hD
    · have a1 : i * D ≤ (i + 1) * D := Int.mul_le_mul_of_nonneg_right (by omega) hD
      have a2 : j * D ≤ (j + 1) * D := Int.mul_le_mul_of_nonneg_right (by omega) hD
      have a3 : (i * K) * D ≤ j * D := Int.mul_le_mul_of_nonneg_right h1 hD
      have a4 : (j + 1) * D ≤ ((i + 1) * K) * D := Int.mul_le_mul_of_nonneg_right h2 hD
      rw [Int.min_eq_left a1, Int.min_eq_left a2, Int.max_eq_right a1, Int.max_eq_right a2, e1, e2]
      exact ⟨a3, a4⟩
    · have a1 : (i + 1) * D ≤ i * D := Int.mul_le_mul_of_nonpos_right (by omega) hD
      have a2 : (j + 1) * D ≤ j * D := Int.mul_le_mul_of_nonpos_right (by omega) hD
      have a3 : j * D ≤ (i * K) * D := Int.mul_le_mul_of_nonpos_right h1 hD
      have a4 : ((i + 1) * K) * D ≤ (j + 1) * D := Int.mul_le_mul_of_nonpos_right h2 hD
      rw [Int.min_eq_right a1, Int.min_eq_right a2, Int.max_eq_left a1, Int.max_eq_left a2, e1, e2]
      exact ⟨a4, a3⟩
  generalize min (i * D) ((i + 1) * D) = m at key ⊢
  generalize max (i * D) ((i + 1) * D) = M at key ⊢
  generalize min (j * D) ((j + 1) * D) = m' at key ⊢
  generalize max (j * D) ((j + 1) * D) = M' at key ⊢
  have b1 : m / N ≤ m' / (N * K) := by rw [← ediv_scale (a := m) (N := N) hK]; exact Int.ediv_le_ediv hNK key.1
  have b2 : -M / N ≤ -M' / (N * K) := by
    rw [← ediv_scale (a := -M) (N := N) hK]
    refine Int.ediv_le_ediv hNK ?_
    have : K * -M = -(K * M) := Int.mul_neg K M
    omega
  omega
theorem pieceP_ord {N i f t : Int} (hN : 0 < N) : (pieceP N i f t).1 ≤ (pieceP N i f t).2 := by
  unfold pieceP
  simp only
  have := ediv_le_ceil (a := min (i * (t - f)) ((i + 1) * (t - f))) (b := max (i * (t - f)) ((i + 1) * (t - f))) hN (by omega)
  omega
theorem pieceP_one (f t : Int) : pieceP 1 0 f t = (min f t, max f t) := by
  unfold pieceP
  refine Prod.ext ?_ ?_ <;> simp <;> omega
theorem pieceP_in {N i f t : Int} (hN : 0 < N) (h0 : 0 ≤ i) (h1 : i < N) : min f t ≤ (pieceP N i f t).1 ∧ (pieceP N i f t).2 ≤ max f t := by
  have := pieceP_nest (N := 1) (K := N) (i := 0) (j := i) (f := f) (t := t) (by decide) hN (by omega) (by omega)
  rw [pieceP_one, Int.one_mul] at this
  exact this
/-- What a piece is. -/
theorem piece_valid {N i f t : Int} (hN : 0 < N) (h0 : 0 ≤ i) (h1 : i < N) (hf : -1000000 ≤ f ∧ f ≤ 1000000) (ht : -1000000 ≤ t ∧ t ≤ 1000000) : validB (pieceP N i f t).1 (pieceP N i f t).2 = true := by
  have a := pieceP_in (f := f) (t := t) hN h0 h1
  have b := pieceP_ord (i := i) (f := f) (t := t) hN
  simp only [validB, Bool.and_eq_true, decide_eq_true_eq]; omega
theorem allB_iff {α : Type} {p : α → Bool} {xs : List α} : allB p xs = true ↔ ∀ x ∈ xs, p x = true := by simp [allB]
theorem allZ_iff {α β : Type} {f : α → β → Bool} {xs : List α} {ys : List β} : allZ f xs ys = true ↔ ∀ (i : Nat) (h : i < xs.length) (h' : i < ys.length), f xs[i] ys[i] = true := by
  unfold allZ
  rw [List.all_eq_true]
  constructor
  · intro h i hi hi'
    exact h (f xs[i] ys[i]) (by
      rw [List.mem_iff_getElem]
      exact ⟨i, by simp; omega, by simp⟩)
  · intro h x hx
    obtain ⟨i, hi, rfl⟩ := List.mem_iff_getElem.1 hx
    simp only [List.length_zipWith] at hi
    simpa using h i (by omega) (by omega)
theorem within_iff {xs ys : List (Int × Int)} : withinL xs ys = true ↔ (∀ x ∈ xs, validB x.1 x.2 = true) ∧ (∀ y ∈ ys, validB y.1 y.2 = true) ∧ xs.length = ys.length ∧ ∀ (i : Nat) (h : i < xs.length) (h' : i < ys.length), ys[i].1 ≤ xs[i].1 ∧ xs[i].2 ≤ ys[i].2 := by
  unfold withinL
  simp only [Bool.and_eq_true, decide_eq_true_eq, allB_iff, allZ_iff, vI]
  constructor
  · rintro ⟨⟨⟨h1, h2⟩, h3⟩, h4⟩
    refine ⟨h1, h2, h3, fun i h h' => ?_⟩
    have := h4 i h h'
    simp only [withinI, Bool.and_eq_true, decide_eq_true_eq] at this
    exact ⟨this.1.2, this.2⟩
  · rintro ⟨h1, h2, h3, h4⟩
    refine ⟨⟨⟨h1, h2⟩, h3⟩, fun i h h' => ?_⟩
    simp only [withinI, Bool.and_eq_true, decide_eq_true_eq]
    exact ⟨⟨⟨h1 _ (List.getElem_mem h), h2 _ (List.getElem_mem h')⟩, (h4 i h h').1⟩, (h4 i h h').2⟩
theorem mem_zip {α β γ : Type} {f : α → β → γ} {xs : List α} {ys : List β} {z : γ} (h : z ∈ List.zipWith f xs ys) : ∃ (i : Nat) (h1 : i < xs.length) (h2 : i < ys.length), z = f xs[i] ys[i] := by
  obtain ⟨i, hi, rfl⟩ := List.mem_iff_getElem.1 h
  simp only [List.length_zipWith] at hi
  exact ⟨i, by omega, by omega, by simp⟩
section
variable {p q : List Int} {d i : Int}
theorem piece_all (h : Mot p q d i) {N j : Int} (hN : 0 < N) (h0 : 0 ≤ j) (h1 : j < N) : ∀ x ∈ List.zipWith (pieceP N j) p q, validB x.1 x.2 = true := by
  intro x hx
  obtain ⟨k, hk, hk', rfl⟩ := mem_zip hx
  exact piece_valid hN h0 h1 (h.sp _ (List.getElem_mem hk)) (h.sq _ (List.getElem_mem hk'))
theorem nest_within (h : Mot p q d i) {N K j : Int} (hN : 0 < N) (hi : 0 ≤ i) (hi1 : i < N) (hK : 0 < K) (h1 : i * K ≤ j) (h2 : j + 1 ≤ (i + 1) * K) : withinL (List.zipWith (pieceP (N * K) j) p q) (List.zipWith (pieceP N i) p q) = true := by
  have hj : 0 ≤ j := by have := Int.mul_nonneg hi (Int.le_of_lt hK); omega
  have hj1 : j < N * K := by
    have : (i + 1) * K ≤ N * K := Int.mul_le_mul_of_nonneg_right (by omega) (by omega)
    omega
  rw [within_iff]
  refine ⟨piece_all h (Int.mul_pos hN hK) hj hj1, piece_all h hN hi hi1, by simp, fun k hk hk' => ?_⟩
  simp only [List.getElem_zipWith]
  exact pieceP_nest hN hK h1 h2
theorem box_of (hp : ∀ x ∈ p, -1000000 ≤ x ∧ x ≤ 1000000) : boxL p = p.map fun x => (x, x) := by rw [boxL, allSmall hp]; rfl
theorem hull_box (h : Mot p q d i) : hullL (boxL p) (boxL q) = List.zipWith (fun a b => (min a b, max a b)) p q := by
  rw [box_of h.sp, box_of h.sq, hullL]
  have v1 : allB vI (p.map fun x => (x, x)) = true := by
    rw [allB_iff]; intro x hx
    obtain ⟨y, hy, rfl⟩ := List.mem_map.1 hx
    have := h.sp y hy
    simp [vI, validB]; omega
  have v2 : allB vI (q.map fun x => (x, x)) = true := by
    rw [allB_iff]; intro x hx
    obtain ⟨y, hy, rfl⟩ := List.mem_map.1 hx
    have := h.sq y hy
    simp [vI, validB]; omega
  rw [v1, v2]
  simp only [List.length_map, h.len, Bool.true_and, decide_true, if_true]
  refine List.ext_getElem (by simp) (fun k h1 h2 => ?_)
  simp only [List.length_zipWith, List.length_map] at h1
  have a := h.sp p[k] (List.getElem_mem (by omega))
  have b := h.sq q[k] (List.getElem_mem (by omega))
  simp only [List.getElem_zipWith, List.getElem_map, hullI, validB]
  rw [if_pos (by simp; omega)]
theorem in_hull (h : Mot p q d i) {N : Int} (hN : 0 < N) (hi : 0 ≤ i) (hi1 : i < N) : withinL (List.zipWith (pieceP N i) p q) (hullL (boxL p) (boxL q)) = true := by
  rw [hull_box h, within_iff]
  refine ⟨piece_all h hN hi hi1, fun y hy => ?_, by simp, fun k hk hk' => ?_⟩
  · obtain ⟨k, hk, hk', rfl⟩ := mem_zip hy
    have a := h.sp _ (List.getElem_mem hk)
    have b := h.sq _ (List.getElem_mem hk')
    simp [validB]; omega
  · simp only [List.getElem_zipWith]
    exact pieceP_in hN hi hi1
end
def nestB (p q : List Int) (d i k at_ : Int) : Bool :=
  (pieceL p q d i).2 && (pieceL p q (d + 1) (2 * i)).2 && (pieceL p q (d + 1) (2 * i + 1)).2 && (pieceL p q (d + k) (i * 2 ^ k.toNat + at_)).2 &&
  withinL (pieceL p q (d + 1) (2 * i)).1 (pieceL p q d i).1 && withinL (pieceL p q (d + 1) (2 * i + 1)).1 (pieceL p q d i).1 && withinL (pieceL p q (d + k) (i * 2 ^ k.toNat + at_)).1 (pieceL p q d i).1 &&
  withinL (pieceL p q d i).1 (hullL (boxL p) (boxL q)) && decide ((pieceL p q d i).1.length = p.length)
theorem nest_true {p q : List Int} {d i k at_ : Int} (h : Mot p q d i) (hk : 0 ≤ k) (hk' : d + k ≤ 20) (ha : 0 ≤ at_) (ha' : at_ < 2 ^ k.toNat) : nestB p q d i k at_ = true := by
  have hd1 := h.d1
  have hd0 := h.d0
  have hi0 := h.i0
  have hi1 := h.i1
  have hN : (0 : Int) < 2 ^ d.toNat := pow_pos2 _
  have hK : (0 : Int) < 2 ^ k.toNat := pow_pos2 _
  have e1 : (2 : Int) ^ (d + 1).toNat = 2 ^ d.toNat * 2 := by
    rw [show (d + 1).toNat = d.toNat + 1 by omega, Int.pow_succ]
  have ek : (2 : Int) ^ (d + k).toNat = 2 ^ d.toNat * 2 ^ k.toNat := by
    rw [show (d + k).toNat = d.toNat + k.toNat by omega, Int.pow_add]
  have b1 : i * 2 ^ k.toNat + at_ < 2 ^ d.toNat * 2 ^ k.toNat := by
    have : (i + 1) * 2 ^ k.toNat ≤ 2 ^ d.toNat * 2 ^ k.toNat := Int.mul_le_mul_of_nonneg_right (by omega) (by omega)
    rw [Int.add_mul] at this
    omega
  have b0 : 0 ≤ i * 2 ^ k.toNat + at_ := by
    have := Int.mul_nonneg hi0 (Int.le_of_lt hK); omega
  rw [nestB, piece_of h.len h.sp h.sq hd0 (by omega) hi0 hi1, piece_of h.len h.sp h.sq (d := d + 1) (i := 2 * i) (by omega) (by omega) (by omega) (by omega),
    piece_of h.len h.sp h.sq (d := d + 1) (i := 2 * i + 1) (by omega) (by omega) (by omega) (by omega), piece_of h.len h.sp h.sq (d := d + k) (i := i * 2 ^ k.toNat + at_) (by omega) (by omega) b0 (by rw [ek]; exact b1)]
  simp only [e1, ek, Bool.true_and]
  rw [nest_within h hN hi0 hi1 (K := 2) (by decide) (by omega) (by omega), nest_within h hN hi0 hi1 (K := 2) (by decide) (by omega) (by omega),
    nest_within h hN hi0 hi1 hK (by omega) (by rw [Int.add_mul]; omega), in_hull h hN hi0 hi1]
  simp [h.len]
def atP (N i f t : Int) : Int := f + (i * (t - f)) / N
theorem atI_eq {i d f t : Int} (hi : 0 ≤ i) (hi' : i ≤ 1048576) (hf : small f) (ht : small t) : atI i d f t = atP (2 ^ d.toNat) i f t := by
  unfold small at hf ht
  have e1 : wr (t - f) = t - f := wr_id (by omega) (by omega)
  have b1 := mul_bound (i := i) (D := t - f) (A := 1048577) (B := 4294967296) hi (by omega) (by omega) (by omega)
  have e2 : wr (i * (t - f)) = i * (t - f) := wr_id (by omega) (by omega)
  simp only [atI, atP, e1, e2, fdiv_ediv]
  have c1 := ediv_bound (a := i * (t - f)) (N := 2 ^ d.toNat) (B := 1048577 * 4294967296) (pow_pos2 _) (by omega) (by omega)
  rw [wr_id (by omega) (by omega)]
theorem at_of {p q : List Int} {d i : Int} (hl : p.length = q.length) (hp : ∀ x ∈ p, -1000000 ≤ x ∧ x ≤ 1000000) (hq : ∀ x ∈ q, -1000000 ≤ x ∧ x ≤ 1000000) (h0 : 0 ≤ d) (h1 : d ≤ 20) (hi : 0 ≤ i) (hi' : i ≤ 2 ^ d.toNat) :
    atL p q d i = (List.zipWith (atP (2 ^ d.toNat) i) p q, true) := by
  have hm : motionB p q d = true := by simp [motionB, hl, allSmall hp, allSmall hq, h0, h1]
  have hb := pow_le20 h1
  rw [atL, hm]
  simp only [Bool.true_and, hi, hi', decide_true, if_true]
  refine Prod.ext ?_ rfl
  refine List.ext_getElem (by simp) (fun k h1 h2 => ?_)
  simp only [List.getElem_zipWith]
  have hk : k < p.length := by simp at h1; omega
  have hk' : k < q.length := by omega
  have a := hp _ (List.getElem_mem hk)
  have b := hq _ (List.getElem_mem hk')
  exact atI_eq hi (by omega) (by unfold small; omega) (by unfold small; omega)
theorem atP_in {N i f t : Int} (hN : 0 < N) : ((pieceP N i f t).1 ≤ atP N i f t ∧ atP N i f t ≤ (pieceP N i f t).2) ∧ ((pieceP N i f t).1 ≤ atP N (i + 1) f t ∧ atP N (i + 1) f t ≤ (pieceP N i f t).2) := by
  unfold pieceP atP
  simp only
  generalize i * (t - f) = a
  generalize (i + 1) * (t - f) = b
  have h1 : min a b / N ≤ a / N := Int.ediv_le_ediv hN (by omega)
  have h2 : min a b / N ≤ b / N := Int.ediv_le_ediv hN (by omega)
  have h3 := ediv_le_ceil (a := a) (b := max a b) hN (by omega)
  have h4 := ediv_le_ceil (a := b) (b := max a b) hN (by omega)
  omega
theorem atP_zero {N f t : Int} : atP N 0 f t = f := by simp [atP]
theorem atP_end {N f t : Int} (hN : 0 < N) : atP N N f t = t := by rw [atP, Int.mul_ediv_cancel_left _ (by omega)]; omega
theorem has_iff {xs : List (Int × Int)} {ys : List Int} : hasL xs ys = true ↔ (∀ x ∈ xs, validB x.1 x.2 = true) ∧ xs.length = ys.length ∧ ∀ (i : Nat) (h : i < xs.length) (h' : i < ys.length), xs[i].1 ≤ ys[i] ∧ ys[i] ≤ xs[i].2 := by
  unfold hasL
  simp only [Bool.and_eq_true, decide_eq_true_eq, allB_iff, allZ_iff, vI]
  constructor
  · rintro ⟨⟨h1, h2⟩, h3⟩
    refine ⟨h1, h2, fun i h h' => ?_⟩
    have := h3 i h h'
    simp only [hasI, Bool.and_eq_true, decide_eq_true_eq] at this
    exact ⟨this.1.2, this.2⟩
  · rintro ⟨h1, h2, h3⟩
    refine ⟨⟨h1, h2⟩, fun i h h' => ?_⟩
    simp only [hasI, Bool.and_eq_true, decide_eq_true_eq]
    exact ⟨⟨h1 _ (List.getElem_mem h), (h3 i h h').1⟩, (h3 i h h').2⟩
theorem zipWith_left {α β : Type} {f : α → β → α} (h : ∀ a b, f a b = a) : ∀ {xs : List α} {ys : List β}, xs.length = ys.length → List.zipWith f xs ys = xs
  | [], [], _ => rfl
  | a :: xs, b :: ys, hl => by simp [h, zipWith_left h (xs := xs) (ys := ys) (by simpa using hl)]
theorem zipWith_right {α β : Type} {f : α → β → β} (h : ∀ a b, f a b = b) : ∀ {xs : List α} {ys : List β}, xs.length = ys.length → List.zipWith f xs ys = ys
  | [], [], _ => rfl
  | a :: xs, b :: ys, hl => by simp [h, zipWith_right h (xs := xs) (ys := ys) (by simpa using hl)]
def endsB (p q : List Int) (d i : Int) : Bool :=
  (pieceL p q d i).2 && (atL p q d i).2 && (atL p q d (i + 1)).2 && (atL p q d 0).2 && (atL p q d (2 ^ d.toNat)).2 && hasL (pieceL p q d i).1 (atL p q d i).1 && hasL (pieceL p q d i).1 (atL p q d (i + 1)).1 &&
  sameX (atL p q d 0).1 p && sameX (atL p q d (2 ^ d.toNat)).1 q
theorem ends_true {p q : List Int} {d i : Int} (h : Mot p q d i) : endsB p q d i = true := by
  have hd1 := h.d1
  have hd0 := h.d0
  have hi0 := h.i0
  have hi1 := h.i1
  have hN : (0 : Int) < 2 ^ d.toNat := pow_pos2 _
  rw [endsB, piece_of h.len h.sp h.sq hd0 (by omega) hi0 hi1, at_of h.len h.sp h.sq hd0 (by omega) hi0 (by omega), at_of h.len h.sp h.sq (i := i + 1) hd0 (by omega) (by omega) (by omega),
    at_of h.len h.sp h.sq (i := 0) hd0 (by omega) (by omega) (by omega), at_of h.len h.sp h.sq (i := 2 ^ d.toNat) hd0 (by omega) (by omega) (by omega)]
  have a1 : hasL (List.zipWith (pieceP (2 ^ d.toNat) i) p q) (List.zipWith (atP (2 ^ d.toNat) i) p q) = true := by
    rw [has_iff]; exact ⟨piece_all h hN hi0 hi1, by simp, fun k hk hk' => by simpa using (atP_in hN).1⟩
  have a2 : hasL (List.zipWith (pieceP (2 ^ d.toNat) i) p q) (List.zipWith (atP (2 ^ d.toNat) (i + 1)) p q) = true := by
    rw [has_iff]; exact ⟨piece_all h hN hi0 hi1, by simp, fun k hk hk' => by simpa using (atP_in hN).2⟩
  rw [a1, a2, zipWith_left (fun a b => atP_zero) h.len, zipWith_right (fun a b => atP_end hN) h.len, same_refl, same_refl]
  rfl
end Go.Ab

/- Contracts: the reference's pieces. -/
namespace Go.Ab
open Go.Proofs
def floorI (a b : Int) : Int := if a.tmod b < 0 then wr (wr (a.tdiv b) - 1) else wr (a.tdiv b)
def ceilI (a b : Int) : Int := if 0 < a.tmod b then wr (wr (a.tdiv b) + 1) else wr (a.tdiv b)
theorem d121 (a b : Int) (hb : b ≠ 0) : DetH Try.prog 121 [.pv (Z a), .pv (Z b)] [] [] (.pv (Z (floorI a b))) := by
  refine detP_of Try.func121 rfl (by kernel_rfl) (by simp [Try.f121]) rfl ?_
  intro C hP hN
  simp only [Try.f121] at hN ⊢
  repeat' (first
    | with_reducible refine WP.seq ?_
    | (with_reducible ((first | refine WP.region (hn := []) ?_ | refine WP.cond' ?_); simp -implicitDefEqProofs (maxSteps := 2000000) [hP, hN, hb]))
    | (with_reducible ((first | refine WP.draw (hn := []) (by rw [hP]; kernel_rfl) (by kernel_rfl) ?_); simp -implicitDefEqProofs (maxSteps := 2000000) [hP, hN, hb]; (try refine ⟨by kernel_rfl, ?_⟩)))
    | (with_reducible refine xB_split (by simp [hb]) (fun hgd => ?_) (fun hgd => ?_) <;> first | (exfalso; simp at hgd; done) | (exfalso; simp at hgd; omega) | simp -implicitDefEqProofs (maxSteps := 2000000) [hP, hN, hb])
    | (with_reducible refine yB_split (by simp [hb]) (fun hgd => ?_) (fun hgd => ?_) <;> first | (exfalso; simp at hgd; done) | (exfalso; simp at hgd; omega) | (simp -implicitDefEqProofs (maxSteps := 2000000) [hP, hN, hb] <;> (try refine ⟨by kernel_rfl, ?_⟩)))
    | with_reducible refine xTwo_intro ?_ ?_
    | (with_reducible refine xCond_split (fun hcd => ?_) (fun hcd => ?_) <;> (try (exfalso; clear hP hN; simp_all; done)) <;> (try (exfalso; simp at *; omega)))
    | with_reducible refine WP.block ?_
    | (with_reducible ((first | refine WP.skip ?_ | refine WP.exit ?_ | refine WP.ret ?_); simp [hb])))
  all_goals (first | (simp_all [floorI]; done) | ((try simp_all [floorI]) <;> (try omega) <;> grind))
theorem d120 (xs ys : List Int) (d : Int) (hl : xs.length ≤ 9223372036854775807) (hm : ys.length ≤ 9223372036854775807) : DetH Try.prog 120 [.pv (zs xs), .pv (zs ys), .pv (Z d)] [] [] (.pv (B (motionB xs ys d))) := by
  have e : motionB xs ys d = (allB smallB xs && allB smallB ys && decide (xs.length = ys.length) && decide (0 ≤ d) && decide (d ≤ 20)) := by
    unfold motionB
    cases allB smallB xs <;> cases allB smallB ys <;> cases decide (xs.length = ys.length) <;> rfl
  rw [e]
  refine detP_of Try.func120 rfl (by kernel_rfl) (by simp [Try.f120]) rfl ?_
  intro C hP hN
  simp only [Try.f120] at hN ⊢
  repeat' (first
    | with_reducible refine WP.seq ?_
    | (with_reducible ((first | refine WP.region (hn := []) ?_ | refine xC_intro (d166 _ hl) ?_ | refine xC_intro (d166 _ hm) ?_ | refine WP.cond' ?_); simp -implicitDefEqProofs (maxSteps := 2000000) [hP, hN]))
    | (with_reducible ((first | refine WP.draw (hn := []) (by rw [hP]; kernel_rfl) (by kernel_rfl) ?_ | refine yC_intro (d166 _ hl) ?_ | refine yC_intro (d166 _ hm) ?_); simp -implicitDefEqProofs (maxSteps := 2000000) [hP, hN]; (try refine ⟨by kernel_rfl, ?_⟩)))
    | (with_reducible refine xB_split (by simp) (fun hgd => ?_) (fun hgd => ?_) <;> first | (exfalso; simp at hgd; done) | (exfalso; simp at hgd; omega) | simp -implicitDefEqProofs (maxSteps := 2000000) [hP, hN])
    | (with_reducible refine yB_split (by simp) (fun hgd => ?_) (fun hgd => ?_) <;> first | (exfalso; simp at hgd; done) | (exfalso; simp at hgd; omega) | (simp -implicitDefEqProofs (maxSteps := 2000000) [hP, hN] <;> (try refine ⟨by kernel_rfl, ?_⟩)))
    | with_reducible refine xTwo_intro ?_ ?_
    | (with_reducible refine xCond_split (fun hcd => ?_) (fun hcd => ?_) <;> (try (exfalso; clear hP hN; simp_all; done)) <;> (try (exfalso; simp at *; omega)))
    | with_reducible refine WP.block ?_
    | (with_reducible ((first | refine WP.skip ?_ | refine WP.exit ?_ | refine WP.ret ?_); simp)))
  all_goals (first | (simp_all; done) | ((try simp_all) <;> (try omega) <;> grind))
def refPieceI (idx d f t : Int) : Int × Int :=
  let s := wr (idx * wr (t - f)); let e := wr (wr (idx + 1) * wr (t - f))
  (wr (f + floorI (min s e) (2 ^ d.toNat)), wr (f + ceilI (max s e) (2 ^ d.toNat)))
def refPieceL (xs ys : List Int) (d i : Int) : List (Int × Int) × Bool := if motionB xs ys d && decide (0 ≤ i) && decide (i < 2 ^ d.toNat) then (List.zipWith (refPieceI i d) xs ys, true) else ([], false)
def refAtI (idx d f t : Int) : Int := wr (f + floorI (wr (idx * wr (t - f))) (2 ^ d.toNat))
def refAtL (xs ys : List Int) (d i : Int) : List Int × Bool := if motionB xs ys d && decide (0 ≤ i) && decide (i ≤ 2 ^ d.toNat) then (List.zipWith (refAtI i d) xs ys, true) else ([], false)
set_option maxHeartbeats 4000000 in
theorem d53 (xs ys : List Int) (d i : Int) (hl : xs.length ≤ 16777216) (hm : ys.length ≤ 16777216) : DetH Try.prog 53 [.pv (zs xs), .pv (zs ys), .pv (Z d), .pv (Z i)] [] [] (.pv (.tup [zs (refAtL xs ys d i).1, B (refAtL xs ys d i).2])) := by
  cases hmo : motionB xs ys d with
  | false =>
    refine detP_of Try.func53 rfl (by kernel_rfl) (by simp [Try.f53]) rfl ?_
    intro C hP hN
    simp only [Try.f53] at hN ⊢
    repeat' (first
      | with_reducible refine WP.seq ?_
      | (with_reducible ((first | refine WP.region (hn := []) ?_ | refine xC_intro (d120 _ _ _ (big hl) (big hm)) ?_ | refine WP.cond' ?_); simp -implicitDefEqProofs (maxSteps := 2000000) [hP, hN, hmo]))
      | (with_reducible ((first | refine WP.draw (hn := []) (by rw [hP]; kernel_rfl) (by kernel_rfl) ?_ | refine yC_intro (d120 _ _ _ (big hl) (big hm)) ?_); simp -implicitDefEqProofs (maxSteps := 2000000) [hP, hN, hmo]; (try refine ⟨by kernel_rfl, ?_⟩)))
      | (with_reducible refine xB_split (by simp [hmo]) (fun hgd => ?_) (fun hgd => ?_) <;> first | (exfalso; simp at hgd; done) | (exfalso; simp at hgd; omega) | simp -implicitDefEqProofs (maxSteps := 2000000) [hP, hN, hmo])
      | (with_reducible refine yB_split (by simp [hmo]) (fun hgd => ?_) (fun hgd => ?_) <;> first | (exfalso; simp at hgd; done) | (exfalso; simp at hgd; omega) | (simp -implicitDefEqProofs (maxSteps := 2000000) [hP, hN, hmo] <;> (try refine ⟨by kernel_rfl, ?_⟩)))
      | with_reducible refine xTwo_intro ?_ ?_
      | (with_reducible refine xCond_split (fun hcd => ?_) (fun hcd => ?_) <;> (try (exfalso; clear hP hN; simp_all; done)) <;> (try (exfalso; simp at *; omega)))
      | with_reducible refine WP.block ?_
      | (with_reducible ((first | refine WP.skip ?_ | refine WP.exit ?_ | refine WP.ret ?_); simp [hmo])))
    all_goals simp [refAtL, hmo]
  | true =>
    obtain ⟨he, _, _, h0, hd⟩ := motionB_true hmo
    have hd' : d < 64 := by omega
    have hu : IntKind.u64.wrap d = d := by rw [IntKind.wrap_u64]; omega
    have hne : (2 : Int) ^ d.toNat ≠ 0 := by have := Int.pow_pos (n := (2 : Int)) (m := d.toNat) (by decide); omega
    by_cases hi : 0 ≤ i ∧ i ≤ 2 ^ d.toNat
    · obtain ⟨hi0, hi1⟩ := hi
      have hL : refAtL xs ys d i = (List.zipWith (refAtI i d) xs ys, true) := by simp [refAtL, hmo, hi0, hi1]
      rw [hL]
      refine detP_of Try.func53 rfl (by kernel_rfl) (by simp [Try.f53]) rfl ?_
      intro C hP hN
      simp only [Try.f53] at hN ⊢
      repeat' (first
        | with_reducible refine WP.seq ?_
        | (with_reducible ((first | refine WP.region (hn := [10]) ?_ | refine xC_intro (d120 _ _ _ (big hl) (big hm)) ?_ | refine WP.cond' ?_); simp -implicitDefEqProofs (maxSteps := 2000000) [hP, hN, hmo, h0, hu, bits64, min64 hd', wr_shl h0 hd, Int.not_lt.2 hi0, Int.not_lt.2 hi1]))
        | (with_reducible ((first | refine WP.draw (hn := [10]) (by rw [hP]; kernel_rfl) (by kernel_rfl) ?_ | refine yC_intro (d120 _ _ _ (big hl) (big hm)) ?_); simp -implicitDefEqProofs (maxSteps := 2000000) [hP, hN, hmo, h0, hu, bits64, min64 hd', wr_shl h0 hd, Int.not_lt.2 hi0, Int.not_lt.2 hi1]; (try refine ⟨by kernel_rfl, ?_⟩)))
        | (with_reducible refine xB_split (by simp [hmo, h0, hu, bits64, min64 hd', wr_shl h0 hd, Int.not_lt.2 hi0, Int.not_lt.2 hi1]) (fun hgd => ?_) (fun hgd => ?_) <;> first | (exfalso; simp at hgd; done) | (exfalso; simp at hgd; omega) | simp -implicitDefEqProofs (maxSteps := 2000000) [hP, hN, hmo, h0, hu, bits64, min64 hd', wr_shl h0 hd, Int.not_lt.2 hi0, Int.not_lt.2 hi1])
        | (with_reducible refine yB_split (by simp [hmo, h0, hu, bits64, min64 hd', wr_shl h0 hd, Int.not_lt.2 hi0, Int.not_lt.2 hi1]) (fun hgd => ?_) (fun hgd => ?_) <;> first | (exfalso; simp at hgd; done) | (exfalso; simp at hgd; omega) | (simp -implicitDefEqProofs (maxSteps := 2000000) [hP, hN, hmo, h0, hu, bits64, min64 hd', wr_shl h0 hd, Int.not_lt.2 hi0, Int.not_lt.2 hi1] <;> (try refine ⟨by kernel_rfl, ?_⟩)))
        | with_reducible refine xTwo_intro ?_ ?_
        | (with_reducible refine xCond_split (fun hcd => ?_) (fun hcd => ?_) <;> (try (exfalso; clear hP hN; simp_all; done)) <;> (try (exfalso; simp at *; omega)))
        | with_reducible refine WP.block ?_
        | (with_reducible ((first | refine WP.skip ?_ | refine WP.exit ?_ | refine WP.ret ?_); simp [hmo, h0, hu, bits64, min64 hd', wr_shl h0 hd, Int.not_lt.2 hi0, Int.not_lt.2 hi1])))
      refine WP.loopN [] xs.length (fun k st => st.t 0 = .pv (zs xs) ∧ st.t 1 = .pv (zs ys) ∧ st.t 2 = .pv (Z d) ∧ st.t 3 = .pv (Z i) ∧ st.t 11 = .pv (Z k) ∧ st.t 10 = .arr 10 k ∧ st.h 10 = some (.row 2 1 ((List.zipWith (fun x y => Z (refAtI i d x y)) xs ys).take k) 0)) (by simp) ?_
      rintro k st hk ⟨g0, g1, g2, g3, g11, g10, hr⟩
      by_cases hlt : k < xs.length
      · have hw := wr_succ hlt (big hl)
        have hlt' : k < ys.length := by omega
        have hz : min k (min xs.length ys.length) = k := by omega
        have hs := take_zip_step (f := fun x y => Z (refAtI i d x y)) hlt hlt'
        repeat' (first
          | with_reducible refine WP.seq ?_
          | (with_reducible ((first | refine WP.region (hn := []) ?_ | refine xC_intro (d121 _ _ hne) ?_ | refine WP.cond' ?_); simp -implicitDefEqProofs (maxSteps := 2000000) [hP, hN, g0, g1, g2, g3, g11, g10, hr, hlt, hlt', hw, hz, h0, hu, bits64, min64 hd', wr_shl h0 hd, show (k + 1) * 8 ≤ 140737488355328 by omega, show k ≤ 9223372036854775806 by omega]))
          | (with_reducible ((first | refine WP.draw (hn := []) (by rw [hP]; kernel_rfl) (by kernel_rfl) ?_ | refine yC_intro (d121 _ _ hne) ?_); simp -implicitDefEqProofs (maxSteps := 2000000) [hP, hN, g0, g1, g2, g3, g11, g10, hr, hlt, hlt', hw, hz, h0, hu, bits64, min64 hd', wr_shl h0 hd, show (k + 1) * 8 ≤ 140737488355328 by omega, show k ≤ 9223372036854775806 by omega]; (try refine ⟨by kernel_rfl, ?_⟩)))
          | (with_reducible refine xB_split (by simp [g0, g1, g2, g3, g11, g10, hr, hlt, hlt', hw, hz, h0, hu, bits64, min64 hd', wr_shl h0 hd, show (k + 1) * 8 ≤ 140737488355328 by omega, show k ≤ 9223372036854775806 by omega]) (fun hgd => ?_) (fun hgd => ?_) <;> first | (exfalso; simp at hgd; done) | (exfalso; simp at hgd; omega) | simp -implicitDefEqProofs (maxSteps := 2000000) [hP, hN, g0, g1, g2, g3, g11, g10, hr, hlt, hlt', hw, hz, h0, hu, bits64, min64 hd', wr_shl h0 hd, show (k + 1) * 8 ≤ 140737488355328 by omega, show k ≤ 9223372036854775806 by omega])
          | (with_reducible refine yB_split (by simp [g0, g1, g2, g3, g11, g10, hr, hlt, hlt', hw, hz, h0, hu, bits64, min64 hd', wr_shl h0 hd, show (k + 1) * 8 ≤ 140737488355328 by omega, show k ≤ 9223372036854775806 by omega]) (fun hgd => ?_) (fun hgd => ?_) <;> first | (exfalso; simp at hgd; done) | (exfalso; simp at hgd; omega) | (simp -implicitDefEqProofs (maxSteps := 2000000) [hP, hN, g0, g1, g2, g3, g11, g10, hr, hlt, hlt', hw, hz, h0, hu, bits64, min64 hd', wr_shl h0 hd, show (k + 1) * 8 ≤ 140737488355328 by omega, show k ≤ 9223372036854775806 by omega] <;> (try refine ⟨by kernel_rfl, ?_⟩)))
          | with_reducible refine xTwo_intro ?_ ?_
          | (with_reducible refine xCond_split (fun hcd => ?_) (fun hcd => ?_) <;> (try (exfalso; clear hP hN; simp_all; done)) <;> (try (exfalso; simp at *; omega)))
          | with_reducible refine WP.block ?_
          | (with_reducible ((first | refine WP.skip ?_ | refine WP.exit ?_ | refine WP.ret ?_); simp [g0, g1, g2, g3, g11, g10, hr, hlt, hlt', hw, hz, h0, hu, bits64, min64 hd', wr_shl h0 hd, show (k + 1) * 8 ≤ 140737488355328 by omega, show k ≤ 9223372036854775806 by omega])))
        all_goals (rw [← hs]; simp [refAtI])
      · have hz : min k (min xs.length ys.length) = k := by omega
        repeat' (first
          | with_reducible refine WP.seq ?_
          | (with_reducible ((first | refine WP.region (hn := []) ?_ | refine WP.cond' ?_); simp -implicitDefEqProofs (maxSteps := 2000000) [hP, hN, g0, g1, g2, g3, g11, g10, hr, hlt, hz]))
          | (with_reducible ((first | refine WP.draw (hn := []) (by rw [hP]; kernel_rfl) (by kernel_rfl) ?_); simp -implicitDefEqProofs (maxSteps := 2000000) [hP, hN, g0, g1, g2, g3, g11, g10, hr, hlt, hz]; (try refine ⟨by kernel_rfl, ?_⟩)))
          | (with_reducible refine xB_split (by simp [g0, g1, g2, g3, g11, g10, hr, hlt, hz]) (fun hgd => ?_) (fun hgd => ?_) <;> first | (exfalso; simp at hgd; done) | (exfalso; simp at hgd; omega) | simp -implicitDefEqProofs (maxSteps := 2000000) [hP, hN, g0, g1, g2, g3, g11, g10, hr, hlt, hz])
          | (with_reducible refine yB_split (by simp [g0, g1, g2, g3, g11, g10, hr, hlt, hz]) (fun hgd => ?_) (fun hgd => ?_) <;> first | (exfalso; simp at hgd; done) | (exfalso; simp at hgd; omega) | (simp -implicitDefEqProofs (maxSteps := 2000000) [hP, hN, g0, g1, g2, g3, g11, g10, hr, hlt, hz] <;> (try refine ⟨by kernel_rfl, ?_⟩)))
          | with_reducible refine xTwo_intro ?_ ?_
          | (with_reducible refine xCond_split (fun hcd => ?_) (fun hcd => ?_) <;> (try (exfalso; clear hP hN; simp_all; done)) <;> (try (exfalso; simp at *; omega)))
          | with_reducible refine WP.block ?_
          | (with_reducible ((first | refine WP.skip ?_ | refine WP.exit ?_ | refine WP.ret ?_); simp [g0, g1, g2, g3, g11, g10, hr, hlt, hz])))
        exact take_done (by simp; omega) hlt
    · have hL : refAtL xs ys d i = ([], false) := by
        unfold refAtL; rw [if_neg]; simp only [Bool.and_eq_true, decide_eq_true_eq]; omega
      rw [hL]
      by_cases hi0 : i < 0
      · skip
        refine detP_of Try.func53 rfl (by kernel_rfl) (by simp [Try.f53]) rfl ?_
        intro C hP hN
        simp only [Try.f53] at hN ⊢
        repeat' (first
          | with_reducible refine WP.seq ?_
          | (with_reducible ((first | refine WP.region (hn := []) ?_ | refine xC_intro (d120 _ _ _ (big hl) (big hm)) ?_ | refine WP.cond' ?_); simp -implicitDefEqProofs (maxSteps := 2000000) [hP, hN, hmo, h0, hu, bits64, min64 hd', wr_shl h0 hd, hi0]))
          | (with_reducible ((first | refine WP.draw (hn := []) (by rw [hP]; kernel_rfl) (by kernel_rfl) ?_ | refine yC_intro (d120 _ _ _ (big hl) (big hm)) ?_); simp -implicitDefEqProofs (maxSteps := 2000000) [hP, hN, hmo, h0, hu, bits64, min64 hd', wr_shl h0 hd, hi0]; (try refine ⟨by kernel_rfl, ?_⟩)))
          | (with_reducible refine xB_split (by simp [hmo, h0, hu, bits64, min64 hd', wr_shl h0 hd, hi0]) (fun hgd => ?_) (fun hgd => ?_) <;> first | (exfalso; simp at hgd; done) | (exfalso; simp at hgd; omega) | simp -implicitDefEqProofs (maxSteps := 2000000) [hP, hN, hmo, h0, hu, bits64, min64 hd', wr_shl h0 hd, hi0])
          | (with_reducible refine yB_split (by simp [hmo, h0, hu, bits64, min64 hd', wr_shl h0 hd, hi0]) (fun hgd => ?_) (fun hgd => ?_) <;> first | (exfalso; simp at hgd; done) | (exfalso; simp at hgd; omega) | (simp -implicitDefEqProofs (maxSteps := 2000000) [hP, hN, hmo, h0, hu, bits64, min64 hd', wr_shl h0 hd, hi0] <;> (try refine ⟨by kernel_rfl, ?_⟩)))
          | with_reducible refine xTwo_intro ?_ ?_
          | (with_reducible refine xCond_split (fun hcd => ?_) (fun hcd => ?_) <;> (try (exfalso; clear hP hN; simp_all; done)) <;> (try (exfalso; simp at *; omega)))
          | with_reducible refine WP.block ?_
          | (with_reducible ((first | refine WP.skip ?_ | refine WP.exit ?_ | refine WP.ret ?_); simp [hmo, h0, hu, bits64, min64 hd', wr_shl h0 hd, hi0])))
      · have hi1 : 2 ^ d.toNat < i := by omega
        refine detP_of Try.func53 rfl (by kernel_rfl) (by simp [Try.f53]) rfl ?_
        intro C hP hN
        simp only [Try.f53] at hN ⊢
        repeat' (first
          | with_reducible refine WP.seq ?_
          | (with_reducible ((first | refine WP.region (hn := []) ?_ | refine xC_intro (d120 _ _ _ (big hl) (big hm)) ?_ | refine WP.cond' ?_); simp -implicitDefEqProofs (maxSteps := 2000000) [hP, hN, hmo, h0, hu, bits64, min64 hd', wr_shl h0 hd, hi0, hi1]))
          | (with_reducible ((first | refine WP.draw (hn := []) (by rw [hP]; kernel_rfl) (by kernel_rfl) ?_ | refine yC_intro (d120 _ _ _ (big hl) (big hm)) ?_); simp -implicitDefEqProofs (maxSteps := 2000000) [hP, hN, hmo, h0, hu, bits64, min64 hd', wr_shl h0 hd, hi0, hi1]; (try refine ⟨by kernel_rfl, ?_⟩)))
          | (with_reducible refine xB_split (by simp [hmo, h0, hu, bits64, min64 hd', wr_shl h0 hd, hi0, hi1]) (fun hgd => ?_) (fun hgd => ?_) <;> first | (exfalso; simp at hgd; done) | (exfalso; simp at hgd; omega) | simp -implicitDefEqProofs (maxSteps := 2000000) [hP, hN, hmo, h0, hu, bits64, min64 hd', wr_shl h0 hd, hi0, hi1])
          | (with_reducible refine yB_split (by simp [hmo, h0, hu, bits64, min64 hd', wr_shl h0 hd, hi0, hi1]) (fun hgd => ?_) (fun hgd => ?_) <;> first | (exfalso; simp at hgd; done) | (exfalso; simp at hgd; omega) | (simp -implicitDefEqProofs (maxSteps := 2000000) [hP, hN, hmo, h0, hu, bits64, min64 hd', wr_shl h0 hd, hi0, hi1] <;> (try refine ⟨by kernel_rfl, ?_⟩)))
          | with_reducible refine xTwo_intro ?_ ?_
          | (with_reducible refine xCond_split (fun hcd => ?_) (fun hcd => ?_) <;> (try (exfalso; clear hP hN; simp_all; done)) <;> (try (exfalso; simp at *; omega)))
          | with_reducible refine WP.block ?_
          | (with_reducible ((first | refine WP.skip ?_ | refine WP.exit ?_ | refine WP.ret ?_); simp [hmo, h0, hu, bits64, min64 hd', wr_shl h0 hd, hi0, hi1])))
end Go.Ab

/- ConfigPieces: the reference's pieces are the program's. -/
namespace Go.Ab
open Go.Proofs
theorem ediv_uniq {a b k : Int} (hb : 0 < b) (h1 : k * b ≤ a) (h2 : a < (k + 1) * b) : a / b = k := by
  have := (Int.le_ediv_iff_mul_le hb).2 h1
  have := (Int.ediv_lt_iff_lt_mul hb).2 h2
  omega
theorem floorI_eq {a b : Int} (hb : 0 < b) (h1 : -4611686018427387904 ≤ a) (h2 : a ≤ 4611686018427387904) : floorI a b = a / b := by
  have hq := Int.mul_tdiv_add_tmod a b
  have h3 : -b < a.tmod b := Int.lt_tmod_of_pos a hb
  have h4 : a.tmod b < b := Int.tmod_lt_of_pos a hb
  have hbd := ediv_bound (a := a) (N := b) (B := 4611686018427387904) hb h1 h2
  rw [Int.mul_comm] at hq
  unfold floorI
  split
  · have e : a / b = a.tdiv b - 1 := ediv_uniq hb (by rw [Int.sub_mul]; omega) (by rw [show a.tdiv b - 1 + 1 = a.tdiv b by omega]; omega)
    rw [wr_id (n := a.tdiv b) (by omega) (by omega), wr_id (by omega) (by omega), e]
  · have e : a / b = a.tdiv b := ediv_uniq hb (by omega) (by rw [Int.add_mul]; omega)
    rw [wr_id (n := a.tdiv b) (by omega) (by omega), e]
theorem ceilI_eq {a b : Int} (hb : 0 < b) (h1 : -4611686018427387904 ≤ a) (h2 : a ≤ 4611686018427387904) : ceilI a b = -(-a / b) := by
  have hq := Int.mul_tdiv_add_tmod a b
  have h3 : -b < a.tmod b := Int.lt_tmod_of_pos a hb
  have h4 : a.tmod b < b := Int.tmod_lt_of_pos a hb
  have hbd := ediv_bound (a := -a) (N := b) (B := 4611686018427387904) hb (by omega) (by omega)
  rw [Int.mul_comm] at hq
  unfold ceilI
  split
  · have e : -a / b = -a.tdiv b - 1 := ediv_uniq hb (by rw [Int.sub_mul, Int.neg_mul]; omega) (by rw [show -a.tdiv b - 1 + 1 = -a.tdiv b by omega, Int.neg_mul]; omega)
    rw [wr_id (n := a.tdiv b) (by omega) (by omega), wr_id (by omega) (by omega), e]; omega
  · have e : -a / b = -a.tdiv b := ediv_uniq hb (by rw [Int.neg_mul]; omega) (by rw [Int.add_mul, Int.neg_mul]; omega)
    rw [wr_id (n := a.tdiv b) (by omega) (by omega), e]; omega
theorem refPieceI_eq {i d f t : Int} (hi : 0 ≤ i) (hi' : i ≤ 1048576) (hf : small f) (ht : small t) : refPieceI i d f t = pieceI i d f t := by
  rw [pieceI_eq hi hi' hf ht]
  unfold small at hf ht
  have e1 : wr (t - f) = t - f := wr_id (by omega) (by omega)
  have e0 : wr (i + 1) = i + 1 := wr_id (by omega) (by omega)
  have b1 := mul_bound (i := i) (D := t - f) (A := 1048577) (B := 4294967296) hi (by omega) (by omega) (by omega)
  have b2 := mul_bound (i := i + 1) (D := t - f) (A := 1048577) (B := 4294967296) (by omega) (by omega) (by omega) (by omega)
  have e2 : wr (i * (t - f)) = i * (t - f) := wr_id (by omega) (by omega)
  have e3 : wr ((i + 1) * (t - f)) = (i + 1) * (t - f) := wr_id (by omega) (by omega)
  simp only [refPieceI, pieceP, e1, e0, e2, e3]
  generalize i * (t - f) = a at *
  generalize (i + 1) * (t - f) = b at *
  have hN : (0 : Int) < 2 ^ d.toNat := pow_pos2 _
  rw [floorI_eq hN (by omega) (by omega), ceilI_eq hN (by omega) (by omega)]
  have c1 := ediv_bound (a := min a b) (N := 2 ^ d.toNat) (B := 1048577 * 4294967296) hN (by omega) (by omega)
  have c2 := ediv_bound (a := -max a b) (N := 2 ^ d.toNat) (B := 1048577 * 4294967296) hN (by omega) (by omega)
  rw [wr_id (by omega) (by omega), wr_id (by omega) (by omega)]
  refine Prod.ext rfl ?_
  simp only; omega
theorem refAtI_eq {i d f t : Int} (hi : 0 ≤ i) (hi' : i ≤ 1048576) (hf : small f) (ht : small t) : refAtI i d f t = atI i d f t := by
  rw [atI_eq hi hi' hf ht]
  unfold small at hf ht
  have e1 : wr (t - f) = t - f := wr_id (by omega) (by omega)
  have b1 := mul_bound (i := i) (D := t - f) (A := 1048577) (B := 4294967296) hi (by omega) (by omega) (by omega)
  have e2 : wr (i * (t - f)) = i * (t - f) := wr_id (by omega) (by omega)
  have hN : (0 : Int) < 2 ^ d.toNat := pow_pos2 _
  simp only [refAtI, atP, e1, e2]
  rw [floorI_eq hN (by omega) (by omega)]
  have c1 := ediv_bound (a := i * (t - f)) (N := 2 ^ d.toNat) (B := 1048577 * 4294967296) hN (by omega) (by omega)
  rw [wr_id (by omega) (by omega)]
theorem small_of {xs : List Int} (h : allB smallB xs = true) : ∀ x ∈ xs, small x := by
  rw [allB_iff] at h
  intro x hx
  have := h x hx
  simpa [smallB, small] using this
theorem zip_congr {α β γ : Type} {f g : α → β → γ} : ∀ {xs : List α} {ys : List β}, (∀ a ∈ xs, ∀ b ∈ ys, f a b = g a b) → List.zipWith f xs ys = List.zipWith g xs ys
  | [], _, _ => rfl
  | _ :: _, [], _ => rfl
  | a :: xs, b :: ys, h => by
    simp only [List.zipWith_cons_cons]
    rw [h a (by simp) b (by simp), zip_congr (fun a ha b hb => h a (by simp [ha]) b (by simp [hb]))]
theorem refPieceL_eq (xs ys : List Int) (d i : Int) : refPieceL xs ys d i = pieceL xs ys d i := by
  unfold refPieceL pieceL
  split
  · rename_i h
    simp only [Bool.and_eq_true, decide_eq_true_eq] at h
    obtain ⟨_, hx, hy, h0, hd⟩ := motionB_true h.1.1
    have hb := pow_le20 hd
    refine Prod.ext ?_ rfl
    exact zip_congr (fun a ha b hb' => refPieceI_eq h.1.2 (by omega) (small_of hx a ha) (small_of hy b hb'))
  · rfl
theorem refAtL_eq (xs ys : List Int) (d i : Int) : refAtL xs ys d i = atL xs ys d i := by
  unfold refAtL atL
  split
  · rename_i h
    simp only [Bool.and_eq_true, decide_eq_true_eq] at h
    obtain ⟨_, hx, hy, h0, hd⟩ := motionB_true h.1.1
    have hb := pow_le20 hd
    refine Prod.ext ?_ rfl
    exact zip_congr (fun a ha b hb' => refAtI_eq h.1.2 (by omega) (small_of hx a ha) (small_of hy b hb'))
  · rfl
theorem atL_len (xs ys : List Int) (d i : Int) : (atL xs ys d i).1.length ≤ xs.length := by unfold atL; split <;> simp; omega
end Go.Ab

/- Contracts: the rest of config's reference; boxes and lists compared. -/
namespace Go.Ab
open Go.Proofs
theorem valid_range {x : Int × Int} (h : validB x.1 x.2 = true) : -2147483648 ≤ x.1 ∧ x.1 ≤ x.2 ∧ x.2 ≤ 2147483648 := by
  simp only [validB, Bool.and_eq_true, decide_eq_true_eq] at h; omega
theorem d105 (x : Int × Int) : DetH Try.prog 105 [.pv (encI x)] [] [] (.pv (Z (midI x))) := by
  cases hv : validB x.1 x.2 with
  | false =>
    have hr : midI x = 0 := by simp [midI, hv]
    rw [hr]
    refine detP_of Try.func105 rfl (by kernel_rfl) (by simp [Try.f105]) rfl ?_
    intro C hP hN
    simp only [Try.f105] at hN ⊢
    repeat' (first
      | with_reducible refine WP.seq ?_
      | (with_reducible ((first | refine WP.region (hn := []) ?_ | refine xC_intro (d115 _ _) ?_ | refine WP.cond' ?_); simp -implicitDefEqProofs (maxSteps := 2000000) [hP, hN, hv]))
      | (with_reducible ((first | refine WP.draw (hn := []) (by rw [hP]; kernel_rfl) (by kernel_rfl) ?_ | refine yC_intro (d115 _ _) ?_); simp -implicitDefEqProofs (maxSteps := 2000000) [hP, hN, hv]; (try refine ⟨by kernel_rfl, ?_⟩)))
      | (with_reducible refine xB_split (by simp [hv]) (fun hgd => ?_) (fun hgd => ?_) <;> first | (exfalso; simp at hgd; done) | (exfalso; simp at hgd; omega) | simp -implicitDefEqProofs (maxSteps := 2000000) [hP, hN, hv])
      | (with_reducible refine yB_split (by simp [hv]) (fun hgd => ?_) (fun hgd => ?_) <;> first | (exfalso; simp at hgd; done) | (exfalso; simp at hgd; omega) | (simp -implicitDefEqProofs (maxSteps := 2000000) [hP, hN, hv] <;> (try refine ⟨by kernel_rfl, ?_⟩)))
      | with_reducible refine xTwo_intro ?_ ?_
      | (with_reducible refine xCond_split (fun hcd => ?_) (fun hcd => ?_) <;> (try (exfalso; clear hP hN; simp_all; done)) <;> (try (exfalso; simp at *; omega)))
      | with_reducible refine WP.block ?_
      | (with_reducible ((first | refine WP.skip ?_ | refine WP.exit ?_ | refine WP.ret ?_); simp [hv])))
  | true =>
    have hb := valid_range hv
    have hr : midI x = floorI (wr (x.1 + x.2)) 2 := by
      rw [midI, hv]
      simp only [if_true]
      rw [wr_id (by omega) (by omega), floorI_eq (by decide) (by omega) (by omega), Int.fdiv_eq_ediv_of_nonneg _ (by decide)]
    rw [hr]
    refine detP_of Try.func105 rfl (by kernel_rfl) (by simp [Try.f105]) rfl ?_
    intro C hP hN
    simp only [Try.f105] at hN ⊢
    repeat' (first
      | with_reducible refine WP.seq ?_
      | (with_reducible ((first | refine WP.region (hn := []) ?_ | refine xC_intro (d115 _ _) ?_ | refine xC_intro (d121 _ _ (by decide)) ?_ | refine WP.cond' ?_); simp -implicitDefEqProofs (maxSteps := 2000000) [hP, hN, hv]))
      | (with_reducible ((first | refine WP.draw (hn := []) (by rw [hP]; kernel_rfl) (by kernel_rfl) ?_ | refine yC_intro (d115 _ _) ?_ | refine yC_intro (d121 _ _ (by decide)) ?_); simp -implicitDefEqProofs (maxSteps := 2000000) [hP, hN, hv]; (try refine ⟨by kernel_rfl, ?_⟩)))
      | (with_reducible refine xB_split (by simp [hv]) (fun hgd => ?_) (fun hgd => ?_) <;> first | (exfalso; simp at hgd; done) | (exfalso; simp at hgd; omega) | simp -implicitDefEqProofs (maxSteps := 2000000) [hP, hN, hv])
      | (with_reducible refine yB_split (by simp [hv]) (fun hgd => ?_) (fun hgd => ?_) <;> first | (exfalso; simp at hgd; done) | (exfalso; simp at hgd; omega) | (simp -implicitDefEqProofs (maxSteps := 2000000) [hP, hN, hv] <;> (try refine ⟨by kernel_rfl, ?_⟩)))
      | with_reducible refine xTwo_intro ?_ ?_
      | (with_reducible refine xCond_split (fun hcd => ?_) (fun hcd => ?_) <;> (try (exfalso; clear hP hN; simp_all; done)) <;> (try (exfalso; simp at *; omega)))
      | with_reducible refine WP.block ?_
      | (with_reducible ((first | refine WP.skip ?_ | refine WP.exit ?_ | refine WP.ret ?_); simp [hv])))
set_option maxHeartbeats 4000000 in
theorem d46 (xs : List (Int × Int)) (hl : xs.length ≤ 16777216) : DetH Try.prog 46 [.pv (iv xs)] [] [] (.pv (zs (middleL xs))) := by
  cases hv : allB vI xs with
  | false =>
    have hr : middleL xs = [] := by simp [middleL, hv]
    rw [hr]
    refine detP_of Try.func46 rfl (by kernel_rfl) (by simp [Try.f46]) rfl ?_
    intro C hP hN
    simp only [Try.f46] at hN ⊢
    repeat' (first
      | with_reducible refine WP.seq ?_
      | (with_reducible ((first | refine WP.region (hn := []) ?_ | refine xC_intro (d82 _ (big hl)) ?_ | refine WP.cond' ?_); simp -implicitDefEqProofs (maxSteps := 2000000) [hP, hN, hv]))
      | (with_reducible ((first | refine WP.draw (hn := []) (by rw [hP]; kernel_rfl) (by kernel_rfl) ?_ | refine yC_intro (d82 _ (big hl)) ?_); simp -implicitDefEqProofs (maxSteps := 2000000) [hP, hN, hv]; (try refine ⟨by kernel_rfl, ?_⟩)))
      | (with_reducible refine xB_split (by simp [hv]) (fun hgd => ?_) (fun hgd => ?_) <;> first | (exfalso; simp at hgd; done) | (exfalso; simp at hgd; omega) | simp -implicitDefEqProofs (maxSteps := 2000000) [hP, hN, hv])
      | (with_reducible refine yB_split (by simp [hv]) (fun hgd => ?_) (fun hgd => ?_) <;> first | (exfalso; simp at hgd; done) | (exfalso; simp at hgd; omega) | (simp -implicitDefEqProofs (maxSteps := 2000000) [hP, hN, hv] <;> (try refine ⟨by kernel_rfl, ?_⟩)))
      | with_reducible refine xTwo_intro ?_ ?_
      | (with_reducible refine xCond_split (fun hcd => ?_) (fun hcd => ?_) <;> (try (exfalso; clear hP hN; simp_all; done)) <;> (try (exfalso; simp at *; omega)))
      | with_reducible refine WP.block ?_
      | (with_reducible ((first | refine WP.skip ?_ | refine WP.exit ?_ | refine WP.ret ?_); simp [hv])))
  | true =>
    have hr : middleL xs = xs.map midI := by simp [middleL, hv]
    rw [hr]
    refine detP_of Try.func46 rfl (by kernel_rfl) (by simp [Try.f46]) rfl ?_
    intro C hP hN
    simp only [Try.f46] at hN ⊢
    repeat' (first
      | with_reducible refine WP.seq ?_
      | (with_reducible ((first | refine WP.region (hn := [3]) ?_ | refine xC_intro (d82 _ (big hl)) ?_ | refine WP.cond' ?_); simp -implicitDefEqProofs (maxSteps := 2000000) [hP, hN, hv]))
      | (with_reducible ((first | refine WP.draw (hn := [3]) (by rw [hP]; kernel_rfl) (by kernel_rfl) ?_ | refine yC_intro (d82 _ (big hl)) ?_); simp -implicitDefEqProofs (maxSteps := 2000000) [hP, hN, hv]; (try refine ⟨by kernel_rfl, ?_⟩)))
      | (with_reducible refine xB_split (by simp [hv]) (fun hgd => ?_) (fun hgd => ?_) <;> first | (exfalso; simp at hgd; done) | (exfalso; simp at hgd; omega) | simp -implicitDefEqProofs (maxSteps := 2000000) [hP, hN, hv])
      | (with_reducible refine yB_split (by simp [hv]) (fun hgd => ?_) (fun hgd => ?_) <;> first | (exfalso; simp at hgd; done) | (exfalso; simp at hgd; omega) | (simp -implicitDefEqProofs (maxSteps := 2000000) [hP, hN, hv] <;> (try refine ⟨by kernel_rfl, ?_⟩)))
      | with_reducible refine xTwo_intro ?_ ?_
      | (with_reducible refine xCond_split (fun hcd => ?_) (fun hcd => ?_) <;> (try (exfalso; clear hP hN; simp_all; done)) <;> (try (exfalso; simp at *; omega)))
      | with_reducible refine WP.block ?_
      | (with_reducible ((first | refine WP.skip ?_ | refine WP.exit ?_ | refine WP.ret ?_); simp [hv])))
    refine WP.loopN [] xs.length (fun i st => st.t 0 = .pv (iv xs) ∧ st.t 4 = .pv (Z i) ∧ st.t 3 = .arr 3 i ∧ st.h 3 = some (.row 2 1 ((xs.map fun x => Z (midI x)).take i) 0)) (by simp) ?_
    rintro i st hi ⟨g0, g4, g3, hb⟩
    by_cases hlt : i < xs.length
    · have hw := wr_succ hlt (big hl)
      have hz : min i xs.length = i := by omega
      have hs := take_map_step (f := fun x => Z (midI x)) hlt
      repeat' (first
        | with_reducible refine WP.seq ?_
        | (with_reducible ((first | refine WP.region (hn := []) ?_ | refine xC_intro (d105 _) ?_ | refine WP.cond' ?_); simp -implicitDefEqProofs (maxSteps := 2000000) [hP, hN, g0, g4, g3, hb, hlt, hw, hz, hs, show (i + 1) * 8 ≤ 140737488355328 by omega, show i + 1 ≤ 9223372036854775807 by omega]))
        | (with_reducible ((first | refine WP.draw (hn := []) (by rw [hP]; kernel_rfl) (by kernel_rfl) ?_ | refine yC_intro (d105 _) ?_); simp -implicitDefEqProofs (maxSteps := 2000000) [hP, hN, g0, g4, g3, hb, hlt, hw, hz, hs, show (i + 1) * 8 ≤ 140737488355328 by omega, show i + 1 ≤ 9223372036854775807 by omega]; (try refine ⟨by kernel_rfl, ?_⟩)))
        | (with_reducible refine xB_split (by simp [g0, g4, g3, hb, hlt, hw, hz, hs, show (i + 1) * 8 ≤ 140737488355328 by omega, show i + 1 ≤ 9223372036854775807 by omega]) (fun hgd => ?_) (fun hgd => ?_) <;> first | (exfalso; simp at hgd; done) | (exfalso; simp at hgd; omega) | simp -implicitDefEqProofs (maxSteps := 2000000) [hP, hN, g0, g4, g3, hb, hlt, hw, hz, hs, show (i + 1) * 8 ≤ 140737488355328 by omega, show i + 1 ≤ 9223372036854775807 by omega])
        | (with_reducible refine yB_split (by simp [g0, g4, g3, hb, hlt, hw, hz, hs, show (i + 1) * 8 ≤ 140737488355328 by omega, show i + 1 ≤ 9223372036854775807 by omega]) (fun hgd => ?_) (fun hgd => ?_) <;> first | (exfalso; simp at hgd; done) | (exfalso; simp at hgd; omega) | (simp -implicitDefEqProofs (maxSteps := 2000000) [hP, hN, g0, g4, g3, hb, hlt, hw, hz, hs, show (i + 1) * 8 ≤ 140737488355328 by omega, show i + 1 ≤ 9223372036854775807 by omega] <;> (try refine ⟨by kernel_rfl, ?_⟩)))
        | with_reducible refine xTwo_intro ?_ ?_
        | (with_reducible refine xCond_split (fun hcd => ?_) (fun hcd => ?_) <;> (try (exfalso; clear hP hN; simp_all; done)) <;> (try (exfalso; simp at *; omega)))
        | with_reducible refine WP.block ?_
        | (with_reducible ((first | refine WP.skip ?_ | refine WP.exit ?_ | refine WP.ret ?_); simp [g0, g4, g3, hb, hlt, hw, hz, hs, show (i + 1) * 8 ≤ 140737488355328 by omega, show i + 1 ≤ 9223372036854775807 by omega])))
    · have hz : min i xs.length = i := by omega
      repeat' (first
        | with_reducible refine WP.seq ?_
        | (with_reducible ((first | refine WP.region (hn := []) ?_ | refine WP.cond' ?_); simp -implicitDefEqProofs (maxSteps := 2000000) [hP, hN, g0, g4, g3, hb, hlt, hz]))
        | (with_reducible ((first | refine WP.draw (hn := []) (by rw [hP]; kernel_rfl) (by kernel_rfl) ?_); simp -implicitDefEqProofs (maxSteps := 2000000) [hP, hN, g0, g4, g3, hb, hlt, hz]; (try refine ⟨by kernel_rfl, ?_⟩)))
        | (with_reducible refine xB_split (by simp [g0, g4, g3, hb, hlt, hz]) (fun hgd => ?_) (fun hgd => ?_) <;> first | (exfalso; simp at hgd; done) | (exfalso; simp at hgd; omega) | simp -implicitDefEqProofs (maxSteps := 2000000) [hP, hN, g0, g4, g3, hb, hlt, hz])
        | (with_reducible refine yB_split (by simp [g0, g4, g3, hb, hlt, hz]) (fun hgd => ?_) (fun hgd => ?_) <;> first | (exfalso; simp at hgd; done) | (exfalso; simp at hgd; omega) | (simp -implicitDefEqProofs (maxSteps := 2000000) [hP, hN, g0, g4, g3, hb, hlt, hz] <;> (try refine ⟨by kernel_rfl, ?_⟩)))
        | with_reducible refine xTwo_intro ?_ ?_
        | (with_reducible refine xCond_split (fun hcd => ?_) (fun hcd => ?_) <;> (try (exfalso; clear hP hN; simp_all; done)) <;> (try (exfalso; simp at *; omega)))
        | with_reducible refine WP.block ?_
        | (with_reducible ((first | refine WP.skip ?_ | refine WP.exit ?_ | refine WP.ret ?_); simp [g0, g4, g3, hb, hlt, hz])))
      exact take_done (by simp) hlt
theorem clamp_eq {x : Int × Int} (h : validB x.1 x.2 = true) (y : Int) : max x.1 (min y x.2) = clampI x y := by
  have := valid_range h
  unfold clampI; omega
set_option maxHeartbeats 4000000 in
theorem d45 (xs : List (Int × Int)) (ys : List Int) (hl : xs.length ≤ 16777216) : DetH Try.prog 45 [.pv (iv xs), .pv (zs ys)] [] [] (.pv (zs (clampL xs ys))) := by
  cases hv : allB vI xs with
  | false =>
    have hr : clampL xs ys = [] := by simp [clampL, hv]
    rw [hr]
    refine detP_of Try.func45 rfl (by kernel_rfl) (by simp [Try.f45]) rfl ?_
    intro C hP hN
    simp only [Try.f45] at hN ⊢
    repeat' (first
      | with_reducible refine WP.seq ?_
      | (with_reducible ((first | refine WP.region (hn := []) ?_ | refine xC_intro (d82 _ (big hl)) ?_ | refine WP.cond' ?_); simp -implicitDefEqProofs (maxSteps := 2000000) [hP, hN, hv]))
      | (with_reducible ((first | refine WP.draw (hn := []) (by rw [hP]; kernel_rfl) (by kernel_rfl) ?_ | refine yC_intro (d82 _ (big hl)) ?_); simp -implicitDefEqProofs (maxSteps := 2000000) [hP, hN, hv]; (try refine ⟨by kernel_rfl, ?_⟩)))
      | (with_reducible refine xB_split (by simp [hv]) (fun hgd => ?_) (fun hgd => ?_) <;> first | (exfalso; simp at hgd; done) | (exfalso; simp at hgd; omega) | simp -implicitDefEqProofs (maxSteps := 2000000) [hP, hN, hv])
      | (with_reducible refine yB_split (by simp [hv]) (fun hgd => ?_) (fun hgd => ?_) <;> first | (exfalso; simp at hgd; done) | (exfalso; simp at hgd; omega) | (simp -implicitDefEqProofs (maxSteps := 2000000) [hP, hN, hv] <;> (try refine ⟨by kernel_rfl, ?_⟩)))
      | with_reducible refine xTwo_intro ?_ ?_
      | (with_reducible refine xCond_split (fun hcd => ?_) (fun hcd => ?_) <;> (try (exfalso; clear hP hN; simp_all; done)) <;> (try (exfalso; simp at *; omega)))
      | with_reducible refine WP.block ?_
      | (with_reducible ((first | refine WP.skip ?_ | refine WP.exit ?_ | refine WP.ret ?_); simp [hv])))
  | true =>
    by_cases he : xs.length = ys.length
    · have he' : ((xs.length : Int) != ys.length) = false := by simp [he]
      have hr : clampL xs ys = List.zipWith clampI xs ys := by simp [clampL, hv, he]
      rw [hr]
      refine detP_of Try.func45 rfl (by kernel_rfl) (by simp [Try.f45]) rfl ?_
      intro C hP hN
      simp only [Try.f45] at hN ⊢
      repeat' (first
        | with_reducible refine WP.seq ?_
        | (with_reducible ((first | refine WP.region (hn := [5]) ?_ | refine xC_intro (d82 _ (big hl)) ?_ | refine WP.cond' ?_); simp -implicitDefEqProofs (maxSteps := 2000000) [hP, hN, hv, he']))
        | (with_reducible ((first | refine WP.draw (hn := [5]) (by rw [hP]; kernel_rfl) (by kernel_rfl) ?_ | refine yC_intro (d82 _ (big hl)) ?_); simp -implicitDefEqProofs (maxSteps := 2000000) [hP, hN, hv, he']; (try refine ⟨by kernel_rfl, ?_⟩)))
        | (with_reducible refine xB_split (by simp [hv, he']) (fun hgd => ?_) (fun hgd => ?_) <;> first | (exfalso; simp at hgd; done) | (exfalso; simp at hgd; omega) | simp -implicitDefEqProofs (maxSteps := 2000000) [hP, hN, hv, he'])
        | (with_reducible refine yB_split (by simp [hv, he']) (fun hgd => ?_) (fun hgd => ?_) <;> first | (exfalso; simp at hgd; done) | (exfalso; simp at hgd; omega) | (simp -implicitDefEqProofs (maxSteps := 2000000) [hP, hN, hv, he'] <;> (try refine ⟨by kernel_rfl, ?_⟩)))
        | with_reducible refine xTwo_intro ?_ ?_
        | (with_reducible refine xCond_split (fun hcd => ?_) (fun hcd => ?_) <;> (try (exfalso; clear hP hN; simp_all; done)) <;> (try (exfalso; simp at *; omega)))
        | with_reducible refine WP.block ?_
        | (with_reducible ((first | refine WP.skip ?_ | refine WP.exit ?_ | refine WP.ret ?_); simp [hv, he'])))
      refine WP.loopN [] xs.length (fun i st => st.t 0 = .pv (iv xs) ∧ st.t 1 = .pv (zs ys) ∧ st.t 6 = .pv (Z i) ∧ st.t 5 = .arr 5 i ∧ st.h 5 = some (.row 2 1 ((List.zipWith (fun x y => Z (clampI x y)) xs ys).take i) 0)) (by simp) ?_
      rintro i st hi ⟨g0, g1, g6, g5, hb⟩
      by_cases hlt : i < xs.length
      · have hw := wr_succ hlt (big hl)
        have hlt' : i < ys.length := by omega
        have hz : min i (min xs.length ys.length) = i := by omega
        have hs := take_zip_step (f := fun x y => Z (clampI x y)) hlt hlt'
        have hc := clamp_eq (allB_iff.1 hv _ (List.getElem_mem hlt)) ys[i]
        repeat' (first
          | with_reducible refine WP.seq ?_
          | (with_reducible ((first | refine WP.region (hn := []) ?_ | refine WP.cond' ?_); simp -implicitDefEqProofs (maxSteps := 2000000) [hP, hN, g0, g1, g6, g5, hb, hlt, hlt', hw, hz, hc, hs, show (i + 1) * 8 ≤ 140737488355328 by omega, show i + 1 ≤ 9223372036854775807 by omega]))
          | (with_reducible ((first | refine WP.draw (hn := []) (by rw [hP]; kernel_rfl) (by kernel_rfl) ?_); simp -implicitDefEqProofs (maxSteps := 2000000) [hP, hN, g0, g1, g6, g5, hb, hlt, hlt', hw, hz, hc, hs, show (i + 1) * 8 ≤ 140737488355328 by omega, show i + 1 ≤ 9223372036854775807 by omega]; (try refine ⟨by kernel_rfl, ?_⟩)))
          | (with_reducible refine xB_split (by simp [g0, g1, g6, g5, hb, hlt, hlt', hw, hz, hc, hs, show (i + 1) * 8 ≤ 140737488355328 by omega, show i + 1 ≤ 9223372036854775807 by omega]) (fun hgd => ?_) (fun hgd => ?_) <;> first | (exfalso; simp at hgd; done) | (exfalso; simp at hgd; omega) | simp -implicitDefEqProofs (maxSteps := 2000000) [hP, hN, g0, g1, g6, g5, hb, hlt, hlt', hw, hz, hc, hs, show (i + 1) * 8 ≤ 140737488355328 by omega, show i + 1 ≤ 9223372036854775807 by omega])
          | (with_reducible refine yB_split (by simp [g0, g1, g6, g5, hb, hlt, hlt', hw, hz, hc, hs, show (i + 1) * 8 ≤ 140737488355328 by omega, show i + 1 ≤ 9223372036854775807 by omega]) (fun hgd => ?_) (fun hgd => ?_) <;> first | (exfalso; simp at hgd; done) | (exfalso; simp at hgd; omega) | (simp -implicitDefEqProofs (maxSteps := 2000000) [hP, hN, g0, g1, g6, g5, hb, hlt, hlt', hw, hz, hc, hs, show (i + 1) * 8 ≤ 140737488355328 by omega, show i + 1 ≤ 9223372036854775807 by omega] <;> (try refine ⟨by kernel_rfl, ?_⟩)))
          | with_reducible refine xTwo_intro ?_ ?_
          | (with_reducible refine xCond_split (fun hcd => ?_) (fun hcd => ?_) <;> (try (exfalso; clear hP hN; simp_all; done)) <;> (try (exfalso; simp at *; omega)))
          | with_reducible refine WP.block ?_
          | (with_reducible ((first | refine WP.skip ?_ | refine WP.exit ?_ | refine WP.ret ?_); simp [g0, g1, g6, g5, hb, hlt, hlt', hw, hz, hc, hs, show (i + 1) * 8 ≤ 140737488355328 by omega, show i + 1 ≤ 9223372036854775807 by omega])))
      · have hz : min i (min xs.length ys.length) = i := by omega
        have hlt' : ¬ i < ys.length := by omega
        repeat' (first
          | with_reducible refine WP.seq ?_
          | (with_reducible ((first | refine WP.region (hn := []) ?_ | refine WP.cond' ?_); simp -implicitDefEqProofs (maxSteps := 2000000) [hP, hN, g0, g1, g6, g5, hb, hlt, hlt', hz]))
          | (with_reducible ((first | refine WP.draw (hn := []) (by rw [hP]; kernel_rfl) (by kernel_rfl) ?_); simp -implicitDefEqProofs (maxSteps := 2000000) [hP, hN, g0, g1, g6, g5, hb, hlt, hlt', hz]; (try refine ⟨by kernel_rfl, ?_⟩)))
          | (with_reducible refine xB_split (by simp [g0, g1, g6, g5, hb, hlt, hlt', hz]) (fun hgd => ?_) (fun hgd => ?_) <;> first | (exfalso; simp at hgd; done) | (exfalso; simp at hgd; omega) | simp -implicitDefEqProofs (maxSteps := 2000000) [hP, hN, g0, g1, g6, g5, hb, hlt, hlt', hz])
          | (with_reducible refine yB_split (by simp [g0, g1, g6, g5, hb, hlt, hlt', hz]) (fun hgd => ?_) (fun hgd => ?_) <;> first | (exfalso; simp at hgd; done) | (exfalso; simp at hgd; omega) | (simp -implicitDefEqProofs (maxSteps := 2000000) [hP, hN, g0, g1, g6, g5, hb, hlt, hlt', hz] <;> (try refine ⟨by kernel_rfl, ?_⟩)))
          | with_reducible refine xTwo_intro ?_ ?_
          | (with_reducible refine xCond_split (fun hcd => ?_) (fun hcd => ?_) <;> (try (exfalso; clear hP hN; simp_all; done)) <;> (try (exfalso; simp at *; omega)))
          | with_reducible refine WP.block ?_
          | (with_reducible ((first | refine WP.skip ?_ | refine WP.exit ?_ | refine WP.ret ?_); simp [g0, g1, g6, g5, hb, hlt, hlt', hz])))
        exact take_done (by simp; omega) hlt
    · have he' : ((xs.length : Int) != ys.length) = true := by simp; omega
      have hr : clampL xs ys = [] := by simp [clampL, he]
      rw [hr]
      refine detP_of Try.func45 rfl (by kernel_rfl) (by simp [Try.f45]) rfl ?_
      intro C hP hN
      simp only [Try.f45] at hN ⊢
      repeat' (first
        | with_reducible refine WP.seq ?_
        | (with_reducible ((first | refine WP.region (hn := []) ?_ | refine xC_intro (d82 _ (big hl)) ?_ | refine WP.cond' ?_); simp -implicitDefEqProofs (maxSteps := 2000000) [hP, hN, hv, he']))
        | (with_reducible ((first | refine WP.draw (hn := []) (by rw [hP]; kernel_rfl) (by kernel_rfl) ?_ | refine yC_intro (d82 _ (big hl)) ?_); simp -implicitDefEqProofs (maxSteps := 2000000) [hP, hN, hv, he']; (try refine ⟨by kernel_rfl, ?_⟩)))
        | (with_reducible refine xB_split (by simp [hv, he']) (fun hgd => ?_) (fun hgd => ?_) <;> first | (exfalso; simp at hgd; done) | (exfalso; simp at hgd; omega) | simp -implicitDefEqProofs (maxSteps := 2000000) [hP, hN, hv, he'])
        | (with_reducible refine yB_split (by simp [hv, he']) (fun hgd => ?_) (fun hgd => ?_) <;> first | (exfalso; simp at hgd; done) | (exfalso; simp at hgd; omega) | (simp -implicitDefEqProofs (maxSteps := 2000000) [hP, hN, hv, he'] <;> (try refine ⟨by kernel_rfl, ?_⟩)))
        | with_reducible refine xTwo_intro ?_ ?_
        | (with_reducible refine xCond_split (fun hcd => ?_) (fun hcd => ?_) <;> (try (exfalso; clear hP hN; simp_all; done)) <;> (try (exfalso; simp at *; omega)))
        | with_reducible refine WP.block ?_
        | (with_reducible ((first | refine WP.skip ?_ | refine WP.exit ?_ | refine WP.ret ?_); simp [hv, he'])))
def touchL (xs ys : List (Int × Int)) : Bool := allB vI xs && allB vI ys && decide (xs.length = ys.length) && allZ touchI xs ys
set_option maxHeartbeats 4000000 in
theorem d55 (xs ys : List (Int × Int)) (hl : xs.length ≤ 9223372036854775807) (hm : ys.length ≤ 9223372036854775807) : DetH Try.prog 55 [.pv (iv xs), .pv (iv ys)] [] [] (.pv (B (touchL xs ys))) := by
  cases hv : allB vI xs with
  | false =>
    have hr : touchL xs ys = false := by simp [touchL, hv]
    rw [hr]
    refine detP_of Try.func55 rfl (by kernel_rfl) (by simp [Try.f55]) rfl ?_
    intro C hP hN
    simp only [Try.f55] at hN ⊢
    repeat' (first
      | with_reducible refine WP.seq ?_
      | (with_reducible ((first | refine WP.region (hn := []) ?_ | refine xC_intro (d82 _ hl) ?_ | refine xC_intro (d82 _ hm) ?_ | refine WP.cond' ?_); simp -implicitDefEqProofs (maxSteps := 2000000) [hP, hN, hv]))
      | (with_reducible ((first | refine WP.draw (hn := []) (by rw [hP]; kernel_rfl) (by kernel_rfl) ?_ | refine yC_intro (d82 _ hl) ?_ | refine yC_intro (d82 _ hm) ?_); simp -implicitDefEqProofs (maxSteps := 2000000) [hP, hN, hv]; (try refine ⟨by kernel_rfl, ?_⟩)))
      | (with_reducible refine xB_split (by simp [hv]) (fun hgd => ?_) (fun hgd => ?_) <;> first | (exfalso; simp at hgd; done) | (exfalso; simp at hgd; omega) | simp -implicitDefEqProofs (maxSteps := 2000000) [hP, hN, hv])
      | (with_reducible refine yB_split (by simp [hv]) (fun hgd => ?_) (fun hgd => ?_) <;> first | (exfalso; simp at hgd; done) | (exfalso; simp at hgd; omega) | (simp -implicitDefEqProofs (maxSteps := 2000000) [hP, hN, hv] <;> (try refine ⟨by kernel_rfl, ?_⟩)))
      | with_reducible refine xTwo_intro ?_ ?_
      | (with_reducible refine xCond_split (fun hcd => ?_) (fun hcd => ?_) <;> (try (exfalso; clear hP hN; simp_all; done)) <;> (try (exfalso; simp at *; omega)))
      | with_reducible refine WP.block ?_
      | (with_reducible ((first | refine WP.skip ?_ | refine WP.exit ?_ | refine WP.ret ?_); simp [hv])))
  | true =>
    cases hu : allB vI ys with
    | false =>
      have hr : touchL xs ys = false := by simp [touchL, hv, hu]
      rw [hr]
      refine detP_of Try.func55 rfl (by kernel_rfl) (by simp [Try.f55]) rfl ?_
      intro C hP hN
      simp only [Try.f55] at hN ⊢
      repeat' (first
        | with_reducible refine WP.seq ?_
        | (with_reducible ((first | refine WP.region (hn := []) ?_ | refine xC_intro (d82 _ hl) ?_ | refine xC_intro (d82 _ hm) ?_ | refine WP.cond' ?_); simp -implicitDefEqProofs (maxSteps := 2000000) [hP, hN, hv, hu]))
        | (with_reducible ((first | refine WP.draw (hn := []) (by rw [hP]; kernel_rfl) (by kernel_rfl) ?_ | refine yC_intro (d82 _ hl) ?_ | refine yC_intro (d82 _ hm) ?_); simp -implicitDefEqProofs (maxSteps := 2000000) [hP, hN, hv, hu]; (try refine ⟨by kernel_rfl, ?_⟩)))
        | (with_reducible refine xB_split (by simp [hv, hu]) (fun hgd => ?_) (fun hgd => ?_) <;> first | (exfalso; simp at hgd; done) | (exfalso; simp at hgd; omega) | simp -implicitDefEqProofs (maxSteps := 2000000) [hP, hN, hv, hu])
        | (with_reducible refine yB_split (by simp [hv, hu]) (fun hgd => ?_) (fun hgd => ?_) <;> first | (exfalso; simp at hgd; done) | (exfalso; simp at hgd; omega) | (simp -implicitDefEqProofs (maxSteps := 2000000) [hP, hN, hv, hu] <;> (try refine ⟨by kernel_rfl, ?_⟩)))
        | with_reducible refine xTwo_intro ?_ ?_
        | (with_reducible refine xCond_split (fun hcd => ?_) (fun hcd => ?_) <;> (try (exfalso; clear hP hN; simp_all; done)) <;> (try (exfalso; simp at *; omega)))
        | with_reducible refine WP.block ?_
        | (with_reducible ((first | refine WP.skip ?_ | refine WP.exit ?_ | refine WP.ret ?_); simp [hv, hu])))
    | true =>
      by_cases he : xs.length = ys.length
      · have he' : ((xs.length : Int) != ys.length) = false := by simp [he]
        have hr : touchL xs ys = allZ touchI xs ys := by simp [touchL, hv, hu, he]
        rw [hr]
        refine detP_of Try.func55 rfl (by kernel_rfl) (by simp [Try.f55]) rfl ?_
        intro C hP hN
        simp only [Try.f55] at hN ⊢
        repeat' (first
          | with_reducible refine WP.seq ?_
          | (with_reducible ((first | refine WP.region (hn := []) ?_ | refine xC_intro (d82 _ hl) ?_ | refine xC_intro (d82 _ hm) ?_ | refine WP.cond' ?_); simp -implicitDefEqProofs (maxSteps := 2000000) [hP, hN, hv, hu, he']))
          | (with_reducible ((first | refine WP.draw (hn := []) (by rw [hP]; kernel_rfl) (by kernel_rfl) ?_ | refine yC_intro (d82 _ hl) ?_ | refine yC_intro (d82 _ hm) ?_); simp -implicitDefEqProofs (maxSteps := 2000000) [hP, hN, hv, hu, he']; (try refine ⟨by kernel_rfl, ?_⟩)))
          | (with_reducible refine xB_split (by simp [hv, hu, he']) (fun hgd => ?_) (fun hgd => ?_) <;> first | (exfalso; simp at hgd; done) | (exfalso; simp at hgd; omega) | simp -implicitDefEqProofs (maxSteps := 2000000) [hP, hN, hv, hu, he'])
          | (with_reducible refine yB_split (by simp [hv, hu, he']) (fun hgd => ?_) (fun hgd => ?_) <;> first | (exfalso; simp at hgd; done) | (exfalso; simp at hgd; omega) | (simp -implicitDefEqProofs (maxSteps := 2000000) [hP, hN, hv, hu, he'] <;> (try refine ⟨by kernel_rfl, ?_⟩)))
          | with_reducible refine xTwo_intro ?_ ?_
          | (with_reducible refine xCond_split (fun hcd => ?_) (fun hcd => ?_) <;> (try (exfalso; clear hP hN; simp_all; done)) <;> (try (exfalso; simp at *; omega)))
          | with_reducible refine WP.block ?_
          | (with_reducible ((first | refine WP.skip ?_ | refine WP.exit ?_ | refine WP.ret ?_); simp [hv, hu, he'])))
        refine WP.loopN [6] xs.length (fun i st => st.t 0 = .pv (iv xs) ∧ st.t 1 = .pv (iv ys) ∧ st.t 5 = .pv (Z i) ∧ st.h 6 = none ∧ allZt touchI xs ys i = true) (by simp [allZt]) ?_
        rintro i st hi ⟨g0, g1, g5, hb, hq⟩
        by_cases hlt : i < xs.length
        · have hw := wr_succ hlt hl
          have hlt' : i < ys.length := by omega
          have hF : touchI xs[i] ys[i] = false → allZ touchI xs ys = false := allZ_false hlt hlt'
          have hS : touchI xs[i] ys[i] = true → allZt touchI xs ys (i + 1) = true := allZ_step hlt hlt' hq
          have cm := d127 xs[i].1 xs[i].2 ys[i].1 ys[i].2
          cases ht : touchI xs[i] ys[i] with
          | true =>
            have ht' : (validB xs[i].1 xs[i].2 && validB ys[i].1 ys[i].2 && decide (max xs[i].1 ys[i].1 ≤ min xs[i].2 ys[i].2)) = true := ht
            rw [if_pos ht'] at cm
            repeat' (first
              | with_reducible refine WP.seq ?_
              | (with_reducible ((first | refine WP.region (hn := []) ?_ | refine xC_intro (cm) ?_ | refine WP.cond' ?_); simp -implicitDefEqProofs (maxSteps := 2000000) [hP, hN, g0, g1, g5, hb, hlt, hlt', hw]))
              | (with_reducible ((first | refine WP.draw (hn := []) (by rw [hP]; kernel_rfl) (by kernel_rfl) ?_ | refine yC_intro (cm) ?_); simp -implicitDefEqProofs (maxSteps := 2000000) [hP, hN, g0, g1, g5, hb, hlt, hlt', hw]; (try refine ⟨by kernel_rfl, ?_⟩)))
              | (with_reducible refine xB_split (by simp [g0, g1, g5, hb, hlt, hlt', hw]) (fun hgd => ?_) (fun hgd => ?_) <;> first | (exfalso; simp at hgd; done) | (exfalso; simp at hgd; omega) | simp -implicitDefEqProofs (maxSteps := 2000000) [hP, hN, g0, g1, g5, hb, hlt, hlt', hw])
              | (with_reducible refine yB_split (by simp [g0, g1, g5, hb, hlt, hlt', hw]) (fun hgd => ?_) (fun hgd => ?_) <;> first | (exfalso; simp at hgd; done) | (exfalso; simp at hgd; omega) | (simp -implicitDefEqProofs (maxSteps := 2000000) [hP, hN, g0, g1, g5, hb, hlt, hlt', hw] <;> (try refine ⟨by kernel_rfl, ?_⟩)))
              | with_reducible refine xTwo_intro ?_ ?_
              | (with_reducible refine xCond_split (fun hcd => ?_) (fun hcd => ?_) <;> (try (exfalso; clear hP hN; simp_all; done)) <;> (try (exfalso; simp at *; omega)))
              | with_reducible refine WP.block ?_
              | (with_reducible ((first | refine WP.skip ?_ | refine WP.exit ?_ | refine WP.ret ?_); simp [g0, g1, g5, hb, hlt, hlt', hw])))
            all_goals simpa using hS ht
          | false =>
            have ht' : (validB xs[i].1 xs[i].2 && validB ys[i].1 ys[i].2 && decide (max xs[i].1 ys[i].1 ≤ min xs[i].2 ys[i].2)) = false := ht
            rw [if_neg (by simp [ht'])] at cm
            repeat' (first
              | with_reducible refine WP.seq ?_
              | (with_reducible ((first | refine WP.region (hn := []) ?_ | refine xC_intro (cm) ?_ | refine WP.cond' ?_); simp -implicitDefEqProofs (maxSteps := 2000000) [hP, hN, g0, g1, g5, hb, hlt, hlt', hw]))
              | (with_reducible ((first | refine WP.draw (hn := []) (by rw [hP]; kernel_rfl) (by kernel_rfl) ?_ | refine yC_intro (cm) ?_); simp -implicitDefEqProofs (maxSteps := 2000000) [hP, hN, g0, g1, g5, hb, hlt, hlt', hw]; (try refine ⟨by kernel_rfl, ?_⟩)))
              | (with_reducible refine xB_split (by simp [g0, g1, g5, hb, hlt, hlt', hw]) (fun hgd => ?_) (fun hgd => ?_) <;> first | (exfalso; simp at hgd; done) | (exfalso; simp at hgd; omega) | simp -implicitDefEqProofs (maxSteps := 2000000) [hP, hN, g0, g1, g5, hb, hlt, hlt', hw])
              | (with_reducible refine yB_split (by simp [g0, g1, g5, hb, hlt, hlt', hw]) (fun hgd => ?_) (fun hgd => ?_) <;> first | (exfalso; simp at hgd; done) | (exfalso; simp at hgd; omega) | (simp -implicitDefEqProofs (maxSteps := 2000000) [hP, hN, g0, g1, g5, hb, hlt, hlt', hw] <;> (try refine ⟨by kernel_rfl, ?_⟩)))
              | with_reducible refine xTwo_intro ?_ ?_
              | (with_reducible refine xCond_split (fun hcd => ?_) (fun hcd => ?_) <;> (try (exfalso; clear hP hN; simp_all; done)) <;> (try (exfalso; simp at *; omega)))
              | with_reducible refine WP.block ?_
              | (with_reducible ((first | refine WP.skip ?_ | refine WP.exit ?_ | refine WP.ret ?_); simp [g0, g1, g5, hb, hlt, hlt', hw])))
            all_goals simp [hF ht]
        · have hlt' : ¬ i < ys.length := by omega
          repeat' (first
            | with_reducible refine WP.seq ?_
            | (with_reducible ((first | refine WP.region (hn := []) ?_ | refine WP.cond' ?_); simp -implicitDefEqProofs (maxSteps := 2000000) [hP, hN, g0, g1, g5, hb, hlt]))
            | (with_reducible ((first | refine WP.draw (hn := []) (by rw [hP]; kernel_rfl) (by kernel_rfl) ?_); simp -implicitDefEqProofs (maxSteps := 2000000) [hP, hN, g0, g1, g5, hb, hlt]; (try refine ⟨by kernel_rfl, ?_⟩)))
            | (with_reducible refine xB_split (by simp [g0, g1, g5, hb, hlt]) (fun hgd => ?_) (fun hgd => ?_) <;> first | (exfalso; simp at hgd; done) | (exfalso; simp at hgd; omega) | simp -implicitDefEqProofs (maxSteps := 2000000) [hP, hN, g0, g1, g5, hb, hlt])
            | (with_reducible refine yB_split (by simp [g0, g1, g5, hb, hlt]) (fun hgd => ?_) (fun hgd => ?_) <;> first | (exfalso; simp at hgd; done) | (exfalso; simp at hgd; omega) | (simp -implicitDefEqProofs (maxSteps := 2000000) [hP, hN, g0, g1, g5, hb, hlt] <;> (try refine ⟨by kernel_rfl, ?_⟩)))
            | with_reducible refine xTwo_intro ?_ ?_
            | (with_reducible refine xCond_split (fun hcd => ?_) (fun hcd => ?_) <;> (try (exfalso; clear hP hN; simp_all; done)) <;> (try (exfalso; simp at *; omega)))
            | with_reducible refine WP.block ?_
            | (with_reducible ((first | refine WP.skip ?_ | refine WP.exit ?_ | refine WP.ret ?_); simp [g0, g1, g5, hb, hlt])))
          all_goals simp [allZ_done hlt hq]
      · have he' : ((xs.length : Int) != ys.length) = true := by simp; omega
        have hr : touchL xs ys = false := by simp [touchL, he]
        rw [hr]
        refine detP_of Try.func55 rfl (by kernel_rfl) (by simp [Try.f55]) rfl ?_
        intro C hP hN
        simp only [Try.f55] at hN ⊢
        repeat' (first
          | with_reducible refine WP.seq ?_
          | (with_reducible ((first | refine WP.region (hn := []) ?_ | refine xC_intro (d82 _ hl) ?_ | refine xC_intro (d82 _ hm) ?_ | refine WP.cond' ?_); simp -implicitDefEqProofs (maxSteps := 2000000) [hP, hN, hv, hu, he']))
          | (with_reducible ((first | refine WP.draw (hn := []) (by rw [hP]; kernel_rfl) (by kernel_rfl) ?_ | refine yC_intro (d82 _ hl) ?_ | refine yC_intro (d82 _ hm) ?_); simp -implicitDefEqProofs (maxSteps := 2000000) [hP, hN, hv, hu, he']; (try refine ⟨by kernel_rfl, ?_⟩)))
          | (with_reducible refine xB_split (by simp [hv, hu, he']) (fun hgd => ?_) (fun hgd => ?_) <;> first | (exfalso; simp at hgd; done) | (exfalso; simp at hgd; omega) | simp -implicitDefEqProofs (maxSteps := 2000000) [hP, hN, hv, hu, he'])
          | (with_reducible refine yB_split (by simp [hv, hu, he']) (fun hgd => ?_) (fun hgd => ?_) <;> first | (exfalso; simp at hgd; done) | (exfalso; simp at hgd; omega) | (simp -implicitDefEqProofs (maxSteps := 2000000) [hP, hN, hv, hu, he'] <;> (try refine ⟨by kernel_rfl, ?_⟩)))
          | with_reducible refine xTwo_intro ?_ ?_
          | (with_reducible refine xCond_split (fun hcd => ?_) (fun hcd => ?_) <;> (try (exfalso; clear hP hN; simp_all; done)) <;> (try (exfalso; simp at *; omega)))
          | with_reducible refine WP.block ?_
          | (with_reducible ((first | refine WP.skip ?_ | refine WP.exit ?_ | refine WP.ret ?_); simp [hv, hu, he'])))
end Go.Ab

/- ConfigBoxes and ConfigLists: contracts and walks. -/
namespace Go.Ab
open Go.Proofs
theorem touchL_eq (xs ys : List (Int × Int)) : touchL xs ys = touchC xs ys := by
  unfold touchL touchC
  by_cases he : xs.length = ys.length
  · cases hz : allZ touchI xs ys with
    | false => simp
    | true =>
      rw [allZ_iff] at hz
      have v1 : allB vI xs = true := by
        rw [allB_iff]; intro x hx
        obtain ⟨i, hi, rfl⟩ := List.mem_iff_getElem.1 hx
        have := hz i hi (by omega)
        simp only [touchI, Bool.and_eq_true] at this; exact this.1.1
      have v2 : allB vI ys = true := by
        rw [allB_iff]; intro x hx
        obtain ⟨i, hi, rfl⟩ := List.mem_iff_getElem.1 hx
        have := hz i (by omega) hi
        simp only [touchI, Bool.and_eq_true] at this; exact this.1.2
      simp [v1, v2, he]
  · simp [he]
theorem withinL_eq (xs ys : List (Int × Int)) : withinL xs ys = withinC xs ys := by
  unfold withinL withinC
  by_cases he : xs.length = ys.length
  · cases hz : allZ withinI xs ys with
    | false => simp
    | true =>
      rw [allZ_iff] at hz
      have v1 : allB vI xs = true := by
        rw [allB_iff]; intro x hx
        obtain ⟨i, hi, rfl⟩ := List.mem_iff_getElem.1 hx
        have := hz i hi (by omega)
        simp only [withinI, Bool.and_eq_true] at this; exact this.1.1.1
      have v2 : allB vI ys = true := by
        rw [allB_iff]; intro x hx
        obtain ⟨i, hi, rfl⟩ := List.mem_iff_getElem.1 hx
        have := hz i (by omega) hi
        simp only [withinI, Bool.and_eq_true] at this; exact this.1.1.2
      simp [v1, v2, he]
  · simp [he]
theorem hasL_eq (xs : List (Int × Int)) (ys : List Int) : hasL xs ys = hasC xs ys := by
  unfold hasL hasC
  by_cases he : xs.length = ys.length
  · cases hz : allZ hasI xs ys with
    | false => simp
    | true =>
      rw [allZ_iff] at hz
      have v1 : allB vI xs = true := by
        rw [allB_iff]; intro x hx
        obtain ⟨i, hi, rfl⟩ := List.mem_iff_getElem.1 hx
        have := hz i hi (by omega)
        simp only [hasI, Bool.and_eq_true] at this; exact this.1.1
      simp [v1, he]
  · simp [he]
theorem hvF (xs : List (Int × Int)) (j : Int) (hl : xs.length ≤ 16777216) (hv : allB vI xs = false) : DetH Try.prog 119 [.pv (iv xs), .pv (Z j)] [] [] (.pv (.tup [iv [], iv [], B false])) := by
  refine detP_of Try.func119 rfl (by kernel_rfl) (by simp [Try.f119]) rfl ?_
  intro C hP hN
  simp only [Try.f119] at hN ⊢
  repeat' (first
    | with_reducible refine WP.seq ?_
    | (with_reducible ((first | refine WP.region (hn := []) ?_ | refine xC_intro (d82 _ (big hl)) ?_ | refine WP.cond' ?_); simp -implicitDefEqProofs (maxSteps := 2000000) [hP, hN, hv]))
    | (with_reducible ((first | refine WP.draw (hn := []) (by rw [hP]; kernel_rfl) (by kernel_rfl) ?_ | refine yC_intro (d82 _ (big hl)) ?_); simp -implicitDefEqProofs (maxSteps := 2000000) [hP, hN, hv]; (try refine ⟨by kernel_rfl, ?_⟩)))
    | (with_reducible refine xB_split (by simp [hv]) (fun hgd => ?_) (fun hgd => ?_) <;> first | (exfalso; simp at hgd; done) | (exfalso; simp at hgd; omega) | simp -implicitDefEqProofs (maxSteps := 2000000) [hP, hN, hv])
    | (with_reducible refine yB_split (by simp [hv]) (fun hgd => ?_) (fun hgd => ?_) <;> first | (exfalso; simp at hgd; done) | (exfalso; simp at hgd; omega) | (simp -implicitDefEqProofs (maxSteps := 2000000) [hP, hN, hv] <;> (try refine ⟨by kernel_rfl, ?_⟩)))
    | with_reducible refine xTwo_intro ?_ ?_
    | (with_reducible refine xCond_split (fun hcd => ?_) (fun hcd => ?_) <;> (try (exfalso; clear hP hN; simp_all; done)) <;> (try (exfalso; simp at *; omega)))
    | with_reducible refine WP.block ?_
    | (with_reducible ((first | refine WP.skip ?_ | refine WP.exit ?_ | refine WP.ret ?_); simp [hv])))
theorem hvN (xs : List (Int × Int)) (j : Int) (hl : xs.length ≤ 16777216) (hv : allB vI xs = true) (hj : j < 0) : DetH Try.prog 119 [.pv (iv xs), .pv (Z j)] [] [] (.pv (.tup [iv [], iv [], B false])) := by
  refine detP_of Try.func119 rfl (by kernel_rfl) (by simp [Try.f119]) rfl ?_
  intro C hP hN
  simp only [Try.f119] at hN ⊢
  repeat' (first
    | with_reducible refine WP.seq ?_
    | (with_reducible ((first | refine WP.region (hn := []) ?_ | refine xC_intro (d82 _ (big hl)) ?_ | refine WP.cond' ?_); simp -implicitDefEqProofs (maxSteps := 2000000) [hP, hN, hv, hj]))
    | (with_reducible ((first | refine WP.draw (hn := []) (by rw [hP]; kernel_rfl) (by kernel_rfl) ?_ | refine yC_intro (d82 _ (big hl)) ?_); simp -implicitDefEqProofs (maxSteps := 2000000) [hP, hN, hv, hj]; (try refine ⟨by kernel_rfl, ?_⟩)))
    | (with_reducible refine xB_split (by simp [hv, hj]) (fun hgd => ?_) (fun hgd => ?_) <;> first | (exfalso; simp at hgd; done) | (exfalso; simp at hgd; omega) | simp -implicitDefEqProofs (maxSteps := 2000000) [hP, hN, hv, hj])
    | (with_reducible refine yB_split (by simp [hv, hj]) (fun hgd => ?_) (fun hgd => ?_) <;> first | (exfalso; simp at hgd; done) | (exfalso; simp at hgd; omega) | (simp -implicitDefEqProofs (maxSteps := 2000000) [hP, hN, hv, hj] <;> (try refine ⟨by kernel_rfl, ?_⟩)))
    | with_reducible refine xTwo_intro ?_ ?_
    | (with_reducible refine xCond_split (fun hcd => ?_) (fun hcd => ?_) <;> (try (exfalso; clear hP hN; simp_all; done)) <;> (try (exfalso; simp at *; omega)))
    | with_reducible refine WP.block ?_
    | (with_reducible ((first | refine WP.skip ?_ | refine WP.exit ?_ | refine WP.ret ?_); simp [hv, hj])))
theorem hvO (xs : List (Int × Int)) (n : Nat) (hl : xs.length ≤ 16777216) (hv : allB vI xs = true) (hlt : xs.length ≤ n) : DetH Try.prog 119 [.pv (iv xs), .pv (Z n)] [] [] (.pv (.tup [iv [], iv [], B false])) := by
  have hnl : (xs.length : Int) ≤ (n : Int) := by omega
  refine detP_of Try.func119 rfl (by kernel_rfl) (by simp [Try.f119]) rfl ?_
  intro C hP hN
  simp only [Try.f119] at hN ⊢
  repeat' (first
    | with_reducible refine WP.seq ?_
    | (with_reducible ((first | refine WP.region (hn := []) ?_ | refine xC_intro (d82 _ (big hl)) ?_ | refine WP.cond' ?_); simp -implicitDefEqProofs (maxSteps := 2000000) [hP, hN, hv, hnl, hlt]))
    | (with_reducible ((first | refine WP.draw (hn := []) (by rw [hP]; kernel_rfl) (by kernel_rfl) ?_ | refine yC_intro (d82 _ (big hl)) ?_); simp -implicitDefEqProofs (maxSteps := 2000000) [hP, hN, hv, hnl, hlt]; (try refine ⟨by kernel_rfl, ?_⟩)))
    | (with_reducible refine xB_split (by simp [hv, hnl, hlt]) (fun hgd => ?_) (fun hgd => ?_) <;> first | (exfalso; simp at hgd; done) | (exfalso; simp at hgd; omega) | simp -implicitDefEqProofs (maxSteps := 2000000) [hP, hN, hv, hnl, hlt])
    | (with_reducible refine yB_split (by simp [hv, hnl, hlt]) (fun hgd => ?_) (fun hgd => ?_) <;> first | (exfalso; simp at hgd; done) | (exfalso; simp at hgd; omega) | (simp -implicitDefEqProofs (maxSteps := 2000000) [hP, hN, hv, hnl, hlt] <;> (try refine ⟨by kernel_rfl, ?_⟩)))
    | with_reducible refine xTwo_intro ?_ ?_
    | (with_reducible refine xCond_split (fun hcd => ?_) (fun hcd => ?_) <;> (try (exfalso; clear hP hN; simp_all; done)) <;> (try (exfalso; simp at *; omega)))
    | with_reducible refine WP.block ?_
    | (with_reducible ((first | refine WP.skip ?_ | refine WP.exit ?_ | refine WP.ret ?_); simp [hv, hnl, hlt])))
theorem hvS (xs : List (Int × Int)) (n : Nat) (hl : xs.length ≤ 16777216) (hv : allB vI xs = true) (hlt : n < xs.length) (hw : IntKind.i64.wrap (xs[n].2 - xs[n].1) = xs[n].2 - xs[n].1) (hs : xs[n].2 - xs[n].1 < 2) : DetH Try.prog 119 [.pv (iv xs), .pv (Z n)] [] [] (.pv (.tup [iv [], iv [], B false])) := by
  have hnl : ¬ (xs.length : Int) ≤ (n : Int) := by omega
  refine detP_of Try.func119 rfl (by kernel_rfl) (by simp [Try.f119]) rfl ?_
  intro C hP hN
  simp only [Try.f119] at hN ⊢
  repeat' (first
    | with_reducible refine WP.seq ?_
    | (with_reducible ((first | refine WP.region (hn := []) ?_ | refine xC_intro (d82 _ (big hl)) ?_ | refine WP.cond' ?_); simp -implicitDefEqProofs (maxSteps := 2000000) [hP, hN, hv, hlt, hw, hs, hnl, Nat.not_le.2 hlt]))
    | (with_reducible ((first | refine WP.draw (hn := []) (by rw [hP]; kernel_rfl) (by kernel_rfl) ?_ | refine yC_intro (d82 _ (big hl)) ?_); simp -implicitDefEqProofs (maxSteps := 2000000) [hP, hN, hv, hlt, hw, hs, hnl, Nat.not_le.2 hlt]; (try refine ⟨by kernel_rfl, ?_⟩)))
    | (with_reducible refine xB_split (by simp [hv, hlt, hw, hs, hnl, Nat.not_le.2 hlt]) (fun hgd => ?_) (fun hgd => ?_) <;> first | (exfalso; simp at hgd; done) | (exfalso; simp at hgd; omega) | simp -implicitDefEqProofs (maxSteps := 2000000) [hP, hN, hv, hlt, hw, hs, hnl, Nat.not_le.2 hlt])
    | (with_reducible refine yB_split (by simp [hv, hlt, hw, hs, hnl, Nat.not_le.2 hlt]) (fun hgd => ?_) (fun hgd => ?_) <;> first | (exfalso; simp at hgd; done) | (exfalso; simp at hgd; omega) | (simp -implicitDefEqProofs (maxSteps := 2000000) [hP, hN, hv, hlt, hw, hs, hnl, Nat.not_le.2 hlt] <;> (try refine ⟨by kernel_rfl, ?_⟩)))
    | with_reducible refine xTwo_intro ?_ ?_
    | (with_reducible refine xCond_split (fun hcd => ?_) (fun hcd => ?_) <;> (try (exfalso; clear hP hN; simp_all; done)) <;> (try (exfalso; simp at *; omega)))
    | with_reducible refine WP.block ?_
    | (with_reducible ((first | refine WP.skip ?_ | refine WP.exit ?_ | refine WP.ret ?_); simp [hv, hlt, hw, hs, hnl, Nat.not_le.2 hlt])))
set_option maxHeartbeats 4000000 in
theorem hvY (xs : List (Int × Int)) (n : Nat) (hl : xs.length ≤ 16777216) (hv : allB vI xs = true) (hlt : n < xs.length) (hw : IntKind.i64.wrap (xs[n].2 - xs[n].1) = xs[n].2 - xs[n].1) (hs : ¬ xs[n].2 - xs[n].1 < 2) : DetH Try.prog 119 [.pv (iv xs), .pv (Z n)] [] [] (.pv (.tup [iv (xs.set n (xs[n].1, midI xs[n])), iv (xs.set n (midI xs[n], xs[n].2)), B true])) := by
  have hnl : ¬ (xs.length : Int) ≤ (n : Int) := by omega
  generalize hm : midI xs[n] = m
  have cm := d105 xs[n]
  rw [hm] at cm
  refine detP_of Try.func119 rfl (by kernel_rfl) (by simp [Try.f119]) rfl ?_
  intro C hP hN
  simp only [Try.f119] at hN ⊢
  repeat' (first
    | with_reducible refine WP.seq ?_
    | (with_reducible ((first | refine WP.region (hn := []) ?_ | refine xC_intro (d82 _ (big hl)) ?_ | refine xC_intro (cm) ?_ | refine WP.cond' ?_); simp -implicitDefEqProofs (maxSteps := 2000000) [hP, hN, hv, hlt, hw, hs, hnl, Nat.not_le.2 hlt, show xs.length * 16 ≤ 140737488355328 by omega, show xs.length ≤ 9223372036854775807 by omega]))
    | (with_reducible ((first | refine WP.draw (hn := []) (by rw [hP]; kernel_rfl) (by kernel_rfl) ?_ | refine yC_intro (d82 _ (big hl)) ?_ | refine yC_intro (cm) ?_); simp -implicitDefEqProofs (maxSteps := 2000000) [hP, hN, hv, hlt, hw, hs, hnl, Nat.not_le.2 hlt, show xs.length * 16 ≤ 140737488355328 by omega, show xs.length ≤ 9223372036854775807 by omega]; (try refine ⟨by kernel_rfl, ?_⟩)))
    | (with_reducible refine xB_split (by simp [hv, hlt, hw, hs, hnl, Nat.not_le.2 hlt, show xs.length * 16 ≤ 140737488355328 by omega, show xs.length ≤ 9223372036854775807 by omega]) (fun hgd => ?_) (fun hgd => ?_) <;> first | (exfalso; simp at hgd; done) | (exfalso; simp at hgd; omega) | simp -implicitDefEqProofs (maxSteps := 2000000) [hP, hN, hv, hlt, hw, hs, hnl, Nat.not_le.2 hlt, show xs.length * 16 ≤ 140737488355328 by omega, show xs.length ≤ 9223372036854775807 by omega])
    | (with_reducible refine yB_split (by simp [hv, hlt, hw, hs, hnl, Nat.not_le.2 hlt, show xs.length * 16 ≤ 140737488355328 by omega, show xs.length ≤ 9223372036854775807 by omega]) (fun hgd => ?_) (fun hgd => ?_) <;> first | (exfalso; simp at hgd; done) | (exfalso; simp at hgd; omega) | (simp -implicitDefEqProofs (maxSteps := 2000000) [hP, hN, hv, hlt, hw, hs, hnl, Nat.not_le.2 hlt, show xs.length * 16 ≤ 140737488355328 by omega, show xs.length ≤ 9223372036854775807 by omega] <;> (try refine ⟨by kernel_rfl, ?_⟩)))
    | with_reducible refine xTwo_intro ?_ ?_
    | (with_reducible refine xCond_split (fun hcd => ?_) (fun hcd => ?_) <;> (try (exfalso; clear hP hN; simp_all; done)) <;> (try (exfalso; simp at *; omega)))
    | with_reducible refine WP.block ?_
    | (with_reducible ((first | refine WP.skip ?_ | refine WP.exit ?_ | refine WP.ret ?_); simp [hv, hlt, hw, hs, hnl, Nat.not_le.2 hlt, show xs.length * 16 ≤ 140737488355328 by omega, show xs.length ≤ 9223372036854775807 by omega])))
  all_goals simp [List.map_set]
theorem d119 (xs : List (Int × Int)) (j : Int) (hl : xs.length ≤ 16777216) : DetH Try.prog 119 [.pv (iv xs), .pv (Z j)] [] [] (.pv (.tup [iv (halveA xs j), iv (halveZ xs j), B (halveOk xs j)])) := by
  cases hv : allB vI xs with
  | false =>
    have hr : halveOk xs j = false := by simp [halveOk, hv]
    have hr1 : halveA xs j = [] := by simp [halveA, hr]
    have hr2 : halveZ xs j = [] := by simp [halveZ, hr]
    rw [hr, hr1, hr2]
    exact hvF xs j hl hv
  | true =>
    by_cases hj : 0 ≤ j
    · obtain ⟨n, rfl⟩ := Int.eq_ofNat_of_zero_le hj
      by_cases hlt : n < xs.length
      · have hx := List.getElem?_eq_getElem hlt
        have hvx : validB xs[n].1 xs[n].2 = true := allB_iff.1 hv _ (List.getElem_mem hlt)
        have hb := valid_range hvx
        have hwd : widthI xs[n] = xs[n].2 - xs[n].1 := by
          rw [widthI, hvx]; simp only [if_true]; exact wr_id (by omega) (by omega)
        have hw : IntKind.i64.wrap (xs[n].2 - xs[n].1) = xs[n].2 - xs[n].1 := wr_id (by omega) (by omega)
        by_cases hs : xs[n].2 - xs[n].1 < 2
        · have hr : halveOk xs (n : Int) = false := by simp [halveOk, hv, hx, hwd]; omega
          have hr1 : halveA xs (n : Int) = [] := by simp [halveA, hr]
          have hr2 : halveZ xs (n : Int) = [] := by simp [halveZ, hr]
          rw [hr, hr1, hr2]
          exact hvS xs n hl hv hlt hw hs
        · have hr : halveOk xs (n : Int) = true := by simp [halveOk, hv, hx, hwd]; omega
          have hr1 : halveA xs (n : Int) = xs.set n (xs[n].1, midI xs[n]) := by simp [halveA, hr, hx]
          have hr2 : halveZ xs (n : Int) = xs.set n (midI xs[n], xs[n].2) := by simp [halveZ, hr, hx]
          rw [hr, hr1, hr2]
          exact hvY xs n hl hv hlt hw hs
      · have hx : xs[n]? = none := List.getElem?_eq_none (by omega)
        have hr : halveOk xs (n : Int) = false := by simp [halveOk, hx]
        have hr1 : halveA xs (n : Int) = [] := by simp [halveA, hr]
        have hr2 : halveZ xs (n : Int) = [] := by simp [halveZ, hr]
        rw [hr, hr1, hr2]
        exact hvO xs n hl hv (Nat.not_lt.1 hlt)
    · have hr : halveOk xs j = false := by simp [halveOk, hj]
      have hr1 : halveA xs j = [] := by simp [halveA, hr]
      have hr2 : halveZ xs j = [] := by simp [halveZ, hr]
      rw [hr, hr1, hr2]
      exact hvN xs j hl hv (by omega)
/-- The widest interval so far. -/
def widT (js : List J) (b : List (Int × Int)) : Nat → Int × Int
  | 0 => (-1, 0)
  | i + 1 => match js[i]?, b[i]? with
    | some j, some x => if 2 ≤ widthI x ∧ (widT js b i).2 < wr (j.w * widthI x) then ((i : Int), wr (j.w * widthI x)) else widT js b i
    | _, _ => widT js b i
end Go.Ab
