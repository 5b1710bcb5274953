/- Contracts: made boxes. -/
import Derived.Test.YtagmnknighofeaaCf11
set_option linter.all false
namespace Go.Ab
open Go.Proofs
/-- An array of the caller's own, told by content. -/
theorem detRow_pv {P : Program} {f : FuncId} {args : List Arg} {e sz : Nat} {xs : List PV} (h : DetH P f args [] [] (.row e sz xs)) : DetH P f args [] [] (.pv (.sl xs)) := by
  refine ⟨h.1, h.2.1, fun w M bs vs hM h1 h2 h3 h4 h5 => (h.2.2 w M bs vs hM h1 h2 h3 h4 h5).mono ?_⟩
  rintro en w' ⟨v, rfl, hx, hb, l, hv, hown, hrel⟩
  refine ⟨v, rfl, hx, hb, ?_⟩
  obtain ⟨c1, c2, c3, c4, c5⟩ := hrel
  show Rep w' M (.sl xs) v
  cases hn : l.isNil with
  | true =>
    have hxs := c4 hn
    subst hxs
    rw [hv, Loc.slice, hn]
    exact .sl0 _ _
  | false =>
    obtain ⟨d1, d2, arr, d3, d4, d5⟩ := c5 hn
    rw [hv, Loc.slice, hn]
    refine .sl xs l.b 0 l.cap sz (fun i j => (arr[i * sz + j]?).getD undef) d1 (fun i x hx' => c3 x (List.mem_of_getElem? hx')) ?_ ?_
    · intro i x j p hx' hj
      obtain ⟨u, hu, _⟩ := d5 i x j p hx' hj
      refine ⟨by rw [cell_heap d3, Nat.zero_add, hu]; rfl, fun hm => ?_⟩
      have := hM _ _ hm
      have := hown hn
      omega
    · intro i x j p hx' hj
      obtain ⟨u, hu, hr⟩ := d5 i x j p hx' hj
      rw [hu]
      exact hr.mono (Pres.sub (fun b o h => .inl h))
def bX (l : List Int) (m : Nat) (lo hi : Int) : Int := wr (lo + nx l m (hi - lo + 1))
def bC (l : List Int) (m : Nat) : Int := nx l (nn l m) 5
def bW (l : List Int) (m : Nat) (lo hi : Int) : Int := if bC l m = 0 then hi - lo else if bC l m = 1 then nx l (nn l (nn l m)) 3000 else if bC l m = 2 then nx l (nn l (nn l m)) 3000 else if bC l m = 3 then nx l (nn l (nn l m)) 200 else 0
def bN (l : List Int) (m : Nat) : Nat := if bC l m = 0 then nn l (nn l m) else if bC l m = 1 then nn l (nn l (nn l m)) else if bC l m = 2 then nn l (nn l (nn l m)) else if bC l m = 3 then nn l (nn l (nn l m)) else nn l (nn l m)
def bVal (l : List Int) (m : Nat) (lo hi : Int) : Int × Int := (bX l m lo hi, min hi (wr (bX l m lo hi + bW l m lo hi)))
def bSt (l : List Int) : Nat → Nat
  | 0 => 0
  | i + 1 => bN l (bSt l i)
theorem bSt_le (l : List Int) (i : Nat) : bSt l i ≤ 3 * i := by
  induction i with
  | zero => simp [bSt]
  | succ i ih =>
    have l1 := nn_le l (bSt l i)
    have l2 := nn_le l (nn l (bSt l i))
    have l3 := nn_le l (nn l (nn l (bSt l i)))
    simp only [bSt, bN]
    repeat' split
    all_goals omega
def mkBoxL (l : List Int) (js : List J) : List (Int × Int) := js.mapIdx fun i j => bVal l (bSt l i) j.lo j.hi
theorem mkBox_step {l : List Int} {js : List J} {i : Nat} (hlt : i < js.length) : ((mkBoxL l js).map encI).take i ++ [encI (bVal l (bSt l i) js[i].lo js[i].hi)] = ((mkBoxL l js).map encI).take (i + 1) := by
  rw [List.take_succ_eq_append_getElem (by simpa [mkBoxL] using hlt)]; simp [mkBoxL]
theorem bX_range {l : List Int} {m : Nat} {lo hi : Int} (h1 : -1000000 ≤ lo) (h2 : lo ≤ hi) (h3 : hi ≤ 1000000) : lo ≤ bX l m lo hi ∧ bX l m lo hi ≤ hi := by
  have h := nx_range l m (k := hi - lo + 1) (by omega) (by omega)
  unfold bX; rw [wr_id (by omega) (by omega)]; omega
theorem bW_range {l : List Int} {m : Nat} {lo hi : Int} (h1 : -1000000 ≤ lo) (h2 : lo ≤ hi) (h3 : hi ≤ 1000000) : 0 ≤ bW l m lo hi ∧ bW l m lo hi ≤ 2000000 := by
  have a := nx_range l (nn l (nn l m)) (k := 3000) (by omega) (by omega)
  have b := nx_range l (nn l (nn l m)) (k := 200) (by omega) (by omega)
  unfold bW
  repeat' split
  all_goals omega
theorem bVal_range {l : List Int} {m : Nat} {lo hi : Int} (h1 : -1000000 ≤ lo) (h2 : lo ≤ hi) (h3 : hi ≤ 1000000) : lo ≤ (bVal l m lo hi).1 ∧ (bVal l m lo hi).1 ≤ (bVal l m lo hi).2 ∧ (bVal l m lo hi).2 ≤ hi := by
  have a := bX_range (l := l) (m := m) h1 h2 h3
  have b := bW_range (l := l) (m := m) h1 h2 h3
  unfold bVal; simp only
  rw [wr_id (by omega) (by omega)]; omega
theorem bit1 (a : Int) : bitI .and .i64 a 1 = a % 2 := by
  unfold bitI
  have h1 : (BitVec.ofInt 64 a &&& BitVec.ofInt 64 1).toNat = (a % 2).toNat := by
    rw [BitVec.toNat_and, BitVec.toNat_ofInt, BitVec.toNat_ofInt]
    have e1 : ((1 : Int) % ((2 ^ 64 : Nat) : Int)).toNat = 1 := by decide
    rw [e1, Nat.and_one_is_mod]
    have h0 : 0 ≤ a % ((2 ^ 64 : Nat) : Int) := Int.emod_nonneg _ (by decide)
    have h2 : (a % ((2 ^ 64 : Nat) : Int)) % 2 = a % 2 := Int.emod_emod_of_dvd a (by decide)
    omega
  show IntKind.i64.wrap ((BitVec.ofInt 64 a &&& BitVec.ofInt 64 1).toNat : Int) = _
  rw [h1, IntKind.wrap_i64]
  have := Int.emod_nonneg a (b := 2) (by decide)
  have := Int.emod_lt_of_pos a (b := 2) (by decide)
  omega
def partI (a : Int × Int) (m n : Int) : Int × Int :=
  let w := a.2 - a.1 + 1; let x := a.1 + roundI m w
  if n % 2 = 0 then (x, x) else let y := a.1 + roundI (n / 2) w; (min x y, max x y)
def mwSt (l : List Int) : Nat → Nat
  | 0 => 0
  | i + 1 => nn l (nn l (mwSt l i))
theorem mwSt_le (l : List Int) (i : Nat) : mwSt l i ≤ 2 * i := by
  induction i with
  | zero => simp [mwSt]
  | succ i ih =>
    have l1 := nn_le l (mwSt l i)
    have l2 := nn_le l (nn l (mwSt l i))
    simp only [mwSt]; omega
def mkWithinL (xs : List (Int × Int)) (l : List Int) : List (Int × Int) := xs.mapIdx fun i x => partI x (nx l (mwSt l i) 1073741824) (nx l (nn l (mwSt l i)) 1073741824)
theorem mkWithin_step {l : List Int} {xs : List (Int × Int)} {i : Nat} (hlt : i < xs.length) : ((mkWithinL xs l).map encI).take i ++ [encI (partI xs[i] (nx l (mwSt l i) 1073741824) (nx l (nn l (mwSt l i)) 1073741824))] = ((mkWithinL xs l).map encI).take (i + 1) := by
  rw [List.take_succ_eq_append_getElem (by simpa [mkWithinL] using hlt)]; simp [mkWithinL]
end Go.Ab
