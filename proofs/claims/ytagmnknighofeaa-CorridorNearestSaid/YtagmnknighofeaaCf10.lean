/- Contracts: configurations, motions. -/
import Derived.Test.YtagmnknighofeaaCf9
set_option linter.all false
namespace Go.Ab
open Go.Proofs
theorem nn_le' (l : List Int) (n : Nat) : nn l n ≤ n + 1 := nn_le l n
def cNext (l : List Int) (m : Nat) : Nat := if nx l m 6 = 0 then nn l m else if nx l m 6 = 1 then nn l m else nn l (nn l m)
def cSt (l : List Int) : Nat → Nat
  | 0 => 0
  | i + 1 => cNext l (cSt l i)
theorem cSt_le (l : List Int) (i : Nat) : cSt l i ≤ 2 * i := by
  induction i with
  | zero => simp [cSt]
  | succ i ih =>
    have l1 := nn_le l (cSt l i)
    have l2 := nn_le l (nn l (cSt l i))
    simp only [cSt, cNext]; split
    · omega
    · split <;> omega
def cVal (l : List Int) (m : Nat) (lo hi : Int) : Int := if nx l m 6 = 0 then lo else if nx l m 6 = 1 then hi else wr (lo + nx l (nn l m) (hi - lo + 1))
def cfgL (l : List Int) (js : List J) : List Int := js.mapIdx fun i j => cVal l (cSt l i) j.lo j.hi
def jOk (j : J) : Prop := -1000000 ≤ j.lo ∧ j.lo ≤ j.hi ∧ j.hi ≤ 1000000
theorem cfg_step {l : List Int} {js : List J} {i : Nat} (hlt : i < js.length) : ((cfgL l js).map Z).take i ++ [Z (cVal l (cSt l i) js[i].lo js[i].hi)] = ((cfgL l js).map Z).take (i + 1) := by
  rw [List.take_succ_eq_append_getElem (by simpa [cfgL] using hlt)]; simp [cfgL]
theorem joint_ok (l : List Int) (n i : Nat) : jOk (jointF l n i) ∧ (jointF l n i).lo ≤ 0 ∧ 0 ≤ (jointF l n i).hi := by
  have h1 := nx_range l (jN5 l n i) (k := 3) (by decide) (by decide)
  have h2 := nx_range l (jN5 l n i) (k := 5) (by decide) (by decide)
  have h3 := nx_range l (nn l (jN5 l n i)) (k := 4) (by decide) (by decide)
  have h4 := nx_range l (nn l (nn l (jN5 l n i))) (k := 3) (by decide) (by decide)
  have hlo : -1000000 ≤ jLo l n i ∧ jLo l n i ≤ 0 := by
    unfold jLo
    generalize nx l (jN5 l n i) 3 = a at *
    generalize nx l (jN5 l n i) 5 = b at *
    split
    · omega
    · split
      · simp only [wr, IntKind.wrap_i64]; omega
      · have : b = 0 ∨ b = 1 ∨ b = 2 ∨ b = 3 ∨ b = 4 := by omega
        rcases this with rfl | rfl | rfl | rfl | rfl <;> decide
  have hhi : 0 ≤ jHi l n i ∧ jHi l n i ≤ 1000000 := by
    unfold jHi
    generalize nx l (nn l (jN5 l n i)) 4 = a at *
    generalize nx l (nn l (nn l (jN5 l n i))) 3 = b at *
    split
    · omega
    · split
      · simp only [wr, IntKind.wrap_i64]; omega
      · have ha : ∀ c : Int, 0 ≤ c → c < 4 → 0 ≤ wr ((wr (wr (1 + c) * 65536)).tdiv 8) ∧ wr ((wr (wr (1 + c) * 65536)).tdiv 8) ≤ 32768 := by
          intro c h0 h4
          have : c = 0 ∨ c = 1 ∨ c = 2 ∨ c = 3 := by omega
          rcases this with rfl | rfl | rfl | rfl <;> decide
        have := ha a h3.1 h3.2
        rw [wr_id (n := wr ((wr (wr (1 + a) * 65536)).tdiv 8) + b) (by omega) (by omega)]; omega
  simp only [jOk, jointF]; omega
theorem rJs_ok (l : List Int) (n : Nat) : ∀ j ∈ rJs l n, jOk j := by
  intro j hj
  simp only [rJs, jsF, List.mem_map] at hj
  obtain ⟨i, _, rfl⟩ := hj
  exact (joint_ok l _ i).1
theorem rJs_len (l : List Int) (n : Nat) : (rJs l n).length ≤ 3 ∧ 0 < (rJs l n).length := by
  have hx := nx_range l n (k := 3) (by decide) (by decide)
  rw [rJs, jsF_len, rN]; omega
theorem round_range (x : Int) {k : Int} (hk : 0 < k) (hk' : k < 4611686018427387904) : 0 ≤ roundI x k ∧ roundI x k < k := by
  have := nx_range [x] 0 hk hk'
  simpa [nx] using this
def motD (depth : Int) : Int := roundI depth 20
def motI (depth index : Int) : Int := roundI index (2 ^ (motD depth).toNat)
end Go.Ab
