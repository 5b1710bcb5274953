/- Contracts: motions. -/
import Derived.Test.YtagmnknighofeaaCf2
set_option linter.all false
namespace Go.Ab
open Go.Proofs
theorem upto_set {T L : List PV} {i : Nat} {v : PV} (hlen : L.length = T.length) (h : ∀ j, j < i → L[j]? = T[j]?) (hv : T[i]? = some v) : ∀ j, j < i + 1 → (L.set i v)[j]? = T[j]? := by
  intro j hj
  have hi : i < T.length := (List.getElem?_eq_some_iff.1 hv).1
  by_cases e : j = i
  · subst e; rw [hv, List.getElem?_set_self (by omega)]
  · rw [List.getElem?_set_ne (by omega)]; exact h j (by omega)
theorem upto_all {T L : List PV} {i : Nat} (hlen : L.length = T.length) (h : ∀ j, j < i → L[j]? = T[j]?) (hi : T.length ≤ i) : L = T := by
  apply List.ext_getElem?
  intro j
  by_cases e : j < i
  · exact h j e
  · rw [List.getElem?_eq_none (by omega), List.getElem?_eq_none (by omega)]
theorem at_of_lt {α : Type} {xs : List α} {i : Nat} (h : i < xs.length) : ∃ x, xs[i]? = some x := ⟨_, List.getElem?_eq_getElem h⟩

def pieceI (idx d f t : Int) : Int × Int :=
  let s := wr (idx * wr (t - f)); let e := wr (wr (idx + 1) * wr (t - f))
  (wr (f + (min s e).fdiv (2 ^ d.toNat)), wr (f - (wr (-max s e)).fdiv (2 ^ d.toNat)))
def atI (idx d f t : Int) : Int := wr (f + (wr (idx * wr (t - f))).fdiv (2 ^ d.toNat))
def pieceL (xs ys : List Int) (d i : Int) : List (Int × Int) × Bool := if motionB xs ys d && decide (0 ≤ i) && decide (i < 2 ^ d.toNat) then (List.zipWith (pieceI i d) xs ys, true) else ([], false)
def atL (xs ys : List Int) (d i : Int) : List Int × Bool := if motionB xs ys d && decide (0 ≤ i) && decide (i ≤ 2 ^ d.toNat) then (List.zipWith (atI i d) xs ys, true) else ([], false)
end Go.Ab
