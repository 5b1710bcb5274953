/- Contracts: joints. -/
import Derived.Test.YtgamhginhckcpaaCf7
set_option linter.all false
namespace Go.Ab
open Go.Proofs
structure J where
  name : ByteArray
  kind : Int
  parent : Int
  ox : Int
  oy : Int
  oz : Int
  lo : Int
  hi : Int
  w : Int
  sp : Int
  ac : Int
  tq : Int
abbrev encJ (j : J) : PV := .val (.agg #[.string j.name, .int .i64 j.kind, .int .i64 j.parent, .int .i64 j.ox, .int .i64 j.oy, .int .i64 j.oz, .int .i64 j.lo, .int .i64 j.hi, .int .i64 j.w, .int .i64 j.sp, .int .i64 j.ac, .int .i64 j.tq])
def jN4 (l : List Int) (n : Nat) : Nat := nn l (nn l (nn l (nn l n)))
def jN5 (l : List Int) (n i : Nat) : Nat := if 0 < i then nn l (nn l (jN4 l n)) else jN4 l n
def jKind (l : List Int) (n : Nat) : Int := kindOf (nx l (nn l (nn l n)) 8)
def jLo (l : List Int) (n i : Nat) : Int := if jKind l n = 0 then 0 else if jKind l n = 4 ∨ jKind l n = 5 then wr (wr (-nx l (jN5 l n i) 3) * 65536) else wr ((wr (wr (-nx l (jN5 l n i) 5) * 65536)).tdiv 8)
def jHi (l : List Int) (n i : Nat) : Int := if jKind l n = 0 then 0 else if jKind l n = 4 ∨ jKind l n = 5 then wr (nx l (nn l (jN5 l n i)) 4 * 32768) else wr (wr ((wr (wr (1 + nx l (nn l (jN5 l n i)) 4) * 65536)).tdiv 8) + nx l (nn l (nn l (jN5 l n i))) 3)
def jEnd (l : List Int) (n i : Nat) : Nat := if jKind l n = 0 then jN5 l n i else if jKind l n = 4 ∨ jKind l n = 5 then nn l (nn l (jN5 l n i)) else nn l (nn l (nn l (jN5 l n i)))
def jointF (l : List Int) (n i : Nat) : J where
  name := letB i
  kind := jKind l n
  parent := if nx l (nn l (nn l (nn l n))) 4 = 1 then -1 else wr ((i : Int) - 1)
  ox := if 0 < i then 131072 else 0
  oy := if 0 < i then wr (wr (nx l (jN4 l n) 5 - 2) * 32768) else 0
  oz := if 0 < i then wr (wr (nx l (nn l (jN4 l n)) 3 - 1) * 32768) else 0
  lo := jLo l n i
  hi := jHi l n i
  w := wr (1 + nx l n 4)
  sp := 65536
  ac := wr (65536 + nx l (nn l n) 3)
  tq := 327680
theorem nn_le2 {l : List Int} {n k : Nat} (h : n + 1 ≤ k) : nn l n ≤ k := Nat.le_trans (nn_le l n) h
theorem nn_lt {l : List Int} {n k : Nat} (h : n + 1 < k) : nn l n < k := Nat.lt_of_le_of_lt (nn_le l n) h
set_option maxHeartbeats 4000000 in
theorem d88 (l : List Int) (n i : Nat) (h3 : i < 3) (hn : n < 900000) : DetH Try.prog 88 [.bx 0, .pv (Z i)] [srcP l n] [srcP l (jEnd l n i)] (.pv (encJ (jointF l n i))) := by
  have hx := nx_range l (nn l (nn l n)) (k := 8) (by decide) (by decide)
  have l1 := nn_le l n
  have l2 := nn_le l (nn l n)
  have l3 := nn_le l (nn l (nn l n))
  have l4 := nn_le l (nn l (nn l (nn l n)))
  have l5 := nn_le l (nn l (nn l (nn l (nn l n))))
  have l6 := nn_le l (nn l (nn l (nn l (nn l (nn l n)))))
  have l7 := nn_le l (nn l (nn l (nn l (nn l (nn l (nn l n))))))
  have l8 := nn_le l (nn l (nn l (nn l (nn l (nn l (nn l (nn l n)))))))
  have l9 := nn_le l (nn l (nn l (nn l (nn l (nn l (nn l (nn l (nn l n))))))))
  have hix := kind_at hx.1 hx.2
  refine detH_of Try.func88 rfl (by kernel_rfl) (by simp [Try.f88]) rfl (by intro i j h; rcases i with _ | _ | _ | i <;> simp_all) ?_
  intro C hP hN
  simp only [Try.f88] at hN ⊢
  repeat' (first
    | with_reducible refine WP.seq ?_
    | (with_reducible refine WP.region (hn := []) ?_; simp [hP, hN, srcP, hix, hx.1, hx.2])
    | (with_reducible refine WP.draw (hn := []) (by rw [hP]; kernel_rfl) (by kernel_rfl) ?_; simp [hP, hN, srcP, hix, hx.1, hx.2]; (try refine ⟨by kernel_rfl, ?_⟩))
    | (with_reducible refine xB_split (by simp [srcP, hix, hx.1, hx.2]) (fun hgd => ?_) (fun hgd => ?_) <;> first | (exfalso; simp at hgd; done) | (exfalso; simp at hgd; omega) | simp [hP, hN, srcP, hix, hx.1, hx.2])
    | (with_reducible refine yB_split (by simp [srcP, hix, hx.1, hx.2]) (fun hgd => ?_) (fun hgd => ?_) <;> first | (exfalso; simp at hgd; done) | (exfalso; simp at hgd; omega) | (simp [hP, hN, srcP, hix, hx.1, hx.2] <;> (try refine ⟨by kernel_rfl, ?_⟩)))
    | (with_reducible refine xC_intro (d118 i h3) ?_; simp [hP, hN, srcP, hix, hx.1, hx.2])
    | (with_reducible refine yC_intro (d118 i h3) ?_; simp [hP, hN, srcP, hix, hx.1, hx.2]; (try refine ⟨by kernel_rfl, ?_⟩))
    | (with_reducible refine xC_intro (d50 l _ _ (by decide) (by omega)) ?_; simp [hP, hN, srcP, hix, hx.1, hx.2])
    | (with_reducible refine yC_intro (d50 l _ _ (by decide) (by omega)) ?_; simp [hP, hN, srcP, hix, hx.1, hx.2]; (try refine ⟨by kernel_rfl, ?_⟩))
    | (with_reducible refine xC_intro (d89 l _ _ (by decide) (by decide) (by omega)) ?_; simp [hP, hN, srcP, hix, hx.1, hx.2])
    | (with_reducible refine yC_intro (d89 l _ _ (by decide) (by decide) (by omega)) ?_; simp [hP, hN, srcP, hix, hx.1, hx.2]; (try refine ⟨by kernel_rfl, ?_⟩))
    | with_reducible refine xTwo_intro ?_ ?_
    | (with_reducible refine WP.cond' ?_; simp [hP, hN, srcP, hix, hx.1, hx.2])
    | (with_reducible refine xCond_split (fun hcd => ?_) (fun hcd => ?_) <;> (try (exfalso; clear hP hN; simp_all; done)) <;> (try (exfalso; simp at *; omega)))
    | with_reducible refine WP.block ?_
    | (with_reducible refine WP.skip ?_; simp [srcP, hix, hx.1, hx.2])
    | (with_reducible refine WP.exit ?_; simp [srcP, hix, hx.1, hx.2])
    | (with_reducible refine WP.ret ?_; simp [srcP, hix, hx.1, hx.2]))
  all_goals (clear hix hP hN l1 l2 l3 l4 l5 l6 l7 l8 l9 hx h3 hn; simp_all [jointF, jEnd, jLo, jHi, jKind, jN5, jN4])
end Go.Ab
