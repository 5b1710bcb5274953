/- Contracts: motions. -/
import Derived.Test.YtgamhginhckcpaaCf2
set_option linter.all false
namespace Go.Ab
open Go.Proofs
theorem upto_set {T L : List PV} {i : Nat} {v : PV} (hlen : L.length = T.length) (h : ∀ j, j < i → L[j]? = T[j]?) (hv : T[i]? = some v) : ∀ j, j < i + 1 → (L.set i v)[j]? = T[j]? := by
  intro j hj
  have hi : i < T.length := (List.getElem?_eq_some_iff.1 hv).1
  by_cases e : j = i
  · subst e; rw [hv, List.getElem?_set_self (by omega)]
  · rw [List.getElem?_set_ne (by omega)]; exact h j (by omega)
theorem upto_all {T L : List PV} {i : Nat} (hlen : L.length = T.length) (h : ∀ j, j < i → L[j]? = T[j]?) (hi : T.length ≤ i) : L = T := by
  apply List.ext_getElem?
  intro j
  by_cases e : j < i
  · exact h j e
  · rw [List.getElem?_eq_none (by omega), List.getElem?_eq_none (by omega)]
theorem at_of_lt {α : Type} {xs : List α} {i : Nat} (h : i < xs.length) : ∃ x, xs[i]? = some x := ⟨_, List.getElem?_eq_getElem h⟩

def pieceI (idx d f t : Int) : Int × Int :=
  let s := wr (idx * wr (t - f)); let e := wr (wr (idx + 1) * wr (t - f))
  (wr (f + (min s e).fdiv (2 ^ d.toNat)), wr (f - (wr (-max s e)).fdiv (2 ^ d.toNat)))
theorem d42 (f t i d : Int) (h0 : 0 ≤ d) (hd : d < 64) : DetH Try.prog 42 [.pv (Z f), .pv (Z t), .pv (.rptr (Z i) 0), .pv (.rptr (Z d) 0)] [] [] (.pv (encI (pieceI i d f t))) := by
  refine detP_of Try.func42 rfl (by kernel_rfl) (by simp [Try.f42]) rfl ?_
  intro C hP hN
  simp only [Try.f42] at hN ⊢
  repeat' (first
    | with_reducible refine WP.seq ?_
    | (with_reducible refine WP.region (hn := []) ?_; simp [hP, hN])
    | (with_reducible refine WP.draw (hn := []) (by rw [hP]; kernel_rfl) (by kernel_rfl) ?_; simp [hP, hN]; (try refine ⟨by kernel_rfl, ?_⟩))
    | (with_reducible refine xB_split (by simp) (fun hgd => ?_) (fun hgd => ?_) <;> first | (exfalso; simp at hgd; done) | (exfalso; simp at hgd; omega) | simp [hP, hN])
    | (with_reducible refine yB_split (by simp) (fun hgd => ?_) (fun hgd => ?_) <;> first | (exfalso; simp at hgd; done) | (exfalso; simp at hgd; omega) | (simp [hP, hN] <;> (try refine ⟨by kernel_rfl, ?_⟩)))
    | (with_reducible refine xC_intro (d43 _ _ h0 hd) ?_; simp [hP, hN])
    | (with_reducible refine yC_intro (d43 _ _ h0 hd) ?_; simp [hP, hN]; (try refine ⟨by kernel_rfl, ?_⟩))
    | with_reducible refine xTwo_intro ?_ ?_
    | (with_reducible refine WP.cond' ?_; simp [hP, hN])
    | (with_reducible refine xCond_split (fun hcd => ?_) (fun hcd => ?_) <;> (try (exfalso; clear hP hN; simp_all; done)) <;> (try (exfalso; simp at *; omega)))
    | with_reducible refine WP.block ?_
    | (with_reducible refine WP.skip ?_; simp)
    | (with_reducible refine WP.exit ?_; simp)
    | (with_reducible refine WP.ret ?_; simp))
  all_goals (first | (simp_all [pieceI]; done) | ((try simp_all [pieceI]) <;> (try omega) <;> grind))
def atI (idx d f t : Int) : Int := wr (f + (wr (idx * wr (t - f))).fdiv (2 ^ d.toNat))
theorem d54 (f t i d : Int) (h0 : 0 ≤ d) (hd : d < 64) : DetH Try.prog 54 [.pv (Z f), .pv (Z t), .pv (.rptr (Z i) 0), .pv (.rptr (Z d) 0)] [] [] (.pv (Z (atI i d f t))) := by
  refine detP_of Try.func54 rfl (by kernel_rfl) (by simp [Try.f54]) rfl ?_
  intro C hP hN
  simp only [Try.f54] at hN ⊢
  repeat' (first
    | with_reducible refine WP.seq ?_
    | (with_reducible refine WP.region (hn := []) ?_; simp [hP, hN])
    | (with_reducible refine WP.draw (hn := []) (by rw [hP]; kernel_rfl) (by kernel_rfl) ?_; simp [hP, hN]; (try refine ⟨by kernel_rfl, ?_⟩))
    | (with_reducible refine xB_split (by simp) (fun hgd => ?_) (fun hgd => ?_) <;> first | (exfalso; simp at hgd; done) | (exfalso; simp at hgd; omega) | simp [hP, hN])
    | (with_reducible refine yB_split (by simp) (fun hgd => ?_) (fun hgd => ?_) <;> first | (exfalso; simp at hgd; done) | (exfalso; simp at hgd; omega) | (simp [hP, hN] <;> (try refine ⟨by kernel_rfl, ?_⟩)))
    | (with_reducible refine xC_intro (d43 _ _ h0 hd) ?_; simp [hP, hN])
    | (with_reducible refine yC_intro (d43 _ _ h0 hd) ?_; simp [hP, hN]; (try refine ⟨by kernel_rfl, ?_⟩))
    | with_reducible refine xTwo_intro ?_ ?_
    | (with_reducible refine WP.cond' ?_; simp [hP, hN])
    | (with_reducible refine xCond_split (fun hcd => ?_) (fun hcd => ?_) <;> (try (exfalso; clear hP hN; simp_all; done)) <;> (try (exfalso; simp at *; omega)))
    | with_reducible refine WP.block ?_
    | (with_reducible refine WP.skip ?_; simp)
    | (with_reducible refine WP.exit ?_; simp)
    | (with_reducible refine WP.ret ?_; simp))
  all_goals (first | (simp_all [atI]; done) | ((try simp_all [atI]) <;> (try omega) <;> grind))

theorem d41 (f : FuncId) (g : Int → Int → Int × Int) (u v : Int) (xs : List (Int)) (ys : List (Int)) (hl : xs.length ≤ 16777216) (he : xs.length = ys.length) (hf : ∀ a b, DetH Try.prog f [.pv (Z a), .pv (Z b), .pv (.rptr (Z u) 0), .pv (.rptr (Z v) 0)] [] [] (.pv (encI (g a b)))) : DetH Try.prog 41 [.pv (zs xs), .pv (zs ys), .pv (.fn (.func f) [] [.rptr (Z u) 0, .rptr (Z v) 0])] [] [] (.pv (iv (List.zipWith g xs ys))) := by
  refine detP_of Try.func41 rfl (by kernel_rfl) (by simp [Try.f41]) rfl ?_
  intro C hP hN
  simp only [Try.f41] at hN ⊢
  repeat' (first
    | with_reducible refine WP.seq ?_
    | (with_reducible refine WP.region (hn := []) ?_; simp [hP, hN, hl, show (16 : Int) * xs.length ≤ 281474976710656 by omega, show (xs.length : Int) ≤ 9223372036854775807 by omega])
    | (with_reducible refine WP.draw (hn := []) (by rw [hP]; kernel_rfl) (by kernel_rfl) ?_; simp [hP, hN, hl, show (16 : Int) * xs.length ≤ 281474976710656 by omega, show (xs.length : Int) ≤ 9223372036854775807 by omega]; (try refine ⟨by kernel_rfl, ?_⟩))
    | (with_reducible refine xB_split (by simp [hl, show (16 : Int) * xs.length ≤ 281474976710656 by omega, show (xs.length : Int) ≤ 9223372036854775807 by omega]) (fun hgd => ?_) (fun hgd => ?_) <;> first | (exfalso; simp at hgd; done) | (exfalso; simp at hgd; omega) | simp [hP, hN, hl, show (16 : Int) * xs.length ≤ 281474976710656 by omega, show (xs.length : Int) ≤ 9223372036854775807 by omega])
    | (with_reducible refine yB_split (by simp [hl, show (16 : Int) * xs.length ≤ 281474976710656 by omega, show (xs.length : Int) ≤ 9223372036854775807 by omega]) (fun hgd => ?_) (fun hgd => ?_) <;> first | (exfalso; simp at hgd; done) | (exfalso; simp at hgd; omega) | (simp [hP, hN, hl, show (16 : Int) * xs.length ≤ 281474976710656 by omega, show (xs.length : Int) ≤ 9223372036854775807 by omega] <;> (try refine ⟨by kernel_rfl, ?_⟩)))
    | with_reducible refine xTwo_intro ?_ ?_
    | (with_reducible refine WP.cond' ?_; simp [hP, hN, hl, show (16 : Int) * xs.length ≤ 281474976710656 by omega, show (xs.length : Int) ≤ 9223372036854775807 by omega])
    | (with_reducible refine xCond_split (fun hcd => ?_) (fun hcd => ?_) <;> (try (exfalso; clear hP hN; simp_all; done)) <;> (try (exfalso; simp at *; omega)))
    | with_reducible refine WP.block ?_
    | (with_reducible refine WP.skip ?_; simp [hl, show (16 : Int) * xs.length ≤ 281474976710656 by omega, show (xs.length : Int) ≤ 9223372036854775807 by omega])
    | (with_reducible refine WP.exit ?_; simp [hl, show (16 : Int) * xs.length ≤ 281474976710656 by omega, show (xs.length : Int) ≤ 9223372036854775807 by omega])
    | (with_reducible refine WP.ret ?_; simp [hl, show (16 : Int) * xs.length ≤ 281474976710656 by omega, show (xs.length : Int) ≤ 9223372036854775807 by omega]))
  refine WP.loopN [] xs.length (fun i st => st.t 0 = .pv (zs xs) ∧ st.t 1 = .pv (zs ys) ∧ st.t 2 = .pv (.fn (.func f) [] [.rptr (Z u) 0, .rptr (Z v) 0]) ∧ st.t 7 = .arr 12 xs.length ∧ st.t 13 = .pv (zs xs) ∧ st.t 14 = .pv (Z xs.length) ∧ st.t 15 = .pv (Z i) ∧
    ∃ L, st.h 12 = some (.row 37 2 L 0) ∧ L.length = xs.length ∧ ∀ j, j < i → L[j]? = ((List.zipWith g xs ys).map encI)[j]?) (by simp) ?_
  rintro i st hi ⟨h0, h1, h2, h7, h13, h14, h15, L, hL, hLl, hq⟩
  have hT : L.length = ((List.zipWith g xs ys).map encI).length := by simp [hLl, he]
  by_cases hlt : i < xs.length
  · have hw := wr_succ hlt (big hl)
    have hlt' : i < ys.length := by omega
    have hltL : i < L.length := by omega
    repeat' (first
      | with_reducible refine WP.seq ?_
      | (with_reducible refine WP.region (hn := []) ?_; simp [hP, hN, h0, h1, h2, h7, h13, h14, h15, hL, hLl, hlt, hlt', hltL, hw])
      | (with_reducible refine WP.draw (hn := []) (by rw [hP]; kernel_rfl) (by kernel_rfl) ?_; simp [hP, hN, h0, h1, h2, h7, h13, h14, h15, hL, hLl, hlt, hlt', hltL, hw]; (try refine ⟨by kernel_rfl, ?_⟩))
      | (with_reducible refine xB_split (by simp [h0, h1, h2, h7, h13, h14, h15, hL, hLl, hlt, hlt', hltL, hw]) (fun hgd => ?_) (fun hgd => ?_) <;> first | (exfalso; simp at hgd; done) | (exfalso; simp at hgd; omega) | simp [hP, hN, h0, h1, h2, h7, h13, h14, h15, hL, hLl, hlt, hlt', hltL, hw])
      | (with_reducible refine yB_split (by simp [h0, h1, h2, h7, h13, h14, h15, hL, hLl, hlt, hlt', hltL, hw]) (fun hgd => ?_) (fun hgd => ?_) <;> first | (exfalso; simp at hgd; done) | (exfalso; simp at hgd; omega) | (simp [hP, hN, h0, h1, h2, h7, h13, h14, h15, hL, hLl, hlt, hlt', hltL, hw] <;> (try refine ⟨by kernel_rfl, ?_⟩)))
      | (with_reducible refine xC_intro (hf _ _) ?_; simp [hP, hN, h0, h1, h2, h7, h13, h14, h15, hL, hLl, hlt, hlt', hltL, hw])
      | (with_reducible refine yC_intro (hf _ _) ?_; simp [hP, hN, h0, h1, h2, h7, h13, h14, h15, hL, hLl, hlt, hlt', hltL, hw]; (try refine ⟨by kernel_rfl, ?_⟩))
      | with_reducible refine xTwo_intro ?_ ?_
      | (with_reducible refine WP.cond' ?_; simp [hP, hN, h0, h1, h2, h7, h13, h14, h15, hL, hLl, hlt, hlt', hltL, hw])
      | (with_reducible refine xCond_split (fun hcd => ?_) (fun hcd => ?_) <;> (try (exfalso; clear hP hN; simp_all; done)) <;> (try (exfalso; simp at *; omega)))
      | with_reducible refine WP.block ?_
      | (with_reducible refine WP.skip ?_; simp [h0, h1, h2, h7, h13, h14, h15, hL, hLl, hlt, hlt', hltL, hw])
      | (with_reducible refine WP.exit ?_; simp [h0, h1, h2, h7, h13, h14, h15, hL, hLl, hlt, hlt', hltL, hw])
      | (with_reducible refine WP.ret ?_; simp [h0, h1, h2, h7, h13, h14, h15, hL, hLl, hlt, hlt', hltL, hw]))
    simpa using upto_set hT hq (v := encI (g xs[i] ys[i])) (by simp [List.getElem?_zipWith, hlt, hlt'])
  · skip
    repeat' (first
      | with_reducible refine WP.seq ?_
      | (with_reducible refine WP.region (hn := []) ?_; simp [hP, hN, h0, h1, h2, h7, h13, h14, h15, hL, hLl, hlt])
      | (with_reducible refine WP.draw (hn := []) (by rw [hP]; kernel_rfl) (by kernel_rfl) ?_; simp [hP, hN, h0, h1, h2, h7, h13, h14, h15, hL, hLl, hlt]; (try refine ⟨by kernel_rfl, ?_⟩))
      | (with_reducible refine xB_split (by simp [h0, h1, h2, h7, h13, h14, h15, hL, hLl, hlt]) (fun hgd => ?_) (fun hgd => ?_) <;> first | (exfalso; simp at hgd; done) | (exfalso; simp at hgd; omega) | simp [hP, hN, h0, h1, h2, h7, h13, h14, h15, hL, hLl, hlt])
      | (with_reducible refine yB_split (by simp [h0, h1, h2, h7, h13, h14, h15, hL, hLl, hlt]) (fun hgd => ?_) (fun hgd => ?_) <;> first | (exfalso; simp at hgd; done) | (exfalso; simp at hgd; omega) | (simp [hP, hN, h0, h1, h2, h7, h13, h14, h15, hL, hLl, hlt] <;> (try refine ⟨by kernel_rfl, ?_⟩)))
      | with_reducible refine xTwo_intro ?_ ?_
      | (with_reducible refine WP.cond' ?_; simp [hP, hN, h0, h1, h2, h7, h13, h14, h15, hL, hLl, hlt])
      | (with_reducible refine xCond_split (fun hcd => ?_) (fun hcd => ?_) <;> (try (exfalso; clear hP hN; simp_all; done)) <;> (try (exfalso; simp at *; omega)))
      | with_reducible refine WP.block ?_
      | (with_reducible refine WP.skip ?_; simp [h0, h1, h2, h7, h13, h14, h15, hL, hLl, hlt])
      | (with_reducible refine WP.exit ?_; simp [h0, h1, h2, h7, h13, h14, h15, hL, hLl, hlt])
      | (with_reducible refine WP.ret ?_; simp [h0, h1, h2, h7, h13, h14, h15, hL, hLl, hlt]))
    simpa using upto_all hT hq (by simp; omega)

theorem d53 (f : FuncId) (g : Int → Int → Int) (u v : Int) (xs : List (Int)) (ys : List (Int)) (hl : xs.length ≤ 16777216) (he : xs.length = ys.length) (hf : ∀ a b, DetH Try.prog f [.pv (Z a), .pv (Z b), .pv (.rptr (Z u) 0), .pv (.rptr (Z v) 0)] [] [] (.pv (Z (g a b)))) : DetH Try.prog 53 [.pv (zs xs), .pv (zs ys), .pv (.fn (.func f) [] [.rptr (Z u) 0, .rptr (Z v) 0])] [] [] (.pv (zs (List.zipWith g xs ys))) := by
  refine detP_of Try.func53 rfl (by kernel_rfl) (by simp [Try.f53]) rfl ?_
  intro C hP hN
  simp only [Try.f53] at hN ⊢
  repeat' (first
    | with_reducible refine WP.seq ?_
    | (with_reducible refine WP.region (hn := []) ?_; simp [hP, hN, hl, show (8 : Int) * xs.length ≤ 281474976710656 by omega, show (xs.length : Int) ≤ 9223372036854775807 by omega])
    | (with_reducible refine WP.draw (hn := []) (by rw [hP]; kernel_rfl) (by kernel_rfl) ?_; simp [hP, hN, hl, show (8 : Int) * xs.length ≤ 281474976710656 by omega, show (xs.length : Int) ≤ 9223372036854775807 by omega]; (try refine ⟨by kernel_rfl, ?_⟩))
    | (with_reducible refine xB_split (by simp [hl, show (8 : Int) * xs.length ≤ 281474976710656 by omega, show (xs.length : Int) ≤ 9223372036854775807 by omega]) (fun hgd => ?_) (fun hgd => ?_) <;> first | (exfalso; simp at hgd; done) | (exfalso; simp at hgd; omega) | simp [hP, hN, hl, show (8 : Int) * xs.length ≤ 281474976710656 by omega, show (xs.length : Int) ≤ 9223372036854775807 by omega])
    | (with_reducible refine yB_split (by simp [hl, show (8 : Int) * xs.length ≤ 281474976710656 by omega, show (xs.length : Int) ≤ 9223372036854775807 by omega]) (fun hgd => ?_) (fun hgd => ?_) <;> first | (exfalso; simp at hgd; done) | (exfalso; simp at hgd; omega) | (simp [hP, hN, hl, show (8 : Int) * xs.length ≤ 281474976710656 by omega, show (xs.length : Int) ≤ 9223372036854775807 by omega] <;> (try refine ⟨by kernel_rfl, ?_⟩)))
    | with_reducible refine xTwo_intro ?_ ?_
    | (with_reducible refine WP.cond' ?_; simp [hP, hN, hl, show (8 : Int) * xs.length ≤ 281474976710656 by omega, show (xs.length : Int) ≤ 9223372036854775807 by omega])
    | (with_reducible refine xCond_split (fun hcd => ?_) (fun hcd => ?_) <;> (try (exfalso; clear hP hN; simp_all; done)) <;> (try (exfalso; simp at *; omega)))
    | with_reducible refine WP.block ?_
    | (with_reducible refine WP.skip ?_; simp [hl, show (8 : Int) * xs.length ≤ 281474976710656 by omega, show (xs.length : Int) ≤ 9223372036854775807 by omega])
    | (with_reducible refine WP.exit ?_; simp [hl, show (8 : Int) * xs.length ≤ 281474976710656 by omega, show (xs.length : Int) ≤ 9223372036854775807 by omega])
    | (with_reducible refine WP.ret ?_; simp [hl, show (8 : Int) * xs.length ≤ 281474976710656 by omega, show (xs.length : Int) ≤ 9223372036854775807 by omega]))
  refine WP.loopN [] xs.length (fun i st => st.t 0 = .pv (zs xs) ∧ st.t 1 = .pv (zs ys) ∧ st.t 2 = .pv (.fn (.func f) [] [.rptr (Z u) 0, .rptr (Z v) 0]) ∧ st.t 7 = .arr 12 xs.length ∧ st.t 13 = .pv (zs xs) ∧ st.t 14 = .pv (Z xs.length) ∧ st.t 15 = .pv (Z i) ∧
    ∃ L, st.h 12 = some (.row 2 1 L 0) ∧ L.length = xs.length ∧ ∀ j, j < i → L[j]? = ((List.zipWith g xs ys).map Z)[j]?) (by simp) ?_
  rintro i st hi ⟨h0, h1, h2, h7, h13, h14, h15, L, hL, hLl, hq⟩
  have hT : L.length = ((List.zipWith g xs ys).map Z).length := by simp [hLl, he]
  by_cases hlt : i < xs.length
  · have hw := wr_succ hlt (big hl)
    have hlt' : i < ys.length := by omega
    have hltL : i < L.length := by omega
    repeat' (first
      | with_reducible refine WP.seq ?_
      | (with_reducible refine WP.region (hn := []) ?_; simp [hP, hN, h0, h1, h2, h7, h13, h14, h15, hL, hLl, hlt, hlt', hltL, hw])
      | (with_reducible refine WP.draw (hn := []) (by rw [hP]; kernel_rfl) (by kernel_rfl) ?_; simp [hP, hN, h0, h1, h2, h7, h13, h14, h15, hL, hLl, hlt, hlt', hltL, hw]; (try refine ⟨by kernel_rfl, ?_⟩))
      | (with_reducible refine xB_split (by simp [h0, h1, h2, h7, h13, h14, h15, hL, hLl, hlt, hlt', hltL, hw]) (fun hgd => ?_) (fun hgd => ?_) <;> first | (exfalso; simp at hgd; done) | (exfalso; simp at hgd; omega) | simp [hP, hN, h0, h1, h2, h7, h13, h14, h15, hL, hLl, hlt, hlt', hltL, hw])
      | (with_reducible refine yB_split (by simp [h0, h1, h2, h7, h13, h14, h15, hL, hLl, hlt, hlt', hltL, hw]) (fun hgd => ?_) (fun hgd => ?_) <;> first | (exfalso; simp at hgd; done) | (exfalso; simp at hgd; omega) | (simp [hP, hN, h0, h1, h2, h7, h13, h14, h15, hL, hLl, hlt, hlt', hltL, hw] <;> (try refine ⟨by kernel_rfl, ?_⟩)))
      | (with_reducible refine xC_intro (hf _ _) ?_; simp [hP, hN, h0, h1, h2, h7, h13, h14, h15, hL, hLl, hlt, hlt', hltL, hw])
      | (with_reducible refine yC_intro (hf _ _) ?_; simp [hP, hN, h0, h1, h2, h7, h13, h14, h15, hL, hLl, hlt, hlt', hltL, hw]; (try refine ⟨by kernel_rfl, ?_⟩))
      | with_reducible refine xTwo_intro ?_ ?_
      | (with_reducible refine WP.cond' ?_; simp [hP, hN, h0, h1, h2, h7, h13, h14, h15, hL, hLl, hlt, hlt', hltL, hw])
      | (with_reducible refine xCond_split (fun hcd => ?_) (fun hcd => ?_) <;> (try (exfalso; clear hP hN; simp_all; done)) <;> (try (exfalso; simp at *; omega)))
      | with_reducible refine WP.block ?_
      | (with_reducible refine WP.skip ?_; simp [h0, h1, h2, h7, h13, h14, h15, hL, hLl, hlt, hlt', hltL, hw])
      | (with_reducible refine WP.exit ?_; simp [h0, h1, h2, h7, h13, h14, h15, hL, hLl, hlt, hlt', hltL, hw])
      | (with_reducible refine WP.ret ?_; simp [h0, h1, h2, h7, h13, h14, h15, hL, hLl, hlt, hlt', hltL, hw]))
    simpa using upto_set hT hq (v := Z (g xs[i] ys[i])) (by simp [List.getElem?_zipWith, hlt, hlt'])
  · skip
    repeat' (first
      | with_reducible refine WP.seq ?_
      | (with_reducible refine WP.region (hn := []) ?_; simp [hP, hN, h0, h1, h2, h7, h13, h14, h15, hL, hLl, hlt])
      | (with_reducible refine WP.draw (hn := []) (by rw [hP]; kernel_rfl) (by kernel_rfl) ?_; simp [hP, hN, h0, h1, h2, h7, h13, h14, h15, hL, hLl, hlt]; (try refine ⟨by kernel_rfl, ?_⟩))
      | (with_reducible refine xB_split (by simp [h0, h1, h2, h7, h13, h14, h15, hL, hLl, hlt]) (fun hgd => ?_) (fun hgd => ?_) <;> first | (exfalso; simp at hgd; done) | (exfalso; simp at hgd; omega) | simp [hP, hN, h0, h1, h2, h7, h13, h14, h15, hL, hLl, hlt])
      | (with_reducible refine yB_split (by simp [h0, h1, h2, h7, h13, h14, h15, hL, hLl, hlt]) (fun hgd => ?_) (fun hgd => ?_) <;> first | (exfalso; simp at hgd; done) | (exfalso; simp at hgd; omega) | (simp [hP, hN, h0, h1, h2, h7, h13, h14, h15, hL, hLl, hlt] <;> (try refine ⟨by kernel_rfl, ?_⟩)))
      | with_reducible refine xTwo_intro ?_ ?_
      | (with_reducible refine WP.cond' ?_; simp [hP, hN, h0, h1, h2, h7, h13, h14, h15, hL, hLl, hlt])
      | (with_reducible refine xCond_split (fun hcd => ?_) (fun hcd => ?_) <;> (try (exfalso; clear hP hN; simp_all; done)) <;> (try (exfalso; simp at *; omega)))
      | with_reducible refine WP.block ?_
      | (with_reducible refine WP.skip ?_; simp [h0, h1, h2, h7, h13, h14, h15, hL, hLl, hlt])
      | (with_reducible refine WP.exit ?_; simp [h0, h1, h2, h7, h13, h14, h15, hL, hLl, hlt])
      | (with_reducible refine WP.ret ?_; simp [h0, h1, h2, h7, h13, h14, h15, hL, hLl, hlt]))
    simpa using upto_all hT hq (by simp; omega)

def pieceL (xs ys : List Int) (d i : Int) : List (Int × Int) × Bool := if motionB xs ys d && decide (0 ≤ i) && decide (i < 2 ^ d.toNat) then (List.zipWith (pieceI i d) xs ys, true) else ([], false)
def atL (xs ys : List Int) (d i : Int) : List Int × Bool := if motionB xs ys d && decide (0 ≤ i) && decide (i ≤ 2 ^ d.toNat) then (List.zipWith (atI i d) xs ys, true) else ([], false)
theorem d14 (xs ys : List Int) (d i : Int) (hl : xs.length ≤ 16777216) (hm : ys.length ≤ 16777216) : DetH Try.prog 14 [.pv (zs xs), .pv (zs ys), .pv (Z d), .pv (Z i)] [] [] (.pv (.tup [iv (pieceL xs ys d i).1, B (pieceL xs ys d i).2])) := by
  refine detP_of Try.func14 rfl (by kernel_rfl) (by simp [Try.f14]) rfl ?_
  intro C hP hN
  simp only [Try.f14] at hN ⊢
  cases hmo : motionB xs ys d with
  | false =>
    repeat' (first
      | with_reducible refine WP.seq ?_
      | (with_reducible refine WP.region (hn := []) ?_; simp [hP, hN, hmo])
      | (with_reducible refine WP.draw (hn := []) (by rw [hP]; kernel_rfl) (by kernel_rfl) ?_; simp [hP, hN, hmo]; (try refine ⟨by kernel_rfl, ?_⟩))
      | (with_reducible refine xB_split (by simp [hmo]) (fun hgd => ?_) (fun hgd => ?_) <;> first | (exfalso; simp at hgd; done) | (exfalso; simp at hgd; omega) | simp [hP, hN, hmo])
      | (with_reducible refine yB_split (by simp [hmo]) (fun hgd => ?_) (fun hgd => ?_) <;> first | (exfalso; simp at hgd; done) | (exfalso; simp at hgd; omega) | (simp [hP, hN, hmo] <;> (try refine ⟨by kernel_rfl, ?_⟩)))
      | (with_reducible refine xC_intro (d40 _ _ _ (big hl) (big hm)) ?_; simp [hP, hN, hmo])
      | (with_reducible refine yC_intro (d40 _ _ _ (big hl) (big hm)) ?_; simp [hP, hN, hmo]; (try refine ⟨by kernel_rfl, ?_⟩))
      | with_reducible refine xTwo_intro ?_ ?_
      | (with_reducible refine WP.cond' ?_; simp [hP, hN, hmo])
      | (with_reducible refine xCond_split (fun hcd => ?_) (fun hcd => ?_) <;> (try (exfalso; clear hP hN; simp_all; done)) <;> (try (exfalso; simp at *; omega)))
      | with_reducible refine WP.block ?_
      | (with_reducible refine WP.skip ?_; simp [hmo])
      | (with_reducible refine WP.exit ?_; simp [hmo])
      | (with_reducible refine WP.ret ?_; simp [hmo]))
    all_goals simp [pieceL, hmo]
  | true =>
    obtain ⟨he, _, _, h0, hd⟩ := motionB_true hmo
    have hd' : d < 64 := by omega
    repeat' (first
      | with_reducible refine WP.seq ?_
      | (with_reducible refine WP.region (hn := []) ?_; simp [hP, hN, hmo, h0, bits64, min64 hd', wr_shl h0 hd])
      | (with_reducible refine WP.draw (hn := []) (by rw [hP]; kernel_rfl) (by kernel_rfl) ?_; simp [hP, hN, hmo, h0, bits64, min64 hd', wr_shl h0 hd]; (try refine ⟨by kernel_rfl, ?_⟩))
      | (with_reducible refine xB_split (by simp [hmo, h0, bits64, min64 hd', wr_shl h0 hd]) (fun hgd => ?_) (fun hgd => ?_) <;> first | (exfalso; simp at hgd; done) | (exfalso; simp at hgd; omega) | simp [hP, hN, hmo, h0, bits64, min64 hd', wr_shl h0 hd])
      | (with_reducible refine yB_split (by simp [hmo, h0, bits64, min64 hd', wr_shl h0 hd]) (fun hgd => ?_) (fun hgd => ?_) <;> first | (exfalso; simp at hgd; done) | (exfalso; simp at hgd; omega) | (simp [hP, hN, hmo, h0, bits64, min64 hd', wr_shl h0 hd] <;> (try refine ⟨by kernel_rfl, ?_⟩)))
      | (with_reducible refine xC_intro (d40 _ _ _ (big hl) (big hm)) ?_; simp [hP, hN, hmo, h0, bits64, min64 hd', wr_shl h0 hd])
      | (with_reducible refine yC_intro (d40 _ _ _ (big hl) (big hm)) ?_; simp [hP, hN, hmo, h0, bits64, min64 hd', wr_shl h0 hd]; (try refine ⟨by kernel_rfl, ?_⟩))
      | (with_reducible refine xC_intro (d41 _ _ _ _ _ _ hl he (fun a b => d42 a b _ _ h0 hd')) ?_; simp [hP, hN, hmo, h0, bits64, min64 hd', wr_shl h0 hd])
      | (with_reducible refine yC_intro (d41 _ _ _ _ _ _ hl he (fun a b => d42 a b _ _ h0 hd')) ?_; simp [hP, hN, hmo, h0, bits64, min64 hd', wr_shl h0 hd]; (try refine ⟨by kernel_rfl, ?_⟩))
      | with_reducible refine xTwo_intro ?_ ?_
      | (with_reducible refine WP.cond' ?_; simp [hP, hN, hmo, h0, bits64, min64 hd', wr_shl h0 hd])
      | (with_reducible refine xCond_split (fun hcd => ?_) (fun hcd => ?_) <;> (try (exfalso; clear hP hN; simp_all; done)) <;> (try (exfalso; simp at *; omega)))
      | with_reducible refine WP.block ?_
      | (with_reducible refine WP.skip ?_; simp [hmo, h0, bits64, min64 hd', wr_shl h0 hd])
      | (with_reducible refine WP.exit ?_; simp [hmo, h0, bits64, min64 hd', wr_shl h0 hd])
      | (with_reducible refine WP.ret ?_; simp [hmo, h0, bits64, min64 hd', wr_shl h0 hd]))
    all_goals simp_all [pieceL]
    all_goals (try grind)
theorem d24 (xs ys : List Int) (d i : Int) (hl : xs.length ≤ 16777216) (hm : ys.length ≤ 16777216) : DetH Try.prog 24 [.pv (zs xs), .pv (zs ys), .pv (Z d), .pv (Z i)] [] [] (.pv (.tup [zs (atL xs ys d i).1, B (atL xs ys d i).2])) := by
  refine detP_of Try.func24 rfl (by kernel_rfl) (by simp [Try.f24]) rfl ?_
  intro C hP hN
  simp only [Try.f24] at hN ⊢
  cases hmo : motionB xs ys d with
  | false =>
    repeat' (first
      | with_reducible refine WP.seq ?_
      | (with_reducible refine WP.region (hn := []) ?_; simp [hP, hN, hmo])
      | (with_reducible refine WP.draw (hn := []) (by rw [hP]; kernel_rfl) (by kernel_rfl) ?_; simp [hP, hN, hmo]; (try refine ⟨by kernel_rfl, ?_⟩))
      | (with_reducible refine xB_split (by simp [hmo]) (fun hgd => ?_) (fun hgd => ?_) <;> first | (exfalso; simp at hgd; done) | (exfalso; simp at hgd; omega) | simp [hP, hN, hmo])
      | (with_reducible refine yB_split (by simp [hmo]) (fun hgd => ?_) (fun hgd => ?_) <;> first | (exfalso; simp at hgd; done) | (exfalso; simp at hgd; omega) | (simp [hP, hN, hmo] <;> (try refine ⟨by kernel_rfl, ?_⟩)))
      | (with_reducible refine xC_intro (d40 _ _ _ (big hl) (big hm)) ?_; simp [hP, hN, hmo])
      | (with_reducible refine yC_intro (d40 _ _ _ (big hl) (big hm)) ?_; simp [hP, hN, hmo]; (try refine ⟨by kernel_rfl, ?_⟩))
      | with_reducible refine xTwo_intro ?_ ?_
      | (with_reducible refine WP.cond' ?_; simp [hP, hN, hmo])
      | (with_reducible refine xCond_split (fun hcd => ?_) (fun hcd => ?_) <;> (try (exfalso; clear hP hN; simp_all; done)) <;> (try (exfalso; simp at *; omega)))
      | with_reducible refine WP.block ?_
      | (with_reducible refine WP.skip ?_; simp [hmo])
      | (with_reducible refine WP.exit ?_; simp [hmo])
      | (with_reducible refine WP.ret ?_; simp [hmo]))
    all_goals simp [atL, hmo]
  | true =>
    obtain ⟨he, _, _, h0, hd⟩ := motionB_true hmo
    have hd' : d < 64 := by omega
    repeat' (first
      | with_reducible refine WP.seq ?_
      | (with_reducible refine WP.region (hn := []) ?_; simp [hP, hN, hmo, h0, bits64, min64 hd', wr_shl h0 hd])
      | (with_reducible refine WP.draw (hn := []) (by rw [hP]; kernel_rfl) (by kernel_rfl) ?_; simp [hP, hN, hmo, h0, bits64, min64 hd', wr_shl h0 hd]; (try refine ⟨by kernel_rfl, ?_⟩))
      | (with_reducible refine xB_split (by simp [hmo, h0, bits64, min64 hd', wr_shl h0 hd]) (fun hgd => ?_) (fun hgd => ?_) <;> first | (exfalso; simp at hgd; done) | (exfalso; simp at hgd; omega) | simp [hP, hN, hmo, h0, bits64, min64 hd', wr_shl h0 hd])
      | (with_reducible refine yB_split (by simp [hmo, h0, bits64, min64 hd', wr_shl h0 hd]) (fun hgd => ?_) (fun hgd => ?_) <;> first | (exfalso; simp at hgd; done) | (exfalso; simp at hgd; omega) | (simp [hP, hN, hmo, h0, bits64, min64 hd', wr_shl h0 hd] <;> (try refine ⟨by kernel_rfl, ?_⟩)))
      | (with_reducible refine xC_intro (d40 _ _ _ (big hl) (big hm)) ?_; simp [hP, hN, hmo, h0, bits64, min64 hd', wr_shl h0 hd])
      | (with_reducible refine yC_intro (d40 _ _ _ (big hl) (big hm)) ?_; simp [hP, hN, hmo, h0, bits64, min64 hd', wr_shl h0 hd]; (try refine ⟨by kernel_rfl, ?_⟩))
      | (with_reducible refine xC_intro (d53 _ _ _ _ _ _ hl he (fun a b => d54 a b _ _ h0 hd')) ?_; simp [hP, hN, hmo, h0, bits64, min64 hd', wr_shl h0 hd])
      | (with_reducible refine yC_intro (d53 _ _ _ _ _ _ hl he (fun a b => d54 a b _ _ h0 hd')) ?_; simp [hP, hN, hmo, h0, bits64, min64 hd', wr_shl h0 hd]; (try refine ⟨by kernel_rfl, ?_⟩))
      | with_reducible refine xTwo_intro ?_ ?_
      | (with_reducible refine WP.cond' ?_; simp [hP, hN, hmo, h0, bits64, min64 hd', wr_shl h0 hd])
      | (with_reducible refine xCond_split (fun hcd => ?_) (fun hcd => ?_) <;> (try (exfalso; clear hP hN; simp_all; done)) <;> (try (exfalso; simp at *; omega)))
      | with_reducible refine WP.block ?_
      | (with_reducible refine WP.skip ?_; simp [hmo, h0, bits64, min64 hd', wr_shl h0 hd])
      | (with_reducible refine WP.exit ?_; simp [hmo, h0, bits64, min64 hd', wr_shl h0 hd])
      | (with_reducible refine WP.ret ?_; simp [hmo, h0, bits64, min64 hd', wr_shl h0 hd]))
    all_goals simp_all [atL]
    all_goals (try grind)
end Go.Ab
