/- Contracts: checks of robots. -/
import Derived.Test.YtagmnknighofeaaCfN
import Derived.Test.YtagmnknighofeaaPl1
set_option linter.all false
namespace Go.Ab
open Go.Proofs
def lenS (x : AV) (fb : Option Eff) : Option Eff := match x with
  | .pv (.val (.string s)) => some (.pv (Z s.size), [])
  | _ => fb
@[simp] theorem lenS_some (s : ByteArray) (fb : Option Eff) : lenS (.pv (.val (.string s))) fb = some (.pv (Z s.size), []) := rfl
theorem lenStr0 {dst : Option Nat} {ty : TypeId} {pos : String} {aft : Array Edge} {g : Option (Nat × Bool)} (x : Operand) (s : ByteArray) :
    evPure Try.prog ⟨dst, .call ⟨.builtin .len, #[x], #[9]⟩, ty, pos, aft, g⟩ (fun _ => .pv (.val (.string s))) = some (.pv (Z s.size), []) := by kernel_rfl
@[simp] theorem lenStr {dst : Option Nat} {ty : TypeId} {pos : String} {aft : Array Edge} {g : Option (Nat × Bool)} {ρ : Operand → AV} (x : Operand) :
    evPure Try.prog ⟨dst, .call ⟨.builtin .len, #[x], #[9]⟩, ty, pos, aft, g⟩ ρ = lenS (ρ x) (evPureX Try.prog ⟨dst, .call ⟨.builtin .len, #[x], #[9]⟩, ty, pos, aft, g⟩ ρ) := by
  unfold lenS
  split
  · rename_i s hs
    rw [← lenStr0 (dst := dst) (ty := ty) (pos := pos) (aft := aft) (g := g) x s]
    refine evPure_congr (by intro _ _ h; cases h) ?_
    intro y hy
    simp [Op.operands, Call.operands] at hy
    subst hy; exact hs
  · rfl
/-! the reference's name -/
theorem world_list : (ByteArray.mk #[119, 111, 114, 108, 100]).toList = [119, 111, 114, 108, 100] := by decide +kernel
theorem bytes_at {s : ByteArray} {i : Nat} (h : i < s.size) : s[i]? = some (s[i]'h) := by simp [h]
set_option maxHeartbeats 4000000 in
theorem d190 (s : ByteArray) : DetH Try.prog 190 [.pv (.val (.string s))] [] [] (.pv (B (nameB s))) := by
  by_cases h1 : s.size < 1
  · have hf : nameB s = false := by unfold nameB; simp; omega
    have h1' : (s.size : Int) < 1 := by omega
    rw [hf]
    refine detP_of Try.func190 rfl (by kernel_rfl) (by simp [Try.f190]) rfl ?_
    intro C hP hN
    simp only [Try.f190] at hN ⊢
    repeat' (first
      | with_reducible refine WP.seq ?_
      | (with_reducible refine WP.region (hn := []) ?_; simp -implicitDefEqProofs [hP, hN, h1'])
      | (with_reducible refine WP.draw (hn := []) (by rw [hP]; kernel_rfl) (by kernel_rfl) ?_; simp -implicitDefEqProofs [hP, hN, h1']; (try refine ⟨by kernel_rfl, ?_⟩))
      | (with_reducible refine xB_split (by simp [h1']) (fun hgd => ?_) (fun hgd => ?_) <;> first | (exfalso; simp at hgd; done) | (exfalso; simp at hgd; omega) | simp -implicitDefEqProofs [hP, hN, h1'])
      | (with_reducible refine yB_split (by simp [h1']) (fun hgd => ?_) (fun hgd => ?_) <;> first | (exfalso; simp at hgd; done) | (exfalso; simp at hgd; omega) | (simp -implicitDefEqProofs [hP, hN, h1'] <;> (try refine ⟨by kernel_rfl, ?_⟩)))
      | with_reducible refine xTwo_intro ?_ ?_
      | (with_reducible refine WP.cond' ?_; simp -implicitDefEqProofs [hP, hN, h1'])
      | (with_reducible refine xCond_split (fun hcd => ?_) (fun hcd => ?_) <;> (try (exfalso; clear hP hN; simp_all; done)) <;> (try (exfalso; simp at *; omega)))
      | with_reducible refine WP.block ?_
      | (with_reducible refine WP.skip ?_; simp [h1'])
      | (with_reducible refine WP.exit ?_; simp [h1'])
      | (with_reducible refine WP.ret ?_; simp [h1']))
  have h1' : ¬ (s.size : Int) < 1 := by omega
  by_cases h2 : 16 < s.size
  · have hf : nameB s = false := by unfold nameB; simp; omega
    have h2' : (16 : Int) < s.size := by omega
    rw [hf]
    refine detP_of Try.func190 rfl (by kernel_rfl) (by simp [Try.f190]) rfl ?_
    intro C hP hN
    simp only [Try.f190] at hN ⊢
    repeat' (first
      | with_reducible refine WP.seq ?_
      | (with_reducible refine WP.region (hn := []) ?_; simp -implicitDefEqProofs [hP, hN, h1', h2'])
      | (with_reducible refine WP.draw (hn := []) (by rw [hP]; kernel_rfl) (by kernel_rfl) ?_; simp -implicitDefEqProofs [hP, hN, h1', h2']; (try refine ⟨by kernel_rfl, ?_⟩))
      | (with_reducible refine xB_split (by simp [h1', h2']) (fun hgd => ?_) (fun hgd => ?_) <;> first | (exfalso; simp at hgd; done) | (exfalso; simp at hgd; omega) | simp -implicitDefEqProofs [hP, hN, h1', h2'])
      | (with_reducible refine yB_split (by simp [h1', h2']) (fun hgd => ?_) (fun hgd => ?_) <;> first | (exfalso; simp at hgd; done) | (exfalso; simp at hgd; omega) | (simp -implicitDefEqProofs [hP, hN, h1', h2'] <;> (try refine ⟨by kernel_rfl, ?_⟩)))
      | with_reducible refine xTwo_intro ?_ ?_
      | (with_reducible refine WP.cond' ?_; simp -implicitDefEqProofs [hP, hN, h1', h2'])
      | (with_reducible refine xCond_split (fun hcd => ?_) (fun hcd => ?_) <;> (try (exfalso; clear hP hN; simp_all; done)) <;> (try (exfalso; simp at *; omega)))
      | with_reducible refine WP.block ?_
      | (with_reducible refine WP.skip ?_; simp [h1', h2'])
      | (with_reducible refine WP.exit ?_; simp [h1', h2'])
      | (with_reducible refine WP.ret ?_; simp [h1', h2']))
  have h2' : ¬ (16 : Int) < s.size := by omega
  cases h3 : s.toList == [119, 111, 114, 108, 100] with
  | true =>
    have hf : nameB s = false := by unfold nameB; simp [h3]
    have h3' : (s.toList == (ByteArray.mk #[119, 111, 114, 108, 100]).toList) = true := by rw [world_list]; exact h3
    rw [hf]
    refine detP_of Try.func190 rfl (by kernel_rfl) (by simp [Try.f190]) rfl ?_
    intro C hP hN
    simp only [Try.f190] at hN ⊢
    repeat' (first
      | with_reducible refine WP.seq ?_
      | (with_reducible refine WP.region (hn := []) ?_; simp -implicitDefEqProofs [hP, hN, h1', h2', h3'])
      | (with_reducible refine WP.draw (hn := []) (by rw [hP]; kernel_rfl) (by kernel_rfl) ?_; simp -implicitDefEqProofs [hP, hN, h1', h2', h3']; (try refine ⟨by kernel_rfl, ?_⟩))
      | (with_reducible refine xB_split (by simp [h1', h2', h3']) (fun hgd => ?_) (fun hgd => ?_) <;> first | (exfalso; simp at hgd; done) | (exfalso; simp at hgd; omega) | simp -implicitDefEqProofs [hP, hN, h1', h2', h3'])
      | (with_reducible refine yB_split (by simp [h1', h2', h3']) (fun hgd => ?_) (fun hgd => ?_) <;> first | (exfalso; simp at hgd; done) | (exfalso; simp at hgd; omega) | (simp -implicitDefEqProofs [hP, hN, h1', h2', h3'] <;> (try refine ⟨by kernel_rfl, ?_⟩)))
      | with_reducible refine xTwo_intro ?_ ?_
      | (with_reducible refine WP.cond' ?_; simp -implicitDefEqProofs [hP, hN, h1', h2', h3'])
      | (with_reducible refine xCond_split (fun hcd => ?_) (fun hcd => ?_) <;> (try (exfalso; clear hP hN; simp_all; done)) <;> (try (exfalso; simp at *; omega)))
      | with_reducible refine WP.block ?_
      | (with_reducible refine WP.skip ?_; simp [h1', h2', h3'])
      | (with_reducible refine WP.exit ?_; simp [h1', h2', h3'])
      | (with_reducible refine WP.ret ?_; simp [h1', h2', h3']))
  | false =>
    have hf : nameB s = lettersB s := by
      unfold nameB
      rw [h3]
      have a1 : decide (1 ≤ s.size) = true := by simp; omega
      have a2 : decide (s.size ≤ 16) = true := by simp; omega
      rw [a1, a2]; simp
    have h3' : (s.toList == (ByteArray.mk #[119, 111, 114, 108, 100]).toList) = false := by rw [world_list]; exact h3
    rw [hf]
    refine detP_of Try.func190 rfl (by kernel_rfl) (by simp [Try.f190]) rfl ?_
    intro C hP hN
    simp only [Try.f190] at hN ⊢
    repeat' (first
      | with_reducible refine WP.seq ?_
      | (with_reducible refine WP.region (hn := []) ?_; simp -implicitDefEqProofs [hP, hN, h1', h2', h3'])
      | (with_reducible refine WP.draw (hn := []) (by rw [hP]; kernel_rfl) (by kernel_rfl) ?_; simp -implicitDefEqProofs [hP, hN, h1', h2', h3']; (try refine ⟨by kernel_rfl, ?_⟩))
      | (with_reducible refine xB_split (by simp [h1', h2', h3']) (fun hgd => ?_) (fun hgd => ?_) <;> first | (exfalso; simp at hgd; done) | (exfalso; simp at hgd; omega) | simp -implicitDefEqProofs [hP, hN, h1', h2', h3'])
      | (with_reducible refine yB_split (by simp [h1', h2', h3']) (fun hgd => ?_) (fun hgd => ?_) <;> first | (exfalso; simp at hgd; done) | (exfalso; simp at hgd; omega) | (simp -implicitDefEqProofs [hP, hN, h1', h2', h3'] <;> (try refine ⟨by kernel_rfl, ?_⟩)))
      | with_reducible refine xTwo_intro ?_ ?_
      | (with_reducible refine WP.cond' ?_; simp -implicitDefEqProofs [hP, hN, h1', h2', h3'])
      | (with_reducible refine xCond_split (fun hcd => ?_) (fun hcd => ?_) <;> (try (exfalso; clear hP hN; simp_all; done)) <;> (try (exfalso; simp at *; omega)))
      | with_reducible refine WP.block ?_
      | (with_reducible refine WP.skip ?_; simp [h1', h2', h3'])
      | (with_reducible refine WP.exit ?_; simp [h1', h2', h3'])
      | (with_reducible refine WP.ret ?_; simp [h1', h2', h3']))
    refine WP.loopN [] s.size (fun i st => st.t 0 = .pv (.val (.string s)) ∧ st.t 3 = .pv (Z i) ∧ ∀ k (hk : k < s.size), k < i → okAt k (s[k]'hk).toNat = true) (by simp) ?_
    rintro i st hi ⟨g0, g3, hok⟩
    by_cases hlt : i < s.size
    · have hw : IntKind.i64.wrap ((i : Int) + 1) = (i : Int) + 1 := by rw [IntKind.wrap_i64]; omega
      have hlt' : (i : Int) < s.size := by omega
      have hb := bytes_at hlt
      have hno : okAt i (s[i]'hlt).toNat = false → lettersB s = false := letters_no hlt
      have hyes : okAt i (s[i]'hlt).toNat = true → ∀ k (hk : k < s.size), k < i + 1 → okAt k (s[k]'hk).toNat = true := fun h => step_ok rfl h hok
      generalize s[i]'hlt = b at hno hyes hb
      repeat' (first
        | with_reducible refine WP.seq ?_
        | (with_reducible refine WP.region (hn := []) ?_; simp -implicitDefEqProofs [hP, hN, g0, g3, hlt', hb, hw])
        | (with_reducible refine WP.draw (hn := []) (by rw [hP]; kernel_rfl) (by kernel_rfl) ?_; simp -implicitDefEqProofs [hP, hN, g0, g3, hlt', hb, hw]; (try refine ⟨by kernel_rfl, ?_⟩))
        | (with_reducible refine xB_split (by simp [g0, g3, hlt', hb, hw]) (fun hgd => ?_) (fun hgd => ?_) <;> first | (exfalso; simp at hgd; done) | (exfalso; simp at hgd; omega) | simp -implicitDefEqProofs [hP, hN, g0, g3, hlt', hb, hw])
        | (with_reducible refine yB_split (by simp [g0, g3, hlt', hb, hw]) (fun hgd => ?_) (fun hgd => ?_) <;> first | (exfalso; simp at hgd; done) | (exfalso; simp at hgd; omega) | (simp -implicitDefEqProofs [hP, hN, g0, g3, hlt', hb, hw] <;> (try refine ⟨by kernel_rfl, ?_⟩)))
        | with_reducible refine xTwo_intro ?_ ?_
        | (with_reducible refine WP.cond' ?_; simp -implicitDefEqProofs [hP, hN, g0, g3, hlt', hb, hw])
        | (with_reducible refine xCond_split (fun hcd => ?_) (fun hcd => ?_) <;> (try (exfalso; clear hP hN; simp_all; done)) <;> (try (exfalso; simp at *; omega)))
        | with_reducible refine WP.block ?_
        | (with_reducible refine WP.skip ?_; simp [g0, g3, hlt', hb, hw])
        | (with_reducible refine WP.exit ?_; simp [g0, g3, hlt', hb, hw])
        | (with_reducible refine WP.ret ?_; simp [g0, g3, hlt', hb, hw]))
      all_goals clear hw hP hN g0 g3 hb hok h3 h3' hf h1 h1' h2 h2'
      all_goals first | (refine hno ?_; clear hno hyes; simp [okAt, lowB, digB] at *; done) | (refine hno ?_; clear hno hyes; simp [okAt, lowB, digB] at *; omega) | (refine ⟨hlt, hyes ?_⟩; clear hno hyes; simp [okAt, lowB, digB] at *; done) | (refine ⟨hlt, hyes ?_⟩; clear hno hyes; simp [okAt, lowB, digB] at *; omega)
    · have hlt' : ¬ (i : Int) < s.size := by omega
      repeat' (first
        | with_reducible refine WP.seq ?_
        | (with_reducible refine WP.region (hn := []) ?_; simp -implicitDefEqProofs [hP, hN, g0, g3, hlt'])
        | (with_reducible refine WP.draw (hn := []) (by rw [hP]; kernel_rfl) (by kernel_rfl) ?_; simp -implicitDefEqProofs [hP, hN, g0, g3, hlt']; (try refine ⟨by kernel_rfl, ?_⟩))
        | (with_reducible refine xB_split (by simp [g0, g3, hlt']) (fun hgd => ?_) (fun hgd => ?_) <;> first | (exfalso; simp at hgd; done) | (exfalso; simp at hgd; omega) | simp -implicitDefEqProofs [hP, hN, g0, g3, hlt'])
        | (with_reducible refine yB_split (by simp [g0, g3, hlt']) (fun hgd => ?_) (fun hgd => ?_) <;> first | (exfalso; simp at hgd; done) | (exfalso; simp at hgd; omega) | (simp -implicitDefEqProofs [hP, hN, g0, g3, hlt'] <;> (try refine ⟨by kernel_rfl, ?_⟩)))
        | with_reducible refine xTwo_intro ?_ ?_
        | (with_reducible refine WP.cond' ?_; simp -implicitDefEqProofs [hP, hN, g0, g3, hlt'])
        | (with_reducible refine xCond_split (fun hcd => ?_) (fun hcd => ?_) <;> (try (exfalso; clear hP hN; simp_all; done)) <;> (try (exfalso; simp at *; omega)))
        | with_reducible refine WP.block ?_
        | (with_reducible refine WP.skip ?_; simp [g0, g3, hlt'])
        | (with_reducible refine WP.exit ?_; simp [g0, g3, hlt'])
        | (with_reducible refine WP.ret ?_; simp [g0, g3, hlt']))
      exact letters_yes (fun k hk => hok k hk (by omega))
/-! one joint -/
def inB (x m : Int) : Bool := decide (-m ≤ x) && decide (x ≤ m)
def nearB (x y z m : Int) : Bool := inB x m && inB y m && inB z m
abbrev encV (x y z : Int) : PV := .val (.agg #[.int .i64 x, .int .i64 y, .int .i64 z])
theorem wl1 : IntKind.i64.wrap 1 = 1 := by decide
theorem wl2 : IntKind.i64.wrap 2 = 2 := by decide
theorem wl3 : IntKind.i64.wrap 3 = 3 := by decide
theorem fin3 {i : Nat} (h : i ≤ 3) : i = 0 ∨ i = 1 ∨ i = 2 ∨ i = 3 := by omega
set_option maxHeartbeats 2000000 in
theorem d189 (x y z m : Int) (hm : 0 ≤ m) (hm' : m < 4611686018427387904) : DetH Try.prog 189 [.pv (encV x y z), .pv (Z m)] [] [] (.pv (B (nearB x y z m))) := by
  have hw : IntKind.i64.wrap (0 - m) = -m := (wr_id (n := 0 - m) (by omega) (by omega)).trans (by omega)
  have hw2 : IntKind.i64.wrap (-m) = -m := wr_id (by omega) (by omega)
  refine detP_of Try.func189 rfl (by kernel_rfl) (by simp [Try.f189]) rfl ?_
  intro C hP hN
  simp only [Try.f189] at hN ⊢
  repeat' (first
    | with_reducible refine WP.seq ?_
    | (with_reducible refine WP.region (hn := []) ?_; simp -implicitDefEqProofs [hP, hN])
    | (with_reducible refine WP.draw (hn := []) (by rw [hP]; kernel_rfl) (by kernel_rfl) ?_; simp -implicitDefEqProofs [hP, hN]; (try refine ⟨by kernel_rfl, ?_⟩))
    | (with_reducible refine xB_split (by simp) (fun hgd => ?_) (fun hgd => ?_) <;> first | (exfalso; simp at hgd; done) | (exfalso; simp at hgd; omega) | simp -implicitDefEqProofs [hP, hN])
    | (with_reducible refine yB_split (by simp) (fun hgd => ?_) (fun hgd => ?_) <;> first | (exfalso; simp at hgd; done) | (exfalso; simp at hgd; omega) | (simp -implicitDefEqProofs [hP, hN] <;> (try refine ⟨by kernel_rfl, ?_⟩)))
    | with_reducible refine xTwo_intro ?_ ?_
    | (with_reducible refine WP.cond' ?_; simp -implicitDefEqProofs [hP, hN])
    | (with_reducible refine xCond_split (fun hcd => ?_) (fun hcd => ?_) <;> (try (exfalso; clear hP hN; simp_all; done)) <;> (try (exfalso; simp at *; omega)))
    | with_reducible refine WP.block ?_
    | (with_reducible refine WP.skip ?_; simp)
    | (with_reducible refine WP.exit ?_; simp)
    | (with_reducible refine WP.ret ?_; simp))
  refine WP.loopN [] 3 (fun i st => st.t 1 = .pv (Z m) ∧ st.t 2 = .ptr 2 0 ∧ st.h 2 = some (.box [.pv (Z x), .pv (Z y), .pv (Z z)] true false) ∧ st.t 5 = .pv (Z i) ∧ (0 < i → inB x m = true) ∧ (1 < i → inB y m = true) ∧ (2 < i → inB z m = true)) (by simp) ?_
  rintro i st hi ⟨h1, h2, hb, h5, q0, q1, q2⟩
  rcases fin3 hi with rfl | rfl | rfl | rfl
  · skip
    repeat' (first
      | with_reducible refine WP.seq ?_
      | (with_reducible refine WP.region (hn := []) ?_; simp -implicitDefEqProofs [hP, hN, h1, h2, hb, h5, hw, hw2])
      | (with_reducible refine WP.draw (hn := []) (by rw [hP]; kernel_rfl) (by kernel_rfl) ?_; simp -implicitDefEqProofs [hP, hN, h1, h2, hb, h5, hw, hw2]; (try refine ⟨by kernel_rfl, ?_⟩))
      | (with_reducible refine xB_split (by simp [h1, h2, hb, h5, hw, hw2]) (fun hgd => ?_) (fun hgd => ?_) <;> first | (exfalso; simp at hgd; done) | (exfalso; simp at hgd; omega) | simp -implicitDefEqProofs [hP, hN, h1, h2, hb, h5, hw, hw2])
      | (with_reducible refine yB_split (by simp [h1, h2, hb, h5, hw, hw2]) (fun hgd => ?_) (fun hgd => ?_) <;> first | (exfalso; simp at hgd; done) | (exfalso; simp at hgd; omega) | (simp -implicitDefEqProofs [hP, hN, h1, h2, hb, h5, hw, hw2] <;> (try refine ⟨by kernel_rfl, ?_⟩)))
      | with_reducible refine xTwo_intro ?_ ?_
      | (with_reducible refine WP.cond' ?_; simp -implicitDefEqProofs [hP, hN, h1, h2, hb, h5, hw, hw2])
      | (with_reducible refine xCond_split (fun hcd => ?_) (fun hcd => ?_) <;> (try (exfalso; clear hP hN; simp_all; done)) <;> (try (exfalso; simp at *; omega)))
      | with_reducible refine WP.block ?_
      | (with_reducible refine WP.skip ?_; simp [h1, h2, hb, h5, hw, hw2])
      | (with_reducible refine WP.exit ?_; simp [h1, h2, hb, h5, hw, hw2])
      | (with_reducible refine WP.ret ?_; simp [h1, h2, hb, h5, hw, hw2]))
    all_goals (simp [nearB, inB, wl1, wl2, wl3] at *; first | omega | grind)
  · skip
    repeat' (first
      | with_reducible refine WP.seq ?_
      | (with_reducible refine WP.region (hn := []) ?_; simp -implicitDefEqProofs [hP, hN, h1, h2, hb, h5, hw, hw2])
      | (with_reducible refine WP.draw (hn := []) (by rw [hP]; kernel_rfl) (by kernel_rfl) ?_; simp -implicitDefEqProofs [hP, hN, h1, h2, hb, h5, hw, hw2]; (try refine ⟨by kernel_rfl, ?_⟩))
      | (with_reducible refine xB_split (by simp [h1, h2, hb, h5, hw, hw2]) (fun hgd => ?_) (fun hgd => ?_) <;> first | (exfalso; simp at hgd; done) | (exfalso; simp at hgd; omega) | simp -implicitDefEqProofs [hP, hN, h1, h2, hb, h5, hw, hw2])
      | (with_reducible refine yB_split (by simp [h1, h2, hb, h5, hw, hw2]) (fun hgd => ?_) (fun hgd => ?_) <;> first | (exfalso; simp at hgd; done) | (exfalso; simp at hgd; omega) | (simp -implicitDefEqProofs [hP, hN, h1, h2, hb, h5, hw, hw2] <;> (try refine ⟨by kernel_rfl, ?_⟩)))
      | with_reducible refine xTwo_intro ?_ ?_
      | (with_reducible refine WP.cond' ?_; simp -implicitDefEqProofs [hP, hN, h1, h2, hb, h5, hw, hw2])
      | (with_reducible refine xCond_split (fun hcd => ?_) (fun hcd => ?_) <;> (try (exfalso; clear hP hN; simp_all; done)) <;> (try (exfalso; simp at *; omega)))
      | with_reducible refine WP.block ?_
      | (with_reducible refine WP.skip ?_; simp [h1, h2, hb, h5, hw, hw2])
      | (with_reducible refine WP.exit ?_; simp [h1, h2, hb, h5, hw, hw2])
      | (with_reducible refine WP.ret ?_; simp [h1, h2, hb, h5, hw, hw2]))
    all_goals (simp [nearB, inB, wl1, wl2, wl3] at *; first | omega | grind)
  · skip
    repeat' (first
      | with_reducible refine WP.seq ?_
      | (with_reducible refine WP.region (hn := []) ?_; simp -implicitDefEqProofs [hP, hN, h1, h2, hb, h5, hw, hw2])
      | (with_reducible refine WP.draw (hn := []) (by rw [hP]; kernel_rfl) (by kernel_rfl) ?_; simp -implicitDefEqProofs [hP, hN, h1, h2, hb, h5, hw, hw2]; (try refine ⟨by kernel_rfl, ?_⟩))
      | (with_reducible refine xB_split (by simp [h1, h2, hb, h5, hw, hw2]) (fun hgd => ?_) (fun hgd => ?_) <;> first | (exfalso; simp at hgd; done) | (exfalso; simp at hgd; omega) | simp -implicitDefEqProofs [hP, hN, h1, h2, hb, h5, hw, hw2])
      | (with_reducible refine yB_split (by simp [h1, h2, hb, h5, hw, hw2]) (fun hgd => ?_) (fun hgd => ?_) <;> first | (exfalso; simp at hgd; done) | (exfalso; simp at hgd; omega) | (simp -implicitDefEqProofs [hP, hN, h1, h2, hb, h5, hw, hw2] <;> (try refine ⟨by kernel_rfl, ?_⟩)))
      | with_reducible refine xTwo_intro ?_ ?_
      | (with_reducible refine WP.cond' ?_; simp -implicitDefEqProofs [hP, hN, h1, h2, hb, h5, hw, hw2])
      | (with_reducible refine xCond_split (fun hcd => ?_) (fun hcd => ?_) <;> (try (exfalso; clear hP hN; simp_all; done)) <;> (try (exfalso; simp at *; omega)))
      | with_reducible refine WP.block ?_
      | (with_reducible refine WP.skip ?_; simp [h1, h2, hb, h5, hw, hw2])
      | (with_reducible refine WP.exit ?_; simp [h1, h2, hb, h5, hw, hw2])
      | (with_reducible refine WP.ret ?_; simp [h1, h2, hb, h5, hw, hw2]))
    all_goals (simp [nearB, inB, wl1, wl2, wl3] at *; first | omega | grind)
  · skip
    repeat' (first
      | with_reducible refine WP.seq ?_
      | (with_reducible refine WP.region (hn := []) ?_; simp -implicitDefEqProofs [hP, hN, h1, h2, hb, h5, hw, hw2])
      | (with_reducible refine WP.draw (hn := []) (by rw [hP]; kernel_rfl) (by kernel_rfl) ?_; simp -implicitDefEqProofs [hP, hN, h1, h2, hb, h5, hw, hw2]; (try refine ⟨by kernel_rfl, ?_⟩))
      | (with_reducible refine xB_split (by simp [h1, h2, hb, h5, hw, hw2]) (fun hgd => ?_) (fun hgd => ?_) <;> first | (exfalso; simp at hgd; done) | (exfalso; simp at hgd; omega) | simp -implicitDefEqProofs [hP, hN, h1, h2, hb, h5, hw, hw2])
      | (with_reducible refine yB_split (by simp [h1, h2, hb, h5, hw, hw2]) (fun hgd => ?_) (fun hgd => ?_) <;> first | (exfalso; simp at hgd; done) | (exfalso; simp at hgd; omega) | (simp -implicitDefEqProofs [hP, hN, h1, h2, hb, h5, hw, hw2] <;> (try refine ⟨by kernel_rfl, ?_⟩)))
      | with_reducible refine xTwo_intro ?_ ?_
      | (with_reducible refine WP.cond' ?_; simp -implicitDefEqProofs [hP, hN, h1, h2, hb, h5, hw, hw2])
      | (with_reducible refine xCond_split (fun hcd => ?_) (fun hcd => ?_) <;> (try (exfalso; clear hP hN; simp_all; done)) <;> (try (exfalso; simp at *; omega)))
      | with_reducible refine WP.block ?_
      | (with_reducible refine WP.skip ?_; simp [h1, h2, hb, h5, hw, hw2])
      | (with_reducible refine WP.exit ?_; simp [h1, h2, hb, h5, hw, hw2])
      | (with_reducible refine WP.ret ?_; simp [h1, h2, hb, h5, hw, hw2]))
    all_goals (simp [nearB, inB, wl1, wl2, wl3] at *; first | omega | grind)
def fromB (x a b : Int) : Bool := decide (a ≤ x) && decide (x ≤ b)
theorem d188 (x a b : Int) : DetH Try.prog 188 [.pv (Z x), .pv (Z a), .pv (Z b)] [] [] (.pv (B (fromB x a b))) := by
  refine detP_of Try.func188 rfl (by kernel_rfl) (by simp [Try.f188]) rfl ?_
  intro C hP hN
  simp only [Try.f188] at hN ⊢
  repeat' (first
    | with_reducible refine WP.seq ?_
    | (with_reducible refine WP.region (hn := []) ?_; simp -implicitDefEqProofs [hP, hN])
    | (with_reducible refine WP.draw (hn := []) (by rw [hP]; kernel_rfl) (by kernel_rfl) ?_; simp -implicitDefEqProofs [hP, hN]; (try refine ⟨by kernel_rfl, ?_⟩))
    | (with_reducible refine xB_split (by simp) (fun hgd => ?_) (fun hgd => ?_) <;> first | (exfalso; simp at hgd; done) | (exfalso; simp at hgd; omega) | simp -implicitDefEqProofs [hP, hN])
    | (with_reducible refine yB_split (by simp) (fun hgd => ?_) (fun hgd => ?_) <;> first | (exfalso; simp at hgd; done) | (exfalso; simp at hgd; omega) | (simp -implicitDefEqProofs [hP, hN] <;> (try refine ⟨by kernel_rfl, ?_⟩)))
    | with_reducible refine xTwo_intro ?_ ?_
    | (with_reducible refine WP.cond' ?_; simp -implicitDefEqProofs [hP, hN])
    | (with_reducible refine xCond_split (fun hcd => ?_) (fun hcd => ?_) <;> (try (exfalso; clear hP hN; simp_all; done)) <;> (try (exfalso; simp at *; omega)))
    | with_reducible refine WP.block ?_
    | (with_reducible refine WP.skip ?_; simp)
    | (with_reducible refine WP.exit ?_; simp)
    | (with_reducible refine WP.ret ?_; simp))
  all_goals (first | (simp_all [fromB]; done) | ((try simp_all [fromB]) <;> (try omega) <;> grind))
def limitI (k : Int) : Int := if k = 1 ∨ k = 2 ∨ k = 3 then 524288 else if k = 4 ∨ k = 5 ∨ k = 6 then 4194304 else 0
def reachI (k : Int) : Int := if k = 0 then 0 else if k = 1 ∨ k = 2 ∨ k = 3 then 524288 else 4194304
theorem d191 (k : Int) : DetH Try.prog 191 [.pv (Z k)] [] [] (.pv (Z (reachI k))) := by
  refine detP_of Try.func191 rfl (by kernel_rfl) (by simp [Try.f191]) rfl ?_
  intro C hP hN
  simp only [Try.f191] at hN ⊢
  repeat' (first
    | with_reducible refine WP.seq ?_
    | (with_reducible refine WP.region (hn := []) ?_; simp -implicitDefEqProofs [hP, hN])
    | (with_reducible refine WP.draw (hn := []) (by rw [hP]; kernel_rfl) (by kernel_rfl) ?_; simp -implicitDefEqProofs [hP, hN]; (try refine ⟨by kernel_rfl, ?_⟩))
    | (with_reducible refine xB_split (by simp) (fun hgd => ?_) (fun hgd => ?_) <;> first | (exfalso; simp at hgd; done) | (exfalso; simp at hgd; omega) | simp -implicitDefEqProofs [hP, hN])
    | (with_reducible refine yB_split (by simp) (fun hgd => ?_) (fun hgd => ?_) <;> first | (exfalso; simp at hgd; done) | (exfalso; simp at hgd; omega) | (simp -implicitDefEqProofs [hP, hN] <;> (try refine ⟨by kernel_rfl, ?_⟩)))
    | with_reducible refine xTwo_intro ?_ ?_
    | (with_reducible refine WP.cond' ?_; simp -implicitDefEqProofs [hP, hN])
    | (with_reducible refine xCond_split (fun hcd => ?_) (fun hcd => ?_) <;> (try (exfalso; clear hP hN; simp_all; done)) <;> (try (exfalso; simp at *; omega)))
    | with_reducible refine WP.block ?_
    | (with_reducible refine WP.skip ?_; simp)
    | (with_reducible refine WP.exit ?_; simp)
    | (with_reducible refine WP.ret ?_; simp))
  all_goals (simp [reachI] at *; first | omega | grind)
theorem limit_reach {k : Int} (h0 : 0 ≤ k) (h6 : k ≤ 6) : limitI k = reachI k := by
  have : k = 0 ∨ k = 1 ∨ k = 2 ∨ k = 3 ∨ k = 4 ∨ k = 5 ∨ k = 6 := by omega
  rcases this with rfl | rfl | rfl | rfl | rfl | rfl | rfl <;> rfl
/-! one joint, one mass, a robot -/
def sameN (a b : ByteArray) : Bool := a.toList == b.toList
def dupB (js : List J) (i : Nat) (name : ByteArray) : Bool := (js.take i).any fun j => sameN j.name name
theorem find_dup {js : List J} {i : Nat} (h : i < js.length) : (idxB (fun j => sameN j.name js[i].name) js != (i : Int)) = dupB js i js[i].name := by
  have hs : sameN js[i].name js[i].name = true := by simp [sameN]
  cases hd : dupB js i js[i].name with
  | false =>
    have : idxB (fun j => sameN j.name js[i].name) js = i := idxB_found h (fun j x hj hx => by
      rw [dupB, List.any_eq_false] at hd
      have hm : x ∈ js.take i := List.mem_of_getElem? (by rw [List.getElem?_take, if_pos hj]; exact hx)
      simpa using hd x hm) hs
    rw [this]; simp
  | true =>
    rw [dupB, List.any_eq_true] at hd
    obtain ⟨x, hx, hp⟩ := hd
    obtain ⟨k, hk⟩ := List.getElem?_of_mem hx
    rw [List.getElem?_take] at hk
    split at hk
    · rename_i hki
      simp only [bne_iff_ne, ne_eq]
      intro he
      unfold idxB at he
      cases hf : js.findIdx? (fun j => sameN j.name js[i].name) with
      | none =>
        rw [hf] at he; simp at he
      | some m =>
        rw [hf] at he
        have he' : (m : Int) = (i : Int) := he
        have he : m = i := by omega
        clear he'
        subst he
        rw [List.findIdx?_eq_some_iff_getElem] at hf
        obtain ⟨hl, _, hno⟩ := hf
        have hkl := (List.getElem?_eq_some_iff.1 hk)
        have := hno k hki
        rw [hkl.2] at this
        exact this hp
    · cases hk
def errJ (js : List J) (i : Nat) (j : J) : Int :=
  if (!nameB j.name || dupB js i j.name) = true then 802 else if j.kind < 0 ∨ 6 < j.kind then 803 else if j.parent < -1 ∨ (i : Int) ≤ j.parent then 804 else if nearB j.ox j.oy j.oz 4194304 = false then 805
  else if j.hi < j.lo ∨ j.lo < -reachI j.kind ∨ reachI j.kind < j.hi then 806 else if (fromB j.w 1 1024 && fromB j.sp 1 1048576 && fromB j.ac 1 1048576 && fromB j.tq 1 1099511627776) = false then 807 else 0
theorem reach_range (k : Int) : 0 ≤ reachI k ∧ reachI k ≤ 4194304 := by unfold reachI; repeat' split
                                                                        all_goals omega
abbrev boxJ (j : J) : List AV := [.pv (.val (.string j.name)), .pv (Z j.kind), .pv (Z j.parent), .pv (Z j.ox), .pv (Z j.oy), .pv (Z j.oz), .pv (Z j.lo), .pv (Z j.hi), .pv (Z j.w), .pv (Z j.sp), .pv (Z j.ac), .pv (Z j.tq)]
theorem dup_yes {js : List J} {i k : Nat} {n : ByteArray} (hk : k < i) (hl : k < js.length) (h : sameN js[k].name n = true) : dupB js i n = true := by
  rw [dupB, List.any_eq_true]
  exact ⟨js[k], List.mem_of_getElem? (i := k) (by rw [List.getElem?_take, if_pos hk]; exact List.getElem?_eq_getElem hl), h⟩
theorem dup_no {js : List J} {i : Nat} {n : ByteArray} (h : ∀ m x, m < i → js[m]? = some x → sameN x.name n = false) : dupB js i n = false := by
  rw [dupB, List.any_eq_false]
  intro x hx
  obtain ⟨m, hm⟩ := List.getElem?_of_mem hx
  rw [List.getElem?_take] at hm
  split at hm
  · rename_i h'; simp [h m x h' hm]
  · cases hm
set_option maxHeartbeats 8000000 in
theorem d187 (js : List J) (i : Nat) (hl : js.length ≤ 9223372036854775807) (hi : i < js.length) : DetH Try.prog 187 [.pv (.sl (js.map encJ)), .pv (Z i)] [] [] (.pv (Z (errJ js i js[i]))) := by
  have hx := List.getElem?_eq_getElem hi
  generalize hxx : js[i] = j at hx ⊢
  have hr := reach_range j.kind
  have hng : IntKind.i64.wrap (0 - reachI j.kind) = -reachI j.kind := (wr_id (n := 0 - reachI j.kind) (by omega) (by omega)).trans (by omega)
  have hng' : IntKind.i64.wrap (-reachI j.kind) = -reachI j.kind := wr_id (by omega) (by omega)
  refine detP_of Try.func187 rfl (by kernel_rfl) (by simp [Try.f187]) rfl ?_
  intro C hP hN
  simp only [Try.f187] at hN ⊢
  cases hn : nameB j.name with
  | false =>
    repeat' (first
      | with_reducible refine WP.seq ?_
      | (with_reducible refine WP.region (hn := []) ?_; simp -implicitDefEqProofs [hP, hN, hx, hxx, hn, hi])
      | (with_reducible refine WP.draw (hn := []) (by rw [hP]; kernel_rfl) (by kernel_rfl) ?_; simp -implicitDefEqProofs [hP, hN, hx, hxx, hn, hi]; (try refine ⟨by kernel_rfl, ?_⟩))
      | (with_reducible refine xB_split (by simp [hx, hxx, hn, hi]) (fun hgd => ?_) (fun hgd => ?_) <;> first | (exfalso; simp at hgd; done) | (exfalso; simp at hgd; omega) | simp -implicitDefEqProofs [hP, hN, hx, hxx, hn, hi])
      | (with_reducible refine yB_split (by simp [hx, hxx, hn, hi]) (fun hgd => ?_) (fun hgd => ?_) <;> first | (exfalso; simp at hgd; done) | (exfalso; simp at hgd; omega) | (simp -implicitDefEqProofs [hP, hN, hx, hxx, hn, hi] <;> (try refine ⟨by kernel_rfl, ?_⟩)))
      | (with_reducible refine xC_intro (d190 _) ?_; simp -implicitDefEqProofs [hP, hN, hx, hxx, hn, hi])
      | (with_reducible refine yC_intro (d190 _) ?_; simp -implicitDefEqProofs [hP, hN, hx, hxx, hn, hi]; (try refine ⟨by kernel_rfl, ?_⟩))
      | with_reducible refine xTwo_intro ?_ ?_
      | (with_reducible refine WP.cond' ?_; simp -implicitDefEqProofs [hP, hN, hx, hxx, hn, hi])
      | (with_reducible refine xCond_split (fun hcd => ?_) (fun hcd => ?_) <;> (try (exfalso; clear hP hN; simp_all; done)) <;> (try (exfalso; simp at *; omega)))
      | with_reducible refine WP.block ?_
      | (with_reducible refine WP.skip ?_; simp [hx, hxx, hn, hi])
      | (with_reducible refine WP.exit ?_; simp [hx, hxx, hn, hi])
      | (with_reducible refine WP.ret ?_; simp [hx, hxx, hn, hi]))
    all_goals simp [errJ, hn]
  | true =>
    repeat' (first
      | with_reducible refine WP.seq ?_
      | (with_reducible refine WP.region (hn := []) ?_; simp -implicitDefEqProofs [hP, hN, hx, hxx, hn, hi])
      | (with_reducible refine WP.draw (hn := []) (by rw [hP]; kernel_rfl) (by kernel_rfl) ?_; simp -implicitDefEqProofs [hP, hN, hx, hxx, hn, hi]; (try refine ⟨by kernel_rfl, ?_⟩))
      | (with_reducible refine xB_split (by simp [hx, hxx, hn, hi]) (fun hgd => ?_) (fun hgd => ?_) <;> first | (exfalso; simp at hgd; done) | (exfalso; simp at hgd; omega) | simp -implicitDefEqProofs [hP, hN, hx, hxx, hn, hi])
      | (with_reducible refine yB_split (by simp [hx, hxx, hn, hi]) (fun hgd => ?_) (fun hgd => ?_) <;> first | (exfalso; simp at hgd; done) | (exfalso; simp at hgd; omega) | (simp -implicitDefEqProofs [hP, hN, hx, hxx, hn, hi] <;> (try refine ⟨by kernel_rfl, ?_⟩)))
      | (with_reducible refine xC_intro (d190 _) ?_; simp -implicitDefEqProofs [hP, hN, hx, hxx, hn, hi])
      | (with_reducible refine yC_intro (d190 _) ?_; simp -implicitDefEqProofs [hP, hN, hx, hxx, hn, hi]; (try refine ⟨by kernel_rfl, ?_⟩))
      | with_reducible refine xTwo_intro ?_ ?_
      | (with_reducible refine WP.cond' ?_; simp -implicitDefEqProofs [hP, hN, hx, hxx, hn, hi])
      | (with_reducible refine xCond_split (fun hcd => ?_) (fun hcd => ?_) <;> (try (exfalso; clear hP hN; simp_all; done)) <;> (try (exfalso; simp at *; omega)))
      | with_reducible refine WP.block ?_
      | (with_reducible refine WP.skip ?_; simp [hx, hxx, hn, hi])
      | (with_reducible refine WP.exit ?_; simp [hx, hxx, hn, hi])
      | (with_reducible refine WP.ret ?_; simp [hx, hxx, hn, hi]))
    refine WP.loopN [] i (fun k st => st.t 0 = .pv (.sl (js.map encJ)) ∧ st.t 1 = .pv (Z i) ∧ st.t 5 = .ptr 5 0 ∧ st.h 5 = some (.box (boxJ j) true false) ∧ st.t 6 = .pv (Z k) ∧ ∀ m x, m < k → js[m]? = some x → sameN x.name j.name = false) (by simp) ?_
    rintro k st hk ⟨g0, g1, g5, hb5, g6, hq⟩
    by_cases hlt : k < i
    · have hlt' : k < js.length := by omega
      have hw := wr_succ hlt' hl
      have hlti : (k : Int) < (i : Int) := by omega
      cases hs : sameN js[k].name j.name with
      | true =>
        have hs' : (js[k].name.toList == j.name.toList) = true := hs
        have hd := dup_yes hlt hlt' hs
        repeat' (first
          | with_reducible refine WP.seq ?_
          | (with_reducible refine WP.region (hn := []) ?_; simp -implicitDefEqProofs [hP, hN, g0, g1, g5, hb5, g6, hlt, hlt', hw, hs', hlti])
          | (with_reducible refine WP.draw (hn := []) (by rw [hP]; kernel_rfl) (by kernel_rfl) ?_; simp -implicitDefEqProofs [hP, hN, g0, g1, g5, hb5, g6, hlt, hlt', hw, hs', hlti]; (try refine ⟨by kernel_rfl, ?_⟩))
          | (with_reducible refine xB_split (by simp [g0, g1, g5, hb5, g6, hlt, hlt', hw, hs', hlti]) (fun hgd => ?_) (fun hgd => ?_) <;> first | (exfalso; simp at hgd; done) | (exfalso; simp at hgd; omega) | simp -implicitDefEqProofs [hP, hN, g0, g1, g5, hb5, g6, hlt, hlt', hw, hs', hlti])
          | (with_reducible refine yB_split (by simp [g0, g1, g5, hb5, g6, hlt, hlt', hw, hs', hlti]) (fun hgd => ?_) (fun hgd => ?_) <;> first | (exfalso; simp at hgd; done) | (exfalso; simp at hgd; omega) | (simp -implicitDefEqProofs [hP, hN, g0, g1, g5, hb5, g6, hlt, hlt', hw, hs', hlti] <;> (try refine ⟨by kernel_rfl, ?_⟩)))
          | with_reducible refine xTwo_intro ?_ ?_
          | (with_reducible refine WP.cond' ?_; simp -implicitDefEqProofs [hP, hN, g0, g1, g5, hb5, g6, hlt, hlt', hw, hs', hlti])
          | (with_reducible refine xCond_split (fun hcd => ?_) (fun hcd => ?_) <;> (try (exfalso; clear hP hN; simp_all; done)) <;> (try (exfalso; simp at *; omega)))
          | with_reducible refine WP.block ?_
          | (with_reducible refine WP.skip ?_; simp [g0, g1, g5, hb5, g6, hlt, hlt', hw, hs', hlti])
          | (with_reducible refine WP.exit ?_; simp [g0, g1, g5, hb5, g6, hlt, hlt', hw, hs', hlti])
          | (with_reducible refine WP.ret ?_; simp [g0, g1, g5, hb5, g6, hlt, hlt', hw, hs', hlti]))
        all_goals simp [errJ, hn, hd]
      | false =>
        have hs' : (js[k].name.toList == j.name.toList) = false := hs
        repeat' (first
          | with_reducible refine WP.seq ?_
          | (with_reducible refine WP.region (hn := []) ?_; simp -implicitDefEqProofs [hP, hN, g0, g1, g5, hb5, g6, hlt, hlt', hw, hs', hlti])
          | (with_reducible refine WP.draw (hn := []) (by rw [hP]; kernel_rfl) (by kernel_rfl) ?_; simp -implicitDefEqProofs [hP, hN, g0, g1, g5, hb5, g6, hlt, hlt', hw, hs', hlti]; (try refine ⟨by kernel_rfl, ?_⟩))
          | (with_reducible refine xB_split (by simp [g0, g1, g5, hb5, g6, hlt, hlt', hw, hs', hlti]) (fun hgd => ?_) (fun hgd => ?_) <;> first | (exfalso; simp at hgd; done) | (exfalso; simp at hgd; omega) | simp -implicitDefEqProofs [hP, hN, g0, g1, g5, hb5, g6, hlt, hlt', hw, hs', hlti])
          | (with_reducible refine yB_split (by simp [g0, g1, g5, hb5, g6, hlt, hlt', hw, hs', hlti]) (fun hgd => ?_) (fun hgd => ?_) <;> first | (exfalso; simp at hgd; done) | (exfalso; simp at hgd; omega) | (simp -implicitDefEqProofs [hP, hN, g0, g1, g5, hb5, g6, hlt, hlt', hw, hs', hlti] <;> (try refine ⟨by kernel_rfl, ?_⟩)))
          | with_reducible refine xTwo_intro ?_ ?_
          | (with_reducible refine WP.cond' ?_; simp -implicitDefEqProofs [hP, hN, g0, g1, g5, hb5, g6, hlt, hlt', hw, hs', hlti])
          | (with_reducible refine xCond_split (fun hcd => ?_) (fun hcd => ?_) <;> (try (exfalso; clear hP hN; simp_all; done)) <;> (try (exfalso; simp at *; omega)))
          | with_reducible refine WP.block ?_
          | (with_reducible refine WP.skip ?_; simp [g0, g1, g5, hb5, g6, hlt, hlt', hw, hs', hlti])
          | (with_reducible refine WP.exit ?_; simp [g0, g1, g5, hb5, g6, hlt, hlt', hw, hs', hlti])
          | (with_reducible refine WP.ret ?_; simp [g0, g1, g5, hb5, g6, hlt, hlt', hw, hs', hlti]))
        all_goals simpa using prev_step hlt' hq hs
    · have hki : k = i := by omega
      subst hki
      have hd := dup_no hq
      by_cases hk : j.kind < 0 ∨ 6 < j.kind
      · skip
        repeat' (first
          | with_reducible refine WP.seq ?_
          | (with_reducible refine WP.region (hn := []) ?_; simp -implicitDefEqProofs [hP, hN, g0, g1, g5, hb5, g6])
          | (with_reducible refine WP.draw (hn := []) (by rw [hP]; kernel_rfl) (by kernel_rfl) ?_; simp -implicitDefEqProofs [hP, hN, g0, g1, g5, hb5, g6]; (try refine ⟨by kernel_rfl, ?_⟩))
          | (with_reducible refine xB_split (by simp [g0, g1, g5, hb5, g6]) (fun hgd => ?_) (fun hgd => ?_) <;> first | (exfalso; simp at hgd; done) | (exfalso; simp at hgd; omega) | simp -implicitDefEqProofs [hP, hN, g0, g1, g5, hb5, g6])
          | (with_reducible refine yB_split (by simp [g0, g1, g5, hb5, g6]) (fun hgd => ?_) (fun hgd => ?_) <;> first | (exfalso; simp at hgd; done) | (exfalso; simp at hgd; omega) | (simp -implicitDefEqProofs [hP, hN, g0, g1, g5, hb5, g6] <;> (try refine ⟨by kernel_rfl, ?_⟩)))
          | with_reducible refine xTwo_intro ?_ ?_
          | (with_reducible refine WP.cond' ?_; simp -implicitDefEqProofs [hP, hN, g0, g1, g5, hb5, g6])
          | (with_reducible refine xCond_split (fun hcd => ?_) (fun hcd => ?_) <;> (try (exfalso; clear hP hN; simp_all; done)) <;> (try (exfalso; simp at *; omega)))
          | with_reducible refine WP.block ?_
          | (with_reducible refine WP.skip ?_; simp [g0, g1, g5, hb5, g6])
          | (with_reducible refine WP.exit ?_; simp [g0, g1, g5, hb5, g6])
          | (with_reducible refine WP.ret ?_; simp [g0, g1, g5, hb5, g6]))
        all_goals (first | (simp [errJ, hn, hd, hk]; done) | (exfalso; simp at *; omega))
      · have k1 : ¬ j.kind < 0 := by omega
        have k2 : ¬ 6 < j.kind := by omega
        by_cases hp : j.parent < -1 ∨ (k : Int) ≤ j.parent
        · skip
          repeat' (first
            | with_reducible refine WP.seq ?_
            | (with_reducible refine WP.region (hn := []) ?_; simp -implicitDefEqProofs [hP, hN, g0, g1, g5, hb5, g6, k1, k2])
            | (with_reducible refine WP.draw (hn := []) (by rw [hP]; kernel_rfl) (by kernel_rfl) ?_; simp -implicitDefEqProofs [hP, hN, g0, g1, g5, hb5, g6, k1, k2]; (try refine ⟨by kernel_rfl, ?_⟩))
            | (with_reducible refine xB_split (by simp [g0, g1, g5, hb5, g6, k1, k2]) (fun hgd => ?_) (fun hgd => ?_) <;> first | (exfalso; simp at hgd; done) | (exfalso; simp at hgd; omega) | simp -implicitDefEqProofs [hP, hN, g0, g1, g5, hb5, g6, k1, k2])
            | (with_reducible refine yB_split (by simp [g0, g1, g5, hb5, g6, k1, k2]) (fun hgd => ?_) (fun hgd => ?_) <;> first | (exfalso; simp at hgd; done) | (exfalso; simp at hgd; omega) | (simp -implicitDefEqProofs [hP, hN, g0, g1, g5, hb5, g6, k1, k2] <;> (try refine ⟨by kernel_rfl, ?_⟩)))
            | with_reducible refine xTwo_intro ?_ ?_
            | (with_reducible refine WP.cond' ?_; simp -implicitDefEqProofs [hP, hN, g0, g1, g5, hb5, g6, k1, k2])
            | (with_reducible refine xCond_split (fun hcd => ?_) (fun hcd => ?_) <;> (try (exfalso; clear hP hN; simp_all; done)) <;> (try (exfalso; simp at *; omega)))
            | with_reducible refine WP.block ?_
            | (with_reducible refine WP.skip ?_; simp [g0, g1, g5, hb5, g6, k1, k2])
            | (with_reducible refine WP.exit ?_; simp [g0, g1, g5, hb5, g6, k1, k2])
            | (with_reducible refine WP.ret ?_; simp [g0, g1, g5, hb5, g6, k1, k2]))
          all_goals (first | (simp [errJ, hn, hd, hk, hp]; done) | (exfalso; simp at *; omega))
        · have p1 : ¬ j.parent < -1 := by omega
          have p2 : ¬ (k : Int) ≤ j.parent := by omega
          cases hv : nearB j.ox j.oy j.oz 4194304 with
          | false =>
            repeat' (first
              | with_reducible refine WP.seq ?_
              | (with_reducible refine WP.region (hn := []) ?_; simp -implicitDefEqProofs [hP, hN, g0, g1, g5, hb5, g6, k1, k2, p1, p2, hv])
              | (with_reducible refine WP.draw (hn := []) (by rw [hP]; kernel_rfl) (by kernel_rfl) ?_; simp -implicitDefEqProofs [hP, hN, g0, g1, g5, hb5, g6, k1, k2, p1, p2, hv]; (try refine ⟨by kernel_rfl, ?_⟩))
              | (with_reducible refine xB_split (by simp [g0, g1, g5, hb5, g6, k1, k2, p1, p2, hv]) (fun hgd => ?_) (fun hgd => ?_) <;> first | (exfalso; simp at hgd; done) | (exfalso; simp at hgd; omega) | simp -implicitDefEqProofs [hP, hN, g0, g1, g5, hb5, g6, k1, k2, p1, p2, hv])
              | (with_reducible refine yB_split (by simp [g0, g1, g5, hb5, g6, k1, k2, p1, p2, hv]) (fun hgd => ?_) (fun hgd => ?_) <;> first | (exfalso; simp at hgd; done) | (exfalso; simp at hgd; omega) | (simp -implicitDefEqProofs [hP, hN, g0, g1, g5, hb5, g6, k1, k2, p1, p2, hv] <;> (try refine ⟨by kernel_rfl, ?_⟩)))
              | (with_reducible refine xC_intro (d189 _ _ _ _ (by decide) (by decide)) ?_; simp -implicitDefEqProofs [hP, hN, g0, g1, g5, hb5, g6, k1, k2, p1, p2, hv])
              | (with_reducible refine yC_intro (d189 _ _ _ _ (by decide) (by decide)) ?_; simp -implicitDefEqProofs [hP, hN, g0, g1, g5, hb5, g6, k1, k2, p1, p2, hv]; (try refine ⟨by kernel_rfl, ?_⟩))
              | with_reducible refine xTwo_intro ?_ ?_
              | (with_reducible refine WP.cond' ?_; simp -implicitDefEqProofs [hP, hN, g0, g1, g5, hb5, g6, k1, k2, p1, p2, hv])
              | (with_reducible refine xCond_split (fun hcd => ?_) (fun hcd => ?_) <;> (try (exfalso; clear hP hN; simp_all; done)) <;> (try (exfalso; simp at *; omega)))
              | with_reducible refine WP.block ?_
              | (with_reducible refine WP.skip ?_; simp [g0, g1, g5, hb5, g6, k1, k2, p1, p2, hv])
              | (with_reducible refine WP.exit ?_; simp [g0, g1, g5, hb5, g6, k1, k2, p1, p2, hv])
              | (with_reducible refine WP.ret ?_; simp [g0, g1, g5, hb5, g6, k1, k2, p1, p2, hv]))
            all_goals (simp [errJ, hn, hd, hk, hp, hv])
          | true =>
            by_cases hb : j.hi < j.lo ∨ j.lo < -reachI j.kind ∨ reachI j.kind < j.hi
            · skip
              repeat' (first
                | with_reducible refine WP.seq ?_
                | (with_reducible refine WP.region (hn := []) ?_; simp -implicitDefEqProofs [hP, hN, g0, g1, g5, hb5, g6, k1, k2, p1, p2, hv, hng, hng'])
                | (with_reducible refine WP.draw (hn := []) (by rw [hP]; kernel_rfl) (by kernel_rfl) ?_; simp -implicitDefEqProofs [hP, hN, g0, g1, g5, hb5, g6, k1, k2, p1, p2, hv, hng, hng']; (try refine ⟨by kernel_rfl, ?_⟩))
                | (with_reducible refine xB_split (by simp [g0, g1, g5, hb5, g6, k1, k2, p1, p2, hv, hng, hng']) (fun hgd => ?_) (fun hgd => ?_) <;> first | (exfalso; simp at hgd; done) | (exfalso; simp at hgd; omega) | simp -implicitDefEqProofs [hP, hN, g0, g1, g5, hb5, g6, k1, k2, p1, p2, hv, hng, hng'])
                | (with_reducible refine yB_split (by simp [g0, g1, g5, hb5, g6, k1, k2, p1, p2, hv, hng, hng']) (fun hgd => ?_) (fun hgd => ?_) <;> first | (exfalso; simp at hgd; done) | (exfalso; simp at hgd; omega) | (simp -implicitDefEqProofs [hP, hN, g0, g1, g5, hb5, g6, k1, k2, p1, p2, hv, hng, hng'] <;> (try refine ⟨by kernel_rfl, ?_⟩)))
                | (with_reducible refine xC_intro (d189 _ _ _ _ (by decide) (by decide)) ?_; simp -implicitDefEqProofs [hP, hN, g0, g1, g5, hb5, g6, k1, k2, p1, p2, hv, hng, hng'])
                | (with_reducible refine yC_intro (d189 _ _ _ _ (by decide) (by decide)) ?_; simp -implicitDefEqProofs [hP, hN, g0, g1, g5, hb5, g6, k1, k2, p1, p2, hv, hng, hng']; (try refine ⟨by kernel_rfl, ?_⟩))
                | (with_reducible refine xC_intro (d191 _) ?_; simp -implicitDefEqProofs [hP, hN, g0, g1, g5, hb5, g6, k1, k2, p1, p2, hv, hng, hng'])
                | (with_reducible refine yC_intro (d191 _) ?_; simp -implicitDefEqProofs [hP, hN, g0, g1, g5, hb5, g6, k1, k2, p1, p2, hv, hng, hng']; (try refine ⟨by kernel_rfl, ?_⟩))
                | with_reducible refine xTwo_intro ?_ ?_
                | (with_reducible refine WP.cond' ?_; simp -implicitDefEqProofs [hP, hN, g0, g1, g5, hb5, g6, k1, k2, p1, p2, hv, hng, hng'])
                | (with_reducible refine xCond_split (fun hcd => ?_) (fun hcd => ?_) <;> (try (exfalso; clear hP hN; simp_all; done)) <;> (try (exfalso; simp at *; omega)))
                | with_reducible refine WP.block ?_
                | (with_reducible refine WP.skip ?_; simp [g0, g1, g5, hb5, g6, k1, k2, p1, p2, hv, hng, hng'])
                | (with_reducible refine WP.exit ?_; simp [g0, g1, g5, hb5, g6, k1, k2, p1, p2, hv, hng, hng'])
                | (with_reducible refine WP.ret ?_; simp [g0, g1, g5, hb5, g6, k1, k2, p1, p2, hv, hng, hng']))
              all_goals (first | (simp [errJ, hn, hd, hk, hp, hv, hb]; done) | (exfalso; simp at *; omega))
            · have b1 : ¬ j.hi < j.lo := by omega
              have b2 : ¬ j.lo < -reachI j.kind := by omega
              have b3 : ¬ reachI j.kind < j.hi := by omega
              repeat' (first
                | with_reducible refine WP.seq ?_
                | (with_reducible refine WP.region (hn := []) ?_; simp -implicitDefEqProofs [hP, hN, g0, g1, g5, hb5, g6, k1, k2, p1, p2, hv, hng, hng', b1, b2, b3])
                | (with_reducible refine WP.draw (hn := []) (by rw [hP]; kernel_rfl) (by kernel_rfl) ?_; simp -implicitDefEqProofs [hP, hN, g0, g1, g5, hb5, g6, k1, k2, p1, p2, hv, hng, hng', b1, b2, b3]; (try refine ⟨by kernel_rfl, ?_⟩))
                | (with_reducible refine xB_split (by simp [g0, g1, g5, hb5, g6, k1, k2, p1, p2, hv, hng, hng', b1, b2, b3]) (fun hgd => ?_) (fun hgd => ?_) <;> first | (exfalso; simp at hgd; done) | (exfalso; simp at hgd; omega) | simp -implicitDefEqProofs [hP, hN, g0, g1, g5, hb5, g6, k1, k2, p1, p2, hv, hng, hng', b1, b2, b3])
                | (with_reducible refine yB_split (by simp [g0, g1, g5, hb5, g6, k1, k2, p1, p2, hv, hng, hng', b1, b2, b3]) (fun hgd => ?_) (fun hgd => ?_) <;> first | (exfalso; simp at hgd; done) | (exfalso; simp at hgd; omega) | (simp -implicitDefEqProofs [hP, hN, g0, g1, g5, hb5, g6, k1, k2, p1, p2, hv, hng, hng', b1, b2, b3] <;> (try refine ⟨by kernel_rfl, ?_⟩)))
                | (with_reducible refine xC_intro (d189 _ _ _ _ (by decide) (by decide)) ?_; simp -implicitDefEqProofs [hP, hN, g0, g1, g5, hb5, g6, k1, k2, p1, p2, hv, hng, hng', b1, b2, b3])
                | (with_reducible refine yC_intro (d189 _ _ _ _ (by decide) (by decide)) ?_; simp -implicitDefEqProofs [hP, hN, g0, g1, g5, hb5, g6, k1, k2, p1, p2, hv, hng, hng', b1, b2, b3]; (try refine ⟨by kernel_rfl, ?_⟩))
                | (with_reducible refine xC_intro (d191 _) ?_; simp -implicitDefEqProofs [hP, hN, g0, g1, g5, hb5, g6, k1, k2, p1, p2, hv, hng, hng', b1, b2, b3])
                | (with_reducible refine yC_intro (d191 _) ?_; simp -implicitDefEqProofs [hP, hN, g0, g1, g5, hb5, g6, k1, k2, p1, p2, hv, hng, hng', b1, b2, b3]; (try refine ⟨by kernel_rfl, ?_⟩))
                | (with_reducible refine xC_intro (d188 _ _ _) ?_; simp -implicitDefEqProofs [hP, hN, g0, g1, g5, hb5, g6, k1, k2, p1, p2, hv, hng, hng', b1, b2, b3])
                | (with_reducible refine yC_intro (d188 _ _ _) ?_; simp -implicitDefEqProofs [hP, hN, g0, g1, g5, hb5, g6, k1, k2, p1, p2, hv, hng, hng', b1, b2, b3]; (try refine ⟨by kernel_rfl, ?_⟩))
                | with_reducible refine xTwo_intro ?_ ?_
                | (with_reducible refine WP.cond' ?_; simp -implicitDefEqProofs [hP, hN, g0, g1, g5, hb5, g6, k1, k2, p1, p2, hv, hng, hng', b1, b2, b3])
                | (with_reducible refine xCond_split (fun hcd => ?_) (fun hcd => ?_) <;> (try (exfalso; clear hP hN; simp_all; done)) <;> (try (exfalso; simp at *; omega)))
                | with_reducible refine WP.block ?_
                | (with_reducible refine WP.skip ?_; simp [g0, g1, g5, hb5, g6, k1, k2, p1, p2, hv, hng, hng', b1, b2, b3])
                | (with_reducible refine WP.exit ?_; simp [g0, g1, g5, hb5, g6, k1, k2, p1, p2, hv, hng, hng', b1, b2, b3])
                | (with_reducible refine WP.ret ?_; simp [g0, g1, g5, hb5, g6, k1, k2, p1, p2, hv, hng, hng', b1, b2, b3]))
              all_goals (rw [errJ, if_neg (by simp [hn, hd]), if_neg hk, if_neg hp, if_neg (by simp [hv]), if_neg hb]; simp_all)
end Go.Ab
