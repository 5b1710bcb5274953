/- Contracts: sources. -/
import Derived.Test.YtagmnknighofeaaCf6
set_option linter.all false
namespace Go.Ab
open Go.Proofs
def nx (l : List Int) (n : Nat) (k : Int) : Int := match l[n]? with
  | some x => roundI x k
  | none => 0
def nn (l : List Int) (n : Nat) : Nat := if n < l.length then n + 1 else n

abbrev srcP (l : List Int) (n : Nat) : List PV := [zs l, Z n]
theorem d71 (l : List Int) : DetH Try.prog 71 [.pv (zs l)] [] [] (.box (srcP l 0)) := by
  refine detP_of Try.func71 rfl (by kernel_rfl) (by simp [Try.f71]) rfl ?_
  intro C hP hN
  simp only [Try.f71] at hN ⊢
  repeat' (first
    | with_reducible refine WP.seq ?_
    | (with_reducible refine WP.region (hn := []) ?_; simp -implicitDefEqProofs [hP, hN])
    | (with_reducible refine WP.draw (hn := []) (by rw [hP]; kernel_rfl) (by kernel_rfl) ?_; simp -implicitDefEqProofs [hP, hN]; (try refine ⟨by kernel_rfl, ?_⟩))
    | (with_reducible refine xB_split (by simp) (fun hgd => ?_) (fun hgd => ?_) <;> first | (exfalso; simp at hgd; done) | (exfalso; simp at hgd; omega) | simp -implicitDefEqProofs [hP, hN])
    | (with_reducible refine yB_split (by simp) (fun hgd => ?_) (fun hgd => ?_) <;> first | (exfalso; simp at hgd; done) | (exfalso; simp at hgd; omega) | (simp -implicitDefEqProofs [hP, hN] <;> (try refine ⟨by kernel_rfl, ?_⟩)))
    | with_reducible refine xTwo_intro ?_ ?_
    | (with_reducible refine WP.cond' ?_; simp -implicitDefEqProofs [hP, hN])
    | (with_reducible refine xCond_split (fun hcd => ?_) (fun hcd => ?_) <;> (try (exfalso; clear hP hN; simp_all; done)) <;> (try (exfalso; simp at *; omega)))
    | with_reducible refine WP.block ?_
    | (with_reducible refine WP.skip ?_; simp)
    | (with_reducible refine WP.exit ?_; simp)
    | (with_reducible refine WP.ret ?_; simp))
  all_goals (first | (simp_all; done) | ((try simp_all) <;> (try omega) <;> grind))
theorem nn_le (l : List Int) (n : Nat) : nn l n ≤ n + 1 := by unfold nn; split <;> omega
theorem d75 (l : List Int) (n : Nat) (k : Int) (hk : k ≠ 0) (hn : n < 1000000) : DetH Try.prog 75 [.bx 0, .pv (Z k)] [srcP l n] [srcP l (nn l n)] (.pv (Z (nx l n k))) := by
  have hw : IntKind.i64.wrap ((n : Int) + 1) = (n : Int) + 1 := by rw [IntKind.wrap_i64]; omega
  have hw' : IntKind.i64.wrap (n : Int) = n := by rw [IntKind.wrap_i64]; omega
  refine detH_of Try.func75 rfl (by kernel_rfl) (by simp [Try.f75]) rfl (by intro i j h; rcases i with _ | _ | _ | i <;> simp_all) ?_
  intro C hP hN
  simp only [Try.f75] at hN ⊢
  by_cases hlt : n < l.length
  · skip
    repeat' (first
      | with_reducible refine WP.seq ?_
      | (with_reducible refine WP.region (hn := []) ?_; simp -implicitDefEqProofs [hP, hN, srcP, hlt, hw, hw', Nat.not_le.2 hlt])
      | (with_reducible refine WP.draw (hn := []) (by rw [hP]; kernel_rfl) (by kernel_rfl) ?_; simp -implicitDefEqProofs [hP, hN, srcP, hlt, hw, hw', Nat.not_le.2 hlt]; (try refine ⟨by kernel_rfl, ?_⟩))
      | (with_reducible refine xB_split (by simp [srcP, hlt, hw, hw', Nat.not_le.2 hlt]) (fun hgd => ?_) (fun hgd => ?_) <;> first | (exfalso; simp at hgd; done) | (exfalso; simp at hgd; omega) | simp -implicitDefEqProofs [hP, hN, srcP, hlt, hw, hw', Nat.not_le.2 hlt])
      | (with_reducible refine yB_split (by simp [srcP, hlt, hw, hw', Nat.not_le.2 hlt]) (fun hgd => ?_) (fun hgd => ?_) <;> first | (exfalso; simp at hgd; done) | (exfalso; simp at hgd; omega) | (simp -implicitDefEqProofs [hP, hN, srcP, hlt, hw, hw', Nat.not_le.2 hlt] <;> (try refine ⟨by kernel_rfl, ?_⟩)))
      | (with_reducible refine xC_intro (d35 _ _ hk) ?_; simp -implicitDefEqProofs [hP, hN, srcP, hlt, hw, hw', Nat.not_le.2 hlt])
      | (with_reducible refine yC_intro (d35 _ _ hk) ?_; simp -implicitDefEqProofs [hP, hN, srcP, hlt, hw, hw', Nat.not_le.2 hlt]; (try refine ⟨by kernel_rfl, ?_⟩))
      | with_reducible refine xTwo_intro ?_ ?_
      | (with_reducible refine WP.cond' ?_; simp -implicitDefEqProofs [hP, hN, srcP, hlt, hw, hw', Nat.not_le.2 hlt])
      | (with_reducible refine xCond_split (fun hcd => ?_) (fun hcd => ?_) <;> (try (exfalso; clear hP hN; simp_all; done)) <;> (try (exfalso; simp at *; omega)))
      | with_reducible refine WP.block ?_
      | (with_reducible refine WP.skip ?_; simp [srcP, hlt, hw, hw', Nat.not_le.2 hlt])
      | (with_reducible refine WP.exit ?_; simp [srcP, hlt, hw, hw', Nat.not_le.2 hlt])
      | (with_reducible refine WP.ret ?_; simp [srcP, hlt, hw, hw', Nat.not_le.2 hlt]))
    simp [nn, nx, hlt]
  · skip
    repeat' (first
      | with_reducible refine WP.seq ?_
      | (with_reducible refine WP.region (hn := []) ?_; simp -implicitDefEqProofs [hP, hN, srcP, hlt, Nat.not_lt.1 hlt])
      | (with_reducible refine WP.draw (hn := []) (by rw [hP]; kernel_rfl) (by kernel_rfl) ?_; simp -implicitDefEqProofs [hP, hN, srcP, hlt, Nat.not_lt.1 hlt]; (try refine ⟨by kernel_rfl, ?_⟩))
      | (with_reducible refine xB_split (by simp [srcP, hlt, Nat.not_lt.1 hlt]) (fun hgd => ?_) (fun hgd => ?_) <;> first | (exfalso; simp at hgd; done) | (exfalso; simp at hgd; omega) | simp -implicitDefEqProofs [hP, hN, srcP, hlt, Nat.not_lt.1 hlt])
      | (with_reducible refine yB_split (by simp [srcP, hlt, Nat.not_lt.1 hlt]) (fun hgd => ?_) (fun hgd => ?_) <;> first | (exfalso; simp at hgd; done) | (exfalso; simp at hgd; omega) | (simp -implicitDefEqProofs [hP, hN, srcP, hlt, Nat.not_lt.1 hlt] <;> (try refine ⟨by kernel_rfl, ?_⟩)))
      | with_reducible refine xTwo_intro ?_ ?_
      | (with_reducible refine WP.cond' ?_; simp -implicitDefEqProofs [hP, hN, srcP, hlt, Nat.not_lt.1 hlt])
      | (with_reducible refine xCond_split (fun hcd => ?_) (fun hcd => ?_) <;> (try (exfalso; clear hP hN; simp_all; done)) <;> (try (exfalso; simp at *; omega)))
      | with_reducible refine WP.block ?_
      | (with_reducible refine WP.skip ?_; simp [srcP, hlt, Nat.not_lt.1 hlt])
      | (with_reducible refine WP.exit ?_; simp [srcP, hlt, Nat.not_lt.1 hlt])
      | (with_reducible refine WP.ret ?_; simp [srcP, hlt, Nat.not_lt.1 hlt]))
    simp [nn, nx, hlt]
theorem d145 (l : List Int) (n : Nat) (k : Int) (h0 : 0 < k) (hk : k < 1000000) (hn : n < 1000000) : DetH Try.prog 145 [.bx 0, .pv (Z k)] [srcP l n] [srcP l (nn l n)] (.pv (Z (wr (nx l n (2 * k + 1) - k)))) := by
  have hw : IntKind.i64.wrap (2 * k) = 2 * k := by rw [IntKind.wrap_i64]; omega
  have hw' : IntKind.i64.wrap (2 * k + 1) = 2 * k + 1 := by rw [IntKind.wrap_i64]; omega
  refine detH_of Try.func145 rfl (by kernel_rfl) (by simp [Try.f145]) rfl (by intro i j h; rcases i with _ | _ | _ | i <;> simp_all) ?_
  intro C hP hN
  simp only [Try.f145] at hN ⊢
  repeat' (first
    | with_reducible refine WP.seq ?_
    | (with_reducible refine WP.region (hn := []) ?_; simp -implicitDefEqProofs [hP, hN, srcP, hw, hw'])
    | (with_reducible refine WP.draw (hn := []) (by rw [hP]; kernel_rfl) (by kernel_rfl) ?_; simp -implicitDefEqProofs [hP, hN, srcP, hw, hw']; (try refine ⟨by kernel_rfl, ?_⟩))
    | (with_reducible refine xB_split (by simp [srcP, hw, hw']) (fun hgd => ?_) (fun hgd => ?_) <;> first | (exfalso; simp at hgd; done) | (exfalso; simp at hgd; omega) | simp -implicitDefEqProofs [hP, hN, srcP, hw, hw'])
    | (with_reducible refine yB_split (by simp [srcP, hw, hw']) (fun hgd => ?_) (fun hgd => ?_) <;> first | (exfalso; simp at hgd; done) | (exfalso; simp at hgd; omega) | (simp -implicitDefEqProofs [hP, hN, srcP, hw, hw'] <;> (try refine ⟨by kernel_rfl, ?_⟩)))
    | (with_reducible refine xC_intro (d75 l n (2 * k + 1) (by omega) hn) ?_; simp -implicitDefEqProofs [hP, hN, srcP, hw, hw'])
    | (with_reducible refine yC_intro (d75 l n (2 * k + 1) (by omega) hn) ?_; simp -implicitDefEqProofs [hP, hN, srcP, hw, hw']; (try refine ⟨by kernel_rfl, ?_⟩))
    | with_reducible refine xTwo_intro ?_ ?_
    | (with_reducible refine WP.cond' ?_; simp -implicitDefEqProofs [hP, hN, srcP, hw, hw'])
    | (with_reducible refine xCond_split (fun hcd => ?_) (fun hcd => ?_) <;> (try (exfalso; clear hP hN; simp_all; done)) <;> (try (exfalso; simp at *; omega)))
    | with_reducible refine WP.block ?_
    | (with_reducible refine WP.skip ?_; simp [srcP, hw, hw'])
    | (with_reducible refine WP.exit ?_; simp [srcP, hw, hw'])
    | (with_reducible refine WP.ret ?_; simp [srcP, hw, hw']))
theorem nx_range (l : List Int) (n : Nat) {k : Int} (hk : 0 < k) (hk' : k < 4611686018427387904) : 0 ≤ nx l n k ∧ nx l n k < k := by
  unfold nx
  split
  · rename_i x _
    have h1 : -k < x.tmod k := by have := Int.lt_tmod_of_pos x hk; omega
    have h2 : x.tmod k < k := Int.tmod_lt_of_pos x hk
    unfold roundI
    split
    · rw [wr_id (by omega) (by omega)]; omega
    · omega
  · omega
def kindOf (a : Int) : Int := if a = 2 then 1 else if a = 3 then 2 else if a = 4 then 4 else if a = 5 then 5 else if a = 7 then 0 else 3
theorem kind_at {c : Int} (h0 : 0 ≤ c) (h8 : c < 8) : ∀ h, ([.int .i64 3, .int .i64 3, .int .i64 1, .int .i64 2, .int .i64 4, .int .i64 5, .int .i64 3, .int .i64 0] : List Value)[c.toNat]'h = .int .i64 (kindOf c) := by
  have : c = 0 ∨ c = 1 ∨ c = 2 ∨ c = 3 ∨ c = 4 ∨ c = 5 ∨ c = 6 ∨ c = 7 := by omega
  rcases this with rfl | rfl | rfl | rfl | rfl | rfl | rfl | rfl <;> (intro h; rfl)
def letB (i : Nat) : ByteArray := ⟨#[UInt8.ofNat (97 + i)]⟩
abbrev abc : Value := .string ⟨#[97, 98, 99, 100, 101, 102, 103, 104, 105, 106]⟩
def rho118 (i : Nat) : Operand → AV := fun x => match x with
  | .tmp 3 => .pv (Z i)
  | .tmp 5 => .pv (Z ((i : Int) + 1))
  | _ => .pv (.val abc)
section
variable {dst : Option Nat} {ty : TypeId} {pos : String} {aft : Array Edge} {g : Option (Nat × Bool)} {ρ : Operand → AV}
theorem sl118_0 : evPure Try.prog ⟨dst, .slice 9 (.const abc) (some (.tmp 3)) (some (.tmp 5)) none, ty, pos, aft, g⟩ (rho118 0) = some (.pv (.val (.string (letB 0))), []) := by kernel_rfl
theorem sl118_1 : evPure Try.prog ⟨dst, .slice 9 (.const abc) (some (.tmp 3)) (some (.tmp 5)) none, ty, pos, aft, g⟩ (rho118 1) = some (.pv (.val (.string (letB 1))), []) := by kernel_rfl
theorem sl118_2 : evPure Try.prog ⟨dst, .slice 9 (.const abc) (some (.tmp 3)) (some (.tmp 5)) none, ty, pos, aft, g⟩ (rho118 2) = some (.pv (.val (.string (letB 2))), []) := by kernel_rfl
theorem sl118 (i : Nat) (h3 : i < 3) (hc : ρ (.const abc) = .pv (.val abc)) (hx : ρ (.tmp 3) = .pv (Z i)) (hy : ρ (.tmp 5) = .pv (Z ((i : Int) + 1))) :
    evPure Try.prog ⟨dst, .slice 9 (.const abc) (some (.tmp 3)) (some (.tmp 5)) none, ty, pos, aft, g⟩ ρ = some (.pv (.val (.string (letB i))), []) := by
  have h : evPure Try.prog ⟨dst, .slice 9 (.const abc) (some (.tmp 3)) (some (.tmp 5)) none, ty, pos, aft, g⟩ ρ = evPure Try.prog ⟨dst, .slice 9 (.const abc) (some (.tmp 3)) (some (.tmp 5)) none, ty, pos, aft, g⟩ (rho118 i) := by
    refine evPure_congr (by intro _ _ h; cases h) ?_
    intro x hx'
    simp [Op.operands] at hx'
    rcases hx' with rfl | rfl | rfl
    · exact hc
    · exact hx
    · exact hy
  rw [h]
  have : i = 0 ∨ i = 1 ∨ i = 2 := by omega
  rcases this with rfl | rfl | rfl
  · exact sl118_0
  · exact sl118_1
  · exact sl118_2
end
end Go.Ab
