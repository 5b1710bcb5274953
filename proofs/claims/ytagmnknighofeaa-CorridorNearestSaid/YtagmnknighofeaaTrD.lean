/- Deferred closures that do nothing where the frame returns. -/
import Derived.Test.YtagmnknighofeaaTr1
set_option linter.all false
namespace Go.Ab
open Go.Proofs
set_option maxRecDepth 100000 in
@[simp] theorem quiet76 : QuietFn Try.prog 76 := by
  refine ⟨by kernel_rfl, fun args w => ?_⟩
  refine callsD_of_wpS Try.func76 rfl fun c₀ cs hu => ?_
  apply wpS_seq
  apply wpS_region
  have hk : ∀ k, k < Try.f76.ntmps → k < args.size + (Try.f76.ntmps - args.size) := by intro k h; omega
  rw [Try.ntmps76] at hk
  have h0 := hk 0 (by decide)
  have h1 := hk 1 (by decide)
  have h2 := hk 2 (by decide)
  simp [wpOpsS, go_sem, recoverD, hu, Try.ntmps76, Exit.thenS, h0, h1, h2]
  refine wpS_cond (t := false) (by simp [Act.eval, h0, h1, h2]) ?_
  simp only [Bool.false_eq_true, if_false]
  refine wpS_of_wp (wp_skip ?_)
  cases c₀
  simp_all [bodyPostS, results, Try.results76]
set_option maxRecDepth 100000 in
@[simp] theorem quiet78 : QuietFn Try.prog 78 := by
  refine ⟨by kernel_rfl, fun args w => ?_⟩
  refine callsD_of_wpS Try.func78 rfl fun c₀ cs hu => ?_
  apply wpS_seq
  apply wpS_region
  have hk : ∀ k, k < Try.f78.ntmps → k < args.size + (Try.f78.ntmps - args.size) := by intro k h; omega
  rw [Try.ntmps78] at hk
  have h0 := hk 0 (by decide)
  have h1 := hk 1 (by decide)
  have h2 := hk 2 (by decide)
  simp [wpOpsS, go_sem, recoverD, hu, Try.ntmps78, Exit.thenS, h0, h1, h2]
  refine wpS_cond (t := false) (by simp [Act.eval, h0, h1, h2]) ?_
  simp only [Bool.false_eq_true, if_false]
  refine wpS_of_wp (wp_skip ?_)
  cases c₀
  simp_all [bodyPostS, results, Try.results78]
set_option maxRecDepth 100000 in
@[simp] theorem quiet88 : QuietFn Try.prog 88 := by
  refine ⟨by kernel_rfl, fun args w => ?_⟩
  refine callsD_of_wpS Try.func88 rfl fun c₀ cs hu => ?_
  apply wpS_seq
  apply wpS_region
  have hk : ∀ k, k < Try.f88.ntmps → k < args.size + (Try.f88.ntmps - args.size) := by intro k h; omega
  rw [Try.ntmps88] at hk
  have h0 := hk 0 (by decide)
  have h1 := hk 1 (by decide)
  have h2 := hk 2 (by decide)
  simp [wpOpsS, go_sem, recoverD, hu, Try.ntmps88, Exit.thenS, h0, h1, h2]
  refine wpS_cond (t := false) (by simp [Act.eval, h0, h1, h2]) ?_
  simp only [Bool.false_eq_true, if_false]
  refine wpS_of_wp (wp_skip ?_)
  cases c₀
  simp_all [bodyPostS, results, Try.results88]
set_option maxRecDepth 100000 in
@[simp] theorem quiet103 : QuietFn Try.prog 103 := by
  refine ⟨by kernel_rfl, fun args w => ?_⟩
  refine callsD_of_wpS Try.func103 rfl fun c₀ cs hu => ?_
  apply wpS_seq
  apply wpS_region
  have hk : ∀ k, k < Try.f103.ntmps → k < args.size + (Try.f103.ntmps - args.size) := by intro k h; omega
  rw [Try.ntmps103] at hk
  have h0 := hk 0 (by decide)
  have h1 := hk 1 (by decide)
  have h2 := hk 2 (by decide)
  simp [wpOpsS, go_sem, recoverD, hu, Try.ntmps103, Exit.thenS, h0, h1, h2]
  refine wpS_cond (t := false) (by simp [Act.eval, h0, h1, h2]) ?_
  simp only [Bool.false_eq_true, if_false]
  refine wpS_of_wp (wp_skip ?_)
  cases c₀
  simp_all [bodyPostS, results, Try.results103]
set_option maxRecDepth 100000 in
@[simp] theorem quiet160 : QuietFn Try.prog 160 := by
  refine ⟨by kernel_rfl, fun args w => ?_⟩
  refine callsD_of_wpS Try.func160 rfl fun c₀ cs hu => ?_
  apply wpS_seq
  apply wpS_region
  have hk : ∀ k, k < Try.f160.ntmps → k < args.size + (Try.f160.ntmps - args.size) := by intro k h; omega
  rw [Try.ntmps160] at hk
  have h0 := hk 0 (by decide)
  have h1 := hk 1 (by decide)
  have h2 := hk 2 (by decide)
  simp [wpOpsS, go_sem, recoverD, hu, Try.ntmps160, Exit.thenS, h0, h1, h2]
  refine wpS_cond (t := false) (by simp [Act.eval, h0, h1, h2]) ?_
  simp only [Bool.false_eq_true, if_false]
  refine wpS_of_wp (wp_skip ?_)
  cases c₀
  simp_all [bodyPostS, results, Try.results160]
set_option maxRecDepth 100000 in
@[simp] theorem quiet144 : QuietFn Try.prog 144 := by
  refine ⟨by kernel_rfl, fun args w => ?_⟩
  refine callsD_of_wpS Try.func144 rfl fun c₀ cs hu => ?_
  apply wpS_seq
  apply wpS_region
  have hk : ∀ k, k < Try.f144.ntmps → k < args.size + (Try.f144.ntmps - args.size) := by intro k h; omega
  rw [Try.ntmps144] at hk
  have h0 := hk 0 (by decide)
  have h1 := hk 1 (by decide)
  have h2 := hk 2 (by decide)
  have h3 := hk 3 (by decide)
  simp [wpOpsS, go_sem, recoverD, hu, Try.ntmps144, Exit.thenS, h0, h1, h2, h3]
  refine wpS_cond (t := false) (by simp [Act.eval, h0, h1, h2, h3]) ?_
  simp only [Bool.false_eq_true, if_false]
  refine wpS_of_wp (wp_skip ?_)
  cases c₀
  simp_all [bodyPostS, results, Try.results144]
set_option maxRecDepth 100000 in
@[simp] theorem quiet80 : QuietFn Try.prog 80 := by
  refine ⟨by kernel_rfl, fun args w => ?_⟩
  refine callsD_of_wpS Try.func80 rfl fun c₀ cs hu => ?_
  apply wpS_seq
  apply wpS_region
  have hk : ∀ k, k < Try.f80.ntmps → k < args.size + (Try.f80.ntmps - args.size) := by intro k h; omega
  rw [Try.ntmps80] at hk
  have h0 := hk 0 (by decide)
  have h1 := hk 1 (by decide)
  have h2 := hk 2 (by decide)
  have h3 := hk 3 (by decide)
  simp [wpOpsS, go_sem, recoverD, hu, Try.ntmps80, Exit.thenS, h0, h1, h2, h3]
  refine wpS_cond (t := false) (by simp [Act.eval, h0, h1, h2, h3]) ?_
  simp only [Bool.false_eq_true, if_false]
  refine wpS_of_wp (wp_skip ?_)
  cases c₀
  simp_all [bodyPostS, results, Try.results80]
set_option maxRecDepth 100000 in
@[simp] theorem quiet85 : QuietFn Try.prog 85 := by
  refine ⟨by kernel_rfl, fun args w => ?_⟩
  refine callsD_of_wpS Try.func85 rfl fun c₀ cs hu => ?_
  apply wpS_seq
  apply wpS_region
  have hk : ∀ k, k < Try.f85.ntmps → k < args.size + (Try.f85.ntmps - args.size) := by intro k h; omega
  rw [Try.ntmps85] at hk
  have h0 := hk 0 (by decide)
  have h1 := hk 1 (by decide)
  have h2 := hk 2 (by decide)
  have h3 := hk 3 (by decide)
  simp [wpOpsS, go_sem, recoverD, hu, Try.ntmps85, Exit.thenS, h0, h1, h2, h3]
  refine wpS_cond (t := false) (by simp [Act.eval, h0, h1, h2, h3]) ?_
  simp only [Bool.false_eq_true, if_false]
  refine wpS_of_wp (wp_skip ?_)
  cases c₀
  simp_all [bodyPostS, results, Try.results85]
set_option maxRecDepth 100000 in
@[simp] theorem quiet91 : QuietFn Try.prog 91 := by
  refine ⟨by kernel_rfl, fun args w => ?_⟩
  refine callsD_of_wpS Try.func91 rfl fun c₀ cs hu => ?_
  apply wpS_seq
  apply wpS_region
  have hk : ∀ k, k < Try.f91.ntmps → k < args.size + (Try.f91.ntmps - args.size) := by intro k h; omega
  rw [Try.ntmps91] at hk
  have h0 := hk 0 (by decide)
  have h1 := hk 1 (by decide)
  have h2 := hk 2 (by decide)
  have h3 := hk 3 (by decide)
  simp [wpOpsS, go_sem, recoverD, hu, Try.ntmps91, Exit.thenS, h0, h1, h2, h3]
  refine wpS_cond (t := false) (by simp [Act.eval, h0, h1, h2, h3]) ?_
  simp only [Bool.false_eq_true, if_false]
  refine wpS_of_wp (wp_skip ?_)
  cases c₀
  simp_all [bodyPostS, results, Try.results91]
set_option maxRecDepth 100000 in
@[simp] theorem quiet96 : QuietFn Try.prog 96 := by
  refine ⟨by kernel_rfl, fun args w => ?_⟩
  refine callsD_of_wpS Try.func96 rfl fun c₀ cs hu => ?_
  apply wpS_seq
  apply wpS_region
  have hk : ∀ k, k < Try.f96.ntmps → k < args.size + (Try.f96.ntmps - args.size) := by intro k h; omega
  rw [Try.ntmps96] at hk
  have h0 := hk 0 (by decide)
  have h1 := hk 1 (by decide)
  have h2 := hk 2 (by decide)
  have h3 := hk 3 (by decide)
  simp [wpOpsS, go_sem, recoverD, hu, Try.ntmps96, Exit.thenS, h0, h1, h2, h3]
  refine wpS_cond (t := false) (by simp [Act.eval, h0, h1, h2, h3]) ?_
  simp only [Bool.false_eq_true, if_false]
  refine wpS_of_wp (wp_skip ?_)
  cases c₀
  simp_all [bodyPostS, results, Try.results96]
set_option maxRecDepth 100000 in
@[simp] theorem quiet122 : QuietFn Try.prog 122 := by
  refine ⟨by kernel_rfl, fun args w => ?_⟩
  refine callsD_of_wpS Try.func122 rfl fun c₀ cs hu => ?_
  apply wpS_seq
  apply wpS_region
  have hk : ∀ k, k < Try.f122.ntmps → k < args.size + (Try.f122.ntmps - args.size) := by intro k h; omega
  rw [Try.ntmps122] at hk
  have h0 := hk 0 (by decide)
  have h1 := hk 1 (by decide)
  have h2 := hk 2 (by decide)
  have h3 := hk 3 (by decide)
  simp [wpOpsS, go_sem, recoverD, hu, Try.ntmps122, Exit.thenS, h0, h1, h2, h3]
  refine wpS_cond (t := false) (by simp [Act.eval, h0, h1, h2, h3]) ?_
  simp only [Bool.false_eq_true, if_false]
  refine wpS_of_wp (wp_skip ?_)
  cases c₀
  simp_all [bodyPostS, results, Try.results122]
set_option maxRecDepth 100000 in
@[simp] theorem quiet112 : QuietFn Try.prog 112 := by
  refine ⟨by kernel_rfl, fun args w => ?_⟩
  refine callsD_of_wpS Try.func112 rfl fun c₀ cs hu => ?_
  apply wpS_seq
  apply wpS_region
  have hk : ∀ k, k < Try.f112.ntmps → k < args.size + (Try.f112.ntmps - args.size) := by intro k h; omega
  rw [Try.ntmps112] at hk
  have h0 := hk 0 (by decide)
  have h1 := hk 1 (by decide)
  have h2 := hk 2 (by decide)
  have h3 := hk 3 (by decide)
  simp [wpOpsS, go_sem, recoverD, hu, Try.ntmps112, Exit.thenS, h0, h1, h2, h3]
  refine wpS_cond (t := false) (by simp [Act.eval, h0, h1, h2, h3]) ?_
  simp only [Bool.false_eq_true, if_false]
  refine wpS_of_wp (wp_skip ?_)
  cases c₀
  simp_all [bodyPostS, results, Try.results112]
end Go.Ab
