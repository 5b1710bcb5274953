/- ClassifyStill: for every input the law returns true, and its arguments read as before. No condition. -/
import Derived.Test.YtcalbhjelehlgaaGreatS9
set_option linter.all false
namespace Go.Proofs.YtcalbhjelehlgaaGreat.classifyStill
open Go.Ab Go.ChangeShapes Go.WideShapes Go.ChangeAt Go.RowKit
theorem det {H : Type} (ds : List (DataW H)) (h : FitAll Tryz.prog [32,32] ds) : DetH Tryz.prog 9 (ds.map fun d=>.pv (rd1 d)) [] [] (.pv (.val (.bool true))):=by
 match ds,h with
 |[x1,x2],⟨f1,f2,_⟩=>
  obtain ⟨a1,e1,q1,s1⟩:=rd_ints x1 f1
  obtain ⟨a2,e2,q2,s2⟩:=rd_ints x2 f2
  simp only [List.map,e1,e2]
  exact d9 a1 a2
set_option maxRecDepth 100000 in
theorem contract (H : Type) (enc : TypeId × Value→H) (W : World) (base : Nat) (args : Array Value) (ds gs : List (DataW H)) (before : List MemPlace)
 (hval : ∀ (j : Nat) t v,Tryz.f9.params[j]?=some t→args[j]?=some v→Value.okWide Tryz.prog W .any base t v)
 (hW : DataW.Whole enc Tryz.prog Tryz.f9.params.toList Rows.classifyStillSpec.vars false W args.toList ds gs before) :
 Calls Tryz.prog 9 args W fun e W'=>∃ v,e=.returned v∧Rows.classifyStillSpec.post enc Tryz.prog Tryz.f9 false true false false W args v W':=by
 have hp : Tryz.f9.params.toList=[32,32]:=by rw [Tryz.params9]
 refine law_contract (P:=Tryz.prog) (f:=9) (fn:=Tryz.f9) (s:=Rows.classifyStillSpec) (tb:=4) kids full (by kernel_rfl) (by kernel_rfl) Tryz.underlying4 rfl W base args ds gs before hval hW (fun h=>?_) (fun h=>?_)
 ·rw [hp] at h
  match ds,h with
  |[x1,x2],_=>rfl
 ·rw [hp] at h
  exact det ds h
set_option maxRecDepth 100000 in
theorem lifted (os : Os) (started : os.Started) (H : Type) (enc : TypeId × Value→H) :
 ReturnsInHanded {} Tryz.checked os 9 .any (Rows.classifyStillSpec.pre6 enc Tryz.prog Tryz.f9 Rows.classifyStillRow.domain false) (Rows.classifyStillSpec.post enc Tryz.prog Tryz.f9 false true false false):=by
 refine returnsInHanded_of_change (C:=Tryz.checked) own started (by kernel_rfl) Tryz.func9
  (ChangeSpec.witness6 (enc:=enc) (C:=Tryz.checked) false ⟨#[],#[.slice none 0 0,.slice none 0 0],[]⟩ 8 (by kernel_rfl) (by kernel_rfl) (by kernel_rfl) (by kernel_rfl)) ?_
 intro W base args ds gs before hval hW _ _
 exact contract H enc W base args ds gs before hval hW
theorem proved : Rows.ClassifyStillSaid:=
 OpenClaim.holds_of_wide 9 Tryz.f9 rfl rfl rfl rfl rfl rfl rfl ⟨rfl,rfl,rfl,rfl,rfl⟩ rfl rfl rfl rfl rfl (by kernel_rfl) Tryz.func9 (by kernel_rfl)
  (of_decide_eq_true (by kernel_rfl)) (by unfold Func.isWrapper;first|(rw [if_pos (by decide +kernel)];kernel_rfl)|(rw [if_neg (by decide +kernel)];exact ⟨rfl,rfl⟩))
  (fun os started H enc _=>lifted os started H enc)
end Go.Proofs.YtcalbhjelehlgaaGreat.classifyStill
