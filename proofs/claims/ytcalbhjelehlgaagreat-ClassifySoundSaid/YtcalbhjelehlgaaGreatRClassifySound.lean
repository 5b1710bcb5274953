/- ClassifySound: for every input the law returns true, and its arguments read as before. No condition. -/
import Derived.Test.YtcalbhjelehlgaaGreatS9
set_option linter.all false
namespace Go.Proofs.YtcalbhjelehlgaaGreat.classifySound
open Go.Ab Go.ChangeShapes Go.WideShapes Go.ChangeAt Go.RowKit
theorem det {H : Type} (ds : List (DataW H)) (h : FitAll Tryz.prog [32,32,32] ds) : DetH Tryz.prog 4 (ds.map fun d=>.pv (rd1 d)) [] [] (.pv (.val (.bool true))):=by
 match ds,h with
 |[x1,x2,x3],⟨f1,f2,f3,_⟩=>
  obtain ⟨a1,e1,q1,s1⟩:=rd_ints x1 f1
  obtain ⟨a2,e2,q2,s2⟩:=rd_ints x2 f2
  obtain ⟨a3,e3,q3,s3⟩:=rd_ints x3 f3
  simp only [List.map,e1,e2,e3]
  exact d4 a1 a2 a3
set_option maxRecDepth 100000 in
theorem contract (H : Type) (enc : TypeId × Value→H) (W : World) (base : Nat) (args : Array Value) (ds gs : List (DataW H)) (before : List MemPlace)
 (hval : ∀ (j : Nat) t v,Tryz.f4.params[j]?=some t→args[j]?=some v→Value.okWide Tryz.prog W .any base t v)
 (hW : DataW.Whole enc Tryz.prog Tryz.f4.params.toList Rows.classifySoundSpec.vars false W args.toList ds gs before) :
 Calls Tryz.prog 4 args W fun e W'=>∃ v,e=.returned v∧Rows.classifySoundSpec.post enc Tryz.prog Tryz.f4 false true false false W args v W':=by
 have hp : Tryz.f4.params.toList=[32,32,32]:=by rw [Tryz.params4]
 refine law_contract (P:=Tryz.prog) (f:=4) (fn:=Tryz.f4) (s:=Rows.classifySoundSpec) (tb:=4) kids full (by kernel_rfl) (by kernel_rfl) Tryz.underlying4 rfl W base args ds gs before hval hW (fun h=>?_) (fun h=>?_)
 ·rw [hp] at h
  match ds,h with
  |[x1,x2,x3],_=>rfl
 ·rw [hp] at h
  exact det ds h
set_option maxRecDepth 100000 in
theorem lifted (os : Os) (started : os.Started) (H : Type) (enc : TypeId × Value→H) :
 ReturnsInHanded {} Tryz.checked os 4 .any (Rows.classifySoundSpec.pre6 enc Tryz.prog Tryz.f4 Rows.classifySoundRow.domain false) (Rows.classifySoundSpec.post enc Tryz.prog Tryz.f4 false true false false):=by
 refine returnsInHanded_of_change (C:=Tryz.checked) own started (by kernel_rfl) Tryz.func4
  (ChangeSpec.witness6 (enc:=enc) (C:=Tryz.checked) false ⟨#[],#[.slice none 0 0,.slice none 0 0,.slice none 0 0],[]⟩ 8 (by kernel_rfl) (by kernel_rfl) (by kernel_rfl) (by kernel_rfl)) ?_
 intro W base args ds gs before hval hW _ _
 exact contract H enc W base args ds gs before hval hW
theorem proved : Rows.ClassifySoundSaid:=
 OpenClaim.holds_of_wide 4 Tryz.f4 rfl rfl rfl rfl rfl rfl rfl ⟨rfl,rfl,rfl,rfl,rfl⟩ rfl rfl rfl rfl rfl (by kernel_rfl) Tryz.func4 (by kernel_rfl)
  (of_decide_eq_true (by kernel_rfl)) (by unfold Func.isWrapper;first|(rw [if_pos (by decide +kernel)];kernel_rfl)|(rw [if_neg (by decide +kernel)];exact ⟨rfl,rfl⟩))
  (fun os started H enc _=>lifted os started H enc)
end Go.Proofs.YtcalbhjelehlgaaGreat.classifySound
