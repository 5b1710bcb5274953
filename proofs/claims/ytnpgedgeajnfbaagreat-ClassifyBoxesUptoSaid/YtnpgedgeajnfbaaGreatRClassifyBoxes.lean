/- ClassifyBoxes: for every input of bulk at most 1048576 the law returns true, and its arguments read as before. -/
import Derived.Test.YtnpgedgeajnfbaaGreatW9
set_option linter.all false
namespace Go.Proofs.YtnpgedgeajnfbaaGreat.classifyBoxes
open Go.Ab Go.ChangeShapes Go.WideShapes Go.ChangeAt Go.RowKit
theorem det {H : Type} (ds : List (DataW H)) (h : rm Tryz.prog [29,30,31,32,32,32] ds) (hb : am ds≤1048576) : ah Tryz.prog 3 (ds.map fun d=>.pv (au d)) [] [] (.pv (.val (.bool true))):=by
 match ds,h,hb with
 |[x1,x2,x3,x4,x5,x6],⟨f1,f2,f3,f4,f5,f6,_⟩,hb=>
  simp only [am] at hb
  obtain ⟨a1,e1,q1,s1⟩:=CJ x1 f1
  obtain ⟨a2,e2,q2,s2⟩:=aX x2 f2
  obtain ⟨a3,e3,q3,s3⟩:=zj x3 f3
  obtain ⟨a4,e4,q4,s4⟩:=aW x4 f4
  obtain ⟨a5,e5,q5,s5⟩:=aW x5 f5
  obtain ⟨a6,e6,q6,s6⟩:=aW x6 f6
  simp only [List.map,e1,e2,e3,e4,e5,e6]
  exact d3 a1 a2 a3 a4 a5 a6 q1 (by have:=av (fun _:Int × Int=>1) (fun _=>Nat.le_refl _) a2; simp only at s2; omega) (by simp only at s3; omega)
set_option maxRecDepth 100000 in
theorem contract (H : Type) (enc : TypeId × Value→H) (W : World) (base : Nat) (args : Array Value) (ds gs : List (DataW H)) (before : List MemPlace)
 (hval : ∀ (j : Nat) t v,Tryz.f3.params[j]?=some t→args[j]?=some v→Value.okWide Tryz.prog W .any base t v)
 (hW : DataW.Whole enc Tryz.prog Tryz.f3.params.toList Rows.classifyBoxesSpec.vars false W args.toList ds gs before) (hk : Rows.uptoSmall H (ds++gs)=true) :
 Calls Tryz.prog 3 args W fun e W'=>∃ v,e=.returned v∧Rows.classifyBoxesSpec.post enc Tryz.prog Tryz.f3 false true false false W args v W':=by
 have hp : Tryz.f3.params.toList=[29,30,31,32,32,32]:=by rw [Tryz.params3]
 refine wY (P:=Tryz.prog) (f:=3) (fn:=Tryz.f3) (s:=Rows.classifyBoxesSpec) (tb:=4) kids full (by kernel_rfl) (by kernel_rfl) Tryz.underlying4 rfl W base args ds gs before hval hW (fun h=>?_) (fun h=>?_)
 ·rw [hp] at h
  match ds,h with
  |[x1,x2,x3,x4,x5,x6],_=>rfl
 ·rw [hp] at h
  exact det ds h (aS hk)
set_option maxRecDepth 100000 in
theorem lifted (os : Os) (started : os.Started) (H : Type) (enc : TypeId × Value→H) (F : Stop.Interp) :
 ReturnsInHanded {} Tryz.checked os 3 .any ((Rows.OpenSpec.upto Rows.classifyBoxesSpec).pre6 enc Tryz.prog Tryz.f3 Rows.classifyBoxesUptoRow.domain false) (((Rows.OpenSpec.upto Rows.classifyBoxesSpec).at F).post enc Tryz.prog Tryz.f3 false true false false):=by
 refine returnsInHanded_of_cond (C:=Tryz.checked) (s:=Rows.OpenSpec.upto Rows.classifyBoxesSpec) (k:=Rows.uptoSmall) rfl own started (by kernel_rfl) Tryz.func3
  (OpenSpec.witness (enc:=enc) (C:=Tryz.checked) (s:=Rows.OpenSpec.upto Rows.classifyBoxesSpec) (k:=Rows.uptoSmall) rfl false ⟨#[],#[.agg #[.slice none 0 0,.slice none 0 0,.slice none 0 0,.slice none 0 0],.slice none 0 0,.slice none 0 0,.slice none 0 0,.slice none 0 0,.slice none 0 0],[]⟩ 8 (by kernel_rfl) (by kernel_rfl) (by kernel_rfl)
    (x:=([.agg [.agg [.nil,.nil],.nil,.nil],.nil,.nil,.nil,.nil,.nil],[],[])) (by kernel_rfl) rfl (by kernel_rfl)) ?_
 intro W base args ds gs before hval hW _ hk _
 exact contract H enc W base args ds gs before hval hW hk
theorem over : Rows.classifyBoxesUptoRow.holds Tryz.pinned (Rows.OpenSpec.upto Rows.classifyBoxesSpec):=
 OpenClaim.holds_of_cond 3 Tryz.f3 rfl rfl rfl rfl rfl rfl rfl ⟨rfl,rfl,rfl,rfl,rfl⟩ rfl rfl rfl rfl rfl (by kernel_rfl) Tryz.func3 (by kernel_rfl)
  (of_decide_eq_true (by kernel_rfl)) (by unfold Func.isWrapper;first|(rw [if_pos (by decide +kernel)];kernel_rfl)|(rw [if_neg (by decide +kernel)];exact ⟨rfl,rfl⟩))
  (fun os started H enc _ F=>lifted os started H enc F)
theorem proved : Rows.ClassifyBoxesUptoSaid:=over
end Go.Proofs.YtnpgedgeajnfbaaGreat.classifyBoxes
