/- PriorityPlans: for every input the law returns true, and its arguments read as before. No condition. -/
import Derived.Test.YtkjjgiigiiokoaaX7
set_option linter.all false
namespace Go.Proofs.Ytkjjgiigiiokoaa.priorityPlans
open Go.Ab Go.ChangeShapes Go.WideShapes Go.ChangeAt Go.RowKit
theorem det {H : Type} (ds : List (DataW H)) (h : gv Try.prog [25,26,26,26,3,26,26,26,26] ds) : am Try.prog 4 (ds.map fun d=>.pv (bQ d)) [] [] (.pv (.val (.bool true))):=by
 match ds,h with
 |[x1,x2,x3,x4,x5,x6,x7,x8,x9],⟨f1,f2,f3,f4,f5,f6,f7,f8,f9,_⟩=>
  obtain ⟨a1,e1,q1,s1⟩:=qG x1 f1
  obtain ⟨a2,e2,q2,s2⟩:=cM x2 f2
  obtain ⟨a3,e3,q3,s3⟩:=cM x3 f3
  obtain ⟨a4,e4,q4,s4⟩:=cM x4 f4
  obtain ⟨a5,e5,q5,s5⟩:=qQ x5 f5
  obtain ⟨a6,e6,q6,s6⟩:=cM x6 f6
  obtain ⟨a7,e7,q7,s7⟩:=cM x7 f7
  obtain ⟨a8,e8,q8,s8⟩:=cM x8 f8
  obtain ⟨a9,e9,q9,s9⟩:=cM x9 f9
  simp only [List.map,e1,e2,e3,e4,e5,e6,e7,e8,e9]
  exact d4 a1 a2 a3 a4 a5 a6 a7 a8 a9 q1 q4.1
set_option maxRecDepth 100000 in
theorem contract (H : Type) (enc : TypeId × Value→H) (W : World) (base : Nat) (args : Array Value) (ds gs : List (DataW H)) (before : List MemPlace)
 (hval : ∀ (j : Nat) t v,Try.f4.params[j]?=some t→args[j]?=some v→Value.okWide Try.prog W .any base t v)
 (hW : DataW.Whole enc Try.prog Try.f4.params.toList Rows.priorityPlansSpec.vars false W args.toList ds gs before) :
 Calls Try.prog 4 args W fun e W'=>∃ v,e=.returned v∧Rows.priorityPlansSpec.post enc Try.prog Try.f4 false true false false W args v W':=by
 have hp : Try.f4.params.toList=[25,26,26,26,3,26,26,26,26]:=by rw [Try.params4]
 refine gw (P:=Try.prog) (f:=4) (fn:=Try.f4) (s:=Rows.priorityPlansSpec) (tb:=4) kids full (by kernel_rfl) (by kernel_rfl) Try.underlying4 rfl W base args ds gs before hval hW (fun h=>?_) (fun h=>?_)
 ·rw [hp] at h
  match ds,h with
  |[x1,x2,x3,x4,x5,x6,x7,x8,x9],_=>rfl
 ·rw [hp] at h
  exact det ds h
set_option maxRecDepth 100000 in
theorem lifted (os : Os) (started : os.Started) (H : Type) (enc : TypeId × Value→H) :
 ReturnsInHanded {} Try.checked os 4 .any (Rows.priorityPlansSpec.pre6 enc Try.prog Try.f4 Rows.priorityPlansRow.domain false) (Rows.priorityPlansSpec.post enc Try.prog Try.f4 false true false false):=by
 refine returnsInHanded_of_change (C:=Try.checked) own started (by kernel_rfl) Try.func4
  (ChangeSpec.witness6 (enc:=enc) (C:=Try.checked) false ⟨#[],#[.agg #[.slice none 0 0,.slice none 0 0],.slice none 0 0,.slice none 0 0,.slice none 0 0,.int .i64 0,.slice none 0 0,.slice none 0 0,.slice none 0 0,.slice none 0 0],[]⟩ 8 (by kernel_rfl) (by kernel_rfl) (by kernel_rfl) (by kernel_rfl)) ?_
 intro W base args ds gs before hval hW _ _
 exact contract H enc W base args ds gs before hval hW
theorem jLaid : laidOutB Try.prog=true:=by kernel_rfl
theorem jMaps : mapsRowed Try.prog=true:=by kernel_rfl
theorem jIn : (Rows.priorityPlansRow.inPlace==Try.prog.inPlace 4)=true:=by kernel_rfl
theorem jUn : (Rows.priorityPlansRow.unfollowed==Try.prog.unfollowed 4)=true:=by kernel_rfl
theorem jRe : (Rows.priorityPlansRow.recurses==Try.prog.recurses 4)=true:=by kernel_rfl
theorem jNa : (Rows.priorityPlansRow.named==Try.prog.varsNamed 4)=true:=by kernel_rfl
theorem jPk : (Rows.priorityPlansRow.plainKeys==Try.prog.plainKeys)=true:=by kernel_rfl
theorem jHe : Try.prog.stopsHeard=true:=by kernel_rfl
theorem jEn : Try.prog.mayEnter=true:=by kernel_rfl
theorem jLi : (Rows.priorityPlansRow.lifted==Try.prog.liftsFinal)=true:=by kernel_rfl
theorem jMa : (Try.prog.make==some Rows.priorityPlansRow.make)=true:=by kernel_rfl
theorem closed : joinedFacts Try.prog 4 Try.f4 Rows.priorityPlansSpec Rows.priorityPlansRow=true:=by
 unfold joinedFacts
 simp only [Bool.and_eq_true]
 exact ⟨⟨⟨⟨⟨⟨⟨⟨⟨⟨⟨⟨⟨⟨⟨⟨⟨⟨⟨⟨⟨⟨⟨⟨⟨⟨⟨⟨⟨⟨⟨(by kernel_rfl),jLaid⟩,jMaps⟩,(by kernel_rfl)⟩,(by kernel_rfl)⟩,(by kernel_rfl)⟩,(by kernel_rfl)⟩,(by kernel_rfl)⟩,(by kernel_rfl)⟩,jIn⟩,jUn⟩,jRe⟩,jNa⟩,(by kernel_rfl)⟩,(by kernel_rfl)⟩,(by kernel_rfl)⟩,(by kernel_rfl)⟩,(by kernel_rfl)⟩,(by kernel_rfl)⟩,(by kernel_rfl)⟩,(by kernel_rfl)⟩,(by kernel_rfl)⟩,jPk⟩,(by kernel_rfl)⟩,jHe⟩,jEn⟩,jLi⟩,jMa⟩,(by kernel_rfl)⟩,(by kernel_rfl)⟩,(by kernel_rfl)⟩,(by kernel_rfl)⟩
theorem proved : Rows.PriorityPlansSaid:=
 OpenClaim.holds_of_wide 4 Try.f4 rfl rfl rfl rfl rfl rfl rfl ⟨rfl,rfl,rfl,rfl,rfl⟩ rfl rfl rfl rfl rfl (by kernel_rfl) Try.func4 closed
  (of_decide_eq_true (by kernel_rfl)) (by unfold Func.isWrapper;first|(rw [if_pos (by decide +kernel)];kernel_rfl)|(rw [if_neg (by decide +kernel)];exact ⟨rfl,rfl⟩))
  (fun os started H enc _=>lifted os started H enc)
end Go.Proofs.Ytkjjgiigiiokoaa.priorityPlans
