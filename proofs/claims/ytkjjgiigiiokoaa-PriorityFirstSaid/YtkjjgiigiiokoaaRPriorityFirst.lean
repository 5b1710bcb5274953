/- PriorityFirst: for every input the law returns true, and its arguments read as before. No condition. -/
import Derived.Test.YtkjjgiigiiokoaaW7
set_option linter.all false
namespace Go.Proofs.Ytkjjgiigiiokoaa.priorityFirst
open Go.Ab Go.ChangeShapes Go.WideShapes Go.ChangeAt Go.RowKit
theorem det {H : Type} (ds : List (DataW H)) (h : gv Try.prog [26,26,26,26] ds) : am Try.prog 6 (ds.map fun d=>.pv (bQ d)) [] [] (.pv (.val (.bool true))):=by
 match ds,h with
 |[x1,x2,x3,x4],⟨f1,f2,f3,f4,_⟩=>
  obtain ⟨a1,e1,q1,s1⟩:=cM x1 f1
  obtain ⟨a2,e2,q2,s2⟩:=cM x2 f2
  obtain ⟨a3,e3,q3,s3⟩:=cM x3 f3
  obtain ⟨a4,e4,q4,s4⟩:=cM x4 f4
  simp only [List.map,e1,e2,e3,e4]
  exact d6 a1 a2 a3 a4
set_option maxRecDepth 100000 in
theorem contract (H : Type) (enc : TypeId × Value→H) (W : World) (base : Nat) (args : Array Value) (ds gs : List (DataW H)) (before : List MemPlace)
 (hval : ∀ (j : Nat) t v,Try.f6.params[j]?=some t→args[j]?=some v→Value.okWide Try.prog W .any base t v)
 (hW : DataW.Whole enc Try.prog Try.f6.params.toList Rows.priorityFirstSpec.vars false W args.toList ds gs before) :
 Calls Try.prog 6 args W fun e W'=>∃ v,e=.returned v∧Rows.priorityFirstSpec.post enc Try.prog Try.f6 false true false false W args v W':=by
 have hp : Try.f6.params.toList=[26,26,26,26]:=by rw [Try.params6]
 refine gw (P:=Try.prog) (f:=6) (fn:=Try.f6) (s:=Rows.priorityFirstSpec) (tb:=4) kids full (by kernel_rfl) (by kernel_rfl) Try.underlying4 rfl W base args ds gs before hval hW (fun h=>?_) (fun h=>?_)
 ·rw [hp] at h
  match ds,h with
  |[x1,x2,x3,x4],_=>rfl
 ·rw [hp] at h
  exact det ds h
set_option maxRecDepth 100000 in
theorem lifted (os : Os) (started : os.Started) (H : Type) (enc : TypeId × Value→H) :
 ReturnsInHanded {} Try.checked os 6 .any (Rows.priorityFirstSpec.pre6 enc Try.prog Try.f6 Rows.priorityFirstRow.domain false) (Rows.priorityFirstSpec.post enc Try.prog Try.f6 false true false false):=by
 refine returnsInHanded_of_change (C:=Try.checked) own started (by kernel_rfl) Try.func6
  (ChangeSpec.witness6 (enc:=enc) (C:=Try.checked) false ⟨#[],#[.slice none 0 0,.slice none 0 0,.slice none 0 0,.slice none 0 0],[]⟩ 8 (by kernel_rfl) (by kernel_rfl) (by kernel_rfl) (by kernel_rfl)) ?_
 intro W base args ds gs before hval hW _ _
 exact contract H enc W base args ds gs before hval hW
theorem jLaid : laidOutB Try.prog=true:=by kernel_rfl
theorem jMaps : mapsRowed Try.prog=true:=by kernel_rfl
theorem jIn : (Rows.priorityFirstRow.inPlace==Try.prog.inPlace 6)=true:=by kernel_rfl
theorem jUn : (Rows.priorityFirstRow.unfollowed==Try.prog.unfollowed 6)=true:=by kernel_rfl
theorem jRe : (Rows.priorityFirstRow.recurses==Try.prog.recurses 6)=true:=by kernel_rfl
theorem jNa : (Rows.priorityFirstRow.named==Try.prog.varsNamed 6)=true:=by kernel_rfl
theorem jPk : (Rows.priorityFirstRow.plainKeys==Try.prog.plainKeys)=true:=by kernel_rfl
theorem jHe : Try.prog.stopsHeard=true:=by kernel_rfl
theorem jEn : Try.prog.mayEnter=true:=by kernel_rfl
theorem jLi : (Rows.priorityFirstRow.lifted==Try.prog.liftsFinal)=true:=by kernel_rfl
theorem jMa : (Try.prog.make==some Rows.priorityFirstRow.make)=true:=by kernel_rfl
theorem closed : joinedFacts Try.prog 6 Try.f6 Rows.priorityFirstSpec Rows.priorityFirstRow=true:=by
 unfold joinedFacts
 simp only [Bool.and_eq_true]
 exact ⟨⟨⟨⟨⟨⟨⟨⟨⟨⟨⟨⟨⟨⟨⟨⟨⟨⟨⟨⟨⟨⟨⟨⟨⟨⟨⟨⟨⟨⟨⟨(by kernel_rfl),jLaid⟩,jMaps⟩,(by kernel_rfl)⟩,(by kernel_rfl)⟩,(by kernel_rfl)⟩,(by kernel_rfl)⟩,(by kernel_rfl)⟩,(by kernel_rfl)⟩,jIn⟩,jUn⟩,jRe⟩,jNa⟩,(by kernel_rfl)⟩,(by kernel_rfl)⟩,(by kernel_rfl)⟩,(by kernel_rfl)⟩,(by kernel_rfl)⟩,(by kernel_rfl)⟩,(by kernel_rfl)⟩,(by kernel_rfl)⟩,(by kernel_rfl)⟩,jPk⟩,(by kernel_rfl)⟩,jHe⟩,jEn⟩,jLi⟩,jMa⟩,(by kernel_rfl)⟩,(by kernel_rfl)⟩,(by kernel_rfl)⟩,(by kernel_rfl)⟩
theorem proved : Rows.PriorityFirstSaid:=
 OpenClaim.holds_of_wide 6 Try.f6 rfl rfl rfl rfl rfl rfl rfl ⟨rfl,rfl,rfl,rfl,rfl⟩ rfl rfl rfl rfl rfl (by kernel_rfl) Try.func6 closed
  (of_decide_eq_true (by kernel_rfl)) (by unfold Func.isWrapper;first|(rw [if_pos (by decide +kernel)];kernel_rfl)|(rw [if_neg (by decide +kernel)];exact ⟨rfl,rfl⟩))
  (fun os started H enc _=>lifted os started H enc)
end Go.Proofs.Ytkjjgiigiiokoaa.priorityFirst
