/- CutSmaller: for every input the law returns true, and its arguments read as before. No condition. -/
import Derived.Test.YtkpmahdfgfeknaaW6
set_option linter.all false
namespace Go.Proofs.Ytkpmahdfgfeknaa.cutSmaller
open Go.Ab Go.ChangeShapes Go.WideShapes Go.ChangeAt Go.RowKit
theorem det {H : Type} (ds : List (DataW H)) (h : gv Try.prog [22,22,22,3] ds) : am Try.prog 3 (ds.map fun d=>.pv (bQ d)) [] [] (.pv (.val (.bool true))):=by
 match ds,h with
 |[x1,x2,x3,x4],⟨f1,f2,f3,f4,_⟩=>
  obtain ⟨a1,e1,q1,s1⟩:=cM x1 f1
  obtain ⟨a2,e2,q2,s2⟩:=cM x2 f2
  obtain ⟨a3,e3,q3,s3⟩:=cM x3 f3
  obtain ⟨a4,e4,q4,s4⟩:=qQ x4 f4
  simp only [List.map,e1,e2,e3,e4]
  exact d3 a1 a2 a3 a4
set_option maxRecDepth 100000 in
theorem contract (H : Type) (enc : TypeId × Value→H) (W : World) (base : Nat) (args : Array Value) (ds gs : List (DataW H)) (before : List MemPlace)
 (hval : ∀ (j : Nat) t v,Try.f3.params[j]?=some t→args[j]?=some v→Value.okWide Try.prog W .any base t v)
 (hW : DataW.Whole enc Try.prog Try.f3.params.toList Rows.cutSmallerSpec.vars false W args.toList ds gs before) :
 Calls Try.prog 3 args W fun e W'=>∃ v,e=.returned v∧Rows.cutSmallerSpec.post enc Try.prog Try.f3 false true false false W args v W':=by
 have hp : Try.f3.params.toList=[22,22,22,3]:=by rw [Try.params3]
 refine gw (P:=Try.prog) (f:=3) (fn:=Try.f3) (s:=Rows.cutSmallerSpec) (tb:=4) kids full (by kernel_rfl) (by kernel_rfl) Try.underlying4 rfl W base args ds gs before hval hW (fun h=>?_) (fun h=>?_)
 ·rw [hp] at h
  match ds,h with
  |[x1,x2,x3,x4],_=>rfl
 ·rw [hp] at h
  exact det ds h
set_option maxRecDepth 100000 in
theorem lifted (os : Os) (started : os.Started) (H : Type) (enc : TypeId × Value→H) :
 ReturnsInHanded {} Try.checked os 3 .any (Rows.cutSmallerSpec.pre6 enc Try.prog Try.f3 Rows.cutSmallerRow.domain false) (Rows.cutSmallerSpec.post enc Try.prog Try.f3 false true false false):=by
 refine returnsInHanded_of_change (C:=Try.checked) own started (by kernel_rfl) Try.func3
  (ChangeSpec.witness6 (enc:=enc) (C:=Try.checked) false ⟨#[],#[.slice none 0 0,.slice none 0 0,.slice none 0 0,.int .i64 0],[]⟩ 8 (by kernel_rfl) (by kernel_rfl) (by kernel_rfl) (by kernel_rfl)) ?_
 intro W base args ds gs before hval hW _ _
 exact contract H enc W base args ds gs before hval hW
theorem yA : laidOutB Try.prog=true:=by kernel_rfl
theorem yD : mapsRowed Try.prog=true:=by kernel_rfl
theorem zS : (Rows.cutSmallerRow.inPlace==Try.prog.inPlace 3)=true:=by kernel_rfl
theorem zT : (Rows.cutSmallerRow.unfollowed==Try.prog.unfollowed 3)=true:=by kernel_rfl
theorem zU : (Rows.cutSmallerRow.recurses==Try.prog.recurses 3)=true:=by kernel_rfl
theorem zV : (Rows.cutSmallerRow.named==Try.prog.varsNamed 3)=true:=by kernel_rfl
theorem zW : (Rows.cutSmallerRow.plainKeys==Try.prog.plainKeys)=true:=by kernel_rfl
theorem zX : Try.prog.stopsHeard=true:=by kernel_rfl
theorem zY : Try.prog.mayEnter=true:=by kernel_rfl
theorem zZ : (Rows.cutSmallerRow.lifted==Try.prog.liftsFinal)=true:=by kernel_rfl
theorem z6 : (Try.prog.make==some Rows.cutSmallerRow.make)=true:=by kernel_rfl
theorem og : joinedFacts Try.prog 3 Try.f3 Rows.cutSmallerSpec Rows.cutSmallerRow=true:=by
 unfold joinedFacts
 simp only [Bool.and_eq_true]
 exact ⟨⟨⟨⟨⟨⟨⟨⟨⟨⟨⟨⟨⟨⟨⟨⟨⟨⟨⟨⟨⟨⟨⟨⟨⟨⟨⟨⟨⟨⟨⟨(by kernel_rfl),yA⟩,yD⟩,(by kernel_rfl)⟩,(by kernel_rfl)⟩,(by kernel_rfl)⟩,(by kernel_rfl)⟩,(by kernel_rfl)⟩,(by kernel_rfl)⟩,zS⟩,zT⟩,zU⟩,zV⟩,(by kernel_rfl)⟩,(by kernel_rfl)⟩,(by kernel_rfl)⟩,(by kernel_rfl)⟩,(by kernel_rfl)⟩,(by kernel_rfl)⟩,(by kernel_rfl)⟩,(by kernel_rfl)⟩,(by kernel_rfl)⟩,zW⟩,(by kernel_rfl)⟩,zX⟩,zY⟩,zZ⟩,z6⟩,(by kernel_rfl)⟩,(by kernel_rfl)⟩,(by kernel_rfl)⟩,(by kernel_rfl)⟩
theorem proved : Rows.CutSmallerSaid:=
 OpenClaim.holds_of_wide 3 Try.f3 rfl rfl rfl rfl rfl rfl rfl ⟨rfl,rfl,rfl,rfl,rfl⟩ rfl rfl rfl rfl rfl (by kernel_rfl) Try.func3 og
  (of_decide_eq_true (by kernel_rfl)) (by unfold Func.isWrapper;first|(rw [if_pos (by decide +kernel)];kernel_rfl)|(rw [if_neg (by decide +kernel)];exact ⟨rfl,rfl⟩))
  (fun os started H enc _=>lifted os started H enc)
end Go.Proofs.Ytkpmahdfgfeknaa.cutSmaller
