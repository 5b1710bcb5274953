/- TreeCarries: for every input the law returns true, and its arguments read as before. No condition. -/
import Derived.Test.YtpbakcmohoahgaaGreatV10
set_option linter.all false
namespace Go.Proofs.YtpbakcmohoahgaaGreat.treeCarries
open Go.Ab Go.ChangeShapes Go.WideShapes Go.ChangeAt Go.RowKit
theorem det {H : Type} (ds : List (DataW H)) (h : qh Tryz.prog [22,22,3] ds) : ab Tryz.prog 3 (ds.map fun d=>.pv (fK d)) [] [] (.pv (.val (.bool true))):=by
 match ds,h with
 |[x1,x2,x3],⟨f1,f2,f3,_⟩=>
  obtain ⟨a1,e1,q1,s1⟩:=zI x1 f1
  obtain ⟨a2,e2,q2,s2⟩:=zI x2 f2
  obtain ⟨a3,e3,q3,s3⟩:=BY x3 f3
  simp only [List.map,e1,e2,e3]
  exact d3 a1 a2 a3
set_option maxRecDepth 100000 in
theorem contract (H : Type) (enc : TypeId × Value→H) (W : World) (base : Nat) (args : Array Value) (ds gs : List (DataW H)) (before : List MemPlace)
 (hval : ∀ (j : Nat) t v,Tryz.f3.params[j]?=some t→args[j]?=some v→Value.okWide Tryz.prog W .any base t v)
 (hW : DataW.Whole enc Tryz.prog Tryz.f3.params.toList Rows.treeCarriesSpec.vars false W args.toList ds gs before) :
 Calls Tryz.prog 3 args W fun e W'=>∃ v,e=.returned v∧Rows.treeCarriesSpec.post enc Tryz.prog Tryz.f3 false true false false W args v W':=by
 have hp : Tryz.f3.params.toList=[22,22,3]:=by rw [Tryz.params3]
 refine w9 (P:=Tryz.prog) (f:=3) (fn:=Tryz.f3) (s:=Rows.treeCarriesSpec) (tb:=4) kids full (by kernel_rfl) (by kernel_rfl) Tryz.underlying4 rfl W base args ds gs before hval hW (fun h=>?_) (fun h=>?_)
 ·rw [hp] at h
  match ds,h with
  |[x1,x2,x3],_=>rfl
 ·rw [hp] at h
  exact det ds h
set_option maxRecDepth 100000 in
theorem lifted (os : Os) (started : os.Started) (H : Type) (enc : TypeId × Value→H) :
 ReturnsInHanded {} Tryz.checked os 3 .any (Rows.treeCarriesSpec.pre6 enc Tryz.prog Tryz.f3 Rows.treeCarriesRow.domain false) (Rows.treeCarriesSpec.post enc Tryz.prog Tryz.f3 false true false false):=by
 refine returnsInHanded_of_change (C:=Tryz.checked) own started (by kernel_rfl) Tryz.func3
  (ChangeSpec.witness6 (enc:=enc) (C:=Tryz.checked) false ⟨#[],#[.slice none 0 0,.slice none 0 0,.int .i64 0],[]⟩ 8 (by kernel_rfl) (by kernel_rfl) (by kernel_rfl) (by kernel_rfl)) ?_
 intro W base args ds gs before hval hW _ _
 exact contract H enc W base args ds gs before hval hW
theorem G4 : laidOutB Tryz.prog=true:=by kernel_rfl
theorem G5 : mapsRowed Tryz.prog=true:=by kernel_rfl
theorem Li : (Rows.treeCarriesRow.inPlace==Tryz.prog.inPlace 3)=true:=by kernel_rfl
theorem Lj : (Rows.treeCarriesRow.unfollowed==Tryz.prog.unfollowed 3)=true:=by kernel_rfl
theorem Lk : (Rows.treeCarriesRow.recurses==Tryz.prog.recurses 3)=true:=by kernel_rfl
theorem Ll : (Rows.treeCarriesRow.named==Tryz.prog.varsNamed 3)=true:=by kernel_rfl
theorem Lm : (Rows.treeCarriesRow.plainKeys==Tryz.prog.plainKeys)=true:=by kernel_rfl
theorem Ln : Tryz.prog.stopsHeard=true:=by kernel_rfl
theorem Lo : Tryz.prog.mayEnter=true:=by kernel_rfl
theorem Lp : (Rows.treeCarriesRow.lifted==Tryz.prog.liftsFinal)=true:=by kernel_rfl
theorem Lq : (Tryz.prog.make==some Rows.treeCarriesRow.make)=true:=by kernel_rfl
theorem BX : joinedFacts Tryz.prog 3 Tryz.f3 Rows.treeCarriesSpec Rows.treeCarriesRow=true:=by
 unfold joinedFacts
 simp only [Bool.and_eq_true]
 exact ⟨⟨⟨⟨⟨⟨⟨⟨⟨⟨⟨⟨⟨⟨⟨⟨⟨⟨⟨⟨⟨⟨⟨⟨⟨⟨⟨⟨⟨⟨⟨(by kernel_rfl),G4⟩,G5⟩,(by kernel_rfl)⟩,(by kernel_rfl)⟩,(by kernel_rfl)⟩,(by kernel_rfl)⟩,(by kernel_rfl)⟩,(by kernel_rfl)⟩,Li⟩,Lj⟩,Lk⟩,Ll⟩,(by kernel_rfl)⟩,(by kernel_rfl)⟩,(by kernel_rfl)⟩,(by kernel_rfl)⟩,(by kernel_rfl)⟩,(by kernel_rfl)⟩,(by kernel_rfl)⟩,(by kernel_rfl)⟩,(by kernel_rfl)⟩,Lm⟩,(by kernel_rfl)⟩,Ln⟩,Lo⟩,Lp⟩,Lq⟩,(by kernel_rfl)⟩,(by kernel_rfl)⟩,(by kernel_rfl)⟩,(by kernel_rfl)⟩
theorem proved : Rows.TreeCarriesSaid:=
 OpenClaim.holds_of_wide 3 Tryz.f3 rfl rfl rfl rfl rfl rfl rfl ⟨rfl,rfl,rfl,rfl,rfl⟩ rfl rfl rfl rfl rfl (by kernel_rfl) Tryz.func3 BX
  (of_decide_eq_true (by kernel_rfl)) (by unfold Func.isWrapper;first|(rw [if_pos (by decide +kernel)];kernel_rfl)|(rw [if_neg (by decide +kernel)];exact ⟨rfl,rfl⟩))
  (fun os started H enc _=>lifted os started H enc)
end Go.Proofs.YtpbakcmohoahgaaGreat.treeCarries
