/- CorridorAccepted: for every input the law returns true, and its arguments read as before. No condition. -/
import Derived.Test.YtelhehdhaakiiaaGreatV9
set_option linter.all false
namespace Go.Proofs.YtelhehdhaakiiaaGreat.corridorAccepted
open Go.Ab Go.ChangeShapes Go.WideShapes Go.ChangeAt Go.RowKit
theorem det {H : Type} (ds : List (DataW H)) (h : pT Tryz.prog [34,34,34,3,3] ds) : ab Tryz.prog 4 (ds.map fun d=>.pv (cP d)) [] [] (.pv (.val (.bool true))):=by
 match ds,h with
 |[x1,x2,x3,x4,x5],⟨f1,f2,f3,f4,f5,_⟩=>
  obtain ⟨a1,e1,q1,s1⟩:=qZ x1 f1
  obtain ⟨a2,e2,q2,s2⟩:=qZ x2 f2
  obtain ⟨a3,e3,q3,s3⟩:=qZ x3 f3
  obtain ⟨a4,e4,q4,s4⟩:=F8 x4 f4
  obtain ⟨a5,e5,q5,s5⟩:=F8 x5 f5
  simp only [List.map,e1,e2,e3,e4,e5]
  exact d4 a1 a2 a3 a4 a5
set_option maxRecDepth 100000 in
theorem contract (H : Type) (enc : TypeId × Value→H) (W : World) (base : Nat) (args : Array Value) (ds gs : List (DataW H)) (before : List MemPlace)
 (hval : ∀ (j : Nat) t v,Tryz.f4.params[j]?=some t→args[j]?=some v→Value.okWide Tryz.prog W .any base t v)
 (hW : DataW.Whole enc Tryz.prog Tryz.f4.params.toList Rows.corridorAcceptedSpec.vars false W args.toList ds gs before) :
 Calls Tryz.prog 4 args W fun e W'=>∃ v,e=.returned v∧Rows.corridorAcceptedSpec.post enc Tryz.prog Tryz.f4 false true false false W args v W':=by
 have hp : Tryz.f4.params.toList=[34,34,34,3,3]:=by rw [Tryz.params4]
 refine wE (P:=Tryz.prog) (f:=4) (fn:=Tryz.f4) (s:=Rows.corridorAcceptedSpec) (tb:=4) kids full (by kernel_rfl) (by kernel_rfl) Tryz.underlying4 rfl W base args ds gs before hval hW (fun h=>?_) (fun h=>?_)
 ·rw [hp] at h
  match ds,h with
  |[x1,x2,x3,x4,x5],_=>rfl
 ·rw [hp] at h
  exact det ds h
set_option maxRecDepth 100000 in
theorem lifted (os : Os) (started : os.Started) (H : Type) (enc : TypeId × Value→H) :
 ReturnsInHanded {} Tryz.checked os 4 .any (Rows.corridorAcceptedSpec.pre6 enc Tryz.prog Tryz.f4 Rows.corridorAcceptedRow.domain false) (Rows.corridorAcceptedSpec.post enc Tryz.prog Tryz.f4 false true false false):=by
 refine returnsInHanded_of_change (C:=Tryz.checked) own started (by kernel_rfl) Tryz.func4
  (ChangeSpec.witness6 (enc:=enc) (C:=Tryz.checked) false ⟨#[],#[.slice none 0 0,.slice none 0 0,.slice none 0 0,.int .i64 0,.int .i64 0],[]⟩ 8 (by kernel_rfl) (by kernel_rfl) (by kernel_rfl) (by kernel_rfl)) ?_
 intro W base args ds gs before hval hW _ _
 exact contract H enc W base args ds gs before hval hW
theorem O2 : laidOutB Tryz.prog=true:=by kernel_rfl
theorem O3 : mapsRowed Tryz.prog=true:=by kernel_rfl
theorem Ps : (Rows.corridorAcceptedRow.inPlace==Tryz.prog.inPlace 4)=true:=by kernel_rfl
theorem Pt : (Rows.corridorAcceptedRow.unfollowed==Tryz.prog.unfollowed 4)=true:=by kernel_rfl
theorem Pu : (Rows.corridorAcceptedRow.recurses==Tryz.prog.recurses 4)=true:=by kernel_rfl
theorem Pv : (Rows.corridorAcceptedRow.named==Tryz.prog.varsNamed 4)=true:=by kernel_rfl
theorem Pw : (Rows.corridorAcceptedRow.plainKeys==Tryz.prog.plainKeys)=true:=by kernel_rfl
theorem Px : Tryz.prog.stopsHeard=true:=by kernel_rfl
theorem Py : Tryz.prog.mayEnter=true:=by kernel_rfl
theorem Pz : (Rows.corridorAcceptedRow.lifted==Tryz.prog.liftsFinal)=true:=by kernel_rfl
theorem PA : (Tryz.prog.make==some Rows.corridorAcceptedRow.make)=true:=by kernel_rfl
theorem N4 : joinedFacts Tryz.prog 4 Tryz.f4 Rows.corridorAcceptedSpec Rows.corridorAcceptedRow=true:=by
 unfold joinedFacts
 simp only [Bool.and_eq_true]
 exact ⟨⟨⟨⟨⟨⟨⟨⟨⟨⟨⟨⟨⟨⟨⟨⟨⟨⟨⟨⟨⟨⟨⟨⟨⟨⟨⟨⟨⟨⟨⟨(by kernel_rfl),O2⟩,O3⟩,(by kernel_rfl)⟩,(by kernel_rfl)⟩,(by kernel_rfl)⟩,(by kernel_rfl)⟩,(by kernel_rfl)⟩,(by kernel_rfl)⟩,Ps⟩,Pt⟩,Pu⟩,Pv⟩,(by kernel_rfl)⟩,(by kernel_rfl)⟩,(by kernel_rfl)⟩,(by kernel_rfl)⟩,(by kernel_rfl)⟩,(by kernel_rfl)⟩,(by kernel_rfl)⟩,(by kernel_rfl)⟩,(by kernel_rfl)⟩,Pw⟩,(by kernel_rfl)⟩,Px⟩,Py⟩,Pz⟩,PA⟩,(by kernel_rfl)⟩,(by kernel_rfl)⟩,(by kernel_rfl)⟩,(by kernel_rfl)⟩
theorem proved : Rows.CorridorAcceptedSaid:=
 OpenClaim.holds_of_wide 4 Tryz.f4 rfl rfl rfl rfl rfl rfl rfl ⟨rfl,rfl,rfl,rfl,rfl⟩ rfl rfl rfl rfl rfl (by kernel_rfl) Tryz.func4 N4
  (of_decide_eq_true (by kernel_rfl)) (by unfold Func.isWrapper;first|(rw [if_pos (by decide +kernel)];kernel_rfl)|(rw [if_neg (by decide +kernel)];exact ⟨rfl,rfl⟩))
  (fun os started H enc _=>lifted os started H enc)
end Go.Proofs.YtelhehdhaakiiaaGreat.corridorAccepted
