/- ClassifyRefused: for every input the law returns true, and its arguments read as before. No condition. -/
import Derived.Test.YtpbakcmohoahgaaGreatU8
set_option linter.all false
namespace Go.Proofs.YtpbakcmohoahgaaGreat.classifyRefused
open Go.Ab Go.ChangeShapes Go.WideShapes Go.ChangeAt Go.RowKit
theorem det {H : Type} (ds : List (DataW H)) (h : mC Tryz.prog [22,22,22,3] ds) : ab Tryz.prog 7 (ds.map fun d=>.pv (dM d)) [] [] (.pv (.val (.bool true))):=by
 match ds,h with
 |[x1,x2,x3,x4],⟨f1,f2,f3,f4,_⟩=>
  obtain ⟨a1,e1,q1,s1⟩:=p9 x1 f1
  obtain ⟨a2,e2,q2,s2⟩:=p9 x2 f2
  obtain ⟨a3,e3,q3,s3⟩:=p9 x3 f3
  obtain ⟨a4,e4,q4,s4⟩:=vg x4 f4
  simp only [List.map,e1,e2,e3,e4]
  exact d7 a1 a2 a3 a4
set_option maxRecDepth 100000 in
theorem contract (H : Type) (enc : TypeId × Value→H) (W : World) (base : Nat) (args : Array Value) (ds gs : List (DataW H)) (before : List MemPlace)
 (hval : ∀ (j : Nat) t v,Tryz.f7.params[j]?=some t→args[j]?=some v→Value.okWide Tryz.prog W .any base t v)
 (hW : DataW.Whole enc Tryz.prog Tryz.f7.params.toList Rows.classifyRefusedSpec.vars false W args.toList ds gs before) :
 Calls Tryz.prog 7 args W fun e W'=>∃ v,e=.returned v∧Rows.classifyRefusedSpec.post enc Tryz.prog Tryz.f7 false true false false W args v W':=by
 have hp : Tryz.f7.params.toList=[22,22,22,3]:=by rw [Tryz.params7]
 refine rv (P:=Tryz.prog) (f:=7) (fn:=Tryz.f7) (s:=Rows.classifyRefusedSpec) (tb:=4) kids full (by kernel_rfl) (by kernel_rfl) Tryz.underlying4 rfl W base args ds gs before hval hW (fun h=>?_) (fun h=>?_)
 ·rw [hp] at h
  match ds,h with
  |[x1,x2,x3,x4],_=>rfl
 ·rw [hp] at h
  exact det ds h
set_option maxRecDepth 100000 in
theorem lifted (os : Os) (started : os.Started) (H : Type) (enc : TypeId × Value→H) :
 ReturnsInHanded {} Tryz.checked os 7 .any (Rows.classifyRefusedSpec.pre6 enc Tryz.prog Tryz.f7 Rows.classifyRefusedRow.domain false) (Rows.classifyRefusedSpec.post enc Tryz.prog Tryz.f7 false true false false):=by
 refine returnsInHanded_of_change (C:=Tryz.checked) own started (by kernel_rfl) Tryz.func7
  (ChangeSpec.witness6 (enc:=enc) (C:=Tryz.checked) false ⟨#[],#[.slice none 0 0,.slice none 0 0,.slice none 0 0,.int .i64 0],[]⟩ 8 (by kernel_rfl) (by kernel_rfl) (by kernel_rfl) (by kernel_rfl)) ?_
 intro W base args ds gs before hval hW _ _
 exact contract H enc W base args ds gs before hval hW
theorem zK : laidOutB Tryz.prog=true:=by kernel_rfl
theorem zL : mapsRowed Tryz.prog=true:=by kernel_rfl
theorem Da : (Rows.classifyRefusedRow.inPlace==Tryz.prog.inPlace 7)=true:=by kernel_rfl
theorem Db : (Rows.classifyRefusedRow.unfollowed==Tryz.prog.unfollowed 7)=true:=by kernel_rfl
theorem Dc : (Rows.classifyRefusedRow.recurses==Tryz.prog.recurses 7)=true:=by kernel_rfl
theorem Dd : (Rows.classifyRefusedRow.named==Tryz.prog.varsNamed 7)=true:=by kernel_rfl
theorem De : (Rows.classifyRefusedRow.plainKeys==Tryz.prog.plainKeys)=true:=by kernel_rfl
theorem Df : Tryz.prog.stopsHeard=true:=by kernel_rfl
theorem Dg : Tryz.prog.mayEnter=true:=by kernel_rfl
theorem Dh : (Rows.classifyRefusedRow.lifted==Tryz.prog.liftsFinal)=true:=by kernel_rfl
theorem Di : (Tryz.prog.make==some Rows.classifyRefusedRow.make)=true:=by kernel_rfl
theorem vf : joinedFacts Tryz.prog 7 Tryz.f7 Rows.classifyRefusedSpec Rows.classifyRefusedRow=true:=by
 unfold joinedFacts
 simp only [Bool.and_eq_true]
 exact ⟨⟨⟨⟨⟨⟨⟨⟨⟨⟨⟨⟨⟨⟨⟨⟨⟨⟨⟨⟨⟨⟨⟨⟨⟨⟨⟨⟨⟨⟨⟨(by kernel_rfl),zK⟩,zL⟩,(by kernel_rfl)⟩,(by kernel_rfl)⟩,(by kernel_rfl)⟩,(by kernel_rfl)⟩,(by kernel_rfl)⟩,(by kernel_rfl)⟩,Da⟩,Db⟩,Dc⟩,Dd⟩,(by kernel_rfl)⟩,(by kernel_rfl)⟩,(by kernel_rfl)⟩,(by kernel_rfl)⟩,(by kernel_rfl)⟩,(by kernel_rfl)⟩,(by kernel_rfl)⟩,(by kernel_rfl)⟩,(by kernel_rfl)⟩,De⟩,(by kernel_rfl)⟩,Df⟩,Dg⟩,Dh⟩,Di⟩,(by kernel_rfl)⟩,(by kernel_rfl)⟩,(by kernel_rfl)⟩,(by kernel_rfl)⟩
theorem proved : Rows.ClassifyRefusedSaid:=
 OpenClaim.holds_of_wide 7 Tryz.f7 rfl rfl rfl rfl rfl rfl rfl ⟨rfl,rfl,rfl,rfl,rfl⟩ rfl rfl rfl rfl rfl (by kernel_rfl) Tryz.func7 vf
  (of_decide_eq_true (by kernel_rfl)) (by unfold Func.isWrapper;first|(rw [if_pos (by decide +kernel)];kernel_rfl)|(rw [if_neg (by decide +kernel)];exact ⟨rfl,rfl⟩))
  (fun os started H enc _=>lifted os started H enc)
end Go.Proofs.YtpbakcmohoahgaaGreat.classifyRefused
