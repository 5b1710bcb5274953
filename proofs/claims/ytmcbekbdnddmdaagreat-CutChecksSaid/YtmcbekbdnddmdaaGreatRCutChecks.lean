/- CutChecks: for every input the law returns true, and its arguments read as before. No condition. -/
import Derived.Test.YtmcbekbdnddmdaaGreatW10
set_option linter.all false
namespace Go.Proofs.YtmcbekbdnddmdaaGreat.cutChecks
open Go.Ab Go.ChangeShapes Go.WideShapes Go.ChangeAt Go.RowKit
theorem det {H : Type} (ds : List (DataW H)) (h : qR Tryz.prog [29,33,34,34,35,35,35,35,3] ds) : ab Tryz.prog 3 (ds.map fun d=>.pv (dy d)) [] [] (.pv (.val (.bool true))):=by
 match ds,h with
 |[x1,x2,x3,x4,x5,x6,x7,x8,x9],⟨f1,f2,f3,f4,f5,f6,f7,f8,f9,_⟩=>
  obtain ⟨a1,e1,q1,s1⟩:=D8 x1 f1
  obtain ⟨a2,e2,q2,s2⟩:=Fw x2 f2
  obtain ⟨a3,e3,q3,s3⟩:=nY x3 f3
  obtain ⟨a4,e4,q4,s4⟩:=nY x4 f4
  obtain ⟨a5,e5,q5,s5⟩:=rV x5 f5
  obtain ⟨a6,e6,q6,s6⟩:=rV x6 f6
  obtain ⟨a7,e7,q7,s7⟩:=rV x7 f7
  obtain ⟨a8,e8,q8,s8⟩:=rV x8 f8
  obtain ⟨a9,e9,q9,s9⟩:=CD x9 f9
  simp only [List.map,e1,e2,e3,e4,e5,e6,e7,e8,e9]
  exact d3 a1 a2 a3 a4 a5 a6 a7 a8 a9 q1 (fun c hc=>⟨(q2.2.2 c hc).2.1,(q2.2.2 c hc).2.2⟩)
set_option maxRecDepth 100000 in
theorem contract (H : Type) (enc : TypeId × Value→H) (W : World) (base : Nat) (args : Array Value) (ds gs : List (DataW H)) (before : List MemPlace)
 (hval : ∀ (j : Nat) t v,Tryz.f3.params[j]?=some t→args[j]?=some v→Value.okWide Tryz.prog W .any base t v)
 (hW : DataW.Whole enc Tryz.prog Tryz.f3.params.toList Rows.cutChecksSpec.vars false W args.toList ds gs before) :
 Calls Tryz.prog 3 args W fun e W'=>∃ v,e=.returned v∧Rows.cutChecksSpec.post enc Tryz.prog Tryz.f3 false true false false W args v W':=by
 have hp : Tryz.f3.params.toList=[29,33,34,34,35,35,35,35,3]:=by rw [Tryz.params3]
 refine xq (P:=Tryz.prog) (f:=3) (fn:=Tryz.f3) (s:=Rows.cutChecksSpec) (tb:=4) kids full (by kernel_rfl) (by kernel_rfl) Tryz.underlying4 rfl W base args ds gs before hval hW (fun h=>?_) (fun h=>?_)
 ·rw [hp] at h
  match ds,h with
  |[x1,x2,x3,x4,x5,x6,x7,x8,x9],_=>rfl
 ·rw [hp] at h
  exact det ds h
set_option maxRecDepth 100000 in
theorem lifted (os : Os) (started : os.Started) (H : Type) (enc : TypeId × Value→H) :
 ReturnsInHanded {} Tryz.checked os 3 .any (Rows.cutChecksSpec.pre6 enc Tryz.prog Tryz.f3 Rows.cutChecksRow.domain false) (Rows.cutChecksSpec.post enc Tryz.prog Tryz.f3 false true false false):=by
 refine returnsInHanded_of_change (C:=Tryz.checked) own started (by kernel_rfl) Tryz.func3
  (ChangeSpec.witness6 (enc:=enc) (C:=Tryz.checked) false ⟨#[],#[.agg #[.slice none 0 0,.slice none 0 0,.slice none 0 0,.slice none 0 0],.agg #[.slice none 0 0,.slice none 0 0],.slice none 0 0,.slice none 0 0,.slice none 0 0,.slice none 0 0,.slice none 0 0,.slice none 0 0,.int .i64 0],[]⟩ 8 (by kernel_rfl) (by kernel_rfl) (by kernel_rfl) (by kernel_rfl)) ?_
 intro W base args ds gs before hval hW _ _
 exact contract H enc W base args ds gs before hval hW
theorem HO : laidOutB Tryz.prog=true:=by kernel_rfl
theorem HP : mapsRowed Tryz.prog=true:=by kernel_rfl
theorem L6 : (Rows.cutChecksRow.inPlace==Tryz.prog.inPlace 3)=true:=by kernel_rfl
theorem L7 : (Rows.cutChecksRow.unfollowed==Tryz.prog.unfollowed 3)=true:=by kernel_rfl
theorem L8 : (Rows.cutChecksRow.recurses==Tryz.prog.recurses 3)=true:=by kernel_rfl
theorem L9 : (Rows.cutChecksRow.named==Tryz.prog.varsNamed 3)=true:=by kernel_rfl
theorem Ma : (Rows.cutChecksRow.plainKeys==Tryz.prog.plainKeys)=true:=by kernel_rfl
theorem Mb : Tryz.prog.stopsHeard=true:=by kernel_rfl
theorem Mc : Tryz.prog.mayEnter=true:=by kernel_rfl
theorem Md : (Rows.cutChecksRow.lifted==Tryz.prog.liftsFinal)=true:=by kernel_rfl
theorem Me : (Tryz.prog.make==some Rows.cutChecksRow.make)=true:=by kernel_rfl
theorem CC : joinedFacts Tryz.prog 3 Tryz.f3 Rows.cutChecksSpec Rows.cutChecksRow=true:=by
 unfold joinedFacts
 simp only [Bool.and_eq_true]
 exact ⟨⟨⟨⟨⟨⟨⟨⟨⟨⟨⟨⟨⟨⟨⟨⟨⟨⟨⟨⟨⟨⟨⟨⟨⟨⟨⟨⟨⟨⟨⟨(by kernel_rfl),HO⟩,HP⟩,(by kernel_rfl)⟩,(by kernel_rfl)⟩,(by kernel_rfl)⟩,(by kernel_rfl)⟩,(by kernel_rfl)⟩,(by kernel_rfl)⟩,L6⟩,L7⟩,L8⟩,L9⟩,(by kernel_rfl)⟩,(by kernel_rfl)⟩,(by kernel_rfl)⟩,(by kernel_rfl)⟩,(by kernel_rfl)⟩,(by kernel_rfl)⟩,(by kernel_rfl)⟩,(by kernel_rfl)⟩,(by kernel_rfl)⟩,Ma⟩,(by kernel_rfl)⟩,Mb⟩,Mc⟩,Md⟩,Me⟩,(by kernel_rfl)⟩,(by kernel_rfl)⟩,(by kernel_rfl)⟩,(by kernel_rfl)⟩
theorem proved : Rows.CutChecksSaid:=
 OpenClaim.holds_of_wide 3 Tryz.f3 rfl rfl rfl rfl rfl rfl rfl ⟨rfl,rfl,rfl,rfl,rfl⟩ rfl rfl rfl rfl rfl (by kernel_rfl) Tryz.func3 CC
  (of_decide_eq_true (by kernel_rfl)) (by unfold Func.isWrapper;first|(rw [if_pos (by decide +kernel)];kernel_rfl)|(rw [if_neg (by decide +kernel)];exact ⟨rfl,rfl⟩))
  (fun os started H enc _=>lifted os started H enc)
end Go.Proofs.YtmcbekbdnddmdaaGreat.cutChecks
