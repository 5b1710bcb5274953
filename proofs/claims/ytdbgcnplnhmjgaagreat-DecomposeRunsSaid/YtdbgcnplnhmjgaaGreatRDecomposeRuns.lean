/- DecomposeRuns: for every input the law returns true, and its arguments read as before. No condition. -/
import Derived.Test.YtdbgcnplnhmjgaaGreatV12
set_option linter.all false
set_option maxRecDepth 10000
namespace Go.Proofs.YtdbgcnplnhmjgaaGreat.decomposeRuns
open Go.Ab Go.ChangeShapes Go.WideShapes Go.ChangeAt Go.RowKit
theorem det{H:Type}(ds:List (DataW H))(h:wO Tryz.prog [29,30,30,2,3,31,31,31] ds):aQ Tryz.prog 3 (ds.map λd=>.pv (gn d)) [] [] (.pv (.val (.bool true))):=by
 match ds,h with
 |[x1,x2,x3,x4,x5,x6,x7,x8],⟨f1,f2,f3,f4,f5,f6,f7,f8,_⟩=>
  obtain⟨a1,e1,q1,s1⟩:=KH x1 f1;obtain⟨a2,e2,q2,s2⟩:=Cf x2 f2;obtain⟨a3,e3,q3,s3⟩:=Cf x3 f3;obtain⟨a4,e4,q4,s4⟩:=Eu x4 f4;obtain⟨a5,e5,q5,s5⟩:=IZ x5 f5;obtain⟨a6,e6,q6,s6⟩:=By x6 f6;obtain⟨a7,e7,q7,s7⟩:=By x7 f7;obtain⟨a8,e8,q8,s8⟩:=By x8 f8;simp only[List.map,e1,e2,e3,e4,e5,e6,e7,e8];exact d3 a1 a2 a3 a4 a5 a6 a7 a8 q1 q2.1 q3.1
set_option maxRecDepth 100000 in
theorem contract(H:Type)(enc:TypeId×Value->H)(W:World)(base:Nat)(args:Array Value)(ds gs:List (DataW H))(before:List MemPlace)
 (hval:∀(j:Nat) t v,Tryz.f3.params[j]?=some t->args[j]?=some v->Value.okWide Tryz.prog W .any base t v)
 (hW:DataW.Whole enc Tryz.prog Tryz.f3.params.toList Rows.decomposeRunsSpec.vars false W args.toList ds gs before):
 Calls Tryz.prog 3 args W λe W'=>∃v,e=.returned v∧Rows.decomposeRunsSpec.post enc Tryz.prog Tryz.f3 false true false false W args v W':=by
 have hp:Tryz.f3.params.toList=[29,30,30,2,3,31,31,31]:=by rw[Tryz.params3]
 refine Dv (P:=Tryz.prog) (f:=3) (fn:=Tryz.f3) (s:=Rows.decomposeRunsSpec) (tb:=4) kids full (by kernel_rfl) (by kernel_rfl) Tryz.underlying4 rfl W base args ds gs before hval hW (λh=>?_) (λh=>?_)
 .rw[hp]at h
  match ds,h with
  |[x1,x2,x3,x4,x5,x6,x7,x8],_=>rfl
 .rw[hp]at h
  exact det ds h
set_option maxRecDepth 100000 in
theorem lifted(os:Os)(started:os.Started)(H:Type)(enc:TypeId×Value->H):
 ReturnsInHanded {} Tryz.checked os 3 .any (Rows.decomposeRunsSpec.pre6 enc Tryz.prog Tryz.f3 Rows.decomposeRunsRow.domain false) (Rows.decomposeRunsSpec.post enc Tryz.prog Tryz.f3 false true false false):=by
 refine returnsInHanded_of_change (C:=Tryz.checked) own started (by kernel_rfl) Tryz.func3
  (ChangeSpec.witness6 (enc:=enc) (C:=Tryz.checked) false ⟨#[],#[.agg #[.slice none 0 0,.slice none 0 0,.slice none 0 0,.slice none 0 0],.slice none 0 0,.slice none 0 0,.int .i64 0,.int .i64 0,.slice none 0 0,.slice none 0 0,.slice none 0 0],[]⟩ 8 (by kernel_rfl) (by kernel_rfl) (by kernel_rfl) (by kernel_rfl)) ?_
 intro W base args ds gs before hval hW _ _;exact contract H enc W base args ds gs before hval hW
theorem PN:laidOutB Tryz.prog=true:=by kernel_rfl
theorem PO:mapsRowed Tryz.prog=true:=by kernel_rfl
theorem U0:(Rows.decomposeRunsRow.inPlace==Tryz.prog.inPlace 3)=true:=by kernel_rfl
theorem U1:(Rows.decomposeRunsRow.unfollowed==Tryz.prog.unfollowed 3)=true:=by kernel_rfl
theorem U2:(Rows.decomposeRunsRow.recurses==Tryz.prog.recurses 3)=true:=by kernel_rfl
theorem U3:(Rows.decomposeRunsRow.named==Tryz.prog.varsNamed 3)=true:=by kernel_rfl
theorem U4:(Rows.decomposeRunsRow.plainKeys==Tryz.prog.plainKeys)=true:=by kernel_rfl
theorem U5:Tryz.prog.stopsHeard=true:=by kernel_rfl
theorem U7:Tryz.prog.mayEnter=true:=by kernel_rfl
theorem U8:(Rows.decomposeRunsRow.lifted==Tryz.prog.liftsFinal)=true:=by kernel_rfl
theorem U9:(Tryz.prog.make==some Rows.decomposeRunsRow.make)=true:=by kernel_rfl
theorem IY:joinedFacts Tryz.prog 3 Tryz.f3 Rows.decomposeRunsSpec Rows.decomposeRunsRow=true:=by
 unfold joinedFacts;simp only[Bool.and_eq_true];exact⟨⟨⟨⟨⟨⟨⟨⟨⟨⟨⟨⟨⟨⟨⟨⟨⟨⟨⟨⟨⟨⟨⟨⟨⟨⟨⟨⟨⟨⟨⟨(by kernel_rfl),PN⟩,PO⟩,(by kernel_rfl)⟩,(by kernel_rfl)⟩,(by kernel_rfl)⟩,(by kernel_rfl)⟩,(by kernel_rfl)⟩,(by kernel_rfl)⟩,U0⟩,U1⟩,U2⟩,U3⟩,(by kernel_rfl)⟩,(by kernel_rfl)⟩,(by kernel_rfl)⟩,(by kernel_rfl)⟩,(by kernel_rfl)⟩,(by kernel_rfl)⟩,(by kernel_rfl)⟩,(by kernel_rfl)⟩,(by kernel_rfl)⟩,U4⟩,(by kernel_rfl)⟩,U5⟩,U7⟩,U8⟩,U9⟩,(by kernel_rfl)⟩,(by kernel_rfl)⟩,(by kernel_rfl)⟩,(by kernel_rfl)⟩
theorem proved:Rows.DecomposeRunsSaid:=
 OpenClaim.holds_of_wide 3 Tryz.f3 rfl rfl rfl rfl rfl rfl rfl ⟨rfl,rfl,rfl,rfl,rfl⟩ rfl rfl rfl rfl rfl (by kernel_rfl) Tryz.func3 IY
  (of_decide_eq_true (by kernel_rfl)) (by unfold Func.isWrapper;first|(rw[if_pos (by decide +kernel)];kernel_rfl)|(rw[if_neg (by decide +kernel)];exact⟨rfl,rfl⟩))
  (λos started H enc _=>lifted os started H enc)
end Go.Proofs.YtdbgcnplnhmjgaaGreat.decomposeRuns
