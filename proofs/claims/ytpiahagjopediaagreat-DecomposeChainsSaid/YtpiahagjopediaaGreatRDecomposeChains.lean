/- DecomposeChains: for every input the law returns true, and its arguments read as before. No condition. -/
import Derived.Test.YtpiahagjopediaaGreatW11
set_option linter.all false
namespace Go.Proofs.YtpiahagjopediaaGreat.decomposeChains
open Go.Ab Go.ChangeShapes Go.WideShapes Go.ChangeAt Go.RowKit
theorem det{H:Type}(ds:List (DataW H))(h:tA Tryz.prog [25,26,26,4,27,27,27] ds):aa Tryz.prog 3 (ds.map λd=>.pv (eP d)) [] [] (.pv (.val (.bool true))):=by
 match ds,h with
 |[x1,x2,x3,x4,x5,x6,x7],⟨f1,f2,f3,f4,f5,f6,f7,_⟩=>
  obtain⟨a1,e1,q1,s1⟩:=HT x1 f1;obtain⟨a2,e2,q2,s2⟩:=ql x2 f2;obtain⟨a3,e3,q3,s3⟩:=ql x3 f3;obtain⟨a4,e4,q4,s4⟩:=HR x4 f4;obtain⟨a5,e5,q5,s5⟩:=yJ x5 f5;obtain⟨a6,e6,q6,s6⟩:=yJ x6 f6;obtain⟨a7,e7,q7,s7⟩:=yJ x7 f7;simp only[List.map,e1,e2,e3,e4,e5,e6,e7];exact d3 a1 a2 a3 a4 a5 a6 a7 q1.2.1 q1.1 q2.1 q3.1
set_option maxRecDepth 100000 in
theorem contract(H:Type)(enc:TypeId×Value->H)(W:World)(base:Nat)(args:Array Value)(ds gs:List (DataW H))(before:List MemPlace)
 (hval:∀(j:Nat) t v,Tryz.f3.params[j]?=some t->args[j]?=some v->Value.okWide Tryz.prog W .any base t v)
 (hW:DataW.Whole enc Tryz.prog Tryz.f3.params.toList Rows.decomposeChainsSpec.vars false W args.toList ds gs before):
 Calls Tryz.prog 3 args W λe W'=>∃v,e=.returned v∧Rows.decomposeChainsSpec.post enc Tryz.prog Tryz.f3 false true false false W args v W':=by
 have hp:Tryz.f3.params.toList=[25,26,26,4,27,27,27]:=by rw[Tryz.params3]
 refine AS (P:=Tryz.prog) (f:=3) (fn:=Tryz.f3) (s:=Rows.decomposeChainsSpec) (tb:=4) kids full (by kernel_rfl) (by kernel_rfl) Tryz.underlying4 rfl W base args ds gs before hval hW (λh=>?_) (λh=>?_)
 .rw[hp]at h
  match ds,h with
  |[x1,x2,x3,x4,x5,x6,x7],_=>rfl
 .rw[hp]at h
  exact det ds h
set_option maxRecDepth 100000 in
theorem lifted(os:Os)(started:os.Started)(H:Type)(enc:TypeId×Value->H):
 ReturnsInHanded {} Tryz.checked os 3 .any (Rows.decomposeChainsSpec.pre6 enc Tryz.prog Tryz.f3 Rows.decomposeChainsRow.domain false) (Rows.decomposeChainsSpec.post enc Tryz.prog Tryz.f3 false true false false):=by
 refine returnsInHanded_of_change (C:=Tryz.checked) own started (by kernel_rfl) Tryz.func3
  (ChangeSpec.witness6 (enc:=enc) (C:=Tryz.checked) false ⟨#[],#[.agg #[.slice none 0 0,.slice none 0 0],.slice none 0 0,.slice none 0 0,.bool false,.slice none 0 0,.slice none 0 0,.slice none 0 0],[]⟩ 8 (by kernel_rfl) (by kernel_rfl) (by kernel_rfl) (by kernel_rfl)) ?_
 intro W base args ds gs before hval hW _ _;exact contract H enc W base args ds gs before hval hW
theorem Ka:laidOutB Tryz.prog=true:=by kernel_rfl
theorem Kb:mapsRowed Tryz.prog=true:=by kernel_rfl
theorem OE:(Rows.decomposeChainsRow.inPlace==Tryz.prog.inPlace 3)=true:=by kernel_rfl
theorem OF:(Rows.decomposeChainsRow.unfollowed==Tryz.prog.unfollowed 3)=true:=by kernel_rfl
theorem OG:(Rows.decomposeChainsRow.recurses==Tryz.prog.recurses 3)=true:=by kernel_rfl
theorem OH:(Rows.decomposeChainsRow.named==Tryz.prog.varsNamed 3)=true:=by kernel_rfl
theorem OI:(Rows.decomposeChainsRow.plainKeys==Tryz.prog.plainKeys)=true:=by kernel_rfl
theorem OJ:Tryz.prog.stopsHeard=true:=by kernel_rfl
theorem OK:Tryz.prog.mayEnter=true:=by kernel_rfl
theorem OM:(Rows.decomposeChainsRow.lifted==Tryz.prog.liftsFinal)=true:=by kernel_rfl
theorem ON:(Tryz.prog.make==some Rows.decomposeChainsRow.make)=true:=by kernel_rfl
theorem E3:joinedFacts Tryz.prog 3 Tryz.f3 Rows.decomposeChainsSpec Rows.decomposeChainsRow=true:=by
 unfold joinedFacts;simp only[Bool.and_eq_true];exact⟨⟨⟨⟨⟨⟨⟨⟨⟨⟨⟨⟨⟨⟨⟨⟨⟨⟨⟨⟨⟨⟨⟨⟨⟨⟨⟨⟨⟨⟨⟨(by kernel_rfl),Ka⟩,Kb⟩,(by kernel_rfl)⟩,(by kernel_rfl)⟩,(by kernel_rfl)⟩,(by kernel_rfl)⟩,(by kernel_rfl)⟩,(by kernel_rfl)⟩,OE⟩,OF⟩,OG⟩,OH⟩,(by kernel_rfl)⟩,(by kernel_rfl)⟩,(by kernel_rfl)⟩,(by kernel_rfl)⟩,(by kernel_rfl)⟩,(by kernel_rfl)⟩,(by kernel_rfl)⟩,(by kernel_rfl)⟩,(by kernel_rfl)⟩,OI⟩,(by kernel_rfl)⟩,OJ⟩,OK⟩,OM⟩,ON⟩,(by kernel_rfl)⟩,(by kernel_rfl)⟩,(by kernel_rfl)⟩,(by kernel_rfl)⟩
theorem proved:Rows.DecomposeChainsSaid:=
 OpenClaim.holds_of_wide 3 Tryz.f3 rfl rfl rfl rfl rfl rfl rfl ⟨rfl,rfl,rfl,rfl,rfl⟩ rfl rfl rfl rfl rfl (by kernel_rfl) Tryz.func3 E3
  (of_decide_eq_true (by kernel_rfl)) (by unfold Func.isWrapper;first|(rw[if_pos (by decide +kernel)];kernel_rfl)|(rw[if_neg (by decide +kernel)];exact⟨rfl,rfl⟩))
  (λos started H enc _=>lifted os started H enc)
end Go.Proofs.YtpiahagjopediaaGreat.decomposeChains
