/- DecomposeNext: for every input the law returns true, and its arguments read as before. No condition. -/
import Derived.Test.YtpiahagjopediaaGreatX11
set_option linter.all false
namespace Go.Proofs.YtpiahagjopediaaGreat.decomposeNext
open Go.Ab Go.ChangeShapes Go.WideShapes Go.ChangeAt Go.RowKit
theorem det{H:Type}(ds:List (DataW H))(h:tA Tryz.prog [37,25,26,26,2,27,27,27] ds):aa Tryz.prog 4 (ds.map λd=>.pv (eP d)) [] [] (.pv (.val (.bool true))):=by
 match ds,h with
 |[x1,x2,x3,x4,x5,x6,x7,x8],⟨f1,f2,f3,f4,f5,f6,f7,f8,_⟩=>
  obtain⟨a1,e1,q1,s1⟩:=E9 x1 f1;obtain⟨a2,e2,q2,s2⟩:=HT x2 f2;obtain⟨a3,e3,q3,s3⟩:=ql x3 f3;obtain⟨a4,e4,q4,s4⟩:=ql x4 f4;obtain⟨a5,e5,q5,s5⟩:=Gc x5 f5;obtain⟨a6,e6,q6,s6⟩:=yJ x6 f6;obtain⟨a7,e7,q7,s7⟩:=yJ x7 f7;obtain⟨a8,e8,q8,s8⟩:=yJ x8 f8;simp only[List.map,e1,e2,e3,e4,e5,e6,e7,e8];exact d4 a1.1 a1.2 a2 a3 a4 a5 a6 a7 a8 q1.1 q1.2 q2.2.1 q2.1 q3.1 q4.1 q6.1
set_option maxRecDepth 100000 in
theorem contract(H:Type)(enc:TypeId×Value->H)(W:World)(base:Nat)(args:Array Value)(ds gs:List (DataW H))(before:List MemPlace)
 (hval:∀(j:Nat) t v,Tryz.f4.params[j]?=some t->args[j]?=some v->Value.okWide Tryz.prog W .any base t v)
 (hW:DataW.Whole enc Tryz.prog Tryz.f4.params.toList Rows.decomposeNextSpec.vars false W args.toList ds gs before):
 Calls Tryz.prog 4 args W λe W'=>∃v,e=.returned v∧Rows.decomposeNextSpec.post enc Tryz.prog Tryz.f4 false true false false W args v W':=by
 have hp:Tryz.f4.params.toList=[37,25,26,26,2,27,27,27]:=by rw[Tryz.params4]
 refine AS (P:=Tryz.prog) (f:=4) (fn:=Tryz.f4) (s:=Rows.decomposeNextSpec) (tb:=4) kids full (by kernel_rfl) (by kernel_rfl) Tryz.underlying4 rfl W base args ds gs before hval hW (λh=>?_) (λh=>?_)
 .rw[hp]at h
  match ds,h with
  |[x1,x2,x3,x4,x5,x6,x7,x8],_=>rfl
 .rw[hp]at h
  exact det ds h
set_option maxRecDepth 100000 in
theorem lifted(os:Os)(started:os.Started)(H:Type)(enc:TypeId×Value->H):
 ReturnsInHanded {} Tryz.checked os 4 .any (Rows.decomposeNextSpec.pre6 enc Tryz.prog Tryz.f4 Rows.decomposeNextRow.domain false) (Rows.decomposeNextSpec.post enc Tryz.prog Tryz.f4 false true false false):=by
 refine returnsInHanded_of_change (C:=Tryz.checked) own started (by kernel_rfl) Tryz.func4
  (ChangeSpec.witness6 (enc:=enc) (C:=Tryz.checked) false ⟨#[],#[.agg #[.slice none 0 0,.slice none 0 0],.agg #[.slice none 0 0,.slice none 0 0],.slice none 0 0,.slice none 0 0,.int .i64 0,.slice none 0 0,.slice none 0 0,.slice none 0 0],[]⟩ 8 (by kernel_rfl) (by kernel_rfl) (by kernel_rfl) (by kernel_rfl)) ?_
 intro W base args ds gs before hval hW _ _;exact contract H enc W base args ds gs before hval hW
theorem Ka:laidOutB Tryz.prog=true:=by kernel_rfl
theorem Kb:mapsRowed Tryz.prog=true:=by kernel_rfl
theorem OE:(Rows.decomposeNextRow.inPlace==Tryz.prog.inPlace 4)=true:=by kernel_rfl
theorem OF:(Rows.decomposeNextRow.unfollowed==Tryz.prog.unfollowed 4)=true:=by kernel_rfl
theorem OG:(Rows.decomposeNextRow.recurses==Tryz.prog.recurses 4)=true:=by kernel_rfl
theorem OH:(Rows.decomposeNextRow.named==Tryz.prog.varsNamed 4)=true:=by kernel_rfl
theorem OI:(Rows.decomposeNextRow.plainKeys==Tryz.prog.plainKeys)=true:=by kernel_rfl
theorem OJ:Tryz.prog.stopsHeard=true:=by kernel_rfl
theorem OK:Tryz.prog.mayEnter=true:=by kernel_rfl
theorem OM:(Rows.decomposeNextRow.lifted==Tryz.prog.liftsFinal)=true:=by kernel_rfl
theorem ON:(Tryz.prog.make==some Rows.decomposeNextRow.make)=true:=by kernel_rfl
theorem E3:joinedFacts Tryz.prog 4 Tryz.f4 Rows.decomposeNextSpec Rows.decomposeNextRow=true:=by
 unfold joinedFacts;simp only[Bool.and_eq_true];exact⟨⟨⟨⟨⟨⟨⟨⟨⟨⟨⟨⟨⟨⟨⟨⟨⟨⟨⟨⟨⟨⟨⟨⟨⟨⟨⟨⟨⟨⟨⟨(by kernel_rfl),Ka⟩,Kb⟩,(by kernel_rfl)⟩,(by kernel_rfl)⟩,(by kernel_rfl)⟩,(by kernel_rfl)⟩,(by kernel_rfl)⟩,(by kernel_rfl)⟩,OE⟩,OF⟩,OG⟩,OH⟩,(by kernel_rfl)⟩,(by kernel_rfl)⟩,(by kernel_rfl)⟩,(by kernel_rfl)⟩,(by kernel_rfl)⟩,(by kernel_rfl)⟩,(by kernel_rfl)⟩,(by kernel_rfl)⟩,(by kernel_rfl)⟩,OI⟩,(by kernel_rfl)⟩,OJ⟩,OK⟩,OM⟩,ON⟩,(by kernel_rfl)⟩,(by kernel_rfl)⟩,(by kernel_rfl)⟩,(by kernel_rfl)⟩
theorem proved:Rows.DecomposeNextSaid:=
 OpenClaim.holds_of_wide 4 Tryz.f4 rfl rfl rfl rfl rfl rfl rfl ⟨rfl,rfl,rfl,rfl,rfl⟩ rfl rfl rfl rfl rfl (by kernel_rfl) Tryz.func4 E3
  (of_decide_eq_true (by kernel_rfl)) (by unfold Func.isWrapper;first|(rw[if_pos (by decide +kernel)];kernel_rfl)|(rw[if_neg (by decide +kernel)];exact⟨rfl,rfl⟩))
  (λos started H enc _=>lifted os started H enc)
end Go.Proofs.YtpiahagjopediaaGreat.decomposeNext
