/- CutProves: for every input the law returns true, and its arguments read as before. No condition. -/
import Derived.Test.YtidomjacfogjlaaGreatT12
set_option linter.all false
set_option maxRecDepth 10000
namespace Go.Proofs.YtidomjacfogjlaaGreat.cutProves
open Go.Ab Go.ChangeShapes Go.WideShapes Go.ChangeAt Go.RowKit
theorem det{H:Type}(ds:List (DataW H))(h:uj Tryz.prog [34,34,34,34,3] ds):aO Tryz.prog 6 (ds.map λd=>.pv (iu d)) [] [] (.pv (.val (.bool true))):=by
 match ds,h with
 |[x1,x2,x3,x4,x5],⟨f1,f2,f3,f4,f5,_⟩=>
  obtain⟨a1,e1,q1,s1⟩:=nM x1 f1;obtain⟨a2,e2,q2,s2⟩:=nM x2 f2;obtain⟨a3,e3,q3,s3⟩:=nM x3 f3;obtain⟨a4,e4,q4,s4⟩:=nM x4 f4;obtain⟨a5,e5,q5,s5⟩:=CE x5 f5;simp only[List.map,e1,e2,e3,e4,e5];exact d6 a1 a2 a3 a4 a5
set_option maxRecDepth 100000 in
theorem contract(H:Type)(enc:TypeId×Value->H)(W:World)(base:Nat)(args:Array Value)(ds gs:List (DataW H))(before:List MemPlace)
 (hval:∀(j:Nat) t v,Tryz.f6.params[j]?=some t->args[j]?=some v->Value.okWide Tryz.prog W .any base t v)
 (hW:DataW.Whole enc Tryz.prog Tryz.f6.params.toList Rows.cutProvesSpec.vars false W args.toList ds gs before):
 Calls Tryz.prog 6 args W λe W'=>∃v,e=.returned v∧Rows.cutProvesSpec.post enc Tryz.prog Tryz.f6 false true false false W args v W':=by
 have hp:Tryz.f6.params.toList=[34,34,34,34,3]:=by rw[Tryz.params6]
 refine xr (P:=Tryz.prog) (f:=6) (fn:=Tryz.f6) (s:=Rows.cutProvesSpec) (tb:=4) kids full (by kernel_rfl) (by kernel_rfl) Tryz.underlying4 rfl W base args ds gs before hval hW (λh=>?_) (λh=>?_)
 .rw[hp]at h
  match ds,h with
  |[x1,x2,x3,x4,x5],_=>rfl
 .rw[hp]at h
  exact det ds h
set_option maxRecDepth 100000 in
theorem lifted(os:Os)(started:os.Started)(H:Type)(enc:TypeId×Value->H):
 ReturnsInHanded {} Tryz.checked os 6 .any (Rows.cutProvesSpec.pre6 enc Tryz.prog Tryz.f6 Rows.cutProvesRow.domain false) (Rows.cutProvesSpec.post enc Tryz.prog Tryz.f6 false true false false):=by
 refine returnsInHanded_of_change (C:=Tryz.checked) own started (by kernel_rfl) Tryz.func6
  (ChangeSpec.witness6 (enc:=enc) (C:=Tryz.checked) false ⟨#[],#[.slice none 0 0,.slice none 0 0,.slice none 0 0,.slice none 0 0,.int .i64 0],[]⟩ 8 (by kernel_rfl) (by kernel_rfl) (by kernel_rfl) (by kernel_rfl)) ?_
 intro W base args ds gs before hval hW _ _;exact contract H enc W base args ds gs before hval hW
theorem jLaid:laidOutB Tryz.prog=true:=by kernel_rfl
theorem jMaps:mapsRowed Tryz.prog=true:=by kernel_rfl
theorem jIn:(Rows.cutProvesRow.inPlace==Tryz.prog.inPlace 6)=true:=by kernel_rfl
theorem jUn:(Rows.cutProvesRow.unfollowed==Tryz.prog.unfollowed 6)=true:=by kernel_rfl
theorem jRe:(Rows.cutProvesRow.recurses==Tryz.prog.recurses 6)=true:=by kernel_rfl
theorem jNa:(Rows.cutProvesRow.named==Tryz.prog.varsNamed 6)=true:=by kernel_rfl
theorem jPk:(Rows.cutProvesRow.plainKeys==Tryz.prog.plainKeys)=true:=by kernel_rfl
theorem jHe:Tryz.prog.stopsHeard=true:=by kernel_rfl
theorem jEn:Tryz.prog.mayEnter=true:=by kernel_rfl
theorem jLi:(Rows.cutProvesRow.lifted==Tryz.prog.liftsFinal)=true:=by kernel_rfl
theorem jMa:(Tryz.prog.make==some Rows.cutProvesRow.make)=true:=by kernel_rfl
theorem closed:joinedFacts Tryz.prog 6 Tryz.f6 Rows.cutProvesSpec Rows.cutProvesRow=true:=by
 unfold joinedFacts;simp only[Bool.and_eq_true];exact⟨⟨⟨⟨⟨⟨⟨⟨⟨⟨⟨⟨⟨⟨⟨⟨⟨⟨⟨⟨⟨⟨⟨⟨⟨⟨⟨⟨⟨⟨⟨(by kernel_rfl),jLaid⟩,jMaps⟩,(by kernel_rfl)⟩,(by kernel_rfl)⟩,(by kernel_rfl)⟩,(by kernel_rfl)⟩,(by kernel_rfl)⟩,(by kernel_rfl)⟩,jIn⟩,jUn⟩,jRe⟩,jNa⟩,(by kernel_rfl)⟩,(by kernel_rfl)⟩,(by kernel_rfl)⟩,(by kernel_rfl)⟩,(by kernel_rfl)⟩,(by kernel_rfl)⟩,(by kernel_rfl)⟩,(by kernel_rfl)⟩,(by kernel_rfl)⟩,jPk⟩,(by kernel_rfl)⟩,jHe⟩,jEn⟩,jLi⟩,jMa⟩,(by kernel_rfl)⟩,(by kernel_rfl)⟩,(by kernel_rfl)⟩,(by kernel_rfl)⟩
theorem proved:Rows.CutProvesSaid:=
 OpenClaim.holds_of_wide 6 Tryz.f6 rfl rfl rfl rfl rfl rfl rfl ⟨rfl,rfl,rfl,rfl,rfl⟩ rfl rfl rfl rfl rfl (by kernel_rfl) Tryz.func6 closed
  (of_decide_eq_true (by kernel_rfl)) (by unfold Func.isWrapper;first|(rw[if_pos (by decide +kernel)];kernel_rfl)|(rw[if_neg (by decide +kernel)];exact⟨rfl,rfl⟩))
  (λos started H enc _=>lifted os started H enc)
end Go.Proofs.YtidomjacfogjlaaGreat.cutProves
