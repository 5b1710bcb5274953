/- PrioritySeparated: for every input the law returns true, and its arguments read as before. No condition. -/
import Derived.Test.YtfpagjchfipjkaaGreatV13
set_option linter.all false
set_option maxRecDepth 10000
namespace Go.Proofs.YtfpagjchfipjkaaGreat.prioritySeparated
open Go.Ab Go.ChangeShapes Go.WideShapes Go.ChangeAt Go.RowKit
theorem det{H:Type}(ds:List (DataW H))(h:xe Tryz.prog [25,25,25,25,3,3,3] ds):aS Tryz.prog 4 (ds.map λd=>.pv (iC d)) [] [] (.pv (.val (.bool true))):=by
 match ds,h with
 |[x1,x2,x3,x4,x5,x6,x7],⟨f1,f2,f3,f4,f5,f6,f7,_⟩=>
  obtain⟨a1,e1,q1,s1⟩:=y5 x1 f1;obtain⟨a2,e2,q2,s2⟩:=y5 x2 f2;obtain⟨a3,e3,q3,s3⟩:=y5 x3 f3;obtain⟨a4,e4,q4,s4⟩:=y5 x4 f4;obtain⟨a5,e5,q5,s5⟩:=BM x5 f5;obtain⟨a6,e6,q6,s6⟩:=BM x6 f6;obtain⟨a7,e7,q7,s7⟩:=BM x7 f7;simp only[List.map,e1,e2,e3,e4,e5,e6,e7];exact d4 a1 a2 a3 a4 a5 a6 a7
set_option maxRecDepth 100000 in
theorem contract(H:Type)(enc:TypeId×Value->H)(W:World)(base:Nat)(args:Array Value)(ds gs:List (DataW H))(before:List MemPlace)
 (hval:∀(j:Nat) t v,Tryz.f4.params[j]?=some t->args[j]?=some v->Value.okWide Tryz.prog W .any base t v)
 (hW:DataW.Whole enc Tryz.prog Tryz.f4.params.toList Rows.prioritySeparatedSpec.vars false W args.toList ds gs before):
 Calls Tryz.prog 4 args W λe W'=>∃v,e=.returned v∧Rows.prioritySeparatedSpec.post enc Tryz.prog Tryz.f4 false true false false W args v W':=by
 have hp:Tryz.f4.params.toList=[25,25,25,25,3,3,3]:=by rw[Tryz.params4]
 refine E3 (P:=Tryz.prog) (f:=4) (fn:=Tryz.f4) (s:=Rows.prioritySeparatedSpec) (tb:=4) kids full (by kernel_rfl) (by kernel_rfl) Tryz.underlying4 rfl W base args ds gs before hval hW (λh=>?_) (λh=>?_)
 .rw[hp]at h
  match ds,h with
  |[x1,x2,x3,x4,x5,x6,x7],_=>rfl
 .rw[hp]at h
  exact det ds h
set_option maxRecDepth 100000 in
theorem lifted(os:Os)(started:os.Started)(H:Type)(enc:TypeId×Value->H):
 ReturnsInHanded {} Tryz.checked os 4 .any (Rows.prioritySeparatedSpec.pre6 enc Tryz.prog Tryz.f4 Rows.prioritySeparatedRow.domain false) (Rows.prioritySeparatedSpec.post enc Tryz.prog Tryz.f4 false true false false):=by
 refine returnsInHanded_of_change (C:=Tryz.checked) own started (by kernel_rfl) Tryz.func4
  (ChangeSpec.witness6 (enc:=enc) (C:=Tryz.checked) false ⟨#[],#[.slice none 0 0,.slice none 0 0,.slice none 0 0,.slice none 0 0,.int .i64 0,.int .i64 0,.int .i64 0],[]⟩ 8 (by kernel_rfl) (by kernel_rfl) (by kernel_rfl) (by kernel_rfl)) ?_
 intro W base args ds gs before hval hW _ _;exact contract H enc W base args ds gs before hval hW
theorem SF:laidOutB Tryz.prog=true:=by kernel_rfl
theorem SG:mapsRowed Tryz.prog=true:=by kernel_rfl
theorem X8:(Rows.prioritySeparatedRow.inPlace==Tryz.prog.inPlace 4)=true:=by kernel_rfl
theorem X9:(Rows.prioritySeparatedRow.unfollowed==Tryz.prog.unfollowed 4)=true:=by kernel_rfl
theorem Yb:(Rows.prioritySeparatedRow.recurses==Tryz.prog.recurses 4)=true:=by kernel_rfl
theorem Yd:(Rows.prioritySeparatedRow.named==Tryz.prog.varsNamed 4)=true:=by kernel_rfl
theorem Ye:(Rows.prioritySeparatedRow.plainKeys==Tryz.prog.plainKeys)=true:=by kernel_rfl
theorem Yf:Tryz.prog.stopsHeard=true:=by kernel_rfl
theorem Yg:Tryz.prog.mayEnter=true:=by kernel_rfl
theorem Yh:(Rows.prioritySeparatedRow.lifted==Tryz.prog.liftsFinal)=true:=by kernel_rfl
theorem Yi:(Tryz.prog.make==some Rows.prioritySeparatedRow.make)=true:=by kernel_rfl
theorem closed:joinedFacts Tryz.prog 4 Tryz.f4 Rows.prioritySeparatedSpec Rows.prioritySeparatedRow=true:=by
 unfold joinedFacts;simp only[Bool.and_eq_true];exact⟨⟨⟨⟨⟨⟨⟨⟨⟨⟨⟨⟨⟨⟨⟨⟨⟨⟨⟨⟨⟨⟨⟨⟨⟨⟨⟨⟨⟨⟨⟨(by kernel_rfl),SF⟩,SG⟩,(by kernel_rfl)⟩,(by kernel_rfl)⟩,(by kernel_rfl)⟩,(by kernel_rfl)⟩,(by kernel_rfl)⟩,(by kernel_rfl)⟩,X8⟩,X9⟩,Yb⟩,Yd⟩,(by kernel_rfl)⟩,(by kernel_rfl)⟩,(by kernel_rfl)⟩,(by kernel_rfl)⟩,(by kernel_rfl)⟩,(by kernel_rfl)⟩,(by kernel_rfl)⟩,(by kernel_rfl)⟩,(by kernel_rfl)⟩,Ye⟩,(by kernel_rfl)⟩,Yf⟩,Yg⟩,Yh⟩,Yi⟩,(by kernel_rfl)⟩,(by kernel_rfl)⟩,(by kernel_rfl)⟩,(by kernel_rfl)⟩
theorem proved:Rows.PrioritySeparatedSaid:=
 OpenClaim.holds_of_wide 4 Tryz.f4 rfl rfl rfl rfl rfl rfl rfl ⟨rfl,rfl,rfl,rfl,rfl⟩ rfl rfl rfl rfl rfl (by kernel_rfl) Tryz.func4 closed
  (of_decide_eq_true (by kernel_rfl)) (by unfold Func.isWrapper;first|(rw[if_pos (by decide +kernel)];kernel_rfl)|(rw[if_neg (by decide +kernel)];exact⟨rfl,rfl⟩))
  (λos started H enc _=>lifted os started H enc)
end Go.Proofs.YtfpagjchfipjkaaGreat.prioritySeparated
