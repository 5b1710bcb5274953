/- DecomposeOrder: for every input the law returns true, and its arguments read as before. No condition. -/
import Derived.Test.YtdbgcnplnhmjgaaGreatW12
set_option linter.all false
set_option maxRecDepth 10000
namespace Go.Proofs.YtdbgcnplnhmjgaaGreat.decomposeOrder
open Go.Ab Go.ChangeShapes Go.WideShapes Go.ChangeAt Go.RowKit
theorem det{H:Type}(ds:List (DataW H))(h:vG Tryz.prog [31,31,31,3] ds):bf Tryz.prog 5 (ds.map λd=>.pv (iY d)) [] [] (.pv (.val (.bool true))):=by
 match ds,h with
 |[x1,x2,x3,x4],⟨f1,f2,f3,f4,_⟩=>
  obtain⟨a1,e1,q1,s1⟩:=AH x1 f1;obtain⟨a2,e2,q2,s2⟩:=AH x2 f2;obtain⟨a3,e3,q3,s3⟩:=AH x3 f3;obtain⟨a4,e4,q4,s4⟩:=HG x4 f4;simp only[List.map,e1,e2,e3,e4];exact d5 a1 a2 a3 a4
set_option maxRecDepth 100000 in
theorem contract(H:Type)(enc:TypeId×Value->H)(W:World)(base:Nat)(args:Array Value)(ds gs:List (DataW H))(before:List MemPlace)
 (hval:∀(j:Nat) t v,Tryz.f5.params[j]?=some t->args[j]?=some v->Value.okWide Tryz.prog W .any base t v)
 (hW:DataW.Whole enc Tryz.prog Tryz.f5.params.toList Rows.decomposeOrderSpec.vars false W args.toList ds gs before):
 Calls Tryz.prog 5 args W λe W'=>∃v,e=.returned v∧Rows.decomposeOrderSpec.post enc Tryz.prog Tryz.f5 false true false false W args v W':=by
 have hp:Tryz.f5.params.toList=[31,31,31,3]:=by rw[Tryz.params5]
 refine Cu (P:=Tryz.prog) (f:=5) (fn:=Tryz.f5) (s:=Rows.decomposeOrderSpec) (tb:=4) kids full (by kernel_rfl) (by kernel_rfl) Tryz.underlying4 rfl W base args ds gs before hval hW (λh=>?_) (λh=>?_)
 .rw[hp]at h
  match ds,h with
  |[x1,x2,x3,x4],_=>rfl
 .rw[hp]at h
  exact det ds h
set_option maxRecDepth 100000 in
theorem lifted(os:Os)(started:os.Started)(H:Type)(enc:TypeId×Value->H):
 ReturnsInHanded {} Tryz.checked os 5 .any (Rows.decomposeOrderSpec.pre6 enc Tryz.prog Tryz.f5 Rows.decomposeOrderRow.domain false) (Rows.decomposeOrderSpec.post enc Tryz.prog Tryz.f5 false true false false):=by
 refine returnsInHanded_of_change (C:=Tryz.checked) own started (by kernel_rfl) Tryz.func5
  (ChangeSpec.witness6 (enc:=enc) (C:=Tryz.checked) false ⟨#[],#[.slice none 0 0,.slice none 0 0,.slice none 0 0,.int .i64 0],[]⟩ 8 (by kernel_rfl) (by kernel_rfl) (by kernel_rfl) (by kernel_rfl)) ?_
 intro W base args ds gs before hval hW _ _;exact contract H enc W base args ds gs before hval hW
theorem N1:laidOutB Tryz.prog=true:=by kernel_rfl
theorem N2:mapsRowed Tryz.prog=true:=by kernel_rfl
theorem Te:(Rows.decomposeOrderRow.inPlace==Tryz.prog.inPlace 5)=true:=by kernel_rfl
theorem Tf:(Rows.decomposeOrderRow.unfollowed==Tryz.prog.unfollowed 5)=true:=by kernel_rfl
theorem Tg:(Rows.decomposeOrderRow.recurses==Tryz.prog.recurses 5)=true:=by kernel_rfl
theorem Th:(Rows.decomposeOrderRow.named==Tryz.prog.varsNamed 5)=true:=by kernel_rfl
theorem Ti:(Rows.decomposeOrderRow.plainKeys==Tryz.prog.plainKeys)=true:=by kernel_rfl
theorem Tj:Tryz.prog.stopsHeard=true:=by kernel_rfl
theorem Tk:Tryz.prog.mayEnter=true:=by kernel_rfl
theorem Tl:(Rows.decomposeOrderRow.lifted==Tryz.prog.liftsFinal)=true:=by kernel_rfl
theorem Tm:(Tryz.prog.make==some Rows.decomposeOrderRow.make)=true:=by kernel_rfl
theorem HF:joinedFacts Tryz.prog 5 Tryz.f5 Rows.decomposeOrderSpec Rows.decomposeOrderRow=true:=by
 unfold joinedFacts;simp only[Bool.and_eq_true];exact⟨⟨⟨⟨⟨⟨⟨⟨⟨⟨⟨⟨⟨⟨⟨⟨⟨⟨⟨⟨⟨⟨⟨⟨⟨⟨⟨⟨⟨⟨⟨(by kernel_rfl),N1⟩,N2⟩,(by kernel_rfl)⟩,(by kernel_rfl)⟩,(by kernel_rfl)⟩,(by kernel_rfl)⟩,(by kernel_rfl)⟩,(by kernel_rfl)⟩,Te⟩,Tf⟩,Tg⟩,Th⟩,(by kernel_rfl)⟩,(by kernel_rfl)⟩,(by kernel_rfl)⟩,(by kernel_rfl)⟩,(by kernel_rfl)⟩,(by kernel_rfl)⟩,(by kernel_rfl)⟩,(by kernel_rfl)⟩,(by kernel_rfl)⟩,Ti⟩,(by kernel_rfl)⟩,Tj⟩,Tk⟩,Tl⟩,Tm⟩,(by kernel_rfl)⟩,(by kernel_rfl)⟩,(by kernel_rfl)⟩,(by kernel_rfl)⟩
theorem proved:Rows.DecomposeOrderSaid:=
 OpenClaim.holds_of_wide 5 Tryz.f5 rfl rfl rfl rfl rfl rfl rfl ⟨rfl,rfl,rfl,rfl,rfl⟩ rfl rfl rfl rfl rfl (by kernel_rfl) Tryz.func5 HF
  (of_decide_eq_true (by kernel_rfl)) (by unfold Func.isWrapper;first|(rw[if_pos (by decide +kernel)];kernel_rfl)|(rw[if_neg (by decide +kernel)];exact⟨rfl,rfl⟩))
  (λos started H enc _=>lifted os started H enc)
end Go.Proofs.YtdbgcnplnhmjgaaGreat.decomposeOrder
