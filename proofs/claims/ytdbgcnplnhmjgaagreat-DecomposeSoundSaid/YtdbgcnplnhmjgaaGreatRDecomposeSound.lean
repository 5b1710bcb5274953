/- DecomposeSound: for every input the law returns true, and its arguments read as before. No condition. -/
import Derived.Test.YtdbgcnplnhmjgaaGreatS12
set_option linter.all false
set_option maxRecDepth 10000
namespace Go.Proofs.YtdbgcnplnhmjgaaGreat.decomposeSound
open Go.Ab Go.ChangeShapes Go.WideShapes Go.ChangeAt Go.RowKit
theorem det{H:Type}(ds:List (DataW H))(h:wV Tryz.prog [31,31,31,3,3] ds):ab Tryz.prog 4 (ds.map λd=>.pv (gu d)) [] [] (.pv (.val (.bool true))):=by
 match ds,h with
 |[x1,x2,x3,x4,x5],⟨f1,f2,f3,f4,f5,_⟩=>
  obtain⟨a1,e1,q1,s1⟩:=BA x1 f1;obtain⟨a2,e2,q2,s2⟩:=BA x2 f2;obtain⟨a3,e3,q3,s3⟩:=BA x3 f3;obtain⟨a4,e4,q4,s4⟩:=IU x4 f4;obtain⟨a5,e5,q5,s5⟩:=IU x5 f5;simp only[List.map,e1,e2,e3,e4,e5];exact d4 a1 a2 a3 a4 a5
set_option maxRecDepth 100000 in
theorem contract(H:Type)(enc:TypeId×Value->H)(W:World)(base:Nat)(args:Array Value)(ds gs:List (DataW H))(before:List MemPlace)
 (hval:∀(j:Nat) t v,Tryz.f4.params[j]?=some t->args[j]?=some v->Value.okWide Tryz.prog W .any base t v)
 (hW:DataW.Whole enc Tryz.prog Tryz.f4.params.toList Rows.decomposeSoundSpec.vars false W args.toList ds gs before):
 Calls Tryz.prog 4 args W λe W'=>∃v,e=.returned v∧Rows.decomposeSoundSpec.post enc Tryz.prog Tryz.f4 false true false false W args v W':=by
 have hp:Tryz.f4.params.toList=[31,31,31,3,3]:=by rw[Tryz.params4]
 refine Dw (P:=Tryz.prog) (f:=4) (fn:=Tryz.f4) (s:=Rows.decomposeSoundSpec) (tb:=4) kids full (by kernel_rfl) (by kernel_rfl) Tryz.underlying4 rfl W base args ds gs before hval hW (λh=>?_) (λh=>?_)
 .rw[hp]at h
  match ds,h with
  |[x1,x2,x3,x4,x5],_=>rfl
 .rw[hp]at h
  exact det ds h
set_option maxRecDepth 100000 in
theorem lifted(os:Os)(started:os.Started)(H:Type)(enc:TypeId×Value->H):
 ReturnsInHanded {} Tryz.checked os 4 .any (Rows.decomposeSoundSpec.pre6 enc Tryz.prog Tryz.f4 Rows.decomposeSoundRow.domain false) (Rows.decomposeSoundSpec.post enc Tryz.prog Tryz.f4 false true false false):=by
 refine returnsInHanded_of_change (C:=Tryz.checked) own started (by kernel_rfl) Tryz.func4
  (ChangeSpec.witness6 (enc:=enc) (C:=Tryz.checked) false ⟨#[],#[.slice none 0 0,.slice none 0 0,.slice none 0 0,.int .i64 0,.int .i64 0],[]⟩ 8 (by kernel_rfl) (by kernel_rfl) (by kernel_rfl) (by kernel_rfl)) ?_
 intro W base args ds gs before hval hW _ _;exact contract H enc W base args ds gs before hval hW
theorem Qh:laidOutB Tryz.prog=true:=by kernel_rfl
theorem s6:mapsRowed Tryz.prog=true:=by kernel_rfl
theorem UW:(Rows.decomposeSoundRow.inPlace==Tryz.prog.inPlace 4)=true:=by kernel_rfl
theorem tg:(Rows.decomposeSoundRow.unfollowed==Tryz.prog.unfollowed 4)=true:=by kernel_rfl
theorem tP:(Rows.decomposeSoundRow.recurses==Tryz.prog.recurses 4)=true:=by kernel_rfl
theorem UY:(Rows.decomposeSoundRow.named==Tryz.prog.varsNamed 4)=true:=by kernel_rfl
theorem ue:(Rows.decomposeSoundRow.plainKeys==Tryz.prog.plainKeys)=true:=by kernel_rfl
theorem UZ:Tryz.prog.stopsHeard=true:=by kernel_rfl
theorem u9:Tryz.prog.mayEnter=true:=by kernel_rfl
theorem vh:(Rows.decomposeSoundRow.lifted==Tryz.prog.liftsFinal)=true:=by kernel_rfl
theorem U1:(Tryz.prog.make==some Rows.decomposeSoundRow.make)=true:=by kernel_rfl
theorem Mg:joinedFacts Tryz.prog 4 Tryz.f4 Rows.decomposeSoundSpec Rows.decomposeSoundRow=true:=by
 unfold joinedFacts;simp only[Bool.and_eq_true];exact⟨⟨⟨⟨⟨⟨⟨⟨⟨⟨⟨⟨⟨⟨⟨⟨⟨⟨⟨⟨⟨⟨⟨⟨⟨⟨⟨⟨⟨⟨⟨(by kernel_rfl),Qh⟩,s6⟩,(by kernel_rfl)⟩,(by kernel_rfl)⟩,(by kernel_rfl)⟩,(by kernel_rfl)⟩,(by kernel_rfl)⟩,(by kernel_rfl)⟩,UW⟩,tg⟩,tP⟩,UY⟩,(by kernel_rfl)⟩,(by kernel_rfl)⟩,(by kernel_rfl)⟩,(by kernel_rfl)⟩,(by kernel_rfl)⟩,(by kernel_rfl)⟩,(by kernel_rfl)⟩,(by kernel_rfl)⟩,(by kernel_rfl)⟩,ue⟩,(by kernel_rfl)⟩,UZ⟩,u9⟩,vh⟩,U1⟩,(by kernel_rfl)⟩,(by kernel_rfl)⟩,(by kernel_rfl)⟩,(by kernel_rfl)⟩
theorem proved:Rows.DecomposeSoundSaid:=
 OpenClaim.holds_of_wide 4 Tryz.f4 rfl rfl rfl rfl rfl rfl rfl ⟨rfl,rfl,rfl,rfl,rfl⟩ rfl rfl rfl rfl rfl (by kernel_rfl) Tryz.func4 Mg
  (of_decide_eq_true (by kernel_rfl)) (by unfold Func.isWrapper;first|(rw[if_pos (by decide +kernel)];kernel_rfl)|(rw[if_neg (by decide +kernel)];exact⟨rfl,rfl⟩))
  (λos started H enc _=>lifted os started H enc)
end Go.Proofs.YtdbgcnplnhmjgaaGreat.decomposeSound
