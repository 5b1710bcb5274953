/- PriorityConflicts: for every input the law returns true, and its arguments read as before. No condition. -/
import Derived.Test.YtfpagjchfipjkaaGreatU13
set_option linter.all false
set_option maxRecDepth 10000
namespace Go.Proofs.YtfpagjchfipjkaaGreat.priorityConflicts
open Go.Ab Go.ChangeShapes Go.WideShapes Go.ChangeAt Go.RowKit
theorem det{H:Type}(ds:List (DataW H))(h:wY Tryz.prog [22,23,24,3,25] ds):aW Tryz.prog 3 (ds.map λd=>.pv (eo d)) [] [] (.pv (.val (.bool true))):=by
 match ds,h with
 |[x1,x2,x3,x4,x5],⟨f1,f2,f3,f4,f5,_⟩=>
  obtain⟨a1,e1,q1,s1⟩:=KN x1 f1;obtain⟨a2,e2,q2,s2⟩:=HQ x2 f2;obtain⟨a3,e3,q3,s3⟩:=MJ x3 f3;obtain⟨a4,e4,q4,s4⟩:=KL x4 f4;obtain⟨a5,e5,q5,s5⟩:=Pp x5 f5;simp only[List.map,e1,e2,e3,e4,e5];exact d3 a1 a2 a3 a4 a5 q1.2 q1.1 q2 q3.1 q3.2
set_option maxRecDepth 100000 in
theorem contract(H:Type)(enc:TypeId×Value->H)(W:World)(base:Nat)(args:Array Value)(ds gs:List (DataW H))(before:List MemPlace)
 (hval:∀(j:Nat) t v,Tryz.f3.params[j]?=some t->args[j]?=some v->Value.okWide Tryz.prog W .any base t v)
 (hW:DataW.Whole enc Tryz.prog Tryz.f3.params.toList Rows.priorityConflictsSpec.vars false W args.toList ds gs before):
 Calls Tryz.prog 3 args W λe W'=>∃v,e=.returned v∧Rows.priorityConflictsSpec.post enc Tryz.prog Tryz.f3 false true false false W args v W':=by
 have hp:Tryz.f3.params.toList=[22,23,24,3,25]:=by rw[Tryz.params3]
 refine EV (P:=Tryz.prog) (f:=3) (fn:=Tryz.f3) (s:=Rows.priorityConflictsSpec) (tb:=4) kids full (by kernel_rfl) (by kernel_rfl) Tryz.underlying4 rfl W base args ds gs before hval hW (λh=>?_) (λh=>?_)
 .rw[hp]at h
  match ds,h with
  |[x1,x2,x3,x4,x5],_=>rfl
 .rw[hp]at h
  exact det ds h
set_option maxRecDepth 100000 in
theorem lifted(os:Os)(started:os.Started)(H:Type)(enc:TypeId×Value->H):
 ReturnsInHanded {} Tryz.checked os 3 .any (Rows.priorityConflictsSpec.pre6 enc Tryz.prog Tryz.f3 Rows.priorityConflictsRow.domain false) (Rows.priorityConflictsSpec.post enc Tryz.prog Tryz.f3 false true false false):=by
 refine returnsInHanded_of_change (C:=Tryz.checked) own started (by kernel_rfl) Tryz.func3
  (ChangeSpec.witness6 (enc:=enc) (C:=Tryz.checked) false ⟨#[],#[.slice none 0 0,.slice none 0 0,.slice none 0 0,.int .i64 0,.slice none 0 0],[]⟩ 8 (by kernel_rfl) (by kernel_rfl) (by kernel_rfl) (by kernel_rfl)) ?_
 intro W base args ds gs before hval hW _ _;exact contract H enc W base args ds gs before hval hW
theorem SS:laidOutB Tryz.prog=true:=by kernel_rfl
theorem ST:mapsRowed Tryz.prog=true:=by kernel_rfl
theorem Yn:(Rows.priorityConflictsRow.inPlace==Tryz.prog.inPlace 3)=true:=by kernel_rfl
theorem Yo:(Rows.priorityConflictsRow.unfollowed==Tryz.prog.unfollowed 3)=true:=by kernel_rfl
theorem Yp:(Rows.priorityConflictsRow.recurses==Tryz.prog.recurses 3)=true:=by kernel_rfl
theorem Yq:(Rows.priorityConflictsRow.named==Tryz.prog.varsNamed 3)=true:=by kernel_rfl
theorem Yr:(Rows.priorityConflictsRow.plainKeys==Tryz.prog.plainKeys)=true:=by kernel_rfl
theorem Ys:Tryz.prog.stopsHeard=true:=by kernel_rfl
theorem Yt:Tryz.prog.mayEnter=true:=by kernel_rfl
theorem Yu:(Rows.priorityConflictsRow.lifted==Tryz.prog.liftsFinal)=true:=by kernel_rfl
theorem Yv:(Tryz.prog.make==some Rows.priorityConflictsRow.make)=true:=by kernel_rfl
theorem closed:joinedFacts Tryz.prog 3 Tryz.f3 Rows.priorityConflictsSpec Rows.priorityConflictsRow=true:=by
 unfold joinedFacts;simp only[Bool.and_eq_true];exact⟨⟨⟨⟨⟨⟨⟨⟨⟨⟨⟨⟨⟨⟨⟨⟨⟨⟨⟨⟨⟨⟨⟨⟨⟨⟨⟨⟨⟨⟨⟨(by kernel_rfl),SS⟩,ST⟩,(by kernel_rfl)⟩,(by kernel_rfl)⟩,(by kernel_rfl)⟩,(by kernel_rfl)⟩,(by kernel_rfl)⟩,(by kernel_rfl)⟩,Yn⟩,Yo⟩,Yp⟩,Yq⟩,(by kernel_rfl)⟩,(by kernel_rfl)⟩,(by kernel_rfl)⟩,(by kernel_rfl)⟩,(by kernel_rfl)⟩,(by kernel_rfl)⟩,(by kernel_rfl)⟩,(by kernel_rfl)⟩,(by kernel_rfl)⟩,Yr⟩,(by kernel_rfl)⟩,Ys⟩,Yt⟩,Yu⟩,Yv⟩,(by kernel_rfl)⟩,(by kernel_rfl)⟩,(by kernel_rfl)⟩,(by kernel_rfl)⟩
theorem proved:Rows.PriorityConflictsSaid:=
 OpenClaim.holds_of_wide 3 Tryz.f3 rfl rfl rfl rfl rfl rfl rfl ⟨rfl,rfl,rfl,rfl,rfl⟩ rfl rfl rfl rfl rfl (by kernel_rfl) Tryz.func3 closed
  (of_decide_eq_true (by kernel_rfl)) (by unfold Func.isWrapper;first|(rw[if_pos (by decide +kernel)];kernel_rfl)|(rw[if_neg (by decide +kernel)];exact⟨rfl,rfl⟩))
  (λos started H enc _=>lifted os started H enc)
end Go.Proofs.YtfpagjchfipjkaaGreat.priorityConflicts
