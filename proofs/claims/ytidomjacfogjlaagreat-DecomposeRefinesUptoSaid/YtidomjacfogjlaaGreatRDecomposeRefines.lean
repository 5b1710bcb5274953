/- DecomposeRefines: for every input of bulk at most 1048576 the law returns true, and its arguments read as before. -/
import Derived.Test.YtidomjacfogjlaaGreatU12
set_option linter.all false
set_option maxRecDepth 10000
namespace Go.Proofs.YtidomjacfogjlaaGreat.decomposeRefines
open Go.Ab Go.ChangeShapes Go.WideShapes Go.ChangeAt Go.RowKit
theorem det{H:Type}(ds:List (DataW H))(h:sR Tryz.prog [29,33,3,3,34,34,3] ds)(hb:iP ds<=1048576):aP Tryz.prog 4 (ds.map λd=>.pv (eS d)) [] [] (.pv (.val (.bool true))):=by
 match ds,h,hb with
 |[x1,x2,x3,x4,x5,x6,x7],⟨f1,f2,f3,f4,f5,f6,f7,_⟩,hb=>
  simp only[iP]at hb;obtain⟨a1,e1,q1,s1⟩:=Du x1 f1;obtain⟨a2,e2,q2,s2⟩:=E4 x2 f2;obtain⟨a3,e3,q3,s3⟩:=ta x3 f3;obtain⟨a4,e4,q4,s4⟩:=ta x4 f4;obtain⟨a5,e5,q5,s5⟩:=wO x5 f5;obtain⟨a6,e6,q6,s6⟩:=wO x6 f6;obtain⟨a7,e7,q7,s7⟩:=ta x7 f7;simp only[List.map,e1,e2,e3,e4,e5,e6,e7];exact d4 a1 a2 a3 a4 a5 a6 a7 q1 (Nu s2 (by omega)).vs
set_option maxRecDepth 100000 in
theorem contract(H:Type)(enc:TypeId×Value->H)(W:World)(base:Nat)(args:Array Value)(ds gs:List (DataW H))(before:List MemPlace)
 (hval:∀(j:Nat) t v,Tryz.f4.params[j]?=some t->args[j]?=some v->Value.okWide Tryz.prog W .any base t v)
 (hW:DataW.Whole enc Tryz.prog Tryz.f4.params.toList Rows.decomposeRefinesSpec.vars false W args.toList ds gs before)(hk:Rows.uptoSmall H (ds++gs)=true):
 Calls Tryz.prog 4 args W λe W'=>∃v,e=.returned v∧Rows.decomposeRefinesSpec.post enc Tryz.prog Tryz.f4 false true false false W args v W':=by
 have hp:Tryz.f4.params.toList=[29,33,3,3,34,34,3]:=by rw[Tryz.params4]
 refine vo (P:=Tryz.prog) (f:=4) (fn:=Tryz.f4) (s:=Rows.decomposeRefinesSpec) (tb:=4) kids full (by kernel_rfl) (by kernel_rfl) Tryz.underlying4 rfl W base args ds gs before hval hW (λh=>?_) (λh=>?_)
 .rw[hp]at h
  match ds,h with
  |[x1,x2,x3,x4,x5,x6,x7],_=>rfl
 .rw[hp]at h
  exact det ds h (zK hk)
set_option maxRecDepth 100000 in
theorem lifted(os:Os)(started:os.Started)(H:Type)(enc:TypeId×Value->H)(F:Stop.Interp):
 ReturnsInHanded {} Tryz.checked os 4 .any ((Rows.OpenSpec.upto Rows.decomposeRefinesSpec).pre6 enc Tryz.prog Tryz.f4 Rows.decomposeRefinesUptoRow.domain false) (((Rows.OpenSpec.upto Rows.decomposeRefinesSpec).at F).post enc Tryz.prog Tryz.f4 false true false false):=by
 refine returnsInHanded_of_cond (C:=Tryz.checked) (s:=Rows.OpenSpec.upto Rows.decomposeRefinesSpec) (k:=Rows.uptoSmall) rfl own started (by kernel_rfl) Tryz.func4
  (OpenSpec.witness (enc:=enc) (C:=Tryz.checked) (s:=Rows.OpenSpec.upto Rows.decomposeRefinesSpec) (k:=Rows.uptoSmall) rfl false ⟨#[],#[.agg #[.slice none 0 0,.slice none 0 0,.slice none 0 0,.slice none 0 0],.agg #[.slice none 0 0,.slice none 0 0],.int .i64 0,.int .i64 0,.slice none 0 0,.slice none 0 0,.int .i64 0],[]⟩ 8 (by kernel_rfl) (by kernel_rfl) (by kernel_rfl)
    (x:=([.agg [.agg [.nil,.nil],.nil,.nil],.agg [.nil,.nil],.lit (.int .i64 0),.lit (.int .i64 0),.nil,.nil,.lit (.int .i64 0)],[],[])) (by kernel_rfl) rfl (by kernel_rfl)) ?_
 intro W base args ds gs before hval hW _ hk _;exact contract H enc W base args ds gs before hval hW hk
theorem jLaid:laidOutB Tryz.prog=true:=by kernel_rfl
theorem jMaps:mapsRowed Tryz.prog=true:=by kernel_rfl
theorem jIn:(Rows.decomposeRefinesUptoRow.inPlace==Tryz.prog.inPlace 4)=true:=by kernel_rfl
theorem jUn:(Rows.decomposeRefinesUptoRow.unfollowed==Tryz.prog.unfollowed 4)=true:=by kernel_rfl
theorem jRe:(Rows.decomposeRefinesUptoRow.recurses==Tryz.prog.recurses 4)=true:=by kernel_rfl
theorem jNa:(Rows.decomposeRefinesUptoRow.named==Tryz.prog.varsNamed 4)=true:=by kernel_rfl
theorem jPk:(Rows.decomposeRefinesUptoRow.plainKeys==Tryz.prog.plainKeys)=true:=by kernel_rfl
theorem jHe:Tryz.prog.stopsHeard=true:=by kernel_rfl
theorem jEn:Tryz.prog.mayEnter=true:=by kernel_rfl
theorem jLi:(Rows.decomposeRefinesUptoRow.lifted==Tryz.prog.liftsFinal)=true:=by kernel_rfl
theorem jMa:(Tryz.prog.make==some Rows.decomposeRefinesUptoRow.make)=true:=by kernel_rfl
theorem closed:joinedFacts Tryz.prog 4 Tryz.f4 (Rows.OpenSpec.upto Rows.decomposeRefinesSpec).bare Rows.decomposeRefinesUptoRow=true:=by
 unfold joinedFacts;simp only[Bool.and_eq_true];exact⟨⟨⟨⟨⟨⟨⟨⟨⟨⟨⟨⟨⟨⟨⟨⟨⟨⟨⟨⟨⟨⟨⟨⟨⟨⟨⟨⟨⟨⟨⟨(by kernel_rfl),jLaid⟩,jMaps⟩,(by kernel_rfl)⟩,(by kernel_rfl)⟩,(by kernel_rfl)⟩,(by kernel_rfl)⟩,(by kernel_rfl)⟩,(by kernel_rfl)⟩,jIn⟩,jUn⟩,jRe⟩,jNa⟩,(by kernel_rfl)⟩,(by kernel_rfl)⟩,(by kernel_rfl)⟩,(by kernel_rfl)⟩,(by kernel_rfl)⟩,(by kernel_rfl)⟩,(by kernel_rfl)⟩,(by kernel_rfl)⟩,(by kernel_rfl)⟩,jPk⟩,(by kernel_rfl)⟩,jHe⟩,jEn⟩,jLi⟩,jMa⟩,(by kernel_rfl)⟩,(by kernel_rfl)⟩,(by kernel_rfl)⟩,(by kernel_rfl)⟩
theorem over:Rows.decomposeRefinesUptoRow.holds Tryz.pinned (Rows.OpenSpec.upto Rows.decomposeRefinesSpec):=
 OpenClaim.holds_of_cond 4 Tryz.f4 rfl rfl rfl rfl rfl rfl rfl ⟨rfl,rfl,rfl,rfl,rfl⟩ rfl rfl rfl rfl rfl (by kernel_rfl) Tryz.func4 closed
  (of_decide_eq_true (by kernel_rfl)) (by unfold Func.isWrapper;first|(rw[if_pos (by decide +kernel)];kernel_rfl)|(rw[if_neg (by decide +kernel)];exact⟨rfl,rfl⟩))
  (λos started H enc _ F=>lifted os started H enc F)
theorem proved:Rows.DecomposeRefinesUptoSaid:=over
end Go.Proofs.YtidomjacfogjlaaGreat.decomposeRefines
