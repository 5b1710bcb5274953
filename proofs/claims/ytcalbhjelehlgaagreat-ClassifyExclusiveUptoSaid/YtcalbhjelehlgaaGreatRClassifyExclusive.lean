/- ClassifyExclusive: for every input of bulk at most 1048576 the law returns true, and its arguments read as before. -/
import Derived.Test.YtcalbhjelehlgaaGreatS9
set_option linter.all false
namespace Go.Proofs.YtcalbhjelehlgaaGreat.classifyExclusive
open Go.Ab Go.ChangeShapes Go.WideShapes Go.ChangeAt Go.RowKit
theorem det {H : Type} (ds : List (DataW H)) (h : FitAll Tryz.prog [32,32,32,39,3,3,3] ds) (hb : bulkL ds≤1048576) : DetH Tryz.prog 7 (ds.map fun d=>.pv (rd1 d)) [] [] (.pv (.val (.bool true))):=by
 match ds,h,hb with
 |[x1,x2,x3,x4,x5,x6,x7],⟨f1,f2,f3,f4,f5,f6,f7,_⟩,hb=>
  simp only [bulkL] at hb
  obtain ⟨a1,e1,q1,s1⟩:=rd_ints x1 f1
  obtain ⟨a2,e2,q2,s2⟩:=rd_ints x2 f2
  obtain ⟨a3,e3,q3,s3⟩:=rd_ints x3 f3
  obtain ⟨a4,e4,q4,s4⟩:=rd_witness x4 f4
  obtain ⟨a5,e5,q5,s5⟩:=rd_int x5 f5
  obtain ⟨a6,e6,q6,s6⟩:=rd_int x6 f6
  obtain ⟨a7,e7,q7,s7⟩:=rd_int x7 f7
  simp only [List.map,e1,e2,e3,e4,e5,e6,e7]
  exact d7 a1 a2 a3 a4 a5 a6 a7 (by unfold wtSz at s4;omega) (by unfold wtSz at s4;omega)
set_option maxRecDepth 100000 in
theorem contract (H : Type) (enc : TypeId × Value→H) (W : World) (base : Nat) (args : Array Value) (ds gs : List (DataW H)) (before : List MemPlace)
 (hval : ∀ (j : Nat) t v,Tryz.f7.params[j]?=some t→args[j]?=some v→Value.okWide Tryz.prog W .any base t v)
 (hW : DataW.Whole enc Tryz.prog Tryz.f7.params.toList Rows.classifyExclusiveSpec.vars false W args.toList ds gs before) (hk : Rows.uptoSmall H (ds++gs)=true) :
 Calls Tryz.prog 7 args W fun e W'=>∃ v,e=.returned v∧Rows.classifyExclusiveSpec.post enc Tryz.prog Tryz.f7 false true false false W args v W':=by
 have hp : Tryz.f7.params.toList=[32,32,32,39,3,3,3]:=by rw [Tryz.params7]
 refine law_contract (P:=Tryz.prog) (f:=7) (fn:=Tryz.f7) (s:=Rows.classifyExclusiveSpec) (tb:=4) kids full (by kernel_rfl) (by kernel_rfl) Tryz.underlying4 rfl W base args ds gs before hval hW (fun h=>?_) (fun h=>?_)
 ·rw [hp] at h
  match ds,h with
  |[x1,x2,x3,x4,x5,x6,x7],_=>rfl
 ·rw [hp] at h
  exact det ds h (bulk_small hk)
set_option maxRecDepth 100000 in
theorem lifted (os : Os) (started : os.Started) (H : Type) (enc : TypeId × Value→H) (F : Stop.Interp) :
 ReturnsInHanded {} Tryz.checked os 7 .any ((Rows.OpenSpec.upto Rows.classifyExclusiveSpec).pre6 enc Tryz.prog Tryz.f7 Rows.classifyExclusiveUptoRow.domain false) (((Rows.OpenSpec.upto Rows.classifyExclusiveSpec).at F).post enc Tryz.prog Tryz.f7 false true false false):=by
 refine returnsInHanded_of_cond (C:=Tryz.checked) (s:=Rows.OpenSpec.upto Rows.classifyExclusiveSpec) (k:=Rows.uptoSmall) rfl own started (by kernel_rfl) Tryz.func7
  (OpenSpec.witness (enc:=enc) (C:=Tryz.checked) (s:=Rows.OpenSpec.upto Rows.classifyExclusiveSpec) (k:=Rows.uptoSmall) rfl false ⟨#[],#[.slice none 0 0,.slice none 0 0,.slice none 0 0,.agg #[.int .i64 0,.slice none 0 0,.slice none 0 0],.int .i64 0,.int .i64 0,.int .i64 0],[]⟩ 8 (by kernel_rfl) (by kernel_rfl) (by kernel_rfl)
    (x:=([.nil,.nil,.nil,.agg [.lit (.int .i64 0),.nil,.nil],.lit (.int .i64 0),.lit (.int .i64 0),.lit (.int .i64 0)],[],[])) (by kernel_rfl) rfl (by kernel_rfl)) ?_
 intro W base args ds gs before hval hW _ hk _
 exact contract H enc W base args ds gs before hval hW hk
theorem over : Rows.classifyExclusiveUptoRow.holds Tryz.pinned (Rows.OpenSpec.upto Rows.classifyExclusiveSpec):=
 OpenClaim.holds_of_cond 7 Tryz.f7 rfl rfl rfl rfl rfl rfl rfl ⟨rfl,rfl,rfl,rfl,rfl⟩ rfl rfl rfl rfl rfl (by kernel_rfl) Tryz.func7 (by kernel_rfl)
  (of_decide_eq_true (by kernel_rfl)) (by unfold Func.isWrapper;first|(rw [if_pos (by decide +kernel)];kernel_rfl)|(rw [if_neg (by decide +kernel)];exact ⟨rfl,rfl⟩))
  (fun os started H enc _ F=>lifted os started H enc F)
theorem proved : Rows.ClassifyExclusiveUptoSaid:=over
end Go.Proofs.YtcalbhjelehlgaaGreat.classifyExclusive
