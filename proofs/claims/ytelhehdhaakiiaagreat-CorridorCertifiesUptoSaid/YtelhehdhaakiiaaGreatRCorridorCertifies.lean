/- CorridorCertifies: for every input of bulk at most 1048576 the law returns true, and its arguments read as before. -/
import Derived.Test.YtelhehdhaakiiaaGreatW9
set_option linter.all false
namespace Go.Ab
theorem y8 {α : Type} {f : α→Nat} : ∀ {l : List α} {x : α},x ∈ l→f x≤(l.map f).sum
 |y :: l,x,h=>by
  rcases List.mem_cons.1 h with rfl|h
  ·simp
  ·have:=y8 (f:=f) h
   simp;omega
theorem GG {t : Tr} {b : Nat} (h : DY t≤b) (hb : b≤1048576) : NW t.cells:=fun c hc=>by
 unfold DY at h
 have h2 : vj c.v≤(t.cells.map fun c=>vj c.v).sum:=y8 (f:=fun c : Cel=>vj c.v) hc
 have h3 : vj c.v=c.v.nor.length+c.v.left.length+c.v.right.length+1:=rfl
 omega
end Go.Ab
namespace Go.Proofs.YtelhehdhaakiiaaGreat.corridorCertifies
open Go.Ab Go.ChangeShapes Go.WideShapes Go.ChangeAt Go.RowKit
theorem det {H : Type} (ds : List (DataW H)) (h : pT Tryz.prog [29,33,34,35,35,34,34,34] ds) (hb : fQ ds≤1048576) : ab Tryz.prog 3 (ds.map fun d=>.pv (cP d)) [] [] (.pv (.val (.bool true))):=by
 match ds,h,hb with
 |[x1,x2,x3,x4,x5,x6,x7,x8],⟨f1,f2,f3,f4,f5,f6,f7,f8,_⟩,hb=>
  simp only [fQ] at hb
  obtain ⟨a1,e1,q1,s1⟩:=Dh x1 f1
  obtain ⟨a2,e2,q2,s2⟩:=EN x2 f2
  obtain ⟨a3,e3,q3,s3⟩:=qZ x3 f3
  obtain ⟨a4,e4,q4,s4⟩:=mK x4 f4
  obtain ⟨a5,e5,q5,s5⟩:=mK x5 f5
  obtain ⟨a6,e6,q6,s6⟩:=qZ x6 f6
  obtain ⟨a7,e7,q7,s7⟩:=qZ x7 f7
  obtain ⟨a8,e8,q8,s8⟩:=qZ x8 f8
  simp only [List.map,e1,e2,e3,e4,e5,e6,e7,e8]
  exact d3 a1 a2 a3 a4 a5 a6 a7 a8 q1 (GG s2 (by omega))
set_option maxRecDepth 100000 in
theorem contract (H : Type) (enc : TypeId × Value→H) (W : World) (base : Nat) (args : Array Value) (ds gs : List (DataW H)) (before : List MemPlace)
 (hval : ∀ (j : Nat) t v,Tryz.f3.params[j]?=some t→args[j]?=some v→Value.okWide Tryz.prog W .any base t v)
 (hW : DataW.Whole enc Tryz.prog Tryz.f3.params.toList Rows.corridorCertifiesSpec.vars false W args.toList ds gs before) (hk : Rows.uptoSmall H (ds++gs)=true) :
 Calls Tryz.prog 3 args W fun e W'=>∃ v,e=.returned v∧Rows.corridorCertifiesSpec.post enc Tryz.prog Tryz.f3 false true false false W args v W':=by
 have hp : Tryz.f3.params.toList=[29,33,34,35,35,34,34,34]:=by rw [Tryz.params3]
 refine wE (P:=Tryz.prog) (f:=3) (fn:=Tryz.f3) (s:=Rows.corridorCertifiesSpec) (tb:=4) kids full (by kernel_rfl) (by kernel_rfl) Tryz.underlying4 rfl W base args ds gs before hval hW (fun h=>?_) (fun h=>?_)
 ·rw [hp] at h
  match ds,h with
  |[x1,x2,x3,x4,x5,x6,x7,x8],_=>rfl
 ·rw [hp] at h
  exact det ds h (Ar hk)
set_option maxRecDepth 100000 in
theorem lifted (os : Os) (started : os.Started) (H : Type) (enc : TypeId × Value→H) (F : Stop.Interp) :
 ReturnsInHanded {} Tryz.checked os 3 .any ((Rows.OpenSpec.upto Rows.corridorCertifiesSpec).pre6 enc Tryz.prog Tryz.f3 Rows.corridorCertifiesUptoRow.domain false) (((Rows.OpenSpec.upto Rows.corridorCertifiesSpec).at F).post enc Tryz.prog Tryz.f3 false true false false):=by
 refine returnsInHanded_of_cond (C:=Tryz.checked) (s:=Rows.OpenSpec.upto Rows.corridorCertifiesSpec) (k:=Rows.uptoSmall) rfl own started (by kernel_rfl) Tryz.func3
  (OpenSpec.witness (enc:=enc) (C:=Tryz.checked) (s:=Rows.OpenSpec.upto Rows.corridorCertifiesSpec) (k:=Rows.uptoSmall) rfl false ⟨#[],#[.agg #[.slice none 0 0,.slice none 0 0,.slice none 0 0,.slice none 0 0],.agg #[.slice none 0 0,.slice none 0 0],.slice none 0 0,.slice none 0 0,.slice none 0 0,.slice none 0 0,.slice none 0 0,.slice none 0 0],[]⟩ 8 (by kernel_rfl) (by kernel_rfl) (by kernel_rfl)
    (x:=([.agg [.agg [.nil,.nil],.nil,.nil],.agg [.nil,.nil],.nil,.nil,.nil,.nil,.nil,.nil],[],[])) (by kernel_rfl) rfl (by kernel_rfl)) ?_
 intro W base args ds gs before hval hW _ hk _
 exact contract H enc W base args ds gs before hval hW hk
theorem over : Rows.corridorCertifiesUptoRow.holds Tryz.pinned (Rows.OpenSpec.upto Rows.corridorCertifiesSpec):=
 OpenClaim.holds_of_cond 3 Tryz.f3 rfl rfl rfl rfl rfl rfl rfl ⟨rfl,rfl,rfl,rfl,rfl⟩ rfl rfl rfl rfl rfl (by kernel_rfl) Tryz.func3 (by kernel_rfl)
  (of_decide_eq_true (by kernel_rfl)) (by unfold Func.isWrapper;first|(rw [if_pos (by decide +kernel)];kernel_rfl)|(rw [if_neg (by decide +kernel)];exact ⟨rfl,rfl⟩))
  (fun os started H enc _ F=>lifted os started H enc F)
theorem proved : Rows.CorridorCertifiesUptoSaid:=over
end Go.Proofs.YtelhehdhaakiiaaGreat.corridorCertifies
