/- Contracts: distances. -/
import Derived.Test.YtgamhginhckcpaaCfS
import Derived.Test.YtgamhginhckcpaaPl4
set_option linter.all false
namespace Go.Ab
open Go.Proofs
def dTerm (j : J) (a b : Int) : Int := wr (j.w * max (wr (b - a)) (wr (a - b)))
def distT (js : List J) (p q : List Int) : Nat → Int
  | 0 => 0
  | i + 1 => match js[i]?, p[i]?, q[i]? with
    | some j, some a, some b => wr (distT js p q i + dTerm j a b)
    | _, _, _ => distT js p q i
def distOk (js : List J) (ms : List Ms) (p q : List Int) : Bool := decide (p.length = js.length) && decide (q.length = js.length) && allB smallB p && allB smallB q && decide (checkR js ms = 0)
def distR (js : List J) (ms : List Ms) (p q : List Int) : Int := if distOk js ms p q then distT js p q js.length else 0
theorem distT_step {js : List J} {p q : List Int} {i : Nat} (h1 : i < js.length) (h2 : i < p.length) (h3 : i < q.length) : distT js p q (i + 1) = wr (distT js p q i + dTerm js[i] p[i] q[i]) := by
  simp [distT, h1, h2, h3]
set_option maxHeartbeats 4000000 in
theorem d36 (js : List J) (ms : List Ms) (p q : List Int) (hl : js.length ≤ 9223372036854775807) (hm : ms.length ≤ 9223372036854775807) (hp : p.length ≤ 9223372036854775807) (hq : q.length ≤ 9223372036854775807) : DetH Try.prog 36 [.pv (encR js ms), .pv (zs p), .pv (zs q)] [] [] (.pv (Z (distR js ms p q))) := by
  cases hok : distOk js ms p q with
  | false =>
    have hr : distR js ms p q = 0 := by simp [distR, hok]
    rw [hr]
    refine detP_of Try.func36 rfl (by kernel_rfl) (by simp [Try.f36]) rfl ?_
    intro C hP hN
    simp only [Try.f36] at hN ⊢
    by_cases e1 : p.length = js.length
    · by_cases e2 : q.length = js.length
      · have e1' : ((p.length : Int) != js.length) = false := by simp [e1]
        have e2' : ((q.length : Int) != js.length) = false := by simp [e2]
        have e3 : q.length = p.length := by omega
        have hok' : (allB smallB p && allB smallB q && decide (checkR js ms = 0)) = false := by simpa [distOk, e1, e2] using hok
        repeat' (first
          | with_reducible refine WP.seq ?_
          | (with_reducible refine WP.region (hn := []) ?_; simp [hP, hN, e1, e2, e3, e1', e2'])
          | (with_reducible refine WP.draw (hn := []) (by rw [hP]; kernel_rfl) (by kernel_rfl) ?_; simp [hP, hN, e1, e2, e3, e1', e2']; (try refine ⟨by kernel_rfl, ?_⟩))
          | (with_reducible refine xB_split (by simp [e1, e2, e3, e1', e2']) (fun hgd => ?_) (fun hgd => ?_) <;> first | (exfalso; simp at hgd; done) | (exfalso; simp at hgd; omega) | simp [hP, hN, e1, e2, e3, e1', e2'])
          | (with_reducible refine yB_split (by simp [e1, e2, e3, e1', e2']) (fun hgd => ?_) (fun hgd => ?_) <;> first | (exfalso; simp at hgd; done) | (exfalso; simp at hgd; omega) | (simp [hP, hN, e1, e2, e3, e1', e2'] <;> (try refine ⟨by kernel_rfl, ?_⟩)))
          | (with_reducible refine xC_intro (d71 _ hp) ?_; simp [hP, hN, e1, e2, e3, e1', e2'])
          | (with_reducible refine yC_intro (d71 _ hp) ?_; simp [hP, hN, e1, e2, e3, e1', e2']; (try refine ⟨by kernel_rfl, ?_⟩))
          | (with_reducible refine xC_intro (d71 _ hq) ?_; simp [hP, hN, e1, e2, e3, e1', e2'])
          | (with_reducible refine yC_intro (d71 _ hq) ?_; simp [hP, hN, e1, e2, e3, e1', e2']; (try refine ⟨by kernel_rfl, ?_⟩))
          | (with_reducible refine xC_intro (d72 js ms hl hm) ?_; simp [hP, hN, e1, e2, e3, e1', e2'])
          | (with_reducible refine yC_intro (d72 js ms hl hm) ?_; simp [hP, hN, e1, e2, e3, e1', e2']; (try refine ⟨by kernel_rfl, ?_⟩))
          | with_reducible refine xTwo_intro ?_ ?_
          | (with_reducible refine WP.cond' ?_; simp [hP, hN, e1, e2, e3, e1', e2'])
          | (with_reducible refine xCond_split (fun hcd => ?_) (fun hcd => ?_) <;> (try (exfalso; clear hP hN; simp_all; done)) <;> (try (exfalso; simp at *; omega)))
          | with_reducible refine WP.block ?_
          | (with_reducible refine WP.skip ?_; simp [e1, e2, e3, e1', e2'])
          | (with_reducible refine WP.exit ?_; simp [e1, e2, e3, e1', e2'])
          | (with_reducible refine WP.ret ?_; simp [e1, e2, e3, e1', e2']))
        all_goals simp_all
      · have e2' : ((q.length : Int) != js.length) = true := by simp; omega
        repeat' (first
          | with_reducible refine WP.seq ?_
          | (with_reducible refine WP.region (hn := []) ?_; simp [hP, hN, e1, e2, e2'])
          | (with_reducible refine WP.draw (hn := []) (by rw [hP]; kernel_rfl) (by kernel_rfl) ?_; simp [hP, hN, e1, e2, e2']; (try refine ⟨by kernel_rfl, ?_⟩))
          | (with_reducible refine xB_split (by simp [e1, e2, e2']) (fun hgd => ?_) (fun hgd => ?_) <;> first | (exfalso; simp at hgd; done) | (exfalso; simp at hgd; omega) | simp [hP, hN, e1, e2, e2'])
          | (with_reducible refine yB_split (by simp [e1, e2, e2']) (fun hgd => ?_) (fun hgd => ?_) <;> first | (exfalso; simp at hgd; done) | (exfalso; simp at hgd; omega) | (simp [hP, hN, e1, e2, e2'] <;> (try refine ⟨by kernel_rfl, ?_⟩)))
          | (with_reducible refine xC_intro (d71 _ hp) ?_; simp [hP, hN, e1, e2, e2'])
          | (with_reducible refine yC_intro (d71 _ hp) ?_; simp [hP, hN, e1, e2, e2']; (try refine ⟨by kernel_rfl, ?_⟩))
          | (with_reducible refine xC_intro (d71 _ hq) ?_; simp [hP, hN, e1, e2, e2'])
          | (with_reducible refine yC_intro (d71 _ hq) ?_; simp [hP, hN, e1, e2, e2']; (try refine ⟨by kernel_rfl, ?_⟩))
          | (with_reducible refine xC_intro (d72 js ms hl hm) ?_; simp [hP, hN, e1, e2, e2'])
          | (with_reducible refine yC_intro (d72 js ms hl hm) ?_; simp [hP, hN, e1, e2, e2']; (try refine ⟨by kernel_rfl, ?_⟩))
          | with_reducible refine xTwo_intro ?_ ?_
          | (with_reducible refine WP.cond' ?_; simp [hP, hN, e1, e2, e2'])
          | (with_reducible refine xCond_split (fun hcd => ?_) (fun hcd => ?_) <;> (try (exfalso; clear hP hN; simp_all; done)) <;> (try (exfalso; simp at *; omega)))
          | with_reducible refine WP.block ?_
          | (with_reducible refine WP.skip ?_; simp [e1, e2, e2'])
          | (with_reducible refine WP.exit ?_; simp [e1, e2, e2'])
          | (with_reducible refine WP.ret ?_; simp [e1, e2, e2']))
    · have e1' : ((p.length : Int) != js.length) = true := by simp; omega
      repeat' (first
        | with_reducible refine WP.seq ?_
        | (with_reducible refine WP.region (hn := []) ?_; simp [hP, hN, e1, e1'])
        | (with_reducible refine WP.draw (hn := []) (by rw [hP]; kernel_rfl) (by kernel_rfl) ?_; simp [hP, hN, e1, e1']; (try refine ⟨by kernel_rfl, ?_⟩))
        | (with_reducible refine xB_split (by simp [e1, e1']) (fun hgd => ?_) (fun hgd => ?_) <;> first | (exfalso; simp at hgd; done) | (exfalso; simp at hgd; omega) | simp [hP, hN, e1, e1'])
        | (with_reducible refine yB_split (by simp [e1, e1']) (fun hgd => ?_) (fun hgd => ?_) <;> first | (exfalso; simp at hgd; done) | (exfalso; simp at hgd; omega) | (simp [hP, hN, e1, e1'] <;> (try refine ⟨by kernel_rfl, ?_⟩)))
        | (with_reducible refine xC_intro (d71 _ hp) ?_; simp [hP, hN, e1, e1'])
        | (with_reducible refine yC_intro (d71 _ hp) ?_; simp [hP, hN, e1, e1']; (try refine ⟨by kernel_rfl, ?_⟩))
        | (with_reducible refine xC_intro (d71 _ hq) ?_; simp [hP, hN, e1, e1'])
        | (with_reducible refine yC_intro (d71 _ hq) ?_; simp [hP, hN, e1, e1']; (try refine ⟨by kernel_rfl, ?_⟩))
        | (with_reducible refine xC_intro (d72 js ms hl hm) ?_; simp [hP, hN, e1, e1'])
        | (with_reducible refine yC_intro (d72 js ms hl hm) ?_; simp [hP, hN, e1, e1']; (try refine ⟨by kernel_rfl, ?_⟩))
        | with_reducible refine xTwo_intro ?_ ?_
        | (with_reducible refine WP.cond' ?_; simp [hP, hN, e1, e1'])
        | (with_reducible refine xCond_split (fun hcd => ?_) (fun hcd => ?_) <;> (try (exfalso; clear hP hN; simp_all; done)) <;> (try (exfalso; simp at *; omega)))
        | with_reducible refine WP.block ?_
        | (with_reducible refine WP.skip ?_; simp [e1, e1'])
        | (with_reducible refine WP.exit ?_; simp [e1, e1'])
        | (with_reducible refine WP.ret ?_; simp [e1, e1']))
  | true =>
    have hr : distR js ms p q = distT js p q js.length := by simp [distR, hok]
    rw [hr]
    simp only [distOk, Bool.and_eq_true, decide_eq_true_eq] at hok
    obtain ⟨⟨⟨⟨e1, e2⟩, s1⟩, s2⟩, hc⟩ := hok
    have e1' : ((p.length : Int) != js.length) = false := by simp [e1]
    have e2' : ((q.length : Int) != js.length) = false := by simp [e2]
    refine detP_of Try.func36 rfl (by kernel_rfl) (by simp [Try.f36]) rfl ?_
    intro C hP hN
    simp only [Try.f36] at hN ⊢
    repeat' (first
      | with_reducible refine WP.seq ?_
      | (with_reducible refine WP.region (hn := []) ?_; simp [hP, hN, e1, e2, e1', e2', s1, s2, hc])
      | (with_reducible refine WP.draw (hn := []) (by rw [hP]; kernel_rfl) (by kernel_rfl) ?_; simp [hP, hN, e1, e2, e1', e2', s1, s2, hc]; (try refine ⟨by kernel_rfl, ?_⟩))
      | (with_reducible refine xB_split (by simp [e1, e2, e1', e2', s1, s2, hc]) (fun hgd => ?_) (fun hgd => ?_) <;> first | (exfalso; simp at hgd; done) | (exfalso; simp at hgd; omega) | simp [hP, hN, e1, e2, e1', e2', s1, s2, hc])
      | (with_reducible refine yB_split (by simp [e1, e2, e1', e2', s1, s2, hc]) (fun hgd => ?_) (fun hgd => ?_) <;> first | (exfalso; simp at hgd; done) | (exfalso; simp at hgd; omega) | (simp [hP, hN, e1, e2, e1', e2', s1, s2, hc] <;> (try refine ⟨by kernel_rfl, ?_⟩)))
      | (with_reducible refine xC_intro (d71 _ hp) ?_; simp [hP, hN, e1, e2, e1', e2', s1, s2, hc])
      | (with_reducible refine yC_intro (d71 _ hp) ?_; simp [hP, hN, e1, e2, e1', e2', s1, s2, hc]; (try refine ⟨by kernel_rfl, ?_⟩))
      | (with_reducible refine xC_intro (d71 _ hq) ?_; simp [hP, hN, e1, e2, e1', e2', s1, s2, hc])
      | (with_reducible refine yC_intro (d71 _ hq) ?_; simp [hP, hN, e1, e2, e1', e2', s1, s2, hc]; (try refine ⟨by kernel_rfl, ?_⟩))
      | (with_reducible refine xC_intro (d72 js ms hl hm) ?_; simp [hP, hN, e1, e2, e1', e2', s1, s2, hc])
      | (with_reducible refine yC_intro (d72 js ms hl hm) ?_; simp [hP, hN, e1, e2, e1', e2', s1, s2, hc]; (try refine ⟨by kernel_rfl, ?_⟩))
      | with_reducible refine xTwo_intro ?_ ?_
      | (with_reducible refine WP.cond' ?_; simp [hP, hN, e1, e2, e1', e2', s1, s2, hc])
      | (with_reducible refine xCond_split (fun hcd => ?_) (fun hcd => ?_) <;> (try (exfalso; clear hP hN; simp_all; done)) <;> (try (exfalso; simp at *; omega)))
      | with_reducible refine WP.block ?_
      | (with_reducible refine WP.skip ?_; simp [e1, e2, e1', e2', s1, s2, hc])
      | (with_reducible refine WP.exit ?_; simp [e1, e2, e1', e2', s1, s2, hc])
      | (with_reducible refine WP.ret ?_; simp [e1, e2, e1', e2', s1, s2, hc]))
    refine WP.loopN [10] js.length (fun i st => st.t 1 = .pv (zs p) ∧ st.t 2 = .pv (zs q) ∧ st.t 40 = .pv (.sl (js.map encJ)) ∧ st.t 41 = .pv (Z js.length) ∧ st.t 42 = .pv (Z i) ∧ st.t 8 = .pv (Z (distT js p q i)) ∧ st.h 10 = none) (by simp [distT]) ?_
    rintro i st hi ⟨g1, g2, g40, g41, g42, g8, hb⟩
    by_cases hlt : i < js.length
    · have hw := wr_succ hlt hl
      have hlp : i < p.length := by omega
      have hlq : i < q.length := by omega
      have hs := distT_step hlt hlp hlq
      repeat' (first
        | with_reducible refine WP.seq ?_
        | (with_reducible refine WP.region (hn := []) ?_; simp [hP, hN, g1, g2, g40, g41, g42, g8, hb, hlt, hlp, hlq, hw])
        | (with_reducible refine WP.draw (hn := []) (by rw [hP]; kernel_rfl) (by kernel_rfl) ?_; simp [hP, hN, g1, g2, g40, g41, g42, g8, hb, hlt, hlp, hlq, hw]; (try refine ⟨by kernel_rfl, ?_⟩))
        | (with_reducible refine xB_split (by simp [g1, g2, g40, g41, g42, g8, hb, hlt, hlp, hlq, hw]) (fun hgd => ?_) (fun hgd => ?_) <;> first | (exfalso; simp at hgd; done) | (exfalso; simp at hgd; omega) | simp [hP, hN, g1, g2, g40, g41, g42, g8, hb, hlt, hlp, hlq, hw])
        | (with_reducible refine yB_split (by simp [g1, g2, g40, g41, g42, g8, hb, hlt, hlp, hlq, hw]) (fun hgd => ?_) (fun hgd => ?_) <;> first | (exfalso; simp at hgd; done) | (exfalso; simp at hgd; omega) | (simp [hP, hN, g1, g2, g40, g41, g42, g8, hb, hlt, hlp, hlq, hw] <;> (try refine ⟨by kernel_rfl, ?_⟩)))
        | with_reducible refine xTwo_intro ?_ ?_
        | (with_reducible refine WP.cond' ?_; simp [hP, hN, g1, g2, g40, g41, g42, g8, hb, hlt, hlp, hlq, hw])
        | (with_reducible refine xCond_split (fun hcd => ?_) (fun hcd => ?_) <;> (try (exfalso; clear hP hN; simp_all; done)) <;> (try (exfalso; simp at *; omega)))
        | with_reducible refine WP.block ?_
        | (with_reducible refine WP.skip ?_; simp [g1, g2, g40, g41, g42, g8, hb, hlt, hlp, hlq, hw])
        | (with_reducible refine WP.exit ?_; simp [g1, g2, g40, g41, g42, g8, hb, hlt, hlp, hlq, hw])
        | (with_reducible refine WP.ret ?_; simp [g1, g2, g40, g41, g42, g8, hb, hlt, hlp, hlq, hw]))
      all_goals simp [hs, dTerm]
    · have hi' : i = js.length := by omega
      subst hi'
      repeat' (first
        | with_reducible refine WP.seq ?_
        | (with_reducible refine WP.region (hn := []) ?_; simp [hP, hN, g1, g2, g40, g41, g42, g8, hb])
        | (with_reducible refine WP.draw (hn := []) (by rw [hP]; kernel_rfl) (by kernel_rfl) ?_; simp [hP, hN, g1, g2, g40, g41, g42, g8, hb]; (try refine ⟨by kernel_rfl, ?_⟩))
        | (with_reducible refine xB_split (by simp [g1, g2, g40, g41, g42, g8, hb]) (fun hgd => ?_) (fun hgd => ?_) <;> first | (exfalso; simp at hgd; done) | (exfalso; simp at hgd; omega) | simp [hP, hN, g1, g2, g40, g41, g42, g8, hb])
        | (with_reducible refine yB_split (by simp [g1, g2, g40, g41, g42, g8, hb]) (fun hgd => ?_) (fun hgd => ?_) <;> first | (exfalso; simp at hgd; done) | (exfalso; simp at hgd; omega) | (simp [hP, hN, g1, g2, g40, g41, g42, g8, hb] <;> (try refine ⟨by kernel_rfl, ?_⟩)))
        | with_reducible refine xTwo_intro ?_ ?_
        | (with_reducible refine WP.cond' ?_; simp [hP, hN, g1, g2, g40, g41, g42, g8, hb])
        | (with_reducible refine xCond_split (fun hcd => ?_) (fun hcd => ?_) <;> (try (exfalso; clear hP hN; simp_all; done)) <;> (try (exfalso; simp at *; omega)))
        | with_reducible refine WP.block ?_
        | (with_reducible refine WP.skip ?_; simp [g1, g2, g40, g41, g42, g8, hb])
        | (with_reducible refine WP.exit ?_; simp [g1, g2, g40, g41, g42, g8, hb])
        | (with_reducible refine WP.ret ?_; simp [g1, g2, g40, g41, g42, g8, hb]))
set_option maxHeartbeats 4000000 in
theorem d37 (js : List J) (ms : List Ms) (p q : List Int) (hl : js.length ≤ 9223372036854775807) (hm : ms.length ≤ 9223372036854775807) (hp : p.length ≤ 9223372036854775807) (hq : q.length ≤ 9223372036854775807) : DetH Try.prog 37 [.pv (encR js ms), .pv (zs p), .pv (zs q)] [] [] (.pv (Z (distR js ms p q))) := by
  cases hok : distOk js ms p q with
  | false =>
    have hr : distR js ms p q = 0 := by simp [distR, hok]
    rw [hr]
    by_cases hc : checkR js ms = 0
    · have hcn : (checkR js ms != 0) = false := by simp [hc]
      refine detP_of Try.func37 rfl (by kernel_rfl) (by simp [Try.f37]) rfl ?_
      intro C hP hN
      simp only [Try.f37] at hN ⊢
      cases s1 : allB smallB p with
      | false =>
        repeat' (first
          | with_reducible refine WP.seq ?_
          | (with_reducible refine WP.region (hn := []) ?_; simp [hP, hN, hcn, hc, s1])
          | (with_reducible refine WP.draw (hn := []) (by rw [hP]; kernel_rfl) (by kernel_rfl) ?_; simp [hP, hN, hcn, hc, s1]; (try refine ⟨by kernel_rfl, ?_⟩))
          | (with_reducible refine xB_split (by simp [hcn, hc, s1]) (fun hgd => ?_) (fun hgd => ?_) <;> first | (exfalso; simp at hgd; done) | (exfalso; simp at hgd; omega) | simp [hP, hN, hcn, hc, s1])
          | (with_reducible refine yB_split (by simp [hcn, hc, s1]) (fun hgd => ?_) (fun hgd => ?_) <;> first | (exfalso; simp at hgd; done) | (exfalso; simp at hgd; omega) | (simp [hP, hN, hcn, hc, s1] <;> (try refine ⟨by kernel_rfl, ?_⟩)))
          | (with_reducible refine xC_intro (d47 _ hp) ?_; simp [hP, hN, hcn, hc, s1])
          | (with_reducible refine yC_intro (d47 _ hp) ?_; simp [hP, hN, hcn, hc, s1]; (try refine ⟨by kernel_rfl, ?_⟩))
          | (with_reducible refine xC_intro (d47 _ hq) ?_; simp [hP, hN, hcn, hc, s1])
          | (with_reducible refine yC_intro (d47 _ hq) ?_; simp [hP, hN, hcn, hc, s1]; (try refine ⟨by kernel_rfl, ?_⟩))
          | (with_reducible refine xC_intro (d73 js ms hl hm) ?_; simp [hP, hN, hcn, hc, s1])
          | (with_reducible refine yC_intro (d73 js ms hl hm) ?_; simp [hP, hN, hcn, hc, s1]; (try refine ⟨by kernel_rfl, ?_⟩))
          | with_reducible refine xTwo_intro ?_ ?_
          | (with_reducible refine WP.cond' ?_; simp [hP, hN, hcn, hc, s1])
          | (with_reducible refine xCond_split (fun hcd => ?_) (fun hcd => ?_) <;> (try (exfalso; clear hP hN; simp_all; done)) <;> (try (exfalso; simp at *; omega)))
          | with_reducible refine WP.block ?_
          | (with_reducible refine WP.skip ?_; simp [hcn, hc, s1])
          | (with_reducible refine WP.exit ?_; simp [hcn, hc, s1])
          | (with_reducible refine WP.ret ?_; simp [hcn, hc, s1]))
      | true =>
        cases s2 : allB smallB q with
        | false =>
          repeat' (first
            | with_reducible refine WP.seq ?_
            | (with_reducible refine WP.region (hn := []) ?_; simp [hP, hN, hcn, hc, s1, s2])
            | (with_reducible refine WP.draw (hn := []) (by rw [hP]; kernel_rfl) (by kernel_rfl) ?_; simp [hP, hN, hcn, hc, s1, s2]; (try refine ⟨by kernel_rfl, ?_⟩))
            | (with_reducible refine xB_split (by simp [hcn, hc, s1, s2]) (fun hgd => ?_) (fun hgd => ?_) <;> first | (exfalso; simp at hgd; done) | (exfalso; simp at hgd; omega) | simp [hP, hN, hcn, hc, s1, s2])
            | (with_reducible refine yB_split (by simp [hcn, hc, s1, s2]) (fun hgd => ?_) (fun hgd => ?_) <;> first | (exfalso; simp at hgd; done) | (exfalso; simp at hgd; omega) | (simp [hP, hN, hcn, hc, s1, s2] <;> (try refine ⟨by kernel_rfl, ?_⟩)))
            | (with_reducible refine xC_intro (d47 _ hp) ?_; simp [hP, hN, hcn, hc, s1, s2])
            | (with_reducible refine yC_intro (d47 _ hp) ?_; simp [hP, hN, hcn, hc, s1, s2]; (try refine ⟨by kernel_rfl, ?_⟩))
            | (with_reducible refine xC_intro (d47 _ hq) ?_; simp [hP, hN, hcn, hc, s1, s2])
            | (with_reducible refine yC_intro (d47 _ hq) ?_; simp [hP, hN, hcn, hc, s1, s2]; (try refine ⟨by kernel_rfl, ?_⟩))
            | (with_reducible refine xC_intro (d73 js ms hl hm) ?_; simp [hP, hN, hcn, hc, s1, s2])
            | (with_reducible refine yC_intro (d73 js ms hl hm) ?_; simp [hP, hN, hcn, hc, s1, s2]; (try refine ⟨by kernel_rfl, ?_⟩))
            | with_reducible refine xTwo_intro ?_ ?_
            | (with_reducible refine WP.cond' ?_; simp [hP, hN, hcn, hc, s1, s2])
            | (with_reducible refine xCond_split (fun hcd => ?_) (fun hcd => ?_) <;> (try (exfalso; clear hP hN; simp_all; done)) <;> (try (exfalso; simp at *; omega)))
            | with_reducible refine WP.block ?_
            | (with_reducible refine WP.skip ?_; simp [hcn, hc, s1, s2])
            | (with_reducible refine WP.exit ?_; simp [hcn, hc, s1, s2])
            | (with_reducible refine WP.ret ?_; simp [hcn, hc, s1, s2]))
        | true =>
          by_cases e1 : p.length = js.length
          · have e2 : ¬ q.length = js.length := fun e => by simp [distOk, e1, e, s1, s2, hc] at hok
            have e1' : ((p.length : Int) != js.length) = false := by simp [e1]
            have e2' : ((q.length : Int) != p.length) = true := by simp; omega
            have e3 : ((q.length : Int) != js.length) = true := by simp; omega
            repeat' (first
              | with_reducible refine WP.seq ?_
              | (with_reducible refine WP.region (hn := []) ?_; simp [hP, hN, hcn, hc, s1, s2, e1, e1', e2', e3])
              | (with_reducible refine WP.draw (hn := []) (by rw [hP]; kernel_rfl) (by kernel_rfl) ?_; simp [hP, hN, hcn, hc, s1, s2, e1, e1', e2', e3]; (try refine ⟨by kernel_rfl, ?_⟩))
              | (with_reducible refine xB_split (by simp [hcn, hc, s1, s2, e1, e1', e2', e3]) (fun hgd => ?_) (fun hgd => ?_) <;> first | (exfalso; simp at hgd; done) | (exfalso; simp at hgd; omega) | simp [hP, hN, hcn, hc, s1, s2, e1, e1', e2', e3])
              | (with_reducible refine yB_split (by simp [hcn, hc, s1, s2, e1, e1', e2', e3]) (fun hgd => ?_) (fun hgd => ?_) <;> first | (exfalso; simp at hgd; done) | (exfalso; simp at hgd; omega) | (simp [hP, hN, hcn, hc, s1, s2, e1, e1', e2', e3] <;> (try refine ⟨by kernel_rfl, ?_⟩)))
              | (with_reducible refine xC_intro (d47 _ hp) ?_; simp [hP, hN, hcn, hc, s1, s2, e1, e1', e2', e3])
              | (with_reducible refine yC_intro (d47 _ hp) ?_; simp [hP, hN, hcn, hc, s1, s2, e1, e1', e2', e3]; (try refine ⟨by kernel_rfl, ?_⟩))
              | (with_reducible refine xC_intro (d47 _ hq) ?_; simp [hP, hN, hcn, hc, s1, s2, e1, e1', e2', e3])
              | (with_reducible refine yC_intro (d47 _ hq) ?_; simp [hP, hN, hcn, hc, s1, s2, e1, e1', e2', e3]; (try refine ⟨by kernel_rfl, ?_⟩))
              | (with_reducible refine xC_intro (d73 js ms hl hm) ?_; simp [hP, hN, hcn, hc, s1, s2, e1, e1', e2', e3])
              | (with_reducible refine yC_intro (d73 js ms hl hm) ?_; simp [hP, hN, hcn, hc, s1, s2, e1, e1', e2', e3]; (try refine ⟨by kernel_rfl, ?_⟩))
              | with_reducible refine xTwo_intro ?_ ?_
              | (with_reducible refine WP.cond' ?_; simp [hP, hN, hcn, hc, s1, s2, e1, e1', e2', e3])
              | (with_reducible refine xCond_split (fun hcd => ?_) (fun hcd => ?_) <;> (try (exfalso; clear hP hN; simp_all; done)) <;> (try (exfalso; simp at *; omega)))
              | with_reducible refine WP.block ?_
              | (with_reducible refine WP.skip ?_; simp [hcn, hc, s1, s2, e1, e1', e2', e3])
              | (with_reducible refine WP.exit ?_; simp [hcn, hc, s1, s2, e1, e1', e2', e3])
              | (with_reducible refine WP.ret ?_; simp [hcn, hc, s1, s2, e1, e1', e2', e3]))
          · have e1' : ((p.length : Int) != js.length) = true := by simp; omega
            repeat' (first
              | with_reducible refine WP.seq ?_
              | (with_reducible refine WP.region (hn := []) ?_; simp [hP, hN, hcn, hc, s1, s2, e1'])
              | (with_reducible refine WP.draw (hn := []) (by rw [hP]; kernel_rfl) (by kernel_rfl) ?_; simp [hP, hN, hcn, hc, s1, s2, e1']; (try refine ⟨by kernel_rfl, ?_⟩))
              | (with_reducible refine xB_split (by simp [hcn, hc, s1, s2, e1']) (fun hgd => ?_) (fun hgd => ?_) <;> first | (exfalso; simp at hgd; done) | (exfalso; simp at hgd; omega) | simp [hP, hN, hcn, hc, s1, s2, e1'])
              | (with_reducible refine yB_split (by simp [hcn, hc, s1, s2, e1']) (fun hgd => ?_) (fun hgd => ?_) <;> first | (exfalso; simp at hgd; done) | (exfalso; simp at hgd; omega) | (simp [hP, hN, hcn, hc, s1, s2, e1'] <;> (try refine ⟨by kernel_rfl, ?_⟩)))
              | (with_reducible refine xC_intro (d47 _ hp) ?_; simp [hP, hN, hcn, hc, s1, s2, e1'])
              | (with_reducible refine yC_intro (d47 _ hp) ?_; simp [hP, hN, hcn, hc, s1, s2, e1']; (try refine ⟨by kernel_rfl, ?_⟩))
              | (with_reducible refine xC_intro (d47 _ hq) ?_; simp [hP, hN, hcn, hc, s1, s2, e1'])
              | (with_reducible refine yC_intro (d47 _ hq) ?_; simp [hP, hN, hcn, hc, s1, s2, e1']; (try refine ⟨by kernel_rfl, ?_⟩))
              | (with_reducible refine xC_intro (d73 js ms hl hm) ?_; simp [hP, hN, hcn, hc, s1, s2, e1'])
              | (with_reducible refine yC_intro (d73 js ms hl hm) ?_; simp [hP, hN, hcn, hc, s1, s2, e1']; (try refine ⟨by kernel_rfl, ?_⟩))
              | with_reducible refine xTwo_intro ?_ ?_
              | (with_reducible refine WP.cond' ?_; simp [hP, hN, hcn, hc, s1, s2, e1'])
              | (with_reducible refine xCond_split (fun hcd => ?_) (fun hcd => ?_) <;> (try (exfalso; clear hP hN; simp_all; done)) <;> (try (exfalso; simp at *; omega)))
              | with_reducible refine WP.block ?_
              | (with_reducible refine WP.skip ?_; simp [hcn, hc, s1, s2, e1'])
              | (with_reducible refine WP.exit ?_; simp [hcn, hc, s1, s2, e1'])
              | (with_reducible refine WP.ret ?_; simp [hcn, hc, s1, s2, e1']))
    · have hcn : (checkR js ms != 0) = true := by simp [hc]
      refine detP_of Try.func37 rfl (by kernel_rfl) (by simp [Try.f37]) rfl ?_
      intro C hP hN
      simp only [Try.f37] at hN ⊢
      repeat' (first
        | with_reducible refine WP.seq ?_
        | (with_reducible refine WP.region (hn := []) ?_; simp [hP, hN, hcn])
        | (with_reducible refine WP.draw (hn := []) (by rw [hP]; kernel_rfl) (by kernel_rfl) ?_; simp [hP, hN, hcn]; (try refine ⟨by kernel_rfl, ?_⟩))
        | (with_reducible refine xB_split (by simp [hcn]) (fun hgd => ?_) (fun hgd => ?_) <;> first | (exfalso; simp at hgd; done) | (exfalso; simp at hgd; omega) | simp [hP, hN, hcn])
        | (with_reducible refine yB_split (by simp [hcn]) (fun hgd => ?_) (fun hgd => ?_) <;> first | (exfalso; simp at hgd; done) | (exfalso; simp at hgd; omega) | (simp [hP, hN, hcn] <;> (try refine ⟨by kernel_rfl, ?_⟩)))
        | (with_reducible refine xC_intro (d47 _ hp) ?_; simp [hP, hN, hcn])
        | (with_reducible refine yC_intro (d47 _ hp) ?_; simp [hP, hN, hcn]; (try refine ⟨by kernel_rfl, ?_⟩))
        | (with_reducible refine xC_intro (d47 _ hq) ?_; simp [hP, hN, hcn])
        | (with_reducible refine yC_intro (d47 _ hq) ?_; simp [hP, hN, hcn]; (try refine ⟨by kernel_rfl, ?_⟩))
        | (with_reducible refine xC_intro (d73 js ms hl hm) ?_; simp [hP, hN, hcn])
        | (with_reducible refine yC_intro (d73 js ms hl hm) ?_; simp [hP, hN, hcn]; (try refine ⟨by kernel_rfl, ?_⟩))
        | with_reducible refine xTwo_intro ?_ ?_
        | (with_reducible refine WP.cond' ?_; simp [hP, hN, hcn])
        | (with_reducible refine xCond_split (fun hcd => ?_) (fun hcd => ?_) <;> (try (exfalso; clear hP hN; simp_all; done)) <;> (try (exfalso; simp at *; omega)))
        | with_reducible refine WP.block ?_
        | (with_reducible refine WP.skip ?_; simp [hcn])
        | (with_reducible refine WP.exit ?_; simp [hcn])
        | (with_reducible refine WP.ret ?_; simp [hcn]))
  | true =>
    have hr : distR js ms p q = distT js p q js.length := by simp [distR, hok]
    rw [hr]
    simp only [distOk, Bool.and_eq_true, decide_eq_true_eq] at hok
    obtain ⟨⟨⟨⟨e1, e2⟩, s1⟩, s2⟩, hc⟩ := hok
    have e1' : ((p.length : Int) != js.length) = false := by simp [e1]
    have e2' : ((q.length : Int) != p.length) = false := by simp [e1, e2]
    refine detP_of Try.func37 rfl (by kernel_rfl) (by simp [Try.f37]) rfl ?_
    intro C hP hN
    simp only [Try.f37] at hN ⊢
    repeat' (first
      | with_reducible refine WP.seq ?_
      | (with_reducible refine WP.region (hn := []) ?_; simp [hP, hN, e1, e2, e1', e2', s1, s2, hc])
      | (with_reducible refine WP.draw (hn := []) (by rw [hP]; kernel_rfl) (by kernel_rfl) ?_; simp [hP, hN, e1, e2, e1', e2', s1, s2, hc]; (try refine ⟨by kernel_rfl, ?_⟩))
      | (with_reducible refine xB_split (by simp [e1, e2, e1', e2', s1, s2, hc]) (fun hgd => ?_) (fun hgd => ?_) <;> first | (exfalso; simp at hgd; done) | (exfalso; simp at hgd; omega) | simp [hP, hN, e1, e2, e1', e2', s1, s2, hc])
      | (with_reducible refine yB_split (by simp [e1, e2, e1', e2', s1, s2, hc]) (fun hgd => ?_) (fun hgd => ?_) <;> first | (exfalso; simp at hgd; done) | (exfalso; simp at hgd; omega) | (simp [hP, hN, e1, e2, e1', e2', s1, s2, hc] <;> (try refine ⟨by kernel_rfl, ?_⟩)))
      | (with_reducible refine xC_intro (d47 _ hp) ?_; simp [hP, hN, e1, e2, e1', e2', s1, s2, hc])
      | (with_reducible refine yC_intro (d47 _ hp) ?_; simp [hP, hN, e1, e2, e1', e2', s1, s2, hc]; (try refine ⟨by kernel_rfl, ?_⟩))
      | (with_reducible refine xC_intro (d47 _ hq) ?_; simp [hP, hN, e1, e2, e1', e2', s1, s2, hc])
      | (with_reducible refine yC_intro (d47 _ hq) ?_; simp [hP, hN, e1, e2, e1', e2', s1, s2, hc]; (try refine ⟨by kernel_rfl, ?_⟩))
      | (with_reducible refine xC_intro (d73 js ms hl hm) ?_; simp [hP, hN, e1, e2, e1', e2', s1, s2, hc])
      | (with_reducible refine yC_intro (d73 js ms hl hm) ?_; simp [hP, hN, e1, e2, e1', e2', s1, s2, hc]; (try refine ⟨by kernel_rfl, ?_⟩))
      | with_reducible refine xTwo_intro ?_ ?_
      | (with_reducible refine WP.cond' ?_; simp [hP, hN, e1, e2, e1', e2', s1, s2, hc])
      | (with_reducible refine xCond_split (fun hcd => ?_) (fun hcd => ?_) <;> (try (exfalso; clear hP hN; simp_all; done)) <;> (try (exfalso; simp at *; omega)))
      | with_reducible refine WP.block ?_
      | (with_reducible refine WP.skip ?_; simp [e1, e2, e1', e2', s1, s2, hc])
      | (with_reducible refine WP.exit ?_; simp [e1, e2, e1', e2', s1, s2, hc])
      | (with_reducible refine WP.ret ?_; simp [e1, e2, e1', e2', s1, s2, hc]))
    refine WP.loopN [] js.length (fun i st => st.t 1 = .pv (zs p) ∧ st.t 2 = .pv (zs q) ∧ st.t 3 = .ptr 3 0 ∧ st.h 3 = some (.box [.pv (.sl (js.map encJ)), .pv (.sl (ms.map encM))] true false) ∧ st.t 8 = .pv (Z i) ∧ st.t 7 = .pv (Z (distT js p q i))) (by simp [distT]) ?_
    rintro i st hi ⟨g1, g2, g3, hb, g8, g7⟩
    by_cases hlt : i < js.length
    · have hw := wr_succ hlt hl
      have hlp : i < p.length := by omega
      have hlq : i < q.length := by omega
      have hs := distT_step hlt hlp hlq
      repeat' (first
        | with_reducible refine WP.seq ?_
        | (with_reducible refine WP.region (hn := []) ?_; simp [hP, hN, g1, g2, g3, hb, g8, g7, hlt, hlp, hlq, hw])
        | (with_reducible refine WP.draw (hn := []) (by rw [hP]; kernel_rfl) (by kernel_rfl) ?_; simp [hP, hN, g1, g2, g3, hb, g8, g7, hlt, hlp, hlq, hw]; (try refine ⟨by kernel_rfl, ?_⟩))
        | (with_reducible refine xB_split (by simp [g1, g2, g3, hb, g8, g7, hlt, hlp, hlq, hw]) (fun hgd => ?_) (fun hgd => ?_) <;> first | (exfalso; simp at hgd; done) | (exfalso; simp at hgd; omega) | simp [hP, hN, g1, g2, g3, hb, g8, g7, hlt, hlp, hlq, hw])
        | (with_reducible refine yB_split (by simp [g1, g2, g3, hb, g8, g7, hlt, hlp, hlq, hw]) (fun hgd => ?_) (fun hgd => ?_) <;> first | (exfalso; simp at hgd; done) | (exfalso; simp at hgd; omega) | (simp [hP, hN, g1, g2, g3, hb, g8, g7, hlt, hlp, hlq, hw] <;> (try refine ⟨by kernel_rfl, ?_⟩)))
        | with_reducible refine xTwo_intro ?_ ?_
        | (with_reducible refine WP.cond' ?_; simp [hP, hN, g1, g2, g3, hb, g8, g7, hlt, hlp, hlq, hw])
        | (with_reducible refine xCond_split (fun hcd => ?_) (fun hcd => ?_) <;> (try (exfalso; clear hP hN; simp_all; done)) <;> (try (exfalso; simp at *; omega)))
        | with_reducible refine WP.block ?_
        | (with_reducible refine WP.skip ?_; simp [g1, g2, g3, hb, g8, g7, hlt, hlp, hlq, hw])
        | (with_reducible refine WP.exit ?_; simp [g1, g2, g3, hb, g8, g7, hlt, hlp, hlq, hw])
        | (with_reducible refine WP.ret ?_; simp [g1, g2, g3, hb, g8, g7, hlt, hlp, hlq, hw]))
      all_goals simp [hs, dTerm, Int.max_comm]
    · have hi' : i = js.length := by omega
      subst hi'
      have hnp : ¬ js.length < p.length := by omega
      repeat' (first
        | with_reducible refine WP.seq ?_
        | (with_reducible refine WP.region (hn := []) ?_; simp [hP, hN, g1, g2, g3, hb, g8, g7, e1, hnp])
        | (with_reducible refine WP.draw (hn := []) (by rw [hP]; kernel_rfl) (by kernel_rfl) ?_; simp [hP, hN, g1, g2, g3, hb, g8, g7, e1, hnp]; (try refine ⟨by kernel_rfl, ?_⟩))
        | (with_reducible refine xB_split (by simp [g1, g2, g3, hb, g8, g7, e1, hnp]) (fun hgd => ?_) (fun hgd => ?_) <;> first | (exfalso; simp at hgd; done) | (exfalso; simp at hgd; omega) | simp [hP, hN, g1, g2, g3, hb, g8, g7, e1, hnp])
        | (with_reducible refine yB_split (by simp [g1, g2, g3, hb, g8, g7, e1, hnp]) (fun hgd => ?_) (fun hgd => ?_) <;> first | (exfalso; simp at hgd; done) | (exfalso; simp at hgd; omega) | (simp [hP, hN, g1, g2, g3, hb, g8, g7, e1, hnp] <;> (try refine ⟨by kernel_rfl, ?_⟩)))
        | with_reducible refine xTwo_intro ?_ ?_
        | (with_reducible refine WP.cond' ?_; simp [hP, hN, g1, g2, g3, hb, g8, g7, e1, hnp])
        | (with_reducible refine xCond_split (fun hcd => ?_) (fun hcd => ?_) <;> (try (exfalso; clear hP hN; simp_all; done)) <;> (try (exfalso; simp at *; omega)))
        | with_reducible refine WP.block ?_
        | (with_reducible refine WP.skip ?_; simp [g1, g2, g3, hb, g8, g7, e1, hnp])
        | (with_reducible refine WP.exit ?_; simp [g1, g2, g3, hb, g8, g7, e1, hnp])
        | (with_reducible refine WP.ret ?_; simp [g1, g2, g3, hb, g8, g7, e1, hnp]))
end Go.Ab
