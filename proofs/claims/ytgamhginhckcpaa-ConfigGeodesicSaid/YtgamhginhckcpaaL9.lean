/- ConfigDistance and ConfigGeodesic: the walks. -/
import Derived.Test.YtgamhginhckcpaaPl5
set_option linter.all false
namespace Go.Ab
open Go.Proofs
/-- A made robot's distance. -/
theorem distR_eq {js : List J} {ms : List Ms} {p q : List Int} (hc : checkR js ms = 0) (hw : ∀ j ∈ js, wOk j) (hp : ∀ x ∈ p, -1000000 ≤ x ∧ x ≤ 1000000) (hq : ∀ x ∈ q, -1000000 ≤ x ∧ x ≤ 1000000) (h1 : p.length = js.length) (h2 : q.length = js.length) (h3 : js.length ≤ 3) :
    distR js ms p q = distP js p q js.length ∧ 0 ≤ distP js p q js.length ∧ distP js p q js.length ≤ 24000000 := by
  have hok : distOk js ms p q = true := by simp [distOk, h1, h2, allSmall hp, allSmall hq, hc]
  obtain ⟨e1, e2, e3⟩ := dist_eq hw hp hq h1 h2 h3 js.length (Nat.le_refl _)
  refine ⟨by rw [distR, hok, if_pos rfl, e1], e2, ?_⟩
  have : (js.length : Int) ≤ 3 := by omega
  omega
set_option maxHeartbeats 4000000 in
theorem d9 (rjs : List J) (rms : List Ms) (p q : List Int) (l m n o : List Int) (hl : rjs.length ≤ 9223372036854775807) (hm : rms.length ≤ 9223372036854775807) (hp : p.length ≤ 9223372036854775807) (hq : q.length ≤ 9223372036854775807) : DetH Try.prog 9 [.pv (encR rjs rms), .pv (zs p), .pv (zs q), .pv (zs l), .pv (zs m), .pv (zs n), .pv (zs o)] [] [] (.pv (B true)) := by
  have hlen := rJs_len l 0
  have hmlen := rMs_len l
  have hc := robot_ok l
  have hw := rJs_w l
  have cr := d21 l
  have cx := d22 m (rJs l 0) (rMs l 0) (by omega) (rJs_ok l 0)
  have cy := d22 n (rJs l 0) (rMs l 0) (by omega) (rJs_ok l 0)
  have cz := d22 o (rJs l 0) (rMs l 0) (by omega) (rJs_ok l 0)
  have mx := cfgL_mem (l := m) (rJs_ok l 0)
  have my := cfgL_mem (l := n) (rJs_ok l 0)
  have mz := cfgL_mem (l := o) (rJs_ok l 0)
  have lx := cfgL_len m (rJs l 0)
  have ly := cfgL_len n (rJs l 0)
  have lz := cfgL_len o (rJs l 0)
  generalize cfgL m (rJs l 0) = x at *
  generalize cfgL n (rJs l 0) = y at *
  generalize cfgL o (rJs l 0) = z at *
  generalize rJs l 0 = js at *
  generalize rMs l 0 = ms at *
  have bl : js.length ≤ 9223372036854775807 := by omega
  have bm : ms.length ≤ 9223372036854775807 := by omega
  have bx : x.length ≤ 9223372036854775807 := by omega
  have by_ : y.length ≤ 9223372036854775807 := by omega
  have bz : z.length ≤ 9223372036854775807 := by omega
  have c1 := d36 rjs rms p q hl hm hp hq
  have c2 := d37 rjs rms p q hl hm hp hq
  have c3 := d36 js ms x q bl bm bx hq
  have c4 := d37 js ms x q bl bm bx hq
  have c5 := d36 js ms x y bl bm bx by_
  have c6 := d37 js ms x y bl bm bx by_
  have c7 := d36 js ms y x bl bm by_ bx
  have c8 := d36 js ms x z bl bm bx bz
  have c9 := d36 js ms z y bl bm bz by_
  have c10 := d26 x y bx by_
  obtain ⟨d1, d2, d3⟩ := distR_eq hc hw mx my lx ly (by omega)
  obtain ⟨e1, e2, e3⟩ := distR_eq hc hw my mx ly lx (by omega)
  obtain ⟨f1, f2, f3⟩ := distR_eq hc hw mx mz lx lz (by omega)
  obtain ⟨g1, g2, g3⟩ := distR_eq hc hw mz my lz ly (by omega)
  have hsy := dist_symm lx ly js.length (Nat.le_refl _)
  have htr := dist_tri hw lx ly lz js.length (Nat.le_refl _)
  have hz := (dist_zero hw lx ly js.length (Nat.le_refl _)).2
  have hsame : sameX x y = decide (distP js x y js.length = 0) := by
    have hiff : (x = y) ↔ distP js x y js.length = 0 := by
      rw [hz]
      constructor
      · intro h; subst h; intro k _; rfl
      · intro h
        apply List.ext_getElem?
        intro k
        by_cases hk : k < js.length
        · exact h k hk
        · rw [List.getElem?_eq_none (by omega), List.getElem?_eq_none (by omega)]
    have hle : x.length = y.length := by omega
    rw [sameX]
    simp only [hle, decide_true, Bool.true_and, allZ_eq hle]
    rw [decide_eq_decide]; exact hiff
  rw [d1] at c5 c6
  rw [e1, ← hsy] at c7
  rw [f1] at c8
  rw [g1] at c9
  rw [hsame] at c10
  generalize distP js x y js.length = a at *
  generalize distP js x z js.length = b at *
  generalize distP js z y js.length = c at *
  have hsum : IntKind.i64.wrap (b + c) = b + c := wr_id (by omega) (by omega)
  generalize distR rjs rms p q = u at *
  generalize distR js ms x q = v at *
  have hz2 : ((a == 0) == decide (a = 0)) = true := by by_cases h : a = 0 <;> simp [h]
  refine detP_of Try.func9 rfl (by kernel_rfl) (by simp [Try.f9]) rfl ?_
  intro C hP hN
  simp only [Try.f9] at hN ⊢
  repeat' (first
    | with_reducible refine WP.seq ?_
    | (with_reducible refine WP.region (hn := []) ?_; simp [hP, hN, srcP, hsum, htr, hz2])
    | (with_reducible refine WP.draw (hn := []) (by rw [hP]; kernel_rfl) (by kernel_rfl) ?_; simp [hP, hN, srcP, hsum, htr, hz2]; (try refine ⟨by kernel_rfl, ?_⟩))
    | (with_reducible refine xB_split (by simp [srcP, hsum, htr, hz2]) (fun hgd => ?_) (fun hgd => ?_) <;> first | (exfalso; simp at hgd; done) | (exfalso; simp at hgd; omega) | simp [hP, hN, srcP, hsum, htr, hz2])
    | (with_reducible refine yB_split (by simp [srcP, hsum, htr, hz2]) (fun hgd => ?_) (fun hgd => ?_) <;> first | (exfalso; simp at hgd; done) | (exfalso; simp at hgd; omega) | (simp [hP, hN, srcP, hsum, htr, hz2] <;> (try refine ⟨by kernel_rfl, ?_⟩)))
    | (with_reducible refine xC_intro (cr) ?_; simp [hP, hN, srcP, hsum, htr, hz2])
    | (with_reducible refine yC_intro (cr) ?_; simp [hP, hN, srcP, hsum, htr, hz2]; (try refine ⟨by kernel_rfl, ?_⟩))
    | (with_reducible refine xC_intro (cx) ?_; simp [hP, hN, srcP, hsum, htr, hz2])
    | (with_reducible refine yC_intro (cx) ?_; simp [hP, hN, srcP, hsum, htr, hz2]; (try refine ⟨by kernel_rfl, ?_⟩))
    | (with_reducible refine xC_intro (cy) ?_; simp [hP, hN, srcP, hsum, htr, hz2])
    | (with_reducible refine yC_intro (cy) ?_; simp [hP, hN, srcP, hsum, htr, hz2]; (try refine ⟨by kernel_rfl, ?_⟩))
    | (with_reducible refine xC_intro (cz) ?_; simp [hP, hN, srcP, hsum, htr, hz2])
    | (with_reducible refine yC_intro (cz) ?_; simp [hP, hN, srcP, hsum, htr, hz2]; (try refine ⟨by kernel_rfl, ?_⟩))
    | (with_reducible refine xC_intro (c1) ?_; simp [hP, hN, srcP, hsum, htr, hz2])
    | (with_reducible refine yC_intro (c1) ?_; simp [hP, hN, srcP, hsum, htr, hz2]; (try refine ⟨by kernel_rfl, ?_⟩))
    | (with_reducible refine xC_intro (c2) ?_; simp [hP, hN, srcP, hsum, htr, hz2])
    | (with_reducible refine yC_intro (c2) ?_; simp [hP, hN, srcP, hsum, htr, hz2]; (try refine ⟨by kernel_rfl, ?_⟩))
    | (with_reducible refine xC_intro (c3) ?_; simp [hP, hN, srcP, hsum, htr, hz2])
    | (with_reducible refine yC_intro (c3) ?_; simp [hP, hN, srcP, hsum, htr, hz2]; (try refine ⟨by kernel_rfl, ?_⟩))
    | (with_reducible refine xC_intro (c4) ?_; simp [hP, hN, srcP, hsum, htr, hz2])
    | (with_reducible refine yC_intro (c4) ?_; simp [hP, hN, srcP, hsum, htr, hz2]; (try refine ⟨by kernel_rfl, ?_⟩))
    | (with_reducible refine xC_intro (c5) ?_; simp [hP, hN, srcP, hsum, htr, hz2])
    | (with_reducible refine yC_intro (c5) ?_; simp [hP, hN, srcP, hsum, htr, hz2]; (try refine ⟨by kernel_rfl, ?_⟩))
    | (with_reducible refine xC_intro (c6) ?_; simp [hP, hN, srcP, hsum, htr, hz2])
    | (with_reducible refine yC_intro (c6) ?_; simp [hP, hN, srcP, hsum, htr, hz2]; (try refine ⟨by kernel_rfl, ?_⟩))
    | (with_reducible refine xC_intro (c7) ?_; simp [hP, hN, srcP, hsum, htr, hz2])
    | (with_reducible refine yC_intro (c7) ?_; simp [hP, hN, srcP, hsum, htr, hz2]; (try refine ⟨by kernel_rfl, ?_⟩))
    | (with_reducible refine xC_intro (c8) ?_; simp [hP, hN, srcP, hsum, htr, hz2])
    | (with_reducible refine yC_intro (c8) ?_; simp [hP, hN, srcP, hsum, htr, hz2]; (try refine ⟨by kernel_rfl, ?_⟩))
    | (with_reducible refine xC_intro (c9) ?_; simp [hP, hN, srcP, hsum, htr, hz2])
    | (with_reducible refine yC_intro (c9) ?_; simp [hP, hN, srcP, hsum, htr, hz2]; (try refine ⟨by kernel_rfl, ?_⟩))
    | (with_reducible refine xC_intro (c10) ?_; simp [hP, hN, srcP, hsum, htr, hz2])
    | (with_reducible refine yC_intro (c10) ?_; simp [hP, hN, srcP, hsum, htr, hz2]; (try refine ⟨by kernel_rfl, ?_⟩))
    | (with_reducible refine xC_intro (d16) ?_; simp [hP, hN, srcP, hsum, htr, hz2])
    | (with_reducible refine yC_intro (d16) ?_; simp [hP, hN, srcP, hsum, htr, hz2]; (try refine ⟨by kernel_rfl, ?_⟩))
    | with_reducible refine xTwo_intro ?_ ?_
    | (with_reducible refine WP.cond' ?_; simp [hP, hN, srcP, hsum, htr, hz2])
    | (with_reducible refine xCond_split (fun hcd => ?_) (fun hcd => ?_) <;> (try (exfalso; clear hP hN; simp_all; done)) <;> (try (exfalso; simp at *; omega)))
    | with_reducible refine WP.block ?_
    | (with_reducible refine WP.skip ?_; simp [srcP, hsum, htr, hz2])
    | (with_reducible refine WP.exit ?_; simp [srcP, hsum, htr, hz2])
    | (with_reducible refine WP.ret ?_; simp [srcP, hsum, htr, hz2]))
set_option maxHeartbeats 4000000 in
theorem d10 (l m n : List Int) (depth index : Int) : DetH Try.prog 10 [.pv (zs l), .pv (zs m), .pv (zs n), .pv (Z depth), .pv (Z index)] [] [] (.pv (B true)) := by
  have hlen := rJs_len l 0
  have hmlen := rMs_len l
  have hc := robot_ok l
  have hw := rJs_w l
  have cr := d21 l
  have hM := mot_mot l m n depth index
  have hmo := d13 l m n depth index
  have lx := cfgL_len m (rJs l 0)
  have ly := cfgL_len n (rJs l 0)
  generalize cfgL m (rJs l 0) = p at *
  generalize cfgL n (rJs l 0) = q at *
  generalize rJs l 0 = js at *
  generalize rMs l 0 = ms at *
  generalize motD depth = d at *
  generalize motI depth index = i at *
  have hd0 := hM.d0
  have hd1 := hM.d1
  have hi0 := hM.i0
  have hi1 := hM.i1
  have ca := d24 p q d i (by omega) (by omega)
  rw [at_of hM.len hM.sp hM.sq hd0 (by omega) hi0 (by omega)] at ca
  have hN : (0 : Int) < 2 ^ d.toNat := pow_pos2 _
  have lr : (List.zipWith (atP (2 ^ d.toNat) i) p q).length = js.length := by simp; omega
  have hmid : ∀ (k : Nat) (h : k < p.length) (h' : k < q.length) (h'' : k < (List.zipWith (atP (2 ^ d.toNat) i) p q).length), min p[k] q[k] ≤ (List.zipWith (atP (2 ^ d.toNat) i) p q)[k] ∧ (List.zipWith (atP (2 ^ d.toNat) i) p q)[k] ≤ max p[k] q[k] := by
    intro k h h' h''
    simp only [List.getElem_zipWith]
    have a := (atP_in (N := 2 ^ d.toNat) (i := i) (f := p[k]) (t := q[k]) hN).1
    have b := pieceP_in (f := p[k]) (t := q[k]) hN hi0 hi1
    omega
  have mr : ∀ x ∈ List.zipWith (atP (2 ^ d.toNat) i) p q, -1000000 ≤ x ∧ x ≤ 1000000 := by
    intro x hx
    obtain ⟨k, hk, rfl⟩ := List.mem_iff_getElem.1 hx
    have hk1 : k < p.length := by omega
    have hk2 : k < q.length := by omega
    have := hmid k hk1 hk2 hk
    have a := hM.sp _ (List.getElem_mem hk1)
    have b := hM.sq _ (List.getElem_mem hk2)
    omega
  generalize List.zipWith (atP (2 ^ d.toNat) i) p q = r at *
  have hge := dist_mid lx ly lr hmid js.length (Nat.le_refl _)
  have bl : js.length ≤ 9223372036854775807 := by omega
  have bm : ms.length ≤ 9223372036854775807 := by omega
  have c1 := d36 js ms p r bl bm (by omega) (by omega)
  have c2 := d36 js ms r q bl bm (by omega) (by omega)
  have c3 := d36 js ms p q bl bm (by omega) (by omega)
  obtain ⟨d1, d2, d3⟩ := distR_eq hc hw hM.sp hM.sq lx ly (by omega)
  obtain ⟨e1, e2, e3⟩ := distR_eq hc hw hM.sp mr lx lr (by omega)
  obtain ⟨f1, f2, f3⟩ := distR_eq hc hw mr hM.sq lr ly (by omega)
  rw [e1] at c1
  rw [f1] at c2
  rw [d1] at c3
  generalize distP js p q js.length = a at *
  generalize distP js p r js.length = b at *
  generalize distP js r q js.length = c at *
  have hsum : IntKind.i64.wrap (b + c) = a := by rw [← hge]; exact wr_id (by omega) (by omega)
  refine detP_of Try.func10 rfl (by kernel_rfl) (by simp [Try.f10]) rfl ?_
  intro C hP hN
  simp only [Try.f10] at hN ⊢
  repeat' (first
    | with_reducible refine WP.seq ?_
    | (with_reducible refine WP.region (hn := []) ?_; simp [hP, hN, srcP, hsum])
    | (with_reducible refine WP.draw (hn := []) (by rw [hP]; kernel_rfl) (by kernel_rfl) ?_; simp [hP, hN, srcP, hsum]; (try refine ⟨by kernel_rfl, ?_⟩))
    | (with_reducible refine xB_split (by simp [srcP, hsum]) (fun hgd => ?_) (fun hgd => ?_) <;> first | (exfalso; simp at hgd; done) | (exfalso; simp at hgd; omega) | simp [hP, hN, srcP, hsum])
    | (with_reducible refine yB_split (by simp [srcP, hsum]) (fun hgd => ?_) (fun hgd => ?_) <;> first | (exfalso; simp at hgd; done) | (exfalso; simp at hgd; omega) | (simp [hP, hN, srcP, hsum] <;> (try refine ⟨by kernel_rfl, ?_⟩)))
    | (with_reducible refine xC_intro (cr) ?_; simp [hP, hN, srcP, hsum])
    | (with_reducible refine yC_intro (cr) ?_; simp [hP, hN, srcP, hsum]; (try refine ⟨by kernel_rfl, ?_⟩))
    | (with_reducible refine xC_intro (hmo) ?_; simp [hP, hN, srcP, hsum])
    | (with_reducible refine yC_intro (hmo) ?_; simp [hP, hN, srcP, hsum]; (try refine ⟨by kernel_rfl, ?_⟩))
    | (with_reducible refine xC_intro (ca) ?_; simp [hP, hN, srcP, hsum])
    | (with_reducible refine yC_intro (ca) ?_; simp [hP, hN, srcP, hsum]; (try refine ⟨by kernel_rfl, ?_⟩))
    | (with_reducible refine xC_intro (c1) ?_; simp [hP, hN, srcP, hsum])
    | (with_reducible refine yC_intro (c1) ?_; simp [hP, hN, srcP, hsum]; (try refine ⟨by kernel_rfl, ?_⟩))
    | (with_reducible refine xC_intro (c2) ?_; simp [hP, hN, srcP, hsum])
    | (with_reducible refine yC_intro (c2) ?_; simp [hP, hN, srcP, hsum]; (try refine ⟨by kernel_rfl, ?_⟩))
    | (with_reducible refine xC_intro (c3) ?_; simp [hP, hN, srcP, hsum])
    | (with_reducible refine yC_intro (c3) ?_; simp [hP, hN, srcP, hsum]; (try refine ⟨by kernel_rfl, ?_⟩))
    | (with_reducible refine xC_intro (d16) ?_; simp [hP, hN, srcP, hsum])
    | (with_reducible refine yC_intro (d16) ?_; simp [hP, hN, srcP, hsum]; (try refine ⟨by kernel_rfl, ?_⟩))
    | with_reducible refine xTwo_intro ?_ ?_
    | (with_reducible refine WP.cond' ?_; simp [hP, hN, srcP, hsum])
    | (with_reducible refine xCond_split (fun hcd => ?_) (fun hcd => ?_) <;> (try (exfalso; clear hP hN; simp_all; done)) <;> (try (exfalso; simp at *; omega)))
    | with_reducible refine WP.block ?_
    | (with_reducible refine WP.skip ?_; simp [srcP, hsum])
    | (with_reducible refine WP.exit ?_; simp [srcP, hsum])
    | (with_reducible refine WP.ret ?_; simp [srcP, hsum]))
end Go.Ab
