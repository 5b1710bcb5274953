/- One operation is what the model does: append, copy. -/
import Derived.Test.YtgamhginhckcpaaAb8
set_option linter.all false
namespace Go.Ab

theorem upd_self {h : Hp} {k : Nat} {b : Blk} (hk : h k = some b) : upd h k (some b) = h := by
  funext n; unfold upd; split
  · rename_i e; rw [e, hk]
  · rfl

theorem kind_slice {P : Program} {t : TypeId} {ti : TI} (ht : tiOf P t = some ti) {e sz by_ : Nat} {z : Option Value} (hk : ti.kind = .slice e sz by_ z) :
    P.underlying t = some (.slice e) ∧ ∃ j, P.info? e = some j ∧ j.size = sz ∧ j.bytes = by_ ∧ j.zero = z := by
  obtain ⟨i, d, hi, hd, hsz, _, hkind⟩ := tiOf_some ht
  rw [hk] at hkind
  split at hkind
  · cases hkind
  · cases hkind
  · rename_i ee
    split at hkind
    · rename_i j hj
      injection hkind with a1 a2 a3 a4
      subst a1
      exact ⟨hd, j, hj, a2.symm, a3.symm, a4.symm⟩
    · cases hkind
  · cases hkind

theorem append_zero {P : Program} {w : World} {t ty e : TypeId} {j : TypeInfo} (ht : P.underlying t = some (.slice e)) (hj : P.info? e = some j) (B : Option Addr) (n cap : Nat) (hn : n ≤ cap) (A : Option Addr) (c : Nat) :
    (Builtin.append_ #[t, t] ty #[.slice B n cap, .slice A 0 c]).run P w = .ok (.slice B n cap) w := by
  have hf : (Builtin.firstCells j.size 0 (.slice A 0 c)).run P w = .ok #[] w := by
    cases A with
    | none => rfl
    | some a => simp only [Builtin.firstCells, Nat.zero_mul]; rfl
  cases B with
  | none => simp [Builtin.append_, run_underlying ht, sizeOf, typeInfo, hj, Builtin.lenOf, hn, hf]
  | some b => simp [Builtin.append_, run_underlying ht, sizeOf, typeInfo, hj, Builtin.lenOf, hn, hf, storeCells]

/-- Cells of two lists of elements, one behind the other. -/
theorem rowCells {w : World} {M : Nat → Nat → Prop} {xs ys : List PV} {olds news : List Value} {sz : Nat} (hlo : olds.length = xs.length * sz) (hxs : ∀ x ∈ xs, x.cells.length = sz) (hys : ∀ y ∈ ys, y.cells.length = sz)
    (ho : ∀ (i : Nat) x (j : Nat) p, xs[i]? = some x → x.cells[j]? = some p → ∃ u, olds[i * sz + j]? = some u ∧ Rep w M p u)
    (hn : ∀ (i : Nat) x (j : Nat) p, ys[i]? = some x → x.cells[j]? = some p → ∃ u, news[i * sz + j]? = some u ∧ Rep w M p u)
    (i : Nat) (x : PV) (j : Nat) (p : PV) (hx : (xs ++ ys)[i]? = some x) (hj : x.cells[j]? = some p) : ∃ u, (olds ++ news)[i * sz + j]? = some u ∧ Rep w M p u ∧ i * sz + j < (xs.length + ys.length) * sz := by
  have hjs : j < sz := by
    have hmem := List.mem_of_getElem? hx
    have hl : x.cells.length = sz := by
      rcases List.mem_append.1 hmem with h | h
      · exact hxs x h
      · exact hys x h
    rw [← hl]; exact (List.getElem?_eq_some_iff.1 hj).1
  have hil : i < xs.length + ys.length := by have := (List.getElem?_eq_some_iff.1 hx).1; simpa using this
  have hlt : i * sz + j < (xs.length + ys.length) * sz := by
    have : (i + 1) * sz ≤ (xs.length + ys.length) * sz := Nat.mul_le_mul_right _ hil
    rw [Nat.add_mul] at this; omega
  by_cases hi : i < xs.length
  · rw [List.getElem?_append_left hi] at hx
    obtain ⟨u, hu, hr⟩ := ho i x j p hx hj
    exact ⟨u, by rw [List.getElem?_append_left (List.getElem?_eq_some_iff.1 hu).1]; exact hu, hr, hlt⟩
  · rw [List.getElem?_append_right (by omega)] at hx
    obtain ⟨u, hu, hr⟩ := hn _ x j p hx hj
    refine ⟨u, ?_, hr, hlt⟩
    have he : i * sz = xs.length * sz + (i - xs.length) * sz := by rw [← Nat.add_mul]; congr 1; omega
    rw [List.getElem?_append_right (by rw [hlo]; omega), hlo, ← hu]
    congr 1
    omega

section
variable {C : Cx} {L : Nat → Loc} {h1 h : Hp} {w : World}

theorem evAppend_sound (hm : MemL C L h w) (hs : ∀ k b, h1 k = some b → h k = some b) {t ty : TypeId} {ti : TI} (ht : tiOf C.P t = some ti) {d : Option Nat} (hfresh : ∀ q, d = some q → h1 q = h q)
    {s x : AV} {us ux : Value} (hsr : RepA w (Mst C L h) L h s us) (hx : RepA w (Mst C L h) L h x ux) {v : AV} {W : List (Nat × Blk)} (e : evAppend ti d s x h1 = some (v, W)) :
    ∃ r w' L', (Builtin.append_ #[t, t] ty #[us, ux]).run C.P w = .ok r w' ∧ After C L h w L' (writes h W) w' ∧ RepA w' (Mst C L' (writes h W)) L' (writes h W) v r := by
  unfold evAppend at e
  split at e
  · rename_i et esz ebytes z hkind
    obtain ⟨hund, jt, hj, rfl, rfl, hz⟩ := kind_slice ht hkind
    split at e
    · cases e
    · rename_i ys hys
      split at e
      · rename_i hcond
        obtain ⟨c1, c2, c3⟩ := hcond
        have hyl : ∀ y ∈ ys, y.cells.length = jt.size := by
          intro y hy
          have := List.all_eq_true.1 c3 y hy
          simp [okE] at this; exact this.1
        obtain ⟨A, c, rfl, hA0, hA⟩ := elems_sound hm hs hx hys c3
        split at e
        · rename_i k n
          split at e
          · rename_i e0 sz xs fz hk
            split at e
            · rename_i hc
              obtain ⟨hn, rfl, rfl, hbytes, h63⟩ := hc
              injection e with e; injection e with e1 e2; subst e1; subst e2
              have hk' := hs _ _ hk
              rw [writes_one]
              have husv : us = (L k).slice n := by
                cases hsr with
                | arr hk2 hn2 hu =>
                  rw [hk'] at hk2; injection hk2 with hk2; injection hk2 with a1 a2 a3 a4
                  subst a3
                  exact hu hn
              subst husv
              obtain ⟨g1, g2, g3, g4, g5⟩ := hm.bl k _ hk'
              by_cases hy0 : ys.length = 0
              · have hye : ys = [] := List.eq_nil_of_length_eq_zero hy0
                subst hye
                have hnc : ∃ B cap, (L k).slice n = .slice B n cap ∧ n ≤ cap := by
                  rcases rowLive hm hk' with ⟨hh, hxs⟩ | ⟨hh, a1, _⟩
                  · subst hxs; subst hn; exact ⟨none, 0, by simp [Loc.slice, hh], Nat.le_refl _⟩
                  · exact ⟨_, _, by simp [Loc.slice, hh]; exact ⟨rfl, rfl⟩, by omega⟩
                obtain ⟨B, cap, hB, hBc⟩ := hnc
                refine ⟨(L k).slice n, w, L, by rw [hB]; exact append_zero hund hj B n cap hBc A c, ?_, ?_⟩
                · rw [List.append_nil, upd_self hk']; exact After.refl hm
                · rw [List.append_nil, upd_self hk', List.length_nil, Nat.add_zero]
                  exact .arr hk' (by omega) (fun _ => rfl)
              · obtain ⟨b, o, rfl, news, n1, n2, n3, n4⟩ := hA (by omega)
                have hcell : ∀ j u, news[j]? = some u → w.cell? ((⟨b, o, none⟩ : Addr).add j) = some u := fun j u hu => by rw [add_none]; exact n2 j u hu
                rcases rowLive hm hk' with ⟨hh, hxs⟩ | ⟨hh, a1, a2, arr, a3, a4, a5⟩
                · -- a nil array grows
                  subst hxs
                  simp only [List.length_nil] at hn
                  subst hn
                  have hsl : (L k).slice 0 = .slice none 0 0 := by simp [Loc.slice, hh]
                  rw [hsl]
                  have hrun := run_append_nil (P := C.P) w t ty e0 jt z hund hj hz ⟨b, o, none⟩ ys.length c news n1 hcell (by omega) (by omega) (by rw [Nat.zero_add] at hbytes; omega)
                  have hx' : Ext (fun _ => False) w (w.drew.alloc (.cells (news.toArray ++ Builtin.zeroCells z.cells (grownCap w ys.length 0 e0 - ys.length)) e0)) := (Ext.drew _ w).trans (Ext.alloc _ _ _) (fun _ _ h => h)
                  have hge := grownCap_ge w ys.length 0 e0
                  have hcap := grownCap_le_maxLen w ys.length 0 e0 (by simp only [maxLen]; omega)
                  have hmv := hm.move (xs' := [] ++ ys) (l' := ⟨w.heap.size, grownCap w ys.length 0 e0, false⟩) hk' hx' ⟨rfl, Nat.le_refl _⟩ (by simp; omega) (by
                    refine ⟨c1, by simp at g2 ⊢; omega, by simpa using hyl, (fun h => by cases h), fun _ => ⟨by simpa using hge, hcap, _, heap_new _ _, ?_, ?_⟩⟩
                    · simp only [Array.size_append, List.size_toArray, n1, size_zeroCells, c2]
                      rw [← Nat.add_mul]; congr 1; omega
                    · intro i x j p hxi hxj
                      simp only [List.nil_append] at hxi
                      obtain ⟨u, hu, hr⟩ := n4 i x j p hxi hxj
                      refine ⟨u, ?_, hr.mono ((presNew (q := True) hx' (fun _ => Nat.le_refl _)).trans (Pres.sub (fun b' o' h => h.elim .inl (fun h => .inr ⟨trivial, h⟩))))⟩
                      rw [Array.getElem?_append_left (by have := (List.getElem?_eq_some_iff.1 hu).1; simpa using this)]
                      simpa using hu)
                  refine ⟨_, _, _, hrun, hmv, ?_⟩
                  refine .arr (upd_same _ _ _) (by simp) (fun _ => ?_)
                  rw [upd_same]; simp [Loc.slice]
                · have hsl : (L k).slice n = .slice (some ⟨(L k).b, 0, none⟩) n (L k).cap := by simp [Loc.slice, hh]
                  rw [hsl]
                  have hmul : n * jt.size ≤ arr.size := by rw [a4]; exact Nat.mul_le_mul_right _ (by omega)
                  have holen : (arr.toList.take (n * jt.size)).length = xs.length * jt.size := by simp [hn]; omega
                  have hold : ∀ (i : Nat) x (j : Nat) p, xs[i]? = some x → x.cells[j]? = some p → ∃ u, (arr.toList.take (n * jt.size))[i * jt.size + j]? = some u ∧ Rep w (Mst C L h) p u := by
                    intro i x j p hxi hxj
                    obtain ⟨u, hu, hr⟩ := a5 i x j p hxi hxj
                    refine ⟨u, ?_, hr⟩
                    have hjs : j < jt.size := by rw [← g3 x (List.mem_of_getElem? hxi)]; exact (List.getElem?_eq_some_iff.1 hxj).1
                    have hil : i < xs.length := (List.getElem?_eq_some_iff.1 hxi).1
                    have : (i + 1) * jt.size ≤ n * jt.size := Nat.mul_le_mul_right _ (by omega)
                    rw [Nat.add_mul] at this
                    rw [List.getElem?_take, if_pos (by omega)]
                    simpa using hu
                  have hcells := rowCells holen g3 hyl hold n4
                  by_cases hroom : n + ys.length ≤ (L k).cap
                  · have hmul2 : (n + ys.length) * jt.size ≤ arr.size := by rw [a4]; exact Nat.mul_le_mul_right _ hroom
                    rw [Nat.add_mul] at hmul2
                    have hrun := run_append_room (P := C.P) w t ty e0 jt hund hj (L k).b n (L k).cap arr a3 ⟨b, o, none⟩ ys.length c news n1 hcell n3 hroom (by omega)
                    refine ⟨_, _, L, hrun, ?_, ?_⟩
                    · have hw : ∀ b', b' < w.heap.size → ((Blk.row e0 jt.size xs fz).live (L k) → b' ≠ (L k).b) → (w.setRow (L k).b (arr.toList.take (n * jt.size) ++ news ++ arr.toList.drop (n * jt.size + news.length)).toArray).heap[b']? = w.heap[b']? :=
                        fun b' _ hb => setRow_other w _ b' _ (hb hh)
                      have hsp : ∀ q, q < n * jt.size → (arr.toList.take (n * jt.size) ++ news ++ arr.toList.drop (n * jt.size + news.length))[q]? = arr[q]? := by
                        intro q hq
                        rw [List.append_assoc, List.getElem?_append_left (by simp; omega), List.getElem?_take, if_pos hq]; simp
                      have hpr : ∀ o v, (Blk.row e0 jt.size xs fz).live (L k) → (Blk.row e0 jt.size xs fz).frz o → w.cell? ⟨(L k).b, o, none⟩ = some v →
                          (w.setRow (L k).b (arr.toList.take (n * jt.size) ++ news ++ arr.toList.drop (n * jt.size + news.length)).toArray).cell? ⟨(L k).b, o, none⟩ = some v := by
                        intro q v _ hf hc
                        simp only [Blk.frz] at hf
                        have : fz * jt.size ≤ n * jt.size := Nat.mul_le_mul_right _ (by omega)
                        rw [cell_setRow_same w _ q arr _ _ _ a3, List.getElem?_toArray, hsp q (by omega), ← cell_heap a3]
                        exact hc
                      have hcp : compat (.row e0 jt.size xs fz) (L k) (.row e0 jt.size (xs ++ ys) fz) (L k) := ⟨rfl, rfl, by simp, fun _ => rfl⟩
                      have hpk := hm.touch_pk (blk' := .row e0 jt.size (xs ++ ys) fz) hk' hw hpr (fun o hf => hf) hcp Iff.rfl
                      refine hm.touch hk' hw (by simp) rfl rfl rfl hpr (fun o hf => hf) hcp Iff.rfl (by have h9 := hm.own k _ hk'; exact h9) ?_
                      refine ⟨g1, by simp; omega, ?_, (fun hn => by rw [hh] at hn; cases hn), fun _ => ⟨by simp; omega, a2, _, setRow_heap w _ arr _ _ _ a3, ?_, ?_⟩⟩
                      · intro x hx'
                        rcases List.mem_append.1 hx' with h' | h'
                        · exact g3 x h'
                        · exact hyl x h'
                      · simp only [List.size_toArray, List.length_append, List.length_take, List.length_drop, Array.length_toList]; omega
                      · intro i x j p hxi hxj
                        obtain ⟨u, hu, hr, hlt⟩ := hcells i x j p hxi hxj
                        refine ⟨u, ?_, hr.mono hpk.1⟩
                        rw [List.getElem?_toArray, List.getElem?_append_left (List.getElem?_eq_some_iff.1 hu).1]
                        exact hu
                    · refine .arr (upd_same _ _ _) (by simp; omega) (fun _ => ?_)
                      simp [Loc.slice, hh]
                  · have hrun := run_append_grow (P := C.P) w t ty e0 jt z hund hj hz ⟨(L k).b, 0, none⟩ n (L k).cap (arr.toList.take (n * jt.size)) (by rw [holen, hn])
                      (fun q u hu => by
                        rw [add_none, cell_heap a3, Nat.zero_add]
                        rw [List.getElem?_take] at hu
                        split at hu
                        · simpa using hu
                        · cases hu)
                      ⟨b, o, none⟩ ys.length c news n1 hcell (by omega) (by omega) (growslice_fits (by omega) hbytes)
                    have hx' : Ext (fun _ => False) w (w.drew.alloc (.cells ((arr.toList.take (n * jt.size)).toArray ++ news.toArray ++ Builtin.zeroCells z.cells (grownCap w (n + ys.length) (L k).cap e0 - (n + ys.length))) e0)) :=
                      (Ext.drew _ w).trans (Ext.alloc _ _ _) (fun _ _ h => h)
                    have hge := grownCap_ge w (n + ys.length) (L k).cap e0
                    have hcap := grownCap_le_maxLen w (n + ys.length) (L k).cap e0 (by simp only [maxLen]; omega)
                    have hmv := hm.move (xs' := xs ++ ys) (l' := ⟨w.heap.size, grownCap w (n + ys.length) (L k).cap e0, false⟩) hk' hx' ⟨rfl, Nat.le_refl _⟩ (by simp; omega) (by
                      refine ⟨c1, by simp; omega, ?_, (fun h => by cases h), fun _ => ⟨by simp; omega, hcap, _, heap_new _ _, ?_, ?_⟩⟩
                      · intro x hx'
                        rcases List.mem_append.1 hx' with h' | h'
                        · exact g3 x h'
                        · exact hyl x h'
                      · simp only [Array.size_append, List.size_toArray, holen, n1, size_zeroCells, c2, hn]
                        rw [← Nat.add_mul, ← Nat.add_mul]; congr 1; omega
                      · intro i x j p hxi hxj
                        obtain ⟨u, hu, hr, hlt⟩ := hcells i x j p hxi hxj
                        refine ⟨u, ?_, hr.mono ((presNew (q := True) hx' (fun _ => Nat.le_refl _)).trans (Pres.sub (fun b' o' h => h.elim .inl (fun h => .inr ⟨trivial, h⟩))))⟩
                        have hul := (List.getElem?_eq_some_iff.1 hu).1
                        have hul2 : i * jt.size + j < ((arr.toList.take (n * jt.size)).toArray ++ news.toArray).size := by simp only [Array.size_append, List.size_toArray]; simp only [List.length_append] at hul; exact hul
                        rw [Array.getElem?_append_left hul2, ← Array.getElem?_toList, Array.toList_append]
                        exact hu)
                    refine ⟨_, _, _, hrun, hmv, ?_⟩
                    refine .arr (upd_same _ _ _) (by simp; omega) (fun _ => ?_)
                    rw [upd_same]; simp [Loc.slice]
            · cases e
          · cases e
        · rename_i vv
          split at e
          · rename_i hv
            split at e
            · rename_i q
              split at e
              · rename_i hc
                obtain ⟨hq, hbytes, h63⟩ := hc
                injection e with e; injection e with e1 e2; subst e1; subst e2
                rw [writes_one]
                have hqn : h q = none := by rw [← hfresh q rfl]; simpa using hq
                cases hsr with
                | pv hr =>
                rw [rep_val_inv hr, isNilS_eq hv]
                by_cases hy0 : ys.length = 0
                · have hye : ys = [] := List.eq_nil_of_length_eq_zero hy0
                  subst hye
                  have hrow := new_row (e := et) (sz := jt.size) (xs := []) (l := ⟨0, 0, true⟩) hm (Ext.refl _ w) hqn (fun h => by cases h)
                    ⟨c1, Nat.zero_le _, by simp, fun _ => rfl, (fun h => by cases h)⟩
                  exact ⟨_, _, _, append_zero hund hj none 0 0 (Nat.le_refl _) A c, hrow.1, hrow.2⟩
                · obtain ⟨b, o, rfl, news, n1, n2, n3, n4⟩ := hA (by omega)
                  have hcell : ∀ j u, news[j]? = some u → w.cell? ((⟨b, o, none⟩ : Addr).add j) = some u := fun j u hu => by rw [add_none]; exact n2 j u hu
                  have hrun := run_append_nil (P := C.P) w t ty et jt z hund hj hz ⟨b, o, none⟩ ys.length c news n1 hcell (by omega) (by omega) (by omega)
                  have hx' : Ext (fun _ => False) w (w.drew.alloc (.cells (news.toArray ++ Builtin.zeroCells z.cells (grownCap w ys.length 0 et - ys.length)) et)) := (Ext.drew _ w).trans (Ext.alloc _ _ _) (fun _ _ h => h)
                  have hge := grownCap_ge w ys.length 0 et
                  have hcap := grownCap_le_maxLen w ys.length 0 et (by simp only [maxLen]; omega)
                  have hrow := new_row (e := et) (sz := jt.size) (xs := ys) (l := ⟨w.heap.size, grownCap w ys.length 0 et, false⟩) hm hx' hqn (fun _ => Nat.le_refl _) (by
                    refine ⟨c1, Nat.zero_le _, hyl, (fun h => by cases h), fun _ => ⟨hge, hcap, _, heap_new _ _, ?_, ?_⟩⟩
                    · simp only [Array.size_append, List.size_toArray, n1, size_zeroCells, c2]
                      rw [← Nat.add_mul]; congr 1; omega
                    · intro i x j p hxi hxj
                      obtain ⟨u, hu, hr⟩ := n4 i x j p hxi hxj
                      refine ⟨u, ?_, hr.mono (presNew hx' (fun _ => Nat.le_refl _))⟩
                      rw [Array.getElem?_append_left (by have := (List.getElem?_eq_some_iff.1 hu).1; simpa using this)]
                      simpa using hu)
                  exact ⟨_, _, _, hrun, hrow.1, hrow.2⟩
              · cases e
            · cases e
          · cases e
        · cases e
      · cases e
  · cases e

/-- copy. -/
theorem evCopy_sound (hm : MemL C L h w) (hs : ∀ k b, h1 k = some b → h k = some b) {t t' ty : TypeId} {ti : TI} (ht : tiOf C.P t = some ti)
    {s x : AV} {us ux : Value} (hsr : RepA w (Mst C L h) L h s us) (hx : RepA w (Mst C L h) L h x ux) {v : AV} {W : List (Nat × Blk)} (e : evCopy ti s x h1 = some (v, W)) :
    ∃ r w', (Builtin.copy_ #[t, t'] ty #[us, ux]).run C.P w = .ok r w' ∧ After C L h w L (writes h W) w' ∧ RepA w' (Mst C L (writes h W)) L (writes h W) v r := by
  unfold evCopy at e
  split at e
  · rename_i e1 esz ebytes z k n hkind
    obtain ⟨hund, jt, hj, rfl, rfl, hz⟩ := kind_slice ht hkind
    split at e
    · rename_i e0 sz xs ys hk hys
      split at e
      · rename_i hc
        obtain ⟨hn, rfl, c3⟩ := hc
        injection e with e; injection e with ea eb; subst ea; subst eb
        rw [writes_one]
        have hk' := hs _ _ hk
        have husv : us = (L k).slice n := by
          cases hsr with
          | arr hk2 hn2 hu =>
            rw [hk'] at hk2; injection hk2 with hk2; injection hk2 with a1 a2 a3 a4
            subst a3
            exact hu hn
        subst husv
        have hyl : ∀ y ∈ ys, y.cells.length = jt.size := by
          intro y hy
          have := List.all_eq_true.1 c3 y hy
          simp [okE] at this; exact this.1
        obtain ⟨A, c, rfl, hA0, hA⟩ := elems_sound hm hs hx hys c3
        obtain ⟨g1, g2, g3, g4, g5⟩ := hm.bl k _ hk'
        by_cases hmin : Nat.min ys.length n = 0
        · -- nothing is copied
          have hz0 : (ys.take (Nat.min ys.length n) ++ xs.drop (Nat.min ys.length n)) = xs := by rw [hmin]; simp
          rw [hz0, upd_self hk', hmin]
          refine ⟨goInt 0, w, ?_, After.refl hm, .pv (.val _)⟩
          have hf : (Builtin.firstCells jt.size 0 (.slice A ys.length c)).run C.P w = .ok #[] w := by
            cases A with
            | none => rfl
            | some a => simp only [Builtin.firstCells, Nat.zero_mul]; rfl
          unfold Loc.slice
          cases hnil : (L k).isNil with
          | true =>
            simp [Builtin.copy_, run_underlying hund, Builtin.lenOf, sizeOf, typeInfo, hj, hf, goInt]
          | false => simp [Builtin.copy_, run_underlying hund, Builtin.lenOf, sizeOf, typeInfo, hj, hmin, hf, storeCells, goInt]
        · have hpos : 0 < Nat.min ys.length n := Nat.pos_of_ne_zero hmin
          have hy0 : 0 < ys.length := Nat.lt_of_lt_of_le hpos (Nat.min_le_left _ _)
          have hnn : 0 < n := Nat.lt_of_lt_of_le hpos (Nat.min_le_right _ _)
          obtain ⟨b, o, rfl, news, n1, n2, n3, n4⟩ := hA hy0
          rcases rowLive hm hk' with ⟨hh, hxs⟩ | ⟨hh, a1, a2, arr, a3, a4, a5⟩
          · subst hxs; simp at hn; omega
          · have hsl : (L k).slice n = .slice (some ⟨(L k).b, 0, none⟩) n (L k).cap := by simp [Loc.slice, hh]
            rw [hsl]
            generalize hmm : Nat.min ys.length n = m at *
            have hm1 : m ≤ ys.length := by rw [← hmm]; exact Nat.min_le_left _ _
            have hm2 : m ≤ n := by rw [← hmm]; exact Nat.min_le_right _ _
            have hmulm : m * jt.size ≤ news.length := by rw [n1]; exact Nat.mul_le_mul_right _ hm1
            have hmula : m * jt.size ≤ arr.size := by rw [a4]; exact Nat.mul_le_mul_right _ (by omega)
            have htl : (news.take (m * jt.size)).length = m * jt.size := by simp; omega
            have hf : (Builtin.firstCells jt.size m (.slice (some ⟨b, o, none⟩) ys.length c)).run C.P w = .ok (news.take (m * jt.size)).toArray w := by
              have := run_loadCells_list (P := C.P) w ⟨b, o, none⟩ (news.take (m * jt.size)) (fun q v hq => by
                rw [add_none]
                rw [List.getElem?_take] at hq
                split at hq
                · exact n2 q v hq
                · cases hq)
              rw [htl] at this
              simpa [Builtin.firstCells] using this
            have hst := run_storeCells_at C.P (L k).b 0 e0 (news.take (m * jt.size)) 0 arr w a3 (by rw [htl]; omega) (fun v hv => n3 v (List.mem_of_mem_take hv))
            simp only [Nat.zero_add, List.take_zero, List.nil_append, htl] at hst
            refine ⟨goInt m, w.setRow (L k).b (news.take (m * jt.size) ++ arr.toList.drop (m * jt.size)).toArray, ?_, ?_, ?_⟩
            · simp only [Builtin.copy_, List.getElem?_toArray, List.getElem?_cons_zero, List.getElem?_cons_succ, Sem.run_bind, run_underlying hund, Result.andThen_ok, Builtin.lenOf, Sem.run_pure, sizeOf, typeInfo, program, Sem.run, hj, hmm, hf, hst]
            · have hw : ∀ b', b' < w.heap.size → ((Blk.row e0 jt.size xs 0).live (L k) → b' ≠ (L k).b) → (w.setRow (L k).b (news.take (m * jt.size) ++ arr.toList.drop (m * jt.size)).toArray).heap[b']? = w.heap[b']? :=
                fun b' _ hb => setRow_other w _ b' _ (hb hh)
              have hlen : (ys.take m ++ xs.drop m).length = xs.length := by simp; omega
              have hcp : compat (.row e0 jt.size xs 0) (L k) (.row e0 jt.size (ys.take m ++ xs.drop m) 0) (L k) := ⟨rfl, rfl, by omega, fun _ => rfl⟩
              have hpr : ∀ o v, (Blk.row e0 jt.size xs 0).live (L k) → (Blk.row e0 jt.size xs 0).frz o → w.cell? ⟨(L k).b, o, none⟩ = some v →
                  (w.setRow (L k).b (news.take (m * jt.size) ++ arr.toList.drop (m * jt.size)).toArray).cell? ⟨(L k).b, o, none⟩ = some v := by
                intro q v _ hf _; simp only [Blk.frz, Nat.zero_mul] at hf; omega
              have hpk := hm.touch_pk (blk' := .row e0 jt.size (ys.take m ++ xs.drop m) 0) hk' hw hpr (fun o hf => hf) hcp Iff.rfl
              refine hm.touch hk' hw (by simp) rfl rfl rfl hpr (fun o hf => hf) hcp Iff.rfl (by have h9 := hm.own k _ hk'; exact h9) ?_
              refine ⟨g1, Nat.zero_le _, ?_, (fun hn => by rw [hh] at hn; cases hn), fun _ => ⟨by omega, a2, _, setRow_heap w _ arr _ _ _ a3, ?_, ?_⟩⟩
              · intro x hx'
                rcases List.mem_append.1 hx' with h' | h'
                · exact hyl x (List.mem_of_mem_take h')
                · exact g3 x (List.mem_of_mem_drop h')
              · simp only [List.size_toArray, List.length_append, htl, List.length_drop, Array.length_toList]; omega
              · intro i x j p hxi hxj
                have hjs : ∀ y : PV, y.cells.length = jt.size → x = y → j < jt.size := fun y hy e => by subst e; rw [← hy]; exact (List.getElem?_eq_some_iff.1 hxj).1
                by_cases hi : i < m
                · rw [List.getElem?_append_left (by simp; omega), List.getElem?_take, if_pos hi] at hxi
                  obtain ⟨u, hu, hr⟩ := n4 i x j p hxi hxj
                  have hj' := hjs x (hyl x (List.mem_of_getElem? hxi)) rfl
                  have : (i + 1) * jt.size ≤ m * jt.size := Nat.mul_le_mul_right _ hi
                  rw [Nat.add_mul] at this
                  refine ⟨u, ?_, hr.mono hpk.1⟩
                  rw [List.getElem?_toArray, List.getElem?_append_left (by rw [htl]; omega), List.getElem?_take, if_pos (by omega)]
                  exact hu
                · rw [List.getElem?_append_right (by simp; omega), List.getElem?_drop] at hxi
                  rw [show m + (i - (ys.take m).length) = i from by simp; omega] at hxi
                  obtain ⟨u, hu, hr⟩ := a5 i x j p hxi hxj
                  have : m * jt.size ≤ i * jt.size := Nat.mul_le_mul_right _ (by omega)
                  refine ⟨u, ?_, hr.mono hpk.1⟩
                  rw [List.getElem?_toArray, List.getElem?_append_right (by rw [htl]; omega), List.getElem?_drop, htl]
                  rw [show m * jt.size + (i * jt.size + j - m * jt.size) = i * jt.size + j from by omega]
                  simpa using hu
            · exact .pv (.val _)
      · cases e
    · cases e
  · cases e
end
end Go.Ab
