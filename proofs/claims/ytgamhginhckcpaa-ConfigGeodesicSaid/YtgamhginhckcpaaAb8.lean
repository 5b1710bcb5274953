/- One operation is what the model does: new blocks, growing arrays. -/
import Derived.Test.YtgamhginhckcpaaAb7
set_option linter.all false
namespace Go.Ab

theorem presNew {w w' : World} {M : Nat → Nat → Prop} (hx : Ext (fun _ => False) w w') {b0 : Nat} {q : Prop} (hb : q → w.heap.size ≤ b0) : Pres w M w' (fun b o => M b o ∨ (q ∧ b = b0)) := by
  intro b o v hc hn
  have hlt := cell_lt hc
  refine ⟨(hx.cell hlt (fun h => h)).trans hc, ?_⟩
  rintro (h | ⟨hq, rfl⟩)
  · exact hn h
  · have := hb hq; omega

theorem heap_new (w : World) (o : Obj) : (w.alloc o).heap[w.heap.size]? = some o := heap_alloc_new w o

section
variable {C : Cx} {L : Nat → Loc} {h1 h : Hp} {w : World}

/-- A new variable. -/
theorem new_box (hm : MemL C L h w) {d : Nat} (hd : h d = none) {cs : List AV} {us : Array Value} (hr : RepAL w (Mst C L h) L h cs us.toList) (ty : TypeId) :
    After C L h w (upd L d ⟨w.heap.size, 0, false⟩) (upd h d (some (.box cs true false))) (w.alloc (.cells us ty)) ∧
    RepA (w.alloc (.cells us ty)) (Mst C (upd L d ⟨w.heap.size, 0, false⟩) (upd h d (some (.box cs true false)))) (upd L d ⟨w.heap.size, 0, false⟩) (upd h d (some (.box cs true false))) (.ptr d 0) (.pointer (some ⟨w.heap.size, 0, none⟩)) := by
  have hx : Ext (fun _ => False) w (w.alloc (.cells us ty)) := Ext.alloc _ w _
  have hkc : KC L h (upd L d ⟨w.heap.size, 0, false⟩) (upd h d (some (.box cs true false))) := KC.new hd
  refine ⟨hm.newKey hd hx (fun _ => Nat.le_refl _) (by intro cs' fz' e; injection e with _ e2; cases e2) ⟨us, ty, heap_new w _, hr.mono (presNew hx (fun _ => Nat.le_refl _)) hkc⟩, ?_⟩
  have := RepA.ptr (w := w.alloc (.cells us ty)) (M := Mst C (upd L d ⟨w.heap.size, 0, false⟩) (upd h d (some (.box cs true false)))) (L := upd L d ⟨w.heap.size, 0, false⟩) (h := upd h d (some (.box cs true false))) (k := d) (off := 0) (upd_same _ _ _)
  rw [upd_same] at this
  exact this

/-- A new array. -/
theorem new_row (hm : MemL C L h w) {w' : World} (hx : Ext (fun _ => False) w w') {d e sz : Nat} {xs : List PV} (hd : h d = none) {l : Loc} (hl : l.isNil = false → w.heap.size ≤ l.b)
    (hb : BlkRel w' (fun b o => Mst C L h b o ∨ (l.isNil = false ∧ b = l.b)) (fun _ => default) (fun _ => none) l (.row e sz xs 0)) :
    After C L h w (upd L d l) (upd h d (some (.row e sz xs 0))) w' ∧
    RepA w' (Mst C (upd L d l) (upd h d (some (.row e sz xs 0)))) (upd L d l) (upd h d (some (.row e sz xs 0))) (.arr d xs.length) (l.slice xs.length) := by
  refine ⟨hm.newKey hd hx hl (by intro cs' fz' e; cases e) hb, ?_⟩
  exact .arr (upd_same _ _ _) (Nat.le_refl _) (fun _ => by rw [upd_same])

theorem mod_at {i j sz : Nat} (hj : j < sz) : (i * sz + j) % sz = j := by
  rw [Nat.add_comm, Nat.add_mul_mod_self_right]; exact Nat.mod_eq_of_lt hj

/-- make. -/
theorem evMake_sound (hm : MemL C L h w) {t : TypeId} {ti : TI} (ht : tiOf C.P t = some ti) {d : Option Nat} (hfresh : ∀ q, d = some q → h1 q = h q) {l c : AV} {ul uc : Value} (hl : RepA w (Mst C L h) L h l ul) (hc : RepA w (Mst C L h) L h c uc)
    {v : AV} {W : List (Nat × Blk)} (e : evMake ti d l c h1 = some (v, W)) :
    ∃ r w' L', (Instr.makeSlice t ul uc).run C.P w = .ok r w' ∧ After C L h w L' (writes h W) w' ∧ RepA w' (Mst C L' (writes h W)) L' (writes h W) v r := by
  obtain ⟨i, dd, hi, hd, hsz, _, hk⟩ := tiOf_some ht
  unfold evMake at e
  split at e
  · rename_i e0 esz ebytes z k1 n k2 m q hkind
    split at e
    · rename_i hcond
      obtain ⟨c1, c2, c3, c4, c5, c6, c7⟩ := hcond
      injection e with e; injection e with e1 e2; subst e1; subst e2
      subst c3
      have hslice : ∃ ee j, dd = .slice ee ∧ C.P.info? ee = some j ∧ e0 = ee ∧ j.size = esz ∧ j.bytes = ebytes ∧ j.zero = some z := by
        rw [hk] at hkind
        split at hkind
        · cases hkind
        · cases hkind
        · rename_i ee
          split at hkind
          · rename_i j hj; injection hkind with a1 a2 a3 a4; exact ⟨ee, j, rfl, hj, a1.symm, a2, a3, a4⟩
          · cases hkind
        · cases hkind
      obtain ⟨ee, j, rfl, hj, rfl, rfl, rfl, hz⟩ := hslice
      cases hl with
      | pv hl => cases hc with
        | pv hc =>
          rw [rep_val_inv hl, rep_val_inv hc]
          have hrun := run_make (P := C.P) w t e0 j z hd hj hz k1 k2 m m c4 (Int.le_refl _) c5 c6
          have hdn : h q = none := by rw [← hfresh q rfl]; simpa using c7
          have hx : Ext (fun _ => False) w (w.alloc (.cells (madeCells z.cells (m.toNat * j.size)) e0)) := Ext.alloc _ w _
          have hrow := new_row (e := e0) (sz := j.size) (xs := List.replicate m.toNat (PV.val z)) (l := ⟨w.heap.size, m.toNat, false⟩) hm hx hdn (fun _ => Nat.le_refl _) (by
            refine ⟨c1, Nat.zero_le _, ?_, (fun h => by cases h), fun _ => ⟨by simp, by simp only [maxLen]; omega, _, heap_new w _, by simp [size_madeCells], ?_⟩⟩
            · intro x hx'; rw [List.eq_of_mem_replicate hx']; simp [PV.cells, c2]
            · intro a x b p hxa hxb
              have ha : a < m.toNat := by have := (List.getElem?_eq_some_iff.1 hxa).1; simpa using this
              rw [List.getElem?_replicate, if_pos ha] at hxa
              injection hxa with hxa; subst hxa
              simp only [PV.cells, List.getElem?_map, Option.map_eq_some_iff] at hxb
              obtain ⟨y, hy, rfl⟩ := hxb
              have hb : b < j.size := by have := (List.getElem?_eq_some_iff.1 hy).1; simp at this; omega
              have hb2 : b < z.cells.size := by omega
              refine ⟨y, ?_, .val _⟩
              have hlt : a * j.size + b < m.toNat * j.size := by
                have : (a + 1) * j.size ≤ m.toNat * j.size := Nat.mul_le_mul_right _ ha
                rw [Nat.add_mul] at this; omega
              have hyy : z.cells[b] = y := by simpa [hb2] using hy
              simp [madeCells, hlt, c2, mod_at hb]
              rw [getElem!_pos z.cells b hb2]; exact hyy)
          refine ⟨_, _, _, hrun, hrow.1, ?_⟩
          have h9 := hrow.2
          rw [List.length_replicate] at h9
          exact h9
    · cases e
  · cases e

/-- The elements of a slice that is appended or copied. -/
theorem elems_sound (hm : MemL C L h w) (hs : ∀ k b, h1 k = some b → h k = some b) {x : AV} {u : Value} (hx : RepA w (Mst C L h) L h x u) {ys : List PV} (e : elemsOf h1 x = some ys) {sz : Nat} (hok : ys.all (okE sz) = true) :
    ∃ A c, u = .slice A ys.length c ∧ (A = none → ys = []) ∧ (0 < ys.length → ∃ b o, A = some ⟨b, o, none⟩ ∧ ∃ news : List Value, news.length = ys.length * sz ∧ (∀ (j : Nat) v, news[j]? = some v → w.cell? ⟨b, o + j, none⟩ = some v) ∧
      (∀ v ∈ news, v.oneCell' = true) ∧ (∀ (i : Nat) y (j : Nat) p, ys[i]? = some y → y.cells[j]? = some p → ∃ v, news[i * sz + j]? = some v ∧ Rep w (Mst C L h) p v)) := by
  have hlen : ∀ y ∈ ys, y.cells.length = sz ∧ y.cells.all one1 = true := by
    intro y hy
    have := List.all_eq_true.1 hok y hy
    simpa [okE] using this
  -- out of cells that read so
  have mk : ∀ b o, (∀ (i : Nat) y (j : Nat) p, ys[i]? = some y → y.cells[j]? = some p → ∃ v, w.cell? ⟨b, o + (i * sz + j), none⟩ = some v ∧ Rep w (Mst C L h) p v) →
      ∃ news : List Value, news.length = ys.length * sz ∧ (∀ (j : Nat) v, news[j]? = some v → w.cell? ⟨b, o + j, none⟩ = some v) ∧ (∀ v ∈ news, v.oneCell' = true) ∧
        (∀ (i : Nat) y (j : Nat) p, ys[i]? = some y → y.cells[j]? = some p → ∃ v, news[i * sz + j]? = some v ∧ Rep w (Mst C L h) p v) := by
    intro b o hc
    have hall : ∀ q, q < ys.length * sz → ∃ v, w.cell? ⟨b, o + q, none⟩ = some v ∧ v.oneCell' = true := by
      intro q hq
      have hsz : 0 < sz := Nat.pos_of_ne_zero (fun h0 => by subst h0; simp at hq)
      have hi : q / sz < ys.length := Nat.div_lt_of_lt_mul (by rw [Nat.mul_comm]; exact hq)
      have hj : q % sz < sz := Nat.mod_lt _ hsz
      have hy := hlen _ (List.getElem_mem hi)
      have hjl : q % sz < ys[q / sz].cells.length := by omega
      obtain ⟨v, hv, hr⟩ := hc (q / sz) ys[q / sz] (q % sz) _ (List.getElem?_eq_getElem hi) (List.getElem?_eq_getElem hjl)
      refine ⟨v, ?_, one1_sound hr (List.all_eq_true.1 hy.2 _ (List.getElem_mem hjl))⟩
      rw [show q / sz * sz + q % sz = q from by rw [Nat.mul_comm]; exact Nat.div_add_mod q sz] at hv
      exact hv
    refine ⟨(List.range (ys.length * sz)).map fun q => (w.cell? ⟨b, o + q, none⟩).getD undef, by simp, ?_, ?_, ?_⟩
    · intro j v hj
      rw [List.getElem?_map] at hj
      by_cases hlt : j < ys.length * sz
      · rw [List.getElem?_range hlt] at hj
        obtain ⟨v', hv', _⟩ := hall j hlt
        simp [hv'] at hj
        rw [hv', hj]
      · rw [List.getElem?_eq_none (by simp; omega)] at hj; cases hj
    · intro v hv
      obtain ⟨q, hq, rfl⟩ := List.mem_map.1 hv
      obtain ⟨v', hv', ho⟩ := hall q (List.mem_range.1 hq)
      simpa [hv'] using ho
    · intro i y j p hy hj
      obtain ⟨v, hv, hr⟩ := hc i y j p hy hj
      refine ⟨v, ?_, hr⟩
      have hi : i < ys.length := (List.getElem?_eq_some_iff.1 hy).1
      have hj' : j < sz := by rw [← (hlen y (List.mem_of_getElem? hy)).1]; exact (List.getElem?_eq_some_iff.1 hj).1
      have : (i + 1) * sz ≤ ys.length * sz := Nat.mul_le_mul_right _ hi
      rw [Nat.add_mul] at this
      rw [List.getElem?_map, List.getElem?_range (by omega)]
      simp [hv]
  cases x with
  | pv p =>
    cases hx with
    | pv hr =>
    cases p with
    | sl ys' =>
      simp only [elemsOf, Option.some.injEq] at e
      subst e
      cases hr with
      | sl0 a c => exact ⟨a, c, rfl, fun _ => rfl, (fun h => by simp at h)⟩
      | sl _ b o c sz' uu hcap hsz hc hr =>
        refine ⟨_, c, rfl, (fun h => by cases h), fun h0 => ⟨b, o, rfl, mk b o ?_⟩⟩
        intro i y j p hy hj
        have : sz' = sz := by rw [← hsz i y hy]; exact (hlen y (List.mem_of_getElem? hy)).1
        subst this
        exact ⟨_, (hc i y j p hy hj).1, hr i y j p hy hj⟩
    | val v =>
      simp only [elemsOf] at e
      split at e
      · rename_i hv
        injection e with e; subst e
        rw [rep_val_inv hr, isNilS_eq hv]
        exact ⟨none, 0, rfl, fun _ => rfl, (fun h => by simp at h)⟩
      · cases e
    | _ => simp [elemsOf] at e
  | arr k n =>
    simp only [elemsOf] at e
    split at e
    · rename_i ee sz' xs fz hk
      split at e
      · rename_i hn
        injection e with e; subst e
        have hk' := hs _ _ hk
        cases hx with
        | arr hk2 hn2 hu =>
          rw [hk'] at hk2; injection hk2 with hk2; injection hk2 with a1 a2 a3 a4
          subst a1; subst a2; subst a3; subst a4
          rw [hu hn]
          rcases rowLive hm hk' with ⟨hh, hxs⟩ | ⟨hh, _, _, arr, e1, _, e3⟩
          · subst hxs; subst hn
            exact ⟨none, 0, by simp [Loc.slice, hh], fun _ => rfl, (fun h => by simp at h)⟩
          · refine ⟨some ⟨(L k).b, 0, none⟩, (L k).cap, by simp [Loc.slice, hh, hn], (fun h => by cases h), fun h0 => ⟨(L k).b, 0, rfl, mk _ _ ?_⟩⟩
            intro i y j p hy hj
            have hss : sz' = sz := by rw [← (hm.bl k _ hk').2.2.1 y (List.mem_of_getElem? hy)]; exact (hlen y (List.mem_of_getElem? hy)).1
            subst hss
            obtain ⟨v, hv, hr⟩ := e3 i y j p hy hj
            exact ⟨v, by rw [cell_heap e1, Nat.zero_add]; exact hv, hr⟩
      · cases e
    · cases e
  | ptr => simp [elemsOf] at e
  | eptr => simp [elemsOf] at e
  | agg => simp [elemsOf] at e
  | fn => simp [elemsOf] at e
  | tup => simp [elemsOf] at e
  | undef => simp [elemsOf] at e
end

end Go.Ab
