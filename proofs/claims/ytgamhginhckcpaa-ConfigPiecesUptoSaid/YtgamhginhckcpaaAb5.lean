/- One operation is what the model does: freezing, loading, storing, new blocks. -/
import Derived.Test.YtgamhginhckcpaaAb4
import Derived.Maps.AppendAt
set_option linter.all false
namespace Go.Ab

theorem cell_heap {w : World} {b o : Nat} {arr : Array Value} {ty : TypeId} {fr : Nat × Nat} (h : w.heap[b]? = some (.cells arr ty fr)) : w.cell? ⟨b, o, none⟩ = arr[o]? := by
  simp [World.cell?, h]

theorem add_none (b o n : Nat) : (⟨b, o, none⟩ : Addr).add n = ⟨b, o + n, none⟩ := by unfold Addr.add; split <;> simp_all

/-- The outcome of a step: the new memory, and how it stands to the old one. -/
def After (C : Cx) (L : Nat → Loc) (h : Hp) (w : World) (L' : Nat → Loc) (h' : Hp) (w' : World) : Prop :=
  MemL C L' h' w' ∧ Pres w (Mst C L h) w' (Mst C L' h') ∧ KC L h L' h'
theorem After.trans {C : Cx} {L L' L'' : Nat → Loc} {h h' h'' : Hp} {w w' w'' : World} (a : After C L h w L' h' w') (b : After C L' h' w' L'' h'' w'') : After C L h w L'' h'' w'' :=
  ⟨b.1, a.2.1.trans b.2.1, a.2.2.trans b.2.2⟩
theorem After.refl {C : Cx} {L : Nat → Loc} {h : Hp} {w : World} (hm : MemL C L h w) : After C L h w L h w := ⟨hm, Pres.refl _ _, KC.refl _ _⟩

/-! ### nil slices -/
theorem isNilS_eq {v : Value} (h : isNilS v = true) : v = .slice none 0 0 := by
  unfold isNilS at h; split at h <;> simp_all
theorem rep_norm1 {w : World} {M : Nat → Nat → Prop} {p : PV} {u : Value} (h : Rep w M p u) : Rep w M (norm1 p) u := by
  unfold norm1
  split
  · split
    · rename_i v hv; cases h; rw [isNilS_eq hv]; exact .sl0 none 0
    · exact h
  · exact h
theorem repL_norm1 {w : World} {M : Nat → Nat → Prop} {ps : List PV} {us : List Value} (h : RepL w M ps us) : RepL w M (ps.map norm1) us := by
  refine ⟨by simpa using h.1, fun i p u hp hu => ?_⟩
  simp only [List.getElem?_map, Option.map_eq_some_iff] at hp
  obtain ⟨q, hq, rfl⟩ := hp
  exact rep_norm1 (h.2 i q u hq hu)
theorem rep_norm {w : World} {M : Nat → Nat → Prop} {p : PV} {u : Value} (h : Rep w M p u) : Rep w M (norm p) u := by
  unfold norm
  split
  · rename_i v
    split
    · rename_i hv; cases h; rw [isNilS_eq hv]; exact .sl0 none 0
    · split
      · rename_i hv
        unfold hasNil at hv
        split at hv
        · rename_i cs
          have hc := h.cells
          cases h
          have := rep_mkAgg (repL_norm1 hc)
          simpa [Value.cells] using this
        · cases hv
      · exact h
  · rename_i cs
    cases h with
    | agg _ vs hl hh => exact rep_mkAgg (repL_norm1 ⟨hl, hh⟩)
  · exact h

/-! ### freezing -/
/-- 'h1' is 'h' with less known and less frozen. -/
def Froz (h1 h : Hp) : Prop := ∀ k b, h1 k = some b → ∃ b', h k = some b' ∧ (match b, b' with
  | .box cs own fz, .box cs' own' fz' => cs' = cs ∧ own' = own ∧ (fz = true → fz' = true)
  | .row e sz xs fz, .row e' sz' xs' fz' => e' = e ∧ sz' = sz ∧ xs' = xs ∧ fz ≤ fz'
  | _, _ => False)
theorem Froz.row {h1 h : Hp} (hf : Froz h1 h) {k e sz fz : Nat} {xs : List PV} (hk : h1 k = some (.row e sz xs fz)) : ∃ fz', h k = some (.row e sz xs fz') ∧ fz ≤ fz' := by
  obtain ⟨b', h2, h3⟩ := hf k _ hk
  cases b' with
  | box => exact h3.elim
  | row e' sz' xs' fz' => obtain ⟨rfl, rfl, rfl, h4⟩ := h3; exact ⟨fz', h2, h4⟩
theorem Froz.box {h1 h : Hp} (hf : Froz h1 h) {k : Nat} {cs : List AV} {own fz : Bool} (hk : h1 k = some (.box cs own fz)) : ∃ fz', h k = some (.box cs own fz') ∧ (fz = true → fz' = true) := by
  obtain ⟨b', h2, h3⟩ := hf k _ hk
  cases b' with
  | row => exact h3.elim
  | box cs' own' fz' => obtain ⟨rfl, rfl, h4⟩ := h3; exact ⟨fz', h2, h4⟩
theorem Froz.refl (h : Hp) : Froz h h := fun k b hk => ⟨b, hk, by cases b <;> simp⟩
theorem Froz.of_sub {h1 h : Hp} (hs : ∀ k b, h1 k = some b → h k = some b) : Froz h1 h := fun k b hk => ⟨b, hs k b hk, by cases b <;> simp⟩

theorem Froz.set_row {h1 h : Hp} (hf : Froz h1 h) {k e sz fz : Nat} {xs : List PV} (hk : h1 k = some (.row e sz xs fz)) (hfz : fz ≤ xs.length) : Froz h1 (upd h k (some (.row e sz xs xs.length))) := by
  intro q b hq
  by_cases e : q = k
  · subst e; rw [hk] at hq; injection hq with hq; subst hq
    exact ⟨_, upd_same _ _ _, rfl, rfl, rfl, hfz⟩
  · obtain ⟨b', h2, h3⟩ := hf q b hq
    exact ⟨b', by rw [upd_ne e]; exact h2, h3⟩
theorem Froz.set_box {h1 h : Hp} (hf : Froz h1 h) {k : Nat} {cs : List AV} {own fz : Bool} (hk : h1 k = some (.box cs own fz)) : Froz h1 (upd h k (some (.box cs own true))) := by
  intro q b hq
  by_cases e : q = k
  · subst e; rw [hk] at hq; injection hq with hq; subst hq
    exact ⟨_, upd_same _ _ _, rfl, rfl, fun _ => rfl⟩
  · obtain ⟨b', h2, h3⟩ := hf q b hq
    exact ⟨b', by rw [upd_ne e]; exact h2, h3⟩

theorem rowLive {C : Cx} {L : Nat → Loc} {h : Hp} {w : World} (hm : MemL C L h w) {k e sz fz : Nat} {xs : List PV} (hk : h k = some (.row e sz xs fz)) : (L k).isNil = true ∧ xs = [] ∨ (L k).isNil = false ∧ xs.length ≤ (L k).cap ∧ (L k).cap ≤ maxLen ∧ ∃ arr, w.heap[(L k).b]? = some (.cells arr e (0, 0)) ∧ arr.size = (L k).cap * sz ∧
        ∀ (i : Nat) x (j : Nat) p, xs[i]? = some x → x.cells[j]? = some p → ∃ u, arr[i * sz + j]? = some u ∧ Rep w (Mst C L h) p u := by
  obtain ⟨_, _, _, h4, h5⟩ := hm.bl k _ hk
  cases hn : (L k).isNil with
  | true => exact .inl ⟨rfl, h4 hn⟩
  | false => obtain ⟨a1, a2, arr, a3, a4, a5⟩ := h5 hn; exact .inr ⟨rfl, a1, a2, arr, a3, a4, a5⟩

/-- An array is frozen; it is then what it holds. -/
theorem freeze_row {C : Cx} {L : Nat → Loc} {h : Hp} {w : World} (hm : MemL C L h w) {k e sz fz : Nat} {xs : List PV} (hk : h k = some (.row e sz xs fz)) :
    After C L h w L (upd h k (some (.row e sz xs xs.length))) w ∧ Rep w (Mst C L (upd h k (some (.row e sz xs xs.length)))) (.sl xs) ((L k).slice xs.length) := by
  have hb := hm.bl k _ hk
  obtain ⟨h1, h2, h3, h4, h5⟩ := hb
  have hsub : ∀ b o, Mst C L (upd h k (some (.row e sz xs xs.length))) b o → Mst C L h b o := by
    rintro b o (h0 | ⟨q, b', hq, hl, hb', hf⟩)
    · exact .inl h0
    · by_cases eq : q = k
      · subst eq
        rw [upd_same] at hq; injection hq with hq; subst hq
        refine .inr ⟨q, _, hk, hl, hb', fun hff => hf ?_⟩
        simp only [Blk.frz] at hff ⊢
        exact Nat.lt_of_lt_of_le hff (Nat.mul_le_mul_right _ h2)
      · rw [upd_ne eq] at hq; exact .inr ⟨q, b', hq, hl, hb', hf⟩
  have hpres : Pres w (Mst C L h) w (Mst C L (upd h k (some (.row e sz xs xs.length)))) := Pres.sub hsub
  have hkc : KC L h L (upd h k (some (.row e sz xs xs.length))) := by
    intro q b hq
    by_cases e' : q = k
    · subst e'; rw [hk] at hq; injection hq with hq; subst hq; exact ⟨_, upd_same _ _ _, rfl, rfl, Nat.le_refl _, fun _ => rfl⟩
    · exact ⟨b, by rw [upd_ne e']; exact hq, compat_refl _ _⟩
  refine ⟨hm.touch hk (fun _ _ _ => rfl) (Nat.le_refl _) rfl rfl rfl (fun _ _ _ _ h => h) (fun o hf => ?_) ⟨rfl, rfl, Nat.le_refl _, fun _ => rfl⟩ Iff.rfl (by have h9 := hm.own k _ hk; exact h9) ?_, ?_⟩
  · simp only [Blk.frz] at hf ⊢; exact Nat.lt_of_lt_of_le hf (Nat.mul_le_mul_right _ h2)
  · refine ⟨h1, Nat.le_refl _, h3, h4, fun hn => ?_⟩
    obtain ⟨a1, a2, arr, a3, a4, a5⟩ := h5 hn
    refine ⟨a1, a2, arr, a3, a4, fun i x j p hx hj => ?_⟩
    obtain ⟨u, hu, hr⟩ := a5 i x j p hx hj
    exact ⟨u, hu, hr.mono hpres⟩
  · unfold Loc.slice
    cases hn : (L k).isNil with
    | true => rw [h4 hn]; exact .sl0 none 0
    | false =>
      obtain ⟨a1, a2, arr, a3, a4, a5⟩ := h5 hn
      simp only [Bool.false_eq_true, if_false]
      have hcell : ∀ (i : Nat) x (j : Nat) p, xs[i]? = some x → x.cells[j]? = some p → ∃ u, arr[i * sz + j]? = some u ∧ Rep w (Mst C L (upd h k (some (.row e sz xs xs.length)))) p u := by
        intro i x j p hx hj
        obtain ⟨u, hu, hr⟩ := a5 i x j p hx hj
        exact ⟨u, hu, hr.mono hpres⟩
      refine .sl xs (L k).b 0 (L k).cap sz (fun i j => (arr[i * sz + j]?).getD undef) a1 (fun i x hx => h3 x (List.mem_of_getElem? hx)) ?_ ?_
      · intro i x j p hx hj
        obtain ⟨u, hu, hr⟩ := hcell i x j p hx hj
        refine ⟨by rw [cell_heap a3]; simp [hu], ?_⟩
        rintro (h0 | ⟨q, b', hq, hl, hb', hf⟩)
        · have := hm.m0 _ _ h0
          have := hm.own k _ hk hn
          omega
        · by_cases eq : q = k
          · subst eq
            rw [upd_same] at hq; injection hq with hq; subst hq
            apply hf
            simp only [Blk.frz]
            have hi : i < xs.length := (List.getElem?_eq_some_iff.1 hx).1
            have hj' : j < sz := by rw [← h3 x (List.mem_of_getElem? hx)]; exact (List.getElem?_eq_some_iff.1 hj).1
            have : (i + 1) * sz ≤ xs.length * sz := Nat.mul_le_mul_right _ hi
            rw [Nat.add_mul] at this
            omega
          · rw [upd_ne eq] at hq
            exact hm.sep q k b' _ eq hq hk hl hn hb'
      · intro i x j p hx hj
        obtain ⟨u, hu, hr⟩ := hcell i x j p hx hj
        simp only [hu, Option.getD_some]; exact hr

/-- A variable of the frame's own is frozen. -/
theorem freeze_box {C : Cx} {L : Nat → Loc} {h : Hp} {w : World} (hm : MemL C L h w) {k : Nat} {cs : List AV} {fz : Bool} {x : PV} (hk : h k = some (.box cs true fz)) (hx : x.cells.map .pv = cs) :
    After C L h w L (upd h k (some (.box cs true true))) w ∧ Rep w (Mst C L (upd h k (some (.box cs true true)))) (.rptr x 0) (.pointer (some ⟨(L k).b, 0, none⟩)) := by
  obtain ⟨arr, ty, e1, e2⟩ := hm.bl k _ hk
  have hsub : ∀ b o, Mst C L (upd h k (some (.box cs true true))) b o → Mst C L h b o := by
    rintro b o (h0 | ⟨q, b', hq, hl, hb', hf⟩)
    · exact .inl h0
    · by_cases eq : q = k
      · subst eq
        rw [upd_same] at hq; injection hq with hq; subst hq
        exact absurd rfl hf
      · rw [upd_ne eq] at hq; exact .inr ⟨q, b', hq, hl, hb', hf⟩
  have hpres : Pres w (Mst C L h) w (Mst C L (upd h k (some (.box cs true true)))) := Pres.sub hsub
  have hkc : KC L h L (upd h k (some (.box cs true true))) := by
    intro q b hq
    by_cases e' : q = k
    · subst e'; rw [hk] at hq; injection hq with hq; subst hq; exact ⟨_, upd_same _ _ _, rfl⟩
    · exact ⟨b, by rw [upd_ne e']; exact hq, compat_refl _ _⟩
  have hr : RepAL w (Mst C L (upd h k (some (.box cs true true)))) L (upd h k (some (.box cs true true))) cs arr.toList := ⟨e2.1, fun i p u hp hu => (e2.2 i p u hp hu).mono hpres hkc⟩
  refine ⟨hm.touch hk (fun _ _ _ => rfl) (Nat.le_refl _) rfl rfl rfl (fun _ _ _ _ h => h) (fun _ _ => rfl) rfl Iff.rfl (by have h9 := hm.own k _ hk; exact h9) ⟨arr, ty, e1, hr⟩, ?_⟩
  have hr' : RepL w (Mst C L (upd h k (some (.box cs true true)))) x.cells arr.toList := by rw [← hx] at hr; exact RepAL.map_pv_inv (by rw [hx] at hr ⊢; exact hr)
  have key : ∀ (j : Nat) p, x.cells[j]? = some p → ∃ u, arr[j]? = some u ∧ Rep w (Mst C L (upd h k (some (.box cs true true)))) p u := by
    intro j p hj
    have hlt : j < arr.toList.length := by rw [← hr'.1]; exact (List.getElem?_eq_some_iff.1 hj).1
    have hu : arr.toList[j]? = some (arr.toList[j]) := List.getElem?_eq_getElem hlt
    exact ⟨_, by rw [← Array.getElem?_toList]; exact hu, hr'.2 j p _ hj hu⟩
  refine .rptr x (L k).b 0 0 (fun j => (arr[j]?).getD undef) ?_ ?_
  · intro j p hj
    obtain ⟨u, hu, _⟩ := key j p hj
    refine ⟨by rw [cell_heap e1]; simp [hu], ?_⟩
    rintro (h0 | ⟨q, b', hq, hl, hb', hf⟩)
    · have := hm.m0 _ _ h0
      have h9 := hm.own k _ hk
      simp only [OwnOk] at h9
      omega
    · by_cases eq : q = k
      · subst eq
        rw [upd_same] at hq; injection hq with hq; subst hq
        exact hf rfl
      · rw [upd_ne eq] at hq
        exact hm.sep q k b' _ eq hq hk hl trivial hb'
  · intro j p hj
    obtain ⟨u, hu, hr⟩ := key j p hj
    simp only [hu, Option.getD_some]; exact hr

end Go.Ab
