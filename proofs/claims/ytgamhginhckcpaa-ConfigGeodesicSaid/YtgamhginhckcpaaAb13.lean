/- A call is what the callee's contract says. -/
import Derived.Test.YtgamhginhckcpaaAb12
set_option linter.all false
namespace Go.Ab
section
variable {C : Cx} {L : Nat → Loc} {h1 h : Hp} {w : World}

theorem writes_other : ∀ {W : List (Nat × Blk)} {h : Hp} {k : Nat}, (∀ kb ∈ W, kb.1 ≠ k) → writes h W k = h k
  | [], h, k, _ => rfl
  | (q, b) :: W, h, k, hne => by
    show writes (upd h q (some b)) W k = h k
    rw [writes_other (fun kb hkb => hne kb (by simp [hkb])), upd_ne (fun e => hne (q, b) (by simp) e.symm)]

/-- The world behind a call: only the handed variables have changed. -/
theorem MemL.callStep (hm : MemL C L h w) {w' : World} {ks : List Nat} {hout : List (List PV)} {h' : Hp} (hx : Ext (· ∈ ks.map fun k => (L k).b) w w') (hlen : hout.length = ks.length)
    (ha : ∀ k, k ∉ ks → h' k = h k)
    (hb : ∀ (i : Nat) k ps, ks[i]? = some k → hout[i]? = some ps → ∃ cs own, h k = some (.box cs own false) ∧ h' k = some (.box (ps.map .pv) own false) ∧ BoxRel w' (Mst C L h) (L k).b ps) : After C L h w L h' w' := by
  have hin : ∀ k, k ∈ ks → ∃ ps cs own, h k = some (.box cs own false) ∧ h' k = some (.box (ps.map .pv) own false) ∧ BoxRel w' (Mst C L h) (L k).b ps := by
    intro k hk
    obtain ⟨i, hi⟩ := List.mem_iff_getElem?.1 hk
    have hlt : i < hout.length := by rw [hlen]; exact (List.getElem?_eq_some_iff.1 hi).1
    obtain ⟨cs, own, a, b, c⟩ := hb i k hout[i] hi (List.getElem?_eq_getElem hlt)
    exact ⟨_, cs, own, a, b, c⟩
  have hMM : ∀ b o, Mst C L h' b o → Mst C L h b o := by
    rintro b o (h0 | ⟨q, blk, hq, hl, hqb, hf⟩)
    · exact .inl h0
    · by_cases e : q ∈ ks
      · obtain ⟨ps, cs, own, a, _, _⟩ := hin q e
        exact .inr ⟨q, _, a, trivial, hqb, by simp [Blk.frz]⟩
      · rw [ha q e] at hq; exact .inr ⟨q, blk, hq, hl, hqb, hf⟩
  have hMM' : ∀ b o, Mst C L h b o → Mst C L h' b o := by
    rintro b o (h0 | ⟨q, blk, hq, hl, hqb, hf⟩)
    · exact .inl h0
    · by_cases e : q ∈ ks
      · obtain ⟨ps, cs, own, a, b', _⟩ := hin q e
        exact .inr ⟨q, _, b', trivial, hqb, by simp [Blk.frz]⟩
      · exact .inr ⟨q, blk, by rw [ha q e]; exact hq, hl, hqb, hf⟩
  have hkc : KC L h L h' := by
    intro q blk hq
    by_cases e : q ∈ ks
    · obtain ⟨ps, cs, own, a, b', _⟩ := hin q e
      rw [a] at hq; injection hq with hq; subst hq
      exact ⟨_, b', rfl⟩
    · exact ⟨blk, by rw [ha q e]; exact hq, compat_refl _ _⟩
  have hnotin : ∀ b o, ¬ Mst C L h b o → b ∉ ks.map fun k => (L k).b := by
    intro b o hn hmem
    obtain ⟨q, hq, rfl⟩ := List.mem_map.1 hmem
    obtain ⟨ps, cs, own, a, _, _⟩ := hin q hq
    exact hn (.inr ⟨q, _, a, trivial, rfl, by simp [Blk.frz]⟩)
  have hpres : Pres w (Mst C L h) w' (Mst C L h') := by
    intro b o v hc hn
    exact ⟨(hx.cell (cell_lt hc) (hnotin b o hn)).trans hc, fun h => hn (hMM b o h)⟩
  refine ⟨⟨?_, hm.m0, ?_, ?_, ?_⟩, hpres, hkc⟩
  · refine hm.ext.trans hx (fun b hb0 hmem => ?_)
    obtain ⟨q, hq, rfl⟩ := List.mem_map.1 hmem
    obtain ⟨ps, cs, own, a, _, _⟩ := hin q hq
    have := hm.own q _ a
    cases own with
    | false => exact this.2.2.1
    | true => simp only [OwnOk] at this; omega
  · intro q blk hq
    by_cases e : q ∈ ks
    · obtain ⟨ps, cs, own, a, b', arr, ty, e1, e2⟩ := hin q e
      rw [b'] at hq; injection hq with hq; subst hq
      exact ⟨arr, ty, e1, (RepAL.map_pv (e2.mono (Pres.sub hMM)))⟩
    · rw [ha q e] at hq
      refine (hm.bl q blk hq).mono hpres hkc (fun hl => hx.block _ ((hm.bl q blk hq).lt hl) (fun hmem => ?_))
      obtain ⟨q', hq', he⟩ := List.mem_map.1 hmem
      obtain ⟨ps, cs, own, a, _, _⟩ := hin q' hq'
      exact hm.sep q q' _ _ (fun e' => e (e' ▸ hq')) hq a hl trivial he.symm
  · intro q q' b1 b2 hne hq hq' hl hl'
    have aux : ∀ q b, h' q = some b → b.live (L q) → ∃ b0, h q = some b0 ∧ b0.live (L q) := by
      intro q b hq hl
      by_cases e : q ∈ ks
      · obtain ⟨ps, cs, own, a, _, _⟩ := hin q e; exact ⟨_, a, trivial⟩
      · rw [ha q e] at hq; exact ⟨b, hq, hl⟩
    obtain ⟨c1, d1, f1⟩ := aux q b1 hq hl
    obtain ⟨c2, d2, f2⟩ := aux q' b2 hq' hl'
    exact hm.sep q q' c1 c2 hne d1 d2 f1 f2
  · intro q blk hq
    by_cases e : q ∈ ks
    · obtain ⟨ps, cs, own, a, b', _⟩ := hin q e
      rw [b'] at hq; injection hq with hq; subst hq
      have := hm.own q _ a
      cases own <;> exact this
    · rw [ha q e] at hq; exact hm.own q blk hq

theorem frz1_keys {x : AV} {p : PV} {W : List (Nat × Blk)} (e : frz1 h1 x = some (p, W)) : ∀ kb ∈ W, (h1 kb.1).isSome = true := by
  unfold frz1 at e
  split at e
  · injection e with e; injection e with _ e; subst e; simp
  · split at e
    · rename_i hk
      split at e
      · injection e with e; injection e with _ e; subst e; simp [hk]
      · cases e
    · cases e
  · cases e
theorem frzL_keys : ∀ {xs : List AV} {p : List PV} {W : List (Nat × Blk)}, frzL h1 xs = some (p, W) → ∀ kb ∈ W, (h1 kb.1).isSome = true
  | [], p, W, e => by simp only [frzL, Option.some.injEq, Prod.mk.injEq] at e; obtain ⟨_, rfl⟩ := e; simp
  | x :: r, p, W, e => by
    simp only [frzL] at e
    split at e
    · rename_i e1 e2
      injection e with e; injection e with _ e; subst e
      intro kb hkb
      rcases List.mem_append.1 hkb with h' | h'
      · exact frz1_keys e1 kb h'
      · exact frzL_keys e2 kb h'
    · cases e
theorem frzCap_keys {x : AV} {p : PV} {W : List (Nat × Blk)} (e : frzCap h1 x = some (p, W)) : ∀ kb ∈ W, (h1 kb.1).isSome = true := by
  unfold frzCap at e
  split at e
  · injection e with e; injection e with _ e; subst e; simp
  · split at e
    · rename_i hk
      split at e
      · split at e
        · injection e with e; injection e with _ e; subst e; simp [hk]
        · injection e with e; injection e with _ e; subst e; simp [hk]
      · cases e
    · cases e
  · cases e
theorem frzCaps_keys : ∀ {xs : List AV} {p : List PV} {W : List (Nat × Blk)}, frzCaps h1 xs = some (p, W) → ∀ kb ∈ W, (h1 kb.1).isSome = true
  | [], p, W, e => by simp only [frzCaps, Option.some.injEq, Prod.mk.injEq] at e; obtain ⟨_, rfl⟩ := e; simp
  | x :: r, p, W, e => by
    simp only [frzCaps] at e
    split at e
    · rename_i e1 e2
      injection e with e; injection e with _ e; subst e
      intro kb hkb
      rcases List.mem_append.1 hkb with h' | h'
      · exact frzCap_keys e1 kb h'
      · exact frzCaps_keys e2 kb h'
    · cases e
theorem frz_keys {x : AV} {p : PV} {W : List (Nat × Blk)} (e : frz h1 x = some (p, W)) : ∀ kb ∈ W, (h1 kb.1).isSome = true := by
  unfold frz at e
  split at e
  · split at e
    · rename_i e1; injection e with e; injection e with _ e; subst e; exact frzL_keys e1
    · cases e
  · split at e
    · rename_i e1 e2
      injection e with e; injection e with _ e; subst e
      intro kb hkb
      rcases List.mem_append.1 hkb with h' | h'
      · exact frzL_keys e1 kb h'
      · exact frzCaps_keys e2 kb h'
    · cases e
  · split at e
    · rename_i e1; injection e with e; injection e with _ e; subst e; exact frzL_keys e1
    · cases e
  · exact frz1_keys e

theorem toArgs_sound : ∀ {xs : List AV} {ks0 : List Nat} {h : Hp} (_ : MemL C L h w) (_ : Froz h1 h) {us : List Value} (_ : RepAL w (Mst C L h) L h xs us) {as : List Arg} {ks : List Nat} {W : List (Nat × Blk)},
    toArgs h1 xs ks0 = some (as, ks, W) → After C L h w L (writes h W) w ∧ Froz h1 (writes h W) ∧ (∃ ks1, ks = ks0 ++ ks1) ∧ (ks0.Nodup → ks.Nodup) ∧ as.length = us.length ∧
      (∀ kb ∈ W, (h1 kb.1).isSome = true) ∧ ∀ (i : Nat) a v, as[i]? = some a → us[i]? = some v → ArgRel w (Mst C L (writes h W)) (ks.map fun k => (L k).b) a v
  | [], ks0, h, hm, hf, us, hr, as, ks, W, e => by
    simp only [toArgs, Option.some.injEq, Prod.mk.injEq] at e
    obtain ⟨rfl, rfl, rfl⟩ := e
    rw [hr.nil_inv]
    exact ⟨After.refl hm, hf, ⟨[], by simp⟩, id, rfl, by simp, fun i a v h => by simp at h⟩
  | x :: r, ks0, h, hm, hf, us, hr, as, ks, W, e => by
    obtain ⟨u, us', rfl, hu, hr'⟩ := hr.cons_inv
    unfold toArgs at e
    split at e
    · rename_i k off
      split at e
      · rename_i hc
        obtain ⟨rfl, hck⟩ := hc
        split at e
        · rename_i as' ks' W' e1
          injection e with e; injection e with ea eb; injection eb with eb ec; subst ea; subst eb; subst ec
          obtain ⟨a1, a2, ⟨ks1, a3⟩, a4, a5, a6, a7⟩ := toArgs_sound hm hf hr' e1
          refine ⟨a1, a2, ⟨k :: ks1, by rw [a3]; simp⟩, fun hnd => a4 ?_, by simp [a5], a6, fun i a v ha hv => ?_⟩
          · rw [List.nodup_append]
            refine ⟨hnd, by simp, ?_⟩
            intro q hq q' hq' heq
            simp at hq'
            subst hq'; subst heq
            have hq2 : ks0.contains q = true := List.contains_iff_mem.2 hq
            rw [hck] at hq2; cases hq2
          · cases i with
            | zero =>
              simp at ha hv
              subst ha; subst hv
              refine ⟨(L k).b, by rw [a3]; simp, ?_⟩
              cases hu with
              | ptr _ => rfl
            | succ i => exact a7 i a v (by simpa using ha) (by simpa using hv)
        · cases e
      · cases e
    · rename_i x' hnp
      split at e
      · rename_i p W1 as' ks' W2 e1 e2
        injection e with e; injection e with ea eb; injection eb with eb ec; subst ea; subst eb; subst ec
        obtain ⟨b1, b2, b3⟩ := frz_sound hm hf hu e1
        obtain ⟨a1, a2, a3, a4, a5, a6, a7⟩ := toArgs_sound b1.1 b3 (hr'.mono b1.2.1 b1.2.2) e2
        rw [writes_append]
        refine ⟨b1.trans a1, a2, a3, a4, by simp [a5], ?_, fun i a v ha hv => ?_⟩
        · intro kb hkb
          rcases List.mem_append.1 hkb with h' | h'
          · exact frz_keys e1 kb h'
          · exact a6 kb h'
        · cases i with
          | zero => simp at ha hv; subst ha; subst hv; exact b2.mono a1.2.1
          | succ i => exact a7 i a v (by simpa using ha) (by simpa using hv)
      · cases e

theorem hins_some : ∀ {ks : List Nat} {hin : List (List PV)}, hins h1 ks = some hin → hin.length = ks.length ∧ ∀ (i : Nat) k ps, ks[i]? = some k → hin[i]? = some ps → ∃ own, h1 k = some (.box (ps.map .pv) own false)
  | [], hin, e => by simp only [hins, Option.some.injEq] at e; subst e; exact ⟨rfl, fun i k ps h => by simp at h⟩
  | k :: ks, hin, e => by
    simp only [hins] at e
    split at e
    · rename_i cs own hs hk e1
      split at e
      · rename_i ps hp
        injection e with e; subst e
        obtain ⟨a, b⟩ := hins_some e1
        refine ⟨by simp [a], fun i q qs hq hqs => ?_⟩
        cases i with
        | zero => simp at hq hqs; subst hq; subst hqs; exact ⟨own, by rw [← pvs?_some hp]; exact hk⟩
        | succ i => exact b i q qs (by simpa using hq) (by simpa using hqs)
      · cases e
    · cases e

theorem houts_spec : ∀ {ks : List Nat} {hout : List (List PV)} {h : Hp}, ks.Nodup → hout.length = ks.length → (∀ k ∈ ks, ∃ cs own fz, h1 k = some (.box cs own fz)) →
    (∀ k, k ∉ ks → writes h (houts h1 ks hout) k = h k) ∧ (∀ kb ∈ houts h1 ks hout, kb.1 ∈ ks) ∧
    (∀ (i : Nat) k ps, ks[i]? = some k → hout[i]? = some ps → ∀ cs own fz, h1 k = some (.box cs own fz) → writes h (houts h1 ks hout) k = some (.box (ps.map .pv) own false))
  | [], hout, h, _, _, _ => by
    refine ⟨fun k _ => ?_, ?_, fun i k ps h => by simp at h⟩
    · cases hout <;> rfl
    · cases hout <;> simp [houts]
  | k :: ks, hout, h, hnd, hl, hk => by
    cases hout with
    | nil => simp at hl
    | cons ps hs =>
      obtain ⟨cs, own, fz, hkk⟩ := hk k (by simp)
      have hnk : k ∉ ks := (List.nodup_cons.1 hnd).1
      have ih := fun (h : Hp) => houts_spec (hout := hs) (h := h) (List.nodup_cons.1 hnd).2 (by simpa using hl) (fun q hq => hk q (by simp [hq]))
      have hun : houts h1 (k :: ks) (ps :: hs) = (k, .box (ps.map .pv) own false) :: houts h1 ks hs := by simp [houts, hkk]
      rw [hun]
      have hw : ∀ q, writes h ((k, .box (ps.map .pv) own false) :: houts h1 ks hs) q = writes (upd h k (some (.box (ps.map .pv) own false))) (houts h1 ks hs) q := fun q => rfl
      refine ⟨fun q hq => ?_, ?_, fun i q qs hq hqs cs' own' fz' hq' => ?_⟩
      · simp at hq
        rw [hw, (ih _).1 q hq.2, upd_ne hq.1]
      · intro kb hkb
        rcases List.mem_cons.1 hkb with rfl | h'
        · simp
        · have := (ih h).2.1 kb h'; simp [this]
      · rw [hw]
        cases i with
        | zero =>
          simp at hq hqs; subst hq; subst hqs
          rw [(ih _).1 k hnk, upd_same]
          rw [hkk] at hq'; injection hq' with hq'; injection hq' with _ h2 _; rw [h2]
        | succ i => exact (ih _).2.2 i q qs (by simpa using hq) (by simpa using hqs) cs' own' fz' hq'
end
end Go.Ab
