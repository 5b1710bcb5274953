/- Operations, regions and code over abstract states. -/
import Derived.Test.YtgamhginhckcpaaAb13
set_option linter.all false
namespace Go.Ab
section
variable {C : Cx} {L : Nat → Loc} {h1 h : Hp} {w : World}

theorem calleeOf_sound {M : Nat → Nat → Prop} {c : AV} {u : Value} (hc : RepA w M L h c u) {g : FuncId} {first caps : List AV} (e : calleeOf c = some (g, first, caps)) :
    ∃ vs us : List Value, u = .func (.func g) vs.toArray us.toArray ∧ RepAL w M L h first vs ∧ RepAL w M L h caps us := by
  unfold calleeOf at e
  split at e
  · rename_i f fs cs
    simp only [Option.some.injEq, Prod.mk.injEq] at e
    obtain ⟨rfl, rfl, rfl⟩ := e
    cases hc with
    | pv hr =>
      rw [rep_val_inv hr]
      refine ⟨fs.toList, cs.toList, by simp, ?_, ?_⟩
      all_goals
        refine ⟨by simp, fun q p u hp hu => ?_⟩
        simp only [List.getElem?_map, Option.map_eq_some_iff] at hp
        obtain ⟨y, hy, rfl⟩ := hp
        rw [hy] at hu; injection hu with hu; subst hu
        exact .pv (.val _)
  · simp only [Option.some.injEq, Prod.mk.injEq] at e
    obtain ⟨rfl, rfl, rfl⟩ := e
    cases hc with
    | pv hr => cases hr with
      | fn _ _ _ vs us hl hk h1 h2 => exact ⟨vs, us, rfl, RepAL.map_pv ⟨hl, h1⟩, RepAL.map_pv ⟨hk, h2⟩⟩
  · simp only [Option.some.injEq, Prod.mk.injEq] at e
    obtain ⟨rfl, rfl, rfl⟩ := e
    cases hc with
    | fn _ _ _ vs us hl hk h1 h2 => exact ⟨vs, us, rfl, ⟨hl, h1⟩, ⟨hk, h2⟩⟩
  · cases e

theorem evCall_sound (hm : MemL C L h w) (hs : ∀ k b, h1 k = some b → h k = some b) {d : Option Nat} (hfresh : ∀ q, d = some q → h1 q = h q) {c : AV} {u : Value} (hc : RepA w (Mst C L h) L h c u) {args : List AV} {us : List Value} (ha : RepAL w (Mst C L h) L h args us)
    {K : Eff → Prop} (e : evCall C.P c args d h1 K) : ∃ g vs cs, u = .func (.func g) vs cs ∧ callable C.P g = true ∧ ∃ eff : Eff, K eff ∧
      Calls C.P g (vs.toList ++ us ++ cs.toList).toArray w fun e w' => ∃ r L', e = .returned r ∧ After C L h w L' (writes h eff.2) w' ∧ RepA w' (Mst C L' (writes h eff.2)) L' (writes h eff.2) eff.1 r := by
  unfold evCall at e
  split at e
  · exact e.elim
  · rename_i g first caps hce
    obtain ⟨vs, cs, rfl, hf, hcp⟩ := calleeOf_sound hc hce
    split at e
    · exact e.elim
    · rename_i as ks W0 hta
      split at e
      · exact e.elim
      · rename_i hdis
        split at e
        · exact e.elim
        · rename_i hin hhi
          obtain ⟨hout, res, hdet, he⟩ := e
          have hall : RepAL w (Mst C L h) L h (first ++ args ++ caps) (vs ++ us ++ cs) := (hf.append ha).append hcp
          obtain ⟨a1, a2, ⟨ks1, a3⟩, a4, a5, a6, a7⟩ := toArgs_sound hm (Froz.of_sub hs) hall hta
          have hnd : ks.Nodup := a4 (by simp)
          obtain ⟨b1, b2⟩ := hins_some hhi
          have hkbox : ∀ k ∈ ks, ∃ (ps : List PV) (own : Bool), h1 k = some (.box (ps.map .pv) own false) ∧ writes h W0 k = some (.box (ps.map .pv) own false) := by
            intro k hk
            obtain ⟨i, hi⟩ := List.mem_iff_getElem?.1 hk
            have hlt : i < hin.length := by rw [b1]; exact (List.getElem?_eq_some_iff.1 hi).1
            obtain ⟨own, hown⟩ := b2 i k hin[i] hi (List.getElem?_eq_getElem hlt)
            refine ⟨_, own, hown, ?_⟩
            rw [writes_other, hs _ _ hown]
            intro kb hkb he
            apply hdis
            rw [List.any_eq_true]
            exact ⟨kb, hkb, List.contains_iff_mem.2 (he ▸ hk)⟩
          obtain ⟨hcall, hlen, hD⟩ := hdet
          have hnb : (ks.map fun k => (L k).b).Nodup := by
            rw [List.nodup_iff_pairwise_ne] at hnd ⊢
            rw [List.pairwise_map]
            refine List.Pairwise.imp_of_mem ?_ hnd
            intro x y hx hy hxy
            obtain ⟨_, _, _, hx'⟩ := hkbox x hx
            obtain ⟨_, _, _, hy'⟩ := hkbox y hy
            exact a1.1.sep x y _ _ hxy hx' hy' trivial trivial
          have hcalls := hD w (Mst C L (writes h W0)) (ks.map fun k => (L k).b) (vs ++ us ++ cs) (fun b o hM => a1.1.mlt hM) (by simp [b1]) hnb
            (fun i b ps hb hps => by
              simp only [List.getElem?_map, Option.map_eq_some_iff] at hb
              obtain ⟨k, hk, rfl⟩ := hb
              obtain ⟨own, hown⟩ := b2 i k ps hk hps
              have hw : writes h W0 k = some (.box (ps.map .pv) own false) := by
                obtain ⟨ps', own', h9, h10⟩ := hkbox k (List.mem_of_getElem? hk)
                rw [hown] at h9; injection h9 with h9; injection h9 with h11 h12; rw [h10, h11, h12]
              refine ⟨fun o => .inr ⟨k, _, hw, trivial, rfl, by simp [Blk.frz]⟩, ?_⟩
              obtain ⟨arr, ty, e1, e2⟩ := a1.1.bl k _ hw
              exact ⟨arr, ty, e1, e2.map_pv_inv⟩) a5 a7
          refine ⟨g, vs.toArray, cs.toArray, rfl, hcall, ?_⟩
          -- the state behind the call
          have hspec := houts_spec (h1 := h1) (h := writes h W0) hnd (by rw [hlen, b1]) (fun k hk => by obtain ⟨ps, own, h9, _⟩ := hkbox k hk; exact ⟨_, own, false, h9⟩)
          have hafter : ∀ w', Ext (· ∈ ks.map fun k => (L k).b) w w' → (∀ (i : Nat) b ps, (ks.map fun k => (L k).b)[i]? = some b → hout[i]? = some ps → BoxRel w' (Mst C L (writes h W0)) b ps) →
              After C L h w L (writes h (W0 ++ houts h1 ks hout)) w' := by
            intro w' hx hbox
            rw [writes_append]
            refine a1.trans (a1.1.callStep hx (by rw [hlen, b1]) hspec.1 (fun i k ps hk hps => ?_))
            obtain ⟨ps', own, h9, h10⟩ := hkbox k (List.mem_of_getElem? hk)
            exact ⟨_, own, h10, hspec.2.2 i k ps hk hps _ own false h9, hbox i _ ps (by simp [hk]) hps⟩
          unfold optThen callEff at he
          split at he
          · rename_i e0 heq
            refine ⟨e0, he, ?_⟩
            have happ : (vs.toArray.toList ++ us ++ cs.toArray.toList).toArray = (vs ++ us ++ cs).toArray := by simp
            rw [happ]
            refine hcalls.mono ?_
            rintro e1 w' ⟨v, rfl, hx, hbox, hres⟩
            have hA := hafter w' hx hbox
            have hkeys : ∀ q, h q = none → writes h W0 q = none := by
              intro q hq
              rw [writes_other, hq]
              intro kb hkb he
              have := a6 kb hkb
              rw [he] at this
              obtain ⟨b, hb⟩ := Option.isSome_iff_exists.1 this
              rw [hs _ _ hb] at hq; cases hq
            have hMsub : ∀ b o, Mst C L (writes h (W0 ++ houts h1 ks hout)) b o → Mst C L (writes h W0) b o := by
              rw [writes_append]
              rintro b o (h0 | ⟨q, blk, hq, hl, hqb, hf⟩)
              · exact .inl h0
              · by_cases hqk : q ∈ ks
                · obtain ⟨ps, own, h9, h10⟩ := hkbox q hqk
                  exact .inr ⟨q, _, h10, trivial, hqb, by simp [Blk.frz]⟩
                · rw [hspec.1 q hqk] at hq; exact .inr ⟨q, blk, hq, hl, hqb, hf⟩
            split at heq
            · rename_i p _
              injection heq with heq; subst heq
              exact ⟨v, L, rfl, hA, .pv (Rep.mono (Pres.sub hMsub) hres)⟩
            · rename_i ps q
              split at heq
              · rename_i hq
                obtain ⟨hq, rfl⟩ := hq
                injection heq with heq; subst heq
                obtain ⟨b, hb1, rfl, hb3⟩ := hres
                have hqn' := hkeys q (by rw [← hfresh q rfl]; simpa using hq)
                simp only
                rw [writes_append, writes_one]
                obtain ⟨arr, ty, e1, e2⟩ := hb3
                have hxF : Ext (fun _ => False) w w' := ⟨hx.os, hx.tape, hx.output, hx.size, fun b' hb' _ => hx.block b' hb' (by simp)⟩
                have hnk := a1.1.newKey hqn' (l := ⟨b, 0, false⟩) (blk := .box (ps.map .pv) true false) hxF (fun _ => hb1) (by intro cs' fz' e; injection e with _ e2; cases e2)
                  ⟨arr, ty, e1, RepAL.map_pv (e2.mono (Pres.sub (fun b' o' hh => hh.elim .inl (fun h9 => .inr h9.2))))⟩
                refine ⟨_, upd L q ⟨b, 0, false⟩, rfl, a1.trans hnk, ?_⟩
                have := RepA.ptr (w := w') (M := Mst C (upd L q ⟨b, 0, false⟩) (upd (writes h W0) q (some (.box (ps.map .pv) true false)))) (L := upd L q ⟨b, 0, false⟩) (h := upd (writes h W0) q (some (.box (ps.map .pv) true false))) (k := q) (off := 0) (upd_same _ _ _)
                rw [upd_same] at this
                exact this
              · cases heq
            · rename_i e9 sz xs q
              split at heq
              · rename_i hq
                obtain ⟨hq, rfl⟩ := hq
                injection heq with heq; subst heq
                obtain ⟨l, rfl, hb1, hb3⟩ := hres
                have hqn' := hkeys q (by rw [← hfresh q rfl]; simpa using hq)
                simp only
                rw [writes_append, writes_one]
                have hxF : Ext (fun _ => False) w w' := ⟨hx.os, hx.tape, hx.output, hx.size, fun b' hb' _ => hx.block b' hb' (by simp)⟩
                have hnk := new_row (e := e9) (sz := sz) (xs := xs) a1.1 hxF hqn' hb1 hb3
                exact ⟨_, _, rfl, a1.trans hnk.1, hnk.2⟩
              · cases heq
            · cases heq
          · exact he.elim
end
end Go.Ab
