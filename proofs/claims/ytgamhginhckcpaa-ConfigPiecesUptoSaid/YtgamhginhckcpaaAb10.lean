/- One operation is what the model does: literals, addresses, and what looks at no memory. -/
import Derived.Test.YtgamhginhckcpaaAb9
set_option linter.all false
namespace Go.Ab

theorem runPure_run {α : Type} {P : Program} : ∀ {s : Sem α} {a : α}, runPure P s = some a → ∀ w, s.run P w = .ok a w
  | .pure a, b, e, w => by simp only [runPure, Option.some.injEq] at e; subst e; rfl
  | .program k, b, e, w => by simp only [runPure] at e; exact runPure_run (s := k P) e w
  | .load _ _ _, _, e, _ => by simp [runPure] at e
  | .store _ _ _ _, _, e, _ => by simp [runPure] at e
  | .new _ _, _, e, _ => by simp [runPure] at e
  | .shape _ _, _, e, _ => by simp [runPure] at e
  | .freeze _ _ _, _, e, _ => by simp [runPure] at e
  | .frozen _ _, _, e, _ => by simp [runPure] at e
  | .getObj _ _, _, e, _ => by simp [runPure] at e
  | .setObj _ _ _, _, e, _ => by simp [runPure] at e
  | .choose _ _, _, e, _ => by simp [runPure] at e
  | .sys _ _, _, e, _ => by simp [runPure] at e
  | .mark _ _, _, e, _ => by simp [runPure] at e
  | .halt _, _, e, _ => by simp [runPure] at e

theorem foldl_splice (off : Nat) : ∀ (l : List Value) (s : Nat) (arr : Array Value), off + s + l.length ≤ arr.size →
    ((l.zipIdx s).foldl (fun cs (p : Value × Nat) => cs.setIfInBounds (off + p.2) p.1) arr).toList = splice arr.toList (off + s) l
  | [], s, arr, _ => by simp [splice]
  | v :: r, s, arr, h => by
    simp only [List.zipIdx_cons, List.foldl_cons]
    rw [foldl_splice off r (s + 1) _ (by simp at h ⊢; omega)]
    simp only [Array.toList_setIfInBounds, splice, List.length_cons]
    have := list_seg_step arr.toList (off + s) v r (by simp at h ⊢; omega)
    rw [← Nat.add_assoc off s 1]
    rw [show off + s + (r.length + 1) = off + s + (r.length + 1) from rfl]
    exact this

section
variable {C : Cx} {L : Nat → Loc} {h1 h : Hp} {w : World} {M : Nat → Nat → Prop}

theorem fill_sound (place : Nat → Option (Nat × Nat)) : ∀ {ps : List (Nat × List AV)} {vs : List (Nat × Value)} {cells cells' : List AV} {arr : Array Value}, RepAL w M L h cells arr.toList →
    (ps.length = vs.length ∧ ∀ (q : Nat) (i : Nat) cs (i' : Nat) (v : Value), ps[q]? = some (i, cs) → vs[q]? = some (i', v) → i' = i ∧ RepAL w M L h cs v.cells.toList) → fillA place cells ps = some cells' →
    ∃ arr', Instr.fill place arr vs = some arr' ∧ RepAL w M L h cells' arr'.toList
  | [], vs, cells, cells', arr, hr, hp, e => by
    simp only [fillA, Option.some.injEq] at e; subst e
    have : vs = [] := List.eq_nil_of_length_eq_zero (by have := hp.1; simpa using this.symm)
    subst this
    exact ⟨arr, rfl, hr⟩
  | (i, cs) :: ps, vs, cells, cells', arr, hr, hp, e => by
    cases vs with
    | nil => exact absurd hp.1 (by simp)
    | cons iv vs =>
      obtain ⟨i', v⟩ := iv
      obtain ⟨rfl, hc⟩ := hp.2 0 i cs i' v rfl rfl
      simp only [fillA] at e
      simp only [Instr.fill]
      cases hpl : place i' with
      | none => rw [hpl] at e; cases e
      | some os =>
        obtain ⟨off, size⟩ := os
        rw [hpl] at e
        simp only at e ⊢
        split at e
        · cases e
        · rename_i hcond
          have hcl : cs.length = v.cells.size := by have := hc.1; simpa using this
          have hal : cells.length = arr.size := by have := hr.1; simpa using this
          have hcond1 : cs.length = size := Classical.not_not.1 (fun h => hcond (.inl h))
          have hcond2 : ¬ off + cs.length > cells.length := fun h => hcond (.inr h)
          have hif : ¬ ((v.cells.size ≠ size || off + v.cells.size > arr.size) = true) := by simp; omega
          simp only [if_neg hif]
          have hsp : (v.cells.zipIdx.foldl (fun cs (p : Value × Nat) => cs.setIfInBounds (off + p.2) p.1) arr).toList = splice arr.toList off v.cells.toList := by
            have := foldl_splice off v.cells.toList 0 arr (by simp; omega)
            rw [← Array.foldl_toList, Array.toList_zipIdx]
            simpa using this
          refine fill_sound place (cells := splice cells off cs) ?_ ⟨by have := hp.1; simpa using this, fun q a b c d h1 h2 => hp.2 (q + 1) a b c d (by simpa using h1) (by simpa using h2)⟩ e
          have h9 := hr.splice_ hc off
          rw [← hsp] at h9
          exact h9

theorem okParts_sound (hs : ∀ k b, h1 k = some b → h k = some b) {ρ : Operand → AV} {σ : Operand → Value} : ∀ {ps : List (Nat × Operand)} {qs : List (Nat × List AV)}, (∀ x ∈ ps.map (·.2), RepA w M L h (ρ x) (σ x)) → okParts h1 ρ ps = some qs →
    qs.length = (ps.map fun (i, x) => (i, σ x)).length ∧ ∀ (q : Nat) (i : Nat) cs (i' : Nat) (v : Value), qs[q]? = some (i, cs) → (ps.map fun (i, x) => (i, σ x))[q]? = some (i', v) → i' = i ∧ RepAL w M L h cs v.cells.toList
  | [], qs, _, e => by simp only [okParts, Option.some.injEq] at e; subst e; exact ⟨rfl, fun q i cs i' v h => by simp at h⟩
  | (i, x) :: ps, qs, hr, e => by
    simp only [okParts] at e
    split at e
    · rename_i cs qs' e1 e2
      injection e with e; subst e
      obtain ⟨h2, h3⟩ := okParts_sound hs (fun y hy => hr y (by simp at hy ⊢; exact .inr hy)) e2
      refine ⟨by simpa using h2, fun q a cs' a' v hq hv => ?_⟩
      cases q with
      | zero =>
        simp at hq hv
        obtain ⟨rfl, rfl⟩ := hq
        obtain ⟨rfl, rfl⟩ := hv
        exact ⟨rfl, okCells_sound hs (hr x (by simp)) e1⟩
      | succ q => exact h3 q a cs' a' v (by simpa using hq) (by simpa using hv)
    · cases e

theorem run_places {P : Program} (w : World) : ∀ (fs : List Field), (∀ f ∈ fs, ∃ i, P.info? f.type = some i) →
    (fs.mapM (m := Sem) fun f => do pure (f.offset, ← sizeOf f.type)).run P w = .ok (fs.map fun f => (f.offset, szOf P f.type)) w
  | [], _ => by simp
  | f :: fs, hf => by
    obtain ⟨i, hi⟩ := hf f (by simp)
    simp only [List.mapM_cons, Sem.run_bind, run_szOf hi, Result.andThen_ok, Sem.run_pure, run_places w fs (fun g hg => hf g (by simp [hg]))]
    simp [szOf, hi]

theorem evBuild_sound {t : TypeId} {ti : TI} (ht : tiOf C.P t = some ti) {qs : List (Nat × List AV)} {vs : List (Nat × Value)} (hp : qs.length = vs.length ∧ ∀ (q : Nat) (i : Nat) cs (i' : Nat) (v : Value), qs[q]? = some (i, cs) → vs[q]? = some (i', v) → i' = i ∧ RepAL w M L h cs v.cells.toList)
    {v : AV} (e : evBuild ti qs = some v) : ∃ r, (Instr.build t vs.toArray).run C.P w = .ok r w ∧ RepA w M L h v r := by
  obtain ⟨i, d, hi, hd, hsz, hz, hkind⟩ := tiOf_some ht
  have hk := tiOf_known ht
  unfold evBuild at e
  split at e
  · cases e
  · rename_i z hzz
    have hiz : i.zero = some z := by rw [← hz]; exact hzz
    have hz0 : RepAL w M L h (z.cells.toList.map fun v => AV.pv (.val v)) z.cells.toList := by
      refine ⟨by simp, fun q p u hp hu => ?_⟩
      simp only [List.getElem?_map, Option.map_eq_some_iff] at hp
      obtain ⟨y, hy, rfl⟩ := hp
      rw [hy] at hu; injection hu with hu; subst hu
      exact .pv (.val _)
    have hzero : (zeroValue t).run C.P w = .ok z w := by simp [zeroValue, run_tinfo hi, hiz]
    split at e
    · rename_i fs hfs
      rw [hkind] at hfs
      split at hfs
      · rename_i fs' 
        injection hfs with hfs
        simp only [Option.map_eq_some_iff] at e
        obtain ⟨cells, e1, rfl⟩ := e
        obtain ⟨arr, h2, h3⟩ := fill_sound (arr := z.cells) _ hz0 hp e1
        refine ⟨.agg arr, ?_, ?_⟩
        · have hkn : ∀ f ∈ fs'.toList, ∃ i, C.P.info? f.type = some i := by
            unfold fieldsKnown at hk
            rw [hd] at hk
            intro f hf
            exact Option.isSome_iff_exists.1 (List.all_eq_true.1 hk f hf)
          have hpl := run_places (P := C.P) w fs'.toList hkn
          simp only [Instr.build, Sem.run_bind, hzero, Result.andThen_ok, run_under hd, Array.mapM_eq_mapM_toList, Sem.run_map, hpl]
          have hfun : (fun (x : Nat) => (List.map (fun f => (f.offset, szOf C.P f.type)) fs'.toList).toArray[x]?) = fun (i : Nat) => fs[i]? := by funext x; rw [← hfs]; simp
          simp only [hfun, h2]
          rfl
        · have := repA_mkAggA h3
          simpa using this
      · cases hfs
      · split at hfs <;> cases hfs
      · cases hfs
    · rename_i n esz hfs
      rw [hkind] at hfs
      split at hfs
      · cases hfs
      · rename_i n' e'
        injection hfs with _ hfs
        simp only [Option.map_eq_some_iff] at e
        obtain ⟨cells, e1, rfl⟩ := e
        obtain ⟨arr, h2, h3⟩ := fill_sound (arr := z.cells) _ hz0 hp e1
        refine ⟨.agg arr, ?_, ?_⟩
        · have hkn : ∃ j, C.P.info? e' = some j := by
            unfold fieldsKnown at hk
            rw [hd] at hk
            exact Option.isSome_iff_exists.1 hk
          obtain ⟨j, hj⟩ := hkn
          have hjs : j.size = esz := by rw [← hfs]; simp [szOf, hj]
          simp only [Instr.build, Sem.run_bind, hzero, Result.andThen_ok, run_under hd, run_szOf hj, hjs, h2]
          rfl
        · have := repA_mkAggA h3
          simpa using this
      · split at hfs <;> cases hfs
      · cases hfs
    · cases e

theorem current_len (hs : ∀ k b, h1 k = some b → h k = some b) {k n e sz fz : Nat} {xs : List PV} (hk : h k = some (.row e sz xs fz)) (hc : current h1 k n = true) : xs.length = n := by
  unfold current at hc
  split at hc
  · rename_i e' sz' xs' fz' hk'
    have := hs _ _ hk'
    rw [hk] at this; injection this with this; injection this with _ _ a3 _
    subst a3
    simpa using hc
  · cases hc

theorem evFieldAddr_sound {t : TypeId} {ti : TI} (ht : tiOf C.P t = some ti) {x v : AV} {u : Value} {f : Nat} (hs : ∀ k b, h1 k = some b → h k = some b) (hx : RepA w M L h x u) (e : evFieldAddr ti x f h1 = some v) :
    ∃ r, (Instr.fieldAt t u f).run C.P w = .ok r w ∧ RepA w M L h v r := by
  obtain ⟨i, d, hi, hd, hsz, hz, hkind⟩ := tiOf_some ht
  unfold evFieldAddr at e
  split at e
  · rename_i fs hfs
    rw [hkind] at hfs
    split at hfs
    · rename_i fs'
      injection hfs with hfs
      split at e
      · rename_i o s hf
        split at e
        · cases e
        · rename_i hs0
          rw [← hfs] at hf
          simp only [List.getElem?_map, Option.map_eq_some_iff, Prod.mk.injEq] at hf
          obtain ⟨fd, hfd, rfl, hss⟩ := hf
          have hinfo : ∃ j, C.P.info? fd.type = some j ∧ j.size ≠ 0 := by
            unfold szOf at hss
            cases hj : C.P.info? fd.type with
            | none => rw [hj] at hss; simp at hss; omega
            | some j => rw [hj] at hss; simp at hss; exact ⟨j, rfl, by omega⟩
          obtain ⟨j, hj, hj0⟩ := hinfo
          have hfd' : fs'[f]? = some fd := by rw [← Array.getElem?_toList]; exact hfd
          have hrun : ∀ b q, (Instr.fieldAt t (.pointer (some ⟨b, q, none⟩)) f).run C.P w = .ok (.pointer (some ⟨b, q + fd.offset, none⟩)) w := by
            intro b q
            simp only [Instr.fieldAt, Sem.run_bind, run_under hd, Result.andThen_ok, hfd', Instr.sureAddr, Sem.run_pure, fieldPlace, run_szOf hj, hj0, if_false, add_none]
          split at e
          · injection e with e; subst e
            cases hx with
            | ptr hk => exact ⟨_, hrun _ _, .ptr hk⟩
          · rename_i y off
            injection e with e; subst e
            cases hx with
            | pv hr => cases hr with
              | rptr _ b o' _ uu hc hr => exact ⟨_, hrun _ _, .pv (by rw [Nat.add_assoc]; exact .rptr y b o' (off + fd.offset) uu hc hr)⟩
          · rename_i k n i' off
            split at e
            · rename_i hcur
              injection e with e; subst e
              cases hx with
              | eptr hk hn hu =>
                obtain ⟨hnil, rfl⟩ := hu (current_len hs hk hcur)
                exact ⟨_, hrun _ _, .eptr hk hn (fun _ => ⟨hnil, by rw [Nat.add_assoc]⟩)⟩
            · cases e
          · cases e
      · cases e
    · cases hfs
    · split at hfs <;> cases hfs
    · cases hfs
  · cases e

end
end Go.Ab
