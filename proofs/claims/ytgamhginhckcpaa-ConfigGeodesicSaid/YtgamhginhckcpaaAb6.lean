/- One operation is what the model does: values told by content; loads; stores; new variables. -/
import Derived.Test.YtgamhginhckcpaaAb5
set_option linter.all false
namespace Go.Ab

theorem writes_append (h : Hp) (W W' : List (Nat × Blk)) : writes h (W ++ W') = writes (writes h W) W' := by simp [writes, List.foldl_append]
theorem writes_one (h : Hp) (k : Nat) (b : Blk) : writes h [(k, b)] = upd h k (some b) := rfl

theorem cells_of_one {p : PV} (h : one1 p = true) : p.cells = [p] := by
  cases p with
  | val v => cases v <;> simp_all [one1, PV.cells, Value.cells, Value.oneCell']
  | agg _ => simp [one1] at h
  | tup _ => simp [one1] at h
  | _ => rfl
theorem vals?_map : ∀ {cs : List PV} {vs : List Value}, vals? cs = some vs → cs = vs.map .val
  | [], vs, h => by simp [vals?] at h; subst h; rfl
  | .val v :: r, vs, h => by
    simp only [vals?, Option.map_eq_some_iff] at h
    obtain ⟨vs', h', rfl⟩ := h
    rw [vals?_map h']; rfl
  | .agg _ :: _, _, h => by simp [vals?] at h
  | .sl _ :: _, _, h => by simp [vals?] at h
  | .rptr _ _ :: _, _, h => by simp [vals?] at h
  | .fn _ _ _ :: _, _, h => by simp [vals?] at h
  | .tup _ :: _, _, h => by simp [vals?] at h
theorem cells_mkAgg (ps : List PV) : (mkAgg ps).cells = ps := by
  unfold mkAgg
  split
  · rename_i vs hv; simp [PV.cells, Value.cells, vals?_map hv]
  · rfl
theorem isAgg_mkAgg (ps : List PV) : isAggP (mkAgg ps) = true := by
  unfold mkAgg; split <;> rfl

section
variable {C : Cx} {L : Nat → Loc} {h1 h : Hp} {w : World}

theorem frz1_sound (hm : MemL C L h w) (hf : Froz h1 h) {x : AV} {u : Value} (hx : RepA w (Mst C L h) L h x u) {p : PV} {W : List (Nat × Blk)} (e : frz1 h1 x = some (p, W)) :
    After C L h w L (writes h W) w ∧ Rep w (Mst C L (writes h W)) p u ∧ Froz h1 (writes h W) := by
  cases x with
  | pv q =>
    simp only [frz1, Option.some.injEq, Prod.mk.injEq] at e
    obtain ⟨rfl, rfl⟩ := e
    cases hx with
    | pv hr => exact ⟨After.refl hm, rep_norm hr, hf⟩
  | arr k n =>
    simp only [frz1] at e
    split at e
    · rename_i ee sz xs fz hk
      split at e
      · rename_i hn
        simp only [Option.some.injEq, Prod.mk.injEq] at e
        obtain ⟨rfl, rfl⟩ := e
        obtain ⟨fz', hk', hle⟩ := hf.row hk
        cases hx with
        | arr hk2 hn2 hu =>
          rw [hk'] at hk2; injection hk2 with hk2; injection hk2 with a1 a2 a3 a4
          subst a1; subst a2; subst a3; subst a4
          have := freeze_row hm hk'
          rw [hu hn, ← hn]
          have hb := (hm.bl k _ hk').2.1
          exact ⟨this.1, this.2, hf.set_row hk (by omega)⟩
      · cases e
    · cases e
  | ptr => simp [frz1] at e
  | eptr => simp [frz1] at e
  | agg => simp [frz1] at e
  | fn => simp [frz1] at e
  | tup => simp [frz1] at e
  | undef => simp [frz1] at e

theorem RepAL.mono {w w' : World} {M M' : Nat → Nat → Prop} {L L' : Nat → Loc} {h h' : Hp} (hp : Pres w M w' M') (hc : KC L h L' h') {ps : List AV} {us : List Value} (hx : RepAL w M L h ps us) : RepAL w' M' L' h' ps us :=
  ⟨hx.1, fun i p u h1 h2 => (hx.2 i p u h1 h2).mono hp hc⟩

theorem frzL_sound : ∀ {xs : List AV} {h : Hp} (_ : MemL C L h w) (_ : Froz h1 h) {us : List Value} (_ : RepAL w (Mst C L h) L h xs us) {ps : List PV} {W : List (Nat × Blk)} (_ : frzL h1 xs = some (ps, W)),
    After C L h w L (writes h W) w ∧ RepL w (Mst C L (writes h W)) ps us ∧ Froz h1 (writes h W)
  | [], h, hm, hf, us, hx, ps, W, e => by
    simp only [frzL, Option.some.injEq, Prod.mk.injEq] at e
    obtain ⟨rfl, rfl⟩ := e
    rw [hx.nil_inv]
    exact ⟨After.refl hm, RepL.nil, hf⟩
  | x :: r, h, hm, hf, us, hx, ps, W, e => by
    simp only [frzL] at e
    split at e
    · rename_i p W1 ps' W2 e1 e2
      simp only [Option.some.injEq, Prod.mk.injEq] at e
      obtain ⟨rfl, rfl⟩ := e
      obtain ⟨u, us', rfl, hu, hr⟩ := hx.cons_inv
      obtain ⟨a1, a2, a3⟩ := frz1_sound hm hf hu e1
      obtain ⟨b1, b2, b3⟩ := frzL_sound a1.1 a3 (hr.mono a1.2.1 a1.2.2) e2
      rw [writes_append]
      exact ⟨a1.trans b1, .cons (a2.mono b1.2.1) b2, b3⟩
    · cases e

theorem frzCap_sound (hm : MemL C L h w) (hf : Froz h1 h) {x : AV} {u : Value} (hx : RepA w (Mst C L h) L h x u) {p : PV} {W : List (Nat × Blk)} (e : frzCap h1 x = some (p, W)) :
    After C L h w L (writes h W) w ∧ Rep w (Mst C L (writes h W)) p u ∧ Froz h1 (writes h W) := by
  unfold frzCap at e
  split at e
  · simp only [Option.some.injEq, Prod.mk.injEq] at e
    obtain ⟨rfl, rfl⟩ := e
    cases hx with
    | pv hr => exact ⟨After.refl hm, hr, hf⟩
  · rename_i k
    split at e
    · rename_i cs fz hk
      obtain ⟨fz', hk', _⟩ := hf.box hk
      have key : ∀ y : PV, y.cells.map .pv = cs → After C L h w L (writes h [(k, .box cs true true)]) w ∧ Rep w (Mst C L (writes h [(k, .box cs true true)])) (.rptr y 0) u ∧ Froz h1 (writes h [(k, .box cs true true)]) := by
        intro y hy
        obtain ⟨a1, a2⟩ := freeze_box hm hk' hy
        cases hx with
        | ptr _ => exact ⟨a1, a2, hf.set_box hk⟩
      split at e
      · rename_i ps hp
        have hc := pvs?_some hp
        split at e
        · rename_i hq
          simp only [Option.some.injEq, Prod.mk.injEq] at e
          obtain ⟨rfl, rfl⟩ := e
          exact key _ (by rw [hc]; congr 1; cases ps with
            | nil => simp [single] at hq
            | cons q r => cases r with
              | nil => simp only [single] at hq; exact cells_of_one hq
              | cons _ _ => simp [single] at hq)
        · simp only [Option.some.injEq, Prod.mk.injEq] at e
          obtain ⟨rfl, rfl⟩ := e
          exact key _ (by rw [cells_mkAgg, hc])
      · cases e
    · cases e
  · cases e

theorem frzCaps_sound : ∀ {xs : List AV} {h : Hp} (_ : MemL C L h w) (_ : Froz h1 h) {us : List Value} (_ : RepAL w (Mst C L h) L h xs us) {ps : List PV} {W : List (Nat × Blk)} (_ : frzCaps h1 xs = some (ps, W)),
    After C L h w L (writes h W) w ∧ RepL w (Mst C L (writes h W)) ps us ∧ Froz h1 (writes h W)
  | [], h, hm, hf, us, hx, ps, W, e => by
    simp only [frzCaps, Option.some.injEq, Prod.mk.injEq] at e
    obtain ⟨rfl, rfl⟩ := e
    rw [hx.nil_inv]
    exact ⟨After.refl hm, RepL.nil, hf⟩
  | x :: r, h, hm, hf, us, hx, ps, W, e => by
    simp only [frzCaps] at e
    split at e
    · rename_i p W1 ps' W2 e1 e2
      simp only [Option.some.injEq, Prod.mk.injEq] at e
      obtain ⟨rfl, rfl⟩ := e
      obtain ⟨u, us', rfl, hu, hr⟩ := hx.cons_inv
      obtain ⟨a1, a2, a3⟩ := frzCap_sound hm hf hu e1
      obtain ⟨b1, b2, b3⟩ := frzCaps_sound a1.1 a3 (hr.mono a1.2.1 a1.2.2) e2
      rw [writes_append]
      exact ⟨a1.trans b1, .cons (a2.mono b1.2.1) b2, b3⟩
    · cases e

theorem frz_sound (hm : MemL C L h w) (hf : Froz h1 h) {x : AV} {u : Value} (hx : RepA w (Mst C L h) L h x u) {p : PV} {W : List (Nat × Blk)} (e : frz h1 x = some (p, W)) :
    After C L h w L (writes h W) w ∧ Rep w (Mst C L (writes h W)) p u ∧ Froz h1 (writes h W) := by
  unfold frz at e
  split at e
  · rename_i cs
    split at e
    · rename_i ps W' e1
      simp only [Option.some.injEq, Prod.mk.injEq] at e
      obtain ⟨rfl, rfl⟩ := e
      cases hx with
      | agg _ vs hl hh =>
        obtain ⟨a1, a2, a3⟩ := frzL_sound hm hf ⟨hl, hh⟩ e1
        exact ⟨a1, rep_mkAgg a2, a3⟩
    · cases e
  · rename_i f first caps
    split at e
    · rename_i ps W1 qs W2 e1 e2
      simp only [Option.some.injEq, Prod.mk.injEq] at e
      obtain ⟨rfl, rfl⟩ := e
      cases hx with
      | fn _ _ _ vs us hl hk hh1 hh2 =>
        obtain ⟨a1, a2, a3⟩ := frzL_sound hm hf ⟨hl, hh1⟩ e1
        obtain ⟨b1, b2, b3⟩ := frzCaps_sound a1.1 a3 (RepAL.mono a1.2.1 a1.2.2 ⟨hk, hh2⟩) e2
        rw [writes_append]
        exact ⟨a1.trans b1, .fn f ps qs vs us (a2.1.trans rfl) b2.1 (a2.mono b1.2.1).2 b2.2, b3⟩
    · cases e
  · rename_i vs
    split at e
    · rename_i ps W' e1
      simp only [Option.some.injEq, Prod.mk.injEq] at e
      obtain ⟨rfl, rfl⟩ := e
      cases hx with
      | tup _ vs' hl hh =>
        obtain ⟨a1, a2, a3⟩ := frzL_sound hm hf ⟨hl, hh⟩ e1
        exact ⟨a1, .tup ps vs' a2.1 a2.2, a3⟩
    · cases e
  · exact frz1_sound hm hf hx e

/-! ### loads -/
theorem cellsAt_sound (hm : MemL C L h w) (hs : ∀ k b, h1 k = some b → h k = some b) {x : AV} {u : Value} (hx : RepA w (Mst C L h) L h x u) {cs : List AV} {off : Nat} (e : cellsAt h1 x = some (cs, off)) :
    ∃ b o, u = .pointer (some ⟨b, o + off, none⟩) ∧ ∀ (j : Nat) c, cs[j]? = some c → ∃ v, w.cell? ⟨b, o + j, none⟩ = some v ∧ RepA w (Mst C L h) L h c v := by
  cases x with
  | ptr k off' =>
    simp only [cellsAt] at e
    split at e
    · rename_i cs' own fz hk
      simp only [Option.some.injEq, Prod.mk.injEq] at e
      obtain ⟨rfl, rfl⟩ := e
      obtain ⟨arr, ty, e1, e2⟩ := hm.bl k _ (hs _ _ hk)
      cases hx with
      | ptr _ =>
        refine ⟨(L k).b, 0, by simp, fun j c hj => ?_⟩
        have hlt : j < arr.toList.length := by rw [← e2.1]; exact (List.getElem?_eq_some_iff.1 hj).1
        have hu : arr.toList[j]? = some (arr.toList[j]) := List.getElem?_eq_getElem hlt
        exact ⟨_, by rw [cell_heap e1, Nat.zero_add, ← Array.getElem?_toList]; exact hu, e2.2 j c _ hj hu⟩
    · cases e
  | pv p =>
    cases p with
    | rptr y off' =>
      simp only [cellsAt, Option.some.injEq, Prod.mk.injEq] at e
      obtain ⟨rfl, rfl⟩ := e
      cases hx with
      | pv hr => cases hr with
        | rptr _ b o _ uu hc hr =>
          refine ⟨b, o, rfl, fun j c hj => ?_⟩
          simp only [List.getElem?_map, Option.map_eq_some_iff] at hj
          obtain ⟨q, hq, rfl⟩ := hj
          exact ⟨uu j, (hc j q hq).1, .pv (hr j q hq)⟩
    | _ => simp [cellsAt] at e
  | eptr k n i off' =>
    simp only [cellsAt] at e
    split at e
    · rename_i ee sz xs fz hk
      split at e
      · rename_i hn
        split at e
        · rename_i y hy
          simp only [Option.some.injEq, Prod.mk.injEq] at e
          obtain ⟨rfl, rfl⟩ := e
          have hk' := hs _ _ hk
          cases hx with
          | eptr hk2 hn2 hu =>
            rw [hk'] at hk2; injection hk2 with hk2; injection hk2 with a1 a2 a3 a4
            subst a1; subst a2; subst a3; subst a4
            obtain ⟨hnil, rfl⟩ := hu hn
            rcases rowLive hm hk' with ⟨hh, _⟩ | ⟨_, _, _, arr, e1, _, e3⟩
            · rw [hnil] at hh; cases hh
            · refine ⟨(L k).b, i * sz, rfl, fun j c hj => ?_⟩
              simp only [List.getElem?_map, Option.map_eq_some_iff] at hj
              obtain ⟨q, hq, rfl⟩ := hj
              obtain ⟨v, hv, hr⟩ := e3 i y j q hy hq
              exact ⟨v, by rw [cell_heap e1]; exact hv, .pv hr⟩
        · cases e
      · cases e
    · cases e
  | arr => simp [cellsAt] at e
  | agg => simp [cellsAt] at e
  | fn => simp [cellsAt] at e
  | tup => simp [cellsAt] at e
  | undef => simp [cellsAt] at e

theorem whole?_cells {sz : Nat} {x : AV} {p : PV} (e : whole? h1 sz x = some p) : cellsAt h1 x = some (p.cells.map .pv, 0) ∧ isAggP p = true ∧ p.cells.length = sz := by
  unfold whole? at e
  split at e
  · rename_i y
    split at e
    · rename_i hy
      injection e with e; subst e
      simp only [Bool.and_eq_true, beq_iff_eq] at hy
      exact ⟨rfl, hy.1, hy.2⟩
    · cases e
  · rename_i k n i
    split at e
    · rename_i ee s xs fz hk
      split at e
      · rename_i hn
        split at e
        · rename_i y hy
          split at e
          · rename_i hq
            injection e with e; subst e
            simp only [Bool.and_eq_true, beq_iff_eq] at hq
            exact ⟨by simp [cellsAt, hk, hn, hy], hq.1, hq.2⟩
          · cases e
        · cases e
      · cases e
    · cases e
  · cases e

theorem rep_val_inv {M : Nat → Nat → Prop} {v u : Value} (hr : Rep w M (.val v) u) : u = v := by cases hr; rfl
theorem rep_of_cells {M : Nat → Nat → Prop} {p : PV} {us : List Value} (ha : isAggP p = true) (hr : RepL w M p.cells us) : Rep w M p (.agg us.toArray) := by
  cases p with
  | agg cs => exact .agg cs us hr.1 hr.2
  | val v =>
    cases v with
    | agg arr =>
      have : us = arr.toList := by
        apply List.ext_getElem?
        intro i
        by_cases hi : i < us.length
        · have hl := hr.1
          simp only [PV.cells, Value.cells, List.length_map, Array.length_toList] at hl
          have h2 : arr.toList[i]? = some (arr.toList[i]'(by simp; omega)) := List.getElem?_eq_getElem _
          have h3 := hr.2 i (.val (arr.toList[i]'(by simp; omega))) us[i] (by simp [PV.cells, Value.cells, h2]) (List.getElem?_eq_getElem hi)
          rw [h2, List.getElem?_eq_getElem hi, rep_val_inv h3]
        · rw [List.getElem?_eq_none (by omega), List.getElem?_eq_none]
          have hl := hr.1
          simp only [PV.cells, Value.cells, List.length_map] at hl
          omega
      rw [this]; exact .val _
    | _ => simp [isAggP] at ha
  | _ => simp [isAggP] at ha

theorem cells_of_range {M : Nat → Nat → Prop} {cs : List AV} {b o : Nat} (hc : ∀ (j : Nat) c, cs[j]? = some c → ∃ v, w.cell? ⟨b, o + j, none⟩ = some v ∧ RepA w M L h c v) :
    ∃ us : List Value, us.length = cs.length ∧ (∀ (j : Nat) v, us[j]? = some v → w.cell? ⟨b, o + j, none⟩ = some v) ∧ RepAL w M L h cs us := by
  induction cs generalizing o with
  | nil => exact ⟨[], rfl, fun j v hj => by simp at hj, RepAL.nil⟩
  | cons c r ih =>
    obtain ⟨v, hv, hr⟩ := hc 0 c rfl
    obtain ⟨us, h1, h2, h3⟩ := ih (o := o + 1) (fun j c' hj => by have := hc (j + 1) c' (by simpa using hj); rwa [show o + (j + 1) = o + 1 + j from by omega] at this)
    refine ⟨v :: us, by simp [h1], fun j v' hj => ?_, .cons hr h3⟩
    cases j with
    | zero => simp at hj; subst hj; exact hv
    | succ j => have := h2 j v' (by simpa using hj); rwa [show o + 1 + j = o + (j + 1) from by omega] at this

theorem tiOf_some {P : Program} {t : TypeId} {ti : TI} (e : tiOf P t = some ti) : ∃ i d, P.info? t = some i ∧ P.underlying t = some d ∧ ti.size = i.size ∧ ti.zero = i.zero ∧
    ti.kind = (match d with
      | .struct fs => .struct (fs.toList.map fun f => (f.offset, szOf P f.type))
      | .array n e => .array n (szOf P e)
      | .slice e => match P.info? e with
        | some j => .slice e j.size j.bytes j.zero
        | none => .one
      | _ => .one) := by
  unfold tiOf at e
  split at e
  · cases e
  split at e
  · rename_i i d h1 h2; injection e with e; subst e; exact ⟨i, d, h1, h2, rfl, rfl, rfl⟩
  · cases e
theorem tiOf_known {P : Program} {t : TypeId} {ti : TI} (e : tiOf P t = some ti) : fieldsKnown P t = true := by
  unfold tiOf at e
  split at e
  · cases e
  · rename_i h; simpa using h

theorem run_under {P : Program} {t : TypeId} {d : TypeDesc} (e : P.underlying t = some d) (w : World) : (underlying t).run P w = .ok d w := by
  simp [underlying, program, Sem.run, e]
theorem run_tinfo {P : Program} {t : TypeId} {i : TypeInfo} (e : P.info? t = some i) (w : World) : (typeInfo t).run P w = .ok i w := by
  simp [typeInfo, program, Sem.run, e]
theorem run_szOf {P : Program} {t : TypeId} {i : TypeInfo} (e : P.info? t = some i) (w : World) : (sizeOf t).run P w = .ok i.size w := by
  simp [sizeOf, run_tinfo e]
theorem run_isAgg {P : Program} {t : TypeId} {ti : TI} (e : tiOf P t = some ti) (w : World) : (isAgg t).run P w = .ok ti.kind.isAgg w := by
  obtain ⟨i, d, _, h2, _, _, hk⟩ := tiOf_some e
  rw [hk]
  unfold isAgg
  rw [Sem.run_bind, run_under h2]
  simp only [Result.andThen_ok]
  cases d <;> first | rfl | skip
  rename_i e'
  show Result.ok false w = .ok (TK.isAgg (match P.info? e' with
        | some j => TK.slice e' j.size j.bytes j.zero
        | none => TK.one)) w
  split <;> rfl

theorem evLoad_sound (hm : MemL C L h w) (hs : ∀ k b, h1 k = some b → h k = some b) {t : TypeId} {ti : TI} (ht : tiOf C.P t = some ti) {x v : AV} {u : Value} (hx : RepA w (Mst C L h) L h x u) (e : evLoad ti x h1 = some v) :
    ∃ r, (Instr.loadAt t u).run C.P w = .ok r w ∧ RepA w (Mst C L h) L h v r := by
  obtain ⟨i, d, hi, hd, hsz, _, _⟩ := tiOf_some ht
  unfold evLoad at e
  split at e
  · rename_i hag
    have key : ∀ cs off, cellsAt h1 x = some (cs, off) → off + ti.size ≤ cs.length → ∃ us, (Instr.loadAt t u).run C.P w = .ok (.agg us.toArray) w ∧ RepAL w (Mst C L h) L h ((cs.drop off).take ti.size) us := by
      intro cs off hc hle
      obtain ⟨b, o, rfl, hcell⟩ := cellsAt_sound hm hs hx hc
      have hrange : ∀ (j : Nat) c, ((cs.drop off).take ti.size)[j]? = some c → ∃ v, w.cell? ⟨b, (o + off) + j, none⟩ = some v ∧ RepA w (Mst C L h) L h c v := by
        intro j c hj
        rw [List.getElem?_take] at hj
        split at hj
        · rw [List.getElem?_drop] at hj
          have := hcell (off + j) c hj
          rwa [show o + (off + j) = o + off + j from by omega] at this
        · cases hj
      obtain ⟨us, hl, hus, hr⟩ := cells_of_range hrange
      refine ⟨us, ?_, hr⟩
      have hlen : us.length = i.size := by rw [hl, ← hsz, List.length_take, List.length_drop]; omega
      simp only [Instr.loadAt, Instr.sureAddr, pure_bind, loadVar, Sem.run_bind, run_isAgg ht, hag, Result.andThen_ok, if_true, run_szOf hi]
      rw [← hlen, run_loadCells_list w _ us (fun j v hj => by rw [add_none]; exact hus j v hj)]
      rfl
    split at e
    · rename_i p hw
      injection e with e; subst e
      obtain ⟨h2, h3, h4⟩ := whole?_cells hw
      obtain ⟨us, h5, h6⟩ := key _ _ h2 (by simp [h4])
      refine ⟨_, h5, .pv (rep_of_cells h3 ?_)⟩
      rw [List.drop_zero, List.take_of_length_le (by simp [h4])] at h6
      exact h6.map_pv_inv
    · split at e
      · rename_i cs off hc
        split at e
        · rename_i hle
          injection e with e; subst e
          obtain ⟨us, h5, h6⟩ := key _ _ hc hle
          exact ⟨_, h5, repA_mkAggA h6⟩
        · cases e
      · cases e
  · rename_i hag
    split at e
    · rename_i cs off hc
      obtain ⟨b, o, rfl, hcell⟩ := cellsAt_sound hm hs hx hc
      obtain ⟨r, hr1, hr2⟩ := hcell off v e
      refine ⟨r, ?_, hr2⟩
      have hag' : ti.kind.isAgg = false := by simpa using hag
      simp only [Instr.loadAt, Instr.sureAddr, pure_bind, loadVar, Sem.run_bind, run_isAgg ht, hag', Result.andThen_ok, Bool.false_eq_true, if_false, run_load, hr1]
    · cases e
end
end Go.Ab
