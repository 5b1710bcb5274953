/- One operation is what the model does: stores, new blocks, growing arrays. -/
import Derived.Test.YtgamhginhckcpaaAb6
set_option linter.all false
namespace Go.Ab

theorem MemL.touch_pk {C : Cx} {L : Nat → Loc} {h : Hp} {w w' : World} (_ : MemL C L h w) {k : Nat} {blk blk' : Blk} (hk : h k = some blk)
    (hw : ∀ b, b < w.heap.size → (blk.live (L k) → b ≠ (L k).b) → w'.heap[b]? = w.heap[b]?)
    (hpr : ∀ o v, blk.live (L k) → blk.frz o → w.cell? ⟨(L k).b, o, none⟩ = some v → w'.cell? ⟨(L k).b, o, none⟩ = some v) (hfr : ∀ o, blk.frz o → blk'.frz o) (hcp : compat blk (L k) blk' (L k))
    (hlv : blk'.live (L k) ↔ blk.live (L k)) : Pres w (Mst C L h) w' (Mst C L (upd h k (some blk'))) ∧ KC L h L (upd h k (some blk')) := by
  have hkc : KC L h L (upd h k (some blk')) := by
    intro q b hq
    by_cases e : q = k
    · subst e; rw [hk] at hq; injection hq with hq; subst hq; exact ⟨blk', upd_same _ _ _, hcp⟩
    · exact ⟨b, by rw [upd_ne e]; exact hq, compat_refl _ _⟩
  have hM : ∀ b o, Mst C L (upd h k (some blk')) b o → Mst C L h b o := by
    rintro b o (h0 | ⟨q, b', hq, hl, hb', hf⟩)
    · exact .inl h0
    · by_cases e : q = k
      · subst e
        rw [upd_same] at hq; injection hq with hq; subst hq
        exact .inr ⟨q, blk, hk, hlv.1 hl, hb', fun hff => hf (hfr o hff)⟩
      · rw [upd_ne e] at hq
        exact .inr ⟨q, b', hq, hl, hb', hf⟩
  refine ⟨?_, hkc⟩
  intro b o v hc hn
  have hlt := cell_lt hc
  refine ⟨?_, fun hM' => hn (hM b o hM')⟩
  by_cases hl : blk.live (L k)
  · by_cases e : b = (L k).b
    · subst e
      by_cases hf : blk.frz o
      · exact hpr o v hl hf hc
      · exact absurd (Or.inr ⟨k, blk, hk, hl, rfl, hf⟩) hn
    · simp only [World.cell?, hw b hlt (fun _ => e)] at hc ⊢; exact hc
  · simp only [World.cell?, hw b hlt (fun hl' => absurd hl' hl)] at hc ⊢; exact hc

section
variable {C : Cx} {L : Nat → Loc} {h1 h : Hp} {w : World}

theorem okCells_sound (hs : ∀ k b, h1 k = some b → h k = some b) {M : Nat → Nat → Prop} {x : AV} {u : Value} (hx : RepA w M L h x u) {cs : List AV} (e : okCells h1 x = some cs) : RepAL w M L h cs u.cells.toList := by
  have one : ∀ {q : AV} {v : Value}, RepA w M L h q v → RepAL w M L h [q] [v] := fun hq => .cons hq .nil
  cases x with
  | undef => simp [okCells] at e
  | eptr => simp [okCells] at e
  | arr k n =>
    simp only [okCells] at e
    split at e
    · rename_i ee sz xs fz hk
      split at e
      · rename_i hn
        injection e with e; subst e
        have hk' := hs _ _ hk
        have hx' := hx
        cases hx with
        | arr hk2 hn2 hu =>
          rw [hk'] at hk2; injection hk2 with hk2; injection hk2 with a1 a2 a3 a4
          subst a1; subst a2; subst a3; subst a4
          have hu' := hu hn
          subst hu'
          have : ((L k).slice n).cells.toList = [(L k).slice n] := by unfold Loc.slice; split <;> rfl
          rw [this]; exact one hx'
      · cases e
    · cases e
  | pv p =>
    simp only [okCells, Option.some.injEq] at e; subst e
    cases hx with
    | pv hr => exact RepAL.map_pv hr.cells
  | ptr k off =>
    simp only [okCells, Option.some.injEq] at e; subst e
    cases hx with
    | ptr hk => exact one (.ptr hk)
  | agg cs' =>
    simp only [okCells, Option.some.injEq] at e; subst e
    cases hx with
    | agg _ vs hl hh => exact ⟨by simpa [AV.cells, Value.cells] using hl, fun i p u hp hu => hh i p u (by simpa [AV.cells] using hp) (by simpa [Value.cells] using hu)⟩
  | fn f first caps =>
    simp only [okCells, Option.some.injEq] at e; subst e
    cases hx with
    | fn _ _ _ vs us hl hk a b => exact one (.fn f first caps vs us hl hk a b)
  | tup vs =>
    simp only [okCells, Option.some.injEq] at e; subst e
    cases hx with
    | tup _ us hl hh => exact one (.tup vs us hl hh)

theorem one1_sound {M : Nat → Nat → Prop} {p : PV} {u : Value} (hr : Rep w M p u) (ho : one1 p = true) : u.oneCell' = true := by
  cases hr <;> simp_all [one1, Value.oneCell']
theorem oneA_sound {M : Nat → Nat → Prop} (hs : ∀ k b, h1 k = some b → h k = some b) {x : AV} {u : Value} (hr : RepA w M L h x u) (ho : oneA h1 x = true) : u.oneCell' = true := by
  cases hr with
  | pv hr => exact one1_sound hr ho
  | ptr => rfl
  | @arr k n e sz fz xs u hk hn hu =>
    simp only [oneA] at ho
    split at ho
    · rename_i e' sz' xs' fz' hk'
      have := hs _ _ hk'
      rw [hk] at this; injection this with this; injection this with a1 a2 a3 a4
      subst a3
      rw [hu (by simpa using ho)]
      unfold Loc.slice; split <;> rfl
    · cases ho
  | eptr => simp [oneA] at ho
  | agg => simp [oneA] at ho
  | fn => rfl
  | tup => simp [oneA] at ho
  | undef => simp [oneA] at ho

theorem RepAL.take_ {M : Nat → Nat → Prop} {ps : List AV} {us : List Value} (hr : RepAL w M L h ps us) (n : Nat) : RepAL w M L h (ps.take n) (us.take n) := by
  refine ⟨by simp [hr.1], fun i p u hp hu => ?_⟩
  rw [List.getElem?_take] at hp hu
  split at hp
  · rename_i hi; rw [if_pos hi] at hu; exact hr.2 i p u hp hu
  · cases hp
theorem RepAL.drop_ {M : Nat → Nat → Prop} {ps : List AV} {us : List Value} (hr : RepAL w M L h ps us) (n : Nat) : RepAL w M L h (ps.drop n) (us.drop n) := by
  refine ⟨by simp [hr.1], fun i p u hp hu => ?_⟩
  rw [List.getElem?_drop] at hp hu
  exact hr.2 _ p u hp hu
theorem RepAL.splice_ {M : Nat → Nat → Prop} {ps qs : List AV} {us vs : List Value} (hr : RepAL w M L h ps us) (hq : RepAL w M L h qs vs) (off : Nat) : RepAL w M L h (splice ps off qs) (splice us off vs) := by
  unfold splice
  rw [hq.1]
  exact ((hr.take_ off).append hq).append (hr.drop_ _)

theorem run_storeAt {P : Program} {t : TypeId} {ti : TI} (ht : tiOf P t = some ti) {b o ty : Nat} {cur : Array Value} {v : Value} (hg : w.heap[b]? = some (.cells cur ty (0, 0))) (hsz : v.cells.size = ti.size) (hle : o + v.cells.size ≤ cur.size)
    (h1 : ∀ u ∈ v.cells.toList, u.oneCell' = true) : (Instr.storeAt t (.pointer (some ⟨b, o, none⟩)) v).run P w = .ok () (w.setRow b (splice cur.toList o v.cells.toList).toArray) := by
  obtain ⟨i, d, hi, hd, hs, _, _⟩ := tiOf_some ht
  have := run_storeCells_at P b o ty v.cells.toList 0 cur w hg (by simpa using hle) h1
  have hne : ¬ v.cells.size ≠ i.size := by simp [hsz, hs]
  simp only [Instr.storeAt, Instr.sureAddr, pure_bind, storeVar, Sem.run_bind, run_szOf hi, Result.andThen_ok, hne, if_false, this]
  simp [splice]

/-- A store into a variable. -/
theorem store_box (hm : MemL C L h w) {k off : Nat} {cs vc : List AV} {own : Bool} (hk : h k = some (.box cs own false)) {t : TypeId} {ti : TI} (ht : tiOf C.P t = some ti) {u : Value}
    (hu : RepAL w (Mst C L h) L h vc u.cells.toList) (hl : vc.length = ti.size) (hle : off + vc.length ≤ cs.length) (hone : ∀ x ∈ u.cells.toList, x.oneCell' = true) :
    ∃ w', (Instr.storeAt t (.pointer (some ⟨(L k).b, off, none⟩)) u).run C.P w = .ok () w' ∧ After C L h w L (upd h k (some (.box (splice cs off vc) own false))) w' := by
  obtain ⟨arr, ty, e1, e2⟩ := hm.bl k _ hk
  have hus : u.cells.size = vc.length := by have := hu.1; simp at this; omega
  have hsz : arr.size = cs.length := by have := e2.1; simp at this; omega
  refine ⟨_, run_storeAt ht e1 (by omega) (by omega) hone, ?_⟩
  have hw : ∀ b, b < w.heap.size → ((Blk.box cs own false).live (L k) → b ≠ (L k).b) → (w.setRow (L k).b (splice arr.toList off u.cells.toList).toArray).heap[b]? = w.heap[b]? := fun b _ hb => setRow_other w _ b _ (hb trivial)
  have hpk := hm.touch_pk (blk' := .box (splice cs off vc) own false) hk hw (fun o v _ hf _ => by cases hf) (fun o hf => by cases hf) rfl Iff.rfl
  refine hm.touch hk hw (by simp) rfl rfl rfl (fun o v _ hf _ => by cases hf) (fun o hf => by cases hf) rfl Iff.rfl (by have h9 := hm.own k _ hk; cases own <;> exact h9) ?_
  refine ⟨_, ty, setRow_heap w _ arr _ ty _ e1, ?_⟩
  have := (e2.splice_ hu off).mono hpk.1 hpk.2
  simpa using this

/-- A store into an element of an array. -/
theorem store_row (hm : MemL C L h w) {k i off e sz fz : Nat} {xs : List PV} {y y' : PV} (hk : h k = some (.row e sz xs fz)) (hi : xs[i]? = some y) (hfz : fz ≤ i) (hnil : (L k).isNil = false) {t : TypeId} {ti : TI} (ht : tiOf C.P t = some ti)
    {u : Value} {ps : List PV} (hu : RepL w (Mst C L h) ps u.cells.toList) (hl : ps.length = ti.size) (hle : off + ps.length ≤ sz) (hone : ∀ x ∈ u.cells.toList, x.oneCell' = true) (hy : y'.cells = splice y.cells off ps) :
    ∃ w', (Instr.storeAt t (.pointer (some ⟨(L k).b, i * sz + off, none⟩)) u).run C.P w = .ok () w' ∧ After C L h w L (upd h k (some (.row e sz (xs.set i y') fz))) w' := by
  obtain ⟨g1, g2, g3, g4, g5⟩ := hm.bl k _ hk
  obtain ⟨a1, a2, arr, a3, a4, a5⟩ := g5 hnil
  have hus : u.cells.size = ps.length := by have := hu.1; simp at this; omega
  have hil : i < xs.length := (List.getElem?_eq_some_iff.1 hi).1
  have hmul : (i + 1) * sz ≤ arr.size := by rw [a4]; exact Nat.mul_le_mul_right _ (by omega)
  rw [Nat.add_mul] at hmul
  have hle2 : i * sz + off + u.cells.size ≤ arr.size := by omega
  refine ⟨_, run_storeAt ht a3 (by omega) hle2 hone, ?_⟩
  have hw : ∀ b, b < w.heap.size → ((Blk.row e sz xs fz).live (L k) → b ≠ (L k).b) → (w.setRow (L k).b (splice arr.toList (i * sz + off) u.cells.toList).toArray).heap[b]? = w.heap[b]? := fun b _ hb => setRow_other w _ b _ (hb hnil)
  have hfz2 : fz * sz ≤ i * sz := Nat.mul_le_mul_right _ hfz
  have hsp : ∀ o, o < i * sz + off ∨ i * sz + off + u.cells.size ≤ o → (splice arr.toList (i * sz + off) u.cells.toList)[o]? = arr[o]? := by
    intro o ho
    unfold splice
    rcases ho with ho | ho
    · rw [List.append_assoc, List.getElem?_append_left (by simp; omega), List.getElem?_take, if_pos ho]; simp
    · rw [List.getElem?_append_right (by simp; omega), List.getElem?_drop]
      simp only [List.length_append, List.length_take, Array.length_toList]
      rw [show i * sz + off + u.cells.size + (o - (min (i * sz + off) arr.size + u.cells.size)) = o from by omega]
      simp
  have hin : ∀ j, j < u.cells.size → (splice arr.toList (i * sz + off) u.cells.toList)[i * sz + off + j]? = u.cells[j]? := by
    intro j hj
    unfold splice
    rw [List.append_assoc, List.getElem?_append_right (by simp; omega), List.getElem?_append_left (by simp; omega)]
    simp only [List.length_take, Array.length_toList]
    rw [show i * sz + off + j - min (i * sz + off) arr.size = j from by omega]
    simp
  have hpr : ∀ o v, (Blk.row e sz xs fz).live (L k) → (Blk.row e sz xs fz).frz o → w.cell? ⟨(L k).b, o, none⟩ = some v → (w.setRow (L k).b (splice arr.toList (i * sz + off) u.cells.toList).toArray).cell? ⟨(L k).b, o, none⟩ = some v := by
    intro o v _ hf hc
    simp only [Blk.frz] at hf
    rw [cell_setRow_same w _ o arr _ _ _ a3, List.getElem?_toArray, hsp o (.inl (by omega)), ← cell_heap a3]
    exact hc
  have hlen : (xs.set i y').length = xs.length := by simp
  have hcp : compat (.row e sz xs fz) (L k) (.row e sz (xs.set i y') fz) (L k) := ⟨rfl, rfl, by omega, fun _ => rfl⟩
  have hpk := hm.touch_pk (blk' := .row e sz (xs.set i y') fz) hk hw hpr (fun o hf => hf) hcp Iff.rfl
  refine hm.touch hk hw (by simp) rfl rfl rfl hpr (fun o hf => hf) hcp Iff.rfl (by have h9 := hm.own k _ hk; exact h9) ?_
  have hylen : y.cells.length = sz := g3 y (List.mem_of_getElem? hi)
  have hy'len : y'.cells.length = sz := by rw [hy]; simp [splice]; omega
  refine ⟨g1, by omega, ?_, fun hn => absurd hnil (by rw [hn]; simp), fun _ => ⟨by omega, a2, _, setRow_heap w _ arr _ _ _ a3, by simp [splice]; omega, ?_⟩⟩
  · intro x hx
    rcases List.mem_or_eq_of_mem_set hx with hx | rfl
    · exact g3 x hx
    · exact hy'len
  · intro i' x j p hx hj
    rw [List.getElem?_set] at hx
    split at hx
    · rename_i hii
      subst hii
      injection hx with hx
      subst hx
      have hjs : j < sz := by rw [← hy'len]; exact (List.getElem?_eq_some_iff.1 hj).1
      rw [hy] at hj
      by_cases c1 : j < off
      · unfold splice at hj
        rw [List.append_assoc, List.getElem?_append_left (by simp; omega), List.getElem?_take, if_pos c1] at hj
        obtain ⟨v, hv, hr⟩ := a5 i y j p hi hj
        exact ⟨v, by rw [List.getElem?_toArray, hsp _ (.inl (by omega))]; exact hv, hr.mono hpk.1⟩
      · by_cases c2 : j < off + ps.length
        · unfold splice at hj
          rw [List.append_assoc, List.getElem?_append_right (by simp; omega), List.getElem?_append_left (by simp; omega)] at hj
          simp only [List.length_take] at hj
          rw [show j - min off y.cells.length = j - off from by omega] at hj
          have hlt : j - off < u.cells.size := by omega
          have hu2 : u.cells.toList[j - off]? = some u.cells[j - off] := by simp [hlt]
          refine ⟨u.cells[j - off], ?_, (hu.2 _ p _ hj hu2).mono hpk.1⟩
          rw [List.getElem?_toArray, show i * sz + j = i * sz + off + (j - off) from by omega, hin _ hlt]
          simp [hlt]
        · unfold splice at hj
          rw [List.getElem?_append_right (by simp; omega), List.getElem?_drop] at hj
          simp only [List.length_append, List.length_take] at hj
          rw [show off + ps.length + (j - (min off y.cells.length + ps.length)) = j from by omega] at hj
          obtain ⟨v, hv, hr⟩ := a5 i y j p hi hj
          exact ⟨v, by rw [List.getElem?_toArray, hsp _ (.inr (by omega))]; exact hv, hr.mono hpk.1⟩
    · rename_i hii
      obtain ⟨v, hv, hr⟩ := a5 i' x j p hx hj
      have hjs : j < sz := by rw [← g3 x (List.mem_of_getElem? hx)]; exact (List.getElem?_eq_some_iff.1 hj).1
      refine ⟨v, ?_, hr.mono hpk.1⟩
      rw [List.getElem?_toArray, hsp _ ?_]
      · exact hv
      · rcases Nat.lt_or_gt_of_ne hii with hlt | hgt
        · right
          have : (i + 1) * sz ≤ i' * sz := Nat.mul_le_mul_right _ hlt
          rw [Nat.add_mul] at this
          omega
        · left
          have : (i' + 1) * sz ≤ i * sz := Nat.mul_le_mul_right _ hgt
          rw [Nat.add_mul] at this
          omega

theorem mem_one {M : Nat → Nat → Prop} {ps : List PV} {us : List Value} (hr : RepL w M ps us) (ho : ps.all one1 = true) : ∀ x ∈ us, x.oneCell' = true := by
  intro x hx
  obtain ⟨i, hi⟩ := List.mem_iff_getElem?.1 hx
  have hlt : i < ps.length := by rw [hr.1]; exact (List.getElem?_eq_some_iff.1 hi).1
  exact one1_sound (hr.2 i ps[i] x (List.getElem?_eq_getElem hlt) hi) (List.all_eq_true.1 ho _ (List.getElem_mem hlt))

theorem evStore_sound (hm : MemL C L h w) (hs : ∀ k b, h1 k = some b → h k = some b) {t : TypeId} {ti : TI} (ht : tiOf C.P t = some ti) {x v : AV} {a u : Value} (hx : RepA w (Mst C L h) L h x a) (hv : RepA w (Mst C L h) L h v u)
    {W : List (Nat × Blk)} (e : evStore ti x v h1 = some W) : ∃ w', (Instr.storeAt t a u).run C.P w = .ok () w' ∧ After C L h w L (writes h W) w' := by
  unfold evStore at e
  split at e
  · rename_i k off
    split at e
    · rename_i cs own vc hk hvc
      split at e
      · rename_i hc
        injection e with e; subst e
        have hr := okCells_sound hs hv hvc
        cases hx with
        | ptr _ =>
          refine store_box hm (hs _ _ hk) ht hr hc.1 hc.2.1 ?_
          intro y hy
          obtain ⟨i, hi⟩ := List.mem_iff_getElem?.1 hy
          have hlt : i < vc.length := by rw [hr.1]; exact (List.getElem?_eq_some_iff.1 hi).1
          have h2 := hr.2 i vc[i] y (List.getElem?_eq_getElem hlt) hi
          exact oneA_sound hs h2 (List.all_eq_true.1 hc.2.2 _ (List.getElem_mem hlt))
      · cases e
    · cases e
  · rename_i k n i off
    split at e
    · rename_i ee sz xs fz hk
      split at e
      · rename_i hc
        split at e
        · rename_i y p hy hp
          have hk' := hs _ _ hk
          obtain ⟨b1, b2, b3⟩ := frz1_sound hm (Froz.of_sub hs) hv hp
          have b2 : Rep w (Mst C L h) p u := b2
          split at e
          · rename_i hok
            simp only [okE, Bool.and_eq_true, beq_iff_eq] at hok
            cases hx with
            | eptr hk2 hn2 hu =>
              rw [hk'] at hk2; injection hk2 with hk2; injection hk2 with a1 a2 a3 a4
              subst a1; subst a2; subst a3; subst a4
              obtain ⟨hnil, rfl⟩ := hu hc.1
              have hylen := (hm.bl k _ hk').2.2.1 y (List.mem_of_getElem? hy)
              split at e
              · rename_i hoff
                injection e with e; subst e
                obtain ⟨rfl, hsz⟩ := hoff
                exact store_row hm hk' hy hc.2 hnil ht b2.cells hok.1 (by omega) (mem_one b2.cells hok.2) (by simp [splice]; omega)
              · split at e
                · rename_i hoff
                  injection e with e; subst e
                  exact store_row hm hk' hy hc.2 hnil ht b2.cells hok.1 (by omega) (mem_one b2.cells hok.2) (cells_mkAgg _)
                · cases e
          · cases e
        · cases e
      · cases e
    · cases e
  · cases e
end
end Go.Ab
