/- Arrays that are handed over: an own array is cut short, and a call that writes an array of the caller's and takes another one over. -/
import Derived.Test.YtagmnknighofeaaAbB
set_option linter.all false
namespace Go.Ab

/-- A part of a region in the order of the text. -/
theorem evR_soundA {C : Cx} {hn : List Nat} {ops : Array Oper} {Q : St → Prop} {Q' : Exit → Act → World → Prop} {rest : List Oper} (hQ : ∀ st a w, Sim C st a w → Q st → wpList C.P ops Q' rest a w) :
    ∀ {l : List Oper} {st : St} {a : Act} {w : World}, Sim C st a w → evR C.P hn C.N ops Q l st → wpList C.P ops Q' (l ++ rest) a w
  | [], st, a, w, hs, e => hQ st a w hs e
  | o :: l, st, a, w, hs, e => by
    obtain ⟨L, hm, hN, hdf, ht⟩ := hs
    rw [evR.eq_2] at e
    obtain ⟨hd, e⟩ := e
    rw [List.cons_append]
    refine wpList_step (fun K hK => ?_)
    split at e
    · rename_i hg
      rw [guard_wanted ht (guardV_none hg), if_pos rfl]
      exact evOD_wp hm hN hdf ht hd e (fun eff a' w' hk hsim => hK _ _ (evR_soundA hQ hsim hk))
    · rename_i d b want hg
      rw [guard_wanted ht (guardV_some hg)]
      unfold evB at e
      simp only at e
      split at e
      · rename_i hgt
        subst hgt
        rw [if_pos (by simp)]
        exact evOD_wp hm hN hdf ht hd e (fun eff a' w' hk hsim => hK _ _ (evR_soundA hQ hsim hk))
      · rename_i hgt
        rw [if_neg (by simpa using hgt)]
        exact hK _ _ (evR_soundA hQ (Sim.put hm hN hdf ht hd (W := []) (After.refl hm) (.pv (.val _))) e)
    · exact e.elim

theorem killA_rep2 {w w' : World} {M M' : Nat → Nat → Prop} {L : Nat → Loc} {h : Hp} {ks : List Nat} (hp : Pres w M w' M') {x : AV} {u : Value} (hx : RepA w M L h x u) :
    RepA w' M' L (fun k => if ks.contains k = true then none else (h k).map (killB ks)) (killA ks x) u := by
  unfold killA
  split
  · exact .undef _
  · rename_i hd
    cases hx with
    | pv hr => exact .pv (hr.mono hp)
    | @ptr k off cs own fz hk =>
      simp only [dead] at hd
      exact .ptr (cs := cs.map (killA ks)) (own := own) (fz := fz) (by simp only [if_neg hd, hk]; rfl)
    | @arr k n e sz fz xs u hk hn hu =>
      simp only [dead] at hd
      exact .arr (e := e) (sz := sz) (fz := fz) (xs := xs) (by simp only [if_neg hd, hk]; rfl) hn hu
    | @eptr k n i off e sz fz xs u hk hn hu =>
      simp only [dead] at hd
      exact .eptr (e := e) (sz := sz) (fz := fz) (xs := xs) (by simp only [if_neg hd, hk]; rfl) hn hu
    | agg cs vs hl hh =>
      simp only [dead, Bool.not_eq_true', Bool.not_eq_false] at hd
      refine .agg cs vs hl (fun i p u hp' hu => ?_)
      have := List.all_eq_true.1 hd p (List.mem_of_getElem? hp')
      have h2 := hh i p u hp' hu
      cases p with
      | pv q => cases h2 with
        | pv hr => exact .pv (hr.mono hp)
      | _ => simp at this
    | fn => simp [dead] at hd
    | tup => simp [dead] at hd
    | undef => exact .undef _

/-- The memory with array k as 'blk', all references to the keys ks forgotten. -/
def rekey (h : Hp) (ks : List Nat) (k : Nat) (blk : Blk) : Hp := fun q => if q = k then some blk else if ks.contains q = true then none else (h q).map (killB ks)
def St.rekey (st : St) (ks : List Nat) (k : Nat) (blk : Blk) : St := ⟨fun n => killA ks (st.t n), Go.Ab.rekey st.h ks k blk⟩

theorem rekey_get {h : Hp} {ks : List Nat} {k q : Nat} {blk b : Blk} (hq : rekey h ks k blk q = some b) : (q = k ∧ b = blk) ∨ (q ≠ k ∧ q ∉ ks ∧ ∃ b0, h q = some b0 ∧ b = killB ks b0) := by
  unfold rekey at hq
  split at hq
  · rename_i e; injection hq with hq; exact .inl ⟨e, hq.symm⟩
  · rename_i e
    split at hq
    · cases hq
    · rename_i hc
      simp only [Option.map_eq_some_iff] at hq
      obtain ⟨b0, h1, h2⟩ := hq
      exact .inr ⟨e, by simpa using hc, b0, h1, h2.symm⟩
theorem killB_live {ks : List Nat} (b : Blk) (l : Loc) : (killB ks b).live l = b.live l := by cases b <;> rfl
theorem killB_frz {ks : List Nat} (b : Blk) (o : Nat) : (killB ks b).frz o = b.frz o := by cases b <;> rfl
theorem killB_own {C : Cx} {k : Nat} {l : Loc} {ks : List Nat} {b : Blk} (h : OwnOk C k l b) : OwnOk C k l (killB ks b) := by
  cases b with
  | box cs own fz => cases own <;> exact h
  | row => exact h

section
variable {C : Cx} {L : Nat → Loc} {h : Hp} {w : World}
/-- An array of the frame's own is cut short. -/
theorem MemL.retake (hm : MemL C L h w) {k e sz m : Nat} {xs : List PV} (hk : h k = some (.row e sz xs 0)) :
    MemL C L (rekey h [k] k (.row e sz (xs.take m) 0)) w ∧ ∀ x u, RepA w (Mst C L h) L h x u → RepA w (Mst C L (rekey h [k] k (.row e sz (xs.take m) 0))) L (rekey h [k] k (.row e sz (xs.take m) 0)) (killA [k] x) u := by
  have hM : ∀ b o, Mst C L (rekey h [k] k (.row e sz (xs.take m) 0)) b o → Mst C L h b o := by
    rintro b o (h0 | ⟨q, blk, hq, hl, hb, hf⟩)
    · exact .inl h0
    · rcases rekey_get hq with ⟨rfl, rfl⟩ | ⟨_, _, b0, h1, rfl⟩
      · exact .inr ⟨q, _, hk, hl, hb, hf⟩
      · rw [killB_live] at hl; rw [killB_frz] at hf
        exact .inr ⟨q, b0, h1, hl, hb, hf⟩
  have hp := Pres.sub (w := w) hM
  have hkc : KC L (fun q => if [k].contains q = true then none else (h q).map (killB [k])) L (rekey h [k] k (.row e sz (xs.take m) 0)) := by
    intro q blk hq
    simp only at hq
    split at hq
    · cases hq
    · rename_i hc
      have hne : q ≠ k := by simpa using hc
      refine ⟨blk, ?_, compat_refl _ _⟩
      simp only [rekey, if_neg hne, if_neg hc]; exact hq
  have hrep : ∀ x u, RepA w (Mst C L h) L h x u → RepA w (Mst C L (rekey h [k] k (.row e sz (xs.take m) 0))) L (rekey h [k] k (.row e sz (xs.take m) 0)) (killA [k] x) u :=
    fun x u hx => (killA_rep2 (ks := [k]) hp hx).mono (Pres.refl _ _) hkc
  refine ⟨⟨hm.ext, hm.m0, ?_, ?_, ?_⟩, hrep⟩
  · intro q blk hq
    rcases rekey_get hq with ⟨rfl, rfl⟩ | ⟨_, _, b0, h1, rfl⟩
    · obtain ⟨g1, g2, g3, g4, g5⟩ := hm.bl q _ hk
      refine ⟨g1, Nat.zero_le _, fun x hx => g3 x (List.mem_of_mem_take hx), fun hn => by rw [g4 hn]; simp, fun hn => ?_⟩
      obtain ⟨a1, a2, arr, a3, a4, a5⟩ := g5 hn
      refine ⟨by rw [List.length_take]; omega, a2, arr, a3, a4, fun i x j p hx hj => ?_⟩
      rw [List.getElem?_take] at hx
      split at hx
      · obtain ⟨u, hu, hr⟩ := a5 i x j p hx hj
        exact ⟨u, hu, hr.mono hp⟩
      · cases hx
    · have := hm.bl q b0 h1
      cases b0 with
      | box cs own fz =>
        obtain ⟨arr, ty, e1, e2⟩ := this
        refine ⟨arr, ty, e1, by simpa using e2.1, fun i p u hp' hu => ?_⟩
        simp only [List.getElem?_map, Option.map_eq_some_iff] at hp'
        obtain ⟨y, hy, rfl⟩ := hp'
        exact hrep _ _ (e2.2 i y u hy hu)
      | row e' sz' ys fz =>
        obtain ⟨a1, a2, a3, a4, a5⟩ := this
        refine ⟨a1, a2, a3, a4, fun hn => ?_⟩
        obtain ⟨b1, b2, arr, b3, b4, b5⟩ := a5 hn
        exact ⟨b1, b2, arr, b3, b4, fun i x j p hx hj => by obtain ⟨u, hu, hr⟩ := b5 i x j p hx hj; exact ⟨u, hu, hr.mono hp⟩⟩
  · intro q q' b1 b2 hne hq hq' hl hl'
    have aux : ∀ {q b}, rekey h [k] k (.row e sz (xs.take m) 0) q = some b → b.live (L q) → ∃ b0, h q = some b0 ∧ b0.live (L q) := by
      intro q b hq hl
      rcases rekey_get hq with ⟨rfl, rfl⟩ | ⟨_, _, b0, h1, rfl⟩
      · exact ⟨_, hk, hl⟩
      · rw [killB_live] at hl; exact ⟨b0, h1, hl⟩
    obtain ⟨c1, d1, f1⟩ := aux hq hl
    obtain ⟨c2, d2, f2⟩ := aux hq' hl'
    exact hm.sep q q' c1 c2 hne d1 d2 f1 f2
  · intro q blk hq
    rcases rekey_get hq with ⟨rfl, rfl⟩ | ⟨_, _, b0, h1, rfl⟩
    · have h9 := hm.own q _ hk; exact h9
    · exact killB_own (hm.own q b0 h1)

/-- The contract of a function that writes an array of the caller's and takes another one over (its last two arguments). -/
def DetS (P : Program) (f : FuncId) (ps : List PV) (e1 sz1 : Nat) (xs xs' : List PV) (e2 sz2 : Nat) (ys : List PV) : Prop :=
  callable P f = true ∧ xs'.length = xs.length ∧ ∀ (w : World) (M : Nat → Nat → Prop) (l1 l2 : Loc) (vs : List Value), (∀ b o, M b o → b < w.heap.size) → l1.isNil = false → (l2.isNil = false → l2.b ≠ l1.b) →
    (∀ o, M l1.b o) → (l2.isNil = false → ∀ o, M l2.b o) → RepL w M ps vs → BlkRel w M (fun _ => default) (fun _ => none) l1 (.row e1 sz1 xs 0) → BlkRel w M (fun _ => default) (fun _ => none) l2 (.row e2 sz2 ys 0) →
    Calls P f (vs ++ [l1.slice xs.length, l2.slice ys.length]).toArray w fun e w' => (∃ v, e = .returned v) ∧ Ext (fun b => b = l1.b ∨ (l2.isNil = false ∧ b = l2.b)) w w' ∧
      BlkRel w' (fun b o => M b o ∧ ¬ (l2.isNil = false ∧ b = l2.b)) (fun _ => default) (fun _ => none) l1 (.row e1 sz1 xs' 0)

/-- The world behind such a call. -/
theorem MemL.handStep (hm : MemL C L h w) {w' : World} {k1 k2 e1 sz1 e2 sz2 : Nat} {xs xs' ys : List PV} (h1 : h k1 = some (.row e1 sz1 xs 0)) (h2 : h k2 = some (.row e2 sz2 ys 0)) (hne : k1 ≠ k2) (hn1 : (L k1).isNil = false) (hlen : xs'.length = xs.length)
    (hx : Ext (fun b => b = (L k1).b ∨ ((L k2).isNil = false ∧ b = (L k2).b)) w w')
    (hb : BlkRel w' (fun b o => Mst C L h b o ∧ ¬ ((L k2).isNil = false ∧ b = (L k2).b)) (fun _ => default) (fun _ => none) (L k1) (.row e1 sz1 xs' 0)) :
    MemL C L (rekey h [k2] k1 (.row e1 sz1 xs' 0)) w' ∧ ∀ x u, RepA w (Mst C L h) L h x u → RepA w' (Mst C L (rekey h [k2] k1 (.row e1 sz1 xs' 0))) L (rekey h [k2] k1 (.row e1 sz1 xs' 0)) (killA [k2] x) u := by
  have aux : ∀ {q b}, rekey h [k2] k1 (.row e1 sz1 xs' 0) q = some b → q ≠ k2 ∧ ∃ b0, h q = some b0 ∧ (b.live (L q) → b0.live (L q)) ∧ (∀ o, ¬ b.frz o → ¬ b0.frz o) := by
    intro q b hq
    rcases rekey_get hq with ⟨rfl, rfl⟩ | ⟨_, hn, b0, h9, rfl⟩
    · exact ⟨hne, _, h1, id, fun _ => id⟩
    · refine ⟨by simpa using hn, b0, h9, ?_, ?_⟩
      · rw [killB_live]; exact id
      · intro o; rw [killB_frz]; exact id
  have hM : ∀ b o, Mst C L (rekey h [k2] k1 (.row e1 sz1 xs' 0)) b o → Mst C L h b o ∧ ¬ ((L k2).isNil = false ∧ b = (L k2).b) := by
    rintro b o (h0 | ⟨q, blk, hq, hl, hbq, hf⟩)
    · refine ⟨.inl h0, ?_⟩
      rintro ⟨hn2, rfl⟩
      have := hm.m0 _ _ h0
      rcases (hm.own k2 _ h2).row hn2 with h9 | h9
      · omega
      · exact h9.2 _ h0
    · obtain ⟨hq2, b0, h9, hl9, hf9⟩ := aux hq
      refine ⟨.inr ⟨q, b0, h9, hl9 hl, hbq, hf9 o hf⟩, ?_⟩
      rintro ⟨hn2, hb2⟩
      exact hm.sep q k2 b0 _ hq2 h9 h2 (hl9 hl) hn2 (hbq.trans hb2)
  have hout : ∀ b o, ¬ Mst C L h b o → ¬ (b = (L k1).b ∨ ((L k2).isNil = false ∧ b = (L k2).b)) := by
    rintro b o hn (rfl | ⟨hn2, rfl⟩)
    · exact hn (.inr ⟨k1, _, h1, hn1, rfl, by simp [Blk.frz]⟩)
    · exact hn (.inr ⟨k2, _, h2, hn2, rfl, by simp [Blk.frz]⟩)
  have hp : Pres w (Mst C L h) w' (Mst C L (rekey h [k2] k1 (.row e1 sz1 xs' 0))) := fun b o v hc hn =>
    ⟨(hx.cell (cell_lt hc) (hout b o hn)).trans hc, fun h9 => hn (hM b o h9).1⟩
  have hkc : KC L (fun q => if [k2].contains q = true then none else (h q).map (killB [k2])) L (rekey h [k2] k1 (.row e1 sz1 xs' 0)) := by
    intro q blk hq
    simp only at hq
    split at hq
    · cases hq
    · rename_i hc
      by_cases e : q = k1
      · subst e
        rw [h1] at hq
        simp only [Option.map_some, killB, Option.some.injEq] at hq
        subst hq
        exact ⟨.row e1 sz1 xs' 0, by simp [rekey], rfl, rfl, by omega, fun _ => rfl⟩
      · exact ⟨blk, by simp only [rekey, if_neg e, if_neg hc]; exact hq, compat_refl _ _⟩
  have hrep : ∀ x u, RepA w (Mst C L h) L h x u → RepA w' (Mst C L (rekey h [k2] k1 (.row e1 sz1 xs' 0))) L (rekey h [k2] k1 (.row e1 sz1 xs' 0)) (killA [k2] x) u :=
    fun x u hx9 => (killA_rep2 (ks := [k2]) hp hx9).mono (Pres.refl _ _) hkc
  refine ⟨⟨?_, hm.m0, ?_, ?_, ?_⟩, hrep⟩
  · refine hm.ext.trans hx (fun b hb0 hs => ?_)
    rcases hs with rfl | ⟨hn2, rfl⟩
    · rcases (hm.own k1 _ h1).row hn1 with h9 | h9
      · omega
      · exact h9.1
    · rcases (hm.own k2 _ h2).row hn2 with h9 | h9
      · omega
      · exact h9.1
  · intro q blk hq
    rcases rekey_get hq with ⟨rfl, rfl⟩ | ⟨hq1, hq2, b0, h9, rfl⟩
    · obtain ⟨g1, g2, g3, g4, g5⟩ := hb
      refine ⟨g1, g2, g3, g4, fun hn => ?_⟩
      obtain ⟨a1, a2, arr, a3, a4, a5⟩ := g5 hn
      exact ⟨a1, a2, arr, a3, a4, fun i x j p hx9 hj => by obtain ⟨u, hu, hr⟩ := a5 i x j p hx9 hj; exact ⟨u, hu, hr.mono (Pres.sub hM)⟩⟩
    · have hq2' : q ≠ k2 := by simpa using hq2
      have hsame : b0.live (L q) → w'.heap[(L q).b]? = w.heap[(L q).b]? := by
        intro hl
        refine hx.block _ ((hm.bl q b0 h9).lt hl) ?_
        rintro (h10 | ⟨hn2, h10⟩)
        · exact hm.sep q k1 b0 _ hq1 h9 h1 hl hn1 h10
        · exact hm.sep q k2 b0 _ hq2' h9 h2 hl hn2 h10
      have := hm.bl q b0 h9
      cases b0 with
      | box cs own fz =>
        obtain ⟨arr, ty, e1, e2⟩ := this
        refine ⟨arr, ty, (hsame trivial).trans e1, by simpa using e2.1, fun i p u hp' hu => ?_⟩
        simp only [List.getElem?_map, Option.map_eq_some_iff] at hp'
        obtain ⟨y, hy, rfl⟩ := hp'
        exact hrep _ _ (e2.2 i y u hy hu)
      | row e' sz' zs fz =>
        obtain ⟨a1, a2, a3, a4, a5⟩ := this
        refine ⟨a1, a2, a3, a4, fun hn => ?_⟩
        obtain ⟨b1, b2, arr, b3, b4, b5⟩ := a5 hn
        exact ⟨b1, b2, arr, (hsame hn).trans b3, b4, fun i x j p hx9 hj => by obtain ⟨u, hu, hr⟩ := b5 i x j p hx9 hj; exact ⟨u, hu, hr.mono hp⟩⟩
  · intro q q' b1 b2 hqq hq hq' hl hl'
    obtain ⟨_, c1, d1, f1, _⟩ := aux hq
    obtain ⟨_, c2, d2, f2, _⟩ := aux hq'
    exact hm.sep q q' c1 c2 hqq d1 d2 (f1 hl) (f2 hl')
  · intro q blk hq
    rcases rekey_get hq with ⟨rfl, rfl⟩ | ⟨_, _, b0, h9, rfl⟩
    · have h10 := hm.own q _ h1; exact h10
    · exact killB_own (hm.own q b0 h9)
end

section
variable {C : Cx} {Q : Exit → St → Prop} {st : St}
theorem wanted_none {ops : Array Oper} {a : Act} {o : Oper} (hg : o.guard = none) : Region.wanted o (yielded ops a.tmps) = true := by
  unfold Region.wanted; rw [hg]

/-- x = x[:m] -/
def TruncK (C : Cx) (hn : List Nat) (ops : Array Oper) (Q : St → Prop) (t : TypeId) (x y : Operand) (d : Nat) (post : List Oper) (st : St) : Prop :=
  ∃ k e sz n m kk, st.ev x = .arr k n ∧ st.ev y = .pv (.val (.int kk (m : Nat))) ∧ (∃ xs, st.h k = some (.row e sz xs 0) ∧ xs.length = n ∧ n ≠ 0 ∧ m ≤ n ∧ (∃ ti e' b z, tiOf C.P t = some ti ∧ ti.kind = .slice e' sz b z) ∧ d < C.N ∧
    evR C.P hn C.N ops Q post ((st.rekey [k] k (.row e sz (xs.take m) 0)).put (some d) (.arr k m) []))
theorem WP.trunc {hn : List Nat} {id : Nat} {ops : Array Oper} {pre post : List Oper} {o : Oper} {t : TypeId} {x y : Operand} {d : Nat} (hops : ops.toList = pre ++ o :: post) (hop : o.op = .slice t x none (some y) none) (hd : o.dst = some d) (hg : o.guard = none)
    (hq : evR C.P hn C.N ops (TruncK C hn ops (Q .normal) t x y d post) pre st) : WP C (.region id ops false) Q st := by
  intro a w hs
  refine wp_region_list ?_
  rw [hops]
  refine evR_soundA (fun st1 a1 w1 hs1 hq1 => ?_) hs hq
  obtain ⟨k, e, sz, n, m, kk, hxe, hye, xs, hk, hlen, hn0, hmn, ⟨ti, e', b', z', hti, hkd⟩, hdN, hrest⟩ := hq1
  obtain ⟨L, hm, hN, hdf, ht⟩ := hs1
  refine wpList_step (fun K hK => ?_)
  rw [wanted_none hg, if_pos rfl]
  have hxr := eval_rep ht x
  rw [hxe] at hxr
  have hxv : a1.eval x = (L k).slice n := by
    cases hxr with
    | arr hk2 hn2 hu =>
      rw [hk] at hk2; injection hk2 with hk2; injection hk2 with _ _ a3 _
      subst a3; exact hu hlen
  have hyr := eval_rep ht y
  rw [hye] at hyr
  have hyv : a1.eval y = .int kk (m : Nat) := by
    cases hyr with
    | pv hr => exact rep_val_inv hr
  have hlive : (L k).isNil = false ∧ xs.length ≤ (L k).cap := by
    rcases rowLive hm hk with ⟨_, h9⟩ | ⟨h9, h10, _⟩
    · rw [h9] at hlen; simp at hlen; omega
    · exact ⟨h9, h10⟩
  obtain ⟨hund, jt, hj, hjs, _, _⟩ := kind_slice hti hkd
  have hxs : a1.eval x = .slice (some ⟨(L k).b, 0, none⟩) n (L k).cap := by rw [hxv]; simp [Loc.slice, hlive.1]
  have hrun : (execOp a1.eval o).run C.P w1 = .ok (.value (.slice (some ⟨(L k).b, 0, none⟩) m (L k).cap)) w1 := by
    have hc0 : ¬ (L k).cap = 0 := by omega
    have hmc : (0 : Int) ≤ (m : Int) ∧ (m : Int) ≤ ((L k).cap : Int) := by omega
    have key : (Instr.sliceBounds true n (L k).cap none (some (.int kk (m : Nat))) none).run C.P w1 = .ok (0, m, (L k).cap) w1 := by
      simp [Instr.sliceBounds, Instr.sliceBound, asIntOf, hmc]
      try (intro h9; omega)
    have h2 : (Instr.sliceAt t (a1.eval x) none (some (a1.eval y)) none).run C.P w1 = .ok (.slice (some ⟨(L k).b, 0, none⟩) m (L k).cap) w1 := by
      rw [hxs, hyv]
      simp only [Instr.sliceAt, Sem.run_bind, run_under hund, Result.andThen_ok, Instr.slice, key, run_szOf hj, Sem.run_pure]
      simp [hc0, Addr.add]
    unfold execOp
    rw [hop]
    simp [h2]
  unfold Oper.wp
  rw [hrun]
  refine hK _ _ ?_
  obtain ⟨hm2, hrep⟩ := hm.retake (m := m) hk
  refine evR_sound (fun st' a' w' hs' hq' => ⟨st', hs', hq'⟩) (st := (st1.rekey [k] k (.row e sz (xs.take m) 0)).put (some d) (.arr k m) []) ?_ hrest
  refine ⟨L, hm2, ?_, ?_, fun n' => ?_⟩
  · rw [hd]; simp [Act.put, hN]
  · rw [hd]; exact hdf
  · rw [hd, getD_put (by rw [hN]; exact hdN)]
    simp only [St.put, upd]
    split
    · refine .arr (e := e) (sz := sz) (fz := 0) (xs := xs.take m) (by simp [St.rekey, Go.Ab.rekey, writes]) (by rw [List.length_take]; omega) (fun _ => ?_)
      simp [Loc.slice, hlive.1]
    · exact hrep _ _ (ht n')

/-- A call that writes an array and takes another one over. -/
def HandK (C : Cx) (Q : St → Prop) (f x0 x1 x2 : Operand) (d : Nat) (st : St) : Prop :=
  ∃ g p W k1 k2 e1 sz1 e2 sz2, ∃ xs xs' ys : List PV, calleeOf (st.ev f) = some (g, [], []) ∧ frz st.h (st.ev x0) = some (p, W) ∧ st.ev x1 = .arr k1 xs.length ∧ st.ev x2 = .arr k2 ys.length ∧
    writes st.h W k1 = some (.row e1 sz1 xs 0) ∧ writes st.h W k2 = some (.row e2 sz2 ys 0) ∧ k1 ≠ k2 ∧ xs ≠ [] ∧ DetS C.P g [p] e1 sz1 xs xs' e2 sz2 ys ∧
    d < C.N ∧ Q ((St.rekey ⟨st.t, writes st.h W⟩ [k2] k1 (.row e1 sz1 xs' 0)).put (some d) .undef [])
theorem WP.hand {hn : List Nat} {id : Nat} {ops : Array Oper} {pre : List Oper} {o : Oper} {f x0 x1 x2 : Operand} {ats : Array TypeId} {d : Nat} (hops : ops.toList = pre ++ [o]) (hop : o.op = .call { callee := .value f, args := #[x0, x1, x2], argTypes := ats }) (hd : o.dst = some d) (hg : o.guard = none)
    (hq : evR C.P hn C.N ops (HandK C (Q .normal) f x0 x1 x2 d) pre st) : WP C (.region id ops false) Q st := by
  intro a w hs
  refine wp_region_list ?_
  rw [hops]
  refine evR_soundA (fun st1 a1 w1 hs1 hq1 => ?_) hs hq
  obtain ⟨g, p, W, k1, k2, e1, sz1, e2, sz2, xs, xs', ys, hce, hfz, hx1, hx2, hk1, hk2, hne, hnil, ⟨hcall, hlen, hD⟩, hdN, hQ⟩ := hq1
  obtain ⟨L, hm, hN, hdf, ht⟩ := hs1
  refine wpList_step (fun K hK => ?_)
  rw [wanted_none hg, if_pos rfl]
  obtain ⟨vs, us, hfv, hv1, hv2⟩ := calleeOf_sound (eval_rep ht f) hce
  have hvs := hv1.nil_inv
  have hus := hv2.nil_inv
  subst hvs; subst hus
  obtain ⟨a1', a2, _⟩ := frz_sound hm (Froz.refl _) (eval_rep ht x0) hfz
  obtain ⟨hm1, hp1, hc1⟩ := a1'
  have val : ∀ {x : Operand} {k e sz : Nat} {zs : List PV}, st1.ev x = .arr k zs.length → writes st1.h W k = some (.row e sz zs 0) → a1.eval x = (L k).slice zs.length := by
    intro x k e sz zs hx hk
    have hr := (eval_rep ht x).mono hp1 hc1
    rw [hx] at hr
    cases hr with
    | arr hk2 hn2 hu =>
      rw [hk] at hk2; injection hk2 with hk2; injection hk2 with _ _ a3 _
      subst a3; exact hu rfl
  have hn1 : (L k1).isNil = false := by
    rcases rowLive hm1 hk1 with ⟨_, h9⟩ | ⟨h9, _⟩
    · exact absurd h9 hnil
    · exact h9
  have hcalls := hD w1 (Mst C L (writes st1.h W)) (L k1) (L k2) [a1.eval x0] (fun b o h => hm1.mlt h) hn1
    (fun hn2 => hm1.sep k2 k1 _ _ (fun e => hne e.symm) hk2 hk1 hn2 hn1)
    (fun o => .inr ⟨k1, _, hk1, hn1, rfl, by simp [Blk.frz]⟩) (fun hn2 o => .inr ⟨k2, _, hk2, hn2, rfl, by simp [Blk.frz]⟩)
    (.cons a2 .nil) (hm1.bl k1 _ hk1) (hm1.bl k2 _ hk2)
  have hrun : (execOp a1.eval o).run C.P w1 = .ok (.enter g ([a1.eval x0] ++ [(L k1).slice xs.length, (L k2).slice ys.length]).toArray) w1 := by
    unfold callable at hcall
    cases hfn : C.P.funcs[g]? with
    | none => rw [hfn] at hcall; cases hcall
    | some fn =>
      rw [hfn] at hcall
      simp only [Bool.and_eq_true, Bool.not_eq_true', beq_eq_false_iff_ne, ne_eq] at hcall
      have hb : fn.body.isNone = false := by cases hbb : fn.body <;> simp_all
      unfold execOp
      rw [hop]
      simp only [resolve, hfv, Deferred.ofValue, pure_bind, Sem.run_bind, Result.andThen_ok, invoke, callFunc, program, Sem.run, hfn]
      simp [hcall.2, hb, val hx1 hk1, val hx2 hk2]
  unfold Oper.wp
  rw [hrun]
  simp only [Oper.upon]
  refine hcalls.mono ?_
  rintro ee w' ⟨⟨v, rfl⟩, hx, hb⟩
  obtain ⟨hm2, hrep⟩ := hm1.handStep hk1 hk2 hne hn1 hlen hx hb
  refine hK _ _ ?_
  refine evR_sound (hn := hn) (l := []) (Q := Q .normal) (fun st' a' w' hs' hq' => ⟨st', hs', hq'⟩) (st := (St.rekey ⟨st1.t, writes st1.h W⟩ [k2] k1 (.row e1 sz1 xs' 0)).put (some d) .undef []) ?_ hQ
  refine ⟨L, hm2, ?_, ?_, fun n => ?_⟩
  · rw [hd]; simp [Act.put, hN]
  · rw [hd]; exact hdf
  · rw [hd, getD_put (by rw [hN]; exact hdN)]
    simp only [St.put, upd]
    split
    · exact .undef _
    · exact hrep _ _ ((ht n).mono hp1 hc1)
end
attribute [simp] St.rekey rekey

/-- The frame of such a function at its beginning. -/
def stS (ps : List PV) (e1 sz1 : Nat) (xs : List PV) (e2 sz2 : Nat) (ys : List PV) : St :=
  ⟨fun n => if n < ps.length then .pv (ps[n]?.getD default) else if n = ps.length then .arr 2000000 xs.length else if n = ps.length + 1 then .arr 1500000 ys.length else .undef,
   fun k => if k = 2000000 then some (.row e1 sz1 xs 0) else if k = 1500000 then some (.row e2 sz2 ys 0) else none⟩
def FinS (e1 sz1 : Nat) (xs' : List PV) : Exit → St → Prop
  | .normal, st => st.h 2000000 = some (.row e1 sz1 xs' 0)
  | .ret, st => st.h 2000000 = some (.row e1 sz1 xs' 0)
  | _, _ => False
@[simp] theorem finS_normal {e1 sz1 : Nat} {xs' : List PV} {st : St} : FinS e1 sz1 xs' .normal st = (st.h 2000000 = some (.row e1 sz1 xs' 0)) := rfl
@[simp] theorem finS_ret {e1 sz1 : Nat} {xs' : List PV} {st : St} : FinS e1 sz1 xs' .ret st = (st.h 2000000 = some (.row e1 sz1 xs' 0)) := rfl
theorem detS_of {P : Program} {f : FuncId} {fn : Func} {c : Code} (hf : P.funcs[f]? = some fn) (hb : fn.body = some c) (hcall : callable P f = true) (hres : fn.results = #[]) {ps : List PV} {e1 sz1 e2 sz2 : Nat} {xs xs' ys : List PV} (hlen : ps.length + 2 ≤ fn.ntmps) (hl : xs'.length = xs.length)
    (h : ∀ C : Cx, C.P = P → C.N = fn.ntmps → WP C c (FinS e1 sz1 xs') (stS ps e1 sz1 xs e2 sz2 ys)) : DetS P f ps e1 sz1 xs xs' e2 sz2 ys := by
  refine ⟨hcall, hl, fun w M l1 l2 vs hM hn1 hsep hM1 hM2 hvs hb1 hb2 => ?_⟩
  let C : Cx := { P := P, N := fn.ntmps, M0 := fun b o => M b o ∧ ¬ (b = l1.b ∨ (l2.isNil = false ∧ b = l2.b)), S := fun b => b = l1.b ∨ (l2.isNil = false ∧ b = l2.b), pb := fun _ => none, pr := fun k => if k = 2000000 then some l1 else none, hpr := (fun k hk => by rw [if_neg (by omega)]), w0 := w }
  let L : Nat → Loc := fun k => if k = 2000000 then l1 else l2
  have hL1 : L 2000000 = l1 := rfl
  have hL2 : L 1500000 = l2 := rfl
  have hkey : ∀ k blk, (stS ps e1 sz1 xs e2 sz2 ys).h k = some blk → (k = 2000000 ∧ blk = .row e1 sz1 xs 0) ∨ (k = 1500000 ∧ blk = .row e2 sz2 ys 0) := by
    intro k blk hk
    simp only [stS] at hk
    split at hk
    · rename_i e; injection hk with hk; exact .inl ⟨e, hk.symm⟩
    · split at hk
      · rename_i e; injection hk with hk; exact .inr ⟨e, hk.symm⟩
      · cases hk
  have hMst : ∀ b o, Mst C L (stS ps e1 sz1 xs e2 sz2 ys).h b o ↔ M b o := by
    intro b o
    constructor
    · rintro (h0 | ⟨k, blk, hk, hlv, hbb, hf⟩)
      · exact h0.1
      · rcases hkey k blk hk with ⟨rfl, rfl⟩ | ⟨rfl, rfl⟩
        · rw [← hbb]; exact hM1 o
        · rw [← hbb]; exact hM2 hlv o
    · intro hm
      by_cases h1 : b = l1.b
      · exact .inr ⟨2000000, .row e1 sz1 xs 0, rfl, hn1, h1.symm, by simp [Blk.frz]⟩
      · by_cases h2 : l2.isNil = false ∧ b = l2.b
        · exact .inr ⟨1500000, .row e2 sz2 ys 0, rfl, h2.1, h2.2.symm, by simp [Blk.frz]⟩
        · exact .inl ⟨hm, by rintro (h3 | h3); exact h1 h3; exact h2 h3⟩
  have hMeq : Mst C L (stS ps e1 sz1 xs e2 sz2 ys).h = M := by funext b o; exact propext (hMst b o)
  have hvl := hvs.1
  have hsim : Sim C (stS ps e1 sz1 xs e2 sz2 ys) { tmps := (vs ++ [l1.slice xs.length, l2.slice ys.length]).toArray ++ Array.replicate (fn.ntmps - (vs ++ [l1.slice xs.length, l2.slice ys.length]).toArray.size) undef, defers := [] } w := by
    refine ⟨L, ⟨Ext.refl _ _, fun b o h0 => hM b o h0.1, ?_, ?_, ?_⟩, ?_, QuietL.nil _, fun n => ?_⟩
    · intro k blk hk
      rw [hMeq]
      rcases hkey k blk hk with ⟨rfl, rfl⟩ | ⟨rfl, rfl⟩
      · exact hb1
      · exact hb2
    · intro k k' b1 b2 hne hk hk' hl1 hl2
      rcases hkey k b1 hk with ⟨rfl, rfl⟩ | ⟨rfl, rfl⟩ <;> rcases hkey k' b2 hk' with ⟨rfl, rfl⟩ | ⟨rfl, rfl⟩
      · exact absurd rfl hne
      · exact fun e => hsep hl2 e.symm
      · exact fun e => hsep hl1 e
      · exact absurd rfl hne
    · intro k blk hk
      rcases hkey k blk hk with ⟨rfl, rfl⟩ | ⟨rfl, rfl⟩
      · show OwnOk C 2000000 l1 _
        exact ⟨rfl, fun _ => ⟨.inl rfl, fun o h9 => h9.2 (.inl rfl)⟩⟩
      · show OwnOk C 1500000 l2 _
        exact fun hn2 => .inr ⟨.inr ⟨hn2, rfl⟩, fun o h9 => h9.2 (.inr ⟨hn2, rfl⟩)⟩
    · show ((vs ++ [l1.slice xs.length, l2.slice ys.length]).toArray ++ Array.replicate (fn.ntmps - (vs ++ [l1.slice xs.length, l2.slice ys.length]).toArray.size) undef).size = fn.ntmps
      simp; omega
    · rw [hMeq]
      have hget : ∀ v, (vs ++ [l1.slice xs.length, l2.slice ys.length])[n]? = some v → ((vs ++ [l1.slice xs.length, l2.slice ys.length]).toArray ++ Array.replicate (fn.ntmps - (vs ++ [l1.slice xs.length, l2.slice ys.length]).toArray.size) undef).getD n undef = v := by
        intro v hv
        rw [Array.getD_eq_getD_getElem?, Array.getElem?_append_left (by have := (List.getElem?_eq_some_iff.1 hv).1; simpa using this), List.getElem?_toArray, hv]; rfl
      by_cases c1 : n < ps.length
      · have hv : vs[n]? = some (vs[n]'(by omega)) := List.getElem?_eq_getElem _
        rw [hget _ (by rw [List.getElem?_append_left (by omega)]; exact hv)]
        show RepA w M L _ (if n < ps.length then _ else _) _
        rw [if_pos c1, List.getElem?_eq_getElem c1]
        exact .pv (hvs.2 n _ _ (List.getElem?_eq_getElem c1) hv)
      · by_cases c2 : n = ps.length
        · rw [hget (l1.slice xs.length) (by rw [List.getElem?_append_right (by omega), show n - vs.length = 0 by omega]; rfl)]
          show RepA w M L _ (if n < ps.length then _ else if n = ps.length then _ else _) _
          rw [if_neg c1, if_pos c2]
          exact .arr (e := e1) (sz := sz1) (fz := 0) (xs := xs) rfl (Nat.le_refl _) (fun _ => rfl)
        · by_cases c3 : n = ps.length + 1
          · rw [hget (l2.slice ys.length) (by rw [List.getElem?_append_right (by omega), show n - vs.length = 1 by omega]; rfl)]
            show RepA w M L _ (if n < ps.length then _ else if n = ps.length then _ else if n = ps.length + 1 then _ else _) _
            rw [if_neg c1, if_neg c2, if_pos c3]
            exact .arr (e := e2) (sz := sz2) (fz := 0) (xs := ys) rfl (Nat.le_refl _) (fun _ => rfl)
          · show RepA w M L _ (if n < ps.length then _ else if n = ps.length then _ else if n = ps.length + 1 then _ else _) _
            rw [if_neg c1, if_neg c2, if_neg c3]
            exact .undef _
  refine calls_of_wp_defers hf hb (wp_mono (h C rfl rfl _ w hsim) ?_)
  have hfin : ∀ (a' : Act) w' st', Sim C st' a' w' → st'.h 2000000 = some (.row e1 sz1 xs' 0) → QuietL P a'.defers ∧ ∃ v, (results fn a'.tmps).run P w' = .ok v w' ∧
      ((∃ v', Ending.returned v = .returned v') ∧ Ext (fun b => b = l1.b ∨ (l2.isNil = false ∧ b = l2.b)) w w' ∧ BlkRel w' (fun b o => M b o ∧ ¬ (l2.isNil = false ∧ b = l2.b)) (fun _ => default) (fun _ => none) l1 (.row e1 sz1 xs' 0)) := by
    rintro a' w' st' ⟨L', hm, hN, hdf, ht⟩ hk
    have hLe : L' 2000000 = l1 := by
      have := hm.own _ _ hk
      simp only [OwnOk] at this
      exact this.1
    have hbl := hm.bl _ _ hk
    rw [hLe] at hbl
    refine ⟨hdf, .tuple #[], ?_, ⟨_, rfl⟩, hm.ext, ?_⟩
    · unfold results
      rw [hres]
      simp [go_sem]
    · obtain ⟨g1, g2, g3, g4, g5⟩ := hbl
      refine ⟨g1, g2, g3, g4, fun hn => ?_⟩
      obtain ⟨a1, a2, arr, a3, a4, a5⟩ := g5 hn
      refine ⟨a1, a2, arr, a3, a4, fun i x j p hx hj => ?_⟩
      obtain ⟨u, hu, hr⟩ := a5 i x j p hx hj
      refine ⟨u, hu, hr.mono (Pres.sub ?_)⟩
      rintro b o ⟨h9, h10⟩
      by_cases hb9 : b = l1.b
      · exact .inr ⟨2000000, _, hk, by show (L' 2000000).isNil = false; rw [hLe]; exact hn1, by rw [hLe]; exact hb9.symm, by simp [Blk.frz]⟩
      · exact .inl ⟨h9, by rintro (h3 | h3); exact hb9 h3; exact h10 h3⟩
  rintro e a' w' ⟨st', hs', hq⟩
  cases e with
  | normal => obtain ⟨h1, v, h2, h3⟩ := hfin a' w' st' hs' hq; exact leaves_quiet h1 h2 h3
  | ret => obtain ⟨h1, v, h2, h3⟩ := hfin a' w' st' hs' hq; exact leaves_quiet h1 h2 h3
  | exit => exact hq.elim
  | goto => exact hq.elim
  | panic => exact hq.elim
  | outgrown => exact hq.elim
end Go.Ab
