/- The abstract memory of a frame and how it stands to the world; how it may change. -/
import Derived.Test.YtgamhginhckcpaaAb1
set_option linter.all false
namespace Go.Ab

def upd {α : Type} (f : Nat → α) (k : Nat) (v : α) : Nat → α := fun n => if n = k then v else f n
theorem upd_same {α : Type} (f : Nat → α) (k : Nat) (v : α) : upd f k v k = v := by simp [upd]
theorem upd_ne {α : Type} {f : Nat → α} {k n : Nat} {v : α} (h : n ≠ k) : upd f k v n = f n := by simp [upd, h]

structure Ext (S : Nat → Prop) (w w' : World) : Prop where
  os : w'.os = w.os
  tape : w'.tape = w.tape
  output : w'.output = w.output
  size : w.heap.size ≤ w'.heap.size
  block : ∀ b, b < w.heap.size → ¬ S b → w'.heap[b]? = w.heap[b]?

theorem Ext.refl (S : Nat → Prop) (w : World) : Ext S w w := ⟨rfl, rfl, rfl, Nat.le_refl _, fun _ _ _ => rfl⟩
theorem Ext.trans {S S' : Nat → Prop} {a b c : World} (h : Ext S a b) (k : Ext S' b c) (hs : ∀ x, x < a.heap.size → S' x → S x) : Ext S a c :=
  ⟨k.os.trans h.os, k.tape.trans h.tape, k.output.trans h.output, Nat.le_trans h.size k.size,
    fun i hi hn => (k.block i (Nat.lt_of_lt_of_le hi h.size) (fun hs' => hn (hs i hi hs'))).trans (h.block i hi hn)⟩
theorem Ext.cell {S : Nat → Prop} {w w' : World} (h : Ext S w w') {b o : Nat} (hb : b < w.heap.size) (hs : ¬ S b) : w'.cell? ⟨b, o, none⟩ = w.cell? ⟨b, o, none⟩ := by
  simp only [World.cell?, h.block b hb hs]
theorem Ext.alloc (S : Nat → Prop) (w : World) (o : Obj) : Ext S w (w.alloc o) :=
  ⟨rfl, rfl, rfl, by simp, fun b hb _ => RowKit.Below.heap_alloc w o b hb⟩
theorem Ext.drew (S : Nat → Prop) (w : World) : Ext S w w.drew := ⟨rfl, rfl, rfl, Nat.le_refl _, fun _ _ _ => rfl⟩

structure Cx where
  P : Program
  N : Nat
  M0 : Nat → Nat → Prop
  S : Nat → Prop
  pb : Nat → Option Nat
  w0 : World

def Blk.live : Blk → Loc → Prop
  | .box _ _ _, _ => True
  | .row _ _ _ _, l => l.isNil = false
def Blk.frz : Blk → Nat → Prop
  | .box _ _ fz, _ => fz = true
  | .row _ sz _ fz, o => o < fz * sz

/-- The cells that may still be written: those of the callers, and those of the own blocks that are not frozen. -/
def Mst (C : Cx) (L : Nat → Loc) (h : Hp) (b o : Nat) : Prop := C.M0 b o ∨ ∃ k blk, h k = some blk ∧ blk.live (L k) ∧ (L k).b = b ∧ ¬ blk.frz o

def BlkRel (w : World) (M : Nat → Nat → Prop) (L : Nat → Loc) (h : Hp) (l : Loc) : Blk → Prop
  | .box cs _ _ => ∃ arr ty, w.heap[l.b]? = some (.cells arr ty (0, 0)) ∧ RepAL w M L h cs arr.toList
  | .row e sz xs fz => 0 < sz ∧ fz ≤ xs.length ∧ (∀ x ∈ xs, x.cells.length = sz) ∧ (l.isNil = true → xs = []) ∧
      (l.isNil = false → xs.length ≤ l.cap ∧ l.cap ≤ maxLen ∧ ∃ arr, w.heap[l.b]? = some (.cells arr e (0, 0)) ∧ arr.size = l.cap * sz ∧
        ∀ (i : Nat) x (j : Nat) p, xs[i]? = some x → x.cells[j]? = some p → ∃ u, arr[i * sz + j]? = some u ∧ Rep w M p u)

def OwnOk (C : Cx) (k : Nat) (l : Loc) : Blk → Prop
  | .box _ false fz => fz = false ∧ C.pb k = some l.b ∧ C.S l.b ∧ l.b < C.w0.heap.size ∧ ∀ o, C.M0 l.b o
  | .box _ true _ => C.w0.heap.size ≤ l.b
  | .row _ _ _ _ => l.isNil = false → C.w0.heap.size ≤ l.b

structure MemL (C : Cx) (L : Nat → Loc) (h : Hp) (w : World) : Prop where
  ext : Ext C.S C.w0 w
  m0 : ∀ b o, C.M0 b o → b < C.w0.heap.size
  bl : ∀ k blk, h k = some blk → BlkRel w (Mst C L h) L h (L k) blk
  sep : ∀ k k' blk blk', k ≠ k' → h k = some blk → h k' = some blk' → blk.live (L k) → blk'.live (L k') → (L k).b ≠ (L k').b
  own : ∀ k blk, h k = some blk → OwnOk C k (L k) blk

theorem BlkRel.lt {w : World} {M : Nat → Nat → Prop} {L : Nat → Loc} {h : Hp} {l : Loc} {blk : Blk} (hb : BlkRel w M L h l blk) (hl : blk.live l) : l.b < w.heap.size := by
  have aux : ∀ {o : Obj}, w.heap[l.b]? = some o → l.b < w.heap.size := fun {o} e => by
    rcases Nat.lt_or_ge l.b w.heap.size with h' | h'
    · exact h'
    · rw [Array.getElem?_eq_none h'] at e; cases e
  cases blk with
  | box cs own fz => obtain ⟨arr, ty, e, _⟩ := hb; exact aux e
  | row e sz xs fz => obtain ⟨_, _, _, _, h5⟩ := hb; obtain ⟨_, _, arr, e, _⟩ := h5 hl; exact aux e

theorem MemL.mlt {C : Cx} {L : Nat → Loc} {h : Hp} {w : World} (hm : MemL C L h w) {b o : Nat} (hb : Mst C L h b o) : b < w.heap.size := by
  rcases hb with hb | ⟨k, blk, hk, hl, rfl, _⟩
  · exact Nat.lt_of_lt_of_le (hm.m0 b o hb) hm.ext.size
  · exact (hm.bl k blk hk).lt hl

theorem cell_lt {w : World} {b o : Nat} {v : Value} (h : w.cell? ⟨b, o, none⟩ = some v) : b < w.heap.size := World.block_lt_of_cell? w ⟨b, o, none⟩ h

theorem BlkRel.mono {w w' : World} {M M' : Nat → Nat → Prop} {L L' : Nat → Loc} {h h' : Hp} {l : Loc} {blk : Blk} (hb : BlkRel w M L h l blk) (hp : Pres w M w' M') (hc : KC L h L' h')
    (he : blk.live l → w'.heap[l.b]? = w.heap[l.b]?) : BlkRel w' M' L' h' l blk := by
  cases blk with
  | box cs own fz =>
    obtain ⟨arr, ty, e, hl, hr⟩ := hb
    exact ⟨arr, ty, (he trivial).trans e, hl, fun i p u h1 h2 => (hr i p u h1 h2).mono hp hc⟩
  | row et sz xs fz =>
    obtain ⟨h1, h2, h3, h4, h5⟩ := hb
    refine ⟨h1, h2, h3, h4, fun hn => ?_⟩
    obtain ⟨h6, h6', arr, e, h7, h8⟩ := h5 hn
    refine ⟨h6, h6', arr, (he hn).trans e, h7, fun i x j p hx hj => ?_⟩
    obtain ⟨u, hu, hr⟩ := h8 i x j p hx hj
    exact ⟨u, hu, hr.mono hp⟩

theorem BlkRel.same {w : World} {M : Nat → Nat → Prop} {L : Nat → Loc} {h : Hp} {l : Loc} {blk : Blk} {w' : World} {M' : Nat → Nat → Prop} {L' : Nat → Loc} {h' : Hp} {l' : Loc} (hb : BlkRel w M L h l blk)
    (e1 : w = w') (e2 : M = M') (e3 : L = L') (e4 : h = h') (e5 : l = l') : BlkRel w' M' L' h' l' blk := by subst e1; subst e2; subst e3; subst e4; subst e5; exact hb

theorem KC.trans {L L' L'' : Nat → Loc} {h h' h'' : Hp} (a : KC L h L' h') (b : KC L' h' L'' h'') : KC L h L'' h'' := by
  intro k blk hk
  obtain ⟨blk', h1, h2⟩ := a k blk hk
  obtain ⟨blk'', h3, h4⟩ := b k blk' h1
  refine ⟨blk'', h3, ?_⟩
  cases blk <;> cases blk' <;> cases blk'' <;> simp only [compat] at h2 h4 ⊢
  · rw [h4, h2]
  · obtain ⟨a0, a1, a2, a3⟩ := h2
    obtain ⟨b0, b1, b2, b3⟩ := h4
    refine ⟨b0.trans a0, b1.trans a1, by omega, fun e => ?_⟩
    rw [b3 (by omega), a3 (by omega)]

theorem KC.new {L : Nat → Loc} {h : Hp} {d : Nat} {l : Loc} {blk : Blk} (hd : h d = none) : KC L h (upd L d l) (upd h d (some blk)) := by
  intro k b hk
  have hne : k ≠ d := fun e => by rw [e, hd] at hk; cases hk
  exact ⟨b, by rw [upd_ne hne]; exact hk, by rw [upd_ne hne]; exact compat_refl _ _⟩

/-- A new block under a free key. -/
theorem MemL.newKey {C : Cx} {L : Nat → Loc} {h : Hp} {w w' : World} (hm : MemL C L h w) {d : Nat} (hd : h d = none) {l : Loc} {blk : Blk} (hx : Ext (fun _ => False) w w')
    (hown : blk.live l → w.heap.size ≤ l.b) (hown2 : ∀ cs fz, blk ≠ .box cs false fz)
    (hb : BlkRel w' (fun b o => Mst C L h b o ∨ (blk.live l ∧ b = l.b)) (upd L d l) (upd h d (some blk)) l blk) :
    MemL C (upd L d l) (upd h d (some blk)) w' ∧ Pres w (Mst C L h) w' (Mst C (upd L d l) (upd h d (some blk))) ∧ KC L h (upd L d l) (upd h d (some blk)) := by
  have hkc : KC L h (upd L d l) (upd h d (some blk)) := KC.new hd
  have hM : ∀ b o, Mst C (upd L d l) (upd h d (some blk)) b o → Mst C L h b o ∨ (blk.live l ∧ b = l.b) := by
    rintro b o (h0 | ⟨k, blk', hk, hl, hb', hf⟩)
    · exact .inl (.inl h0)
    · by_cases e : k = d
      · subst e
        rw [upd_same] at hk hl hb'
        injection hk with hk; subst hk
        exact .inr ⟨hl, hb'.symm⟩
      · rw [upd_ne e] at hk hl hb'
        exact .inl (.inr ⟨k, blk', hk, hl, hb', hf⟩)
  have hpres : Pres w (Mst C L h) w' (Mst C (upd L d l) (upd h d (some blk))) := by
    intro b o v hc hn
    have hlt := cell_lt hc
    refine ⟨(hx.cell hlt (fun h => h)).trans hc, fun hM' => ?_⟩
    rcases hM b o hM' with h1 | ⟨h1, h2⟩
    · exact hn h1
    · have := hown h1; omega
  refine ⟨⟨hm.ext.trans hx (fun _ _ h => h.elim), hm.m0, ?_, ?_, ?_⟩, hpres, hkc⟩
  · intro k blk' hk
    by_cases e : k = d
    · subst e
      rw [upd_same] at hk ⊢
      injection hk with hk; subst hk
      exact hb.mono (Pres.sub hM) (KC.refl _ _) (fun _ => rfl)
    · rw [upd_ne e] at hk ⊢
      exact (hm.bl k blk' hk).mono hpres hkc (fun hl => hx.block _ ((hm.bl k blk' hk).lt hl) (fun h => h))
  · intro k k' b1 b2 hne hk hk' hl hl'
    by_cases e : k = d
    · subst e
      have e' : k' ≠ k := fun e => hne e.symm
      rw [upd_ne e'] at hk' hl' ⊢
      rw [upd_same] at hk hl ⊢
      injection hk with hk; subst hk
      have := (hm.bl k' b2 hk').lt hl'
      have := hown hl
      omega
    · rw [upd_ne e] at hk hl ⊢
      by_cases e' : k' = d
      · subst e'
        rw [upd_same] at hk' hl' ⊢
        injection hk' with hk'; subst hk'
        have := (hm.bl k b1 hk).lt hl
        have := hown hl'
        omega
      · rw [upd_ne e'] at hk' hl' ⊢
        exact hm.sep k k' b1 b2 hne hk hk' hl hl'
  · intro k blk' hk
    by_cases e : k = d
    · subst e
      rw [upd_same] at hk ⊢
      injection hk with hk; subst hk
      have := hm.ext.size
      cases blk with
      | box cs own fz =>
        cases own with
        | false => exact absurd rfl (hown2 cs fz)
        | true => have := hown trivial; simp only [OwnOk]; omega
      | row e sz xs fz => intro hl; have := hown hl; omega
    · rw [upd_ne e] at hk ⊢
      exact hm.own k blk' hk

/-- A block changes in place: only unfrozen cells of it are written. -/
theorem MemL.touch {C : Cx} {L : Nat → Loc} {h : Hp} {w w' : World} (hm : MemL C L h w) {k : Nat} {blk blk' : Blk} (hk : h k = some blk)
    (hw : ∀ b, b < w.heap.size → (blk.live (L k) → b ≠ (L k).b) → w'.heap[b]? = w.heap[b]?) (hsz : w.heap.size ≤ w'.heap.size) (hos : w'.os = w.os) (htp : w'.tape = w.tape) (hout : w'.output = w.output)
    (hpr : ∀ o v, blk.live (L k) → blk.frz o → w.cell? ⟨(L k).b, o, none⟩ = some v → w'.cell? ⟨(L k).b, o, none⟩ = some v) (hfr : ∀ o, blk.frz o → blk'.frz o) (hcp : compat blk (L k) blk' (L k))
    (hlv : blk'.live (L k) ↔ blk.live (L k)) (hown : OwnOk C k (L k) blk')
    (hb : BlkRel w' (Mst C L (upd h k (some blk'))) L (upd h k (some blk')) (L k) blk') :
    MemL C L (upd h k (some blk')) w' ∧ Pres w (Mst C L h) w' (Mst C L (upd h k (some blk'))) ∧ KC L h L (upd h k (some blk')) := by
  have hkc : KC L h L (upd h k (some blk')) := by
    intro q b hq
    by_cases e : q = k
    · subst e; rw [hk] at hq; injection hq with hq; subst hq; exact ⟨blk', upd_same _ _ _, hcp⟩
    · exact ⟨b, by rw [upd_ne e]; exact hq, compat_refl _ _⟩
  have hM : ∀ b o, Mst C L (upd h k (some blk')) b o → Mst C L h b o := by
    rintro b o (h0 | ⟨q, b', hq, hl, hb', hf⟩)
    · exact .inl h0
    · by_cases e : q = k
      · subst e
        rw [upd_same] at hq; injection hq with hq; subst hq
        exact .inr ⟨q, blk, hk, hlv.1 hl, hb', fun hff => hf (hfr o hff)⟩
      · rw [upd_ne e] at hq
        exact .inr ⟨q, b', hq, hl, hb', hf⟩
  have hpres : Pres w (Mst C L h) w' (Mst C L (upd h k (some blk'))) := by
    intro b o v hc hn
    have hlt := cell_lt hc
    refine ⟨?_, fun hM' => hn (hM b o hM')⟩
    by_cases hl : blk.live (L k)
    · by_cases e : b = (L k).b
      · subst e
        by_cases hf : blk.frz o
        · exact hpr o v hl hf hc
        · exact absurd (Or.inr ⟨k, blk, hk, hl, rfl, hf⟩) hn
      · simp only [World.cell?, hw b hlt (fun _ => e)] at hc ⊢; exact hc
    · simp only [World.cell?, hw b hlt (fun hl' => absurd hl' hl)] at hc ⊢; exact hc
  refine ⟨⟨?_, hm.m0, ?_, ?_, ?_⟩, hpres, hkc⟩
  · refine ⟨hos.trans hm.ext.os, htp.trans hm.ext.tape, hout.trans hm.ext.output, Nat.le_trans hm.ext.size hsz, fun b hb' hS => ?_⟩
    rw [hw b (Nat.lt_of_lt_of_le hb' hm.ext.size), hm.ext.block b hb' hS]
    rintro hl rfl
    have h1 := hm.own k blk hk
    cases blk with
    | box cs own fz =>
      cases own with
      | false => exact hS h1.2.2.1
      | true => simp only [OwnOk] at h1; omega
    | row e sz xs fz => have := h1 hl; omega
  · intro q b' hq
    by_cases e : q = k
    · subst e
      rw [upd_same] at hq; injection hq with hq; subst hq
      exact hb
    · rw [upd_ne e] at hq
      exact (hm.bl q b' hq).mono hpres hkc (fun hl => hw _ ((hm.bl q b' hq).lt hl) (fun hl' e' => hm.sep q k b' blk e hq hk hl hl' e'))
  · intro q q' b1 b2 hne hq hq' hl hl'
    by_cases e : q = k
    · subst e
      rw [upd_same] at hq; injection hq with hq; subst hq
      rw [upd_ne (fun e => hne e.symm)] at hq'
      exact hm.sep q q' blk b2 hne hk hq' (hlv.1 hl) hl'
    · rw [upd_ne e] at hq
      by_cases e' : q' = k
      · subst e'
        rw [upd_same] at hq'; injection hq' with hq'; subst hq'
        exact hm.sep q q' b1 blk hne hq hk hl (hlv.1 hl')
      · rw [upd_ne e'] at hq'
        exact hm.sep q q' b1 b2 hne hq hq' hl hl'
  · intro q b' hq
    by_cases e : q = k
    · subst e; rw [upd_same] at hq; injection hq with hq; subst hq; exact hown
    · rw [upd_ne e] at hq; exact hm.own q b' hq

/-- A row moves to a new block (append, grown). -/
theorem MemL.move {C : Cx} {L : Nat → Loc} {h : Hp} {w w' : World} (hm : MemL C L h w) {k : Nat} {et sz fz : Nat} {xs xs' : List PV} (hk : h k = some (.row et sz xs fz)) (hx : Ext (fun _ => False) w w') {l' : Loc}
    (hown : l'.isNil = false ∧ w.heap.size ≤ l'.b) (hlen : xs.length < xs'.length)
    (hb : BlkRel w' (fun b o => Mst C L h b o ∨ b = l'.b) (upd L k l') (upd h k (some (.row et sz xs' fz))) l' (.row et sz xs' fz)) :
    MemL C (upd L k l') (upd h k (some (.row et sz xs' fz))) w' ∧ Pres w (Mst C L h) w' (Mst C (upd L k l') (upd h k (some (.row et sz xs' fz)))) ∧ KC L h (upd L k l') (upd h k (some (.row et sz xs' fz))) := by
  have hkc : KC L h (upd L k l') (upd h k (some (.row et sz xs' fz))) := by
    intro q b hq
    by_cases e : q = k
    · subst e; rw [hk] at hq; injection hq with hq; subst hq
      exact ⟨_, upd_same _ _ _, rfl, rfl, by omega, fun e => by omega⟩
    · exact ⟨b, by rw [upd_ne e]; exact hq, by rw [upd_ne e]; exact compat_refl _ _⟩
  have hM : ∀ b o, Mst C (upd L k l') (upd h k (some (.row et sz xs' fz))) b o → Mst C L h b o ∨ b = l'.b := by
    rintro b o (h0 | ⟨q, b', hq, hl, hb', hf⟩)
    · exact .inl (.inl h0)
    · by_cases e : q = k
      · subst e; rw [upd_same] at hb'; exact .inr hb'.symm
      · rw [upd_ne e] at hq hl hb'; exact .inl (.inr ⟨q, b', hq, hl, hb', hf⟩)
  have hpres : Pres w (Mst C L h) w' (Mst C (upd L k l') (upd h k (some (.row et sz xs' fz)))) := by
    intro b o v hc hn
    have hlt := cell_lt hc
    refine ⟨(hx.cell hlt (fun h => h)).trans hc, fun hM' => ?_⟩
    rcases hM b o hM' with h1 | h2
    · exact hn h1
    · omega
  refine ⟨⟨hm.ext.trans hx (fun _ _ h => h.elim), hm.m0, ?_, ?_, ?_⟩, hpres, hkc⟩
  · intro q b' hq
    by_cases e : q = k
    · subst e
      rw [upd_same] at hq ⊢
      injection hq with hq; subst hq
      exact hb.mono (Pres.sub hM) (KC.refl _ _) (fun _ => rfl)
    · rw [upd_ne e] at hq ⊢
      exact (hm.bl q b' hq).mono hpres hkc (fun hl => hx.block _ ((hm.bl q b' hq).lt hl) (fun h => h))
  · intro q q' b1 b2 hne hq hq' hl hl'
    by_cases e : q = k
    · subst e
      have e' : q' ≠ q := fun e => hne e.symm
      rw [upd_ne e'] at hq' hl' ⊢
      rw [upd_same] at hl ⊢
      have := (hm.bl q' b2 hq').lt hl'
      omega
    · rw [upd_ne e] at hq hl ⊢
      by_cases e' : q' = k
      · subst e'
        rw [upd_same] at hl' ⊢
        have := (hm.bl q b1 hq).lt hl
        omega
      · rw [upd_ne e'] at hq' hl' ⊢
        exact hm.sep q q' b1 b2 hne hq hq' hl hl'
  · intro q b' hq
    have := hm.ext.size
    by_cases e : q = k
    · subst e
      rw [upd_same] at hq ⊢
      injection hq with hq; subst hq
      intro _; omega
    · rw [upd_ne e] at hq ⊢; exact hm.own q b' hq

/-- New blocks that nobody owns; draws. -/
theorem MemL.grow {C : Cx} {L : Nat → Loc} {h : Hp} {w w' : World} (hm : MemL C L h w) (hx : Ext (fun _ => False) w w') : MemL C L h w' ∧ Pres w (Mst C L h) w' (Mst C L h) := by
  have hpres : Pres w (Mst C L h) w' (Mst C L h) := fun b o v hc hn => ⟨(hx.cell (cell_lt hc) (fun h => h)).trans hc, hn⟩
  exact ⟨⟨hm.ext.trans hx (fun _ _ h => h.elim), hm.m0, fun k blk hk => (hm.bl k blk hk).mono hpres (KC.refl _ _) (fun hl => hx.block _ ((hm.bl k blk hk).lt hl) (fun h => h)), hm.sep, hm.own⟩, hpres⟩

end Go.Ab
