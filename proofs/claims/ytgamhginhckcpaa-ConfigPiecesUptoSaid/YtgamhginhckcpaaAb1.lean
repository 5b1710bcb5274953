/- The abstract state: values by content, owned blocks by key, and how they stand for the model's values and worlds. -/
import Derived.WalkKit
set_option linter.all false
namespace Go.Ab

/-- A value told by its content alone: what it stands for never changes any more. -/
inductive PV where
  | val (v : Value)
  | agg (cs : List PV)
  | sl (xs : List PV)
  | rptr (x : PV) (off : Nat)
  | fn (f : Fn) (first caps : List PV)
  | tup (vs : List PV)
  deriving Inhabited

def PV.cells : PV → List PV
  | .val v => v.cells.toList.map .val
  | .agg cs => cs
  | p => [p]

/-- Value 'v' in world 'w' is 'p'; none of the memory that it reaches is among the cells 'M'. -/
inductive Rep (w : World) (M : Nat → Nat → Prop) : PV → Value → Prop
  | val (v : Value) : Rep w M (.val v) v
  | agg (cs : List PV) (vs : List Value) (hl : cs.length = vs.length)
      (h : ∀ (i : Nat) p u, cs[i]? = some p → vs[i]? = some u → Rep w M p u) : Rep w M (.agg cs) (.agg vs.toArray)
  | sl0 (a : Option Addr) (c : Nat) : Rep w M (.sl []) (.slice a 0 c)
  | sl (xs : List PV) (b o c sz : Nat) (u : Nat → Nat → Value) (hcap : xs.length ≤ c)
      (hs : ∀ (i : Nat) x, xs[i]? = some x → x.cells.length = sz)
      (hc : ∀ (i : Nat) x (j : Nat) p, xs[i]? = some x → x.cells[j]? = some p → w.cell? ⟨b, o + (i * sz + j), none⟩ = some (u i j) ∧ ¬ M b (o + (i * sz + j)))
      (hr : ∀ (i : Nat) x (j : Nat) p, xs[i]? = some x → x.cells[j]? = some p → Rep w M p (u i j)) : Rep w M (.sl xs) (.slice (some ⟨b, o, none⟩) xs.length c)
  | rptr (x : PV) (b o off : Nat) (u : Nat → Value)
      (hc : ∀ (j : Nat) p, x.cells[j]? = some p → w.cell? ⟨b, o + j, none⟩ = some (u j) ∧ ¬ M b (o + j))
      (hr : ∀ (j : Nat) p, x.cells[j]? = some p → Rep w M p (u j)) : Rep w M (.rptr x off) (.pointer (some ⟨b, o + off, none⟩))
  | fn (f : Fn) (first caps : List PV) (vs us : List Value) (hl : first.length = vs.length) (hk : caps.length = us.length)
      (h : ∀ (i : Nat) p u, first[i]? = some p → vs[i]? = some u → Rep w M p u)
      (hh : ∀ (i : Nat) p u, caps[i]? = some p → us[i]? = some u → Rep w M p u) : Rep w M (.fn f first caps) (.func f vs.toArray us.toArray)
  | tup (cs : List PV) (vs : List Value) (hl : cs.length = vs.length)
      (h : ∀ (i : Nat) p u, cs[i]? = some p → vs[i]? = some u → Rep w M p u) : Rep w M (.tup cs) (.tuple vs.toArray)

/-- What is protected stays, and stays protected. -/
def Pres (w : World) (M : Nat → Nat → Prop) (w' : World) (M' : Nat → Nat → Prop) : Prop :=
  ∀ b o v, w.cell? ⟨b, o, none⟩ = some v → ¬ M b o → w'.cell? ⟨b, o, none⟩ = some v ∧ ¬ M' b o

theorem Rep.mono {w w' : World} {M M' : Nat → Nat → Prop} (hp : Pres w M w' M') {p : PV} {u : Value} (h : Rep w M p u) : Rep w' M' p u := by
  induction h with
  | val v => exact .val v
  | agg cs vs hl _ ih => exact .agg cs vs hl ih
  | sl0 a c => exact .sl0 a c
  | sl xs b o c sz u hcap hs hc _ ih => exact .sl xs b o c sz u hcap hs (fun i x j p hx hj => hp _ _ _ (hc i x j p hx hj).1 (hc i x j p hx hj).2) ih
  | rptr x b o off u hc _ ih => exact .rptr x b o off u (fun j p hj => hp _ _ _ (hc j p hj).1 (hc j p hj).2) ih
  | fn f first caps vs us hl hk _ _ ih ih' => exact .fn f first caps vs us hl hk ih ih'
  | tup cs vs hl _ ih => exact .tup cs vs hl ih

theorem Pres.refl (w : World) (M : Nat → Nat → Prop) : Pres w M w M := fun _ _ _ h hm => ⟨h, hm⟩
theorem Pres.trans {w w' w'' : World} {M M' M'' : Nat → Nat → Prop} (h : Pres w M w' M') (h' : Pres w' M' w'' M'') : Pres w M w'' M'' :=
  fun b o v hc hm => h' b o v (h b o v hc hm).1 (h b o v hc hm).2
theorem Pres.sub {w : World} {M M' : Nat → Nat → Prop} (h : ∀ b o, M' b o → M b o) : Pres w M w M' := fun _ _ _ hc hm => ⟨hc, fun hn => hm (h _ _ hn)⟩

/-- Pairs of lists. -/
def RepL (w : World) (M : Nat → Nat → Prop) (ps : List PV) (us : List Value) : Prop :=
  ps.length = us.length ∧ ∀ (i : Nat) p u, ps[i]? = some p → us[i]? = some u → Rep w M p u

theorem RepL.nil {w : World} {M : Nat → Nat → Prop} : RepL w M [] [] := ⟨rfl, fun i p u h => by simp at h⟩
theorem RepL.cons {w : World} {M : Nat → Nat → Prop} {p : PV} {u : Value} {ps : List PV} {us : List Value} (h : Rep w M p u) (hh : RepL w M ps us) : RepL w M (p :: ps) (u :: us) := by
  refine ⟨by simp [hh.1], fun i q v hq hv => ?_⟩
  cases i with
  | zero => simp at hq hv; subst hq; subst hv; exact h
  | succ i => exact hh.2 i q v (by simpa using hq) (by simpa using hv)
theorem RepL.cons_inv {w : World} {M : Nat → Nat → Prop} {p : PV} {ps : List PV} {us : List Value} (h : RepL w M (p :: ps) us) : ∃ u us', us = u :: us' ∧ Rep w M p u ∧ RepL w M ps us' := by
  cases us with
  | nil => exact absurd h.1 (by simp)
  | cons u us' => exact ⟨u, us', rfl, h.2 0 p u rfl rfl, by have := h.1; simpa using this, fun i q v hq hv => h.2 (i + 1) q v (by simpa using hq) (by simpa using hv)⟩
theorem RepL.nil_inv {w : World} {M : Nat → Nat → Prop} {us : List Value} (h : RepL w M [] us) : us = [] := by
  cases us with
  | nil => rfl
  | cons u us => exact absurd h.1 (by simp)
theorem RepL.mono {w w' : World} {M M' : Nat → Nat → Prop} (hp : Pres w M w' M') {ps : List PV} {us : List Value} (h : RepL w M ps us) : RepL w' M' ps us :=
  ⟨h.1, fun i p u hp' hu => (h.2 i p u hp' hu).mono hp⟩

def vals? : List PV → Option (List Value)
  | [] => some []
  | .val v :: r => (vals? r).map (v :: ·)
  | _ :: _ => none
/-- A struct or an array out of its cells. -/
def mkAgg (cs : List PV) : PV := match vals? cs with
  | some vs => .val (.agg vs.toArray)
  | none => .agg cs

theorem vals?_some {w : World} {M : Nat → Nat → Prop} : ∀ {cs : List PV} {vs us : List Value}, vals? cs = some vs → RepL w M cs us → us = vs
  | [], vs, us, h, hr => by simp [vals?] at h; subst h; exact hr.nil_inv
  | .val v :: r, vs, us, h, hr => by
    simp only [vals?, Option.map_eq_some_iff] at h
    obtain ⟨vs', h', rfl⟩ := h
    obtain ⟨u, us', rfl, hu, hr'⟩ := hr.cons_inv
    cases hu
    rw [vals?_some h' hr']
  | .agg _ :: _, _, _, h, _ => by simp [vals?] at h
  | .sl _ :: _, _, _, h, _ => by simp [vals?] at h
  | .rptr _ _ :: _, _, _, h, _ => by simp [vals?] at h
  | .fn _ _ _ :: _, _, _, h, _ => by simp [vals?] at h
  | .tup _ :: _, _, _, h, _ => by simp [vals?] at h

theorem rep_mkAgg {w : World} {M : Nat → Nat → Prop} {cs : List PV} {us : List Value} (h : RepL w M cs us) : Rep w M (mkAgg cs) (.agg us.toArray) := by
  unfold mkAgg
  split
  · rename_i vs hv; rw [vals?_some hv h]; exact .val _
  · exact .agg cs us h.1 h.2

/-- The cells of a value. -/
theorem Rep.cells {w : World} {M : Nat → Nat → Prop} {p : PV} {u : Value} (h : Rep w M p u) : RepL w M p.cells u.cells.toList := by
  have one : ∀ {q : PV} {v : Value}, Rep w M q v → RepL w M [q] [v] := fun hq => .cons hq .nil
  cases h with
  | val v =>
    refine ⟨by simp [PV.cells], fun i p u hp hu => ?_⟩
    simp only [PV.cells, List.getElem?_map, Option.map_eq_some_iff] at hp
    obtain ⟨v', hv', rfl⟩ := hp
    rw [hv'] at hu; injection hu with hu; subst hu
    exact .val _
  | agg cs vs hl hh => exact ⟨by simpa [PV.cells, Value.cells] using hl, fun i p u hp hu => hh i p u (by simpa [PV.cells] using hp) (by simpa [Value.cells] using hu)⟩
  | sl0 a c => exact one (.sl0 a c)
  | sl xs b o c sz u hcap hs hc hr => exact one (.sl xs b o c sz u hcap hs hc hr)
  | rptr x b o off u hc hr => exact one (.rptr x b o off u hc hr)
  | fn f first caps vs us hl hk h1 h2 => exact one (.fn f first caps vs us hl hk h1 h2)
  | tup cs vs hl hh => exact one (.tup cs vs hl hh)

/-! ## Abstract values with references to the frame's own blocks -/
inductive AV where
  | pv (p : PV)
  | ptr (k off : Nat)
  | arr (k n : Nat)
  | eptr (k n i off : Nat)
  | agg (cs : List AV)
  | fn (f : Fn) (first caps : List AV)
  | tup (vs : List AV)
  | undef
  deriving Inhabited

inductive Blk where
  | box (cs : List AV) (own fz : Bool)
  | row (e sz : Nat) (xs : List PV) (fz : Nat)
  deriving Inhabited

structure Loc where
  b : Nat
  cap : Nat
  isNil : Bool
  deriving Inhabited

def Loc.slice (l : Loc) (n : Nat) : Value := if l.isNil then .slice none 0 0 else .slice (some ⟨l.b, 0, none⟩) n l.cap

abbrev Hp := Nat → Option Blk

inductive RepA (w : World) (M : Nat → Nat → Prop) (L : Nat → Loc) (h : Hp) : AV → Value → Prop
  | pv {p : PV} {u : Value} (hr : Rep w M p u) : RepA w M L h (.pv p) u
  | ptr {k off : Nat} {cs : List AV} {own fz : Bool} (hk : h k = some (.box cs own fz)) : RepA w M L h (.ptr k off) (.pointer (some ⟨(L k).b, off, none⟩))
  | arr {k n e sz fz : Nat} {xs : List PV} {u : Value} (hk : h k = some (.row e sz xs fz)) (hn : n ≤ xs.length) (hu : xs.length = n → u = (L k).slice n) : RepA w M L h (.arr k n) u
  | eptr {k n i off e sz fz : Nat} {xs : List PV} {u : Value} (hk : h k = some (.row e sz xs fz)) (hn : n ≤ xs.length)
      (hu : xs.length = n → (L k).isNil = false ∧ u = .pointer (some ⟨(L k).b, i * sz + off, none⟩)) : RepA w M L h (.eptr k n i off) u
  | agg (cs : List AV) (vs : List Value) (hl : cs.length = vs.length)
      (hh : ∀ (i : Nat) p u, cs[i]? = some p → vs[i]? = some u → RepA w M L h p u) : RepA w M L h (.agg cs) (.agg vs.toArray)
  | fn (f : Fn) (first caps : List AV) (vs us : List Value) (hl : first.length = vs.length) (hk : caps.length = us.length)
      (h1 : ∀ (i : Nat) p u, first[i]? = some p → vs[i]? = some u → RepA w M L h p u)
      (h2 : ∀ (i : Nat) p u, caps[i]? = some p → us[i]? = some u → RepA w M L h p u) : RepA w M L h (.fn f first caps) (.func f vs.toArray us.toArray)
  | tup (cs : List AV) (vs : List Value) (hl : cs.length = vs.length)
      (hh : ∀ (i : Nat) p u, cs[i]? = some p → vs[i]? = some u → RepA w M L h p u) : RepA w M L h (.tup cs) (.tuple vs.toArray)
  | undef (u : Value) : RepA w M L h .undef u

/-- How a block may turn under the references to it. -/
def compat : Blk → Loc → Blk → Loc → Prop
  | .box _ _ _, l, .box _ _ _, l' => l'.b = l.b
  | .row e sz xs _, l, .row e' sz' xs' _, l' => e' = e ∧ sz' = sz ∧ xs.length ≤ xs'.length ∧ (xs'.length = xs.length → l' = l)
  | _, _, _, _ => False

def KC (L : Nat → Loc) (h : Hp) (L' : Nat → Loc) (h' : Hp) : Prop := ∀ k blk, h k = some blk → ∃ blk', h' k = some blk' ∧ compat blk (L k) blk' (L' k)

theorem compat_refl (blk : Blk) (l : Loc) : compat blk l blk l := by cases blk <;> simp [compat]
theorem KC.refl (L : Nat → Loc) (h : Hp) : KC L h L h := fun _ blk hk => ⟨blk, hk, compat_refl _ _⟩

theorem RepA.mono {w w' : World} {M M' : Nat → Nat → Prop} {L L' : Nat → Loc} {h h' : Hp} (hp : Pres w M w' M') (hc : KC L h L' h') {x : AV} {u : Value}
    (hx : RepA w M L h x u) : RepA w' M' L' h' x u := by
  induction hx with
  | pv hr => exact .pv (hr.mono hp)
  | @ptr k off cs own fz hk =>
    obtain ⟨blk', h1, h2⟩ := hc k _ hk
    cases blk' with
    | row => exact h2.elim
    | box cs' own' fz' => have h2 : (L' k).b = (L k).b := h2; rw [← h2]; exact .ptr h1
  | @arr k n e sz fz xs u hk hn hu =>
    obtain ⟨blk', h1, h2⟩ := hc k _ hk
    cases blk' with
    | box => exact h2.elim
    | row e' sz' xs' fz' =>
      obtain ⟨_, e1, e2, e3⟩ := h2
      refine .arr h1 (by omega) (fun e => ?_)
      have : xs'.length = xs.length := by omega
      rw [e3 this]; exact hu (by omega)
  | @eptr k n i off e sz fz xs u hk hn hu =>
    obtain ⟨blk', h1, h2⟩ := hc k _ hk
    cases blk' with
    | box => exact h2.elim
    | row e' sz' xs' fz' =>
      obtain ⟨_, e1, e2, e3⟩ := h2
      refine .eptr h1 (by omega) (fun e => ?_)
      have : xs'.length = xs.length := by omega
      rw [e3 this, e1]; exact hu (by omega)
  | agg cs vs hl _ ih => exact .agg cs vs hl ih
  | fn f first caps vs us hl hk _ _ ih ih' => exact .fn f first caps vs us hl hk ih ih'
  | tup cs vs hl _ ih => exact .tup cs vs hl ih
  | undef u => exact .undef u

def RepAL (w : World) (M : Nat → Nat → Prop) (L : Nat → Loc) (h : Hp) (ps : List AV) (us : List Value) : Prop :=
  ps.length = us.length ∧ ∀ (i : Nat) p u, ps[i]? = some p → us[i]? = some u → RepA w M L h p u

section
variable {w : World} {M : Nat → Nat → Prop} {L : Nat → Loc} {h : Hp}
theorem RepAL.nil : RepAL w M L h [] [] := ⟨rfl, fun i p u h => by simp at h⟩
theorem RepAL.cons {p : AV} {u : Value} {ps : List AV} {us : List Value} (h1 : RepA w M L h p u) (hh : RepAL w M L h ps us) : RepAL w M L h (p :: ps) (u :: us) := by
  refine ⟨by simp [hh.1], fun i q v hq hv => ?_⟩
  cases i with
  | zero => simp at hq hv; subst hq; subst hv; exact h1
  | succ i => exact hh.2 i q v (by simpa using hq) (by simpa using hv)
theorem RepAL.cons_inv {p : AV} {ps : List AV} {us : List Value} (h1 : RepAL w M L h (p :: ps) us) : ∃ u us', us = u :: us' ∧ RepA w M L h p u ∧ RepAL w M L h ps us' := by
  cases us with
  | nil => exact absurd h1.1 (by simp)
  | cons u us' => exact ⟨u, us', rfl, h1.2 0 p u rfl rfl, by have := h1.1; simpa using this, fun i q v hq hv => h1.2 (i + 1) q v (by simpa using hq) (by simpa using hv)⟩
theorem RepAL.nil_inv {us : List Value} (h1 : RepAL w M L h [] us) : us = [] := by
  cases us with
  | nil => rfl
  | cons u us => exact absurd h1.1 (by simp)
theorem RepAL.append {ps qs : List AV} {us vs : List Value} (h1 : RepAL w M L h ps us) (h2 : RepAL w M L h qs vs) : RepAL w M L h (ps ++ qs) (us ++ vs) := by
  refine ⟨by simp [h1.1, h2.1], fun i p u hp hu => ?_⟩
  by_cases hi : i < ps.length
  · rw [List.getElem?_append_left hi] at hp
    rw [List.getElem?_append_left (by have := h1.1; omega)] at hu
    exact h1.2 i p u hp hu
  · rw [List.getElem?_append_right (by omega)] at hp
    rw [List.getElem?_append_right (by have := h1.1; omega)] at hu
    refine h2.2 _ p u hp ?_
    rw [h1.1]; exact hu
theorem RepAL.map_pv {ps : List PV} {us : List Value} (h1 : RepL w M ps us) : RepAL w M L h (ps.map .pv) us := by
  refine ⟨by simpa using h1.1, fun i p u hp hu => ?_⟩
  simp only [List.getElem?_map, Option.map_eq_some_iff] at hp
  obtain ⟨q, hq, rfl⟩ := hp
  exact .pv (h1.2 i q u hq hu)
theorem RepAL.map_pv_inv {ps : List PV} {us : List Value} (h1 : RepAL w M L h (ps.map .pv) us) : RepL w M ps us := by
  refine ⟨by simpa using h1.1, fun i p u hp hu => ?_⟩
  have := h1.2 i (.pv p) u (by simp [hp]) hu
  cases this; assumption
end

def AV.cells : AV → List AV
  | .pv p => p.cells.map .pv
  | .agg cs => cs
  | x => [x]

def pvs? : List AV → Option (List PV)
  | [] => some []
  | .pv p :: r => (pvs? r).map (p :: ·)
  | _ :: _ => none
def mkAggA (cs : List AV) : AV := match pvs? cs with
  | some ps => .pv (mkAgg ps)
  | none => .agg cs

theorem pvs?_some : ∀ {cs : List AV} {ps : List PV}, pvs? cs = some ps → cs = ps.map .pv
  | [], ps, h => by simp [pvs?] at h; subst h; rfl
  | .pv p :: r, ps, h => by
    simp only [pvs?, Option.map_eq_some_iff] at h
    obtain ⟨ps', h', rfl⟩ := h
    rw [pvs?_some h']; rfl
  | .ptr _ _ :: _, _, h => by simp [pvs?] at h
  | .arr _ _ :: _, _, h => by simp [pvs?] at h
  | .eptr _ _ _ _ :: _, _, h => by simp [pvs?] at h
  | .agg _ :: _, _, h => by simp [pvs?] at h
  | .fn _ _ _ :: _, _, h => by simp [pvs?] at h
  | .tup _ :: _, _, h => by simp [pvs?] at h
  | .undef :: _, _, h => by simp [pvs?] at h

theorem repA_mkAggA {w : World} {M : Nat → Nat → Prop} {L : Nat → Loc} {h : Hp} {cs : List AV} {us : List Value} (h1 : RepAL w M L h cs us) : RepA w M L h (mkAggA cs) (.agg us.toArray) := by
  unfold mkAggA
  split
  · rename_i ps hp
    rw [pvs?_some hp] at h1
    exact .pv (rep_mkAgg h1.map_pv_inv)
  · exact .agg cs us h1.1 h1.2

theorem RepA.cells {w : World} {M : Nat → Nat → Prop} {L : Nat → Loc} {h : Hp} {x : AV} {u : Value} (hx : RepA w M L h x u) (hne : x ≠ .undef) : RepAL w M L h x.cells u.cells.toList ∨ (∃ k n, x = .arr k n) ∨ (∃ k n i o, x = .eptr k n i o) := by
  have one : ∀ {q : AV} {v : Value}, RepA w M L h q v → RepAL w M L h [q] [v] := fun hq => .cons hq .nil
  cases hx with
  | pv hr => exact .inl (RepAL.map_pv hr.cells)
  | ptr hk => exact .inl (one (.ptr hk))
  | arr => exact .inr (.inl ⟨_, _, rfl⟩)
  | eptr => exact .inr (.inr ⟨_, _, _, _, rfl⟩)
  | agg cs vs hl hh => exact .inl ⟨by simpa [AV.cells, Value.cells] using hl, fun i p u hp hu => hh i p u (by simpa [AV.cells] using hp) (by simpa [Value.cells] using hu)⟩
  | fn f first caps vs us hl hk h1 h2 => exact .inl (one (.fn f first caps vs us hl hk h1 h2))
  | tup cs vs hl hh => exact .inl (one (.tup cs vs hl hh))
  | undef => exact absurd rfl hne

end Go.Ab
