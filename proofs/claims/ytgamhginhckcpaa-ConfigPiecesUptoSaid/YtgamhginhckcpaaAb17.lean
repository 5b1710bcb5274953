/- Regions that draw their order: one walk in the order of the text serves every order. -/
import Derived.Test.YtgamhginhckcpaaAb16
set_option linter.all false
namespace Go.Ab

/-! ### the combinatorics, one place at a time -/
section
variable {V : Type}
def comb (n : Nat) (wr : Nat → Option V) (x0 : V) (ls : Nat → Bool) : V := (List.range n).foldl (fun x i => if ls i = true then (wr i).getD x else x) x0

theorem comb_succ (n : Nat) (wr : Nat → Option V) (x0 : V) (ls : Nat → Bool) : comb (n + 1) wr x0 ls = if ls n = true then (wr n).getD (comb n wr x0 ls) else comb n wr x0 ls := by
  simp [comb, List.range_succ, List.foldl_append]
theorem comb_congr {n : Nat} {wr : Nat → Option V} {x0 : V} {ls ls' : Nat → Bool} (h : ∀ j, j < n → (wr j).isSome = true → ls j = ls' j) : comb n wr x0 ls = comb n wr x0 ls' := by
  induction n with
  | zero => rfl
  | succ n ih =>
    rw [comb_succ, comb_succ, ih (fun j hj => h j (by omega))]
    cases hw : wr n with
    | none => simp
    | some v => rw [h n (by omega) (by simp [hw])]
theorem comb_below {n i : Nat} {wr : Nat → Option V} {x0 : V} (hi : i ≤ n) : comb n wr x0 (fun j => decide (j < i)) = comb i wr x0 (fun _ => true) := by
  induction n with
  | zero => have : i = 0 := by omega
            subst this; rfl
  | succ n ih =>
    by_cases e : i = n + 1
    · subst e
      refine (comb_congr (fun j hj _ => ?_))
      simpa using hj
    · rw [comb_succ, ih (by omega)]
      have : ¬ n < i := by omega
      simp [this]
theorem comb_insert {n i : Nat} {wr : Nat → Option V} {x0 : V} {ls : Nat → Bool} (hi : i < n) (hlater : (wr i).isSome = true → ∀ j, i < j → j < n → (wr j).isSome = true → ls j = false) :
    comb n wr x0 (fun j => ls j || j == i) = (wr i).getD (comb n wr x0 ls) := by
  cases hw : wr i with
  | none =>
    simp only [Option.getD_none]
    refine comb_congr (fun j _ hj => ?_)
    have : j ≠ i := fun e => by rw [e, hw] at hj; cases hj
    simp [this]
  | some v =>
    simp only [Option.getD_some]
    have hl := hlater (by simp [hw])
    clear hlater
    induction n with
    | zero => omega
    | succ n ih =>
      rw [comb_succ]
      by_cases e : n = i
      · subst e; simp [hw]
      · have ih' := ih (by omega) (fun j h1 h2 => hl j h1 (by omega))
        rw [ih']
        have hne : (n == i) = false := by simpa using e
        simp only [hne, Bool.or_false]
        cases hwn : wr n with
        | none => simp
        | some u => rw [hl n (by omega) (by omega) (by simp [hwn])]; simp
end

/-! ### what must stand before what -/
def direct (ops : Array Oper) (i j : Nat) : Prop := ∃ o, ops[j]? = some o ∧ ∃ e ∈ o.after.toList, Region.binds .any e = true ∧ e.on = i
inductive Pre (ops : Array Oper) : Nat → Nat → Prop
  | one {i j : Nat} (h : direct ops i j) : Pre ops i j
  | step {i q j : Nat} (h : Pre ops i q) (h' : direct ops q j) : Pre ops i j

def maskOf (acc : List Nat) (es : List Edge) : Nat := es.foldl (fun s e => if Region.binds .any e = true then s ||| 2 ^ e.on ||| acc.getD e.on 0 else s) 0
def preTab : List Oper → List Nat → List Nat
  | [], acc => acc
  | o :: r, acc => preTab r (acc ++ [maskOf acc o.after.toList])

theorem maskOf_bit {acc : List Nat} {i : Nat} : ∀ (es : List Edge) (s : Nat), (es.foldl (fun s e => if Region.binds .any e = true then s ||| 2 ^ e.on ||| acc.getD e.on 0 else s) s).testBit i = true →
    s.testBit i = true ∨ ∃ e ∈ es, Region.binds .any e = true ∧ (e.on = i ∨ (acc.getD e.on 0).testBit i = true)
  | [], s, h => .inl h
  | e :: es, s, h => by
    simp only [List.foldl_cons] at h
    rcases maskOf_bit es _ h with h' | ⟨e', he', hb, hx⟩
    · split at h'
      · rename_i hb
        rw [Nat.testBit_or, Nat.testBit_or, Bool.or_eq_true, Bool.or_eq_true] at h'
        rcases h' with (h' | h') | h'
        · exact .inl h'
        · refine .inr ⟨e, by simp, hb, .inl ?_⟩
          rw [Nat.testBit_two_pow] at h'
          simpa using h'
        · exact .inr ⟨e, by simp, hb, .inr h'⟩
      · exact .inl h'
    · exact .inr ⟨e', by simp [he'], hb, hx⟩

theorem preTab_pre {ops : Array Oper} : ∀ {l : List Oper} {acc : List Nat}, (∀ j, l[j]? = ops[acc.length + j]?) → (∀ i j, (acc.getD j 0).testBit i = true → Pre ops i j) →
    ∀ i j, ((preTab l acc).getD j 0).testBit i = true → Pre ops i j
  | [], acc, _, h, i, j, hb => h i j hb
  | o :: l, acc, hl, h, i, j, hb => by
    refine preTab_pre (l := l) (acc := acc ++ [maskOf acc o.after.toList]) (fun j => ?_) ?_ i j hb
    · have := hl (j + 1)
      simp only [List.getElem?_cons_succ] at this
      rw [this]; congr 1; simp; omega
    · intro i j hb
      by_cases hj : j < acc.length
      · refine h i j ?_
        rwa [List.getD_eq_getElem?_getD, List.getElem?_append_left hj, ← List.getD_eq_getElem?_getD] at hb
      · by_cases hj2 : j = acc.length
        · subst hj2
          rw [List.getD_eq_getElem?_getD, List.getElem?_append_right (by omega)] at hb
          simp only [Nat.sub_self, List.getElem?_cons_zero, Option.getD_some, maskOf] at hb
          have h0 : ops[acc.length]? = some o := by have := hl 0; simpa using this.symm
          rcases maskOf_bit _ _ hb with h' | ⟨e, he, hbn, hx⟩
          · simp at h'
          · rcases hx with rfl | hx
            · exact .one ⟨o, h0, e, he, hbn, rfl⟩
            · exact .step (h i e.on hx) ⟨o, h0, e, he, hbn, rfl⟩
        · rw [List.getD_eq_getElem?_getD, List.getElem?_eq_none (by simp; omega)] at hb
          simp at hb

/-! ### the slots -/
def tmpsOf (xs : List Operand) : List Nat := xs.filterMap fun | .tmp t => some t | _ => none
def slotsR (ops : Array Oper) (o : Oper) : List Nat := tmpsOf o.op.operands.toList ++ (match o.guard with | some (j, _) => ((ops[j]?).bind (·.dst)).toList | none => [])
def slotConf (ops : Array Oper) (x y : Oper) : Bool :=
  (match x.dst with | some r => (slotsR ops y).contains r || y.dst == some r | none => false) || (match y.dst with | some r => (slotsR ops x).contains r | none => false)
def noSel (ops : Array Oper) : Bool := ops.toList.all fun o => match o.op with | .select .. => false | _ => true
def edgesBack (ops : Array Oper) : Bool := (List.range ops.size).all fun j => match ops[j]? with
  | some o => o.after.toList.all fun e => !Region.binds .any e || decide (e.on < j)
  | none => true
/-- The closed part of the check. -/
def slotOk (ops : Array Oper) : Bool :=
  let tab := preTab ops.toList []
  edgesBack ops && (List.range ops.size).all fun j => (List.range j).all fun i => match ops[i]?, ops[j]? with
    | some x, some y => !slotConf ops x y || (tab.getD j 0).testBit i
    | _, _ => true

/-! ### the walk -/
def touches : Op → Bool
  | .load .. | .store .. | .alloc _ | .box .. | .build .. | .buildSlice .. | .indexAddr .. | .fieldAddr .. | .makeSlice .. | .call _ | .assign _ => true
  | _ => false
def kset (o : Oper) (ρ : Operand → AV) : List Nat := (if touches o.op then o.op.operands.toList.flatMap fun x => refs (ρ x) else []) ++ o.dst.toList
def restrict (K : List Nat) (h : Hp) : Hp := fun k => if K.contains k = true then h k else none
abbrev Acc := List (List Nat × List Nat)
def disj (a b : List Nat) : Bool := a.all fun x => !b.contains x
/-- The part of the check that goes by the keys. -/
def keyOk (tab : List Nat) (acc : Acc) : Bool :=
  (List.range acc.length).all fun j => (List.range j).all fun i => match acc[i]?, acc[j]? with
    | some (W, K), some (W', K') => (disj W K' && disj W' K) || (tab.getD j 0).testBit i
    | _, _ => true

def evD (P : Program) (hn : List Nat) (N : Nat) (ops : Array Oper) (Q : Acc → St → Prop) : List Oper → Acc → St → Prop
  | [], acc, st => Q acc st
  | o :: rest, acc, st => dstOk N o.dst = true ∧ (match guardV ops st.t o.guard with
      | some none => evO P hn o st.ev (restrict (kset o st.ev) st.h) (fun e => (e.2.all fun kb => (kset o st.ev).contains kb.1) = true ∧ evD P hn N ops Q rest (acc ++ [(e.2.map (·.1), kset o st.ev)]) (st.put o.dst e.1 e.2))
      | some (some (d, b, want)) => evB b d st (fun b' st' => if b' = want then evO P hn o st'.ev (restrict (kset o st'.ev) st'.h) (fun e => (e.2.all fun kb => (kset o st'.ev).contains kb.1) = true ∧ evD P hn N ops Q rest (acc ++ [(e.2.map (·.1), kset o st'.ev)]) (st'.put o.dst e.1 e.2))
        else evD P hn N ops Q rest (acc ++ [([], [])]) (st'.put o.dst (.pv (.val (.tuple #[]))) []))
      | none => False)

theorem evO_ex {P : Program} {hn : List Nat} {o : Oper} {ρ : Operand → AV} {h : Hp} {K : Eff → Prop} (e : evO P hn o ρ h K) : ∃ eff, evO P hn o ρ h (fun x => x = eff) ∧ K eff := by
  have hp : optThen (evOp P hn o ρ h) K → ∃ eff, optThen (evOp P hn o ρ h) (fun x => x = eff) ∧ K eff := by
    intro e
    unfold optThen at e ⊢
    split at e
    · rename_i eff _; exact ⟨eff, rfl, e⟩
    · exact e.elim
  unfold evO at e ⊢
  split at e
  · split at e
    · rename_i c hop f hcal
      unfold evCall at e ⊢
      split at e
      · exact e.elim
      · split at e
        · exact e.elim
        · split at e
          · exact e.elim
          · rename_i hd
            split at e
            · exact e.elim
            · obtain ⟨hout, res, hdet, he⟩ := e
              unfold optThen at he
              split at he
              · rename_i e0 heq
                refine ⟨e0, ?_, he⟩
                simp only [hd]
                exact ⟨hout, res, hdet, by unfold optThen; simp only [heq]⟩
              · exact he.elim
    · exact hp e
  · exact hp e

end Go.Ab
