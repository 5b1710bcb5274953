/- Plain facts: the boxes of the cells of a tree. -/
import Derived.Test.YtagmnknighofeaaTr1
set_option linter.all false
namespace Go.Ab
open Go.Proofs
theorem allV_iff {α : Type} {p : α → Bool} {xs : List α} : allB p xs = true ↔ ∀ x ∈ xs, p x = true := List.all_eq_true
abbrev Bx := List (Int × Int)
abbrev OL := List (Option Bx)
def encO : Option Bx → PV
  | none => .val (.slice none 0 0)
  | some b => iv b
def innerB (n i : Nat) (c : Cel) : Bool := decide ((i : Int) < c.low) && decide (c.low < n) && decide ((i : Int) < c.high) && decide (c.high < n) && decide (c.low ≠ c.high) && zeroB c.v
def bStep (n i : Nat) (c : Cel) (L : OL) : Option OL :=
  match L[i]? with
  | some (some b) =>
    if leafB c then (if inFormB c.v then some L else none)
    else if innerB n i c then
      if halveOk b c.joint then
        match L[c.low.toNat]?, L[c.high.toNat]? with
        | some none, some none => some ((L.set c.low.toNat (some (halveA b c.joint))).set c.high.toNat (some (halveZ b c.joint)))
        | _, _ => none
      else none
    else none
  | _ => none
def bRun (n : Nat) : List Cel → Nat → OL → Option OL
  | [], _, L => some L
  | c :: cs, i, L => match bStep n i c L with
    | some L' => bRun n cs (i + 1) L'
    | none => none
def bInit (t : Tr) : OL := some t.root :: List.replicate (t.cells.length - 1) none
def sizeOk (t : Tr) : Bool := decide (1 ≤ t.cells.length) && decide (t.cells.length ≤ 2048) && rootOk t.root
def boxesO (t : Tr) : Option OL := if sizeOk t then bRun t.cells.length t.cells 0 (bInit t) else none
def validT (t : Tr) : Bool := (boxesO t).isSome
def boxesL (t : Tr) : List Bx := match boxesO t with
  | some L => L.map fun x => x.getD []
  | none => []
theorem bStep_some {n i : Nat} {c : Cel} {L L' : OL} (h : bStep n i c L = some L') : ∃ b, L[i]? = some (some b) ∧
    ((leafB c = true ∧ inFormB c.v = true ∧ L' = L) ∨
     (leafB c = false ∧ innerB n i c = true ∧ halveOk b c.joint = true ∧ L[c.low.toNat]? = some none ∧ L[c.high.toNat]? = some none ∧
       L' = (L.set c.low.toNat (some (halveA b c.joint))).set c.high.toNat (some (halveZ b c.joint)))) := by
  unfold bStep at h
  split at h
  · rename_i b hb
    refine ⟨b, hb, ?_⟩
    split at h
    · rename_i hl
      split at h
      · rename_i hf
        injection h with h
        exact .inl ⟨hl, hf, h.symm⟩
      · cases h
    · rename_i hl
      split at h
      · rename_i hi
        split at h
        · rename_i hh
          split at h
          · rename_i h1 h2
            injection h with h
            exact .inr ⟨by simpa using hl, hi, hh, h1, h2, h.symm⟩
          · cases h
        · cases h
      · cases h
  · cases h
theorem innerB_iff {n i : Nat} {c : Cel} : innerB n i c = true ↔ (i : Int) < c.low ∧ c.low < n ∧ (i : Int) < c.high ∧ c.high < n ∧ c.low ≠ c.high ∧ zeroB c.v = true := by
  simp [innerB, and_assoc]
theorem bRun_ind {n : Nat} {P : Nat → OL → Prop} : ∀ (cs : List Cel) (i : Nat) (L L' : OL), bRun n cs i L = some L' → P i L →
    (∀ k c L L', cs[k]? = some c → P (i + k) L → bStep n (i + k) c L = some L' → P (i + k + 1) L') → P (i + cs.length) L'
  | [], i, L, L', h, h0, _ => by simp [bRun] at h; subst h; exact h0
  | c :: cs, i, L, L', h, h0, hs => by
    simp only [bRun] at h
    split at h
    · rename_i L1 h1
      have h2 := hs 0 c L L1 rfl h0 h1
      have := bRun_ind cs (i + 1) L1 L' h h2 (fun k d M M' hk hp hm => by
        have e : i + 1 + k = i + (k + 1) := by omega
        rw [e] at hp hm ⊢
        exact hs (k + 1) d M M' (by simpa using hk) hp hm)
      have e : i + (c :: cs).length = i + 1 + cs.length := by simp; omega
      rw [e]; exact this
    · cases h
theorem boxes_ind {t : Tr} {L : OL} {P : Nat → OL → Prop} (h : boxesO t = some L) (h0 : P 0 (bInit t))
    (hs : ∀ i c L L', t.cells[i]? = some c → P i L → bStep t.cells.length i c L = some L' → P (i + 1) L') : P t.cells.length L := by
  unfold boxesO at h
  split at h
  · have := bRun_ind t.cells 0 _ _ h h0 (fun k c M M' hk hp hm => by
      rw [Nat.zero_add] at hp hm ⊢; exact hs k c M M' hk hp hm)
    simpa using this
  · cases h
theorem boxesO_size {t : Tr} {L : OL} (h : boxesO t = some L) : sizeOk t = true := by
  unfold boxesO at h
  split at h
  · assumption
  · cases h
theorem sizeOk_iff {t : Tr} : sizeOk t = true ↔ 1 ≤ t.cells.length ∧ t.cells.length ≤ 2048 ∧ 1 ≤ t.root.length ∧ t.root.length ≤ 10 ∧ allB vI t.root = true := by
  simp [sizeOk, rootOk, and_assoc]
/-- What holds of the list of boxes while it is filled. -/
structure BOk (t : Tr) (i : Nat) (L : OL) : Prop where
  len : L.length = t.cells.length
  pre : ∀ j, j < i → ∃ b, L[j]? = some (some b)
  ok : ∀ (j : Nat) b, L[j]? = some (some b) → b.length = t.root.length ∧ allB vI b = true
theorem halve_len {b : Bx} {j : Int} (h : halveOk b j = true) : (halveA b j).length = b.length ∧ (halveZ b j).length = b.length := by
  unfold halveA halveZ
  rw [h]
  simp only [if_true]
  unfold halveOk at h
  split <;> simp_all
theorem validB_iff {lo hi : Int} : validB lo hi = true ↔ -2147483648 ≤ lo ∧ lo ≤ hi ∧ hi ≤ 2147483648 := by
  simp [validB, and_assoc]
theorem mid_rng {x : Int × Int} (h : validB x.1 x.2 = true) : midI x = (x.1 + x.2) / 2 := by
  unfold midI
  have h' := validB_iff.1 h
  rw [h, if_pos rfl, show wr (x.1 + x.2) = x.1 + x.2 from wr_id (by omega) (by omega), Int.fdiv_eq_ediv]
  simp
theorem hvOk_iff {b : Bx} {j : Int} : halveOk b j = true ↔ 0 ≤ j ∧ allB vI b = true ∧ ∃ x, b[j.toNat]? = some x ∧ 2 ≤ x.2 - x.1 := by
  unfold halveOk
  constructor
  · intro h
    simp only [Bool.and_eq_true, decide_eq_true_eq] at h
    obtain ⟨⟨h1, h2⟩, h3⟩ := h
    refine ⟨h1, h2, ?_⟩
    split at h3
    · rename_i x hx
      refine ⟨x, hx, ?_⟩
      have hv := validB_iff.1 (allV_iff.1 h2 _ (List.mem_of_getElem? hx))
      rw [decide_eq_true_eq, widthI, if_pos (allV_iff.1 h2 _ (List.mem_of_getElem? hx)), show wr (x.2 - x.1) = x.2 - x.1 from wr_id (by omega) (by omega)] at h3
      exact h3
    · cases h3
  · rintro ⟨h1, h2, x, hx, h3⟩
    have hv := validB_iff.1 (allV_iff.1 h2 _ (List.mem_of_getElem? hx))
    have hw : widthI x = x.2 - x.1 := by
      rw [widthI, if_pos (allV_iff.1 h2 _ (List.mem_of_getElem? hx))]
      exact wr_id (by omega) (by omega)
    simp [h1, h2, hx, hw, h3]
/-- The two halves. -/
theorem halve_eq {b : Bx} {j : Int} (h : halveOk b j = true) : ∃ x, b[j.toNat]? = some x ∧ validB x.1 x.2 = true ∧ 2 ≤ x.2 - x.1 ∧ halveA b j = b.set j.toNat (x.1, (x.1 + x.2) / 2) ∧ halveZ b j = b.set j.toNat ((x.1 + x.2) / 2, x.2) := by
  obtain ⟨_, h2, x, hx, h3⟩ := hvOk_iff.1 h
  have hv : validB x.1 x.2 = true := allV_iff.1 h2 _ (List.mem_of_getElem? hx)
  refine ⟨x, hx, hv, h3, ?_, ?_⟩
  · simp [halveA, h, hx, mid_rng hv]
  · simp [halveZ, h, hx, mid_rng hv]
theorem halve_valid {b : Bx} {j : Int} (h : halveOk b j = true) : allB vI (halveA b j) = true ∧ allB vI (halveZ b j) = true := by
  obtain ⟨x, hx, hv, h3, ea, ez⟩ := halve_eq h
  have h2 := (hvOk_iff.1 h).2.1
  have hv' := validB_iff.1 hv
  rw [ea, ez]
  constructor <;> refine allV_iff.2 fun y hy => ?_
  · rcases List.mem_or_eq_of_mem_set hy with h | rfl
    · exact allV_iff.1 h2 _ h
    · exact validB_iff.2 ⟨by omega, by simp only; omega, by simp only; omega⟩
  · rcases List.mem_or_eq_of_mem_set hy with h | rfl
    · exact allV_iff.1 h2 _ h
    · exact validB_iff.2 ⟨by simp only; omega, by simp only; omega, by omega⟩
theorem bok_init {t : Tr} (h : sizeOk t = true) : BOk t 0 (bInit t) := by
  obtain ⟨h1, h2, h3, h4, h5⟩ := sizeOk_iff.1 h
  refine ⟨by simp [bInit]; omega, fun j hj => by omega, fun j b hb => ?_⟩
  cases j with
  | zero => simp [bInit] at hb; subst hb; exact ⟨rfl, h5⟩
  | succ j => simp [bInit, List.getElem?_replicate] at hb
theorem set2_get {L : OL} {a z : Nat} {x y : Option Bx} {j : Nat} (hne : a ≠ z) (ha : a < L.length) (hz : z < L.length) : ((L.set a x).set z y)[j]? = if j = z then some y else if j = a then some x else L[j]? := by
  rw [List.getElem?_set]
  by_cases h1 : z = j
  · subst h1; simp [hz]
  · rw [if_neg h1, if_neg (fun h => h1 h.symm), List.getElem?_set]
    by_cases h2 : a = j
    · subst h2; simp [ha]
    · rw [if_neg h2, if_neg (fun h => h2 h.symm)]
theorem step_get {t : Tr} {i : Nat} {c : Cel} {L : OL} {x y : Option Bx} {j : Nat} (hl : L.length = t.cells.length) (hi : innerB t.cells.length i c = true) : ((L.set c.low.toNat x).set c.high.toNat y)[j]? = if j = c.high.toNat then some y else if j = c.low.toNat then some x else L[j]? := by
  obtain ⟨h1, h2, h3, h4, h5, _⟩ := innerB_iff.1 hi
  exact set2_get (by omega) (by omega) (by omega)
theorem bok_step {t : Tr} {i : Nat} {c : Cel} {L L' : OL} (h : BOk t i L) (hs : bStep t.cells.length i c L = some L') : BOk t (i + 1) L' := by
  obtain ⟨b, hb, ⟨_, _, rfl⟩ | ⟨_, hi, hh, hlo, hhi, rfl⟩⟩ := bStep_some hs
  · refine ⟨h.len, fun j hj => ?_, h.ok⟩
    by_cases e : j = i
    · subst e; exact ⟨b, hb⟩
    · exact h.pre j (by omega)
  · have hbo := h.ok i b hb
    refine ⟨by simpa using h.len, fun j hj => ?_, fun j d hd => ?_⟩
    · rw [step_get h.len hi]
      split
      · exact ⟨_, rfl⟩
      · split
        · exact ⟨_, rfl⟩
        · by_cases e : j = i
          · subst e; exact ⟨b, hb⟩
          · exact h.pre j (by omega)
    · rw [step_get h.len hi] at hd
      split at hd
      · injection hd with hd; injection hd with hd; subst hd
        exact ⟨by rw [(halve_len hh).2]; exact hbo.1, (halve_valid hh).2⟩
      · split at hd
        · injection hd with hd; injection hd with hd; subst hd
          exact ⟨by rw [(halve_len hh).1]; exact hbo.1, (halve_valid hh).1⟩
        · exact h.ok j d hd
/-- The loop's invariant. -/
structure BInv (t : Tr) (i : Nat) (L : OL) : Prop where
  bok : BOk t i L
  run : bRun t.cells.length (t.cells.drop i) i L = boxesO t
theorem binv_init {t : Tr} (h : sizeOk t = true) : BInv t 0 (bInit t) := ⟨bok_init h, by simp [boxesO, h]⟩
theorem binv_step {t : Tr} {i : Nat} {L L' : OL} (h : BInv t i L) (hlt : i < t.cells.length) (hs : bStep t.cells.length i t.cells[i] L = some L') : BInv t (i + 1) L' := by
  refine ⟨bok_step h.bok hs, ?_⟩
  rw [← h.run, List.drop_eq_getElem_cons hlt]
  simp only [bRun, hs]
theorem binv_none {t : Tr} {i : Nat} {L : OL} (h : BInv t i L) (hlt : i < t.cells.length) (hs : bStep t.cells.length i t.cells[i] L = none) : boxesO t = none := by
  rw [← h.run, List.drop_eq_getElem_cons hlt]
  simp only [bRun, hs]
theorem binv_done {t : Tr} {i : Nat} {L : OL} (h : BInv t i L) (hlt : ¬ i < t.cells.length) : boxesO t = some L := by
  rw [← h.run, List.drop_eq_nil_of_le (by omega)]
  rfl
theorem boxesO_ok {t : Tr} {L : OL} (h : boxesO t = some L) : BOk t t.cells.length L :=
  boxes_ind h (bok_init (boxesO_size h)) (fun _ _ _ _ _ hp hm => bok_step hp hm)
theorem boxesO_map {t : Tr} {L : OL} (h : boxesO t = some L) : L = (boxesL t).map some := by
  have ok := boxesO_ok h
  rw [boxesL, h]
  simp only [List.map_map]
  apply List.ext_getElem? ; intro j
  by_cases hj : j < L.length
  · obtain ⟨b, hb⟩ := ok.pre j (by rw [← ok.len]; exact hj)
    simp [hb]
  · simp [List.getElem?_eq_none (by omega : L.length ≤ j)]
theorem encO_map {t : Tr} {L : OL} (h : boxesO t = some L) : L.map encO = (boxesL t).map iv := by
  rw [boxesO_map h]
  simp [encO, Function.comp_def]
theorem boxesL_len {t : Tr} (h : validT t = true) : (boxesL t).length = t.cells.length := by
  obtain ⟨L, hL⟩ := Option.isSome_iff_exists.1 h
  have := (boxesO_ok hL).len
  rw [boxesO_map hL] at this
  simpa using this
theorem boxesL_ok {t : Tr} {j : Nat} {b : Bx} (hb : (boxesL t)[j]? = some b) : b.length = t.root.length ∧ allB vI b = true := by
  cases hL : boxesO t with
  | none => simp [boxesL, hL] at hb
  | some L =>
    have := (boxesO_ok hL).ok j b
    rw [boxesO_map hL] at this
    exact this (by simp [hb])
theorem valid_size {t : Tr} (h : validT t = true) : sizeOk t = true := by
  obtain ⟨L, hL⟩ := Option.isSome_iff_exists.1 h
  exact boxesO_size hL
theorem not_valid {t : Tr} (h : boxesO t = none) : validT t = false ∧ boxesL t = [] := by simp [validT, boxesL, h]
theorem step_leaf {t : Tr} {i : Nat} {L : OL} {b : Bx} {c : Cel} {n : Nat} (hb : L[i]? = some (some b)) (hl : leafB c = true) : bStep n i c L = if inFormB c.v then some L else none := by
  simp [bStep, hb, hl]
theorem step_inner {i : Nat} {L : OL} {b : Bx} {c : Cel} {n : Nat} (hb : L[i]? = some (some b)) (hl : leafB c = false) (hi : innerB n i c = true) (hh : halveOk b c.joint = true) (h1 : L[c.low.toNat]? = some none) (h2 : L[c.high.toNat]? = some none) : bStep n i c L = some ((L.set c.low.toNat (some (halveA b c.joint))).set c.high.toNat (some (halveZ b c.joint))) := by
  simp [bStep, hb, hl, hi, hh, h1, h2]
theorem step_bad {i : Nat} {L : OL} {b : Bx} {c : Cel} {n : Nat} (hb : L[i]? = some (some b)) (hl : leafB c = false) (h : innerB n i c = false ∨ halveOk b c.joint = false ∨ (∃ d, L[c.low.toNat]? = some (some d)) ∨ (∃ d, L[c.high.toNat]? = some (some d))) : bStep n i c L = none := by
  unfold bStep
  rw [hb]
  simp only [hl, Bool.false_eq_true, if_false]
  split
  · rename_i hi
    split
    · rename_i hh
      rcases h with h | h | ⟨d, h⟩ | ⟨d, h⟩
      · rw [hi] at h; cases h
      · rw [hh] at h; cases h
      · rw [h]
      · rw [h]; split
        · rename_i e1 e2; cases e2
        · rfl
    · rfl
  · rfl
end Go.Ab
