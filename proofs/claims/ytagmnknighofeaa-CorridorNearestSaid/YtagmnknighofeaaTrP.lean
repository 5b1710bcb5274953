/- Plain facts: splitting and settling keep a tree valid. -/
import Derived.Test.YtagmnknighofeaaTr2
set_option linter.all false
namespace Go.Ab
open Go.Proofs
def zeroV : Verd := ⟨0, [], 0, [], []⟩
def leafC (v : Verd) : Cel := ⟨-1, -1, -1, v⟩
theorem leafB_eq {c : Cel} (h : leafB c = true) : c = leafC c.v := by
  cases c; simp [leafB] at h; simp [leafC, h]
theorem leafC_leaf (v : Verd) : leafB (leafC v) = true := by simp [leafB, leafC]
theorem zeroV_zero : zeroB zeroV = true := by simp [zeroB, zeroV, emptyW]
theorem zeroV_form : inFormB zeroV = true := by simp [inFormB, zeroV, emptyW]
theorem bStep_mono {n i : Nat} {c : Cel} {L L' : OL} (h : bStep n i c L = some L') {j : Nat} {b : Bx} (hb : L[j]? = some (some b)) : L'[j]? = some (some b) := by
  obtain ⟨d, hd, ⟨_, _, rfl⟩ | ⟨_, hi, hh, hlo, hhi, rfl⟩⟩ := bStep_some h
  · exact hb
  · have h1 : c.low.toNat ≠ j := by intro e; rw [e, hb] at hlo; cases hlo
    have h2 : c.high.toNat ≠ j := by intro e; rw [e, hb] at hhi; cases hhi
    rw [List.getElem?_set, if_neg h2, List.getElem?_set, if_neg h1]; exact hb
theorem bStep_app {n i k : Nat} {c : Cel} {L L' S : OL} (hl : L.length = n) (hk : S.length = k) (h : bStep n i c L = some L') : bStep (n + k) i c (L ++ S) = some (L' ++ S) := by
  obtain ⟨d, hd, ⟨h1, h2, rfl⟩ | ⟨h1, hi, hh, hlo, hhi, rfl⟩⟩ := bStep_some h
  · have hlt : i < L'.length := (List.getElem?_eq_some_iff.1 hd).1
    have : (L' ++ S)[i]? = some (some d) := by rw [List.getElem?_append_left hlt]; exact hd
    simp [bStep, this, h1, h2]
  · have hlt : i < L.length := (List.getElem?_eq_some_iff.1 hd).1
    have l1 : c.low.toNat < L.length := (List.getElem?_eq_some_iff.1 hlo).1
    have l2 : c.high.toNat < L.length := (List.getElem?_eq_some_iff.1 hhi).1
    have e1 : (L ++ S)[i]? = some (some d) := by rw [List.getElem?_append_left hlt]; exact hd
    have e2 : (L ++ S)[c.low.toNat]? = some none := by rw [List.getElem?_append_left l1]; exact hlo
    have e3 : (L ++ S)[c.high.toNat]? = some none := by rw [List.getElem?_append_left l2]; exact hhi
    have hi' : innerB (n + k) i c = true := by
      obtain ⟨a1, a2, a3, a4, a5, a6⟩ := innerB_iff.1 hi
      exact innerB_iff.2 ⟨a1, by omega, a3, by omega, a5, a6⟩
    rw [step_inner e1 h1 hi' hh e2 e3, List.set_append_left _ _ l1, List.set_append_left _ _ (by simpa using l2)]
def splitC (t : Tr) (i : Nat) (j : Int) (v : Verd) : Tr := ⟨t.root, t.cells.set i ⟨j, t.cells.length, t.cells.length + 1, zeroV⟩ ++ [leafC v, leafC v]⟩
theorem splitC_len (t : Tr) (i : Nat) (j : Int) (v : Verd) : (splitC t i j v).cells.length = t.cells.length + 2 := by simp [splitC]
theorem bRun_cons {n i : Nat} {cs : List Cel} {c : Cel} {L L' : OL} (hc : cs[i]? = some c) (h : bStep n i c L = some L') : bRun n (cs.drop i) i L = bRun n (cs.drop (i + 1)) (i + 1) L' := by
  obtain ⟨hlt, hc⟩ := List.getElem?_eq_some_iff.1 hc
  rw [List.drop_eq_getElem_cons hlt, hc]
  simp only [bRun, h]
theorem leaf_form {t : Tr} {L : OL} (h : boxesO t = some L) {i : Nat} {c : Cel} (hc : t.cells[i]? = some c) (hl : leafB c = true) : inFormB c.v = true := by
  have hp := boxes_ind (P := fun k _ => i < k → inFormB c.v = true) h (by intro h; omega) (fun k d M M' hk hp hm hi => by
    by_cases e : k = i
    · subst e
      rw [hc] at hk; injection hk with hk; subst hk
      obtain ⟨b, hb, ⟨_, h2, _⟩ | ⟨h1, _⟩⟩ := bStep_some hm
      · exact h2
      · rw [hl] at h1; cases h1
    · exact hp (by omega))
  exact hp (List.getElem?_eq_some_iff.1 hc).1
theorem split_boxes {t : Tr} {L : OL} (h : boxesO t = some L) {i : Nat} {j : Int} {c : Cel} {b : Bx} (hc : t.cells[i]? = some c) (hl : leafB c = true) (hn : t.cells.length + 2 ≤ 2048) (hb : L[i]? = some (some b)) (hh : halveOk b j = true) :
    boxesO (splitC t i j c.v) = some (L ++ [some (halveA b j), some (halveZ b j)]) := by
  have hsz := boxesO_size h
  obtain ⟨z1, z2, z3, z4, z5⟩ := sizeOk_iff.1 hsz
  have hilt : i < t.cells.length := (List.getElem?_eq_some_iff.1 hc).1
  have hlen := splitC_len t i j c.v
  have hf := leaf_form h hc hl
  generalize hT : splitC t i j c.v = T at *
  have hTr : T.root = t.root := by rw [← hT]; rfl
  have hTc : ∀ k, k ≠ i → k < t.cells.length → T.cells[k]? = t.cells[k]? := by
    intro k hk hlt
    rw [← hT]; simp only [splitC]
    rw [List.getElem?_append_left (by simpa using hlt), List.getElem?_set, if_neg (fun e => hk e.symm)]
  have hTi : T.cells[i]? = some ⟨j, t.cells.length, t.cells.length + 1, zeroV⟩ := by
    rw [← hT]; simp only [splitC]
    rw [List.getElem?_append_left (by simpa using hilt), List.getElem?_set, if_pos rfl, if_pos hilt]
  have hTs : sizeOk T = true := sizeOk_iff.2 ⟨by omega, by omega, by rw [hTr]; omega, by rw [hTr]; omega, by rw [hTr]; exact z5⟩
  have hP := boxes_ind (P := fun k M => BOk t k M ∧ if k ≤ i then bRun (t.cells.length + 2) (T.cells.drop k) k (M ++ [none, none]) = boxesO T
      else ∃ d, M[i]? = some (some d) ∧ (halveOk d j = true → bRun (t.cells.length + 2) (T.cells.drop k) k (M ++ [some (halveA d j), some (halveZ d j)]) = boxesO T)) h (by
    refine ⟨bok_init hsz, ?_⟩
    simp only [Nat.zero_le, if_true]
    rw [boxesO, if_pos hTs, hlen, List.drop_zero]
    congr 1
    simp only [bInit, hTr, hlen, List.cons_append]
    rw [show t.cells.length + 2 - 1 = (t.cells.length - 1) + 2 by omega, ← List.replicate_append_replicate]; rfl) (by
    intro k e M M' hk hp hm
    obtain ⟨hbo, hp⟩ := hp
    refine ⟨bok_step hbo hm, ?_⟩
    have hklt : k < t.cells.length := (List.getElem?_eq_some_iff.1 hk).1
    rcases Nat.lt_trichotomy k i with hki | hki | hki
    · rw [if_pos (by omega)] at hp ⊢
      rw [← hp]
      exact (bRun_cons (by rw [hTc k (by omega) hklt]; exact hk) (bStep_app (k := 2) (S := [none, none]) hbo.len rfl hm)).symm
    · subst hki
      rw [hc] at hk; injection hk with hk; subst hk
      rw [if_pos (Nat.le_refl _)] at hp
      rw [if_neg (by omega)]
      obtain ⟨d, hd, ⟨_, _, rfl⟩ | ⟨h1, _⟩⟩ := bStep_some hm
      · refine ⟨d, hd, fun hok => ?_⟩
        rw [← hp]
        refine (bRun_cons hTi ?_).symm
        have e1 : (M' ++ [none, none])[k]? = some (some d) := by rw [List.getElem?_append_left (by rw [hbo.len]; exact hilt)]; exact hd
        have hi' : innerB (t.cells.length + 2) k ⟨j, t.cells.length, t.cells.length + 1, zeroV⟩ = true := innerB_iff.2 ⟨by simp only; omega, by simp only; omega, by simp only; omega, by simp only; omega, by simp only; omega, zeroV_zero⟩
        have t1 : ((t.cells.length : Int)).toNat = M'.length := by rw [hbo.len]; omega
        have t2 : ((t.cells.length : Int) + 1).toNat = M'.length + 1 := by rw [hbo.len]; omega
        rw [step_inner e1 (by simp [leafB]) hi' hok (by simp only; rw [t1]; simp) (by simp only; rw [t2]; simp)]
        simp only [t1, t2]
        congr 1
        rw [List.set_append_right _ _ (by omega), List.set_append_right _ _ (by omega)]
        simp
      · rw [hl] at h1; cases h1
    · rw [if_neg (by omega)] at hp ⊢
      obtain ⟨d, hd, hp⟩ := hp
      refine ⟨d, bStep_mono hm hd, fun hok => ?_⟩
      rw [← hp hok]
      exact (bRun_cons (by rw [hTc k (by omega) hklt]; exact hk) (bStep_app (k := 2) (S := [some (halveA d j), some (halveZ d j)]) hbo.len rfl hm)).symm)
  obtain ⟨hbo, hP⟩ := hP
  rw [if_neg (by omega)] at hP
  obtain ⟨d, hd, hP⟩ := hP
  rw [hb] at hd; injection hd with hd; injection hd with hd; subst hd
  rw [← hP hh]
  have hdrop : T.cells.drop t.cells.length = [leafC c.v, leafC c.v] := by
    rw [← hT]; simp only [splitC]
    rw [List.drop_append_of_le_length (by simp), List.drop_eq_nil_of_le (by simp)]; rfl
  rw [hdrop]
  have e1 : (L ++ [some (halveA b j), some (halveZ b j)])[t.cells.length]? = some (some (halveA b j)) := by rw [← hbo.len]; simp
  have e2 : (L ++ [some (halveA b j), some (halveZ b j)])[t.cells.length + 1]? = some (some (halveZ b j)) := by rw [← hbo.len]; simp
  simp only [bRun]
  rw [step_leaf (t := t) e1 (leafC_leaf _), if_pos (show inFormB (leafC c.v).v = true from hf)]
  simp only
  rw [step_leaf (t := t) e2 (leafC_leaf _), if_pos (show inFormB (leafC c.v).v = true from hf)]
def settleC (t : Tr) (i : Nat) (v : Verd) : Tr := ⟨t.root, t.cells.set i (leafC v)⟩
theorem settle_boxes {t : Tr} {L : OL} (h : boxesO t = some L) {i : Nat} {c : Cel} {v : Verd} (hc : t.cells[i]? = some c) (hl : leafB c = true) (hf : inFormB v = true) : boxesO (settleC t i v) = some L := by
  have hsz := boxesO_size h
  have hilt : i < t.cells.length := (List.getElem?_eq_some_iff.1 hc).1
  have hlen : (settleC t i v).cells.length = t.cells.length := by simp [settleC]
  generalize hT : settleC t i v = T at *
  have hTr : T.root = t.root := by rw [← hT]; rfl
  have hTs : sizeOk T = true := by
    obtain ⟨z1, z2, z3, z4, z5⟩ := sizeOk_iff.1 hsz
    exact sizeOk_iff.2 ⟨by omega, by omega, by rw [hTr]; omega, by rw [hTr]; omega, by rw [hTr]; exact z5⟩
  have hP := boxes_ind (P := fun k M => bRun t.cells.length (T.cells.drop k) k M = boxesO T) h (by
    rw [boxesO, if_pos hTs, hlen, List.drop_zero]
    congr 1
    simp only [bInit, hTr, hlen]) (by
    intro k e M M' hk hp hm
    rw [← hp]
    by_cases hki : k = i
    · subst hki
      rw [hc] at hk; injection hk with hk; subst hk
      obtain ⟨d, hd, ⟨_, _, rfl⟩ | ⟨h1, _⟩⟩ := bStep_some hm
      · refine (bRun_cons (c := leafC v) (by rw [← hT]; simp [settleC, hilt]) ?_).symm
        rw [step_leaf (t := t) hd (leafC_leaf _), if_pos (show inFormB (leafC v).v = true from hf)]
      · rw [hl] at h1; cases h1
    · refine (bRun_cons ?_ hm).symm
      rw [← hT]; simp only [settleC]
      rw [List.getElem?_set, if_neg (fun e => hki e.symm)]; exact hk)
  rw [← hP, List.drop_eq_nil_of_le (by omega)]
  rfl
/-- The last cell is a leaf. -/
theorem last_leaf {t : Tr} {L : OL} (h : boxesO t = some L) : ∃ c, t.cells[t.cells.length - 1]? = some c ∧ leafB c = true := by
  obtain ⟨z1, z2, z3, z4, z5⟩ := sizeOk_iff.1 (boxesO_size h)
  have hlt : t.cells.length - 1 < t.cells.length := by omega
  refine ⟨t.cells[t.cells.length - 1], List.getElem?_eq_getElem hlt, ?_⟩
  have hp := boxes_ind (P := fun k _ => k = t.cells.length → leafB t.cells[t.cells.length - 1] = true) h (by omega) (fun k d M M' hk hp hm hi => by
    obtain ⟨b, hb, ⟨h2, _, _⟩ | ⟨_, h1, _⟩⟩ := bStep_some hm
    · have e : t.cells.length - 1 = k := by omega
      have := List.getElem?_eq_getElem hlt
      rw [show t.cells[t.cells.length - 1]? = t.cells[k]? by rw [e], hk] at this
      injection this with this
      rw [← this]; exact h2
    · have := innerB_iff.1 h1
      omega)
  exact hp rfl
/-- The number of a leaf. -/
def leafN (t : Tr) (i : Nat) : Bool := match t.cells[i]? with
  | some c => leafB c
  | none => false
def leavesN (t : Tr) (n : Nat) : List Nat := (List.range n).filter (leafN t)
def leavesL (t : Tr) : List Nat := if validT t then leavesN t t.cells.length else []
theorem leavesN_succ (t : Tr) (n : Nat) : leavesN t (n + 1) = if leafN t n then leavesN t n ++ [n] else leavesN t n := by
  simp only [leavesN, List.range_succ, List.filter_append]
  cases h : leafN t n <;> simp [h]
theorem leavesN_len (t : Tr) (n : Nat) : (leavesN t n).length ≤ n := by
  have := List.length_filter_le (leafN t) (List.range n)
  simpa [leavesN] using this
theorem leavesL_mem {t : Tr} {i : Nat} : i ∈ leavesL t ↔ validT t = true ∧ ∃ c, t.cells[i]? = some c ∧ leafB c = true := by
  unfold leavesL
  cases hv : validT t with
  | false => simp
  | true =>
    simp only [if_true, true_and, leavesN, List.mem_filter, List.mem_range, leafN]
    constructor
    · rintro ⟨h1, h2⟩
      rw [List.getElem?_eq_getElem h1] at h2
      exact ⟨_, List.getElem?_eq_getElem h1, h2⟩
    · rintro ⟨c, hc, hl⟩
      refine ⟨(List.getElem?_eq_some_iff.1 hc).1, by rw [hc]; exact hl⟩
theorem leavesL_pos {t : Tr} (h : validT t = true) : 0 < (leavesL t).length := by
  obtain ⟨L, hL⟩ := Option.isSome_iff_exists.1 h
  obtain ⟨c, hc, hl⟩ := last_leaf hL
  exact List.length_pos_of_mem (leavesL_mem.2 ⟨h, c, hc, hl⟩)
/-- The results of Split and Settle. -/
def splitOk (t : Tr) (i j : Int) : Bool := validT t && decide (0 ≤ i) && decide (i < t.cells.length) && leafN t i.toNat && decide (t.cells.length + 2 ≤ 2048) && halveOk ((boxesL t)[i.toNat]?.getD []) j
def vAt (t : Tr) (i : Nat) : Verd := match t.cells[i]? with
  | some c => c.v
  | none => zeroV
def splitT (t : Tr) (i j : Int) : Tr := if splitOk t i j then splitC t i.toNat j (vAt t i.toNat) else t
def settleOk (t : Tr) (i : Int) (v : Verd) : Bool := validT t && decide (0 ≤ i) && decide (i < t.cells.length) && leafN t i.toNat && decide ((vAt t i.toNat).kind = 0) && inFormB v
def settleT (t : Tr) (i : Int) (v : Verd) : Tr := if settleOk t i v then settleC t i.toNat v else t
theorem leafN_get {t : Tr} {i : Nat} (h : leafN t i = true) : ∃ c, t.cells[i]? = some c ∧ leafB c = true ∧ vAt t i = c.v := by
  unfold leafN at h
  split at h
  · rename_i c hc
    exact ⟨c, hc, h, by simp [vAt, hc]⟩
  · cases h
theorem split_valid {t : Tr} (h : validT t = true) (i j : Int) : validT (splitT t i j) = true ∧ (splitT t i j).root = t.root ∧ (splitT t i j).cells.length ≤ t.cells.length + 2 := by
  unfold splitT
  split
  · rename_i hs
    simp only [splitOk, Bool.and_eq_true, decide_eq_true_eq] at hs
    obtain ⟨⟨⟨⟨⟨h1, h2⟩, h3⟩, h4⟩, h5⟩, h6⟩ := hs
    obtain ⟨L, hL⟩ := Option.isSome_iff_exists.1 h
    obtain ⟨c, hc, hl, hv⟩ := leafN_get h4
    have hlt : i.toNat < t.cells.length := by omega
    obtain ⟨b, hb⟩ := (boxesO_ok hL).pre i.toNat hlt
    have hb' : (boxesL t)[i.toNat]? = some b := by
      have := boxesO_map hL
      rw [this] at hb
      simpa using hb
    rw [hb'] at h6
    have := split_boxes hL hc hl h5 hb h6
    rw [hv]
    exact ⟨by rw [validT, this]; rfl, rfl, by rw [splitC_len]; exact Nat.le_refl _⟩
  · exact ⟨h, rfl, by omega⟩
theorem settle_valid {t : Tr} (h : validT t = true) (i : Int) (v : Verd) : validT (settleT t i v) = true ∧ (settleT t i v).root = t.root ∧ (settleT t i v).cells.length = t.cells.length ∧ boxesL (settleT t i v) = boxesL t := by
  unfold settleT
  split
  · rename_i hs
    simp only [settleOk, Bool.and_eq_true, decide_eq_true_eq] at hs
    obtain ⟨⟨⟨⟨⟨h1, h2⟩, h3⟩, h4⟩, h5⟩, h6⟩ := hs
    obtain ⟨L, hL⟩ := Option.isSome_iff_exists.1 h
    obtain ⟨c, hc, hl, hv⟩ := leafN_get h4
    have := settle_boxes hL hc hl h6
    exact ⟨by rw [validT, this]; rfl, rfl, by simp [settleC], by simp [boxesL, this, hL]⟩
  · exact ⟨h, rfl, rfl, rfl⟩
end Go.Ab
