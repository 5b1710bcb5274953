/- Regions that draw their order: every order comes to the same. -/
import Derived.Test.YtgamhginhckcpaaAb18
set_option linter.all false
namespace Go.Ab

def lookW (W : List (Nat × Blk)) (k : Nat) : Option (Option Blk) := W.foldl (fun x kb => if k = kb.1 then some (some kb.2) else x) none

theorem lookW_fold (k : Nat) : ∀ (W : List (Nat × Blk)) (x : Option (Option Blk)), W.foldl (fun x kb => if k = kb.1 then some (some kb.2) else x) x = (match lookW W k with | some y => some y | none => x)
  | [], x => by simp [lookW]
  | kb :: W, x => by
    simp only [List.foldl_cons, lookW]
    rw [lookW_fold k W (if k = kb.1 then some (some kb.2) else x), lookW_fold k W (if k = kb.1 then some (some kb.2) else none)]
    cases lookW W k with
    | some y => rfl
    | none => simp only; split <;> rfl
theorem writes_look (k : Nat) : ∀ (W : List (Nat × Blk)) (h : Hp), writes h W k = (lookW W k).getD (h k)
  | [], h => rfl
  | kb :: W, h => by
    show writes (upd h kb.1 (some kb.2)) W k = _
    rw [writes_look k W]
    have hc : lookW (kb :: W) k = (match lookW W k with | some y => some y | none => if k = kb.1 then some (some kb.2) else none) := by
      conv => lhs; unfold lookW
      rw [List.foldl_cons, lookW_fold k W (if k = kb.1 then some (some kb.2) else none)]
    rw [hc]
    cases lookW W k with
    | some y => rfl
    | none => simp only [Option.getD_none, upd]; split <;> rfl
theorem lookW_mem {k : Nat} : ∀ {W : List (Nat × Blk)}, (lookW W k).isSome = true → k ∈ W.map (·.1)
  | [], h => by simp [lookW] at h
  | kb :: W, h => by
    simp only [lookW, List.foldl_cons] at h
    rw [lookW_fold k W (if k = kb.1 then some (some kb.2) else none)] at h
    by_cases e : k = kb.1
    · simp [e]
    · rw [if_neg e] at h
      have : (lookW W k).isSome = true := by cases hh : lookW W k <;> simp_all
      have := lookW_mem this
      simp at this ⊢
      exact .inr this

section
variable (fs : List Ef)
def wrT (r i : Nat) : Option AV := match fs[i]? with
  | some f => if f.d = some r then some f.v else none
  | none => none
def wrH (k i : Nat) : Option (Option Blk) := match fs[i]? with
  | some f => lookW f.W k
  | none => none
def cst (n : Nat) (st : St) (ls : Nat → Bool) : St := ⟨fun r => comb n (wrT fs r) (st.t r) ls, fun k => comb n (wrH fs k) (st.h k) ls⟩

theorem run_take_t (st : St) : ∀ i, i ≤ fs.length → ∀ r, (run (fs.take i) st).t r = comb i (wrT fs r) (st.t r) (fun _ => true)
  | 0, _, r => by simp [run, comb]
  | i + 1, hi, r => by
    have hlt : i < fs.length := by omega
    rw [List.take_succ_eq_append_getElem hlt, comb_succ]
    simp only [run, List.foldl_append, List.foldl_cons, List.foldl_nil, if_true]
    have ih := run_take_t st i (by omega) r
    rw [run] at ih
    have hw : wrT fs r i = if fs[i].d = some r then some fs[i].v else none := by simp [wrT, List.getElem?_eq_getElem hlt]
    rw [hw, ← ih]
    cases hd : fs[i].d with
    | none => simp [St.put]
    | some d =>
      simp only [St.put, upd, Option.some.injEq]
      by_cases e : d = r
      · subst e; simp
      · rw [if_neg (fun h => e h.symm), if_neg e]; rfl
theorem run_take_h (st : St) : ∀ i, i ≤ fs.length → ∀ k, (run (fs.take i) st).h k = comb i (wrH fs k) (st.h k) (fun _ => true)
  | 0, _, r => by simp [run, comb]
  | i + 1, hi, r => by
    have hlt : i < fs.length := by omega
    rw [List.take_succ_eq_append_getElem hlt, comb_succ]
    simp only [run, List.foldl_append, List.foldl_cons, List.foldl_nil, if_true]
    have ih := run_take_h st i (by omega) r
    rw [run] at ih
    have hw : wrH fs r i = lookW fs[i].W r := by simp [wrH, List.getElem?_eq_getElem hlt]
    rw [hw, ← ih]
    simp only [St.put]
    exact writes_look r _ _
end

section
variable {C : Cx} {hn : List Nat} {ops : Array Oper} {fs : List Ef} {st : St}

def lsOf (listed : Array Bool) : Nat → Bool := fun i => listed.getD i true

theorem pre_lt {i j : Nat} (h : Pre ops i j) : j < ops.size := by
  have aux : ∀ {i j}, direct ops i j → j < ops.size := fun ⟨o, ho, _⟩ => (Array.getElem?_eq_some_iff.1 ho).1
  cases h with
  | one h => exact aux h
  | step _ h => exact aux h

theorem pre_closed {ls : Nat → Bool} (hc : ∀ i j, direct ops i j → ls j = true → ls i = true) {i j : Nat} (h : Pre ops i j) : ls j = true → ls i = true := by
  induction h with
  | one h => exact hc _ _ h
  | step _ h' ih => exact fun hj => ih (hc _ _ h' hj)

theorem slotOk_pre (hs : slotOk ops = true) {i j : Nat} {x y : Oper} (hij : i < j) (hx : ops[i]? = some x) (hy : ops[j]? = some y) (hc : slotConf ops x y = true) : Pre ops i j := by
  simp only [slotOk, Bool.and_eq_true] at hs
  have hj : j < ops.size := (Array.getElem?_eq_some_iff.1 hy).1
  have h1 := List.all_eq_true.1 hs.2 j (List.mem_range.2 hj)
  have h2 := List.all_eq_true.1 h1 i (List.mem_range.2 hij)
  rw [hx, hy] at h2
  simp only [hc, Bool.not_true, Bool.false_or] at h2
  exact preTab_pre (l := ops.toList) (acc := []) (fun j => by simp) (fun i j h => by simp at h) i j h2
theorem keyOk_pre {acc : Acc} (hs : keyOk (preTab ops.toList []) acc = true) {i j : Nat} {W K W' K' : List Nat} (hij : i < j) (hx : acc[i]? = some (W, K)) (hy : acc[j]? = some (W', K')) (hc : ∃ k, (k ∈ W ∧ k ∈ K') ∨ (k ∈ W' ∧ k ∈ K)) : Pre ops i j := by
  have hj : j < acc.length := (List.getElem?_eq_some_iff.1 hy).1
  have h1 := List.all_eq_true.1 hs j (List.mem_range.2 hj)
  have h2 := List.all_eq_true.1 h1 i (List.mem_range.2 hij)
  rw [hx, hy] at h2
  simp only [Bool.or_eq_true, Bool.and_eq_true] at h2
  rcases h2 with ⟨d1, d2⟩ | h2
  · obtain ⟨k, ⟨a, b⟩ | ⟨a, b⟩⟩ := hc
    · have := List.all_eq_true.1 d1 k a
      simp at this; exact absurd b this
    · have := List.all_eq_true.1 d2 k a
      simp at this; exact absurd b this
  · exact preTab_pre (l := ops.toList) (acc := []) (fun j => by simp) (fun i j h => by simp at h) i j h2

theorem edges_back (hs : slotOk ops = true) {i j : Nat} (h : direct ops i j) : i < j := by
  simp only [slotOk, Bool.and_eq_true] at hs
  obtain ⟨o, ho, e, he, hb, rfl⟩ := h
  have h1 := List.all_eq_true.1 hs.1 j (List.mem_range.2 (Array.getElem?_eq_some_iff.1 ho).1)
  rw [ho] at h1
  have h2 := List.all_eq_true.1 h1 e he
  simpa [hb] using h2

theorem mem_ready' {i : Nat} {listed : Array Bool} : i ∈ Region.ready .any ops listed ↔ i < ops.size ∧ lsOf listed i = false ∧ ∀ q, direct ops q i → listed.getD q false = true := by
  unfold Region.ready lsOf
  rw [List.mem_filter, List.mem_range]
  constructor
  · rintro ⟨h1, h2⟩
    simp only [Bool.and_eq_true, Bool.not_eq_true'] at h2
    refine ⟨h1, h2.1, ?_⟩
    rintro q ⟨o, ho, e, he, hb, rfl⟩
    have h3 := h2.2
    rw [ho] at h3
    simp only [Option.map_some, Option.getD_some, Array.all_eq_true_iff_forall_mem] at h3
    have := h3 e (by simpa using he)
    simpa [hb] using this
  · rintro ⟨h1, h2, h3⟩
    refine ⟨h1, ?_⟩
    simp only [Bool.and_eq_true, Bool.not_eq_true']
    refine ⟨h2, ?_⟩
    have ho : ops[i]? = some ops[i] := Array.getElem?_eq_getElem h1
    rw [ho]
    simp only [Option.map_some, Option.getD_some, Array.all_eq_true_iff_forall_mem]
    intro e he
    cases hb : Region.binds .any e with
    | false => simp
    | true => simp [h3 e.on ⟨_, ho, e, by simpa using he, hb, rfl⟩]

theorem draw_any (hslot : slotOk ops = true) (hlen : fs.length = ops.size) (hstep : ∀ (i : Nat) o f, ops[i]? = some o → fs[i]? = some f → StepOk C.P hn C.N ops o (run (fs.take i) st) f)
    (hkey : keyOk (preTab ops.toList []) (fs.map fun f => (f.W.map (·.1), f.K)) = true) {Q' : Exit → Act → World → Prop} (hQ : ∀ a w, Sim C (run fs st) a w → Q' .normal a w) :
    ∀ (fuel : Nat) (listed : Array Bool) (a : Act) (w : World), listed.size = ops.size → ((List.range ops.size).filter fun j => !lsOf listed j).length ≤ fuel → (∀ i j, direct ops i j → lsOf listed j = true → lsOf listed i = true) →
      Sim C (cst fs ops.size st (lsOf listed)) a w → wpAny C.P .any ops Q' fuel listed a w := by
  -- all listed: the end
  have hall : ∀ listed : Array Bool, Region.ready .any ops listed = [] → listed.size = ops.size → ∀ j, j < ops.size → lsOf listed j = true := by
    intro listed hr hsz j
    induction j using Nat.strongRecOn with
    | _ j ih =>
      intro hj
      cases hl : lsOf listed j with
      | true => rfl
      | false =>
        have : j ∈ Region.ready .any ops listed := mem_ready'.2 ⟨hj, hl, fun q hq => by
          have hqj := edges_back hslot hq
          have := ih q hqj (by omega)
          unfold lsOf at this
          rw [Array.getD_eq_getD_getElem?] at this ⊢
          rw [Array.getElem?_eq_getElem (by omega)] at this ⊢
          simpa using this⟩
        rw [hr] at this; cases this
  have hend : ∀ (listed : Array Bool) a w, Region.ready .any ops listed = [] → listed.size = ops.size → Sim C (cst fs ops.size st (lsOf listed)) a w → Q' .normal a w := by
    intro listed a w hr hsz hsim
    apply hQ
    have hl := hall listed hr hsz
    have : cst fs ops.size st (lsOf listed) = run fs st := by
      have ht : run fs st = run (fs.take ops.size) st := by rw [List.take_of_length_le (by omega)]
      rw [ht]
      have h1 : (cst fs ops.size st (lsOf listed)).t = (run (fs.take ops.size) st).t := by
        funext r; rw [run_take_t fs st _ (by omega)]; exact comb_congr (fun j hj _ => hl j hj)
      have h2 : (cst fs ops.size st (lsOf listed)).h = (run (fs.take ops.size) st).h := by
        funext r; rw [run_take_h fs st _ (by omega)]; exact comb_congr (fun j hj _ => hl j hj)
      cases hA : cst fs ops.size st (lsOf listed); cases hB : run (fs.take ops.size) st
      rw [hA, hB] at h1 h2
      simp at h1 h2
      rw [h1, h2]
    rw [← this]; exact hsim
  intro fuel
  induction fuel with
  | zero =>
    intro listed a w hsz hcnt hcl hsim
    have hemp : Region.ready .any ops listed = [] := by
      cases hr : Region.ready .any ops listed with
      | nil => rfl
      | cons i r =>
        have hi : i ∈ Region.ready .any ops listed := by rw [hr]; simp
        obtain ⟨h1, h2, _⟩ := mem_ready'.1 hi
        have : i ∈ (List.range ops.size).filter fun j => !lsOf listed j := List.mem_filter.2 ⟨List.mem_range.2 h1, by simp [h2]⟩
        have hnil : ((List.range ops.size).filter fun j => !lsOf listed j) = [] := List.eq_nil_of_length_eq_zero (by omega)
        rw [hnil] at this; cases this
    exact ⟨hemp, hend listed a w hemp hsz hsim⟩
  | succ fuel ih =>
    intro listed a w hsz hcnt hcl hsim
    refine ⟨fun hr => hend listed a w hr hsz hsim, fun i hi => ?_⟩
    obtain ⟨hin, hli, hdir⟩ := mem_ready'.1 hi
    have ho : ops[i]? = some ops[i] := Array.getElem?_eq_getElem hin
    have hf : fs[i]? = some (fs[i]'(by omega)) := List.getElem?_eq_getElem _
    generalize ops[i] = o at ho
    generalize fs[i]'(by omega) = f at hf
    obtain ⟨hdst, hfd, hcase⟩ := hstep i o f ho hf
    -- what precedes i is listed; what i precedes is not
    have hbefore : ∀ q, Pre ops q i → lsOf listed q = true := by
      intro q hq
      have hd : ∀ q, direct ops q i → lsOf listed q = true := by
        intro q hq
        have hqi := edges_back hslot hq
        have := hdir q hq
        unfold lsOf
        rw [Array.getD_eq_getD_getElem?] at this ⊢
        rw [Array.getElem?_eq_getElem (by omega)] at this ⊢
        simpa using this
      cases hq with
      | one h => exact hd q h
      | step h h' => exact pre_closed hcl h (hd _ h')
    have hafter : ∀ q, Pre ops i q → lsOf listed q = false := by
      intro q hq
      cases hlq : lsOf listed q with
      | false => rfl
      | true => rw [pre_closed hcl hq hlq] at hli; cases hli
    have hdj : ∀ j r, (wrT fs r j).isSome = true → ∃ oj fj, ops[j]? = some oj ∧ fs[j]? = some fj ∧ oj.dst = some r := by
      intro j r hj
      unfold wrT at hj
      split at hj
      · rename_i fj hfj
        split at hj
        · rename_i hd
          have hjn : j < ops.size := by rw [← hlen]; exact (List.getElem?_eq_some_iff.1 hfj).1
          have hoj : ops[j]? = some ops[j] := Array.getElem?_eq_getElem hjn
          obtain ⟨_, h2, _⟩ := hstep j _ fj hoj hfj
          exact ⟨_, fj, hoj, hfj, by rw [← h2]; exact hd⟩
        · cases hj
      · cases hj
    have hkj : ∀ j k, (wrH fs k j).isSome = true → ∃ fj, fs[j]? = some fj ∧ k ∈ fj.W.map (·.1) := by
      intro j k hj
      unfold wrH at hj
      split at hj
      · rename_i fj hfj; exact ⟨fj, hfj, lookW_mem hj⟩
      · cases hj
    have haccat : ∀ (j : Nat) (fj : Ef), fs[j]? = some fj → (fs.map fun f => (f.W.map (·.1), f.K))[j]? = some (fj.W.map (·.1), fj.K) := fun j fj h => by simp [h]
    -- the state here agrees with the state of the text on what i reads
    have hagT : ∀ r ∈ slotsR ops o, (cst fs ops.size st (lsOf listed)).t r = (run (fs.take i) st).t r := by
      intro r hr
      rw [run_take_t fs st i (by omega), ← comb_below (n := ops.size) (by omega)]
      refine comb_congr (fun j hj hw => ?_)
      obtain ⟨oj, fj, hoj, hfj, hd⟩ := hdj j r hw
      rcases Nat.lt_trichotomy j i with hlt | rfl | hgt
      · rw [hbefore j (slotOk_pre hslot hlt hoj ho (by simp [slotConf, hd, hr]))]; simp [hlt]
      · rw [hli]; simp
      · rw [hafter j (slotOk_pre hslot hgt ho hoj (by simp [slotConf, hd, hr]))]
        have : ¬ j < i := by omega
        simp [this]
    have hagH : ∀ k ∈ f.K, (cst fs ops.size st (lsOf listed)).h k = (run (fs.take i) st).h k := by
      intro k hk
      rw [run_take_h fs st i (by omega), ← comb_below (n := ops.size) (by omega)]
      refine comb_congr (fun j hj hw => ?_)
      obtain ⟨fj, hfj, hd⟩ := hkj j k hw
      rcases Nat.lt_trichotomy j i with hlt | rfl | hgt
      · rw [hbefore j (keyOk_pre hkey hlt (haccat j fj hfj) (haccat i f hf) ⟨k, .inl ⟨hd, hk⟩⟩)]; simp [hlt]
      · rw [hli]; simp
      · rw [hafter j (keyOk_pre hkey hgt (haccat i f hf) (haccat j fj hfj) ⟨k, .inr ⟨hd, hk⟩⟩)]
        have : ¬ j < i := by omega
        simp [this]
    have hWK : ∀ k, k ∈ f.W.map (·.1) → k ∈ f.K := by
      intro k hk
      obtain ⟨kb, hkb, rfl⟩ := List.mem_map.1 hk
      rcases hcase with ⟨_, _, _, hall⟩ | ⟨_, _, hW, _⟩
      · have := List.all_eq_true.1 hall kb hkb; simpa using this
      · rw [hW] at hkb; cases hkb
    -- the state behind i
    have hins : cst fs ops.size st (lsOf (listed.setIfInBounds i true)) = (cst fs ops.size st (lsOf listed)).put f.d f.v f.W := by
      have hls : ∀ j, j < ops.size → lsOf (listed.setIfInBounds i true) j = (lsOf listed j || j == i) := by
        intro j hj
        unfold lsOf
        by_cases e : j = i
        · subst e; simp [Array.getD_eq_getD_getElem?, hsz, hj]
        · have h1 : (j == i) = false := by simpa using e
          rw [h1, Bool.or_false, Array.getD_eq_getD_getElem?, Array.getD_eq_getD_getElem?, Array.getElem?_setIfInBounds_ne (by omega)]
      have h1 : (cst fs ops.size st (lsOf (listed.setIfInBounds i true))).t = ((cst fs ops.size st (lsOf listed)).put f.d f.v f.W).t := by
        funext r
        show comb ops.size (wrT fs r) (st.t r) (lsOf (listed.setIfInBounds i true)) = _
        rw [comb_congr (fun j hj _ => hls j hj), comb_insert hin ?_]
        · have hw : wrT fs r i = if f.d = some r then some f.v else none := by simp [wrT, hf]
          rw [hw]
          cases hd : f.d with
          | none => simp [St.put, cst]
          | some d =>
            simp only [St.put, upd, Option.some.injEq]
            by_cases e : d = r
            · subst e; simp
            · rw [if_neg e, if_neg (fun h => e h.symm)]; rfl
        · intro hwi j hij hj hwj
          obtain ⟨oi, fi, hoi, hfi, hdi⟩ := hdj i r hwi
          obtain ⟨oj, fj, hoj, hfj, hd⟩ := hdj j r hwj
          rw [ho] at hoi; injection hoi with hoi; subst hoi
          exact hafter j (slotOk_pre hslot hij ho hoj (by simp [slotConf, hdi, hd]))
      have h2 : (cst fs ops.size st (lsOf (listed.setIfInBounds i true))).h = ((cst fs ops.size st (lsOf listed)).put f.d f.v f.W).h := by
        funext k
        show comb ops.size (wrH fs k) (st.h k) (lsOf (listed.setIfInBounds i true)) = _
        rw [comb_congr (fun j hj _ => hls j hj), comb_insert hin ?_]
        · have hw : wrH fs k i = lookW f.W k := by simp [wrH, hf]
          rw [hw]
          simp only [St.put]
          exact (writes_look k f.W (cst fs ops.size st (lsOf listed)).h).symm
        · intro hwi j hij hj hwj
          obtain ⟨fi, hfi, hdi⟩ := hkj i k hwi
          obtain ⟨fj, hfj, hd⟩ := hkj j k hwj
          rw [hf] at hfi; injection hfi with hfi; subst hfi
          exact hafter j (keyOk_pre hkey hij (haccat i f hf) (haccat j fj hfj) ⟨k, .inr ⟨hd, hWK k hdi⟩⟩)
      cases hA : cst fs ops.size st (lsOf (listed.setIfInBounds i true)); cases hB : (cst fs ops.size st (lsOf listed)).put f.d f.v f.W
      rw [hA, hB] at h1 h2
      simp at h1 h2
      rw [h1, h2]
    have hnext : ∀ a' w', Sim C ((cst fs ops.size st (lsOf listed)).put f.d f.v f.W) a' w' → wpAny C.P .any ops Q' fuel (listed.setIfInBounds i true) a' w' := by
      intro a' w' hs'
      refine ih (listed.setIfInBounds i true) a' w' (by simp [hsz]) ?_ ?_ (by rw [hins]; exact hs')
      · have hle : ((List.range ops.size).filter fun j => !lsOf (listed.setIfInBounds i true) j).length < ((List.range ops.size).filter fun j => !lsOf listed j).length := by
          have heq : ((List.range ops.size).filter fun j => !lsOf (listed.setIfInBounds i true) j) = ((List.range ops.size).filter fun j => !lsOf listed j).filter fun j => !(j == i) := by
            rw [List.filter_filter]
            refine List.filter_congr (fun j hj => ?_)
            have hj' := List.mem_range.1 hj
            unfold lsOf
            by_cases e : j = i
            · subst e; simp [Array.getD_eq_getD_getElem?, hsz, hj']
            · have h1 : (j == i) = false := by simpa using e
              rw [h1, Array.getD_eq_getD_getElem?, Array.getD_eq_getD_getElem?, Array.getElem?_setIfInBounds_ne (by omega)]; simp
          rw [heq]
          refine List.length_filter_lt_length_iff_exists.2 ⟨i, List.mem_filter.2 ⟨List.mem_range.2 hin, by simp [hli]⟩, by simp⟩
        omega
      · intro q j hd hj
        have hset : ∀ m, lsOf (listed.setIfInBounds i true) m = true ↔ (lsOf listed m = true ∨ m = i) := by
          intro m
          unfold lsOf
          by_cases e : m = i
          · subst e; simp [Array.getD_eq_getD_getElem?, hsz, hin]
          · rw [Array.getD_eq_getD_getElem?, Array.getD_eq_getD_getElem?, Array.getElem?_setIfInBounds_ne (by omega)]; simp [e]
        rw [hset] at hj ⊢
        rcases hj with hj | rfl
        · exact .inl (hcl q j hd hj)
        · exact .inl (hbefore q (.one hd))
    -- the operation
    obtain ⟨L, hm, hN, hdf, ht⟩ := hsim
    have hgd : guardB ops (cst fs ops.size st (lsOf listed)).t o.guard = guardB ops (run (fs.take i) st).t o.guard := by
      unfold guardB
      split
      · rfl
      · rename_i j want hg
        split
        · rename_i d hd
          rw [hagT d (by simp [slotsR, hg, hd])]
        · rfl
    unfold wpOp
    rw [ho]
    simp only
    rcases hcase with ⟨hg, hK, hev, hallk⟩ | ⟨hg, hv, hW, _⟩
    · rw [guard_wanted ht (hgd.trans hg)]
      rw [if_pos rfl]
      refine .inl ?_
      have hops : ∀ x ∈ o.op.operands, (run (fs.take i) st).ev x = (cst fs ops.size st (lsOf listed)).ev x := by
        intro x hx
        cases x with
        | tmp t =>
          refine (hagT t ?_).symm
          simp only [slotsR, tmpsOf, List.mem_append, List.mem_filterMap]
          exact .inl ⟨.tmp t, by simpa using hx, rfl⟩
        | _ => rfl
      have hres : restrict f.K (run (fs.take i) st).h = restrict f.K (cst fs ops.size st (lsOf listed)).h := by
        funext k
        unfold restrict
        split
        · rename_i hk; exact (hagH k (by simpa using hk)).symm
        · rfl
      rw [evO_congr hops, hres] at hev
      refine evO_wp hm (h1 := restrict f.K (cst fs ops.size st (lsOf listed)).h) ?_ ?_ (fun x _ => eval_rep ht x) hev (fun eff u w' L' he hA hv => ?_)
      · intro k b hk; unfold restrict at hk; split at hk
        · exact hk
        · cases hk
      · intro d hd
        unfold restrict
        have : f.K.contains d = true := by rw [hK]; simp [kset, hd]
        rw [if_pos this]
      · subst he
        refine hnext _ _ ?_
        rw [hfd]
        exact Sim.put hm hN hdf ht hdst hA hv
    · rw [guard_wanted ht (hgd.trans hg)]
      simp only [Bool.false_eq_true, if_false]
      refine hnext _ _ ?_
      rw [hfd, hv, hW]
      exact Sim.put hm hN hdf ht hdst (W := []) (After.refl hm) (.pv (.val _))

theorem WP.draw {Q : Exit → St → Prop} {id : Nat} (hmx : C.P.follows .mixedOrders = true) (hslot : slotOk ops = true)
    (h : evD C.P hn C.N ops (fun acc st => keyOk (preTab ops.toList []) acc = true ∧ Q .normal st) ops.toList [] st) : WP C (.region id ops true) Q st := by
  intro a w hs
  obtain ⟨fs, h1, h2, h3, h4⟩ := evD_run h
  refine wp_region_any hmx (draw_any (fs := fs) (st := st) hslot (by rw [h1]; simp) (fun i o f ho hf => h2 i o f (by simpa using ho) hf) (by simpa using h3) (fun a w hs => ⟨_, hs, h4⟩) _ _ _ _ (by simp) ?_ ?_ ?_)
  · refine Nat.le_trans (List.length_filter_le _ _) (by simp)
  · intro i j hd hj
    have hjn : j < ops.size := by obtain ⟨o, ho, _⟩ := hd; exact (Array.getElem?_eq_some_iff.1 ho).1
    unfold lsOf at hj
    rw [Array.getD_eq_getD_getElem?, Array.getElem?_replicate, if_pos hjn] at hj
    cases hj
  · have : cst fs ops.size st (lsOf (Array.replicate ops.size false)) = st := by
      have hf : ∀ j, j < ops.size → lsOf (Array.replicate ops.size false) j = false := by
        intro j hj; unfold lsOf; rw [Array.getD_eq_getD_getElem?, Array.getElem?_replicate, if_pos hj]; rfl
      have hz : ∀ {V : Type} (wr : Nat → Option V) (x0 : V), comb ops.size wr x0 (lsOf (Array.replicate ops.size false)) = x0 := by
        intro V wr x0
        rw [comb_congr (ls' := fun _ => false) (fun j hj _ => hf j hj)]
        have : ∀ n, comb n wr x0 (fun _ => false) = x0 := by
          intro n; induction n with
          | zero => rfl
          | succ n ih => rw [comb_succ]; simp [ih]
        exact this _
      cases st
      unfold cst
      simp [hz]
    rw [this]
    obtain ⟨L, hm, hN, hdf, ht⟩ := hs
    have hg := hm.grow (Ext.drew (fun _ => False) w)
    exact ⟨L, hg.1, hN, hdf, fun n => (ht n).mono hg.2 (KC.refl _ _)⟩
end
end Go.Ab
