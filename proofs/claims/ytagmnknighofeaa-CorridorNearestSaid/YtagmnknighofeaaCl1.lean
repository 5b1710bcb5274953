/- The arguments of a law, told by content: out of the row's reading. -/
import Derived.Test.YtagmnknighofeaaAbB
import Derived.ReadAgain
import Derived.ChangeBears
import Derived.ChangeArms
import Derived.ChangeSame
import Derived.OpenShut
import Derived.Deep.Frames
set_option linter.all false
namespace Go.Ab
open Go.ChangeShapes Go.WideShapes

/-! ## Data as content -/
mutual
def rdC {H : Type} : DataW H → List PV
  | .lit (.bool b) => [.val (.bool b)]
  | .lit (.int k n) => [.val (.int k n)]
  | .lit (.float k b) => [.val (.float k b)]
  | .lit (.string s) => [.val (.string ⟨s.toArray⟩)]
  | .lit .nil => [.sl []]
  | .nil => [.sl []]
  | .slice es _ => [.sl (rdE es)]
  | .agg ds => rdA ds
  | _ => []
def rdE {H : Type} : List (DataW H) → List PV
  | [] => []
  | d :: r => rd1 d :: rdE r
def rdA {H : Type} : List (DataW H) → List PV
  | [] => []
  | d :: r => rdC d ++ rdA r
def rd1 {H : Type} : DataW H → PV
  | .lit (.bool b) => .val (.bool b)
  | .lit (.int k n) => .val (.int k n)
  | .lit (.float k b) => .val (.float k b)
  | .lit (.string s) => .val (.string ⟨s.toArray⟩)
  | .slice es _ => .sl (rdE es)
  | .agg ds => mkAgg (rdA ds)
  | _ => .sl []
end

/-- A type without pointers, maps, functions, interfaces. -/
def plainT (P : Program) : Nat → TypeId → Bool
  | 0, _ => false
  | n + 1, t => match P.underlying t with
    | some .bool => true
    | some (.int _) => true
    | some .string => true
    | some (.slice e) => plainT P n e && decide (0 < P.cellsOf e)
    | some (.struct fs) => fs.toList.all fun f => plainT P n f.type
    | some (.array _ e) => plainT P n e
    | _ => false

/-- A datum of a type. -/
def FitD {H : Type} (P : Program) : Nat → TypeId → DataW H → Prop
  | 0, _, _ => False
  | n + 1, t, d => match P.underlying t with
    | some .bool => ∃ b, d = .lit (.bool b)
    | some (.int k) => ∃ i, d = .lit (.int k i) ∧ (Lit.int k i).wf = true
    | some .string => ∃ s, d = .lit (.string s)
    | some (.slice e) => d = .nil ∨ ∃ es sp, d = .slice es sp ∧ es.length ≤ maxLen ∧ ∀ x ∈ es, FitD P n e x
    | some (.struct fs) => ∃ ds, d = .agg ds ∧ ds.length = fs.size ∧ ∀ (i : Nat) f x, fs[i]? = some f → ds[i]? = some x → FitD P n f.type x
    | some (.array m e) => ∃ ds, d = .agg ds ∧ ds.length = m ∧ ∀ x ∈ ds, FitD P n e x
    | _ => False

abbrev noM : Nat → Nat → Prop := fun _ _ => False

theorem rdE_map {H : Type} (ds : List (DataW H)) : rdE ds = ds.map rd1 := by
  induction ds with
  | nil => simp [rdE]
  | cons d r ih => simp [rdE, ih]
theorem rdA_flat {H : Type} (ds : List (DataW H)) : rdA ds = ds.flatMap rdC := by
  induction ds with
  | nil => simp [rdA]
  | cons d r ih => simp [rdA, ih]

theorem RepL.append {w : World} {M : Nat → Nat → Prop} {ps qs : List PV} {us vs : List Value} (h : RepL w M ps us) (h' : RepL w M qs vs) : RepL w M (ps ++ qs) (us ++ vs) := by
  refine ⟨by simp [h.1, h'.1], fun i p u hp hu => ?_⟩
  by_cases hi : i < ps.length
  · rw [List.getElem?_append_left hi] at hp
    rw [List.getElem?_append_left (by have := h.1; omega)] at hu
    exact h.2 i p u hp hu
  · rw [List.getElem?_append_right (by omega)] at hp
    rw [List.getElem?_append_right (by have := h.1; omega)] at hu
    refine h'.2 _ p u hp ?_
    rw [h.1]; exact hu

/-- Rows of parts. -/
theorem repL_flat {H α : Type} {w : World} {M : Nat → Nat → Prop} {g : α → List Value} : ∀ {fs : List α} {ds : List (DataW H)}, fs.length = ds.length →
    (∀ (i : Nat) f d, fs[i]? = some f → ds[i]? = some d → RepL w M (rdC d) (g f)) → RepL w M (ds.flatMap rdC) (fs.flatMap g)
  | [], [], _, _ => by simpa using RepL.nil
  | f :: fs, d :: ds, hl, h => by
    simp only [List.flatMap_cons]
    exact (h 0 f d rfl rfl).append (repL_flat (by simpa using hl) (fun i f' d' h1 h2 => h (i + 1) f' d' (by simpa using h1) (by simpa using h2)))
  | [], _ :: _, hl, _ => by simp at hl
  | _ :: _, [], hl, _ => by simp at hl

theorem segs {cs : List Value} (cell : Field → Nat) : ∀ (fs : List Field) (o : Nat), (∀ (j : Nat) f, fs[j]? = some f → f.offset = o + ((fs.take j).map cell).sum) → cs.length = o + (fs.map cell).sum →
    cs.drop o = fs.flatMap fun f => (cs.drop f.offset).take (cell f)
  | [], o, _, hl => by simp at hl; simp [List.drop_of_length_le (by omega : cs.length ≤ o)]
  | f :: fs, o, h, hl => by
    have h0 : f.offset = o := by simpa using h 0 f rfl
    have ih := segs (cs := cs) cell fs (o + cell f) (fun j f' hj => by
      have := h (j + 1) f' (by simpa using hj)
      simp only [List.take_succ_cons, List.map_cons, List.sum_cons] at this
      omega) (by simp only [List.map_cons, List.sum_cons] at hl; omega)
    simp only [List.flatMap_cons]
    rw [← ih, h0, ← List.drop_drop, List.take_append_drop]

theorem segsA {cs : List Value} (c : Nat) : ∀ (n o : Nat), cs.length = o * c + n * c → cs.drop (o * c) = (List.range' o n).flatMap fun i => (cs.drop (i * c)).take c
  | 0, o, hl => by simp; omega
  | n + 1, o, hl => by
    have ih := segsA c n (o + 1) (by rw [hl, Nat.add_mul, Nat.add_mul]; omega)
    simp only [List.range'_succ, List.flatMap_cons]
    rw [← ih, Nat.add_mul, Nat.one_mul, ← List.drop_drop, List.take_append_drop]

section
variable {H : Type} {enc : TypeId × Value → H} {P : Program} {w : World} {base : Nat} {spare : Nat → Bool} {held : Bool}

/-- What is read stands for its content. -/
theorem trod_rep (K : Kids P (· < P.types.size)) : ∀ (n m : Nat) (t : TypeId) (cs : List Value) (x : DataW H × List MemPlace), t < P.types.size → plainT P m t = true →
    DataW.trod enc P w base spare held n t cs = some x → RepL w noM (rdC x.1) cs ∧ FitD P n t x.1 ∧ (rd1 x.1).cells = rdC x.1 := by
  intro n
  induction n with
  | zero => intro m t cs x _ _ h; simp [DataW.trod] at h
  | succ n ih =>
    intro m t cs x hT hm h
    cases m with
    | zero => simp [plainT] at hm
    | succ m =>
    have hm0 := hm
    simp only [plainT] at hm
    have one : ∀ {p : PV} {u : Value}, Rep w noM p u → RepL w noM [p] [u] := fun hq => .cons hq .nil
    cases hu : P.underlying t with
    | none => rw [hu] at hm; simp at hm
    | some u =>
    rw [hu] at hm
    cases u with
    | bool =>
      unfold DataW.trod at h
      rw [hu] at h
      split at h <;> simp_all
      subst h
      simp only [rdC, rd1, FitD, hu]
      exact ⟨one (.val _), ⟨_, rfl⟩, by simp [PV.cells, Value.cells]⟩
    | int k =>
      obtain ⟨i, rfl, rfl, hw⟩ := DataW.trod_int hu h
      simp only [rdC, rd1, FitD, hu]
      exact ⟨one (.val _), ⟨i, rfl, hw⟩, by simp [PV.cells, Value.cells]⟩
    | string =>
      obtain ⟨s, rfl, rfl, hw⟩ := DataW.trod_string hu h
      have e : (⟨s.data.toList.toArray⟩ : ByteArray) = s := by cases s; simp
      simp only [rdC, rd1, FitD, hu]
      rw [e]
      exact ⟨one (.val _), ⟨_, rfl⟩, by simp [PV.cells, Value.cells]⟩
    | slice e =>
      simp only [Bool.and_eq_true, decide_eq_true_eq] at hm
      have hTe := K.slice hT hu
      rcases DataW.trod_slice hu h with ⟨rfl, rfl⟩ | ⟨a, len, cap, elems, rest, k, hk, rfl, rfl, hb, hl, hmx, hlen, hel, hsp, hns⟩
      · simp only [rdC, rd1, FitD, hu]
        exact ⟨one (.sl0 _ _), .inl trivial, by simp [PV.cells]⟩
      · obtain rfl : k = n := by omega
        have each : ∀ i y, elems[i]? = some y → ∃ cs', w.cells? base (a.add (i * P.cellsOf e)) (P.cellsOf e) = some cs' ∧ RepL w noM (rdC y.1) cs' ∧ FitD P k e y.1 ∧ (rd1 y.1).cells = rdC y.1 := by
          intro i y hy
          have hi : i < len := by rw [← hlen]; exact (List.getElem?_eq_some_iff.1 hy).1
          have := hel i hi
          rw [hy, Option.bind_eq_some_iff] at this
          obtain ⟨cs', h1, h2⟩ := this
          exact ⟨cs', h1, ih m e cs' y hTe hm.1 h2⟩
        simp only [rdC, rd1, FitD, hu]
        refine ⟨one ?_, .inr ⟨_, _, rfl, by simp only [List.length_map]; omega, ?_⟩, by simp [PV.cells]⟩
        · rw [rdE_map, List.map_map]
          cases hel0 : elems with
          | nil => subst hel0; simp at hlen; subst hlen; exact .sl0 _ _
          | cons y0 ys =>
            have h0 : elems[0]? = some y0 := by rw [hel0]; rfl
            rw [← hel0]
            have hspot : a.spot = none := by
              obtain ⟨cs', h1, h2, _, _⟩ := each 0 y0 h0
              obtain ⟨_, h3, h4⟩ := World.cells?_some h1
              have h5 := h4 0 hm.2
              have h6 : cs'[0]? = some cs'[0] := List.getElem?_eq_getElem (by omega)
              rw [h6] at h5
              have e1 : ((a.add (0 * P.cellsOf e)).add 0) = a := by simp [Addr.add]
              rw [e1] at h5
              unfold World.cell? at h5
              split at h5
              · split at h5
                · cases h5
                · rename_i hs; cases hsp' : a.spot with
                  | none => rfl
                  | some _ => simp [hsp'] at hs
              · cases h5
            obtain ⟨b, o, sp⟩ := a
            simp only at hspot
            subst hspot
            have hcell : ∀ i y, elems[i]? = some y → ∀ j p, (rdC y.1)[j]? = some p → ∃ v, w.cell? ⟨b, o + (i * P.cellsOf e + j), none⟩ = some v ∧ Rep w noM p v := by
              intro i y hy j p hp
              obtain ⟨cs', h1, h2, _, _⟩ := each i y hy
              obtain ⟨_, h3, h4⟩ := World.cells?_some h1
              have hj : j < (rdC y.1).length := (List.getElem?_eq_some_iff.1 hp).1
              have hj' : j < cs'.length := by rw [← h2.1]; exact hj
              have h5 := h4 j (by omega)
              have h6 : cs'[j]? = some cs'[j] := List.getElem?_eq_getElem hj'
              rw [h6, add_none, add_none] at h5
              exact ⟨_, by rw [← Nat.add_assoc]; exact h5, h2.2 j p _ hp h6⟩
            have hlen2 : (elems.map (rd1 ∘ fun x => x.1)).length = len := by simp [hlen]
            have hgoal := Rep.sl (w := w) (M := noM) (elems.map (rd1 ∘ fun x => x.1)) b o cap (P.cellsOf e) (fun i j => (w.cell? ⟨b, o + (i * P.cellsOf e + j), none⟩).getD default) (by rw [hlen2]; exact hl)
              (by
                intro i x hx
                simp only [List.getElem?_map, Option.map_eq_some_iff] at hx
                obtain ⟨y, hy, rfl⟩ := hx
                obtain ⟨cs', h1, h2, _, h3⟩ := each i y hy
                obtain ⟨_, h4, _⟩ := World.cells?_some h1
                simp only [Function.comp]
                rw [h3, h2.1, h4])
              (by
                intro i x j p hx hp
                simp only [List.getElem?_map, Option.map_eq_some_iff] at hx
                obtain ⟨y, hy, rfl⟩ := hx
                obtain ⟨_, _, _, _, h3⟩ := each i y hy
                simp only [Function.comp] at hp
                rw [h3] at hp
                obtain ⟨v, hv, _⟩ := hcell i y hy j p hp
                simp [hv, noM])
              (by
                intro i x j p hx hp
                simp only [List.getElem?_map, Option.map_eq_some_iff] at hx
                obtain ⟨y, hy, rfl⟩ := hx
                obtain ⟨_, _, _, _, h3⟩ := each i y hy
                simp only [Function.comp] at hp
                rw [h3] at hp
                obtain ⟨v, hv, hr⟩ := hcell i y hy j p hp
                simpa [hv] using hr)
            rw [hlen2] at hgoal
            exact hgoal
        · intro x hx
          obtain ⟨y, hy, rfl⟩ := List.mem_map.1 hx
          obtain ⟨i, hi⟩ := List.getElem?_of_mem hy
          obtain ⟨_, _, _, hf, _⟩ := each i y hi
          exact hf
    | struct fs =>
      obtain ⟨xs, k, hk, rfl, hcl, hxl, hx⟩ := DataW.trod_struct hu h
      obtain rfl : k = n := by omega
      obtain ⟨k1, k2, k3⟩ := K.struct hT hu
      have each : ∀ (i : Nat) f y, fs[i]? = some f → xs[i]? = some y → RepL w noM (rdC y.1) ((cs.drop f.offset).take (P.cellsOf f.type)) ∧ FitD P k f.type y.1 ∧ (rd1 y.1).cells = rdC y.1 := by
        intro i f y hf hy
        have hmem : f ∈ fs.toList := by
          have : fs.toList[i]? = some f := by simpa using hf
          exact List.mem_of_getElem? this
        exact ih m f.type _ y (k1 f hmem) (List.all_eq_true.1 hm f hmem) (by rw [hx i f hf, hy])
      have hseg := segs (cs := cs) (fun f => P.cellsOf f.type) fs.toList 0 (fun j f hj => by simpa using k3 j f hj) (by rw [hcl, k2]; simp)
      simp only [List.drop_zero] at hseg
      simp only [rdC, rd1, FitD, hu, rdA_flat, cells_mkAgg]
      refine ⟨?_, ⟨_, rfl, by simp [hxl], fun i f x hf hx' => ?_⟩, trivial⟩
      · rw [hseg]
        refine repL_flat (by simp [hxl]) (fun i f d hf hd => ?_)
        simp only [List.getElem?_map, Option.map_eq_some_iff] at hd
        obtain ⟨y, hy, rfl⟩ := hd
        exact (each i f y (by simpa using hf) hy).1
      · simp only [List.getElem?_map, Option.map_eq_some_iff] at hx'
        obtain ⟨y, hy, rfl⟩ := hx'
        exact (each i f y hf hy).2.1
    | array len e =>
      obtain ⟨xs, k, hk, rfl, hcl, hxl, hx⟩ := DataW.trod_array hu h
      obtain rfl : k = n := by omega
      obtain ⟨k1, k2⟩ := K.array hT hu
      have each : ∀ (i : Nat) y, xs[i]? = some y → RepL w noM (rdC y.1) ((cs.drop (i * P.cellsOf e)).take (P.cellsOf e)) ∧ FitD P k e y.1 ∧ (rd1 y.1).cells = rdC y.1 := by
        intro i y hy
        have hi : i < len := by rw [← hxl]; exact (List.getElem?_eq_some_iff.1 hy).1
        exact ih m e _ y k1 hm (by rw [hx i hi, hy])
      have hseg := segsA (cs := cs) (P.cellsOf e) len 0 (by rw [hcl, k2]; omega)
      simp only [Nat.zero_mul, List.drop_zero] at hseg
      simp only [rdC, rd1, FitD, hu, rdA_flat, cells_mkAgg]
      refine ⟨?_, ⟨_, rfl, by simp [hxl], fun x hx' => ?_⟩, trivial⟩
      · rw [hseg]
        refine repL_flat (by simp [hxl]) (fun i f d hf hd => ?_)
        simp only [List.getElem?_map, Option.map_eq_some_iff] at hd
        obtain ⟨y, hy, rfl⟩ := hd
        have hi : i < len := by rw [← hxl]; exact (List.getElem?_eq_some_iff.1 hy).1
        rw [List.getElem?_range' hi] at hf
        obtain rfl : i = f := by simp at hf; omega
        exact (each i y hy).1
      · obtain ⟨y, hy, rfl⟩ := List.mem_map.1 hx'
        obtain ⟨i, hi⟩ := List.getElem?_of_mem hy
        exact (each i y hi).2.1
    | _ => simp at hm

/-- The same of an argument. -/
theorem trod_arg (K : Kids P (· < P.types.size)) {m : Nat} {t : TypeId} {v : Value} {d : DataW H} {ps : List MemPlace} {W : World} {r : Reach} {b0 : Nat} (hT : t < P.types.size) (hm : plainT P m t = true)
    (hval : Value.okWide P W r b0 t v) (h : DataW.Trod enc P w base spare held t v d ps) : Rep w noM (rd1 d) v ∧ ∃ n, FitD P n t d := by
  obtain ⟨n, hn⟩ := h
  obtain ⟨h1, h2, h3⟩ := trod_rep K n m t _ _ hT hm hn
  refine ⟨?_, n, h2⟩
  cases n with
  | zero => simp [DataW.trod] at hn
  | succ n =>
  cases m with
  | zero => simp [plainT] at hm
  | succ m =>
  simp only [plainT] at hm
  cases hu : P.underlying t with
  | none => rw [hu] at hm; simp at hm
  | some u =>
  rw [hu] at hm
  have one : ∀ {p : PV}, rdC d = [p] → rd1 d = p → v.cells.toList = [v] → Rep w noM (rd1 d) v := by
    intro p e1 e2 e3
    rw [e1, e3] at h1
    obtain ⟨u, us, e, hr, _⟩ := h1.cons_inv
    injection e with e _
    rw [e2, e]; exact hr
  simp only [Value.okWide, hu] at hval
  simp only [FitD, hu] at h2
  cases u with
  | bool =>
    obtain ⟨b, rfl⟩ := h2
    have : v.cells.toList = [v] := by simp only [Cell.okWide, hu] at hval; cases v <;> simp_all [Cell.ok, Value.cells]
    exact one (by simp [rdC]; rfl) (by simp [rd1]) this
  | int k =>
    obtain ⟨i, rfl, _⟩ := h2
    have : v.cells.toList = [v] := by simp only [Cell.okWide, hu] at hval; cases v <;> simp_all [Cell.ok, Value.cells]
    exact one (by simp [rdC]; rfl) (by simp [rd1]) this
  | string =>
    obtain ⟨i, rfl⟩ := h2
    have : v.cells.toList = [v] := by simp only [Cell.okWide, hu] at hval; cases v <;> simp_all [Cell.ok, Value.cells]
    exact one (by simp [rdC]; rfl) (by simp [rd1]) this
  | slice e =>
    have : v.cells.toList = [v] := by simp only [Cell.okWide, hu] at hval; cases v <;> simp_all [Cell.ok, Value.cells]
    rcases h2 with rfl | ⟨es, sp, rfl, _⟩
    · exact one (by simp [rdC]; rfl) (by simp [rd1]) this
    · exact one (by simp [rdC]; rfl) (by simp [rd1]) this
  | struct fs =>
    obtain ⟨ds, rfl, _⟩ := h2
    obtain ⟨cs, rfl, _⟩ := hval
    simp only [rdC, Value.cells] at h1
    simp only [rd1]
    have := rep_mkAgg h1
    simpa using this
  | array len e =>
    obtain ⟨ds, rfl, _⟩ := h2
    obtain ⟨cs, rfl, _⟩ := hval
    simp only [rdC, Value.cells] at h1
    simp only [rd1]
    have := rep_mkAgg h1
    simpa using this
  | _ => simp at hm
end
end Go.Ab
