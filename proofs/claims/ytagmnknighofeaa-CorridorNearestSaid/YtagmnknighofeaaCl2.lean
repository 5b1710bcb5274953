/- A law's row out of its contract. -/
import Derived.Test.YtagmnknighofeaaCl1
import Derived.ProofKit
import Derived.JoinedCond
import Derived.JoinedOf
set_option linter.all false
namespace Go.Ab
open Go.ChangeShapes Go.WideShapes Go.ChangeAt Go.RowKit

def FitAll {H : Type} (P : Program) : List TypeId → List (DataW H) → Prop
  | [], [] => True
  | t :: ts, d :: ds => (∃ n, FitD P n t d) ∧ FitAll P ts ds
  | _, _ => False

section
variable {H : Type} {enc : TypeId × Value → H} {P : Program} {w : World} {base : Nat} {spare : Nat → Bool} {held : Bool}

theorem trodAll_rep (K : Kids P (· < P.types.size)) {W : World} {r : Reach} {b0 : Nat} : ∀ {ts : List TypeId} {vs : List Value} {ds : List (DataW H)} {ps : List MemPlace}, (∀ t ∈ ts, t < P.types.size ∧ plainT P 20 t = true) →
    (∀ (j : Nat) t v, ts[j]? = some t → vs[j]? = some v → Value.okWide P W r b0 t v) → DataW.TrodAll enc P w base spare held ts vs ds ps →
    FitAll P ts ds ∧ vs.length = ds.length ∧ ds.length = ts.length ∧ ∀ (i : Nat) d v, ds[i]? = some d → vs[i]? = some v → Rep w noM (rd1 d) v
  | [], vs, ds, ps, _, _, h => by
    obtain ⟨rfl, rfl, rfl⟩ := trodAll_nil h
    exact ⟨trivial, rfl, rfl, fun i d v h => by simp at h⟩
  | t :: ts, vs, ds, ps, hp, hv, h => by
    obtain ⟨v, vs1, d, ds1, a, b, rfl, rfl, rfl, h1, h2⟩ := trodAll_cons h
    obtain ⟨hT, hm⟩ := hp t (by simp)
    obtain ⟨r1, f1⟩ := trod_arg K hT hm (hv 0 t v rfl rfl) h1
    obtain ⟨f2, l2, l3, r2⟩ := trodAll_rep K (fun t ht => hp t (by simp [ht])) (fun j t v h h' => hv (j + 1) t v (by simpa using h) (by simpa using h')) h2
    refine ⟨⟨f1, f2⟩, by simp [l2], by simp [l3], fun i d' v' hd hv' => ?_⟩
    cases i with
    | zero => simp at hd hv'; subst hd; subst hv'; exact r1
    | succ i => exact r2 i d' v' (by simpa using hd) (by simpa using hv')

theorem Ext.sameAt {w w' : World} (h : Ext (· ∈ ([] : List Nat)) w w') {p : MemPlace} (hp : p.block < w.heap.size) : w.sameAt w' p := by
  cases p with
  | cell b o => exact h.cell hp (by simp)
  | map b => exact h.block b hp (by simp)
theorem Ext.kept {w w' : World} (h : Ext (· ∈ ([] : List Nat)) w w') (may : MemPlace → Prop) : w.keptBut w' may := by
  refine ⟨h.os, h.output, fun i hi => ?_⟩
  rw [h.block i hi (by simp)]
  have : w.heap[i]? = some w.heap[i] := Array.getElem?_eq_getElem hi
  rw [this]
  cases w.heap[i] with
  | cells c t fr => exact ⟨rfl, rfl, rfl, fun _ _ => rfl⟩
  | map es clock => exact Or.inr ⟨rfl, rfl⟩
  | _ => rfl

theorem trodAll_carry {w w' : World} : ∀ {ts : List TypeId} {vs : List Value} {ds : List (DataW H)} {ps : List MemPlace}, DataW.TrodAll enc P w base spare held ts vs ds ps → (∀ p ∈ ps, w.sameAt w' p) → DataW.TrodAll enc P w' base spare held ts vs ds ps
  | [], vs, ds, ps, h, _ => by
    obtain ⟨rfl, rfl, rfl⟩ := trodAll_nil h
    exact trodAll_mk0
  | t :: ts, vs, ds, ps, h, hs => by
    obtain ⟨v, vs1, d, ds1, a, b, rfl, rfl, rfl, ⟨n, h1⟩, h2⟩ := trodAll_cons h
    exact ⟨a, b, ⟨n, DataW.trod_carry n _ _ _ h1 (fun p hp => hs p (by simp at hp ⊢; exact .inl hp))⟩, trodAll_carry h2 (fun p hp => hs p (by simp [hp])), rfl⟩

theorem cell_frozen {w w' : World} (h : Ext (· ∈ ([] : List Nat)) w w') {a : Addr} (ha : a.block < w.heap.size) : w'.frozen? a = w.frozen? a := by
  unfold World.frozen?; rw [h.block _ ha (by simp)]

/-- The row's end, where nothing that was there has turned. -/
theorem post_same {f : Func} {s : ChangeSpec} {apart fresh handsOn again : Bool} {W W' : World} {args : Array Value} {v : Value} {ds gs : List (DataW H)} {before pa pv : List MemPlace}
    (hW : DataW.Whole enc P f.params.toList s.vars apart W args.toList ds gs before)
    (hres : ∀ (b : Nat) (sp : Nat → Bool) (hd : Bool), DataW.TrodAll enc P W' b sp hd f.resultTypes.toList (v.resultList f.resultTypes.size) (s.fn H (ds ++ gs)).results [])
    (hargs : ∀ sp : Nat → Bool, (∀ p ∈ before, sp p.block = true) → DataW.TrodAll enc P W' 0 sp true f.params.toList args.toList (s.fn H (ds ++ gs)).args pa)
    (hvars : ∀ sp : Nat → Bool, (∀ p ∈ before, sp p.block = true) → DataW.TrodVars enc P W' sp s.vars (s.fn H (ds ++ gs)).vars pv)
    (hps : before = pa ++ pv) (hk : W.keptBut W' (· ∈ before)) (hfz : ∀ a : Addr, a.block < W.heap.size → W'.frozen? a = W.frozen? a)
    (hok : ∀ (j : Nat) (t : TypeId) (r : Value), f.resultTypes[j]? = some t → (v.resultList f.resultTypes.size)[j]? = some r → Value.okWide P W' .any 0 t r) :
    s.post enc P f apart fresh handsOn again W args v W' := by
  have hlt : ∀ p ∈ before, p.block < W.heap.size := hW.lt
  have hold : ∀ p ∈ before, (fun b => decide (b < W.heap.size)) p.block = true := fun p hp => by simpa using hlt p hp
  refine ⟨ds, gs, before, [], pa, pv, hW, hres _ _ _, hargs _ hold, hvars _ hold, World.keptBut_mono (fun p hp => ⟨hp, ?_⟩) hk, fun _ => ?_⟩
  · rw [hps, List.mem_append] at hp
    exact Or.inr hp
  · obtain ⟨_, _, _, _, _, hz, hn⟩ := hW
    refine ⟨hok, _, _, ([] ++ pa) ++ pv, ⟨[] ++ pa, pv, trodAll_append (hargs _ (fun _ _ => rfl)) (hres _ _ _), hvars _ (fun _ _ => rfl), rfl, ?_, ?_⟩, ?_⟩
    · intro b off hp
      have hm : MemPlace.cell b off ∈ before := by rw [hps]; simpa using hp
      rw [hfz _ (hlt _ hm)]
      exact hz b off hm
    · intro ha
      have := hn ha
      rw [hps] at this
      simpa using this
    · intro p hp _
      rw [hps]
      simpa using hp

/-- What the walk gives for the row. -/
theorem law_contract {f : FuncId} {fn : Func} {s : ChangeSpec} {tb : TypeId} {apart fresh handsOn again : Bool} (K : Kids P (· < P.types.size)) (full : ∀ t e, t < P.types.size → P.underlying t = some (.slice e) → 0 < P.cellsOf e)
    (hpar0 : (fn.params.toList.all fun t => decide (t < P.types.size) && plainT P 20 t) = true) (hres : fn.resultTypes = #[tb]) (htb : P.underlying tb = some .bool) (hvars : s.vars = [])
    (W : World) (base : Nat) (args : Array Value) (ds gs : List (DataW H)) (before : List MemPlace)
    (hval : ∀ (j : Nat) t v, fn.params[j]? = some t → args[j]? = some v → Value.okWide P W .any base t v)
    (hW : DataW.Whole enc P fn.params.toList s.vars apart W args.toList ds gs before)
    (hspec0 : FitAll P fn.params.toList ds → s.fn H ds = { results := [.lit (.bool true)], args := ds })
    (hdet : FitAll P fn.params.toList ds → DetH P f (ds.map fun d => .pv (rd1 d)) [] [] (.pv (.val (.bool true)))) :
    Calls P f args W fun e W' => ∃ v, e = .returned v ∧ s.post enc P fn apart fresh handsOn again W args v W' := by
  have hpar : ∀ t ∈ fn.params.toList, t < P.types.size ∧ plainT P 20 t = true := fun t ht => by
    have := List.all_eq_true.1 hpar0 t ht
    simpa using this
  have hW' := hW
  obtain ⟨p, q, hA, hV, rfl, hfz, hnd⟩ := hW
  rw [hvars] at hV
  obtain ⟨rfl, rfl⟩ := trodVars_none hV
  obtain ⟨hfit, hl1, hl2, hrep⟩ := trodAll_rep K hpar (fun j t v h h' => hval j t v (by simpa using h) (by simpa using h')) hA
  obtain ⟨hcall, _, hc⟩ := hdet hfit
  have hspec : s.fn H (ds ++ []) = { results := [.lit (.bool true)], args := ds } := by rw [List.append_nil]; exact hspec0 hfit
  have hlt : ∀ p' ∈ p ++ [], p'.block < W.heap.size := fun p' hp' => hW'.lt p' hp'
  have := hc W noM [] args.toList (fun _ _ h => h.elim) rfl List.nodup_nil (fun i b ps h => by simp at h) (by simp [hl1]) (by
    intro i a v ha hv
    simp only [List.getElem?_map, Option.map_eq_some_iff] at ha
    obtain ⟨d, hd, rfl⟩ := ha
    exact hrep i d v hd hv)
  simp only [Array.toArray_toList] at this
  refine this.mono fun e W' ⟨v, he, hx, _, hr⟩ => ⟨v, he, ?_⟩
  have hr' : Rep W' noM (.val (.bool true)) v := hr
  cases hr'
  have hlen1 : fn.resultTypes.size = 1 := by rw [hres]; rfl
  refine post_same (pa := p) (pv := []) hW' (fun b sp hd => ?_) (fun sp hsp => ?_) (fun sp _ => ?_) rfl (hx.kept _) (fun a ha => cell_frozen hx ha) ?_
  · rw [hspec, hres]
    exact trodAll_cons_mk (shut_bool htb true) trodAll_mk0
  · rw [hspec]
    exact (trodAll_carry (hA.respare K full (fun t ht => (hpar t ht).1) (fun p' hp' => hsp p' (by simp [hp']))) (fun p' hp' => hx.sameAt (hlt p' (by simp [hp']))))
  · rw [hvars, hspec]; rfl
  · exact ok_one hres rfl (okWide_bool_mk htb true)
end
end Go.Ab
