/- Loops that count. -/
import Derived.Test.YtgamhginhckcpaaAbS
set_option linter.all false
namespace Go.Ab
section
variable {C : Cx} {Q : Exit → St → Prop} {st : St}
def LoopQ (ks : List Nat) (J : St → Prop) (Q : Exit → St → Prop) : Exit → St → Prop
  | .normal, st => J (st.kill ks)
  | e, st => Q e st
@[simp] theorem loopQ_normal {ks : List Nat} {J : St → Prop} : LoopQ ks J Q .normal st = J (st.kill ks) := rfl
@[simp] theorem loopQ_ret {ks : List Nat} {J : St → Prop} : LoopQ ks J Q .ret st = Q .ret st := rfl
@[simp] theorem loopQ_exit {ks : List Nat} {J : St → Prop} {i : Nat} : LoopQ ks J Q (.exit i) st = Q (.exit i) st := rfl
/-- A loop that goes through less than N + 1 rounds. -/
theorem WP.loopN {c : Code} (ks : List Nat) (N : Nat) (I : Nat → St → Prop) (h₀ : I 0 (st.kill ks))
    (round : ∀ i st, i ≤ N → I i st → WP C c (LoopQ ks (fun st' => i < N ∧ I (i + 1) st') Q) st) : WP C (.loop c) Q st := by
  classical
  refine WP.loop ks (fun st => ∃ i, i ≤ N ∧ I i st) (fun st => N - (if h : ∃ i, i ≤ N ∧ I i st ∧ ∀ j, j ≤ N → I j st → j ≤ i then h.choose else 0)) ⟨0, Nat.zero_le _, h₀⟩ ?_
  intro st ⟨i₀, hi₀, hI₀⟩
  -- the greatest count that the state allows
  have hmax : ∃ i, i ≤ N ∧ I i st ∧ ∀ j, j ≤ N → I j st → j ≤ i := by
    have : ∀ d i, N - i ≤ d → i ≤ N → I i st → ∃ i, i ≤ N ∧ I i st ∧ ∀ j, j ≤ N → I j st → j ≤ i := by
      intro d
      induction d with
      | zero => intro i hd hi hI; exact ⟨i, hi, hI, fun j hj _ => by omega⟩
      | succ d ih =>
        intro i hd hi hI
        by_cases h : ∃ j, j ≤ N ∧ I j st ∧ i < j
        · obtain ⟨j, hj, hIj, hij⟩ := h; exact ih j (by omega) hj hIj
        · exact ⟨i, hi, hI, fun j hj hIj => Nat.le_of_not_lt (fun hlt => h ⟨j, hj, hIj, hlt⟩)⟩
    exact this N i₀ (by omega) hi₀ hI₀
  have hm := hmax.choose_spec
  refine WP.mono (round _ st hm.1 hm.2.1) ?_
  intro e st' hq
  cases e with
  | normal =>
    obtain ⟨hlt, hI⟩ := hq
    refine ⟨⟨_, hlt, hI⟩, ?_⟩
    have hex : ∃ i, i ≤ N ∧ I i (st'.kill ks) ∧ ∀ j, j ≤ N → I j (st'.kill ks) → j ≤ i := by
      have : ∀ d i, N - i ≤ d → i ≤ N → I i (st'.kill ks) → ∃ i, i ≤ N ∧ I i (st'.kill ks) ∧ ∀ j, j ≤ N → I j (st'.kill ks) → j ≤ i := by
        intro d
        induction d with
        | zero => intro i hd hi hI; exact ⟨i, hi, hI, fun j hj _ => by omega⟩
        | succ d ih =>
          intro i hd hi hI
          by_cases h : ∃ j, j ≤ N ∧ I j (st'.kill ks) ∧ i < j
          · obtain ⟨j, hj, hIj, hij⟩ := h; exact ih j (by omega) hj hIj
          · exact ⟨i, hi, hI, fun j hj hIj => Nat.le_of_not_lt (fun hlt => h ⟨j, hj, hIj, hlt⟩)⟩
      exact this N _ (by omega) hlt hI
    have h1 := hex.choose_spec.2.2 _ hlt hI
    rw [dif_pos hex, dif_pos hmax]
    omega
  | _ => exact hq
end

attribute [simp] Value.oneCell'
def Arg.isPv : Arg → Bool
  | .pv _ => true
  | .bx _ => false
theorem detP_of {P : Program} {f : FuncId} {fn : Func} {c : Code} (hf : P.funcs[f]? = some fn) (hb : fn.body = some c) (hcall : callable P f = true) {args : List Arg} {res : RV} (hlen : args.length ≤ fn.ntmps) (ha : args.all Arg.isPv = true)
    (h : ∀ C : Cx, C.P = P → C.N = fn.ntmps → WP C c (Fin P fn.results.toList [] res) (st0 args [])) : DetH P f args [] [] res := by
  refine detH_of hf hb hcall hlen rfl (fun i j hij => ?_) h
  have := List.all_eq_true.1 ha _ (List.mem_of_getElem? hij)
  simp [Arg.isPv] at this
@[simp] theorem argH_pk (hin : List (List PV)) (i : Nat) : argH hin (pk i) = (hin[i]?).map (fun ps => .box (ps.map .pv) false false) := by
  rw [argH_apply, if_neg (by unfold pk; omega), show pk i - 1000000 = i by unfold pk; omega]
  cases hin[i]? <;> rfl
@[simp] theorem argH_slot (hin : List (List PV)) {k : Nat} (h : k < 1000000) : argH hin k = none := by rw [argH_apply, if_pos h]
@[simp] theorem pk_inj (i j : Nat) : (pk i = pk j) = (i = j) := by unfold pk; simp
@[simp] theorem pk_ne {i n : Nat} (h : n < 1000000) : (pk i = n) = False := by unfold pk; simp; omega
@[simp] theorem ne_pk {i n : Nat} (h : n < 1000000) : (n = pk i) = False := by unfold pk; simp; omega
/-- What a function has made of the variables that it was handed. -/
theorem houts_ok {h : Hp} {hout : List (List PV)} (hh : ∀ i, i < hout.length → h (pk i) = (hout[i]?).map fun ps => .box (ps.map .pv) false false) : ∀ (i : Nat) ps, hout[i]? = some ps → h (pk i) = some (.box (ps.map .pv) false false) := by
  intro i ps hp
  rw [hh i (List.getElem?_eq_some_iff.1 hp).1, hp]; rfl
@[simp] theorem houts_nil {F : Nat → List PV → Prop} : (∀ (i : Nat) (ps : List PV), ([] : List (List PV))[i]? = some ps → F i ps) = True := by simp
@[simp] theorem houts_one {a : List PV} {F : Nat → List PV → Prop} : (∀ (i : Nat) (ps : List PV), [a][i]? = some ps → F i ps) = F 0 a := by
  refine propext ⟨fun h => h 0 a rfl, fun h i ps hi => ?_⟩
  cases i with
  | zero => simp at hi; subst hi; exact h
  | succ i => simp at hi
end Go.Ab
