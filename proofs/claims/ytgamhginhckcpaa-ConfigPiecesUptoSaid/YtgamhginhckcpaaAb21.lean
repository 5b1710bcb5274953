/- Comparisons of structs. -/
import Derived.Test.YtgamhginhckcpaaAb20
import Derived.Laws.StructEq
set_option linter.all false
namespace Go.Ab
theorem runPure_program {P : Program} : runPure P Go.program = some P := rfl
theorem runPure_underlying {P : Program} {t : TypeId} {d : TypeDesc} (h : P.underlying t = some d) : runPure P (underlying t) = some d := by
  unfold underlying; rw [runPure_bind, runPure_program, Option.bind_some, h]; rfl
theorem rp_struct {P : Program} (d : Nat) (t : TypeId) (xs ys : Array Value) (ht : P.underlying t = some (.struct (P.fieldsOf t))) (hp : P.stoodInHeld t = false) :
    runPure P (Op.equalIn (d + 1) t (.agg xs) (.agg ys)) = runPure P (Op.eqFields d xs ys (P.fieldsOf t).toList) := by
  simp only [Op.equalIn, runPure_bind, runPure_underlying ht, Option.bind_some, runPure_program, hp, Bool.false_eq_true, if_false]
  rw [← Array.forIn_toList]
  generalize (P.fieldsOf t).toList = fs
  clear ht
  induction fs with
  | nil => simp [Op.eqFields]; rfl
  | cons f fs ih =>
    simp only [List.forIn_cons, Op.eqFields, runPure_bind]
    by_cases hn : f.name ≠ "_"
    · rw [if_pos hn, if_pos hn]
      simp only [runPure_bind]
      cases runPure P (part f.type xs f.offset) with
      | none => rfl
      | some a =>
        simp only [Option.bind_some]
        cases runPure P (part f.type ys f.offset) with
        | none => rfl
        | some b =>
          simp only [Option.bind_some]
          cases runPure P (Op.equalIn d f.type a b) with
          | none => rfl
          | some r =>
            cases r
            · simp only [Option.bind_some, Bool.not_false, if_true, runPure_pure]
            · simp only [Option.bind_some, Bool.not_true, Bool.false_eq_true, if_false, runPure_pure]
              exact ih
    · rw [if_neg hn, if_neg hn]
      simp only [runPure_pure, Option.bind_some]
      exact ih
theorem rp_int {P : Program} (d : Nat) (t : TypeId) (k k' : IntKind) (a b : Int) (h : P.underlying t = some (.int k')) : runPure P (Op.equalIn (d + 1) t (.int k a) (.int k b)) = some (a == b) := by
  simp only [Op.equalIn, runPure_bind, runPure_underlying h, Option.bind_some]; rw [if_pos trivial]; rfl
theorem rp_string {P : Program} (d : Nat) (t : TypeId) (a b : ByteArray) (h : P.underlying t = some .string) : runPure P (Op.equalIn (d + 1) t (.string a) (.string b)) = some (a == b) := by
  simp only [Op.equalIn, runPure_bind, runPure_underlying h, Option.bind_some]; rfl
/-- One field after another. -/
theorem rp_cons {P : Program} {d : Nat} {xs ys : Array Value} {f : Field} {fs : List Field} {a b : Value} {r r' : Bool} (hn : f.name ≠ "_") (ha : runPure P (part f.type xs f.offset) = some a) (hb : runPure P (part f.type ys f.offset) = some b)
    (he : runPure P (Op.equalIn d f.type a b) = some r) (hr : runPure P (Op.eqFields d xs ys fs) = some r') : runPure P (Op.eqFields d xs ys (f :: fs)) = some (r && r') := by
  simp only [Op.eqFields]
  rw [if_pos hn]
  simp only [runPure_bind, ha, hb, he, Option.bind_some]
  cases r
  · simp; rfl
  · simp [hr]
theorem rp_nil {P : Program} {d : Nat} {xs ys : Array Value} : runPure P (Op.eqFields d xs ys []) = some true := rfl
theorem evPure_neq {P : Program} {o : Oper} {ρ : Operand → AV} {t t' : TypeId} {x y : Operand} {xs ys : Array Value} {b : Bool} (ho : o.op = .binOp .neq t x y t') (hx : ρ x = .pv (.val (.agg xs))) (hy : ρ y = .pv (.val (.agg ys)))
    (hg : P.eqGuardType P.depth t = false) (h : runPure P (Op.equal t (.agg xs) (.agg ys)) = some b) : evPure P o ρ = some (.pv (.val (.bool !b)), []) := by
  refine evPure_of (by rw [ho]; simp [Op.operands, hx, hy, valOf]) ?_
  unfold execOp
  rw [ho]
  simp only [(valOf_some hx).2, (valOf_some hy).2]
  have h1 : runPure P (eqGuard .neq t x y (.agg xs) (.agg ys)) = some () := by
    unfold eqGuard; simp only [Bool.not_true, Bool.false_eq_true, if_false, runPure_bind, runPure_program, Option.bind_some, hg, Bool.not_false, if_true]; rfl
  have h2 : runPure P (binOp .neq t (.agg xs) (.agg ys)) = some (.bool !b) := by
    simp only [binOp, runPure_bind, h, Option.bind_some]; rfl
  simp only [runPure_bind, h1, h2, Option.bind_some]; rfl
theorem evPure_eql {P : Program} {o : Oper} {ρ : Operand → AV} {t t' : TypeId} {x y : Operand} {xs ys : Array Value} {b : Bool} (ho : o.op = .binOp .eql t x y t') (hx : ρ x = .pv (.val (.agg xs))) (hy : ρ y = .pv (.val (.agg ys)))
    (hg : P.eqGuardType P.depth t = false) (h : runPure P (Op.equal t (.agg xs) (.agg ys)) = some b) : evPure P o ρ = some (.pv (.val (.bool b)), []) := by
  refine evPure_of (by rw [ho]; simp [Op.operands, hx, hy, valOf]) ?_
  unfold execOp
  rw [ho]
  simp only [(valOf_some hx).2, (valOf_some hy).2]
  have h1 : runPure P (eqGuard .eql t x y (.agg xs) (.agg ys)) = some () := by
    unfold eqGuard; simp only [Bool.not_true, Bool.false_eq_true, if_false, runPure_bind, runPure_program, Option.bind_some, hg, Bool.not_false, if_true]; rfl
  have h2 : runPure P (binOp .eql t (.agg xs) (.agg ys)) = some (.bool b) := by
    simp only [binOp, runPure_bind, h, Option.bind_some]; rfl
  simp only [runPure_bind, h1, h2, Option.bind_some]; rfl
end Go.Ab
