/- Regions that draw their order: the theorem. -/
import Derived.Test.YtgamhginhckcpaaAb17
set_option linter.all false
namespace Go.Ab

theorem evPure_congr {P : Program} {o : Oper} (hsel : ∀ cs b, o.op ≠ .select cs b) {ρ ρ' : Operand → AV} (h : ∀ x ∈ o.op.operands, ρ x = ρ' x) : evPure P o ρ = evPure P o ρ' := by
  unfold evPure
  have h1 : (o.op.operands.toList.all fun x => (valOf (ρ x)).isSome) = (o.op.operands.toList.all fun x => (valOf (ρ' x)).isSome) := by
    rw [Bool.eq_iff_iff, List.all_eq_true, List.all_eq_true]
    constructor
    · intro hh x hx; rw [← h x (by simpa using hx)]; exact hh x hx
    · intro hh x hx; rw [h x (by simpa using hx)]; exact hh x hx
  have h2 : execOp (fun x => valOr (ρ x)) o = execOp (fun x => valOr (ρ' x)) o := execOp_congr o hsel (fun x hx => by simp only [h x hx])
  rw [h1, h2]
theorem okParts_congr {h : Hp} {ρ ρ' : Operand → AV} : ∀ {ps : List (Nat × Operand)}, (∀ x ∈ ps.map (·.2), ρ x = ρ' x) → okParts h ρ ps = okParts h ρ' ps
  | [], _ => rfl
  | (i, x) :: ps, hx => by
    simp only [okParts]
    rw [hx x (by simp), okParts_congr (fun y hy => hx y (by simp at hy ⊢; exact .inr hy))]
theorem evElems_congr {h : Hp} {ρ ρ' : Operand → AV} {esz : Nat} : ∀ {ps : List (Nat × Operand)} {k : Nat}, (∀ x ∈ ps.map (·.2), ρ x = ρ' x) → evElems h ρ esz k ps = evElems h ρ' esz k ps
  | [], _, _ => rfl
  | (i, x) :: ps, k, hx => by
    simp only [evElems]
    rw [hx x (by simp), evElems_congr (fun y hy => hx y (by simp at hy ⊢; exact .inr hy))]

theorem evOp_congr {P : Program} {hn : List Nat} {o : Oper} {ρ ρ' : Operand → AV} {h : Hp} (hx : ∀ x ∈ o.op.operands, ρ x = ρ' x) : evOp P hn o ρ h = evOp P hn o ρ' h := by
  have hpure : (∀ cs b, o.op ≠ .select cs b) → evPure P o ρ = evPure P o ρ' := fun hsel => evPure_congr hsel hx
  obtain ⟨dst, op, type, pos, after, guard⟩ := o
  cases op with
  | build t ps => simp only [evOp]; rw [okParts_congr (ρ' := ρ') (fun x hx' => hx x (by simpa [Op.operands] using hx'))]
  | buildSlice t len ps =>
    simp only [evOp]
    have : ∀ esz, evElems h ρ esz 0 ps.toList = evElems h ρ' esz 0 ps.toList := fun esz => evElems_congr (fun x hx' => hx x (by simpa [Op.operands] using hx'))
    simp only [this]
  | makeFunc f first caps =>
    simp only [evOp]
    have h1 : first.toList.map ρ = first.toList.map ρ' := List.map_congr_left (fun x hx' => hx x (by simp at hx'; simp [Op.operands, hx']))
    have h2 : caps.toList.map ρ = caps.toList.map ρ' := List.map_congr_left (fun x hx' => hx x (by simp at hx'; simp [Op.operands, hx']))
    rw [h1, h2]
  | call c =>
    simp only [evOp]
    split
    · rename_i b hb
      have h1 : c.args.toList.map ρ = c.args.toList.map ρ' := List.map_congr_left (fun x hx' => hx x (by simp at hx'; simp [Op.operands, Call.operands, hx']))
      have h2 := hpure (by intro _ _ h; cases h)
      rw [h1]
      unfold evBuiltin orPure
      rw [h2]
    · rfl
  | slice t x lo hi mx =>
    have h2 := hpure (by intro _ _ h; cases h)
    simp only [evOp]
    rw [hx x (by simp [Op.operands]), h2]
    have h3 : lo.map ρ = lo.map ρ' := by cases lo with | none => rfl | some y => simp [hx y (by simp [Op.operands])]
    have h4 : hi.map ρ = hi.map ρ' := by cases hi with | none => rfl | some y => simp [hx y (by simp [Op.operands])]
    rw [h3, h4]
  | move x => simp only [evOp]; rw [hx x (by simp [Op.operands])]
  | assign x => simp only [evOp]; rw [hx x (by simp [Op.operands])]
  | pick c a b => simp only [evOp]; rw [hx c (by simp [Op.operands]), hx a (by simp [Op.operands]), hx b (by simp [Op.operands])]
  | alloc e => rfl
  | box e x => simp only [evOp]; rw [hx x (by simp [Op.operands])]
  | load t a => simp only [evOp]; rw [hx a (by simp [Op.operands])]
  | store t a v => simp only [evOp]; rw [hx a (by simp [Op.operands]), hx v (by simp [Op.operands])]
  | nilCheck x => simp only [evOp]; rw [hx x (by simp [Op.operands])]
  | fieldAddr s x f => simp only [evOp]; rw [hx x (by simp [Op.operands])]
  | indexAddr t x i => simp only [evOp]; rw [hx x (by simp [Op.operands]), hx i (by simp [Op.operands])]
  | makeSlice t l c => simp only [evOp]; rw [hx l (by simp [Op.operands]), hx c (by simp [Op.operands])]
  | extract t i =>
    have h2 := hpure (by intro _ _ h; cases h)
    simp only [evOp]; rw [hx t (by simp [Op.operands]), h2]
  | binOp op t x y t' =>
    have h2 := hpure (by intro _ _ h; cases h)
    simp only [evOp, orPure, nilCmp]; rw [hx x (by simp [Op.operands]), hx y (by simp [Op.operands]), h2]
  | unOp op t x =>
    have h2 := hpure (by intro _ _ h; cases h)
    simp only [evOp, orPure]; rw [hx x (by simp [Op.operands]), h2]
  | convert s d x =>
    have h2 := hpure (by intro _ _ h; cases h)
    simp only [evOp, orPure]; rw [hx x (by simp [Op.operands]), h2]
  | field t x f =>
    have h2 := hpure (by intro _ _ h; cases h)
    simp only [evOp]; rw [h2]
  | index t x i =>
    have h2 := hpure (by intro _ _ h; cases h)
    simp only [evOp, orPure]; rw [hx x (by simp [Op.operands]), hx i (by simp [Op.operands]), h2]
  | _ => rfl

theorem evO_congr {P : Program} {hn : List Nat} {o : Oper} {ρ ρ' : Operand → AV} {h : Hp} (hx : ∀ x ∈ o.op.operands, ρ x = ρ' x) (K : Eff → Prop) : evO P hn o ρ h K = evO P hn o ρ' h K := by
  unfold evO
  rw [evOp_congr hx]
  split
  · rename_i c hop
    split
    · rename_i f hcal
      have h1 : ρ f = ρ' f := hx f (by rw [hop]; obtain ⟨a, b, d⟩ := c; simp only at hcal; subst hcal; simp [Op.operands, Call.operands])
      have h2 : c.args.toList.map ρ = c.args.toList.map ρ' := List.map_congr_left (fun x hx' => hx x (by rw [hop]; simp at hx'; simp [Op.operands, Call.operands, hx']))
      rw [h1, h2]
    · rfl
  · rfl

theorem kset_congr {o : Oper} {ρ ρ' : Operand → AV} (hx : ∀ x ∈ o.op.operands, ρ x = ρ' x) : kset o ρ = kset o ρ' := by
  unfold kset
  split
  · congr 1
    have : ∀ l : List Operand, (∀ x ∈ l, ρ x = ρ' x) → (l.flatMap fun x => refs (ρ x)) = l.flatMap fun x => refs (ρ' x) := by
      intro l
      induction l with
      | nil => intro _; rfl
      | cons a l ih => intro hl; simp only [List.flatMap_cons]; rw [hl a (by simp), ih (fun x hx => hl x (by simp [hx]))]
    exact this _ (fun x hx' => hx x (by simpa using hx'))
  · rfl

/-! ### the run in the order of the text -/
structure Ef where
  d : Option Nat
  v : AV
  W : List (Nat × Blk)
  K : List Nat
  deriving Inhabited

def run (fs : List Ef) (st : St) : St := fs.foldl (fun s f => s.put f.d f.v f.W) st

/-- One operation of the run, from the state in which the text comes to it. -/
def StepOk (P : Program) (hn : List Nat) (N : Nat) (ops : Array Oper) (o : Oper) (st : St) (f : Ef) : Prop :=
  dstOk N o.dst = true ∧ f.d = o.dst ∧
    ((guardB ops st.t o.guard = some true ∧ f.K = kset o st.ev ∧ evO P hn o st.ev (restrict f.K st.h) (fun x => x = (f.v, f.W)) ∧ (f.W.all fun kb => f.K.contains kb.1) = true) ∨
     (guardB ops st.t o.guard = some false ∧ f.v = .pv (.val (.tuple #[])) ∧ f.W = [] ∧ f.K = []))

theorem evD_run {P : Program} {hn : List Nat} {N : Nat} {ops : Array Oper} {Q : Acc → St → Prop} : ∀ {l : List Oper} {acc : Acc} {st : St}, evD P hn N ops Q l acc st →
    ∃ fs : List Ef, fs.length = l.length ∧ (∀ (i : Nat) o f, l[i]? = some o → fs[i]? = some f → StepOk P hn N ops o (run (fs.take i) st) f) ∧ Q (acc ++ fs.map fun f => (f.W.map (·.1), f.K)) (run fs st)
  | [], acc, st, e => ⟨[], rfl, fun i o f h => by simp at h, by simpa [evD, run] using e⟩
  | o :: l, acc, st, e => by
    simp only [evD] at e
    obtain ⟨hd, e⟩ := e
    have fin : ∀ (f : Ef), StepOk P hn N ops o st f → evD P hn N ops Q l (acc ++ [(f.W.map (·.1), f.K)]) (st.put f.d f.v f.W) →
        ∃ fs : List Ef, fs.length = (o :: l).length ∧ (∀ (i : Nat) o' f', (o :: l)[i]? = some o' → fs[i]? = some f' → StepOk P hn N ops o' (run (fs.take i) st) f') ∧ Q (acc ++ fs.map fun f => (f.W.map (·.1), f.K)) (run fs st) := by
      intro f hf hrest
      obtain ⟨fs, h1, h2, h3⟩ := evD_run hrest
      refine ⟨f :: fs, by simp [h1], fun i o' f' ho hf' => ?_, ?_⟩
      · cases i with
        | zero => simp at ho hf'; subst ho; subst hf'; exact hf
        | succ i => exact h2 i o' f' (by simpa using ho) (by simpa using hf')
      · simpa [run, List.append_assoc] using h3
    split at e
    · rename_i hg
      obtain ⟨eff, he, hall, hrest⟩ := evO_ex e
      exact fin ⟨o.dst, eff.1, eff.2, kset o st.ev⟩ ⟨hd, rfl, .inl ⟨guardV_none hg, rfl, he, hall⟩⟩ hrest
    · rename_i d b want hg
      unfold evB at e
      simp only at e
      split at e
      · rename_i hgt
        subst hgt
        obtain ⟨eff, he, hall, hrest⟩ := evO_ex e
        exact fin ⟨o.dst, eff.1, eff.2, kset o st.ev⟩ ⟨hd, rfl, .inl ⟨(guardV_some hg).trans (by simp), rfl, he, hall⟩⟩ hrest
      · rename_i hgf
        exact fin ⟨o.dst, .pv (.val (.tuple #[])), [], []⟩ ⟨hd, rfl, .inr ⟨(guardV_some hg).trans (by simpa using hgf), rfl, rfl, rfl⟩⟩ e
    · exact e.elim
end Go.Ab
