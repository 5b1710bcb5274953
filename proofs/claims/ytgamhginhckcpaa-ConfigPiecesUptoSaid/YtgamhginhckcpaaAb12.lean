/- One operation is what the model does. -/
import Derived.Test.YtgamhginhckcpaaAb11
set_option linter.all false
namespace Go.Ab
section
variable {C : Cx} {L : Nat → Loc} {h1 h : Hp} {w : World}

theorem evPure_sound {M : Nat → Nat → Prop} {o : Oper} (hsel : ∀ cs b, o.op ≠ .select cs b) {ρ : Operand → AV} {σ : Operand → Value} (hρ : ∀ x ∈ o.op.operands, RepA w M L h (ρ x) (σ x)) {v : AV} {W : List (Nat × Blk)}
    (e : evPure C.P o ρ = some (v, W)) : ∃ u, (execOp σ o).run C.P w = .ok (.value u) w ∧ W = [] ∧ v = .pv (.val u) := by
  unfold evPure at e
  split at e
  · rename_i hall
    split at e
    · rename_i u hrun
      injection e with e; injection e with e1 e2; subst e1; subst e2
      have hcongr : execOp σ o = execOp (fun x => valOr (ρ x)) o := by
        refine execOp_congr o hsel (fun x hx => ?_)
        have h1 := List.all_eq_true.1 hall x (by simpa using hx)
        have h2 := hρ x hx
        generalize ρ x = y at h1 h2 ⊢
        cases y with
        | pv p => cases p with
          | val vv => cases h2 with
            | pv hr => rw [rep_val_inv hr]; rfl
          | _ => simp [valOf] at h1
        | _ => simp [valOf] at h1
      exact ⟨u, by rw [hcongr]; exact runPure_run hrun w, rfl, rfl⟩
    · cases e
  · cases e

theorem map1 {ρ : Operand → AV} {args : List Operand} {x : AV} (e : args.map ρ = [x]) : ∃ a, args = [a] ∧ ρ a = x := by
  cases args with
  | nil => simp at e
  | cons a r => cases r with
    | nil => simp at e; exact ⟨a, rfl, e⟩
    | cons => simp at e
theorem map2 {ρ : Operand → AV} {args : List Operand} {x y : AV} (e : args.map ρ = [x, y]) : ∃ a b, args = [a, b] ∧ ρ a = x ∧ ρ b = y := by
  cases args with
  | nil => simp at e
  | cons a r => cases r with
    | nil => simp at e
    | cons b r => cases r with
      | nil => simp at e; exact ⟨a, b, rfl, e.1, e.2⟩
      | cons => simp at e


theorem runPure_bind {α β : Type} {P : Program} : ∀ (s : Sem α) (f : α → Sem β), runPure P (s >>= f) = (runPure P s).bind fun a => runPure P (f a)
  | .pure a, f => rfl
  | .program k, f => by
    show runPure P ((k P) >>= f) = _
    rw [runPure_bind (k P) f]; rfl
  | .load _ _ _, _ => rfl
  | .store _ _ _ _, _ => rfl
  | .new _ _, _ => rfl
  | .shape _ _, _ => rfl
  | .freeze _ _ _, _ => rfl
  | .frozen _ _, _ => rfl
  | .getObj _ _, _ => rfl
  | .setObj _ _ _, _ => rfl
  | .choose _ _, _ => rfl
  | .sys _ _, _ => rfl
  | .mark _ _, _ => rfl
  | .halt _, _ => rfl
theorem runPure_pure {α : Type} {P : Program} (a : α) : runPure P (pure a) = some a := rfl

theorem evPure_of {P : Program} {o : Oper} {ρ : Operand → AV} {v : Value} (h1 : (o.op.operands.toList.all fun x => (valOf (ρ x)).isSome) = true) (h2 : runPure P (execOp (fun x => valOr (ρ x)) o) = some (.value v)) : evPure P o ρ = some (.pv (.val v), []) := by
  unfold evPure; rw [if_pos h1, h2]

theorem valOf_some {x : AV} {v : Value} (h : x = .pv (.val v)) : valOf x = some v ∧ valOr x = v := by subst h; exact ⟨rfl, rfl⟩

theorem fastBin_val {op : BinOp} {x y : AV} {v : Value} (e : fastBin op x y = some v) (P : Program) (t : TypeId) (xo yo : Operand) :
    ∃ a b, x = .pv (.val a) ∧ y = .pv (.val b) ∧ runPure P (do eqGuard op t xo yo a b; binOp op t a b) = some v := by
  unfold fastBin at e
  split at e
  · rename_i k a k' b
    refine ⟨.int k a, .int k' b, rfl, rfl, ?_⟩
    have hg : runPure P (eqGuard op t xo yo (.int k a) (.int k' b)) = some () := by unfold eqGuard; cases op <;> rfl
    rw [runPure_bind, hg]
    simp only [Option.bind_some]
    cases op <;> simp only at e
    case shl =>
      split at e
      · rename_i h; injection e with e; subst e
        have : ¬ b < 0 := by omega
        simp only [binOp, Op.shift, this, if_false]; rfl
      · cases e
    case shr =>
      split at e
      · rename_i h; injection e with e; subst e
        have : ¬ b < 0 := by omega
        simp only [binOp, Op.shift, this, if_false]; rfl
      · cases e
    case quo =>
      split at e
      · rename_i h; injection e with e; subst e
        obtain ⟨rfl, hb⟩ := h
        simp only [binOp, ne_eq, not_true_eq_false, if_false, Op.intDiv, hb]; rfl
      · cases e
    case rem =>
      split at e
      · rename_i h; injection e with e; subst e
        obtain ⟨rfl, hb⟩ := h
        simp only [binOp, ne_eq, not_true_eq_false, if_false, Op.intDiv, hb]; rfl
      · cases e
    all_goals first
      | (split at e
         · rename_i h; injection e with e; subst e; subst h
           simp only [binOp, ne_eq, not_true_eq_false, if_false]; rfl
         · cases e)
      | cases e
  · rename_i a b
    refine ⟨.string a, .string b, rfl, rfl, ?_⟩
    have hg : runPure P (eqGuard op t xo yo (.string a) (.string b)) = some () := by unfold eqGuard; cases op <;> rfl
    rw [runPure_bind, hg]
    simp only [Option.bind_some]
    cases op <;> simp only at e <;> first | (injection e with e; subst e; rfl) | cases e
  · cases e

theorem fast_bin {P : Program} {o : Oper} {ρ : Operand → AV} {op : BinOp} {t t' : TypeId} {x y : Operand} (ho : o.op = .binOp op t x y t') {v : Value} (e : fastBin op (ρ x) (ρ y) = some v) : evPure P o ρ = some (.pv (.val v), []) := by
  obtain ⟨a, b, hx, hy, hr⟩ := fastBin_val e P t x y
  refine evPure_of (by rw [ho]; simp [Op.operands, hx, hy, valOf]) ?_
  unfold execOp
  rw [ho]
  simp only [(valOf_some hx).2, (valOf_some hy).2]
  rw [runPure_bind, hr]; rfl
theorem fast_un {P : Program} {o : Oper} {ρ : Operand → AV} {op : UnOp} {t : TypeId} {x : Operand} (ho : o.op = .unOp op t x) {v : Value} (e : fastUn op (ρ x) = some v) : evPure P o ρ = some (.pv (.val v), []) := by
  unfold fastUn at e
  split at e
  · rename_i b hx
    injection e with e; subst e
    refine evPure_of (by rw [ho]; simp [Op.operands, hx, valOf]) ?_
    unfold execOp
    rw [ho]
    simp only [(valOf_some hx).2]; rfl
  · rename_i k n hx
    injection e with e; subst e
    refine evPure_of (by rw [ho]; simp [Op.operands, hx, valOf]) ?_
    unfold execOp
    rw [ho]
    simp only [(valOf_some hx).2]; rfl
  · cases e
theorem intKind_under {P : Program} {t : TypeId} {k : IntKind} (e : intKindOf P t = some k) : P.underlying t = some (.int k) := by
  unfold intKindOf at e
  split at e
  · rename_i k' h; injection e with e; subst e; exact h
  · cases e
theorem runPure_under {P : Program} {t : TypeId} {d : TypeDesc} (e : P.underlying t = some d) : runPure P (underlying t) = some d := by
  unfold underlying
  rw [runPure_bind]
  show runPure P (match P.underlying t with | some d => pure d | none => stuck "no such type") = some d
  rw [e]; rfl
theorem fast_conv {P : Program} {o : Oper} {ρ : Operand → AV} {s d : TypeId} {x : Operand} (ho : o.op = .convert s d x) {v : Value} (e : fastConv P s d (ρ x) = some v) : evPure P o ρ = some (.pv (.val v), []) := by
  unfold fastConv at e
  split at e
  · rename_i k0 k k1 n h1 h2 hx
    injection e with e; subst e
    refine evPure_of (by rw [ho]; simp [Op.operands, hx, valOf]) ?_
    unfold execOp
    rw [ho]
    simp only [(valOf_some hx).2]
    rw [runPure_bind]
    have : runPure P (convert s d (.int k1 n)) = some (.int k (k.wrap n)) := by
      unfold convert
      rw [runPure_bind, runPure_under (intKind_under h1)]
      simp only [Option.bind_some]
      rw [runPure_bind, runPure_under (intKind_under h2)]
      rfl
    rw [this]; rfl
  · cases e
theorem fast_min {P : Program} {o : Oper} {ρ : Operand → AV} {as : List Operand} {ts : List TypeId} (ho : o.op = .call ⟨.builtin .min, ⟨as⟩, ⟨ts⟩⟩) {v : Value} (e : fastMin (as.map ρ) = some v) : evPure P o ρ = some (.pv (.val v), []) := by
  unfold fastMin at e
  split at e
  · rename_i k a k' b hargs
    injection e with e; subst e
    obtain ⟨x, y, rfl, hx, hy⟩ := map2 hargs
    refine evPure_of (by rw [ho]; simp [Op.operands, Call.operands, hx, hy, valOf]) ?_
    unfold execOp
    rw [ho]
    simp [resolve, invoke, builtin, Builtin.min_, (valOf_some hx).2, (valOf_some hy).2, Builtin.min2, runPure_bind, runPure_pure]
  · cases e
theorem fast_max {P : Program} {o : Oper} {ρ : Operand → AV} {as : List Operand} {ts : List TypeId} (ho : o.op = .call ⟨.builtin .max, ⟨as⟩, ⟨ts⟩⟩) {v : Value} (e : fastMax (as.map ρ) = some v) : evPure P o ρ = some (.pv (.val v), []) := by
  unfold fastMax at e
  split at e
  · rename_i k a k' b hargs
    injection e with e; subst e
    obtain ⟨x, y, rfl, hx, hy⟩ := map2 hargs
    refine evPure_of (by rw [ho]; simp [Op.operands, Call.operands, hx, hy, valOf]) ?_
    unfold execOp
    rw [ho]
    simp [resolve, invoke, builtin, Builtin.max_, (valOf_some hx).2, (valOf_some hy).2, Builtin.max2, runPure_bind, runPure_pure]
  · cases e
theorem orPure_of {P : Program} {o : Oper} {ρ : Operand → AV} {q : Option Value} {e : Eff} (h : ∀ v, q = some v → evPure P o ρ = some (.pv (.val v), [])) (he : orPure P o ρ q = some e) : evPure P o ρ = some e := by
  cases q with
  | none => exact he
  | some v => rw [h v rfl]; exact he

theorem runPure_tinfo {P : Program} {t : TypeId} {i : TypeInfo} (h : P.info? t = some i) : runPure P (typeInfo t) = some i := by
  unfold typeInfo; rw [runPure_bind]; show (some P).bind _ = _; rw [Option.bind_some, h]; rfl
theorem fast_ix {P : Program} {o : Oper} {ρ : Operand → AV} {t : TypeId} {x i : Operand} (ho : o.op = .index t x i) {v : Value} (e : fastIx (ixKind P t) (ρ x) (ρ i) = some v) : evPure P o ρ = some (.pv (.val v), []) := by
  unfold fastIx at e
  split at e
  · rename_i s k n hk hx hi
    have hu : P.underlying t = some .string := by
      unfold ixKind at hk
      split at hk
      · assumption
      · split at hk
        · cases hk
        · cases hk
        · split at hk <;> simp at hk
        · cases hk
      · cases hk
    split at e
    · rename_i h0
      simp only [Option.map_eq_some_iff] at e
      obtain ⟨b, hb, rfl⟩ := e
      refine evPure_of (by rw [ho]; simp [Op.operands, hx, hi, valOf]) ?_
      unfold execOp
      rw [ho]
      simp only [(valOf_some hx).2, (valOf_some hi).2]
      have h1 : runPure P (Instr.index t (.string s) (.int k n)) = some (.int .u8 b.toNat) := by
        unfold Instr.index
        simp only [asIntOf, pure_bind]
        rw [runPure_bind, runPure_under hu, Option.bind_some]
        simp only [h0, if_true, hb]
        rfl
      rw [runPure_bind, h1]; rfl
    · cases e
  · rename_i m cs k n hk hx hi
    split at e
    · rename_i h0
      have hu : ∃ el d, P.underlying t = some (.array m el) ∧ P.underlying el = some d ∧ (∀ fs, d ≠ .struct fs) ∧ (∀ a b, d ≠ .array a b) ∧ ∃ j, P.info? el = some j ∧ j.size = 1 := by
        unfold ixKind at hk
        split at hk
        · cases hk
        · rename_i m' el hu
          split at hk
          · cases hk
          · cases hk
          · rename_i d hs ha hd
            split at hk
            · rename_i hc
              injection hk with hk; injection hk with hk; subst hk
              obtain ⟨c1, c2⟩ := hc
              obtain ⟨j, hj⟩ := Option.isSome_iff_exists.1 c2
              refine ⟨el, d, hu, hd, fun fs he => ?_, fun a b he => ?_, j, hj, ?_⟩
              · exact hs fs he
              · exact ha a b he
              · simpa [szOf, hj] using c1
            · cases hk
          · cases hk
        · cases hk
      obtain ⟨el, d, hu, hd, hs, ha, j, hj, hj1⟩ := hu
      refine evPure_of (by rw [ho]; simp [Op.operands, hx, hi, valOf]) ?_
      unfold execOp
      rw [ho]
      simp only [(valOf_some hx).2, (valOf_some hi).2]
      have hsz : runPure P (sizeOf el) = some 1 := by
        unfold sizeOf; rw [runPure_bind, runPure_tinfo hj, Option.bind_some, ← hj1]; rfl
      have hag : runPure P (isAgg el) = some false := by
        unfold isAgg; rw [runPure_bind, runPure_under hd, Option.bind_some]
        cases d <;> first | rfl | exact absurd rfl (hs _) | exact absurd rfl (ha _ _)
      have h1 : runPure P (Instr.index t (.agg cs) (.int k n)) = some v := by
        unfold Instr.index
        simp only [asIntOf, pure_bind]
        rw [runPure_bind, runPure_under hu, Option.bind_some]
        simp only [h0, and_self, if_true]
        rw [runPure_bind, hsz, Option.bind_some, Nat.mul_one]
        unfold part
        rw [runPure_bind, hag, Option.bind_some]
        simp only [Bool.false_eq_true, if_false, e]
        rfl
      rw [runPure_bind, h1]; rfl
    · cases e
  · cases e

def Done (C : Cx) (L : Nat → Loc) (h : Hp) (w : World) (o : Oper) (σ : Operand → Value) (v : AV) (W : List (Nat × Blk)) : Prop :=
  ∃ n u w' L', (execOp σ o).run C.P w = .ok n w' ∧ (n = .value u ∨ (n = .skip ∧ u = undef)) ∧ After C L h w L' (writes h W) w' ∧ RepA w' (Mst C L' (writes h W)) L' (writes h W) v u

theorem done_same (hm : MemL C L h w) {o : Oper} {σ : Operand → Value} {v : AV} {u : Value} (hr : RepA w (Mst C L h) L h v u) (e : (execOp σ o).run C.P w = .ok (.value u) w) : Done C L h w o σ v [] :=
  ⟨_, u, w, L, e, .inl rfl, After.refl hm, hr⟩

theorem done_pure (hm : MemL C L h w) {o : Oper} (hsel : ∀ cs b, o.op ≠ .select cs b) {ρ : Operand → AV} {σ : Operand → Value} (hρ : ∀ x ∈ o.op.operands, RepA w (Mst C L h) L h (ρ x) (σ x)) {v : AV} {W : List (Nat × Blk)}
    (e : evPure C.P o ρ = some (v, W)) : Done C L h w o σ v W := by
  obtain ⟨u, h1, rfl, rfl⟩ := evPure_sound hsel hρ e
  exact done_same hm (.pv (.val u)) h1

theorem newVar_run (P : Program) (t : TypeId) (v : Value) : (newVar t v).run P w = .ok ⟨w.heap.size, 0, none⟩ (w.alloc (.cells v.cells t)) := rfl

theorem hrow_of (hm : MemL C L h w) : ∀ k e sz xs fz, h k = some (.row e sz xs fz) → (L k).isNil = true → xs = [] := fun k _ _ _ _ hk hn => (hm.bl k _ hk).2.2.2.1 hn

theorem repAL_map (hm : List Operand) {M : Nat → Nat → Prop} {ρ : Operand → AV} {σ : Operand → Value} (hρ : ∀ x ∈ hm, RepA w M L h (ρ x) (σ x)) : RepAL w M L h (hm.map ρ) (hm.map σ) := by
  refine ⟨by simp, fun i p u hp hu => ?_⟩
  simp only [List.getElem?_map, Option.map_eq_some_iff] at hp hu
  obtain ⟨x, hx, rfl⟩ := hp
  obtain ⟨y, hy, rfl⟩ := hu
  rw [hx] at hy; injection hy with hy; subst hy
  exact hρ x (List.mem_of_getElem? hx)

theorem nilAns_some {op : BinOp} {q : Option Bool} {b : Bool} (h : nilAns op q = some b) : ∃ b', q = some b' ∧ ((op = .eql ∧ b = b') ∨ (op = .neq ∧ b = !b')) := by
  unfold nilAns at h
  split at h
  · cases h
  · rename_i b'
    split at h
    · injection h with h; exact ⟨b', rfl, .inl ⟨rfl, h.symm⟩⟩
    · injection h with h; exact ⟨b', rfl, .inr ⟨rfl, h.symm⟩⟩
    · cases h
theorem nilA_val {x : AV} {u : Value} {M : Nat → Nat → Prop} (h0 : isNilA x = true) (hx : RepA w M L h x u) : u = .slice none 0 0 := by
  unfold isNilA at h0
  split at h0
  · cases hx with
    | pv hr => rw [rep_val_inv hr, isNilS_eq h0]
  · cases h0
theorem sliceT_under {P : Program} {t : TypeId} (h : isSliceT P t = true) : ∃ e, P.underlying t = some (.slice e) := by
  unfold isSliceT at h
  split at h
  · rename_i s z e esz eb ez hti
    exact ⟨e, (kind_slice hti rfl).1⟩
  · cases h
theorem nilKnown_sound (hm : MemL C L h w) (hs : ∀ k b, h1 k = some b → h k = some b) {x : AV} {u : Value} (hx : RepA w (Mst C L h) L h x u) {b : Bool} (e : nilKnown h1 x = some b) : ∃ a n c, u = .slice a n c ∧ a.isNone = b := by
  unfold nilKnown at e
  split at e
  · rename_i v
    split at e
    · rename_i hn
      injection e with e; subst e
      cases hx with
      | pv hr => exact ⟨none, 0, 0, by rw [rep_val_inv hr, isNilS_eq hn], rfl⟩
    · cases e
  · rename_i xs
    split at e
    · cases e
    · rename_i hne
      injection e with e; subst e
      cases hx with
      | pv hr =>
        cases hr with
        | sl0 a c => simp at hne
        | sl xs b o c sz u hcap hs hc hr => exact ⟨_, _, _, rfl, rfl⟩
  · rename_i k n
    split at e
    · rename_i e0 sz xs fz hk
      split at e
      · rename_i hc
        injection e with e; subst e
        cases hx with
        | arr hk2 hn2 hu =>
          rw [hs _ _ hk] at hk2; injection hk2 with hk2; injection hk2 with a1 a2 a3 a4
          subst a3
          have hnil : (L k).isNil = false := by
            cases hq : (L k).isNil with
            | false => rfl
            | true => exact absurd (by rw [(hm.bl k _ (hs _ _ hk)).2.2.2.1 hq] at hc; exact hc.1.symm) hc.2
          rw [hu hc.1, Loc.slice, hnil]
          exact ⟨_, _, _, rfl, rfl⟩
      · cases e
    · cases e
  · cases e
theorem rp_sliceNil {P : Program} (d : Nat) {t e : TypeId} (a : Option Addr) (n c : Nat) (h : P.underlying t = some (.slice e)) : runPure P (Op.equalIn (d + 1) t (.slice a n c) (.slice none 0 0)) = some a.isNone := by
  unfold Op.equalIn
  rw [runPure_bind]
  have : runPure P (underlying t) = some (.slice e) := by unfold underlying; rw [runPure_bind]; show (some P).bind _ = _; rw [Option.bind_some, h]; rfl
  rw [this, Option.bind_some]
  cases a <;> rfl
theorem nil_run {dst : Option Nat} {op : BinOp} {t t' : TypeId} {x y : Operand} {ty : TypeId} {pos : String} {aft : Array Edge} {g : Option (Nat × Bool)} {σ : Operand → Value} {P : Program} (hu : ∃ e, P.underlying t = some (.slice e))
    {a : Option Addr} {n c : Nat} (hx : σ x = .slice a n c) (hy : σ y = .slice none 0 0) {b : Bool} (hop : (op = .eql ∧ b = a.isNone) ∨ (op = .neq ∧ b = !a.isNone)) :
    runPure P (execOp σ ⟨dst, .binOp op t x y t', ty, pos, aft, g⟩) = some (.value (.bool b)) := by
  obtain ⟨e, he⟩ := hu
  unfold execOp
  simp only [hx, hy]
  have hq : runPure P (Op.equal t (.slice a n c) (.slice none 0 0)) = some a.isNone := rp_sliceNil _ a n c he
  rcases hop with ⟨rfl, rfl⟩ | ⟨rfl, rfl⟩
  · have h1 : runPure P (eqGuard .eql t x y (.slice a n c) (.slice none 0 0)) = some () := rfl
    have h2 : runPure P (binOp .eql t (.slice a n c) (.slice none 0 0)) = some (.bool a.isNone) := by simp only [binOp, runPure_bind, hq, Option.bind_some]; rfl
    simp only [runPure_bind, h1, h2, Option.bind_some]; rfl
  · have h1 : runPure P (eqGuard .neq t x y (.slice a n c) (.slice none 0 0)) = some () := rfl
    have h2 : runPure P (binOp .neq t (.slice a n c) (.slice none 0 0)) = some (.bool !a.isNone) := by simp only [binOp, runPure_bind, hq, Option.bind_some]; rfl
    simp only [runPure_bind, h1, h2, Option.bind_some]; rfl

set_option maxHeartbeats 1000000 in
theorem evOp_sound (hm : MemL C L h w) (hs : ∀ k b, h1 k = some b → h k = some b) {o : Oper} (hfresh : ∀ d, o.dst = some d → h1 d = h d) {ρ : Operand → AV} {σ : Operand → Value}
    (hρ : ∀ x ∈ o.op.operands, RepA w (Mst C L h) L h (ρ x) (σ x)) {hn : List Nat} {v : AV} {W : List (Nat × Blk)} (e : evOp C.P hn o ρ h1 = some (v, W)) : Done C L h w o σ v W := by
  obtain ⟨dst, op, type, pos, after, guard⟩ := o
  simp only at hfresh
  cases op with
  | move x =>
    simp only [evOp, Option.some.injEq, Prod.mk.injEq] at e
    obtain ⟨rfl, rfl⟩ := e
    exact done_same hm (hρ x (by simp [Op.operands])) rfl
  | assign x =>
    have hx := hρ x (by simp [Op.operands])
    simp only [evOp] at e
    have hplain : some (ρ x, []) = some (v, W) → Done C L h w ⟨dst, .assign x, type, pos, after, guard⟩ σ v W := by
      intro e
      simp only [Option.some.injEq, Prod.mk.injEq] at e
      obtain ⟨rfl, rfl⟩ := e
      exact done_same hm hx rfl
    split at e
    · rename_i d
      split at e
      · rename_i hc
        simp only [Bool.and_eq_true] at hc
        split at e
        · rename_i sz zr et esz eb ez hti
          split at e
          · rename_i hd
            injection e with e; injection e with e1 e2; subst e1; subst e2
            have hdn : h d = none := by rw [← hfresh d rfl]; simpa using hd.1
            have hnil : σ x = .slice none 0 0 := by
              have h2 := hc.2
              generalize ρ x = y at h2 hx
              unfold isNilA at h2
              split at h2
              · cases hx with
                | pv hr => rw [rep_val_inv hr, isNilS_eq h2]
              · cases h2
            have hrow := new_row (e := et) (sz := esz) (xs := []) (l := ⟨0, 0, true⟩) hm (Ext.refl _ w) hdn (fun h => by cases h)
              ⟨hd.2, Nat.zero_le _, by simp, fun _ => rfl, (fun h => by cases h)⟩
            exact ⟨.value (.slice none 0 0), .slice none 0 0, w, _, by simp [execOp, hnil], .inl rfl, hrow.1, hrow.2⟩
          · cases e
        · cases e
      · exact hplain e
    · exact hplain e
  | pick c a b =>
    simp only [evOp] at e
    split at e
    · rename_i t ht
      injection e with e; injection e with e1 e2; subst e1; subst e2
      have hc := hρ c (by simp [Op.operands])
      rw [ht] at hc
      have hcv : σ c = .bool t := by cases hc with | pv hr => exact rep_val_inv hr
      refine done_same hm (u := if t then σ a else σ b) ?_ (by simp [execOp, hcv, asBool])
      cases t with
      | true => exact hρ a (by simp [Op.operands])
      | false => exact hρ b (by simp [Op.operands])
    · cases e
  | alloc elem =>
    simp only [evOp] at e
    split at e
    · rename_i sz z kd d hti
      split at e
      · rename_i hd
        injection e with e; injection e with e1 e2; subst e1; subst e2
        have hdn : h d = none := by rw [← hfresh d rfl]; simpa using hd
        obtain ⟨i, dd, hi, _, _, hz, _⟩ := tiOf_some hti
        have hz0 : RepAL w (Mst C L h) L h (z.cells.toList.map fun v => AV.pv (.val v)) z.cells.toList := by
          refine ⟨by simp, fun q p u hp hu => ?_⟩
          simp only [List.getElem?_map, Option.map_eq_some_iff] at hp
          obtain ⟨y, hy, rfl⟩ := hp
          rw [hy] at hu; injection hu with hu; subst hu
          exact .pv (.val _)
        have hb := new_box (us := z.cells) hm hdn hz0 elem
        refine ⟨.value (.pointer (some ⟨w.heap.size, 0, none⟩)), _, _, _, ?_, .inl rfl, hb.1, hb.2⟩
        simp only at hz
        simp [execOp, Instr.alloc, zeroValue, run_tinfo hi, ← hz, newVar_run]
      · cases e
    · cases e
  | box elem x =>
    simp only [evOp] at e
    split at e
    · rename_i cs d hcs
      split at e
      · rename_i hd
        injection e with e; injection e with e1 e2; subst e1; subst e2
        have hdn : h d = none := by rw [← hfresh d rfl]; simpa using hd
        have hr := okCells_sound hs (hρ x (by simp [Op.operands])) hcs
        have hb := new_box (us := (σ x).cells) hm hdn hr elem
        refine ⟨.value (.pointer (some ⟨w.heap.size, 0, none⟩)), _, _, _, ?_, .inl rfl, hb.1, hb.2⟩
        simp [execOp, Instr.box, newVar_run]
      · cases e
    · cases e
  | build t ps =>
    simp only [evOp] at e
    split at e
    · rename_i ti qs hti hqs
      simp only [Option.map_eq_some_iff, Prod.mk.injEq] at e
      obtain ⟨v', e1, rfl, rfl⟩ := e
      have hp := okParts_sound (σ := σ) hs (fun x hx => hρ x (by simpa [Op.operands] using hx)) hqs
      obtain ⟨r, hr1, hr2⟩ := evBuild_sound hti hp e1
      refine done_same hm hr2 ?_
      have : (ps.map fun (i, x) => (i, σ x)) = (ps.toList.map fun (i, x) => (i, σ x)).toArray := by
        apply Array.ext'; simp
      simp only [execOp, Sem.run_bind, this, hr1, Result.andThen_ok, Sem.run_pure]
    · cases e
  | buildSlice t len ps =>
    simp only [evOp] at e
    split at e
    · rename_i eff heff
      injection e with e; subst e
      unfold emptyLit at heff
      split at heff
      · rename_i d hps
        split at heff
        · split at heff
          · rename_i s0 z0 et esz eb z1 hti
            split at heff
            · rename_i hc
              injection heff with heff; injection heff with e1 e2; subst e1; subst e2
              obtain ⟨hund, jt, hj, hjs, _, hjz⟩ := kind_slice hti rfl
              have hdn : h d = none := by rw [← hfresh d rfl]; simpa using hc.1
              have hrow := new_row (e := et) (sz := esz) (xs := []) (l := ⟨w.heap.size, 0, false⟩) hm (Ext.alloc (fun _ => False) w (.cells #[] et)) hdn (fun _ => Nat.le_refl _)
                ⟨hc.2, Nat.zero_le _, by simp, fun _ => rfl, fun _ => ⟨Nat.le_refl _, Nat.zero_le _, #[], heap_new w _, by simp, fun i x j p hx => by simp at hx⟩⟩
              have hps' : ps = #[] := by apply Array.ext'; simpa using hps
              subst hps'
              refine ⟨.value (.slice (some ⟨w.heap.size, 0, none⟩) 0 0), _, w.alloc (.cells #[] et), _, ?_, .inl rfl, hrow.1, hrow.2⟩
              have h0 : ¬ 0 > 2 ^ 24 := by omega
              simp only [execOp, Instr.buildSlice, Sem.run_bind, run_under hund, Result.andThen_ok, run_szOf hj, Nat.zero_mul, if_true, pure_bind, h0, if_false]
              have e1 : Array.range 0 = #[] := by simp
              rw [e1]
              simp only [List.map_toArray, List.map_nil, Instr.fill]
              rfl
            · cases heff
          · cases heff
        · cases heff
      · cases heff
    split at e
    · rename_i s0 z0 et esz eb z1 hti
      split at e
      · rename_i xs W' hel
        split at e
        · rename_i hc
          obtain ⟨c1, c2, c3⟩ := hc
          injection e with e; injection e with e1 e2; subst e1; subst e2
          obtain ⟨hund, jt, hj, hjs, _, hjz⟩ := kind_slice hti rfl
          subst hjs
          obtain ⟨a1, a2, a3, a4, a5⟩ := evElems_sound (σ := σ) hm (Froz.of_sub hs) (fun x hx => hρ x (by simpa [Op.operands] using hx)) hel
          have hvs : (ps.map fun (i, x) => (i, σ x)).toList = ps.toList.map fun (i, x) => (i, σ x) := by simp
          have hpsl : ps.toList.length = len := by omega
          -- the array of zeros is only known to have the size
          have hsz2 : ∀ (q : Nat) i v, (ps.toList.map fun (i, x) => (i, σ x))[q]? = some (i, v) → i = 0 + q ∧ v.cells.size = jt.size := by
            intro q i v hq
            obtain ⟨b1, p, b2, b3⟩ := a5 q i v hq
            refine ⟨b1, ?_⟩
            have := b3.cells.1
            rw [a4 p (List.mem_of_getElem? b2)] at this
            simpa using this.symm
          obtain ⟨arr, f1, f2, f3, f4⟩ := fill_inorder (arr := (Array.range (len * jt.size)).map ((if len * jt.size = 0 then #[] else z1.cells : Array Value)[· % (if len * jt.size = 0 then #[] else z1.cells : Array Value).size]!)) hsz2 (by simp [hpsl])
          have hg := a1.1.grow (Ext.alloc (fun _ => False) w (.cells arr et))
          refine ⟨.value (.slice (some ⟨w.heap.size, 0, none⟩) len len), _, w.alloc (.cells arr et), L, ?_, .inl rfl, a1.trans ⟨hg.1, hg.2, KC.refl _ _⟩, .pv ?_⟩
          · have hlim : ¬ len * jt.size > 2 ^ 24 := by omega
            have hzv : (zeroValue et).run C.P w = .ok z1 w := by simp [zeroValue, run_tinfo hj, hjz]
            by_cases hl : len * jt.size = 0
            · simp only [hl, if_true] at f1
              have h0 : ¬ 0 > 2 ^ 24 := by omega
              simp only [execOp, Instr.buildSlice, Sem.run_bind, run_under hund, Result.andThen_ok, run_szOf hj, hl, h0, if_false, if_true, pure_bind, hvs, f1]
              rfl
            · simp only [hl, if_false] at f1
              simp only [execOp, Instr.buildSlice, Sem.run_bind, run_under hund, Result.andThen_ok, run_szOf hj, hlim, hl, if_false, pure_bind, hzv, hvs, f1]
              rfl
          · rw [← c1]
            refine .sl xs w.heap.size 0 xs.length jt.size (fun i j => (arr[i * jt.size + j]?).getD undef) (Nat.le_refl _) (fun i x hx => a4 x (List.mem_of_getElem? hx)) ?_ ?_
            all_goals
              intro i x j p hx hj2
              have hil : i < (ps.toList.map fun (i, x) => (i, σ x)).length := by rw [List.length_map]; have := (List.getElem?_eq_some_iff.1 hx).1; omega
              obtain ⟨⟨i', vv⟩, hvv⟩ : ∃ y, (ps.toList.map fun (i, x) => (i, σ x))[i]? = some y := ⟨_, List.getElem?_eq_getElem hil⟩
              obtain ⟨b1, p', b2, b3⟩ := a5 i i' vv hvv
              rw [hx] at b2; injection b2 with b2; subst b2
              have hjl : j < jt.size := by rw [← a4 x (List.mem_of_getElem? hx)]; exact (List.getElem?_eq_some_iff.1 hj2).1
              have hget := f4 i i' vv j hvv hjl
              rw [Nat.zero_add] at hget
              have hvl : j < vv.cells.size := by rw [(hsz2 i i' vv hvv).2]; exact hjl
              rw [Array.getElem?_eq_getElem hvl] at hget
            · refine ⟨by rw [cell_heap (heap_new w _), Nat.zero_add, hget]; rfl, fun hM => ?_⟩
              have := a1.1.mlt hM
              omega
            · simp only [hget, Option.getD_some]
              have := b3.cells.2 j p vv.cells[j] hj2 (by simp [hvl])
              exact this.mono hg.2
        · cases e
      · cases e
    · cases e
  | load t a =>
    simp only [evOp] at e
    split at e
    · rename_i ti hti
      simp only [Option.map_eq_some_iff, Prod.mk.injEq] at e
      obtain ⟨v', e1, rfl, rfl⟩ := e
      obtain ⟨r, hr1, hr2⟩ := evLoad_sound hm hs hti (hρ a (by simp [Op.operands])) e1
      exact done_same hm hr2 (by simp [execOp, hr1])
    · cases e
  | store t a x =>
    simp only [evOp] at e
    split at e
    · rename_i ti hti
      simp only [Option.map_eq_some_iff, Prod.mk.injEq] at e
      obtain ⟨W', e1, rfl, rfl⟩ := e
      obtain ⟨w', hr1, hr2⟩ := evStore_sound hm hs hti (hρ a (by simp [Op.operands])) (hρ x (by simp [Op.operands])) e1
      exact ⟨.skip, undef, w', L, by simp [execOp, hr1], .inr ⟨rfl, rfl⟩, hr2, .undef _⟩
    · cases e
  | nilCheck x =>
    have hx := hρ x (by simp [Op.operands])
    simp only [evOp] at e
    split at e
    · rename_i k off hk
      injection e with e; injection e with e1 e2; subst e1; subst e2
      rw [hk] at hx
      have hx' := hx
      generalize hσ : σ x = u at hx hx'
      cases hx with
      | ptr hkk => exact done_same hm hx' (by simp [execOp, hσ])
    · rename_i y off hk
      injection e with e; injection e with e1 e2; subst e1; subst e2
      rw [hk] at hx
      have hx' := hx
      generalize hσ : σ x = u at hx hx'
      cases hx with
      | pv hr => cases hr with
        | rptr => exact done_same hm hx' (by simp [execOp, hσ])
    · cases e
  | fieldAddr s x f =>
    simp only [evOp] at e
    split at e
    · rename_i ti hti
      simp only [Option.map_eq_some_iff, Prod.mk.injEq] at e
      obtain ⟨v', e1, rfl, rfl⟩ := e
      obtain ⟨r, hr1, hr2⟩ := evFieldAddr_sound hti hs (hρ x (by simp [Op.operands])) e1
      exact done_same hm hr2 (by simp [execOp, hr1])
    · cases e
  | indexAddr t x ix =>
    simp only [evOp] at e
    split at e
    · rename_i ti n hti hn
      simp only [Option.map_eq_some_iff, Prod.mk.injEq] at e
      obtain ⟨v', e1, rfl, rfl⟩ := e
      have hix := hρ ix (by simp [Op.operands])
      have hint : ∃ kk, σ ix = .int kk n := by
        generalize ρ ix = y at hn hix
        unfold asInt? at hn
        split at hn
        · rename_i kk m
          injection hn with hn; subst hn
          cases hix with
          | pv hr => exact ⟨kk, rep_val_inv hr⟩
        · cases hn
      obtain ⟨kk, hkk⟩ := hint
      obtain ⟨r, hr1, hr2⟩ := evIndexAddr_sound (kk := kk) hs hti (hρ x (by simp [Op.operands])) (hrow_of hm) e1
      exact done_same hm hr2 (by simp [execOp, hkk, hr1])
    · cases e
  | makeFunc f first caps =>
    obtain ⟨first⟩ := first
    obtain ⟨caps⟩ := caps
    simp only [evOp, Option.some.injEq, Prod.mk.injEq] at e
    obtain ⟨rfl, rfl⟩ := e
    have a1 := repAL_map (σ := σ) first (fun x hx => hρ x (by simp [Op.operands, hx]))
    have a2 := repAL_map (σ := σ) caps (fun x hx => hρ x (by simp [Op.operands, hx]))
    refine done_same hm (u := .func f (first.map σ).toArray (caps.map σ).toArray) ?_ (by simp [execOp, Instr.makeFunc])
    have := RepA.fn (w := w) (M := Mst C L h) (L := L) (h := h) f _ _ _ _ a1.1 a2.1 a1.2 a2.2
    exact this
  | makeSlice t l c =>
    simp only [evOp] at e
    split at e
    · rename_i ti hti
      obtain ⟨r, w', L', hr1, hr2, hr3⟩ := evMake_sound hm hti hfresh (hρ l (by simp [Op.operands])) (hρ c (by simp [Op.operands])) e
      exact ⟨.value r, r, w', L', by simp [execOp, hr1], .inl rfl, hr2, hr3⟩
    · cases e
  | slice t x lo hi mx =>
    simp only [evOp] at e
    split at e
    · exact done_pure hm (by intro _ _ h; cases h) hρ e
    · split at e
      · rename_i ti hti
        simp only [Option.map_eq_some_iff, Prod.mk.injEq] at e
        obtain ⟨v', e1, rfl, rfl⟩ := e
        obtain ⟨r, hr1, hr2⟩ := evSlice_sound (ul := lo.map σ) (uh := hi.map σ) hti (hρ x (by simp [Op.operands]))
          (by intro a ha; cases lo with
            | none => cases ha
            | some y => simp at ha; subst ha; exact ⟨_, rfl, hρ y (by simp [Op.operands])⟩) (by intro ha; cases lo with
            | none => rfl
            | some y => cases ha)
          (by intro a ha; cases hi with
            | none => cases ha
            | some y => simp at ha; subst ha; exact ⟨_, rfl, hρ y (by simp [Op.operands])⟩) (by intro ha; cases hi with
            | none => rfl
            | some y => cases ha) e1
        exact done_same hm hr2 (by simp [execOp, hr1])
      · cases e
    · cases e
  | extract t i =>
    have ht := hρ t (by simp [Op.operands])
    simp only [evOp] at e
    split at e
    · rename_i vs hvs
      simp only [Option.map_eq_some_iff, Prod.mk.injEq] at e
      obtain ⟨v', e1, rfl, rfl⟩ := e
      rw [hvs] at ht
      generalize hσ : σ t = u at ht
      cases ht with
      | tup _ us hl hh =>
        have hlt : i < us.length := by rw [← hl]; exact (List.getElem?_eq_some_iff.1 e1).1
        exact done_same hm (hh i v' us[i] e1 (List.getElem?_eq_getElem hlt)) (by simp [execOp, hσ, Instr.extract, hlt])
    · rename_i vs hvs
      simp only [Option.map_eq_some_iff, Prod.mk.injEq] at e
      obtain ⟨v', e1, rfl, rfl⟩ := e
      rw [hvs] at ht
      generalize hσ : σ t = u at ht
      cases ht with
      | pv hr => cases hr with
        | tup _ us hl hh =>
          have hlt : i < us.length := by rw [← hl]; exact (List.getElem?_eq_some_iff.1 e1).1
          exact done_same hm (.pv (hh i v' us[i] e1 (List.getElem?_eq_getElem hlt))) (by simp [execOp, hσ, Instr.extract, hlt])
    · exact done_pure hm (by intro _ _ h; cases h) hρ e
    · cases e
  | call c =>
    simp only [evOp] at e
    split at e
    · rename_i b hb
      obtain ⟨callee, args, argTypes⟩ := c
      simp only at hb e
      subst hb
      obtain ⟨args⟩ := args
      obtain ⟨argTypes⟩ := argTypes
      simp only at e
      have hex : (execOp σ ⟨dst, .call ⟨.builtin b, ⟨args⟩, ⟨argTypes⟩⟩, type, pos, after, guard⟩) = builtin b ⟨argTypes⟩ type ((⟨args⟩ : Array Operand).map fun | .const _ => true | _ => false) ((⟨args⟩ : Array Operand).map σ) := rfl
      have hops : ∀ x ∈ args, RepA w (Mst C L h) L h (ρ x) (σ x) := fun x hx => hρ x (by simp [Op.operands, Call.operands, hx])
      unfold evBuiltin at e
      split at e
      · rename_i _ _ x t hargs
        · obtain ⟨a, rfl, rfl⟩ := map1 hargs
          split at e
          · exact done_pure hm (by intro _ _ h; cases h) hρ e
          · split at e
            · rename_i ti hti
              simp only [Option.map_eq_some_iff, Prod.mk.injEq] at e
              obtain ⟨v', e1, rfl, rfl⟩ := e
              obtain ⟨r, hr1, hr2⟩ := evLen_sound (ty := type) hs hti (hops a (by simp)) (hrow_of hm) e1
              exact done_same hm hr2 (by rw [hex]; simp [builtin, hr1])
            · cases e
      · rename_i _ _ s x t t' hargs
        · obtain ⟨a, b, rfl, rfl, rfl⟩ := map2 hargs
          split at e
          · rename_i htt
            subst htt
            split at e
            · rename_i ti hti
              obtain ⟨r, w', L', hr1, hr2, hr3⟩ := evAppend_sound (ty := type) hm hs hti hfresh (hops a (by simp)) (hops b (by simp)) e
              exact ⟨.value r, r, w', L', by rw [hex]; simp [builtin, hr1], .inl rfl, hr2, hr3⟩
            · cases e
          · cases e
      · rename_i _ _ s x t t' hargs
        · obtain ⟨a, b, rfl, rfl, rfl⟩ := map2 hargs
          split at e
          · rename_i ti hti
            obtain ⟨r, w', hr1, hr2, hr3⟩ := evCopy_sound (t' := t') (ty := type) hm hs hti (hops a (by simp)) (hops b (by simp)) e
            exact ⟨.value r, r, w', L, by rw [hex]; simp [builtin, hr1], .inl rfl, hr2, hr3⟩
          · cases e
      · exact done_pure hm (by intro _ _ h; cases h) hρ (orPure_of (fun v hv => fast_min rfl hv) e)
      · exact done_pure hm (by intro _ _ h; cases h) hρ (orPure_of (fun v hv => fast_max rfl hv) e)
      · cases e
    · cases e
  | binOp op t x y t' =>
    simp only [evOp] at e
    split at e
    · rename_i b hb
      injection e with e; injection e with e1 e2; subst e1; subst e2
      unfold nilCmp at hb
      split at hb
      · rename_i hcond
        simp only [Bool.and_eq_true] at hcond
        obtain ⟨b', hk, hop⟩ := nilAns_some hb
        have hy := nilA_val hcond.1 (hρ y (by simp [Op.operands]))
        obtain ⟨a, n, c, hx, ha⟩ := nilKnown_sound hm hs (hρ x (by simp [Op.operands])) hk
        refine done_same hm (.pv (.val (.bool b))) (runPure_run (nil_run (sliceT_under hcond.2) hx hy ?_) w)
        rcases hop with ⟨rfl, rfl⟩ | ⟨rfl, rfl⟩
        · left; exact ⟨rfl, by rw [ha]⟩
        · right; exact ⟨rfl, by rw [ha]⟩
      · cases hb
    · exact done_pure hm (by intro _ _ h; cases h) hρ (orPure_of (fun v hv => fast_bin rfl hv) e)
  | unOp _ _ _ => simp only [evOp] at e; exact done_pure hm (by intro _ _ h; cases h) hρ (orPure_of (fun v hv => fast_un rfl hv) e)
  | convert _ _ _ => simp only [evOp] at e; exact done_pure hm (by intro _ _ h; cases h) hρ (orPure_of (fun v hv => fast_conv rfl hv) e)
  | field _ _ _ => simp only [evOp] at e; exact done_pure hm (by intro _ _ h; cases h) hρ e
  | index _ _ _ => simp only [evOp] at e; exact done_pure hm (by intro _ _ h; cases h) hρ (orPure_of (fun v hv => fast_ix rfl hv) e)
  | _ => simp [evOp] at e
end
end Go.Ab
