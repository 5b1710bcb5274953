/- The evaluation's definitions as rules of simp. -/
import Derived.Test.YtgamhginhckcpaaAb19
set_option linter.all false
namespace Go.Ab

@[simp] theorem upd_apply {α : Type} (f : Nat → α) (k : Nat) (v : α) (n : Nat) : upd f k v n = if n = k then v else f n := rfl
@[simp] theorem argT_apply (args : List Arg) (n : Nat) : argT args n = (match args[n]? with
  | some (.pv p) => .pv p
  | some (.bx i) => .ptr (pk i) 0
  | none => .undef) := rfl
theorem argH_apply (hin : List (List PV)) (k : Nat) : argH hin k = if k < 1000000 then none else (match hin[k - 1000000]? with
  | some ps => some (.box (ps.map .pv) false false)
  | none => none) := rfl
@[simp] theorem restrict_apply (K : List Nat) (h : Hp) (k : Nat) : restrict K h k = if K.contains k = true then h k else none := rfl
@[simp] theorem then_normal {C : Cx} {y : Code} {Q : Exit → St → Prop} {st : St} : Then C y Q .normal st = WP C y Q st := rfl
@[simp] theorem then_ret {C : Cx} {y : Code} {Q : Exit → St → Prop} {st : St} : Then C y Q .ret st = Q .ret st := rfl
@[simp] theorem then_exit {C : Cx} {y : Code} {Q : Exit → St → Prop} {st : St} {i : Nat} : Then C y Q (.exit i) st = Q (.exit i) st := rfl
@[simp] theorem inBlk_normal {id : Nat} {Q : Exit → St → Prop} {st : St} : InBlk id Q .normal st = Q .normal st := rfl
@[simp] theorem inBlk_ret {id : Nat} {Q : Exit → St → Prop} {st : St} : InBlk id Q .ret st = Q .ret st := rfl
@[simp] theorem inBlk_exit {id i : Nat} {Q : Exit → St → Prop} {st : St} : InBlk id Q (.exit i) st = if i = id then Q .normal st else Q (.exit i) st := rfl
@[simp] theorem fin_ret {P : Program} {rs : List ResultVar} {hout : List (List PV)} {res : RV} {st : St} : Fin P rs hout res .ret st = RetOk P rs hout res st := rfl
@[simp] theorem fin_normal {P : Program} {rs : List ResultVar} {hout : List (List PV)} {res : RV} {st : St} : Fin P rs hout res .normal st = RetOk P rs hout res st := rfl
@[simp] theorem kill_t (ks : List Nat) (st : St) (n : Nat) : (st.kill ks).t n = killA ks (st.t n) := rfl
@[simp] theorem kill_h (ks : List Nat) (st : St) (k : Nat) : (st.kill ks).h k = if ks.contains k = true then none else (st.h k).map (killB ks) := rfl

@[simp] theorem evB_true {d : Nat} {st : St} {F : Bool → St → Prop} : evB true d st F = F true st := rfl
@[simp] theorem evB_false {d : Nat} {st : St} {F : Bool → St → Prop} : evB false d st F = F false st := rfl
def St.lit (st : St) (d : Nat) (b : Bool) : St := ⟨upd st.t d (.pv (.val (.bool b))), st.h⟩
theorem evB_split {b : Bool} {d : Nat} {st : St} {F : Bool → St → Prop} (h : st.t d = .pv (.val (.bool b))) (ht : b = true → F true (st.lit d true)) (hf : b = false → F false (st.lit d false)) : evB b d st F := by
  have hl : st.lit d b = st := by
    unfold St.lit
    have : upd st.t d (.pv (.val (.bool b))) = st.t := by funext n; simp only [upd_apply]; split
                                                          · rename_i e; rw [e, h]
                                                          · rfl
    rw [this]
  cases b with
  | true => have := ht rfl; rw [hl] at this; exact this
  | false => have := hf rfl; rw [hl] at this; exact this


/-! The walk without continuations: simp looks into data alone. -/
section
variable (P : Program) (hn : List Nat) (N : Nat) (ops : Array Oper) (Q : St → Prop) (o : Oper) (rest : List Oper) (st : St)
def xK (x : Option Eff) : Prop := optThen x (fun e => evR P hn N ops Q rest (st.put o.dst e.1 e.2))
def xC (g : FuncId) (as : List Arg) (ks : List Nat) (W0 : List (Nat × Blk)) (hin : List (List PV)) : Prop := callThen P g as hin fun hout res => xK P hn N ops Q o rest st (callEff st.h o.dst ks W0 hout res)
def xC3 (g : FuncId) (as : List Arg) (ks : List Nat) (W0 : List (Nat × Blk)) : Bool → Option (List (List PV)) → Prop
  | false, some hin => xC P hn N ops Q o rest st g as ks W0 hin
  | _, _ => False
def xC2 (g : FuncId) : Option (List Arg × List Nat × List (Nat × Blk)) → Prop
  | some (as, ks, W0) => xC3 P hn N ops Q o rest st g as ks W0 (W0.any fun kb => ks.contains kb.1) (hins st.h ks)
  | none => False
def xC1 (args : List AV) : Option (FuncId × List AV × List AV) → Prop
  | some (g, first, caps) => xC2 P hn N ops Q o rest st g (toArgs st.h (first ++ args ++ caps) [])
  | none => False
def xDf : AV → Prop
  | .fn (.func g) _ _ => QuietFn P g ∧ evR P hn N ops Q rest (st.put o.dst .undef [])
  | _ => False
def xN : Bool → Prop
  | true => xTwo (evR P hn N ops Q rest (st.put o.dst (.pv (.val (.bool true))) [])) (evR P hn N ops Q rest (st.put o.dst (.pv (.val (.bool false))) []))
  | false => xK P hn N ops Q o rest st (evOp P hn o st.ev st.h)
def xO : Prop := match o.op with
  | .call c => match c.callee with
    | .value f => xC1 P hn N ops Q o rest st (c.args.toList.map st.ev) (calleeOf (st.ev f))
    | _ => xK P hn N ops Q o rest st (evOp P hn o st.ev st.h)
  | .defer c => match c.callee with
    | .value f => if c.args.size = 0 then xDf P hn N ops Q o rest st (st.ev f) else False
    | _ => False
  | .binOp op t x y _ => xN P hn N ops Q o rest st (isNilA (st.ev y) && isSliceT P t && nilOpen st.h (st.ev x) && (op == .eql || op == .neq))
  | _ => xK P hn N ops Q o rest st (evOp P hn o st.ev st.h)
def xB (_ : Nat) (want : Bool) (b : Bool) : Prop := if b = want then xO P hn N ops Q o rest st else evR P hn N ops Q rest (st.put o.dst (.pv (.val (.tuple #[]))) [])
def xG : Option (Option (Nat × Bool × Bool)) → Prop
  | some none => xO P hn N ops Q o rest st
  | some (some (d, b, want)) => xB P hn N ops Q o rest st d want b
  | none => False
end
section
variable {P : Program} {hn : List Nat} {N : Nat} {ops : Array Oper} {Q : St → Prop} {o : Oper} {rest : List Oper} {st : St}
@[simp] theorem xN_false : xN P hn N ops Q o rest st false = xK P hn N ops Q o rest st (evOp P hn o st.ev st.h) := rfl
@[simp] theorem xN_true : xN P hn N ops Q o rest st true = xTwo (evR P hn N ops Q rest (st.put o.dst (.pv (.val (.bool true))) [])) (evR P hn N ops Q rest (st.put o.dst (.pv (.val (.bool false))) [])) := rfl
@[simp] theorem xDf_fn {g : FuncId} {f c : List AV} : xDf P hn N ops Q o rest st (.fn (.func g) f c) = (QuietFn P g ∧ evR P hn N ops Q rest (st.put o.dst .undef [])) := rfl
theorem xO_eq : xO P hn N ops Q o rest st = evOD P hn o st.ev st.h (fun e => evR P hn N ops Q rest (st.put o.dst e.1 e.2)) := by
  obtain ⟨dst, op, ty, pos, aft, gd⟩ := o
  cases op <;> try rfl
  case binOp op t x y t' =>
    simp only [xO, evOD]
    cases isNilA (st.ev y) && isSliceT P t && nilOpen st.h (st.ev x) && (op == .eql || op == .neq) <;> rfl
  rename_i c
  obtain ⟨callee, args, ts⟩ := c
  cases callee <;> try rfl
  rename_i f
  show xC1 P hn N ops Q _ rest st (args.toList.map st.ev) (calleeOf (st.ev f)) = evCall P (st.ev f) (args.toList.map st.ev) dst st.h _
  unfold evCall
  cases calleeOf (st.ev f) with
  | none => rfl
  | some q =>
    obtain ⟨g, first, caps⟩ := q
    simp only [xC1]
    cases toArgs st.h (first ++ args.toList.map st.ev ++ caps) [] with
    | none => rfl
    | some q =>
      obtain ⟨as, ks, W0⟩ := q
      simp only [xC2]
      cases W0.any fun kb => ks.contains kb.1 with
      | true => rfl
      | false =>
        cases hins st.h ks with
        | none => rfl
        | some hin => rfl
@[simp] theorem evR_nil : evR P hn N ops Q [] st = Q st := rfl
@[simp] theorem evR_cons : evR P hn N ops Q (o :: rest) st = (dstOk N o.dst = true ∧ xG P hn N ops Q o rest st (guardV ops st.t o.guard)) := by
  simp only [evR]
  congr 1
  cases hg : guardV ops st.t o.guard with
  | none => rfl
  | some g => cases g with
    | none => simp only [xG]; rw [xO_eq]
    | some q => obtain ⟨d, b, want⟩ := q; simp only [xG, xB, evB]; rw [xO_eq]
@[simp] theorem xG_none : xG P hn N ops Q o rest st (some none) = xO P hn N ops Q o rest st := rfl
@[simp] theorem xG_some {d : Nat} {b want : Bool} : xG P hn N ops Q o rest st (some (some (d, b, want))) = xB P hn N ops Q o rest st d want b := rfl
@[simp] theorem xB_tt {d : Nat} : xB P hn N ops Q o rest st d true true = xO P hn N ops Q o rest st := rfl
@[simp] theorem xB_ff {d : Nat} : xB P hn N ops Q o rest st d false false = xO P hn N ops Q o rest st := rfl
@[simp] theorem xB_tf {d : Nat} : xB P hn N ops Q o rest st d true false = evR P hn N ops Q rest (st.put o.dst (.pv (.val (.tuple #[]))) []) := rfl
@[simp] theorem xB_ft {d : Nat} : xB P hn N ops Q o rest st d false true = evR P hn N ops Q rest (st.put o.dst (.pv (.val (.tuple #[]))) []) := rfl
@[simp] theorem xK_some {e : Eff} : xK P hn N ops Q o rest st (some e) = evR P hn N ops Q rest (st.put o.dst e.1 e.2) := rfl
@[simp] theorem xC1_some {g : FuncId} {args first caps : List AV} : xC1 P hn N ops Q o rest st args (some (g, first, caps)) = xC2 P hn N ops Q o rest st g (toArgs st.h (first ++ args ++ caps) []) := rfl
@[simp] theorem xC2_some {g : FuncId} {as : List Arg} {ks : List Nat} {W0 : List (Nat × Blk)} : xC2 P hn N ops Q o rest st g (some (as, ks, W0)) = xC3 P hn N ops Q o rest st g as ks W0 (W0.any fun kb => ks.contains kb.1) (hins st.h ks) := rfl
@[simp] theorem xC3_some {g : FuncId} {as : List Arg} {ks : List Nat} {W0 : List (Nat × Blk)} {hin : List (List PV)} : xC3 P hn N ops Q o rest st g as ks W0 false (some hin) = xC P hn N ops Q o rest st g as ks W0 hin := rfl
attribute [simp] xO
theorem xC_intro {g : FuncId} {as : List Arg} {ks : List Nat} {W0 : List (Nat × Blk)} {hin hout : List (List PV)} {res : RV} (h : DetH P g as hin hout res) (hx : xK P hn N ops Q o rest st (callEff st.h o.dst ks W0 hout res)) :
    xC P hn N ops Q o rest st g as ks W0 hin := ⟨hout, res, h, hx⟩
theorem lit_eq {d : Nat} {b : Bool} (h : st.t d = .pv (.val (.bool b))) : st.lit d b = st := by
  unfold St.lit
  have : upd st.t d (.pv (.val (.bool b))) = st.t := by
    funext n; simp only [upd_apply]; split
    · rename_i e; rw [e, h]
    · rfl
  rw [this]
/-- A guard is decided both ways. -/
theorem xB_split {d : Nat} {want b : Bool} (h : st.t d = .pv (.val (.bool b))) (ht : b = true → xB P hn N ops Q o rest (st.lit d true) d want true) (hf : b = false → xB P hn N ops Q o rest (st.lit d false) d want false) :
    xB P hn N ops Q o rest st d want b := by
  cases b with
  | true => have := ht rfl; rw [lit_eq h] at this; exact this
  | false => have := hf rfl; rw [lit_eq h] at this; exact this
end

section
variable (P : Program) (hn : List Nat) (N : Nat) (ops : Array Oper) (Q : Acc → St → Prop) (o : Oper) (rest : List Oper) (acc : Acc) (st : St) (K : List Nat)
def yK (x : Option Eff) : Prop := optThen x (fun e => (e.2.all fun kb => K.contains kb.1) = true ∧ evD P hn N ops Q rest (acc ++ [(e.2.map (·.1), K)]) (st.put o.dst e.1 e.2))
def yC (g : FuncId) (as : List Arg) (ks : List Nat) (W0 : List (Nat × Blk)) (hin : List (List PV)) : Prop := callThen P g as hin fun hout res => yK P hn N ops Q o rest acc st K (callEff (restrict K st.h) o.dst ks W0 hout res)
def yC3 (g : FuncId) (as : List Arg) (ks : List Nat) (W0 : List (Nat × Blk)) : Bool → Option (List (List PV)) → Prop
  | false, some hin => yC P hn N ops Q o rest acc st K g as ks W0 hin
  | _, _ => False
def yC2 (g : FuncId) : Option (List Arg × List Nat × List (Nat × Blk)) → Prop
  | some (as, ks, W0) => yC3 P hn N ops Q o rest acc st K g as ks W0 (W0.any fun kb => ks.contains kb.1) (hins (restrict K st.h) ks)
  | none => False
def yC1 (args : List AV) : Option (FuncId × List AV × List AV) → Prop
  | some (g, first, caps) => yC2 P hn N ops Q o rest acc st K g (toArgs (restrict K st.h) (first ++ args ++ caps) [])
  | none => False
def yO : Prop := match o.op with
  | .call c => match c.callee with
    | .value f => yC1 P hn N ops Q o rest acc st K (c.args.toList.map st.ev) (calleeOf (st.ev f))
    | _ => yK P hn N ops Q o rest acc st K (evOp P hn o st.ev (restrict K st.h))
  | _ => yK P hn N ops Q o rest acc st K (evOp P hn o st.ev (restrict K st.h))
def yB (_ : Nat) (want : Bool) (b : Bool) : Prop := if b = want then yO P hn N ops Q o rest acc st (kset o st.ev) else evD P hn N ops Q rest (acc ++ [([], [])]) (st.put o.dst (.pv (.val (.tuple #[]))) [])
def yG : Option (Option (Nat × Bool × Bool)) → Prop
  | some none => yO P hn N ops Q o rest acc st (kset o st.ev)
  | some (some (d, b, want)) => yB P hn N ops Q o rest acc st d want b
  | none => False
end
section
variable {P : Program} {hn : List Nat} {N : Nat} {ops : Array Oper} {Q : Acc → St → Prop} {o : Oper} {rest : List Oper} {acc : Acc} {st : St} {K : List Nat}
theorem yO_eq : yO P hn N ops Q o rest acc st K = evO P hn o st.ev (restrict K st.h) (fun e => (e.2.all fun kb => K.contains kb.1) = true ∧ evD P hn N ops Q rest (acc ++ [(e.2.map (·.1), K)]) (st.put o.dst e.1 e.2)) := by
  obtain ⟨dst, op, ty, pos, aft, gd⟩ := o
  cases op <;> try rfl
  rename_i c
  obtain ⟨callee, args, ts⟩ := c
  cases callee <;> try rfl
  rename_i f
  show yC1 P hn N ops Q _ rest acc st K (args.toList.map st.ev) (calleeOf (st.ev f)) = evCall P (st.ev f) (args.toList.map st.ev) dst (restrict K st.h) _
  unfold evCall
  cases calleeOf (st.ev f) with
  | none => rfl
  | some q =>
    obtain ⟨g, first, caps⟩ := q
    simp only [yC1]
    cases toArgs (restrict K st.h) (first ++ args.toList.map st.ev ++ caps) [] with
    | none => rfl
    | some q =>
      obtain ⟨as, ks, W0⟩ := q
      simp only [yC2]
      cases W0.any fun kb => ks.contains kb.1 with
      | true => rfl
      | false =>
        cases hins (restrict K st.h) ks with
        | none => rfl
        | some hin => rfl
@[simp] theorem evD_nil : evD P hn N ops Q [] acc st = Q acc st := rfl
@[simp] theorem evD_cons : evD P hn N ops Q (o :: rest) acc st = (dstOk N o.dst = true ∧ yG P hn N ops Q o rest acc st (guardV ops st.t o.guard)) := by
  simp only [evD]
  congr 1
  cases hg : guardV ops st.t o.guard with
  | none => rfl
  | some g => cases g with
    | none => simp only [yG]; rw [yO_eq]
    | some q => obtain ⟨d, b, want⟩ := q; simp only [yG, yB, evB]; rw [yO_eq]
@[simp] theorem yG_none : yG P hn N ops Q o rest acc st (some none) = yO P hn N ops Q o rest acc st (kset o st.ev) := rfl
@[simp] theorem yG_some {d : Nat} {b want : Bool} : yG P hn N ops Q o rest acc st (some (some (d, b, want))) = yB P hn N ops Q o rest acc st d want b := rfl
@[simp] theorem yB_tt {d : Nat} : yB P hn N ops Q o rest acc st d true true = yO P hn N ops Q o rest acc st (kset o st.ev) := rfl
@[simp] theorem yB_ff {d : Nat} : yB P hn N ops Q o rest acc st d false false = yO P hn N ops Q o rest acc st (kset o st.ev) := rfl
@[simp] theorem yB_tf {d : Nat} : yB P hn N ops Q o rest acc st d true false = evD P hn N ops Q rest (acc ++ [([], [])]) (st.put o.dst (.pv (.val (.tuple #[]))) []) := rfl
@[simp] theorem yB_ft {d : Nat} : yB P hn N ops Q o rest acc st d false true = evD P hn N ops Q rest (acc ++ [([], [])]) (st.put o.dst (.pv (.val (.tuple #[]))) []) := rfl
@[simp] theorem yK_some {e : Eff} : yK P hn N ops Q o rest acc st K (some e) = ((e.2.all fun kb => K.contains kb.1) = true ∧ evD P hn N ops Q rest (acc ++ [(e.2.map (·.1), K)]) (st.put o.dst e.1 e.2)) := rfl
@[simp] theorem yC1_some {g : FuncId} {args first caps : List AV} : yC1 P hn N ops Q o rest acc st K args (some (g, first, caps)) = yC2 P hn N ops Q o rest acc st K g (toArgs (restrict K st.h) (first ++ args ++ caps) []) := rfl
@[simp] theorem yC2_some {g : FuncId} {as : List Arg} {ks : List Nat} {W0 : List (Nat × Blk)} : yC2 P hn N ops Q o rest acc st K g (some (as, ks, W0)) = yC3 P hn N ops Q o rest acc st K g as ks W0 (W0.any fun kb => ks.contains kb.1) (hins (restrict K st.h) ks) := rfl
@[simp] theorem yC3_some {g : FuncId} {as : List Arg} {ks : List Nat} {W0 : List (Nat × Blk)} {hin : List (List PV)} : yC3 P hn N ops Q o rest acc st K g as ks W0 false (some hin) = yC P hn N ops Q o rest acc st K g as ks W0 hin := rfl
attribute [simp] yO
theorem yC_intro {g : FuncId} {as : List Arg} {ks : List Nat} {W0 : List (Nat × Blk)} {hin hout : List (List PV)} {res : RV} (h : DetH P g as hin hout res) (hx : yK P hn N ops Q o rest acc st K (callEff (restrict K st.h) o.dst ks W0 hout res)) :
    yC P hn N ops Q o rest acc st K g as ks W0 hin := ⟨hout, res, h, hx⟩
theorem yB_split {d : Nat} {want b : Bool} (h : st.t d = .pv (.val (.bool b))) (ht : b = true → yB P hn N ops Q o rest acc (st.lit d true) d want true) (hf : b = false → yB P hn N ops Q o rest acc (st.lit d false) d want false) :
    yB P hn N ops Q o rest acc st d want b := by
  cases b with
  | true => have := ht rfl; rw [lit_eq h] at this; exact this
  | false => have := hf rfl; rw [lit_eq h] at this; exact this
end

attribute [simp] fastIx nilKnown nilOpen isSliceT nilAns nilCmp emptyLit
attribute [simp] St.lit dstOk guardV evOp St.ev St.put writes okCells AV.cells PV.cells Value.cells evFieldAddr evLoad TK.isAgg cellsAt whole? mkAggA mkAgg vals? pvs?
  fastBin fastUn fastConv fastMin fastMax orPure calleeOf toArgs hins houts callEff frz frz1 frzL frzCap frzCaps norm norm1 hasNil isNilS isNilA isAggP one1 oneA okE single
  evStore splice evIndexAddr current fillA okParts evBuild evElems elemsOf evAppend evCopy evLen evMake asInt? evBuiltin resVals resVal RetOk st0 killA killB dead refs refs1 kset touches Op.operands Call.operands

theorem det_of {P : Program} {f : FuncId} {fn : Func} {c : Code} (hf : P.funcs[f]? = some fn) (hb : fn.body = some c) (hcall : callable P f = true) {args : List PV} {res : PV} (hlen : args.length ≤ fn.ntmps)
    (h : ∀ C : Cx, C.P = P → C.N = fn.ntmps → WP C c (Fin P fn.results.toList [] (.pv res)) (st0 (args.map .pv) [])) : Det P f args res := by
  refine detH_of hf hb hcall (by simpa using hlen) rfl (fun i j hij => ?_) h
  simp only [List.getElem?_map, Option.map_eq_some_iff] at hij
  obtain ⟨p, _, hp⟩ := hij
  cases hp

section
variable {C : Cx} {Q : Exit → St → Prop} {st : St} {x y : Code} {c : Operand}
def xCond (C : Cx) (x y : Code) (Q : Exit → St → Prop) (st : St) : AV → Prop
  | .pv (.val (.bool b)) => (b = true → WP C x Q st) ∧ (b = false → WP C y Q st)
  | _ => False
theorem xCond_split {b : Bool} (ht : b = true → WP C x Q st) (hf : b = false → WP C y Q st) : xCond C x y Q st (.pv (.val (.bool b))) := ⟨ht, hf⟩
@[simp] theorem xCond_true : xCond C x y Q st (.pv (.val (.bool true))) = WP C x Q st := by simp [xCond]
@[simp] theorem xCond_false : xCond C x y Q st (.pv (.val (.bool false))) = WP C y Q st := by simp [xCond]
theorem WP.cond' (h : xCond C x y Q st (st.ev c)) : WP C (.cond c x y) Q st := by
  cases hv : st.ev c with
  | pv p => cases p with
    | val v => cases v with
      | bool b => rw [hv] at h; exact WP.cond hv h.1 h.2
      | _ => rw [hv] at h; exact h.elim
    | _ => rw [hv] at h; exact h.elim
  | _ => rw [hv] at h; exact h.elim
end
end Go.Ab
