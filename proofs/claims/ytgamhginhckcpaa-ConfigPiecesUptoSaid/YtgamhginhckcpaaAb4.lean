/- Calls told by their contracts; regions. -/
import Derived.Test.YtgamhginhckcpaaAb3
import Derived.Defers
import Derived.Recover
set_option linter.all false
namespace Go.Ab

inductive Arg where
  | pv (p : PV)
  | bx (i : Nat)
/-- A result: told by content, or a pointer to a new variable, or a new array of the caller's own. -/
inductive RV where
  | pv (p : PV)
  | box (ps : List PV)
  | row (e sz : Nat) (xs : List PV)

def callable (P : Program) (f : FuncId) : Bool := match P.funcs[f]? with
  | some fn => fn.body.isSome && !(fn.name == "runtime.NumGoroutine")
  | none => false

def BoxRel (w : World) (M : Nat → Nat → Prop) (b : Nat) (ps : List PV) : Prop := ∃ arr ty, w.heap[b]? = some (.cells arr ty (0, 0)) ∧ RepL w M ps arr.toList
def ArgRel (w : World) (M : Nat → Nat → Prop) (bs : List Nat) : Arg → Value → Prop
  | .pv p, v => Rep w M p v
  | .bx j, v => ∃ b, bs[j]? = some b ∧ v = .pointer (some ⟨b, 0, none⟩)
def ResRel (w w' : World) (M : Nat → Nat → Prop) : RV → Value → Prop
  | .pv p, v => Rep w' M p v
  | .box ps, v => ∃ b, w.heap.size ≤ b ∧ v = .pointer (some ⟨b, 0, none⟩) ∧ BoxRel w' (fun b' o => M b' o ∨ b' = b) b ps
  | .row e sz xs, v => ∃ l : Loc, v = l.slice xs.length ∧ (l.isNil = false → w.heap.size ≤ l.b) ∧
      BlkRel w' (fun b' o => M b' o ∨ (l.isNil = false ∧ b' = l.b)) (fun _ => default) (fun _ => none) l (.row e sz xs 0)

/-- The contract of a function: called so, it returns, and gives that. -/
def DetH (P : Program) (f : FuncId) (args : List Arg) (hin hout : List (List PV)) (res : RV) : Prop :=
  callable P f = true ∧ hout.length = hin.length ∧ ∀ (w : World) (M : Nat → Nat → Prop) (bs : List Nat) (vs : List Value),
    (∀ b o, M b o → b < w.heap.size) → bs.length = hin.length → bs.Nodup →
    (∀ (i : Nat) b ps, bs[i]? = some b → hin[i]? = some ps → (∀ o, M b o) ∧ BoxRel w M b ps) →
    args.length = vs.length → (∀ (i : Nat) a v, args[i]? = some a → vs[i]? = some v → ArgRel w M bs a v) →
    Calls P f vs.toArray w fun e w' => ∃ v, e = .returned v ∧ Ext (· ∈ bs) w w' ∧
      (∀ (i : Nat) b ps, bs[i]? = some b → hout[i]? = some ps → BoxRel w' M b ps) ∧ ResRel w w' M res v
def Det (P : Program) (f : FuncId) (args : List PV) (res : PV) : Prop := DetH P f (args.map .pv) [] [] (.pv res)

def calleeOf : AV → Option (FuncId × List AV × List AV)
  | .pv (.val (.func (.func f) first caps)) => some (f, first.toList.map (fun v => .pv (.val v)), caps.toList.map (fun v => .pv (.val v)))
  | .pv (.fn (.func f) first caps) => some (f, first.map .pv, caps.map .pv)
  | .fn (.func f) first caps => some (f, first, caps)
  | _ => none

def toArgs (h : Hp) : List AV → List Nat → Option (List Arg × List Nat × List (Nat × Blk))
  | [], ks => some ([], ks, [])
  | x :: r, ks => match x with
    | .ptr k off => if off = 0 ∧ ks.contains k = false then match toArgs h r (ks ++ [k]) with
        | some (as, ks', W) => some (.bx ks.length :: as, ks', W)
        | none => none
      else none
    | x => match frz h x, toArgs h r ks with
      | some (p, W), some (as, ks', W') => some (.pv p :: as, ks', W ++ W')
      | _, _ => none

def hins (h : Hp) : List Nat → Option (List (List PV))
  | [] => some []
  | k :: r => match h k, hins h r with
    | some (.box cs _ false), some hs => match pvs? cs with
      | some ps => some (ps :: hs)
      | none => none
    | _, _ => none
def houts (h : Hp) : List Nat → List (List PV) → List (Nat × Blk)
  | k :: ks, ps :: hs => (match h k with
      | some (.box _ own _) => [(k, .box (ps.map .pv) own false)]
      | _ => []) ++ houts h ks hs
  | _, _ => []

def callEff (h : Hp) (d : Option Nat) (ks : List Nat) (W0 : List (Nat × Blk)) (hout : List (List PV)) (res : RV) : Option Eff :=
  match res, d with
  | .pv p, _ => some (.pv p, W0 ++ houts h ks hout)
  | .box ps, some d => if (h d).isNone ∧ ks = [] then some (.ptr d 0, W0 ++ [(d, .box (ps.map .pv) true false)]) else none
  | .row e sz xs, some d => if (h d).isNone ∧ ks = [] then some (.arr d xs.length, W0 ++ [(d, .row e sz xs 0)]) else none
  | _, _ => none

def optThen (x : Option Eff) (K : Eff → Prop) : Prop := match x with
  | some e => K e
  | none => False
/-- There is a contract, and what follows holds of what it gives. -/
def callThen (P : Program) (g : FuncId) (as : List Arg) (hin : List (List PV)) (F : List (List PV) → RV → Prop) : Prop := ∃ hout res, DetH P g as hin hout res ∧ F hout res
theorem callThen_intro {P : Program} {g : FuncId} {as : List Arg} {hin hout : List (List PV)} {res : RV} {F : List (List PV) → RV → Prop} (h : DetH P g as hin hout res) (hf : F hout res) : callThen P g as hin F := ⟨hout, res, h, hf⟩

/-- A call, told by the callee's contract. -/
def evCall (P : Program) (c : AV) (args : List AV) (d : Option Nat) (h : Hp) (K : Eff → Prop) : Prop :=
  match calleeOf c with
  | none => False
  | some (g, first, caps) => match toArgs h (first ++ args ++ caps) [] with
    | none => False
    | some (as, ks, W0) => if (W0.any fun kb => ks.contains kb.1) = true then False else match hins h ks with
      | none => False
      | some hin => callThen P g as hin fun hout res => optThen (callEff h d ks W0 hout res) K

def evO (P : Program) (hn : List Nat) (o : Oper) (ρ : Operand → AV) (h : Hp) (K : Eff → Prop) : Prop :=
  match o.op with
  | .call c => match c.callee with
    | .value f => evCall P (ρ f) (c.args.toList.map ρ) o.dst h K
    | _ => optThen (evOp P hn o ρ h) K
  | _ => optThen (evOp P hn o ρ h) K

/-- A deferred function that does nothing where the frame returns. -/
def QuietFn (P : Program) (g : FuncId) : Prop := callable P g = true ∧ ∀ (args : Array Value) (w : World), CallsD P g args .returning w fun e u' w' => u' = .returning ∧ (∃ v, e = .returned v) ∧ w' = w
def evDefer (P : Program) (K : Eff → Prop) : AV → Prop
  | .fn (.func g) _ _ => QuietFn P g ∧ K (.undef, [])
  | _ => False
/-- An answer that is not known: both ways. -/
def xTwo (x y : Prop) : Prop := x ∧ y
theorem xTwo_intro {x y : Prop} (a : x) (b : y) : xTwo x y := ⟨a, b⟩
/-- What stands in a region in the order of the text: defers, and comparisons with nil whose answer is open, too. -/
def evOD (P : Program) (hn : List Nat) (o : Oper) (ρ : Operand → AV) (h : Hp) (K : Eff → Prop) : Prop :=
  match o.op with
  | .defer c => match c.callee with
    | .value f => if c.args.size = 0 then evDefer P K (ρ f) else False
    | _ => False
  | .binOp op t x y _ => if (isNilA (ρ y) && isSliceT P t && nilOpen h (ρ x) && (op == .eql || op == .neq)) = true then xTwo (K (.pv (.val (.bool true)), [])) (K (.pv (.val (.bool false)), [])) else evO P hn o ρ h K
  | _ => evO P hn o ρ h K

def guardB (ops : Array Oper) (t : Nat → AV) (g : Option (Nat × Bool)) : Option Bool :=
  match g with
  | none => some true
  | some (j, want) => match (ops[j]?).bind (·.dst) with
    | some d => match t d with
      | .pv (.val (.bool b)) => some (b == want)
      | .pv (.val (.tuple _)) => some false
      | _ => none
    | none => none

def dstOk (N : Nat) : Option Nat → Bool
  | some d => decide (d < N)
  | none => true

/-- The guard: none, or the slot, its Bool and the Bool that is wanted. -/
def guardV (ops : Array Oper) (t : Nat → AV) (g : Option (Nat × Bool)) : Option (Option (Nat × Bool × Bool)) :=
  match g with
  | none => some none
  | some (j, want) => match (ops[j]?).bind (·.dst) with
    | some d => match t d with
      | .pv (.val (.bool b)) => some (some (d, b, want))
      | .pv (.val (.tuple _)) => some (some (d, !want, want))
      | _ => none
    | none => none
/-- A guard's Bool, to be decided. -/
def evB (b : Bool) (_ : Nat) (st : St) (F : Bool → St → Prop) : Prop := F b st

/-- The operations one after another. -/
def evR (P : Program) (hn : List Nat) (N : Nat) (ops : Array Oper) (Q : St → Prop) : List Oper → St → Prop
  | [], st => Q st
  | o :: rest, st => dstOk N o.dst = true ∧ (match guardV ops st.t o.guard with
      | some none => evOD P hn o st.ev st.h (fun e => evR P hn N ops Q rest (st.put o.dst e.1 e.2))
      | some (some (d, b, want)) => evB b d st (fun b' st' => if b' = want then evOD P hn o st'.ev st'.h (fun e => evR P hn N ops Q rest (st'.put o.dst e.1 e.2)) else evR P hn N ops Q rest (st'.put o.dst (.pv (.val (.tuple #[]))) []))
      | none => False)

theorem guardV_none {ops : Array Oper} {t : Nat → AV} {g : Option (Nat × Bool)} (e : guardV ops t g = some none) : guardB ops t g = some true := by
  unfold guardV at e; unfold guardB
  split at e
  · rfl
  · split at e
    · split at e
      · injection e with e; cases e
      · injection e with e; cases e
      · cases e
    · cases e
theorem guardV_some {ops : Array Oper} {t : Nat → AV} {g : Option (Nat × Bool)} {d : Nat} {b want : Bool} (e : guardV ops t g = some (some (d, b, want))) : guardB ops t g = some (b == want) := by
  unfold guardV at e; unfold guardB
  split at e
  · injection e with e; cases e
  · rename_i j w
    split at e
    · rename_i d' hd
      split at e
      · rename_i b' hb
        injection e with e; injection e with e; injection e with e1 e; injection e with e2 e3
        subst e1; subst e2; subst e3
        simp only [hd, hb]
      · rename_i q hb
        injection e with e; injection e with e; injection e with e1 e; injection e with e2 e3
        subst e1; subst e2; subst e3
        cases w <;> rfl
      · cases e
    · cases e

end Go.Ab
