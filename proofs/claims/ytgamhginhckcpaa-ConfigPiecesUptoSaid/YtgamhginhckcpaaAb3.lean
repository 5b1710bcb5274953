/- What one operation does to the abstract state. -/
import Derived.Test.YtgamhginhckcpaaAb2
set_option linter.all false
namespace Go.Ab

/-- What the evaluation asks of a type. -/
inductive TK where
  | one
  | struct (fs : List (Nat × Nat))
  | array (len esz : Nat)
  | slice (e esz ebytes : Nat) (ezero : Option Value)
structure TI where
  size : Nat
  zero : Option Value
  kind : TK
def szOf (P : Program) (t : TypeId) : Nat := ((P.info? t).map (·.size)).getD 0
/-- The field types of a struct are all known. -/
def fieldsKnown (P : Program) (t : TypeId) : Bool := match P.underlying t with
  | some (.struct fs) => fs.toList.all fun f => (P.info? f.type).isSome
  | some (.array _ e) => (P.info? e).isSome
  | _ => true
def tiOf (P : Program) (t : TypeId) : Option TI :=
  if fieldsKnown P t = false then none else
  match P.info? t, P.underlying t with
  | some i, some d => some { size := i.size, zero := i.zero, kind := match d with
      | .struct fs => .struct (fs.toList.map fun f => (f.offset, szOf P f.type))
      | .array n e => .array n (szOf P e)
      | .slice e => match P.info? e with
        | some j => .slice e j.size j.bytes j.zero
        | none => .one
      | _ => .one }
  | _, _ => none
def TK.isAgg : TK → Bool
  | .struct _ | .array _ _ => true
  | _ => false

/-- A computation that looks at no memory. -/
def runPure {α : Type} (P : Program) : Sem α → Option α
  | .pure a => some a
  | .program k => runPure P (k P)
  | _ => none

def refs1 : AV → List Nat
  | .ptr k _ | .arr k _ | .eptr k _ _ _ => [k]
  | _ => []
def refs : AV → List Nat
  | .agg cs => cs.flatMap refs1
  | .fn _ f c => (f ++ c).flatMap refs1
  | .tup vs => vs.flatMap refs1
  | x => refs1 x

abbrev Eff := AV × List (Nat × Blk)

def nilS : Value := .slice none 0 0
def isNilS : Value → Bool
  | .slice none 0 0 => true
  | _ => false

def isNilA : AV → Bool
  | .pv (.val v) => isNilS v
  | _ => false

/-- nil slices are told as empty ones. -/
def norm1 : PV → PV
  | .val v => if isNilS v then .sl [] else .val v
  | p => p
def hasNil (v : Value) : Bool := match v with
  | .agg cs => cs.toList.any isNilS
  | _ => false
def norm (p : PV) : PV := match p with
  | .val v => if isNilS v then .sl [] else if hasNil v then mkAgg (p.cells.map norm1) else .val v
  | .agg cs => mkAgg (cs.map norm1)
  | p => p

def isAggP : PV → Bool
  | .agg _ => true
  | .val (.agg _) => true
  | _ => false

def one1 : PV → Bool
  | .val v => v.oneCell'
  | .agg _ => false
  | .tup _ => false
  | _ => true
def oneA (h : Hp) : AV → Bool
  | .pv p => one1 p
  | .ptr _ _ => true
  | .arr k n => match h k with
    | some (.row _ _ xs _) => xs.length == n
    | _ => false
  | .fn _ _ _ => true
  | _ => false
def okE (esz : Nat) (y : PV) : Bool := y.cells.length == esz && y.cells.all one1

/-- The cells behind an address: the whole object's, and where in it. -/
def cellsAt (h : Hp) : AV → Option (List AV × Nat)
  | .ptr k off => match h k with
    | some (.box cs _ _) => some (cs, off)
    | _ => none
  | .pv (.rptr x off) => some (x.cells.map .pv, off)
  | .eptr k n i off => match h k with
    | some (.row _ _ xs _) => if xs.length = n then (match xs[i]? with
      | some x => some (x.cells.map .pv, off)
      | none => none) else none
    | _ => none
  | _ => none

/-- An element that is loaded whole is itself. -/
def whole? (h : Hp) (sz : Nat) : AV → Option PV
  | .pv (.rptr x 0) => if isAggP x && x.cells.length == sz then some x else none
  | .eptr k n i 0 => match h k with
    | some (.row _ _ xs _) => if xs.length = n then (match xs[i]? with
      | some x => if isAggP x && x.cells.length == sz then some x else none
      | none => none) else none
    | _ => none
  | _ => none

def evLoad (ti : TI) (x : AV) (h : Hp) : Option AV :=
  if ti.kind.isAgg then
    match whole? h ti.size x with
    | some p => some (.pv p)
    | none => match cellsAt h x with
      | some (cs, off) => if off + ti.size ≤ cs.length then some (mkAggA ((cs.drop off).take ti.size)) else none
      | none => none
  else match cellsAt h x with
    | some (cs, off) => cs[off]?
    | none => none

/-- The cells of a value that is put into memory: none where it is not known. -/
def okCells (h : Hp) : AV → Option (List AV)
  | .undef => none
  | .eptr _ _ _ _ => none
  | .arr k n => match h k with
    | some (.row _ _ xs _) => if xs.length = n then some [.arr k n] else none
    | _ => none
  | x => some x.cells

def splice {α : Type} (cs : List α) (off : Nat) (vs : List α) : List α := cs.take off ++ vs ++ cs.drop (off + vs.length)

/-- An array of the frame's own, told by content (its elements are frozen). -/
def frz1 (h : Hp) : AV → Option (PV × List (Nat × Blk))
  | .pv p => some (norm p, [])
  | .arr k n => match h k with
    | some (.row e sz xs _) => if xs.length = n then some (.sl xs, [(k, .row e sz xs xs.length)]) else none
    | _ => none
  | _ => none
def frzL (h : Hp) : List AV → Option (List PV × List (Nat × Blk))
  | [] => some ([], [])
  | x :: r => match frz1 h x, frzL h r with
    | some (p, W), some (ps, W') => some (p :: ps, W ++ W')
    | _, _ => none
def single : List PV → Bool
  | [p] => one1 p
  | _ => false
/-- A captured variable, told by content. -/
def frzCap (h : Hp) : AV → Option (PV × List (Nat × Blk))
  | .pv p => some (p, [])
  | .ptr k 0 => match h k with
    | some (.box cs true _) => match pvs? cs with
      | some ps => if single ps = true then some (.rptr (ps.headD default) 0, [(k, .box cs true true)])
        else some (.rptr (mkAgg ps) 0, [(k, .box cs true true)])
      | none => none
    | _ => none
  | _ => none
def frzCaps (h : Hp) : List AV → Option (List PV × List (Nat × Blk))
  | [] => some ([], [])
  | x :: r => match frzCap h x, frzCaps h r with
    | some (p, W), some (ps, W') => some (p :: ps, W ++ W')
    | _, _ => none
def frz (h : Hp) : AV → Option (PV × List (Nat × Blk))
  | .agg cs => match frzL h cs with
    | some (ps, W) => some (mkAgg ps, W)
    | none => none
  | .fn f first caps => match frzL h first, frzCaps h caps with
    | some (ps, W), some (qs, W') => some (.fn f ps qs, W ++ W')
    | _, _ => none
  | .tup vs => match frzL h vs with
    | some (ps, W) => some (.tup ps, W)
    | none => none
  | x => frz1 h x

def evStore (ti : TI) (x v : AV) (h : Hp) : Option (List (Nat × Blk)) :=
  match x with
  | .ptr k off => match h k, okCells h v with
    | some (.box cs own false), some vc => if vc.length = ti.size ∧ off + vc.length ≤ cs.length ∧ vc.all (oneA h) = true then some [(k, .box (splice cs off vc) own false)] else none
    | _, _ => none
  | .eptr k n i off => match h k with
    | some (.row e sz xs fz) =>
      if xs.length = n ∧ fz ≤ i then
        match xs[i]?, frz1 h v with
        | some y, some (p, []) =>
          if okE ti.size p = true then
            if off = 0 ∧ ti.size = sz then some [(k, .row e sz (xs.set i p) fz)]
            else if off + ti.size ≤ sz ∧ isAggP y then some [(k, .row e sz (xs.set i (mkAgg (splice y.cells off p.cells))) fz)]
            else none
          else none
        | _, _ => none
      else none
    | _ => none
  | _ => none

def current (h : Hp) (k n : Nat) : Bool := match h k with
  | some (.row _ _ xs _) => xs.length == n
  | _ => false
def evFieldAddr (ti : TI) (x : AV) (f : Nat) (h : Hp) : Option AV :=
  match ti.kind with
  | .struct fs => match fs[f]? with
    | some (o, s) => if s = 0 then none else match x with
      | .ptr k off => some (.ptr k (off + o))
      | .pv (.rptr y off) => some (.pv (.rptr y (off + o)))
      | .eptr k n i off => if current h k n = true then some (.eptr k n i (off + o)) else none
      | _ => none
    | none => none
  | _ => none

def evIndexAddr (ti : TI) (x : AV) (i : Int) (h : Hp) : Option AV :=
  match ti.kind with
  | .slice _ esz _ _ => match x with
    | .pv (.sl xs) => if 0 ≤ i then (match xs[i.toNat]? with
      | some y => if y.cells.length = esz then some (.pv (.rptr y 0)) else none
      | none => none) else none
    | .arr k n => match h k with
      | some (.row _ sz xs _) => if xs.length = n ∧ sz = esz ∧ 0 ≤ i ∧ i.toNat < n then some (.eptr k n i.toNat 0) else none
      | _ => none
    | _ => none
  | .array len esz => if 0 ≤ i ∧ i.toNat < len then match x with
      | .ptr k off => some (.ptr k (off + i.toNat * esz))
      | .pv (.rptr y off) => some (.pv (.rptr y (off + i.toNat * esz)))
      | .eptr k n j off => if current h k n = true then some (.eptr k n j (off + i.toNat * esz)) else none
      | _ => none
    else none
  | _ => none

/-- The parts of a struct or an array literal. -/
def fillA (place : Nat → Option (Nat × Nat)) (cells : List AV) : List (Nat × List AV) → Option (List AV)
  | [] => some cells
  | (i, vs) :: rest => match place i with
    | none => none
    | some (off, size) => if vs.length ≠ size ∨ off + vs.length > cells.length then none else fillA place (splice cells off vs) rest

def okParts (h : Hp) (ρ : Operand → AV) : List (Nat × Operand) → Option (List (Nat × List AV))
  | [] => some []
  | (i, x) :: r => match okCells h (ρ x), okParts h ρ r with
    | some cs, some ps => some ((i, cs) :: ps)
    | _, _ => none

def evBuild (ti : TI) (ps : List (Nat × List AV)) : Option AV :=
  match ti.zero with
  | none => none
  | some z =>
    let zc := z.cells.toList.map fun v => AV.pv (.val v)
    match ti.kind with
    | .struct fs => (fillA (fun i => fs[i]?) zc ps).map mkAggA
    | .array _ esz => (fillA (fun i => some (i * esz, esz)) zc ps).map mkAggA
    | _ => none

/-- A slice literal whose parts stand in order. -/
def evElems (h : Hp) (ρ : Operand → AV) (esz : Nat) : Nat → List (Nat × Operand) → Option (List PV × List (Nat × Blk))
  | _, [] => some ([], [])
  | k, (i, x) :: r => if i = k then match frz h (ρ x), evElems h ρ esz (k + 1) r with
      | some (p, W), some (ps, W') => if p.cells.length = esz then some (p :: ps, W ++ W') else none
      | _, _ => none
    else none

def elemsOf (h : Hp) : AV → Option (List PV)
  | .pv (.sl ys) => some ys
  | .pv (.val v) => if isNilS v then some [] else none
  | .arr k n => match h k with
    | some (.row _ _ xs _) => if xs.length = n then some xs else none
    | _ => none
  | _ => none

def evAppend (ti : TI) (d : Option Nat) (s x : AV) (h : Hp) : Option Eff :=
  match ti.kind with
  | .slice et esz ebytes (some z) =>
    match elemsOf h x with
    | none => none
    | some ys =>
      if 0 < esz ∧ z.cells.size = esz ∧ ys.all (okE esz) = true then
        match s with
        | .arr k n => match h k with
          | some (.row e sz xs fz) =>
            if xs.length = n ∧ e = et ∧ sz = esz ∧ (n + ys.length) * ebytes ≤ 140737488355328 ∧ n + ys.length ≤ 9223372036854775807 then some (.arr k (n + ys.length), [(k, .row e sz (xs ++ ys) fz)]) else none
          | _ => none
        | .pv (.val v) =>
          if isNilS v then match d with
            | some d => if (h d).isNone ∧ ys.length * ebytes ≤ 140737488355328 ∧ ys.length ≤ 9223372036854775807 then some (.arr d ys.length, [(d, .row et esz ys 0)]) else none
            | none => none
          else none
        | _ => none
      else none
  | _ => none

def evCopy (ti : TI) (s x : AV) (h : Hp) : Option Eff :=
  match ti.kind, s with
  | .slice _ esz _ _, .arr k n => match h k, elemsOf h x with
    | some (.row e sz xs 0), some ys =>
      if xs.length = n ∧ sz = esz ∧ ys.all (okE esz) = true then
        some (.pv (.val (.int .i64 (Nat.min ys.length n : Nat))), [(k, .row e sz (ys.take (Nat.min ys.length n) ++ xs.drop (Nat.min ys.length n)) 0)]) else none
    | _, _ => none
  | _, _ => none

def evLen (ti : TI) (x : AV) (h : Hp) : Option AV :=
  match ti.kind, x with
  | .slice _ _ _ _, .pv (.sl xs) => some (.pv (.val (.int .i64 (xs.length : Nat))))
  | .slice _ _ _ _, .arr k n => match h k with
    | some (.row _ _ xs _) => if xs.length = n then some (.pv (.val (.int .i64 (n : Nat)))) else none
    | _ => none
  | _, _ => none

def evMake (ti : TI) (d : Option Nat) (l c : AV) (h : Hp) : Option Eff :=
  match ti.kind, l, c, d with
  | .slice e esz ebytes (some z), .pv (.val (.int _ n)), .pv (.val (.int _ m)), some d =>
    if 0 < esz ∧ z.cells.size = esz ∧ m = n ∧ 0 ≤ n ∧ (ebytes : Int) * n ≤ 281474976710656 ∧ n ≤ 9223372036854775807 ∧ (h d).isNone then
      some (.arr d n.toNat, [(d, .row e esz (List.replicate n.toNat (.val z)) 0)])
    else none
  | _, _, _, _ => none

def evSlice (ti : TI) (x : AV) (lo hi : Option AV) : Option AV :=
  match ti.kind, x with
  | .slice _ esz _ _, .pv (.sl xs) =>
    let l := match lo with | none => some 0 | some (.pv (.val (.int _ n))) => if 0 ≤ n then some n.toNat else none | _ => none
    let r := match hi with | none => some xs.length | some (.pv (.val (.int _ n))) => if 0 ≤ n then some n.toNat else none | _ => none
    match l, r with
    | some l, some r => if l ≤ r ∧ r ≤ xs.length ∧ 0 < esz ∧ xs.all (okE esz) = true then some (.pv (.sl ((xs.take r).drop l))) else none
    | _, _ => none
  | _, _ => none

def valOf : AV → Option Value
  | .pv (.val v) => some v
  | _ => none
def valOr (x : AV) : Value := (valOf x).getD undef

def evPure (P : Program) (o : Oper) (ρ : Operand → AV) : Option Eff :=
  if (o.op.operands.toList.all fun x => (valOf (ρ x)).isSome) = true then
    match runPure P (execOp (fun x => valOr (ρ x)) o) with
    | some (.value v) => some (.pv (.val v), [])
    | _ => none
  else none

/-! What is met most often, told directly. -/
def bitI (op : BinOp) (k : IntKind) (a b : Int) : Int := match op with
  | .and => k.wrap (BitVec.ofInt k.bits a &&& BitVec.ofInt k.bits b).toNat
  | .or => k.wrap (BitVec.ofInt k.bits a ||| BitVec.ofInt k.bits b).toNat
  | .xor => k.wrap (BitVec.ofInt k.bits a ^^^ BitVec.ofInt k.bits b).toNat
  | _ => k.wrap (BitVec.ofInt k.bits a &&& ~~~BitVec.ofInt k.bits b).toNat
def fastBin (op : BinOp) (x y : AV) : Option Value :=
  match x, y with
  | .pv (.val (.int k a)), .pv (.val (.int k' b)) => match op with
    | .shl => if 0 ≤ b then some (.int k (k.wrap (a * 2 ^ (min b.toNat k.bits)))) else none
    | .shr => if 0 ≤ b then some (.int k (a.fdiv (2 ^ (min b.toNat k.bits)))) else none
    | .add => if k = k' then some (.int k (k.wrap (a + b))) else none
    | .sub => if k = k' then some (.int k (k.wrap (a - b))) else none
    | .mul => if k = k' then some (.int k (k.wrap (a * b))) else none
    | .quo => if k = k' ∧ b ≠ 0 then some (.int k (k.wrap (a.tdiv b))) else none
    | .rem => if k = k' ∧ b ≠ 0 then some (.int k (a.tmod b)) else none
    | .eql => if k = k' then some (.bool (a == b)) else none
    | .neq => if k = k' then some (.bool (a != b)) else none
    | .lss => if k = k' then some (.bool (decide (a < b))) else none
    | .leq => if k = k' then some (.bool (decide (a ≤ b))) else none
    | .gtr => if k = k' then some (.bool (decide (b < a))) else none
    | .geq => if k = k' then some (.bool (decide (b ≤ a))) else none
    | .and => if k = k' then some (.int k (bitI .and k a b)) else none
    | .or => if k = k' then some (.int k (bitI .or k a b)) else none
    | .xor => if k = k' then some (.int k (bitI .xor k a b)) else none
    | .andNot => if k = k' then some (.int k (bitI .andNot k a b)) else none
  | .pv (.val (.string a)), .pv (.val (.string b)) => match op with
    | .eql => some (.bool (a.toList == b.toList))
    | .neq => some (.bool !(a.toList == b.toList))
    | _ => none
  | _, _ => none
def fastUn (op : UnOp) (x : AV) : Option Value :=
  match op, x with
  | .not, .pv (.val (.bool b)) => some (.bool !b)
  | .neg, .pv (.val (.int k n)) => some (.int k (k.wrap (0 - n)))
  | _, _ => none
def intKindOf (P : Program) (t : TypeId) : Option IntKind := match P.underlying t with
  | some (.int k) => some k
  | _ => none
def fastConv (P : Program) (s d : TypeId) (x : AV) : Option Value :=
  match intKindOf P s, intKindOf P d, x with
  | some _, some k, .pv (.val (.int _ n)) => some (.int k (k.wrap n))
  | _, _, _ => none
def fastMin : List AV → Option Value
  | [.pv (.val (.int k a)), .pv (.val (.int _ b))] => some (.int k (if b < a then b else a))
  | _ => none
def fastMax : List AV → Option Value
  | [.pv (.val (.int k a)), .pv (.val (.int _ b))] => some (.int k (if b > a then b else a))
  | _ => none
def orPure (P : Program) (o : Oper) (ρ : Operand → AV) : Option Value → Option Eff
  | some v => some (.pv (.val v), [])
  | none => evPure P o ρ

def asInt? : AV → Option Int
  | .pv (.val (.int _ n)) => some n
  | _ => none

def evBuiltin (P : Program) (o : Oper) (b : Builtin) (args : List AV) (ts : List TypeId) (ρ : Operand → AV) (h : Hp) : Option Eff :=
  match b, args, ts with
  | .len, [x], [t] => match x with
    | .pv (.val _) => evPure P o ρ
    | _ => match tiOf P t with
      | some ti => (evLen ti x h).map fun v => (v, [])
      | none => none
  | .append, [s, x], [t, t'] => if t = t' then match tiOf P t with
      | some ti => evAppend ti o.dst s x h
      | none => none
    else none
  | .copy, [s, x], [t, _] => match tiOf P t with
    | some ti => evCopy ti s x h
    | none => none
  | .min, _, _ => orPure P o ρ (fastMin args)
  | .max, _, _ => orPure P o ρ (fastMax args)
  | _, _, _ => none

/-- Strings, and arrays of single cells. -/
def ixKind (P : Program) (t : TypeId) : Option (Option Nat) := match P.underlying t with
  | some .string => some none
  | some (.array n e) => match P.underlying e with
    | some (.struct _) => none
    | some (.array _ _) => none
    | some _ => if szOf P e = 1 ∧ (P.info? e).isSome = true then some (some n) else none
    | none => none
  | _ => none
def fastIx : Option (Option Nat) → AV → AV → Option Value
  | some none, .pv (.val (.string s)), .pv (.val (.int _ i)) => if 0 ≤ i then (s[i.toNat]?).map fun b => .int .u8 b.toNat else none
  | some (some n), .pv (.val (.agg cs)), .pv (.val (.int _ i)) => if 0 ≤ i ∧ i < n then cs[i.toNat]? else none
  | _, _, _ => none
/-- Is a slice nil, where that is known? -/
def nilKnown (h : Hp) : AV → Option Bool
  | .pv (.val v) => if isNilS v then some true else none
  | .pv (.sl xs) => if xs.isEmpty then none else some false
  | .arr k n => match h k with
    | some (.row _ _ xs _) => if xs.length = n ∧ n ≠ 0 then some false else none
    | _ => none
  | _ => none
/-- Where it is not known. -/
def nilOpen (h : Hp) : AV → Bool
  | .pv (.sl xs) => xs.isEmpty
  | .arr k n => match h k with
    | some (.row _ _ xs _) => decide (xs.length = n) && decide (n = 0)
    | _ => false
  | _ => false
def isSliceT (P : Program) (t : TypeId) : Bool := match tiOf P t with
  | some { kind := .slice _ _ _ _, .. } => true
  | _ => false
def nilAns (op : BinOp) : Option Bool → Option Bool
  | none => none
  | some b => match op with
    | .eql => some b
    | .neq => some !b
    | _ => none
def nilCmp (P : Program) (h : Hp) (ρ : Operand → AV) (op : BinOp) (t : TypeId) (x y : Operand) : Option Bool :=
  if (isNilA (ρ y) && isSliceT P t) = true then nilAns op (nilKnown h (ρ x)) else none
/-- A literal without elements that begins an array. -/
def emptyLit (P : Program) (hn : List Nat) (dst : Option Nat) (h : Hp) (t : TypeId) (len : Nat) (ps : List (Nat × Operand)) : Option Eff :=
  match len, ps, dst with
  | 0, [], some d => if hn.contains d = true then match tiOf P t with
      | some { kind := .slice e esz _ (some _), .. } => if (h d).isNone ∧ 0 < esz then some (.arr d 0, [(d, .row e esz [] 0)]) else none
      | _ => none
    else none
  | _, _, _ => none

/-- One operation, calls of functions apart. 'hn': the slots whose nil slice is a growing array's beginning. -/
def evOp (P : Program) (hn : List Nat) (o : Oper) (ρ : Operand → AV) (h : Hp) : Option Eff :=
  match o.op with
  | .move x => some (ρ x, [])
  | .assign x => match o.dst with
    | some d => if (hn.contains d && isNilA (ρ x)) = true then
        match tiOf P o.type with
        | some { kind := .slice e esz _ _, .. } => if (h d).isNone ∧ 0 < esz then some (.arr d 0, [(d, .row e esz [] 0)]) else none
        | _ => none
      else some (ρ x, [])
    | none => some (ρ x, [])
  | .pick c a b => match ρ c with
    | .pv (.val (.bool t)) => some (if t then ρ a else ρ b, [])
    | _ => none
  | .alloc e => match tiOf P e, o.dst with
    | some { zero := some z, .. }, some d => if (h d).isNone then some (.ptr d 0, [(d, .box (z.cells.toList.map fun v => .pv (.val v)) true false)]) else none
    | _, _ => none
  | .box _ x => match okCells h (ρ x), o.dst with
    | some cs, some d => if (h d).isNone then some (.ptr d 0, [(d, .box cs true false)]) else none
    | _, _ => none
  | .build t ps => match tiOf P t, okParts h ρ ps.toList with
    | some ti, some qs => (evBuild ti qs).map fun v => (v, [])
    | _, _ => none
  | .buildSlice t len ps => match emptyLit P hn o.dst h t len ps.toList with
    | some eff => some eff
    | none => match tiOf P t with
      | some { kind := .slice _ esz _ (some _), .. } => match evElems h ρ esz 0 ps.toList with
        | some (xs, W) => if xs.length = len ∧ 0 < esz ∧ len * esz ≤ 16777216 then some (.pv (.sl xs), W) else none
        | none => none
      | _ => none
  | .load t a => match tiOf P t with
    | some ti => (evLoad ti (ρ a) h).map fun v => (v, [])
    | none => none
  | .store t a v => match tiOf P t with
    | some ti => (evStore ti (ρ a) (ρ v) h).map fun W => (.undef, W)
    | none => none
  | .nilCheck x => match ρ x with
    | .ptr k off => some (.ptr k off, [])
    | .pv (.rptr y off) => some (.pv (.rptr y off), [])
    | _ => none
  | .fieldAddr s x f => match tiOf P s with
    | some ti => (evFieldAddr ti (ρ x) f h).map fun v => (v, [])
    | none => none
  | .indexAddr t x i => match tiOf P t, asInt? (ρ i) with
    | some ti, some n => (evIndexAddr ti (ρ x) n h).map fun v => (v, [])
    | _, _ => none
  | .makeFunc f first caps => some (.fn f (first.toList.map ρ) (caps.toList.map ρ), [])
  | .makeSlice t l c => match tiOf P t with
    | some ti => evMake ti o.dst (ρ l) (ρ c) h
    | none => none
  | .slice t x lo hi mx => match ρ x, mx with
    | .pv (.val _), _ => evPure P o ρ
    | _, none => match tiOf P t with
      | some ti => (evSlice ti (ρ x) (lo.map ρ) (hi.map ρ)).map fun v => (v, [])
      | none => none
    | _, _ => none
  | .extract t i => match ρ t with
    | .tup vs => (vs[i]?).map fun v => (v, [])
    | .pv (.tup vs) => (vs[i]?).map fun v => (.pv v, [])
    | .pv (.val _) => evPure P o ρ
    | _ => none
  | .call c => match c.callee with
    | .builtin b => evBuiltin P o b (c.args.toList.map ρ) c.argTypes.toList ρ h
    | _ => none
  | .binOp op t x y _ => match nilCmp P h ρ op t x y with
    | some b => some (.pv (.val (.bool b)), [])
    | none => orPure P o ρ (fastBin op (ρ x) (ρ y))
  | .unOp op _ x => orPure P o ρ (fastUn op (ρ x))
  | .convert s d x => orPure P o ρ (fastConv P s d (ρ x))
  | .field _ _ _ => evPure P o ρ
  | .index t x i => orPure P o ρ (fastIx (ixKind P t) (ρ x) (ρ i))
  | _ => none

structure St where
  t : Nat → AV
  h : Hp

def St.ev (st : St) : Operand → AV
  | .tmp n => st.t n
  | .const v => .pv (.val v)
  | .global _ => .undef
  | .func f => .pv (.val (.func (.func f) #[] #[]))

def writes (h : Hp) (W : List (Nat × Blk)) : Hp := W.foldl (fun h kb => upd h kb.1 (some kb.2)) h
def St.put (st : St) (d : Option Nat) (v : AV) (W : List (Nat × Blk)) : St :=
  ⟨match d with | some d => upd st.t d v | none => st.t, writes st.h W⟩

end Go.Ab
