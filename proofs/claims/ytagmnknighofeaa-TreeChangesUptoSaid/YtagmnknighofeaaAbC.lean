/- Ab22, Ab23, Ab24, Ab25: as one text. -/
import Derived.Test.YtagmnknighofeaaAbB
import Derived.TacticsIn
import Derived.RangeFuncRecord
import Derived.RangeFuncLeaves
import Derived.RangeFuncCalls
import Derived.RangeFuncSeq
import Derived.RecoverIn
set_option linter.all false
/- Ranges over a function: walks inside a round, with what is kept told. -/
namespace Go.Ab

/-- No calls are deferred. -/
def noDefer (ops : Array Oper) : Bool := ops.toList.all fun o => match o.op with | .defer _ => false | _ => true
theorem noDefer_of {ops : Array Oper} (h : noDefer ops = true) {o : Oper} (ho : o ∈ ops.toList) : ∀ c, o.op ≠ .defer c := by
  intro c hc
  have := List.all_eq_true.1 h o ho
  rw [hc] at this; cases this
/-- The fences that let in everything. -/
structure Wide (F : Fence) : Prop where
  fn : ∀ f, F.fn f
  depth : F.depth = none
  calls : ∀ {n : Nat} {P : Program} {f : FuncId} {args : Array Value} {w : World} {R : Ending → World → Prop}, Calls P f args w R → CallsIn F n P f args w R
  rows : ∀ {n : Nat} {P : Program} {row : String} {args : Array Value} {w : World} {R : Value → World → Prop}, Rows P row args w R → RowsIn F n P row args w R
theorem wide_wide : Wide Fence.wide := ⟨fun _ => trivial, rfl, fun h => callsIn_wide.2 h, fun h c cs _ => let ⟨v, w', r, s⟩ := h c cs; ⟨v, w', r, stepsIn_wide.2 s⟩⟩
theorem wide_round (l : Nat) : Wide (Fence.wide.inRound l) := ⟨fun _ => trivial, rfl, fun h => (callsIn_wide.2 h).inRound l, fun h => wide_wide.rows h⟩
/-- What an operation may come to in the layer: no rows, no rounds, no deferring. -/
theorem opIn_of {F : Fence} (hF : Wide F) {n : Nat} {P : Program} {o : Oper} (hd : ∀ c, o.op ≠ .defer c) {a : Act} {w : World} {next : Act → World → Prop} {Q : Exit → Act → World → Prop}
    (h : o.wp P a w next Q) : o.wpIn F n P a w next Q := by
  refine ⟨fun f _ => hF.fn f, ?_⟩
  rw [Oper.semAt_eq _ _ _ hd]
  unfold Oper.wp at h
  cases hx : (execOp a.eval o).run P w with
  | ok nx w' =>
    rw [hx] at h
    cases nx with
    | value v => exact h
    | skip => exact h
    | defer d => exact h
    | enter f args => exact ⟨fun hs => (by rw [hF.depth] at hs; cases hs), hF.calls h⟩
    | row r args => exact ⟨fun hs => (by rw [hF.depth] at hs; cases hs), hF.rows h⟩
    | _ => exact h.elim
  | halt k w' =>
    rw [hx] at h
    cases k with
    | panic v => exact h
    | _ => exact h.elim

/-- 'Sim' with the places named. -/
def SimL (C : Cx) (L : Nat → Loc) (st : St) (a : Act) (w : World) : Prop :=
  MemL C L st.h w ∧ a.tmps.size = C.N ∧ ∀ n, RepA w (Mst C L st.h) L st.h (st.t n) (a.tmps.getD n undef)
theorem SimL.put {C : Cx} {L : Nat → Loc} {st : St} {a : Act} {w : World} (hs : SimL C L st a w) {d : Option Nat} (hd : dstOk C.N d = true) {v : AV} {W : List (Nat × Blk)} {u : Value} {w' : World} {L' : Nat → Loc}
    (hA : After C L st.h w L' (writes st.h W) w') (hv : RepA w' (Mst C L' (writes st.h W)) L' (writes st.h W) v u) : SimL C L' (st.put d v W) (a.put d u) w' := by
  obtain ⟨hm, hN, ht⟩ := hs
  refine ⟨hA.1, ?_, fun n => ?_⟩
  · cases d <;> simp [Act.put, hN]
  · have hold := (ht n).mono hA.2.1 hA.2.2
    cases d with
    | none => exact hold
    | some d =>
      have hd' : d < a.tmps.size := by rw [hN]; simpa [dstOk] using hd
      rw [getD_put hd']
      simp only [St.put, upd]
      split
      · exact hv
      · exact hold
theorem put_h (st : St) (d : Option Nat) (v : AV) (W : List (Nat × Blk)) : (st.put d v W).h = writes st.h W := by cases d <;> rfl
theorem put_defers (a : Act) (d : Option Nat) (u : Value) : (a.put d u).defers = a.defers := by cases d <;> rfl
/-- One operation in the order of the text, what is kept told. -/
theorem evOD_wpT {C : Cx} {L : Nat → Loc} {st : St} {a : Act} {w : World} (hs : SimL C L st a w) {o : Oper} (hnd : ∀ c, o.op ≠ .defer c) (hd : dstOk C.N o.dst = true) {hn : List Nat} {K : Eff → Prop} (e : evOD C.P hn o st.ev st.h K) {next : Act → World → Prop} {Q : Exit → Act → World → Prop}
    (hnext : ∀ eff a' w' L', K eff → SimL C L' (st.put o.dst eff.1 eff.2) a' w' → After C L st.h w L' (st.put o.dst eff.1 eff.2).h w' → a'.defers = a.defers → next a' w') : o.wp C.P a w next Q := by
  have hs' := hs
  obtain ⟨hm, hN, ht⟩ := hs'
  have hplain : evO C.P hn o st.ev st.h K → o.wp C.P a w next Q := fun e =>
    evO_wp hm (fun _ _ h => h) (fun _ _ => rfl) (fun x _ => eval_rep ht x) e (fun eff u w' L' hk hA hv => hnext eff _ _ L' hk (hs.put hd hA hv) (by rw [put_h]; exact hA) (put_defers _ _ _))
  unfold evOD at e
  split at e
  · rename_i c hop
    exact absurd hop (hnd c)
  · rename_i op t x y t' hop
    split at e
    · rename_i hc
      simp only [Bool.and_eq_true, Bool.or_eq_true, beq_iff_eq] at hc
      obtain ⟨⟨⟨c1, c2⟩, c3⟩, c4⟩ := hc
      have hy := nilA_val c1 (eval_rep ht y)
      obtain ⟨ad, n, c, hx⟩ := nilOpen_sound hm (eval_rep ht x) c3
      obtain ⟨b, hb⟩ : ∃ b : Bool, (op = .eql ∧ b = ad.isNone) ∨ (op = .neq ∧ b = !ad.isNone) := by
        rcases c4 with c4 | c4
        · exact ⟨_, .inl ⟨c4, rfl⟩⟩
        · exact ⟨_, .inr ⟨c4, rfl⟩⟩
      have hrun : (execOp a.eval o).run C.P w = .ok (.value (.bool b)) w := by
        obtain ⟨dst, op', ty, pos, aft, g⟩ := o
        simp only at hop
        subst hop
        exact runPure_run (nil_run (sliceT_under c2) hx hy hb) w
      have hK : K (.pv (.val (.bool b)), []) := by cases b with
        | true => exact e.1
        | false => exact e.2
      unfold Oper.wp
      rw [hrun]
      exact hnext _ _ _ L hK (hs.put hd (W := []) (After.refl hm) (.pv (.val _))) (by rw [put_h]; exact After.refl hm) (put_defers _ _ _)
    · exact hplain e
  · exact hplain e
theorem evR_soundT {F : Fence} (hF : Wide F) {n : Nat} {C : Cx} {hn : List Nat} {ops : Array Oper} {Q : St → Prop} {Q' : Exit → Act → World → Prop} {L0 : Nat → Loc} {h0 : Hp} {w0 : World} {ds : List Deferred}
    (hQ : ∀ st L a w, SimL C L st a w → After C L0 h0 w0 L st.h w → a.defers = ds → Q st → Q' .normal a w) :
    ∀ {l : List Oper} {st : St} {L : Nat → Loc} {a : Act} {w : World}, (∀ o ∈ l, ∀ c, o.op ≠ .defer c) → SimL C L st a w → After C L0 h0 w0 L st.h w → a.defers = ds → evR C.P hn C.N ops Q l st → wpListIn F n C.P ops Q' l a w
  | [], st, L, a, w, _, hs, hA, hdd, e => hQ st L a w hs hA hdd e
  | o :: l, st, L, a, w, hnd, hs, hA, hdd, e => by
    have hs' := hs
    obtain ⟨hm, hN, ht⟩ := hs'
    simp only [evR] at e
    obtain ⟨hd, e⟩ := e
    have hnd' : ∀ o' ∈ l, ∀ c, o'.op ≠ .defer c := fun o' ho' => hnd o' (List.mem_cons_of_mem _ ho')
    have ho := hnd o List.mem_cons_self
    unfold wpListIn
    split at e
    · rename_i hg
      rw [guard_wanted ht (guardV_none hg), if_pos rfl]
      exact opIn_of hF ho (evOD_wpT hs ho hd e (fun eff a' w' L' hk hsim hA' hd' => evR_soundT hF hQ hnd' hsim (hA.trans hA') (hd'.trans hdd) hk))
    · rename_i d b want hg
      rw [guard_wanted ht (guardV_some hg)]
      unfold evB at e
      simp only at e
      split at e
      · rename_i hgt
        subst hgt
        rw [if_pos (by simp)]
        exact opIn_of hF ho (evOD_wpT hs ho hd e (fun eff a' w' L' hk hsim hA' hd' => evR_soundT hF hQ hnd' hsim (hA.trans hA') (hd'.trans hdd) hk))
      · rename_i hgt
        rw [if_neg (by simpa using hgt)]
        exact ⟨fun f _ => hF.fn f, evR_soundT hF hQ hnd' (hs.put hd (W := []) (After.refl hm) (.pv (.val _))) (by rw [put_h]; exact hA) ((put_defers _ _ _).trans hdd) e⟩
    · exact e.elim
/-- The walk of code in a fence, what is kept told. -/
def WPT (F : Fence) (C : Cx) (c : Code) (Q : Exit → St → Prop) (st : St) : Prop :=
  ∀ n L a w, SimL C L st a w → c.wpIn F n C.P (fun e a' w' => ∃ st' L', SimL C L' st' a' w' ∧ After C L st.h w L' st'.h w' ∧ a'.defers = a.defers ∧ Q e st') a w
section
variable {F : Fence} {C : Cx} {Q : Exit → St → Prop} {st : St}
theorem WPT.region (hF : Wide F) {hn : List Nat} {id : Nat} {ops : Array Oper} (hnd : noDefer ops = true) (h : evR C.P hn C.N ops (Q .normal) ops.toList st) : WPT F C (.region id ops false) Q st :=
  fun _ _ _ _ hs => wpIn_region_list (evR_soundT hF (fun st' L' _ _ hs' hA hd hq => ⟨st', L', hs', hA, hd, hq⟩) (fun _ ho => noDefer_of hnd ho) hs (After.refl hs.1) rfl h)
def ThenT (F : Fence) (C : Cx) (y : Code) (Q : Exit → St → Prop) : Exit → St → Prop
  | .normal, st => WPT F C y Q st
  | e, st => Q e st
theorem WPT.seq {x y : Code} (h : WPT F C x (ThenT F C y Q) st) : WPT F C (.seq x y) Q st := by
  intro n L a w hs
  refine wpIn_seq (wpIn_mono (h n L a w hs) ?_)
  rintro e a' w' ⟨st', L', hs', hA, hd, hq⟩
  cases e with
  | normal => exact wpIn_mono (hq n L' a' w' hs') (fun e a2 w2 ⟨st2, L2, hs2, hA2, hd2, hq2⟩ => ⟨st2, L2, hs2, hA.trans hA2, hd2.trans hd, hq2⟩)
  | _ => exact ⟨st', L', hs', hA, hd, hq⟩
theorem WPT.skip (h : Q .normal st) : WPT F C .skip Q st := fun _ L _ _ hs => wpIn_skip ⟨st, L, hs, After.refl hs.1, rfl, h⟩
theorem WPT.ret (h : Q .ret st) : WPT F C .ret Q st := fun _ L _ _ hs => wpIn_ret ⟨st, L, hs, After.refl hs.1, rfl, h⟩
theorem WPT.exit {id : Nat} (h : Q (.exit id) st) : WPT F C (.exit id) Q st := fun _ L _ _ hs => wpIn_exit ⟨st, L, hs, After.refl hs.1, rfl, h⟩
theorem WPT.cond {c : Operand} {x y : Code} {b : Bool} (hc : st.ev c = .pv (.val (.bool b))) (ht : b = true → WPT F C x Q st) (hf : b = false → WPT F C y Q st) : WPT F C (.cond c x y) Q st := by
  intro n L a w hs
  have hc' : a.eval c = .bool b := by
    have := eval_rep hs.2.2 c
    rw [hc] at this
    cases this with
    | pv hr => exact rep_val_inv hr
  exact wpIn_cond_split hc' (fun e => ht e n L a w hs) (fun e => hf e n L a w hs)
theorem WPT.block {id : Nat} {c : Code} (h : WPT F C c (InBlk id Q) st) : WPT F C (.block id c) Q st := by
  intro n L a w hs
  refine wpIn_block (wpIn_mono (h n L a w hs) ?_)
  rintro e a' w' ⟨st', L', hs', hA, hd, hq⟩
  cases e with
  | exit i =>
    simp only [InBlk, Exit.inBlock] at hq ⊢
    split
    · rename_i e; rw [if_pos e] at hq; exact ⟨st', L', hs', hA, hd, hq⟩
    · rename_i e; rw [if_neg e] at hq; exact ⟨st', L', hs', hA, hd, hq⟩
  | _ => exact ⟨st', L', hs', hA, hd, hq⟩
theorem WPT.mono {c : Code} {Q' : Exit → St → Prop} (h : WPT F C c Q st) (hq : ∀ e st, Q e st → Q' e st) : WPT F C c Q' st :=
  fun n L a w hs => wpIn_mono (h n L a w hs) (fun e _ _ ⟨st', L', hs', hA, hd, hq'⟩ => ⟨st', L', hs', hA, hd, hq e st' hq'⟩)
end
end Go.Ab

/- Ranges over a function: the law. -/
namespace Go.Ab

theorem cell_ne {w : World} {l b o : Nat} {ob : Obj} {v : Value} (hl : w.heap[l]? = some ob) (hc : ob.isCells = false) (h : w.cell? ⟨b, o, none⟩ = some v) : b ≠ l := by
  intro e
  subst e
  obtain ⟨o', h1, h2⟩ := cells_of_cell h
  simp only at h1
  rw [hl] at h1; injection h1 with h1; subst h1
  rw [hc] at h2; cases h2
theorem blk_ne {w : World} {M : Nat → Nat → Prop} {L : Nat → Loc} {h : Hp} {loc : Loc} {blk : Blk} (hb : BlkRel w M L h loc blk) (hl : blk.live loc) {l : Nat} {ob : Obj} (hw : w.heap[l]? = some ob) (hc : ob.isCells = false) : loc.b ≠ l := by
  intro e
  subst e
  cases blk with
  | box cs own fz => obtain ⟨arr, ty, e, _⟩ := hb; rw [hw] at e; injection e with e; subst e; cases hc
  | row e sz xs fz => obtain ⟨_, _, _, _, h5⟩ := hb; obtain ⟨_, _, arr, e, _⟩ := h5 hl; rw [hw] at e; injection e with e; subst e; cases hc
/-- A block that holds no cells is turned. -/
theorem MemL.turn {C : Cx} {L : Nat → Loc} {h : Hp} {w : World} (hm : MemL C L h w) {l : Nat} {ob : Obj} (hl : C.w0.heap[l]? = some ob) (hS : ¬ C.S l) (hc : ob.isCells = false) (ob' : Obj) :
    MemL { C with w0 := C.w0.putObj l ob' } L h (w.putObj l ob') ∧ Pres w (Mst C L h) (w.putObj l ob') (Mst C L h) := by
  have hlt : l < C.w0.heap.size := (Array.getElem?_eq_some_iff.1 hl).1
  have hw : w.heap[l]? = some ob := (hm.ext.block l hlt hS).trans hl
  have hlt' : l < w.heap.size := (Array.getElem?_eq_some_iff.1 hw).1
  have hpres : Pres w (Mst C L h) (w.putObj l ob') (Mst C L h) := fun b o v hv hn => ⟨(World.cell?_of_block (World.putObj_heap_other (cell_ne hw hc hv))).trans hv, hn⟩
  refine ⟨⟨⟨hm.ext.os, hm.ext.tape, hm.ext.output, by simpa using hm.ext.size, fun b hb hs => ?_⟩, fun b o hb => by simpa using hm.m0 b o hb, fun k blk hk => (hm.bl k blk hk).mono hpres (KC.refl _ _) (fun hlv => World.putObj_heap_other (blk_ne (hm.bl k blk hk) hlv hw hc)), hm.sep, fun k blk hk => ?_⟩, hpres⟩
  · by_cases e : b = l
    · subst e
      rw [World.putObj_heap_same hlt', World.putObj_heap_same hlt]
    · rw [World.putObj_heap_other e, World.putObj_heap_other e]
      exact hm.ext.block b (by simpa using hb) hs
  · have := hm.own k blk hk
    cases blk with
    | box cs own fz => cases own with
      | true => simpa [OwnOk] using this
      | false => simpa [OwnOk] using this
    | row e sz xs fz => simpa [OwnOk] using this

theorem putObj_self {w : World} {l : Nat} {o : Obj} (h : w.heap[l]? = some o) : w.putObj l o = w := by
  have : w.heap.setIfInBounds l o = w.heap := by
    apply Array.ext_getElem?
    intro i
    rw [Array.getElem?_setIfInBounds]
    by_cases e : l = i
    · subst e
      rw [if_pos rfl, if_pos (Array.getElem?_eq_some_iff.1 h).1, h]
    · rw [if_neg e]
  show { w with heap := w.heap.setIfInBounds l o } = w
  rw [this]
theorem putObj_putObj (w : World) (l : Nat) (o o' : Obj) : (w.putObj l o).putObj l o' = w.putObj l o' := by
  show { w with heap := (w.heap.setIfInBounds l o).setIfInBounds l o' } = { w with heap := w.heap.setIfInBounds l o' }
  congr 1
  apply Array.ext_getElem?
  intro i
  simp only [Array.getElem?_setIfInBounds, Array.size_setIfInBounds]
  by_cases e : l = i
  · subst e; simp
  · simp [e]
theorem getD_set {tm : Array Value} {d : Nat} {u : Value} (hd : d < tm.size) (n : Nat) : (tm.setIfInBounds d u).getD n undef = if n = d then u else tm.getD n undef := by
  simp only [Array.getD_eq_getD_getElem?]
  by_cases e : n = d
  · subst e; simp [hd]
  · rw [if_neg e, Array.getElem?_setIfInBounds_ne (by omega)]
theorem boxRel_lt {w : World} {M : Nat → Nat → Prop} {b : Nat} {ps : List PV} (h : BoxRel w M b ps) : b < w.heap.size := by
  obtain ⟨arr, ty, e, _⟩ := h
  exact (Array.getElem?_eq_some_iff.1 e).1
/-- The contract of an iterator of two values: it hands over these, in turn, and returns. -/
def IterC (P : Program) (gf : FuncId) (caps : List PV) (xs : List (PV × PV)) : Prop :=
  callable P gf = true ∧ ∀ (n l : Nat) (lb : List Value) (W : World) (M : Nat → Nat → Prop) (J : Nat → (Nat → Nat → Prop) → World → Prop),
    (∀ i M W, J i M W → ∀ b o, M b o → b < W.heap.size) → (∀ i M W W', J i M W → Ext (fun _ => False) W W' → J i M W') →
    (∀ m i x M W v1 v2, xs[i]? = some x → J i M W → Rep W M x.1 v1 → Rep W M x.2 v2 → YieldAt Fence.wide m P l #[v1, v2] W fun e W' => e = .returned (.bool true) ∧ ∃ M', J (i + 1) M' W' ∧ Pres W M W' M') →
    J 0 M W → RepL W M caps lb → CallsIn Fence.wide n P gf (#[.func (.yield l) #[] #[]] ++ lb.toArray) W fun e W' => (∃ v, e = .returned v) ∧ ∃ M', J xs.length M' W'

/-- The state that a range's rounds begin with. -/
def handH (ks : List Nat) (hin : Nat → List PV) : Hp := fun k => if ks.contains k = true then some (.box ((hin k).map .pv) false false) else none
def setP (t : Nat → AV) (p q : Nat) (x : PV × PV) : Nat → AV := upd (upd t p (.pv x.1)) q (.pv x.2)

theorem range_wp {P : Program} {N : Nat} {gop : Operand} {p q : Nat} {assign body : Code} {a : Act} {w : World} {n : Nat} {gf : FuncId} {lb : List Value} (hg : a.eval gop = .func (.func gf) #[] lb.toArray)
    {caps : List PV} {xs : List (PV × PV)} (hit : IterC P gf caps xs) {M : Nat → Nat → Prop} (hM : ∀ b o, M b o → b < w.heap.size) (hcap : RepL w M caps lb)
    {ks : List Nat} {bs : Nat → Nat} {hin : Nat → List PV} (hbs : ∀ k ∈ ks, (∀ o, M (bs k) o) ∧ BoxRel w M (bs k) (hin k)) (hinj : ∀ k ∈ ks, ∀ k' ∈ ks, k ≠ k' → bs k ≠ bs k')
    (hN : a.tmps.size = N) (hp : p < N) (hq : q < N) {t : Nat → AV} (ht : ∀ m, (∃ k ∈ ks, t m = .ptr k 0 ∧ a.tmps.getD m undef = .pointer (some ⟨bs k, 0, none⟩)) ∨ t m = .undef)
    (I : Nat → Hp → Prop) (h0 : I 0 (handH ks hin)) (hI : ∀ i h k, k ∈ ks → I i h → ∃ cs, h k = some (.box cs false false))
    (hround : ∀ (C C' : Cx) (l i : Nat) (x : PV × PV) (h : Hp), C.P = P → C.N = N → C'.P = P → C'.N = N → xs[i]? = some x → I i h →
      WPT (Fence.wide.inRound l) C assign (fun e st' => e = .normal ∧ WPT (Fence.wide.inRound l) C' body (fun e' st'' => e' = .normal ∧ I (i + 1) st''.h) st') ⟨setP t p q x, h⟩) :
    (Code.rangeFunc gop #[p, q] assign body).wpIn Fence.wide n P (fun e a' w' => e = .normal ∧ ∃ (C : Cx) (L : Nat → Loc) (h : Hp) (D : Nat), C.P = P ∧ C.N = N ∧ C.M0 = M ∧ (∀ b, C.S b → ∃ k ∈ ks, b = bs k) ∧
      MemL C L h w' ∧ I xs.length h ∧ (∀ k ∈ ks, (L k).b = bs k) ∧ Ext (fun _ => False) w C.w0 ∧ C.w0.heap[D]? = some (.deferred (some [])) ∧ ¬ C.S D ∧ w.heap.size ≤ D ∧ a' = { a with defers := { target := .collected D, args := #[] } :: a.defers }) a w := by
  refine wpIn_rangeFunc ?_
  intro fn _
  obtain ⟨rec, hrec⟩ : ∃ rec : LoopState → Option Code → Loop, rec = fun st pe => { state := st, pending := pe, fn, tmps := a.tmps, params := #[p, q], assign, body, defers := w.heap.size } := ⟨_, rfl⟩
  obtain ⟨W1, hW1⟩ : ∃ W1, (w.alloc (.deferred (some []))).alloc (.loop (rec .ready none)) = W1 := ⟨_, rfl⟩
  have hx1 : Ext (fun _ => False) w W1 := by rw [← hW1]; exact (Ext.alloc _ _ _).trans (Ext.alloc _ _ _) (fun _ _ h => h)
  have hs1 : W1.heap.size = w.heap.size + 2 := by rw [← hW1]; simp
  have hL1 : W1.heap[w.heap.size + 1]? = some (.loop (rec .ready none)) := by
    rw [← hW1]; have := World.alloc_heap_new (w.alloc (.deferred (some []))) (.loop (rec .ready none)); rwa [World.size_alloc] at this
  have hD1 : W1.heap[w.heap.size]? = some (.deferred (some [])) := by
    rw [← hW1]; exact (RowKit.Below.heap_alloc _ _ _ (by simp)).trans (World.alloc_heap_new w _)
  obtain ⟨l, hl⟩ : ∃ l, l = w.heap.size + 1 := ⟨_, rfl⟩
  rw [← hl] at hL1
  obtain ⟨cx, hcx⟩ : ∃ cx : Obj → Cx, cx = fun o => ⟨P, N, M, fun b => ∃ k ∈ ks, b = bs k, fun k => if ks.contains k = true then some (bs k) else none, W1.putObj l o⟩ := ⟨_, rfl⟩
  have hS : ∀ o b, (cx o).S b → b < w.heap.size := by
    intro o b hb
    rw [hcx] at hb
    obtain ⟨k, hk, rfl⟩ := hb
    exact boxRel_lt (hbs k hk).2
  have hw0 : ∀ o, (cx o).w0 = W1.putObj l o := fun o => by rw [hcx]
  have hMst : ∀ o o' L h, Mst (cx o) L h = Mst (cx o') L h := fun o o' L h => by rw [hcx]; rfl
  have hat : ∀ (o : Obj), (cx o).w0.heap[l]? = some o := fun o => by rw [hw0]; exact World.putObj_heap_same (Array.getElem?_eq_some_iff.1 hL1).1
  have hnS : ∀ o, ¬ (cx o).S l := fun o h => by have := hS o l h; omega
  have hturn : ∀ {o o' : Obj} {L : Nat → Loc} {h : Hp} {W : World}, o.isCells = false → MemL (cx o) L h W → W.heap[l]? = some o ∧ MemL (cx o') L h (W.putObj l o') ∧ Pres W (Mst (cx o) L h) (W.putObj l o') (Mst (cx o') L h) := by
    intro o o' L h W ho hm
    have hlt : l < (cx o).w0.heap.size := (Array.getElem?_eq_some_iff.1 (hat o)).1
    obtain ⟨h1, h2⟩ := hm.turn (hat o) (hnS o) ho o'
    refine ⟨(hm.ext.block l hlt (hnS o)).trans (hat o), ?_, ?_⟩
    · have e : ({ cx o with w0 := (cx o).w0.putObj l o' } : Cx) = cx o' := by rw [hcx]; simp only [putObj_putObj]
      rw [e] at h1; exact h1
    · rw [hMst o' o]; exact h2
  have hready : W1.putObj l (.loop (rec .ready none)) = W1 := putObj_self hL1
  have hown : ∀ {o : Obj} {L : Nat → Loc} {h : Hp} {W : World} {i k : Nat}, k ∈ ks → I i h → MemL (cx o) L h W → (L k).b = bs k := by
    intro o L h W i k hk hi hm
    obtain ⟨cs, hc⟩ := hI i h k hk hi
    have := (hm.own k _ hc).2.1
    rw [hcx] at this
    have hc' : ks.contains k = true := by simpa using hk
    simp only [hc', if_true, Option.some.injEq] at this
    exact this.symm
  -- the beginning
  let L0 : Nat → Loc := fun k => ⟨bs k, 0, false⟩
  have hkey : ∀ k blk, handH ks hin k = some blk → k ∈ ks ∧ blk = .box ((hin k).map .pv) false false := by
    intro k blk hk
    unfold handH at hk
    split at hk
    · rename_i hc; injection hk with hk; exact ⟨by simpa using hc, hk.symm⟩
    · cases hk
  have hM1 : ∀ o b o', Mst (cx o) L0 (handH ks hin) b o' → M b o' := by
    rintro o b o' (hb | ⟨k, blk, hk, _, hb, _⟩)
    · rw [hcx] at hb; exact hb
    · obtain ⟨hks, _⟩ := hkey k blk hk
      rw [← hb]; exact (hbs k hks).1 o'
  have hpres1 : Pres w M W1 (Mst (cx (.loop (rec .ready none))) L0 (handH ks hin)) := fun b o v hv hn => ⟨(hx1.cell (cell_lt hv) (fun h => h)).trans hv, fun h => hn (hM1 _ b o h)⟩
  have hm0 : MemL (cx (.loop (rec .ready none))) L0 (handH ks hin) W1 := by
    refine ⟨by rw [hw0, hready]; exact Ext.refl _ _, ?_, ?_, ?_, ?_⟩
    · intro b o hb
      rw [hw0, hready]
      rw [hcx] at hb
      have := hM b o hb
      omega
    · intro k blk hk
      obtain ⟨hks, rfl⟩ := hkey k blk hk
      obtain ⟨arr, ty, e1, e2⟩ := (hbs k hks).2
      exact ⟨arr, ty, (hx1.block _ (boxRel_lt (hbs k hks).2) (fun h => h)).trans e1, RepAL.map_pv (e2.mono hpres1)⟩
    · intro k k' b1 b2 hne hk hk' _ _
      exact hinj k (hkey k b1 hk).1 k' (hkey k' b2 hk').1 hne
    · intro k blk hk
      obtain ⟨hks, rfl⟩ := hkey k blk hk
      have hc' : ks.contains k = true := by simpa using hks
      refine ⟨rfl, ?_, ?_, ?_, ?_⟩
      · rw [hcx]; simp only [hc', if_true]; rfl
      · rw [hcx]; exact ⟨k, hks, rfl⟩
      · rw [hw0, hready]; have := boxRel_lt (hbs k hks).2; show bs k < _; omega
      · intro o; rw [hcx]; exact (hbs k hks).1 o
  refine ⟨l, [{ target := .collected w.heap.size, args := #[] }], W1, { target := .fn (.func gf) lb.toArray, args := #[.func (.yield l) #[] #[]] }, W1, gf, #[.func (.yield l) #[] #[]] ++ lb.toArray, W1, ?_, ?_, fun _ _ => trivial, invoke_fn hit.1 _ _ _, fun h => (by cases h), ?_⟩
  · rw [← hW1, hrec, hl]; exact run_enterLoop_outer _ _ _ _ _
  · simp only [resolve, hg]
    simp [go_sem]
  · refine (hit.2 (n - 1) l lb W1 _ (fun i M' W => ∃ L h, I i h ∧ MemL (cx (.loop (rec .ready none))) L h W ∧ M' = Mst (cx (.loop (rec .ready none))) L h) ?_ ?_ ?_ ⟨L0, _, h0, hm0, rfl⟩ (hcap.mono hpres1)).mono ?_
    · rintro i M' W ⟨L, h, _, hm, rfl⟩ b o hb
      exact hm.mlt hb
    · rintro i M' W W' ⟨L, h, hi, hm, rfl⟩ hx
      exact ⟨L, h, hi, (hm.grow hx).1, rfl⟩
    · -- a round
      rintro m i x M' W v1 v2 hxi ⟨L, h, hi, hm, rfl⟩ hr1 hr2
      obtain ⟨hlW, _, _⟩ := hturn (o' := .loop (rec .ready none)) rfl hm
      have hy := run_yield (P := P) (args := #[v1, v2]) hlW (by rw [hrec]; rfl)
      rw [hrec] at hy
      refine ⟨fn, (a.tmps.setIfInBounds p v1).setIfInBounds q v2, assign, body, by simpa using hy, roundIn_of_wpIn trivial ?_⟩
      have hsim : SimL (cx (.loop (rec .ready none))) L ⟨setP t p q x, h⟩ { tmps := (a.tmps.setIfInBounds p v1).setIfInBounds q v2, defers := [] } W := by
        refine ⟨hm, by rw [hcx]; simpa using hN, fun k => ?_⟩
        have hq' : q < (a.tmps.setIfInBounds p v1).size := by rw [Array.size_setIfInBounds, hN]; exact hq
        have hp' : p < a.tmps.size := by rw [hN]; exact hp
        simp only [getD_set hq', getD_set hp', setP, upd]
        split
        · exact .pv hr2
        · split
          · exact .pv hr1
          · rcases ht k with ⟨k', hk', e1, e2⟩ | e1
            · obtain ⟨cs, hc⟩ := hI i h k' hk' hi
              rw [e1, e2, ← hown hk' hi hm]
              exact .ptr hc
            · rw [e1]; exact .undef _
      have hP1 : (cx (.loop (rec .ready none))).P = P := by rw [hcx]
      have hP2 : (cx (.loop (rec .busy none))).P = P := by rw [hcx]
      have hR := hround (cx (.loop (rec .ready none))) (cx (.loop (rec .busy none))) l i x h hP1 (by rw [hcx]) hP2 (by rw [hcx]) hxi hi m L _ W hsim
      rw [hP1] at hR
      refine wpIn_mono hR ?_
      rintro e a1 w1 ⟨st1, L1, hs1', hA1, _, rfl, hbody⟩
      obtain ⟨hl1, hmb, hpb⟩ := hturn (o' := .loop (rec .busy none)) rfl hs1'.1
      refine ⟨w1.putObj l (.loop (rec .busy none)), ?_, ?_⟩
      · have := run_beginRound (P := P) hl1 (by rw [hrec])
        rw [hrec] at this ⊢; exact this
      have hsb : SimL (cx (.loop (rec .busy none))) L1 st1 a1 (w1.putObj l (.loop (rec .busy none))) := ⟨hmb, by have := hs1'.2.1; rw [hcx] at this ⊢; exact this, fun k => (hs1'.2.2 k).mono hpb (KC.refl _ _)⟩
      have hB := hbody m L1 a1 _ hsb
      rw [hP2] at hB
      refine wpIn_mono hB ?_
      rintro e2 a2 w2 ⟨st2, L2, hs2, hA2, _, rfl, hi2⟩
      obtain ⟨hl2, hmr, hpr⟩ := hturn (o' := .loop (rec .ready none)) rfl hs2.1
      refine ⟨_, _, run_endRound none hl2, rfl, _, ⟨L2, st2.h, hi2, ?_, rfl⟩, ?_⟩
      · have e : (Obj.loop { rec .busy none with state := if (none : Option Code).isNone = true then .ready else .done, pending := none }) = .loop (rec .ready none) := by rw [hrec]; rfl
        rw [e]; exact hmr
      · have e : (Obj.loop { rec .busy none with state := if (none : Option Code).isNone = true then .ready else .done, pending := none }) = .loop (rec .ready none) := by rw [hrec]; rfl
        rw [e]
        exact ((hA1.2.1.trans hpb).trans hA2.2.1).trans hpr
    · -- the end
      rintro e W2 ⟨⟨v, rfl⟩, M', L, h, hi, hm, _⟩
      obtain ⟨hl2, hme, _⟩ := hturn (o' := .loop (rec .exhausted none)) rfl hm
      refine ⟨none, W2.putObj l (.loop (rec .exhausted none)), ?_, rfl, cx (.loop (rec .exhausted none)), L, h, w.heap.size, by rw [hcx], by rw [hcx], by rw [hcx], ?_, hme, hi, fun k hk => hown hk hi hm, ?_, ?_, ?_, Nat.le_refl _, rfl⟩
      · have := run_endLoop (P := P) hl2 (by rw [hrec]; simp)
        rw [hrec] at this ⊢; exact this
      · intro b hb
        rw [hcx] at hb; exact hb
      · rw [hw0]
        refine ⟨hx1.os, hx1.tape, hx1.output, by simp; omega, fun b hb _ => ?_⟩
        rw [World.putObj_heap_other (by omega)]
        exact hx1.block b hb (fun h => h)
      · rw [hw0, World.putObj_heap_other (by omega)]; exact hD1
      · intro hb
        have := hS _ _ hb
        omega
end Go.Ab

/- Functions with a range over a function: their contracts. -/
namespace Go.Ab

/-- A deferred function that does nothing where the frame returns, in the widest fence. -/
def QuietIn (P : Program) (g : FuncId) : Prop := callable P g = true ∧ ∀ (n : Nat) (args : Array Value) (w : World), CallsDIn Fence.wide n P g args .returning w fun e u' w' => u' = .returning ∧ (∃ v, e = .returned v) ∧ w' = w
def QuietA (P : Program) (ds : List Deferred) : Prop := ∀ d ∈ ds, ∃ g cap, d.target = .fn (.func g) cap ∧ QuietIn P g
theorem leaves_in {n : Nat} {P : Program} {fn : Func} {tmps : Array Value} {R : Ending → World → Prop} {w : World} {v : Value} : ∀ {ds : List Deferred}, QuietA P ds → (results fn tmps).run P w = .ok v w → R (.returned v) w → LeavesInM Fence.wide n P fn tmps R ds .returning w
  | [], _, hr, hR => ⟨v, hr, hR⟩
  | d :: ds, hq, hr, hR => by
    obtain ⟨g, cap, ht, hg⟩ := hq d (by simp)
    refine ⟨by simp, .inr ⟨fun h => (by cases h), .func g, cap, g, d.args ++ cap, ht, by rw [ht]; exact invoke_fn hg.1 _ _ _, fun _ _ => trivial, (hg.2 _ _ w).mono ?_⟩⟩
    rintro e u' w' ⟨rfl, ⟨v', rfl⟩, rfl⟩
    exact leaves_in (fun d hd => hq d (by simp [hd])) hr hR
def Rres (C : Cx) (res : PV) : Ending → World → Prop := fun e w' => ∃ v, e = .returned v ∧ Ext (fun _ => False) C.w0 w' ∧ Rep w' C.M0 res v
/-- What is returned. -/
theorem ret_run {C : Cx} {L : Nat → Loc} {st : St} {a : Act} {w : World} (hs : SimL C L st a w) {fn : Func} {res : PV} (hr : RetOk C.P fn.results.toList [] (.pv res) st) : ∃ u, (results fn a.tmps).run C.P w = .ok u w ∧ Rep w C.M0 res u := by
  obtain ⟨r, h1, _, W, hW⟩ := hr
  obtain ⟨u, hu1, hu2⟩ := resVal_run (C := C) hs.1 hs.2.2 h1
  obtain ⟨b1, b2, _⟩ := frz_sound hs.1 (Froz.refl _) hu2 hW
  exact ⟨u, hu1, b2.mono (Pres.sub (fun b o h => .inl h))⟩
theorem wpListIn_append {F : Fence} {n : Nat} {P : Program} {ops : Array Oper} {Q : Exit → Act → World → Prop} (l2 : List Oper) : ∀ {l1 : List Oper} {a : Act} {w : World},
    wpListIn F n P ops (Exit.then (wpListIn F n P ops Q l2) Q) l1 a w → wpListIn F n P ops Q (l1 ++ l2) a w
  | [], a, w, h => h
  | o :: l1, a, w, h => by
    rw [List.cons_append]
    unfold wpListIn at h ⊢
    split
    · rename_i hw
      rw [if_pos hw] at h
      refine ⟨h.1, ?_⟩
      have h2 := h.2
      generalize (o.semAt F.round a.eval).run P w = r at h2 ⊢
      unfold Oper.uponIn at h2 ⊢
      split <;> simp only at h2 ⊢
      · exact wpListIn_append l2 h2
      · exact wpListIn_append l2 h2
      · exact wpListIn_append l2 h2
      · refine ⟨h2.1, h2.2.mono ?_⟩
        intro e w' he
        cases e with
        | returned v => exact wpListIn_append l2 he
        | panicked ch => exact he
        | outgrown => exact he
      · exact ⟨h2.1, h2.2.mono fun v w' he => wpListIn_append l2 he⟩
      · refine ⟨h2.1, h2.2.mono ?_⟩
        intro e w' he
        cases e with
        | returned v => exact wpListIn_append l2 he
        | panicked ch => exact he
        | outgrown => exact he
      · exact h2
    · rename_i hw
      rw [if_neg hw] at h
      exact ⟨h.1, wpListIn_append l2 h.2⟩
/-- The rest of a function, up to its leaving. -/
def WPF (C : Cx) (fn : Func) (res : PV) (c : Code) (st : St) : Prop :=
  ∀ n L a w, SimL C L st a w → QuietA C.P a.defers → c.wpIn Fence.wide n C.P (bodyPostM Fence.wide n C.P fn (Rres C res)) a w
section
variable {C : Cx} {fn : Func} {res : PV} {st : St}
theorem ext_none {S : Nat → Prop} (hS : ∀ b, ¬ S b) {w w' : World} (h : Ext S w w') : Ext (fun _ => False) w w' := ⟨h.os, h.tape, h.output, h.size, fun b hb _ => h.block b hb (hS b)⟩
def SeqF (C : Cx) (fn : Func) (res : PV) (y : Code) : Exit → St → Prop
  | .normal, st => WPF C fn res y st
  | .ret, st => RetOk C.P fn.results.toList [] (.pv res) st
  | _, _ => False
theorem WPF.seq (hCS : ∀ b, ¬ C.S b) {x y : Code} (h : WPT Fence.wide C x (SeqF C fn res y) st) : WPF C fn res (.seq x y) st := by
  intro n L a w hs hq
  refine wpIn_seq (wpIn_mono (h n L a w hs) ?_)
  rintro e a' w' ⟨st', L', hs', hA, hd, hq'⟩
  cases e with
  | normal => exact hq' n L' a' w' hs' (by rw [hd]; exact hq)
  | ret =>
    obtain ⟨u, h1, h2⟩ := ret_run hs' hq'
    exact leaves_in (by rw [hd]; exact hq) h1 ⟨u, rfl, ext_none hCS hs'.1.ext, h2⟩
  | exit => exact hq'.elim
  | goto => exact hq'.elim
  | panic => exact hq'.elim
  | outgrown => exact hq'.elim
theorem opIn_wide {n : Nat} {P : Program} {o : Oper} {a : Act} {w : World} {next : Act → World → Prop} {Q : Exit → Act → World → Prop} (h : o.wp P a w next Q) : o.wpIn Fence.wide n P a w next Q := by
  refine ⟨fun f _ => trivial, ?_⟩
  show o.uponIn Fence.wide n P a next Q ((o.semAt none a.eval).run P w)
  rw [Oper.semAt_none]
  unfold Oper.wp at h
  cases hx : (execOp a.eval o).run P w with
  | ok nx w' =>
    rw [hx] at h
    cases nx with
    | value v => exact h
    | skip => exact h
    | defer d => exact h
    | enter f args => exact ⟨fun hs => (by cases hs), wide_wide.calls h⟩
    | row r args => exact ⟨fun hs => (by cases hs), wide_wide.rows h⟩
    | _ => exact h.elim
  | halt k w' =>
    rw [hx] at h
    cases k with
    | panic v => exact h
    | _ => exact h.elim
/-- A deferred call, the last in its region. -/
theorem WPF.defer {id : Nat} {ops : Array Oper} {pre : List Oper} {o : Oper} {c : Call} {y : Code} {f : Operand} {g : FuncId} {hn : List Nat} (hops : ops.toList = pre ++ [o]) (hnd : ∀ o ∈ pre, ∀ c, o.op ≠ .defer c) (ho : o.op = .defer c) (hg0 : o.guard = none) (hd : o.dst = none) (hf : c.callee = .value f) (h0 : c.args.size = 0) (hq : QuietIn C.P g)
    (h : evR C.P hn C.N ops (fun st' => (∃ first caps, st'.ev f = .fn (.func g) first caps) ∧ WPF C fn res y st') pre st) : WPF C fn res (.seq (.region id ops false) y) st := by
  intro n L a w hs hqa
  refine wpIn_seq (wpIn_region_list ?_)
  rw [hops]
  refine wpListIn_append _ (evR_soundT wide_wide (ds := a.defers) ?_ hnd hs (After.refl hs.1) rfl h)
  intro st1 L1 a1 w1 hs1 _ hd1 hq1
  obtain ⟨⟨first, caps, hv⟩, hy⟩ := hq1
  obtain ⟨vs, cs, hval⟩ := fn_inv (by have := eval_rep hs1.2.2 f; rw [hv] at this; exact this)
  show wpListIn Fence.wide n C.P ops _ [o] a1 w1
  unfold wpListIn
  have hw : Region.wanted o (yielded ops a1.tmps) = true := by unfold Region.wanted; rw [hg0]
  rw [if_pos hw]
  refine opIn_wide (Oper.wp_defer ho hf h0 hval ?_)
  rw [hd]
  refine hy n L1 _ w1 ⟨hs1.1, hs1.2.1, hs1.2.2⟩ ?_
  intro d hd'
  rcases List.mem_cons.1 hd' with rfl | hd'
  · exact ⟨g, cs, rfl, hq⟩
  · rw [hd1] at hd'; exact hqa d hd'
theorem WPF.range (hCS : ∀ b, ¬ C.S b) {x assign body : Code} {gop : Operand} {p q b0 id : Nat} {ops : Array Oper} {gf : FuncId} {caps : List PV} {xs : List (PV × PV)} (hit : IterC C.P gf caps xs) (hp : p < C.N) (hq : q < C.N)
    {ks : List Nat} {hin : Nat → List PV} {t : Nat → AV}
    (hx : WPT Fence.wide C x (fun e st' => e = .normal ∧ st'.ev gop = .pv (.fn (.func gf) [] caps) ∧ (∀ k ∈ ks, st'.h k = some (.box ((hin k).map .pv) true false)) ∧ ∀ m, (∃ k ∈ ks, t m = .ptr k 0 ∧ st'.t m = .ptr k 0) ∨ t m = .undef) st)
    (I : Nat → Hp → Prop) (h0 : I 0 (handH ks hin)) (hI : ∀ i h k, k ∈ ks → I i h → ∃ cs, h k = some (.box cs false false))
    (hround : ∀ (C1 C2 : Cx) (l i : Nat) (x : PV × PV) (h : Hp), C1.P = C.P → C1.N = C.N → C2.P = C.P → C2.N = C.N → xs[i]? = some x → I i h →
      WPT (Fence.wide.inRound l) C1 assign (fun e st' => e = .normal ∧ WPT (Fence.wide.inRound l) C2 body (fun e' st'' => e' = .normal ∧ I (i + 1) st''.h) st') ⟨setP t p q x, h⟩)
    (hnd : noDefer ops = true) {hn : List Nat} (htail : ∀ h, I xs.length h → evR C.P hn C.N ops (fun st' => RetOk C.P fn.results.toList [] (.pv res) st') ops.toList ⟨t, h⟩) :
    WPF C fn res (.seq (.seq x (.block b0 (.rangeFunc gop #[p, q] assign body))) (.seq (.region id ops false) .ret)) st := by
  intro n L a w hs hqa
  refine wpIn_seq (wpIn_seq (wpIn_mono (hx n L a w hs) ?_))
  rintro e a1 w1 ⟨st1, L1, hs1, hA1, hd1, rfl, hg, hks, htt⟩
  have hgr := eval_rep hs1.2.2 gop
  rw [hg] at hgr
  obtain ⟨us, hus, hcap⟩ : ∃ us : List Value, a1.eval gop = .func (.func gf) #[] us.toArray ∧ RepL w1 (Mst C L1 st1.h) caps us := by
    generalize a1.eval gop = u at hgr
    cases hgr with
    | pv hr =>
      cases hr with
      | fn _ _ _ vs us hl hk h1 h2 =>
        have : vs = [] := List.eq_nil_of_length_eq_zero hl.symm
        subst this
        exact ⟨us, rfl, hk, h2⟩
  have hbx : ∀ k ∈ ks, (∀ o, Mst C L1 st1.h (L1 k).b o) ∧ BoxRel w1 (Mst C L1 st1.h) (L1 k).b (hin k) := by
    intro k hk
    obtain ⟨arr, ty, e1, e2⟩ := hs1.1.bl k _ (hks k hk)
    exact ⟨fun o => .inr ⟨k, _, hks k hk, trivial, rfl, by simp [Blk.frz]⟩, arr, ty, e1, e2.map_pv_inv⟩
  refine wpIn_block (wpIn_mono (range_wp (N := C.N) hus hit (fun b o h => hs1.1.mlt h) hcap hbx (fun k hk k' hk' hne => hs1.1.sep k k' _ _ hne (hks k hk) (hks k' hk') trivial trivial) hs1.2.1 hp hq (t := t) ?_ I h0 hI hround) ?_)
  · intro m
    rcases htt m with ⟨k, hk, e1, e2⟩ | e
    · have hr := hs1.2.2 m
      rw [e2] at hr
      generalize hv : a1.tmps.getD m undef = v at hr
      cases hr with
      | ptr _ => exact .inl ⟨k, hk, e1, rfl⟩
    · exact .inr e
  rintro e a2 w2 ⟨rfl, C2, L2, h2, D, hP2, hN2, hM2, hS2, hm2, hi2, hb2, hx2, hD2, hnS2, hDge, rfl⟩
  show Code.wpIn Fence.wide n C.P _ _ _ w2
  have hs2 : SimL C2 L2 ⟨t, h2⟩ { a1 with defers := { target := .collected D, args := #[] } :: a1.defers } w2 := by
    refine ⟨hm2, by rw [hN2]; exact hs1.2.1, fun m => ?_⟩
    show RepA w2 (Mst C2 L2 h2) L2 h2 (t m) (a1.tmps.getD m undef)
    rcases htt m with ⟨k, hk, e1, e2⟩ | e
    · have hr := hs1.2.2 m
      rw [e2] at hr
      obtain ⟨cs, hc⟩ := hI _ h2 k hk hi2
      have hv : a1.tmps.getD m undef = .pointer (some ⟨(L1 k).b, 0, none⟩) := by
        generalize a1.tmps.getD m undef = v at hr
        cases hr with
        | ptr _ => rfl
      rw [e1, hv, ← hb2 k hk]
      exact .ptr hc
    · rw [e]; exact .undef _
  refine wpIn_seq (wpIn_region_list ?_)
  have htl := htail h2 hi2
  rw [← hP2, ← hN2] at htl
  rw [hP2] at htl
  have hgo := fun Q' hQ' => evR_soundT (C := C2) (Q := fun st' => RetOk C.P fn.results.toList [] (.pv res) st') (Q' := Q') (hn := hn) (ops := ops) wide_wide (n := n) hQ' (fun _ ho => noDefer_of hnd ho) hs2 (After.refl hs2.1) rfl (by rw [hP2]; exact htl)
  rw [hP2] at hgo
  refine hgo _ ?_
  intro st3 L3 a3 w3 hs3 _ hd3 hr3
  refine wpIn_ret ?_
  show LeavesInM Fence.wide n C.P fn a3.tmps (Rres C res) a3.defers .returning w3
  rw [hd3]
  have hDlt : D < C2.w0.heap.size := (Array.getElem?_eq_some_iff.1 hD2).1
  have hD3 : w3.heap[D]? = some (.deferred (some [])) := (hs3.1.ext.block D hDlt hnS2).trans hD2
  obtain ⟨hm4, hp4⟩ := hs3.1.turn hD2 hnS2 rfl (.deferred none)
  have hs4 : SimL { C2 with w0 := C2.w0.putObj D (.deferred none) } L3 st3 a3 (w3.putObj D (.deferred none)) := ⟨hm4, hs3.2.1, fun m => (hs3.2.2 m).mono hp4 (KC.refl _ _)⟩
  obtain ⟨u, hu1, hu2⟩ := ret_run hs4 (fn := fn) (res := res) (by show RetOk C2.P _ _ _ _; rw [hP2]; exact hr3)
  have hu1' : (results fn a3.tmps).run C.P (w3.putObj D (.deferred none)) = .ok u (w3.putObj D (.deferred none)) := by rw [← hP2]; exact hu1
  refine ⟨by simp, .inl ⟨D, _, rfl, run_takeDeferred hD3, leaves_in (by rw [hd1]; exact hqa) hu1' ⟨u, rfl, ?_, ?_⟩⟩⟩
  · -- what lay before lies as it lay
    have e1 : Ext (fun _ => False) C.w0 w1 := ext_none hCS hs1.1.ext
    have e2 : Ext (fun _ => False) C.w0 C2.w0 := e1.trans hx2 (fun _ _ h => h)
    have hle := e1.size
    refine ⟨?_, ?_, ?_, ?_, ?_⟩
    · show w3.os = _; rw [hs3.1.ext.os]; exact e2.os
    · show w3.tape = _; rw [hs3.1.ext.tape]; exact e2.tape
    · show w3.output = _; rw [hs3.1.ext.output]; exact e2.output
    · simp only [World.putObj_size]; exact Nat.le_trans e2.size hs3.1.ext.size
    · intro b hb _
      rw [World.putObj_heap_other (by omega)]
      rw [hs3.1.ext.block b (Nat.lt_of_lt_of_le hb e2.size) ?_]
      · exact e2.block b hb (fun h => h)
      · intro hSb
        obtain ⟨k, hk, rfl⟩ := hS2 b hSb
        have := hs1.1.own k _ (hks k hk)
        simp only [OwnOk] at this
        omega
  · refine hu2.mono (Pres.sub ?_)
    intro b o h
    show C2.M0 b o
    rw [hM2]; exact .inl h
end
/-- A function's contract. -/
theorem detF_of {P : Program} {f : FuncId} {fn : Func} {c : Code} (hf : P.funcs[f]? = some fn) (hb : fn.body = some c) (hcall : callable P f = true) {args : List PV} {res : PV} (hlen : args.length ≤ fn.ntmps)
    (h : ∀ C : Cx, C.P = P → C.N = fn.ntmps → (∀ b, ¬ C.S b) → WPF C fn res c (st0 (args.map .pv) [])) : DetH P f (args.map .pv) [] [] (.pv res) := by
  refine ⟨hcall, rfl, fun w M bs vs hM hbl hnd hbox hal harg => ?_⟩
  have hbs : bs = [] := List.eq_nil_of_length_eq_zero hbl
  subst hbs
  let C : Cx := { P := P, N := fn.ntmps, M0 := M, S := fun _ => False, pb := fun _ => none, w0 := w }
  have hnone : ∀ k, (st0 (args.map .pv) []).h k = none := by
    intro k
    simp only [st0, argH]
    split
    · rfl
    · simp
  have hal' : args.length = vs.length := by simpa using hal
  have hs : SimL C (fun _ => default) (st0 (args.map .pv) []) { tmps := vs.toArray ++ Array.replicate (fn.ntmps - vs.toArray.size) undef, defers := [] } w := by
    refine ⟨⟨Ext.refl _ _, hM, fun k blk hk => (by rw [hnone] at hk; cases hk), fun k k' b1 b2 _ hk => (by rw [hnone] at hk; cases hk), fun k blk hk => (by rw [hnone] at hk; cases hk)⟩, ?_, fun n => ?_⟩
    · show (vs.toArray ++ Array.replicate (fn.ntmps - vs.toArray.size) undef).size = fn.ntmps
      simp; omega
    · have hMst : ∀ b o, Mst C (fun _ => default) (st0 (args.map .pv) []).h b o → M b o := by
        rintro b o (h | ⟨k, blk, hk, _⟩)
        · exact h
        · rw [hnone] at hk; cases hk
      show RepA w _ _ _ (argT (args.map .pv) n) _
      simp only [argT]
      split
      · rename_i p hp
        have hlt : n < vs.length := by rw [← hal]; exact (List.getElem?_eq_some_iff.1 hp).1
        have hv := harg n (.pv p) vs[n] hp (List.getElem?_eq_getElem hlt)
        have hget : (vs.toArray ++ Array.replicate (fn.ntmps - vs.toArray.size) undef).getD n undef = vs[n] := by
          rw [Array.getD_eq_getD_getElem?, Array.getElem?_append_left (by simpa using hlt)]; simp [hlt]
        simp only [hget]
        have hv' : Rep w M p vs[n] := hv
        exact .pv (hv'.mono (Pres.sub hMst))
      · rename_i j hp
        rw [List.getElem?_map] at hp
        cases hq : args[n]? with
        | none => rw [hq] at hp; cases hp
        | some x => rw [hq] at hp; cases hp
      · exact .undef _
  refine (callsIn_wide (n := 0)).1 ((callsIn_of_wp_marks hf hb trivial (h C rfl rfl (fun _ h => h) 0 _ _ w hs (fun d hd => (by simp at hd))) rfl).mono ?_)
  rintro e w' ⟨v, rfl, hx, hr⟩
  exact ⟨v, rfl, ⟨hx.os, hx.tape, hx.output, hx.size, fun b hb _ => hx.block b hb (fun h => h)⟩, fun i b ps hb => (by simp at hb), hr⟩

/-! ### iterators -/
end Go.Ab

/- Iterators: walks between two rounds. -/
namespace Go.Ab

@[simp] theorem thenT_normal {F : Fence} {C : Cx} {y : Code} {Q : Exit → St → Prop} {st : St} : ThenT F C y Q .normal st = WPT F C y Q st := rfl
@[simp] theorem thenT_ret {F : Fence} {C : Cx} {y : Code} {Q : Exit → St → Prop} {st : St} : ThenT F C y Q .ret st = Q .ret st := rfl
@[simp] theorem thenT_exit {F : Fence} {C : Cx} {y : Code} {Q : Exit → St → Prop} {st : St} {i : Nat} : ThenT F C y Q (.exit i) st = Q (.exit i) st := rfl
@[simp] theorem seqF_normal {C : Cx} {fn : Func} {res : PV} {y : Code} {st : St} : SeqF C fn res y .normal st = WPF C fn res y st := rfl
@[simp] theorem seqF_ret {C : Cx} {fn : Func} {res : PV} {y : Code} {st : St} : SeqF C fn res y .ret st = RetOk C.P fn.results.toList [] (.pv res) st := rfl
section
variable {F : Fence} {C : Cx} {x y : Code} {Q : Exit → St → Prop} {st : St} {c : Operand}
def xCondT (F : Fence) (C : Cx) (x y : Code) (Q : Exit → St → Prop) (st : St) : AV → Prop
  | .pv (.val (.bool b)) => (b = true → WPT F C x Q st) ∧ (b = false → WPT F C y Q st)
  | _ => False
@[simp] theorem xCondT_true : xCondT F C x y Q st (.pv (.val (.bool true))) = WPT F C x Q st := by simp [xCondT]
@[simp] theorem xCondT_false : xCondT F C x y Q st (.pv (.val (.bool false))) = WPT F C y Q st := by simp [xCondT]
theorem xCondT_split {b : Bool} (h1 : b = true → WPT F C x Q st) (h2 : b = false → WPT F C y Q st) : xCondT F C x y Q st (.pv (.val (.bool b))) := ⟨h1, h2⟩
theorem WPT.cond' (h : xCondT F C x y Q st (st.ev c)) : WPT F C (.cond c x y) Q st := by
  cases hv : st.ev c with
  | pv p => cases p with
    | val v => cases v with
      | bool b => rw [hv] at h; exact WPT.cond hv h.1 h.2
      | _ => rw [hv] at h; exact h.elim
    | _ => rw [hv] at h; exact h.elim
  | _ => rw [hv] at h; exact h.elim
end
/-- The slots' contents, off M. -/
def Hold (N : Nat) (M : Nat → Nat → Prop) (t : Nat → AV) (a : Act) (w : World) : Prop := a.tmps.size = N ∧ ∀ m, t m = .undef ∨ ∃ p, t m = .pv p ∧ Rep w M p (a.tmps.getD m undef)
theorem Hold.sim {P : Program} {N : Nat} {M : Nat → Nat → Prop} {t : Nat → AV} {a : Act} {w : World} (h : Hold N M t a w) (hM : ∀ b o, M b o → b < w.heap.size) : SimL ⟨P, N, M, fun _ => False, fun _ => none, w⟩ (fun _ => default) ⟨t, fun _ => none⟩ a w := by
  refine ⟨⟨Ext.refl _ _, hM, fun k blk hk => (by cases hk), fun k k' b1 b2 _ hk => (by cases hk), fun k blk hk => (by cases hk)⟩, h.1, fun m => ?_⟩
  rcases h.2 m with e | ⟨p, e, hr⟩
  · show RepA w _ _ _ (t m) _
    rw [e]; exact .undef _
  · show RepA w _ _ _ (t m) _
    rw [e]
    refine .pv (hr.mono (Pres.sub ?_))
    rintro b o (h | ⟨k, blk, hk, _⟩)
    · exact h
    · cases hk
def pvO (t : Nat → AV) : Nat → AV := fun m => match t m with
  | .pv p => .pv p
  | _ => .undef
theorem hold_of {C : Cx} {L : Nat → Loc} {st : St} {a : Act} {w : World} (hs : SimL C L st a w) : Hold C.N C.M0 (pvO st.t) a w := by
  refine ⟨hs.2.1, fun m => ?_⟩
  have := hs.2.2 m
  unfold pvO
  generalize st.t m = v at this
  cases v with
  | pv p =>
    cases this with
    | pv hr => exact .inr ⟨p, rfl, hr.mono (Pres.sub fun b o h => .inl h)⟩
  | _ => exact .inl rfl
theorem Hold.sub {N : Nat} {M : Nat → Nat → Prop} {t t' : Nat → AV} {a : Act} {w : World} (h : Hold N M t a w) (ht : ∀ m, t' m = .undef ∨ t' m = t m) : Hold N M t' a w := by
  refine ⟨h.1, fun m => ?_⟩
  rcases ht m with e | e
  · exact .inl e
  · rw [e]; exact h.2 m
theorem Hold.mono {N : Nat} {M M' : Nat → Nat → Prop} {t : Nat → AV} {a : Act} {w w' : World} (h : Hold N M t a w) (hp : Pres w M w' M') : Hold N M' t a w' :=
  ⟨h.1, fun m => (h.2 m).imp id fun ⟨p, e, hr⟩ => ⟨p, e, hr.mono hp⟩⟩
theorem Hold.step {P : Program} {N n : Nat} {M : Nat → Nat → Prop} {t : Nat → AV} {a : Act} {w : World} {c : Code} {Q : Exit → St → Prop} (h : Hold N M t a w) (hM : ∀ b o, M b o → b < w.heap.size)
    (hc : ∀ C : Cx, C.P = P → C.N = N → WPT Fence.wide C c Q ⟨t, fun _ => none⟩) : c.wpIn Fence.wide n P (fun e a' w' => ∃ st', Q e st' ∧ Hold N M (pvO st'.t) a' w' ∧ Ext (fun _ => False) w w' ∧ a'.defers = a.defers) a w :=
  wpIn_mono (hc ⟨P, N, M, fun _ => False, fun _ => none, w⟩ rfl rfl n _ a w (h.sim hM)) fun _ _ _ ⟨st', _, hs', _, hd, hq⟩ => ⟨st', hq, hold_of hs', hs'.1.ext, hd⟩
theorem Hold.list {P : Program} {N n : Nat} {M : Nat → Nat → Prop} {t : Nat → AV} {a : Act} {w : World} {hn : List Nat} {ops : Array Oper} {l : List Oper} {Q : St → Prop} {Q' : Exit → Act → World → Prop} (h : Hold N M t a w) (hM : ∀ b o, M b o → b < w.heap.size) (hnd : ∀ o ∈ l, ∀ c, o.op ≠ .defer c)
    (hc : evR P hn N ops Q l ⟨t, fun _ => none⟩) (hQ : ∀ st' a' w', Q st' → Hold N M (pvO st'.t) a' w' → Ext (fun _ => False) w w' → a'.defers = a.defers → Q' .normal a' w') : wpListIn Fence.wide n P ops Q' l a w :=
  evR_soundT (C := ⟨P, N, M, fun _ => False, fun _ => none, w⟩) wide_wide (fun st' L' a' w' hs' _ hd hq => hQ st' a' w' hq (hold_of hs') hs'.1.ext hd) hnd (h.sim hM) (After.refl (h.sim (P := P) hM).1) rfl hc
/-- A call of yield. -/
theorem yield_step {n l : Nat} {P : Program} {ops : Array Oper} {o : Oper} {rest : List Oper} {c : Call} {f x y : Operand} {Q : Exit → Act → World → Prop} {a : Act} {w : World} {R : Ending → World → Prop} (hw : Region.wanted o (yielded ops a.tmps) = true) (ho : o.op = .call c) (hc : c.callee = .value f) (hargs : c.args = #[x, y])
    (hf : a.eval f = .func (.yield l) #[] #[]) (hy : YieldAt Fence.wide (n - 1) P l #[a.eval x, a.eval y] w R)
    (hnext : ∀ e w', R e w' → ∃ v, e = .returned v ∧ wpListIn Fence.wide n P ops Q rest (a.put o.dst v) w') : wpListIn Fence.wide n P ops Q (o :: rest) a w := by
  obtain ⟨fn, tmps, assign, body, hr, hround⟩ := hy
  unfold wpListIn
  rw [if_pos hw]
  refine ⟨fun _ _ => trivial, ?_⟩
  show o.uponIn Fence.wide n P a _ Q ((o.semAt none a.eval).run P w)
  rw [Oper.semAt_none]
  have hrun : (execOp a.eval o).run P w = .ok (.round l fn tmps assign body) w := by
    generalize a.eval = ρ at hf hr
    unfold execOp
    rw [ho]
    obtain ⟨cal, ar, at_⟩ := c
    simp only at hc hargs
    subst hc; subst hargs
    simp [resolve, hf, invoke, go_sem, hr]
  rw [hrun]
  refine ⟨fun h => (by cases h), hround.mono ?_⟩
  intro e w' he
  obtain ⟨v, rfl, h⟩ := hnext e w' he
  exact h
end Go.Ab
