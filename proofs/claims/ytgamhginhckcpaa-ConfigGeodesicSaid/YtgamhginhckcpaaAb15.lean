/- States, regions in the order of the text, code, functions. -/
import Derived.Test.YtgamhginhckcpaaAb14
set_option linter.all false
namespace Go.Ab

section
variable {C : Cx} {L : Nat → Loc} {h1 h : Hp} {w : World}

theorem evO_wp (hm : MemL C L h w) (hs : ∀ k b, h1 k = some b → h k = some b) {o : Oper} (hfresh : ∀ d, o.dst = some d → h1 d = h d) {ρ : Operand → AV} {a : Act}
    (hρ : ∀ x ∈ o.op.operands, RepA w (Mst C L h) L h (ρ x) (a.eval x)) {hn : List Nat} {K : Eff → Prop} (e : evO C.P hn o ρ h1 K) {next : Act → World → Prop} {Q : Exit → Act → World → Prop}
    (hnext : ∀ eff u w' L', K eff → After C L h w L' (writes h eff.2) w' → RepA w' (Mst C L' (writes h eff.2)) L' (writes h eff.2) eff.1 u → next (a.put o.dst u) w') : o.wp C.P a w next Q := by
  have hplain : optThen (evOp C.P hn o ρ h1) K → o.wp C.P a w next Q := by
    intro e
    unfold optThen at e
    split at e
    · rename_i eff heff
      obtain ⟨v, W⟩ := eff
      obtain ⟨n, u, w', L', hr, hn', ha, hv⟩ := evOp_sound hm hs hfresh hρ heff
      unfold Oper.wp
      rw [hr]
      rcases hn' with rfl | ⟨rfl, rfl⟩
      · exact hnext (v, W) u w' L' e ha hv
      · exact hnext (v, W) undef w' L' e ha hv
    · exact e.elim
  unfold evO at e
  split at e
  · rename_i c hop
    split at e
    · rename_i f hcal
      obtain ⟨callee, args, argTypes⟩ := c
      simp only at hcal e
      subst hcal
      have hf : RepA w (Mst C L h) L h (ρ f) (a.eval f) := hρ f (by rw [hop]; simp [Op.operands, Call.operands])
      have hargs : RepAL w (Mst C L h) L h (args.toList.map ρ) (args.toList.map a.eval) := repAL_map _ (fun x hx => hρ x (by rw [hop]; simp at hx; simp [Op.operands, Call.operands, hx]))
      obtain ⟨g, vs, cs, hu, hcall, eff, hK, hc⟩ := evCall_sound hm hs hfresh hf hargs e
      unfold Oper.wp
      have hrun : (execOp a.eval o).run C.P w = .ok (.enter g (vs.toList ++ args.toList.map a.eval ++ cs.toList).toArray) w := by
        unfold callable at hcall
        cases hfn : C.P.funcs[g]? with
        | none => rw [hfn] at hcall; cases hcall
        | some fn =>
          rw [hfn] at hcall
          simp only [Bool.and_eq_true, Bool.not_eq_true', beq_eq_false_iff_ne, ne_eq] at hcall
          have hb : fn.body.isNone = false := by cases hbb : fn.body <;> simp_all
          have harr : (vs ++ args.map a.eval) ++ cs = (vs.toList ++ args.toList.map a.eval ++ cs.toList).toArray := by
            apply Array.ext'; simp
          unfold execOp
          rw [hop]
          simp only [resolve, hu, Deferred.ofValue, pure_bind, Sem.run_bind, Result.andThen_ok, invoke, callFunc, program, Sem.run, hfn]
          simp [hcall.2, hb, harr]
      rw [hrun]
      simp only [Oper.upon]
      refine hc.mono ?_
      rintro e1 w' ⟨r, L', rfl, hA, hr⟩
      exact hnext eff r w' L' hK hA hr
    · exact hplain e
  · exact hplain e
end

/-! ### states -/
/-- The deferred calls do nothing where the frame returns. -/
def QuietL (P : Program) (ds : List Deferred) : Prop := ∀ d ∈ ds, ∃ g cap, d.target = .fn (.func g) cap ∧ QuietFn P g
theorem QuietL.nil (P : Program) : QuietL P [] := fun d h => by simp at h

def Sim (C : Cx) (st : St) (a : Act) (w : World) : Prop :=
  ∃ L, MemL C L st.h w ∧ a.tmps.size = C.N ∧ QuietL C.P a.defers ∧ ∀ n, RepA w (Mst C L st.h) L st.h (st.t n) (a.tmps.getD n undef)

theorem Sim.forget {C : Cx} {st : St} {a : Act} {w : World} (hs : Sim C st a w) {t : Nat → AV} (ht : ∀ n, t n = .undef ∨ t n = st.t n) : Sim C ⟨t, st.h⟩ a w := by
  obtain ⟨L, h1, h2, h3, h4⟩ := hs
  refine ⟨L, h1, h2, h3, fun n => ?_⟩
  show RepA w (Mst C L st.h) L st.h (t n) (a.tmps.getD n undef)
  rcases ht n with e | e
  · rw [e]; exact .undef _
  · rw [e]; exact h4 n

theorem eval_rep {C : Cx} {L : Nat → Loc} {st : St} {a : Act} {w : World} (ht : ∀ n, RepA w (Mst C L st.h) L st.h (st.t n) (a.tmps.getD n undef)) (x : Operand) : RepA w (Mst C L st.h) L st.h (st.ev x) (a.eval x) := by
  cases x with
  | tmp n => exact ht n
  | const v => exact .pv (.val v)
  | global g => exact .undef _
  | func f => exact .pv (.val _)

theorem getD_put {a : Act} {d : Nat} {u : Value} (hd : d < a.tmps.size) (n : Nat) : (a.put (some d) u).tmps.getD n undef = if n = d then u else a.tmps.getD n undef := by
  simp only [Act.put, Array.getD_eq_getD_getElem?]
  by_cases e : n = d
  · subst e; simp [hd]
  · rw [if_neg e]
    rw [Array.getElem?_setIfInBounds_ne (by omega)]

theorem Sim.put {C : Cx} {L : Nat → Loc} {st : St} {a : Act} {w : World} (_ : MemL C L st.h w) (hN : a.tmps.size = C.N) (hdf : QuietL C.P a.defers) (ht : ∀ n, RepA w (Mst C L st.h) L st.h (st.t n) (a.tmps.getD n undef))
    {d : Option Nat} (hd : dstOk C.N d = true) {v : AV} {W : List (Nat × Blk)} {u : Value} {w' : World} {L' : Nat → Loc} (hA : After C L st.h w L' (writes st.h W) w') (hv : RepA w' (Mst C L' (writes st.h W)) L' (writes st.h W) v u) :
    Sim C (st.put d v W) (a.put d u) w' := by
  refine ⟨L', hA.1, ?_, ?_, fun n => ?_⟩
  · cases d <;> simp [Act.put, hN]
  · cases d <;> exact hdf
  · have hold := (ht n).mono hA.2.1 hA.2.2
    cases d with
    | none => exact hold
    | some d =>
      have hd' : d < a.tmps.size := by rw [hN]; simpa [dstOk] using hd
      rw [getD_put hd']
      simp only [St.put, upd]
      split
      · exact hv
      · exact hold

theorem guard_wanted {C : Cx} {L : Nat → Loc} {t : Nat → AV} {h : Hp} {a : Act} {w : World} (ht : ∀ n, RepA w (Mst C L h) L h (t n) (a.tmps.getD n undef)) {ops : Array Oper} {o : Oper} {g : Bool} (e : guardB ops t o.guard = some g) :
    Region.wanted o (yielded ops a.tmps) = g := by
  unfold guardB at e
  unfold Region.wanted
  split at e
  · rename_i hg; injection e with e; subst e; rw [hg]
  · rename_i j want hg
    rw [hg]
    simp only
    split at e
    · rename_i d hd
      split at e
      · rename_i b hb
        injection e with e; subst e
        have := ht d
        rw [hb] at this
        have hv : a.tmps.getD d undef = .bool b := by cases this with | pv hr => exact rep_val_inv hr
        have hsome : a.tmps[d]? = some (.bool b) := by
          rw [Array.getD_eq_getD_getElem?] at hv
          cases hq : a.tmps[d]? with
          | none => rw [hq] at hv; simp [undef] at hv
          | some q => rw [hq] at hv; simp at hv; rw [hv]
        unfold yielded
        rw [hd]
        simp [hsome]
      · rename_i q hb
        injection e with e; subst e
        have := ht d
        rw [hb] at this
        have hv : a.tmps.getD d undef = .tuple q := by cases this with | pv hr => exact rep_val_inv hr
        rw [Array.getD_eq_getD_getElem?] at hv
        unfold yielded
        rw [hd]
        cases hq : a.tmps[d]? with
        | none => simp [hq]
        | some v => rw [hq] at hv; simp at hv; subst hv; simp [hq]
      · cases e
    · cases e

theorem Oper.wp_defer {P : Program} {a : Act} {w : World} {o : Oper} {c : Call} (ho : o.op = .defer c) {f : Operand} (hf : c.callee = .value f) (h0 : c.args.size = 0) {g : FuncId} {vs cs : Array Value} (hv : a.eval f = .func (.func g) vs cs)
    {next : Act → World → Prop} {Q : Exit → Act → World → Prop} (h : next (({ a with defers := { target := .fn (.func g) cs, args := vs } :: a.defers } : Act).put o.dst undef) w) : o.wp P a w next Q := by
  unfold Oper.wp
  have hargs : c.args = #[] := Array.size_eq_zero_iff.1 h0
  have hrun : (execOp a.eval o).run P w = .ok (.defer { target := .fn (.func g) cs, args := vs }) w := by
    unfold execOp
    rw [ho]
    simp only [resolve, hf, hv, Deferred.ofValue, hargs, pure_bind, Sem.run_bind, Sem.run_pure, Result.andThen_ok]
    simp
  rw [hrun]
  exact h
theorem fn_inv {w : World} {M : Nat → Nat → Prop} {L : Nat → Loc} {h : Hp} {f : Fn} {first caps : List AV} {u : Value} (hr : RepA w M L h (.fn f first caps) u) : ∃ vs cs, u = .func f vs cs := by
  cases hr with
  | fn _ _ _ vs us hl hk h1 h2 => exact ⟨_, _, rfl⟩
theorem nilOpen_sound {C : Cx} {L : Nat → Loc} {h : Hp} {w : World} (_ : MemL C L h w) {x : AV} {u : Value} (hx : RepA w (Mst C L h) L h x u) (e : nilOpen h x = true) : ∃ a n c, u = .slice a n c := by
  unfold nilOpen at e
  split at e
  · cases hx with
    | pv hr =>
      cases hr with
      | sl0 a c => exact ⟨_, _, _, rfl⟩
      | sl xs b o c sz u hcap hs hc hr => exact ⟨_, _, _, rfl⟩
  · rename_i k n
    split at e
    · rename_i e0 sz xs fz hk
      simp only [Bool.and_eq_true, decide_eq_true_eq] at e
      cases hx with
      | arr hk2 hn2 hu =>
        rw [hk] at hk2; injection hk2 with hk2; injection hk2 with a1 a2 a3 a4
        subst a3
        rw [hu e.1, Loc.slice]
        split <;> exact ⟨_, _, _, rfl⟩
    · cases e
  · cases e
/-- The same in the order of the text. -/
theorem evOD_wp {C : Cx} {L : Nat → Loc} {st : St} {a : Act} {w : World} (hm : MemL C L st.h w) (hN : a.tmps.size = C.N) (hdf : QuietL C.P a.defers) (ht : ∀ n, RepA w (Mst C L st.h) L st.h (st.t n) (a.tmps.getD n undef))
    {o : Oper} (hd : dstOk C.N o.dst = true) {hn : List Nat} {K : Eff → Prop} (e : evOD C.P hn o st.ev st.h K) {next : Act → World → Prop} {Q : Exit → Act → World → Prop}
    (hnext : ∀ eff a' w', K eff → Sim C (st.put o.dst eff.1 eff.2) a' w' → next a' w') : o.wp C.P a w next Q := by
  have hplain : evO C.P hn o st.ev st.h K → o.wp C.P a w next Q := fun e =>
    evO_wp hm (fun _ _ h => h) (fun _ _ => rfl) (fun x _ => eval_rep ht x) e (fun eff u w' L' hk hA hv => hnext eff _ _ hk (Sim.put hm hN hdf ht hd hA hv))
  unfold evOD at e
  split at e
  · rename_i c hop
    split at e
    · rename_i f hcal
      split at e
      · rename_i h0
        unfold evDefer at e
        split at e
        · rename_i g first caps hfe
          obtain ⟨vs, cs, hv⟩ := fn_inv (by have := eval_rep ht f; rw [hfe] at this; exact this)
          refine Oper.wp_defer hop hcal h0 hv (hnext _ _ _ e.2 ?_)
          have hq : QuietL C.P ({ target := .fn (.func g) cs, args := vs } :: a.defers) := by
            intro d hd'
            rcases List.mem_cons.1 hd' with rfl | hd'
            · exact ⟨g, cs, rfl, e.1⟩
            · exact hdf d hd'
          exact Sim.put (a := { a with defers := { target := .fn (.func g) cs, args := vs } :: a.defers }) hm hN hq ht hd (W := []) (After.refl hm) (.undef _)
        · exact e.elim
      · exact e.elim
    · exact e.elim
  · rename_i op t x y t' hop
    split at e
    · rename_i hc
      simp only [Bool.and_eq_true, Bool.or_eq_true, beq_iff_eq] at hc
      obtain ⟨⟨⟨c1, c2⟩, c3⟩, c4⟩ := hc
      have hy := nilA_val c1 (eval_rep ht y)
      obtain ⟨ad, n, c, hx⟩ := nilOpen_sound hm (eval_rep ht x) c3
      obtain ⟨b, hb⟩ : ∃ b : Bool, (op = .eql ∧ b = ad.isNone) ∨ (op = .neq ∧ b = !ad.isNone) := by
        rcases c4 with c4 | c4
        · exact ⟨_, .inl ⟨c4, rfl⟩⟩
        · exact ⟨_, .inr ⟨c4, rfl⟩⟩
      have hrun : (execOp a.eval o).run C.P w = .ok (.value (.bool b)) w := by
        obtain ⟨dst, op', ty, pos, aft, g⟩ := o
        simp only at hop
        subst hop
        exact runPure_run (nil_run (sliceT_under c2) hx hy hb) w
      have hK : K (.pv (.val (.bool b)), []) := by cases b with
        | true => exact e.1
        | false => exact e.2
      unfold Oper.wp
      rw [hrun]
      exact hnext _ _ _ hK (Sim.put hm hN hdf ht hd (W := []) (After.refl hm) (.pv (.val _)))
    · exact hplain e
  · exact hplain e

theorem evR_sound {C : Cx} {hn : List Nat} {ops : Array Oper} {Q : St → Prop} {Q' : Exit → Act → World → Prop} (hQ : ∀ st a w, Sim C st a w → Q st → Q' .normal a w) :
    ∀ {l : List Oper} {st : St} {a : Act} {w : World}, Sim C st a w → evR C.P hn C.N ops Q l st → wpList C.P ops Q' l a w
  | [], st, a, w, hs, e => hQ st a w hs e
  | o :: l, st, a, w, hs, e => by
    obtain ⟨L, hm, hN, hdf, ht⟩ := hs
    simp only [evR] at e
    obtain ⟨hd, e⟩ := e
    refine wpList_step (fun K hK => ?_)
    split at e
    · rename_i hg
      rw [guard_wanted ht (guardV_none hg), if_pos rfl]
      exact evOD_wp hm hN hdf ht hd e (fun eff a' w' hk hsim => hK _ _ (evR_sound hQ hsim hk))
    · rename_i d b want hg
      rw [guard_wanted ht (guardV_some hg)]
      unfold evB at e
      simp only at e
      split at e
      · rename_i hgt
        subst hgt
        rw [if_pos (by simp)]
        exact evOD_wp hm hN hdf ht hd e (fun eff a' w' hk hsim => hK _ _ (evR_sound hQ hsim hk))
      · rename_i hgt
        rw [if_neg (by simpa using hgt)]
        exact hK _ _ (evR_sound hQ (Sim.put hm hN hdf ht hd (W := []) (After.refl hm) (.pv (.val _))) e)
    · exact e.elim

/-! ### code -/
def WP (C : Cx) (c : Code) (Q : Exit → St → Prop) (st : St) : Prop := ∀ a w, Sim C st a w → c.wp C.P (fun e a' w' => ∃ st', Sim C st' a' w' ∧ Q e st') a w

section
variable {C : Cx} {Q : Exit → St → Prop} {st : St}

theorem WP.region {hn : List Nat} {id : Nat} {ops : Array Oper} (h : evR C.P hn C.N ops (Q .normal) ops.toList st) : WP C (.region id ops false) Q st :=
  fun _ _ hs => wp_region_list (evR_sound (fun st' _ _ hs' hq => ⟨st', hs', hq⟩) hs h)

def Then (C : Cx) (y : Code) (Q : Exit → St → Prop) : Exit → St → Prop
  | .normal, st => WP C y Q st
  | e, st => Q e st
theorem WP.seq {x y : Code} (h : WP C x (Then C y Q) st) : WP C (.seq x y) Q st := by
  intro a w hs
  refine wp_seq (wp_mono (h a w hs) ?_)
  rintro e a' w' ⟨st', hs', hq⟩
  cases e with
  | normal => exact hq a' w' hs'
  | _ => exact ⟨st', hs', hq⟩
theorem WP.mono {c : Code} {Q' : Exit → St → Prop} (h : WP C c Q st) (hq : ∀ e st, Q e st → Q' e st) : WP C c Q' st :=
  fun a w hs => wp_mono (h a w hs) (fun e _ _ ⟨st', hs', hq'⟩ => ⟨st', hs', hq e st' hq'⟩)
theorem WP.skip (h : Q .normal st) : WP C .skip Q st := fun _ _ hs => wp_skip ⟨st, hs, h⟩
theorem WP.ret (h : Q .ret st) : WP C .ret Q st := fun _ _ hs => wp_ret ⟨st, hs, h⟩
theorem WP.exit {id : Nat} (h : Q (.exit id) st) : WP C (.exit id) Q st := fun _ _ hs => wp_exit ⟨st, hs, h⟩
theorem WP.cond {c : Operand} {x y : Code} {b : Bool} (hc : st.ev c = .pv (.val (.bool b))) (ht : b = true → WP C x Q st) (hf : b = false → WP C y Q st) : WP C (.cond c x y) Q st := by
  intro a w hs
  have hc' : a.eval c = .bool b := by
    obtain ⟨L, hm, hN, hdf, htm⟩ := hs
    have := eval_rep htm c
    rw [hc] at this
    cases this with
    | pv hr => exact rep_val_inv hr
  exact wp_cond_split hc' (fun e => ht e a w hs) (fun e => hf e a w hs)
def InBlk (id : Nat) (Q : Exit → St → Prop) : Exit → St → Prop
  | .exit i, st => if i = id then Q .normal st else Q (.exit i) st
  | e, st => Q e st
theorem WP.block {id : Nat} {c : Code} (h : WP C c (InBlk id Q) st) : WP C (.block id c) Q st := by
  intro a w hs
  refine wp_block (wp_mono (h a w hs) ?_)
  rintro e a' w' ⟨st', hs', hq⟩
  cases e with
  | exit i =>
    simp only [InBlk, Exit.inBlock] at hq ⊢
    split
    · rename_i e; rw [if_pos e] at hq; exact ⟨st', hs', hq⟩
    · rename_i e; rw [if_neg e] at hq; exact ⟨st', hs', hq⟩
  | _ => exact ⟨st', hs', hq⟩

/-! ### forgetting blocks -/
def dead (ks : List Nat) : AV → Bool
  | .ptr k _ | .arr k _ | .eptr k _ _ _ => ks.contains k
  | .agg cs => !(cs.all fun c => match c with | .pv _ => true | _ => false)
  | .fn _ _ _ => true
  | .tup _ => true
  | _ => false
def killA (ks : List Nat) (x : AV) : AV := if dead ks x = true then .undef else x
def killB (ks : List Nat) : Blk → Blk
  | .box cs own fz => .box (cs.map (killA ks)) own fz
  | b => b
def St.kill (ks : List Nat) (st : St) : St := ⟨fun n => killA ks (st.t n), fun k => if ks.contains k = true then none else (st.h k).map (killB ks)⟩

theorem killA_rep {w : World} {M M' : Nat → Nat → Prop} {L : Nat → Loc} {h : Hp} {ks : List Nat} (hp : Pres w M w M') {x : AV} {u : Value} (hx : RepA w M L h x u) :
    RepA w M' L (fun k => if ks.contains k = true then none else (h k).map (killB ks)) (killA ks x) u := by
  unfold killA
  split
  · exact .undef _
  · rename_i hd
    cases hx with
    | pv hr => exact .pv (hr.mono hp)
    | @ptr k off cs own fz hk =>
      simp only [dead] at hd
      exact .ptr (cs := cs.map (killA ks)) (own := own) (fz := fz) (by simp only [if_neg hd, hk]; rfl)
    | @arr k n e sz fz xs u hk hn hu =>
      simp only [dead] at hd
      exact .arr (e := e) (sz := sz) (fz := fz) (xs := xs) (by simp only [if_neg hd, hk]; rfl) hn hu
    | @eptr k n i off e sz fz xs u hk hn hu =>
      simp only [dead] at hd
      exact .eptr (e := e) (sz := sz) (fz := fz) (xs := xs) (by simp only [if_neg hd, hk]; rfl) hn hu
    | agg cs vs hl hh =>
      simp only [dead, Bool.not_eq_true', Bool.not_eq_false] at hd
      refine .agg cs vs hl (fun i p u hp' hu => ?_)
      have := List.all_eq_true.1 hd p (List.mem_of_getElem? hp')
      have h2 := hh i p u hp' hu
      cases p with
      | pv q => cases h2 with
        | pv hr => exact .pv (hr.mono hp)
      | _ => simp at this
    | fn => simp [dead] at hd
    | tup => simp [dead] at hd
    | undef => exact .undef _

theorem Sim.kill {a : Act} {w : World} (ks : List Nat) (hs : Sim C st a w) : Sim C (st.kill ks) a w := by
  obtain ⟨L, hm, hN, hdf, ht⟩ := hs
  have hkey : ∀ k blk', (st.kill ks).h k = some blk' → ∃ blk, st.h k = some blk ∧ killB ks blk = blk' ∧ blk'.live (L k) = blk.live (L k) ∧ ∀ o, blk'.frz o = blk.frz o := by
    intro k blk' hk
    simp only [St.kill] at hk
    split at hk
    · cases hk
    · simp only [Option.map_eq_some_iff] at hk
      obtain ⟨blk, h1, rfl⟩ := hk
      exact ⟨blk, h1, rfl, by cases blk <;> rfl, fun o => by cases blk <;> rfl⟩
  have hM : ∀ b o, Mst C L (st.kill ks).h b o → Mst C L st.h b o := by
    rintro b o (h0 | ⟨k, blk', hk, hl, hb, hf⟩)
    · exact .inl h0
    · obtain ⟨blk, h1, _, h2, h3⟩ := hkey k blk' hk
      exact .inr ⟨k, blk, h1, h2 ▸ hl, hb, h3 o ▸ hf⟩
  have hp : Pres w (Mst C L st.h) w (Mst C L (st.kill ks).h) := Pres.sub hM
  refine ⟨L, ⟨hm.ext, hm.m0, ?_, ?_, ?_⟩, hN, hdf, fun n => killA_rep hp (ht n)⟩
  · intro k blk' hk
    obtain ⟨blk, h1, rfl, _, _⟩ := hkey k blk' hk
    have := hm.bl k blk h1
    cases blk with
    | box cs own fz =>
      obtain ⟨arr, ty, e1, e2⟩ := this
      refine ⟨arr, ty, e1, by simpa using e2.1, fun i p u hp' hu => ?_⟩
      simp only [List.getElem?_map, Option.map_eq_some_iff] at hp'
      obtain ⟨q, hq, rfl⟩ := hp'
      exact killA_rep hp (e2.2 i q u hq hu)
    | row e sz xs fz =>
      obtain ⟨a1, a2, a3, a4, a5⟩ := this
      refine ⟨a1, a2, a3, a4, fun hn => ?_⟩
      obtain ⟨b1, b2, arr, b3, b4, b5⟩ := a5 hn
      exact ⟨b1, b2, arr, b3, b4, fun i x j p hx hj => by obtain ⟨u, hu, hr⟩ := b5 i x j p hx hj; exact ⟨u, hu, hr.mono hp⟩⟩
  · intro k k' b1 b2 hne hk hk' hl hl'
    obtain ⟨c1, d1, _, e1, _⟩ := hkey k b1 hk
    obtain ⟨c2, d2, _, e2, _⟩ := hkey k' b2 hk'
    exact hm.sep k k' c1 c2 hne d1 d2 (e1 ▸ hl) (e2 ▸ hl')
  · intro k blk' hk
    obtain ⟨blk, h1, rfl, _, _⟩ := hkey k blk' hk
    have := hm.own k blk h1
    cases blk with
    | box cs own fz => cases own <;> exact this
    | row => exact this

/-- A loop: what holds at every round's head, with the blocks of the round before forgotten. -/
theorem WP.loop {c : Code} (ks : List Nat) (I : St → Prop) (μ : St → Nat) (h₀ : I (st.kill ks))
    (round : ∀ st, I st → WP C c (fun e st' => match e with | .normal => I (st'.kill ks) ∧ μ (st'.kill ks) < μ st | e => Q e st') st) : WP C (.loop c) Q st := by
  intro a w hs
  -- the measure goes by the number that the invariant's states give: a state is chosen for each head
  have key : ∀ n st a w, μ st = n → I st → Sim C st a w → ∀ b k cs, ∃ e a' w', (∃ st', Sim C st' a' w' ∧ Q e st') ∧ Arrives C.P (lone (b.at a (.code c :: .inLoop c :: k)) cs w) b k cs e a' w' := by
    intro n
    induction n using Nat.strongRecOn with
    | _ n ih =>
      intro st a w hn hI hs b k cs
      obtain ⟨e, a₁, w₁, ⟨st', hs', hq⟩, harr⟩ := round st hI a w hs b (.inLoop c :: k) cs
      cases e with
      | normal =>
        obtain ⟨hI₁, hlt⟩ := hq
        obtain ⟨e₂, a₂, w₂, hq₂, harr₂⟩ := ih (μ (st'.kill ks)) (hn ▸ hlt) _ a₁ w₁ rfl hI₁ (hs'.kill ks) b k cs
        exact ⟨e₂, a₂, w₂, hq₂, .of_steps (Steps.trans harr (.one step_inLoop)) harr₂⟩
      | exit id => exact ⟨_, a₁, w₁, ⟨st', hs', hq⟩, .pass (x := .inLoop c) rfl (fun _ _ => .inl (by simp)) harr⟩
      | goto l => exact ⟨_, a₁, w₁, ⟨st', hs', hq⟩, .pass (x := .inLoop c) rfl (fun _ _ => .inl (by simp)) harr⟩
      | ret => exact ⟨_, a₁, w₁, ⟨st', hs', hq⟩, .pass (x := .inLoop c) rfl (fun _ _ => .inl (by simp)) harr⟩
      | panic ch => exact ⟨_, a₁, w₁, ⟨st', hs', hq⟩, .pass (x := .inLoop c) rfl (fun _ _ => .inl (by simp)) harr⟩
      | outgrown => exact ⟨_, a₁, w₁, ⟨st', hs', hq⟩, .pass (x := .inLoop c) rfl (fun _ _ => .inl (by simp)) harr⟩
  intro b k cs
  obtain ⟨e, a', w', hq, harr⟩ := key _ (st.kill ks) a w rfl h₀ (hs.kill ks) b k cs
  exact ⟨e, a', w', hq, .of_steps (.one step_loop) harr⟩
end
end Go.Ab
