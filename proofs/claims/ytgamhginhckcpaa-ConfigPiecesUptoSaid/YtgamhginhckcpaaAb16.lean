/- Functions: a contract out of the body's wp. -/
import Derived.Test.YtgamhginhckcpaaAb15
set_option linter.all false
namespace Go.Ab

/-- The key of the i-th handed variable. -/
def pk (i : Nat) : Nat := 1000000 + i
def argT (args : List Arg) : Nat → AV := fun n => match args[n]? with
  | some (.pv p) => .pv p
  | some (.bx i) => .ptr (pk i) 0
  | none => .undef
def argH (hin : List (List PV)) : Hp := fun k => if k < 1000000 then none else match hin[k - 1000000]? with
  | some ps => some (.box (ps.map .pv) false false)
  | none => none
def st0 (args : List Arg) (hin : List (List PV)) : St := ⟨argT args, argH hin⟩

def resVals (P : Program) (st : St) : List ResultVar → Option (List AV)
  | [] => some []
  | .tmp t :: r => (resVals P st r).map (st.t t :: ·)
  | .cell a ty :: r => match tiOf P ty with
    | some ti => match evLoad ti (st.t a) st.h, resVals P st r with
      | some v, some vs => some (v :: vs)
      | _, _ => none
    | none => none
def resVal (P : Program) (st : St) (rs : List ResultVar) : Option AV := match resVals P st rs with
  | some [v] => some v
  | some vs => some (.tup vs)
  | none => none

def RetOk (P : Program) (rs : List ResultVar) (hout : List (List PV)) (res : RV) (st : St) : Prop :=
  ∃ r, resVal P st rs = some r ∧ (∀ (i : Nat) ps, hout[i]? = some ps → st.h (pk i) = some (.box (ps.map .pv) false false)) ∧
    (match res with
    | .pv p => ∃ W, frz st.h r = some (p, W)
    | .box ps => ∃ k, r = .ptr k 0 ∧ st.h k = some (.box (ps.map .pv) true false)
    | .row e sz xs => ∃ k, r = .arr k xs.length ∧ st.h k = some (.row e sz xs 0))

def Fin (P : Program) (rs : List ResultVar) (hout : List (List PV)) (res : RV) : Exit → St → Prop
  | .normal, st => RetOk P rs hout res st
  | .ret, st => RetOk P rs hout res st
  | _, _ => False

theorem invoke_fn {P : Program} {g : FuncId} (hc : callable P g = true) (cap dargs : Array Value) (w : World) : (invoke (.fn (.func g) cap) dargs).run P w = .ok (.enter g (dargs ++ cap)) w := by
  unfold callable at hc
  cases hfn : P.funcs[g]? with
  | none => rw [hfn] at hc; cases hc
  | some fn =>
    rw [hfn] at hc
    simp only [Bool.and_eq_true, Bool.not_eq_true', beq_eq_false_iff_ne, ne_eq] at hc
    have hb : fn.body.isNone = false := by cases hbb : fn.body <;> simp_all
    simp only [invoke, callFunc, program, Sem.run_bind, Sem.run, Result.andThen_ok, hfn]
    simp [hc.2, hb]
/-- Quiet deferred calls let the result by. -/
theorem leaves_quiet {P : Program} {fn : Func} {tmps : Array Value} {R : Ending → World → Prop} {w : World} {v : Value} : ∀ {ds : List Deferred}, QuietL P ds → (results fn tmps).run P w = .ok v w → R (.returned v) w → Leaves P fn tmps R ds .returning w
  | [], _, hr, hR => ⟨v, hr, hR⟩
  | d :: ds, hq, hr, hR => by
    obtain ⟨g, cap, ht, hg⟩ := hq d (by simp)
    refine ⟨by simp, .func g, cap, g, d.args ++ cap, ht, by rw [ht]; exact invoke_fn hg.1 _ _ _, (hg.2 _ w).mono ?_⟩
    rintro e u' w' ⟨rfl, ⟨v', rfl⟩, rfl⟩
    exact leaves_quiet (fun d hd => hq d (by simp [hd])) hr hR

def resF (tmps : Array Value) : ResultVar → Sem Value
  | .tmp t => pure (tmps.getD t undef)
  | .cell b t => do loadVar t (← asAddr (tmps.getD b undef))

section
variable {C : Cx} {L : Nat → Loc} {st : St} {a : Act} {w : World}

theorem resVals_run (hm : MemL C L st.h w) (ht : ∀ n, RepA w (Mst C L st.h) L st.h (st.t n) (a.tmps.getD n undef)) : ∀ {rs : List ResultVar} {vs : List AV}, resVals C.P st rs = some vs →
    ∃ us : List Value, (rs.mapM (resF a.tmps)).run C.P w = .ok us w ∧ RepAL w (Mst C L st.h) L st.h vs us
  | [], vs, e => by
    simp only [resVals, Option.some.injEq] at e; subst e
    exact ⟨[], by simp, RepAL.nil⟩
  | .tmp t :: r, vs, e => by
    simp only [resVals, Option.map_eq_some_iff] at e
    obtain ⟨vs', e1, rfl⟩ := e
    obtain ⟨us, h1, h2⟩ := resVals_run hm ht e1
    refine ⟨a.tmps.getD t undef :: us, ?_, .cons (ht t) h2⟩
    simp only [List.mapM_cons, resF, Sem.run_bind, Sem.run_pure, Result.andThen_ok, h1]
  | .cell b ty :: r, vs, e => by
    simp only [resVals] at e
    split at e
    · rename_i ti hti
      split at e
      · rename_i v vs' e0 e1
        injection e with e; subst e
        obtain ⟨us, h1, h2⟩ := resVals_run hm ht e1
        obtain ⟨u, hr1, hr2⟩ := evLoad_sound hm (fun _ _ h => h) hti (ht b) e0
        refine ⟨u :: us, ?_, .cons hr2 h2⟩
        -- the address is one
        have haddr : ∃ ad, a.tmps.getD b undef = .pointer (some ad) := by
          unfold Instr.loadAt at hr1
          cases hv : a.tmps.getD b undef with
          | pointer p => cases p with
            | none => rw [hv] at hr1; simp [Instr.sureAddr, stuck] at hr1
            | some ad => exact ⟨ad, rfl⟩
          | _ => rw [hv] at hr1; simp [Instr.sureAddr, stuck] at hr1
        obtain ⟨ad, had⟩ := haddr
        rw [had] at hr1
        have hr1' : (loadVar ty ad).run C.P w = .ok u w := hr1
        have hone : (resF a.tmps (.cell b ty)).run C.P w = .ok u w := by simp only [resF, had, asAddr, pure_bind, hr1']
        simp only [List.mapM_cons, Sem.run_bind, hone, Sem.run_pure, Result.andThen_ok, h1]
      · cases e
    · cases e

theorem resVal_run (hm : MemL C L st.h w) (ht : ∀ n, RepA w (Mst C L st.h) L st.h (st.t n) (a.tmps.getD n undef)) {fn : Func} {r : AV} (e : resVal C.P st fn.results.toList = some r) :
    ∃ u, (results fn a.tmps).run C.P w = .ok u w ∧ RepA w (Mst C L st.h) L st.h r u := by
  unfold resVal at e
  have key : ∀ vs us, (fn.results.toList.mapM (resF a.tmps)).run C.P w = .ok us w → RepAL w (Mst C L st.h) L st.h vs us →
      (results fn a.tmps).run C.P w = .ok (if h : us.toArray.size = 1 then us.toArray[0] else .tuple us.toArray) w := by
    intro vs us h1 _
    have : results fn a.tmps = (do let vs ← fn.results.mapM (resF a.tmps); pure (if h : vs.size = 1 then vs[0] else .tuple vs)) := rfl
    rw [this, Array.mapM_eq_mapM_toList]
    simp only [Sem.run_bind, Sem.run_map, h1, Result.andThen_ok]
    rfl
  split at e
  · rename_i v hv
    injection e with e; subst e
    obtain ⟨us, h1, h2⟩ := resVals_run hm ht hv
    obtain ⟨u, us', rfl, hu, hn⟩ := h2.cons_inv
    have := hn.nil_inv; subst this
    exact ⟨u, by rw [key _ _ h1 h2]; simp, hu⟩
  · rename_i vs hne hv
    injection e with e; subst e
    obtain ⟨us, h1, h2⟩ := resVals_run hm ht hv
    refine ⟨.tuple us.toArray, ?_, .tup vs us h2.1 h2.2⟩
    rw [key _ _ h1 h2]
    have : ¬ us.length = 1 := by
      intro hl
      cases vs with
      | nil => have := h2.1; simp at this; rw [← this] at hl; simp at hl
      | cons v r => cases r with
        | nil => exact hne v rfl
        | cons => have := h2.1; simp at this; omega
    simp [this]
  · cases e
end

theorem detH_of {P : Program} {f : FuncId} {fn : Func} {c : Code} (hf : P.funcs[f]? = some fn) (hb : fn.body = some c) (hcall : callable P f = true) {args : List Arg} {hin hout : List (List PV)} {res : RV} (hlen : args.length ≤ fn.ntmps)
    (hho : hout.length = hin.length) (hbx : ∀ (i j : Nat), args[i]? = some (.bx j) → j < hin.length)
    (h : ∀ C : Cx, C.P = P → C.N = fn.ntmps → WP C c (Fin P fn.results.toList hout res) (st0 args hin)) : DetH P f args hin hout res := by
  refine ⟨hcall, hho, fun w M bs vs hM hbl hnd hbox hal harg => ?_⟩
  let C : Cx := { P := P, N := fn.ntmps, M0 := M, S := fun b => b ∈ bs, pb := fun k => if k < 1000000 then none else bs[k - 1000000]?, w0 := w }
  let L : Nat → Loc := fun k => ⟨(bs[k - 1000000]?).getD 0, 0, false⟩
  have hkey : ∀ k blk, (st0 args hin).h k = some blk → ∃ i ps b, k = pk i ∧ hin[i]? = some ps ∧ bs[i]? = some b ∧ blk = .box (ps.map .pv) false false := by
    intro k blk hk
    simp only [st0, argH] at hk
    split at hk
    · cases hk
    · rename_i hk0
      split at hk
      · rename_i ps hps
        injection hk with hk
        have hlt : k - 1000000 < bs.length := by rw [hbl]; exact (List.getElem?_eq_some_iff.1 hps).1
        exact ⟨k - 1000000, ps, bs[k - 1000000], by unfold pk; omega, hps, List.getElem?_eq_getElem hlt, hk.symm⟩
      · cases hk
  have hLb : ∀ i b, bs[i]? = some b → (L (pk i)).b = b := by
    intro i b hb
    show (bs[pk i - 1000000]?).getD 0 = b
    rw [show pk i - 1000000 = i from by unfold pk; omega, hb]; rfl
  have hMst : ∀ b o, Mst C L (st0 args hin).h b o ↔ M b o := by
    intro b o
    constructor
    · rintro (h0 | ⟨k, blk, hk, hl, hb, hf⟩)
      · exact h0
      · obtain ⟨i, ps, b', rfl, hps, hb', rfl⟩ := hkey k blk hk
        rw [hLb i b' hb'] at hb; subst hb
        exact (hbox i _ ps hb' hps).1 o
    · exact .inl
  have hMeq : Mst C L (st0 args hin).h = M := by funext b o; exact propext (hMst b o)
  have hsim : Sim C (st0 args hin) { tmps := vs.toArray ++ Array.replicate (fn.ntmps - vs.toArray.size) undef, defers := [] } w := by
    refine ⟨L, ⟨Ext.refl _ _, hM, ?_, ?_, ?_⟩, by show (vs.toArray ++ Array.replicate (fn.ntmps - vs.toArray.size) undef).size = fn.ntmps; simp; omega, QuietL.nil _, fun n => ?_⟩
    · intro k blk hk
      obtain ⟨i, ps, b, rfl, hps, hb, rfl⟩ := hkey k blk hk
      obtain ⟨arr, ty, e1, e2⟩ := (hbox i b ps hb hps).2
      refine ⟨arr, ty, by rw [hLb i b hb]; exact e1, ?_⟩
      rw [hMeq]
      exact RepAL.map_pv e2
    · intro k k' b1 b2 hne hk hk' _ _ he
      obtain ⟨i, ps, b, rfl, hps, hb, rfl⟩ := hkey k b1 hk
      obtain ⟨i', ps', b', rfl, hps', hb', rfl⟩ := hkey k' b2 hk'
      rw [hLb i b hb, hLb i' b' hb'] at he
      subst he
      have h1 := (List.getElem?_eq_some_iff.1 hb)
      have h2 := (List.getElem?_eq_some_iff.1 hb')
      have : i = i' := (List.getElem_inj hnd).1 (h1.2.trans h2.2.symm)
      exact hne (by rw [this])
    · intro k blk hk
      obtain ⟨i, ps, b, rfl, hps, hb, rfl⟩ := hkey k blk hk
      refine ⟨rfl, ?_, ?_, ?_, ?_⟩
      · rw [hLb i b hb]
        show (if pk i < 1000000 then none else bs[pk i - 1000000]?) = some b
        rw [if_neg (by unfold pk; omega), show pk i - 1000000 = i from by unfold pk; omega, hb]
      · rw [hLb i b hb]; exact List.mem_of_getElem? hb
      · rw [hLb i b hb]; exact hM b 0 ((hbox i b ps hb hps).1 0)
      · intro o; rw [hLb i b hb]; exact (hbox i b ps hb hps).1 o
    · rw [hMeq]
      simp only [st0, argT]
      split
      · rename_i p hp
        have hlt : n < vs.length := by rw [← hal]; exact (List.getElem?_eq_some_iff.1 hp).1
        have := harg n (.pv p) vs[n] hp (List.getElem?_eq_getElem hlt)
        have hget : (vs.toArray ++ Array.replicate (fn.ntmps - vs.toArray.size) undef).getD n undef = vs[n] := by
          rw [Array.getD_eq_getD_getElem?, Array.getElem?_append_left (by simpa using hlt)]; simp [hlt]
        simp only [hget]
        exact .pv this
      · rename_i j hp
        have hlt : n < vs.length := by rw [← hal]; exact (List.getElem?_eq_some_iff.1 hp).1
        obtain ⟨b, hb, hv⟩ := harg n (.bx j) vs[n] hp (List.getElem?_eq_getElem hlt)
        have hget : (vs.toArray ++ Array.replicate (fn.ntmps - vs.toArray.size) undef).getD n undef = vs[n] := by
          rw [Array.getD_eq_getD_getElem?, Array.getElem?_append_left (by simpa using hlt)]; simp [hlt]
        simp only [hget]
        rw [hv, ← hLb j b hb]
        have hj := hbx n j hp
        refine .ptr (cs := (hin[j]).map .pv) (own := false) (fz := false) ?_
        simp only [argH, if_neg (show ¬ pk j < 1000000 by unfold pk; omega), show pk j - 1000000 = j from by unfold pk; omega]
        rw [List.getElem?_eq_getElem hj]
      · exact .undef _
  refine calls_of_wp_defers hf hb (wp_mono (h C rfl rfl _ w hsim) ?_)
  have hfin : ∀ (a' : Act) w' st', Sim C st' a' w' → RetOk P fn.results.toList hout res st' → QuietL P a'.defers ∧ ∃ v, (results fn a'.tmps).run P w' = .ok v w' ∧
      ∃ v', Ending.returned v = .returned v' ∧ Ext (· ∈ bs) w w' ∧ (∀ (i : Nat) b ps, bs[i]? = some b → hout[i]? = some ps → BoxRel w' M b ps) ∧ ResRel w w' M res v' := by
    rintro a' w' st' ⟨L', hm, hN, hdf, ht⟩ ⟨r, hr, hpb, hres⟩
    obtain ⟨u, hu1, hu2⟩ := resVal_run (C := C) hm ht hr
    have hsub : ∀ b o, M b o → Mst C L' st'.h b o := fun b o h => .inl h
    refine ⟨hdf, u, hu1, u, rfl, hm.ext, ?_, ?_⟩
    · intro i b ps hb hps
      have hk := hpb i ps hps
      obtain ⟨arr, ty, e1, e2⟩ := hm.bl _ _ hk
      have how := hm.own _ _ hk
      have hpbk : C.pb (pk i) = some b := by
        show (if pk i < 1000000 then none else bs[pk i - 1000000]?) = some b
        rw [if_neg (by unfold pk; omega), show pk i - 1000000 = i from by unfold pk; omega, hb]
      have hbb : (L' (pk i)).b = b := by
        have := how.2.1
        rw [hpbk] at this; injection this with this; exact this.symm
      rw [hbb] at e1
      exact ⟨arr, ty, e1, e2.map_pv_inv.mono (Pres.sub hsub)⟩
    · cases res with
      | pv p =>
        obtain ⟨W, hW⟩ := hres
        obtain ⟨b1, b2, _⟩ := frz_sound hm (Froz.refl _) hu2 hW
        exact b2.mono (Pres.sub (fun b o h => .inl h))
      | box ps =>
        obtain ⟨k, rfl, hk⟩ := hres
        obtain ⟨arr, ty, e1, e2⟩ := hm.bl _ _ hk
        have how := hm.own _ _ hk
        cases hu2 with
        | ptr _ =>
          refine ⟨(L' k).b, how, rfl, arr, ty, e1, e2.map_pv_inv.mono (Pres.sub ?_)⟩
          rintro b o (h | rfl)
          · exact .inl h
          · exact .inr ⟨k, _, hk, trivial, rfl, by simp [Blk.frz]⟩
      | row e sz xs =>
        obtain ⟨k, rfl, hk⟩ := hres
        have how := hm.own _ _ hk
        have hb := hm.bl _ _ hk
        have hval : u = (L' k).slice xs.length := by
          cases hu2 with
          | arr hk2 hn2 hu =>
            rw [hk] at hk2; injection hk2 with hk2; injection hk2 with a1 a2 a3 a4
            subst a3; exact hu rfl
        refine ⟨L' k, hval, how, ?_⟩
        obtain ⟨c1, c2, c3, c4, c5⟩ := hb
        refine ⟨c1, Nat.zero_le _, c3, c4, fun hn => ?_⟩
        obtain ⟨d1, d2, arr, d3, d4, d5⟩ := c5 hn
        refine ⟨d1, d2, arr, d3, d4, fun i x j p hx hj => ?_⟩
        obtain ⟨v, hv, hr⟩ := d5 i x j p hx hj
        refine ⟨v, hv, hr.mono (Pres.sub ?_)⟩
        rintro b o (h | ⟨_, rfl⟩)
        · exact .inl h
        · exact .inr ⟨k, _, hk, hn, rfl, by simp [Blk.frz]⟩
  rintro e a' w' ⟨st', hs', hq⟩
  cases e with
  | normal => obtain ⟨h1, v, h2, h3⟩ := hfin a' w' st' hs' hq; exact leaves_quiet h1 h2 h3
  | ret => obtain ⟨h1, v, h2, h3⟩ := hfin a' w' st' hs' hq; exact leaves_quiet h1 h2 h3
  | exit => exact hq.elim
  | goto => exact hq.elim
  | panic => exact hq.elim
  | outgrown => exact hq.elim
end Go.Ab
