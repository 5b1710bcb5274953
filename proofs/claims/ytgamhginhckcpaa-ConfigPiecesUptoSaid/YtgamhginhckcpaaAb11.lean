/- One operation is what the model does: all of them. -/
import Derived.Test.YtgamhginhckcpaaAb10
set_option linter.all false
namespace Go.Ab
section
variable {C : Cx} {L : Nat → Loc} {h1 h : Hp} {w : World}

theorem evIndexAddr_sound {M : Nat → Nat → Prop} (hs : ∀ k b, h1 k = some b → h k = some b) {t : TypeId} {ti : TI} (ht : tiOf C.P t = some ti) {x v : AV} {u : Value} {n : Int} {kk : IntKind} (hx : RepA w M L h x u)
    (hrow : ∀ k e sz xs fz, h k = some (.row e sz xs fz) → (L k).isNil = true → xs = []) (e : evIndexAddr ti x n h1 = some v) :
    ∃ r, (Instr.indexAt t u (.int kk n)).run C.P w = .ok r w ∧ RepA w M L h v r := by
  obtain ⟨i, d, hi, hd, hsz, hz, hkind⟩ := tiOf_some ht
  unfold evIndexAddr at e
  split at e
  · rename_i et esz eb ez hk
    obtain ⟨hund, jt, hj, rfl, rfl, _⟩ := kind_slice ht hk
    have hrun : ∀ b o len cap, 0 ≤ n → n.toNat < len → (Instr.indexAt t (.slice (some ⟨b, o, none⟩) len cap) (.int kk n)).run C.P w = .ok (.pointer (some ⟨b, o + n.toNat * jt.size, none⟩)) w := by
      intro b o len cap h0 hlt
      have hc : 0 ≤ n ∧ n < (len : Int) := ⟨h0, by omega⟩
      simp only [Instr.indexAt, asIntOf, Sem.run_bind, Sem.run_pure, Result.andThen_ok, run_under hund, hc, and_self, if_true, run_szOf hj, add_none]
    split at e
    · rename_i xs
      split at e
      · rename_i h0
        split at e
        · rename_i y hy
          split at e
          · rename_i hyl
            injection e with e; subst e
            have hlt : n.toNat < xs.length := (List.getElem?_eq_some_iff.1 hy).1
            cases hx with
            | pv hr => cases hr with
              | sl0 => simp at hy
              | sl _ b o c sz uu hcap hsz hc hr =>
                refine ⟨_, hrun b o _ c h0 hlt, .pv ?_⟩
                have hszz : sz = jt.size := by rw [← hsz _ y hy]; exact hyl
                subst hszz
                have := Rep.rptr (w := w) (M := M) y b (o + n.toNat * jt.size) 0 (fun j => uu n.toNat j) (fun j p hj => by have := hc _ y j p hy hj; rwa [← Nat.add_assoc] at this) (fun j p hj => hr _ y j p hy hj)
                exact this
          · cases e
        · cases e
      · cases e
    · rename_i k m
      split at e
      · rename_i e0 sz xs fz hk
        split at e
        · rename_i hc
          obtain ⟨hl, hss, h0, hlt⟩ := hc
          injection e with e; subst e
          have hk' := hs _ _ hk
          cases hx with
          | arr hk2 hn2 hu =>
            rw [hk'] at hk2; injection hk2 with hk2; injection hk2 with a1 a2 a3 a4
            subst a1; subst a2; subst a3; subst a4
            rw [hu hl]
            cases hnil : (L k).isNil with
            | true => rw [hrow k _ _ _ _ hk' hnil] at hl; simp at hl; omega
            | false =>
              simp only [Loc.slice, hnil, Bool.false_eq_true, if_false]
              refine ⟨_, hrun _ _ _ _ h0 hlt, .eptr hk' (by omega) (fun _ => ⟨hnil, ?_⟩)⟩
              rw [hss]; simp
        · cases e
      · cases e
    · cases e
  · rename_i len esz hk
    split at e
    · rename_i hc
      obtain ⟨h0, hlt⟩ := hc
      have harr : ∃ e', d = .array len e' ∧ szOf C.P e' = esz := by
        rw [hkind] at hk
        split at hk
        · cases hk
        · rename_i n' e'; injection hk with a b; subst a; exact ⟨e', rfl, b⟩
        · split at hk <;> cases hk
        · cases hk
      obtain ⟨e', rfl, hss⟩ := harr
      have hkn : ∃ j, C.P.info? e' = some j := by
        have := tiOf_known ht
        unfold fieldsKnown at this
        rw [hd] at this
        exact Option.isSome_iff_exists.1 this
      obtain ⟨j, hj⟩ := hkn
      have hjs : j.size = esz := by rw [← hss]; simp [szOf, hj]
      have hrun : ∀ b o, (Instr.indexAt t (.pointer (some ⟨b, o, none⟩)) (.int kk n)).run C.P w = .ok (.pointer (some ⟨b, o + n.toNat * esz, none⟩)) w := by
        intro b o
        have hc : 0 ≤ n ∧ n < (len : Int) := ⟨h0, by omega⟩
        simp only [Instr.indexAt, asIntOf, Sem.run_bind, Sem.run_pure, Result.andThen_ok, run_under hd, Instr.sureAddr, hc, and_self, if_true, run_szOf hj, add_none, hjs]
      split at e
      · injection e with e; subst e
        cases hx with
        | ptr hk => exact ⟨_, hrun _ _, .ptr hk⟩
      · rename_i y off
        injection e with e; subst e
        cases hx with
        | pv hr => cases hr with
          | rptr _ b o' _ uu hc hr => exact ⟨_, hrun _ _, .pv (by rw [Nat.add_assoc]; exact .rptr y b o' _ uu hc hr)⟩
      · rename_i k m j' off
        split at e
        · rename_i hcur
          injection e with e; subst e
          cases hx with
          | eptr hk hn hu =>
            obtain ⟨hnil, rfl⟩ := hu (current_len hs hk hcur)
            exact ⟨_, hrun _ _, .eptr hk hn (fun _ => ⟨hnil, by rw [Nat.add_assoc]⟩)⟩
        · cases e
      · cases e
    · cases e
  · cases e

theorem evLen_sound {M : Nat → Nat → Prop} (hs : ∀ k b, h1 k = some b → h k = some b) {t ty : TypeId} {ti : TI} (ht : tiOf C.P t = some ti) {x v : AV} {u : Value} (hx : RepA w M L h x u)
    (hrow : ∀ k e sz xs fz, h k = some (.row e sz xs fz) → (L k).isNil = true → xs = []) (e : evLen ti x h1 = some v) :
    ∃ r, (Builtin.len_ #[t] ty #[u]).run C.P w = .ok r w ∧ RepA w M L h v r := by
  unfold evLen at e
  split at e
  · rename_i et esz eb ez xs hk
    obtain ⟨hund, _⟩ := kind_slice ht hk
    injection e with e; subst e
    have : ∃ A c, u = .slice A xs.length c := by
      cases hx with
      | pv hr => cases hr with
        | sl0 a c => exact ⟨a, c, rfl⟩
        | sl _ b o c => exact ⟨_, c, rfl⟩
    obtain ⟨A, c, rfl⟩ := this
    exact ⟨_, by simp [Builtin.len_, run_under hund, goInt], .pv (.val _)⟩
  · rename_i et esz eb ez k n hk
    obtain ⟨hund, _⟩ := kind_slice ht hk
    split at e
    · rename_i e0 sz xs fz hk
      split at e
      · rename_i hl
        injection e with e; subst e
        have hk' := hs _ _ hk
        have : ∃ A c, u = .slice A n c := by
          cases hx with
          | arr hk2 hn2 hu =>
            rw [hk'] at hk2; injection hk2 with hk2; injection hk2 with a1 a2 a3 a4
            subst a3
            rw [hu hl]
            unfold Loc.slice
            cases hnil : (L k).isNil with
            | true => rw [hrow k _ _ _ _ hk' hnil] at hl; simp at hl; exact ⟨none, 0, by simp [← hl]⟩
            | false => exact ⟨_, _, rfl⟩
        obtain ⟨A, c, rfl⟩ := this
        exact ⟨_, by simp [Builtin.len_, run_under hund, goInt], .pv (.val _)⟩
      · cases e
    · cases e
  · cases e

def loS (ul : Option Value) (y : Nat) : Sem Nat := match ul with | some v => Instr.sliceBound v y .sliceB | none => pure 0
def hiS (uh : Option Value) (n c : Nat) : Sem Nat := match uh with | some v => Instr.sliceBound v c .sliceAcap | none => pure n
theorem evSlice_sound {M : Nat → Nat → Prop} {t : TypeId} {ti : TI} (ht : tiOf C.P t = some ti) {x v : AV} {u : Value} (hx : RepA w M L h x u) {lo hi : Option AV} {ul uh : Option Value}
    (hlo : ∀ a, lo = some a → ∃ b, ul = some b ∧ RepA w M L h a b) (hlo0 : lo = none → ul = none) (hhi : ∀ a, hi = some a → ∃ b, uh = some b ∧ RepA w M L h a b) (hhi0 : hi = none → uh = none)
    (e : evSlice ti x lo hi = some v) :
    ∃ r, (Instr.sliceAt t u ul uh none).run C.P w = .ok r w ∧ RepA w M L h v r := by
  unfold evSlice at e
  split at e
  · rename_i et esz eb ez xs hk
    obtain ⟨hund, jt, hj, rfl, rfl, _⟩ := kind_slice ht hk
    simp only at e
    split at e
    · rename_i l r hl hr
      split at e
      · rename_i hc
        obtain ⟨c1, c2, c3, c4⟩ := hc
        injection e with e; subst e
        have hA : ∃ A c, u = .slice A xs.length c ∧ xs.length ≤ c := by
          cases hx with
          | pv hr => cases hr with
            | sl0 a c => exact ⟨a, c, rfl, Nat.zero_le _⟩
            | sl _ b o c _ _ hcap => exact ⟨_, c, rfl, hcap⟩
        obtain ⟨A, c, rfl, hcc⟩ := hA
        have hbl : ∀ y, l ≤ y → (loS ul y).run C.P w = .ok l w := by
          intro y hy
          cases lo with
          | none => rw [hlo0 rfl]; simp at hl; subst hl; rfl
          | some a =>
            obtain ⟨b, rfl, hb⟩ := hlo a rfl
            cases a with
            | pv p => cases p with
              | val vv => cases vv with
                | int kk n =>
                  cases hb with
                  | pv hb =>
                    rw [rep_val_inv hb]
                    simp only at hl
                    split at hl
                    · rename_i h0
                      injection hl with hl
                      have : 0 ≤ n ∧ n ≤ (y : Int) := ⟨h0, by omega⟩
                      simp [loS, Instr.sliceBound, asIntOf, this, hl]
                    · cases hl
                | _ => simp at hl
              | _ => simp at hl
            | _ => simp at hl
        have hbh : (hiS uh xs.length c).run C.P w = .ok r w := by
          cases hi with
          | none => rw [hhi0 rfl]; simp at hr; subst hr; rfl
          | some a =>
            obtain ⟨b, rfl, hb⟩ := hhi a rfl
            cases a with
            | pv p => cases p with
              | val vv => cases vv with
                | int kk n =>
                  cases hb with
                  | pv hb =>
                    rw [rep_val_inv hb]
                    simp only at hr
                    split at hr
                    · rename_i h0
                      injection hr with hr
                      have : 0 ≤ n ∧ n ≤ (c : Int) := ⟨h0, by omega⟩
                      simp [hiS, Instr.sliceBound, asIntOf, this, hr]
                    · cases hr
                | _ => simp at hr
              | _ => simp at hr
            | _ => simp at hr
        refine ⟨.slice (if c = l then A else A.map (·.add (l * jt.size))) (r - l) (c - l), ?_, ?_⟩
        · have hb1 := hbl r c1
          have key : (Instr.sliceBounds true xs.length c ul uh none).run C.P w = .ok (l, r, c) w := by
            unfold Instr.sliceBounds
            cases uh <;> cases ul <;> simp_all [loS, hiS]
          simp only [Instr.sliceAt, Sem.run_bind, run_under hund, Result.andThen_ok, Instr.slice, key, run_szOf hj, Sem.run_pure]
        · have hlen : ((xs.take r).drop l).length = r - l := by simp; omega
          refine .pv ?_
          by_cases hz : r - l = 0
          · have : (xs.take r).drop l = [] := List.eq_nil_of_length_eq_zero (by omega)
            rw [this, hz]; exact .sl0 _ _
          · cases hx with
            | pv hrr => cases hrr with
              | sl0 => simp at c2; omega
              | sl _ b o _ sz uu hcp hsz hcc' hrr =>
                have hcl : ¬ c = l := by omega
                rw [if_neg hcl]
                have hszz : sz = jt.size := by
                  have hx0 : 0 < xs.length := by omega
                  rw [← hsz 0 xs[0] (List.getElem?_eq_getElem hx0)]
                  have := List.all_eq_true.1 c4 xs[0] (List.getElem_mem hx0)
                  simp [okE] at this; exact this.1
                subst hszz
                simp only [Option.map_some, add_none]
                rw [← hlen]
                have hget : ∀ (i : Nat) y, ((xs.take r).drop l)[i]? = some y → xs[l + i]? = some y := by
                  intro i y hy
                  rw [List.getElem?_drop, List.getElem?_take] at hy
                  split at hy
                  · exact hy
                  · cases hy
                refine .sl _ b (o + l * jt.size) _ jt.size (fun i j => uu (l + i) j) (by omega) (fun i y hy => hsz _ y (hget i y hy)) (fun i y j p hy hj => ?_) (fun i y j p hy hj => hrr _ y j p (hget i y hy) hj)
                have := hcc' _ y j p (hget i y hy) hj
                rw [Nat.add_mul] at this
                rw [show o + l * jt.size + (i * jt.size + j) = o + (l * jt.size + i * jt.size + j) from by omega]
                exact this
      · cases e
    · cases e
  · cases e

theorem evElems_sound {ρ : Operand → AV} {σ : Operand → Value} {esz : Nat} : ∀ {ps : List (Nat × Operand)} {k : Nat} {h : Hp} (_ : MemL C L h w) (_ : Froz h1 h) (_ : ∀ x ∈ ps.map (·.2), RepA w (Mst C L h) L h (ρ x) (σ x)) {xs : List PV} {W : List (Nat × Blk)},
    evElems h1 ρ esz k ps = some (xs, W) → After C L h w L (writes h W) w ∧ Froz h1 (writes h W) ∧ xs.length = ps.length ∧ (∀ x ∈ xs, x.cells.length = esz) ∧
      (∀ (q : Nat) (i : Nat) (v : Value), (ps.map fun (i, x) => (i, σ x))[q]? = some (i, v) → i = k + q ∧ ∃ p, xs[q]? = some p ∧ Rep w (Mst C L (writes h W)) p v)
  | [], k, h, hm, hf, hr, xs, W, e => by
    simp only [evElems, Option.some.injEq, Prod.mk.injEq] at e
    obtain ⟨rfl, rfl⟩ := e
    exact ⟨After.refl hm, hf, rfl, by simp, fun q i v h => by simp at h⟩
  | (i, x) :: ps, k, h, hm, hf, hr, xs, W, e => by
    simp only [evElems] at e
    split at e
    · rename_i hik
      subst hik
      split at e
      · rename_i p W1 ps' W2 e1 e2
        split at e
        · rename_i hpl
          injection e with e; injection e with ea eb; subst ea; subst eb
          obtain ⟨a1, a2, a3⟩ := frz_sound hm hf (hr x (by simp)) e1
          obtain ⟨b1, b2, b3, b4, b5⟩ := evElems_sound a1.1 a3 (fun y hy => (hr y (by simp at hy ⊢; exact .inr hy)).mono a1.2.1 a1.2.2) e2
          rw [writes_append]
          refine ⟨a1.trans b1, b2, by simp [b3], ?_, ?_⟩
          · intro y hy
            rcases List.mem_cons.1 hy with rfl | hy
            · exact hpl
            · exact b4 y hy
          · intro q i' v hv
            cases q with
            | zero => simp at hv; obtain ⟨rfl, rfl⟩ := hv; exact ⟨by omega, p, rfl, a2.mono b1.2.1⟩
            | succ q =>
              obtain ⟨c1, p', c2, c3⟩ := b5 q i' v (by simpa using hv)
              exact ⟨by omega, p', by simpa using c2, c3⟩
        · cases e
      · cases e
    · cases e

/-- In-order parts of a slice literal. -/
theorem fill_inorder {esz : Nat} : ∀ {vs : List (Nat × Value)} {k : Nat} {arr : Array Value}, (∀ (q : Nat) i v, vs[q]? = some (i, v) → i = k + q ∧ v.cells.size = esz) → arr.size = (k + vs.length) * esz →
    ∃ arr', Instr.fill (fun i => some (i * esz, esz)) arr vs = some arr' ∧ arr'.size = arr.size ∧ (∀ q, q < k * esz → arr'[q]? = arr[q]?) ∧
      ∀ (q : Nat) i v (j : Nat), vs[q]? = some (i, v) → j < esz → arr'[(k + q) * esz + j]? = v.cells[j]?
  | [], k, arr, _, hs => ⟨arr, rfl, rfl, fun _ _ => rfl, fun q i v j h => by simp at h⟩
  | (i, v) :: vs, k, arr, hv, hs => by
    obtain ⟨hik, hvs⟩ := hv 0 i v rfl
    obtain rfl : k = i := by omega
    have hle : k * esz + esz ≤ arr.size := by rw [hs]; simp only [List.length_cons]; rw [Nat.add_mul, Nat.add_mul]; omega
    have hif : ¬ ((v.cells.size ≠ esz || k * esz + v.cells.size > arr.size) = true) := by simp; omega
    simp only [Instr.fill, if_neg hif]
    have hsp : (v.cells.zipIdx.foldl (fun cs (p : Value × Nat) => cs.setIfInBounds (k * esz + p.2) p.1) arr).toList = splice arr.toList (k * esz) v.cells.toList := by
      have := foldl_splice (k * esz) v.cells.toList 0 arr (by simp; omega)
      rw [← Array.foldl_toList, Array.toList_zipIdx]
      simpa using this
    generalize hA : v.cells.zipIdx.foldl (fun cs (p : Value × Nat) => cs.setIfInBounds (k * esz + p.2) p.1) arr = A at hsp
    have hAs : A.size = arr.size := by
      have : A.toList.length = arr.size := by rw [hsp]; simp [splice]; omega
      simpa using this
    obtain ⟨arr', g1, g2, g3, g4⟩ := fill_inorder (vs := vs) (k := k + 1) (arr := A) (fun q i v' hq => by
      obtain ⟨a, b⟩ := hv (q + 1) i v' (by simpa using hq); exact ⟨by omega, b⟩) (by rw [hAs, hs]; simp only [List.length_cons]; congr 1; omega)
    have hAq : ∀ q, q < k * esz → A[q]? = arr[q]? := by
      intro q hq
      rw [← Array.getElem?_toList, hsp]
      unfold splice
      rw [List.append_assoc, List.getElem?_append_left (by simp; omega), List.getElem?_take, if_pos hq]; simp
    have hAv : ∀ j, j < esz → A[k * esz + j]? = v.cells[j]? := by
      intro j hj
      rw [← Array.getElem?_toList, hsp]
      unfold splice
      rw [List.append_assoc, List.getElem?_append_right (by simp; omega), List.getElem?_append_left (by simp; omega)]
      simp only [List.length_take, Array.length_toList]
      rw [show k * esz + j - min (k * esz) arr.size = j from by omega]
      simp
    refine ⟨arr', g1, by omega, fun q hq => ?_, fun q i' v' j hq hj => ?_⟩
    · rw [g3 q (by rw [Nat.add_mul]; omega), hAq q hq]
    · cases q with
      | zero =>
        simp at hq; obtain ⟨rfl, rfl⟩ := hq
        rw [Nat.add_zero, g3 _ (by rw [Nat.add_mul]; omega), hAv j hj]
      | succ q =>
        have := g4 q i' v' j (by simpa using hq) hj
        rw [show k + (q + 1) = k + 1 + q from by omega]; exact this
end
end Go.Ab
