/- Contracts: names. -/
import Derived.Test.YtgamhginhckcpaaCf12
import Derived.Laws.RangeString
import Derived.Laws.RangeAny
import Derived.LoopTactic
set_option linter.all false
namespace Go.Ab
open Go.Proofs
def lowB (b : Nat) : Bool := decide (97 ≤ b) && decide (b ≤ 122)
def digB (b : Nat) : Bool := decide (48 ≤ b) && decide (b ≤ 57)
/-- A letter of a name at a place. -/
def okAt (k b : Nat) : Bool := lowB b || (decide (k ≠ 0) && (digB b || decide (b = 95)))
def lettersB (s : ByteArray) : Bool := (List.range s.size).all fun i => okAt i (s[i]!).toNat
def nameB (s : ByteArray) : Bool := decide (1 ≤ s.size) && decide (s.size ≤ 16) && !(s.toList == [119, 111, 114, 108, 100]) && lettersB s
theorem letters_no {s : ByteArray} {i : Nat} (h : i < s.size) (hb : okAt i (s[i]'h).toNat = false) : lettersB s = false := by
  rw [lettersB, List.all_eq_false]
  exact ⟨i, by simpa using h, by rw [getElem!_pos s i h, hb]; simp⟩
theorem letters_yes {s : ByteArray} (h : ∀ i (hi : i < s.size), okAt i (s[i]'hi).toNat = true) : lettersB s = true := by
  rw [lettersB, List.all_eq_true]
  intro i hi
  have hi' : i < s.size := by simpa using hi
  rw [getElem!_pos s i hi']; exact h i hi'
theorem width_pos' (s : ByteArray) (pos : Nat) (h : pos < s.size) : 1 ≤ (Utf8.decode s pos).2 := by
  by_cases ha : (s[pos]'h).toNat < 128
  · rw [decode_ascii s pos h ha]
    exact Nat.le_refl _
  · exact (decode_high s pos h (by omega)).2
theorem step_ok {s : ByteArray} {pos c : Nat} {hp : pos < s.size} (hc : (s[pos]'hp).toNat = c) (hc' : okAt pos c = true) (hok : ∀ i (hi : i < s.size), i < pos → okAt i (s[i]'hi).toNat = true) : ∀ i (hi : i < s.size), i < pos + 1 → okAt i (s[i]'hi).toNat = true := by
  intro i hi h
  by_cases e : i = pos
  · subst e; rw [hc]; exact hc'
  · exact hok i hi (by omega)
set_option maxRecDepth 1000000 in
set_option maxHeartbeats 4000000 in
theorem walkName (s : ByteArray) (w : World) (h1 : ¬ s.size = 0) (h2 : ¬ s.size > 16) (h3 : (s.toList == [119, 111, 114, 108, 100]) = false) :
    Calls Try.prog 121 #[.string s] w fun e w' => e = .returned (.bool (lettersB s)) ∧ (w' = w ∨ ∃ pos, w' = w.iter s pos) := by
  have q1 : ((s.size : Int) == 0) = false := by simp; intro h; exact h1 (by simp [h])
  have q2 : ¬ ((16 : Int) < (s.size : Int)) := by omega
  go_enter Try.func121, Try.ntmps121
  go_wp2
  go_loopw [19] (fun _ w' => ∃ pos, w' = w.iter s pos ∧ ∀ i (hi : i < s.size), i < pos → okAt i (s[i]'hi).toNat = true) (fun _ w' => s.size - w'.iterPos w.heap.size)
  case atStart => exact ⟨0, rfl, fun i hi h => by omega⟩
  case round =>
    obtain ⟨pos, rfl, hok⟩ := hrel
    by_cases hp : pos < s.size
    · by_cases ha : (s[pos]'hp).toNat < 128
      · have hnx : ∀ ty, (Instr.next (.pointer (some ⟨w.heap.size, 0, none⟩)) true ty).run Try.prog (w.iter s pos) = _ := fun ty => run_next_ascii w s pos ty hp ha
        generalize hc : (s[pos]'hp).toNat = c at hnx ha
        have key : (97 ≤ c ∧ c ≤ 122) ∨ (¬ 97 ≤ c ∧ pos = 0) ∨ (97 ≤ c ∧ ¬ c ≤ 122 ∧ pos = 0) ∨ (¬ 97 ≤ c ∧ ¬ pos = 0 ∧ 48 ≤ c ∧ c ≤ 57) ∨ (¬ 97 ≤ c ∧ ¬ pos = 0 ∧ ¬ 48 ≤ c) ∨ (¬ 97 ≤ c ∧ ¬ pos = 0 ∧ ¬ c ≤ 57 ∧ c = 95) ∨ (¬ 97 ≤ c ∧ ¬ pos = 0 ∧ ¬ c ≤ 57 ∧ ¬ c = 95) ∨ (97 ≤ c ∧ ¬ c ≤ 122 ∧ ¬ pos = 0) := by omega
        rcases key with ⟨k1, k2⟩ | ⟨k1, k2⟩ | ⟨k1, k2, k3⟩ | ⟨k1, k2, k3, k4⟩ | ⟨k1, k2, k3⟩ | ⟨k1, k2, k3, k4⟩ | ⟨k1, k2, k3, k4⟩ | ⟨k1, k2, k3⟩
        · have m1 : (97 : Int) ≤ (c : Int) := by omega
          have m2 : (c : Int) ≤ 122 := by omega
          go_wp2
          go_roundw
          case rel => exact ⟨pos + 1, rfl, step_ok hc (by simp [okAt, lowB, digB]; omega) hok⟩
          case measure => simp; omega
        · have m1 : ¬ (97 : Int) ≤ (c : Int) := by omega
          subst k2
          have hb : lettersB s = false := letters_no hp (by rw [hc]; simp [okAt, lowB, digB]; omega)
          go_wp2
          go_ret
          exact ⟨by first | rfl | (rw [hb]; rfl), .inr ⟨_, rfl⟩⟩
        · have m1 : (97 : Int) ≤ (c : Int) := by omega
          have m2 : ¬ (c : Int) ≤ 122 := by omega
          subst k3
          have hb : lettersB s = false := letters_no hp (by rw [hc]; simp [okAt, lowB, digB]; omega)
          go_wp2
          go_ret
          exact ⟨by first | rfl | (rw [hb]; rfl), .inr ⟨_, rfl⟩⟩
        · have m1 : ¬ (97 : Int) ≤ (c : Int) := by omega
          have m2 : ((pos : Int) == 0) = false := by simp; omega
          have m3 : (48 : Int) ≤ (c : Int) := by omega
          have m4 : (c : Int) ≤ 57 := by omega
          go_wp2
          go_roundw
          case rel => exact ⟨pos + 1, rfl, step_ok hc (by simp [okAt, lowB, digB]; omega) hok⟩
          case measure => simp; omega
        · have m1 : ¬ (97 : Int) ≤ (c : Int) := by omega
          have m2 : ((pos : Int) == 0) = false := by simp; omega
          have m3 : ¬ (48 : Int) ≤ (c : Int) := by omega
          have m4 : ((c : Int) != 95) = true := by simp; omega
          have hb : lettersB s = false := letters_no hp (by rw [hc]; simp [okAt, lowB, digB]; omega)
          go_wp2
          go_ret
          exact ⟨by first | rfl | (rw [hb]; rfl), .inr ⟨_, rfl⟩⟩
        · have m1 : ¬ (97 : Int) ≤ (c : Int) := by omega
          have m2 : ((pos : Int) == 0) = false := by simp; omega
          have m3 : (48 : Int) ≤ (c : Int) := by omega
          have m5 : ¬ (c : Int) ≤ 57 := by omega
          have m4 : ((c : Int) != 95) = false := by simp; omega
          go_wp2
          go_roundw
          case rel => exact ⟨pos + 1, rfl, step_ok hc (by simp [okAt, lowB, digB]; omega) hok⟩
          case measure => simp; omega
        · have m1 : ¬ (97 : Int) ≤ (c : Int) := by omega
          have m2 : ((pos : Int) == 0) = false := by simp; omega
          have m3 : (48 : Int) ≤ (c : Int) := by omega
          have m5 : ¬ (c : Int) ≤ 57 := by omega
          have m4 : ((c : Int) != 95) = true := by simp; omega
          have hb : lettersB s = false := letters_no hp (by rw [hc]; simp [okAt, lowB, digB]; omega)
          go_wp2
          go_ret
          exact ⟨by first | rfl | (rw [hb]; rfl), .inr ⟨_, rfl⟩⟩
        · have m1 : (97 : Int) ≤ (c : Int) := by omega
          have m6 : ¬ (c : Int) ≤ 122 := by omega
          have m2 : ((pos : Int) == 0) = false := by simp; omega
          have m3 : (48 : Int) ≤ (c : Int) := by omega
          have m5 : ¬ (c : Int) ≤ 57 := by omega
          have m4 : ((c : Int) != 95) = true := by simp; omega
          have hb : lettersB s = false := letters_no hp (by rw [hc]; simp [okAt, lowB, digB]; omega)
          go_wp2
          go_ret
          exact ⟨by first | rfl | (rw [hb]; rfl), .inr ⟨_, rfl⟩⟩
      · have hnx : ∀ ty, (Instr.next (.pointer (some ⟨w.heap.size, 0, none⟩)) true ty).run Try.prog (w.iter s pos) = _ := fun ty => run_next_any w s pos ty hp
        have hh := (decode_high s pos hp (by omega)).1
        generalize (Utf8.decode s pos).1 = c at hnx hh
        generalize (Utf8.decode s pos).2 = wd at hnx
        have hb : lettersB s = false := letters_no hp (by simp [okAt, lowB, digB]; omega)
        have m1 : (97 : Int) ≤ (c : Int) := by omega
        have m6 : ¬ (c : Int) ≤ 122 := by omega
        have m3 : (48 : Int) ≤ (c : Int) := by omega
        have m5 : ¬ (c : Int) ≤ 57 := by omega
        have m4 : ((c : Int) != 95) = true := by simp; omega
        by_cases k0 : pos = 0
        · subst k0
          go_wp2
          go_ret
          exact ⟨by first | rfl | (rw [hb]; rfl), .inr ⟨_, rfl⟩⟩
        · have m2 : ((pos : Int) == 0) = false := by simp; omega
          go_wp2
          go_ret
          exact ⟨by first | rfl | (rw [hb]; rfl), .inr ⟨_, rfl⟩⟩
    · have hnx : ∀ ty, (Instr.next (.pointer (some ⟨w.heap.size, 0, none⟩)) true ty).run Try.prog (w.iter s pos) = _ := fun ty => run_next_end w s pos ty hp
      go_wp2
      go_ret
      exact ⟨by rw [letters_yes (fun i hi => hok i hi (by omega))]; rfl, .inr ⟨_, rfl⟩⟩
set_option maxRecDepth 1000000 in
theorem walkName0 (s : ByteArray) (w : World) (h : s.size = 0 ∨ s.size > 16 ∨ (s.toList == [119, 111, 114, 108, 100]) = true) :
    Calls Try.prog 121 #[.string s] w fun e w' => e = .returned (.bool false) ∧ w' = w := by
  by_cases h1 : s.size = 0
  · have q1 : ((s.size : Int) == 0) = true := by simp [h1]
    go_enter Try.func121, Try.ntmps121
    go_wp2
    go_ret
    exact ⟨rfl, rfl⟩
  · have q1 : ((s.size : Int) == 0) = false := by simp; intro h; exact h1 (by simp [h])
    by_cases h2 : s.size > 16
    · have q2 : ((16 : Int) < (s.size : Int)) := by omega
      go_enter Try.func121, Try.ntmps121
      go_wp2
      go_ret
      exact ⟨rfl, rfl⟩
    · have q2 : ¬ ((16 : Int) < (s.size : Int)) := by omega
      have h3 : (s.toList == [119, 111, 114, 108, 100]) = true := by rcases h with h | h | h <;> first | exact absurd h h1 | exact absurd h h2 | exact h
      go_enter Try.func121, Try.ntmps121
      go_wp2
      go_ret
      exact ⟨rfl, rfl⟩
theorem d121 (s : ByteArray) : DetH Try.prog 121 [.pv (.val (.string s))] [] [] (.pv (B (nameB s))) := by
  refine ⟨by kernel_rfl, rfl, fun w M bs vs hM hbs hnd hbox hlen harg => ?_⟩
  match vs, hlen with
  | [v], _ =>
    have hv : Rep w M (.val (.string s)) v := harg 0 _ _ rfl rfl
    cases hv
    have ext0 : Ext (· ∈ bs) w w := Ext.refl _ _
    have exti : ∀ pos, Ext (· ∈ bs) w (w.iter s pos) := fun pos => Ext.alloc _ _ _
    have hb0 : bs = [] := by cases bs with
      | nil => rfl
      | cons b r => simp at hbs
    subst hb0
    by_cases h : s.size = 0 ∨ s.size > 16 ∨ (s.toList == [119, 111, 114, 108, 100]) = true
    · have hf : nameB s = false := by
        unfold nameB
        rcases h with h | h | h
        · simp [h]
        · simp; omega
        · simp [h]
      refine (walkName0 s w h).mono ?_
      rintro e w' ⟨rfl, rfl⟩
      exact ⟨_, rfl, ext0, fun i b ps h => by simp at h, by rw [hf]; exact .val _⟩
    · have h1 : ¬ s.size = 0 := fun e => h (.inl e)
      have h2 : ¬ s.size > 16 := fun e => h (.inr (.inl e))
      have h3 : (s.toList == [119, 111, 114, 108, 100]) = false := by
        cases hq : s.toList == [119, 111, 114, 108, 100] with
        | false => rfl
        | true => exact absurd (.inr (.inr hq)) h
      have hf : nameB s = lettersB s := by
        unfold nameB
        rw [h3]
        have a1 : decide (1 ≤ s.size) = true := by simp; omega
        have a2 : decide (s.size ≤ 16) = true := by simp; omega
        rw [a1, a2]; simp
      refine (walkName s w h1 h2 h3).mono ?_
      rintro e w' ⟨rfl, hw⟩
      rcases hw with rfl | ⟨pos, rfl⟩
      · exact ⟨_, rfl, ext0, fun i b ps h => by simp at h, by rw [hf]; exact .val _⟩
      · exact ⟨_, rfl, exti pos, fun i b ps h => by simp at h, by rw [hf]; exact .val _⟩
end Go.Ab
