import Derived.Test.YteilmpcdlpibgaaGreatDoorProg
import Derived.Below
import Derived.Deep.Draws
import Derived.WalkKit
import Derived.KernelRfl
import Derived.Deep.LoopGhost
import Derived.Deep.QuietTactic
import Derived.BigQuiet
import Derived.Outline
import Derived.IntWalk
import Derived.Lib.Hide
import Derived.WalkSpells
import Derived.WalkLawsBesides
set_option linter.unusedVariables false
set_option linter.unusedSimpArgs false
namespace Go.Proofs.Sc
open Go Go.Proofs Go.RowKit
def letB (b : Nat) : Bool := (97 ≤ b && b ≤ 122) || (65 ≤ b && b ≤ 90) || b == 95
def digB (b : Nat) : Bool := 48 ≤ b && b ≤ 57
def partB (b : Nat) : Bool := letB b || digB b
theorem ret_bool {a b : Bool} (h : a = b) : Ending.returned (.bool a) = .returned (.bool b) := by rw [h]
theorem isDigit (b : Nat) (w : World) : Calls Tryz.prog 334 #[.int .u8 b] w fun e w' => e = .returned (.bool (digB b)) ∧ w = w' := by
  go_enter Tryz.func334, Tryz.ntmps334
  go_wp2
  all_goals
    go_ret
    refine ⟨ret_bool ?_, rfl⟩
    rw [Bool.eq_iff_iff]; simp [digB]; omega
theorem isLetter (b : Nat) (w : World) : Calls Tryz.prog 332 #[.int .u8 b] w fun e w' => e = .returned (.bool (letB b)) ∧ w = w' := by
  go_enter Tryz.func332, Tryz.ntmps332
  go_wp2
  all_goals
    go_ret
    refine ⟨ret_bool ?_, rfl⟩
    rw [Bool.eq_iff_iff]; simp [letB]; omega
theorem isPart_t (b : Nat) (h : partB b = true) (w : World) : Calls Tryz.prog 367 #[.int .u8 b] w fun e w' => e = .returned (.bool true) ∧ w = w' := by
  cases hl : letB b with
  | true =>
    have c := isLetter b w
    rw [hl] at c
    go_enter Tryz.func367, Tryz.ntmps367
    go_wp2_with (go_at_call 332; refine c.mono ?_; rintro e w' ⟨rfl, rfl⟩)
    go_ret; exact ⟨rfl, rfl⟩
  | false =>
    have c := isLetter b w
    have d := isDigit b w
    have hd : digB b = true := by unfold partB at h; rw [hl] at h; simpa using h
    rw [hl] at c; rw [hd] at d
    go_enter Tryz.func367, Tryz.ntmps367
    go_wp2_with (first | (go_at_call 332; refine c.mono ?_; rintro e w' ⟨rfl, rfl⟩) | (go_at_call 334; refine d.mono ?_; rintro e w' ⟨rfl, rfl⟩))
    go_ret; exact ⟨rfl, rfl⟩
theorem isPart_f (b : Nat) (h : partB b = false) (w : World) : Calls Tryz.prog 367 #[.int .u8 b] w fun e w' => e = .returned (.bool false) ∧ w = w' := by
  have c := isLetter b w
  have d := isDigit b w
  unfold partB at h
  rw [Bool.or_eq_false_iff] at h
  rw [h.1] at c; rw [h.2] at d
  clear h
  go_enter Tryz.func367, Tryz.ntmps367
  go_wp2_with (first | (go_at_call 332; refine c.mono ?_; rintro e w' ⟨rfl, rfl⟩) | (go_at_call 334; refine d.mono ?_; rintro e w' ⟨rfl, rfl⟩))
  go_ret; exact ⟨rfl, rfl⟩
theorem isDigit_t (b : Nat) (h : digB b = true) (w : World) : Calls Tryz.prog 334 #[.int .u8 b] w fun e w' => e = .returned (.bool true) ∧ w = w' := h ▸ isDigit b w
theorem isDigit_f (b : Nat) (h : digB b = false) (w : World) : Calls Tryz.prog 334 #[.int .u8 b] w fun e w' => e = .returned (.bool false) ∧ w = w' := h ▸ isDigit b w
/-- how many bytes of the beginning are such -/
def lead (p : Nat → Bool) (s : ByteArray) : Nat := (s.data.toList.takeWhile fun b => p b.toNat).length
theorem takeWhile_facts {α : Type} (p : α → Bool) : ∀ (l : List α), (l.takeWhile p).length ≤ l.length ∧ (∀ k (h : k < l.length), k < (l.takeWhile p).length → p l[k] = true) ∧ ∀ h : (l.takeWhile p).length < l.length, p l[(l.takeWhile p).length] = false := by
  intro l
  induction l with
  | nil => exact ⟨Nat.le_refl _, fun k h => absurd h (by simp), fun h => absurd h (by simp)⟩
  | cons a t ih =>
    cases ha : p a with
    | false => simp [List.takeWhile_cons, ha]
    | true =>
      simp only [List.takeWhile_cons, ha, if_true, List.length_cons]
      refine ⟨by omega, fun k h hk => ?_, fun h => ?_⟩
      · cases k with
        | zero => exact ha
        | succ k => exact ih.2.1 k (by simpa using h) (by omega)
      · exact ih.2.2 (by omega)
theorem lead_facts (p : Nat → Bool) (s : ByteArray) : lead p s ≤ s.size ∧ (∀ k (h : k < s.size), k < lead p s → p s[k].toNat = true) ∧ ∀ h : lead p s < s.size, p (s[lead p s]'h).toNat = false :=
  takeWhile_facts (fun b : UInt8 => p b.toNat) s.data.toList
set_option maxHeartbeats 400000 in
theorem run_part (s : ByteArray) (hs : s.size ≤ 1000000) (w : World) : Calls Tryz.prog 328 #[.string s, .func (.func 367) #[] #[]] w fun e w' => e = .returned (.int .i64 (lead partB s)) ∧ w = w' := by
  obtain ⟨h1, h2, h3⟩ := lead_facts partB s
  generalize hL : lead partB s = L at h1 h2 h3
  clear hL
  go_enter Tryz.func328, Tryz.ntmps328
  go_wp2
  go_loop [5] (fun n => ∃ k : Nat, k ≤ L ∧ n = .int .i64 k) (fun n => s.size - (intOf n).toNat)
  case atStart => exact ⟨0, Nat.zero_le _, rfl⟩
  case round =>
    obtain ⟨k, hk, rfl⟩ := hrel
    by_cases hlt : k < L
    · have hks : k < s.size := by omega
      have c := isPart_t _ (h2 k hks hlt) w
      clear h2 h3
      go_wp2_with (go_at_call 367; refine c.mono ?_; rintro e w' ⟨rfl, rfl⟩)
      go_round
      case rel => exact ⟨k + 1, by omega, by go_num⟩
      case measure => simp [intOf]; omega
    · obtain rfl : k = L := by omega
      by_cases hks : k < s.size
      · have c := isPart_f _ (h3 hks) w
        clear h2 h3
        go_wp2_with (go_at_call 367; refine c.mono ?_; rintro e w' ⟨rfl, rfl⟩)
        go_ret
        exact ⟨rfl, rfl⟩
      · clear h2 h3
        go_wp2
        go_ret
        exact ⟨rfl, rfl⟩
set_option maxHeartbeats 400000 in
theorem run_dig (s : ByteArray) (hs : s.size ≤ 1000000) (w : World) : Calls Tryz.prog 328 #[.string s, .func (.func 334) #[] #[]] w fun e w' => e = .returned (.int .i64 (lead digB s)) ∧ w = w' := by
  obtain ⟨h1, h2, h3⟩ := lead_facts digB s
  generalize hL : lead digB s = L at h1 h2 h3
  clear hL
  go_enter Tryz.func328, Tryz.ntmps328
  go_wp2
  go_loop [5] (fun n => ∃ k : Nat, k ≤ L ∧ n = .int .i64 k) (fun n => s.size - (intOf n).toNat)
  case atStart => exact ⟨0, Nat.zero_le _, rfl⟩
  case round =>
    obtain ⟨k, hk, rfl⟩ := hrel
    by_cases hlt : k < L
    · have hks : k < s.size := by omega
      have c := isDigit_t _ (h2 k hks hlt) w
      clear h2 h3
      go_wp2_with (go_at_call 334; refine c.mono ?_; rintro e w' ⟨rfl, rfl⟩)
      go_round
      case rel => exact ⟨k + 1, by omega, by go_num⟩
      case measure => simp [intOf]; omega
    · obtain rfl : k = L := by omega
      by_cases hks : k < s.size
      · have c := isDigit_f _ (h3 hks) w
        clear h2 h3
        go_wp2_with (go_at_call 334; refine c.mono ?_; rintro e w' ⟨rfl, rfl⟩)
        go_ret
        exact ⟨rfl, rfl⟩
      · clear h2 h3
        go_wp2
        go_ret
        exact ⟨rfl, rfl⟩
end Go.Proofs.Sc
