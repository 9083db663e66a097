import Derived.Test.YthkcghhmacbaaaaGreatDoorProg
import Derived.Below
import Derived.Deep.Draws
import Derived.WalkKit
import Derived.KernelRfl
import Derived.Deep.LoopGhost
import Derived.Deep.QuietTactic
import Derived.BigQuiet
import Derived.Outline
import Derived.IntWalk
import Derived.Lib.Hide
import Derived.WalkSpells
import Derived.WalkLawsBesides
set_option linter.unusedVariables false
set_option linter.unusedSimpArgs false
namespace Go.Proofs.Lt
open Go Go.Proofs Go.RowKit
def greatB (b : Nat) : Bool := 65 ≤ b && b ≤ 90
def smallB (b : Nat) : Bool := 97 ≤ b && b ≤ 122
theorem ret_bool {a b : Bool} (h : a = b) : Ending.returned (.bool a) = .returned (.bool b) := by rw [h]
theorem isGreat_any (s : ByteArray) (hp : 0 < s.size) (w : World) : Calls Tryz.prog 225 #[.string s] w fun e w' => e = .returned (.bool (greatB (s[0]'hp).toNat)) ∧ w = w' := by
  have hne : s.toList ≠ [] := by
    rw [ByteArray.toList_eq]
    intro e
    have : s.data.toList.length = 0 := by rw [e]; rfl
    have h2 : s.data.toList.length = s.size := rfl
    omega
  have hne2 : s.toList.isEmpty = false := by simp [hne]
  go_enter Tryz.func225, Tryz.ntmps225
  go_wp2
  all_goals
    go_ret
    refine ⟨ret_bool ?_, rfl⟩
    rw [Bool.eq_iff_iff]; simp [greatB]; omega
def letterB (b : Nat) : Bool := greatB b || smallB b
/-- how many bytes of the beginning are such -/
def leadL (p : Nat → Bool) (s : ByteArray) : Nat := (s.data.toList.takeWhile fun b => p b.toNat).length
theorem takeW {α : Type} (p : α → Bool) : ∀ (l : List α), (l.takeWhile p).length ≤ l.length ∧ (∀ k (h : k < l.length), k < (l.takeWhile p).length → p l[k] = true) ∧ ∀ h : (l.takeWhile p).length < l.length, p l[(l.takeWhile p).length] = false := by
  intro l
  induction l with
  | nil => exact ⟨Nat.le_refl _, fun k h => absurd h (by simp), fun h => absurd h (by simp)⟩
  | cons a t ih =>
    cases ha : p a with
    | false => simp [List.takeWhile_cons, ha]
    | true =>
      simp only [List.takeWhile_cons, ha, if_true, List.length_cons]
      refine ⟨by omega, fun k h hk => ?_, fun h => ?_⟩
      · cases k with
        | zero => exact ha
        | succ k => exact ih.2.1 k (by simpa using h) (by omega)
      · exact ih.2.2 (by omega)
theorem leadL_facts (p : Nat → Bool) (s : ByteArray) : leadL p s ≤ s.size ∧ (∀ k (h : k < s.size), k < leadL p s → p s[k].toNat = true) ∧ ∀ h : leadL p s < s.size, p (s[leadL p s]'h).toNat = false :=
  takeW (fun b : UInt8 => p b.toNat) s.data.toList
/-- 1 to 40 letters -/
def lettersB (s : ByteArray) : Bool := decide (leadL letterB s = s.size ∧ 0 < s.size ∧ s.size ≤ 40)
theorem toList_ne' {s : ByteArray} (h : 0 < s.size) : s.toList ≠ [] := by
  rw [ByteArray.toList_eq]
  intro e
  have : s.data.toList.length = 0 := by rw [e]; rfl
  have h2 : s.data.toList.length = s.size := rfl
  omega
theorem toList_nil' {s : ByteArray} (h : s.size = 0) : s.toList = [] := by
  rw [ByteArray.toList_eq]
  exact List.eq_nil_of_length_eq_zero h
set_option maxHeartbeats 1000000 in
theorem letters_any (s : ByteArray) (hm : s.size ≤ 9223372036854775807) (w : World) : Calls Tryz.prog 6 #[.string s] w fun e w' => e = .returned (.bool (lettersB s)) ∧ w = w' := by
  obtain ⟨h1, h2, h3⟩ := leadL_facts letterB s
  have HB : Hid (lettersB s = decide (leadL letterB s = s.size ∧ 0 < s.size ∧ s.size ≤ 40)) := Lib.hid rfl
  generalize hL : leadL letterB s = L at h1 h2 h3 HB
  clear hL
  generalize lettersB s = R at *
  go_enter Tryz.func6, Tryz.ntmps6
  go_wp2
  go_loop [3] (fun n => ∃ k : Nat, k ≤ L ∧ n = .int .i64 k) (fun n => s.size - (intOf n).toNat)
  case atStart => exact ⟨0, Nat.zero_le _, rfl⟩
  case round =>
    obtain ⟨k, hk, rfl⟩ := hrel
    by_cases hlt : k < L
    · have hks : k < s.size := by omega
      have c := h2 k hks hlt
      clear h2 h3
      by_cases hg : greatB (s[k]'hks).toNat = true
      · simp only [greatB, Bool.and_eq_true, decide_eq_true_eq] at hg
        have g1 : (65 : Int) ≤ ((s[k]'hks).toNat : Int) := by omega
        have g2 : ((s[k]'hks).toNat : Int) ≤ 90 := by omega
        clear c hg
        go_wp2
        go_round
        case rel => exact ⟨k + 1, by omega, by go_num⟩
        case measure => simp [intOf]; omega
      · have c2 : smallB (s[k]'hks).toNat = true := by simpa [letterB, hg] using c
        simp only [smallB, Bool.and_eq_true, decide_eq_true_eq] at c2
        have g1 : (65 : Int) ≤ ((s[k]'hks).toNat : Int) := by omega
        have g2 : (90 : Int) < ((s[k]'hks).toNat : Int) := by omega
        have g3 : (97 : Int) ≤ ((s[k]'hks).toNat : Int) := by omega
        have g4 : ((s[k]'hks).toNat : Int) ≤ 122 := by omega
        clear c hg c2
        go_wp2
        go_round
        case rel => exact ⟨k + 1, by omega, by go_num⟩
        case measure => simp [intOf]; omega
    · obtain rfl : k = L := by omega
      by_cases hks : k < s.size
      · have c := h3 hks
        have hR : R = false := by rw [HB.out]; exact decide_eq_false (by omega)
        subst hR
        simp only [letterB, greatB, smallB, Bool.or_eq_false_iff, Bool.and_eq_false_iff, decide_eq_false_iff_not] at c
        clear h2 h3
        have H : (s[k]'hks).toNat < 65 ∨ (90 < (s[k]'hks).toNat ∧ (s[k]'hks).toNat < 97) ∨ 122 < (s[k]'hks).toNat := by omega
        clear c
        rcases H with g | ⟨g, g'⟩ | g
        · have g1 : ((s[k]'hks).toNat : Int) < 65 := by omega
          clear g
          go_wp2
          all_goals (go_ret; exact ⟨rfl, rfl⟩)
        · have g1 : 90 < ((s[k]'hks).toNat : Int) := by omega
          have g2 : ((s[k]'hks).toNat : Int) < 97 := by omega
          have g3 : 65 ≤ ((s[k]'hks).toNat : Int) := by omega
          have g5 : decide (((s[k]'hks).toNat : Int) ≤ 90) = false := decide_eq_false (by omega)
          clear g g'
          go_wp2
          all_goals (go_ret; exact ⟨rfl, rfl⟩)
        · have g1 : 122 < ((s[k]'hks).toNat : Int) := by omega
          have g2 : 90 < ((s[k]'hks).toNat : Int) := by omega
          have g3 : 65 ≤ ((s[k]'hks).toNat : Int) := by omega
          have g4 : 97 ≤ ((s[k]'hks).toNat : Int) := by omega
          have g5 : decide (((s[k]'hks).toNat : Int) ≤ 90) = false := decide_eq_false (by omega)
          have g6 : decide (((s[k]'hks).toNat : Int) ≤ 122) = false := decide_eq_false (by omega)
          clear g
          go_wp2
          all_goals (go_ret; exact ⟨rfl, rfl⟩)
      · by_cases h0 : s.size = 0
        · have hz := toList_nil' h0
          have hR : R = false := by rw [HB.out]; exact decide_eq_false (by omega)
          subst hR
          clear h2 h3
          go_wp2
          all_goals (go_ret; exact ⟨rfl, rfl⟩)
        · have hz := toList_ne' (s := s) (by omega)
          have hz2 : s.toList.isEmpty = false := by simp [hz]
          clear h2 h3
          by_cases h40 : s.size ≤ 40
          · have hR : R = true := by rw [HB.out]; exact decide_eq_true (by omega)
            subst hR
            go_wp2
            all_goals (go_ret; exact ⟨by first | rfl | exact ret_bool (decide_eq_true (by omega)) | exact ret_bool (by simp; omega), rfl⟩)
          · have hR : R = false := by rw [HB.out]; exact decide_eq_false (by omega)
            subst hR
            go_wp2
            all_goals (go_ret; exact ⟨by first | rfl | exact ret_bool (decide_eq_false (by omega)) | exact ret_bool (by simp; omega), rfl⟩)
end Go.Proofs.Lt
