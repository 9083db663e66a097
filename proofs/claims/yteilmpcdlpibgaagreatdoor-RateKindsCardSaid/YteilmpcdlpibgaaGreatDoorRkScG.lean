import Derived.Test.YteilmpcdlpibgaaGreatDoorRkScF
set_option linter.unusedVariables false
set_option linter.unusedSimpArgs false
namespace Go.Proofs.Sc
open Go Go.Proofs Go.RowKit
set_option maxHeartbeats 1000000 in
/-- an operator of two bytes -/
theorem op2_at {w0 w : World} {b : Nat} {rest : ByteArray} {f l c : Int} {k : Nat} {xs : List Value} (h : At w0 w b rest f l c k xs) (hn : 2 ≤ rest.size) (hs : rest.size ≤ 1000000) (h0 : 0 ≤ c) (h1 : c ≤ 1000000) (hk : k ≤ 1000000)
    (hnl : ∀ k, k < 2 → rest.data.toList.getD k 0 ≠ 10) (t : ByteArray) (ht : rest.extract 0 2 = t) (hw : ∀ w, Calls Tryz.prog 370 #[.string t] w fun e w' => e = .returned (.bool true) ∧ w = w') :
    Calls Tryz.prog 337 #[.pointer (some ⟨b, 0, none⟩)] w fun e w' => e = .returned (.int .i64 0) ∧ At w0 w' b (rest.extract 2 rest.size) f l (c + 2) (k + 1) (xs ++ tokC 5 t f l c) := by
  have hpu := put_at h 5 t 2 hn hs h0 h1 hk hnl
  obtain ⟨out, ⟨c0, c1, c2, c3, c4, f0, f3, f4⟩, _⟩ := h
  have q : (2 : Int) ≤ (rest.size : Int) := by omega
  clear hnl
  go_enter Tryz.func337, Tryz.ntmps337
  go_wp2
  go_loop [3] (fun n => n = .int .i64 2) (fun n => 0)
  case atStart => simp
  case round =>
    subst hrel
    go_wp2_with (first | (go_at_call 370; refine (hw _).mono ?_; rintro e w' ⟨rfl, rfl⟩) | (go_at_call 247; refine hpu.mono ?_; rintro e w2 ⟨rfl, hA⟩))
    go_ret
    exact ⟨rfl, hA⟩
set_option maxHeartbeats 1000000 in
/-- an operator of one byte -/
theorem op1_at {w0 w : World} {b : Nat} {rest : ByteArray} {f l c : Int} {k : Nat} {xs : List Value} (h : At w0 w b rest f l c k xs) (hn : 2 ≤ rest.size) (hs : rest.size ≤ 1000000) (h0 : 0 ≤ c) (h1 : c ≤ 1000000) (hk : k ≤ 1000000)
    (hnl : ∀ k, k < 1 → rest.data.toList.getD k 0 ≠ 10) (u t : ByteArray) (hu : rest.extract 0 2 = u) (ht : rest.extract 0 1 = t) (hw2 : ∀ w, Calls Tryz.prog 370 #[.string u] w fun e w' => e = .returned (.bool false) ∧ w = w')
    (hw : ∀ w, Calls Tryz.prog 370 #[.string t] w fun e w' => e = .returned (.bool true) ∧ w = w') :
    Calls Tryz.prog 337 #[.pointer (some ⟨b, 0, none⟩)] w fun e w' => e = .returned (.int .i64 0) ∧ At w0 w' b (rest.extract 1 rest.size) f l (c + 1) (k + 1) (xs ++ tokC 5 t f l c) := by
  have hpu := put_at h 5 t 1 (by omega) hs h0 h1 hk hnl
  obtain ⟨out, ⟨c0, c1, c2, c3, c4, f0, f3, f4⟩, _⟩ := h
  have q : (2 : Int) ≤ (rest.size : Int) := by omega
  clear hnl
  go_enter Tryz.func337, Tryz.ntmps337
  go_wp2
  go_loop [3] (fun n => n = .int .i64 2 ∨ n = .int .i64 1) (fun n => (intOf n).toNat)
  case atStart => simp
  case round =>
    rcases hrel with rfl | rfl
    · go_wp2_with (first | (go_at_call 370; refine (hw2 _).mono ?_; rintro e w' ⟨rfl, rfl⟩))
      go_round
      case rel => exact .inr rfl
      case measure => simp [intOf]
    · go_wp2_with (first | (go_at_call 370; refine (hw _).mono ?_; rintro e w' ⟨rfl, rfl⟩) | (go_at_call 247; refine hpu.mono ?_; rintro e w2 ⟨rfl, hA⟩))
      go_ret
      exact ⟨rfl, hA⟩
set_option maxHeartbeats 1000000 in
/-- .. at the text's end -/
theorem op1_end {w0 w : World} {b : Nat} {rest : ByteArray} {f l c : Int} {k : Nat} {xs : List Value} (h : At w0 w b rest f l c k xs) (hn : rest.size = 1) (h0 : 0 ≤ c) (h1 : c ≤ 1000000) (hk : k ≤ 1000000)
    (hnl : ∀ k, k < 1 → rest.data.toList.getD k 0 ≠ 10) (t : ByteArray) (ht : rest.extract 0 1 = t)
    (hw : ∀ w, Calls Tryz.prog 370 #[.string t] w fun e w' => e = .returned (.bool true) ∧ w = w') :
    Calls Tryz.prog 337 #[.pointer (some ⟨b, 0, none⟩)] w fun e w' => e = .returned (.int .i64 0) ∧ At w0 w' b (rest.extract 1 rest.size) f l (c + 1) (k + 1) (xs ++ tokC 5 t f l c) := by
  have hpu := put_at h 5 t 1 (by omega) (by omega) h0 h1 hk hnl
  obtain ⟨out, ⟨c0, c1, c2, c3, c4, f0, f3, f4⟩, _⟩ := h
  have q : (rest.size : Int) = 1 := by omega
  clear hnl
  go_enter Tryz.func337, Tryz.ntmps337
  go_wp2
  go_loop [3] (fun n => n = .int .i64 1) (fun n => (intOf n).toNat)
  case atStart => simp [hn]
  case round =>
    subst hrel
    go_wp2_with (first | (go_at_call 370; refine (hw _).mono ?_; rintro e w' ⟨rfl, rfl⟩) | (go_at_call 247; refine hpu.mono ?_; rintro e w2 ⟨rfl, hA⟩))
    go_ret
    exact ⟨rfl, hA⟩
end Go.Proofs.Sc
