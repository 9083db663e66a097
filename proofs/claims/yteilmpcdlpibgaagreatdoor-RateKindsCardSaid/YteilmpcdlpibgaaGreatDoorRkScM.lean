import Derived.Test.YteilmpcdlpibgaaGreatDoorRkScL
set_option linter.unusedVariables false
set_option linter.unusedSimpArgs false
namespace Go.Proofs.Sc
open Go Go.Proofs Go.RowKit
def kws : List (List UInt8) := [[98, 114, 101, 97, 107], [99, 97, 115, 101], [99, 104, 97, 110], [99, 111, 110, 115, 116], [99, 111, 110, 116, 105, 110, 117, 101], [100, 101, 102, 97, 117, 108, 116], [100, 101, 102, 101, 114], [101, 108, 115, 101], [102, 97, 108, 108, 116, 104, 114, 111, 117, 103, 104], [102, 111, 114], [102, 117, 110, 99], [103, 111], [103, 111, 116, 111], [105, 102], [105, 109, 112, 111, 114, 116], [112, 97, 99, 107, 97, 103, 101], [114, 97, 110, 103, 101], [114, 101, 116, 117, 114, 110], [115, 101, 108, 101, 99, 116], [115, 116, 114, 117, 99, 116], [115, 119, 105, 116, 99, 104], [116, 121, 112, 101], [118, 97, 114]]
set_option maxHeartbeats 4000000 in
set_option maxRecDepth 100000 in
theorem isWord_no (s : ByteArray) (h : ∀ k, k ∈ kws → (s.toList == k) = false) (w : World) : Calls Tryz.prog 368 #[.string s] w fun e w' => e = .returned (.bool false) ∧ w = w' := by
  have h0 := h [98, 114, 101, 97, 107] (by decide)
  have h1 := h [99, 97, 115, 101] (by decide)
  have h2 := h [99, 104, 97, 110] (by decide)
  have h3 := h [99, 111, 110, 115, 116] (by decide)
  have h4 := h [99, 111, 110, 116, 105, 110, 117, 101] (by decide)
  have h5 := h [100, 101, 102, 97, 117, 108, 116] (by decide)
  have h6 := h [100, 101, 102, 101, 114] (by decide)
  have h7 := h [101, 108, 115, 101] (by decide)
  have h8 := h [102, 97, 108, 108, 116, 104, 114, 111, 117, 103, 104] (by decide)
  have h9 := h [102, 111, 114] (by decide)
  have h10 := h [102, 117, 110, 99] (by decide)
  have h11 := h [103, 111] (by decide)
  have h12 := h [103, 111, 116, 111] (by decide)
  have h13 := h [105, 102] (by decide)
  have h14 := h [105, 109, 112, 111, 114, 116] (by decide)
  have h15 := h [112, 97, 99, 107, 97, 103, 101] (by decide)
  have h16 := h [114, 97, 110, 103, 101] (by decide)
  have h17 := h [114, 101, 116, 117, 114, 110] (by decide)
  have h18 := h [115, 101, 108, 101, 99, 116] (by decide)
  have h19 := h [115, 116, 114, 117, 99, 116] (by decide)
  have h20 := h [115, 119, 105, 116, 99, 104] (by decide)
  have h21 := h [116, 121, 112, 101] (by decide)
  have h22 := h [118, 97, 114] (by decide)
  clear h
  go_enter Tryz.func368, Tryz.ntmps368
  go_wp2
  go_ret; exact ⟨rfl, rfl⟩
def ops : List (List UInt8) := [[43], [45], [42], [47], [37], [38], [60], [62], [61], [33], [40], [41], [91], [93], [123], [125], [44], [59], [46], [58], [38, 38], [124, 124], [61, 61], [33, 61], [60, 61], [62, 61], [58, 61], [43, 61], [45, 61], [42, 61], [43, 43], [45, 45], [60, 45]]
set_option maxHeartbeats 4000000 in
set_option maxRecDepth 100000 in
theorem isOp_no (s : ByteArray) (h : ∀ k, k ∈ ops → (s.toList == k) = false) (w : World) : Calls Tryz.prog 370 #[.string s] w fun e w' => e = .returned (.bool false) ∧ w = w' := by
  have h0 := h [43] (by decide)
  have h1 := h [45] (by decide)
  have h2 := h [42] (by decide)
  have h3 := h [47] (by decide)
  have h4 := h [37] (by decide)
  have h5 := h [38] (by decide)
  have h6 := h [60] (by decide)
  have h7 := h [62] (by decide)
  have h8 := h [61] (by decide)
  have h9 := h [33] (by decide)
  have h10 := h [40] (by decide)
  have h11 := h [41] (by decide)
  have h12 := h [91] (by decide)
  have h13 := h [93] (by decide)
  have h14 := h [123] (by decide)
  have h15 := h [125] (by decide)
  have h16 := h [44] (by decide)
  have h17 := h [59] (by decide)
  have h18 := h [46] (by decide)
  have h19 := h [58] (by decide)
  have h20 := h [38, 38] (by decide)
  have h21 := h [124, 124] (by decide)
  have h22 := h [61, 61] (by decide)
  have h23 := h [33, 61] (by decide)
  have h24 := h [60, 61] (by decide)
  have h25 := h [62, 61] (by decide)
  have h26 := h [58, 61] (by decide)
  have h27 := h [43, 61] (by decide)
  have h28 := h [45, 61] (by decide)
  have h29 := h [42, 61] (by decide)
  have h30 := h [43, 43] (by decide)
  have h31 := h [45, 45] (by decide)
  have h32 := h [60, 45] (by decide)
  clear h
  go_enter Tryz.func370, Tryz.ntmps370
  go_wp2
  go_ret; exact ⟨rfl, rfl⟩
theorem kw_break (w : World) : Calls Tryz.prog 368 #[.string ⟨#[98, 114, 101, 97, 107]⟩] w fun e w' => e = .returned (.bool true) ∧ w = w' := by
  go_enter Tryz.func368, Tryz.ntmps368
  go_wp2
  go_ret; exact ⟨rfl, rfl⟩
theorem kw_case (w : World) : Calls Tryz.prog 368 #[.string ⟨#[99, 97, 115, 101]⟩] w fun e w' => e = .returned (.bool true) ∧ w = w' := by
  go_enter Tryz.func368, Tryz.ntmps368
  go_wp2
  go_ret; exact ⟨rfl, rfl⟩
theorem kw_chan (w : World) : Calls Tryz.prog 368 #[.string ⟨#[99, 104, 97, 110]⟩] w fun e w' => e = .returned (.bool true) ∧ w = w' := by
  go_enter Tryz.func368, Tryz.ntmps368
  go_wp2
  go_ret; exact ⟨rfl, rfl⟩
theorem kw_const (w : World) : Calls Tryz.prog 368 #[.string ⟨#[99, 111, 110, 115, 116]⟩] w fun e w' => e = .returned (.bool true) ∧ w = w' := by
  go_enter Tryz.func368, Tryz.ntmps368
  go_wp2
  go_ret; exact ⟨rfl, rfl⟩
theorem kw_continue (w : World) : Calls Tryz.prog 368 #[.string ⟨#[99, 111, 110, 116, 105, 110, 117, 101]⟩] w fun e w' => e = .returned (.bool true) ∧ w = w' := by
  go_enter Tryz.func368, Tryz.ntmps368
  go_wp2
  go_ret; exact ⟨rfl, rfl⟩
theorem kw_default (w : World) : Calls Tryz.prog 368 #[.string ⟨#[100, 101, 102, 97, 117, 108, 116]⟩] w fun e w' => e = .returned (.bool true) ∧ w = w' := by
  go_enter Tryz.func368, Tryz.ntmps368
  go_wp2
  go_ret; exact ⟨rfl, rfl⟩
theorem kw_defer (w : World) : Calls Tryz.prog 368 #[.string ⟨#[100, 101, 102, 101, 114]⟩] w fun e w' => e = .returned (.bool true) ∧ w = w' := by
  go_enter Tryz.func368, Tryz.ntmps368
  go_wp2
  go_ret; exact ⟨rfl, rfl⟩
theorem kw_else (w : World) : Calls Tryz.prog 368 #[.string ⟨#[101, 108, 115, 101]⟩] w fun e w' => e = .returned (.bool true) ∧ w = w' := by
  go_enter Tryz.func368, Tryz.ntmps368
  go_wp2
  go_ret; exact ⟨rfl, rfl⟩
theorem kw_fallthrough (w : World) : Calls Tryz.prog 368 #[.string ⟨#[102, 97, 108, 108, 116, 104, 114, 111, 117, 103, 104]⟩] w fun e w' => e = .returned (.bool true) ∧ w = w' := by
  go_enter Tryz.func368, Tryz.ntmps368
  go_wp2
  go_ret; exact ⟨rfl, rfl⟩
theorem kw_for (w : World) : Calls Tryz.prog 368 #[.string ⟨#[102, 111, 114]⟩] w fun e w' => e = .returned (.bool true) ∧ w = w' := by
  go_enter Tryz.func368, Tryz.ntmps368
  go_wp2
  go_ret; exact ⟨rfl, rfl⟩
theorem kw_func (w : World) : Calls Tryz.prog 368 #[.string ⟨#[102, 117, 110, 99]⟩] w fun e w' => e = .returned (.bool true) ∧ w = w' := by
  go_enter Tryz.func368, Tryz.ntmps368
  go_wp2
  go_ret; exact ⟨rfl, rfl⟩
theorem kw_go (w : World) : Calls Tryz.prog 368 #[.string ⟨#[103, 111]⟩] w fun e w' => e = .returned (.bool true) ∧ w = w' := by
  go_enter Tryz.func368, Tryz.ntmps368
  go_wp2
  go_ret; exact ⟨rfl, rfl⟩
theorem kw_goto (w : World) : Calls Tryz.prog 368 #[.string ⟨#[103, 111, 116, 111]⟩] w fun e w' => e = .returned (.bool true) ∧ w = w' := by
  go_enter Tryz.func368, Tryz.ntmps368
  go_wp2
  go_ret; exact ⟨rfl, rfl⟩
theorem kw_if (w : World) : Calls Tryz.prog 368 #[.string ⟨#[105, 102]⟩] w fun e w' => e = .returned (.bool true) ∧ w = w' := by
  go_enter Tryz.func368, Tryz.ntmps368
  go_wp2
  go_ret; exact ⟨rfl, rfl⟩
theorem kw_import (w : World) : Calls Tryz.prog 368 #[.string ⟨#[105, 109, 112, 111, 114, 116]⟩] w fun e w' => e = .returned (.bool true) ∧ w = w' := by
  go_enter Tryz.func368, Tryz.ntmps368
  go_wp2
  go_ret; exact ⟨rfl, rfl⟩
theorem kw_package (w : World) : Calls Tryz.prog 368 #[.string ⟨#[112, 97, 99, 107, 97, 103, 101]⟩] w fun e w' => e = .returned (.bool true) ∧ w = w' := by
  go_enter Tryz.func368, Tryz.ntmps368
  go_wp2
  go_ret; exact ⟨rfl, rfl⟩
theorem kw_range (w : World) : Calls Tryz.prog 368 #[.string ⟨#[114, 97, 110, 103, 101]⟩] w fun e w' => e = .returned (.bool true) ∧ w = w' := by
  go_enter Tryz.func368, Tryz.ntmps368
  go_wp2
  go_ret; exact ⟨rfl, rfl⟩
theorem kw_return (w : World) : Calls Tryz.prog 368 #[.string ⟨#[114, 101, 116, 117, 114, 110]⟩] w fun e w' => e = .returned (.bool true) ∧ w = w' := by
  go_enter Tryz.func368, Tryz.ntmps368
  go_wp2
  go_ret; exact ⟨rfl, rfl⟩
theorem kw_select (w : World) : Calls Tryz.prog 368 #[.string ⟨#[115, 101, 108, 101, 99, 116]⟩] w fun e w' => e = .returned (.bool true) ∧ w = w' := by
  go_enter Tryz.func368, Tryz.ntmps368
  go_wp2
  go_ret; exact ⟨rfl, rfl⟩
theorem kw_struct (w : World) : Calls Tryz.prog 368 #[.string ⟨#[115, 116, 114, 117, 99, 116]⟩] w fun e w' => e = .returned (.bool true) ∧ w = w' := by
  go_enter Tryz.func368, Tryz.ntmps368
  go_wp2
  go_ret; exact ⟨rfl, rfl⟩
theorem kw_switch (w : World) : Calls Tryz.prog 368 #[.string ⟨#[115, 119, 105, 116, 99, 104]⟩] w fun e w' => e = .returned (.bool true) ∧ w = w' := by
  go_enter Tryz.func368, Tryz.ntmps368
  go_wp2
  go_ret; exact ⟨rfl, rfl⟩
theorem kw_type (w : World) : Calls Tryz.prog 368 #[.string ⟨#[116, 121, 112, 101]⟩] w fun e w' => e = .returned (.bool true) ∧ w = w' := by
  go_enter Tryz.func368, Tryz.ntmps368
  go_wp2
  go_ret; exact ⟨rfl, rfl⟩
theorem kw_var (w : World) : Calls Tryz.prog 368 #[.string ⟨#[118, 97, 114]⟩] w fun e w' => e = .returned (.bool true) ∧ w = w' := by
  go_enter Tryz.func368, Tryz.ntmps368
  go_wp2
  go_ret; exact ⟨rfl, rfl⟩
theorem op_0 (w : World) : Calls Tryz.prog 370 #[.string ⟨#[43]⟩] w fun e w' => e = .returned (.bool true) ∧ w = w' := by
  go_enter Tryz.func370, Tryz.ntmps370
  go_wp2
  go_ret; exact ⟨rfl, rfl⟩
theorem op_1 (w : World) : Calls Tryz.prog 370 #[.string ⟨#[45]⟩] w fun e w' => e = .returned (.bool true) ∧ w = w' := by
  go_enter Tryz.func370, Tryz.ntmps370
  go_wp2
  go_ret; exact ⟨rfl, rfl⟩
theorem op_2 (w : World) : Calls Tryz.prog 370 #[.string ⟨#[42]⟩] w fun e w' => e = .returned (.bool true) ∧ w = w' := by
  go_enter Tryz.func370, Tryz.ntmps370
  go_wp2
  go_ret; exact ⟨rfl, rfl⟩
theorem op_3 (w : World) : Calls Tryz.prog 370 #[.string ⟨#[47]⟩] w fun e w' => e = .returned (.bool true) ∧ w = w' := by
  go_enter Tryz.func370, Tryz.ntmps370
  go_wp2
  go_ret; exact ⟨rfl, rfl⟩
theorem op_4 (w : World) : Calls Tryz.prog 370 #[.string ⟨#[37]⟩] w fun e w' => e = .returned (.bool true) ∧ w = w' := by
  go_enter Tryz.func370, Tryz.ntmps370
  go_wp2
  go_ret; exact ⟨rfl, rfl⟩
theorem op_5 (w : World) : Calls Tryz.prog 370 #[.string ⟨#[38]⟩] w fun e w' => e = .returned (.bool true) ∧ w = w' := by
  go_enter Tryz.func370, Tryz.ntmps370
  go_wp2
  go_ret; exact ⟨rfl, rfl⟩
theorem op_6 (w : World) : Calls Tryz.prog 370 #[.string ⟨#[60]⟩] w fun e w' => e = .returned (.bool true) ∧ w = w' := by
  go_enter Tryz.func370, Tryz.ntmps370
  go_wp2
  go_ret; exact ⟨rfl, rfl⟩
theorem op_7 (w : World) : Calls Tryz.prog 370 #[.string ⟨#[62]⟩] w fun e w' => e = .returned (.bool true) ∧ w = w' := by
  go_enter Tryz.func370, Tryz.ntmps370
  go_wp2
  go_ret; exact ⟨rfl, rfl⟩
theorem op_8 (w : World) : Calls Tryz.prog 370 #[.string ⟨#[61]⟩] w fun e w' => e = .returned (.bool true) ∧ w = w' := by
  go_enter Tryz.func370, Tryz.ntmps370
  go_wp2
  go_ret; exact ⟨rfl, rfl⟩
theorem op_9 (w : World) : Calls Tryz.prog 370 #[.string ⟨#[33]⟩] w fun e w' => e = .returned (.bool true) ∧ w = w' := by
  go_enter Tryz.func370, Tryz.ntmps370
  go_wp2
  go_ret; exact ⟨rfl, rfl⟩
theorem op_10 (w : World) : Calls Tryz.prog 370 #[.string ⟨#[40]⟩] w fun e w' => e = .returned (.bool true) ∧ w = w' := by
  go_enter Tryz.func370, Tryz.ntmps370
  go_wp2
  go_ret; exact ⟨rfl, rfl⟩
theorem op_11 (w : World) : Calls Tryz.prog 370 #[.string ⟨#[41]⟩] w fun e w' => e = .returned (.bool true) ∧ w = w' := by
  go_enter Tryz.func370, Tryz.ntmps370
  go_wp2
  go_ret; exact ⟨rfl, rfl⟩
theorem op_12 (w : World) : Calls Tryz.prog 370 #[.string ⟨#[91]⟩] w fun e w' => e = .returned (.bool true) ∧ w = w' := by
  go_enter Tryz.func370, Tryz.ntmps370
  go_wp2
  go_ret; exact ⟨rfl, rfl⟩
theorem op_13 (w : World) : Calls Tryz.prog 370 #[.string ⟨#[93]⟩] w fun e w' => e = .returned (.bool true) ∧ w = w' := by
  go_enter Tryz.func370, Tryz.ntmps370
  go_wp2
  go_ret; exact ⟨rfl, rfl⟩
theorem op_14 (w : World) : Calls Tryz.prog 370 #[.string ⟨#[123]⟩] w fun e w' => e = .returned (.bool true) ∧ w = w' := by
  go_enter Tryz.func370, Tryz.ntmps370
  go_wp2
  go_ret; exact ⟨rfl, rfl⟩
theorem op_15 (w : World) : Calls Tryz.prog 370 #[.string ⟨#[125]⟩] w fun e w' => e = .returned (.bool true) ∧ w = w' := by
  go_enter Tryz.func370, Tryz.ntmps370
  go_wp2
  go_ret; exact ⟨rfl, rfl⟩
theorem op_16 (w : World) : Calls Tryz.prog 370 #[.string ⟨#[44]⟩] w fun e w' => e = .returned (.bool true) ∧ w = w' := by
  go_enter Tryz.func370, Tryz.ntmps370
  go_wp2
  go_ret; exact ⟨rfl, rfl⟩
theorem op_17 (w : World) : Calls Tryz.prog 370 #[.string ⟨#[59]⟩] w fun e w' => e = .returned (.bool true) ∧ w = w' := by
  go_enter Tryz.func370, Tryz.ntmps370
  go_wp2
  go_ret; exact ⟨rfl, rfl⟩
theorem op_18 (w : World) : Calls Tryz.prog 370 #[.string ⟨#[46]⟩] w fun e w' => e = .returned (.bool true) ∧ w = w' := by
  go_enter Tryz.func370, Tryz.ntmps370
  go_wp2
  go_ret; exact ⟨rfl, rfl⟩
theorem op_19 (w : World) : Calls Tryz.prog 370 #[.string ⟨#[58]⟩] w fun e w' => e = .returned (.bool true) ∧ w = w' := by
  go_enter Tryz.func370, Tryz.ntmps370
  go_wp2
  go_ret; exact ⟨rfl, rfl⟩
theorem op_20 (w : World) : Calls Tryz.prog 370 #[.string ⟨#[38, 38]⟩] w fun e w' => e = .returned (.bool true) ∧ w = w' := by
  go_enter Tryz.func370, Tryz.ntmps370
  go_wp2
  go_ret; exact ⟨rfl, rfl⟩
theorem op_21 (w : World) : Calls Tryz.prog 370 #[.string ⟨#[124, 124]⟩] w fun e w' => e = .returned (.bool true) ∧ w = w' := by
  go_enter Tryz.func370, Tryz.ntmps370
  go_wp2
  go_ret; exact ⟨rfl, rfl⟩
theorem op_22 (w : World) : Calls Tryz.prog 370 #[.string ⟨#[61, 61]⟩] w fun e w' => e = .returned (.bool true) ∧ w = w' := by
  go_enter Tryz.func370, Tryz.ntmps370
  go_wp2
  go_ret; exact ⟨rfl, rfl⟩
theorem op_23 (w : World) : Calls Tryz.prog 370 #[.string ⟨#[33, 61]⟩] w fun e w' => e = .returned (.bool true) ∧ w = w' := by
  go_enter Tryz.func370, Tryz.ntmps370
  go_wp2
  go_ret; exact ⟨rfl, rfl⟩
theorem op_24 (w : World) : Calls Tryz.prog 370 #[.string ⟨#[60, 61]⟩] w fun e w' => e = .returned (.bool true) ∧ w = w' := by
  go_enter Tryz.func370, Tryz.ntmps370
  go_wp2
  go_ret; exact ⟨rfl, rfl⟩
theorem op_25 (w : World) : Calls Tryz.prog 370 #[.string ⟨#[62, 61]⟩] w fun e w' => e = .returned (.bool true) ∧ w = w' := by
  go_enter Tryz.func370, Tryz.ntmps370
  go_wp2
  go_ret; exact ⟨rfl, rfl⟩
theorem op_26 (w : World) : Calls Tryz.prog 370 #[.string ⟨#[58, 61]⟩] w fun e w' => e = .returned (.bool true) ∧ w = w' := by
  go_enter Tryz.func370, Tryz.ntmps370
  go_wp2
  go_ret; exact ⟨rfl, rfl⟩
theorem op_27 (w : World) : Calls Tryz.prog 370 #[.string ⟨#[43, 61]⟩] w fun e w' => e = .returned (.bool true) ∧ w = w' := by
  go_enter Tryz.func370, Tryz.ntmps370
  go_wp2
  go_ret; exact ⟨rfl, rfl⟩
theorem op_28 (w : World) : Calls Tryz.prog 370 #[.string ⟨#[45, 61]⟩] w fun e w' => e = .returned (.bool true) ∧ w = w' := by
  go_enter Tryz.func370, Tryz.ntmps370
  go_wp2
  go_ret; exact ⟨rfl, rfl⟩
theorem op_29 (w : World) : Calls Tryz.prog 370 #[.string ⟨#[42, 61]⟩] w fun e w' => e = .returned (.bool true) ∧ w = w' := by
  go_enter Tryz.func370, Tryz.ntmps370
  go_wp2
  go_ret; exact ⟨rfl, rfl⟩
theorem op_30 (w : World) : Calls Tryz.prog 370 #[.string ⟨#[43, 43]⟩] w fun e w' => e = .returned (.bool true) ∧ w = w' := by
  go_enter Tryz.func370, Tryz.ntmps370
  go_wp2
  go_ret; exact ⟨rfl, rfl⟩
theorem op_31 (w : World) : Calls Tryz.prog 370 #[.string ⟨#[45, 45]⟩] w fun e w' => e = .returned (.bool true) ∧ w = w' := by
  go_enter Tryz.func370, Tryz.ntmps370
  go_wp2
  go_ret; exact ⟨rfl, rfl⟩
theorem op_32 (w : World) : Calls Tryz.prog 370 #[.string ⟨#[60, 45]⟩] w fun e w' => e = .returned (.bool true) ∧ w = w' := by
  go_enter Tryz.func370, Tryz.ntmps370
  go_wp2
  go_ret; exact ⟨rfl, rfl⟩
end Go.Proofs.Sc
