import Derived.Test.YteilmpcdlpibgaaGreatDoorRkScN
set_option linter.unusedVariables false
set_option linter.unusedSimpArgs false
namespace Go.Proofs.Sc
open Go Go.Proofs Go.RowKit
theorem allB_lit (p : Nat → Bool) (l : List UInt8) (h : l.all (fun b => p b.toNat) = true) : AllB p ⟨l.toArray⟩ := fun k hk =>
  List.all_eq_true.1 h _ (List.getElem_mem (show k < l.length from hk))
theorem stops_app (p : Nat → Bool) (x : UInt8) (t : ByteArray) (h : p x.toNat = false) : Stops p (⟨#[x]⟩ ++ t) := fun q =>
  (congrArg (fun y : UInt8 => p y.toNat) (app_get ⟨#[x]⟩ t 0 (by show 0 < 1; decide) q)).trans h
theorem stops_nil (p : Nat → Bool) : Stops p ByteArray.empty := fun q => absurd q (by decide)
theorem app_pos (x : UInt8) (t : ByteArray) : 0 < (⟨#[x]⟩ ++ t : ByteArray).size := by
  rw [ByteArray.size_append]; exact Nat.lt_of_lt_of_le (show 0 < 1 by decide) (Nat.le_add_right _ _)
/-- an operator of one byte with a blank behind it -/
theorem item_blanked {fi : Int} (x : UInt8) (t : ByteArray) (hl : letB x.toNat = false) (hd : digB x.toNat = false) (hg : ¬ (x.toNat = 10 ∨ x.toNat = 32 ∨ x.toNat = 9 ∨ x.toNat = 13 ∨ x.toNat = 34))
    (hn : [x, 32] ∉ ops) (hw : ∀ w, Calls Tryz.prog 370 #[.string ⟨#[x]⟩] w fun e w' => e = .returned (.bool true) ∧ w = w') :
    ItemOK fi ⟨⟨#[x]⟩, some (5, ⟨#[x]⟩)⟩ (⟨#[32]⟩ ++ t) := by
  have ht := app_pos 32 t
  have h0 : (⟨#[32]⟩ ++ t : ByteArray)[0]'ht = 32 := app_get ⟨#[32]⟩ t 0 (by decide) ht
  refine item_op1 x _ ht hl hd hg (fun _ => by rw [h0]; decide) (fun w => ?_) hw
  rw [h0]
  refine isOp_no _ (fun k hk => ?_) w
  rw [ByteArray.toList_eq, beq_eq_false_iff_ne]
  rintro rfl
  exact hn hk
/-- .. with a name behind it -/
theorem item_named {fi : Int} (x : UInt8) (A t : ByteArray) (hl : letB x.toNat = false) (hd : digB x.toNat = false) (hg : ¬ (x.toNat = 10 ∨ x.toNat = 32 ∨ x.toNat = 9 ∨ x.toNat = 13 ∨ x.toNat = 34))
    (hp : 0 < A.size) (hA : letB (A[0]'hp).toNat = true) (hn : ∀ y : UInt8, letB y.toNat = true → [x, y] ∉ ops) (hw : ∀ w, Calls Tryz.prog 370 #[.string ⟨#[x]⟩] w fun e w' => e = .returned (.bool true) ∧ w = w') :
    ItemOK fi ⟨⟨#[x]⟩, some (5, ⟨#[x]⟩)⟩ (A ++ t) := by
  have ht : 0 < (A ++ t).size := by rw [ByteArray.size_append]; omega
  have h0 : (A ++ t)[0]'ht = A[0]'hp := app_get A t 0 hp ht
  refine item_op1 x _ ht hl hd hg (fun _ => by
    rw [h0]
    constructor
    · intro e; rw [e] at hA; exact absurd hA (by decide)
    · intro e; rw [e] at hA; exact absurd hA (by decide)) (fun w => ?_) hw
  rw [h0]
  refine isOp_no _ (fun k hk => ?_) w
  rw [ByteArray.toList_eq, beq_eq_false_iff_ne]
  rintro rfl
  exact hn _ hA hk
def blank : Item := ⟨⟨#[32]⟩, none⟩
def kwI (l : List UInt8) : Item := ⟨⟨l.toArray⟩, some (6, ⟨l.toArray⟩)⟩
def wordI (l : List UInt8) : Item := ⟨⟨l.toArray⟩, some (2, ⟨l.toArray⟩)⟩
def opI (l : List UInt8) : Item := ⟨⟨l.toArray⟩, some (5, ⟨l.toArray⟩)⟩
def nameI (A : ByteArray) : Item := ⟨A, some (2, A)⟩
/-- a name: letters, none of the document's words -/
structure IsName (A : ByteArray) : Prop where
  pos : 0 < A.size
  all : AllB letB A
  no : ∀ k, k ∈ kws → (A.toList == k) = false
theorem IsName.first {A : ByteArray} (h : IsName A) : letB (A[0]'h.pos).toNat = true := h.all 0 h.pos
theorem IsName.item {A : ByteArray} (h : IsName A) {fi : Int} (tail : ByteArray) (hs : Stops partB tail) : ItemOK fi (nameI A) tail :=
  item_word A false tail h.pos h.first (fun k hk => by unfold partB; rw [h.all k hk]; rfl) hs (isWord_no A h.no)
theorem word_item {fi : Int} (l : List UInt8) (x : UInt8) (r : List UInt8) (hx : l = x :: r) (t : ByteArray) (h1 : letB x.toNat = true) (h2 : l.all (fun b => partB b.toNat) = true) (h3 : l ∉ kws) (hs : Stops partB t) : ItemOK fi (wordI l) t := by
  subst hx
  refine item_word ⟨(x :: r).toArray⟩ false t (Nat.succ_pos _) h1 (allB_lit _ _ h2) hs (isWord_no _ fun k hk => ?_)
  rw [ByteArray.toList_eq, beq_eq_false_iff_ne]
  rintro rfl
  exact h3 hk
theorem kw_item {fi : Int} (l : List UInt8) (x : UInt8) (r : List UInt8) (hx : l = x :: r) (t : ByteArray) (h1 : letB x.toNat = true) (h2 : l.all (fun b => partB b.toNat) = true) (hs : Stops partB t)
    (hw : ∀ w, Calls Tryz.prog 368 #[.string ⟨l.toArray⟩] w fun e w' => e = .returned (.bool true) ∧ w = w') : ItemOK fi (kwI l) t := by
  subst hx
  exact item_word ⟨(x :: r).toArray⟩ true t (Nat.succ_pos _) h1 (allB_lit _ _ h2) hs hw
/-- package p; import "q"; var x q. -/
def init1 : List Item := [kwI [112, 97, 99, 107, 97, 103, 101], blank, wordI [112], opI [59], blank, kwI [105, 109, 112, 111, 114, 116], blank, ⟨quoted ⟨#[113]⟩, some (4, ⟨#[113]⟩)⟩, opI [59], blank, kwI [118, 97, 114], blank, wordI [120], blank, wordI [113], opI [46]]
/-- package q; type .. -/
def init2 (N : ByteArray) : List Item := [kwI [112, 97, 99, 107, 97, 103, 101], blank, wordI [113], opI [59], blank, kwI [116, 121, 112, 101], blank, nameI N, blank]
theorem dot_ops (y : UInt8) (h : letB y.toNat = true) : [46, y] ∉ ops := by
  intro hk
  simp [ops] at hk
theorem ok1 {fi : Int} {A : ByteArray} (h : IsName A) : ItemsOK fi (init1 ++ [nameI A]) := by
  refine ⟨⟨by decide, kw_item _ _ _ rfl _ (by decide) (by decide) (stops_app _ _ _ (by decide)) kw_package⟩, ⟨by decide, item_blank _⟩, ⟨by decide, word_item _ _ _ rfl _ (by decide) (by decide) (by decide) (stops_app _ _ _ (by decide))⟩,
    ⟨by decide, item_blanked 59 _ (by decide) (by decide) (by decide) (by decide) op_17⟩, ⟨by decide, item_blank _⟩,
    ⟨by decide, kw_item _ _ _ rfl _ (by decide) (by decide) (stops_app _ _ _ (by decide)) kw_import⟩, ⟨by decide, item_blank _⟩,
    ⟨by rw [quoted_size]; decide, item_text ⟨#[113]⟩ _ (allB_lit _ [113] (by decide))⟩,
    ⟨by decide, item_blanked 59 _ (by decide) (by decide) (by decide) (by decide) op_17⟩, ⟨by decide, item_blank _⟩,
    ⟨by decide, kw_item _ _ _ rfl _ (by decide) (by decide) (stops_app _ _ _ (by decide)) kw_var⟩, ⟨by decide, item_blank _⟩,
    ⟨by decide, word_item _ _ _ rfl _ (by decide) (by decide) (by decide) (stops_app _ _ _ (by decide))⟩, ⟨by decide, item_blank _⟩,
    ⟨by decide, word_item _ _ _ rfl _ (by decide) (by decide) (by decide) (stops_app _ _ _ (by decide))⟩,
    ⟨by decide, item_named 46 A _ (by decide) (by decide) (by decide) h.pos h.first dot_ops op_18⟩,
    ⟨h.pos, h.item _ (stops_nil _)⟩, trivial⟩
theorem ok2 {fi : Int} {N : ByteArray} (h : IsName N) : ItemsOK fi (init2 N ++ [wordI [105, 110, 116]]) := by
  refine ⟨⟨by decide, kw_item _ _ _ rfl _ (by decide) (by decide) (stops_app _ _ _ (by decide)) kw_package⟩, ⟨by decide, item_blank _⟩, ⟨by decide, word_item _ _ _ rfl _ (by decide) (by decide) (by decide) (stops_app _ _ _ (by decide))⟩,
    ⟨by decide, item_blanked 59 _ (by decide) (by decide) (by decide) (by decide) op_17⟩, ⟨by decide, item_blank _⟩,
    ⟨by decide, kw_item _ _ _ rfl _ (by decide) (by decide) (stops_app _ _ _ (by decide)) kw_type⟩, ⟨by decide, item_blank _⟩,
    ⟨h.pos, h.item _ (stops_app _ _ _ (by decide))⟩, ⟨by decide, item_blank _⟩,
    ⟨by decide, word_item _ _ _ rfl _ (by decide) (by decide) (by decide) (stops_nil _)⟩, trivial⟩
def text1 (A : ByteArray) : ByteArray := ⟨#[112, 97, 99, 107, 97, 103, 101, 32, 112, 59, 32, 105, 109, 112, 111, 114, 116, 32, 34, 113, 34, 59, 32, 118, 97, 114, 32, 120, 32, 113, 46]⟩ ++ A
def text2 (N : ByteArray) : ByteArray := ⟨#[112, 97, 99, 107, 97, 103, 101, 32, 113, 59, 32, 116, 121, 112, 101, 32]⟩ ++ N ++ ⟨#[32, 105, 110, 116]⟩
theorem cat1 (A : ByteArray) : catR (init1 ++ [nameI A]) = text1 A := by
  apply ByteArray.ext
  apply Array.ext'
  simp [catR, init1, text1, quoted, kwI, wordI, opI, nameI, blank, ByteArray.data_append]
theorem cat2 (N : ByteArray) : catR (init2 N ++ [wordI [105, 110, 116]]) = text2 N := by
  apply ByteArray.ext
  apply Array.ext'
  simp [catR, init2, text2, kwI, wordI, opI, nameI, blank, ByteArray.data_append]
theorem tokens_1 (fi : Int) {A : ByteArray} (h : IsName A) (hs : A.size ≤ 40) (w : World) : Calls Tryz.prog 194 #[.int .i64 fi, .string (text1 A)] w (TokPost fi w (init1 ++ [nameI A])) := by
  have := tokens_any fi init1 (nameI A) 2 A w rfl (.inl rfl) (ok1 h) (by rw [cat1]; unfold text1; rw [ByteArray.size_append]; show 31 + A.size ≤ _; omega)
  rwa [cat1] at this
theorem tokens_2 (fi : Int) {N : ByteArray} (h : IsName N) (hs : N.size ≤ 40) (w : World) : Calls Tryz.prog 194 #[.int .i64 fi, .string (text2 N)] w (TokPost fi w (init2 N ++ [wordI [105, 110, 116]])) := by
  have := tokens_any fi (init2 N) (wordI [105, 110, 116]) 2 ⟨#[105, 110, 116]⟩ w rfl (.inl rfl) (ok2 h) (by rw [cat2]; unfold text2; rw [ByteArray.size_append, ByteArray.size_append]; show 16 + N.size + 4 ≤ _; omega)
  rwa [cat2] at this
/-- a word of the document's in the name's place -/
theorem kw_any : ∀ l, l ∈ kws → ∀ w, Calls Tryz.prog 368 #[.string ⟨l.toArray⟩] w fun e w' => e = .returned (.bool true) ∧ w = w' := by
  simp only [kws, List.forall_mem_cons]
  exact ⟨kw_break, kw_case, kw_chan, kw_const, kw_continue, kw_default, kw_defer, kw_else, kw_fallthrough, kw_for, kw_func, kw_go, kw_goto, kw_if, kw_import, kw_package, kw_range, kw_return, kw_select, kw_struct, kw_switch, kw_type, kw_var, fun _ h => by cases h⟩
theorem kws_letters : ∀ l, l ∈ kws → (match l with | x :: _ => letB x.toNat && l.all (fun b => partB b.toNat) && decide (l.length ≤ 20) | [] => false) = true := by decide
def pre2 : List Item := [kwI [112, 97, 99, 107, 97, 103, 101], blank, wordI [113], opI [59], blank, kwI [116, 121, 112, 101], blank]
def init2k (l : List UInt8) : List Item := pre2 ++ [kwI l, blank]
theorem ok2k {fi : Int} {l : List UInt8} (hl : l ∈ kws) : ItemsOK fi (init2k l ++ [wordI [105, 110, 116]]) := by
  have hk := kws_letters l hl
  have hw := kw_any l hl
  cases l with
  | nil => cases hk
  | cons x r =>
    have hk : (letB x.toNat && (x :: r).all (fun b => partB b.toNat) && decide ((x :: r).length ≤ 20)) = true := hk
    rw [Bool.and_eq_true, Bool.and_eq_true] at hk
    exact ⟨⟨by decide, kw_item _ _ _ rfl _ (by decide) (by decide) (stops_app _ _ _ (by decide)) kw_package⟩, ⟨by decide, item_blank _⟩, ⟨by decide, word_item _ _ _ rfl _ (by decide) (by decide) (by decide) (stops_app _ _ _ (by decide))⟩,
      ⟨by decide, item_blanked 59 _ (by decide) (by decide) (by decide) (by decide) op_17⟩, ⟨by decide, item_blank _⟩,
      ⟨by decide, kw_item _ _ _ rfl _ (by decide) (by decide) (stops_app _ _ _ (by decide)) kw_type⟩, ⟨by decide, item_blank _⟩,
      ⟨Nat.succ_pos _, kw_item _ _ _ rfl _ hk.1.1 hk.1.2 (stops_app _ _ _ (by decide)) hw⟩, ⟨by decide, item_blank _⟩,
      ⟨by decide, word_item _ _ _ rfl _ (by decide) (by decide) (by decide) (stops_nil _)⟩, trivial⟩
theorem cat2k (l : List UInt8) : catR (init2k l ++ [wordI [105, 110, 116]]) = ⟨([112, 97, 99, 107, 97, 103, 101, 32, 113, 59, 32, 116, 121, 112, 101, 32] ++ l ++ [32, 105, 110, 116]).toArray⟩ := by
  apply ByteArray.ext
  apply Array.ext'
  simp [catR, init2k, pre2, kwI, wordI, opI, blank, ByteArray.data_append]
theorem tokens_2k (fi : Int) {l : List UInt8} (hl : l ∈ kws) (w : World) : Calls Tryz.prog 194 #[.int .i64 fi, .string ⟨([112, 97, 99, 107, 97, 103, 101, 32, 113, 59, 32, 116, 121, 112, 101, 32] ++ l ++ [32, 105, 110, 116]).toArray⟩] w (TokPost fi w (init2k l ++ [wordI [105, 110, 116]])) := by
  have hs : (catR (init2k l ++ [wordI [105, 110, 116]])).size ≤ 65536 := by
    have hk := kws_letters l hl
    rw [cat2k]
    show (([112, 97, 99, 107, 97, 103, 101, 32, 113, 59, 32, 116, 121, 112, 101, 32] ++ l ++ [32, 105, 110, 116] : List UInt8)).length ≤ 65536
    cases l with
    | nil => cases hk
    | cons x r =>
      have hk : (letB x.toNat && (x :: r).all (fun b => partB b.toNat) && decide ((x :: r).length ≤ 20)) = true := hk
      simp only [Bool.and_eq_true, decide_eq_true_eq] at hk
      have := hk.2
      simp only [List.length_append, List.length_cons, List.length_nil] at this ⊢
      omega
  have := tokens_any fi (init2k l) (wordI [105, 110, 116]) 2 ⟨#[105, 110, 116]⟩ w rfl (.inl rfl) (ok2k hl) hs
  rwa [cat2k] at this
end Go.Proofs.Sc
