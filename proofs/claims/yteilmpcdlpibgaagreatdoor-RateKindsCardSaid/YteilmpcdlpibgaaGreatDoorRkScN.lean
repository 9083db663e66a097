import Derived.Test.YteilmpcdlpibgaaGreatDoorRkScM
set_option linter.unusedVariables false
set_option linter.unusedSimpArgs false
namespace Go.Proofs.Sc
open Go Go.Proofs Go.RowKit
theorem item_zero {fi : Int} (tail : ByteArray) (hst : Stops partB tail) : ItemOK fi ⟨⟨#[48]⟩, some (3, ⟨#[48]⟩)⟩ tail := by
  intro w0 w b c k xs h hs h0 h1 hk
  change At w0 w b (⟨#[48]⟩ ++ tail) fi 1 c k xs at h
  change (⟨#[48]⟩ ++ tail : ByteArray).size ≤ 1000000 at hs
  have hsz : (⟨#[48]⟩ ++ tail : ByteArray).size = 1 + tail.size := by rw [ByteArray.size_append]; rfl
  have hp' : 0 < (⟨#[48]⟩ ++ tail : ByteArray).size := by omega
  have h00 : (⟨#[48]⟩ ++ tail : ByteArray)[0]'hp' = 48 := app_get ⟨#[48]⟩ tail 0 (by decide) hp'
  obtain ⟨out, st⟩ := h.out
  have hnum := zero_at h hp' hs h0 h1 hk h00 ⟨#[48]⟩ (app_take ⟨#[48]⟩ tail)
    (fun q => by have q' : 0 < tail.size := by omega
                 have := app_get_right ⟨#[48]⟩ tail 0 q' q
                 exact (congrArg (fun x : UInt8 => partB x.toNat) this).trans (hst q'))
  have hng : NoGap (⟨#[48]⟩ ++ tail) hp' := nogap_of hp' (by rw [h00]; decide) (fun e => by rw [h00] at e; exact absurd e (by decide))
  refine (step_token st hp' hng (token_num st hp' (by rw [h00]; rfl) (by rw [h00]; rfl) hnum)).mono ?_
  rintro e w' ⟨rfl, hA⟩
  have hd := app_drop ⟨#[48]⟩ tail
  have e1 : (⟨#[48]⟩ : ByteArray).size = 1 := rfl
  rw [e1] at hd
  rw [hd] at hA
  exact ⟨rfl, hA⟩
def quoted (S : ByteArray) : ByteArray := ⟨#[34]⟩ ++ (S ++ ⟨#[34]⟩)
theorem quoted_size (S : ByteArray) : (quoted S).size = S.size + 2 := by
  unfold quoted; rw [ByteArray.size_append, ByteArray.size_append]
  have e : (⟨#[34]⟩ : ByteArray).size = 1 := rfl
  omega
theorem quoted_first (S : ByteArray) (h : 0 < (quoted S).size) : (quoted S)[0]'h = 34 := app_get ⟨#[34]⟩ (S ++ ⟨#[34]⟩) 0 (by decide) h
theorem quoted_mid (S : ByteArray) (k : Nat) (hk : k < S.size) (h : k + 1 < (quoted S).size) : (quoted S)[k + 1]'h = S[k]'hk := by
  have e : (⟨#[34]⟩ : ByteArray).size + k = k + 1 := by show 1 + k = _; omega
  have h1 : (⟨#[34]⟩ : ByteArray).size + k < (⟨#[34]⟩ ++ (S ++ ⟨#[34]⟩) : ByteArray).size := by show 1 + k < (quoted S).size; omega
  have := app_get_right ⟨#[34]⟩ (S ++ ⟨#[34]⟩) k (by rw [ByteArray.size_append]; omega) h1
  have h2 := app_get S ⟨#[34]⟩ k hk (by rw [ByteArray.size_append]; omega)
  rw [← getD_get _ _ h, ← e]
  exact (getD_get _ _ h1).trans (this.trans h2)
theorem quoted_last (S : ByteArray) (h : S.size + 1 < (quoted S).size) : (quoted S)[S.size + 1]'h = 34 := by
  have e : (⟨#[34]⟩ : ByteArray).size + S.size = S.size + 1 := by show 1 + S.size = _; omega
  have h1 : (⟨#[34]⟩ : ByteArray).size + S.size < (⟨#[34]⟩ ++ (S ++ ⟨#[34]⟩) : ByteArray).size := by show 1 + S.size < (quoted S).size; omega
  have := app_get_right ⟨#[34]⟩ (S ++ ⟨#[34]⟩) S.size (by rw [ByteArray.size_append]; exact Nat.lt_add_of_pos_right (by decide)) h1
  have h2 := app_get_right S ⟨#[34]⟩ 0 (by decide) (by rw [ByteArray.size_append]; exact Nat.add_lt_add_left (by decide) _)
  rw [← getD_get _ _ h, ← e]
  exact (getD_get _ _ h1).trans (this.trans h2)
/-- what may stand in a text's marks as it is -/
def plainB (b : Nat) : Bool := 32 ≤ b && b != 34 && b != 92
theorem item_text {fi : Int} (S tail : ByteArray) (hall : AllB plainB S) : ItemOK fi ⟨quoted S, some (4, S)⟩ tail := by
  intro w0 w b c k xs h hs h0 h1 hk
  change At w0 w b (quoted S ++ tail) fi 1 c k xs at h
  change (quoted S ++ tail).size ≤ 1000000 at hs
  have hsz : (quoted S ++ tail).size = S.size + 2 + tail.size := by rw [ByteArray.size_append, quoted_size]
  have hqs := quoted_size S
  have hp' : 0 < (quoted S ++ tail).size := by omega
  have h00 : (quoted S ++ tail)[0]'hp' = 34 := (app_get (quoted S) tail 0 (by omega) hp').trans (quoted_first S _)
  have hmid : ∀ j (hj : j < S.size) (q : j + 1 < (quoted S ++ tail).size), (quoted S ++ tail)[j + 1]'q = S[j]'hj := fun j hj q => (app_get (quoted S) tail (j + 1) (by omega) q).trans (quoted_mid S j hj _)
  have hlast : ∀ q : S.size + 1 < (quoted S ++ tail).size, (quoted S ++ tail)[S.size + 1]'q = 34 := fun q => (app_get (quoted S) tail (S.size + 1) (by omega) q).trans (quoted_last S _)
  have hpl : ∀ j (hj : j < S.size), 32 ≤ (S[j]'hj).toNat ∧ (S[j]'hj).toNat ≠ 34 ∧ (S[j]'hj).toNat ≠ 92 := fun j hj => by
    have := hall j hj
    simp only [plainB, Bool.and_eq_true, decide_eq_true_eq, bne_iff_ne, ne_eq] at this
    exact ⟨this.1.1, this.1.2, this.2⟩
  obtain ⟨out, st⟩ := h.out
  have htok := token_text h S hs h0 h1 hk (fun j hj => by
    rw [getD_get _ _ (show j < (quoted S ++ tail).size by omega)]
    by_cases hj0 : j = 0
    · subst hj0; rw [h00]; decide
    · by_cases hjl : j = S.size + 1
      · subst hjl; rw [hlast]; decide
      · obtain ⟨m, rfl⟩ : ∃ m, j = m + 1 := ⟨j - 1, by omega⟩
        rw [hmid m (by omega)]
        intro e
        have := (hpl m (by omega)).1
        rw [e] at this
        exact absurd this (by decide)) (by omega) h00 (fun j hj => hmid j hj _) (hlast _) hpl
  have hng : NoGap (quoted S ++ tail) hp' := nogap_of hp' (by rw [h00]; decide) (fun e => by rw [h00] at e; exact absurd e (by decide))
  refine (step_token st hp' hng htok).mono ?_
  rintro e w' ⟨rfl, hA⟩
  have hd := app_drop (quoted S) tail
  rw [hqs] at hd
  rw [hd] at hA
  refine ⟨rfl, ?_⟩
  show At w0 w' b tail fi 1 (c + (quoted S).size) (k + 1) (xs ++ tokC 4 S fi 1 c)
  rw [hqs]; exact hA
theorem take2 {rest : ByteArray} (h : 2 ≤ rest.size) : rest.extract 0 2 = ⟨#[rest[0]'(by omega), rest[1]'(by omega)]⟩ := by
  apply ByteArray.ext; apply Array.ext'
  rw [ByteArray.data_extract, Array.toList_extract, List.extract_eq_take_drop, Nat.sub_zero, List.drop_zero]
  apply List.ext_getElem?
  intro i
  rw [List.getElem?_take]
  have hl : rest.data.toList.length = rest.size := rfl
  match i with
  | 0 => rw [if_pos (by omega), List.getElem?_eq_getElem (by omega)]; rfl
  | 1 => rw [if_pos (by omega), List.getElem?_eq_getElem (by omega)]; rfl
  | n + 2 => rw [if_neg (by omega)]; rfl
theorem item_op1 {fi : Int} (x : UInt8) (tail : ByteArray) (ht : 0 < tail.size) (hl : letB x.toNat = false) (hd : digB x.toNat = false) (hg : ¬ (x.toNat = 10 ∨ x.toNat = 32 ∨ x.toNat = 9 ∨ x.toNat = 13 ∨ x.toNat = 34)) (hs47 : x.toNat = 47 → (tail[0]'ht).toNat ≠ 47 ∧ (tail[0]'ht).toNat ≠ 42)
    (hw2 : ∀ w, Calls Tryz.prog 370 #[.string ⟨#[x, tail[0]'ht]⟩] w fun e w' => e = .returned (.bool false) ∧ w = w') (hw : ∀ w, Calls Tryz.prog 370 #[.string ⟨#[x]⟩] w fun e w' => e = .returned (.bool true) ∧ w = w') :
    ItemOK fi ⟨⟨#[x]⟩, some (5, ⟨#[x]⟩)⟩ tail := by
  intro w0 w b c k xs h hs h0 h1 hk
  change At w0 w b (⟨#[x]⟩ ++ tail) fi 1 c k xs at h
  change (⟨#[x]⟩ ++ tail : ByteArray).size ≤ 1000000 at hs
  have e1 : (⟨#[x]⟩ : ByteArray).size = 1 := rfl
  have hsz : (⟨#[x]⟩ ++ tail : ByteArray).size = 1 + tail.size := by rw [ByteArray.size_append]; rfl
  have hp' : 0 < (⟨#[x]⟩ ++ tail : ByteArray).size := by omega
  have hp1 : 1 < (⟨#[x]⟩ ++ tail : ByteArray).size := by omega
  have h00 : (⟨#[x]⟩ ++ tail : ByteArray)[0]'hp' = x := app_get ⟨#[x]⟩ tail 0 (by rw [e1]; decide) hp'
  have h01 : (⟨#[x]⟩ ++ tail : ByteArray)[1]'hp1 = tail[0]'ht := app_get_right ⟨#[x]⟩ tail 0 ht hp1
  obtain ⟨out, st⟩ := h.out
  have hop := op1_at h (by omega) hs h0 h1 hk (fun j hj => by obtain rfl : j = 0 := by omega
                                                              rw [getD_get _ _ hp', h00]; rintro rfl; exact hg (.inl rfl)) ⟨#[x, tail[0]'ht]⟩ ⟨#[x]⟩ (by rw [take2 (by omega), h00, h01]) (app_take ⟨#[x]⟩ tail) hw2 hw
  have hng : NoGap (⟨#[x]⟩ ++ tail) hp' := nogap_of hp' (by rw [h00]; omega) (fun e q => by rw [h00] at e; rw [h01]; exact hs47 e)
  refine (step_token st hp' hng (token_op st hp' (by rw [h00]; exact hl) (by rw [h00]; exact hd) (by rw [h00]; simp only [beq_eq_false_iff_ne, ne_eq]; omega) hop)).mono ?_
  rintro e w' ⟨rfl, hA⟩
  have hdr := app_drop ⟨#[x]⟩ tail
  rw [e1] at hdr
  rw [hdr] at hA
  exact ⟨rfl, hA⟩
theorem item_op2 {fi : Int} (x y : UInt8) (tail : ByteArray) (hl : letB x.toNat = false) (hd : digB x.toNat = false) (hg : ¬ (x.toNat = 10 ∨ x.toNat = 32 ∨ x.toNat = 9 ∨ x.toNat = 13 ∨ x.toNat = 34 ∨ x.toNat = 47)) (hy : y ≠ 10)
    (hw : ∀ w, Calls Tryz.prog 370 #[.string ⟨#[x, y]⟩] w fun e w' => e = .returned (.bool true) ∧ w = w') :
    ItemOK fi ⟨⟨#[x, y]⟩, some (5, ⟨#[x, y]⟩)⟩ tail := by
  intro w0 w b c k xs h hs h0 h1 hk
  change At w0 w b (⟨#[x, y]⟩ ++ tail) fi 1 c k xs at h
  change (⟨#[x, y]⟩ ++ tail : ByteArray).size ≤ 1000000 at hs
  have e1 : (⟨#[x, y]⟩ : ByteArray).size = 2 := rfl
  have hsz : (⟨#[x, y]⟩ ++ tail : ByteArray).size = 2 + tail.size := by rw [ByteArray.size_append]; rfl
  have hp' : 0 < (⟨#[x, y]⟩ ++ tail : ByteArray).size := by omega
  have hp1 : 1 < (⟨#[x, y]⟩ ++ tail : ByteArray).size := by omega
  have h00 : (⟨#[x, y]⟩ ++ tail : ByteArray)[0]'hp' = x := app_get ⟨#[x, y]⟩ tail 0 (by rw [e1]; decide) hp'
  have h01 : (⟨#[x, y]⟩ ++ tail : ByteArray)[1]'hp1 = y := app_get ⟨#[x, y]⟩ tail 1 (by rw [e1]; decide) hp1
  obtain ⟨out, st⟩ := h.out
  have hop := op2_at h (by omega) hs h0 h1 hk (fun j hj => by
    by_cases hj0 : j = 0
    · subst hj0; rw [getD_get _ _ hp', h00]; rintro rfl; exact hg (.inl rfl)
    · obtain rfl : j = 1 := by omega
      rw [getD_get _ _ hp1, h01]; exact hy) ⟨#[x, y]⟩ (app_take ⟨#[x, y]⟩ tail) hw
  have hng : NoGap (⟨#[x, y]⟩ ++ tail) hp' := nogap_of hp' (by rw [h00]; omega) (fun e q => by rw [h00] at e; omega)
  refine (step_token st hp' hng (token_op st hp' (by rw [h00]; exact hl) (by rw [h00]; exact hd) (by rw [h00]; simp only [beq_eq_false_iff_ne, ne_eq]; omega) hop)).mono ?_
  rintro e w' ⟨rfl, hA⟩
  have hdr := app_drop ⟨#[x, y]⟩ tail
  rw [e1] at hdr
  rw [hdr] at hA
  exact ⟨rfl, hA⟩
end Go.Proofs.Sc
