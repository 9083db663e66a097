import Derived.Test.YteilmpcdlpibgaaGreatDoorRkScK
set_option linter.unusedVariables false
set_option linter.unusedSimpArgs false
namespace Go.Proofs.Sc
open Go Go.Proofs Go.RowKit
theorem len_size (a : ByteArray) : a.data.toList.length = a.size := rfl
theorem app_take (a b : ByteArray) : (a ++ b).extract 0 a.size = a := by
  apply ByteArray.ext; apply Array.ext'
  rw [ByteArray.data_extract, Array.toList_extract, ByteArray.data_append, Array.toList_append, List.extract_eq_take_drop, List.drop_zero, Nat.sub_zero, ← len_size, List.take_left]
theorem app_drop (a b : ByteArray) : (a ++ b).extract a.size (a ++ b).size = b := by
  apply ByteArray.ext; apply Array.ext'
  rw [ByteArray.data_extract, Array.toList_extract, ByteArray.data_append, Array.toList_append, List.extract_eq_take_drop, ← len_size a, List.drop_left, ByteArray.size_append, List.take_of_length_le (by rw [len_size b, len_size a]; omega)]
theorem app_getD (a b : ByteArray) (k : Nat) (h : k < a.size) : (a ++ b).data.toList.getD k 0 = a.data.toList.getD k 0 := by
  have : k < a.data.toList.length := by simpa using h
  simp only [ByteArray.data_append, Array.toList_append, List.getD_eq_getElem?_getD]
  rw [List.getElem?_append_left this]
theorem getD_get (a : ByteArray) (k : Nat) (h : k < a.size) : a.data.toList.getD k 0 = a[k]'h := by
  rw [List.getD_eq_getElem?_getD, List.getElem?_eq_getElem (show k < a.data.toList.length by simpa using h)]; rfl
theorem app_get (a b : ByteArray) (k : Nat) (h : k < a.size) (h' : k < (a ++ b).size) : (a ++ b)[k]'h' = a[k]'h := by
  rw [← getD_get _ _ h', ← getD_get _ _ h, app_getD a b k h]
theorem app_get_right (a b : ByteArray) (k : Nat) (h : k < b.size) (h' : a.size + k < (a ++ b).size) : (a ++ b)[a.size + k]'h' = b[k]'h := by
  rw [← getD_get _ _ h', ← getD_get _ _ h]
  simp only [ByteArray.data_append, Array.toList_append, List.getD_eq_getElem?_getD]
  rw [List.getElem?_append_right (by simp)]
  simp
/-- behind a name or a number stands no part of one -/
def Stops (p : Nat → Bool) (tail : ByteArray) : Prop := ∀ h : 0 < tail.size, p (tail[0]'h).toNat = false
def AllB (p : Nat → Bool) (a : ByteArray) : Prop := ∀ k (h : k < a.size), p (a[k]'h).toNat = true
theorem lead_app {p : Nat → Bool} {a b : ByteArray} (ha : AllB p a) (hb : Stops p b) : lead p (a ++ b) = a.size := by
  unfold lead
  rw [ByteArray.data_append, Array.toList_append, List.takeWhile_append_of_pos (fun x hx => ?_)]
  · have : (b.data.toList.takeWhile fun b => p b.toNat) = [] := by
      cases hbl : b.data.toList with
      | nil => rfl
      | cons x r =>
        have hs : 0 < b.size := by
          have : b.data.toList.length = b.size := rfl
          rw [hbl] at this; simp at this; omega
        have h := hb hs
        have hx : b[0]'hs = x := by rw [← getD_get _ _ hs, hbl]; rfl
        rw [hx] at h
        simp [List.takeWhile_cons, h]
    rw [List.length_append, this]; rfl
  · obtain ⟨k, hk, rfl⟩ := List.getElem_of_mem hx
    exact ha k (by simpa using hk)
theorem part_ne {b : UInt8} (h : partB b.toNat = true) : b ≠ 10 := by rintro rfl; exact absurd h (by decide)
theorem dig_part {b : Nat} (h : digB b = true) : partB b = true := by unfold partB; rw [h, Bool.or_true]
theorem let_not_dig {b : Nat} (h : digB b = true) : letB b = false := by
  simp only [digB, letB, Bool.and_eq_true, decide_eq_true_eq, Bool.or_eq_false_iff, Bool.and_eq_false_iff, decide_eq_false_iff_not, beq_eq_false_iff_ne] at h ⊢
  omega
theorem nogap_of {rest : ByteArray} (hp : 0 < rest.size) (h : ¬ ((rest[0]'hp).toNat = 10 ∨ (rest[0]'hp).toNat = 32 ∨ (rest[0]'hp).toNat = 9 ∨ (rest[0]'hp).toNat = 13)) (h2 : (rest[0]'hp).toNat = 47 → ∀ h1 : 1 < rest.size, (rest[1]'h1).toNat ≠ 47 ∧ (rest[1]'h1).toNat ≠ 42) : NoGap rest hp := by
  have hq : ∀ x y : UInt8, ((rest.extract 0 2).toList == [x, y]) = true → rest[0]'hp = x ∧ ∃ h1 : 1 < rest.size, rest[1]'h1 = y := fun x y e => by
    have e := eq_of_beq e
    rw [ByteArray.toList_eq] at e
    have hl : (rest.extract 0 2).data.toList.length = 2 := by rw [e]; rfl
    have hs : 2 ≤ rest.size := by
      have : (rest.extract 0 2).data.toList.length = (rest.extract 0 2).size := rfl
      rw [this] at hl
      simp at hl; omega
    have g : ∀ k (h : k < 2), (rest.extract 0 2).data.toList[k]? = some (rest[k]'(by omega)) := fun k h => by
      simp only [ByteArray.data_extract, Array.toList_extract, List.extract_eq_take_drop, Nat.sub_zero, List.drop_zero, List.getElem?_take, h, if_true]
      rw [List.getElem?_eq_getElem (by have : rest.data.toList.length = rest.size := rfl; omega)]; rfl
    have g0 := g 0 (by omega)
    have g1 := g 1 (by omega)
    rw [e] at g0 g1
    exact ⟨(Option.some.inj g0).symm, by omega, (Option.some.inj g1).symm⟩
  refine ⟨?_, ?_, ?_, ?_, ?_, ?_⟩
  · simp only [beq_eq_false_iff_ne, ne_eq]; omega
  · simp only [beq_eq_false_iff_ne, ne_eq]; omega
  · simp only [beq_eq_false_iff_ne, ne_eq]; omega
  · simp only [beq_eq_false_iff_ne, ne_eq]; omega
  · rw [Bool.eq_false_iff]
    intro e
    obtain ⟨q1, q2, q3⟩ := hq _ _ e
    exact (h2 (by rw [q1]; rfl) q2).1 (by rw [q3]; rfl)
  · rw [Bool.eq_false_iff]
    intro e
    obtain ⟨q1, q2, q3⟩ := hq _ _ e
    exact (h2 (by rw [q1]; rfl) q2).2 (by rw [q3]; rfl)
theorem At.out {w0 w : World} {b rest f l c k xs} (h : At w0 w b rest f l c k xs) : ∃ out, St w b rest f l c out := by obtain ⟨out, st, _⟩ := h; exact ⟨out, st⟩
theorem item_blank {fi : Int} (tail : ByteArray) : ItemOK fi ⟨⟨#[32]⟩, none⟩ tail := by
  intro w0 w b c k xs h hs h0 h1 hk
  have hp : 0 < ((⟨#[32]⟩ : ByteArray) ++ tail).size := by rw [ByteArray.size_append]; exact Nat.lt_of_lt_of_le (by decide) (Nat.le_add_right _ _)
  refine (step_blank h hp hs h0 h1 (app_get ⟨#[32]⟩ tail 0 (by decide) hp)).mono ?_
  rintro e w' ⟨rfl, hA⟩
  have hd := app_drop ⟨#[32]⟩ tail
  have e1 : (⟨#[32]⟩ : ByteArray).size = 1 := rfl
  rw [e1] at hd
  rw [hd] at hA
  refine ⟨rfl, ?_⟩
  show At w0 w' b tail fi 1 (c + 1) (k + 0) (xs ++ [])
  rw [Nat.add_zero, List.append_nil]; exact hA
theorem item_word {fi : Int} (t : ByteArray) (kw : Bool) (tail : ByteArray) (hp : 0 < t.size) (hlet : letB (t[0]'hp).toNat = true) (hall : AllB partB t) (hst : Stops partB tail) (hw : ∀ w, Calls Tryz.prog 368 #[.string t] w fun e w' => e = .returned (.bool kw) ∧ w = w') :
    ItemOK fi ⟨t, some (if kw then 6 else 2, t)⟩ tail := by
  intro w0 w b c k xs h hs h0 h1 hk
  change At w0 w b (t ++ tail) fi 1 c k xs at h
  change (t ++ tail).size ≤ 1000000 at hs
  have hp' : 0 < (t ++ tail).size := by rw [ByteArray.size_append]; omega
  have h00 : (t ++ tail)[0]'hp' = t[0]'hp := app_get t tail 0 hp hp'
  obtain ⟨out, st⟩ := h.out
  have hword := word_at h t.size (by rw [ByteArray.size_append]; omega) hs h0 h1 hk (fun j hj => by rw [app_getD _ _ _ hj, getD_get _ _ hj]; exact part_ne (hall j hj)) (lead_app hall hst) t (app_take t tail) kw hw
  have hng : NoGap (t ++ tail) hp' := nogap_of hp' (by rw [h00]; simp only [letB, Bool.or_eq_true, Bool.and_eq_true, decide_eq_true_eq, beq_iff_eq] at hlet; omega) (fun e => by rw [h00] at e; simp only [letB, Bool.or_eq_true, Bool.and_eq_true, decide_eq_true_eq, beq_iff_eq] at hlet; omega)
  refine (step_token st hp' hng (token_word st hp' (by rw [h00]; exact hlet) hword)).mono ?_
  rintro e w' ⟨rfl, hA⟩
  rw [app_drop] at hA
  exact ⟨rfl, hA⟩
theorem item_num {fi : Int} (t : ByteArray) (tail : ByteArray) (hp : 0 < t.size) (hz : t[0]'hp ≠ 48) (hall : AllB digB t) (hst : Stops partB tail) : ItemOK fi ⟨t, some (3, t)⟩ tail := by
  intro w0 w b c k xs h hs h0 h1 hk
  change At w0 w b (t ++ tail) fi 1 c k xs at h
  change (t ++ tail).size ≤ 1000000 at hs
  have hp' : 0 < (t ++ tail).size := by rw [ByteArray.size_append]; omega
  have h00 : (t ++ tail)[0]'hp' = t[0]'hp := app_get t tail 0 hp hp'
  obtain ⟨out, st⟩ := h.out
  have hd := hall 0 hp
  have hst' : Stops digB tail := fun q => by
    cases hx : digB (tail[0]'q).toNat with
    | false => rfl
    | true => exact absurd (dig_part hx) (by rw [hst q]; simp)
  have hnum := number_at h t.size hp' (by rw [ByteArray.size_append]; omega) hs h0 h1 hk (fun j hj => by rw [app_getD _ _ _ hj, getD_get _ _ hj]; exact part_ne (dig_part (hall j hj))) (by rw [h00]; exact hz) (lead_app hall hst') t (app_take t tail)
    (fun q => by have q' : 0 < tail.size := by rw [ByteArray.size_append] at q; omega
                 have := app_get_right t tail 0 q' q
                 simp only [Nat.add_zero] at this
                 rw [this]; exact hst q')
  have hng : NoGap (t ++ tail) hp' := nogap_of hp' (by rw [h00]; simp only [digB, Bool.and_eq_true, decide_eq_true_eq] at hd; omega) (fun e => by rw [h00] at e; simp only [digB, Bool.and_eq_true, decide_eq_true_eq] at hd; omega)
  refine (step_token st hp' hng (token_num st hp' (by rw [h00]; exact let_not_dig hd) (by rw [h00]; exact hd) hnum)).mono ?_
  rintro e w' ⟨rfl, hA⟩
  rw [app_drop] at hA
  exact ⟨rfl, hA⟩
end Go.Proofs.Sc
