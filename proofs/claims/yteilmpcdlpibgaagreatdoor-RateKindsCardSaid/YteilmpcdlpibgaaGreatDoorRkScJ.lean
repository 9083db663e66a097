import Derived.Test.YteilmpcdlpibgaaGreatDoorRkScI
set_option linter.unusedVariables false
set_option linter.unusedSimpArgs false
namespace Go.Proofs.Sc
open Go Go.Proofs Go.RowKit
theorem isLetter_t (b : Nat) (h : letB b = true) (w : World) : Calls Tryz.prog 332 #[.int .u8 b] w fun e w' => e = .returned (.bool true) ∧ w = w' := h ▸ isLetter b w
theorem isLetter_f (b : Nat) (h : letB b = false) (w : World) : Calls Tryz.prog 332 #[.int .u8 b] w fun e w' => e = .returned (.bool false) ∧ w = w' := h ▸ isLetter b w
theorem token_word {w : World} {b : Nat} {rest : ByteArray} {f l c : Int} {out : Value} {Q : World → Prop} (st : St w b rest f l c out) (hp : 0 < rest.size) (hx : letB (rest[0]'hp).toNat = true)
    (hw : Calls Tryz.prog 333 #[.pointer (some ⟨b, 0, none⟩)] w fun e w' => e = .returned (.tuple #[]) ∧ Q w') : Calls Tryz.prog 296 #[.pointer (some ⟨b, 0, none⟩)] w fun e w' => e = .returned (.int .i64 0) ∧ Q w' := by
  obtain ⟨c0, c1, c2, c3, c4, f0, f3, f4⟩ := st
  have cl := isLetter_t _ hx w
  clear hx
  go_enter Tryz.func296, Tryz.ntmps296
  go_wp2_with (first | (go_at_call 332; refine cl.mono ?_; rintro e w' ⟨rfl, rfl⟩) | (go_at_call 333; refine hw.mono ?_; rintro e w2 ⟨rfl, hA⟩))
  go_ret
  exact ⟨rfl, hA⟩
theorem token_num {w : World} {b : Nat} {rest : ByteArray} {f l c : Int} {out : Value} {Q : World → Prop} (st : St w b rest f l c out) (hp : 0 < rest.size) (hx : letB (rest[0]'hp).toNat = false) (hy : digB (rest[0]'hp).toNat = true)
    (hw : Calls Tryz.prog 335 #[.pointer (some ⟨b, 0, none⟩)] w fun e w' => e = .returned (.int .i64 0) ∧ Q w') : Calls Tryz.prog 296 #[.pointer (some ⟨b, 0, none⟩)] w fun e w' => e = .returned (.int .i64 0) ∧ Q w' := by
  obtain ⟨c0, c1, c2, c3, c4, f0, f3, f4⟩ := st
  have cl := isLetter_f _ hx w
  have cd := isDigit_t _ hy w
  clear hx hy
  go_enter Tryz.func296, Tryz.ntmps296
  go_wp2_with (first | (go_at_call 332; refine cl.mono ?_; rintro e w' ⟨rfl, rfl⟩) | (go_at_call 334; refine cd.mono ?_; rintro e w' ⟨rfl, rfl⟩) | (go_at_call 335; refine hw.mono ?_; rintro e w2 ⟨rfl, hA⟩))
  go_ret
  exact ⟨rfl, hA⟩
theorem token_op {w : World} {b : Nat} {rest : ByteArray} {f l c : Int} {out : Value} {Q : World → Prop} (st : St w b rest f l c out) (hp : 0 < rest.size) (hx : letB (rest[0]'hp).toNat = false) (hy : digB (rest[0]'hp).toNat = false) (hz : (((rest[0]'hp).toNat : Int) == 34) = false)
    (hw : Calls Tryz.prog 337 #[.pointer (some ⟨b, 0, none⟩)] w fun e w' => e = .returned (.int .i64 0) ∧ Q w') : Calls Tryz.prog 296 #[.pointer (some ⟨b, 0, none⟩)] w fun e w' => e = .returned (.int .i64 0) ∧ Q w' := by
  obtain ⟨c0, c1, c2, c3, c4, f0, f3, f4⟩ := st
  have cl := isLetter_f _ hx w
  have cd := isDigit_f _ hy w
  clear hx hy
  go_enter Tryz.func296, Tryz.ntmps296
  go_wp2_with (first | (go_at_call 332; refine cl.mono ?_; rintro e w' ⟨rfl, rfl⟩) | (go_at_call 334; refine cd.mono ?_; rintro e w' ⟨rfl, rfl⟩) | (go_at_call 337; refine hw.mono ?_; rintro e w2 ⟨rfl, hA⟩))
  go_ret
  exact ⟨rfl, hA⟩
theorem below_upd {b : Nat} {w w' : World} (h : Below w.heap.size w w') : Upd b w w' := ⟨h.size, fun j hj _ => h.block j hj, h.tape, h.os, h.output⟩
theorem token_text {w0 w : World} {b : Nat} {rest : ByteArray} {f l c : Int} {k : Nat} {xs : List Value} (h : At w0 w b rest f l c k xs) (S : ByteArray) (hs : rest.size ≤ 1000000) (h0 : 0 ≤ c) (h1 : c ≤ 1000000) (hk : k ≤ 1000000)
    (hnl : ∀ k, k < S.size + 2 → rest.data.toList.getD k 0 ≠ 10) (hz : S.size + 1 < rest.size) (hq0 : rest[0]'(by omega) = 34) (hS : ∀ k (h : k < S.size), rest[k + 1]'(by omega) = S[k]'h) (hq : rest[S.size + 1]'hz = 34) (hok : ∀ k (h : k < S.size), 32 ≤ (S[k]'h).toNat ∧ (S[k]'h).toNat ≠ 34 ∧ (S[k]'h).toNat ≠ 92) :
    Calls Tryz.prog 296 #[.pointer (some ⟨b, 0, none⟩)] w fun e w' => e = .returned (.int .i64 0) ∧ At w0 w' b (rest.extract (S.size + 2) rest.size) f l (c + (S.size + 2 : Nat)) (k + 1) (xs ++ tokC 4 S f l c) := by
  have hp : 0 < rest.size := by omega
  have ht := text_any rest S w hs hz hS hq hok
  have hpu := fun (W : World) (hW : Below w.heap.size w W) => put_at (h.upd (below_upd (b := b) hW) (fun out st => st.upd (hW.block b (by obtain ⟨_, _, _, _, q⟩ := h; exact q)))) 4 S (S.size + 2) (by omega) hs h0 h1 hk hnl
  obtain ⟨out, ⟨c0, c1, c2, c3, c4, f0, f3, f4⟩, _⟩ := h
  have cl := isLetter_f (rest[0]'hp).toNat (by rw [hq0]; rfl) w
  have cd := isDigit_f (rest[0]'hp).toNat (by rw [hq0]; rfl) w
  have y : (((rest[0]'hp).toNat : Int) == 34) = true := by rw [hq0]; rfl
  have y2 : (((S.size + 2 : Nat) : Int) == 0) = false := by simp; omega
  have y3 : (((S.size : Int) + 2) == 0) = false := by simp; omega
  clear hnl hS hok hq hq0
  go_enter Tryz.func296, Tryz.ntmps296
  go_wp2_with (first | (go_at_call 332; refine cl.mono ?_; rintro e w' ⟨rfl, rfl⟩) | (go_at_call 334; refine cd.mono ?_; rintro e w' ⟨rfl, rfl⟩) | (go_at_call 336; refine ht.mono ?_; rintro e w1 ⟨rfl, hB⟩) | (go_at_call 247; refine (hpu _ hB).mono ?_; rintro e w2 ⟨rfl, hA⟩))
  go_ret
  exact ⟨rfl, hA⟩
theorem step_blank {w0 w : World} {b : Nat} {rest : ByteArray} {f l c : Int} {k : Nat} {xs : List Value} (h : At w0 w b rest f l c k xs) (hp : 0 < rest.size) (hs : rest.size ≤ 1000000) (h0 : 0 ≤ c) (h1 : c ≤ 1000000) (hx : rest[0]'hp = 32) :
    Calls Tryz.prog 245 #[.pointer (some ⟨b, 0, none⟩)] w fun e w' => e = .returned (.int .i64 0) ∧ At w0 w' b (rest.extract 1 rest.size) f l (c + 1) k xs := by
  obtain ⟨out, st, hown, hbl, hb⟩ := h
  have hg := gap_blank w b rest f l c out hp hs h0 h1 st hb hx
  have HX := Lib.hid (And.intro hown hbl)
  clear hx hown hbl
  go_enter Tryz.func245, Tryz.ntmps245
  go_wp2_with (go_at_call 295; refine hg.mono ?_; rintro e w2 ⟨rfl, hS2, hU2⟩)
  go_ret
  exact ⟨rfl, out, hS2, own_upd HX.out.1 hU2, HX.out.2.trans (hU2.below (by omega)), Nat.lt_of_lt_of_le hb hU2.size⟩
/-- what begins a token begins no gap -/
structure NoGap (rest : ByteArray) (hp : 0 < rest.size) : Prop where
  q1 : (((rest[0]'hp).toNat : Int) == 10) = false
  q2 : (((rest[0]'hp).toNat : Int) == 32) = false
  q3 : (((rest[0]'hp).toNat : Int) == 9) = false
  q4 : (((rest[0]'hp).toNat : Int) == 13) = false
  p1 : ((rest.extract 0 2).toList == [47, 47]) = false
  p2 : ((rest.extract 0 2).toList == [47, 42]) = false
theorem step_token {w : World} {b : Nat} {rest : ByteArray} {f l c : Int} {out : Value} {Q : World → Prop} (st : St w b rest f l c out) (hp : 0 < rest.size) (hg : NoGap rest hp)
    (hw : Calls Tryz.prog 296 #[.pointer (some ⟨b, 0, none⟩)] w fun e w' => e = .returned (.int .i64 0) ∧ Q w') : Calls Tryz.prog 245 #[.pointer (some ⟨b, 0, none⟩)] w fun e w' => e = .returned (.int .i64 0) ∧ Q w' := by
  have hgap := gap_no w b rest f l c out hp st hg.q1 hg.q2 hg.q3 hg.q4 hg.p1 hg.p2
  clear hg
  go_enter Tryz.func245, Tryz.ntmps245
  go_wp2_with (first | (go_at_call 295; refine hgap.mono ?_; rintro e w2 ⟨rfl, rfl⟩) | (go_at_call 296; refine hw.mono ?_; rintro e w2 ⟨rfl, hA⟩))
  go_ret
  exact ⟨rfl, hA⟩
theorem end_yes {w0 w : World} {b : Nat} {rest : ByteArray} {f l c : Int} {k : Nat} {xs : List Value} {kd : Int} {t : ByteArray} {f' l' c' : Int} (h : At w0 w b rest f l c (k + 1) (xs ++ tokC kd t f' l' c')) (hs : rest.size ≤ 1000000) (h0 : 0 ≤ c) (h1 : c ≤ 1000000) (hk : k + 1 ≤ 1000000)
    (hkd : kd = 2 ∨ kd = 3 ∨ kd = 4 ∨ kd = 5 ∧ (t = ⟨#[41]⟩ ∨ t = ⟨#[93]⟩ ∨ t = ⟨#[125]⟩)) :
    Calls Tryz.prog 246 #[.pointer (some ⟨b, 0, none⟩)] w fun e w' => e = .returned (.tuple #[]) ∧ At w0 w' b rest f l c (k + 2) (xs ++ tokC kd t f' l' c' ++ tokC 5 ⟨#[59]⟩ f l c) := by
  have hpu := fun (W : World) (hW : Below w.heap.size w W) => put_at (h.upd (below_upd (b := b) hW) (fun out st => st.upd (hW.block b (by obtain ⟨_, _, _, _, q⟩ := h; exact q)))) 5 ⟨#[59]⟩ 0 (Nat.zero_le _) hs h0 h1 hk (fun k hk => absurd hk (by omega))
  obtain ⟨out, st, hown, hbl, hb⟩ := h
  have he := ends_yes w b rest f l c out k xs kd t f' l' c' (by omega) st hb hown hkd
  clear hown hbl
  go_enter Tryz.func246, Tryz.ntmps246
  go_wp2_with (first | (go_at_call 297; refine he.mono ?_; rintro e w1 ⟨rfl, hU1⟩) | (go_at_call 247; refine (hpu _ hU1).mono ?_; rintro e w2 ⟨rfl, hA⟩))
  refine bodyPost_end (v := .tuple #[]) (by simp [results, Tryz.results246, go_sem]) rfl ⟨rfl, ?_⟩
  have e1 : rest.extract 0 rest.size = rest := by simp
  rw [e1] at hA
  simpa using hA
end Go.Proofs.Sc
