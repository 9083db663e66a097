import Derived.Test.YteilmpcdlpibgaaGreatDoorRkScD
set_option linter.unusedVariables false
set_option linter.unusedSimpArgs false
namespace Go.Proofs.Sc
open Go Go.Proofs Go.RowKit
/-- the scanner in its course: what is left of the text, where it stands, so many tokens -/
def At (w0 w : World) (b : Nat) (rest : ByteArray) (f l c : Int) (k : Nat) (xs : List Value) : Prop :=
  ∃ out, St w b rest f l c out ∧ w.ownsRow (b + 1) 316 5 out k xs ∧ Below b w0 w ∧ b < w.heap.size
theorem At.upd {w0 w w' : World} {b rest f l c k xs rest' f' l' c'} (h : At w0 w b rest f l c k xs) (hu : Upd b w w') (hs : ∀ out, St w b rest f l c out → St w' b rest' f' l' c' out) : At w0 w' b rest' f' l' c' k xs := by
  obtain ⟨out, h1, h2, h3, h4⟩ := h
  exact ⟨out, hs out h1, own_upd h2 hu, h3.trans (hu.below (by omega)), Nat.lt_of_lt_of_le h4 hu.size⟩
theorem Upd.drewN (b : Nat) (w : World) (n : Nat) : Upd b w (w.drewN n) := ⟨Nat.le_refl _, fun _ _ _ => rfl, rfl, rfl, rfl⟩
theorem At.drewN {w0 w : World} {b rest f l c k xs} (h : At w0 w b rest f l c k xs) (n : Nat) : At w0 (w.drewN n) b rest f l c k xs :=
  h.upd (Upd.drewN b w n) fun out hs => hs.upd rfl
theorem put_at {w0 w : World} {b : Nat} {rest : ByteArray} {f l c : Int} {k : Nat} {xs : List Value} (h : At w0 w b rest f l c k xs) (kd : Int) (t : ByteArray) (n : Nat) (hn : n ≤ rest.size) (hs : rest.size ≤ 1000000) (h0 : 0 ≤ c) (h1 : c ≤ 1000000) (hk : k ≤ 1000000)
    (hnl : ∀ k, k < n → rest.data.toList.getD k 0 ≠ 10) :
    Calls Tryz.prog 247 #[.pointer (some ⟨b, 0, none⟩), .int .i64 kd, .string t, .int .i64 n] w fun e w' => e = .returned (.tuple #[]) ∧ At w0 w' b (rest.extract n rest.size) f l (c + n) (k + 1) (xs ++ tokC kd t f l c) := by
  obtain ⟨out, hst, hown, hbl, hb⟩ := h
  refine (put_any w b rest f l c out k xs kd t n hn hs h0 h1 hk hst hb hnl hown).mono ?_
  rintro e w' ⟨rfl, out', q1, q2, q3⟩
  exact ⟨rfl, out', q1, q2, hbl.trans q3, World.block_lt_of_cell? w' _ q1.c0⟩
set_option maxHeartbeats 1000000 in
theorem word_at {w0 w : World} {b : Nat} {rest : ByteArray} {f l c : Int} {k : Nat} {xs : List Value} (h : At w0 w b rest f l c k xs) (n : Nat) (hn : n ≤ rest.size) (hs : rest.size ≤ 1000000) (h0 : 0 ≤ c) (h1 : c ≤ 1000000) (hk : k ≤ 1000000)
    (hnl : ∀ k, k < n → rest.data.toList.getD k 0 ≠ 10) (hl : lead partB rest = n) (t : ByteArray) (ht : rest.extract 0 n = t) (kw : Bool) (hw : ∀ w, Calls Tryz.prog 368 #[.string t] w fun e w' => e = .returned (.bool kw) ∧ w = w') :
    Calls Tryz.prog 333 #[.pointer (some ⟨b, 0, none⟩)] w fun e w' => e = .returned (.tuple #[]) ∧ At w0 w' b (rest.extract n rest.size) f l (c + n) (k + 1) (xs ++ tokC (if kw then 6 else 2) t f l c) := by
  have hts : t.size = n := by rw [← ht]; simp; omega
  have hp := fun q => put_at (h.drewN q) (if kw then 6 else 2) t n hn hs h0 h1 hk hnl
  have hr := fun W => (run_part rest hs W).mono fun e w1 (q : _ ∧ W = w1) => (⟨q.1, q.2.symm⟩ : _ ∧ w1 = W)
  rw [hl] at hr
  obtain ⟨out, ⟨c0, c1, c2, c3, c4, f0, f3, f4⟩, _⟩ := h
  have HT : Hid (rest.extract 0 n = t) := Lib.hid ht
  have HK : Hid (t.size = n) := Lib.hid hts
  clear hnl hl hts ht
  cases kw
  all_goals
    simp only [Bool.false_eq_true, if_false, if_true] at hp ⊢
    go_enter Tryz.func333, Tryz.ntmps333
    go_wp2_with fail
    go_quiet ((go_at_call 328; exact Calls.quiet_of_same (hr _)))
    have ht := HT.out
    have hts := HK.out
    go_wp2_with (first | (go_at_call 368; refine (hw _).mono ?_; rintro e w' ⟨rfl, rfl⟩) | (go_at_call 247; refine (hp _).mono ?_; rintro e w2 ⟨rfl, hA⟩))
    exact bodyPost_end (v := .tuple #[]) (by simp [results, Tryz.results333, go_sem]) rfl ⟨rfl, hA⟩
end Go.Proofs.Sc
