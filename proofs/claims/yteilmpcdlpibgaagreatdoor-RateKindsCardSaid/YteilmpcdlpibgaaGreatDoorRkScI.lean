import Derived.Test.YteilmpcdlpibgaaGreatDoorRkScH
set_option linter.unusedVariables false
set_option linter.unusedSimpArgs false
namespace Go.Proofs.Sc
open Go Go.Proofs Go.RowKit
theorem take_u8 {S : ByteArray} {k : Nat} (h : k < S.size) : (S.data.toList.take (k + 1)).map u8C = (S.data.toList.take k).map u8C ++ [.int .u8 (S[k]'h).toNat] := by
  rw [List.take_succ_eq_append_getElem (by simpa using h), List.map_append]; rfl
theorem below_own {w w0 w1 : World} {B : Nat} {o : Obj} {v : Value} {e s n : Nat} {xs : List Value} (hg : w0.grownBy w1 v.ownBlock) (hown : w.ownsRow B e s v n xs) (hB : B ≤ w.heap.size) (h : w0.heap = w.heap.push o) (ho : w0.os = w.os) (ht : w0.tape = w.tape) (hp : w0.output = w.output) : Below B w w1 := by
  refine ⟨hg.os.trans ho, hg.tape.trans ht, hg.output.trans hp, ?_, fun k hk => ?_⟩
  · have := hg.size; rw [h, Array.size_push] at this; omega
  · have hk' := old_alloc (o := o) (w0 := w0) (show k < w.heap.size by omega) h
    rw [hg.block k hk'.2 ?_, hk'.1]
    rcases hown.2 with ⟨rfl, _⟩ | ⟨g, cap, cur, rfl, hgb, _⟩
    · intro e; cases e
    · intro e
      have e : k = g := Option.some.inj e
      omega
set_option maxRecDepth 100000 in
set_option maxHeartbeats 3200000 in
/-- a text in its marks -/
theorem text_any (s S : ByteArray) (w : World) (hs : s.size ≤ 1000000) (hz : S.size + 1 < s.size) (hS : ∀ k (h : k < S.size), s[k + 1]'(by omega) = S[k]'h) (hq : s[S.size + 1]'hz = 34) (hok : ∀ k (h : k < S.size), 32 ≤ (S[k]'h).toNat ∧ (S[k]'h).toNat ≠ 34 ∧ (S[k]'h).toNat ≠ 92) :
    Calls Tryz.prog 336 #[.string s] w fun e w' => e = .returned (.tuple #[.string S, .int .i64 (S.size + 2 : Nat)]) ∧ Below w.heap.size w w' := by
  obtain ⟨i0, hi0, hz0, hz1, hz2⟩ := info_parts info5
  have HS := Lib.hid hS
  have HOK := Lib.hid hok
  have HQ := Lib.hid hq
  clear hS hok hq
  go_enter Tryz.func336, Tryz.ntmps336
  go_wp2
  go_loopw [4, 5] (fun v i wr => ∃ k : Nat, k ≤ S.size ∧ i = .int .i64 (k + 1 : Nat) ∧ Hid (wr.ownsRow w.heap.size 5 1 v k ((S.data.toList.take k).map u8C)) ∧ Hid (Below w.heap.size w wr)) (fun _ i _ => s.size - (intOf i).toNat)
  case atStart => exact ⟨0, Nat.zero_le _, rfl, Lib.hid ⟨by simp, .inl ⟨rfl, rfl⟩⟩, Lib.hid (Below.refl _ _)⟩
  case round =>
    obtain ⟨k, hk, rfl, hO, hB⟩ := hrel
    have hsz := hB.out.size
    by_cases hlt : k < S.size
    · have hks : k + 1 < s.size := by omega
      have hx := HS.out k hlt
      obtain ⟨x1, x2, x3⟩ := HOK.out k hlt
      rw [← hx] at x1 x2 x3
      have y1 : (((s[k + 1]'hks).toNat : Int) == 34) = false := by simp only [beq_eq_false_iff_ne, ne_eq]; omega
      have y2 : decide (((s[k + 1]'hks).toNat : Int) < 32) = false := by simp; omega
      have y3 : (((s[k + 1]'hks).toNat : Int) == 92) = false := by simp only [beq_eq_false_iff_ne, ne_eq]; omega
      have HX := Lib.hid hx
      clear hx x1 x2 x3
      go_wp2_with (first | (at_builtin; refine wpList_append_own _ rfl _ _ 212 rfl w.heap.size 5 i0 (.int .u8 0) 1 1 Tryz.underlying212 hi0 hz0 hz1 hz2 rfl (by decide) _ _ _ rfl (hO.out.alloc _) ⟨wr.heap.size, 0, none⟩ 1 1 [.int .u8 (s[k + 1]'hks).toNat] rfl rfl (by intro j u hj; match j, hj with | 0, hj => (simp at hj; subst hj; simp [Addr.add])) (by intro u hu; simp at hu; subst hu; rfl) (by unfold maxLen; omega) (by omega) (by simp; omega) ?_; intro v' w1 hown' hgrow _))
      go_roundw
      case rel => exact ⟨k + 1, by omega, by go_num, Lib.hid (by rw [take_u8 hlt, ← HX.out]; exact hown'), Lib.hid (hB.out.trans (below_own hgrow hO.out hsz rfl rfl rfl rfl))⟩
      case measure => simp [intOf]; omega
    · obtain rfl : k = S.size := by omega
      have hcv := conv_own hO.out
      have he : (⟨(S.data.toList.take S.size).toArray⟩ : ByteArray) = S := by
        rw [List.take_of_length_le (by simp)]
      rw [he] at hcv
      clear he
      have y1 : (((s[S.size + 1]'hz).toNat : Int) == 34) = true := by rw [HQ.out]; rfl
      go_wp2
      refine bodyPost_ret (v := .tuple #[.string S, .int .i64 (S.size + 2 : Nat)]) (by simp [results, Tryz.results336, go_sem]; try omega) rfl ⟨rfl, hB.out⟩
end Go.Proofs.Sc
