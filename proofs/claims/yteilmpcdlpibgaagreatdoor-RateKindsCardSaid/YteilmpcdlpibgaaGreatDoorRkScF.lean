import Derived.Test.YteilmpcdlpibgaaGreatDoorRkScE
import Derived.Laws.AppendOwn
set_option linter.unusedVariables false
set_option linter.unusedSimpArgs false
namespace Go.Proofs.Sc
open Go Go.Proofs Go.RowKit
set_option maxHeartbeats 1000000 in
/-- a number that doesn't begin with 0 -/
theorem number_at {w0 w : World} {b : Nat} {rest : ByteArray} {f l c : Int} {k : Nat} {xs : List Value} (h : At w0 w b rest f l c k xs) (n : Nat) (hp : 0 < rest.size) (hn : n ≤ rest.size) (hs : rest.size ≤ 1000000) (h0 : 0 ≤ c) (h1 : c ≤ 1000000) (hk : k ≤ 1000000)
    (hnl : ∀ k, k < n → rest.data.toList.getD k 0 ≠ 10) (hz : rest[0]'hp ≠ 48) (hl : lead digB rest = n) (t : ByteArray) (ht : rest.extract 0 n = t) (hx : ∀ h : n < rest.size, partB (rest[n]'h).toNat = false) :
    Calls Tryz.prog 335 #[.pointer (some ⟨b, 0, none⟩)] w fun e w' => e = .returned (.int .i64 0) ∧ At w0 w' b (rest.extract n rest.size) f l (c + n) (k + 1) (xs ++ tokC 3 t f l c) := by
  have hpu := put_at h 3 t n hn hs h0 h1 hk hnl
  have hr := run_dig rest hs w
  rw [hl] at hr
  obtain ⟨out, ⟨c0, c1, c2, c3, c4, f0, f3, f4⟩, _⟩ := h
  have q0 : (((rest[0]'hp).toNat : Int) != 48) = true := by
    have : (rest[0]'hp).toNat ≠ 48 := fun e => hz (UInt8.toNat_inj.1 e)
    simp only [bne_iff_ne, ne_eq]; omega
  have HT : Hid (rest.extract 0 n = t) := Lib.hid ht
  by_cases hlt : n < rest.size
  · have cp := isPart_f _ (hx hlt) w
    clear hnl hl ht hz hx
    go_enter Tryz.func335, Tryz.ntmps335
    go_wp2_with (first | (go_at_call 328; refine hr.mono ?_; rintro e w' ⟨rfl, rfl⟩; have ht := HT.out) | (go_at_call 367; refine cp.mono ?_; rintro e w' ⟨rfl, rfl⟩) | (go_at_call 247; refine hpu.mono ?_; rintro e w2 ⟨rfl, hA⟩))
    go_ret
    exact ⟨rfl, hA⟩
  · obtain rfl : n = rest.size := by omega
    clear hnl hl ht hz hx
    go_enter Tryz.func335, Tryz.ntmps335
    go_wp2_with (first | (go_at_call 328; refine hr.mono ?_; rintro e w' ⟨rfl, rfl⟩; have ht := HT.out) | (go_at_call 247; refine hpu.mono ?_; rintro e w2 ⟨rfl, hA⟩))
    go_ret
    exact ⟨rfl, hA⟩
set_option maxHeartbeats 1000000 in
/-- the number 0 -/
theorem zero_at {w0 w : World} {b : Nat} {rest : ByteArray} {f l c : Int} {k : Nat} {xs : List Value} (h : At w0 w b rest f l c k xs) (hp : 0 < rest.size) (hs : rest.size ≤ 1000000) (h0 : 0 ≤ c) (h1 : c ≤ 1000000) (hk : k ≤ 1000000)
    (hz : rest[0]'hp = 48) (t : ByteArray) (ht : rest.extract 0 1 = t) (hx : ∀ h : 1 < rest.size, partB (rest[1]'h).toNat = false) :
    Calls Tryz.prog 335 #[.pointer (some ⟨b, 0, none⟩)] w fun e w' => e = .returned (.int .i64 0) ∧ At w0 w' b (rest.extract 1 rest.size) f l (c + 1) (k + 1) (xs ++ tokC 3 t f l c) := by
  have hpu := put_at h 3 t 1 hp hs h0 h1 hk (fun k hk => by obtain rfl : k = 0 := by omega
                                                            rw [getD_zero hp, hz]; decide)
  obtain ⟨out, ⟨c0, c1, c2, c3, c4, f0, f3, f4⟩, _⟩ := h
  have q0 : (((rest[0]'hp).toNat : Int) != 48) = false := by rw [hz]; rfl
  by_cases hlt : 1 < rest.size
  · have cp := isPart_f _ (hx hlt) w
    clear hz hx
    go_enter Tryz.func335, Tryz.ntmps335
    go_wp2_with (first | (go_at_call 367; refine cp.mono ?_; rintro e w' ⟨rfl, rfl⟩) | (go_at_call 247; refine hpu.mono ?_; rintro e w2 ⟨rfl, hA⟩))
    go_ret
    exact ⟨rfl, hA⟩
  · have hle : rest.size ≤ 1 := by omega
    clear hz hx
    go_enter Tryz.func335, Tryz.ntmps335
    go_wp2_with (first | (go_at_call 247; refine hpu.mono ?_; rintro e w2 ⟨rfl, hA⟩))
    go_ret
    exact ⟨rfl, hA⟩
end Go.Proofs.Sc
