import Derived.Test.YteilmpcdlpibgaaGreatDoorRkScC
import Derived.RegionTactic
import Derived.ChangeAlike
set_option linter.unusedVariables false
set_option linter.unusedSimpArgs false
namespace Go.Proofs.Sc
open Go Go.Proofs Go.RowKit
theorem Upd.allocD (b : Nat) (w : World) (o : Obj) : Upd b w (w.alloc o).drew :=
  ⟨by show w.heap.size ≤ (w.heap.push o).size; rw [Array.size_push]; omega, fun j hj _ => by show (w.heap.push o)[j]? = _; rw [Array.getElem?_push, if_neg (by omega)], rfl, rfl, rfl⟩
theorem below_allocD (w : World) (o : Obj) : Below w.heap.size w (w.alloc o).drew :=
  ⟨rfl, rfl, rfl, by show w.heap.size ≤ (w.heap.push o).size; rw [Array.size_push]; omega, fun j hj => by show (w.heap.push o)[j]? = _; rw [Array.getElem?_push, if_neg (by omega)]⟩
/-- the last token's cells -/
theorem own_last {w : World} {b e k : Nat} {v : Value} {xs : List Value} {p q r s t : Value} (h : w.ownsRow b e 5 v (k + 1) (xs ++ [p, q, r, s, t])) : ∃ g cap, v = .slice (some ⟨g, 0, none⟩) (k + 1) cap ∧ b ≤ g ∧ g < w.heap.size ∧
    w.cell? ⟨g, k * 5, none⟩ = some p ∧ w.cell? ⟨g, k * 5 + 1, none⟩ = some q ∧ w.cell? ⟨g, k * 5 + 2, none⟩ = some r ∧ w.cell? ⟨g, k * 5 + 3, none⟩ = some s ∧ w.cell? ⟨g, k * 5 + 4, none⟩ = some t := by
  have hl := h.1
  rw [List.length_append] at hl
  simp only [List.length_cons, List.length_nil] at hl
  rcases h.2 with ⟨_, h0⟩ | ⟨g, cap, cur, h1, h2, h3, h4, h5, h6, h7⟩
  · omega
  · have hx : ∀ j, j < 5 → cur.toList[k * 5 + j]? = [p, q, r, s, t][j]? := fun j hj => by
      have h8 : (cur.toList.take ((k + 1) * 5))[k * 5 + j]? = (xs ++ [p, q, r, s, t])[k * 5 + j]? := by rw [h7]
      rw [List.getElem?_take, if_pos (by omega), List.getElem?_append_right (by omega), show k * 5 + j - xs.length = j by omega] at h8
      exact h8
    have hc : ∀ j (u : Value), j < 5 → [p, q, r, s, t][j]? = some u → w.cell? ⟨g, k * 5 + j, none⟩ = some u := fun j u hj hu => by
      rw [cell_of_row w g (k * 5 + j) cur e (0, 0) h3, ← Array.getElem?_toList, hx j hj, hu]
    refine ⟨g, cap, h1, h2, ?_, hc 0 p (by omega) rfl, hc 1 q (by omega) rfl, hc 2 r (by omega) rfl, hc 3 s (by omega) rfl, hc 4 t (by omega) rfl⟩
    by_cases hlt : g < w.heap.size
    · exact hlt
    · rw [Array.getElem?_eq_none (Nat.le_of_not_lt hlt)] at h3; cases h3
set_option maxRecDepth 100000 in
set_option maxHeartbeats 3200000 in
theorem ends_yes (w : World) (b : Nat) (rest : ByteArray) (f l c : Int) (out : Value) (k : Nat) (xs : List Value) (kd : Int) (t : ByteArray) (f' l' c' : Int) (hk : k ≤ 1000000) (st : St w b rest f l c out) (hb : b < w.heap.size)
    (hown : w.ownsRow (b + 1) 316 5 out (k + 1) (xs ++ tokC kd t f' l' c')) (hkd : kd = 2 ∨ kd = 3 ∨ kd = 4 ∨ kd = 5 ∧ (t = ⟨#[41]⟩ ∨ t = ⟨#[93]⟩ ∨ t = ⟨#[125]⟩)) :
    Calls Tryz.prog 297 #[.pointer (some ⟨b, 0, none⟩)] w fun e w' => e = .returned (.bool true) ∧ Below w.heap.size w w' := by
  obtain ⟨g, cap, rfl, hg, hgl, d0, d1, d2, d3, d4⟩ := own_last hown
  obtain ⟨c0, c1, c2, c3, c4, f0, f3, f4⟩ := st
  clear hown
  have e1 : ((k + 1 : Nat) : Int) - 1 = (k : Int) := by omega
  have e2 : (0 : Int) ≤ (k : Int) := by omega
  have e3 : (k : Int) < ((k + 1 : Nat) : Int) := by omega
  have e4 : ((k : Int) + 1 == 0) = false := by simp; omega
  rcases hkd with rfl | rfl | rfl | ⟨rfl, rfl | rfl | rfl⟩
  all_goals
    go_enter Tryz.func297, Tryz.ntmps297
    go_wp2
    go_region
    go_wp2
    go_ret
    exact ⟨rfl, below_allocD w _⟩
theorem St.upd {w w' : World} {b rest f l c out} (h : St w b rest f l c out) (hh : w'.heap[b]? = w.heap[b]?) : St w' b rest f l c out :=
  have hc : ∀ o, w'.cell? ⟨b, o, none⟩ = w.cell? ⟨b, o, none⟩ := fun o => World.cell?_of_block hh
  have hf : ∀ o, w'.frozen? ⟨b, o, none⟩ = w.frozen? ⟨b, o, none⟩ := fun o => World.frozen?_of_block hh
  ⟨(hc 0).trans h.c0, (hc 1).trans h.c1, (hc 2).trans h.c2, (hc 3).trans h.c3, (hc 4).trans h.c4, (hf 0).trans h.f0, (hf 3).trans h.f3, (hf 4).trans h.f4⟩
theorem prefix_not (s : ByteArray) (x y : UInt8) (h : ((s.extract 0 2).toList == [x, y]) = false) (w : World) : Calls Tryz.prog 364 #[.string s, .string ⟨#[x, y]⟩] w fun e w' => e = .returned (.bool false) ∧ w = w' := by
  go_enter Tryz.func364, Tryz.ntmps364
  go_wp2
  all_goals (go_ret; exact ⟨rfl, rfl⟩)
theorem hasPrefix_not (s : ByteArray) (x y : UInt8) (h : ((s.extract 0 2).toList == [x, y]) = false) (w : World) : Calls Tryz.prog 327 #[.string s, .string ⟨#[x, y]⟩] w fun e w' => e = .returned (.bool false) ∧ w = w' := by
  have c := prefix_not s x y h w
  clear h
  go_enter Tryz.func327, Tryz.ntmps327
  go_wp2_with (go_at_call 364; refine c.mono ?_; rintro e w' ⟨rfl, rfl⟩)
  go_ret; exact ⟨rfl, rfl⟩
theorem getD_zero {s : ByteArray} (h : 0 < s.size) : s.data.toList.getD 0 0 = s[0]'h := by
  rw [List.getD_eq_getElem?_getD, List.getElem?_eq_getElem (show 0 < s.data.toList.length by simpa using h)]; rfl
/-- a blank is passed -/
theorem gap_blank (w : World) (b : Nat) (rest : ByteArray) (f l c : Int) (out : Value) (hn : 0 < rest.size) (hs : rest.size ≤ 1000000) (h0 : 0 ≤ c) (h1 : c ≤ 1000000) (st : St w b rest f l c out) (hb : b < w.heap.size) (hx : rest[0]'hn = 32) :
    Calls Tryz.prog 295 #[.pointer (some ⟨b, 0, none⟩)] w fun e w' => e = .returned (.tuple #[.bool true, .int .i64 0]) ∧ St w' b (rest.extract 1 rest.size) f l (c + 1) out ∧ Upd b w w' := by
  have hp := pass_any w b rest f l c out 1 hn hs h0 h1 st hb (fun k hk => by obtain rfl : k = 0 := by omega
                                                                             rw [getD_zero hn, hx]; decide)
  obtain ⟨c0, c1, c2, c3, c4, f0, f3, f4⟩ := st
  have q1 : (((rest[0]'hn).toNat : Int) == 10) = false := by rw [hx]; rfl
  have q2 : (((rest[0]'hn).toNat : Int) == 32) = true := by rw [hx]; rfl
  clear hx
  go_enter Tryz.func295, Tryz.ntmps295
  go_wp2_with (go_at_call 298; refine hp.mono ?_; rintro e w2 ⟨rfl, hS2, hU2⟩)
  exact bodyPost_ret (v := .tuple #[.bool true, .int .i64 0]) (by simp [results, Tryz.results295, go_sem]) rfl ⟨rfl, hS2, hU2⟩
/-- here is no gap -/
theorem gap_no (w : World) (b : Nat) (rest : ByteArray) (f l c : Int) (out : Value) (hn : 0 < rest.size) (st : St w b rest f l c out)
    (q1 : (((rest[0]'hn).toNat : Int) == 10) = false) (q2 : (((rest[0]'hn).toNat : Int) == 32) = false) (q3 : (((rest[0]'hn).toNat : Int) == 9) = false) (q4 : (((rest[0]'hn).toNat : Int) == 13) = false)
    (p1 : ((rest.extract 0 2).toList == [47, 47]) = false) (p2 : ((rest.extract 0 2).toList == [47, 42]) = false) :
    Calls Tryz.prog 295 #[.pointer (some ⟨b, 0, none⟩)] w fun e w' => e = .returned (.tuple #[.bool false, .int .i64 0]) ∧ w = w' := by
  have hp1 := hasPrefix_not rest 47 47 p1 w
  have hp2 := hasPrefix_not rest 47 42 p2 w
  obtain ⟨c0, c1, c2, c3, c4, f0, f3, f4⟩ := st
  clear p1 p2
  go_enter Tryz.func295, Tryz.ntmps295
  go_wp2_with (first | (go_at_call 327; ((with_reducible refine hp1.mono ?_); rintro e w2 ⟨rfl, rfl⟩)) | (go_at_call 327; ((with_reducible refine hp2.mono ?_); rintro e w2 ⟨rfl, rfl⟩)))
  exact bodyPost_ret (v := .tuple #[.bool false, .int .i64 0]) (by simp [results, Tryz.results295, go_sem]) rfl ⟨rfl, rfl⟩
end Go.Proofs.Sc
