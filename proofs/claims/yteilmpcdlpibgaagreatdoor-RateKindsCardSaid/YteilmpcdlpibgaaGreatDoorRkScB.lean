import Derived.Test.YteilmpcdlpibgaaGreatDoorRkScA
import Derived.Lib.ConvBytes
import Derived.Maps.AppendAt
import Derived.OwnWalk
set_option linter.unusedVariables false
set_option linter.unusedSimpArgs false
namespace Go.Proofs.Sc
open Go Go.Proofs Go.RowKit
structure St (w : World) (b : Nat) (rest : ByteArray) (f l c : Int) (out : Value) : Prop where
  c0 : w.cell? ⟨b, 0, none⟩ = some (.string rest)
  c1 : w.cell? ⟨b, 1, none⟩ = some (.int .i64 f)
  c2 : w.cell? ⟨b, 2, none⟩ = some (.int .i64 l)
  c3 : w.cell? ⟨b, 3, none⟩ = some (.int .i64 c)
  c4 : w.cell? ⟨b, 4, none⟩ = some out
  f0 : w.frozen? ⟨b, 0, none⟩ = false
  f3 : w.frozen? ⟨b, 3, none⟩ = false
  f4 : w.frozen? ⟨b, 4, none⟩ = false
/-- what a step leaves of the world: all blocks but this one, and what is new -/
structure Upd (b : Nat) (w w' : World) : Prop where
  size : w.heap.size ≤ w'.heap.size
  heap : ∀ j, j < w.heap.size → j ≠ b → w'.heap[j]? = w.heap[j]?
  tape : w'.tape = w.tape
  os : w'.os = w.os
  out : w'.output = w.output
theorem Upd.refl (b : Nat) (w : World) : Upd b w w := ⟨Nat.le_refl _, fun _ _ _ => rfl, rfl, rfl, rfl⟩
theorem Upd.trans {b : Nat} {x y z : World} (h : Upd b x y) (k : Upd b y z) : Upd b x z :=
  ⟨Nat.le_trans h.size k.size, fun j hj hb => (k.heap j (Nat.lt_of_lt_of_le hj h.size) hb).trans (h.heap j hj hb), k.tape.trans h.tape, k.os.trans h.os, k.out.trans h.out⟩
theorem Upd.set (b o : Nat) (w : World) (v : Value) : Upd b w (w.setCell ⟨b, o, none⟩ v) :=
  ⟨by rw [World.size_setCell]; exact Nat.le_refl _, fun j _ hb => Below.heap_setCell w ⟨b, o, none⟩ v j hb, rfl, rfl, rfl⟩
theorem Upd.bytes (b : Nat) (w : World) (e : TypeId) (s : ByteArray) : Upd b w (Lib.bytesWorld w e s) :=
  ⟨by rw [Lib.bytesWorld_size]; omega, fun j hj _ => Lib.bytesWorld_at_old w e s j hj, rfl, rfl, rfl⟩
theorem cell_other (w : World) (b o p : Nat) (v : Value) (h : o ≠ p) : (w.setCell ⟨b, o, none⟩ v).cell? ⟨b, p, none⟩ = w.cell? ⟨b, p, none⟩ :=
  World.cell?_setCell_other _ _ _ _ (by intro e; injection e with _ e; exact h e)
theorem cell_same (w : World) (b o : Nat) (v u : Value) (h : w.cell? ⟨b, o, none⟩ = some u) : (w.setCell ⟨b, o, none⟩ v).cell? ⟨b, o, none⟩ = some v := World.cell?_setCell_same _ _ _ h
theorem froz_set (w : World) (b o p : Nat) (v : Value) : (w.setCell ⟨b, o, none⟩ v).frozen? ⟨b, p, none⟩ = w.frozen? ⟨b, p, none⟩ := World.frozen?_setCell _ _ _ _
theorem St.setCol {w b rest f l c out} (h : St w b rest f l c out) (c' : Int) : St (w.setCell ⟨b, 3, none⟩ (.int .i64 c')) b rest f l c' out :=
  ⟨(cell_other w b 3 0 _ (by decide)).trans h.c0, (cell_other w b 3 1 _ (by decide)).trans h.c1, (cell_other w b 3 2 _ (by decide)).trans h.c2, cell_same w b 3 _ _ h.c3, (cell_other w b 3 4 _ (by decide)).trans h.c4,
   (froz_set w b 3 0 _).trans h.f0, (froz_set w b 3 3 _).trans h.f3, (froz_set w b 3 4 _).trans h.f4⟩
theorem St.setRest {w b rest f l c out} (h : St w b rest f l c out) (r : ByteArray) : St (w.setCell ⟨b, 0, none⟩ (.string r)) b r f l c out :=
  ⟨cell_same w b 0 _ _ h.c0, (cell_other w b 0 1 _ (by decide)).trans h.c1, (cell_other w b 0 2 _ (by decide)).trans h.c2, (cell_other w b 0 3 _ (by decide)).trans h.c3, (cell_other w b 0 4 _ (by decide)).trans h.c4,
   (froz_set w b 0 0 _).trans h.f0, (froz_set w b 0 3 _).trans h.f3, (froz_set w b 0 4 _).trans h.f4⟩
theorem St.setOut {w b rest f l c out} (h : St w b rest f l c out) (v : Value) : St (w.setCell ⟨b, 4, none⟩ v) b rest f l c v :=
  ⟨(cell_other w b 4 0 _ (by decide)).trans h.c0, (cell_other w b 4 1 _ (by decide)).trans h.c1, (cell_other w b 4 2 _ (by decide)).trans h.c2, (cell_other w b 4 3 _ (by decide)).trans h.c3, cell_same w b 4 _ _ h.c4,
   (froz_set w b 4 0 _).trans h.f0, (froz_set w b 4 3 _).trans h.f3, (froz_set w b 4 4 _).trans h.f4⟩
theorem St.bytes {w b rest f l c out} (h : St w b rest f l c out) (hb : b < w.heap.size) (e : TypeId) (s : ByteArray) : St (Lib.bytesWorld w e s) b rest f l c out :=
  have hc : ∀ o, (Lib.bytesWorld w e s).cell? ⟨b, o, none⟩ = w.cell? ⟨b, o, none⟩ := fun o => Lib.bytesWorld_old w e s ⟨b, o, none⟩ hb
  have hf : ∀ o, (Lib.bytesWorld w e s).frozen? ⟨b, o, none⟩ = w.frozen? ⟨b, o, none⟩ := fun o => World.frozen?_of_block (Lib.bytesWorld_at_old w e s b hb)
  ⟨(hc 0).trans h.c0, (hc 1).trans h.c1, (hc 2).trans h.c2, (hc 3).trans h.c3, (hc 4).trans h.c4, (hf 0).trans h.f0, (hf 3).trans h.f3, (hf 4).trans h.f4⟩
set_option maxHeartbeats 1000000 in
theorem pass_any (w : World) (b : Nat) (rest : ByteArray) (f l c : Int) (out : Value) (n : Nat) (hn : n ≤ rest.size) (hs : rest.size ≤ 1000000) (h0 : 0 ≤ c) (h1 : c ≤ 1000000) (st : St w b rest f l c out) (hb : b < w.heap.size)
    (hnl : ∀ k, k < n → rest.data.toList.getD k 0 ≠ 10) :
    Calls Tryz.prog 298 #[.pointer (some ⟨b, 0, none⟩), .int .i64 n] w fun e w' => e = .returned (.tuple #[]) ∧ St w' b (rest.extract n rest.size) f l (c + n) out ∧ Upd b w w' := by
  have hcv := Lib.run_convert_string_bytes (P := Tryz.prog) w 9 212 5 (rest.extract 0 n) Tryz.underlying9 Tryz.underlying212 Tryz.underlying5
  have hst := st
  obtain ⟨c0, c1, c2, c3, c4, f0, f3, f4⟩ := st
  go_enter Tryz.func298, Tryz.ntmps298
  go_wp2
  have hz : (rest.extract 0 n).size = n := by simp; omega
  have hbyte : ∀ k, k < n → ((rest.extract 0 n).data.toList.getD k 0) = rest.data.toList.getD k 0 := fun k hk => by
    simp only [List.getD_eq_getElem?_getD, ByteArray.data_extract, Array.toList_extract, List.extract_eq_take_drop, Nat.sub_zero, List.drop_zero, List.getElem?_take, hk, if_true]
  have hw1 := Lib.bytesWorld_size w 5 (rest.extract 0 n)
  have HB : Hid (∀ k, k < n → ∃ x : Nat, ((x : Int) == 10) = false ∧ (Lib.bytesWorld w 5 (rest.extract 0 n)).cell? ⟨w.heap.size, k, none⟩ = some (.int .u8 x)) := Lib.hid fun k hk => by
    refine ⟨(rest.data.toList.getD k 0).toNat, ?_, ?_⟩
    · have h := hnl k hk
      have : (rest.data.toList.getD k 0).toNat ≠ 10 := fun e => h (UInt8.toNat_inj.1 e)
      simp only [beq_eq_false_iff_ne, ne_eq]; omega
    · rw [Lib.bytesWorld_cell w 5 (rest.extract 0 n) k (by omega), hbyte k hk]
  have HU : Hid (Upd b w (Lib.bytesWorld w 5 (rest.extract 0 n))) := Lib.hid (Upd.bytes b w 5 _)
  have HS : Hid (St (Lib.bytesWorld w 5 (rest.extract 0 n)) b rest f l c out) := Lib.hid (hst.bytes hb 5 _)
  clear hnl hbyte hcv hst c0 c1 c2 c3 c4 f0 f3 f4 hz
  generalize Lib.bytesWorld w 5 (rest.extract 0 n) = w1 at *
  have HW : Hid (w1.heap.size = w.heap.size + 1) := Lib.hid hw1
  clear hw1
  go_loopw [14] (fun i wr => ∃ k : Nat, k ≤ n ∧ i = .int .i64 k ∧ Hid (St wr b rest f l (c + k) out) ∧ Hid (Upd b w1 wr)) (fun i _ => n - (intOf i).toNat)
  case atStart => exact ⟨0, Nat.zero_le _, rfl, Lib.hid (by simpa using HS.out), Lib.hid (Upd.refl _ _)⟩
  case round =>
    obtain ⟨k, hk, rfl, hS, hU⟩ := hrel
    obtain ⟨c0, c1, c2, c3, c4, f0, f3, f4⟩ := hS.out
    by_cases hlt : k < n
    · obtain ⟨x, hx, hcx⟩ := HB.out k hlt
      have hcell : wr.cell? ⟨w.heap.size, k, none⟩ = some (.int .u8 x) := (World.cell?_of_block (hU.out.heap w.heap.size (by rw [HW.out]; omega) (by omega))).trans hcx
      clear hcx
      go_wp2
      go_roundw
      case rel => exact ⟨k + 1, by omega, by go_num, Lib.hid (by have := hS.out.setCol (c + (k + 1 : Nat)); simpa [Int.add_assoc] using this), Lib.hid (hU.out.trans (Upd.set _ _ _ _))⟩
      case measure => simp [intOf]; omega
    · obtain rfl : k = n := by omega
      go_wp2
      refine bodyPost_end (v := .tuple #[]) (by simp [results, Tryz.results298, go_sem]) rfl ?_
      exact ⟨rfl, hS.out.setRest _, HU.out.trans (hU.out.trans (Upd.set _ _ _ _))⟩
end Go.Proofs.Sc
