import Derived.Test.YteilmpcdlpibgaaGreatDoorRkScG
import Derived.Laws.BytesString
import Derived.Laws.Cells
set_option linter.unusedVariables false
set_option linter.unusedSimpArgs false
namespace Go.Proofs.Sc
open Go Go.Proofs Go.RowKit
theorem info5 : (Tryz.prog.info? 5).map (fun i => (i.zero, i.size, i.bytes)) = some (some (.int .u8 0), 1, 1) := by kernel_rfl
def u8C (b : UInt8) : Value := .int .u8 b.toNat
theorem push_foldl : ∀ (bs : List UInt8) (r : ByteArray), (bs.map fun b => (b.toNat : Int)).foldl (fun r n => r.push (UInt8.ofNat n.toNat)) r = ⟨r.data ++ bs.toArray⟩ := by
  intro bs
  induction bs with
  | nil => intro r; simp
  | cons a t ih =>
    intro r
    rw [List.map_cons, List.foldl_cons, ih]
    apply ByteArray.ext
    simp [ByteArray.push]
/-- the text of a row of bytes of the call's own -/
theorem conv_own {w : World} {base n : Nat} {v : Value} {bs : List UInt8} (h : w.ownsRow base 5 1 v n (bs.map u8C)) : (convert 212 9 v).run Tryz.prog w = .ok (.string ⟨bs.toArray⟩) w := by
  have hl := h.1
  rw [List.length_map, Nat.mul_one] at hl
  rcases h.2 with ⟨rfl, h0⟩ | ⟨g, cap, cur, rfl, h2, h3, h4, h5, h6, h7⟩
  · obtain rfl : bs = [] := List.eq_nil_of_length_eq_zero (by omega)
    rw [run_convert_bytes_string w 212 9 5 none 0 0 Tryz.underlying212 Tryz.underlying5 Tryz.underlying9]
    simp [Conv.bytesToString]
    rfl
  · rw [run_convert_bytes_string w 212 9 5 _ n cap Tryz.underlying212 Tryz.underlying5 Tryz.underlying9]
    have hc := run_loadCells_list (P := Tryz.prog) (w := w) ⟨g, 0, none⟩ (bs.map u8C) (fun j u hu => by
      have hadd : (⟨g, 0, none⟩ : Addr).add j = ⟨g, j, none⟩ := by unfold Addr.add; split <;> simp_all
      rw [hadd, cell_of_row w g j cur 5 (0, 0) h3, ← Array.getElem?_toList]
      have hj : j < n := by have := (List.getElem?_eq_some_iff.1 hu).1; simp at this; omega
      have : (cur.toList.take (n * 1))[j]? = (bs.map u8C)[j]? := by rw [h7]
      rw [List.getElem?_take, if_pos (by omega)] at this
      rw [this, hu])
    rw [List.length_map, hl] at hc
    rw [run_bytesToString w ⟨g, 0, none⟩ n cap (bs.map fun b => (b.toNat : Int)) (by rw [hc]; simp [u8C, Function.comp_def]), push_foldl]
    simp
end Go.Proofs.Sc
