import Derived.Test.YteilmpcdlpibgaaGreatDoorRkScJ
set_option linter.unusedVariables false
set_option linter.unusedSimpArgs false
namespace Go.Proofs.Sc
open Go Go.Proofs Go.RowKit
/-- a piece of a text: its bytes, and its token (a blank has none) -/
structure Item where
  raw : ByteArray
  tk : Option (Int × ByteArray)
def catR : List Item → ByteArray
  | [] => ByteArray.empty
  | i :: r => i.raw ++ catR r
def nTok : List Item → Nat
  | [] => 0
  | i :: r => (match i.tk with | some _ => 1 | none => 0) + nTok r
def Item.cells (i : Item) (fi c : Int) : List Value := match i.tk with
  | some (kd, t) => tokC kd t fi 1 c
  | none => []
def cellsOf (fi : Int) : Int → List Item → List Value
  | _, [] => []
  | c, i :: r => i.cells fi c ++ cellsOf fi (c + i.raw.size) r
def Item.n (i : Item) : Nat := match i.tk with | some _ => 1 | none => 0
def ItemOK (fi : Int) (i : Item) (tail : ByteArray) : Prop := ∀ (w0 w : World) (b : Nat) (c : Int) (k : Nat) (xs : List Value), At w0 w b (i.raw ++ tail) fi 1 c k xs → (i.raw ++ tail).size ≤ 1000000 → 0 ≤ c → c ≤ 1000000 → k ≤ 1000000 →
  Calls Tryz.prog 245 #[.pointer (some ⟨b, 0, none⟩)] w fun e w' => e = .returned (.int .i64 0) ∧ At w0 w' b tail fi 1 (c + i.raw.size) (k + i.n) (xs ++ i.cells fi c)
def ItemsOK (fi : Int) : List Item → Prop
  | [] => True
  | i :: r => (0 < i.raw.size ∧ ItemOK fi i (catR r)) ∧ ItemsOK fi r
theorem catR_append : ∀ (a b : List Item), catR (a ++ b) = catR a ++ catR b := by
  intro a
  induction a with
  | nil => intro b; simp [catR]
  | cons i r ih => intro b; simp [catR, ih, ByteArray.append_assoc]
theorem nTok_append : ∀ (a b : List Item), nTok (a ++ b) = nTok a + nTok b := by
  intro a
  induction a with
  | nil => intro b; simp [nTok]
  | cons i r ih => intro b; simp [nTok, ih, Nat.add_assoc]
theorem nTok_one (i : Item) : nTok [i] = i.n := by simp [nTok, Item.n]
theorem cellsOf_append (fi : Int) : ∀ (a b : List Item) (c : Int), cellsOf fi c (a ++ b) = cellsOf fi c a ++ cellsOf fi (c + (catR a).size) b := by
  intro a
  induction a with
  | nil => intro b c; simp [cellsOf, catR]
  | cons i r ih =>
    intro b c
    simp only [List.cons_append, cellsOf, ih, catR, List.append_assoc, ByteArray.size_append]
    congr 3
    push_cast
    omega
theorem ItemsOK.tail {fi : Int} : ∀ {a b : List Item}, ItemsOK fi (a ++ b) → ItemsOK fi b := by
  intro a
  induction a with
  | nil => intro b h; exact h
  | cons i r ih => intro b h; exact ih h.2
theorem nTok_le {fi : Int} : ∀ {a : List Item}, ItemsOK fi a → nTok a ≤ (catR a).size := by
  intro a
  induction a with
  | nil => intro _; exact Nat.zero_le _
  | cons i r ih =>
    intro h
    have := ih h.2
    have := h.1.1
    simp only [nTok, catR, ByteArray.size_append]
    split <;> omega
/-- the scanner between two pieces -/
def Mid (fi : Int) (w1 : World) (b : Nat) (items : List Item) (q : Nat) (wr : World) : Prop :=
  ∃ done todo, items = done ++ todo ∧ todo.length = q ∧ At w1 wr b (catR todo) fi 1 (1 + (catR done).size) (nTok done) (cellsOf fi 1 done)
/-- all tokens, with the semicolon and the end behind them -/
def allCells (fi : Int) (items : List Item) : List Value := cellsOf fi 1 items ++ tokC 5 ⟨#[59]⟩ fi 1 (1 + (catR items).size) ++ tokC 1 ⟨#[]⟩ fi 1 (1 + (catR items).size)
def TokPost (fi : Int) (w : World) (items : List Item) (e : Ending) (w' : World) : Prop :=
  ∃ v, e = .returned (.tuple #[v, .agg #[.int .i64 0, .int .i64 0, .int .i64 0, .int .i64 0]]) ∧ w'.ownsRow w.heap.size 316 5 v (nTok items + 2) (allCells fi items) ∧ Below w.heap.size w w'
theorem St.fresh (w : World) (s : ByteArray) (f l c : Int) (v : Value) : St (w.alloc (.cells #[.string s, .int .i64 f, .int .i64 l, .int .i64 c, v] 312)) w.heap.size s f l c v := by
  have h : (w.alloc (.cells #[.string s, .int .i64 f, .int .i64 l, .int .i64 c, v] 312)).heap[w.heap.size]? = some (.cells #[.string s, .int .i64 f, .int .i64 l, .int .i64 c, v] 312 (0, 0)) := heap_alloc_new w _
  have hc : ∀ i, (w.alloc (.cells #[.string s, .int .i64 f, .int .i64 l, .int .i64 c, v] 312)).cell? ⟨w.heap.size, i, none⟩ = (#[.string s, .int .i64 f, .int .i64 l, .int .i64 c, v] : Array Value)[i]? := fun i => cell_of_row _ _ i _ _ _ h
  have hf : ∀ i, (w.alloc (.cells #[.string s, .int .i64 f, .int .i64 l, .int .i64 c, v] 312)).frozen? ⟨w.heap.size, i, none⟩ = false := fun i => by
    unfold World.frozen?; rw [h]; simp
  exact ⟨hc 0, hc 1, hc 2, hc 3, hc 4, hf 0, hf 3, hf 4⟩
theorem fault_cells (w : World) (o : Obj) (w3 : World) (h : Below (w.heap.size + 1) ((w.alloc (.cells #[.int .i64 0, .int .i64 0, .int .i64 0, .int .i64 0] 43)).alloc o) w3) :
    w3.cell? ⟨w.heap.size, 0, none⟩ = some (.int .i64 0) ∧ w3.cell? ⟨w.heap.size, 1, none⟩ = some (.int .i64 0) ∧ w3.cell? ⟨w.heap.size, 2, none⟩ = some (.int .i64 0) ∧ w3.cell? ⟨w.heap.size, 3, none⟩ = some (.int .i64 0) ∧
    w3.frozen? ⟨w.heap.size, 0, none⟩ = false ∧ w3.frozen? ⟨w.heap.size, 1, none⟩ = false ∧ w3.frozen? ⟨w.heap.size, 2, none⟩ = false ∧ w3.frozen? ⟨w.heap.size, 3, none⟩ = false := by
  have h1 : w3.heap[w.heap.size]? = some (.cells #[.int .i64 0, .int .i64 0, .int .i64 0, .int .i64 0] 43 (0, 0)) := by
    rw [h.block w.heap.size (by omega)]
    have e : ((w.alloc (.cells #[.int .i64 0, .int .i64 0, .int .i64 0, .int .i64 0] 43)).alloc o).heap = (w.heap.push (.cells #[.int .i64 0, .int .i64 0, .int .i64 0, .int .i64 0] 43)).push o := rfl
    rw [e, Array.getElem?_push, if_neg (by rw [Array.size_push]; omega), Array.getElem?_push, if_pos rfl]
  have hc : ∀ i, w3.cell? ⟨w.heap.size, i, none⟩ = (#[.int .i64 0, .int .i64 0, .int .i64 0, .int .i64 0] : Array Value)[i]? := fun i => cell_of_row _ _ i _ _ _ h1
  have hf : ∀ i, w3.frozen? ⟨w.heap.size, i, none⟩ = false := fun i => by unfold World.frozen?; rw [h1]; simp
  exact ⟨hc 0, hc 1, hc 2, hc 3, hf 0, hf 1, hf 2, hf 3⟩
theorem below_end {w w3 : World} {o o' : Obj} {u v x y : Value} (h : Below (w.heap.size + 1) ((w.alloc o).alloc o') w3) :
    Below w.heap.size w ((((w3.setCell ⟨w.heap.size, 0, none⟩ u).setCell ⟨w.heap.size, 1, none⟩ v).setCell ⟨w.heap.size, 2, none⟩ x).setCell ⟨w.heap.size, 3, none⟩ y) := by
  have hU := ((Upd.set w.heap.size 0 w3 u).trans (Upd.set w.heap.size 1 _ v)).trans ((Upd.set w.heap.size 2 _ x).trans (Upd.set w.heap.size 3 _ y))
  have h1 : Below w.heap.size w ((w.alloc o).alloc o') := ⟨rfl, rfl, rfl, by show w.heap.size ≤ ((w.heap.push o).push o').size; simp only [Array.size_push]; omega, fun k hk => by
    show ((w.heap.push o).push o')[k]? = _
    rw [Array.getElem?_push, if_neg (by rw [Array.size_push]; omega), Array.getElem?_push, if_neg (by omega)]⟩
  have h2 : Below w.heap.size ((w.alloc o).alloc o') w3 := ⟨h.os, h.tape, h.output, h.size, fun k hk => h.block k (by omega)⟩
  have h3 : w.heap.size ≤ w3.heap.size := Nat.le_trans h1.size h2.size
  exact h1.trans (h2.trans (hU.below h3))
theorem toList_ne {s : ByteArray} (h : 0 < s.size) : s.toList ≠ [] := by
  rw [ByteArray.toList_eq]
  intro e
  have : s.data.toList.length = 0 := by rw [e]; rfl
  have h2 : s.data.toList.length = s.size := rfl
  omega
theorem own_base {w : World} {b b' e s n : Nat} {v : Value} {xs : List Value} (h : w.ownsRow b e s v n xs) (hb : b' ≤ b) : w.ownsRow b' e s v n xs :=
  ⟨h.1, h.2.imp id fun ⟨g, cap, cur, h1, h2, h3⟩ => ⟨g, cap, cur, h1, by omega, h3⟩⟩
set_option maxRecDepth 100000 in
set_option maxHeartbeats 3200000 in
theorem tokens_any (fi : Int) (init : List Item) (last : Item) (kd : Int) (t : ByteArray) (w : World) (hl : last.tk = some (kd, t)) (hkd : kd = 2 ∨ kd = 3 ∨ kd = 4 ∨ kd = 5 ∧ (t = ⟨#[41]⟩ ∨ t = ⟨#[93]⟩ ∨ t = ⟨#[125]⟩)) (hok : ItemsOK fi (init ++ [last])) (hs : (catR (init ++ [last])).size ≤ 65536) :
    Calls Tryz.prog 194 #[.int .i64 fi, .string (catR (init ++ [last]))] w (TokPost fi w (init ++ [last])) := by
  have HOK := Lib.hid hok
  have hcount := nTok_le hok
  have hs' : decide ((65536 : Int) < ((catR (init ++ [last])).size : Int)) = false := by simp; omega
  have HL : Hid (∃ items, items = init ++ [last]) := Lib.hid ⟨_, rfl⟩
  have HC : Hid (cellsOf fi 1 (init ++ [last]) = cellsOf fi 1 init ++ tokC kd t fi 1 (1 + (catR init).size) ∧ nTok (init ++ [last]) = nTok init + 1) := Lib.hid (by
    rw [cellsOf_append, nTok_append, nTok_one]
    simp [cellsOf, Item.cells, Item.n, hl])
  clear hok hl
  generalize hI : init ++ [last] = items at *
  have HI := Lib.hid hI
  clear hI HL
  go_enter Tryz.func194, Tryz.ntmps194
  go_wp2
  go_loopg [] items.length (fun kq wr => Mid fi ((w.alloc (.cells #[.int .i64 0, .int .i64 0, .int .i64 0, .int .i64 0] 43)).alloc (.cells #[.string (catR items), .int .i64 fi, .int .i64 1, .int .i64 1, .slice none 0 0] 312)) (w.heap.size + 1) items kq wr)
  case atStart =>
    have hst := St.fresh (w.alloc (.cells #[.int .i64 0, .int .i64 0, .int .i64 0, .int .i64 0] 43)) (catR items) fi 1 1 (.slice none 0 0)
    have hsz : (w.alloc (.cells #[.int .i64 0, .int .i64 0, .int .i64 0, .int .i64 0] 43)).heap.size = w.heap.size + 1 := by show (w.heap.push _).size = _; rw [Array.size_push]
    rw [hsz] at hst
    exact ⟨[], items, rfl, rfl, .slice none 0 0, hst, ⟨rfl, .inl ⟨rfl, rfl⟩⟩, Below.refl _ _, World.block_lt_of_cell? _ _ hst.c0⟩
  case round =>
    obtain ⟨done, todo, he, hq, hA⟩ := hrel
    obtain ⟨out, st, hown, hbl, hb⟩ := hA
    have hA := Lib.hid (show At _ wr (w.heap.size + 1) (catR todo) fi 1 (1 + (catR done).size) (nTok done) (cellsOf fi 1 done) from ⟨out, st, hown, hbl, hb⟩)
    obtain ⟨c0, c1, c2, c3, c4, f0, f3, f4⟩ := st
    clear hown hbl hb
    have hsum : (catR done).size + (catR todo).size ≤ 65536 := by
      have := congrArg (fun l => (catR l).size) he
      simp only [catR_append, ByteArray.size_append] at this
      omega
    have hcnt : nTok done ≤ 65536 := by
      have := congrArg nTok he
      rw [nTok_append] at this
      omega
    cases todo with
    | nil =>
      rw [List.append_nil] at he
      subst he
      obtain ⟨hC, hN⟩ := HC.out
      have hA1 := hA.out
      rw [hC, hN] at hA1
      have hend := end_yes hA1 (by simp [catR]) (by omega) (by omega) (by omega) hkd
      have HD := Lib.hid (And.intro hC hN)
      have e0 : catR [] = ⟨#[]⟩ := rfl
      rw [e0] at c0 hend
      have hput := fun (W : World) (hW : At ((w.alloc (.cells #[.int .i64 0, .int .i64 0, .int .i64 0, .int .i64 0] 43)).alloc (.cells #[.string (catR items), .int .i64 fi, .int .i64 1, .int .i64 1, .slice none 0 0] 312)) W (w.heap.size + 1) ⟨#[]⟩ fi 1 (1 + (catR items).size) (nTok init + 2) (cellsOf fi 1 init ++ tokC kd t fi 1 (1 + (catR init).size) ++ tokC 5 ⟨#[59]⟩ fi 1 (1 + (catR items).size))) => put_at hW 1 ⟨#[]⟩ 0 (Nat.zero_le _) (by decide) (by omega) (by omega) (by omega) (fun k hk => absurd hk (by omega))
      clear hs' hq hA1 hC hN
      go_wp2_with (first | (go_at_call 246; refine hend.mono ?_; rintro e w2 ⟨rfl, hA2⟩; have HA2 := Lib.hid hA2; clear hA2) | (go_at_call 247; refine (hput _ HA2.out).mono ?_; rintro e w3 ⟨rfl, hA3⟩; obtain ⟨out3, st3, hown3, hbl3, hb3⟩ := hA3; have d4 := st3.c4; obtain ⟨g0, g1, g2, g3, k0, k1, k2, k3⟩ := fault_cells w _ w3 hbl3; have HA3 := Lib.hid (And.intro hown3 hbl3); clear st3 hown3 hbl3 hb3))
      refine bodyPost_ret (v := .tuple #[out3, .agg #[.int .i64 0, .int .i64 0, .int .i64 0, .int .i64 0]]) (by simp [results, Tryz.results194, go_sem, g0, g1, g2, g3]) rfl ⟨out3, rfl, ?_, ?_⟩
      · obtain ⟨hC, hN⟩ := HD.out
        have hU := ((Upd.set w.heap.size 0 w3 (.int .i64 0)).trans (Upd.set w.heap.size 1 _ (.int .i64 0))).trans ((Upd.set w.heap.size 2 _ (.int .i64 0)).trans (Upd.set w.heap.size 3 _ (.int .i64 0)))
        have := own_base (own_upd (own_base (b' := w.heap.size + 1) HA3.out.1 (by omega)) hU) (b' := w.heap.size) (by omega)
        unfold allCells
        rw [hN, hC]
        exact this
      · exact below_end HA3.out.2
    | cons i r =>
      have hone := HOK.out
      rw [he] at hone
      have hone := hone.tail
      have hz := hone.1.1
      have hstep := hone.1.2 _ wr (w.heap.size + 1) (1 + (catR done).size) (nTok done) (cellsOf fi 1 done) hA.out (by have : catR (i :: r) = i.raw ++ catR r := rfl; rw [← this]; omega) (by omega) (by omega) (by omega)
      have hne2 : (catR (i :: r)).toList ≠ [] := toList_ne (by simp only [catR, ByteArray.size_append]; omega)
      have hne : (catR (i :: r)).toList.isEmpty = false := by simp [hne2]
      have HE := Lib.hid he
      have HQ := Lib.hid hq
      clear hone hs' he hq
      go_wp2_with (go_at_call 245; refine hstep.mono ?_; rintro e w2 ⟨rfl, hA2⟩)
      go_roundg r.length
      case measure => have := HQ.out; simp at this; omega
      case rel =>
        refine ⟨done ++ [i], r, by rw [HE.out]; simp, rfl, ?_⟩
        rw [catR_append, nTok_append, nTok_one, cellsOf_append, ByteArray.size_append]
        have e1 : catR [i] = i.raw := by simp [catR]
        have e2 : ∀ c, cellsOf fi c [i] = i.cells fi c := fun c => by simp [cellsOf]
        rw [e1, e2, Int.natCast_add, ← Int.add_assoc]
        exact hA2
end Go.Proofs.Sc
