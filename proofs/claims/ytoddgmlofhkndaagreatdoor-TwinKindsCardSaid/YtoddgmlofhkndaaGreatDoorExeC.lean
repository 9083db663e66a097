/- The executor is sound, second part: the operations that write or make blocks, calls. -/
import Derived.Test.YtoddgmlofhkndaaGreatDoorExeB
import Derived.Laws.MakeOwn
import Derived.Laws.AppendOwn
import Derived.Laws.IdiomStrings
import Derived.Laws.IdiomCopy
import Derived.Lib.UnsafeStr
import Derived.Defers
import Derived.Lib.Bytealg
set_option linter.unusedVariables false
set_option linter.unusedSectionVars false
set_option linter.unusedSimpArgs false
namespace Go.Exe
variable [Sig]
variable {P : Program} {gl : Nat → Nat → V} {N : Nat}
/-- rows of one size -/
def Rows (sz : Nat) (l : LL) : Prop := ∀ r ∈ l, r.length = sz
theorem Rows.tail {sz a} {l : LL} (h : Rows sz (a :: l)) : Rows sz l := fun r hr => h r (by simp [hr])
theorem Rows.head {sz a} {l : LL} (h : Rows sz (a :: l)) : a.length = sz := h a (by simp)
theorem Rows.length {sz} : ∀ {l : LL}, Rows sz l → l.flatten.length = l.length * sz := by
  intro l
  induction l with
  | nil => intro _; simp
  | cons a t ih => intro h; rw [List.flatten_cons, List.length_append, ih h.tail, h.head, List.length_cons, Nat.succ_mul]; omega
theorem Rows.get {sz : Nat} (hz : 0 < sz) : ∀ {l : LL}, Rows sz l → ∀ o, l.flatten[o]? = (l[o / sz]?).bind (·[o % sz]?) := by
  intro l
  induction l with
  | nil => intro _ o; simp
  | cons a t ih =>
    intro h o
    rw [List.flatten_cons, List.getElem?_append, h.head]
    split
    · rename_i ho
      rw [Nat.div_eq_of_lt ho, Nat.mod_eq_of_lt ho]; simp
    · rename_i ho
      rw [ih h.tail (o - sz)]
      have h1 : o / sz = (o - sz) / sz + 1 := by
        obtain ⟨q, rfl⟩ : ∃ q, o = q + sz := ⟨o - sz, by omega⟩
        rw [Nat.add_div_right _ hz, Nat.add_sub_cancel]
      have h2 : o % sz = (o - sz) % sz := by
        obtain ⟨q, rfl⟩ : ∃ q, o = q + sz := ⟨o - sz, by omega⟩
        rw [Nat.add_mod_right, Nat.add_sub_cancel]
      rw [h1, h2]; simp
-- makers of cells
theorem llen_eq : ∀ (l : LL) (k : Nat → Bool), llen l k = k l.length := by
  intro l
  induction l with
  | nil => intro k; rfl
  | cons a t ih => intro k; exact ih _
theorem lapp_eq : ∀ (a b : LL) (k : LL → Bool), lapp a b k = k (a ++ b) := by
  intro a
  induction a with
  | nil => intro b k; rfl
  | cons x t ih => intro b k; exact ih b _
theorem rep_eq : ∀ (n : Nat) (z : List V) (k : LL → Bool), rep n z k = k (List.replicate n z) := by
  intro n
  induction n with
  | zero => intro z k; rfl
  | succ n ih =>
    intro z k
    have : rep (n + 1) z k = rep n z fun r => k (z :: r) := rfl
    rw [this, ih, List.replicate_succ]
theorem pushE_eq : ∀ (l : LL) (i : Nat) (t : T3) (k : T3 → Bool), i + l.length ≤ 4096 → ∃ t', pushE l i t k = k t' ∧ ∀ j, j < 4096 → tat t' j = if i ≤ j ∧ j < i + l.length then (l[j - i]?).getD [] else tat t j := by
  intro l
  induction l with
  | nil => intro i t k _; exact ⟨t, rfl, fun j _ => by rw [if_neg (by simp)]⟩
  | cons a r ih =>
    intro i t k hi
    simp only [List.length_cons] at hi
    obtain ⟨t', h1, h2⟩ := ih (i + 1) (tup3 t i a) k (by omega)
    refine ⟨t', ?_, fun j hj => ?_⟩
    · rw [← h1]
      show t3set i t a (fun t => pushE r (i + 1) t k) = _
      rw [t3set_eq]
    · rw [h2 j hj, tat_tup _ _ _ _ (by omega) hj]
      by_cases e : j = i
      · subst e
        rw [if_neg (by omega), if_pos rfl, if_pos (by simp)]; simp
      · rw [if_neg e]
        by_cases e2 : i + 1 ≤ j ∧ j < i + 1 + r.length
        · rw [if_pos e2, if_pos (by simp; omega), show j - i = (j - (i + 1)) + 1 by omega]; simp
        · rw [if_neg e2, if_neg (by simp; omega)]
theorem mkMany_true {l : LL} {k} (h : mkMany l k = true) : ∃ t, k (.many l.length t) = true ∧ l.length ≤ 4096 ∧ ∀ i, i < l.length → some (tat t i) = l[i]? := by
  have h' : llen l (fun n => Bool.rec (motive := fun _ => Bool) false (pushE l 0 t3e fun t => k (.many n t)) (Nat.ble n 4096)) = true := h
  rw [llen_eq] at h'
  obtain ⟨h1, h2⟩ := bguard h'
  have h1 := Nat.le_of_ble_eq_true h1
  obtain ⟨t, h3, h4⟩ := pushE_eq l 0 t3e (fun t => k (.many l.length t)) (by omega)
  rw [h3] at h2
  refine ⟨t, h2, h1, fun i hi => ?_⟩
  rw [h4 i (by omega), if_pos (by omega)]
  simp [hi]
theorem mkCells_true {l : LL} {k} (h : mkCells l k = true) : ∃ c : Cells, k c = true ∧ c.ok ∧ ∀ i, c.elem i = l[i]? := by
  have many : mkMany l k = true → ∃ c : Cells, k c = true ∧ c.ok ∧ ∀ i, c.elem i = l[i]? := fun h => by
    obtain ⟨t, h1, h2, h3⟩ := mkMany_true h
    refine ⟨_, h1, h2, fun i => ?_⟩
    simp only [Cells.elem]
    split
    · rename_i hi; exact h3 i hi
    · rename_i hi; rw [List.getElem?_eq_none (by omega)]
  match l, h with
  | [], h => exact many h
  | [a], h => exact ⟨.one a, h, trivial, fun i => by cases i <;> rfl⟩
  | _ :: _ :: _, h => exact many h
theorem cellAt_rows {c : Cells} {l : LL} (he : ∀ i, c.elem i = l[i]?) (sz o : Nat) : cellAt c sz o = (l[o / sz]?).bind (·[o % sz]?) := by
  unfold cellAt; rw [he]
  cases l[o / sz]? <;> rfl
/-- rows of cells, each one value -/
def CellsB (l : LL) : Prop := ∀ r ∈ l, ∀ v ∈ r, cellB v = true
theorem CellsB.flat {l : LL} (h : CellsB l) {o : Nat} {v : V} (hv : l.flatten[o]? = some v) : cellB v = true := by
  obtain ⟨r, h1, h2⟩ := List.mem_flatten.1 (List.mem_of_getElem? hv)
  exact h r h1 v h2
theorem CellsB.set {a : List V} (ha : ∀ v ∈ a, cellB v = true) {l : LL} {i : Nat} (h : CellsB l) : CellsB (l.set i a) := by
  intro r hr
  rcases List.mem_or_eq_of_mem_set hr with h1 | h1
  · exact h r h1
  · rw [h1]; exact ha
/-- A block's cells, from the rows of its elements. -/
theorem cellsR_mk {ρ : Rho} {p : Pos} {el sz : Nat} {c : Cells} {l : LL} {arr : Array Value} {fr : Nat × Nat} (hl : Rows sz l) (hz : 0 < sz) (hs : p.sz = sz) (hsh : p.sh = 0) (hok : c.ok)
    (he : ∀ i, c.elem i = l[i]?) (hcap : l.length ≤ p.cap) (harr : p.cap * sz ≤ arr.size) (hfr : ∀ i, i < arr.size → ¬ (fr.1 ≤ i ∧ i < fr.2))
    (hb : CellsB l) (hc : ∀ (o : Nat) (v : V), l.flatten[o]? = some v → ∃ x, conc ρ v = some x ∧ arr[o]? = some x) : CellsR ρ p el sz c (some (.cells arr el fr)) := by
  refine ⟨arr, fr, rfl, ⟨hs, hsh⟩, hz, hok, fun i r hr => ?_, by rw [hsh]; omega, hfr, fun o v hv => ?_⟩
  · rw [he] at hr
    exact ⟨hl r (List.mem_of_getElem? hr), Nat.lt_of_lt_of_le (List.getElem?_eq_some_iff.1 hr).1 hcap⟩
  · rw [cellAt_rows he, ← hl.get hz] at hv
    obtain ⟨x, h1, h2⟩ := hc o v hv
    exact ⟨hb.flat hv, x, h1, by rw [hsh, Nat.zero_add]; exact h2⟩
theorem cells_of_concL {ρ : Rho} {l : List V} {arr : List Value} {more : List Value} (h : concL ρ l = some arr) (o : Nat) (v : V) (hv : l[o]? = some v) : ∃ x, conc ρ v = some x ∧ (arr ++ more).toArray[o]? = some x := by
  obtain ⟨x, h1, h2⟩ := (concL_get h).2 o v hv
  refine ⟨x, h1, ?_⟩
  simp only [List.getElem?_toArray]
  rw [List.getElem?_append_left (List.getElem?_eq_some_iff.1 h2).1]; exact h2
-- a slice's parts
theorem llput_true : ∀ (i : Nat) {a : List V} {l : LL} {k}, llput i a l k = true → i < l.length ∧ k (l.set i a) = true := by
  intro i
  induction i with
  | zero => intro a l k h; cases l with
    | nil => cases h
    | cons x t => exact ⟨by simp, h⟩
  | succ i ih => intro a l k h; cases l with
    | nil => cases h
    | cons x t =>
      obtain ⟨h1, h2⟩ := ih (a := a) (l := t) (k := fun r => k (x :: r)) h
      exact ⟨by simp; omega, h2⟩
theorem Rows.set {sz : Nat} {a : List V} (ha : a.length = sz) : ∀ {l : LL} {i : Nat}, Rows sz l → Rows sz (l.set i a) := by
  intro l i h r hr
  rcases List.mem_or_eq_of_mem_set hr with h1 | h1
  · exact h r h1
  · rw [h1]; exact ha
theorem flatten_set {sz : Nat} : ∀ {l : LL} {i : Nat} {a : List V}, Rows sz l → a.length = sz → i < l.length → (l.set i a).flatten = lputL (i * sz) a l.flatten := by
  intro l
  induction l with
  | nil => intro i a _ _ h; cases h
  | cons x t ih =>
    intro i a h ha hi
    cases i with
    | zero =>
      simp only [List.set_cons_zero, List.flatten_cons, lputL, Nat.zero_mul, List.take_zero, List.nil_append, Nat.zero_add]
      congr 1
      rw [List.drop_append, ha, ← h.head]; simp
    | succ i =>
      simp only [List.length_cons] at hi
      rw [List.set_cons_succ, List.flatten_cons, List.flatten_cons, ih h.tail ha (by omega)]
      have hx := h.head
      simp only [lputL, List.take_append, List.drop_append, hx, ha]
      have e1 : (i + 1) * sz - sz = i * sz := by rw [Nat.succ_mul]; omega
      have e2 : (i + 1) * sz + sz - sz = i * sz + sz := by rw [Nat.succ_mul]; omega
      have e3 : x.length ≤ (i + 1) * sz := by rw [Nat.succ_mul]; omega
      have e4 : x.drop ((i + 1) * sz + sz) = [] := List.drop_eq_nil_of_le (Nat.le_trans e3 (Nat.le_add_right _ _))
      rw [e1, e2, List.take_of_length_le e3, e4]
      simp
theorem partsL_fill {e : E} {n : Nat} : ∀ (qs : List Pt) (ps : List (Nat × Operand)) (z : LL) (k : LL → Bool), Rows n z → CellsB z →
    (ps.length = qs.length ∧ ∀ (j : Nat) (q : Pt), qs[j]? = some q → ∃ i x y, ps[j]? = some (i, x) ∧ cOpd x = some y ∧ q = .mk i n y) → partsL qs e z k = true →
    ∃ l, k l = true ∧ l.length = z.length ∧ Rows n l ∧ CellsB l ∧ ∀ ρ (a : Act) (cells : Array Value), (∀ p ∈ ps, ∀ y, cOpd p.2 = some y → conc ρ (opd y e) = some (a.eval p.2)) → concL ρ z.flatten = some cells.toList →
      ∃ cells', Instr.fill (fun i => some (i * n, n)) cells (ps.map fun p => (p.1, a.eval p.2)) = some cells' ∧ concL ρ l.flatten = some cells'.toList := by
  intro qs
  induction qs with
  | nil =>
    intro ps z k hr hcb hp ht
    have : ps = [] := List.eq_nil_of_length_eq_zero hp.1
    subst this
    exact ⟨z, ht, rfl, hr, hcb, fun ρ a cells _ hz => ⟨cells, rfl, hz⟩⟩
  | cons q qs ih =>
    intro ps z k hr hcb hp ht
    obtain ⟨p1, p2⟩ := hp
    cases ps with
    | nil => cases p1
    | cons p r =>
      obtain ⟨i, x, y, h1, h2, rfl⟩ := p2 0 q rfl
      simp at h1; subst h1
      have ht' : vcells (opd y e) (fun c => Bool.rec (motive := fun _ => Bool) false (Bool.rec (motive := fun _ => Bool) false (llput i c z fun l => partsL qs e l k) (allCells c)) (lenIs c n)) = true := ht
      rw [vcells_eq] at ht'
      obtain ⟨h4, h5a⟩ := bguard ht'
      obtain ⟨h5b, h5⟩ := bguard h5a
      have h5b := allCells_true h5b
      have h4 := (lenIs_eq _ _).1 h4
      obtain ⟨h6, h7⟩ := llput_true i h5
      obtain ⟨l, h8, h9, h9r, h9c, h10⟩ := ih r _ k (hr.set h4) (hcb.set h5b) ⟨by simpa using p1, fun j z hz => by simpa using p2 (j + 1) z (by simpa using hz)⟩ h7
      rw [List.length_set] at h9
      refine ⟨l, h8, h9, h9r, h9c, fun ρ a cells hop hz => ?_⟩
      have c1 := conc_cells (hop (i, x) (by simp) y h2)
      have hb : i * n + (cellsV (opd y e)).length ≤ z.flatten.length := by
        rw [h4, hr.length]
        have : (i + 1) * n ≤ z.length * n := Nat.mul_le_mul_right n h6
        rw [Nat.succ_mul] at this; exact this
      obtain ⟨g1, g2⟩ := fill_one c1 hz hb
      have c2 := (concL_get c1).1
      have c3 := (concL_get hz).1
      have hsz : (a.eval x).cells.size = n := by simpa [h4] using c2.symm
      have hzs : z.flatten.length = cells.size := by simpa using c3
      rw [← flatten_set hr h4 h6] at g1
      obtain ⟨cells', g3, g4⟩ := h10 ρ a _ (fun p hp' => hop p (by simp [hp'])) g1
      refine ⟨cells', ?_, g4⟩
      rw [List.map_cons, fill_cons (o := i * n) (n := n) rfl hsz (by omega)]
      exact g3
end Go.Exe

namespace Go.Exe
variable [Sig]
variable {P : Program} {gl : Nat → Nat → V} {N : Nat}
def nxt : S → B
  | .mk _ b _ => b
def dfs : S → List Df
  | .mk _ _ d => d
structure NewOK (s : S) (sl : Slot) (s' : S) : Prop where
  free : hat (hp s) (nxt s) = .free
  heap : hp s' = hup (hp s) (nxt s) sl
  live : sl.live
  dfs : dfs s' = dfs s
/-- An operation that makes a block. -/
def AllocOK (P : Program) (o : Oper) (e : E) (b : B) (sl : Slot) (v : V) : Prop :=
  ∀ ρ (a : Act) w, Opnds ρ e o.op a → ∃ ob p x w', p.blk = w.heap.size ∧ (execOp a.eval o).run P w = .ok (.value x) w' ∧ w'.heap = w.heap.push ob ∧ w'.tape = w.tape ∧ w'.os = w.os ∧ w'.output = w.output ∧
    ∀ ρ' : Rho, ρ.le ρ' → ρ' b = some p → slotR ρ' p sl (some ob) ∧ conc ρ' v = some x
theorem bup_true {b : B} {k} (h : bup b k = true) : ∃ b', k b' = true := by
  obtain ⟨a, b, c, d⟩ := b
  have up : ∀ (d : D) (k : D → Bool) (c : Unit → Bool), D.up d k c = true → (∃ d', k d' = true) ∨ c () = true := fun d k c h => by
    cases d <;> first | exact .inl ⟨_, h⟩ | exact .inr h
  rcases up d _ _ h with ⟨_, h⟩ | h
  · exact ⟨_, h⟩
  rcases up c _ _ h with ⟨_, h⟩ | h
  · exact ⟨_, h⟩
  rcases up b _ _ h with ⟨_, h⟩ | h
  · exact ⟨_, h⟩
  rcases up a _ _ h with ⟨_, h⟩ | h
  · exact ⟨_, h⟩
  · cases h
theorem new_true {s : S} {sl : Slot} {k} (hl : sl.live) (h : new s sl k = true) : ∃ s', NewOK s sl s' ∧ k (nxt s) s' = true := by
  obtain ⟨hh, nx, ds⟩ := s
  dsimp only [new] at h
  rw [hget_eq] at h
  cases hs : hat hh nx with
  | free =>
    rw [hs] at h
    have h : hset nx hh sl (fun h => bup nx fun nx' => k nx (.mk h nx' ds)) = true := h
    rw [hset_eq] at h
    obtain ⟨b', h⟩ := bup_true h
    exact ⟨.mk (hup hh nx sl) b' ds, ⟨hs, rfl, hl, rfl⟩, h⟩
  | _ => rw [hs] at h; cases h
theorem live_cells (el sz : Nat) (c : Cells) : (Slot.cells el sz c).live := trivial
/-- one element -/
theorem cellsR_one {ρ : Rho} {b el sz : Nat} {z : List V} {arr : Array Value} (hl : z.length = sz) (hz : 0 < sz) (hcb : ∀ v ∈ z, cellB v = true) (hc : concL ρ z = some arr.toList) :
    CellsR ρ ⟨b, 0, 1, sz⟩ el sz (.one z) (some (.cells arr el)) := by
  refine cellsR_mk (l := [z]) (by intro r hr; simp at hr; rw [hr]; exact hl) hz rfl rfl trivial (fun i => by cases i <;> rfl) (by simp) ?_ (fun i _ => by omega) (fun r hr => by simp at hr; rw [hr]; exact hcb) fun o v hv => ?_
  · have := (concL_get hc).1
    simp only [Array.length_toList] at this
    rw [← this, hl]; simp
  · rw [List.flatten_cons, List.flatten_nil, List.append_nil] at hv
    obtain ⟨x, h1, h2⟩ := (concL_get hc).2 o v hv
    exact ⟨x, h1, by simpa using h2⟩
theorem alloc_ok {o : Oper} {t i cl e s k} (ho : o.op = .alloc t) (hc : comp o.op P = some i) (ht : iX i cl gl e s k = true) :
    ∃ sl v s', NewOK s sl s' ∧ k v s' = true ∧ AllocOK P o e (nxt s) sl v := by
  rw [ho] at hc
  simp only [comp, bind, Option.bind_eq_some_iff] at hc
  obtain ⟨z, hz, n, hn, hc⟩ := hc
  split at hc
  · rename_i hzn
    injection hc with hc; subst hc
    obtain ⟨inf, zv, z1, z2, z3⟩ := zcells_some hz
    obtain ⟨s', h1, h2⟩ := new_true (live_cells _ _ _) (show new s (.cells t n (.one z)) (fun b s => k (.ptr b 0) s) = true from ht)
    obtain ⟨_, _, _, hn0⟩ := szO_some hn
    refine ⟨_, _, s', h1, h2, fun ρ a w hop => ⟨.cells zv.cells t, ⟨w.heap.size, 0, 1, n⟩, .pointer (some ⟨w.heap.size, 0, none⟩), w.alloc (.cells zv.cells t), rfl, ?_, rfl, rfl, rfl, rfl, fun ρ' hle hp => ⟨?_, ?_⟩⟩⟩
    · simp [execOp, ho, Instr.alloc, run_zero z1 z2, newVar, newRow, Result.andThen]
    · exact cellsR_one hzn (by omega) (zcells_cell hz) (z3 ρ')
    · exact conc_ptr.2 ⟨_, hp, rfl⟩
  · cases hc
theorem box_ok {o : Oper} {t x i cl e s k} (ho : o.op = .box t x) (hc : comp o.op P = some i) (ht : iX i cl gl e s k = true) :
    ∃ sl v s', NewOK s sl s' ∧ k v s' = true ∧ AllocOK P o e (nxt s) sl v := by
  rw [ho] at hc
  simp only [comp, bind, Option.bind_eq_some_iff, Option.some.injEq] at hc
  obtain ⟨y, hy, n, hn, rfl⟩ := hc
  have ht' : vcells (opd y e) (fun l => Bool.rec (motive := fun _ => Bool) false (Bool.rec (motive := fun _ => Bool) false (new s (.cells t n (.one l)) fun b s => k (.ptr b 0) s) (allCells l)) (lenIs l n)) = true := ht
  rw [vcells_eq] at ht'
  obtain ⟨h1, h2a⟩ := bguard ht'
  obtain ⟨h2b, h2⟩ := bguard h2a
  have h2b := allCells_true h2b
  have h1 := (lenIs_eq _ _).1 h1
  obtain ⟨s', h3, h4⟩ := new_true (live_cells _ _ _) h2
  obtain ⟨_, _, _, hn0⟩ := szO_some hn
  refine ⟨_, _, s', h3, h4, fun ρ a w hop => ?_⟩
  have e1 := hop x (by simp [ho, Op.operands]) y hy
  refine ⟨.cells (a.eval x).cells t, ⟨w.heap.size, 0, 1, n⟩, .pointer (some ⟨w.heap.size, 0, none⟩), w.alloc (.cells (a.eval x).cells t), rfl, ?_, rfl, rfl, rfl, rfl, fun ρ' hle hp => ⟨?_, ?_⟩⟩
  · simp [execOp, ho, Instr.box, newVar, newRow, Result.andThen]
  · exact cellsR_one h1 (by omega) h2b (concL_le hle _ _ (conc_cells e1))
  · exact conc_ptr.2 ⟨_, hp, rfl⟩
theorem makeMap_ok {o : Oper} {t i cl e s k} (ho : o.op = .makeMap t none) (hc : comp o.op P = some i) (ht : iX i cl gl e s k = true) :
    ∃ sl v s', NewOK s sl s' ∧ k v s' = true ∧ AllocOK P o e (nxt s) sl v := by
  rw [ho] at hc
  simp only [comp, Option.some.injEq] at hc
  subst hc
  obtain ⟨s', h1, h2⟩ := new_true (sl := .map []) trivial (show new s (.map []) (fun b s => k (.mp b) s) = true from ht)
  refine ⟨_, _, s', h1, h2, fun ρ a w hop => ⟨.map #[] 0, ⟨w.heap.size, 0, 0, 0⟩, .map (some w.heap.size), w.alloc (.map #[] 0), rfl, ?_, rfl, rfl, rfl, rfl, fun ρ' hle hp => ⟨?_, ?_⟩⟩⟩
  · simp [execOp, ho, Instr.makeMap, Result.andThen]
  · exact ⟨#[], 0, rfl, rfl⟩
  · exact conc_mp.2 ⟨_, hp, rfl⟩
/-- copies of a row -/
theorem concL_replicate {ρ : Rho} {z : List V} {zc : Array Value} {n sz : Nat} (hz : concL ρ z = some zc.toList) (hl : z.length = sz) (h0 : 0 < sz) :
    concL ρ (List.replicate n z).flatten = some ((Array.range (n * sz)).map (zc[· % zc.size]!)).toList := by
  have hr : Rows sz (List.replicate n z) := fun r hr => by rw [List.eq_of_mem_replicate hr]; exact hl
  have hzs : zc.size = sz := by have := (concL_get hz).1; simp at this; omega
  refine concL_mk (by rw [hr.length]; simp) fun j v x hv hx => ?_
  rw [hr.get h0] at hv
  obtain ⟨r, h1, h2⟩ := Option.bind_eq_some_iff.1 hv
  have h3 : r = z := List.eq_of_mem_replicate (List.mem_of_getElem? h1)
  subst h3
  obtain ⟨y, h4, h5⟩ := (concL_get hz).2 _ _ h2
  have hm := Nat.mod_lt j h0
  have : x = y := by
    simp only [Array.toList_map, Array.toList_range, List.getElem?_map, Option.map_eq_some_iff] at hx
    obtain ⟨q, q1, q2⟩ := hx
    have : q = j := by
      obtain ⟨hq, q1⟩ := List.getElem?_eq_some_iff.1 q1
      simpa using q1.symm
    subst this
    rw [← q2, hzs]
    rw [Array.getElem?_toList] at h5
    simp [getElem!_def, h5]
  rw [this]; exact h4
theorem makeSlice_ok {o : Oper} {t x y i cl e s k} (ho : o.op = .makeSlice t x y) (hc : comp o.op P = some i) (ht : iX i cl gl e s k = true) :
    ∃ sl v s', NewOK s sl s' ∧ k v s' = true ∧ AllocOK P o e (nxt s) sl v := by
  rw [ho] at hc
  simp only [comp] at hc
  cases hu : P.underlying t with
  | none => rw [hu] at hc; cases hc
  | some d =>
    rw [hu] at hc
    cases d <;> try (cases hc; done)
    rename_i el
    simp only [bind, Option.bind_eq_some_iff] at hc
    obtain ⟨n, hn, z, hz, x', hx, y', hy, hc⟩ := hc
    split at hc
    · rename_i hcond
      injection hc with hc; subst hc
      simp only [Bool.and_eq_true, decide_eq_true_eq] at hcond
      obtain ⟨hzn, hby⟩ := hcond
      have hby := Nat.le_of_ble_eq_true hby
      obtain ⟨inf, zv, z1, z2, z3⟩ := zcells_some hz
      obtain ⟨inf', i1, i2, hn0⟩ := szO_some hn
      rw [z1] at i1; injection i1 with i1; subst i1
      dsimp only [iX] at ht
      obtain ⟨kl, l, hl, ht⟩ := asNat_true ht
      obtain ⟨kc, c, hcv, ht⟩ := asNat_true ht
      obtain ⟨h1, h2⟩ := bguard ht
      obtain ⟨h3, h4⟩ := bguard h2
      have h1 := Nat.le_of_ble_eq_true h1
      have h3 := Nat.le_of_ble_eq_true h3
      rw [rep_eq] at h4
      obtain ⟨cc, h5, h6, h7⟩ := mkCells_true h4
      obtain ⟨s', h8, h9⟩ := new_true (live_cells _ _ _) h5
      refine ⟨_, _, s', h8, h9, fun ρ a w hop => ?_⟩
      have e1 := hop x (by simp [ho, Op.operands]) x' hx
      have e2 := hop y (by simp [ho, Op.operands]) y' hy
      rw [hl, conc_int] at e1
      rw [hcv, conc_int] at e2
      have hbytes : P.bytesOf el = inf.bytes := by simp [Program.bytesOf, z1]
      have hrun := run_make (P := P) (w := w) t el inf zv hu z1 z2 kl kc l c (by omega) (by omega) (by
        have : inf.bytes * c ≤ 1000000 * 4096 := Nat.mul_le_mul (hbytes ▸ hby) h1
        have h2 : (inf.bytes : Int) * (c : Int) = ((inf.bytes * c : Nat) : Int) := by simp
        rw [h2]; omega) (by omega)
      simp only [Int.toNat_natCast, i2] at hrun
      refine ⟨.cells (madeCells zv.cells (c * n)) el, ⟨w.heap.size, 0, c, n⟩, .slice (some ⟨w.heap.size, 0, none⟩) l c, w.alloc (.cells (madeCells zv.cells (c * n)) el), rfl, by simp only [execOp, ho, e1, e2, Sem.run_bind, hrun, Result.andThen_ok, Sem.run_pure], rfl, rfl, rfl, rfl, fun ρ' hle hp => ⟨?_, ?_⟩⟩
      · have hcc := concL_replicate (n := c) (z3 ρ') hzn (by omega)
        refine cellsR_mk (l := List.replicate c z) (fun r hr => by rw [List.eq_of_mem_replicate hr]; exact hzn) (by omega) rfl rfl h6 h7 (by simp) (by simp [madeCells]) (fun i _ => by omega) (fun r hr => by rw [List.eq_of_mem_replicate hr]; exact zcells_cell hz) fun o v hv => ?_
        obtain ⟨x, g1, g2⟩ := (concL_get hcc).2 o v hv
        exact ⟨x, g1, by rw [Array.getElem?_toList] at g2; exact g2⟩
      · exact conc_sl.2 ⟨_, hp, h3, by simp⟩
    · cases hc
theorem buildSlice_ok {o : Oper} {t m ps i cl e s k} (ho : o.op = .buildSlice t m ps) (hc : comp o.op P = some i) (ht : iX i cl gl e s k = true) :
    ∃ sl v s', NewOK s sl s' ∧ k v s' = true ∧ AllocOK P o e (nxt s) sl v := by
  rw [ho] at hc
  simp only [comp] at hc
  cases hu : P.underlying t with
  | none => rw [hu] at hc; cases hc
  | some d =>
    rw [hu] at hc
    cases d <;> try (cases hc; done)
    rename_i el
    simp only [bind, Option.bind_eq_some_iff] at hc
    obtain ⟨z, hz, n, hn, qs, hq, hc⟩ := hc
    split at hc
    · rename_i hcond
      injection hc with hc; subst hc
      simp only [Bool.and_eq_true, decide_eq_true_eq] at hcond
      obtain ⟨⟨hzn, hm⟩, hn'⟩ := hcond
      have hm := Nat.le_of_ble_eq_true hm
      have hn' := Nat.le_of_ble_eq_true hn'
      obtain ⟨inf, zv, z1, z2, z3⟩ := zcells_some hz
      obtain ⟨_, _, _, hn0⟩ := szO_some hn
      have ht' : rep m z (fun l => partsL qs e l fun l => mkCells l fun c => new s (.cells el n c) fun b s => k (.sl b 0 m m) s) = true := ht
      rw [rep_eq] at ht'
      have hr : Rows n (List.replicate m z) := fun r hr => by rw [List.eq_of_mem_replicate hr]; exact hzn
      obtain ⟨a1, a2⟩ := allO_some hq
      obtain ⟨l, h1, h2, h3, h3b, h4⟩ := partsL_fill qs ps.toList _ _ hr (fun r hr => by rw [List.eq_of_mem_replicate hr]; exact zcells_cell hz) ⟨a1, fun j q hj => by
        obtain ⟨p, b1, b2⟩ := a2 j q hj
        simp only [Option.bind_eq_some_iff, Option.some.injEq] at b2
        obtain ⟨y, b2, rfl⟩ := b2
        exact ⟨p.1, p.2, y, b1, b2, rfl⟩⟩ ht'
      obtain ⟨cc, h5, h6, h7⟩ := mkCells_true h1
      obtain ⟨s', h8, h9⟩ := new_true (live_cells _ _ _) h5
      refine ⟨_, _, s', h8, h9, fun ρ a w hop => ?_⟩
      obtain ⟨cells', g1, g2⟩ := h4 ρ a ((Array.range (m * n)).map (zv.cells[· % zv.cells.size]!)) (fun p hp' y hy => hop p.2 (by
        simp only [ho, Op.operands]
        simp only [List.mem_toArray, List.mem_map]
        exact ⟨p, hp', rfl⟩) y hy) (concL_replicate (z3 ρ) hzn (by omega))
      have e1 : (ps.map fun (p : Nat × Operand) => (p.1, a.eval p.2)).toList = ps.toList.map fun p => (p.1, a.eval p.2) := by simp
      have hmn : ¬ m * n > 2 ^ 24 := by have := Nat.mul_le_mul hm hn'; omega
      have hrun : (Instr.buildSlice t m (ps.map fun (p : Nat × Operand) => (p.1, a.eval p.2))).run P w = .ok (.slice (some ⟨w.heap.size, 0, none⟩) m m) (w.alloc (.cells cells' el)) := by
        by_cases h0 : m * n = 0
        · have e2 : (Array.range (m * n)).map (fun x => (#[] : Array Value)[x % (#[] : Array Value).size]!) = (Array.range (m * n)).map (zv.cells[· % zv.cells.size]!) := by rw [h0]; simp
          simp only [Instr.buildSlice, Sem.run_bind, run_under hu, Result.andThen_ok, run_sizeOf hn, if_neg hmn, if_pos h0, Sem.run_pure, e2, e1, g1]
          simp [newRow, Result.andThen]
        · simp only [Instr.buildSlice, Sem.run_bind, run_under hu, Result.andThen_ok, run_sizeOf hn, if_neg hmn, if_neg h0, Sem.run_pure, run_zero z1 z2, e1, g1]
          simp [newRow, Result.andThen]
      have hsz : cells'.size = m * n := by
        have := (concL_get g2).1
        rw [h3.length, h2] at this
        simpa using this.symm
      refine ⟨.cells cells' el, ⟨w.heap.size, 0, m, n⟩, .slice (some ⟨w.heap.size, 0, none⟩) m m, w.alloc (.cells cells' el), rfl, by simp only [execOp, ho, Sem.run_bind, hrun, Result.andThen_ok, Sem.run_pure], rfl, rfl, rfl, rfl, fun ρ' hle hp => ⟨?_, ?_⟩⟩
      · refine cellsR_mk (l := l) h3 (by omega) rfl rfl h6 h7 (by simp [h2]) (by simp [hsz]) (fun i _ => by omega) h3b fun o v hv => ?_
        obtain ⟨x, q1, q2⟩ := (concL_get (concL_le hle _ _ g2)).2 o v hv
        exact ⟨x, q1, by rw [Array.getElem?_toList] at q2; exact q2⟩
      · exact conc_sl.2 ⟨_, hp, Nat.le_refl _, by simp⟩
    · cases hc
theorem strE_eq : ∀ (n v : Nat) (k : LL → Bool), strE n v k = k ((bytesL n v).map fun b => [V.int .u8 (b.toNat : Int)]) := by
  intro n
  induction n with
  | zero => intro v k; rfl
  | succ n ih =>
    intro v k
    have h1 : strE (n + 1) v k = forceN (Nat.mod v 256) (fun b => strE n (Nat.div v 256) fun r => k ([V.int .u8 (.ofNat b)] :: r)) := rfl
    rw [h1, forceN_eq, ih]
    simp only [bytesL, List.map_cons]
    have h2 : (UInt8.ofNat (v % 256)).toNat = v % 256 := by simp
    rw [h2]
    rfl
theorem s2b_ok {o : Oper} {t d x el i cl e s k} (ho : o.op = .convert t d x) (h1 : P.underlying t = some .string) (h2 : P.underlying d = some (.slice el)) (hc : comp o.op P = some i) (ht : iX i cl gl e s k = true) :
    ∃ sl v s', NewOK s sl s' ∧ k v s' = true ∧ AllocOK P o e (nxt s) sl v := by
  rw [ho] at hc
  simp only [comp, Option.bind_eq_some_iff, h1, h2] at hc
  obtain ⟨y, hy, hc⟩ := hc
  split at hc
  · rename_i hu8
    injection hc with hc; subst hc
    have he : P.underlying el = some (.int .u8) := by
      unfold isU8 tyd at hu8
      cases hq : P.underlying el with
      | none => rw [hq] at hu8; cases hu8
      | some dd =>
        rw [hq] at hu8
        cases dd <;> try (cases hu8; done)
        rename_i kk
        cases kk <;> first | rfl | cases hu8
    dsimp only [iX] at ht
    generalize hv : opd y e = v at ht
    cases v <;> try (cases ht; done)
    rename_i n u
    have ht : strE n u (fun l => mkCells l fun c => new s (.cells el 1 c) fun b s => k (.slr b 0 0 n) s) = true := ht
    rw [strE_eq] at ht
    obtain ⟨cc, h5, h6, h7⟩ := mkCells_true ht
    obtain ⟨s', h8, h9⟩ := new_true (live_cells _ _ _) h5
    refine ⟨_, _, s', h8, h9, fun ρ a w hop => ?_⟩
    have e1 := hop x (by simp [ho, Op.operands]) y hy
    rw [hv] at e1
    obtain ⟨g1, g2⟩ := conc_str.1 e1
    have hrun := run_bytes_of_string (P := P) w t d el (bytesOf n u) h1 h2 he
    rw [bytesOf_size] at hrun
    have hcap := grownCap_ge w n 0 el
    generalize grownCap w n 0 el = cap at hrun hcap
    have hsz : (bytesRow (bytesOf n u) cap).size = cap := by
      have : (bytesOf n u).data.size = n := bytesOf_size n u
      simp [bytesRow, this, bytesOf_size]; omega
    refine ⟨_, ⟨w.heap.size, 0, cap, 1⟩, .slice (some ⟨w.heap.size, 0, none⟩) n cap, w.drew.alloc (.cells (bytesRow (bytesOf n u) cap) el ((bytesRow (bytesOf n u) cap).size, (bytesRow (bytesOf n u) cap).size + 1)), rfl, by simp only [execOp, ho, g2, Sem.run_bind, hrun, Result.andThen_ok, Sem.run_pure], rfl, rfl, rfl, rfl, fun ρ' hle hp => ⟨?_, ?_⟩⟩
    · refine cellsR_mk (l := (bytesL n u).map fun b => [V.int .u8 (b.toNat : Int)]) (fun r hr => by
        obtain ⟨b, _, rfl⟩ := List.mem_map.1 hr; rfl) (by omega) rfl rfl h6 h7 (by simp [bytesL_length]; exact hcap) (by simp [hsz]) (fun i hi => by simp only; omega) (fun r hr => by
        obtain ⟨b, _, rfl⟩ := List.mem_map.1 hr; simp [cellB]) fun o v hv => ?_
      have hfl : ((bytesL n u).map fun b => [V.int .u8 (b.toNat : Int)]).flatten = (bytesL n u).map fun b => V.int .u8 (b.toNat : Int) := by
        generalize bytesL n u = l
        induction l with
        | nil => rfl
        | cons a t ih => simp only [List.map_cons, List.flatten_cons, ih]; rfl
      rw [hfl] at hv
      simp only [List.getElem?_map, Option.map_eq_some_iff] at hv
      obtain ⟨b, q1, rfl⟩ := hv
      refine ⟨_, conc_int.2 rfl, ?_⟩
      have hlt : o < n := by have := (List.getElem?_eq_some_iff.1 q1).1; rwa [bytesL_length] at this
      have hd : (bytesOf n u).data = (bytesL n u).toArray := rfl
      simp [bytesRow, hd, Array.getElem?_append, bytesL_length, hlt, q1]
      rw [(List.getElem?_eq_some_iff.1 q1).2]
    · exact conc_slr.2 ⟨_, hp, by simp, by simpa using hcap, by simp⟩
  · cases hc
end Go.Exe

namespace Go.Exe
variable [Sig]
variable {P : Program} {gl : Nat → Nat → V} {N : Nat}
/-- cells laid into an array -/
def setL (arr : Array Value) : Nat → List Value → Array Value
  | _, [] => arr
  | o, v :: r => setL (arr.setIfInBounds o v) (o + 1) r
theorem setL_size : ∀ (xs : List Value) (arr : Array Value) (o : Nat), (setL arr o xs).size = arr.size := by
  intro xs
  induction xs with
  | nil => intro arr o; rfl
  | cons v r ih => intro arr o; simp [setL, ih]
theorem setL_get : ∀ (xs : List Value) (arr : Array Value) (o j : Nat), j < arr.size → (setL arr o xs)[j]? = if o ≤ j ∧ j < o + xs.length then xs[j - o]? else arr[j]? := by
  intro xs
  induction xs with
  | nil => intro arr o j _; rw [if_neg (by simp)]; rfl
  | cons v r ih =>
    intro arr o j hj
    rw [setL, ih _ _ _ (by simpa using hj)]
    by_cases e : j = o
    · subst e
      rw [if_neg (by omega), if_pos (by simp), Array.getElem?_setIfInBounds_self]
      simp [hj]
    · by_cases e2 : o + 1 ≤ j ∧ j < o + 1 + r.length
      · rw [if_pos e2, if_pos (by simp; omega), show j - o = (j - (o + 1)) + 1 by omega]; simp
      · rw [if_neg e2, if_neg (by simp; omega), Array.getElem?_setIfInBounds_ne (Ne.symm e)]
theorem setCells_heap {b : Nat} {el fr} : ∀ (xs : List Value) (w : World) (o : Nat) (arr : Array Value), w.heap[b]? = some (.cells arr el fr) →
    (w.setCells b o xs).heap[b]? = some (.cells (setL arr o xs) el fr) ∧ (∀ n, n ≠ b → (w.setCells b o xs).heap[n]? = w.heap[n]?) ∧ (w.setCells b o xs).heap.size = w.heap.size ∧
    (w.setCells b o xs).tape = w.tape ∧ (w.setCells b o xs).os = w.os ∧ (w.setCells b o xs).output = w.output := by
  intro xs
  induction xs with
  | nil => intro w o arr h; exact ⟨h, fun _ _ => rfl, rfl, rfl, rfl, rfl⟩
  | cons v r ih =>
    intro w o arr h
    have h1 : (w.setCell ⟨b, o, none⟩ v).heap[b]? = some (.cells (arr.setIfInBounds o v) el fr) := by
      simp [World.setCell, Array.getElem?_modify, h]
    obtain ⟨a1, a2, a3, a4, a5, a6⟩ := ih (w.setCell ⟨b, o, none⟩ v) (o + 1) _ h1
    refine ⟨a1, fun n hn => ?_, ?_, a4, a5, a6⟩
    · rw [World.setCells, a2 n hn]
      simp [World.setCell, Array.getElem?_modify, Ne.symm hn]
    · rw [World.setCells, a3]; simp [World.setCell]
theorem oneCell_of {ρ : Rho} {v : V} {X : Value} (hv : cellB v = true) (h : conc ρ v = some X) : X.oneCell' = true := by
  cases v <;> first | (cases hv; done) | skip
  case ab => rcases conc_ab_kind h with ⟨kd, z, rfl⟩ | ⟨z, rfl⟩ | ⟨z, rfl⟩ <;> rfl
  all_goals
    simp only [conc] at h
    first
      | (cases h; rfl)
      | (split at h <;> first | (cases h; done) | (cases h; rfl) | (split at h <;> first | (cases h; done) | (cases h; rfl)))
theorem oneCells {ρ : Rho} : ∀ {l : List V} {xs : List Value}, (∀ a ∈ l, cellB a = true) → concL ρ l = some xs → ∀ x ∈ xs, x.oneCell' = true := by
  intro l
  induction l with
  | nil => intro xs _ h; cases h; simp
  | cons a t ih =>
    intro xs ha h x hx
    obtain ⟨y, r, h1, h2, rfl⟩ := concL_cons.1 h
    rcases List.mem_cons.1 hx with rfl | hx
    · exact oneCell_of (ha a (by simp)) h1
    · exact ih (fun b hb => ha b (by simp [hb])) h2 x hx
/-- Cells of a block are written. -/
theorem write_slot {ρ : Rho} {w : World} {p : Pos} {el sz c c'} (hr : CellsR ρ p el sz c w.heap[p.blk]?) {new : List V} {xs : List Value} {o : Nat} (hx : concL ρ new = some xs)
    (hin : ∀ j, j < new.length → o + j < p.cap * sz) (hone' : ∀ a ∈ new, cellB a = true) (hok : c'.ok) (hrow : ∀ i l, c'.elem i = some l → l.length = sz ∧ i < p.cap)
    (hcell : ∀ j v, cellAt c' sz j = some v → (o ≤ j ∧ j < o + new.length ∧ new[j - o]? = some v) ∨ (¬ (o ≤ j ∧ j < o + new.length) ∧ cellAt c sz j = some v)) :
    CellsR ρ p el sz c' (w.setCells p.blk (p.sh + o) xs).heap[p.blk]? ∧ (∀ n, n ≠ p.blk → (w.setCells p.blk (p.sh + o) xs).heap[n]? = w.heap[n]?) ∧ (w.setCells p.blk (p.sh + o) xs).heap.size = w.heap.size ∧
    (w.setCells p.blk (p.sh + o) xs).tape = w.tape ∧ (w.setCells p.blk (p.sh + o) xs).os = w.os ∧ (w.setCells p.blk (p.sh + o) xs).output = w.output ∧
    (storeCells ⟨p.blk, p.sh + o, none⟩ xs).run P w = .ok () (w.setCells p.blk (p.sh + o) xs) := by
  obtain ⟨arr, fr, r1, ⟨r2, r2'⟩, r3, r4, r5, r6, r7, r8⟩ := hr
  obtain ⟨a1, a2, a3, a4, a5, a6⟩ := setCells_heap xs w (p.sh + o) arr r1
  have hone := oneCells hone' hx
  have hlen := (concL_get hx).1
  have hnew : CellsR ρ p el sz c' (w.setCells p.blk (p.sh + o) xs).heap[p.blk]? := by
    rw [a1]
    refine ⟨_, fr, rfl, ⟨r2, r2'⟩, r3, hok, hrow, by rw [setL_size]; exact r6, fun i hi => by rw [setL_size] at hi; exact r7 i hi, fun j v hv => ?_⟩
    rcases hcell j v hv with ⟨q1, q2, q3⟩ | ⟨q1, q2⟩
    · obtain ⟨x, x1, x2⟩ := (concL_get hx).2 _ _ q3
      refine ⟨hone' v (List.mem_of_getElem? q3), x, x1, ?_⟩
      have := hin (j - o) (by omega)
      rw [setL_get _ _ _ _ (by omega), if_pos (by omega), show p.sh + j - (p.sh + o) = j - o by omega]; exact x2
    · obtain ⟨xb, x, x1, x2⟩ := r8 j v q2
      refine ⟨xb, x, x1, ?_⟩
      rw [setL_get _ _ _ _ (Array.getElem?_eq_some_iff.1 x2).1, if_neg (by omega)]; exact x2
  refine ⟨hnew, a2, a3, a4, a5, a6, ?_⟩
  have := run_storeCells_cells (P := P) p.blk (p.sh + o) xs 0 w (fun j hj => by
    have := hin j (by omega)
    have : p.sh + o + j < arr.size := by omega
    simp [World.cell?, r1, this]) (fun j hj => by
    have := hin j (by omega)
    have h2 : p.sh + o + 0 + j < arr.size := by omega
    have := r7 _ h2
    simp only [World.frozen?, r1]
    rw [Bool.and_eq_false_iff]
    simp only [decide_eq_false_iff_not]
    by_cases q : fr.1 ≤ p.sh + o + 0 + j
    · exact .inr fun q2 => this ⟨q, q2⟩
    · exact .inl q) hone
  exact this
/-- Cells of a live block are written. -/
theorem write_ok {ρ : Rho} {h : Heap} {w : World} (sr : SR gl N ρ h w) {b : B} {p : Pos} {el sz c c'} (hb : hat h b = .cells el sz c) (hp : ρ b = some p) {new : List V} {xs : List Value} {o : Nat} (hx : concL ρ new = some xs)
    (hin : ∀ j, j < new.length → o + j < p.cap * sz) (hone' : ∀ a ∈ new, cellB a = true) (hok : c'.ok) (hrow : ∀ i l, c'.elem i = some l → l.length = sz ∧ i < p.cap)
    (hcell : ∀ j v, cellAt c' sz j = some v → (o ≤ j ∧ j < o + new.length ∧ new[j - o]? = some v) ∨ (¬ (o ≤ j ∧ j < o + new.length) ∧ cellAt c sz j = some v)) :
    SR gl N ρ (hup h b (.cells el sz c')) (w.setCells p.blk (p.sh + o) xs) ∧ Ext ρ h w ρ (hup h b (.cells el sz c')) (w.setCells p.blk (p.sh + o) xs) ∧
    (storeCells ⟨p.blk, p.sh + o, none⟩ xs).run P w = .ok () (w.setCells p.blk (p.sh + o) xs) := by
  have hl : (hat h b).live := by rw [hb]; trivial
  obtain ⟨a1, a2, a3, a4, a5, a6, a7⟩ := write_slot (P := P) (sr.cells hb hp) hx hin hone' hok hrow hcell
  exact ⟨sr.change hl trivial hp a3 a2 a1, Ext.change hl (by simp) hp a3 a2 a4 a5 a6, a7⟩
end Go.Exe

namespace Go.Exe
variable [Sig]
variable {P : Program} {gl : Nat → Nat → V} {N : Nat}
def HMono (h h' : Heap) : Prop := ∀ b, hat h b ≠ .free → hat h' b ≠ .free
theorem HMono.refl (h : Heap) : HMono h h := fun _ e => e
theorem HMono.trans {h1 h2 h3 : Heap} (a : HMono h1 h2) (b : HMono h2 h3) : HMono h1 h3 := fun x e => b x (a x e)
theorem HMono.up {h : Heap} {b : B} {s : Slot} (hs : s ≠ .free) : HMono h (hup h b s) := fun x e => by
  rw [hat_hup]; split
  · exact hs
  · exact e
/-- An operation that may change the world. -/
def EffOK (P : Program) (gl : Nat → Nat → V) (N : Nat) (o : Oper) (e : E) (h h' : Heap) (v : V) : Prop :=
  ∀ ρ (a : Act) w, Opnds ρ e o.op a → SR gl N ρ h w → Fresh ρ h h' → ∀ (K : Act → World → Prop) (Q : Exit → Act → World → Prop),
    (∀ ρ' x w', Ext ρ h w ρ' h' w' → SR gl N ρ' h' w' → conc ρ' v = some x → K (a.put o.dst x) w') → o.wp P a w K Q
theorem PureOK.eff {o : Oper} {e : E} {h : Heap} {v : V} (hp : PureOK P gl N o e h v) : EffOK P gl N o e h h v := fun ρ a w hop sr _ K Q hK => by
  obtain ⟨x, h1, h2⟩ := hp ρ a w hop sr
  unfold Oper.wp
  rw [h2]
  exact hK ρ x w (Ext.refl ρ h w) sr h1
theorem AllocOK.eff {o : Oper} {e : E} {s s' : S} {sl : Slot} {v : V} (hn : NewOK s sl s') (ha : AllocOK P o e (nxt s) sl v) : EffOK P gl N o e (hp s) (hp s') v := fun ρ a w hop sr fr K Q hK => by
  obtain ⟨ob, p, x, w', h1, h2, h3, h4, h5, h6, h7⟩ := ha ρ a w hop
  have hsf : sl ≠ .free := Slot.live_ne_free hn.live
  have hr : ρ (nxt s) = none := fr _ hn.free (by rw [hn.heap, hat_hup, if_pos rfl]; exact hsf)
  obtain ⟨g1, g2⟩ := h7 (ρ.set (nxt s) p) (Rho.le_set hr) (by simp [Rho.set])
  unfold Oper.wp
  rw [h2, hn.heap] at *
  exact hK _ x w' (Ext.add hn.free hsf hr h1 h3 h4 h5 h6) (sr.add hn.free hr h1 h3 g1) g2
theorem EffOK.mk_skip {o : Oper} {e : E} {h h' : Heap} (hh : ∀ ρ (a : Act) w, Opnds ρ e o.op a → SR gl N ρ h w → Fresh ρ h h' → ∃ ρ' w', (execOp a.eval o).run P w = .ok .skip w' ∧ Ext ρ h w ρ' h' w' ∧ SR gl N ρ' h' w') :
    EffOK P gl N o e h h' undef := fun ρ a w hop sr fr K Q hK => by
  obtain ⟨ρ', w', h1, h2, h3⟩ := hh ρ a w hop sr fr
  unfold Oper.wp
  rw [h1]
  exact hK ρ' _ w' h2 h3 (conc_tup.2 ⟨[], rfl, rfl⟩)
theorem EffOK.mk_value {o : Oper} {e : E} {h h' : Heap} {v : V} (hh : ∀ ρ (a : Act) w, Opnds ρ e o.op a → SR gl N ρ h w → Fresh ρ h h' → ∃ ρ' w' x, (execOp a.eval o).run P w = .ok (.value x) w' ∧ Ext ρ h w ρ' h' w' ∧ SR gl N ρ' h' w' ∧ conc ρ' v = some x) :
    EffOK P gl N o e h h' v := fun ρ a w hop sr fr K Q hK => by
  obtain ⟨ρ', w', x, h1, h2, h3, h4⟩ := hh ρ a w hop sr fr
  unfold Oper.wp
  rw [h1]
  exact hK ρ' _ w' h2 h3 h4
/-- what the executor's 'store' makes -/
theorem store_true {b : B} {o : Nat} {new : List V} {s : S} {k : S → Bool} (h : store b o new s k = true) :
    ∃ el sz c l s', hat (hp s) b = .cells el sz c ∧ c.elem (o / sz) = some l ∧ o % sz + new.length ≤ l.length ∧ hp s' = hup (hp s) b (.cells el sz (c.up (o / sz) (lputL (o % sz) new l))) ∧ dfs s' = dfs s ∧ nxt s' = nxt s ∧ k s' = true := by
  obtain ⟨hh, nx, ds⟩ := s
  dsimp only [store] at h
  rw [hget_eq] at h
  cases hs : hat hh b with
  | cells el sz c =>
    rw [hs] at h
    have h : cget (o / sz) c (fun l => lput (o % sz) new l fun l' => cset (o / sz) c l' fun c' => hset b hh (.cells el sz c') fun h' => k (.mk h' nx ds)) = true := h
    obtain ⟨l, h1, h2⟩ := cget_true h
    obtain ⟨h3, h4⟩ := lput_true _ h2
    obtain ⟨h5, h6⟩ := cset_true h4
    rw [hset_eq] at h6
    exact ⟨el, sz, c, l, .mk (hup hh b (.cells el sz (c.up (o / sz) (lputL (o % sz) new l)))) nx ds, hs, h1, h3, rfl, rfl, rfl, h6⟩
  | _ => rw [hs] at h; cases h
/-- one element, changed from a place on -/
theorem cells_up_write {c : Cells} {sz o : Nat} {l new : List V} (hok : c.ok) (hz : 0 < sz) (hl : c.elem (o / sz) = some l) (hlen : l.length = sz) (hn : o % sz + new.length ≤ l.length) :
    ∀ j v, cellAt (c.up (o / sz) (lputL (o % sz) new l)) sz j = some v → (o ≤ j ∧ j < o + new.length ∧ new[j - o]? = some v) ∨ (¬ (o ≤ j ∧ j < o + new.length) ∧ cellAt c sz j = some v) := by
  intro j v hv
  unfold cellAt at hv ⊢
  rw [elem_up hok (by rw [hl]; rfl)] at hv
  have ho := Nat.div_add_mod o sz
  have hj := Nat.div_add_mod j sz
  have hm := Nat.mod_lt o hz
  have hmj := Nat.mod_lt j hz
  by_cases e : j / sz = o / sz
  · rw [if_pos e] at hv
    dsimp only at hv
    rw [lputL_get hn] at hv
    rw [e] at hj ⊢
    rw [hl]
    split at hv
    · rename_i q
      exact .inl ⟨by omega, by omega, by rw [show j - o = j % sz - o % sz by omega]; exact hv⟩
    · rename_i q
      exact .inr ⟨by omega, hv⟩
  · rw [if_neg e] at hv
    refine .inr ⟨fun ⟨q1, q2⟩ => e ?_, hv⟩
    -- inside the same element
    have h1 : o / sz ≤ j / sz := Nat.div_le_div_right q1
    have h2 : j / sz < o / sz + 1 := by
      rw [Nat.div_lt_iff_lt_mul hz, Nat.succ_mul, Nat.mul_comm (o / sz)]
      omega
    omega
theorem store_ok {o : Oper} {t x y i cl e s k} (ho : o.op = .store t x y) (hc : comp o.op P = some i) (ht : iX i cl gl e s k = true) :
    ∃ s', HMono (hp s) (hp s') ∧ dfs s' = dfs s ∧ k undef s' = true ∧ EffOK P gl N o e (hp s) (hp s') undef := by
  rw [ho] at hc
  simp only [comp, bind, Option.bind_eq_some_iff, Option.some.injEq] at hc
  obtain ⟨x', hx, y', hy, n, hn, rfl⟩ := hc
  dsimp only [iX] at ht
  generalize hv : opd x' e = v at ht
  cases v <;> try (cases ht; done)
  rename_i b off
  have ht' : vcells (opd y' e) (fun l => Bool.rec (motive := fun _ => Bool) false (Bool.rec (motive := fun _ => Bool) false (store b off l s fun s => k undef s) (allCells l)) (lenIs l n)) = true := ht
  rw [vcells_eq] at ht'
  obtain ⟨h1, h2⟩ := bguard ht'
  obtain ⟨h3, h4⟩ := bguard h2
  have h1 := (lenIs_eq _ _).1 h1
  have h3 := allCells_true h3
  obtain ⟨el, sz, c, l, s', g1, g2, g3, g4, g5, _, g6⟩ := store_true h4
  refine ⟨s', g4 ▸ HMono.up (by simp), g5, g6, EffOK.mk_skip fun ρ a w hop sr _ => ?_⟩
  have e1 := hop x (by simp [ho, Op.operands]) x' hx
  have e2 := hop y (by simp [ho, Op.operands]) y' hy
  rw [hv] at e1
  obtain ⟨p, p1, p2⟩ := conc_ptr.1 e1
  have c1 := conc_cells e2
  have hr := sr.cells g1 p1
  obtain ⟨hin, hz⟩ := hr.inside g2
  obtain ⟨arr, fr, r1, r2, r3, r4, r5, r6, r7, r8⟩ := hr
  have hll := (r5 _ _ g2).1
  have hlen := (concL_get c1).1
  have hw := write_ok (P := P) sr g1 p1 (o := off) (c' := c.up (off / sz) (lputL (off % sz) (cellsV (opd y' e)) l)) c1 (fun j hj => by
      have q1 := (r5 _ _ g2).2
      have q2 : (off / sz + 1) * sz ≤ p.cap * sz := Nat.mul_le_mul_right sz q1
      have q3 := Nat.div_add_mod off sz
      rw [Nat.succ_mul, Nat.mul_comm (off / sz)] at q2
      omega) h3 (ok_up r4) (fun i r hr' => by
      rw [elem_up r4 (by rw [g2]; rfl)] at hr'
      split at hr'
      · rename_i q
        injection hr' with hr'
        rw [← hr', lputL_length g3, q]; exact r5 _ _ g2
      · exact r5 i r hr') (cells_up_write r4 hz g2 hll g3)
  obtain ⟨w1, w2, w3⟩ := hw
  rw [← g4] at w1 w2
  refine ⟨ρ, _, ?_, w2, w1⟩
  have hsz : (a.eval y).cells.size = n := by rw [← h1]; simpa using hlen.symm
  simp only [execOp, ho, Instr.storeAt, p2, Instr.sureAddr, Sem.run_bind, Sem.run_pure, Result.andThen_ok, storeVar, run_sizeOf hn, hsz]
  simp only [ne_eq, not_true_eq_false, if_false, w3, Result.andThen_ok, Sem.run_pure]
end Go.Exe

namespace Go.Exe
variable [Sig]
variable {P : Program} {gl : Nat → Nat → V} {N : Nat}
theorem setSlot_true {b : B} {sl : Slot} {s : S} {k} (h : setSlot b sl s k = true) : ∃ s', hp s' = hup (hp s) b sl ∧ dfs s' = dfs s ∧ nxt s' = nxt s ∧ k s' = true := by
  obtain ⟨hh, nx, ds⟩ := s
  have h : hset b hh sl (fun h' => k (.mk h' nx ds)) = true := h
  rw [hset_eq] at h
  exact ⟨.mk (hup hh b sl) nx ds, rfl, rfl, rfl, h⟩
/-- what a map is after an entry is put -/
def PutOK (P : Program) (t : Nat) (d : TypeDesc) (x v : V) (l l' : List KV) : Prop :=
  ∀ ρ X Z (es : List MapEntry) i, conc ρ x = some X → conc ρ v = some Z → concM ρ l = some (es.map fun e => (e.key, e.val)) →
    (Finds P t d X es i none ∧ concM ρ l' = some ((es.map fun e => (e.key, e.val)) ++ [(X, Z)])) ∨
    ∃ j e, es[j]? = some e ∧ Finds P t d X es i (some (i + j, e.val)) ∧ (∀ n, Instr.sameBits (n + 1) e.key X = true) ∧ concM ρ l' = some ((es.modify j fun e => { e with key := X, val := Z }).map fun e => (e.key, e.val))
theorem mput_true {t : Nat} {q : EqT} {d : TypeDesc} (hq : keyTo P t = some q) (hu : P.underlying t = some d) : ∀ (l : List KV) (x v : V) (k : List KV → Bool), mput q l x v k = true →
    ∃ l', k l' = true ∧ PutOK P t d x v l l' := by
  intro l
  induction l with
  | nil =>
    intro x v k h
    refine ⟨_, h, fun ρ X Z es i hx hv he => .inl ?_⟩
    have : es = [] := by
      simp only [concM, Option.some.injEq] at he
      cases es with
      | nil => rfl
      | cons _ _ => cases he
    subst this
    exact ⟨Finds.nil, concM_mk hx hv rfl⟩
  | cons a t ih =>
    intro x v k h
    obtain ⟨r, h1, h2⟩ := key_eq hq hu (show eqX q x (kvK a) (fun r => Bool.rec (motive := fun _ => Bool) (mput q t x v fun r => k (a :: r)) (Bool.rec (motive := fun _ => Bool) false (k (.mk x v :: t)) (band (veq x (kvK a)) (vcells x bitsL))) r) = true from h)
    cases r with
    | true =>
      obtain ⟨h3, h4⟩ := bguard h1
      rw [band_eq, Bool.and_eq_true, vcells_eq] at h3
      refine ⟨_, h4, fun ρ X Z es i hx hv he => .inr ?_⟩
      obtain ⟨e, r, rfl, e1, e2, e3⟩ := concM_cons he
      obtain ⟨g1, g2⟩ := h2 ρ _ _ hx e1
      have hxe : X = e.key := by
        have := veq_eq h3.1
        rw [← this, hx] at e1; injection e1
      refine ⟨0, e, rfl, Finds.hit g1 g2, fun n => ?_, ?_⟩
      · rw [← hxe]; exact bits_same h3.2 hx n
      · simpa using concM_mk hx hv e3
    | false =>
      obtain ⟨l', h3, h4⟩ := ih x v (fun r => k (a :: r)) h1
      refine ⟨_, h3, fun ρ X Z es i hx hv he => ?_⟩
      obtain ⟨e, r', rfl, e1, e2, e3⟩ := concM_cons he
      obtain ⟨g1, g2⟩ := h2 ρ _ _ hx e1
      obtain ⟨ak, av⟩ := a
      have e1 : conc ρ ak = some e.key := e1
      have e2 : conc ρ av = some e.val := e2
      rcases h4 ρ X Z r' (i + 1) hx hv e3 with ⟨q1, q2⟩ | ⟨j, e', q1, q2, q3, q4⟩
      · exact .inl ⟨q1.miss g1 g2, by simpa using concM_mk e1 e2 q2⟩
      · refine .inr ⟨j + 1, e', by simpa using q1, ?_, q3, ?_⟩
        · have := q2.miss g1 g2
          rw [show i + 1 + j = i + (j + 1) by omega] at this
          exact this
        · simpa using concM_mk e1 e2 q4
/-- a live map's content turns -/
theorem mapSet_ok {ρ : Rho} {h : Heap} {w : World} (sr : SR gl N ρ h w) {b : B} {p : Pos} {l l' : List KV} (hb : hat h b = .map l) (hp : ρ b = some p) {es : Array MapEntry} {clock : Nat} (hm : concM ρ l' = some (es.toList.map fun e => (e.key, e.val))) :
    SR gl N ρ (hup h b (.map l')) { w with heap := w.heap.setIfInBounds p.blk (.map es clock) } ∧ Ext ρ h w ρ (hup h b (.map l')) { w with heap := w.heap.setIfInBounds p.blk (.map es clock) } := by
  have hl : (hat h b).live := by rw [hb]; trivial
  obtain ⟨es0, cl0, r1, r2⟩ := sr.mapR hb hp
  have hlt : p.blk < w.heap.size := (Array.getElem?_eq_some_iff.1 r1).1
  exact ⟨sr.change hl trivial hp (by simp) (fun n hn => by simp [Ne.symm hn]) ⟨es, clock, by simp [hlt], hm⟩, Ext.change hl (by simp) hp (by simp) (fun n hn => by simp [Ne.symm hn]) rfl rfl rfl⟩
theorem mapUpdate_ok {o : Oper} {t m x y i cl e s k} (ho : o.op = .mapUpdate t m x y ∨ o.op = .insert t m x y) (hc : comp o.op P = some i) (ht : iX i cl gl e s k = true) :
    ∃ s', HMono (hp s) (hp s') ∧ dfs s' = dfs s ∧ k undef s' = true ∧ EffOK P gl N o e (hp s) (hp s') undef := by
  have hc : comp (.mapUpdate t m x y) P = some i := by rcases ho with h | h <;> (rw [h] at hc; exact hc)
  have hops : ∀ z, z = m ∨ z = x ∨ z = y → z ∈ o.op.operands := by
    intro z hz
    rcases ho with h | h <;> (rw [h]; simp [Op.operands]; rcases hz with rfl | rfl | rfl <;> simp)
  have hexec : ∀ a : Act, execOp a.eval o = (do Instr.mapUpdate t (a.eval m) (a.eval x) (a.eval y); pure .skip) := fun a => by
    rcases ho with h | h <;> simp only [execOp, h]
  simp only [comp] at hc
  cases hu : P.underlying t with
  | none => rw [hu] at hc; cases hc
  | some d =>
    rw [hu] at hc
    cases d <;> try (cases hc; done)
    rename_i kt el
    simp only [bind, Option.bind_eq_some_iff, Option.some.injEq] at hc
    obtain ⟨q, hq, m', hm, x', hx, y', hy, rfl⟩ := hc
    obtain ⟨_, d, hd1, hd2⟩ := keyTo_spec hq
    dsimp only [iX] at ht
    obtain ⟨ks, hself⟩ : ∃ k, eqX q (opd x' e) (opd x' e) k = true := ⟨_, ht⟩
    obtain ⟨_, ht, _⟩ := key_eq hq hd1 ht
    generalize hv : opd m' e = v at ht
    cases v <;> try (cases ht; done)
    rename_i b
    obtain ⟨l, hl, ht⟩ := mapOf_true ht
    obtain ⟨l', h1, h2⟩ := mput_true hq hd1 l _ _ _ ht
    obtain ⟨s', h3, h4, _, h5⟩ := setSlot_true h1
    refine ⟨s', h3 ▸ HMono.up (by simp), h4, h5, EffOK.mk_skip fun ρ a w hop sr _ => ?_⟩
    have e1 := hop m (hops m (by simp)) m' hm
    have e2 := hop x (hops x (by simp)) x' hx
    have e3 := hop y (hops y (by simp)) y' hy
    rw [hv] at e1
    obtain ⟨p, g1, g2⟩ := conc_mp.1 e1
    obtain ⟨es, clock, m1, m2⟩ := sr.mapR hl g1
    have m3 : concM ρ l = some (es.toList.map fun e => (e.key, e.val)) := m2
    rcases h2 ρ _ _ _ 0 e2 e3 m3 with ⟨q1, q2⟩ | ⟨j, e', q1, q2, q3, q4⟩
    · obtain ⟨w1, w2⟩ := mapSet_ok sr hl g1 (l' := l') (es := es.push { key := a.eval x, val := a.eval y, born := clock }) (clock := clock + 1) (by rw [q2]; simp)
      rw [h3]
      refine ⟨ρ, _, ?_, w2, w1⟩
      simp only [hexec, Instr.mapUpdate, Sem.run_bind, run_under hu, Result.andThen_ok, g2, run_getMap m1, key_check hq hself e2, Finds.key hd1 hd2 q1, MapKept.run_setObj_map _ m1, Sem.run_pure]
    · obtain ⟨w1, w2⟩ := mapSet_ok sr hl g1 (l' := l') (es := es.modify j fun e => { e with key := a.eval x, val := a.eval y }) (clock := clock) (by rw [q4]; simp)
      rw [h3]
      refine ⟨ρ, _, ?_, w2, w1⟩
      have hj : ((es[j]?).map (·.key)).getD (a.eval x) = e'.key := by
        rw [Array.getElem?_toList] at q1
        simp [q1]
      simp only [hexec, Instr.mapUpdate, Sem.run_bind, run_under hu, Result.andThen_ok, g2, run_getMap m1, key_check hq hself e2, Finds.key hd1 hd2 q2, Instr.keyThatStays, hj, q3 9999, if_true, MapKept.run_setObj_map _ m1, Sem.run_pure, Nat.zero_add]
/-- what a map is after an entry is taken out -/
def DelOK (P : Program) (t : Nat) (d : TypeDesc) (x : V) (l l' : List KV) : Prop :=
  ∀ ρ X (es : List MapEntry) i, conc ρ x = some X → concM ρ l = some (es.map fun e => (e.key, e.val)) →
    (Finds P t d X es i none ∧ concM ρ l' = some (es.map fun e => (e.key, e.val))) ∨
    ∃ j e, es[j]? = some e ∧ Finds P t d X es i (some (i + j, e.val)) ∧ concM ρ l' = some ((es.eraseIdx j).map fun e => (e.key, e.val))
theorem mdel_true {t : Nat} {q : EqT} {d : TypeDesc} (hq : keyTo P t = some q) (hu : P.underlying t = some d) : ∀ (l : List KV) (x : V) (k : List KV → Bool), mdel q l x k = true →
    ∃ l', k l' = true ∧ DelOK P t d x l l' := by
  intro l
  induction l with
  | nil =>
    intro x k h
    refine ⟨_, h, fun ρ X es i hx he => .inl ?_⟩
    have : es = [] := by
      simp only [concM, Option.some.injEq] at he
      cases es with
      | nil => rfl
      | cons _ _ => cases he
    subst this
    exact ⟨Finds.nil, rfl⟩
  | cons a t ih =>
    intro x k h
    obtain ⟨r, h1, h2⟩ := key_eq hq hu (show eqX q x (kvK a) (fun r => Bool.rec (motive := fun _ => Bool) (mdel q t x fun r => k (a :: r)) (k t) r) = true from h)
    cases r with
    | true =>
      refine ⟨_, h1, fun ρ X es i hx he => .inr ?_⟩
      obtain ⟨e, r, rfl, e1, e2, e3⟩ := concM_cons he
      obtain ⟨g1, g2⟩ := h2 ρ _ _ hx e1
      exact ⟨0, e, rfl, Finds.hit g1 g2, by simpa using e3⟩
    | false =>
      obtain ⟨l', h3, h4⟩ := ih x (fun r => k (a :: r)) h1
      refine ⟨_, h3, fun ρ X es i hx he => ?_⟩
      obtain ⟨e, r', rfl, e1, e2, e3⟩ := concM_cons he
      obtain ⟨g1, g2⟩ := h2 ρ _ _ hx e1
      obtain ⟨ak, av⟩ := a
      have e1 : conc ρ ak = some e.key := e1
      have e2 : conc ρ av = some e.val := e2
      rcases h4 ρ X r' (i + 1) hx e3 with ⟨q1, q2⟩ | ⟨j, e', q1, q2, q4⟩
      · exact .inl ⟨q1.miss g1 g2, by simpa using concM_mk e1 e2 q2⟩
      · refine .inr ⟨j + 1, e', by simpa using q1, ?_, ?_⟩
        · have := q2.miss g1 g2
          rw [show i + 1 + j = i + (j + 1) by omega] at this
          exact this
        · simpa using concM_mk e1 e2 q4
theorem mapDelete_ok {o : Oper} {c i cl e s k} (ho : o.op = .call c) (hb : c.callee = .builtin .delete) (hc : comp o.op P = some i) (ht : iX i cl gl e s k = true) :
    ∃ s', HMono (hp s) (hp s') ∧ dfs s' = dfs s ∧ k undef s' = true ∧ EffOK P gl N o e (hp s) (hp s') undef := by
  rw [ho] at hc
  simp only [comp, bind, Option.bind_eq_some_iff, hb] at hc
  obtain ⟨l, hl, hc⟩ := hc
  rcases hts : c.argTypes.toList with _ | ⟨t, ts⟩
  · simp only [compB, hts] at hc; cases hc
  rcases l with _ | ⟨m', _ | ⟨x', _ | ⟨_, _⟩⟩⟩
  all_goals simp only [compB, hts] at hc
  all_goals first | (cases hc; done) | skip
  cases hu : P.underlying t with
  | none => rw [hu] at hc; cases hc
  | some d =>
    rw [hu] at hc
    cases d <;> try (cases hc; done)
    rename_i kt el
    obtain ⟨q, hq, rfl⟩ : ∃ q, keyTo P kt = some q ∧ I.mapDelete q m' x' = i := by
      dsimp only at hc
      simp only [bind, Option.bind_eq_some_iff, Option.some.injEq] at hc
      exact hc
    obtain ⟨m, x, hargs, hm, hx⟩ := cOpds_two hl
    obtain ⟨_, d, hd1, hd2⟩ := keyTo_spec hq
    dsimp only [iX] at ht
    obtain ⟨ks, hself⟩ : ∃ k, eqX q (opd x' e) (opd x' e) k = true := ⟨_, ht⟩
    obtain ⟨_, ht, _⟩ := key_eq hq hd1 ht
    have hat0 : c.argTypes[0]? = some t := by rw [← Array.getElem?_toList, hts]; rfl
    have hops : ∀ z, z = m ∨ z = x → z ∈ o.op.operands := by
      intro z hz
      rw [ho]; simp [Op.operands, Call.operands, hargs]; rcases hz with rfl | rfl <;> simp
    have hexec : ∀ a : Act, execOp a.eval o = builtin .delete c.argTypes o.type (c.args.map fun | .const _ => true | _ => false) #[a.eval m, a.eval x] := fun a => by
      rw [exec_builtin ho hb]; congr 1; rw [hargs]; simp
    generalize hv : opd m' e = v at ht
    cases v <;> try (cases ht; done)
    · refine ⟨s, HMono.refl _, rfl, ht, EffOK.mk_value fun ρ a w hop sr _ => ?_⟩
      have e1 := hop m (hops m (by simp)) m' hm
      have e2 := hop x (hops x (by simp)) x' hx
      rw [hv, conc_nilm] at e1
      refine ⟨ρ, w, .tuple #[], ?_, Ext.refl _ _ _, sr, conc_tup.2 ⟨[], rfl, rfl⟩⟩
      simp [hexec, builtin, Builtin.delete_, hat0, run_under hu, Result.andThen, e1, key_check hq hself e2]
    · rename_i b
      obtain ⟨l, hl, ht⟩ := mapOf_true ht
      obtain ⟨l', h1, h2⟩ := mdel_true hq hd1 l _ _ ht
      obtain ⟨s', h3, h4, _, h5⟩ := setSlot_true h1
      refine ⟨s', h3 ▸ HMono.up (by simp), h4, h5, EffOK.mk_value fun ρ a w hop sr _ => ?_⟩
      have e1 := hop m (hops m (by simp)) m' hm
      have e2 := hop x (hops x (by simp)) x' hx
      rw [hv] at e1
      obtain ⟨p, g1, g2⟩ := conc_mp.1 e1
      obtain ⟨es, clock, m1, m2⟩ := sr.mapR hl g1
      have m3 : concM ρ l = some (es.toList.map fun e => (e.key, e.val)) := m2
      rcases h2 ρ _ _ 0 e2 m3 with ⟨q1, q2⟩ | ⟨j, e', q1, q2, q4⟩
      · obtain ⟨w1, w2⟩ := mapSet_ok sr hl g1 (l' := l') (es := es) (clock := clock) q2
        rw [h3]
        refine ⟨ρ, _, .tuple #[], ?_, w2, w1, conc_tup.2 ⟨[], rfl, rfl⟩⟩
        simp only [hexec, builtin, Builtin.delete_, hat0]
        simp [run_under hu, Result.andThen, g2, run_getMap m1, key_check hq hself e2, Finds.key hd1 hd2 q1, MapKept.run_setObj_map _ m1]
      · obtain ⟨w1, w2⟩ := mapSet_ok sr hl g1 (l' := l') (es := es.eraseIdxIfInBounds j) (clock := clock) (by
          rw [q4]
          have hj : j < es.size := by
            have := (List.getElem?_eq_some_iff.1 q1).1; simpa using this
          simp [Array.eraseIdxIfInBounds, hj])
        rw [h3]
        refine ⟨ρ, _, .tuple #[], ?_, w2, w1, conc_tup.2 ⟨[], rfl, rfl⟩⟩
        simp only [hexec, builtin, Builtin.delete_, hat0]
        have q2' : Finds P kt d (a.eval x) es.toList 0 (some (j, e'.val)) := by rw [Nat.zero_add] at q2; exact q2
        simp [run_under hu, Result.andThen, g2, run_getMap m1, key_check hq hself e2, Finds.key hd1 hd2 q2', MapKept.run_setObj_map _ m1]
end Go.Exe

namespace Go.Exe
variable [Sig]
variable {P : Program} {gl : Nat → Nat → V} {N : Nat}
theorem concL_exists {ρ : Rho} {R : Nat → Value → Prop} : ∀ {L : List V} (k : Nat), (∀ (j : Nat) (v : V), L[j]? = some v → ∃ x, conc ρ v = some x ∧ R (k + j) x) → ∃ xs, concL ρ L = some xs ∧ ∀ (j : Nat) (x : Value), xs[j]? = some x → R (k + j) x := by
  intro L
  induction L with
  | nil => intro k _; exact ⟨[], rfl, by simp⟩
  | cons a t ih =>
    intro k h
    obtain ⟨x, h1, h2⟩ := h 0 a rfl
    obtain ⟨xs, h3, h4⟩ := ih (k + 1) (fun j v hv => by
      have := h (j + 1) v (by simpa using hv)
      rwa [show k + (j + 1) = k + 1 + j by omega] at this)
    refine ⟨x :: xs, concL_cons.2 ⟨x, xs, h1, h3, rfl⟩, fun j y hy => ?_⟩
    cases j with
    | zero => simp at hy; subst hy; exact h2
    | succ j =>
      have := h4 j y (by simpa using hy)
      rwa [show k + (j + 1) = k + 1 + j by omega]
theorem gath_true : ∀ (m : Nat) {i : Nat} {c : Cells} {k}, gath m i c k = true → ∃ l : LL, k l = true ∧ l.length = m ∧ ∀ (j : Nat) (r : List V), l[j]? = some r → c.elem (i + j) = some r := by
  intro m
  induction m with
  | zero => intro i c k h; exact ⟨[], h, rfl, by simp⟩
  | succ m ih =>
    intro i c k h
    obtain ⟨l, h1, h2⟩ := cget_true (show cget i c (fun l => gath m (i + 1) c fun r => k (l :: r)) = true from h)
    obtain ⟨r, h3, h4, h5⟩ := ih h2
    refine ⟨l :: r, h3, by simp [h4], fun j q hq => ?_⟩
    cases j with
    | zero => simp at hq; subst hq; exact h1
    | succ j =>
      have := h5 j q (by simpa using hq)
      rwa [show i + (j + 1) = i + 1 + j by omega]
theorem chunk_true : ∀ (n : Nat) {sz : Nat} {l : List V} {k}, chunk n sz l k = true → ∃ r : LL, k r = true ∧ r.length = n ∧ Rows sz r ∧ n * sz ≤ l.length ∧ r.flatten = l.take (n * sz) := by
  intro n
  induction n with
  | zero => intro sz l k h; exact ⟨[], h, rfl, (by intro r hr; cases hr), by simp, by simp⟩
  | succ n ih =>
    intro sz l k h
    obtain ⟨h1, h2⟩ := ltake_true sz (show ltake sz l (fun a => chunk n sz (ldrop sz l) fun r => k (a :: r)) = true from h)
    rw [ldrop_eq] at h2
    obtain ⟨r, h3, h4, h5, h6, h7⟩ := ih h2
    rw [List.length_drop] at h6
    refine ⟨_, h3, by simp [h4], fun q hq => ?_, by rw [Nat.succ_mul]; omega, ?_⟩
    · rcases List.mem_cons.1 hq with rfl | hq
      · simp [h1]
      · exact h5 q hq
    · rw [List.flatten_cons, h7, Nat.succ_mul, Nat.add_comm, List.take_add]
/-- the rows that a slice of a block has -/
theorem slotE_true {sz o n : Nat} {sl : Slot} {k} (hz : 0 < sz) (h : slotE sz o n sl k = true) : ∃ el z c l, sl = .cells el z c ∧ k l = true ∧ l.length = n ∧
    ((∀ i r, c.elem i = some r → r.length = z) → 0 < z → Rows sz l ∧ ∀ (j : Nat) (v : V), l.flatten[j]? = some v → cellAt c z (o + j) = some v) := by
  cases sl with
  | cells el z c =>
    refine ⟨el, z, c, ?_⟩
    cases hb : Nat.beq z sz with
    | true =>
      have hzs := Nat.eq_of_beq_eq_true hb
      subst hzs
      have h : Bool.rec (motive := fun _ => Bool) (cget (o / z) c fun l => chunk n z (ldrop (o % z) l) k) (Bool.rec (motive := fun _ => Bool) false (gath n (o / z) c k) (Nat.beq (o % z) 0)) (Nat.beq z z) = true := h
      rw [hb] at h
      obtain ⟨h1, h2⟩ := bguard h
      have h1 := Nat.eq_of_beq_eq_true h1
      obtain ⟨l, h3, h4, h5⟩ := gath_true n h2
      refine ⟨l, rfl, h3, h4, fun hr _ => ?_⟩
      have hrows : Rows z l := fun r hr' => by
        obtain ⟨i, hi⟩ := List.mem_iff_getElem?.1 hr'
        exact hr _ _ (h5 i r hi)
      refine ⟨hrows, fun j v hv => ?_⟩
      rw [hrows.get hz] at hv
      obtain ⟨r, r1, r2⟩ := Option.bind_eq_some_iff.1 hv
      have ho := Nat.div_add_mod o z
      have e1 : (o + j) / z = o / z + j / z := by
        rw [show o + j = j + z * (o / z) by omega, Nat.add_mul_div_left _ _ hz, Nat.add_comm]
      have e2 : (o + j) % z = j % z := by
        rw [show o + j = j + z * (o / z) by omega, Nat.add_mul_mod_self_left]
      unfold cellAt
      rw [e1, e2, h5 _ _ r1]; exact r2
    | false =>
      have h : Bool.rec (motive := fun _ => Bool) (cget (o / z) c fun l => chunk n sz (ldrop (o % z) l) k) (Bool.rec (motive := fun _ => Bool) false (gath n (o / sz) c k) (Nat.beq (o % sz) 0)) (Nat.beq z sz) = true := h
      rw [hb] at h
      obtain ⟨row, h1, h2⟩ := cget_true (show cget (o / z) c (fun l => chunk n sz (ldrop (o % z) l) k) = true from h)
      rw [ldrop_eq] at h2
      obtain ⟨l, h3, h4, h5, h6, h7⟩ := chunk_true n h2
      refine ⟨l, rfl, h3, h4, fun hr hz' => ⟨h5, fun j v hv => ?_⟩⟩
      rw [h7, List.getElem?_take] at hv
      split at hv
      · rename_i hj
        rw [List.getElem?_drop] at hv
        have hlt := (List.getElem?_eq_some_iff.1 hv).1
        rw [hr _ _ h1] at hlt
        have ho := Nat.div_add_mod o z
        have e0 : o + j = (o % z + j) + z * (o / z) := by omega
        have e1 : (o + j) / z = o / z := by rw [e0, Nat.add_mul_div_left _ _ hz', Nat.div_eq_of_lt hlt]; omega
        have e2 : (o + j) % z = o % z + j := by rw [e0, Nat.add_mul_mod_self_left, Nat.mod_eq_of_lt hlt]
        unfold cellAt
        rw [e1, e2, h1]; exact hv
      · cases hv
  | _ => cases h
/-- what a slice or a string gives, element by element -/
def Reads (n : Nat) (X : Value) (xs : List Value) (w : World) : Prop :=
  (X = .slice none 0 0 ∧ n = 0 ∧ xs = []) ∨ (∃ a cap, X = .slice (some a) n cap ∧ ∀ (j : Nat) (x : Value), xs[j]? = some x → w.cell? (a.add j) = some x) ∨
    ∃ b : ByteArray, X = .string b ∧ b.size = n ∧ xs.toArray = b.data.map fun b => .int .u8 b.toNat
theorem Reads.len {n X xs w} (h : Reads n X xs w) (w' : World) : (Builtin.lenOf X).run P w' = .ok n w' := by
  rcases h with ⟨rfl, rfl, _⟩ | ⟨a, cap, rfl, _⟩ | ⟨b, rfl, rfl, _⟩ <;> simp [Builtin.lenOf]
theorem Reads.first {n X xs w} {sz : Nat} (h : Reads n X xs w) (hl : xs.length = n * sz) {w' : World} (hw : ∀ a, w'.cell? a = w.cell? a) : (Builtin.firstCells sz n X).run P w' = .ok xs.toArray w' := by
  rcases h with ⟨rfl, rfl, rfl⟩ | ⟨a, cap, rfl, h1⟩ | ⟨b, rfl, rfl, h1⟩
  · simp [Builtin.firstCells]
  · exact run_firstCells_some (P := P) w' sz n a n cap xs hl fun j v hv => by rw [hw]; exact h1 j v hv
  · simp only [Builtin.firstCells, Sem.run_pure]
    rw [h1]
    have : (b.extract 0 b.size).data = b.data := by rw [ByteArray.data_extract]; exact Array.extract_size
    rw [this]
def ElemsOK (gl : Nat → Nat → V) (N : Nat) (h : Heap) (x : V) (n : Nat) (l : LL) : Prop := ∀ ρ w X, SR gl N ρ h w → conc ρ x = some X → ∃ xs, concL ρ l.flatten = some xs ∧ Reads n X xs w
theorem blockE_true {sz o n : Nat} {b : B} {s : S} {k} (h : blockE sz b o n s k = true) : ∃ sl, sl = hat (hp s) b ∧ slotE sz o n sl k = true := by
  obtain ⟨hh, nx, ds⟩ := s
  have h : slotE sz o n (hget b hh) k = true := h
  rw [hget_eq] at h
  exact ⟨_, rfl, h⟩
/-- a block's part, read -/
theorem blockE_ok {sz o n : Nat} {b : B} {s : S} {k} (hz : 0 < sz) (h : blockE sz b o n s k = true) : ∃ l : LL, k l = true ∧ l.length = n ∧ ∀ ρ w p, SR gl N ρ (hp s) w → ρ b = some p →
    Rows sz l ∧ CellsB l ∧ ∃ xs, concL ρ l.flatten = some xs ∧ ∀ (j : Nat) (x : Value), xs[j]? = some x → w.cell? ⟨p.blk, p.sh + o + j, none⟩ = some x := by
  obtain ⟨sl, h1, h2⟩ := blockE_true h
  obtain ⟨el, z, c, l, h3, h4, h5, h6⟩ := slotE_true hz h2
  rw [h1] at h3
  refine ⟨l, h4, h5, fun ρ w p sr hp' => ?_⟩
  have hr := sr.cells h3 hp'
  obtain ⟨arr, fr, r1, r2, r3, r4, r5, r6, r7, r8⟩ := hr
  obtain ⟨g1, g2⟩ := h6 (fun i r hr => (r5 i r hr).1) r3
  refine ⟨g1, fun r hr v hv => ?_, ?_⟩
  · obtain ⟨i, hi⟩ := List.mem_iff_getElem?.1 hr
    obtain ⟨q, hq⟩ := List.mem_iff_getElem?.1 hv
    have hq' : q < sz := by have := (List.getElem?_eq_some_iff.1 hq).1; rw [g1 r hr] at this; exact this
    have : l.flatten[i * sz + q]? = some v := by
      rw [g1.get hz, Nat.add_comm, Nat.add_mul_div_right _ _ hz, Nat.div_eq_of_lt hq', Nat.zero_add, hi, Nat.add_mul_mod_self_right, Nat.mod_eq_of_lt hq']; exact hq
    exact (r8 _ _ (g2 _ _ this)).1
  · have := concL_exists (ρ := ρ) (R := fun j x => w.cell? ⟨p.blk, p.sh + o + j, none⟩ = some x) (L := l.flatten) 0 (fun j v hv => by
      obtain ⟨_, x, x1, x2⟩ := r8 _ _ (g2 j v hv)
      refine ⟨x, x1, ?_⟩
      simp only [World.cell?, r1, Nat.zero_add]
      rw [show p.sh + o + j = p.sh + (o + j) by omega]
      simpa using x2)
    simpa using this
theorem strRows (n v : Nat) : Rows 1 ((bytesL n v).map fun b => [V.int .u8 (b.toNat : Int)]) ∧ CellsB ((bytesL n v).map fun b => [V.int .u8 (b.toNat : Int)]) ∧ ((bytesL n v).map fun b => [V.int .u8 (b.toNat : Int)]).flatten = (bytesL n v).map fun b => V.int .u8 (b.toNat : Int) := by
  refine ⟨fun r hr => ?_, fun r hr => ?_, ?_⟩
  · obtain ⟨b, _, rfl⟩ := List.mem_map.1 hr; rfl
  · obtain ⟨b, _, rfl⟩ := List.mem_map.1 hr; simp [cellB]
  · generalize bytesL n v = l
    induction l with
    | nil => rfl
    | cons a t ih => simp only [List.map_cons, List.flatten_cons, ih]; rfl
theorem concL_bytes {ρ : Rho} : ∀ (l : List UInt8), concL ρ (l.map fun b => V.int .u8 (b.toNat : Int)) = some (l.map fun b => Value.int .u8 (b.toNat : Int)) := by
  intro l
  induction l with
  | nil => rfl
  | cons a t ih => exact concL_cons.2 ⟨_, _, rfl, ih, rfl⟩
theorem elemsOf_true {sz : Nat} {x : V} {s : S} {k} (hz : 0 < sz) (h : elemsOf sz x s k = true) : ∃ n l, k n l = true ∧ l.length = n ∧
    ∀ ρ w X, SR gl N ρ (hp s) w → conc ρ x = some X → Rows sz l ∧ CellsB l ∧ ∃ xs, concL ρ l.flatten = some xs ∧ Reads n X xs w := by
  cases x <;> try (cases h; done)
  · rename_i n v
    obtain ⟨h1, h2⟩ := bguard (show Bool.rec (motive := fun _ => Bool) false (strE n v fun l => k n l) (Nat.beq sz 1) = true from h)
    have h1 := Nat.eq_of_beq_eq_true h1
    subst h1
    rw [strE_eq] at h2
    obtain ⟨r1, r2, r3⟩ := strRows n v
    refine ⟨n, _, h2, by simp [bytesL_length], fun ρ w X sr hx => ⟨r1, r2, ?_⟩⟩
    obtain ⟨g1, rfl⟩ := conc_str.1 hx
    rw [r3]
    refine ⟨_, concL_bytes _, .inr (.inr ⟨_, rfl, bytesOf_size n v, ?_⟩)⟩
    simp [bytesOf]
  · refine ⟨0, [], h, rfl, fun ρ w X sr hx => ⟨(by intro r hr; cases hr), (by intro r hr; cases hr), [], rfl, .inl ⟨conc_nils.1 hx, rfl, rfl⟩⟩⟩
  · rename_i b o n c
    obtain ⟨l, h1, h2, h3⟩ := blockE_ok (gl := gl) (N := N) hz (show blockE sz b o n s (fun l => k n l) = true from h)
    refine ⟨n, l, h1, h2, fun ρ w X sr hx => ?_⟩
    obtain ⟨p, p1, p2, rfl⟩ := conc_sl.1 hx
    obtain ⟨a1, a2, xs, a3, a4⟩ := h3 ρ w p sr p1
    exact ⟨a1, a2, xs, a3, .inr (.inl ⟨_, _, rfl, fun j x hj => by rw [add_place]; exact a4 j x hj⟩)⟩
  · rename_i b o c n
    obtain ⟨l, h1, h2, h3⟩ := blockE_ok (gl := gl) (N := N) hz (show blockE sz b o n s (fun l => k n l) = true from h)
    refine ⟨n, l, h1, h2, fun ρ w X sr hx => ?_⟩
    obtain ⟨p, p1, p2, p3, rfl⟩ := conc_slr.1 hx
    obtain ⟨a1, a2, xs, a3, a4⟩ := h3 ρ w p sr p1
    exact ⟨a1, a2, xs, a3, .inr (.inl ⟨_, _, rfl, fun j x hj => by rw [add_place]; exact a4 j x hj⟩)⟩
  · refine ⟨0, [], h, rfl, fun ρ w X sr hx => ?_⟩
    obtain ⟨p, p1, p2, p3, rfl⟩ := conc_sle.1 hx
    exact ⟨(by intro r hr; cases hr), (by intro r hr; cases hr), [], rfl, .inr (.inl ⟨_, _, rfl, fun j x hj => by cases hj⟩)⟩
end Go.Exe

namespace Go.Exe
variable [Sig]
variable {P : Program} {gl : Nat → Nat → V} {N : Nat}
def zeroOf (P : Program) (e : TypeId) : Option (Array Value) := (P.info? e).bind fun i => i.zero.map (·.cells)
/-- the second argument of an append: elements, or a number of zeros -/
structure Sec (P : Program) (ats : Array TypeId) (e : TypeId) (sz : Nat) (zeros : Bool) (X : Value) (n : Nat) (xs : List Value) (w : World) : Prop where
  flag : (ats[1]? = none ∧ zeros = false) ∨ ∃ u d, ats[1]? = some u ∧ P.underlying u = some d ∧ ((zeros = true ∧ ∃ k, d = .int k) ∨ (zeros = false ∧ ((∃ e', d = .slice e') ∨ d = .string)))
  size : xs.length = n * sz
  plain : zeros = false → Reads n X xs w
  zero : zeros = true → ∃ kd z, X = .int kd (n : Int) ∧ n ≤ 4096 ∧ zeroOf P e = some z ∧ (n ≠ 0 → xs.toArray = Builtin.zeroCells z n)
theorem nilCells {xs : List Value} {n sz : Nat} (h : xs.length = n * sz) (h0 : n * sz = 0) : xs = [] := List.eq_nil_of_length_eq_zero (by omega)
theorem app_fits {ats : Array TypeId} {t e ty : TypeId} {sz : Nat} {zeros : Bool} {X : Value} {n : Nat} {xs : List Value} {w : World} (hA : ats[0]? = some t) (ht : P.underlying t = some (.slice e)) (hn : szO P e = some sz)
    (hby : P.bytesOf e ≤ 1000000) (hs : Sec P ats e sz zeros X n xs w) {base : Option Addr} {sLen sCap : Nat} (hfit : sLen + n ≤ sCap) :
    (Builtin.append_ ats ty #[.slice base sLen sCap, X]).run P w = ((match base with | some a => storeCells (a.add (sLen * sz)) xs | none => pure ()).run P w).andThen fun _ w' => .ok (.slice base (sLen + n) sCap) w' := by
  obtain ⟨inf, i1, i2, i3⟩ := szO_some hn
  have hbytes : P.bytesOf e = inf.bytes := by simp [Program.bytesOf, i1]
  cases zeros with
  | false =>
    have hr := hs.plain rfl
    have hf : (Builtin.firstCells sz n X).run P w = .ok xs.toArray w := hr.first hs.size (fun _ => rfl)
    simp only [Builtin.append_, hA]
    have h0 : (#[Value.slice base sLen sCap, X] : Array Value)[0]? = some (.slice base sLen sCap) := rfl
    have h1 : (#[Value.slice base sLen sCap, X] : Array Value)[1]? = some X := rfl
    rcases hs.flag with ⟨hu, _⟩ | ⟨u, d, hu, hd, ⟨q, _⟩ | ⟨_, ⟨e', rfl⟩ | rfl⟩⟩
    · simp only [h0, h1, hu, Sem.run_bind, Sem.run_pure, run_under ht, Result.andThen_ok, run_sizeOf hn, Bool.false_eq_true, if_false, hr.len w, if_pos hfit, Bool.not_false, if_true, hf]
      cases base <;> simp only [Sem.run_bind, Sem.run_pure, Result.andThen_ok]
    · cases q
    · simp only [h0, h1, hu, Sem.run_bind, Sem.run_pure, run_under ht, run_under hd, Result.andThen_ok, run_sizeOf hn, Bool.false_eq_true, if_false, hr.len w, if_pos hfit, Bool.not_false, if_true, hf]
      cases base <;> simp only [Sem.run_bind, Sem.run_pure, Result.andThen_ok]
    · simp only [h0, h1, hu, Sem.run_bind, Sem.run_pure, run_under ht, run_under hd, Result.andThen_ok, run_sizeOf hn, Bool.false_eq_true, if_false, hr.len w, if_pos hfit, Bool.not_false, if_true, hf]
      cases base <;> simp only [Sem.run_bind, Sem.run_pure, Result.andThen_ok]
  | true =>
    obtain ⟨kd, z, rfl, hn4, hz, hx⟩ := hs.zero rfl
    simp only [Builtin.append_, hA]
    have h0 : (#[Value.slice base sLen sCap, .int kd n] : Array Value)[0]? = some (.slice base sLen sCap) := rfl
    have h1 : (#[Value.slice base sLen sCap, .int kd n] : Array Value)[1]? = some (.int kd n) := rfl
    have hw : IntKind.i64.wrap (n : Int) = n := by rw [IntKind.wrap_i64]; omega
    have hneg : ¬ ((n : Int) < 0) := by omega
    have hlarge : ¬ ((n : Int) * inf.bytes > 2 ^ 48) := by
      have : n * inf.bytes ≤ 4096 * 1000000 := Nat.mul_le_mul hn4 (hbytes ▸ hby)
      have h2 : (n : Int) * (inf.bytes : Int) = ((n * inf.bytes : Nat) : Int) := by simp
      rw [h2]; omega
    have happ : (if n * sz = 0 then (pure #[] : Sem (Array Value)) else do pure (Builtin.zeroCells (← zeroValue e).cells n)).run P w = .ok xs.toArray w := by
      split
      · rename_i q; rw [nilCells hs.size q]; rfl
      · rename_i q
        unfold zeroOf at hz
        rw [i1] at hz
        simp only [Option.bind_some, Option.map_eq_some_iff] at hz
        obtain ⟨zv, hz1, rfl⟩ := hz
        simp only [Sem.run_bind, run_zero i1 hz1, Result.andThen_ok, Sem.run_pure]
        rw [hx (by intro q2; rw [q2] at q; simp at q)]
    obtain ⟨u, hu, kk, hd⟩ : ∃ u, ats[1]? = some u ∧ ∃ kk, P.underlying u = some (.int kk) := by
      rcases hs.flag with ⟨_, q⟩ | ⟨u, d, hu, hd, ⟨_, kk, rfl⟩ | ⟨q, _⟩⟩
      · cases q
      · exact ⟨u, hu, kk, hd⟩
      · cases q
    simp only [h0, h1, hu, Sem.run_bind, run_under ht, run_under hd, Result.andThen_ok, run_sizeOf hn, if_true, asInt, asIntOf, Sem.run_pure, hw, if_neg hneg, typeInfo, run_program, i1, if_neg hlarge, Int.toNat_natCast, if_pos hfit, Bool.not_true, Bool.false_eq_true, if_false, happ]
    cases base <;> simp only [Sem.run_bind, Sem.run_pure, Result.andThen_ok]
theorem app_world (w : World) (A B : List Value) (C : Array Value) (e : TypeId) : ({ heap := w.drew.heap.push (.cells (A.toArray ++ (B.toArray ++ C)) e), tape := w.tape, drawn := w.drawn + 1, os := w.drew.os, output := w.drew.output } : World) = w.drew.alloc (.cells ((A ++ B).toArray ++ C) e) := by
  have : A.toArray ++ (B.toArray ++ C) = (A ++ B).toArray ++ C := by apply Array.ext'; simp
  rw [this]; rfl
theorem app_grows {ats : Array TypeId} {t e ty : TypeId} {sz : Nat} {zeros : Bool} {X : Value} {n : Nat} {xs olds : List Value} {w : World} {i : TypeInfo} {z : Value} (hA : ats[0]? = some t) (ht : P.underlying t = some (.slice e)) (hn : szO P e = some sz)
    (hi : P.info? e = some i) (hz : i.zero = some z) (hby : P.bytesOf e ≤ 1000000) (hs : Sec P ats e sz zeros X n xs w) {base : Option Addr} {sLen sCap : Nat} (q : n ≠ 0) (hgrow : sCap < sLen + n) (hsmall : sLen + n ≤ 4096)
    (hold : ∀ w', (∀ a, w'.cell? a = w.cell? a) → (Builtin.firstCells sz sLen (.slice base sLen sCap)).run P w' = .ok olds.toArray w') :
    (Builtin.append_ ats ty #[.slice base sLen sCap, X]).run P w = .ok (.slice (some ⟨w.heap.size, 0, none⟩) (sLen + n) (grownCap w (sLen + n) sCap e))
      (w.drew.alloc (.cells (olds.toArray ++ xs.toArray ++ Builtin.zeroCells z.cells (grownCap w (sLen + n) sCap e - (sLen + n))) e)) := by
  have hbytes : P.bytesOf e = i.bytes := by simp [Program.bytesOf, hi]
  have hnot : ¬ (sLen + n ≤ sCap) := by omega
  have h63 : ¬ (9223372036854775807 < ((sLen : Int) + (n : Int))) := by omega
  have h48 : ¬ (281474976710656 < Builtin.nextslicecap (sLen + n) sCap * i.bytes) := by
    have := growslice_fits (bytes := i.bytes) hgrow (by
      have : (sLen + n) * i.bytes ≤ 4096 * 1000000 := Nat.mul_le_mul hsmall (hbytes ▸ hby)
      omega)
    omega
  have ho := hold w.drew (fun a => by simp)
  obtain ⟨inf, i1, i2, i3⟩ := szO_some hn
  rw [hi] at i1; injection i1 with i1; subst i1
  cases zeros with
  | false =>
    have hr := hs.plain rfl
    have hf : (Builtin.firstCells sz n X).run P w.drew = .ok xs.toArray w.drew := hr.first hs.size (fun a => by simp)
    have hlen := hr.len (P := P) w
    rcases hs.flag with ⟨hu, _⟩ | ⟨u, d, hu, hd, ⟨q, _⟩ | ⟨_, ⟨e', rfl⟩ | rfl⟩⟩
    · simp [Builtin.append_, hA, hu, run_underlying ht, sizeOf, typeInfo, zeroValue, hi, hz, i2, hlen, hnot, h63, h48, Question.forced, hf, ho, newRow, grownCap, Result.andThen]
      exact app_world _ _ _ _ _
    · cases q
    · simp [Builtin.append_, hA, hu, run_underlying hd, run_underlying ht, sizeOf, typeInfo, zeroValue, hi, hz, i2, hlen, hnot, h63, h48, Question.forced, hf, ho, newRow, grownCap, Result.andThen]
      exact app_world _ _ _ _ _
    · simp [Builtin.append_, hA, hu, run_underlying hd, run_underlying ht, sizeOf, typeInfo, zeroValue, hi, hz, i2, hlen, hnot, h63, h48, Question.forced, hf, ho, newRow, grownCap, Result.andThen]
      exact app_world _ _ _ _ _
  | true =>
    obtain ⟨kd, z', rfl, hn4, hz', hx⟩ := hs.zero rfl
    have hw : IntKind.i64.wrap (n : Int) = n := by rw [IntKind.wrap_i64]; omega
    have hneg : ¬ ((n : Int) < 0) := by omega
    have hlarge : ¬ (281474976710656 < (n : Int) * i.bytes) := by
      have : n * i.bytes ≤ 4096 * 1000000 := Nat.mul_le_mul hn4 (hbytes ▸ hby)
      have h2 : (n : Int) * (i.bytes : Int) = ((n * i.bytes : Nat) : Int) := by simp
      rw [h2]; omega
    unfold zeroOf at hz'
    rw [hi] at hz'
    simp only [Option.bind_some, hz, Option.map_some, Option.some.injEq] at hz'
    subst hz'
    obtain ⟨u, hu, kk, hd⟩ : ∃ u, ats[1]? = some u ∧ ∃ kk, P.underlying u = some (.int kk) := by
      rcases hs.flag with ⟨_, q⟩ | ⟨u, d, hu, hd, ⟨_, kk, rfl⟩ | ⟨q, _⟩⟩
      · cases q
      · exact ⟨u, hu, kk, hd⟩
      · cases q
    have hx := hx q
    simp [Builtin.append_, hA, run_underlying ht, sizeOf, typeInfo, zeroValue, hi, hz, i2, hu, run_underlying hd, hw, hneg, hlarge, asInt, asIntOf, hnot, h63, h48, Question.forced, ho, newRow, grownCap, Result.andThen, q, i3, hx]
    have hnz : ¬ n * sz = 0 := Nat.mul_ne_zero q i3
    rw [if_neg hnz]
    rfl
end Go.Exe

namespace Go.Exe
variable [Sig]
variable {P : Program} {gl : Nat → Nat → V} {N : Nat}
theorem putE_true : ∀ (l : LL) {i : Nat} {c : Cells} {k}, putE l i c k = true → ∃ c', k c' = true ∧ (c.ok → c'.ok ∧ (∀ q, c'.elem q = if i ≤ q ∧ q < i + l.length then l[q - i]? else c.elem q) ∧ ∀ q, i ≤ q → q < i + l.length → (c.elem q).isSome) := by
  intro l
  induction l with
  | nil => intro i c k h; exact ⟨c, h, fun hok => ⟨hok, fun q => by rw [if_neg (by simp)], fun q h1 h2 => by simp at h2; omega⟩⟩
  | cons a t ih =>
    intro i c k h
    obtain ⟨h1, h2⟩ := cset_true (show cset i c a (fun c => putE t (i + 1) c k) = true from h)
    obtain ⟨c', h3, h4⟩ := ih h2
    refine ⟨c', h3, fun hok => ?_⟩
    obtain ⟨h5, h6, h7⟩ := h4 (ok_up hok)
    refine ⟨h5, fun q => ?_, fun q q1 q2 => ?_⟩
    · rw [h6 q, elem_up hok h1]
      by_cases e : q = i
      · subst e
        rw [if_neg (by omega), if_pos rfl, if_pos (by simp)]; simp
      · rw [if_neg e]
        by_cases e2 : i + 1 ≤ q ∧ q < i + 1 + t.length
        · rw [if_pos e2, if_pos (by simp; omega), show q - i = (q - (i + 1)) + 1 by omega]; simp
        · rw [if_neg e2, if_neg (by simp; omega)]
    · simp only [List.length_cons] at q2
      by_cases e : q = i
      · rw [e]; exact h1
      · have := h7 q (by omega) (by omega)
        rw [elem_up hok h1, if_neg e] at this; exact this
theorem putAt_true {sz : Nat} {b : B} {i : Nat} {l : LL} {s : S} {k} (h : putAt sz b i l s k = true) : ∃ el c c' s', hat (hp s) b = .cells el sz c ∧ hp s' = hup (hp s) b (.cells el sz c') ∧ dfs s' = dfs s ∧ nxt s' = nxt s ∧ k s' = true ∧
    (c.ok → c'.ok ∧ (∀ q, c'.elem q = if i ≤ q ∧ q < i + l.length then l[q - i]? else c.elem q) ∧ ∀ q, i ≤ q → q < i + l.length → (c.elem q).isSome) := by
  obtain ⟨hh, nx, ds⟩ := s
  dsimp only [putAt] at h
  rw [hget_eq] at h
  cases hs : hat hh b with
  | cells el z c =>
    rw [hs] at h
    obtain ⟨h1, h2⟩ := bguard (show Bool.rec (motive := fun _ => Bool) false (putE l i c fun c' => hset b hh (.cells el z c') fun h' => k (.mk h' nx ds)) (Nat.beq z sz) = true from h)
    have h1 := Nat.eq_of_beq_eq_true h1
    subst h1
    obtain ⟨c', h3, h4⟩ := putE_true l h2
    rw [hset_eq] at h3
    exact ⟨el, c, c', .mk (hup hh b (.cells el z c')) nx ds, hs, rfl, rfl, rfl, h3, h4⟩
  | _ => rw [hs] at h; cases h
/-- rows written: cell by cell -/
theorem rows_write {c c' : Cells} {sz i : Nat} {l : LL} (hz : 0 < sz) (hr : Rows sz l) (he : ∀ q r, c'.elem q = some r → (i ≤ q ∧ l[q - i]? = some r) ∨ (¬ (i ≤ q ∧ q < i + l.length) ∧ c.elem q = some r)) :
    ∀ j v, cellAt c' sz j = some v → (i * sz ≤ j ∧ j < i * sz + l.flatten.length ∧ l.flatten[j - i * sz]? = some v) ∨ (¬ (i * sz ≤ j ∧ j < i * sz + l.flatten.length) ∧ cellAt c sz j = some v) := by
  intro j v hv
  unfold cellAt at hv ⊢
  have hj := Nat.div_add_mod j sz
  have hm := Nat.mod_lt j hz
  cases hq : c'.elem (j / sz) with
  | none => rw [hq] at hv; cases hv
  | some r =>
    rw [hq] at hv
    dsimp only at hv
    rcases he _ _ hq with ⟨h1, h2⟩ | ⟨h1, h2⟩
    · have hlt := (List.getElem?_eq_some_iff.1 h2).1
      have g1 : i * sz ≤ j := by
        have : i * sz ≤ j / sz * sz := Nat.mul_le_mul_right sz h1
        rw [Nat.mul_comm (j / sz)] at this; omega
      have g2 : j - i * sz = (j / sz - i) * sz + j % sz := by
        rw [Nat.sub_mul, Nat.mul_comm (j / sz)]
        have : i * sz ≤ sz * (j / sz) := by rw [Nat.mul_comm sz]; exact Nat.mul_le_mul_right sz h1
        omega
      have g3 : l.flatten[j - i * sz]? = some v := by
        rw [hr.get hz, g2, Nat.add_comm, Nat.add_mul_div_right _ _ hz, Nat.div_eq_of_lt hm, Nat.zero_add, h2, Nat.add_mul_mod_self_right, Nat.mod_mod]; exact hv
      exact .inl ⟨g1, by have := (List.getElem?_eq_some_iff.1 g3).1; omega, g3⟩
    · refine .inr ⟨fun ⟨q1, q2⟩ => h1 ?_, by rw [h2]; exact hv⟩
      rw [hr.length] at q2
      refine ⟨(Nat.le_div_iff_mul_le hz).2 q1, ?_⟩
      rw [Nat.div_lt_iff_lt_mul hz, Nat.add_mul]; exact q2
/-- elements written in place -/
theorem putAt_ok {sz i : Nat} {b : B} {l : LL} {s s' : S} {el : Nat} {c c' : Cells} (hs : hat (hp s) b = .cells el sz c) (hs' : hp s' = hup (hp s) b (.cells el sz c'))
    (hc : c.ok → c'.ok ∧ (∀ q, c'.elem q = if i ≤ q ∧ q < i + l.length then l[q - i]? else c.elem q) ∧ ∀ q, i ≤ q → q < i + l.length → (c.elem q).isSome)
    {ρ : Rho} {w : World} {p : Pos} {xs : List Value} (sr : SR gl N ρ (hp s) w) (hp' : ρ b = some p) (hr : Rows sz l) (hcb : CellsB l) (hx : concL ρ l.flatten = some xs) :
    SR gl N ρ (hp s') (w.setCells p.blk (p.sh + i * sz) xs) ∧ Ext ρ (hp s) w ρ (hp s') (w.setCells p.blk (p.sh + i * sz) xs) ∧ (storeCells ⟨p.blk, p.sh + i * sz, none⟩ xs).run P w = .ok () (w.setCells p.blk (p.sh + i * sz) xs) := by
  obtain ⟨arr, fr, r1, r2, r3, r4, r5, r6, r7, r8⟩ := sr.cells hs hp'
  obtain ⟨g1, g2, g3⟩ := hc r4
  rw [hs']
  refine write_ok sr hs hp' hx (fun j hj => ?_) (fun v hv => ?_) g1 (fun q r hq => ?_) (rows_write r3 hr fun q r hq => ?_)
  · rw [hr.length] at hj
    have h1 : j / sz < l.length := (Nat.div_lt_iff_lt_mul r3).2 hj
    have h2 := g3 (i + j / sz) (Nat.le_add_right _ _) (Nat.add_lt_add_left h1 i)
    obtain ⟨row, h3⟩ := Option.isSome_iff_exists.1 h2
    have h4 := (r5 _ _ h3).2
    have h5 : (i + j / sz + 1) * sz ≤ p.cap * sz := Nat.mul_le_mul_right sz h4
    have h6 := Nat.div_add_mod j sz
    have h7 := Nat.mod_lt j r3
    rw [Nat.add_mul, Nat.add_mul, Nat.mul_comm (j / sz)] at h5
    generalize sz * (j / sz) = q at h5 h6
    omega
  · obtain ⟨r, h1, h2⟩ := List.mem_flatten.1 hv
    exact hcb r h1 v h2
  · rw [g2] at hq
    split at hq
    · rename_i h1
      obtain ⟨row, h3⟩ := Option.isSome_iff_exists.1 (g3 q h1.1 h1.2)
      exact ⟨hr r (List.mem_of_getElem? hq), (r5 _ _ h3).2⟩
    · exact r5 q r hq
  · rw [g2] at hq
    split at hq
    · rename_i h1; exact .inl ⟨h1.1, hq⟩
    · rename_i h1; exact .inr ⟨h1, hq⟩
end Go.Exe

namespace Go.Exe
variable [Sig]
variable {P : Program} {gl : Nat → Nat → V} {N : Nat}
theorem rows_le {c : Cells} {l : LL} (hok : c.ok) (he : ∀ i, c.elem i = l[i]?) : l.length ≤ 4096 := by
  have h : c.elem 4096 = none := by
    cases c with
    | one x => simp [Cells.elem]
    | many n t => have : n ≤ 4096 := hok; simp only [Cells.elem]; rw [if_neg (by omega)]
  rw [he] at h
  exact List.getElem?_eq_none_iff.1 h
theorem fresh_true {el sz n : Nat} {l : LL} {s : S} {k} (h : fresh el sz l n s k = true) : ∃ c s', NewOK s (.cells el sz c) s' ∧ k (.slr (nxt s) 0 0 n) s' = true ∧ c.ok ∧ ∀ i, c.elem i = l[i]? := by
  obtain ⟨c, h1, h2, h3⟩ := mkCells_true (show mkCells l (fun c => new s (.cells el sz c) fun b s => k (.slr b 0 0 n) s) = true from h)
  obtain ⟨s', h4, h5⟩ := new_true (live_cells _ _ _) h1
  exact ⟨c, s', h4, h5, h2, h3⟩
theorem grown_true {el sz n m : Nat} {b : B} {c : Cells} {s : S} {k} (h : grown el sz b c n m s k = true) : ∃ s1 s', hp s1 = hup (hp s) b .dead ∧ NewOK s1 (.cells el sz c) s' ∧ dfs s' = dfs s ∧ k (.slr (nxt s1) 0 0 (n + m)) s' = true := by
  obtain ⟨s1, h1, h2, _, h3⟩ := setSlot_true (show setSlot b .dead s (fun s => new s (.cells el sz c) fun b s => k (.slr b 0 0 (Nat.add n m)) s) = true from h)
  obtain ⟨s', h4, h5⟩ := new_true (live_cells _ _ _) h3
  exact ⟨s1, s', h1, h4, h4.dfs.trans h2, h5⟩
/-- an append to a slice whose capacity nobody knows -/
theorem appR_true {el sz : Nat} {b : B} {o c n m : Nat} {l : LL} {s : S} {k} (hl : l.length = m) (h : appR el sz b o c n m l s k = true) : ∃ c0, hat (hp s) b = .cells el sz c0 ∧ o = c * sz ∧
    ((∃ c' s', hp s' = hup (hp s) b (.cells el sz c') ∧ dfs s' = dfs s ∧ k (.slr b o c (n + m)) s' = true ∧
      (c0.ok → c'.ok ∧ (∀ q, c'.elem q = if c + n ≤ q ∧ q < c + n + l.length then l[q - (c + n)]? else c0.elem q) ∧ ∀ q, c + n ≤ q → q < c + n + l.length → (c0.elem q).isSome)) ∨
     (∃ c1 s1 s', c = 0 ∧ hp s1 = hup (hp s) b .dead ∧ NewOK s1 (.cells el sz c1) s' ∧ dfs s' = dfs s ∧ k (.slr (nxt s1) 0 0 (n + m)) s' = true ∧ c1.ok ∧ n + m ≤ 4096 ∧
      (c0.ok → (∀ q, q < n → (c0.elem q).isSome) ∧ ∀ q, c1.elem q = if q < n then c0.elem q else l[q - n]?))) := by
  obtain ⟨hh, nx, ds⟩ := s
  dsimp only [appR] at h
  rw [hget_eq] at h
  cases hs : hat hh b with
  | cells e0 z c0 =>
    rw [hs] at h
    have step : ∀ {X : Bool}, (Bool.rec (motive := fun _ => Bool) false (Bool.rec (motive := fun _ => Bool) false (Bool.rec (motive := fun _ => Bool) false X (Nat.beq o (Nat.mul c sz))) (Nat.beq z sz)) (Nat.beq e0 el)) = true → X = true ∧ o = c * sz ∧ z = sz ∧ e0 = el := fun h => by
      obtain ⟨h1, h2⟩ := bguard h
      obtain ⟨h3, h4⟩ := bguard h2
      obtain ⟨h5, h6⟩ := bguard h4
      exact ⟨h6, Nat.eq_of_beq_eq_true h5, Nat.eq_of_beq_eq_true h3, Nat.eq_of_beq_eq_true h1⟩
    obtain ⟨h, ho, rfl, rfl⟩ := step h
    refine ⟨c0, hs, ho, ?_⟩
    have inplace : putAt z b (Nat.add c n) l (S.mk hh nx ds) (fun s => k (.slr b o c (Nat.add n m)) s) = true → ∃ c' s', hp s' = hup hh b (.cells e0 z c') ∧ dfs s' = ds ∧ k (.slr b o c (n + m)) s' = true ∧
      (c0.ok → c'.ok ∧ (∀ q, c'.elem q = if c + n ≤ q ∧ q < c + n + l.length then l[q - (c + n)]? else c0.elem q) ∧ ∀ q, c + n ≤ q → q < c + n + l.length → (c0.elem q).isSome) := fun h => by
      obtain ⟨el', c', c'', s', p1, p2, p3, p4, p5, p6⟩ := putAt_true h
      have : el' = e0 ∧ c' = c0 := by
        have p1 : hat hh b = .cells el' z c' := p1
        rw [hs] at p1; injection p1 with q1 _ q2; exact ⟨q1.symm, q2.symm⟩
      obtain ⟨rfl, rfl⟩ := this
      exact ⟨c'', s', p2, p3, p5, p6⟩
    cases c0 with
    | one x =>
      have h : appOne e0 z b o c n x m l (S.mk hh nx ds) k = true := h
      cases hb : Nat.beq (Nat.add c n) 1 with
      | false =>
        unfold appOne at h
        rw [hb] at h
        obtain ⟨_, h2⟩ := bguard (show Bool.rec (motive := fun _ => Bool) false (putAt z b (Nat.add c n) l (S.mk hh nx ds) fun s => k (.slr b o c (Nat.add n m)) s) _ = true from h)
        exact Or.inl (inplace h2)
      | true =>
        unfold appOne at h
        rw [hb] at h
        obtain ⟨h1, h2⟩ := bguard (show Bool.rec (motive := fun _ => Bool) false (Bool.rec (motive := fun _ => Bool) false (t3set 0 t3e x fun t => pushE l n t fun t => forceN (Nat.add n m) fun q => grown e0 z b (.many q t) n m (S.mk hh nx ds) k) (Nat.ble (Nat.add n m) 4096)) (Nat.beq c 0) = true from h)
        obtain ⟨h3, h4⟩ := bguard h2
        have h1 := Nat.eq_of_beq_eq_true h1
        have h3 : n + m ≤ 4096 := Nat.le_of_ble_eq_true h3
        have hb : c + n = 1 := Nat.eq_of_beq_eq_true hb
        have hn : n = 1 := by omega
        rw [t3set_eq] at h4
        obtain ⟨t', h5, h6⟩ := pushE_eq l n (tup3 t3e 0 x) (fun t => forceN (Nat.add n m) fun q => grown e0 z b (.many q t) n m (S.mk hh nx ds) k) (by omega)
        rw [h5, forceN_eq] at h4
        obtain ⟨s1, s', g1, g2, g3, g4⟩ := grown_true h4
        refine Or.inr ⟨_, s1, s', h1, g1, g2, g3, g4, h3, h3, fun hok => ⟨fun q hq => by rw [hn] at hq; simp [Cells.elem, show q = 0 by omega], fun q => ?_⟩⟩
        simp only [Cells.elem]
        subst hn
        by_cases hq : q = 0
        · subst hq
          rw [if_pos (show 0 < Nat.add 1 m from by show 0 < 1 + m; omega), if_pos rfl, if_pos (by omega), h6 0 (by omega), if_neg (by omega), tat_tup _ _ _ _ (by omega) (by omega), if_pos rfl]
        · rw [if_neg (show ¬ q < 1 by omega)]
          by_cases hq2 : q < 1 + m
          · rw [if_pos (show q < Nat.add 1 m from hq2), h6 q (by omega), if_pos (by omega)]
            have : q - 1 < l.length := by omega
            simp [this]
          · rw [if_neg (show ¬ q < Nat.add 1 m from hq2), List.getElem?_eq_none (by omega)]
    | many nn t =>
      have h : appMany e0 z b o c n nn t m l (S.mk hh nx ds) k = true := h
      cases hb : Nat.beq (Nat.add c n) nn with
      | false =>
        unfold appMany at h
        rw [hb] at h
        obtain ⟨_, h2⟩ := bguard (show Bool.rec (motive := fun _ => Bool) false (putAt z b (Nat.add c n) l (S.mk hh nx ds) fun s => k (.slr b o c (Nat.add n m)) s) _ = true from h)
        exact Or.inl (inplace h2)
      | true =>
        unfold appMany at h
        rw [hb] at h
        obtain ⟨h1, h2⟩ := bguard (show Bool.rec (motive := fun _ => Bool) false (Bool.rec (motive := fun _ => Bool) false (pushE l n t fun t => forceN (Nat.add n m) fun q => grown e0 z b (.many q t) n m (S.mk hh nx ds) k) (Nat.ble (Nat.add n m) 4096)) (Nat.beq c 0) = true from h)
        obtain ⟨h3, h4⟩ := bguard h2
        have h1 := Nat.eq_of_beq_eq_true h1
        have h3 : n + m ≤ 4096 := Nat.le_of_ble_eq_true h3
        have hb : c + n = nn := Nat.eq_of_beq_eq_true hb
        obtain ⟨t', h5, h6⟩ := pushE_eq l n t (fun t => forceN (Nat.add n m) fun q => grown e0 z b (.many q t) n m (S.mk hh nx ds) k) (by omega)
        rw [h5, forceN_eq] at h4
        obtain ⟨s1, s', g1, g2, g3, g4⟩ := grown_true h4
        refine Or.inr ⟨_, s1, s', h1, g1, g2, g3, g4, h3, h3, fun hok => ⟨fun q hq => by simp [Cells.elem, show q < nn by omega], fun q => ?_⟩⟩
        simp only [Cells.elem]
        by_cases hq : q < n
        · rw [if_pos (show q < Nat.add n m from by show q < n + m; omega), if_pos hq, if_pos (by omega), h6 q (by omega), if_neg (by omega)]
        · rw [if_neg hq]
          by_cases hq2 : q < n + m
          · rw [if_pos (show q < Nat.add n m from hq2), h6 q (by omega), if_pos (by omega)]
            have : q - n < l.length := by omega
            simp [this]
          · rw [if_neg (show ¬ q < Nat.add n m from hq2), List.getElem?_eq_none (by omega)]
  | _ => rw [hs] at h; cases h
end Go.Exe

namespace Go.Exe
variable [Sig]
variable {P : Program} {gl : Nat → Nat → V} {N : Nat}
theorem size_zeroCells (z : Array Value) (n : Nat) : (Builtin.zeroCells z n).size = n * z.size := by simp [Builtin.zeroCells]
/-- a new block, with more room than elements -/
theorem newBlock_ok {s s' : S} {e sz : Nat} {l : LL} {c : Cells} {A : List Value} {z : Array Value} {cap : Nat} {ρ : Rho} {w w' : World} (hn : NewOK s (.cells e sz c) s') (hz : 0 < sz) (hok : c.ok) (he : ∀ i, c.elem i = l[i]?)
    (hr : Rows sz l) (hcb : CellsB l) (hx : concL ρ l.flatten = some A) (hzs : z.size = sz) (hcap : l.length ≤ cap) (sr : SR gl N ρ (hp s) w) (hρ : ρ (nxt s) = none)
    (hw : w'.heap = w.heap.push (.cells (A.toArray ++ Builtin.zeroCells z (cap - l.length)) e)) (ht : w'.tape = w.tape) (hos : w'.os = w.os) (hout : w'.output = w.output) :
    ∃ ρ', SR gl N ρ' (hp s') w' ∧ Ext ρ (hp s) w ρ' (hp s') w' ∧ conc ρ' (.slr (nxt s) 0 0 l.length) = some (.slice (some ⟨w.heap.size, 0, none⟩) l.length cap) := by
  have hle := Rho.le_set (p := ⟨w.heap.size, 0, cap, sz⟩) hρ
  have hA : A.length = l.length * sz := by rw [← (concL_get hx).1, hr.length]
  have hslot : slotR (ρ.set (nxt s) ⟨w.heap.size, 0, cap, sz⟩) ⟨w.heap.size, 0, cap, sz⟩ (.cells e sz c) (some (.cells (A.toArray ++ Builtin.zeroCells z (cap - l.length)) e)) := by
    refine cellsR_mk hr hz rfl rfl hok he hcap ?_ (fun i _ => by omega) hcb fun o v hv => ?_
    · simp only [Array.size_append, List.size_toArray, size_zeroCells, hzs, hA]
      rw [← Nat.add_mul]
      exact Nat.mul_le_mul_right sz (by omega)
    · obtain ⟨x, h1, h2⟩ := (concL_get hx).2 o v hv
      refine ⟨x, conc_le hle v x h1, ?_⟩
      have hlt := (List.getElem?_eq_some_iff.1 h2).1
      rw [Array.getElem?_append_left (by simpa using hlt)]
      simpa using h2
  refine ⟨ρ.set (nxt s) ⟨w.heap.size, 0, cap, sz⟩, ?_, ?_, ?_⟩
  · rw [hn.heap]; exact sr.add hn.free hρ rfl hw hslot
  · rw [hn.heap]; exact Ext.add hn.free (by simp) hρ rfl hw ht hos hout
  · exact conc_slr.2 ⟨⟨w.heap.size, 0, cap, sz⟩, by simp [Rho.set], by simp, by simpa using hcap, by simp⟩
def AppOK (P : Program) (gl : Nat → Nat → V) (N : Nat) (ats : Array TypeId) (e ty sz : Nat) (zeros : Bool) (h h' : Heap) (x : V) (m : Nat) (l : LL) (v : V) : Prop :=
  ∀ ρ w S Y xs, SR gl N ρ h w → Fresh ρ h h' → conc ρ x = some S → Rows sz l → CellsB l → concL ρ l.flatten = some xs → Sec P ats e sz zeros Y m xs w →
    ∃ ρ' w' Z, (Builtin.append_ ats ty #[S, Y]).run P w = .ok Z w' ∧ Ext ρ h w ρ' h' w' ∧ SR gl N ρ' h' w' ∧ conc ρ' v = some Z
theorem appX_ok {ats : Array TypeId} {t e ty sz : Nat} {zeros : Bool} {zl : List V} {x : V} {m : Nat} {l : LL} {s : S} {k} (hA : ats[0]? = some t) (ht : P.underlying t = some (.slice e)) (hn : szO P e = some sz) (hzl : zcells P e = some zl) (hzn : zl.length = sz)
    (hby : P.bytesOf e ≤ 1000000) (hl : l.length = m) (h : appX e sz x m l s k = true) :
    ∃ v s', HMono (hp s) (hp s') ∧ dfs s' = dfs s ∧ k v s' = true ∧ AppOK P gl N ats e ty sz zeros (hp s) (hp s') x m l v := by
  obtain ⟨inf, zv, z1, z2, z3⟩ := zcells_some hzl
  obtain ⟨_, _, _, hsz0⟩ := szO_some hn
  have hsz : 0 < sz := by omega
  have hzs : zv.cells.size = sz := by have := (concL_get (z3 fun _ => none)).1; simp at this; omega
  unfold appX at h
  cases hb : Nat.beq m 0 with
  | true =>
    rw [hb] at h
    have hm := Nat.eq_of_beq_eq_true hb
    obtain ⟨h1, h2⟩ := bguard (show Bool.rec (motive := fun _ => Bool) false (k x s) (isSl x) = true from h)
    refine ⟨x, s, HMono.refl _, rfl, h2, fun ρ w S Y xs sr _ hS _ _ hx hsec => ⟨ρ, w, S, ?_, Ext.refl _ _ _, sr, hS⟩⟩
    have hxs : xs = [] := List.eq_nil_of_length_eq_zero (by rw [hsec.size, hm]; simp)
    subst hxs; subst hm
    have fin : ∀ (base : Option Addr) (sLen sCap : Nat), sLen ≤ sCap → S = .slice base sLen sCap → (Builtin.append_ ats ty #[S, Y]).run P w = .ok S w := fun base sLen sCap hle hS' => by
      rw [hS', app_fits hA ht hn hby hsec (by omega)]
      cases base <;> rfl
    cases x <;> first | (cases h1; done) | skip
    · exact fin _ _ _ (Nat.le_refl _) (conc_nils.1 hS)
    · obtain ⟨p, _, q1, q2⟩ := conc_sl.1 hS
      exact fin _ _ _ q1 q2
    · obtain ⟨p, _, _, q1, q2⟩ := conc_slr.1 hS
      exact fin _ _ _ (by omega) q2
  | false =>
    rw [hb] at h
    have hm : m ≠ 0 := Nat.ne_of_beq_eq_false hb
    cases x <;> first | (cases h; done) | skip
    · -- nil
      obtain ⟨c, s', h1, h2, h3, h4⟩ := fresh_true (show fresh e sz l m s k = true from h)
      have hle := rows_le h3 h4
      refine ⟨_, s', h1.heap ▸ HMono.up (by simp), h1.dfs, h2, fun ρ w S Y xs sr fr hS hr hcb hx hsec => ?_⟩
      rw [conc_nils] at hS
      subst hS
      have hg := app_grows (P := P) (olds := []) (sLen := 0) (sCap := 0) (base := none) (ty := ty) hA ht hn z1 z2 hby hsec hm (by omega) (by omega) (fun w' _ => by simp [Builtin.firstCells])
      simp only [Nat.zero_add] at hg
      have hρ : ρ (nxt s) = none := fr _ h1.free (by rw [h1.heap, hat_hup, if_pos rfl]; simp)
      have hcap := grownCap_ge w m 0 e
      obtain ⟨ρ', a1, a2, a3⟩ := newBlock_ok (w' := w.drew.alloc (.cells (([] : List Value).toArray ++ xs.toArray ++ Builtin.zeroCells zv.cells (grownCap w m 0 e - m)) e)) h1 hsz h3 h4 hr hcb hx hzs (cap := grownCap w m 0 e) (by omega) sr hρ (by rw [hl]; simp; rfl) rfl rfl rfl
      rw [hl] at a3
      exact ⟨ρ', _, _, hg, a2, a1, a3⟩
    · -- all is known
      rename_i b o n c
      have h : Bool.rec (motive := fun _ => Bool) (blockE sz b o n s fun old => lapp old l fun l => forceN (Nat.add n m) fun q => fresh e sz l q s k) (Bool.rec (motive := fun _ => Bool) false (putAt sz b (Nat.add (Nat.div o sz) n) l s fun s => forceN (Nat.add n m) fun q => k (.sl b o q c) s) (Nat.beq (Nat.mod o sz) 0)) (Nat.ble (Nat.add n m) c) = true := h
      cases hb2 : Nat.ble (Nat.add n m) c with
      | true =>
        rw [hb2] at h
        have hfit : n + m ≤ c := Nat.le_of_ble_eq_true hb2
        obtain ⟨h1, h2⟩ := bguard h
        have h1 : o % sz = 0 := Nat.eq_of_beq_eq_true h1
        obtain ⟨el, c0, c', s', g1, g2, g3, _, g4, g5⟩ := putAt_true h2
        rw [forceN_eq] at g4
        refine ⟨_, s', g2 ▸ HMono.up (by simp), g3, g4, fun ρ w S Y xs sr fr hS hr hcb hx hsec => ?_⟩
        obtain ⟨p, p1, p2, rfl⟩ := conc_sl.1 hS
        obtain ⟨w1, w2, w3⟩ := putAt_ok (P := P) g1 g2 g5 sr p1 hr hcb hx
        have hoff : p.sh + o + n * sz = p.sh + Nat.add (Nat.div o sz) n * sz := by
          have h3 := Nat.div_add_mod o sz
          show p.sh + o + n * sz = p.sh + (o / sz + n) * sz
          rw [Nat.add_mul, Nat.mul_comm (o / sz)]; omega
        refine ⟨ρ, _, _, ?_, w2, w1, conc_sl.2 ⟨p, p1, hfit, rfl⟩⟩
        rw [app_fits hA ht hn hby hsec hfit]
        dsimp only
        rw [add_place, hoff, w3]
        rfl
      | false =>
        rw [hb2] at h
        have hnot : ¬ n + m ≤ c := fun q => by have q2 : Nat.ble (Nat.add n m) c = true := Nat.ble_eq_true_of_le q; rw [q2] at hb2; cases hb2
        obtain ⟨old, h1, h2, h3⟩ := blockE_ok (gl := gl) (N := N) hsz h
        rw [lapp_eq, forceN_eq] at h1
        obtain ⟨cc, s', g1, g2, g3, g4⟩ := fresh_true h1
        have hle := rows_le g3 g4
        refine ⟨_, s', g1.heap ▸ HMono.up (by simp), g1.dfs, g2, fun ρ w S Y xs sr fr hS hr hcb hx hsec => ?_⟩
        obtain ⟨p, p1, p2, rfl⟩ := conc_sl.1 hS
        obtain ⟨b1, b2, olds, b3, b4⟩ := h3 ρ w p sr p1
        have hlen : (old ++ l).length = n + m := by simp [h2, hl]
        have holds : olds.length = n * sz := by rw [← (concL_get b3).1, b1.length, h2]
        have hg := app_grows (P := P) (olds := olds) (ty := ty) (base := some ⟨p.blk, p.sh + o, none⟩) hA ht hn z1 z2 hby hsec hm (sLen := n) (sCap := c) (by omega) (by omega) (fun w' hw' => run_firstCells_some (P := P) w' sz n _ n c olds holds fun j v hv => by rw [hw', add_place]; exact b4 j v hv)
        have hρ : ρ (nxt s) = none := fr _ g1.free (by rw [g1.heap, hat_hup, if_pos rfl]; simp)
        have hcap := grownCap_ge w (n + m) c e
        obtain ⟨ρ', a1, a2, a3⟩ := newBlock_ok (A := olds ++ xs) (w' := w.drew.alloc (.cells (olds.toArray ++ xs.toArray ++ Builtin.zeroCells zv.cells (grownCap w (n + m) c e - (n + m))) e)) g1 hsz g3 g4 (l := old ++ l)
          (fun r hr' => by rcases List.mem_append.1 hr' with q | q; exact b1 r q; exact hr r q) (fun r hr' => by rcases List.mem_append.1 hr' with q | q; exact b2 r q; exact hcb r q) (by rw [List.flatten_append]; exact concL_append b3 hx) hzs (cap := grownCap w (n + m) c e) (by omega) sr hρ (by rw [hlen]; simp; rfl) rfl rfl rfl
        rw [hlen] at a3
        exact ⟨ρ', _, _, hg, a2, a1, a3⟩
    · -- who knows the capacity
      rename_i b o c n
      obtain ⟨c0, h1, h2, h3⟩ := appR_true hl (show appR e sz b o c n m l s k = true from h)
      rcases h3 with ⟨c', s', g2, g3, g4, g5⟩ | ⟨c1, s1, s', rfl, g1, g2, g3, g4, g5, g6, g7⟩
      · refine ⟨_, s', g2 ▸ HMono.up (by simp), g3, g4, fun ρ w S Y xs sr fr hS hr hcb hx hsec => ?_⟩
        obtain ⟨p, p1, p2, p3, rfl⟩ := conc_slr.1 hS
        obtain ⟨arr, frz, r1, r2, r3, r4, r5, r6, r7, r8⟩ := sr.cells h1 p1
        obtain ⟨w1, w2, w3⟩ := putAt_ok (P := P) (i := c + n) h1 g2 g5 sr p1 hr hcb hx
        have hfit : c + n + m ≤ p.cap := by
          have h4 := (g5 r4).2.2 (c + n + (m - 1)) (by omega) (by omega)
          obtain ⟨row, h5⟩ := Option.isSome_iff_exists.1 h4
          have := (r5 _ _ h5).2
          omega
        have hoff : p.sh + o + n * sz = p.sh + (c + n) * sz := by rw [h2, Nat.add_mul]; omega
        refine ⟨ρ, _, _, ?_, w2, w1, conc_slr.2 ⟨p, p1, p2, by omega, rfl⟩⟩
        rw [app_fits hA ht hn hby hsec (by omega)]
        dsimp only
        rw [add_place, hoff, w3]
        rfl
      · have hne : ∀ b', hat (hp s) b' ≠ .free → hat (hp s') b' ≠ .free := fun b' hb' => by
          rw [g2.heap, hat_hup]; split
          · simp
          · rw [g1, hat_hup]; split
            · simp
            · exact hb'
        refine ⟨_, s', hne, g3, g4, fun ρ w S Y xs sr fr hS hr hcb hx hsec => ?_⟩
        obtain ⟨p, p1, p2, p3, rfl⟩ := conc_slr.1 hS
        simp only [Nat.zero_mul] at h2
        subst h2
        have hrc := sr.cells h1 p1
        obtain ⟨arr, frz, r1, ⟨r2, r2'⟩, r3, r4, r5, r6, r7, r8⟩ := hrc
        obtain ⟨k1, k2⟩ := g7 r4
        have hlive : (hat (hp s) b).live := by rw [h1]; trivial
        have hbne : nxt s1 ≠ b := fun q => by
          have := g2.free
          rw [q, g1, hat_hup, if_pos rfl] at this; cases this
        have hfree : hat (hp s) (nxt s1) = .free := by
          have := g2.free
          rwa [g1, hat_hup, if_neg hbne] at this
        have hρ : ρ (nxt s1) = none := fr _ hfree (by rw [g2.heap, hat_hup, if_pos rfl]; simp)
        by_cases hfit : n + m ≤ p.cap
        · -- in place
          have hw := write_slot (P := P) (w := w) (p := p) (c := c0) (c' := c1) (el := e) (sz := sz) (o := n * sz) (new := l.flatten) (xs := xs) (ρ := ρ) ⟨arr, frz, r1, ⟨r2, r2'⟩, r3, r4, r5, r6, r7, r8⟩ hx (fun j hj => by
              rw [hr.length, hl] at hj
              have : (n + m) * sz ≤ p.cap * sz := Nat.mul_le_mul_right sz hfit
              rw [Nat.add_mul] at this; omega) (fun v hv => by
              obtain ⟨r, q1, q2⟩ := List.mem_flatten.1 hv
              exact hcb r q1 v q2) g5 (fun i r hi => by
              rw [k2] at hi
              split at hi
              · exact r5 i r hi
              · have hlt := (List.getElem?_eq_some_iff.1 hi).1
                exact ⟨hr r (List.mem_of_getElem? hi), by omega⟩) (rows_write r3 hr fun q r hq => by
              rw [k2] at hq
              split at hq
              · rename_i h5; exact .inr ⟨by omega, hq⟩
              · rename_i h5; exact .inl ⟨by omega, hq⟩)
          obtain ⟨w1, w2, w3, w4, w5, w6, w7⟩ := hw
          obtain ⟨q1, q2⟩ := sr.regrow (b' := nxt s1) (p' := p) (s := .cells e sz c1) (w' := w.setCells p.blk (p.sh + n * sz) xs) hlive p1 hfree hρ rfl w3 w2 (slotR_le (Rho.le_set hρ) (s := .cells e sz c1) w1) (by simp)
          have hheap : hp s' = hup (hup (hp s) b .dead) (nxt s1) (.cells e sz c1) := by rw [g2.heap, g1]
          rw [← hheap] at q1 q2
          refine ⟨ρ.set (nxt s1) p, _, _, ?_, q2 w4 w5 w6, q1, conc_slr.2 ⟨p, by simp [Rho.set], by simp, by omega, rfl⟩⟩
          rw [app_fits hA ht hn hby hsec (by omega)]
          dsimp only
          rw [add_place, Nat.add_zero, w7]
          rfl
        · -- a new block
          obtain ⟨olds, o1, o2⟩ : ∃ olds : List Value, (∀ (j : Nat) (x : Value), olds[j]? = some x → w.cell? ⟨p.blk, p.sh + 0 + j, none⟩ = some x) ∧ ∃ rows : LL, Rows sz rows ∧ CellsB rows ∧ rows.length = n ∧ (∀ q, q < n → rows[q]? = c0.elem q) ∧ concL ρ rows.flatten = some olds := by
            have hrows : ∃ rows : LL, rows.length = n ∧ ∀ q, q < n → rows[q]? = c0.elem q := by
              refine ⟨(List.range n).map fun q => (c0.elem q).getD [], by simp, fun q hq => ?_⟩
              obtain ⟨row, h5⟩ := Option.isSome_iff_exists.1 (k1 q hq)
              simp [hq, h5]
            obtain ⟨rows, e1, e2⟩ := hrows
            have e3 : Rows sz rows := fun r hr' => by
              obtain ⟨q, hq⟩ := List.mem_iff_getElem?.1 hr'
              have hlt := (List.getElem?_eq_some_iff.1 hq).1
              rw [e2 q (by omega)] at hq
              exact (r5 q r hq).1
            have e4 : ∀ (j : Nat) (v : V), rows.flatten[j]? = some v → cellAt c0 sz j = some v := fun j v hv => by
              have hlt := (List.getElem?_eq_some_iff.1 hv).1
              rw [e3.length, e1] at hlt
              rw [e3.get r3, e2 (j / sz) ((Nat.div_lt_iff_lt_mul r3).2 hlt)] at hv
              obtain ⟨row, h5, h6⟩ := Option.bind_eq_some_iff.1 hv
              unfold cellAt; rw [h5]; exact h6
            obtain ⟨olds, e5, e6⟩ := concL_exists (ρ := ρ) (R := fun j x => w.cell? ⟨p.blk, p.sh + 0 + j, none⟩ = some x) (L := rows.flatten) 0 (fun j v hv => by
              obtain ⟨_, x, x1, x2⟩ := r8 _ _ (e4 j v hv)
              exact ⟨x, x1, by simpa [World.cell?, r1] using x2⟩)
            refine ⟨olds, by simpa using e6, rows, e3, fun r hr' v hv => ?_, e1, e2, e5⟩
            obtain ⟨o, ho⟩ := List.mem_iff_getElem?.1 (List.mem_flatten.2 ⟨r, hr', hv⟩)
            exact (r8 _ _ (e4 o v ho)).1
          obtain ⟨rows, e1, e2, e3, e4, e5⟩ := o2
          have holds : olds.length = n * sz := by rw [← (concL_get e5).1, e1.length, e3]
          have hg := app_grows (P := P) (olds := olds) (ty := ty) (base := some ⟨p.blk, p.sh + 0, none⟩) hA ht hn z1 z2 hby hsec hm (sLen := n) (sCap := p.cap - 0) (by omega) (by omega) (fun w' hw' => run_firstCells_some (P := P) w' sz n _ n _ olds holds fun j v hv => by rw [hw', add_place]; exact o1 j v hv)
          have hcap := grownCap_ge w (n + m) (p.cap - 0) e
          have sr1 : SR gl N ρ (hp s1) w := by rw [g1]; exact sr.kill b
          have hlen : (rows ++ l).length = n + m := by simp [e3, hl]
          obtain ⟨ρ', a1, a2, a3⟩ := newBlock_ok (A := olds ++ xs) (w' := w.drew.alloc (.cells (olds.toArray ++ xs.toArray ++ Builtin.zeroCells zv.cells (grownCap w (n + m) (p.cap - 0) e - (n + m))) e)) g2 hsz g5 (fun i => by
              rw [k2]
              by_cases hi : i < n
              · rw [if_pos hi, List.getElem?_append_left (by omega), e4 i hi]
              · rw [if_neg hi, List.getElem?_append_right (by omega), e3]) (l := rows ++ l)
            (fun r hr' => by rcases List.mem_append.1 hr' with q | q; exact e1 r q; exact hr r q) (fun r hr' => by rcases List.mem_append.1 hr' with q | q; exact e2 r q; exact hcb r q) (by rw [List.flatten_append]; exact concL_append e5 hx) hzs (cap := grownCap w (n + m) (p.cap - 0) e) (by omega) sr1 hρ (by rw [hlen]; simp; rfl) rfl rfl rfl
          rw [hlen] at a3
          have hk : Ext ρ (hp s) w ρ (hp s1) w := by rw [g1]; exact Ext.kill b
          exact ⟨ρ', _, _, hg, hk.trans a2, a1, a3⟩
end Go.Exe

namespace Go.Exe
variable [Sig]
variable {P : Program} {gl : Nat → Nat → V} {N : Nat}
theorem call_op1 {o : Oper} {c : Call} {x : Operand} (ho : o.op = .call c) (h : c.args = #[x]) : x ∈ o.op.operands := by rw [ho]; simp [Op.operands, Call.operands, h]
theorem call_op2 {o : Oper} {c : Call} {x y z : Operand} (ho : o.op = .call c) (h : c.args = #[x, y]) (hz : z = x ∨ z = y) : z ∈ o.op.operands := by
  rw [ho]; simp [Op.operands, Call.operands, h]; rcases hz with rfl | rfl <;> simp
/-- a builtin that yields a value -/
theorem exec_b1 {a : Act} {o : Oper} {c : Call} {b : Builtin} {x : Operand} (ho : o.op = .call c) (hb : c.callee = .builtin b) (h : c.args = #[x]) : ∃ cs, execOp a.eval o = builtin b c.argTypes o.type cs #[a.eval x] :=
  ⟨_, by rw [exec_builtin ho hb]; congr 1; rw [h]; simp⟩
theorem exec_b2 {a : Act} {o : Oper} {c : Call} {b : Builtin} {x y : Operand} (ho : o.op = .call c) (hb : c.callee = .builtin b) (h : c.args = #[x, y]) : ∃ cs, execOp a.eval o = builtin b c.argTypes o.type cs #[a.eval x, a.eval y] :=
  ⟨_, by rw [exec_builtin ho hb]; congr 1; rw [h]; simp⟩
theorem append_ok {o : Oper} {c i cl e s k} (ho : o.op = .call c) (hb : c.callee = .builtin .append) (hc : comp o.op P = some i) (ht : iX i cl gl e s k = true) :
    ∃ v s', HMono (hp s) (hp s') ∧ dfs s' = dfs s ∧ k v s' = true ∧ EffOK P gl N o e (hp s) (hp s') v := by
  rw [ho] at hc
  simp only [comp, bind, Option.bind_eq_some_iff, hb] at hc
  obtain ⟨l, hl, hc⟩ := hc
  rcases hts : c.argTypes.toList with _ | ⟨t, ts⟩
  · simp only [compB, hts] at hc; cases hc
  rcases l with _ | ⟨s0, _ | ⟨x0, _ | ⟨_, _⟩⟩⟩
  all_goals simp only [compB, hts] at hc
  all_goals first | (cases hc; done) | skip
  obtain ⟨sv, xv, hargs, hs0, hx0⟩ := cOpds_two hl
  cases hu : P.underlying t with
  | none => rw [hu] at hc; cases hc
  | some d =>
    rw [hu] at hc
    cases d <;> try (cases hc; done)
    rename_i el
    dsimp only at hc
    simp only [bind, Option.bind_eq_some_iff] at hc
    obtain ⟨n, hn, z, hz, hc⟩ := hc
    split at hc
    · rename_i hcond
      simp only [Bool.and_eq_true, decide_eq_true_eq] at hcond
      obtain ⟨hzn, hby⟩ := hcond
      have hby := Nat.le_of_ble_eq_true hby
      obtain ⟨inf, zv, z1, z2, z3⟩ := zcells_some hz
      obtain ⟨_, _, _, hn0⟩ := szO_some hn
      have hzs : zv.cells.size = n := by have := (concL_get (z3 fun _ => none)).1; simp at this; omega
      have hA : c.argTypes[0]? = some t := by rw [← Array.getElem?_toList, hts]; rfl
      have hA1 : c.argTypes[1]? = ts.head? := by rw [← Array.getElem?_toList, hts]; cases ts <;> rfl
      -- elements
      have plain : (c.argTypes[1]? = none ∨ ∃ u d, c.argTypes[1]? = some u ∧ P.underlying u = some d ∧ ((∃ e', d = .slice e') ∨ d = .string)) → iX (I.append el n s0 x0) cl gl e s k = true →
          ∃ v s', HMono (hp s) (hp s') ∧ dfs s' = dfs s ∧ k v s' = true ∧ EffOK P gl N o e (hp s) (hp s') v := fun hfl ht => by
        obtain ⟨m, l, h1, h2, h3⟩ := elemsOf_true (gl := gl) (N := N) (show 0 < n by omega) (show elemsOf n (opd x0 e) s (fun m l => appX el n (opd s0 e) m l s k) = true from ht)
        obtain ⟨v, s', g1, g2, g3, g4⟩ := appX_ok (P := P) (gl := gl) (N := N) (ty := o.type) (zeros := false) hA hu hn hz hzn hby h2 h1
        refine ⟨v, s', g1, g2, g3, EffOK.mk_value fun ρ a w hop sr fr => ?_⟩
        have e1 := hop sv (call_op2 ho hargs (.inl rfl)) s0 hs0
        have e2 := hop xv (call_op2 ho hargs (.inr rfl)) x0 hx0
        obtain ⟨b1, b2, xs, b3, b4⟩ := h3 ρ w _ sr e2
        have hlen : xs.length = m * n := by rw [← (concL_get b3).1, b1.length, h2]
        obtain ⟨ρ', w', Z, c1, c2, c3, c4⟩ := g4 ρ w _ (a.eval xv) xs sr fr e1 b1 b2 b3 ⟨by
          rcases hfl with h | ⟨u, d, q1, q2, q3⟩
          · exact .inl ⟨h, rfl⟩
          · exact .inr ⟨u, d, q1, q2, .inr ⟨rfl, q3⟩⟩, hlen, fun _ => b4, fun h => by cases h⟩
        obtain ⟨cs, hex⟩ := exec_b2 (a := a) ho hb hargs
        exact ⟨ρ', w', Z, by rw [hex]; simp only [builtin, Sem.run_bind, c1, Result.andThen_ok, Sem.run_pure], c2, c3, c4⟩
      cases ts with
      | nil =>
        injection hc with hc; subst hc
        exact plain (.inl hA1) ht
      | cons u us =>
        dsimp only at hc
        cases hu1 : P.underlying u with
        | none => rw [hu1] at hc; cases hc
        | some d =>
          rw [hu1] at hc
          cases d <;> try (cases hc; done)
          · -- a number of zeros
            rename_i kk
            injection hc with hc; subst hc
            have ht' : asNat (opd x0 e) (fun m => Bool.rec (motive := fun _ => Bool) false (rep m z fun l => appX el n (opd s0 e) m l s k) (Nat.ble m 4096)) = true := ht
            obtain ⟨kd, m, hm, ht1⟩ := asNat_true ht'
            obtain ⟨h1, h2⟩ := bguard ht1
            have h1 := Nat.le_of_ble_eq_true h1
            rw [rep_eq] at h2
            obtain ⟨v, s', g1, g2, g3, g4⟩ := appX_ok (P := P) (gl := gl) (N := N) (ty := o.type) (zeros := true) hA hu hn hz hzn hby (by simp) h2
            refine ⟨v, s', g1, g2, g3, EffOK.mk_value fun ρ a w hop sr fr => ?_⟩
            have e1 := hop sv (call_op2 ho hargs (.inl rfl)) s0 hs0
            have e2 := hop xv (call_op2 ho hargs (.inr rfl)) x0 hx0
            rw [hm, conc_int] at e2
            have hrep := concL_replicate (ρ := ρ) (n := m) (z3 ρ) hzn (by omega)
            obtain ⟨ρ', w', Z, c1, c2, c3, c4⟩ := g4 ρ w _ (a.eval xv) _ sr fr e1 (fun r hr => by rw [List.eq_of_mem_replicate hr]; exact hzn) (fun r hr => by rw [List.eq_of_mem_replicate hr]; exact zcells_cell hz) hrep
              ⟨.inr ⟨u, _, hA1, hu1, .inl ⟨rfl, kk, rfl⟩⟩, by simp, (fun h => by cases h), fun _ => ⟨kd, zv.cells, e2, h1, by simp [zeroOf, z1, z2], fun _ => by simp only [Builtin.zeroCells, hzs, Array.toArray_toList]⟩⟩
            obtain ⟨cs, hex⟩ := exec_b2 (a := a) ho hb hargs
            exact ⟨ρ', w', Z, by rw [hex]; simp only [builtin, Sem.run_bind, c1, Result.andThen_ok, Sem.run_pure], c2, c3, c4⟩
          · injection hc with hc; subst hc
            exact plain (.inr ⟨u, _, hA1, hu1, .inr rfl⟩) ht
          · injection hc with hc; subst hc
            exact plain (.inr ⟨u, _, hA1, hu1, .inl ⟨_, rfl⟩⟩) ht
    · cases hc
end Go.Exe

namespace Go.Exe
variable [Sig]
variable {P : Program} {gl : Nat → Nat → V} {N : Nat}
theorem conc_goInt {ρ : Rho} (n : Nat) : conc ρ (.int .i64 (.ofNat n)) = some (goInt n) := rfl
theorem copy_ok {o : Oper} {c i cl e s k} (ho : o.op = .call c) (hb : c.callee = .builtin .copy) (hc : comp o.op P = some i) (ht : iX i cl gl e s k = true) :
    ∃ v s', HMono (hp s) (hp s') ∧ dfs s' = dfs s ∧ k v s' = true ∧ EffOK P gl N o e (hp s) (hp s') v := by
  rw [ho] at hc
  simp only [comp, bind, Option.bind_eq_some_iff, hb] at hc
  obtain ⟨l, hl, hc⟩ := hc
  rcases hts : c.argTypes.toList with _ | ⟨t, ts⟩
  · simp only [compB, hts] at hc; cases hc
  rcases l with _ | ⟨d0, _ | ⟨x0, _ | ⟨_, _⟩⟩⟩
  all_goals simp only [compB, hts] at hc
  all_goals first | (cases hc; done) | skip
  obtain ⟨dv, xv, hargs, hd0, hx0⟩ := cOpds_two hl
  cases hu : P.underlying t with
  | none => rw [hu] at hc; cases hc
  | some d =>
    rw [hu] at hc
    cases d <;> try (cases hc; done)
    rename_i el
    dsimp only at hc
    simp only [bind, Option.bind_eq_some_iff, Option.some.injEq] at hc
    obtain ⟨n, hn, rfl⟩ := hc
    obtain ⟨_, _, _, hn0⟩ := szO_some hn
    have hA : c.argTypes[0]? = some t := by rw [← Array.getElem?_toList, hts]; rfl
    dsimp only [iX] at ht
    obtain ⟨m, l, h1, h2, h3⟩ := elemsOf_true (gl := gl) (N := N) (show 0 < n by omega) ht
    -- what the model does
    have model : ∀ ρ (a : Act) w xs, Opnds ρ e o.op a → SR gl N ρ (hp s) w → Reads m (a.eval xv) xs w → concL ρ l.flatten = some xs → Rows n l → ∀ base dLen dCap, a.eval dv = .slice base dLen dCap → ∀ q : Nat, q = Nat.min m dLen → (q = m ∨ q = 0) → ∀ w', 
        ((match base with | some a => storeCells a (xs.take (q * n)) | none => pure ()).run P w = .ok () w') → (execOp a.eval o).run P w = .ok (.value (goInt q)) w' := fun ρ a w xs hop sr hr hx hrows base dLen dCap hd q hq hqm w' hst => by
      obtain ⟨cs, hex⟩ := exec_b2 (a := a) ho hb hargs
      have hlen : xs.length = m * n := by rw [← (concL_get hx).1, hrows.length, h2]
      have hf : (Builtin.firstCells n q (a.eval xv)).run P w = .ok (xs.take (q * n)).toArray w := by
        rcases hqm with rfl | h0
        · rw [List.take_of_length_le (by omega)]; exact hr.first hlen (fun _ => rfl)
        · rw [h0]; simp only [Nat.zero_mul, List.take_zero]
          rcases hr with ⟨q1, _, _⟩ | ⟨b, cap, q1, _⟩ | ⟨b, q1, _, _⟩
          · rw [q1]; simp [Builtin.firstCells]
          · rw [q1]; exact run_firstCells_some (P := P) w n 0 b m cap [] (by simp) (by simp)
          · rw [q1]; simp [Builtin.firstCells]
      rw [hex]
      simp only [builtin, Builtin.copy_, hA]
      have g0 : (#[a.eval dv, a.eval xv] : Array Value)[0]? = some (.slice base dLen dCap) := by rw [← hd]; rfl
      have g1 : (#[a.eval dv, a.eval xv] : Array Value)[1]? = some (a.eval xv) := rfl
      simp only [g0, g1, Sem.run_bind, run_under hu, Result.andThen_ok, hr.len w, run_sizeOf hn, ← hq, hf]
      cases base with
      | none =>
        simp only [Sem.run_pure, Result.ok.injEq, true_and] at hst
        simp only [Sem.run_pure, Result.andThen_ok, hst]
      | some b => simp only [Sem.run_bind, hst, Result.andThen_ok, Sem.run_pure]
    -- in place
    have inplace : ∀ (b : B) (off dLen : Nat), m ≤ dLen → (∀ ρ X, conc ρ (opd d0 e) = some X → ∃ p cap, ρ b = some p ∧ X = .slice (some ⟨p.blk, p.sh + off, none⟩) dLen cap) →
        (Bool.rec (motive := fun _ => Bool) false (putAt n b (Nat.div off n) l s fun s => k (.int .i64 (.ofNat m)) s) (Nat.beq (Nat.mod off n) 0)) = true →
        ∃ v s', HMono (hp s) (hp s') ∧ dfs s' = dfs s ∧ k v s' = true ∧ EffOK P gl N o e (hp s) (hp s') v := fun b off dLen hle hcd hh => by
      obtain ⟨q1, q2⟩ := bguard hh
      have q1 : off % n = 0 := Nat.eq_of_beq_eq_true q1
      obtain ⟨el', c0, c', s', g1, g2, g3, _, g4, g5⟩ := putAt_true q2
      refine ⟨_, s', g2 ▸ HMono.up (by simp), g3, g4, EffOK.mk_value fun ρ a w hop sr fr => ?_⟩
      have e1 := hop dv (call_op2 ho hargs (.inl rfl)) d0 hd0
      have e2 := hop xv (call_op2 ho hargs (.inr rfl)) x0 hx0
      obtain ⟨b1, b2, xs, b3, b4⟩ := h3 ρ w _ sr e2
      obtain ⟨p, cap, p1, p2⟩ := hcd ρ _ e1
      obtain ⟨w1, w2, w3⟩ := putAt_ok (P := P) g1 g2 g5 sr p1 b1 b2 b3
      have hoff : off / n * n = off := by have := Nat.div_add_mod off n; rw [Nat.mul_comm (off / n)]; omega
      have hlen : xs.length = m * n := by rw [← (concL_get b3).1, b1.length, h2]
      refine ⟨ρ, _, goInt m, ?_, w2, w1, conc_goInt m⟩
      refine model ρ a w xs hop sr b4 b3 b1 _ dLen cap p2 m (by simp [Nat.min_def, hle]) (.inl rfl) _ ?_
      dsimp only
      rw [List.take_of_length_le (by omega)]
      have : Nat.div off n * n = off := hoff
      rw [this] at w3
      rw [this]
      exact w3
    generalize hv : opd d0 e = v at h1 inplace
    cases v <;> first | (cases h1; done) | skip
    · refine ⟨_, s, HMono.refl _, rfl, h1, EffOK.mk_value fun ρ a w hop sr fr => ?_⟩
      have e1 := hop dv (call_op2 ho hargs (.inl rfl)) d0 hd0
      have e2 := hop xv (call_op2 ho hargs (.inr rfl)) x0 hx0
      obtain ⟨b1, b2, xs, b3, b4⟩ := h3 ρ w _ sr e2
      rw [hv, conc_nils] at e1
      exact ⟨ρ, w, goInt 0, model ρ a w xs hop sr b4 b3 b1 none 0 0 e1 0 (by simp) (.inr rfl) w rfl, Ext.refl _ _ _, sr, conc_goInt 0⟩
    · rename_i b off dLen cap
      have h1' : Bool.rec (motive := fun _ => Bool) false (Bool.rec (motive := fun _ => Bool) false (putAt n b (Nat.div off n) l s fun s => k (.int .i64 (.ofNat m)) s) (Nat.ble m dLen)) (Nat.beq (Nat.mod off n) 0) = true := h1
      obtain ⟨q1, q2⟩ := bguard h1'
      obtain ⟨q3, q4⟩ := bguard q2
      refine inplace b off dLen (Nat.le_of_ble_eq_true q3) (fun ρ X hX => ?_) (by rw [q1]; exact q4)
      obtain ⟨p, p1, _, p2⟩ := conc_sl.1 hX
      exact ⟨p, _, p1, p2⟩
    · rename_i b off cc dLen
      have h1' : Bool.rec (motive := fun _ => Bool) false (Bool.rec (motive := fun _ => Bool) (Bool.rec (motive := fun _ => Bool) false (k (.int .i64 (.ofNat 0)) s) (Nat.beq m 0)) (Bool.rec (motive := fun _ => Bool) false (putAt n b (Nat.div off n) l s fun s => k (.int .i64 (.ofNat m)) s) (Nat.beq (Nat.mod off n) 0)) (blt 0 m)) (Nat.ble m dLen) = true := h1
      obtain ⟨q1, q2⟩ := bguard h1'
      cases hlt : blt 0 m with
      | true =>
        rw [hlt] at q2
        refine inplace b off dLen (Nat.le_of_ble_eq_true q1) (fun ρ X hX => ?_) q2
        obtain ⟨p, p1, _, _, p2⟩ := conc_slr.1 hX
        exact ⟨p, _, p1, p2⟩
      | false =>
        rw [hlt] at q2
        obtain ⟨q3, q4⟩ := bguard q2
        have q3 := Nat.eq_of_beq_eq_true q3
        refine ⟨_, s, HMono.refl _, rfl, q4, EffOK.mk_value fun ρ a w hop sr fr => ?_⟩
        have e1 := hop dv (call_op2 ho hargs (.inl rfl)) d0 hd0
        have e2 := hop xv (call_op2 ho hargs (.inr rfl)) x0 hx0
        obtain ⟨b1, b2, xs, b3, b4⟩ := h3 ρ w _ sr e2
        rw [hv] at e1
        obtain ⟨p, p1, _, _, p2⟩ := conc_slr.1 e1
        exact ⟨ρ, w, goInt 0, model ρ a w xs hop sr b4 b3 b1 _ _ _ p2 0 (by rw [q3]; simp) (.inr rfl) w (by simp [storeCells]), Ext.refl _ _ _, sr, conc_goInt 0⟩
theorem clear_ok {o : Oper} {c i cl e s k} (ho : o.op = .call c) (hb : c.callee = .builtin .clear) (hc : comp o.op P = some i) (ht : iX i cl gl e s k = true) :
    ∃ s', HMono (hp s) (hp s') ∧ dfs s' = dfs s ∧ k undef s' = true ∧ EffOK P gl N o e (hp s) (hp s') undef := by
  rw [ho] at hc
  simp only [comp, bind, Option.bind_eq_some_iff, hb] at hc
  obtain ⟨l, hl, hc⟩ := hc
  rcases hts : c.argTypes.toList with _ | ⟨t, _ | ⟨_, _⟩⟩
  all_goals rcases l with _ | ⟨x0, _ | ⟨_, _⟩⟩
  all_goals simp only [compB, hts] at hc
  all_goals first | (cases hc; done) | skip
  obtain ⟨xv, hargs, hx0⟩ := cOpds_one hl
  cases hu : P.underlying t with
  | none => rw [hu] at hc; cases hc
  | some d =>
    rw [hu] at hc
    cases d <;> try (cases hc; done)
    rename_i el
    dsimp only at hc
    simp only [bind, Option.bind_eq_some_iff] at hc
    obtain ⟨n, hn, z, hz, hc⟩ := hc
    split at hc
    · rename_i hzn
      injection hc with hc; subst hc
      obtain ⟨_, _, _, hn0⟩ := szO_some hn
      obtain ⟨inf, zv, z1, z2, z3⟩ := zcells_some hz
      have hzs : zv.cells.size = n := by have := (concL_get (z3 fun _ => none)).1; simp at this; omega
      have hA : c.argTypes[0]? = some t := by rw [← Array.getElem?_toList, hts]; rfl
      dsimp only [iX] at ht
      have inplace : ∀ (b : B) (off len : Nat), (∀ ρ X, conc ρ (opd x0 e) = some X → ∃ p cap, ρ b = some p ∧ X = .slice (some ⟨p.blk, p.sh + off, none⟩) len cap) →
          (Bool.rec (motive := fun _ => Bool) false (rep len z fun l => putAt n b (Nat.div off n) l s fun s => k undef s) (Nat.beq (Nat.mod off n) 0)) = true →
          ∃ s', HMono (hp s) (hp s') ∧ dfs s' = dfs s ∧ k undef s' = true ∧ EffOK P gl N o e (hp s) (hp s') undef := fun b off len hcd hh => by
        obtain ⟨q1, q2⟩ := bguard hh
        have q1 : off % n = 0 := Nat.eq_of_beq_eq_true q1
        rw [rep_eq] at q2
        obtain ⟨el', c0, c', s', g1, g2, g3, _, g4, g5⟩ := putAt_true q2
        refine ⟨s', g2 ▸ HMono.up (by simp), g3, g4, EffOK.mk_value fun ρ a w hop sr fr => ?_⟩
        have e1 := hop xv (call_op1 ho hargs) x0 hx0
        obtain ⟨p, cap, p1, p2⟩ := hcd ρ _ e1
        have hrep := concL_replicate (ρ := ρ) (n := len) (z3 ρ) hzn (by omega)
        obtain ⟨w1, w2, w3⟩ := putAt_ok (P := P) g1 g2 g5 sr p1 (fun r hr => by rw [List.eq_of_mem_replicate hr]; exact hzn) (fun r hr => by rw [List.eq_of_mem_replicate hr]; exact zcells_cell hz) hrep
        have hoff : Nat.div off n * n = off := by have h5 := Nat.div_add_mod off n; show off / n * n = off; rw [Nat.mul_comm (off / n)]; omega
        rw [hoff] at w1 w2 w3
        refine ⟨ρ, _, .tuple #[], ?_, w2, w1, conc_tup.2 ⟨[], rfl, rfl⟩⟩
        obtain ⟨cs, hex⟩ := exec_b1 (a := a) ho hb hargs
        rw [hex]
        have g0 : (#[a.eval xv] : Array Value)[0]? = some (.slice (some ⟨p.blk, p.sh + off, none⟩) len cap) := by rw [← p2]; rfl
        simp only [builtin, Builtin.clear_, hA, g0]
        cases len with
        | zero =>
          have h0 : ((Array.range (0 * n)).map (zv.cells[· % zv.cells.size]!)).toList = [] := by simp
          simp only [h0, World.setCells]
          simp [run_under hu, Result.andThen, p2]
        | succ len =>
          have hzc : (Builtin.zeroCells zv.cells (len + 1)) = (Array.range ((len + 1) * n)).map (zv.cells[· % zv.cells.size]!) := by simp only [Builtin.zeroCells, hzs]
          simp only [Sem.run_bind, run_under hu, Result.andThen_ok, run_zero z1 z2, hzc, w3, Sem.run_pure]
      generalize hv : opd x0 e = v at ht inplace
      cases v <;> first | (cases ht; done) | skip
      · refine ⟨s, HMono.refl _, rfl, ht, EffOK.mk_value fun ρ a w hop sr fr => ?_⟩
        have e1 := hop xv (call_op1 ho hargs) x0 hx0
        rw [hv, conc_nils] at e1
        refine ⟨ρ, w, .tuple #[], ?_, Ext.refl _ _ _, sr, conc_tup.2 ⟨[], rfl, rfl⟩⟩
        obtain ⟨cs, hex⟩ := exec_b1 (a := a) ho hb hargs
        rw [hex]
        simp [builtin, Builtin.clear_, hA, e1, run_under hu, Result.andThen]
      · rename_i b off len cap
        exact inplace b off len (fun ρ X hX => by obtain ⟨p, p1, _, p2⟩ := conc_sl.1 hX; exact ⟨p, _, p1, p2⟩) ht
      · rename_i b off cc len
        exact inplace b off len (fun ρ X hX => by obtain ⟨p, p1, _, _, p2⟩ := conc_slr.1 hX; exact ⟨p, _, p1, p2⟩) ht
    · cases hc
theorem sliceData_ok {o : Oper} {c i cl e s k} (ho : o.op = .call c) (hb : c.callee = .builtin .unsafeSliceData) (hc : comp o.op P = some i) (ht : iX i cl gl e s k = true) :
    ∃ v s', HMono (hp s) (hp s') ∧ dfs s' = dfs s ∧ k v s' = true ∧ EffOK P gl N o e (hp s) (hp s') v := by
  rw [ho] at hc
  simp only [comp, bind, Option.bind_eq_some_iff, hb] at hc
  obtain ⟨l, hl, hc⟩ := hc
  rcases l with _ | ⟨x0, _ | ⟨_, _⟩⟩
  all_goals simp only [compB] at hc
  all_goals first | (cases hc; done) | skip
  injection hc with hc; subst hc
  obtain ⟨xv, hargs, hx0⟩ := cOpds_one hl
  dsimp only [iX] at ht
  have fin : ∀ (v : V), k v s = true → (∀ ρ X, conc ρ (opd x0 e) = some X → ∃ Z, conc ρ v = some Z ∧ ((X = .slice none 0 0 ∧ Z = .pointer none) ∨ ∃ a len c, X = .slice (some a) len c ∧ c ≠ 0 ∧ Z = .pointer (some a))) →
      ∃ v s', HMono (hp s) (hp s') ∧ dfs s' = dfs s ∧ k v s' = true ∧ EffOK P gl N o e (hp s) (hp s') v := fun v hk hh => by
    refine ⟨v, s, HMono.refl _, rfl, hk, EffOK.mk_value fun ρ a w hop sr fr => ?_⟩
    have e1 := hop xv (call_op1 ho hargs) x0 hx0
    obtain ⟨Z, h1, h2⟩ := hh ρ _ e1
    refine ⟨ρ, w, Z, ?_, Ext.refl _ _ _, sr, h1⟩
    obtain ⟨cs, hex⟩ := exec_b1 (a := a) ho hb hargs
    rw [hex]
    rcases h2 with ⟨q1, rfl⟩ | ⟨b, len, cc, q1, q2, rfl⟩
    · rw [q1]
      have : Builtin.unsafeSliceData_ c.argTypes o.type #[.slice none 0 0] = pure (.pointer none) := rfl
      simp only [builtin, this, Sem.run_bind, Sem.run_pure, Result.andThen_ok]
    · rw [q1]
      have : Builtin.unsafeSliceData_ c.argTypes o.type #[.slice (some b) len cc] = (if cc ≠ 0 then pure (.pointer (some b)) else do
        if (← viewAt b.block).isSome then pure (.pointer (some b)) else pure (.pointer (some ⟨← newObj (.view b (← elemOf o.type)), 0, none⟩))) := rfl
      simp only [builtin, this, if_pos q2, Sem.run_bind, Sem.run_pure, Result.andThen_ok]
  generalize hv : opd x0 e = v at ht fin
  cases v <;> first | (cases ht; done) | skip
  · exact fin .nilp ht fun ρ X hX => ⟨_, rfl, .inl ⟨conc_nils.1 hX, rfl⟩⟩
  · rename_i b off len cap
    obtain ⟨h1, h2⟩ := bguard (show Bool.rec (motive := fun _ => Bool) false (k (.ptr b off) s) (blt 0 cap) = true from ht)
    rw [blt_eq, decide_eq_true_eq] at h1
    exact fin _ h2 fun ρ X hX => by
      obtain ⟨p, p1, _, p2⟩ := conc_sl.1 hX
      exact ⟨_, conc_ptr.2 ⟨p, p1, rfl⟩, .inr ⟨_, _, _, p2, by omega, rfl⟩⟩
  · rename_i b off cc len
    obtain ⟨h1, h2⟩ := bguard (show Bool.rec (motive := fun _ => Bool) false (k (.ptr b off) s) (blt 0 len) = true from ht)
    rw [blt_eq, decide_eq_true_eq] at h1
    exact fin _ h2 fun ρ X hX => by
      obtain ⟨p, p1, _, p3, p2⟩ := conc_slr.1 hX
      exact ⟨_, conc_ptr.2 ⟨p, p1, rfl⟩, .inr ⟨_, _, _, p2, by omega, rfl⟩⟩
end Go.Exe

namespace Go.Exe
variable [Sig]
variable {P : Program} {gl : Nat → Nat → V} {N : Nat}
def bnum (l : List UInt8) : Nat := l.foldr (fun x r => x.toNat + 256 * r) 0
theorem bnum_spec (l : List UInt8) : bnum l < 256 ^ l.length ∧ bytesOf l.length (bnum l) = ⟨l.toArray⟩ := by
  obtain ⟨h1, h2⟩ := foldr_bytes l
  exact ⟨h1, by unfold bytesOf bnum; rw [h2]⟩
theorem b2sE_true : ∀ (l : LL) {k : Nat → Nat → Bool}, b2sE l k = true → ∃ bs : List UInt8, l.length = bs.length ∧ k bs.length (bnum bs) = true ∧ (Rows 1 l → l = bs.map fun b => [V.int .u8 (b.toNat : Int)]) := by
  intro l
  induction l with
  | nil => intro k h; exact ⟨[], rfl, h, fun _ => rfl⟩
  | cons a t ih =>
    intro k h
    obtain ⟨x, r, rfl, h1⟩ := hd_true (show hd a (fun x => _) = true from h)
    cases x <;> first | (cases h1; done) | skip
    rename_i kd z
    obtain ⟨h2, h3⟩ := bguard (show Bool.rec (motive := fun _ => Bool) false (natK z fun b => Bool.rec (motive := fun _ => Bool) false (b2sE t fun n v => forceN (Nat.add b (Nat.mul 256 v)) fun v => k (Nat.succ n) v) (Nat.ble b 255)) (keq kd .u8) = true from h1)
    have h2 := (keq_iff _ _).1 h2
    subst h2
    obtain ⟨b, rfl, h4⟩ := natK_true h3
    obtain ⟨h5, h6⟩ := bguard h4
    have h5 := Nat.le_of_ble_eq_true h5
    obtain ⟨bs, h7, h8, h9⟩ := ih h6
    rw [forceN_eq] at h8
    have hb : (UInt8.ofNat b).toNat = b := by simp; omega
    refine ⟨UInt8.ofNat b :: bs, by simp [h7], ?_, fun hr => ?_⟩
    · have : bnum (UInt8.ofNat b :: bs) = b + 256 * bnum bs := by simp only [bnum, List.foldr_cons, hb]
      rw [this]; exact h8
    · have h10 := h9 hr.tail
      have h11 := hr.head
      have : r = [] := by cases r with
        | nil => rfl
        | cons _ _ => simp at h11
      subst this
      simp only [List.map_cons, hb]
      rw [← h10]
/-- bytes, as they lie in a block -/
theorem bytes_cells {ρ : Rho} {bs : List UInt8} {xs : List Value} (hx : concL ρ ((bs.map fun b => [V.int .u8 (b.toNat : Int)]) : LL).flatten = some xs) : xs = bs.map fun b => Value.int .u8 (b.toNat : Int) := by
  have hfl : ((bs.map fun b => [V.int .u8 (b.toNat : Int)]) : LL).flatten = bs.map fun b => V.int .u8 (b.toNat : Int) := by
    clear hx
    induction bs with
    | nil => rfl
    | cons a t ih => simp only [List.map_cons, List.flatten_cons, ih]; rfl
  rw [hfl, concL_bytes] at hx
  injection hx with hx; exact hx.symm
theorem b2s_ok {o : Oper} {t d x el i cl e s k} (ho : o.op = .convert t d x) (h1 : P.underlying t = some (.slice el)) (h2 : P.underlying d = some .string) (hc : comp o.op P = some i) (ht : iX i cl gl e s k = true) :
    ∃ v, k v s = true ∧ PureOK P gl N o e (hp s) v := by
  rw [ho] at hc
  simp only [comp, Option.bind_eq_some_iff, h1, h2] at hc
  obtain ⟨y, hy, hc⟩ := hc
  split at hc
  · rename_i hu8
    injection hc with hc; subst hc
    have he : P.underlying el = some (.int .u8) := by
      unfold isU8 tyd at hu8
      cases hq : P.underlying el with
      | none => rw [hq] at hu8; cases hu8
      | some dd =>
        rw [hq] at hu8
        cases dd <;> try (cases hu8; done)
        rename_i kk
        cases kk <;> first | rfl | cases hu8
    dsimp only [iX] at ht
    have fin : ∀ (b : B) (off n : Nat), (∀ ρ X, conc ρ (opd y e) = some X → ∃ p cap, ρ b = some p ∧ X = .slice (some ⟨p.blk, p.sh + off, none⟩) n cap) → blockE 1 b off n s (fun l => b2sE l fun n v => k (.str n v) s) = true →
        ∃ v, k v s = true ∧ PureOK P gl N o e (hp s) v := fun b off n hcd hh => by
      obtain ⟨l, g1, g2, g3⟩ := blockE_ok (gl := gl) (N := N) (by omega) hh
      obtain ⟨bs, g4, g5, g6⟩ := b2sE_true l g1
      refine ⟨_, g5, fun ρ a w hop sr => ?_⟩
      have e1 := hop x (by simp [ho, Op.operands]) y hy
      obtain ⟨p, cap, p1, p2⟩ := hcd ρ _ e1
      obtain ⟨b1, b2, xs, b3, b4⟩ := g3 ρ w p sr p1
      rw [g6 b1] at b3
      have hxs := bytes_cells b3
      obtain ⟨n1, n2⟩ := bnum_spec bs
      refine ⟨_, conc_str.2 ⟨n1, rfl⟩, ?_⟩
      have hlen : n = bs.length := by rw [← g2, g4]
      have hrun := run_convert_bytes_back (P := P) w t d el ⟨p.blk, p.sh + off, none⟩ cap bs h1 he h2 (fun j hj => by
        rw [add_place]
        exact b4 j _ (by rw [hxs]; simp [hj]))
      simp only [execOp, ho, p2, hlen, Sem.run_bind, hrun, Result.andThen_ok, Sem.run_pure, n2]
    generalize hv : opd y e = v at ht fin
    cases v <;> first | (cases ht; done) | skip
    · refine ⟨_, ht, fun ρ a w hop sr => ?_⟩
      have e1 := hop x (by simp [ho, Op.operands]) y hy
      rw [hv, conc_nils] at e1
      refine ⟨_, conc_str.2 ⟨by simp, rfl⟩, ?_⟩
      have hrun : (convert t d (.slice none 0 0)).run P w = .ok (.string (bytesOf 0 0)) w := by
        rw [run_convert_bytes_string w t d el none 0 0 h1 he h2]
        simp [Conv.bytesToString]
        rfl
      simp only [execOp, ho, e1, Sem.run_bind, hrun, Result.andThen_ok, Sem.run_pure]
    · rename_i b off n cap
      exact fin b off n (fun ρ X hX => by obtain ⟨p, p1, _, p2⟩ := conc_sl.1 hX; exact ⟨p, _, p1, p2⟩) ht
    · rename_i b off cc n
      exact fin b off n (fun ρ X hX => by obtain ⟨p, p1, _, _, p2⟩ := conc_slr.1 hX; exact ⟨p, _, p1, p2⟩) ht
  · cases hc
theorem unsafeString_ok {o : Oper} {c i cl e s k} (ho : o.op = .call c) (hb : c.callee = .builtin .unsafeString) (hc : comp o.op P = some i) (ht : iX i cl gl e s k = true) :
    ∃ v s', HMono (hp s) (hp s') ∧ dfs s' = dfs s ∧ k v s' = true ∧ EffOK P gl N o e (hp s) (hp s') v := by
  rw [ho] at hc
  simp only [comp, bind, Option.bind_eq_some_iff, hb] at hc
  obtain ⟨l, hl, hc⟩ := hc
  rcases hts : c.argTypes.toList with _ | ⟨t, _ | ⟨it, _ | ⟨_, _⟩⟩⟩
  all_goals rcases l with _ | ⟨p0, _ | ⟨n0, _ | ⟨_, _⟩⟩⟩
  all_goals simp only [compB, hts] at hc
  all_goals first | (cases hc; done) | skip
  obtain ⟨pv, nv, hargs, hp0, hn0⟩ := cOpds_two hl
  have hats : c.argTypes = #[t, it] := array_two hts
  cases hu : P.underlying t with
  | none => rw [hu] at hc; cases hc
  | some d =>
    rw [hu] at hc
    cases d <;> try (cases hc; done)
    rename_i u
    dsimp only at hc
    split at hc
    · rename_i hsz
      injection hc with hc; subst hc
      dsimp only [iX] at ht
      generalize hnv : opd n0 e = vn at ht
      cases vn <;> first | (cases ht; done) | skip
      rename_i kd z
      obtain ⟨h1, h2⟩ := bguard (show Bool.rec (motive := fun _ => Bool) false (natK z fun n => _) (keq kd .i64) = true from ht)
      have h1 := (keq_iff _ _).1 h1
      subst h1
      obtain ⟨n, rfl, h3⟩ := natK_true h2
      have ex : ∀ (a : Act), ∃ cs, execOp a.eval o = builtin .unsafeString #[t, it] o.type cs #[a.eval pv, a.eval nv] := fun a => by
        obtain ⟨cs, hex⟩ := exec_b2 (a := a) ho hb hargs
        exact ⟨cs, by rw [hex, hats]⟩
      have empty : n = 0 → (∀ ρ X, conc ρ (opd p0 e) = some X → ∃ q, X = .pointer q) → k (.str 0 0) s = true → ∃ v s', HMono (hp s) (hp s') ∧ dfs s' = dfs s ∧ k v s' = true ∧ EffOK P gl N o e (hp s) (hp s') v := fun hn hcd hk => by
        subst hn
        refine ⟨_, s, HMono.refl _, rfl, hk, EffOK.mk_value fun ρ a w hop sr fr => ?_⟩
        have e1 := hop pv (call_op2 ho hargs (.inl rfl)) p0 hp0
        have e2 := hop nv (call_op2 ho hargs (.inr rfl)) n0 hn0
        rw [hnv, conc_int] at e2
        obtain ⟨q, hq⟩ := hcd ρ _ e1
        obtain ⟨cs, hex⟩ := ex a
        refine ⟨ρ, w, .string (bytesOf 0 0), ?_, Ext.refl _ _ _, sr, conc_str.2 ⟨by simp, rfl⟩⟩
        have := Lib.run_unsafeString_none (P := P) (w := w) t it o.type q
        simp only [hex, builtin, hq, e2, Sem.run_bind]
        have h0 : ((0 : Nat) : Int) = 0 := rfl
        rw [h0, this]
        rfl
      generalize hpv : opd p0 e = vp at h3 empty
      cases vp <;> first | (cases h3; done) | skip
      · obtain ⟨h4, h5⟩ := bguard (show Bool.rec (motive := fun _ => Bool) false (k (.str 0 0) s) (Nat.beq n 0) = true from h3)
        exact empty (Nat.eq_of_beq_eq_true h4) (fun ρ X hX => ⟨none, by simp only [conc, Option.some.injEq] at hX; exact hX.symm⟩) h5
      · rename_i b off
        have h3' : Bool.rec (motive := fun _ => Bool) (slotIs b s fun el _ _ => Bool.rec (motive := fun _ => Bool) false (Bool.rec (motive := fun _ => Bool) false (Bool.rec (motive := fun _ => Bool) false (blockE 1 b 0 n s fun l => b2sE l fun m v => setSlot b .dead s fun s => k (.str m v) s) (Nat.ble n 1000000)) (Nat.beq off 0)) (Nat.beq el u)) (k (.str 0 0) s) (Nat.beq n 0) = true := h3
        cases hz : Nat.beq n 0 with
        | true =>
          rw [hz] at h3'
          exact empty (Nat.eq_of_beq_eq_true hz) (fun ρ X hX => by obtain ⟨p, _, h⟩ := conc_ptr.1 hX; exact ⟨_, h⟩) h3'
        | false =>
          rw [hz] at h3'
          have hn : n ≠ 0 := Nat.ne_of_beq_eq_false hz
          obtain ⟨el', sz, cc, g1, g2⟩ := slotIs_true h3'
          obtain ⟨g3, g4⟩ := bguard g2
          obtain ⟨g5, g6⟩ := bguard g4
          obtain ⟨g7, g8⟩ := bguard g6
          have g3 := Nat.eq_of_beq_eq_true g3
          have g5 := Nat.eq_of_beq_eq_true g5
          have g7 := Nat.le_of_ble_eq_true g7
          subst g3 g5
          obtain ⟨l, q1, q2, q3⟩ := blockE_ok (gl := gl) (N := N) (by omega) g8
          obtain ⟨bs, q4, q5, q6⟩ := b2sE_true l q1
          obtain ⟨s', r1, r2, _, r3⟩ := setSlot_true q5
          refine ⟨_, s', r1 ▸ HMono.up (by simp), r2, r3, EffOK.mk_value fun ρ a w hop sr fr => ?_⟩
          have e1 := hop pv (call_op2 ho hargs (.inl rfl)) p0 hp0
          have e2 := hop nv (call_op2 ho hargs (.inr rfl)) n0 hn0
          rw [hnv, conc_int] at e2
          rw [hpv] at e1
          obtain ⟨p, p1, p2⟩ := conc_ptr.1 e1
          obtain ⟨b1, b2, xs, b3, b4⟩ := q3 ρ w p sr p1
          rw [q6 b1] at b3
          have hxs := bytes_cells b3
          obtain ⟨n1, n2⟩ := bnum_spec bs
          have hlen : n = bs.length := by rw [← q2, q4]
          have hr := sr.cells g1 p1
          obtain ⟨arr, frz, s1, s2, s3, s4⟩ := hr.shape
          obtain ⟨inf, i1, i2, _⟩ := szO_some hsz
          have hco : P.cellsOf el' = 1 := by simp [Program.cellsOf, i1, i2]
          have harr : bs.length ≤ arr.size := by
            have hlast := b4 (bs.length - 1) (.int .u8 ((bs[bs.length - 1]'(by omega)).toNat : Int)) (by
              rw [hxs]; simp [show bs.length - 1 < bs.length by omega])
            simp only [World.cell?, s1] at hlast
            have : p.sh + 0 + (bs.length - 1) < arr.size := by
              simp only [Option.isSome_none, Bool.false_eq_true, if_false] at hlast
              exact (Array.getElem?_eq_some_iff.1 hlast).1
            omega
          have hrun := Lib.run_unsafeString_row (P := P) (w := w) t it o.type el' hu hco p.blk arr.size s2 bs (by intro q; rw [q] at hlen; exact hn hlen) harr (by omega) (fun j x hj => by
            rw [add_place]
            have := b4 j (.int .u8 (x.toNat : Int)) (by rw [hxs]; simp [hj])
            rwa [s3] at this)
          obtain ⟨cs, hex⟩ := ex a
          have hfr : (∀ m, m ≠ p.blk → (w.freeze ⟨p.blk, 0, none⟩ bs.length).heap[m]? = w.heap[m]?) ∧ (w.freeze ⟨p.blk, 0, none⟩ bs.length).heap.size = w.heap.size ∧ (w.freeze ⟨p.blk, 0, none⟩ bs.length).tape = w.tape ∧ (w.freeze ⟨p.blk, 0, none⟩ bs.length).os = w.os ∧ (w.freeze ⟨p.blk, 0, none⟩ bs.length).output = w.output := by
            unfold World.freeze
            split
            · exact ⟨fun _ _ => rfl, rfl, rfl, rfl, rfl⟩
            · exact ⟨fun m hm => by simp [Array.getElem?_modify, Ne.symm hm], by simp, rfl, rfl, rfl⟩
          obtain ⟨f1, f2, f3, f4, f5⟩ := hfr
          have hlive : (hat (hp s) b).live := by rw [g1]; trivial
          refine ⟨ρ, w.freeze ⟨p.blk, 0, none⟩ bs.length, _, ?_, ?_, ?_, conc_str.2 ⟨n1, rfl⟩⟩
          · rw [n2]
            simp only [hex, builtin, p2, e2, Sem.run_bind, s3]
            rw [hlen, hrun]
            rfl
          · rw [r1]; exact Ext.change hlive (by simp) p1 f2 f1 f3 f4 f5
          · rw [r1]
            exact {
              obj := fun x q hx hq => by
                obtain ⟨o1, o2, o3⟩ := (sr.kill b).obj x q hx hq
                refine ⟨o1, by rw [f2]; exact o2, ?_⟩
                rw [f1 _ (fun q2 => ?_)]
                · exact o3
                · rw [hat_hup] at hx
                  split at hx
                  · exact hx
                  · rename_i hne; exact hne (sr.inj x b q p hx hlive hq p1 q2)
              inj := (sr.kill b).inj
              base := by rw [f2]; exact sr.base
              glob := fun g o k z hg => by
                obtain ⟨o1, o2⟩ := sr.glob g o k z hg
                have := (sr.at hlive p1).1
                exact ⟨o1, by rw [cell?_eq (w := w) (f1 g (by omega))]; exact o2⟩ }
    · cases hc
end Go.Exe

namespace Go.Exe
variable [Sig]
variable {P : Program} {gl : Nat → Nat → V} {N : Nat}
/-- how a call ends -/
def RetOK (gl : Nat → Nat → V) (N : Nat) (ρ : Rho) (h : Heap) (w : World) (h' : Heap) (v : V) : Ending → World → Prop
  | .returned x, w' => ∃ ρ', Ext ρ h w ρ' h' w' ∧ SR gl N ρ' h' w' ∧ conc ρ' v = some x
  | _, _ => False
/-- a function that has code -/
def FnOK (P : Program) (gl : Nat → Nat → V) (N : Nat) (f : Nat) (a : List V) (h h' : Heap) (v : V) : Prop :=
  ∀ ρ w (args : Array Value), concL ρ a = some args.toList → SR gl N ρ h w → Fresh ρ h h' →
    (callFunc f args).run P w = .ok (.enter f args) w ∧ Calls P f args w (RetOK gl N ρ h w h' v) ∧ ∀ u, CallsD P f args u w fun e u' w' => u' = u ∧ RetOK gl N ρ h w h' v e w'
/-- a function that has code, or an entry of the model -/
def CallOK (P : Program) (gl : Nat → Nat → V) (N : Nat) (f : Nat) (a : List V) (h h' : Heap) (v : V) : Prop :=
  ∀ ρ w (args : Array Value), concL ρ a = some args.toList → SR gl N ρ h w → Fresh ρ h h' →
    (∃ ρ' w' x, (callFunc f args).run P w = .ok (.value x) w' ∧ Ext ρ h w ρ' h' w' ∧ SR gl N ρ' h' w' ∧ conc ρ' v = some x) ∨
    ((callFunc f args).run P w = .ok (.enter f args) w ∧ Calls P f args w (RetOK gl N ρ h w h' v))
theorem FnOK.call {f a h h' v} (x : FnOK P gl N f a h h' v) : CallOK P gl N f a h h' v := fun ρ w args h1 h2 h3 => .inr ⟨(x ρ w args h1 h2 h3).1, (x ρ w args h1 h2 h3).2.1⟩
/-- what runs calls is sound -/
def CLOK (cl : CL) (R : Nat → List V → Heap → Heap → V → Prop) : Prop :=
  ∀ f a (s : S) k, cl f a s k = true → ∃ v s', HMono (hp s) (hp s') ∧ dfs s' = dfs s ∧ k v s' = true ∧ R f a (hp s) (hp s') v
theorem CallOK.eff {o : Oper} {e : E} {f : Nat} {a : List V} {h h' : Heap} {v : V} (hc : CallOK P gl N f a h h' v)
    (hex : ∀ ρ (act : Act) (w : World), Opnds ρ e o.op act → ∃ args : Array Value, concL ρ a = some args.toList ∧ (execOp act.eval o).run P w = (callFunc f args).run P w) : EffOK P gl N o e h h' v := fun ρ act w hop sr fr K Q hK => by
  obtain ⟨args, h1, h2⟩ := hex ρ act w hop
  unfold Oper.wp
  rw [h2]
  rcases hc ρ w args h1 sr fr with ⟨ρ', w', x, q1, q2, q3, q4⟩ | ⟨q1, q2⟩
  · rw [q1]; exact hK ρ' x w' q2 q3 q4
  · rw [q1, Oper.upon_enter]
    refine q2.mono fun en w'' he => ?_
    cases en with
    | returned x => obtain ⟨ρ', r1, r2, r3⟩ := he; exact hK ρ' x w'' r1 r2 r3
    | panicked _ => exact he.elim
    | outgrown => exact he.elim
theorem call_ok {o : Oper} {c f i cl e s k} (hcl : CLOK cl (CallOK P gl N)) (ho : o.op = .call c) (hb : c.callee = .value (.func f)) (hc : comp o.op P = some i) (ht : iX i cl gl e s k = true) :
    ∃ v s', HMono (hp s) (hp s') ∧ dfs s' = dfs s ∧ k v s' = true ∧ EffOK P gl N o e (hp s) (hp s') v := by
  rw [ho] at hc
  simp only [comp, bind, Option.bind_eq_some_iff, hb, pure, Option.some.injEq] at hc
  obtain ⟨l, hl, rfl⟩ := hc
  have ht' : opds l e (fun a => cl f a s k) = true := ht
  rw [opds_eq] at ht'
  obtain ⟨v, s', h1, h2, h3, h4⟩ := hcl _ _ _ _ ht'
  refine ⟨v, s', h1, h2, h3, h4.eff fun ρ act w hop => ⟨c.args.map act.eval, opds_conc hl fun z hz q hq => hop z (by rw [ho]; simp [Op.operands, Call.operands, hz]) q hq, ?_⟩⟩
  simp [execOp, ho, resolve, hb, Act.eval, Deferred.ofValue, invoke]
theorem callV_ok {o : Oper} {c fv i cl e s k} (hcl : CLOK cl (CallOK P gl N)) (ho : o.op = .call c) (hb : c.callee = .value fv) (hnf : ∀ f, fv ≠ .func f) (hc : comp o.op P = some i) (ht : iX i cl gl e s k = true) :
    ∃ v s', HMono (hp s) (hp s') ∧ dfs s' = dfs s ∧ k v s' = true ∧ EffOK P gl N o e (hp s) (hp s') v := by
  rw [ho] at hc
  have hc : (do let l ← cOpds c.args; pure (I.callV (← cOpd fv) l) : Option I) = some i := by
    simp only [comp, hb] at hc
    cases fv <;> first | exact hc | exact absurd rfl (hnf _)
  simp only [bind, Option.bind_eq_some_iff, pure, Option.some.injEq] at hc
  obtain ⟨l, hl, y, hy, rfl⟩ := hc
  dsimp only [iX] at ht
  generalize hv : opd y e = v at ht
  cases v <;> first | (cases ht; done) | skip
  rename_i f p cp
  have ht' : opds l e (fun a => cl f (p ++ (a ++ cp)) s k) = true := ht
  rw [opds_eq] at ht'
  obtain ⟨v, s', h1, h2, h3, h4⟩ := hcl _ _ _ _ ht'
  refine ⟨v, s', h1, h2, h3, h4.eff fun ρ act w hop => ?_⟩
  have e1 := hop fv (by rw [ho]; simp [Op.operands, Call.operands, hb]) y hy
  rw [hv] at e1
  obtain ⟨pa, ca, q1, q2, q3⟩ := conc_fn e1
  have e2 := opds_conc (ρ := ρ) (e := e) (a := act) hl fun z hz q hq => hop z (by rw [ho]; simp [Op.operands, Call.operands, hz]) q hq
  refine ⟨pa.toArray ++ c.args.map act.eval ++ ca.toArray, ?_, ?_⟩
  · have := concL_append q1 (concL_append e2 q2)
    simpa using this
  · simp [execOp, ho, resolve, hb, q3, Deferred.ofValue, invoke]
end Go.Exe

namespace Go.Exe
variable [Sig]
variable {P : Program} {gl : Nat → Nat → V} {N : Nat}
/-- deferred calls -/
def DfR (ρ : Rho) : List Df → List Deferred → Prop
  | [], [] => True
  | .mk f l :: r, d :: ds => (∃ cap, d.target = .fn (.func f) cap ∧ concL ρ l = some (d.args ++ cap).toList) ∧ DfR ρ r ds
  | _, _ => False
theorem DfR_le {ρ ρ' : Rho} (hle : ρ.le ρ') : ∀ {l : List Df} {d : List Deferred}, DfR ρ l d → DfR ρ' l d := by
  intro l
  induction l with
  | nil => intro d h; cases d <;> exact h
  | cons a t ih =>
    intro d h
    obtain ⟨f, l⟩ := a
    cases d with
    | nil => exact h
    | cons x r => exact ⟨let ⟨cap, h1, h2⟩ := h.1; ⟨cap, h1, concL_le hle _ _ h2⟩, ih h.2⟩
/-- An operation that defers a call. -/
def DeferOK (P : Program) (o : Oper) (e : E) (s s' : S) : Prop :=
  hp s' = hp s ∧ ∃ d0, dfs s' = d0 :: dfs s ∧ ∀ ρ (a : Act) w, Opnds ρ e o.op a → ∃ d, (execOp a.eval o).run P w = .ok (.defer d) w ∧ ∀ ds, DfR ρ (dfs s) ds → DfR ρ (d0 :: dfs s) (d :: ds)
theorem defer_ok {o : Oper} {c i cl e s k} (ho : o.op = .defer c) (hc : comp o.op P = some i) (ht : iX i cl gl e s k = true) : ∃ s', k undef s' = true ∧ DeferOK P o e s s' := by
  rw [ho] at hc
  obtain ⟨hh, nx, ds⟩ := s
  cases hb : c.callee with
  | builtin b => simp only [comp, bind, hb, Option.bind_eq_some_iff] at hc; obtain ⟨_, _, hc⟩ := hc; cases hc
  | invoke r m => simp only [comp, bind, hb, Option.bind_eq_some_iff] at hc; obtain ⟨_, _, hc⟩ := hc; cases hc
  | value fv =>
    have hmem : ∀ z ∈ c.args, z ∈ o.op.operands := fun z hz => by rw [ho]; simp [Op.operands, Call.operands, hz]
    by_cases hf : ∃ f, fv = .func f
    · obtain ⟨f, rfl⟩ := hf
      simp only [comp, bind, Option.bind_eq_some_iff, hb, pure, Option.some.injEq] at hc
      obtain ⟨l, hl, rfl⟩ := hc
      have ht' : opds l e (fun a => k undef (.mk hh nx (.mk f a :: ds))) = true := ht
      rw [opds_eq] at ht'
      refine ⟨_, ht', rfl, .mk f (l.map fun o => opd o e), rfl, fun ρ a w hop => ⟨{ target := .fn (.func f) #[], args := c.args.map a.eval }, ?_, fun ds hd => ⟨⟨#[], rfl, ?_⟩, hd⟩⟩⟩
      · simp [execOp, ho, resolve, hb, Act.eval, Deferred.ofValue]
      · have := opds_conc (ρ := ρ) (e := e) (a := a) hl fun z hz q hq => hop z (hmem z hz) q hq
        simpa using this
    · have hc : (do let l ← cOpds c.args; pure (I.deferV (← cOpd fv) l) : Option I) = some i := by
        simp only [comp, hb] at hc
        cases fv <;> first | exact hc | exact absurd ⟨_, rfl⟩ hf
      simp only [bind, Option.bind_eq_some_iff, pure, Option.some.injEq] at hc
      obtain ⟨l, hl, y, hy, rfl⟩ := hc
      dsimp only [iX] at ht
      generalize hv : opd y e = v at ht
      cases v <;> first | (cases ht; done) | skip
      rename_i f p cp
      have ht' : opds l e (fun a => k undef (.mk hh nx (.mk f (p ++ (a ++ cp)) :: ds))) = true := ht
      rw [opds_eq] at ht'
      refine ⟨_, ht', rfl, .mk f _, rfl, fun ρ a w hop => ?_⟩
      have e1 := hop fv (by rw [ho]; simp [Op.operands, Call.operands, hb]) y hy
      rw [hv] at e1
      obtain ⟨pa, ca, q1, q2, q3⟩ := conc_fn e1
      have e2 := opds_conc (ρ := ρ) (e := e) (a := a) hl fun z hz q hq => hop z (hmem z hz) q hq
      refine ⟨{ target := .fn (.func f) ca.toArray, args := pa.toArray ++ c.args.map a.eval }, ?_, fun ds hd => ⟨⟨ca.toArray, rfl, ?_⟩, hd⟩⟩
      · simp [execOp, ho, resolve, hb, q3, Deferred.ofValue]
      · have := concL_append q1 (concL_append e2 q2)
        simpa using this
/-- What the run of one operation comes to. -/
def OpRes (P : Program) (gl : Nat → Nat → V) (N : Nat) (o : Oper) (e : E) (s : S) (k : V → S → Bool) : Prop :=
  (clsOf P o.op = 0 ∧ ∃ v, k v s = true ∧ PureAll P gl N o e v) ∨
  (clsOf P o.op = 1 ∧ ∃ v, k v s = true ∧ PureOK P gl N o e (hp s) v) ∨
  (clsOf P o.op = 2 ∧ ∃ sl v s', NewOK s sl s' ∧ k v s' = true ∧ AllocOK P o e (nxt s) sl v) ∨
  (clsOf P o.op = 3 ∧ (∃ v s', HMono (hp s) (hp s') ∧ dfs s' = dfs s ∧ k v s' = true ∧ EffOK P gl N o e (hp s) (hp s') v)) ∨
  ((∃ c, o.op = .defer c) ∧ ∃ s', k undef s' = true ∧ DeferOK P o e s s')
theorem op_cases {o : Oper} {i cl e s k} (hD : 2 ≤ P.depth) (hcl : CLOK cl (CallOK P gl N)) (hc : comp o.op P = some i) (ht : iX i cl gl e s k = true) : OpRes P gl N o e s k := by
  have c0 : clsOf P o.op = 0 → (∃ v, k v s = true ∧ PureAll P gl N o e v) → OpRes P gl N o e s k := fun h1 h2 => .inl ⟨h1, h2⟩
  have c1 : clsOf P o.op = 1 → (∃ v, k v s = true ∧ PureOK P gl N o e (hp s) v) → OpRes P gl N o e s k := fun h1 h2 => .inr (.inl ⟨h1, h2⟩)
  have c2 : clsOf P o.op = 2 → (∃ sl v s', NewOK s sl s' ∧ k v s' = true ∧ AllocOK P o e (nxt s) sl v) → OpRes P gl N o e s k := fun h1 h2 => .inr (.inr (.inl ⟨h1, h2⟩))
  have c3 : clsOf P o.op = 3 → (∃ v s', HMono (hp s) (hp s') ∧ dfs s' = dfs s ∧ k v s' = true ∧ EffOK P gl N o e (hp s) (hp s') v) → OpRes P gl N o e s k := fun h1 h2 => .inr (.inr (.inr (.inl ⟨h1, h2⟩)))
  have c3u : clsOf P o.op = 3 → (∃ s', HMono (hp s) (hp s') ∧ dfs s' = dfs s ∧ k undef s' = true ∧ EffOK P gl N o e (hp s) (hp s') undef) → OpRes P gl N o e s k := fun h1 ⟨s', h2⟩ => c3 h1 ⟨undef, s', h2⟩
  cases ho : o.op with
  | move x => exact c0 (by rw [ho]; rfl) (move_ok (.inl ho) hc ht)
  | assign x => exact c0 (by rw [ho]; rfl) (move_ok (.inr ho) hc ht)
  | pick c x y => exact c0 (by rw [ho]; rfl) (pick_ok ho hc ht)
  | alloc t => exact c2 (by rw [ho]; rfl) (alloc_ok ho hc ht)
  | box t x => exact c2 (by rw [ho]; rfl) (box_ok ho hc ht)
  | build t ps => exact c0 (by rw [ho]; rfl) (build_ok ho hc ht)
  | buildSlice t m ps => exact c2 (by rw [ho]; rfl) (buildSlice_ok ho hc ht)
  | load t x => exact c1 (by rw [ho]; rfl) (load_ok ho hc ht)
  | store t x y => exact c3u (by rw [ho]; rfl) (store_ok ho hc ht)
  | nilCheck x => exact c0 (by rw [ho]; rfl) (nilCheck_ok ho hc ht)
  | binOp op t x y u =>
    by_cases h : op = .eql ∨ op = .neq
    · exact c0 (by rw [ho]; rfl) (eq_ok ho h hc ht)
    · exact c0 (by rw [ho]; rfl) (bin_ok ho (fun q => h (.inl q)) (fun q => h (.inr q)) hc ht)
  | unOp op t x =>
    cases op
    case not => exact c0 (by rw [ho]; rfl) (not_ok ho hc ht)
    case neg => exact c0 (by rw [ho]; rfl) (neg_ok ho hc ht)
    all_goals (rw [ho] at hc; simp only [comp, Option.bind_eq_some_iff] at hc; obtain ⟨_, _, hc⟩ := hc; cases hc)
  | convert t d x =>
    cases h1 : P.underlying t with
    | none => rw [ho] at hc; simp only [comp, Option.bind_eq_some_iff, h1] at hc; obtain ⟨_, _, hc⟩ := hc; cases hc
    | some t' =>
      cases h2 : P.underlying d with
      | none => rw [ho] at hc; simp only [comp, Option.bind_eq_some_iff, h1, h2] at hc; obtain ⟨_, _, hc⟩ := hc; cases t' <;> cases hc
      | some d' =>
        have hc' := hc
        rw [ho] at hc'
        simp only [comp, Option.bind_eq_some_iff, h1, h2] at hc'
        obtain ⟨_, _, hc'⟩ := hc'
        cases t' <;> cases d' <;> first | (cases hc'; done) | skip
        · exact c0 (by rw [ho]; simp only [clsOf, tyd, h1, h2, Option.getD_some]) (convInt_ok ho h1 h2 hc ht)
        · exact c0 (by rw [ho]; simp only [clsOf, tyd, h1, h2, Option.getD_some]) (convStr_ok ho h1 h2 hc ht)
        · exact c2 (by rw [ho]; simp only [clsOf, tyd, h1, h2, Option.getD_some]) (s2b_ok ho h1 h2 hc ht)
        · exact c1 (by rw [ho]; simp only [clsOf, tyd, h1, h2, Option.getD_some]) (convP_ok hD ho h1 h2 hc ht)
        · exact c1 (by rw [ho]; simp only [clsOf, tyd, h1, h2, Option.getD_some]) (convU_ok ho h1 h2 hc ht)
        · exact c1 (by rw [ho]; simp only [clsOf, tyd, h1, h2, Option.getD_some]) (b2s_ok ho h1 h2 hc ht)
  | makeFunc f x y =>
    cases f
    case func f => exact c0 (by rw [ho]; rfl) (makeFunc_ok ho hc ht)
    all_goals (rw [ho] at hc; cases hc)
  | makeMap t r =>
    cases r with
    | none => exact c2 (by rw [ho]; rfl) (makeMap_ok ho hc ht)
    | some _ => rw [ho] at hc; cases hc
  | makeSlice t x y => exact c2 (by rw [ho]; rfl) (makeSlice_ok ho hc ht)
  | slice t x lo h mx =>
    have hc' := hc
    rw [ho] at hc'
    simp only [comp, bind, Option.bind_eq_some_iff] at hc'
    obtain ⟨_, _, _, _, _, _, _, _, hc'⟩ := hc'
    cases hu : P.underlying t with
    | none => rw [hu] at hc'; cases hc'
    | some d =>
      rw [hu] at hc'
      cases d <;> first | (cases hc'; done) | skip
      · exact c0 (by rw [ho]; simp only [clsOf, tyd, hu, Option.getD_some]) (sliceS_ok ho hu hc ht)
      · exact c1 (by rw [ho]; simp only [clsOf, tyd, hu, Option.getD_some]) (sliceL_ok ho hu hc ht)
      · exact c0 (by rw [ho]; simp only [clsOf, tyd, hu, Option.getD_some]) (sliceArr_ok ho hu hc ht)
  | fieldAddr t x f => exact c0 (by rw [ho]; rfl) (fieldAddr_ok ho hc ht)
  | field t x f => exact c0 (by rw [ho]; rfl) (field_ok ho hc ht)
  | indexAddr t x j =>
    have hc' := hc
    rw [ho] at hc'
    simp only [comp, bind, Option.bind_eq_some_iff] at hc'
    obtain ⟨_, _, _, _, hc'⟩ := hc'
    cases hu : P.underlying t with
    | none => rw [hu] at hc'; cases hc'
    | some d =>
      rw [hu] at hc'
      cases d <;> first | (cases hc'; done) | skip
      · exact c0 (by rw [ho]; rfl) (indexAddrS_ok ho hu hc ht)
      · exact c0 (by rw [ho]; rfl) (indexAddrA_ok ho hu hc ht)
  | index t x j =>
    have hc' := hc
    rw [ho] at hc'
    simp only [comp, bind, Option.bind_eq_some_iff] at hc'
    obtain ⟨_, _, _, _, hc'⟩ := hc'
    cases hu : P.underlying t with
    | none => rw [hu] at hc'; cases hc'
    | some d =>
      rw [hu] at hc'
      cases d <;> first | (cases hc'; done) | skip
      · exact c0 (by rw [ho]; rfl) (indexStr_ok ho hu hc ht)
      · exact c0 (by rw [ho]; rfl) (indexV_ok ho hu hc ht)
  | lookup t x j b => exact c1 (by rw [ho]; rfl) (lookup_ok ho hc ht)
  | mapUpdate t m x y => exact c3u (by rw [ho]; rfl) (mapUpdate_ok (.inl ho) hc ht)
  | insert t m x y => exact c3u (by rw [ho]; rfl) (mapUpdate_ok (.inr ho) hc ht)
  | extract x j => exact c0 (by rw [ho]; rfl) (extract_ok ho hc ht)
  | call c =>
    cases hb : c.callee with
    | value fv =>
      have hcls : clsOf P o.op = 3 := by rw [ho]; simp only [clsOf, hb]
      by_cases hf : ∃ f, fv = .func f
      · obtain ⟨f, rfl⟩ := hf
        exact c3 hcls (call_ok hcl ho hb hc ht)
      · exact c3 hcls (callV_ok hcl ho hb (fun f q => hf ⟨f, q⟩) hc ht)
    | invoke r m => rw [ho] at hc; simp only [comp, bind, hb, Option.bind_eq_some_iff] at hc; obtain ⟨_, _, hc⟩ := hc; cases hc
    | builtin b =>
      cases b
      case len =>
        obtain ⟨v, h1, h2, h3⟩ := len_ok (gl := gl) (N := N) ho hb hc ht
        cases hts : c.argTypes.toList with
        | nil =>
          rw [ho] at hc
          simp only [comp, bind, Option.bind_eq_some_iff, hb, compB, hts] at hc
          obtain ⟨_, _, hc⟩ := hc; cases hc
        | cons t ts =>
          by_cases hm : ∃ kt el, P.underlying t = some (.map kt el)
          · obtain ⟨kt, el, hm⟩ := hm
            exact c1 (by rw [ho]; simp [clsOf, hb, hts, tyd, hm]) ⟨v, h1, h2⟩
          · refine c0 (by rw [ho]; simp only [clsOf, hb, hts, tyd]; cases hq : P.underlying t with
              | none => rfl
              | some d => cases d <;> first | rfl | exact absurd ⟨_, _, hq⟩ hm) ⟨v, h1, h3 fun t' kt el q1 q2 => ?_⟩
            rw [hts] at q1; injection q1 with q1 _; subst q1
            exact hm ⟨kt, el, q2⟩
      case cap => exact c0 (by rw [ho]; simp only [clsOf, hb]) (cap_ok ho hb hc ht)
      case min => exact c0 (by rw [ho]; simp only [clsOf, hb]) (minmax_ok ho (.inl hb) hc ht)
      case max => exact c0 (by rw [ho]; simp only [clsOf, hb]) (minmax_ok ho (.inr hb) hc ht)
      case append => exact c3 (by rw [ho]; simp only [clsOf, hb]) (append_ok ho hb hc ht)
      case copy => exact c3 (by rw [ho]; simp only [clsOf, hb]) (copy_ok ho hb hc ht)
      case clear => exact c3u (by rw [ho]; simp only [clsOf, hb]) (clear_ok ho hb hc ht)
      case delete => exact c3u (by rw [ho]; simp only [clsOf, hb]) (mapDelete_ok ho hb hc ht)
      case unsafeSliceData => exact c3 (by rw [ho]; simp only [clsOf, hb]) (sliceData_ok ho hb hc ht)
      case unsafeString => exact c3 (by rw [ho]; simp only [clsOf, hb]) (unsafeString_ok ho hb hc ht)
      all_goals
        rw [ho] at hc
        simp only [comp, bind, Option.bind_eq_some_iff, hb] at hc
        obtain ⟨l, _, hc⟩ := hc
        simp only [compB] at hc
        cases hc
  | defer c => exact .inr (.inr (.inr (.inr ⟨⟨c, ho⟩, defer_ok ho hc ht⟩)))
  | _ => rw [ho] at hc; cases hc
end Go.Exe

