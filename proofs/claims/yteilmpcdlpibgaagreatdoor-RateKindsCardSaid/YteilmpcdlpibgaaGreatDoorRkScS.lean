import Derived.Test.YteilmpcdlpibgaaGreatDoorRkScR
set_option linter.unusedSimpArgs false
set_option linter.unusedSectionVars false
set_option linter.unusedVariables false
set_option maxRecDepth 100000
namespace Go.Proofs.Sc
open Go Go.Proofs Go.RowKit Go.Exe
/-- an operator at the text's end -/
theorem item_op1e {fi : Int} (x : UInt8) (tail : ByteArray) (ht : tail.size = 0) (hl : letB x.toNat = false) (hd : digB x.toNat = false) (hg : ¬ (x.toNat = 10 ∨ x.toNat = 32 ∨ x.toNat = 9 ∨ x.toNat = 13 ∨ x.toNat = 34))
    (hw : ∀ w, Calls Tryz.prog 370 #[.string ⟨#[x]⟩] w fun e w' => e = .returned (.bool true) ∧ w = w') : ItemOK fi ⟨⟨#[x]⟩, some (5, ⟨#[x]⟩)⟩ tail := by
  intro w0 w b c k xs h hs h0 h1 hk
  change At w0 w b (⟨#[x]⟩ ++ tail) fi 1 c k xs at h
  have e1 : (⟨#[x]⟩ : ByteArray).size = 1 := rfl
  have hsz : (⟨#[x]⟩ ++ tail : ByteArray).size = 1 := by rw [ByteArray.size_append, ht]; rfl
  have hp' : 0 < (⟨#[x]⟩ ++ tail : ByteArray).size := by omega
  have h00 : (⟨#[x]⟩ ++ tail : ByteArray)[0]'hp' = x := app_get ⟨#[x]⟩ tail 0 (by rw [e1]; decide) hp'
  obtain ⟨out, st⟩ := h.out
  have hop := op1_end h hsz h0 h1 hk (fun j hj => by obtain rfl : j = 0 := by omega
                                                     rw [getD_get _ _ hp', h00]; rintro rfl; exact hg (.inl rfl)) ⟨#[x]⟩ (app_take ⟨#[x]⟩ tail) hw
  have hng : NoGap (⟨#[x]⟩ ++ tail) hp' := nogap_of hp' (by rw [h00]; omega) (fun _ q => by omega)
  refine (step_token st hp' hng (token_op st hp' (by rw [h00]; exact hl) (by rw [h00]; exact hd) (by rw [h00]; simp only [beq_eq_false_iff_ne, ne_eq]; omega) hop)).mono ?_
  rintro e w' ⟨rfl, hA⟩
  have hdr := app_drop ⟨#[x]⟩ tail
  rw [e1] at hdr
  rw [hdr] at hA
  exact ⟨rfl, hA⟩
/-- every operator -/
theorem op_any : ∀ l, l ∈ ops → ∀ w, Calls Tryz.prog 370 #[.string ⟨l.toArray⟩] w fun e w' => e = .returned (.bool true) ∧ w = w' := by
  simp only [ops, List.forall_mem_cons]
  exact ⟨op_0, op_1, op_2, op_3, op_4, op_5, op_6, op_7, op_8, op_9, op_10, op_11, op_12, op_13, op_14, op_15, op_16, op_17, op_18, op_19, op_20, op_21, op_22, op_23, op_24, op_25, op_26, op_27, op_28, op_29, op_30, op_31, op_32, fun _ h => by cases h⟩
/-- a text's pieces: 0 a blank, 2 a word, 3 a number, 4 a text in marks, 5 an operator, 6 a word of the document's -/
abbrev Pc := Nat × List UInt8
def numI (l : List UInt8) : Item := ⟨⟨l.toArray⟩, some (3, ⟨l.toArray⟩)⟩
def textI (l : List UInt8) : Item := ⟨quoted ⟨l.toArray⟩, some (4, ⟨l.toArray⟩)⟩
def mkI (p : Pc) : Item := match p.1 with
  | 0 => blank
  | 2 => wordI p.2
  | 3 => numI p.2
  | 4 => textI p.2
  | 5 => opI p.2
  | _ => kwI p.2
def rawL (p : Pc) : List UInt8 := match p.1 with
  | 0 => [32]
  | 4 => 34 :: (p.2 ++ [34])
  | _ => p.2
def catL : List Pc → List UInt8
  | [] => []
  | p :: r => rawL p ++ catL r
def nextB (r : List Pc) (nx : Option UInt8) : Option UInt8 := match r with
  | [] => nx
  | p :: _ => (rawL p).head?
def headB (p : Nat → Bool) : List UInt8 → Bool
  | x :: _ => p x.toNat
  | [] => false
def stopB : Option UInt8 → Bool
  | none => true
  | some y => !partB y.toNat
def okW (l : List UInt8) (nx : Option UInt8) : Bool := headB letB l && l.all (fun b => partB b.toNat) && stopB nx
def gapB (b : Nat) : Bool := b == 10 || b == 32 || b == 9 || b == 13 || b == 34
def nextOp (x : UInt8) : Option UInt8 → Bool
  | none => true
  | some y => !decide ([x, y] ∈ ops) && (x.toNat != 47 || (y.toNat != 47 && y.toNat != 42))
def ok5 (l : List UInt8) (nx : Option UInt8) : Bool := match l with
  | [x] => decide ([x] ∈ ops) && !letB x.toNat && !digB x.toNat && !gapB x.toNat && nextOp x nx
  | [x, y] => decide ([x, y] ∈ ops) && !letB x.toNat && !digB x.toNat && !gapB x.toNat && x.toNat != 47 && y.toNat != 10
  | _ => false
def okI (p : Pc) (nx : Option UInt8) : Bool := match p.1 with
  | 0 => true
  | 2 => okW p.2 nx && !decide (p.2 ∈ kws)
  | 3 => headB digB p.2 && (p.2 == [48] || headB (fun b => b != 48) p.2) && p.2.all (fun b => digB b.toNat) && stopB nx
  | 4 => p.2.all (fun b => plainB b.toNat)
  | 5 => ok5 p.2 nx
  | 6 => okW p.2 nx && decide (p.2 ∈ kws)
  | _ => false
def okL : List Pc → Option UInt8 → Bool
  | [], _ => true
  | p :: r, nx => okI p (nextB r nx) && okL r nx
theorem nextB_app (a b : List Pc) (nx : Option UInt8) : nextB (a ++ b) nx = nextB a (nextB b nx) := by
  cases a <;> rfl
theorem okL_app : ∀ (a b : List Pc) (nx : Option UInt8), okL (a ++ b) nx = (okL a (nextB b nx) && okL b nx)
  | [], b, nx => rfl
  | p :: a, b, nx => by
    show (okI p (nextB (a ++ b) nx) && okL (a ++ b) nx) = ((okI p (nextB a (nextB b nx)) && okL a (nextB b nx)) && okL b nx)
    rw [okL_app a b nx, nextB_app, Bool.and_assoc]
theorem catL_app : ∀ (a b : List Pc), catL (a ++ b) = catL a ++ catL b
  | [], b => rfl
  | p :: a, b => by show rawL p ++ catL (a ++ b) = (rawL p ++ catL a) ++ catL b; rw [catL_app a b, List.append_assoc]
theorem head_ne {p : Nat → Bool} {l : List UInt8} (h : headB p l = true) : ∃ x r, l = x :: r ∧ p x.toNat = true := by
  cases l with
  | nil => cases h
  | cons x r => exact ⟨x, r, rfl, h⟩
/-- what is right isn't empty -/
theorem raw_ne : ∀ {p : Pc} {nx : Option UInt8}, okI p nx = true → ∃ x r, rawL p = x :: r := by
  rintro ⟨k, t⟩ nx h
  match k, h with
  | 0, _ => exact ⟨32, [], rfl⟩
  | 1, h => cases h
  | 2, h =>
    have h : (okW t nx && !decide (t ∈ kws)) = true := h
    simp only [okW, Bool.and_eq_true] at h
    obtain ⟨x, r, rfl, _⟩ := head_ne h.1.1.1
    exact ⟨x, r, rfl⟩
  | 3, h =>
    have h : (headB digB t && (t == [48] || headB (fun b => b != 48) t) && t.all (fun b => digB b.toNat) && stopB nx) = true := h
    simp only [Bool.and_eq_true] at h
    obtain ⟨x, r, rfl, _⟩ := head_ne h.1.1.1
    exact ⟨x, r, rfl⟩
  | 4, _ => exact ⟨34, t ++ [34], rfl⟩
  | 5, h =>
    have h : ok5 t nx = true := h
    match t, h with
    | [x], _ => exact ⟨x, [], rfl⟩
    | [x, y], _ => exact ⟨x, [y], rfl⟩
    | [], h => cases h
    | _ :: _ :: _ :: _, h => cases h
  | 6, h =>
    have h : (okW t nx && decide (t ∈ kws)) = true := h
    simp only [okW, Bool.and_eq_true] at h
    obtain ⟨x, r, rfl, _⟩ := head_ne h.1.1.1
    exact ⟨x, r, rfl⟩
  | n + 7, h => cases h
theorem head_next {r : List Pc} (h : okL r none = true) : (catL r).head? = nextB r none := by
  cases r with
  | nil => rfl
  | cons p r =>
    have h : (okI p (nextB r none) && okL r none) = true := h
    rw [Bool.and_eq_true] at h
    obtain ⟨x, q, e⟩ := raw_ne h.1
    show (rawL p ++ catL r).head? = (rawL p).head?
    rw [e]; rfl
theorem ba_app (a b : List UInt8) : (⟨a.toArray⟩ ++ ⟨b.toArray⟩ : ByteArray) = ⟨(a ++ b).toArray⟩ := by
  apply ByteArray.ext
  apply Array.ext'
  simp [ByteArray.data_append]
theorem quoted_lit (l : List UInt8) : quoted ⟨l.toArray⟩ = ⟨(34 :: (l ++ [34])).toArray⟩ := by
  unfold quoted
  have e1 : (⟨#[34]⟩ : ByteArray) = ⟨([34] : List UInt8).toArray⟩ := rfl
  rw [e1, ba_app, ba_app]; rfl
theorem raw_mkI (p : Pc) : (mkI p).raw = ⟨(rawL p).toArray⟩ := by
  obtain ⟨k, t⟩ := p
  match k with
  | 0 => rfl
  | 1 => rfl
  | 2 => rfl
  | 3 => rfl
  | 4 => exact quoted_lit t
  | 5 => rfl
  | n + 6 => rfl
theorem cat_map : ∀ (ps : List Pc), catR (ps.map mkI) = ⟨(catL ps).toArray⟩
  | [] => rfl
  | p :: r => by
    show (mkI p).raw ++ catR (r.map mkI) = ⟨(rawL p ++ catL r).toArray⟩
    rw [cat_map r, raw_mkI, ba_app]
theorem stops_of {l : List UInt8} {o : Option UInt8} (h : l.head? = o) (hs : stopB o = true) : Stops partB ⟨l.toArray⟩ := by
  subst h
  intro q
  cases l with
  | nil => exact absurd q (by decide)
  | cons x r =>
    have hs : (!partB x.toNat) = true := hs
    have h2 : partB x.toNat = false := by simpa using hs
    exact h2
theorem no_gap {b : Nat} (h : gapB b = false) : ¬ (b = 10 ∨ b = 32 ∨ b = 9 ∨ b = 13 ∨ b = 34) := by
  simp only [gapB, Bool.or_eq_false_iff, beq_eq_false_iff_ne, ne_eq] at h
  omega
theorem item_of {fi : Int} {p : Pc} {l : List UInt8} {o : Option UInt8} (hl : l.head? = o) (h : okI p o = true) : ItemOK fi (mkI p) ⟨l.toArray⟩ := by
  obtain ⟨k, t⟩ := p
  match k, h with
  | 0, _ => exact item_blank _
  | 1, h => cases h
  | 2, h =>
    have h : (okW t o && !decide (t ∈ kws)) = true := h
    simp only [okW, Bool.and_eq_true, Bool.not_eq_true', decide_eq_false_iff_not] at h
    obtain ⟨x, r, e, hx⟩ := head_ne h.1.1.1
    exact word_item t x r e _ hx h.1.1.2 h.2 (stops_of hl h.1.2)
  | 3, h =>
    have h : (headB digB t && (t == [48] || headB (fun b => b != 48) t) && t.all (fun b => digB b.toNat) && stopB o) = true := h
    simp only [Bool.and_eq_true, Bool.or_eq_true, beq_iff_eq] at h
    obtain ⟨⟨⟨h1, h2⟩, h3⟩, h4⟩ := h
    rcases h2 with rfl | h2
    · exact item_zero _ (stops_of hl h4)
    · obtain ⟨x, r, rfl, hx⟩ := head_ne h2
      refine item_num ⟨(x :: r).toArray⟩ _ (Nat.succ_pos _) (fun e => ?_) (allB_lit _ _ h3) (stops_of hl h4)
      have e : x = 48 := e
      subst e
      exact absurd hx (by decide)
  | 4, h => exact item_text ⟨t.toArray⟩ _ (allB_lit _ t h)
  | 5, h =>
    have h : ok5 t o = true := h
    match t, h with
    | [x], h =>
      have h : (decide ([x] ∈ ops) && !letB x.toNat && !digB x.toNat && !gapB x.toNat && nextOp x o) = true := h
      simp only [Bool.and_eq_true, Bool.not_eq_true', decide_eq_true_eq] at h
      obtain ⟨⟨⟨⟨h1, h2⟩, h3⟩, h4⟩, h5⟩ := h
      have hw := op_any [x] h1
      cases l with
      | nil => exact item_op1e x _ rfl h2 h3 (no_gap h4) hw
      | cons y r =>
        subst hl
        have h5 : (!decide ([x, y] ∈ ops) && (x.toNat != 47 || (y.toNat != 47 && y.toNat != 42))) = true := h5
        simp only [Bool.and_eq_true, Bool.not_eq_true', decide_eq_false_iff_not, Bool.or_eq_true, bne_iff_ne, ne_eq] at h5
        refine item_op1 x ⟨(y :: r).toArray⟩ (Nat.succ_pos _) h2 h3 (no_gap h4) (fun e => ?_) (fun w => isOp_no _ (fun k hk => ?_) w) hw
        · exact h5.2.resolve_left (fun q => q e)
        · rw [ByteArray.toList_eq, beq_eq_false_iff_ne]
          rintro rfl
          exact h5.1 hk
    | [x, y], h =>
      have h : (decide ([x, y] ∈ ops) && !letB x.toNat && !digB x.toNat && !gapB x.toNat && x.toNat != 47 && y.toNat != 10) = true := h
      simp only [Bool.and_eq_true, Bool.not_eq_true', decide_eq_true_eq, bne_iff_ne, ne_eq] at h
      obtain ⟨⟨⟨⟨⟨h1, h2⟩, h3⟩, h4⟩, h5⟩, h6⟩ := h
      have hg := no_gap h4
      refine item_op2 x y _ h2 h3 (by omega) (fun e => h6 ?_) (op_any [x, y] h1)
      rw [e]; rfl
    | [], h => cases h
    | _ :: _ :: _ :: _, h => cases h
  | 6, h =>
    have h : (okW t o && decide (t ∈ kws)) = true := h
    simp only [okW, Bool.and_eq_true, decide_eq_true_eq] at h
    obtain ⟨x, r, e, hx⟩ := head_ne h.1.1.1
    exact kw_item t x r e _ hx h.1.1.2 (stops_of hl h.1.2) (kw_any t h.2)
  | n + 7, h => cases h
theorem items_of {fi : Int} : ∀ {ps : List Pc}, okL ps none = true → ItemsOK fi (ps.map mkI)
  | [], _ => trivial
  | p :: r, h => by
    have h : (okI p (nextB r none) && okL r none) = true := h
    rw [Bool.and_eq_true] at h
    refine ⟨⟨?_, ?_⟩, items_of h.2⟩
    · obtain ⟨x, q, e⟩ := raw_ne h.1
      rw [raw_mkI, e]; exact Nat.succ_pos _
    · have e : catR (r.map mkI) = ⟨(catL r).toArray⟩ := cat_map r
      show ItemOK fi (mkI p) (catR (r.map mkI))
      rw [e]
      exact item_of (head_next h.2) h.1
/-- a token that ends a line -/
def lastB (z : Pc) : Bool := match z.1 with
  | 2 => true
  | 3 => true
  | 4 => true
  | 5 => z.2 == [41] || z.2 == [93] || z.2 == [125]
  | _ => false
theorem last_of : ∀ {z : Pc}, lastB z = true → ∃ kd t, (mkI z).tk = some (kd, t) ∧ (kd = 2 ∨ kd = 3 ∨ kd = 4 ∨ kd = 5 ∧ (t = ⟨#[41]⟩ ∨ t = ⟨#[93]⟩ ∨ t = ⟨#[125]⟩)) := by
  rintro ⟨k, t⟩ h
  match k, h with
  | 0, h => cases h
  | 1, h => cases h
  | 2, _ => exact ⟨2, _, rfl, .inl rfl⟩
  | 3, _ => exact ⟨3, _, rfl, .inr (.inl rfl)⟩
  | 4, _ => exact ⟨4, _, rfl, .inr (.inr (.inl rfl))⟩
  | 5, h =>
    have h : (t == [41] || t == [93] || t == [125]) = true := h
    simp only [Bool.or_eq_true, beq_iff_eq] at h
    rcases h with (rfl | rfl) | rfl
    · exact ⟨5, _, rfl, .inr (.inr (.inr ⟨rfl, .inl rfl⟩))⟩
    · exact ⟨5, _, rfl, .inr (.inr (.inr ⟨rfl, .inr (.inl rfl)⟩))⟩
    · exact ⟨5, _, rfl, .inr (.inr (.inr ⟨rfl, .inr (.inr rfl)⟩))⟩
  | n + 6, h => cases h
theorem tokens_lit (fi : Int) {ps : List Pc} {z : Pc} (h : okL (ps ++ [z]) none = true) (hz : lastB z = true) (hs : (catL (ps ++ [z])).length ≤ 65536) (w : World) :
    Calls Tryz.prog 194 #[.int .i64 fi, .string ⟨(catL (ps ++ [z])).toArray⟩] w (TokPost fi w ((ps ++ [z]).map mkI)) := by
  obtain ⟨kd, t, h1, h2⟩ := last_of hz
  have e : (ps ++ [z]).map mkI = ps.map mkI ++ [mkI z] := by rw [List.map_append]; rfl
  have hok := items_of (fi := fi) h
  have hc := cat_map (ps ++ [z])
  rw [e] at hok hc ⊢
  have := tokens_any fi (ps.map mkI) (mkI z) kd t w h1 h2 hok (by rw [hc]; exact hs)
  rwa [hc] at this
variable [Sig]
noncomputable def rowsB (l : List (List V)) : Bool := plainAL l.flatten && l.all fun r => r.length == 5 && r.all cellB
theorem plainAL_app : ∀ {a b : List V}, plainAL a = true → plainAL b = true → plainAL (a ++ b) = true
  | [], _, _, h => h
  | v :: a, b, h, h' => by
    have h : (plainA v && plainAL a) = true := h
    rw [Bool.and_eq_true] at h
    show (plainA v && plainAL (a ++ b)) = true
    rw [h.1, plainAL_app h.2 h']; rfl
/-- the tokens of a text of pieces: those of its beginning, those of its rest -/
theorem ke_lit {gl : Nat → Nat → V} {pre rest : List Pc} {z : Pc} {p1 r1 : List (List V)} {c e : Int} {n v k : Nat} (h1 : okL pre (nextB (rest ++ [z]) none) = true) (h2 : okL (rest ++ [z]) none = true) (hz : lastB z = true)
    (hv : decide (v < 256 ^ n) = true) (hb : bytesL n v = catL pre ++ catL (rest ++ [z])) (hn : decide ((catL pre).length + (catL (rest ++ [z])).length ≤ 65536) = true)
    (hc : (1 : Int) + ((catL pre).length : Int) = c) (he : c + ((catL (rest ++ [z])).length : Int) = e)
    (c3 : concL (fun _ => none) p1.flatten = some (cellsOf 0 1 (pre.map mkI)))
    (c4 : concL (fun _ => none) r1.flatten = some (cellsOf 0 c ((rest ++ [z]).map mkI) ++ tokC 5 ⟨#[59]⟩ 0 1 e ++ tokC 1 ⟨#[]⟩ 0 1 e))
    (c5 : rowsB p1 = true) (c6 : rowsB r1 = true) (hk : p1.length + r1.length = k) (hk' : nTok (pre.map mkI) + nTok ((rest ++ [z]).map mkI) + 2 = k) :
    KeOK Tryz.prog gl 194 (.mk (.tup [.int .i64 0, .str n v]) 316 5 k (p1 ++ r1) [.agg [.int .i64 0, .int .i64 0, .int .i64 0, .int .i64 0]]) := by
  have hlen : (catL (pre ++ rest ++ [z])).length ≤ 65536 := by
    rw [List.append_assoc, catL_app, List.length_append]; exact of_decide_eq_true hn
  have hok : okL (pre ++ rest ++ [z]) none = true := by rw [List.append_assoc, okL_app, h1, h2]; rfl
  have hcat : catL (pre ++ rest ++ [z]) = bytesL n v := by rw [List.append_assoc, catL_app, hb]
  have htok := fun w => tokens_lit 0 hok hz hlen w
  rw [hcat] at htok
  have hmap : (pre ++ rest ++ [z]).map mkI = pre.map mkI ++ (rest ++ [z]).map mkI := by rw [List.append_assoc, List.map_append]
  have hpre : (((catR (pre.map mkI)).size : Nat) : Int) = ((catL pre).length : Int) := by rw [cat_map]; rfl
  have hres : (((catR ((rest ++ [z]).map mkI)).size : Nat) : Int) = ((catL (rest ++ [z])).length : Int) := by rw [cat_map]; rfl
  have hall : allCells 0 ((pre ++ rest ++ [z]).map mkI) = cellsOf 0 1 (pre.map mkI) ++ (cellsOf 0 c ((rest ++ [z]).map mkI) ++ tokC 5 ⟨#[59]⟩ 0 1 e ++ tokC 1 ⟨#[]⟩ 0 1 e) := by
    have e1 : (1 : Int) + (((catR (pre.map mkI ++ (rest ++ [z]).map mkI)).size : Nat) : Int) = e := by
      rw [catR_append, ByteArray.size_append, Int.natCast_add, hpre, hres, ← Int.add_assoc, hc, he]
    unfold allCells
    rw [hmap, e1, cellsOf_append, hpre, hc, List.append_assoc, List.append_assoc, List.append_assoc]
  simp only [rowsB, Bool.and_eq_true, List.all_eq_true] at c5 c6
  have hrow : ∀ r ∈ p1 ++ r1, (r.length == 5) = true ∧ ∀ x ∈ r, cellB x = true := fun r hr => by
    rcases List.mem_append.1 hr with hr | hr
    · exact c5.2 r hr
    · exact c6.2 r hr
  refine ke_of Tryz.func194 rfl (of_decide_eq_true (by kernel_rfl)) rfl rfl ?_ (concL_cons.2 ⟨_, _, rfl, concL_one (conc_lit hv rfl), rfl⟩) (xs := allCells 0 ((pre ++ rest ++ [z]).map mkI)) ?_ rfl (fun r hr => eq_of_beq (hrow r hr).1) (fun r hr x hx => (hrow r hr).2 x hx) (by rw [List.length_append]; exact hk) (by omega) (by decide) (fun w => (htok w).mono ?_)
  · rw [List.flatten_append]; exact plainAL_app c5.1 c6.1
  · rw [List.flatten_append, hall]; exact concL_app c3 c4
  · rintro e' w' ⟨v, rfl, g1, g2⟩
    have e : nTok ((pre ++ rest ++ [z]).map mkI) + 2 = k := by rw [hmap, nTok_append]; exact hk'
    rw [e] at g1
    exact ⟨v, rfl, g1, g2⟩
end Go.Proofs.Sc
