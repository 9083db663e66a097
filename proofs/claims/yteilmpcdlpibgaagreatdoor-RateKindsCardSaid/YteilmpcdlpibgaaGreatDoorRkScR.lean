import Derived.Test.YteilmpcdlpibgaaGreatDoorRkScQ
import Derived.Test.YteilmpcdlpibgaaGreatDoorExeD
set_option linter.unusedSimpArgs false
set_option linter.unusedSectionVars false
set_option linter.unusedVariables false
set_option maxRecDepth 100000
namespace Go.Proofs.Sc
open Go Go.Proofs Go.RowKit Go.Exe
variable [Sig]
theorem concL_app {ρ : Rho} : ∀ {a b : List V} {x y : List Value}, concL ρ a = some x → concL ρ b = some y → concL ρ (a ++ b) = some (x ++ y) := by
  intro a
  induction a with
  | nil => intro b x y h1 h2; cases h1; exact h2
  | cons v t ih =>
    intro b x y h1 h2
    obtain ⟨p, q, h3, h4, rfl⟩ := concL_cons.1 h1
    exact concL_cons.2 ⟨p, q ++ y, h3, ih h4 h2, rfl⟩
theorem conc_lit {ρ : Rho} {n v : Nat} {l : List UInt8} (h1 : decide (v < 256 ^ n) = true) (h2 : bytesL n v = l) : conc ρ (.str n v) = some (.string ⟨l.toArray⟩) :=
  conc_str.2 ⟨of_decide_eq_true h1, by rw [bytesOf, h2]⟩
theorem conc_rope {ρ : Rho} {l : List V} {xs : List Value} {s : ByteArray} (h1 : concL ρ l = some xs) (h2 : catB xs = some s) : conc ρ (.ab 0 l) = some (.string s) :=
  conc_ab.2 ⟨xs, h1, by unfold absV; rw [if_pos rfl, h2]; rfl⟩
theorem conc_len {ρ : Rho} {l : List V} {xs : List Value} {s : ByteArray} {n : Int} (h1 : concL ρ l = some xs) (h2 : catB xs = some s) (h3 : (s.size : Int) = n) : conc ρ (.ab 1 l) = some (.int .i64 n) :=
  conc_ab.2 ⟨xs, h1, by unfold absV; rw [if_neg (by decide), if_pos rfl, h2, ← h3]; rfl⟩
theorem concL_one {ρ : Rho} {v : V} {x : Value} (h : conc ρ v = some x) : concL ρ [v] = some [x] := concL_cons.2 ⟨x, [], h, rfl, rfl⟩
theorem concL_five {ρ : Rho} {v1 v2 v3 v4 v5 : V} {x1 x2 x3 x4 x5 : Value} (h1 : conc ρ v1 = some x1) (h2 : conc ρ v2 = some x2) (h3 : conc ρ v3 = some x3) (h4 : conc ρ v4 = some x4) (h5 : conc ρ v5 = some x5) :
    concL ρ [v1, v2, v3, v4, v5] = some [x1, x2, x3, x4, x5] := concL_cons.2 ⟨x1, _, h1, concL_cons.2 ⟨x2, _, h2, concL_cons.2 ⟨x3, _, h3, concL_cons.2 ⟨x4, _, h4, concL_one h5, rfl⟩, rfl⟩, rfl⟩, rfl⟩
/-- the length of a text in two parts of which the first is so long -/
theorem conc_behind {ρ : Rho} {m : Nat} {x : V} {S : ByteArray} {n : Int} (hx : conc ρ x = some (.string S)) (h : (m : Int) + (S.size : Int) = n) : conc ρ (.ab 1 [.str m 0, x]) = some (.int .i64 n) :=
  conc_len (concL_cons.2 ⟨_, _, conc_str.2 ⟨Nat.pow_pos (by decide), rfl⟩, concL_one hx, rfl⟩) rfl (by rw [ByteArray.size_append, ByteArray.size_append, bytesOf_size]; rw [← h]; simp)
def lits1 : List (List V) := [[.int .i64 6, .str 7 28542640758940016, .int .i64 0, .int .i64 1, .int .i64 1], [.int .i64 2, .str 1 112, .int .i64 0, .int .i64 1, .int .i64 9], [.int .i64 5, .str 1 59, .int .i64 0, .int .i64 1, .int .i64 10], [.int .i64 6, .str 6 128034844732777, .int .i64 0, .int .i64 1, .int .i64 12], [.int .i64 4, .str 1 113, .int .i64 0, .int .i64 1, .int .i64 19], [.int .i64 5, .str 1 59, .int .i64 0, .int .i64 1, .int .i64 22], [.int .i64 6, .str 3 7496054, .int .i64 0, .int .i64 1, .int .i64 24], [.int .i64 2, .str 1 120, .int .i64 0, .int .i64 1, .int .i64 28], [.int .i64 2, .str 1 113, .int .i64 0, .int .i64 1, .int .i64 30], [.int .i64 5, .str 1 46, .int .i64 0, .int .i64 1, .int .i64 31]]
def lits2 : List (List V) := [[.int .i64 6, .str 7 28542640758940016, .int .i64 1, .int .i64 1, .int .i64 1], [.int .i64 2, .str 1 113, .int .i64 1, .int .i64 1, .int .i64 9], [.int .i64 5, .str 1 59, .int .i64 1, .int .i64 1, .int .i64 10], [.int .i64 6, .str 4 1701869940, .int .i64 1, .int .i64 1, .int .i64 12]]
theorem lits1_conc {ρ : Rho} : concL ρ lits1.flatten = some (cellsOf 0 1 init1) := by kernel_rfl
theorem lits2_conc {ρ : Rho} : concL ρ lits2.flatten = some (cellsOf 1 1 pre2) := by kernel_rfl
def rows1 (x : V) : List (List V) := [[.int .i64 2, x, .int .i64 0, .int .i64 1, .int .i64 32], [.int .i64 5, .str 1 59, .int .i64 0, .int .i64 1, .ab 1 [.str 32 0, x]], [.int .i64 1, .str 0 0, .int .i64 0, .int .i64 1, .ab 1 [.str 32 0, x]]]
def rows2 (x : V) : List (List V) := [[.int .i64 2, x, .int .i64 1, .int .i64 1, .int .i64 17], [.int .i64 2, .str 3 7630441, .int .i64 1, .int .i64 1, .ab 1 [.str 18 0, x]], [.int .i64 5, .str 1 59, .int .i64 1, .int .i64 1, .ab 1 [.str 21 0, x]], [.int .i64 1, .str 0 0, .int .i64 1, .int .i64 1, .ab 1 [.str 21 0, x]]]
theorem size1 : (catR init1).size = 31 := by kernel_rfl
theorem size2 : (catR pre2).size = 16 := by kernel_rfl
theorem rows1_conc {ρ : Rho} {x : V} {A : ByteArray} (hx : conc ρ x = some (.string A)) : concL ρ (lits1 ++ rows1 x).flatten = some (allCells 0 (init1 ++ [nameI A])) := by
  have e : allCells 0 (init1 ++ [nameI A]) = cellsOf 0 1 init1 ++ ([.int .i64 2, .string A, .int .i64 0, .int .i64 1, .int .i64 32] ++ ([.int .i64 5, .string ⟨#[59]⟩, .int .i64 0, .int .i64 1, .int .i64 (32 + A.size)] ++ [.int .i64 1, .string ⟨#[]⟩, .int .i64 0, .int .i64 1, .int .i64 (32 + A.size)])) := by
    have h1 : catR [nameI A] = A := by show A ++ ByteArray.empty = A; exact ByteArray.append_empty
    have h2 : ((1 : Int) + ((catR (init1 ++ [nameI A])).size : Int)) = 32 + (A.size : Int) := by rw [catR_append, ByteArray.size_append, size1, h1]; omega
    have h3 : cellsOf 0 (1 + ((catR init1).size : Int)) [nameI A] = [.int .i64 2, .string A, .int .i64 0, .int .i64 1, .int .i64 32] := by rw [size1]; rfl
    unfold allCells
    rw [cellsOf_append, h2, h3]
    simp [tokC]
  rw [e, List.flatten_append]
  refine concL_app lits1_conc ?_
  show concL ρ ([.int .i64 2, x, .int .i64 0, .int .i64 1, .int .i64 32] ++ ([.int .i64 5, .str 1 59, .int .i64 0, .int .i64 1, .ab 1 [.str 32 0, x]] ++ [.int .i64 1, .str 0 0, .int .i64 0, .int .i64 1, .ab 1 [.str 32 0, x]])) = _
  exact concL_app (concL_five rfl hx rfl rfl rfl) (concL_app (concL_five rfl (conc_lit (l := [59]) rfl rfl) rfl rfl (conc_behind hx rfl)) (concL_five rfl (conc_lit (l := []) rfl rfl) rfl rfl (conc_behind hx rfl)))
theorem rows2_conc {ρ : Rho} {x : V} {A : ByteArray} (hx : conc ρ x = some (.string A)) : concL ρ (lits2 ++ rows2 x).flatten = some (allCells 1 (init2 A ++ [wordI [105, 110, 116]])) := by
  have e0 : init2 A ++ [wordI [105, 110, 116]] = pre2 ++ [nameI A, blank, wordI [105, 110, 116]] := rfl
  have e : allCells 1 (init2 A ++ [wordI [105, 110, 116]]) = cellsOf 1 1 pre2 ++ ([.int .i64 2, .string A, .int .i64 1, .int .i64 1, .int .i64 17] ++ ([.int .i64 2, .string ⟨#[105, 110, 116]⟩, .int .i64 1, .int .i64 1, .int .i64 (18 + A.size)] ++ ([.int .i64 5, .string ⟨#[59]⟩, .int .i64 1, .int .i64 1, .int .i64 (21 + A.size)] ++ [.int .i64 1, .string ⟨#[]⟩, .int .i64 1, .int .i64 1, .int .i64 (21 + A.size)]))) := by
    have h0 : (catR [nameI A, blank, wordI [105, 110, 116]]).size = A.size + 4 := by
      show (A ++ (⟨#[32]⟩ ++ (⟨#[105, 110, 116]⟩ ++ ByteArray.empty)) : ByteArray).size = _
      rw [ByteArray.size_append]; rfl
    have h2 : ((1 : Int) + ((catR (pre2 ++ [nameI A, blank, wordI [105, 110, 116]])).size : Int)) = 21 + (A.size : Int) := by rw [catR_append, ByteArray.size_append, size2, h0]; omega
    have h4 : (1 : Int) + ((16 : Nat) : Int) + (A.size : Int) + ((blank.raw.size : Nat) : Int) = 18 + (A.size : Int) := by
      have : blank.raw.size = 1 := rfl
      rw [this]; omega
    have h3 : cellsOf 1 (1 + ((catR pre2).size : Int)) [nameI A, blank, wordI [105, 110, 116]] = [.int .i64 2, .string A, .int .i64 1, .int .i64 1, .int .i64 17] ++ [.int .i64 2, .string ⟨#[105, 110, 116]⟩, .int .i64 1, .int .i64 1, .int .i64 (18 + A.size)] := by
      rw [size2, ← h4]; rfl
    unfold allCells
    rw [e0, cellsOf_append, h2, h3]
    simp [tokC]
  rw [e, List.flatten_append]
  refine concL_app lits2_conc ?_
  show concL ρ ([.int .i64 2, x, .int .i64 1, .int .i64 1, .int .i64 17] ++ ([.int .i64 2, .str 3 7630441, .int .i64 1, .int .i64 1, .ab 1 [.str 18 0, x]] ++ ([.int .i64 5, .str 1 59, .int .i64 1, .int .i64 1, .ab 1 [.str 21 0, x]] ++ [.int .i64 1, .str 0 0, .int .i64 1, .int .i64 1, .ab 1 [.str 21 0, x]]))) = _
  exact concL_app (concL_five rfl hx rfl rfl rfl) (concL_app (concL_five rfl (conc_lit (l := [105, 110, 116]) rfl rfl) rfl rfl (conc_behind hx rfl)) (concL_app (concL_five rfl (conc_lit (l := [59]) rfl rfl) rfl rfl (conc_behind hx rfl)) (concL_five rfl (conc_lit (l := []) rfl rfl) rfl rfl (conc_behind hx rfl))))
def dat1 (x : V) : V := .ab 0 [.str 31 82055737686109201087069848372136158646894968992410408338989149448445321584, x]
def dat2 (x : V) : V := .ab 0 [.str 16 43061999100251826208418388363069055344, x, .str 4 1953392928]
theorem dat1_conc {ρ : Rho} {x : V} {A : ByteArray} (hx : conc ρ x = some (.string A)) : conc ρ (dat1 x) = some (.string (text1 A)) :=
  conc_rope (concL_cons.2 ⟨_, _, conc_lit (l := [112, 97, 99, 107, 97, 103, 101, 32, 112, 59, 32, 105, 109, 112, 111, 114, 116, 32, 34, 113, 34, 59, 32, 118, 97, 114, 32, 120, 32, 113, 46]) (by kernel_rfl) (by kernel_rfl), concL_one hx, rfl⟩) (by simp [catB, text1, ByteArray.append_empty])
theorem dat2_conc {ρ : Rho} {x : V} {A : ByteArray} (hx : conc ρ x = some (.string A)) : conc ρ (dat2 x) = some (.string (text2 A)) :=
  conc_rope (concL_cons.2 ⟨_, _, conc_lit (l := [112, 97, 99, 107, 97, 103, 101, 32, 113, 59, 32, 116, 121, 112, 101, 32]) (by kernel_rfl) (by kernel_rfl), concL_cons.2 ⟨_, _, hx, concL_one (conc_lit (l := [32, 105, 110, 116]) (by kernel_rfl) (by kernel_rfl)), rfl⟩, rfl⟩) (by simp [catB, text2, ByteArray.append_empty, ByteArray.append_assoc])
set_option maxHeartbeats 2000000 in
theorem ke1 {gl : Nat → Nat → V} {x : V} {A : ByteArray} (hx : conc (fun _ => none) x = some (.string A)) (hp : plainA x = true) (hc : cellB x = true) (h : IsName A) (hs : A.size ≤ 40) :
    KeOK Tryz.prog gl 194 (.mk (.tup [.int .i64 0, dat1 x]) 316 5 13 (lits1 ++ rows1 x) [.agg [.int .i64 0, .int .i64 0, .int .i64 0, .int .i64 0]]) := by
  refine ke_of Tryz.func194 rfl (of_decide_eq_true (by kernel_rfl)) ?_ rfl ?_ (concL_cons.2 ⟨_, _, rfl, concL_one (dat1_conc hx), rfl⟩) (rows1_conc hx) rfl ?_ ?_ rfl (by decide) (by decide) (fun w => (tokens_1 0 h hs w).mono ?_)
  · simp [dat1, plainAL, plainA, hp]
  · simp [lits1, rows1, plainAL, plainA, hp]
  · exact fun r hr => eq_of_beq (List.all_eq_true.1 (show (lits1 ++ rows1 x).all (fun r => r.length == 5) = true from rfl) r hr)
  · have : (lits1 ++ rows1 x).all (fun r => r.all cellB) = true := by simp only [List.all_append, Bool.and_eq_true]; exact ⟨by kernel_rfl, by simp only [rows1, List.all_cons, List.all_nil, hc]; rfl⟩
    exact fun r hr v hv => List.all_eq_true.1 (List.all_eq_true.1 this r hr) v hv
  · rintro e w' ⟨v, rfl, h1, h2⟩
    have e : nTok (init1 ++ [nameI A]) + 2 = 13 := rfl
    rw [e] at h1
    exact ⟨v, rfl, h1, h2⟩
set_option maxHeartbeats 2000000 in
theorem ke2 {gl : Nat → Nat → V} {x : V} {A : ByteArray} (hx : conc (fun _ => none) x = some (.string A)) (hp : plainA x = true) (hc : cellB x = true) (h : IsName A) (hs : A.size ≤ 40) :
    KeOK Tryz.prog gl 194 (.mk (.tup [.int .i64 1, dat2 x]) 316 5 8 (lits2 ++ rows2 x) [.agg [.int .i64 0, .int .i64 0, .int .i64 0, .int .i64 0]]) := by
  refine ke_of Tryz.func194 rfl (of_decide_eq_true (by kernel_rfl)) ?_ rfl ?_ (concL_cons.2 ⟨_, _, rfl, concL_one (dat2_conc hx), rfl⟩) (rows2_conc hx) rfl ?_ ?_ rfl (by decide) (by decide) (fun w => (tokens_2 1 h hs w).mono ?_)
  · simp [dat2, plainAL, plainA, hp]
  · simp [lits2, rows2, plainAL, plainA, hp]
  · exact fun r hr => eq_of_beq (List.all_eq_true.1 (show (lits2 ++ rows2 x).all (fun r => r.length == 5) = true from rfl) r hr)
  · have : (lits2 ++ rows2 x).all (fun r => r.all cellB) = true := by simp only [List.all_append, Bool.and_eq_true]; exact ⟨by kernel_rfl, by simp only [rows2, List.all_cons, List.all_nil, hc]; rfl⟩
    exact fun r hr v hv => List.all_eq_true.1 (List.all_eq_true.1 this r hr) v hv
  · rintro e w' ⟨v, rfl, h1, h2⟩
    have e : nTok (init2 A ++ [wordI [105, 110, 116]]) + 2 = 8 := rfl
    rw [e] at h1
    exact ⟨v, rfl, h1, h2⟩
/-- .. of a word of the document's -/
theorem ke2w {gl : Nat → Nat → V} {l : List UInt8} {n v : Nat} {rs : List (List V)} (hl : l ∈ kws) (c1 : decide (v < 256 ^ n) = true) (c2 : bytesL n v = [112, 97, 99, 107, 97, 103, 101, 32, 113, 59, 32, 116, 121, 112, 101, 32] ++ l ++ [32, 105, 110, 116])
    (c3 : concL (fun _ => none) rs.flatten = some (allCells 1 (init2k l ++ [wordI [105, 110, 116]]))) (c4 : (plainAL rs.flatten && rs.all fun r => r.length == 5 && r.all cellB) = true) (c5 : rs.length = 8) :
    KeOK Tryz.prog gl 194 (.mk (.tup [.int .i64 1, .str n v]) 316 5 8 rs [.agg [.int .i64 0, .int .i64 0, .int .i64 0, .int .i64 0]]) := by
  rw [Bool.and_eq_true, List.all_eq_true] at c4
  refine ke_of Tryz.func194 rfl (of_decide_eq_true (by kernel_rfl)) rfl rfl c4.1 (concL_cons.2 ⟨_, _, rfl, concL_one (conc_lit c1 c2), rfl⟩) c3 rfl (fun r hr => ?_) (fun r hr x hx => ?_) c5 (by decide) (by decide) (fun w => (tokens_2k 1 hl w).mono ?_)
  · have := c4.2 r hr; rw [Bool.and_eq_true] at this; exact eq_of_beq this.1
  · have := c4.2 r hr; rw [Bool.and_eq_true] at this; exact List.all_eq_true.1 this.2 x hx
  · rintro e w' ⟨v, rfl, h1, h2⟩
    have e : nTok (init2k l ++ [wordI [105, 110, 116]]) + 2 = 8 := rfl
    rw [e] at h1
    exact ⟨v, rfl, h1, h2⟩
end Go.Proofs.Sc
