/- BindForeign: for all names it ends, panics nowhere and answers true. -/
import Derived.Test.YthkcghhmacbaaaaGreatDoorExeStat
import Derived.Test.YthkcghhmacbaaaaGreatDoorBfRunA
import Derived.Test.YthkcghhmacbaaaaGreatDoorBfRunB
import Derived.Test.YthkcghhmacbaaaaGreatDoorBfRunC
import Derived.Test.YthkcghhmacbaaaaGreatDoorBfRunD
import Derived.Test.YthkcghhmacbaaaaGreatDoorBfRunE
import Derived.Test.YthkcghhmacbaaaaGreatDoorBfRunF
import Derived.Test.YthkcghhmacbaaaaGreatDoorBfRunG
import Derived.Test.YthkcghhmacbaaaaGreatDoorBfRunH
import Derived.Test.YthkcghhmacbaaaaGreatDoorBfRunI
import Derived.Test.YthkcghhmacbaaaaGreatDoorBfRunJ
import Derived.Test.YthkcghhmacbaaaaGreatDoorBfRunK
import Derived.Test.YthkcghhmacbaaaaGreatDoorBfRunL
import Derived.Test.YthkcghhmacbaaaaGreatDoorBfRunM
import Derived.Test.YthkcghhmacbaaaaGreatDoorBfRunN
import Derived.Test.YthkcghhmacbaaaaGreatDoorBfRunO
import Derived.Test.YthkcghhmacbaaaaGreatDoorBfRunP
set_option linter.unusedSimpArgs false
set_option maxRecDepth 100000
set_option maxHeartbeats 4000000
set_option linter.unusedVariables false
namespace Go.Exe.Tryz
open Go Go.Exe Go.Proofs.Sc Go.Proofs.Lt
theorem Kept.refl (w : World) : Kept w w := ⟨Nat.le_refl _, fun _ _ => rfl, rfl, rfl, rfl⟩
theorem bf_ok [Sig] : FtOK Go.Proofs.Tryz.prog (gl3 1 2 3) bf_ft := ftK_ok ftOK (known_of stat ftOK bf_awake)
theorem bf_end [Sig] {t : Nat → Fc} (ht : FtOK Go.Proofs.Tryz.prog (gl3 1 2 3) t) {a : List V} (h : bf_run t a = true) {W : World} {args : Array Value} (ha : concL (fun _ => none) a = some args.toList) (hgl : GlOK (gl3 1 2 3) W) :
    Calls Go.Proofs.Tryz.prog 3 args W fun e w' => e = .returned (.bool true) ∧ Kept W w' := exec_true stat ht h ha hgl
theorem bf_let [Sig] {x : V} {s : ByteArray} (hp : plainA x = true) (hx : conc (fun _ => none) x = some (.string s)) (hm : s.size ≤ maxLen) (N : Nat) (h : Heap) : CallOK Go.Proofs.Tryz.prog (gl3 1 2 3) N 6 [x] h h (.bool (lettersB s)) :=
  kc_of Go.Proofs.Tryz.func6 rfl (of_decide_eq_true (by kernel_rfl)) (by simp [plainAL, hp]) rfl (concL_one hx) rfl (fun w _ => (letters_any s hm w).mono fun e w' ⟨h1, h2⟩ => ⟨h1, h2 ▸ Kept.refl w⟩) N h
theorem bf_great [Sig] {x : V} {s : ByteArray} (hp : plainA x = true) (hx : conc (fun _ => none) x = some (.string s)) (hs : 0 < s.size) (N : Nat) (h : Heap) : CallOK Go.Proofs.Tryz.prog (gl3 1 2 3) N 225 [x] h h (.bool (greatB (s[0]'hs).toNat)) :=
  kc_of Go.Proofs.Tryz.func225 rfl (of_decide_eq_true (by kernel_rfl)) (by simp [plainAL, hp]) rfl (concL_one hx) rfl (fun w _ => (isGreat_any s hs w).mono fun e w' ⟨h1, h2⟩ => ⟨h1, h2 ▸ Kept.refl w⟩) N h
theorem bf_one [Sig] {x : V} {s : ByteArray} {b : Bool} (hp : plainA x = true) (hx : conc (fun _ => none) x = some (.string s)) (hm : s.size ≤ maxLen) (hb : lettersB s = b) {l : List KV} (hl : KnownC Go.Proofs.Tryz.prog (gl3 1 2 3) 6 l) : KnownC Go.Proofs.Tryz.prog (gl3 1 2 3) 6 (kvT x b :: l) :=
  knownC_cons (fun N h => hb ▸ bf_let hp hx hm N h) hl
theorem conc_opq [Sig] {ρ : Rho} {t : Nat} {l : List V} {xs : List Value} (h3 : 3 ≤ t) (h2 : t % 3 = 2) (h : concL ρ l = some xs) (hf : xs.all (factB (Sig.sv (t / 3))) = true) : conc ρ (.ab t l) = some (.string (Sig.sv (t / 3))) :=
  conc_ab.2 ⟨xs, h, by unfold absV; rw [if_neg (by omega), if_neg (by omega), if_pos h3, if_neg (by omega), if_neg (by omega), if_pos hf]⟩
theorem toL {a : ByteArray} {l : List UInt8} (h : a.toList = l) : a = ⟨l.toArray⟩ := by
  rw [ByteArray.toList_eq] at h; subst h; rfl
theorem letters_facts {s : ByteArray} (h : lettersB s = true) : leadL letterB s = s.size ∧ 0 < s.size ∧ s.size ≤ 40 := of_decide_eq_true h
theorem letter_let {b : Nat} (h : letterB b = true) : letB b = true := by
  simp only [letterB, greatB, smallB, letB, Bool.or_eq_true, Bool.and_eq_true, decide_eq_true_eq, beq_iff_eq] at h ⊢; omega
theorem letters_name {s : ByteArray} (h : lettersB s = true) (hk : s.toList ∉ kws) : IsName s := by
  obtain ⟨h1, h2, h3⟩ := letters_facts h
  refine ⟨h2, fun k hk => letter_let ((leadL_facts letterB s).2.1 k hk (by omega)), fun k hk' => ?_⟩
  rw [beq_eq_false_iff_ne]; rintro rfl; exact hk hk'
theorem first_ne {s : ByteArray} (h : lettersB s = true) (x : UInt8) (r : List UInt8) (hx : letterB x.toNat = false) : (⟨(x :: r).toArray⟩ : ByteArray) ≠ s := by
  rintro rfl
  obtain ⟨h1, h2, h3⟩ := letters_facts h
  have := (leadL_facts letterB (⟨(x :: r).toArray⟩ : ByteArray)).2.1 0 h2 (by omega)
  exact absurd (this.symm.trans hx) (by decide)
theorem nil_ne {s : ByteArray} (h : lettersB s = true) : (⟨([] : List UInt8).toArray⟩ : ByteArray) ≠ s := by
  rintro rfl
  exact absurd (letters_facts h).2.1 (by decide)
/-- two texts of whatever length -/
@[reducible] def sigL (N A : ByteArray) : Sig := { σ := fun _ => 0, sv := fun j => if j = 34 then N else if j = 35 then A else ByteArray.empty, ok := fun j hj => by rw [if_neg (by omega), if_neg (by omega)]; exact Nat.zero_le _ }
theorem sigN_ok (A N : ByteArray) (hA : A.size ≤ 40) (hN : N.size ≤ 40) (j : Nat) : (if j = 1 then A else if j = 2 then N else ByteArray.empty).size ≤ 1000 := by
  split
  · omega
  · split
    · omega
    · exact Nat.zero_le _
/-- two texts that a run may put together with others -/
@[reducible] def sigN (A N : ByteArray) (hA : A.size ≤ 40) (hN : N.size ≤ 40) : Sig := { σ := fun _ => 0, sv := fun j => if j = 1 then A else if j = 2 then N else ByteArray.empty, ok := fun j _ => sigN_ok A N hA hN j }
theorem knownE_two [Sig] {f : Nat} {x y : Ke} (h : KeOK Go.Proofs.Tryz.prog (gl3 1 2 3) f x) (h' : KeOK Go.Proofs.Tryz.prog (gl3 1 2 3) f y) : KnownE Go.Proofs.Tryz.prog (gl3 1 2 3) f [x, y] := fun z hz => by
  rcases List.mem_cons.1 hz with rfl | hz
  · exact h
  · rcases List.mem_cons.1 hz with rfl | hz
    · exact h'
    · cases hz
theorem bf_s_list : ∀ b ∈ [65, 66, 67, 68, 69, 70, 71, 72, 73, 74, 75, 76, 77, 78, 79, 80, 81, 82, 83, 84, 85, 86, 87, 88, 89, 90, 97, 98, 99, 100, 101, 102, 103, 104, 105, 106, 107, 108, 109, 110, 111, 112, 113, 114, 115, 116, 117, 118, 119, 120, 121, 122], bf_run (bf_ftT [kvT (xS b) true] [bf_k1 (xS b), bf_k2 (xS b)]) [xS b, xS b] = true := by
  simp only [List.forall_mem_cons]
  exact ⟨bf_s_A, bf_s_B, bf_s_C, bf_s_D, bf_s_E, bf_s_F, bf_s_G, bf_s_H, bf_s_I, bf_s_J, bf_s_K, bf_s_L, bf_s_M, bf_s_N, bf_s_O, bf_s_P, bf_s_Q, bf_s_R, bf_s_S, bf_s_T, bf_s_U, bf_s_V, bf_s_W, bf_s_X, bf_s_Y, bf_s_Z, bf_s_a, bf_s_b, bf_s_c, bf_s_d, bf_s_e, bf_s_f, bf_s_g, bf_s_h, bf_s_i, bf_s_j, bf_s_k, bf_s_l, bf_s_m, bf_s_n, bf_s_o, bf_s_p, bf_s_q, bf_s_r, bf_s_s, bf_s_t, bf_s_u, bf_s_v, bf_s_w, bf_s_x, bf_s_y, bf_s_z, fun _ h => by cases h⟩
theorem letter_mem : ∀ b, b < 123 → letterB b = true → b ∈ [65, 66, 67, 68, 69, 70, 71, 72, 73, 74, 75, 76, 77, 78, 79, 80, 81, 82, 83, 84, 85, 86, 87, 88, 89, 90, 97, 98, 99, 100, 101, 102, 103, 104, 105, 106, 107, 108, 109, 110, 111, 112, 113, 114, 115, 116, 117, 118, 119, 120, 121, 122] := by decide
theorem bf_s_all (b : Nat) (h : letterB b = true) : bf_run (bf_ftT [kvT (xS b) true] [bf_k1 (xS b), bf_k2 (xS b)]) [xS b, xS b] = true :=
  bf_s_list b (letter_mem b (by simp only [letterB, greatB, smallB, Bool.or_eq_true, Bool.and_eq_true, decide_eq_true_eq] at h; omega) h)
/-- the name's letters aren't -/
theorem bf_1 (N A : ByteArray) (hN : N.size ≤ maxLen) (hA : A.size ≤ maxLen) (h : lettersB N = false) {W : World} (hgl : GlOK (gl3 1 2 3) W) : Calls Go.Proofs.Tryz.prog 3 #[.string N, .string A] W fun e w' => e = .returned (.bool true) ∧ Kept W w' := by
  letI := sigL N A
  exact bf_end (ftC_ok bf_ok (bf_one rfl (rfl : conc _ xU = some (.string N)) hN h knownC_nil)) bf_r1 (concL_cons.2 ⟨_, _, (rfl : conc _ xU = some (.string N)), concL_one (rfl : conc _ xW = some (.string A)), rfl⟩) hgl
theorem bf_2 (N A : ByteArray) (hN : N.size ≤ maxLen) (hA : A.size ≤ maxLen) (h : lettersB N = true) (h' : lettersB A = false) {W : World} (hgl : GlOK (gl3 1 2 3) W) : Calls Go.Proofs.Tryz.prog 3 #[.string N, .string A] W fun e w' => e = .returned (.bool true) ∧ Kept W w' := by
  letI := sigL N A
  exact bf_end (ftC_ok bf_ok (bf_one rfl (rfl : conc _ xU = some (.string N)) hN h (bf_one rfl (rfl : conc _ xW = some (.string A)) hA h' knownC_nil))) bf_r2 (concL_cons.2 ⟨_, _, (rfl : conc _ xU = some (.string N)), concL_one (rfl : conc _ xW = some (.string A)), rfl⟩) hgl
theorem int_conc [Sig] {ρ : Rho} : conc ρ (.str 3 7630441) = some (.string ⟨#[105, 110, 116]⟩) := conc_lit (l := [105, 110, 116]) (by kernel_rfl) (by kernel_rfl)
theorem bf_3 (A : ByteArray) (hA : A.size ≤ maxLen) (h' : lettersB A = true) {W : World} (hgl : GlOK (gl3 1 2 3) W) : Calls Go.Proofs.Tryz.prog 3 #[.string ⟨#[105, 110, 116]⟩, .string A] W fun e w' => e = .returned (.bool true) ∧ Kept W w' := by
  letI := sigL ByteArray.empty A
  exact bf_end (ftC_ok bf_ok (bf_one rfl int_conc (by decide) (by kernel_rfl) (bf_one rfl (rfl : conc _ xW = some (.string A)) hA h' knownC_nil))) bf_r3 (concL_cons.2 ⟨_, _, int_conc, concL_one (rfl : conc _ xW = some (.string A)), rfl⟩) hgl
theorem blank_conc [Sig] {ρ : Rho} : conc ρ (.str 0 0) = some (.string ⟨([] : List UInt8).toArray⟩) := conc_lit (l := []) rfl rfl
theorem low_conc [Sig] {ρ : Rho} : conc ρ (.str 1 95) = some (.string ⟨[95].toArray⟩) := conc_lit (l := [95]) rfl rfl
theorem size_max {s : ByteArray} (h : lettersB s = true) : s.size ≤ maxLen := Nat.le_trans (letters_facts h).2.2 (by decide)
/-- what is known of the name -/
theorem xN_conc [Sig] {ρ : Rho} (h : lettersB (Sig.sv 2) = true) (hi : Sig.sv 2 ≠ ⟨#[105, 110, 116]⟩) : conc ρ xN = some (.string (Sig.sv 2)) :=
  conc_opq (t := 8) (by decide) rfl (concL_cons.2 ⟨_, _, blank_conc, concL_cons.2 ⟨_, _, low_conc, concL_one int_conc, rfl⟩, rfl⟩) (by
    simp only [List.all_cons, List.all_nil, factB, Bool.and_true, Bool.and_eq_true, decide_eq_true_eq]
    exact ⟨nil_ne h, first_ne h 95 [] (by decide), fun e => hi e.symm⟩)
theorem xA_conc [Sig] {ρ : Rho} (h : lettersB (Sig.sv 1) = true) : conc ρ xA = some (.string (Sig.sv 1)) :=
  conc_opq (t := 5) (by decide) rfl (concL_cons.2 ⟨_, _, blank_conc, concL_one low_conc, rfl⟩) (by
    simp only [List.all_cons, List.all_nil, factB, Bool.and_true, Bool.and_eq_true, decide_eq_true_eq]
    exact ⟨nil_ne h, first_ne h 95 [] (by decide)⟩)
theorem xB_conc [Sig] {ρ : Rho} (h : lettersB (Sig.sv 1) = true) (hn : Sig.sv 1 ≠ Sig.sv 2) : conc ρ xB = some (.string (Sig.sv 1)) :=
  conc_opq (t := 5) (by decide) rfl (concL_cons.2 ⟨_, _, blank_conc, concL_cons.2 ⟨_, _, low_conc, concL_one (conc_opq (t := 8) (by decide) rfl rfl rfl), rfl⟩, rfl⟩) (by
    simp only [List.all_cons, List.all_nil, factB, Bool.and_true, Bool.and_eq_true, decide_eq_true_eq]
    exact ⟨nil_ne h, first_ne h 95 [] (by decide), fun e => hn e.symm⟩)
theorem xS_conc [Sig] {ρ : Rho} (h : lettersB (Sig.sv 1) = true) (hi : Sig.sv 1 ≠ ⟨#[105, 110, 116]⟩) (hp : 0 < (Sig.sv 1).size) : conc ρ (xS ((Sig.sv 1)[0]'hp).toNat) = some (.string (Sig.sv 1)) :=
  conc_opq (t := 5) (by decide) rfl (concL_cons.2 ⟨_, _, blank_conc, concL_cons.2 ⟨_, _, low_conc, concL_cons.2 ⟨_, _, int_conc, concL_one rfl, rfl⟩, rfl⟩, rfl⟩) (by
    have e : (Sig.sv 1).data[0]? = some ((Sig.sv 1)[0]'hp) := Array.getElem?_eq_getElem hp
    simp only [List.all_cons, List.all_nil, factB, Bool.and_true, Bool.and_eq_true, decide_eq_true_eq, e, beq_iff_eq]
    exact ⟨nil_ne h, first_ne h 95 [] (by decide), fun e => hi e.symm, trivial⟩)
/-- the asked name is one of the document's words -/
theorem bf_a {N : ByteArray} {l : List UInt8} {n v : Nat} (h : lettersB N = true) (hi : N ≠ ⟨#[105, 110, 116]⟩) (hl : lettersB ⟨l.toArray⟩ = true) (c1 : decide (v < 256 ^ n) = true) (c2 : bytesL n v = l) (hr : bf_run (bf_ftL [kvT xN true, kvT (.str n v) true]) [xN, .str n v] = true) {W : World} (hgl : GlOK (gl3 1 2 3) W) :
    Calls Go.Proofs.Tryz.prog 3 #[.string N, .string ⟨l.toArray⟩] W fun e w' => e = .returned (.bool true) ∧ Kept W w' := by
  letI := sigN ByteArray.empty N (Nat.zero_le _) (letters_facts h).2.2
  have hx : conc (fun _ => none) xN = some (.string N) := xN_conc h hi
  exact bf_end (ftC_ok bf_ok (bf_one rfl hx (size_max h) h (bf_one rfl (conc_lit c1 c2) (size_max hl) hl knownC_nil))) hr (concL_cons.2 ⟨_, _, hx, concL_one (conc_lit c1 c2), rfl⟩) hgl
/-- the name is one of them -/
theorem bf_b {A : ByteArray} {l : List UInt8} {n v n' v' : Nat} {rs : List (List V)} (h : lettersB A = true) (hk : A.toList ∉ kws) (hl : lettersB ⟨l.toArray⟩ = true) (c1 : decide (v < 256 ^ n) = true) (c2 : bytesL n v = l)
    (he : ∀ [Sig], KeOK Go.Proofs.Tryz.prog (gl3 1 2 3) 95 (bf_k2w n' v' rs)) (hr : bf_run (bf_ftT [kvT (.str n v) true, kvT xA true] [bf_k1 xA, bf_k2w n' v' rs]) [.str n v, xA] = true) {W : World} (hgl : GlOK (gl3 1 2 3) W) :
    Calls Go.Proofs.Tryz.prog 3 #[.string ⟨l.toArray⟩, .string A] W fun e w' => e = .returned (.bool true) ∧ Kept W w' := by
  letI := sigN A ByteArray.empty (letters_facts h).2.2 (Nat.zero_le _)
  have hx : conc (fun _ => none) xA = some (.string A) := xA_conc h
  exact bf_end (ftE_ok (ftC_ok bf_ok (bf_one rfl (conc_lit c1 c2) (size_max hl) hl (bf_one rfl hx (size_max h) h knownC_nil))) (knownE_two (ke1 hx rfl rfl (letters_name h hk) (letters_facts h).2.2) he)) hr (concL_cons.2 ⟨_, _, conc_lit c1 c2, concL_one hx, rfl⟩) hgl
/-- both are one -/
theorem bf_s {A : ByteArray} (h : lettersB A = true) (hk : A.toList ∉ kws) (hi : A ≠ ⟨#[105, 110, 116]⟩) {W : World} (hgl : GlOK (gl3 1 2 3) W) :
    Calls Go.Proofs.Tryz.prog 3 #[.string A, .string A] W fun e w' => e = .returned (.bool true) ∧ Kept W w' := by
  obtain ⟨h1, hp, h3⟩ := letters_facts h
  letI := sigN A ByteArray.empty h3 (Nat.zero_le _)
  have hx : conc (fun _ => none) (xS (A[0]'hp).toNat) = some (.string A) := xS_conc h hi hp
  have hb : letterB (A[0]'hp).toNat = true := (leadL_facts letterB A).2.1 0 hp (by omega)
  have hn := letters_name h hk
  exact bf_end (ftE_ok (ftC_ok bf_ok (bf_one rfl hx (size_max h) h knownC_nil)) (knownE_two (ke1 hx rfl rfl hn h3) (ke2 hx rfl rfl hn h3))) (bf_s_all _ hb) (concL_cons.2 ⟨_, _, hx, concL_one hx, rfl⟩) hgl
/-- they aren't -/
theorem bf_o {N A : ByteArray} (h : lettersB N = true) (hk : N.toList ∉ kws) (hi : N ≠ ⟨#[105, 110, 116]⟩) (h' : lettersB A = true) (hk' : A.toList ∉ kws) (hne : A ≠ N) {W : World} (hgl : GlOK (gl3 1 2 3) W) :
    Calls Go.Proofs.Tryz.prog 3 #[.string N, .string A] W fun e w' => e = .returned (.bool true) ∧ Kept W w' := by
  obtain ⟨h1, hp, h3⟩ := letters_facts h'
  letI := sigN A N h3 (letters_facts h).2.2
  have hx : conc (fun _ => none) xN = some (.string N) := xN_conc h hi
  have hy : conc (fun _ => none) xB = some (.string A) := xB_conc h' hne
  have hl := bf_one (x := xN) rfl hx (size_max h) h (bf_one (x := xB) rfl hy (size_max h') h' knownC_nil)
  have hg : ∀ b, greatB (A[0]'hp).toNat = b → KnownC Go.Proofs.Tryz.prog (gl3 1 2 3) 225 [kvT xB b] := fun b hb => knownC_cons (fun N h => hb ▸ bf_great rfl hy hp N h) knownC_nil
  have he := knownE_two (ke1 (gl := (gl3 1 2 3)) hy rfl rfl (letters_name h' hk') h3) (ke2 (gl := (gl3 1 2 3)) hx rfl rfl (letters_name h hk) (letters_facts h).2.2)
  have ha : concL (fun _ => none) [xN, xB] = some [.string N, .string A] := concL_cons.2 ⟨_, _, hx, concL_one hy, rfl⟩
  cases hb : greatB (A[0]'hp).toNat with
  | true => exact bf_end (ftE_ok (ftC_ok (ftC_ok bf_ok hl) (hg _ hb)) he) bf_o_true ha hgl
  | false => exact bf_end (ftE_ok (ftC_ok (ftC_ok bf_ok hl) (hg _ hb)) he) bf_o_false ha hgl
theorem bf_e_break [Sig] : KeOK Go.Proofs.Tryz.prog (gl3 1 2 3) 95 (bf_k2w 25 730851062588323988044684852889428198071928105315773093994864 bf_w_break) := ke2w (l := [98, 114, 101, 97, 107]) (by decide) (by kernel_rfl) (by kernel_rfl) (by kernel_rfl) (by kernel_rfl) rfl
theorem bf_e_case [Sig] : KeOK Go.Proofs.Tryz.prog (gl3 1 2 3) 95 (bf_k2w 24 2854886963201787693447430934394758851902090489142540722544 bf_w_case) := ke2w (l := [99, 97, 115, 101]) (by decide) (by kernel_rfl) (by kernel_rfl) (by kernel_rfl) (by kernel_rfl) rfl
theorem bf_e_chan [Sig] : KeOK Go.Proofs.Tryz.prog (gl3 1 2 3) 95 (bf_k2w 24 2854886963252767806757273461218036030240661161273846882672 bf_w_chan) := ke2w (l := [99, 104, 97, 110]) (by decide) (by kernel_rfl) (by kernel_rfl) (by kernel_rfl) (by kernel_rfl) rfl
theorem bf_e_const [Sig] : KeOK Go.Proofs.Tryz.prog (gl3 1 2 3) 95 (bf_k2w 25 730851062601580465060248019611946030501231146077583380275568 bf_w_const) := ke2w (l := [99, 111, 110, 115, 116]) (by decide) (by kernel_rfl) (by kernel_rfl) (by kernel_rfl) (by kernel_rfl) rfl
theorem bf_e_continue [Sig] : KeOK Go.Proofs.Tryz.prog (gl3 1 2 3) 95 (bf_k2w 28 12261646140728630027160812292528030391277330554900893162332838125936 bf_w_continue) := ke2w (l := [99, 111, 110, 116, 105, 110, 117, 101]) (by decide) (by kernel_rfl) (by kernel_rfl) (by kernel_rfl) (by kernel_rfl) rfl
theorem bf_e_default [Sig] : KeOK Go.Proofs.Tryz.prog (gl3 1 2 3) 95 (bf_k2w 27 47897055238654568497912820296646104882989965342025761262389125488 bf_w_default) := ke2w (l := [100, 101, 102, 97, 117, 108, 116]) (by decide) (by kernel_rfl) (by kernel_rfl) (by kernel_rfl) (by kernel_rfl) rfl
theorem bf_e_defer [Sig] : KeOK Go.Proofs.Tryz.prog (gl3 1 2 3) 95 (bf_k2w 25 730851062598577356638050514826532736532987606705847180419440 bf_w_defer) := ke2w (l := [100, 101, 102, 101, 114]) (by decide) (by kernel_rfl) (by kernel_rfl) (by kernel_rfl) (by kernel_rfl) rfl
theorem bf_e_else [Sig] : KeOK Go.Proofs.Tryz.prog (gl3 1 2 3) 95 (bf_k2w 24 2854886963201788652363140917599348891691734231865360605552 bf_w_else) := ke2w (l := [101, 108, 115, 101]) (by decide) (by kernel_rfl) (by kernel_rfl) (by kernel_rfl) (by kernel_rfl) rfl
theorem bf_e_fallthrough [Sig] : KeOK Go.Proofs.Tryz.prog (gl3 1 2 3) 95 (bf_k2w 31 205716285819782298721772013416307700482072179320086679445893790344207884656 bf_w_fallthrough) := ke2w (l := [102, 97, 108, 108, 116, 104, 114, 111, 117, 103, 104]) (by decide) (by kernel_rfl) (by kernel_rfl) (by kernel_rfl) (by kernel_rfl) rfl
theorem bf_e_for [Sig] : KeOK Go.Proofs.Tryz.prog (gl3 1 2 3) 95 (bf_k2w 23 11151902200296546028678249335585018018876851766755025264 bf_w_for) := ke2w (l := [102, 111, 114]) (by decide) (by kernel_rfl) (by kernel_rfl) (by kernel_rfl) (by kernel_rfl) rfl
theorem bf_e_func [Sig] : KeOK Go.Proofs.Tryz.prog (gl3 1 2 3) 95 (bf_k2w 24 2854886963190259951446356338198333208423245159192496136560 bf_w_func) := ke2w (l := [102, 117, 110, 99]) (by decide) (by kernel_rfl) (by kernel_rfl) (by kernel_rfl) (by kernel_rfl) rfl
theorem bf_e_go [Sig] : KeOK Go.Proofs.Tryz.prog (gl3 1 2 3) 95 (bf_k2w 22 43562117969644231120326359424529874044304535012467056 bf_w_go) := ke2w (l := [103, 111]) (by decide) (by kernel_rfl) (by kernel_rfl) (by kernel_rfl) (by kernel_rfl) rfl
theorem bf_e_goto [Sig] : KeOK Go.Proofs.Tryz.prog (gl3 1 2 3) 95 (bf_k2w 24 2854886963258901122834000372587438732986434408143699272048 bf_w_goto) := ke2w (l := [103, 111, 116, 111]) (by decide) (by kernel_rfl) (by kernel_rfl) (by kernel_rfl) (by kernel_rfl) rfl
theorem bf_e_if [Sig] : KeOK Go.Proofs.Tryz.prog (gl3 1 2 3) 95 (bf_k2w 22 43562117968860901111674359081637185697996604589695344 bf_w_if) := ke2w (l := [105, 102]) (by decide) (by kernel_rfl) (by kernel_rfl) (by kernel_rfl) (by kernel_rfl) rfl
theorem bf_e_import [Sig] : KeOK Go.Proofs.Tryz.prog (gl3 1 2 3) 95 (bf_k2w 26 187097872026003143285973549838183864287608799823243676129386864 bf_w_import) := ke2w (l := [105, 109, 112, 111, 114, 116]) (by decide) (by kernel_rfl) (by kernel_rfl) (by kernel_rfl) (by kernel_rfl) rfl
theorem bf_e_package [Sig] : KeOK Go.Proofs.Tryz.prog (gl3 1 2 3) 95 (bf_k2w 27 47897055237215954033245180425028969137935826002516780044398059888 bf_w_package) := ke2w (l := [112, 97, 99, 107, 97, 103, 101]) (by decide) (by kernel_rfl) (by kernel_rfl) (by kernel_rfl) (by kernel_rfl) rfl
theorem bf_e_range [Sig] : KeOK Go.Proofs.Tryz.prog (gl3 1 2 3) 95 (bf_k2w 25 730851062579589431396566822223770584183169351092217273606512 bf_w_range) := ke2w (l := [114, 97, 110, 103, 101]) (by decide) (by kernel_rfl) (by kernel_rfl) (by kernel_rfl) (by kernel_rfl) rfl
theorem bf_e_return [Sig] : KeOK Go.Proofs.Tryz.prog (gl3 1 2 3) 95 (bf_k2w 26 187097872023758311113487052946830848822560908158975507570057584 bf_w_return) := ke2w (l := [114, 101, 116, 117, 114, 110]) (by decide) (by kernel_rfl) (by kernel_rfl) (by kernel_rfl) (by kernel_rfl) rfl
theorem bf_e_select [Sig] : KeOK Go.Proofs.Tryz.prog (gl3 1 2 3) 95 (bf_k2w 26 187097872025981163581609401798108201528998047057603992192508272 bf_w_select) := ke2w (l := [115, 101, 108, 101, 99, 116]) (by decide) (by kernel_rfl) (by kernel_rfl) (by kernel_rfl) (by kernel_rfl) rfl
theorem bf_e_struct [Sig] : KeOK Go.Proofs.Tryz.prog (gl3 1 2 3) 95 (bf_k2w 26 187097872025981255060572890459700731808213759953720879656165744 bf_w_struct) := ke2w (l := [115, 116, 114, 117, 99, 116]) (by decide) (by kernel_rfl) (by kernel_rfl) (by kernel_rfl) (by kernel_rfl) rfl
theorem bf_e_switch [Sig] : KeOK Go.Proofs.Tryz.prog (gl3 1 2 3) 95 (bf_k2w 26 187097872021491516121256215942159160235083867964029653785731440 bf_w_switch) := ke2w (l := [115, 119, 105, 116, 99, 104]) (by decide) (by kernel_rfl) (by kernel_rfl) (by kernel_rfl) (by kernel_rfl) rfl
theorem bf_e_type [Sig] : KeOK Go.Proofs.Tryz.prog (gl3 1 2 3) 95 (bf_k2w 24 2854886963201722887691497942427207642598228931181973561712 bf_w_type) := ke2w (l := [116, 121, 112, 101]) (by decide) (by kernel_rfl) (by kernel_rfl) (by kernel_rfl) (by kernel_rfl) rfl
theorem bf_e_var [Sig] : KeOK Go.Proofs.Tryz.prog (gl3 1 2 3) 95 (bf_k2w 23 11151902200295331901193075427147380698277535217776550256 bf_w_var) := ke2w (l := [118, 97, 114]) (by decide) (by kernel_rfl) (by kernel_rfl) (by kernel_rfl) (by kernel_rfl) rfl
theorem foreign_any (N A : ByteArray) (hN : N.size ≤ maxLen) (hA : A.size ≤ maxLen) {W : World} (hgl : GlOK (gl3 1 2 3) W) : Calls Go.Proofs.Tryz.prog 3 #[.string N, .string A] W fun e w' => e = .returned (.bool true) ∧ Kept W w' := by
  cases h : lettersB N with
  | false => exact bf_1 N A hN hA h hgl
  | true =>
    cases h' : lettersB A with
    | false => exact bf_2 N A hN hA h h' hgl
    | true =>
      by_cases hi : N = ⟨#[105, 110, 116]⟩
      · subst hi; exact bf_3 A hA h' hgl
      by_cases hk' : A.toList ∈ kws
      · simp only [kws, List.mem_cons, List.not_mem_nil, or_false] at hk'
        rcases hk' with e | e | e | e | e | e | e | e | e | e | e | e | e | e | e | e | e | e | e | e | e | e | e
        · obtain rfl := toL e; exact bf_a h hi h' (by kernel_rfl) (by kernel_rfl) bf_a_break hgl
        · obtain rfl := toL e; exact bf_a h hi h' (by kernel_rfl) (by kernel_rfl) bf_a_case hgl
        · obtain rfl := toL e; exact bf_a h hi h' (by kernel_rfl) (by kernel_rfl) bf_a_chan hgl
        · obtain rfl := toL e; exact bf_a h hi h' (by kernel_rfl) (by kernel_rfl) bf_a_const hgl
        · obtain rfl := toL e; exact bf_a h hi h' (by kernel_rfl) (by kernel_rfl) bf_a_continue hgl
        · obtain rfl := toL e; exact bf_a h hi h' (by kernel_rfl) (by kernel_rfl) bf_a_default hgl
        · obtain rfl := toL e; exact bf_a h hi h' (by kernel_rfl) (by kernel_rfl) bf_a_defer hgl
        · obtain rfl := toL e; exact bf_a h hi h' (by kernel_rfl) (by kernel_rfl) bf_a_else hgl
        · obtain rfl := toL e; exact bf_a h hi h' (by kernel_rfl) (by kernel_rfl) bf_a_fallthrough hgl
        · obtain rfl := toL e; exact bf_a h hi h' (by kernel_rfl) (by kernel_rfl) bf_a_for hgl
        · obtain rfl := toL e; exact bf_a h hi h' (by kernel_rfl) (by kernel_rfl) bf_a_func hgl
        · obtain rfl := toL e; exact bf_a h hi h' (by kernel_rfl) (by kernel_rfl) bf_a_go hgl
        · obtain rfl := toL e; exact bf_a h hi h' (by kernel_rfl) (by kernel_rfl) bf_a_goto hgl
        · obtain rfl := toL e; exact bf_a h hi h' (by kernel_rfl) (by kernel_rfl) bf_a_if hgl
        · obtain rfl := toL e; exact bf_a h hi h' (by kernel_rfl) (by kernel_rfl) bf_a_import hgl
        · obtain rfl := toL e; exact bf_a h hi h' (by kernel_rfl) (by kernel_rfl) bf_a_package hgl
        · obtain rfl := toL e; exact bf_a h hi h' (by kernel_rfl) (by kernel_rfl) bf_a_range hgl
        · obtain rfl := toL e; exact bf_a h hi h' (by kernel_rfl) (by kernel_rfl) bf_a_return hgl
        · obtain rfl := toL e; exact bf_a h hi h' (by kernel_rfl) (by kernel_rfl) bf_a_select hgl
        · obtain rfl := toL e; exact bf_a h hi h' (by kernel_rfl) (by kernel_rfl) bf_a_struct hgl
        · obtain rfl := toL e; exact bf_a h hi h' (by kernel_rfl) (by kernel_rfl) bf_a_switch hgl
        · obtain rfl := toL e; exact bf_a h hi h' (by kernel_rfl) (by kernel_rfl) bf_a_type hgl
        · obtain rfl := toL e; exact bf_a h hi h' (by kernel_rfl) (by kernel_rfl) bf_a_var hgl
      by_cases hk : N.toList ∈ kws
      · simp only [kws, List.mem_cons, List.not_mem_nil, or_false] at hk
        rcases hk with e | e | e | e | e | e | e | e | e | e | e | e | e | e | e | e | e | e | e | e | e | e | e
        · obtain rfl := toL e; exact bf_b h' hk' h (by kernel_rfl) (by kernel_rfl) bf_e_break bf_b_break hgl
        · obtain rfl := toL e; exact bf_b h' hk' h (by kernel_rfl) (by kernel_rfl) bf_e_case bf_b_case hgl
        · obtain rfl := toL e; exact bf_b h' hk' h (by kernel_rfl) (by kernel_rfl) bf_e_chan bf_b_chan hgl
        · obtain rfl := toL e; exact bf_b h' hk' h (by kernel_rfl) (by kernel_rfl) bf_e_const bf_b_const hgl
        · obtain rfl := toL e; exact bf_b h' hk' h (by kernel_rfl) (by kernel_rfl) bf_e_continue bf_b_continue hgl
        · obtain rfl := toL e; exact bf_b h' hk' h (by kernel_rfl) (by kernel_rfl) bf_e_default bf_b_default hgl
        · obtain rfl := toL e; exact bf_b h' hk' h (by kernel_rfl) (by kernel_rfl) bf_e_defer bf_b_defer hgl
        · obtain rfl := toL e; exact bf_b h' hk' h (by kernel_rfl) (by kernel_rfl) bf_e_else bf_b_else hgl
        · obtain rfl := toL e; exact bf_b h' hk' h (by kernel_rfl) (by kernel_rfl) bf_e_fallthrough bf_b_fallthrough hgl
        · obtain rfl := toL e; exact bf_b h' hk' h (by kernel_rfl) (by kernel_rfl) bf_e_for bf_b_for hgl
        · obtain rfl := toL e; exact bf_b h' hk' h (by kernel_rfl) (by kernel_rfl) bf_e_func bf_b_func hgl
        · obtain rfl := toL e; exact bf_b h' hk' h (by kernel_rfl) (by kernel_rfl) bf_e_go bf_b_go hgl
        · obtain rfl := toL e; exact bf_b h' hk' h (by kernel_rfl) (by kernel_rfl) bf_e_goto bf_b_goto hgl
        · obtain rfl := toL e; exact bf_b h' hk' h (by kernel_rfl) (by kernel_rfl) bf_e_if bf_b_if hgl
        · obtain rfl := toL e; exact bf_b h' hk' h (by kernel_rfl) (by kernel_rfl) bf_e_import bf_b_import hgl
        · obtain rfl := toL e; exact bf_b h' hk' h (by kernel_rfl) (by kernel_rfl) bf_e_package bf_b_package hgl
        · obtain rfl := toL e; exact bf_b h' hk' h (by kernel_rfl) (by kernel_rfl) bf_e_range bf_b_range hgl
        · obtain rfl := toL e; exact bf_b h' hk' h (by kernel_rfl) (by kernel_rfl) bf_e_return bf_b_return hgl
        · obtain rfl := toL e; exact bf_b h' hk' h (by kernel_rfl) (by kernel_rfl) bf_e_select bf_b_select hgl
        · obtain rfl := toL e; exact bf_b h' hk' h (by kernel_rfl) (by kernel_rfl) bf_e_struct bf_b_struct hgl
        · obtain rfl := toL e; exact bf_b h' hk' h (by kernel_rfl) (by kernel_rfl) bf_e_switch bf_b_switch hgl
        · obtain rfl := toL e; exact bf_b h' hk' h (by kernel_rfl) (by kernel_rfl) bf_e_type bf_b_type hgl
        · obtain rfl := toL e; exact bf_b h' hk' h (by kernel_rfl) (by kernel_rfl) bf_e_var bf_b_var hgl
      by_cases hne : A = N
      · subst hne; exact bf_s h hk hi hgl
      · exact bf_o h hk hi h' hk' hne hgl
end Go.Exe.Tryz
