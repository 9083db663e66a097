/- TwinKinds: for all numbers and words the function ends, panics nowhere and answers true; its row. -/
import Derived.Test.YtoddgmlofhkndaaGreatDoorExeStat
import Derived.Test.YtoddgmlofhkndaaGreatDoorTkRuns
import Derived.Test.YtoddgmlofhkndaaGreatDoorTkClosed
import Derived.Test.YtoddgmlofhkndaaGreatDoorExeD
import Derived.Test.YtoddgmlofhkndaaGreatDoorTie
import Derived.Test.YtoddgmlofhkndaaGreatDoorCards
import Derived.SevenTiedAt
import Derived.Carry
set_option linter.unusedVariables false
set_option linter.unusedSimpArgs false
set_option maxRecDepth 100000
set_option maxHeartbeats 4000000
namespace Go.Proofs.YtoddgmlofhkndaaGreatDoor
open Go Go.Proofs Go.ChangeShapes Go.WideShapes Go.ChangeAt Go.RowKit Go.Exe
theorem own : ownKnob Tryz.prog.godebug = none := by kernel_rfl
def laid3 {H : Type} : List (String × DataW H) := [("math/bits.deBruijn32tab", Rows.laid_math_bits_deBruijn32tab), ("math/bits.deBruijn64tab", Rows.laid_math_bits_deBruijn64tab), ("internal/strconv.uint64pow10", Rows.laid_internal_strconv_uint64pow10)]
theorem door_met (os : Os) (args : Array Value) : laidMetH Tryz.prog laid3 ((World.doorLaid Tryz.prog 4000 os).forCall (fun _ _ => 0) ⟨#[], args, []⟩).memory :=
  laidMetH_of_parts3 (fuel := 8) (laidMet_of_run' 8 (by kernel_rfl) (by kernel_rfl)) (by kernel_rfl) (by kernel_rfl)
theorem glOK {W : World} (h : laidMetH Tryz.prog laid3 W) : GlOK (gl3 1 2 3) W :=
  glOK_of (g1 := 1) (g2 := 2) (g3 := 3) (n1 := 20) (n2 := 32) (n3 := 64) (s1 := "internal/strconv.uint64pow10") (s2 := "math/bits.deBruijn32tab") (s3 := "math/bits.deBruijn64tab") (t1 := 472) (t2 := 494) (t3 := 495) (e1 := 106) (e2 := 5) (e3 := 5)
    h (by kernel_rfl) (by kernel_rfl) (by kernel_rfl) (by kernel_rfl) (by kernel_rfl) (by kernel_rfl) (by kernel_rfl) (by kernel_rfl) (by kernel_rfl) (by kernel_rfl) (by kernel_rfl) (by kernel_rfl) (by kernel_rfl) (by kernel_rfl) (by kernel_rfl)
theorem i64_wf {a : Int} (h : (Lit.int .i64 a).wf = true) : IntKind.i64.wrap a = a := by
  simp only [Lit.wf, Bool.and_eq_true, decide_eq_true_eq] at h
  have h1 : IntKind.i64.min = -9223372036854775808 := rfl
  have h2 : IntKind.i64.max = 9223372036854775807 := rfl
  rw [h1, h2] at h
  exact IntWalk.i64_in a h
theorem tk_lifted (os : Os) (started : os.Started) (H : Type) (enc : TypeId × Value → H) :
    ReturnsInHanded {} Tryz.checked os 3 .any (fun w args => (Rows.twinKindsSpec.pre enc Tryz.prog Tryz.f3 [] false w args ∧ laidMetH Tryz.prog laid3 w) ∧ sizedMet enc Tryz.prog Tryz.f3 (OpenSpec.ofChange Rows.twinKindsSpec) false w args)
      (Rows.twinKindsSpec.post enc Tryz.prog Tryz.f3 false true false false) := by
  refine returnsInHanded_of_change_and (C := Tryz.checked) (X := fun w _ => laidMetH Tryz.prog laid3 w) (fun _ _ _ hh h => h.of_heap hh) own started (by kernel_rfl) Tryz.func3
    (ChangeSpec.witness_shaped (enc := enc) (C := Tryz.checked) (os := os) (X := fun w _ => laidMetH Tryz.prog laid3 w) false (World.doorLaid Tryz.prog 4000 os) #[.int .i64 0, .int .i64 0] 8 rfl (World.shaped_of_RefB (by kernel_rfl) (by kernel_rfl)) (by kernel_rfl) (by kernel_rfl) (by kernel_rfl) (door_met os _)) ?_
  intro W base args ds gs before hval0 hW _ _ hL _
  have hval : ∀ (j : Nat) t v, Tryz.f3.params[j]? = some t → args[j]? = some v → Value.okWide Tryz.prog W .any base t v := hval0
  have hW' := hW
  obtain ⟨p, q, hA0, hV, rfl, hfz, hnd⟩ := hW
  have hA : DataW.TrodAll enc Tryz.prog W 0 (fun _ => true) true Tryz.f3.params.toList args.toList ds p := hA0
  rw [Tryz.params3] at hA hval
  obtain ⟨v0, v1, d0, d1, p0, p1, rfl, rfl, rfl, k0, k1⟩ := trodAll_two hA
  obtain ⟨rfl, rfl⟩ := trodVars_none hV
  obtain ⟨a0, rfl, rfl, rfl, w0⟩ := open_int Tryz.underlying3 (hval 0 3 v0 rfl rfl) k0
  obtain ⟨a1, rfl, rfl, rfl, w1⟩ := open_int Tryz.underlying3 (hval 1 3 v1 rfl rfl) k1
  have hgl := glOK hL
  clear hA0 hval0
  letI : Sig := { σ := fun j => if j = 0 then a0 else if j = 1 then a1 else 0 }
  obtain ⟨r0, h0, c0⟩ := sym_conc' (j := 0) (x := a0) (m := 16) (by omega) rfl (i64_wf w0)
  obtain ⟨r1, h1, c1⟩ := sym_conc' (j := 1) (x := a1) (m := 16) (by omega) rfl (i64_wf w1)
  refine (ran_true (Exe.Tryz.tk_all r0 r1 h0 h1) (w := W) (args := #[.int .i64 a0, .int .i64 a1]) (concL_cons.2 ⟨_, _, c0 _, concL_cons.2 ⟨_, _, c1 _, rfl, rfl⟩, rfl⟩) hgl).mono fun e W' ⟨he, hk⟩ => ?_
  subst he
  exact ⟨_, rfl, post_true (tb := 4) hW' hk rfl Tryz.underlying4 rfl rfl rfl rfl (trodAll_mk2 (shut_int Tryz.underlying3 w0) (shut_int Tryz.underlying3 w1))⟩
theorem twinKinds_holds : Rows.TwinKindsSaid :=
  OpenClaim.holds_of_wide 3 Tryz.f3 rfl rfl rfl rfl rfl rfl rfl ⟨rfl, rfl, rfl, rfl, rfl⟩ rfl rfl rfl rfl rfl (by kernel_rfl) Tryz.func3 tk_closed
    (of_decide_eq_true (by kernel_rfl)) (by unfold Func.isWrapper; first | (rw [if_pos (by decide +kernel)]; kernel_rfl) | (rw [if_neg (by decide +kernel)]; exact ⟨rfl, rfl⟩))
    (fun os started H enc _ => tk_lifted os started H enc)
end Go.Proofs.YtoddgmlofhkndaaGreatDoor
