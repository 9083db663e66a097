/- VeilOthers: for every number the function ends, panics nowhere and answers true: of the whole tape and every world that the door lays; its row. -/
import Derived.Test.YtdlpbhjihdfoaaaGreatDoorExeStat
import Derived.Test.YtdlpbhjihdfoaaaGreatDoorVoRunA
import Derived.Test.YtdlpbhjihdfoaaaGreatDoorVoRunB
import Derived.Test.YtdlpbhjihdfoaaaGreatDoorVoClosed
import Derived.Test.YtdlpbhjihdfoaaaGreatDoorExeD
import Derived.Test.YtdlpbhjihdfoaaaGreatDoorTie
import Derived.Test.YtdlpbhjihdfoaaaGreatDoorCards
import Derived.SevenTiedAt
set_option maxRecDepth 100000
namespace Go.Proofs.YtdlpbhjihdfoaaaGreatDoor
open Go Go.Proofs Go.ChangeShapes Go.WideShapes Go.ChangeAt Go.RowKit Go.Exe
noncomputable def glT : Nat → Nat → V := gl3 1 2 3
theorem own : ownKnob Tryz.prog.godebug = none := by kernel_rfl
def laid3 {H : Type} : List (String × DataW H) := [("math/bits.deBruijn32tab", Rows.laid_math_bits_deBruijn32tab), ("math/bits.deBruijn64tab", Rows.laid_math_bits_deBruijn64tab), ("internal/strconv.uint64pow10", Rows.laid_internal_strconv_uint64pow10)]
theorem door_met (os : Os) (args : Array Value) : laidMetH Tryz.prog laid3 ((World.doorLaid Tryz.prog 4000 os).forCall (fun _ _ => 0) ⟨#[], args, []⟩).memory :=
  laidMetH_of_parts3 (fuel := 8) (laidMet_of_run' 8 (by kernel_rfl) (by kernel_rfl)) (by kernel_rfl) (by kernel_rfl)
theorem glOK {W : World} (h : laidMetH Tryz.prog laid3 W) : GlOK glT W :=
  glOK_of (g1 := 1) (g2 := 2) (g3 := 3) (n1 := 20) (n2 := 32) (n3 := 64) (s1 := "internal/strconv.uint64pow10") (s2 := "math/bits.deBruijn32tab") (s3 := "math/bits.deBruijn64tab") (t1 := 482) (t2 := 501) (t3 := 502) (e1 := 40) (e2 := 5) (e3 := 5)
    h (by kernel_rfl) (by kernel_rfl) (by kernel_rfl) (by kernel_rfl) (by kernel_rfl) (by kernel_rfl) (by kernel_rfl) (by kernel_rfl) (by kernel_rfl) (by kernel_rfl) (by kernel_rfl) (by kernel_rfl) (by kernel_rfl) (by kernel_rfl) (by kernel_rfl)
theorem vo_run {r : Nat} (h : r < 6) : callX Exe.Tryz.ft glT 3000 4 [.sym 0 .i64 6 r] s0 (fun v _ => isTrue v) = true := by
  have : r = 0 ∨ r = 1 ∨ r = 2 ∨ r = 3 ∨ r = 4 ∨ r = 5 := by omega
  rcases this with rfl | rfl | rfl | rfl | rfl | rfl
  · exact Exe.Tryz.vo0
  · exact Exe.Tryz.vo1
  · exact Exe.Tryz.vo2
  · exact Exe.Tryz.vo3
  · exact Exe.Tryz.vo4
  · exact Exe.Tryz.vo5
theorem i64_wf {a : Int} (h : (Lit.int .i64 a).wf = true) : IntKind.i64.wrap a = a := by
  simp only [Lit.wf, Bool.and_eq_true, decide_eq_true_eq] at h
  have h1 : IntKind.i64.min = -9223372036854775808 := rfl
  have h2 : IntKind.i64.max = 9223372036854775807 := rfl
  rw [h1, h2] at h
  exact IntWalk.i64_in a h
theorem veilOthers_lifted (os : Os) (started : os.Started) (H : Type) (enc : TypeId × Value → H) :
    ReturnsInHanded {} Tryz.checked os 4 .any (fun w args => (Rows.veilOthersSpec.pre enc Tryz.prog Tryz.f4 [] false w args ∧ laidMetH Tryz.prog laid3 w) ∧ sizedMet enc Tryz.prog Tryz.f4 (OpenSpec.ofChange Rows.veilOthersSpec) false w args)
      (Rows.veilOthersSpec.post enc Tryz.prog Tryz.f4 false true false false) := by
  refine returnsInHanded_of_change_and (C := Tryz.checked) (X := fun w _ => laidMetH Tryz.prog laid3 w) (fun _ _ _ hh h => h.of_heap hh) own started (by kernel_rfl) Tryz.func4
    (ChangeSpec.witness_shaped (enc := enc) (C := Tryz.checked) (os := os) (X := fun w _ => laidMetH Tryz.prog laid3 w) false (World.doorLaid Tryz.prog 4000 os) #[.int .i64 0] 8 rfl (World.shaped_of_RefB (by kernel_rfl) (by kernel_rfl)) (by kernel_rfl) (by kernel_rfl) (by kernel_rfl) (door_met os _)) ?_
  intro W base args ds gs before hval0 hW _ _ hL _
  have hval : ∀ (j : Nat) t v, Tryz.f4.params[j]? = some t → args[j]? = some v → Value.okWide Tryz.prog W .any base t v := hval0
  have hW' := hW
  obtain ⟨p, q, hA0, hV, rfl, hfz, hnd⟩ := hW
  have hA : DataW.TrodAll enc Tryz.prog W 0 (fun _ => true) true Tryz.f4.params.toList args.toList ds p := hA0
  rw [Tryz.params4] at hA hval
  obtain ⟨v0, d0, rfl, rfl, h0⟩ := trodAll_one hA
  obtain ⟨rfl, rfl⟩ := trodVars_none hV
  obtain ⟨a, rfl, rfl, rfl, wa⟩ := open_int Tryz.underlying3 (hval 0 3 v0 rfl rfl) h0
  have hgl := glOK hL
  clear hA0 hval0
  letI : Sig := ⟨fun _ => a⟩
  obtain ⟨r, hr, hc⟩ := sym_conc (x := a) (m := 6) (by omega)
  have hwr : IntKind.i64.wrap a = a := i64_wf wa
  refine (exec_true Exe.Tryz.stat Exe.Tryz.ftOK (vo_run hr) (w := W) (args := #[.int .i64 a]) (concL_cons.2 ⟨_, _, hc _ hwr, rfl, rfl⟩) hgl).mono fun e W' ⟨he, hk⟩ => ?_
  subst he
  exact ⟨_, rfl, post_true (tb := 4) hW' hk rfl Tryz.underlying4 rfl rfl rfl rfl (trodAll_mk1 (shut_int Tryz.underlying3 wa))⟩
theorem veilOthers_holds : Rows.VeilOthersSaid :=
  OpenClaim.holds_of_wide 4 Tryz.f4 rfl rfl rfl rfl rfl rfl rfl ⟨rfl, rfl, rfl, rfl, rfl⟩ rfl rfl rfl rfl rfl (by kernel_rfl) Tryz.func4 vo_closed
    (of_decide_eq_true (by kernel_rfl)) (by unfold Func.isWrapper; first | (rw [if_pos (by decide +kernel)]; kernel_rfl) | (rw [if_neg (by decide +kernel)]; exact ⟨rfl, rfl⟩))
    (fun os started H enc _ => veilOthers_lifted os started H enc)
end Go.Proofs.YtdlpbhjihdfoaaaGreatDoor
