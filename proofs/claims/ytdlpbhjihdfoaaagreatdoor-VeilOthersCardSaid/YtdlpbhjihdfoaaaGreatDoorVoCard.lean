/- VeilOthers: the card of the row: what hides nothing; for every number, without the reference. -/
import Derived.Test.YtdlpbhjihdfoaaaGreatDoorVoRow
set_option maxRecDepth 100000
namespace Go.Proofs.YtdlpbhjihdfoaaaGreatDoor
open Go Go.Proofs
theorem vo_wf : Rows.veilOthersRow.wfByText (OpenSpec.ofChange Rows.veilOthersSpec) = true := by kernel_rfl
theorem mainIs : Tryz.pinned.checked.prog.mainIs = some (true, "f921e63add49320af917d089bf30aa207bd04248fcfa3b0df349dbeaae08a046".toList) := by kernel_rfl
theorem vo_named : Tryz.prog.funcNamed "lorgnette/lorgnettelaw26.VeilOthers" = some 4 := by kernel_rfl
theorem wants3 : ([3].all fun u => !Tryz.prog.wantsStandIn u) = true := by kernel_rfl
theorem looks0 : false = Tryz.prog.looks [] := by kernel_rfl
theorem goesBy_false {c : OpenClaim} {P : Program} {f : Nat} (hg : ∀ f, P.goes f = false) (hs : c.start = .entering) (hn : P.funcNamed c.func = some f) : false = c.goesBy P := by
  unfold OpenClaim.goesBy Program.goesAt Program.goesFrom
  rw [hn, hs]
  simp [hg]
theorem fits_of {P : Program} {name : String} {k : Nat} {fk : Func} {ps : List TypeId} (hn : P.funcNamed name = some k) (hk : P.funcs[k]? = some fk) (hp : fk.params.toList = ps) (hl : false = P.looks []) (hw : (ps.all fun u => !P.wantsStandIn u) = true)
    (f : Nat) (fn : Func) (hf : P.funcNamed name = some f) (hfn : P.funcs[f]? = some fn) : false = P.looks [] ∧ ∀ (j : Nat) (t : TypeId), fn.params[j]? = some t → P.wantsStandIn t = false := by
  obtain rfl : f = k := (Option.some.inj (hn.symm.trans hf)).symm
  obtain rfl : fn = fk := (Option.some.inj (hk.symm.trans hfn)).symm
  refine ⟨hl, fun j t ht => ?_⟩
  have hm : t ∈ ps := by rw [← hp]; exact Array.mem_toList_iff.2 (Array.mem_of_getElem? ht)
  simpa using List.all_eq_true.1 hw t hm
theorem vo_params : Tryz.f4.params.toList = [3] := by rw [Tryz.params4]
theorem vo_goes : false = Rows.veilOthersRow.goesBy Tryz.prog := goesBy_false Exe.Tryz.goes_false rfl vo_named
theorem vo_fits (f : Nat) (fn : Func) (hf : Tryz.prog.funcNamed "lorgnette/lorgnettelaw26.VeilOthers" = some f) (hfn : Tryz.prog.funcs[f]? = some fn) :
    false = Tryz.prog.looks [] ∧ ∀ (j : Nat) (t : TypeId), fn.params[j]? = some t → Tryz.prog.wantsStandIn t = false :=
  fits_of vo_named Tryz.func4 vo_params looks0 wants3 f fn hf hfn
theorem veilOthers_card : Rows.VeilOthersCardSaid :=
  Claim7.holds_tied_plain_at .later [] [.data, .data, .data] true (true, "f921e63add49320af917d089bf30aa207bd04248fcfa3b0df349dbeaae08a046") false
    veilOthers_holds (fun _ h => by cases h) vo_wf (fun _ h => by cases h) veilOthers_row_tie rfl ⟨rfl, rfl⟩ mainIs rfl
    vo_fits vo_goes
end Go.Proofs.YtdlpbhjihdfoaaaGreatDoor
