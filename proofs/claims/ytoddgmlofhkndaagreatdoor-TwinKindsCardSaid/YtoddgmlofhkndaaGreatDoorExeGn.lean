/- Which package-level variables each function of the seat's program names, and that none starts a goroutine, function by function. -/
import Derived.Test.YtoddgmlofhkndaaGreatDoorProg
import GoSem.ClaimFn
import GoSem.ClaimGoes
import Derived.KernelRfl
set_option linter.unusedVariables false
set_option linter.unusedSimpArgs false
set_option maxRecDepth 100000
namespace Go.Exe.Tryz
open Go Go.Exe Go.Proofs
def gnT (f : Nat) : List Nat := (if f = 442 then [0, 0, 0] else (if f = 451 then [1] else (if f = 508 then [2] else (if f = 509 then [3] else (if f = 565 then [2, 3, 1] else [])))))
theorem gn0 : Go.Proofs.Tryz.f0.body.elim [] Code.globalsNamed = [] ∧ Go.Proofs.Tryz.f0.goes = false := ⟨by kernel_rfl, by kernel_rfl⟩
theorem gn1 : Go.Proofs.Tryz.f1.body.elim [] Code.globalsNamed = [] ∧ Go.Proofs.Tryz.f1.goes = false := ⟨by kernel_rfl, by kernel_rfl⟩
theorem gn2 : Go.Proofs.Tryz.f2.body.elim [] Code.globalsNamed = [] ∧ Go.Proofs.Tryz.f2.goes = false := ⟨by kernel_rfl, by kernel_rfl⟩
theorem gn3 : Go.Proofs.Tryz.f3.body.elim [] Code.globalsNamed = [] ∧ Go.Proofs.Tryz.f3.goes = false := ⟨by kernel_rfl, by kernel_rfl⟩
theorem gn4 : Go.Proofs.Tryz.f4.body.elim [] Code.globalsNamed = [] ∧ Go.Proofs.Tryz.f4.goes = false := ⟨by kernel_rfl, by kernel_rfl⟩
theorem gn5 : Go.Proofs.Tryz.f5.body.elim [] Code.globalsNamed = [] ∧ Go.Proofs.Tryz.f5.goes = false := ⟨by kernel_rfl, by kernel_rfl⟩
theorem gn6 : Go.Proofs.Tryz.f6.body.elim [] Code.globalsNamed = [] ∧ Go.Proofs.Tryz.f6.goes = false := ⟨by kernel_rfl, by kernel_rfl⟩
theorem gn7 : Go.Proofs.Tryz.f7.body.elim [] Code.globalsNamed = [] ∧ Go.Proofs.Tryz.f7.goes = false := ⟨by kernel_rfl, by kernel_rfl⟩
theorem gn8 : Go.Proofs.Tryz.f8.body.elim [] Code.globalsNamed = [] ∧ Go.Proofs.Tryz.f8.goes = false := ⟨by kernel_rfl, by kernel_rfl⟩
theorem gn9 : Go.Proofs.Tryz.f9.body.elim [] Code.globalsNamed = [] ∧ Go.Proofs.Tryz.f9.goes = false := ⟨by kernel_rfl, by kernel_rfl⟩
theorem gn10 : Go.Proofs.Tryz.f10.body.elim [] Code.globalsNamed = [] ∧ Go.Proofs.Tryz.f10.goes = false := ⟨by kernel_rfl, by kernel_rfl⟩
theorem gn11 : Go.Proofs.Tryz.f11.body.elim [] Code.globalsNamed = [] ∧ Go.Proofs.Tryz.f11.goes = false := ⟨by kernel_rfl, by kernel_rfl⟩
theorem gn12 : Go.Proofs.Tryz.f12.body.elim [] Code.globalsNamed = [] ∧ Go.Proofs.Tryz.f12.goes = false := ⟨by kernel_rfl, by kernel_rfl⟩
theorem gn13 : Go.Proofs.Tryz.f13.body.elim [] Code.globalsNamed = [] ∧ Go.Proofs.Tryz.f13.goes = false := ⟨by kernel_rfl, by kernel_rfl⟩
theorem gn14 : Go.Proofs.Tryz.f14.body.elim [] Code.globalsNamed = [] ∧ Go.Proofs.Tryz.f14.goes = false := ⟨by kernel_rfl, by kernel_rfl⟩
theorem gn15 : Go.Proofs.Tryz.f15.body.elim [] Code.globalsNamed = [] ∧ Go.Proofs.Tryz.f15.goes = false := ⟨by kernel_rfl, by kernel_rfl⟩
theorem gn16 : Go.Proofs.Tryz.f16.body.elim [] Code.globalsNamed = [] ∧ Go.Proofs.Tryz.f16.goes = false := ⟨by kernel_rfl, by kernel_rfl⟩
theorem gn17 : Go.Proofs.Tryz.f17.body.elim [] Code.globalsNamed = [] ∧ Go.Proofs.Tryz.f17.goes = false := ⟨by kernel_rfl, by kernel_rfl⟩
theorem gn18 : Go.Proofs.Tryz.f18.body.elim [] Code.globalsNamed = [] ∧ Go.Proofs.Tryz.f18.goes = false := ⟨by kernel_rfl, by kernel_rfl⟩
theorem gn19 : Go.Proofs.Tryz.f19.body.elim [] Code.globalsNamed = [] ∧ Go.Proofs.Tryz.f19.goes = false := ⟨by kernel_rfl, by kernel_rfl⟩
theorem gn20 : Go.Proofs.Tryz.f20.body.elim [] Code.globalsNamed = [] ∧ Go.Proofs.Tryz.f20.goes = false := ⟨by kernel_rfl, by kernel_rfl⟩
theorem gn21 : Go.Proofs.Tryz.f21.body.elim [] Code.globalsNamed = [] ∧ Go.Proofs.Tryz.f21.goes = false := ⟨by kernel_rfl, by kernel_rfl⟩
theorem gn22 : Go.Proofs.Tryz.f22.body.elim [] Code.globalsNamed = [] ∧ Go.Proofs.Tryz.f22.goes = false := ⟨by kernel_rfl, by kernel_rfl⟩
theorem gn23 : Go.Proofs.Tryz.f23.body.elim [] Code.globalsNamed = [] ∧ Go.Proofs.Tryz.f23.goes = false := ⟨by kernel_rfl, by kernel_rfl⟩
theorem gn24 : Go.Proofs.Tryz.f24.body.elim [] Code.globalsNamed = [] ∧ Go.Proofs.Tryz.f24.goes = false := ⟨by kernel_rfl, by kernel_rfl⟩
theorem gn25 : Go.Proofs.Tryz.f25.body.elim [] Code.globalsNamed = [] ∧ Go.Proofs.Tryz.f25.goes = false := ⟨by kernel_rfl, by kernel_rfl⟩
theorem gn26 : Go.Proofs.Tryz.f26.body.elim [] Code.globalsNamed = [] ∧ Go.Proofs.Tryz.f26.goes = false := ⟨by kernel_rfl, by kernel_rfl⟩
theorem gn27 : Go.Proofs.Tryz.f27.body.elim [] Code.globalsNamed = [] ∧ Go.Proofs.Tryz.f27.goes = false := ⟨by kernel_rfl, by kernel_rfl⟩
theorem gn28 : Go.Proofs.Tryz.f28.body.elim [] Code.globalsNamed = [] ∧ Go.Proofs.Tryz.f28.goes = false := ⟨by kernel_rfl, by kernel_rfl⟩
theorem gn29 : Go.Proofs.Tryz.f29.body.elim [] Code.globalsNamed = [] ∧ Go.Proofs.Tryz.f29.goes = false := ⟨by kernel_rfl, by kernel_rfl⟩
theorem gn30 : Go.Proofs.Tryz.f30.body.elim [] Code.globalsNamed = [] ∧ Go.Proofs.Tryz.f30.goes = false := ⟨by kernel_rfl, by kernel_rfl⟩
theorem gn31 : Go.Proofs.Tryz.f31.body.elim [] Code.globalsNamed = [] ∧ Go.Proofs.Tryz.f31.goes = false := ⟨by kernel_rfl, by kernel_rfl⟩
theorem gn32 : Go.Proofs.Tryz.f32.body.elim [] Code.globalsNamed = [] ∧ Go.Proofs.Tryz.f32.goes = false := ⟨by kernel_rfl, by kernel_rfl⟩
theorem gn33 : Go.Proofs.Tryz.f33.body.elim [] Code.globalsNamed = [] ∧ Go.Proofs.Tryz.f33.goes = false := ⟨by kernel_rfl, by kernel_rfl⟩
theorem gn34 : Go.Proofs.Tryz.f34.body.elim [] Code.globalsNamed = [] ∧ Go.Proofs.Tryz.f34.goes = false := ⟨by kernel_rfl, by kernel_rfl⟩
theorem gn35 : Go.Proofs.Tryz.f35.body.elim [] Code.globalsNamed = [] ∧ Go.Proofs.Tryz.f35.goes = false := ⟨by kernel_rfl, by kernel_rfl⟩
theorem gn36 : Go.Proofs.Tryz.f36.body.elim [] Code.globalsNamed = [] ∧ Go.Proofs.Tryz.f36.goes = false := ⟨by kernel_rfl, by kernel_rfl⟩
theorem gn37 : Go.Proofs.Tryz.f37.body.elim [] Code.globalsNamed = [] ∧ Go.Proofs.Tryz.f37.goes = false := ⟨by kernel_rfl, by kernel_rfl⟩
theorem gn38 : Go.Proofs.Tryz.f38.body.elim [] Code.globalsNamed = [] ∧ Go.Proofs.Tryz.f38.goes = false := ⟨by kernel_rfl, by kernel_rfl⟩
theorem gn39 : Go.Proofs.Tryz.f39.body.elim [] Code.globalsNamed = [] ∧ Go.Proofs.Tryz.f39.goes = false := ⟨by kernel_rfl, by kernel_rfl⟩
theorem gn40 : Go.Proofs.Tryz.f40.body.elim [] Code.globalsNamed = [] ∧ Go.Proofs.Tryz.f40.goes = false := ⟨by kernel_rfl, by kernel_rfl⟩
theorem gn41 : Go.Proofs.Tryz.f41.body.elim [] Code.globalsNamed = [] ∧ Go.Proofs.Tryz.f41.goes = false := ⟨by kernel_rfl, by kernel_rfl⟩
theorem gn42 : Go.Proofs.Tryz.f42.body.elim [] Code.globalsNamed = [] ∧ Go.Proofs.Tryz.f42.goes = false := ⟨by kernel_rfl, by kernel_rfl⟩
theorem gn43 : Go.Proofs.Tryz.f43.body.elim [] Code.globalsNamed = [] ∧ Go.Proofs.Tryz.f43.goes = false := ⟨by kernel_rfl, by kernel_rfl⟩
theorem gn44 : Go.Proofs.Tryz.f44.body.elim [] Code.globalsNamed = [] ∧ Go.Proofs.Tryz.f44.goes = false := ⟨by kernel_rfl, by kernel_rfl⟩
theorem gn45 : Go.Proofs.Tryz.f45.body.elim [] Code.globalsNamed = [] ∧ Go.Proofs.Tryz.f45.goes = false := ⟨by kernel_rfl, by kernel_rfl⟩
theorem gn46 : Go.Proofs.Tryz.f46.body.elim [] Code.globalsNamed = [] ∧ Go.Proofs.Tryz.f46.goes = false := ⟨by kernel_rfl, by kernel_rfl⟩
theorem gn47 : Go.Proofs.Tryz.f47.body.elim [] Code.globalsNamed = [] ∧ Go.Proofs.Tryz.f47.goes = false := ⟨by kernel_rfl, by kernel_rfl⟩
theorem gn48 : Go.Proofs.Tryz.f48.body.elim [] Code.globalsNamed = [] ∧ Go.Proofs.Tryz.f48.goes = false := ⟨by kernel_rfl, by kernel_rfl⟩
theorem gn49 : Go.Proofs.Tryz.f49.body.elim [] Code.globalsNamed = [] ∧ Go.Proofs.Tryz.f49.goes = false := ⟨by kernel_rfl, by kernel_rfl⟩
theorem gn50 : Go.Proofs.Tryz.f50.body.elim [] Code.globalsNamed = [] ∧ Go.Proofs.Tryz.f50.goes = false := ⟨by kernel_rfl, by kernel_rfl⟩
theorem gn51 : Go.Proofs.Tryz.f51.body.elim [] Code.globalsNamed = [] ∧ Go.Proofs.Tryz.f51.goes = false := ⟨by kernel_rfl, by kernel_rfl⟩
theorem gn52 : Go.Proofs.Tryz.f52.body.elim [] Code.globalsNamed = [] ∧ Go.Proofs.Tryz.f52.goes = false := ⟨by kernel_rfl, by kernel_rfl⟩
theorem gn53 : Go.Proofs.Tryz.f53.body.elim [] Code.globalsNamed = [] ∧ Go.Proofs.Tryz.f53.goes = false := ⟨by kernel_rfl, by kernel_rfl⟩
theorem gn54 : Go.Proofs.Tryz.f54.body.elim [] Code.globalsNamed = [] ∧ Go.Proofs.Tryz.f54.goes = false := ⟨by kernel_rfl, by kernel_rfl⟩
theorem gn55 : Go.Proofs.Tryz.f55.body.elim [] Code.globalsNamed = [] ∧ Go.Proofs.Tryz.f55.goes = false := ⟨by kernel_rfl, by kernel_rfl⟩
theorem gn56 : Go.Proofs.Tryz.f56.body.elim [] Code.globalsNamed = [] ∧ Go.Proofs.Tryz.f56.goes = false := ⟨by kernel_rfl, by kernel_rfl⟩
theorem gn57 : Go.Proofs.Tryz.f57.body.elim [] Code.globalsNamed = [] ∧ Go.Proofs.Tryz.f57.goes = false := ⟨by kernel_rfl, by kernel_rfl⟩
theorem gn58 : Go.Proofs.Tryz.f58.body.elim [] Code.globalsNamed = [] ∧ Go.Proofs.Tryz.f58.goes = false := ⟨by kernel_rfl, by kernel_rfl⟩
theorem gn59 : Go.Proofs.Tryz.f59.body.elim [] Code.globalsNamed = [] ∧ Go.Proofs.Tryz.f59.goes = false := ⟨by kernel_rfl, by kernel_rfl⟩
theorem gn60 : Go.Proofs.Tryz.f60.body.elim [] Code.globalsNamed = [] ∧ Go.Proofs.Tryz.f60.goes = false := ⟨by kernel_rfl, by kernel_rfl⟩
theorem gn61 : Go.Proofs.Tryz.f61.body.elim [] Code.globalsNamed = [] ∧ Go.Proofs.Tryz.f61.goes = false := ⟨by kernel_rfl, by kernel_rfl⟩
theorem gn62 : Go.Proofs.Tryz.f62.body.elim [] Code.globalsNamed = [] ∧ Go.Proofs.Tryz.f62.goes = false := ⟨by kernel_rfl, by kernel_rfl⟩
theorem gn63 : Go.Proofs.Tryz.f63.body.elim [] Code.globalsNamed = [] ∧ Go.Proofs.Tryz.f63.goes = false := ⟨by kernel_rfl, by kernel_rfl⟩
theorem gn64 : Go.Proofs.Tryz.f64.body.elim [] Code.globalsNamed = [] ∧ Go.Proofs.Tryz.f64.goes = false := ⟨by kernel_rfl, by kernel_rfl⟩
theorem gn65 : Go.Proofs.Tryz.f65.body.elim [] Code.globalsNamed = [] ∧ Go.Proofs.Tryz.f65.goes = false := ⟨by kernel_rfl, by kernel_rfl⟩
theorem gn66 : Go.Proofs.Tryz.f66.body.elim [] Code.globalsNamed = [] ∧ Go.Proofs.Tryz.f66.goes = false := ⟨by kernel_rfl, by kernel_rfl⟩
theorem gn67 : Go.Proofs.Tryz.f67.body.elim [] Code.globalsNamed = [] ∧ Go.Proofs.Tryz.f67.goes = false := ⟨by kernel_rfl, by kernel_rfl⟩
theorem gn68 : Go.Proofs.Tryz.f68.body.elim [] Code.globalsNamed = [] ∧ Go.Proofs.Tryz.f68.goes = false := ⟨by kernel_rfl, by kernel_rfl⟩
theorem gn69 : Go.Proofs.Tryz.f69.body.elim [] Code.globalsNamed = [] ∧ Go.Proofs.Tryz.f69.goes = false := ⟨by kernel_rfl, by kernel_rfl⟩
theorem gn70 : Go.Proofs.Tryz.f70.body.elim [] Code.globalsNamed = [] ∧ Go.Proofs.Tryz.f70.goes = false := ⟨by kernel_rfl, by kernel_rfl⟩
theorem gn71 : Go.Proofs.Tryz.f71.body.elim [] Code.globalsNamed = [] ∧ Go.Proofs.Tryz.f71.goes = false := ⟨by kernel_rfl, by kernel_rfl⟩
theorem gn72 : Go.Proofs.Tryz.f72.body.elim [] Code.globalsNamed = [] ∧ Go.Proofs.Tryz.f72.goes = false := ⟨by kernel_rfl, by kernel_rfl⟩
theorem gn73 : Go.Proofs.Tryz.f73.body.elim [] Code.globalsNamed = [] ∧ Go.Proofs.Tryz.f73.goes = false := ⟨by kernel_rfl, by kernel_rfl⟩
theorem gn74 : Go.Proofs.Tryz.f74.body.elim [] Code.globalsNamed = [] ∧ Go.Proofs.Tryz.f74.goes = false := ⟨by kernel_rfl, by kernel_rfl⟩
theorem gn75 : Go.Proofs.Tryz.f75.body.elim [] Code.globalsNamed = [] ∧ Go.Proofs.Tryz.f75.goes = false := ⟨by kernel_rfl, by kernel_rfl⟩
theorem gn76 : Go.Proofs.Tryz.f76.body.elim [] Code.globalsNamed = [] ∧ Go.Proofs.Tryz.f76.goes = false := ⟨by kernel_rfl, by kernel_rfl⟩
theorem gn77 : Go.Proofs.Tryz.f77.body.elim [] Code.globalsNamed = [] ∧ Go.Proofs.Tryz.f77.goes = false := ⟨by kernel_rfl, by kernel_rfl⟩
theorem gn78 : Go.Proofs.Tryz.f78.body.elim [] Code.globalsNamed = [] ∧ Go.Proofs.Tryz.f78.goes = false := ⟨by kernel_rfl, by kernel_rfl⟩
theorem gn79 : Go.Proofs.Tryz.f79.body.elim [] Code.globalsNamed = [] ∧ Go.Proofs.Tryz.f79.goes = false := ⟨by kernel_rfl, by kernel_rfl⟩
theorem gn80 : Go.Proofs.Tryz.f80.body.elim [] Code.globalsNamed = [] ∧ Go.Proofs.Tryz.f80.goes = false := ⟨by kernel_rfl, by kernel_rfl⟩
theorem gn81 : Go.Proofs.Tryz.f81.body.elim [] Code.globalsNamed = [] ∧ Go.Proofs.Tryz.f81.goes = false := ⟨by kernel_rfl, by kernel_rfl⟩
theorem gn82 : Go.Proofs.Tryz.f82.body.elim [] Code.globalsNamed = [] ∧ Go.Proofs.Tryz.f82.goes = false := ⟨by kernel_rfl, by kernel_rfl⟩
theorem gn83 : Go.Proofs.Tryz.f83.body.elim [] Code.globalsNamed = [] ∧ Go.Proofs.Tryz.f83.goes = false := ⟨by kernel_rfl, by kernel_rfl⟩
theorem gn84 : Go.Proofs.Tryz.f84.body.elim [] Code.globalsNamed = [] ∧ Go.Proofs.Tryz.f84.goes = false := ⟨by kernel_rfl, by kernel_rfl⟩
theorem gn85 : Go.Proofs.Tryz.f85.body.elim [] Code.globalsNamed = [] ∧ Go.Proofs.Tryz.f85.goes = false := ⟨by kernel_rfl, by kernel_rfl⟩
theorem gn86 : Go.Proofs.Tryz.f86.body.elim [] Code.globalsNamed = [] ∧ Go.Proofs.Tryz.f86.goes = false := ⟨by kernel_rfl, by kernel_rfl⟩
theorem gn87 : Go.Proofs.Tryz.f87.body.elim [] Code.globalsNamed = [] ∧ Go.Proofs.Tryz.f87.goes = false := ⟨by kernel_rfl, by kernel_rfl⟩
theorem gn88 : Go.Proofs.Tryz.f88.body.elim [] Code.globalsNamed = [] ∧ Go.Proofs.Tryz.f88.goes = false := ⟨by kernel_rfl, by kernel_rfl⟩
theorem gn89 : Go.Proofs.Tryz.f89.body.elim [] Code.globalsNamed = [] ∧ Go.Proofs.Tryz.f89.goes = false := ⟨by kernel_rfl, by kernel_rfl⟩
theorem gn90 : Go.Proofs.Tryz.f90.body.elim [] Code.globalsNamed = [] ∧ Go.Proofs.Tryz.f90.goes = false := ⟨by kernel_rfl, by kernel_rfl⟩
theorem gn91 : Go.Proofs.Tryz.f91.body.elim [] Code.globalsNamed = [] ∧ Go.Proofs.Tryz.f91.goes = false := ⟨by kernel_rfl, by kernel_rfl⟩
theorem gn92 : Go.Proofs.Tryz.f92.body.elim [] Code.globalsNamed = [] ∧ Go.Proofs.Tryz.f92.goes = false := ⟨by kernel_rfl, by kernel_rfl⟩
theorem gn93 : Go.Proofs.Tryz.f93.body.elim [] Code.globalsNamed = [] ∧ Go.Proofs.Tryz.f93.goes = false := ⟨by kernel_rfl, by kernel_rfl⟩
theorem gn94 : Go.Proofs.Tryz.f94.body.elim [] Code.globalsNamed = [] ∧ Go.Proofs.Tryz.f94.goes = false := ⟨by kernel_rfl, by kernel_rfl⟩
theorem gn95 : Go.Proofs.Tryz.f95.body.elim [] Code.globalsNamed = [] ∧ Go.Proofs.Tryz.f95.goes = false := ⟨by kernel_rfl, by kernel_rfl⟩
theorem gn96 : Go.Proofs.Tryz.f96.body.elim [] Code.globalsNamed = [] ∧ Go.Proofs.Tryz.f96.goes = false := ⟨by kernel_rfl, by kernel_rfl⟩
theorem gn97 : Go.Proofs.Tryz.f97.body.elim [] Code.globalsNamed = [] ∧ Go.Proofs.Tryz.f97.goes = false := ⟨by kernel_rfl, by kernel_rfl⟩
theorem gn98 : Go.Proofs.Tryz.f98.body.elim [] Code.globalsNamed = [] ∧ Go.Proofs.Tryz.f98.goes = false := ⟨by kernel_rfl, by kernel_rfl⟩
theorem gn99 : Go.Proofs.Tryz.f99.body.elim [] Code.globalsNamed = [] ∧ Go.Proofs.Tryz.f99.goes = false := ⟨by kernel_rfl, by kernel_rfl⟩
theorem gn100 : Go.Proofs.Tryz.f100.body.elim [] Code.globalsNamed = [] ∧ Go.Proofs.Tryz.f100.goes = false := ⟨by kernel_rfl, by kernel_rfl⟩
theorem gn101 : Go.Proofs.Tryz.f101.body.elim [] Code.globalsNamed = [] ∧ Go.Proofs.Tryz.f101.goes = false := ⟨by kernel_rfl, by kernel_rfl⟩
theorem gn102 : Go.Proofs.Tryz.f102.body.elim [] Code.globalsNamed = [] ∧ Go.Proofs.Tryz.f102.goes = false := ⟨by kernel_rfl, by kernel_rfl⟩
theorem gn103 : Go.Proofs.Tryz.f103.body.elim [] Code.globalsNamed = [] ∧ Go.Proofs.Tryz.f103.goes = false := ⟨by kernel_rfl, by kernel_rfl⟩
theorem gn104 : Go.Proofs.Tryz.f104.body.elim [] Code.globalsNamed = [] ∧ Go.Proofs.Tryz.f104.goes = false := ⟨by kernel_rfl, by kernel_rfl⟩
theorem gn105 : Go.Proofs.Tryz.f105.body.elim [] Code.globalsNamed = [] ∧ Go.Proofs.Tryz.f105.goes = false := ⟨by kernel_rfl, by kernel_rfl⟩
theorem gn106 : Go.Proofs.Tryz.f106.body.elim [] Code.globalsNamed = [] ∧ Go.Proofs.Tryz.f106.goes = false := ⟨by kernel_rfl, by kernel_rfl⟩
theorem gn107 : Go.Proofs.Tryz.f107.body.elim [] Code.globalsNamed = [] ∧ Go.Proofs.Tryz.f107.goes = false := ⟨by kernel_rfl, by kernel_rfl⟩
theorem gn108 : Go.Proofs.Tryz.f108.body.elim [] Code.globalsNamed = [] ∧ Go.Proofs.Tryz.f108.goes = false := ⟨by kernel_rfl, by kernel_rfl⟩
theorem gn109 : Go.Proofs.Tryz.f109.body.elim [] Code.globalsNamed = [] ∧ Go.Proofs.Tryz.f109.goes = false := ⟨by kernel_rfl, by kernel_rfl⟩
theorem gn110 : Go.Proofs.Tryz.f110.body.elim [] Code.globalsNamed = [] ∧ Go.Proofs.Tryz.f110.goes = false := ⟨by kernel_rfl, by kernel_rfl⟩
theorem gn111 : Go.Proofs.Tryz.f111.body.elim [] Code.globalsNamed = [] ∧ Go.Proofs.Tryz.f111.goes = false := ⟨by kernel_rfl, by kernel_rfl⟩
theorem gn112 : Go.Proofs.Tryz.f112.body.elim [] Code.globalsNamed = [] ∧ Go.Proofs.Tryz.f112.goes = false := ⟨by kernel_rfl, by kernel_rfl⟩
theorem gn113 : Go.Proofs.Tryz.f113.body.elim [] Code.globalsNamed = [] ∧ Go.Proofs.Tryz.f113.goes = false := ⟨by kernel_rfl, by kernel_rfl⟩
theorem gn114 : Go.Proofs.Tryz.f114.body.elim [] Code.globalsNamed = [] ∧ Go.Proofs.Tryz.f114.goes = false := ⟨by kernel_rfl, by kernel_rfl⟩
theorem gn115 : Go.Proofs.Tryz.f115.body.elim [] Code.globalsNamed = [] ∧ Go.Proofs.Tryz.f115.goes = false := ⟨by kernel_rfl, by kernel_rfl⟩
theorem gn116 : Go.Proofs.Tryz.f116.body.elim [] Code.globalsNamed = [] ∧ Go.Proofs.Tryz.f116.goes = false := ⟨by kernel_rfl, by kernel_rfl⟩
theorem gn117 : Go.Proofs.Tryz.f117.body.elim [] Code.globalsNamed = [] ∧ Go.Proofs.Tryz.f117.goes = false := ⟨by kernel_rfl, by kernel_rfl⟩
theorem gn118 : Go.Proofs.Tryz.f118.body.elim [] Code.globalsNamed = [] ∧ Go.Proofs.Tryz.f118.goes = false := ⟨by kernel_rfl, by kernel_rfl⟩
theorem gn119 : Go.Proofs.Tryz.f119.body.elim [] Code.globalsNamed = [] ∧ Go.Proofs.Tryz.f119.goes = false := ⟨by kernel_rfl, by kernel_rfl⟩
theorem gn120 : Go.Proofs.Tryz.f120.body.elim [] Code.globalsNamed = [] ∧ Go.Proofs.Tryz.f120.goes = false := ⟨by kernel_rfl, by kernel_rfl⟩
theorem gn121 : Go.Proofs.Tryz.f121.body.elim [] Code.globalsNamed = [] ∧ Go.Proofs.Tryz.f121.goes = false := ⟨by kernel_rfl, by kernel_rfl⟩
theorem gn122 : Go.Proofs.Tryz.f122.body.elim [] Code.globalsNamed = [] ∧ Go.Proofs.Tryz.f122.goes = false := ⟨by kernel_rfl, by kernel_rfl⟩
theorem gn123 : Go.Proofs.Tryz.f123.body.elim [] Code.globalsNamed = [] ∧ Go.Proofs.Tryz.f123.goes = false := ⟨by kernel_rfl, by kernel_rfl⟩
theorem gn124 : Go.Proofs.Tryz.f124.body.elim [] Code.globalsNamed = [] ∧ Go.Proofs.Tryz.f124.goes = false := ⟨by kernel_rfl, by kernel_rfl⟩
theorem gn125 : Go.Proofs.Tryz.f125.body.elim [] Code.globalsNamed = [] ∧ Go.Proofs.Tryz.f125.goes = false := ⟨by kernel_rfl, by kernel_rfl⟩
theorem gn126 : Go.Proofs.Tryz.f126.body.elim [] Code.globalsNamed = [] ∧ Go.Proofs.Tryz.f126.goes = false := ⟨by kernel_rfl, by kernel_rfl⟩
theorem gn127 : Go.Proofs.Tryz.f127.body.elim [] Code.globalsNamed = [] ∧ Go.Proofs.Tryz.f127.goes = false := ⟨by kernel_rfl, by kernel_rfl⟩
theorem gn128 : Go.Proofs.Tryz.f128.body.elim [] Code.globalsNamed = [] ∧ Go.Proofs.Tryz.f128.goes = false := ⟨by kernel_rfl, by kernel_rfl⟩
theorem gn129 : Go.Proofs.Tryz.f129.body.elim [] Code.globalsNamed = [] ∧ Go.Proofs.Tryz.f129.goes = false := ⟨by kernel_rfl, by kernel_rfl⟩
theorem gn130 : Go.Proofs.Tryz.f130.body.elim [] Code.globalsNamed = [] ∧ Go.Proofs.Tryz.f130.goes = false := ⟨by kernel_rfl, by kernel_rfl⟩
theorem gn131 : Go.Proofs.Tryz.f131.body.elim [] Code.globalsNamed = [] ∧ Go.Proofs.Tryz.f131.goes = false := ⟨by kernel_rfl, by kernel_rfl⟩
theorem gn132 : Go.Proofs.Tryz.f132.body.elim [] Code.globalsNamed = [] ∧ Go.Proofs.Tryz.f132.goes = false := ⟨by kernel_rfl, by kernel_rfl⟩
theorem gn133 : Go.Proofs.Tryz.f133.body.elim [] Code.globalsNamed = [] ∧ Go.Proofs.Tryz.f133.goes = false := ⟨by kernel_rfl, by kernel_rfl⟩
theorem gn134 : Go.Proofs.Tryz.f134.body.elim [] Code.globalsNamed = [] ∧ Go.Proofs.Tryz.f134.goes = false := ⟨by kernel_rfl, by kernel_rfl⟩
theorem gn135 : Go.Proofs.Tryz.f135.body.elim [] Code.globalsNamed = [] ∧ Go.Proofs.Tryz.f135.goes = false := ⟨by kernel_rfl, by kernel_rfl⟩
theorem gn136 : Go.Proofs.Tryz.f136.body.elim [] Code.globalsNamed = [] ∧ Go.Proofs.Tryz.f136.goes = false := ⟨by kernel_rfl, by kernel_rfl⟩
theorem gn137 : Go.Proofs.Tryz.f137.body.elim [] Code.globalsNamed = [] ∧ Go.Proofs.Tryz.f137.goes = false := ⟨by kernel_rfl, by kernel_rfl⟩
theorem gn138 : Go.Proofs.Tryz.f138.body.elim [] Code.globalsNamed = [] ∧ Go.Proofs.Tryz.f138.goes = false := ⟨by kernel_rfl, by kernel_rfl⟩
theorem gn139 : Go.Proofs.Tryz.f139.body.elim [] Code.globalsNamed = [] ∧ Go.Proofs.Tryz.f139.goes = false := ⟨by kernel_rfl, by kernel_rfl⟩
theorem gn140 : Go.Proofs.Tryz.f140.body.elim [] Code.globalsNamed = [] ∧ Go.Proofs.Tryz.f140.goes = false := ⟨by kernel_rfl, by kernel_rfl⟩
theorem gn141 : Go.Proofs.Tryz.f141.body.elim [] Code.globalsNamed = [] ∧ Go.Proofs.Tryz.f141.goes = false := ⟨by kernel_rfl, by kernel_rfl⟩
theorem gn142 : Go.Proofs.Tryz.f142.body.elim [] Code.globalsNamed = [] ∧ Go.Proofs.Tryz.f142.goes = false := ⟨by kernel_rfl, by kernel_rfl⟩
theorem gn143 : Go.Proofs.Tryz.f143.body.elim [] Code.globalsNamed = [] ∧ Go.Proofs.Tryz.f143.goes = false := ⟨by kernel_rfl, by kernel_rfl⟩
theorem gn144 : Go.Proofs.Tryz.f144.body.elim [] Code.globalsNamed = [] ∧ Go.Proofs.Tryz.f144.goes = false := ⟨by kernel_rfl, by kernel_rfl⟩
theorem gn145 : Go.Proofs.Tryz.f145.body.elim [] Code.globalsNamed = [] ∧ Go.Proofs.Tryz.f145.goes = false := ⟨by kernel_rfl, by kernel_rfl⟩
theorem gn146 : Go.Proofs.Tryz.f146.body.elim [] Code.globalsNamed = [] ∧ Go.Proofs.Tryz.f146.goes = false := ⟨by kernel_rfl, by kernel_rfl⟩
theorem gn147 : Go.Proofs.Tryz.f147.body.elim [] Code.globalsNamed = [] ∧ Go.Proofs.Tryz.f147.goes = false := ⟨by kernel_rfl, by kernel_rfl⟩
theorem gn148 : Go.Proofs.Tryz.f148.body.elim [] Code.globalsNamed = [] ∧ Go.Proofs.Tryz.f148.goes = false := ⟨by kernel_rfl, by kernel_rfl⟩
theorem gn149 : Go.Proofs.Tryz.f149.body.elim [] Code.globalsNamed = [] ∧ Go.Proofs.Tryz.f149.goes = false := ⟨by kernel_rfl, by kernel_rfl⟩
theorem gn150 : Go.Proofs.Tryz.f150.body.elim [] Code.globalsNamed = [] ∧ Go.Proofs.Tryz.f150.goes = false := ⟨by kernel_rfl, by kernel_rfl⟩
theorem gn151 : Go.Proofs.Tryz.f151.body.elim [] Code.globalsNamed = [] ∧ Go.Proofs.Tryz.f151.goes = false := ⟨by kernel_rfl, by kernel_rfl⟩
theorem gn152 : Go.Proofs.Tryz.f152.body.elim [] Code.globalsNamed = [] ∧ Go.Proofs.Tryz.f152.goes = false := ⟨by kernel_rfl, by kernel_rfl⟩
theorem gn153 : Go.Proofs.Tryz.f153.body.elim [] Code.globalsNamed = [] ∧ Go.Proofs.Tryz.f153.goes = false := ⟨by kernel_rfl, by kernel_rfl⟩
theorem gn154 : Go.Proofs.Tryz.f154.body.elim [] Code.globalsNamed = [] ∧ Go.Proofs.Tryz.f154.goes = false := ⟨by kernel_rfl, by kernel_rfl⟩
theorem gn155 : Go.Proofs.Tryz.f155.body.elim [] Code.globalsNamed = [] ∧ Go.Proofs.Tryz.f155.goes = false := ⟨by kernel_rfl, by kernel_rfl⟩
theorem gn156 : Go.Proofs.Tryz.f156.body.elim [] Code.globalsNamed = [] ∧ Go.Proofs.Tryz.f156.goes = false := ⟨by kernel_rfl, by kernel_rfl⟩
theorem gn157 : Go.Proofs.Tryz.f157.body.elim [] Code.globalsNamed = [] ∧ Go.Proofs.Tryz.f157.goes = false := ⟨by kernel_rfl, by kernel_rfl⟩
theorem gn158 : Go.Proofs.Tryz.f158.body.elim [] Code.globalsNamed = [] ∧ Go.Proofs.Tryz.f158.goes = false := ⟨by kernel_rfl, by kernel_rfl⟩
theorem gn159 : Go.Proofs.Tryz.f159.body.elim [] Code.globalsNamed = [] ∧ Go.Proofs.Tryz.f159.goes = false := ⟨by kernel_rfl, by kernel_rfl⟩
theorem gn160 : Go.Proofs.Tryz.f160.body.elim [] Code.globalsNamed = [] ∧ Go.Proofs.Tryz.f160.goes = false := ⟨by kernel_rfl, by kernel_rfl⟩
theorem gn161 : Go.Proofs.Tryz.f161.body.elim [] Code.globalsNamed = [] ∧ Go.Proofs.Tryz.f161.goes = false := ⟨by kernel_rfl, by kernel_rfl⟩
theorem gn162 : Go.Proofs.Tryz.f162.body.elim [] Code.globalsNamed = [] ∧ Go.Proofs.Tryz.f162.goes = false := ⟨by kernel_rfl, by kernel_rfl⟩
theorem gn163 : Go.Proofs.Tryz.f163.body.elim [] Code.globalsNamed = [] ∧ Go.Proofs.Tryz.f163.goes = false := ⟨by kernel_rfl, by kernel_rfl⟩
theorem gn164 : Go.Proofs.Tryz.f164.body.elim [] Code.globalsNamed = [] ∧ Go.Proofs.Tryz.f164.goes = false := ⟨by kernel_rfl, by kernel_rfl⟩
theorem gn165 : Go.Proofs.Tryz.f165.body.elim [] Code.globalsNamed = [] ∧ Go.Proofs.Tryz.f165.goes = false := ⟨by kernel_rfl, by kernel_rfl⟩
theorem gn166 : Go.Proofs.Tryz.f166.body.elim [] Code.globalsNamed = [] ∧ Go.Proofs.Tryz.f166.goes = false := ⟨by kernel_rfl, by kernel_rfl⟩
theorem gn167 : Go.Proofs.Tryz.f167.body.elim [] Code.globalsNamed = [] ∧ Go.Proofs.Tryz.f167.goes = false := ⟨by kernel_rfl, by kernel_rfl⟩
theorem gn168 : Go.Proofs.Tryz.f168.body.elim [] Code.globalsNamed = [] ∧ Go.Proofs.Tryz.f168.goes = false := ⟨by kernel_rfl, by kernel_rfl⟩
theorem gn169 : Go.Proofs.Tryz.f169.body.elim [] Code.globalsNamed = [] ∧ Go.Proofs.Tryz.f169.goes = false := ⟨by kernel_rfl, by kernel_rfl⟩
theorem gn170 : Go.Proofs.Tryz.f170.body.elim [] Code.globalsNamed = [] ∧ Go.Proofs.Tryz.f170.goes = false := ⟨by kernel_rfl, by kernel_rfl⟩
theorem gn171 : Go.Proofs.Tryz.f171.body.elim [] Code.globalsNamed = [] ∧ Go.Proofs.Tryz.f171.goes = false := ⟨by kernel_rfl, by kernel_rfl⟩
theorem gn172 : Go.Proofs.Tryz.f172.body.elim [] Code.globalsNamed = [] ∧ Go.Proofs.Tryz.f172.goes = false := ⟨by kernel_rfl, by kernel_rfl⟩
theorem gn173 : Go.Proofs.Tryz.f173.body.elim [] Code.globalsNamed = [] ∧ Go.Proofs.Tryz.f173.goes = false := ⟨by kernel_rfl, by kernel_rfl⟩
theorem gn174 : Go.Proofs.Tryz.f174.body.elim [] Code.globalsNamed = [] ∧ Go.Proofs.Tryz.f174.goes = false := ⟨by kernel_rfl, by kernel_rfl⟩
theorem gn175 : Go.Proofs.Tryz.f175.body.elim [] Code.globalsNamed = [] ∧ Go.Proofs.Tryz.f175.goes = false := ⟨by kernel_rfl, by kernel_rfl⟩
theorem gn176 : Go.Proofs.Tryz.f176.body.elim [] Code.globalsNamed = [] ∧ Go.Proofs.Tryz.f176.goes = false := ⟨by kernel_rfl, by kernel_rfl⟩
theorem gn177 : Go.Proofs.Tryz.f177.body.elim [] Code.globalsNamed = [] ∧ Go.Proofs.Tryz.f177.goes = false := ⟨by kernel_rfl, by kernel_rfl⟩
theorem gn178 : Go.Proofs.Tryz.f178.body.elim [] Code.globalsNamed = [] ∧ Go.Proofs.Tryz.f178.goes = false := ⟨by kernel_rfl, by kernel_rfl⟩
theorem gn179 : Go.Proofs.Tryz.f179.body.elim [] Code.globalsNamed = [] ∧ Go.Proofs.Tryz.f179.goes = false := ⟨by kernel_rfl, by kernel_rfl⟩
theorem gn180 : Go.Proofs.Tryz.f180.body.elim [] Code.globalsNamed = [] ∧ Go.Proofs.Tryz.f180.goes = false := ⟨by kernel_rfl, by kernel_rfl⟩
theorem gn181 : Go.Proofs.Tryz.f181.body.elim [] Code.globalsNamed = [] ∧ Go.Proofs.Tryz.f181.goes = false := ⟨by kernel_rfl, by kernel_rfl⟩
theorem gn182 : Go.Proofs.Tryz.f182.body.elim [] Code.globalsNamed = [] ∧ Go.Proofs.Tryz.f182.goes = false := ⟨by kernel_rfl, by kernel_rfl⟩
theorem gn183 : Go.Proofs.Tryz.f183.body.elim [] Code.globalsNamed = [] ∧ Go.Proofs.Tryz.f183.goes = false := ⟨by kernel_rfl, by kernel_rfl⟩
theorem gn184 : Go.Proofs.Tryz.f184.body.elim [] Code.globalsNamed = [] ∧ Go.Proofs.Tryz.f184.goes = false := ⟨by kernel_rfl, by kernel_rfl⟩
theorem gn185 : Go.Proofs.Tryz.f185.body.elim [] Code.globalsNamed = [] ∧ Go.Proofs.Tryz.f185.goes = false := ⟨by kernel_rfl, by kernel_rfl⟩
theorem gn186 : Go.Proofs.Tryz.f186.body.elim [] Code.globalsNamed = [] ∧ Go.Proofs.Tryz.f186.goes = false := ⟨by kernel_rfl, by kernel_rfl⟩
theorem gn187 : Go.Proofs.Tryz.f187.body.elim [] Code.globalsNamed = [] ∧ Go.Proofs.Tryz.f187.goes = false := ⟨by kernel_rfl, by kernel_rfl⟩
theorem gn188 : Go.Proofs.Tryz.f188.body.elim [] Code.globalsNamed = [] ∧ Go.Proofs.Tryz.f188.goes = false := ⟨by kernel_rfl, by kernel_rfl⟩
theorem gn189 : Go.Proofs.Tryz.f189.body.elim [] Code.globalsNamed = [] ∧ Go.Proofs.Tryz.f189.goes = false := ⟨by kernel_rfl, by kernel_rfl⟩
theorem gn190 : Go.Proofs.Tryz.f190.body.elim [] Code.globalsNamed = [] ∧ Go.Proofs.Tryz.f190.goes = false := ⟨by kernel_rfl, by kernel_rfl⟩
theorem gn191 : Go.Proofs.Tryz.f191.body.elim [] Code.globalsNamed = [] ∧ Go.Proofs.Tryz.f191.goes = false := ⟨by kernel_rfl, by kernel_rfl⟩
theorem gn192 : Go.Proofs.Tryz.f192.body.elim [] Code.globalsNamed = [] ∧ Go.Proofs.Tryz.f192.goes = false := ⟨by kernel_rfl, by kernel_rfl⟩
theorem gn193 : Go.Proofs.Tryz.f193.body.elim [] Code.globalsNamed = [] ∧ Go.Proofs.Tryz.f193.goes = false := ⟨by kernel_rfl, by kernel_rfl⟩
theorem gn194 : Go.Proofs.Tryz.f194.body.elim [] Code.globalsNamed = [] ∧ Go.Proofs.Tryz.f194.goes = false := ⟨by kernel_rfl, by kernel_rfl⟩
theorem gn195 : Go.Proofs.Tryz.f195.body.elim [] Code.globalsNamed = [] ∧ Go.Proofs.Tryz.f195.goes = false := ⟨by kernel_rfl, by kernel_rfl⟩
theorem gn196 : Go.Proofs.Tryz.f196.body.elim [] Code.globalsNamed = [] ∧ Go.Proofs.Tryz.f196.goes = false := ⟨by kernel_rfl, by kernel_rfl⟩
theorem gn197 : Go.Proofs.Tryz.f197.body.elim [] Code.globalsNamed = [] ∧ Go.Proofs.Tryz.f197.goes = false := ⟨by kernel_rfl, by kernel_rfl⟩
theorem gn198 : Go.Proofs.Tryz.f198.body.elim [] Code.globalsNamed = [] ∧ Go.Proofs.Tryz.f198.goes = false := ⟨by kernel_rfl, by kernel_rfl⟩
theorem gn199 : Go.Proofs.Tryz.f199.body.elim [] Code.globalsNamed = [] ∧ Go.Proofs.Tryz.f199.goes = false := ⟨by kernel_rfl, by kernel_rfl⟩
theorem gn200 : Go.Proofs.Tryz.f200.body.elim [] Code.globalsNamed = [] ∧ Go.Proofs.Tryz.f200.goes = false := ⟨by kernel_rfl, by kernel_rfl⟩
theorem gn201 : Go.Proofs.Tryz.f201.body.elim [] Code.globalsNamed = [] ∧ Go.Proofs.Tryz.f201.goes = false := ⟨by kernel_rfl, by kernel_rfl⟩
theorem gn202 : Go.Proofs.Tryz.f202.body.elim [] Code.globalsNamed = [] ∧ Go.Proofs.Tryz.f202.goes = false := ⟨by kernel_rfl, by kernel_rfl⟩
theorem gn203 : Go.Proofs.Tryz.f203.body.elim [] Code.globalsNamed = [] ∧ Go.Proofs.Tryz.f203.goes = false := ⟨by kernel_rfl, by kernel_rfl⟩
theorem gn204 : Go.Proofs.Tryz.f204.body.elim [] Code.globalsNamed = [] ∧ Go.Proofs.Tryz.f204.goes = false := ⟨by kernel_rfl, by kernel_rfl⟩
theorem gn205 : Go.Proofs.Tryz.f205.body.elim [] Code.globalsNamed = [] ∧ Go.Proofs.Tryz.f205.goes = false := ⟨by kernel_rfl, by kernel_rfl⟩
theorem gn206 : Go.Proofs.Tryz.f206.body.elim [] Code.globalsNamed = [] ∧ Go.Proofs.Tryz.f206.goes = false := ⟨by kernel_rfl, by kernel_rfl⟩
theorem gn207 : Go.Proofs.Tryz.f207.body.elim [] Code.globalsNamed = [] ∧ Go.Proofs.Tryz.f207.goes = false := ⟨by kernel_rfl, by kernel_rfl⟩
theorem gn208 : Go.Proofs.Tryz.f208.body.elim [] Code.globalsNamed = [] ∧ Go.Proofs.Tryz.f208.goes = false := ⟨by kernel_rfl, by kernel_rfl⟩
theorem gn209 : Go.Proofs.Tryz.f209.body.elim [] Code.globalsNamed = [] ∧ Go.Proofs.Tryz.f209.goes = false := ⟨by kernel_rfl, by kernel_rfl⟩
theorem gn210 : Go.Proofs.Tryz.f210.body.elim [] Code.globalsNamed = [] ∧ Go.Proofs.Tryz.f210.goes = false := ⟨by kernel_rfl, by kernel_rfl⟩
theorem gn211 : Go.Proofs.Tryz.f211.body.elim [] Code.globalsNamed = [] ∧ Go.Proofs.Tryz.f211.goes = false := ⟨by kernel_rfl, by kernel_rfl⟩
theorem gn212 : Go.Proofs.Tryz.f212.body.elim [] Code.globalsNamed = [] ∧ Go.Proofs.Tryz.f212.goes = false := ⟨by kernel_rfl, by kernel_rfl⟩
theorem gn213 : Go.Proofs.Tryz.f213.body.elim [] Code.globalsNamed = [] ∧ Go.Proofs.Tryz.f213.goes = false := ⟨by kernel_rfl, by kernel_rfl⟩
theorem gn214 : Go.Proofs.Tryz.f214.body.elim [] Code.globalsNamed = [] ∧ Go.Proofs.Tryz.f214.goes = false := ⟨by kernel_rfl, by kernel_rfl⟩
theorem gn215 : Go.Proofs.Tryz.f215.body.elim [] Code.globalsNamed = [] ∧ Go.Proofs.Tryz.f215.goes = false := ⟨by kernel_rfl, by kernel_rfl⟩
theorem gn216 : Go.Proofs.Tryz.f216.body.elim [] Code.globalsNamed = [] ∧ Go.Proofs.Tryz.f216.goes = false := ⟨by kernel_rfl, by kernel_rfl⟩
theorem gn217 : Go.Proofs.Tryz.f217.body.elim [] Code.globalsNamed = [] ∧ Go.Proofs.Tryz.f217.goes = false := ⟨by kernel_rfl, by kernel_rfl⟩
theorem gn218 : Go.Proofs.Tryz.f218.body.elim [] Code.globalsNamed = [] ∧ Go.Proofs.Tryz.f218.goes = false := ⟨by kernel_rfl, by kernel_rfl⟩
theorem gn219 : Go.Proofs.Tryz.f219.body.elim [] Code.globalsNamed = [] ∧ Go.Proofs.Tryz.f219.goes = false := ⟨by kernel_rfl, by kernel_rfl⟩
theorem gn220 : Go.Proofs.Tryz.f220.body.elim [] Code.globalsNamed = [] ∧ Go.Proofs.Tryz.f220.goes = false := ⟨by kernel_rfl, by kernel_rfl⟩
theorem gn221 : Go.Proofs.Tryz.f221.body.elim [] Code.globalsNamed = [] ∧ Go.Proofs.Tryz.f221.goes = false := ⟨by kernel_rfl, by kernel_rfl⟩
theorem gn222 : Go.Proofs.Tryz.f222.body.elim [] Code.globalsNamed = [] ∧ Go.Proofs.Tryz.f222.goes = false := ⟨by kernel_rfl, by kernel_rfl⟩
theorem gn223 : Go.Proofs.Tryz.f223.body.elim [] Code.globalsNamed = [] ∧ Go.Proofs.Tryz.f223.goes = false := ⟨by kernel_rfl, by kernel_rfl⟩
theorem gn224 : Go.Proofs.Tryz.f224.body.elim [] Code.globalsNamed = [] ∧ Go.Proofs.Tryz.f224.goes = false := ⟨by kernel_rfl, by kernel_rfl⟩
theorem gn225 : Go.Proofs.Tryz.f225.body.elim [] Code.globalsNamed = [] ∧ Go.Proofs.Tryz.f225.goes = false := ⟨by kernel_rfl, by kernel_rfl⟩
theorem gn226 : Go.Proofs.Tryz.f226.body.elim [] Code.globalsNamed = [] ∧ Go.Proofs.Tryz.f226.goes = false := ⟨by kernel_rfl, by kernel_rfl⟩
theorem gn227 : Go.Proofs.Tryz.f227.body.elim [] Code.globalsNamed = [] ∧ Go.Proofs.Tryz.f227.goes = false := ⟨by kernel_rfl, by kernel_rfl⟩
theorem gn228 : Go.Proofs.Tryz.f228.body.elim [] Code.globalsNamed = [] ∧ Go.Proofs.Tryz.f228.goes = false := ⟨by kernel_rfl, by kernel_rfl⟩
theorem gn229 : Go.Proofs.Tryz.f229.body.elim [] Code.globalsNamed = [] ∧ Go.Proofs.Tryz.f229.goes = false := ⟨by kernel_rfl, by kernel_rfl⟩
theorem gn230 : Go.Proofs.Tryz.f230.body.elim [] Code.globalsNamed = [] ∧ Go.Proofs.Tryz.f230.goes = false := ⟨by kernel_rfl, by kernel_rfl⟩
theorem gn231 : Go.Proofs.Tryz.f231.body.elim [] Code.globalsNamed = [] ∧ Go.Proofs.Tryz.f231.goes = false := ⟨by kernel_rfl, by kernel_rfl⟩
theorem gn232 : Go.Proofs.Tryz.f232.body.elim [] Code.globalsNamed = [] ∧ Go.Proofs.Tryz.f232.goes = false := ⟨by kernel_rfl, by kernel_rfl⟩
theorem gn233 : Go.Proofs.Tryz.f233.body.elim [] Code.globalsNamed = [] ∧ Go.Proofs.Tryz.f233.goes = false := ⟨by kernel_rfl, by kernel_rfl⟩
theorem gn234 : Go.Proofs.Tryz.f234.body.elim [] Code.globalsNamed = [] ∧ Go.Proofs.Tryz.f234.goes = false := ⟨by kernel_rfl, by kernel_rfl⟩
theorem gn235 : Go.Proofs.Tryz.f235.body.elim [] Code.globalsNamed = [] ∧ Go.Proofs.Tryz.f235.goes = false := ⟨by kernel_rfl, by kernel_rfl⟩
theorem gn236 : Go.Proofs.Tryz.f236.body.elim [] Code.globalsNamed = [] ∧ Go.Proofs.Tryz.f236.goes = false := ⟨by kernel_rfl, by kernel_rfl⟩
theorem gn237 : Go.Proofs.Tryz.f237.body.elim [] Code.globalsNamed = [] ∧ Go.Proofs.Tryz.f237.goes = false := ⟨by kernel_rfl, by kernel_rfl⟩
theorem gn238 : Go.Proofs.Tryz.f238.body.elim [] Code.globalsNamed = [] ∧ Go.Proofs.Tryz.f238.goes = false := ⟨by kernel_rfl, by kernel_rfl⟩
theorem gn239 : Go.Proofs.Tryz.f239.body.elim [] Code.globalsNamed = [] ∧ Go.Proofs.Tryz.f239.goes = false := ⟨by kernel_rfl, by kernel_rfl⟩
theorem gn240 : Go.Proofs.Tryz.f240.body.elim [] Code.globalsNamed = [] ∧ Go.Proofs.Tryz.f240.goes = false := ⟨by kernel_rfl, by kernel_rfl⟩
theorem gn241 : Go.Proofs.Tryz.f241.body.elim [] Code.globalsNamed = [] ∧ Go.Proofs.Tryz.f241.goes = false := ⟨by kernel_rfl, by kernel_rfl⟩
theorem gn242 : Go.Proofs.Tryz.f242.body.elim [] Code.globalsNamed = [] ∧ Go.Proofs.Tryz.f242.goes = false := ⟨by kernel_rfl, by kernel_rfl⟩
theorem gn243 : Go.Proofs.Tryz.f243.body.elim [] Code.globalsNamed = [] ∧ Go.Proofs.Tryz.f243.goes = false := ⟨by kernel_rfl, by kernel_rfl⟩
theorem gn244 : Go.Proofs.Tryz.f244.body.elim [] Code.globalsNamed = [] ∧ Go.Proofs.Tryz.f244.goes = false := ⟨by kernel_rfl, by kernel_rfl⟩
theorem gn245 : Go.Proofs.Tryz.f245.body.elim [] Code.globalsNamed = [] ∧ Go.Proofs.Tryz.f245.goes = false := ⟨by kernel_rfl, by kernel_rfl⟩
theorem gn246 : Go.Proofs.Tryz.f246.body.elim [] Code.globalsNamed = [] ∧ Go.Proofs.Tryz.f246.goes = false := ⟨by kernel_rfl, by kernel_rfl⟩
theorem gn247 : Go.Proofs.Tryz.f247.body.elim [] Code.globalsNamed = [] ∧ Go.Proofs.Tryz.f247.goes = false := ⟨by kernel_rfl, by kernel_rfl⟩
theorem gn248 : Go.Proofs.Tryz.f248.body.elim [] Code.globalsNamed = [] ∧ Go.Proofs.Tryz.f248.goes = false := ⟨by kernel_rfl, by kernel_rfl⟩
theorem gn249 : Go.Proofs.Tryz.f249.body.elim [] Code.globalsNamed = [] ∧ Go.Proofs.Tryz.f249.goes = false := ⟨by kernel_rfl, by kernel_rfl⟩
theorem gn250 : Go.Proofs.Tryz.f250.body.elim [] Code.globalsNamed = [] ∧ Go.Proofs.Tryz.f250.goes = false := ⟨by kernel_rfl, by kernel_rfl⟩
theorem gn251 : Go.Proofs.Tryz.f251.body.elim [] Code.globalsNamed = [] ∧ Go.Proofs.Tryz.f251.goes = false := ⟨by kernel_rfl, by kernel_rfl⟩
theorem gn252 : Go.Proofs.Tryz.f252.body.elim [] Code.globalsNamed = [] ∧ Go.Proofs.Tryz.f252.goes = false := ⟨by kernel_rfl, by kernel_rfl⟩
theorem gn253 : Go.Proofs.Tryz.f253.body.elim [] Code.globalsNamed = [] ∧ Go.Proofs.Tryz.f253.goes = false := ⟨by kernel_rfl, by kernel_rfl⟩
theorem gn254 : Go.Proofs.Tryz.f254.body.elim [] Code.globalsNamed = [] ∧ Go.Proofs.Tryz.f254.goes = false := ⟨by kernel_rfl, by kernel_rfl⟩
theorem gn255 : Go.Proofs.Tryz.f255.body.elim [] Code.globalsNamed = [] ∧ Go.Proofs.Tryz.f255.goes = false := ⟨by kernel_rfl, by kernel_rfl⟩
theorem gn256 : Go.Proofs.Tryz.f256.body.elim [] Code.globalsNamed = [] ∧ Go.Proofs.Tryz.f256.goes = false := ⟨by kernel_rfl, by kernel_rfl⟩
theorem gn257 : Go.Proofs.Tryz.f257.body.elim [] Code.globalsNamed = [] ∧ Go.Proofs.Tryz.f257.goes = false := ⟨by kernel_rfl, by kernel_rfl⟩
theorem gn258 : Go.Proofs.Tryz.f258.body.elim [] Code.globalsNamed = [] ∧ Go.Proofs.Tryz.f258.goes = false := ⟨by kernel_rfl, by kernel_rfl⟩
theorem gn259 : Go.Proofs.Tryz.f259.body.elim [] Code.globalsNamed = [] ∧ Go.Proofs.Tryz.f259.goes = false := ⟨by kernel_rfl, by kernel_rfl⟩
theorem gn260 : Go.Proofs.Tryz.f260.body.elim [] Code.globalsNamed = [] ∧ Go.Proofs.Tryz.f260.goes = false := ⟨by kernel_rfl, by kernel_rfl⟩
theorem gn261 : Go.Proofs.Tryz.f261.body.elim [] Code.globalsNamed = [] ∧ Go.Proofs.Tryz.f261.goes = false := ⟨by kernel_rfl, by kernel_rfl⟩
theorem gn262 : Go.Proofs.Tryz.f262.body.elim [] Code.globalsNamed = [] ∧ Go.Proofs.Tryz.f262.goes = false := ⟨by kernel_rfl, by kernel_rfl⟩
theorem gn263 : Go.Proofs.Tryz.f263.body.elim [] Code.globalsNamed = [] ∧ Go.Proofs.Tryz.f263.goes = false := ⟨by kernel_rfl, by kernel_rfl⟩
theorem gn264 : Go.Proofs.Tryz.f264.body.elim [] Code.globalsNamed = [] ∧ Go.Proofs.Tryz.f264.goes = false := ⟨by kernel_rfl, by kernel_rfl⟩
theorem gn265 : Go.Proofs.Tryz.f265.body.elim [] Code.globalsNamed = [] ∧ Go.Proofs.Tryz.f265.goes = false := ⟨by kernel_rfl, by kernel_rfl⟩
theorem gn266 : Go.Proofs.Tryz.f266.body.elim [] Code.globalsNamed = [] ∧ Go.Proofs.Tryz.f266.goes = false := ⟨by kernel_rfl, by kernel_rfl⟩
theorem gn267 : Go.Proofs.Tryz.f267.body.elim [] Code.globalsNamed = [] ∧ Go.Proofs.Tryz.f267.goes = false := ⟨by kernel_rfl, by kernel_rfl⟩
theorem gn268 : Go.Proofs.Tryz.f268.body.elim [] Code.globalsNamed = [] ∧ Go.Proofs.Tryz.f268.goes = false := ⟨by kernel_rfl, by kernel_rfl⟩
theorem gn269 : Go.Proofs.Tryz.f269.body.elim [] Code.globalsNamed = [] ∧ Go.Proofs.Tryz.f269.goes = false := ⟨by kernel_rfl, by kernel_rfl⟩
theorem gn270 : Go.Proofs.Tryz.f270.body.elim [] Code.globalsNamed = [] ∧ Go.Proofs.Tryz.f270.goes = false := ⟨by kernel_rfl, by kernel_rfl⟩
theorem gn271 : Go.Proofs.Tryz.f271.body.elim [] Code.globalsNamed = [] ∧ Go.Proofs.Tryz.f271.goes = false := ⟨by kernel_rfl, by kernel_rfl⟩
theorem gn272 : Go.Proofs.Tryz.f272.body.elim [] Code.globalsNamed = [] ∧ Go.Proofs.Tryz.f272.goes = false := ⟨by kernel_rfl, by kernel_rfl⟩
theorem gn273 : Go.Proofs.Tryz.f273.body.elim [] Code.globalsNamed = [] ∧ Go.Proofs.Tryz.f273.goes = false := ⟨by kernel_rfl, by kernel_rfl⟩
theorem gn274 : Go.Proofs.Tryz.f274.body.elim [] Code.globalsNamed = [] ∧ Go.Proofs.Tryz.f274.goes = false := ⟨by kernel_rfl, by kernel_rfl⟩
theorem gn275 : Go.Proofs.Tryz.f275.body.elim [] Code.globalsNamed = [] ∧ Go.Proofs.Tryz.f275.goes = false := ⟨by kernel_rfl, by kernel_rfl⟩
theorem gn276 : Go.Proofs.Tryz.f276.body.elim [] Code.globalsNamed = [] ∧ Go.Proofs.Tryz.f276.goes = false := ⟨by kernel_rfl, by kernel_rfl⟩
theorem gn277 : Go.Proofs.Tryz.f277.body.elim [] Code.globalsNamed = [] ∧ Go.Proofs.Tryz.f277.goes = false := ⟨by kernel_rfl, by kernel_rfl⟩
theorem gn278 : Go.Proofs.Tryz.f278.body.elim [] Code.globalsNamed = [] ∧ Go.Proofs.Tryz.f278.goes = false := ⟨by kernel_rfl, by kernel_rfl⟩
theorem gn279 : Go.Proofs.Tryz.f279.body.elim [] Code.globalsNamed = [] ∧ Go.Proofs.Tryz.f279.goes = false := ⟨by kernel_rfl, by kernel_rfl⟩
theorem gn280 : Go.Proofs.Tryz.f280.body.elim [] Code.globalsNamed = [] ∧ Go.Proofs.Tryz.f280.goes = false := ⟨by kernel_rfl, by kernel_rfl⟩
theorem gn281 : Go.Proofs.Tryz.f281.body.elim [] Code.globalsNamed = [] ∧ Go.Proofs.Tryz.f281.goes = false := ⟨by kernel_rfl, by kernel_rfl⟩
theorem gn282 : Go.Proofs.Tryz.f282.body.elim [] Code.globalsNamed = [] ∧ Go.Proofs.Tryz.f282.goes = false := ⟨by kernel_rfl, by kernel_rfl⟩
theorem gn283 : Go.Proofs.Tryz.f283.body.elim [] Code.globalsNamed = [] ∧ Go.Proofs.Tryz.f283.goes = false := ⟨by kernel_rfl, by kernel_rfl⟩
theorem gn284 : Go.Proofs.Tryz.f284.body.elim [] Code.globalsNamed = [] ∧ Go.Proofs.Tryz.f284.goes = false := ⟨by kernel_rfl, by kernel_rfl⟩
theorem gn285 : Go.Proofs.Tryz.f285.body.elim [] Code.globalsNamed = [] ∧ Go.Proofs.Tryz.f285.goes = false := ⟨by kernel_rfl, by kernel_rfl⟩
theorem gn286 : Go.Proofs.Tryz.f286.body.elim [] Code.globalsNamed = [] ∧ Go.Proofs.Tryz.f286.goes = false := ⟨by kernel_rfl, by kernel_rfl⟩
theorem gn287 : Go.Proofs.Tryz.f287.body.elim [] Code.globalsNamed = [] ∧ Go.Proofs.Tryz.f287.goes = false := ⟨by kernel_rfl, by kernel_rfl⟩
theorem gn288 : Go.Proofs.Tryz.f288.body.elim [] Code.globalsNamed = [] ∧ Go.Proofs.Tryz.f288.goes = false := ⟨by kernel_rfl, by kernel_rfl⟩
theorem gn289 : Go.Proofs.Tryz.f289.body.elim [] Code.globalsNamed = [] ∧ Go.Proofs.Tryz.f289.goes = false := ⟨by kernel_rfl, by kernel_rfl⟩
theorem gn290 : Go.Proofs.Tryz.f290.body.elim [] Code.globalsNamed = [] ∧ Go.Proofs.Tryz.f290.goes = false := ⟨by kernel_rfl, by kernel_rfl⟩
theorem gn291 : Go.Proofs.Tryz.f291.body.elim [] Code.globalsNamed = [] ∧ Go.Proofs.Tryz.f291.goes = false := ⟨by kernel_rfl, by kernel_rfl⟩
theorem gn292 : Go.Proofs.Tryz.f292.body.elim [] Code.globalsNamed = [] ∧ Go.Proofs.Tryz.f292.goes = false := ⟨by kernel_rfl, by kernel_rfl⟩
theorem gn293 : Go.Proofs.Tryz.f293.body.elim [] Code.globalsNamed = [] ∧ Go.Proofs.Tryz.f293.goes = false := ⟨by kernel_rfl, by kernel_rfl⟩
theorem gn294 : Go.Proofs.Tryz.f294.body.elim [] Code.globalsNamed = [] ∧ Go.Proofs.Tryz.f294.goes = false := ⟨by kernel_rfl, by kernel_rfl⟩
theorem gn295 : Go.Proofs.Tryz.f295.body.elim [] Code.globalsNamed = [] ∧ Go.Proofs.Tryz.f295.goes = false := ⟨by kernel_rfl, by kernel_rfl⟩
theorem gn296 : Go.Proofs.Tryz.f296.body.elim [] Code.globalsNamed = [] ∧ Go.Proofs.Tryz.f296.goes = false := ⟨by kernel_rfl, by kernel_rfl⟩
theorem gn297 : Go.Proofs.Tryz.f297.body.elim [] Code.globalsNamed = [] ∧ Go.Proofs.Tryz.f297.goes = false := ⟨by kernel_rfl, by kernel_rfl⟩
theorem gn298 : Go.Proofs.Tryz.f298.body.elim [] Code.globalsNamed = [] ∧ Go.Proofs.Tryz.f298.goes = false := ⟨by kernel_rfl, by kernel_rfl⟩
theorem gn299 : Go.Proofs.Tryz.f299.body.elim [] Code.globalsNamed = [] ∧ Go.Proofs.Tryz.f299.goes = false := ⟨by kernel_rfl, by kernel_rfl⟩
theorem gn300 : Go.Proofs.Tryz.f300.body.elim [] Code.globalsNamed = [] ∧ Go.Proofs.Tryz.f300.goes = false := ⟨by kernel_rfl, by kernel_rfl⟩
theorem gn301 : Go.Proofs.Tryz.f301.body.elim [] Code.globalsNamed = [] ∧ Go.Proofs.Tryz.f301.goes = false := ⟨by kernel_rfl, by kernel_rfl⟩
theorem gn302 : Go.Proofs.Tryz.f302.body.elim [] Code.globalsNamed = [] ∧ Go.Proofs.Tryz.f302.goes = false := ⟨by kernel_rfl, by kernel_rfl⟩
theorem gn303 : Go.Proofs.Tryz.f303.body.elim [] Code.globalsNamed = [] ∧ Go.Proofs.Tryz.f303.goes = false := ⟨by kernel_rfl, by kernel_rfl⟩
theorem gn304 : Go.Proofs.Tryz.f304.body.elim [] Code.globalsNamed = [] ∧ Go.Proofs.Tryz.f304.goes = false := ⟨by kernel_rfl, by kernel_rfl⟩
theorem gn305 : Go.Proofs.Tryz.f305.body.elim [] Code.globalsNamed = [] ∧ Go.Proofs.Tryz.f305.goes = false := ⟨by kernel_rfl, by kernel_rfl⟩
theorem gn306 : Go.Proofs.Tryz.f306.body.elim [] Code.globalsNamed = [] ∧ Go.Proofs.Tryz.f306.goes = false := ⟨by kernel_rfl, by kernel_rfl⟩
theorem gn307 : Go.Proofs.Tryz.f307.body.elim [] Code.globalsNamed = [] ∧ Go.Proofs.Tryz.f307.goes = false := ⟨by kernel_rfl, by kernel_rfl⟩
theorem gn308 : Go.Proofs.Tryz.f308.body.elim [] Code.globalsNamed = [] ∧ Go.Proofs.Tryz.f308.goes = false := ⟨by kernel_rfl, by kernel_rfl⟩
theorem gn309 : Go.Proofs.Tryz.f309.body.elim [] Code.globalsNamed = [] ∧ Go.Proofs.Tryz.f309.goes = false := ⟨by kernel_rfl, by kernel_rfl⟩
theorem gn310 : Go.Proofs.Tryz.f310.body.elim [] Code.globalsNamed = [] ∧ Go.Proofs.Tryz.f310.goes = false := ⟨by kernel_rfl, by kernel_rfl⟩
theorem gn311 : Go.Proofs.Tryz.f311.body.elim [] Code.globalsNamed = [] ∧ Go.Proofs.Tryz.f311.goes = false := ⟨by kernel_rfl, by kernel_rfl⟩
theorem gn312 : Go.Proofs.Tryz.f312.body.elim [] Code.globalsNamed = [] ∧ Go.Proofs.Tryz.f312.goes = false := ⟨by kernel_rfl, by kernel_rfl⟩
theorem gn313 : Go.Proofs.Tryz.f313.body.elim [] Code.globalsNamed = [] ∧ Go.Proofs.Tryz.f313.goes = false := ⟨by kernel_rfl, by kernel_rfl⟩
theorem gn314 : Go.Proofs.Tryz.f314.body.elim [] Code.globalsNamed = [] ∧ Go.Proofs.Tryz.f314.goes = false := ⟨by kernel_rfl, by kernel_rfl⟩
theorem gn315 : Go.Proofs.Tryz.f315.body.elim [] Code.globalsNamed = [] ∧ Go.Proofs.Tryz.f315.goes = false := ⟨by kernel_rfl, by kernel_rfl⟩
theorem gn316 : Go.Proofs.Tryz.f316.body.elim [] Code.globalsNamed = [] ∧ Go.Proofs.Tryz.f316.goes = false := ⟨by kernel_rfl, by kernel_rfl⟩
theorem gn317 : Go.Proofs.Tryz.f317.body.elim [] Code.globalsNamed = [] ∧ Go.Proofs.Tryz.f317.goes = false := ⟨by kernel_rfl, by kernel_rfl⟩
theorem gn318 : Go.Proofs.Tryz.f318.body.elim [] Code.globalsNamed = [] ∧ Go.Proofs.Tryz.f318.goes = false := ⟨by kernel_rfl, by kernel_rfl⟩
theorem gn319 : Go.Proofs.Tryz.f319.body.elim [] Code.globalsNamed = [] ∧ Go.Proofs.Tryz.f319.goes = false := ⟨by kernel_rfl, by kernel_rfl⟩
theorem gn320 : Go.Proofs.Tryz.f320.body.elim [] Code.globalsNamed = [] ∧ Go.Proofs.Tryz.f320.goes = false := ⟨by kernel_rfl, by kernel_rfl⟩
theorem gn321 : Go.Proofs.Tryz.f321.body.elim [] Code.globalsNamed = [] ∧ Go.Proofs.Tryz.f321.goes = false := ⟨by kernel_rfl, by kernel_rfl⟩
theorem gn322 : Go.Proofs.Tryz.f322.body.elim [] Code.globalsNamed = [] ∧ Go.Proofs.Tryz.f322.goes = false := ⟨by kernel_rfl, by kernel_rfl⟩
theorem gn323 : Go.Proofs.Tryz.f323.body.elim [] Code.globalsNamed = [] ∧ Go.Proofs.Tryz.f323.goes = false := ⟨by kernel_rfl, by kernel_rfl⟩
theorem gn324 : Go.Proofs.Tryz.f324.body.elim [] Code.globalsNamed = [] ∧ Go.Proofs.Tryz.f324.goes = false := ⟨by kernel_rfl, by kernel_rfl⟩
theorem gn325 : Go.Proofs.Tryz.f325.body.elim [] Code.globalsNamed = [] ∧ Go.Proofs.Tryz.f325.goes = false := ⟨by kernel_rfl, by kernel_rfl⟩
theorem gn326 : Go.Proofs.Tryz.f326.body.elim [] Code.globalsNamed = [] ∧ Go.Proofs.Tryz.f326.goes = false := ⟨by kernel_rfl, by kernel_rfl⟩
theorem gn327 : Go.Proofs.Tryz.f327.body.elim [] Code.globalsNamed = [] ∧ Go.Proofs.Tryz.f327.goes = false := ⟨by kernel_rfl, by kernel_rfl⟩
theorem gn328 : Go.Proofs.Tryz.f328.body.elim [] Code.globalsNamed = [] ∧ Go.Proofs.Tryz.f328.goes = false := ⟨by kernel_rfl, by kernel_rfl⟩
theorem gn329 : Go.Proofs.Tryz.f329.body.elim [] Code.globalsNamed = [] ∧ Go.Proofs.Tryz.f329.goes = false := ⟨by kernel_rfl, by kernel_rfl⟩
theorem gn330 : Go.Proofs.Tryz.f330.body.elim [] Code.globalsNamed = [] ∧ Go.Proofs.Tryz.f330.goes = false := ⟨by kernel_rfl, by kernel_rfl⟩
theorem gn331 : Go.Proofs.Tryz.f331.body.elim [] Code.globalsNamed = [] ∧ Go.Proofs.Tryz.f331.goes = false := ⟨by kernel_rfl, by kernel_rfl⟩
theorem gn332 : Go.Proofs.Tryz.f332.body.elim [] Code.globalsNamed = [] ∧ Go.Proofs.Tryz.f332.goes = false := ⟨by kernel_rfl, by kernel_rfl⟩
theorem gn333 : Go.Proofs.Tryz.f333.body.elim [] Code.globalsNamed = [] ∧ Go.Proofs.Tryz.f333.goes = false := ⟨by kernel_rfl, by kernel_rfl⟩
theorem gn334 : Go.Proofs.Tryz.f334.body.elim [] Code.globalsNamed = [] ∧ Go.Proofs.Tryz.f334.goes = false := ⟨by kernel_rfl, by kernel_rfl⟩
theorem gn335 : Go.Proofs.Tryz.f335.body.elim [] Code.globalsNamed = [] ∧ Go.Proofs.Tryz.f335.goes = false := ⟨by kernel_rfl, by kernel_rfl⟩
theorem gn336 : Go.Proofs.Tryz.f336.body.elim [] Code.globalsNamed = [] ∧ Go.Proofs.Tryz.f336.goes = false := ⟨by kernel_rfl, by kernel_rfl⟩
theorem gn337 : Go.Proofs.Tryz.f337.body.elim [] Code.globalsNamed = [] ∧ Go.Proofs.Tryz.f337.goes = false := ⟨by kernel_rfl, by kernel_rfl⟩
theorem gn338 : Go.Proofs.Tryz.f338.body.elim [] Code.globalsNamed = [] ∧ Go.Proofs.Tryz.f338.goes = false := ⟨by kernel_rfl, by kernel_rfl⟩
theorem gn339 : Go.Proofs.Tryz.f339.body.elim [] Code.globalsNamed = [] ∧ Go.Proofs.Tryz.f339.goes = false := ⟨by kernel_rfl, by kernel_rfl⟩
theorem gn340 : Go.Proofs.Tryz.f340.body.elim [] Code.globalsNamed = [] ∧ Go.Proofs.Tryz.f340.goes = false := ⟨by kernel_rfl, by kernel_rfl⟩
theorem gn341 : Go.Proofs.Tryz.f341.body.elim [] Code.globalsNamed = [] ∧ Go.Proofs.Tryz.f341.goes = false := ⟨by kernel_rfl, by kernel_rfl⟩
theorem gn342 : Go.Proofs.Tryz.f342.body.elim [] Code.globalsNamed = [] ∧ Go.Proofs.Tryz.f342.goes = false := ⟨by kernel_rfl, by kernel_rfl⟩
theorem gn343 : Go.Proofs.Tryz.f343.body.elim [] Code.globalsNamed = [] ∧ Go.Proofs.Tryz.f343.goes = false := ⟨by kernel_rfl, by kernel_rfl⟩
theorem gn344 : Go.Proofs.Tryz.f344.body.elim [] Code.globalsNamed = [] ∧ Go.Proofs.Tryz.f344.goes = false := ⟨by kernel_rfl, by kernel_rfl⟩
theorem gn345 : Go.Proofs.Tryz.f345.body.elim [] Code.globalsNamed = [] ∧ Go.Proofs.Tryz.f345.goes = false := ⟨by kernel_rfl, by kernel_rfl⟩
theorem gn346 : Go.Proofs.Tryz.f346.body.elim [] Code.globalsNamed = [] ∧ Go.Proofs.Tryz.f346.goes = false := ⟨by kernel_rfl, by kernel_rfl⟩
theorem gn347 : Go.Proofs.Tryz.f347.body.elim [] Code.globalsNamed = [] ∧ Go.Proofs.Tryz.f347.goes = false := ⟨by kernel_rfl, by kernel_rfl⟩
theorem gn348 : Go.Proofs.Tryz.f348.body.elim [] Code.globalsNamed = [] ∧ Go.Proofs.Tryz.f348.goes = false := ⟨by kernel_rfl, by kernel_rfl⟩
theorem gn349 : Go.Proofs.Tryz.f349.body.elim [] Code.globalsNamed = [] ∧ Go.Proofs.Tryz.f349.goes = false := ⟨by kernel_rfl, by kernel_rfl⟩
theorem gn350 : Go.Proofs.Tryz.f350.body.elim [] Code.globalsNamed = [] ∧ Go.Proofs.Tryz.f350.goes = false := ⟨by kernel_rfl, by kernel_rfl⟩
theorem gn351 : Go.Proofs.Tryz.f351.body.elim [] Code.globalsNamed = [] ∧ Go.Proofs.Tryz.f351.goes = false := ⟨by kernel_rfl, by kernel_rfl⟩
theorem gn352 : Go.Proofs.Tryz.f352.body.elim [] Code.globalsNamed = [] ∧ Go.Proofs.Tryz.f352.goes = false := ⟨by kernel_rfl, by kernel_rfl⟩
theorem gn353 : Go.Proofs.Tryz.f353.body.elim [] Code.globalsNamed = [] ∧ Go.Proofs.Tryz.f353.goes = false := ⟨by kernel_rfl, by kernel_rfl⟩
theorem gn354 : Go.Proofs.Tryz.f354.body.elim [] Code.globalsNamed = [] ∧ Go.Proofs.Tryz.f354.goes = false := ⟨by kernel_rfl, by kernel_rfl⟩
theorem gn355 : Go.Proofs.Tryz.f355.body.elim [] Code.globalsNamed = [] ∧ Go.Proofs.Tryz.f355.goes = false := ⟨by kernel_rfl, by kernel_rfl⟩
theorem gn356 : Go.Proofs.Tryz.f356.body.elim [] Code.globalsNamed = [] ∧ Go.Proofs.Tryz.f356.goes = false := ⟨by kernel_rfl, by kernel_rfl⟩
theorem gn357 : Go.Proofs.Tryz.f357.body.elim [] Code.globalsNamed = [] ∧ Go.Proofs.Tryz.f357.goes = false := ⟨by kernel_rfl, by kernel_rfl⟩
theorem gn358 : Go.Proofs.Tryz.f358.body.elim [] Code.globalsNamed = [] ∧ Go.Proofs.Tryz.f358.goes = false := ⟨by kernel_rfl, by kernel_rfl⟩
theorem gn359 : Go.Proofs.Tryz.f359.body.elim [] Code.globalsNamed = [] ∧ Go.Proofs.Tryz.f359.goes = false := ⟨by kernel_rfl, by kernel_rfl⟩
theorem gn360 : Go.Proofs.Tryz.f360.body.elim [] Code.globalsNamed = [] ∧ Go.Proofs.Tryz.f360.goes = false := ⟨by kernel_rfl, by kernel_rfl⟩
theorem gn361 : Go.Proofs.Tryz.f361.body.elim [] Code.globalsNamed = [] ∧ Go.Proofs.Tryz.f361.goes = false := ⟨by kernel_rfl, by kernel_rfl⟩
theorem gn362 : Go.Proofs.Tryz.f362.body.elim [] Code.globalsNamed = [] ∧ Go.Proofs.Tryz.f362.goes = false := ⟨by kernel_rfl, by kernel_rfl⟩
theorem gn363 : Go.Proofs.Tryz.f363.body.elim [] Code.globalsNamed = [] ∧ Go.Proofs.Tryz.f363.goes = false := ⟨by kernel_rfl, by kernel_rfl⟩
theorem gn364 : Go.Proofs.Tryz.f364.body.elim [] Code.globalsNamed = [] ∧ Go.Proofs.Tryz.f364.goes = false := ⟨by kernel_rfl, by kernel_rfl⟩
theorem gn365 : Go.Proofs.Tryz.f365.body.elim [] Code.globalsNamed = [] ∧ Go.Proofs.Tryz.f365.goes = false := ⟨by kernel_rfl, by kernel_rfl⟩
theorem gn366 : Go.Proofs.Tryz.f366.body.elim [] Code.globalsNamed = [] ∧ Go.Proofs.Tryz.f366.goes = false := ⟨by kernel_rfl, by kernel_rfl⟩
theorem gn367 : Go.Proofs.Tryz.f367.body.elim [] Code.globalsNamed = [] ∧ Go.Proofs.Tryz.f367.goes = false := ⟨by kernel_rfl, by kernel_rfl⟩
theorem gn368 : Go.Proofs.Tryz.f368.body.elim [] Code.globalsNamed = [] ∧ Go.Proofs.Tryz.f368.goes = false := ⟨by kernel_rfl, by kernel_rfl⟩
theorem gn369 : Go.Proofs.Tryz.f369.body.elim [] Code.globalsNamed = [] ∧ Go.Proofs.Tryz.f369.goes = false := ⟨by kernel_rfl, by kernel_rfl⟩
theorem gn370 : Go.Proofs.Tryz.f370.body.elim [] Code.globalsNamed = [] ∧ Go.Proofs.Tryz.f370.goes = false := ⟨by kernel_rfl, by kernel_rfl⟩
theorem gn371 : Go.Proofs.Tryz.f371.body.elim [] Code.globalsNamed = [] ∧ Go.Proofs.Tryz.f371.goes = false := ⟨by kernel_rfl, by kernel_rfl⟩
theorem gn372 : Go.Proofs.Tryz.f372.body.elim [] Code.globalsNamed = [] ∧ Go.Proofs.Tryz.f372.goes = false := ⟨by kernel_rfl, by kernel_rfl⟩
theorem gn373 : Go.Proofs.Tryz.f373.body.elim [] Code.globalsNamed = [] ∧ Go.Proofs.Tryz.f373.goes = false := ⟨by kernel_rfl, by kernel_rfl⟩
theorem gn374 : Go.Proofs.Tryz.f374.body.elim [] Code.globalsNamed = [] ∧ Go.Proofs.Tryz.f374.goes = false := ⟨by kernel_rfl, by kernel_rfl⟩
theorem gn375 : Go.Proofs.Tryz.f375.body.elim [] Code.globalsNamed = [] ∧ Go.Proofs.Tryz.f375.goes = false := ⟨by kernel_rfl, by kernel_rfl⟩
theorem gn376 : Go.Proofs.Tryz.f376.body.elim [] Code.globalsNamed = [] ∧ Go.Proofs.Tryz.f376.goes = false := ⟨by kernel_rfl, by kernel_rfl⟩
theorem gn377 : Go.Proofs.Tryz.f377.body.elim [] Code.globalsNamed = [] ∧ Go.Proofs.Tryz.f377.goes = false := ⟨by kernel_rfl, by kernel_rfl⟩
theorem gn378 : Go.Proofs.Tryz.f378.body.elim [] Code.globalsNamed = [] ∧ Go.Proofs.Tryz.f378.goes = false := ⟨by kernel_rfl, by kernel_rfl⟩
theorem gn379 : Go.Proofs.Tryz.f379.body.elim [] Code.globalsNamed = [] ∧ Go.Proofs.Tryz.f379.goes = false := ⟨by kernel_rfl, by kernel_rfl⟩
theorem gn380 : Go.Proofs.Tryz.f380.body.elim [] Code.globalsNamed = [] ∧ Go.Proofs.Tryz.f380.goes = false := ⟨by kernel_rfl, by kernel_rfl⟩
theorem gn381 : Go.Proofs.Tryz.f381.body.elim [] Code.globalsNamed = [] ∧ Go.Proofs.Tryz.f381.goes = false := ⟨by kernel_rfl, by kernel_rfl⟩
theorem gn382 : Go.Proofs.Tryz.f382.body.elim [] Code.globalsNamed = [] ∧ Go.Proofs.Tryz.f382.goes = false := ⟨by kernel_rfl, by kernel_rfl⟩
theorem gn383 : Go.Proofs.Tryz.f383.body.elim [] Code.globalsNamed = [] ∧ Go.Proofs.Tryz.f383.goes = false := ⟨by kernel_rfl, by kernel_rfl⟩
theorem gn384 : Go.Proofs.Tryz.f384.body.elim [] Code.globalsNamed = [] ∧ Go.Proofs.Tryz.f384.goes = false := ⟨by kernel_rfl, by kernel_rfl⟩
theorem gn385 : Go.Proofs.Tryz.f385.body.elim [] Code.globalsNamed = [] ∧ Go.Proofs.Tryz.f385.goes = false := ⟨by kernel_rfl, by kernel_rfl⟩
theorem gn386 : Go.Proofs.Tryz.f386.body.elim [] Code.globalsNamed = [] ∧ Go.Proofs.Tryz.f386.goes = false := ⟨by kernel_rfl, by kernel_rfl⟩
theorem gn387 : Go.Proofs.Tryz.f387.body.elim [] Code.globalsNamed = [] ∧ Go.Proofs.Tryz.f387.goes = false := ⟨by kernel_rfl, by kernel_rfl⟩
theorem gn388 : Go.Proofs.Tryz.f388.body.elim [] Code.globalsNamed = [] ∧ Go.Proofs.Tryz.f388.goes = false := ⟨by kernel_rfl, by kernel_rfl⟩
theorem gn389 : Go.Proofs.Tryz.f389.body.elim [] Code.globalsNamed = [] ∧ Go.Proofs.Tryz.f389.goes = false := ⟨by kernel_rfl, by kernel_rfl⟩
theorem gn390 : Go.Proofs.Tryz.f390.body.elim [] Code.globalsNamed = [] ∧ Go.Proofs.Tryz.f390.goes = false := ⟨by kernel_rfl, by kernel_rfl⟩
theorem gn391 : Go.Proofs.Tryz.f391.body.elim [] Code.globalsNamed = [] ∧ Go.Proofs.Tryz.f391.goes = false := ⟨by kernel_rfl, by kernel_rfl⟩
theorem gn392 : Go.Proofs.Tryz.f392.body.elim [] Code.globalsNamed = [] ∧ Go.Proofs.Tryz.f392.goes = false := ⟨by kernel_rfl, by kernel_rfl⟩
theorem gn393 : Go.Proofs.Tryz.f393.body.elim [] Code.globalsNamed = [] ∧ Go.Proofs.Tryz.f393.goes = false := ⟨by kernel_rfl, by kernel_rfl⟩
theorem gn394 : Go.Proofs.Tryz.f394.body.elim [] Code.globalsNamed = [] ∧ Go.Proofs.Tryz.f394.goes = false := ⟨by kernel_rfl, by kernel_rfl⟩
theorem gn395 : Go.Proofs.Tryz.f395.body.elim [] Code.globalsNamed = [] ∧ Go.Proofs.Tryz.f395.goes = false := ⟨by kernel_rfl, by kernel_rfl⟩
theorem gn396 : Go.Proofs.Tryz.f396.body.elim [] Code.globalsNamed = [] ∧ Go.Proofs.Tryz.f396.goes = false := ⟨by kernel_rfl, by kernel_rfl⟩
theorem gn397 : Go.Proofs.Tryz.f397.body.elim [] Code.globalsNamed = [] ∧ Go.Proofs.Tryz.f397.goes = false := ⟨by kernel_rfl, by kernel_rfl⟩
theorem gn398 : Go.Proofs.Tryz.f398.body.elim [] Code.globalsNamed = [] ∧ Go.Proofs.Tryz.f398.goes = false := ⟨by kernel_rfl, by kernel_rfl⟩
theorem gn399 : Go.Proofs.Tryz.f399.body.elim [] Code.globalsNamed = [] ∧ Go.Proofs.Tryz.f399.goes = false := ⟨by kernel_rfl, by kernel_rfl⟩
theorem gn400 : Go.Proofs.Tryz.f400.body.elim [] Code.globalsNamed = [] ∧ Go.Proofs.Tryz.f400.goes = false := ⟨by kernel_rfl, by kernel_rfl⟩
theorem gn401 : Go.Proofs.Tryz.f401.body.elim [] Code.globalsNamed = [] ∧ Go.Proofs.Tryz.f401.goes = false := ⟨by kernel_rfl, by kernel_rfl⟩
theorem gn402 : Go.Proofs.Tryz.f402.body.elim [] Code.globalsNamed = [] ∧ Go.Proofs.Tryz.f402.goes = false := ⟨by kernel_rfl, by kernel_rfl⟩
theorem gn403 : Go.Proofs.Tryz.f403.body.elim [] Code.globalsNamed = [] ∧ Go.Proofs.Tryz.f403.goes = false := ⟨by kernel_rfl, by kernel_rfl⟩
theorem gn404 : Go.Proofs.Tryz.f404.body.elim [] Code.globalsNamed = [] ∧ Go.Proofs.Tryz.f404.goes = false := ⟨by kernel_rfl, by kernel_rfl⟩
theorem gn405 : Go.Proofs.Tryz.f405.body.elim [] Code.globalsNamed = [] ∧ Go.Proofs.Tryz.f405.goes = false := ⟨by kernel_rfl, by kernel_rfl⟩
theorem gn406 : Go.Proofs.Tryz.f406.body.elim [] Code.globalsNamed = [] ∧ Go.Proofs.Tryz.f406.goes = false := ⟨by kernel_rfl, by kernel_rfl⟩
theorem gn407 : Go.Proofs.Tryz.f407.body.elim [] Code.globalsNamed = [] ∧ Go.Proofs.Tryz.f407.goes = false := ⟨by kernel_rfl, by kernel_rfl⟩
theorem gn408 : Go.Proofs.Tryz.f408.body.elim [] Code.globalsNamed = [] ∧ Go.Proofs.Tryz.f408.goes = false := ⟨by kernel_rfl, by kernel_rfl⟩
theorem gn409 : Go.Proofs.Tryz.f409.body.elim [] Code.globalsNamed = [] ∧ Go.Proofs.Tryz.f409.goes = false := ⟨by kernel_rfl, by kernel_rfl⟩
theorem gn410 : Go.Proofs.Tryz.f410.body.elim [] Code.globalsNamed = [] ∧ Go.Proofs.Tryz.f410.goes = false := ⟨by kernel_rfl, by kernel_rfl⟩
theorem gn411 : Go.Proofs.Tryz.f411.body.elim [] Code.globalsNamed = [] ∧ Go.Proofs.Tryz.f411.goes = false := ⟨by kernel_rfl, by kernel_rfl⟩
theorem gn412 : Go.Proofs.Tryz.f412.body.elim [] Code.globalsNamed = [] ∧ Go.Proofs.Tryz.f412.goes = false := ⟨by kernel_rfl, by kernel_rfl⟩
theorem gn413 : Go.Proofs.Tryz.f413.body.elim [] Code.globalsNamed = [] ∧ Go.Proofs.Tryz.f413.goes = false := ⟨by kernel_rfl, by kernel_rfl⟩
theorem gn414 : Go.Proofs.Tryz.f414.body.elim [] Code.globalsNamed = [] ∧ Go.Proofs.Tryz.f414.goes = false := ⟨by kernel_rfl, by kernel_rfl⟩
theorem gn415 : Go.Proofs.Tryz.f415.body.elim [] Code.globalsNamed = [] ∧ Go.Proofs.Tryz.f415.goes = false := ⟨by kernel_rfl, by kernel_rfl⟩
theorem gn416 : Go.Proofs.Tryz.f416.body.elim [] Code.globalsNamed = [] ∧ Go.Proofs.Tryz.f416.goes = false := ⟨by kernel_rfl, by kernel_rfl⟩
theorem gn417 : Go.Proofs.Tryz.f417.body.elim [] Code.globalsNamed = [] ∧ Go.Proofs.Tryz.f417.goes = false := ⟨by kernel_rfl, by kernel_rfl⟩
theorem gn418 : Go.Proofs.Tryz.f418.body.elim [] Code.globalsNamed = [] ∧ Go.Proofs.Tryz.f418.goes = false := ⟨by kernel_rfl, by kernel_rfl⟩
theorem gn419 : Go.Proofs.Tryz.f419.body.elim [] Code.globalsNamed = [] ∧ Go.Proofs.Tryz.f419.goes = false := ⟨by kernel_rfl, by kernel_rfl⟩
theorem gn420 : Go.Proofs.Tryz.f420.body.elim [] Code.globalsNamed = [] ∧ Go.Proofs.Tryz.f420.goes = false := ⟨by kernel_rfl, by kernel_rfl⟩
theorem gn421 : Go.Proofs.Tryz.f421.body.elim [] Code.globalsNamed = [] ∧ Go.Proofs.Tryz.f421.goes = false := ⟨by kernel_rfl, by kernel_rfl⟩
theorem gn422 : Go.Proofs.Tryz.f422.body.elim [] Code.globalsNamed = [] ∧ Go.Proofs.Tryz.f422.goes = false := ⟨by kernel_rfl, by kernel_rfl⟩
theorem gn423 : Go.Proofs.Tryz.f423.body.elim [] Code.globalsNamed = [] ∧ Go.Proofs.Tryz.f423.goes = false := ⟨by kernel_rfl, by kernel_rfl⟩
theorem gn424 : Go.Proofs.Tryz.f424.body.elim [] Code.globalsNamed = [] ∧ Go.Proofs.Tryz.f424.goes = false := ⟨by kernel_rfl, by kernel_rfl⟩
theorem gn425 : Go.Proofs.Tryz.f425.body.elim [] Code.globalsNamed = [] ∧ Go.Proofs.Tryz.f425.goes = false := ⟨by kernel_rfl, by kernel_rfl⟩
theorem gn426 : Go.Proofs.Tryz.f426.body.elim [] Code.globalsNamed = [] ∧ Go.Proofs.Tryz.f426.goes = false := ⟨by kernel_rfl, by kernel_rfl⟩
theorem gn427 : Go.Proofs.Tryz.f427.body.elim [] Code.globalsNamed = [] ∧ Go.Proofs.Tryz.f427.goes = false := ⟨by kernel_rfl, by kernel_rfl⟩
theorem gn428 : Go.Proofs.Tryz.f428.body.elim [] Code.globalsNamed = [] ∧ Go.Proofs.Tryz.f428.goes = false := ⟨by kernel_rfl, by kernel_rfl⟩
theorem gn429 : Go.Proofs.Tryz.f429.body.elim [] Code.globalsNamed = [] ∧ Go.Proofs.Tryz.f429.goes = false := ⟨by kernel_rfl, by kernel_rfl⟩
theorem gn430 : Go.Proofs.Tryz.f430.body.elim [] Code.globalsNamed = [] ∧ Go.Proofs.Tryz.f430.goes = false := ⟨by kernel_rfl, by kernel_rfl⟩
theorem gn431 : Go.Proofs.Tryz.f431.body.elim [] Code.globalsNamed = [] ∧ Go.Proofs.Tryz.f431.goes = false := ⟨by kernel_rfl, by kernel_rfl⟩
theorem gn432 : Go.Proofs.Tryz.f432.body.elim [] Code.globalsNamed = [] ∧ Go.Proofs.Tryz.f432.goes = false := ⟨by kernel_rfl, by kernel_rfl⟩
theorem gn433 : Go.Proofs.Tryz.f433.body.elim [] Code.globalsNamed = [] ∧ Go.Proofs.Tryz.f433.goes = false := ⟨by kernel_rfl, by kernel_rfl⟩
theorem gn434 : Go.Proofs.Tryz.f434.body.elim [] Code.globalsNamed = [] ∧ Go.Proofs.Tryz.f434.goes = false := ⟨by kernel_rfl, by kernel_rfl⟩
theorem gn435 : Go.Proofs.Tryz.f435.body.elim [] Code.globalsNamed = [] ∧ Go.Proofs.Tryz.f435.goes = false := ⟨by kernel_rfl, by kernel_rfl⟩
theorem gn436 : Go.Proofs.Tryz.f436.body.elim [] Code.globalsNamed = [] ∧ Go.Proofs.Tryz.f436.goes = false := ⟨by kernel_rfl, by kernel_rfl⟩
theorem gn437 : Go.Proofs.Tryz.f437.body.elim [] Code.globalsNamed = [] ∧ Go.Proofs.Tryz.f437.goes = false := ⟨by kernel_rfl, by kernel_rfl⟩
theorem gn438 : Go.Proofs.Tryz.f438.body.elim [] Code.globalsNamed = [] ∧ Go.Proofs.Tryz.f438.goes = false := ⟨by kernel_rfl, by kernel_rfl⟩
theorem gn439 : Go.Proofs.Tryz.f439.body.elim [] Code.globalsNamed = [] ∧ Go.Proofs.Tryz.f439.goes = false := ⟨by kernel_rfl, by kernel_rfl⟩
theorem gn440 : Go.Proofs.Tryz.f440.body.elim [] Code.globalsNamed = [] ∧ Go.Proofs.Tryz.f440.goes = false := ⟨by kernel_rfl, by kernel_rfl⟩
theorem gn441 : Go.Proofs.Tryz.f441.body.elim [] Code.globalsNamed = [] ∧ Go.Proofs.Tryz.f441.goes = false := ⟨by kernel_rfl, by kernel_rfl⟩
theorem gn442 : Go.Proofs.Tryz.f442.body.elim [] Code.globalsNamed = [0, 0, 0] ∧ Go.Proofs.Tryz.f442.goes = false := ⟨by kernel_rfl, by kernel_rfl⟩
theorem gn443 : Go.Proofs.Tryz.f443.body.elim [] Code.globalsNamed = [] ∧ Go.Proofs.Tryz.f443.goes = false := ⟨by kernel_rfl, by kernel_rfl⟩
theorem gn444 : Go.Proofs.Tryz.f444.body.elim [] Code.globalsNamed = [] ∧ Go.Proofs.Tryz.f444.goes = false := ⟨by kernel_rfl, by kernel_rfl⟩
theorem gn445 : Go.Proofs.Tryz.f445.body.elim [] Code.globalsNamed = [] ∧ Go.Proofs.Tryz.f445.goes = false := ⟨by kernel_rfl, by kernel_rfl⟩
theorem gn446 : Go.Proofs.Tryz.f446.body.elim [] Code.globalsNamed = [] ∧ Go.Proofs.Tryz.f446.goes = false := ⟨by kernel_rfl, by kernel_rfl⟩
theorem gn447 : Go.Proofs.Tryz.f447.body.elim [] Code.globalsNamed = [] ∧ Go.Proofs.Tryz.f447.goes = false := ⟨by kernel_rfl, by kernel_rfl⟩
theorem gn448 : Go.Proofs.Tryz.f448.body.elim [] Code.globalsNamed = [] ∧ Go.Proofs.Tryz.f448.goes = false := ⟨by kernel_rfl, by kernel_rfl⟩
theorem gn449 : Go.Proofs.Tryz.f449.body.elim [] Code.globalsNamed = [] ∧ Go.Proofs.Tryz.f449.goes = false := ⟨by kernel_rfl, by kernel_rfl⟩
theorem gn450 : Go.Proofs.Tryz.f450.body.elim [] Code.globalsNamed = [] ∧ Go.Proofs.Tryz.f450.goes = false := ⟨by kernel_rfl, by kernel_rfl⟩
theorem gn451 : Go.Proofs.Tryz.f451.body.elim [] Code.globalsNamed = [1] ∧ Go.Proofs.Tryz.f451.goes = false := ⟨by kernel_rfl, by kernel_rfl⟩
theorem gn452 : Go.Proofs.Tryz.f452.body.elim [] Code.globalsNamed = [] ∧ Go.Proofs.Tryz.f452.goes = false := ⟨by kernel_rfl, by kernel_rfl⟩
theorem gn453 : Go.Proofs.Tryz.f453.body.elim [] Code.globalsNamed = [] ∧ Go.Proofs.Tryz.f453.goes = false := ⟨by kernel_rfl, by kernel_rfl⟩
theorem gn454 : Go.Proofs.Tryz.f454.body.elim [] Code.globalsNamed = [] ∧ Go.Proofs.Tryz.f454.goes = false := ⟨by kernel_rfl, by kernel_rfl⟩
theorem gn455 : Go.Proofs.Tryz.f455.body.elim [] Code.globalsNamed = [] ∧ Go.Proofs.Tryz.f455.goes = false := ⟨by kernel_rfl, by kernel_rfl⟩
theorem gn456 : Go.Proofs.Tryz.f456.body.elim [] Code.globalsNamed = [] ∧ Go.Proofs.Tryz.f456.goes = false := ⟨by kernel_rfl, by kernel_rfl⟩
theorem gn457 : Go.Proofs.Tryz.f457.body.elim [] Code.globalsNamed = [] ∧ Go.Proofs.Tryz.f457.goes = false := ⟨by kernel_rfl, by kernel_rfl⟩
theorem gn458 : Go.Proofs.Tryz.f458.body.elim [] Code.globalsNamed = [] ∧ Go.Proofs.Tryz.f458.goes = false := ⟨by kernel_rfl, by kernel_rfl⟩
theorem gn459 : Go.Proofs.Tryz.f459.body.elim [] Code.globalsNamed = [] ∧ Go.Proofs.Tryz.f459.goes = false := ⟨by kernel_rfl, by kernel_rfl⟩
theorem gn460 : Go.Proofs.Tryz.f460.body.elim [] Code.globalsNamed = [] ∧ Go.Proofs.Tryz.f460.goes = false := ⟨by kernel_rfl, by kernel_rfl⟩
theorem gn461 : Go.Proofs.Tryz.f461.body.elim [] Code.globalsNamed = [] ∧ Go.Proofs.Tryz.f461.goes = false := ⟨by kernel_rfl, by kernel_rfl⟩
theorem gn462 : Go.Proofs.Tryz.f462.body.elim [] Code.globalsNamed = [] ∧ Go.Proofs.Tryz.f462.goes = false := ⟨by kernel_rfl, by kernel_rfl⟩
theorem gn463 : Go.Proofs.Tryz.f463.body.elim [] Code.globalsNamed = [] ∧ Go.Proofs.Tryz.f463.goes = false := ⟨by kernel_rfl, by kernel_rfl⟩
theorem gn464 : Go.Proofs.Tryz.f464.body.elim [] Code.globalsNamed = [] ∧ Go.Proofs.Tryz.f464.goes = false := ⟨by kernel_rfl, by kernel_rfl⟩
theorem gn465 : Go.Proofs.Tryz.f465.body.elim [] Code.globalsNamed = [] ∧ Go.Proofs.Tryz.f465.goes = false := ⟨by kernel_rfl, by kernel_rfl⟩
theorem gn466 : Go.Proofs.Tryz.f466.body.elim [] Code.globalsNamed = [] ∧ Go.Proofs.Tryz.f466.goes = false := ⟨by kernel_rfl, by kernel_rfl⟩
theorem gn467 : Go.Proofs.Tryz.f467.body.elim [] Code.globalsNamed = [] ∧ Go.Proofs.Tryz.f467.goes = false := ⟨by kernel_rfl, by kernel_rfl⟩
theorem gn468 : Go.Proofs.Tryz.f468.body.elim [] Code.globalsNamed = [] ∧ Go.Proofs.Tryz.f468.goes = false := ⟨by kernel_rfl, by kernel_rfl⟩
theorem gn469 : Go.Proofs.Tryz.f469.body.elim [] Code.globalsNamed = [] ∧ Go.Proofs.Tryz.f469.goes = false := ⟨by kernel_rfl, by kernel_rfl⟩
theorem gn470 : Go.Proofs.Tryz.f470.body.elim [] Code.globalsNamed = [] ∧ Go.Proofs.Tryz.f470.goes = false := ⟨by kernel_rfl, by kernel_rfl⟩
theorem gn471 : Go.Proofs.Tryz.f471.body.elim [] Code.globalsNamed = [] ∧ Go.Proofs.Tryz.f471.goes = false := ⟨by kernel_rfl, by kernel_rfl⟩
theorem gn472 : Go.Proofs.Tryz.f472.body.elim [] Code.globalsNamed = [] ∧ Go.Proofs.Tryz.f472.goes = false := ⟨by kernel_rfl, by kernel_rfl⟩
theorem gn473 : Go.Proofs.Tryz.f473.body.elim [] Code.globalsNamed = [] ∧ Go.Proofs.Tryz.f473.goes = false := ⟨by kernel_rfl, by kernel_rfl⟩
theorem gn474 : Go.Proofs.Tryz.f474.body.elim [] Code.globalsNamed = [] ∧ Go.Proofs.Tryz.f474.goes = false := ⟨by kernel_rfl, by kernel_rfl⟩
theorem gn475 : Go.Proofs.Tryz.f475.body.elim [] Code.globalsNamed = [] ∧ Go.Proofs.Tryz.f475.goes = false := ⟨by kernel_rfl, by kernel_rfl⟩
theorem gn476 : Go.Proofs.Tryz.f476.body.elim [] Code.globalsNamed = [] ∧ Go.Proofs.Tryz.f476.goes = false := ⟨by kernel_rfl, by kernel_rfl⟩
theorem gn477 : Go.Proofs.Tryz.f477.body.elim [] Code.globalsNamed = [] ∧ Go.Proofs.Tryz.f477.goes = false := ⟨by kernel_rfl, by kernel_rfl⟩
theorem gn478 : Go.Proofs.Tryz.f478.body.elim [] Code.globalsNamed = [] ∧ Go.Proofs.Tryz.f478.goes = false := ⟨by kernel_rfl, by kernel_rfl⟩
theorem gn479 : Go.Proofs.Tryz.f479.body.elim [] Code.globalsNamed = [] ∧ Go.Proofs.Tryz.f479.goes = false := ⟨by kernel_rfl, by kernel_rfl⟩
theorem gn480 : Go.Proofs.Tryz.f480.body.elim [] Code.globalsNamed = [] ∧ Go.Proofs.Tryz.f480.goes = false := ⟨by kernel_rfl, by kernel_rfl⟩
theorem gn481 : Go.Proofs.Tryz.f481.body.elim [] Code.globalsNamed = [] ∧ Go.Proofs.Tryz.f481.goes = false := ⟨by kernel_rfl, by kernel_rfl⟩
theorem gn482 : Go.Proofs.Tryz.f482.body.elim [] Code.globalsNamed = [] ∧ Go.Proofs.Tryz.f482.goes = false := ⟨by kernel_rfl, by kernel_rfl⟩
theorem gn483 : Go.Proofs.Tryz.f483.body.elim [] Code.globalsNamed = [] ∧ Go.Proofs.Tryz.f483.goes = false := ⟨by kernel_rfl, by kernel_rfl⟩
theorem gn484 : Go.Proofs.Tryz.f484.body.elim [] Code.globalsNamed = [] ∧ Go.Proofs.Tryz.f484.goes = false := ⟨by kernel_rfl, by kernel_rfl⟩
theorem gn485 : Go.Proofs.Tryz.f485.body.elim [] Code.globalsNamed = [] ∧ Go.Proofs.Tryz.f485.goes = false := ⟨by kernel_rfl, by kernel_rfl⟩
theorem gn486 : Go.Proofs.Tryz.f486.body.elim [] Code.globalsNamed = [] ∧ Go.Proofs.Tryz.f486.goes = false := ⟨by kernel_rfl, by kernel_rfl⟩
theorem gn487 : Go.Proofs.Tryz.f487.body.elim [] Code.globalsNamed = [] ∧ Go.Proofs.Tryz.f487.goes = false := ⟨by kernel_rfl, by kernel_rfl⟩
theorem gn488 : Go.Proofs.Tryz.f488.body.elim [] Code.globalsNamed = [] ∧ Go.Proofs.Tryz.f488.goes = false := ⟨by kernel_rfl, by kernel_rfl⟩
theorem gn489 : Go.Proofs.Tryz.f489.body.elim [] Code.globalsNamed = [] ∧ Go.Proofs.Tryz.f489.goes = false := ⟨by kernel_rfl, by kernel_rfl⟩
theorem gn490 : Go.Proofs.Tryz.f490.body.elim [] Code.globalsNamed = [] ∧ Go.Proofs.Tryz.f490.goes = false := ⟨by kernel_rfl, by kernel_rfl⟩
theorem gn491 : Go.Proofs.Tryz.f491.body.elim [] Code.globalsNamed = [] ∧ Go.Proofs.Tryz.f491.goes = false := ⟨by kernel_rfl, by kernel_rfl⟩
theorem gn492 : Go.Proofs.Tryz.f492.body.elim [] Code.globalsNamed = [] ∧ Go.Proofs.Tryz.f492.goes = false := ⟨by kernel_rfl, by kernel_rfl⟩
theorem gn493 : Go.Proofs.Tryz.f493.body.elim [] Code.globalsNamed = [] ∧ Go.Proofs.Tryz.f493.goes = false := ⟨by kernel_rfl, by kernel_rfl⟩
theorem gn494 : Go.Proofs.Tryz.f494.body.elim [] Code.globalsNamed = [] ∧ Go.Proofs.Tryz.f494.goes = false := ⟨by kernel_rfl, by kernel_rfl⟩
theorem gn495 : Go.Proofs.Tryz.f495.body.elim [] Code.globalsNamed = [] ∧ Go.Proofs.Tryz.f495.goes = false := ⟨by kernel_rfl, by kernel_rfl⟩
theorem gn496 : Go.Proofs.Tryz.f496.body.elim [] Code.globalsNamed = [] ∧ Go.Proofs.Tryz.f496.goes = false := ⟨by kernel_rfl, by kernel_rfl⟩
theorem gn497 : Go.Proofs.Tryz.f497.body.elim [] Code.globalsNamed = [] ∧ Go.Proofs.Tryz.f497.goes = false := ⟨by kernel_rfl, by kernel_rfl⟩
theorem gn498 : Go.Proofs.Tryz.f498.body.elim [] Code.globalsNamed = [] ∧ Go.Proofs.Tryz.f498.goes = false := ⟨by kernel_rfl, by kernel_rfl⟩
theorem gn499 : Go.Proofs.Tryz.f499.body.elim [] Code.globalsNamed = [] ∧ Go.Proofs.Tryz.f499.goes = false := ⟨by kernel_rfl, by kernel_rfl⟩
theorem gn500 : Go.Proofs.Tryz.f500.body.elim [] Code.globalsNamed = [] ∧ Go.Proofs.Tryz.f500.goes = false := ⟨by kernel_rfl, by kernel_rfl⟩
theorem gn501 : Go.Proofs.Tryz.f501.body.elim [] Code.globalsNamed = [] ∧ Go.Proofs.Tryz.f501.goes = false := ⟨by kernel_rfl, by kernel_rfl⟩
theorem gn502 : Go.Proofs.Tryz.f502.body.elim [] Code.globalsNamed = [] ∧ Go.Proofs.Tryz.f502.goes = false := ⟨by kernel_rfl, by kernel_rfl⟩
theorem gn503 : Go.Proofs.Tryz.f503.body.elim [] Code.globalsNamed = [] ∧ Go.Proofs.Tryz.f503.goes = false := ⟨by kernel_rfl, by kernel_rfl⟩
theorem gn504 : Go.Proofs.Tryz.f504.body.elim [] Code.globalsNamed = [] ∧ Go.Proofs.Tryz.f504.goes = false := ⟨by kernel_rfl, by kernel_rfl⟩
theorem gn505 : Go.Proofs.Tryz.f505.body.elim [] Code.globalsNamed = [] ∧ Go.Proofs.Tryz.f505.goes = false := ⟨by kernel_rfl, by kernel_rfl⟩
theorem gn506 : Go.Proofs.Tryz.f506.body.elim [] Code.globalsNamed = [] ∧ Go.Proofs.Tryz.f506.goes = false := ⟨by kernel_rfl, by kernel_rfl⟩
theorem gn507 : Go.Proofs.Tryz.f507.body.elim [] Code.globalsNamed = [] ∧ Go.Proofs.Tryz.f507.goes = false := ⟨by kernel_rfl, by kernel_rfl⟩
theorem gn508 : Go.Proofs.Tryz.f508.body.elim [] Code.globalsNamed = [2] ∧ Go.Proofs.Tryz.f508.goes = false := ⟨by kernel_rfl, by kernel_rfl⟩
theorem gn509 : Go.Proofs.Tryz.f509.body.elim [] Code.globalsNamed = [3] ∧ Go.Proofs.Tryz.f509.goes = false := ⟨by kernel_rfl, by kernel_rfl⟩
theorem gn510 : Go.Proofs.Tryz.f510.body.elim [] Code.globalsNamed = [] ∧ Go.Proofs.Tryz.f510.goes = false := ⟨by kernel_rfl, by kernel_rfl⟩
theorem gn511 : Go.Proofs.Tryz.f511.body.elim [] Code.globalsNamed = [] ∧ Go.Proofs.Tryz.f511.goes = false := ⟨by kernel_rfl, by kernel_rfl⟩
theorem gn512 : Go.Proofs.Tryz.f512.body.elim [] Code.globalsNamed = [] ∧ Go.Proofs.Tryz.f512.goes = false := ⟨by kernel_rfl, by kernel_rfl⟩
theorem gn513 : Go.Proofs.Tryz.f513.body.elim [] Code.globalsNamed = [] ∧ Go.Proofs.Tryz.f513.goes = false := ⟨by kernel_rfl, by kernel_rfl⟩
theorem gn514 : Go.Proofs.Tryz.f514.body.elim [] Code.globalsNamed = [] ∧ Go.Proofs.Tryz.f514.goes = false := ⟨by kernel_rfl, by kernel_rfl⟩
theorem gn515 : Go.Proofs.Tryz.f515.body.elim [] Code.globalsNamed = [] ∧ Go.Proofs.Tryz.f515.goes = false := ⟨by kernel_rfl, by kernel_rfl⟩
theorem gn516 : Go.Proofs.Tryz.f516.body.elim [] Code.globalsNamed = [] ∧ Go.Proofs.Tryz.f516.goes = false := ⟨by kernel_rfl, by kernel_rfl⟩
theorem gn517 : Go.Proofs.Tryz.f517.body.elim [] Code.globalsNamed = [] ∧ Go.Proofs.Tryz.f517.goes = false := ⟨by kernel_rfl, by kernel_rfl⟩
theorem gn518 : Go.Proofs.Tryz.f518.body.elim [] Code.globalsNamed = [] ∧ Go.Proofs.Tryz.f518.goes = false := ⟨by kernel_rfl, by kernel_rfl⟩
theorem gn519 : Go.Proofs.Tryz.f519.body.elim [] Code.globalsNamed = [] ∧ Go.Proofs.Tryz.f519.goes = false := ⟨by kernel_rfl, by kernel_rfl⟩
theorem gn520 : Go.Proofs.Tryz.f520.body.elim [] Code.globalsNamed = [] ∧ Go.Proofs.Tryz.f520.goes = false := ⟨by kernel_rfl, by kernel_rfl⟩
theorem gn521 : Go.Proofs.Tryz.f521.body.elim [] Code.globalsNamed = [] ∧ Go.Proofs.Tryz.f521.goes = false := ⟨by kernel_rfl, by kernel_rfl⟩
theorem gn522 : Go.Proofs.Tryz.f522.body.elim [] Code.globalsNamed = [] ∧ Go.Proofs.Tryz.f522.goes = false := ⟨by kernel_rfl, by kernel_rfl⟩
theorem gn523 : Go.Proofs.Tryz.f523.body.elim [] Code.globalsNamed = [] ∧ Go.Proofs.Tryz.f523.goes = false := ⟨by kernel_rfl, by kernel_rfl⟩
theorem gn524 : Go.Proofs.Tryz.f524.body.elim [] Code.globalsNamed = [] ∧ Go.Proofs.Tryz.f524.goes = false := ⟨by kernel_rfl, by kernel_rfl⟩
theorem gn525 : Go.Proofs.Tryz.f525.body.elim [] Code.globalsNamed = [] ∧ Go.Proofs.Tryz.f525.goes = false := ⟨by kernel_rfl, by kernel_rfl⟩
theorem gn526 : Go.Proofs.Tryz.f526.body.elim [] Code.globalsNamed = [] ∧ Go.Proofs.Tryz.f526.goes = false := ⟨by kernel_rfl, by kernel_rfl⟩
theorem gn527 : Go.Proofs.Tryz.f527.body.elim [] Code.globalsNamed = [] ∧ Go.Proofs.Tryz.f527.goes = false := ⟨by kernel_rfl, by kernel_rfl⟩
theorem gn528 : Go.Proofs.Tryz.f528.body.elim [] Code.globalsNamed = [] ∧ Go.Proofs.Tryz.f528.goes = false := ⟨by kernel_rfl, by kernel_rfl⟩
theorem gn529 : Go.Proofs.Tryz.f529.body.elim [] Code.globalsNamed = [] ∧ Go.Proofs.Tryz.f529.goes = false := ⟨by kernel_rfl, by kernel_rfl⟩
theorem gn530 : Go.Proofs.Tryz.f530.body.elim [] Code.globalsNamed = [] ∧ Go.Proofs.Tryz.f530.goes = false := ⟨by kernel_rfl, by kernel_rfl⟩
theorem gn531 : Go.Proofs.Tryz.f531.body.elim [] Code.globalsNamed = [] ∧ Go.Proofs.Tryz.f531.goes = false := ⟨by kernel_rfl, by kernel_rfl⟩
theorem gn532 : Go.Proofs.Tryz.f532.body.elim [] Code.globalsNamed = [] ∧ Go.Proofs.Tryz.f532.goes = false := ⟨by kernel_rfl, by kernel_rfl⟩
theorem gn533 : Go.Proofs.Tryz.f533.body.elim [] Code.globalsNamed = [] ∧ Go.Proofs.Tryz.f533.goes = false := ⟨by kernel_rfl, by kernel_rfl⟩
theorem gn534 : Go.Proofs.Tryz.f534.body.elim [] Code.globalsNamed = [] ∧ Go.Proofs.Tryz.f534.goes = false := ⟨by kernel_rfl, by kernel_rfl⟩
theorem gn535 : Go.Proofs.Tryz.f535.body.elim [] Code.globalsNamed = [] ∧ Go.Proofs.Tryz.f535.goes = false := ⟨by kernel_rfl, by kernel_rfl⟩
theorem gn536 : Go.Proofs.Tryz.f536.body.elim [] Code.globalsNamed = [] ∧ Go.Proofs.Tryz.f536.goes = false := ⟨by kernel_rfl, by kernel_rfl⟩
theorem gn537 : Go.Proofs.Tryz.f537.body.elim [] Code.globalsNamed = [] ∧ Go.Proofs.Tryz.f537.goes = false := ⟨by kernel_rfl, by kernel_rfl⟩
theorem gn538 : Go.Proofs.Tryz.f538.body.elim [] Code.globalsNamed = [] ∧ Go.Proofs.Tryz.f538.goes = false := ⟨by kernel_rfl, by kernel_rfl⟩
theorem gn539 : Go.Proofs.Tryz.f539.body.elim [] Code.globalsNamed = [] ∧ Go.Proofs.Tryz.f539.goes = false := ⟨by kernel_rfl, by kernel_rfl⟩
theorem gn540 : Go.Proofs.Tryz.f540.body.elim [] Code.globalsNamed = [] ∧ Go.Proofs.Tryz.f540.goes = false := ⟨by kernel_rfl, by kernel_rfl⟩
theorem gn541 : Go.Proofs.Tryz.f541.body.elim [] Code.globalsNamed = [] ∧ Go.Proofs.Tryz.f541.goes = false := ⟨by kernel_rfl, by kernel_rfl⟩
theorem gn542 : Go.Proofs.Tryz.f542.body.elim [] Code.globalsNamed = [] ∧ Go.Proofs.Tryz.f542.goes = false := ⟨by kernel_rfl, by kernel_rfl⟩
theorem gn543 : Go.Proofs.Tryz.f543.body.elim [] Code.globalsNamed = [] ∧ Go.Proofs.Tryz.f543.goes = false := ⟨by kernel_rfl, by kernel_rfl⟩
theorem gn544 : Go.Proofs.Tryz.f544.body.elim [] Code.globalsNamed = [] ∧ Go.Proofs.Tryz.f544.goes = false := ⟨by kernel_rfl, by kernel_rfl⟩
theorem gn545 : Go.Proofs.Tryz.f545.body.elim [] Code.globalsNamed = [] ∧ Go.Proofs.Tryz.f545.goes = false := ⟨by kernel_rfl, by kernel_rfl⟩
theorem gn546 : Go.Proofs.Tryz.f546.body.elim [] Code.globalsNamed = [] ∧ Go.Proofs.Tryz.f546.goes = false := ⟨by kernel_rfl, by kernel_rfl⟩
theorem gn547 : Go.Proofs.Tryz.f547.body.elim [] Code.globalsNamed = [] ∧ Go.Proofs.Tryz.f547.goes = false := ⟨by kernel_rfl, by kernel_rfl⟩
theorem gn548 : Go.Proofs.Tryz.f548.body.elim [] Code.globalsNamed = [] ∧ Go.Proofs.Tryz.f548.goes = false := ⟨by kernel_rfl, by kernel_rfl⟩
theorem gn549 : Go.Proofs.Tryz.f549.body.elim [] Code.globalsNamed = [] ∧ Go.Proofs.Tryz.f549.goes = false := ⟨by kernel_rfl, by kernel_rfl⟩
theorem gn550 : Go.Proofs.Tryz.f550.body.elim [] Code.globalsNamed = [] ∧ Go.Proofs.Tryz.f550.goes = false := ⟨by kernel_rfl, by kernel_rfl⟩
theorem gn551 : Go.Proofs.Tryz.f551.body.elim [] Code.globalsNamed = [] ∧ Go.Proofs.Tryz.f551.goes = false := ⟨by kernel_rfl, by kernel_rfl⟩
theorem gn552 : Go.Proofs.Tryz.f552.body.elim [] Code.globalsNamed = [] ∧ Go.Proofs.Tryz.f552.goes = false := ⟨by kernel_rfl, by kernel_rfl⟩
theorem gn553 : Go.Proofs.Tryz.f553.body.elim [] Code.globalsNamed = [] ∧ Go.Proofs.Tryz.f553.goes = false := ⟨by kernel_rfl, by kernel_rfl⟩
theorem gn554 : Go.Proofs.Tryz.f554.body.elim [] Code.globalsNamed = [] ∧ Go.Proofs.Tryz.f554.goes = false := ⟨by kernel_rfl, by kernel_rfl⟩
theorem gn555 : Go.Proofs.Tryz.f555.body.elim [] Code.globalsNamed = [] ∧ Go.Proofs.Tryz.f555.goes = false := ⟨by kernel_rfl, by kernel_rfl⟩
theorem gn556 : Go.Proofs.Tryz.f556.body.elim [] Code.globalsNamed = [] ∧ Go.Proofs.Tryz.f556.goes = false := ⟨by kernel_rfl, by kernel_rfl⟩
theorem gn557 : Go.Proofs.Tryz.f557.body.elim [] Code.globalsNamed = [] ∧ Go.Proofs.Tryz.f557.goes = false := ⟨by kernel_rfl, by kernel_rfl⟩
theorem gn558 : Go.Proofs.Tryz.f558.body.elim [] Code.globalsNamed = [] ∧ Go.Proofs.Tryz.f558.goes = false := ⟨by kernel_rfl, by kernel_rfl⟩
theorem gn559 : Go.Proofs.Tryz.f559.body.elim [] Code.globalsNamed = [] ∧ Go.Proofs.Tryz.f559.goes = false := ⟨by kernel_rfl, by kernel_rfl⟩
theorem gn560 : Go.Proofs.Tryz.f560.body.elim [] Code.globalsNamed = [] ∧ Go.Proofs.Tryz.f560.goes = false := ⟨by kernel_rfl, by kernel_rfl⟩
theorem gn561 : Go.Proofs.Tryz.f561.body.elim [] Code.globalsNamed = [] ∧ Go.Proofs.Tryz.f561.goes = false := ⟨by kernel_rfl, by kernel_rfl⟩
theorem gn562 : Go.Proofs.Tryz.f562.body.elim [] Code.globalsNamed = [] ∧ Go.Proofs.Tryz.f562.goes = false := ⟨by kernel_rfl, by kernel_rfl⟩
theorem gn563 : Go.Proofs.Tryz.f563.body.elim [] Code.globalsNamed = [] ∧ Go.Proofs.Tryz.f563.goes = false := ⟨by kernel_rfl, by kernel_rfl⟩
theorem gn564 : Go.Proofs.Tryz.f564.body.elim [] Code.globalsNamed = [] ∧ Go.Proofs.Tryz.f564.goes = false := ⟨by kernel_rfl, by kernel_rfl⟩
theorem gn565 : Go.Proofs.Tryz.f565.body.elim [] Code.globalsNamed = [2, 3, 1] ∧ Go.Proofs.Tryz.f565.goes = false := ⟨by kernel_rfl, by kernel_rfl⟩
theorem gns0 (f : Nat) (fn : Func) (h1 : 0 ≤ f) (h2 : f < 32) (hf : Go.Proofs.Tryz.prog.funcs[f]? = some fn) : fn.body.elim [] Code.globalsNamed = gnT f ∧ fn.goes = false := by
  have h : f = 0 ∨ f = 1 ∨ f = 2 ∨ f = 3 ∨ f = 4 ∨ f = 5 ∨ f = 6 ∨ f = 7 ∨ f = 8 ∨ f = 9 ∨ f = 10 ∨ f = 11 ∨ f = 12 ∨ f = 13 ∨ f = 14 ∨ f = 15 ∨ f = 16 ∨ f = 17 ∨ f = 18 ∨ f = 19 ∨ f = 20 ∨ f = 21 ∨ f = 22 ∨ f = 23 ∨ f = 24 ∨ f = 25 ∨ f = 26 ∨ f = 27 ∨ f = 28 ∨ f = 29 ∨ f = 30 ∨ f = 31 := by omega
  rcases h with rfl | rfl | rfl | rfl | rfl | rfl | rfl | rfl | rfl | rfl | rfl | rfl | rfl | rfl | rfl | rfl | rfl | rfl | rfl | rfl | rfl | rfl | rfl | rfl | rfl | rfl | rfl | rfl | rfl | rfl | rfl | rfl
  · exact (Option.some.inj (Go.Proofs.Tryz.func0.symm.trans hf)) ▸ gn0
  · exact (Option.some.inj (Go.Proofs.Tryz.func1.symm.trans hf)) ▸ gn1
  · exact (Option.some.inj (Go.Proofs.Tryz.func2.symm.trans hf)) ▸ gn2
  · exact (Option.some.inj (Go.Proofs.Tryz.func3.symm.trans hf)) ▸ gn3
  · exact (Option.some.inj (Go.Proofs.Tryz.func4.symm.trans hf)) ▸ gn4
  · exact (Option.some.inj (Go.Proofs.Tryz.func5.symm.trans hf)) ▸ gn5
  · exact (Option.some.inj (Go.Proofs.Tryz.func6.symm.trans hf)) ▸ gn6
  · exact (Option.some.inj (Go.Proofs.Tryz.func7.symm.trans hf)) ▸ gn7
  · exact (Option.some.inj (Go.Proofs.Tryz.func8.symm.trans hf)) ▸ gn8
  · exact (Option.some.inj (Go.Proofs.Tryz.func9.symm.trans hf)) ▸ gn9
  · exact (Option.some.inj (Go.Proofs.Tryz.func10.symm.trans hf)) ▸ gn10
  · exact (Option.some.inj (Go.Proofs.Tryz.func11.symm.trans hf)) ▸ gn11
  · exact (Option.some.inj (Go.Proofs.Tryz.func12.symm.trans hf)) ▸ gn12
  · exact (Option.some.inj (Go.Proofs.Tryz.func13.symm.trans hf)) ▸ gn13
  · exact (Option.some.inj (Go.Proofs.Tryz.func14.symm.trans hf)) ▸ gn14
  · exact (Option.some.inj (Go.Proofs.Tryz.func15.symm.trans hf)) ▸ gn15
  · exact (Option.some.inj (Go.Proofs.Tryz.func16.symm.trans hf)) ▸ gn16
  · exact (Option.some.inj (Go.Proofs.Tryz.func17.symm.trans hf)) ▸ gn17
  · exact (Option.some.inj (Go.Proofs.Tryz.func18.symm.trans hf)) ▸ gn18
  · exact (Option.some.inj (Go.Proofs.Tryz.func19.symm.trans hf)) ▸ gn19
  · exact (Option.some.inj (Go.Proofs.Tryz.func20.symm.trans hf)) ▸ gn20
  · exact (Option.some.inj (Go.Proofs.Tryz.func21.symm.trans hf)) ▸ gn21
  · exact (Option.some.inj (Go.Proofs.Tryz.func22.symm.trans hf)) ▸ gn22
  · exact (Option.some.inj (Go.Proofs.Tryz.func23.symm.trans hf)) ▸ gn23
  · exact (Option.some.inj (Go.Proofs.Tryz.func24.symm.trans hf)) ▸ gn24
  · exact (Option.some.inj (Go.Proofs.Tryz.func25.symm.trans hf)) ▸ gn25
  · exact (Option.some.inj (Go.Proofs.Tryz.func26.symm.trans hf)) ▸ gn26
  · exact (Option.some.inj (Go.Proofs.Tryz.func27.symm.trans hf)) ▸ gn27
  · exact (Option.some.inj (Go.Proofs.Tryz.func28.symm.trans hf)) ▸ gn28
  · exact (Option.some.inj (Go.Proofs.Tryz.func29.symm.trans hf)) ▸ gn29
  · exact (Option.some.inj (Go.Proofs.Tryz.func30.symm.trans hf)) ▸ gn30
  · exact (Option.some.inj (Go.Proofs.Tryz.func31.symm.trans hf)) ▸ gn31
theorem gns32 (f : Nat) (fn : Func) (h1 : 32 ≤ f) (h2 : f < 64) (hf : Go.Proofs.Tryz.prog.funcs[f]? = some fn) : fn.body.elim [] Code.globalsNamed = gnT f ∧ fn.goes = false := by
  have h : f = 32 ∨ f = 33 ∨ f = 34 ∨ f = 35 ∨ f = 36 ∨ f = 37 ∨ f = 38 ∨ f = 39 ∨ f = 40 ∨ f = 41 ∨ f = 42 ∨ f = 43 ∨ f = 44 ∨ f = 45 ∨ f = 46 ∨ f = 47 ∨ f = 48 ∨ f = 49 ∨ f = 50 ∨ f = 51 ∨ f = 52 ∨ f = 53 ∨ f = 54 ∨ f = 55 ∨ f = 56 ∨ f = 57 ∨ f = 58 ∨ f = 59 ∨ f = 60 ∨ f = 61 ∨ f = 62 ∨ f = 63 := by omega
  rcases h with rfl | rfl | rfl | rfl | rfl | rfl | rfl | rfl | rfl | rfl | rfl | rfl | rfl | rfl | rfl | rfl | rfl | rfl | rfl | rfl | rfl | rfl | rfl | rfl | rfl | rfl | rfl | rfl | rfl | rfl | rfl | rfl
  · exact (Option.some.inj (Go.Proofs.Tryz.func32.symm.trans hf)) ▸ gn32
  · exact (Option.some.inj (Go.Proofs.Tryz.func33.symm.trans hf)) ▸ gn33
  · exact (Option.some.inj (Go.Proofs.Tryz.func34.symm.trans hf)) ▸ gn34
  · exact (Option.some.inj (Go.Proofs.Tryz.func35.symm.trans hf)) ▸ gn35
  · exact (Option.some.inj (Go.Proofs.Tryz.func36.symm.trans hf)) ▸ gn36
  · exact (Option.some.inj (Go.Proofs.Tryz.func37.symm.trans hf)) ▸ gn37
  · exact (Option.some.inj (Go.Proofs.Tryz.func38.symm.trans hf)) ▸ gn38
  · exact (Option.some.inj (Go.Proofs.Tryz.func39.symm.trans hf)) ▸ gn39
  · exact (Option.some.inj (Go.Proofs.Tryz.func40.symm.trans hf)) ▸ gn40
  · exact (Option.some.inj (Go.Proofs.Tryz.func41.symm.trans hf)) ▸ gn41
  · exact (Option.some.inj (Go.Proofs.Tryz.func42.symm.trans hf)) ▸ gn42
  · exact (Option.some.inj (Go.Proofs.Tryz.func43.symm.trans hf)) ▸ gn43
  · exact (Option.some.inj (Go.Proofs.Tryz.func44.symm.trans hf)) ▸ gn44
  · exact (Option.some.inj (Go.Proofs.Tryz.func45.symm.trans hf)) ▸ gn45
  · exact (Option.some.inj (Go.Proofs.Tryz.func46.symm.trans hf)) ▸ gn46
  · exact (Option.some.inj (Go.Proofs.Tryz.func47.symm.trans hf)) ▸ gn47
  · exact (Option.some.inj (Go.Proofs.Tryz.func48.symm.trans hf)) ▸ gn48
  · exact (Option.some.inj (Go.Proofs.Tryz.func49.symm.trans hf)) ▸ gn49
  · exact (Option.some.inj (Go.Proofs.Tryz.func50.symm.trans hf)) ▸ gn50
  · exact (Option.some.inj (Go.Proofs.Tryz.func51.symm.trans hf)) ▸ gn51
  · exact (Option.some.inj (Go.Proofs.Tryz.func52.symm.trans hf)) ▸ gn52
  · exact (Option.some.inj (Go.Proofs.Tryz.func53.symm.trans hf)) ▸ gn53
  · exact (Option.some.inj (Go.Proofs.Tryz.func54.symm.trans hf)) ▸ gn54
  · exact (Option.some.inj (Go.Proofs.Tryz.func55.symm.trans hf)) ▸ gn55
  · exact (Option.some.inj (Go.Proofs.Tryz.func56.symm.trans hf)) ▸ gn56
  · exact (Option.some.inj (Go.Proofs.Tryz.func57.symm.trans hf)) ▸ gn57
  · exact (Option.some.inj (Go.Proofs.Tryz.func58.symm.trans hf)) ▸ gn58
  · exact (Option.some.inj (Go.Proofs.Tryz.func59.symm.trans hf)) ▸ gn59
  · exact (Option.some.inj (Go.Proofs.Tryz.func60.symm.trans hf)) ▸ gn60
  · exact (Option.some.inj (Go.Proofs.Tryz.func61.symm.trans hf)) ▸ gn61
  · exact (Option.some.inj (Go.Proofs.Tryz.func62.symm.trans hf)) ▸ gn62
  · exact (Option.some.inj (Go.Proofs.Tryz.func63.symm.trans hf)) ▸ gn63
theorem gns64 (f : Nat) (fn : Func) (h1 : 64 ≤ f) (h2 : f < 96) (hf : Go.Proofs.Tryz.prog.funcs[f]? = some fn) : fn.body.elim [] Code.globalsNamed = gnT f ∧ fn.goes = false := by
  have h : f = 64 ∨ f = 65 ∨ f = 66 ∨ f = 67 ∨ f = 68 ∨ f = 69 ∨ f = 70 ∨ f = 71 ∨ f = 72 ∨ f = 73 ∨ f = 74 ∨ f = 75 ∨ f = 76 ∨ f = 77 ∨ f = 78 ∨ f = 79 ∨ f = 80 ∨ f = 81 ∨ f = 82 ∨ f = 83 ∨ f = 84 ∨ f = 85 ∨ f = 86 ∨ f = 87 ∨ f = 88 ∨ f = 89 ∨ f = 90 ∨ f = 91 ∨ f = 92 ∨ f = 93 ∨ f = 94 ∨ f = 95 := by omega
  rcases h with rfl | rfl | rfl | rfl | rfl | rfl | rfl | rfl | rfl | rfl | rfl | rfl | rfl | rfl | rfl | rfl | rfl | rfl | rfl | rfl | rfl | rfl | rfl | rfl | rfl | rfl | rfl | rfl | rfl | rfl | rfl | rfl
  · exact (Option.some.inj (Go.Proofs.Tryz.func64.symm.trans hf)) ▸ gn64
  · exact (Option.some.inj (Go.Proofs.Tryz.func65.symm.trans hf)) ▸ gn65
  · exact (Option.some.inj (Go.Proofs.Tryz.func66.symm.trans hf)) ▸ gn66
  · exact (Option.some.inj (Go.Proofs.Tryz.func67.symm.trans hf)) ▸ gn67
  · exact (Option.some.inj (Go.Proofs.Tryz.func68.symm.trans hf)) ▸ gn68
  · exact (Option.some.inj (Go.Proofs.Tryz.func69.symm.trans hf)) ▸ gn69
  · exact (Option.some.inj (Go.Proofs.Tryz.func70.symm.trans hf)) ▸ gn70
  · exact (Option.some.inj (Go.Proofs.Tryz.func71.symm.trans hf)) ▸ gn71
  · exact (Option.some.inj (Go.Proofs.Tryz.func72.symm.trans hf)) ▸ gn72
  · exact (Option.some.inj (Go.Proofs.Tryz.func73.symm.trans hf)) ▸ gn73
  · exact (Option.some.inj (Go.Proofs.Tryz.func74.symm.trans hf)) ▸ gn74
  · exact (Option.some.inj (Go.Proofs.Tryz.func75.symm.trans hf)) ▸ gn75
  · exact (Option.some.inj (Go.Proofs.Tryz.func76.symm.trans hf)) ▸ gn76
  · exact (Option.some.inj (Go.Proofs.Tryz.func77.symm.trans hf)) ▸ gn77
  · exact (Option.some.inj (Go.Proofs.Tryz.func78.symm.trans hf)) ▸ gn78
  · exact (Option.some.inj (Go.Proofs.Tryz.func79.symm.trans hf)) ▸ gn79
  · exact (Option.some.inj (Go.Proofs.Tryz.func80.symm.trans hf)) ▸ gn80
  · exact (Option.some.inj (Go.Proofs.Tryz.func81.symm.trans hf)) ▸ gn81
  · exact (Option.some.inj (Go.Proofs.Tryz.func82.symm.trans hf)) ▸ gn82
  · exact (Option.some.inj (Go.Proofs.Tryz.func83.symm.trans hf)) ▸ gn83
  · exact (Option.some.inj (Go.Proofs.Tryz.func84.symm.trans hf)) ▸ gn84
  · exact (Option.some.inj (Go.Proofs.Tryz.func85.symm.trans hf)) ▸ gn85
  · exact (Option.some.inj (Go.Proofs.Tryz.func86.symm.trans hf)) ▸ gn86
  · exact (Option.some.inj (Go.Proofs.Tryz.func87.symm.trans hf)) ▸ gn87
  · exact (Option.some.inj (Go.Proofs.Tryz.func88.symm.trans hf)) ▸ gn88
  · exact (Option.some.inj (Go.Proofs.Tryz.func89.symm.trans hf)) ▸ gn89
  · exact (Option.some.inj (Go.Proofs.Tryz.func90.symm.trans hf)) ▸ gn90
  · exact (Option.some.inj (Go.Proofs.Tryz.func91.symm.trans hf)) ▸ gn91
  · exact (Option.some.inj (Go.Proofs.Tryz.func92.symm.trans hf)) ▸ gn92
  · exact (Option.some.inj (Go.Proofs.Tryz.func93.symm.trans hf)) ▸ gn93
  · exact (Option.some.inj (Go.Proofs.Tryz.func94.symm.trans hf)) ▸ gn94
  · exact (Option.some.inj (Go.Proofs.Tryz.func95.symm.trans hf)) ▸ gn95
theorem gns96 (f : Nat) (fn : Func) (h1 : 96 ≤ f) (h2 : f < 128) (hf : Go.Proofs.Tryz.prog.funcs[f]? = some fn) : fn.body.elim [] Code.globalsNamed = gnT f ∧ fn.goes = false := by
  have h : f = 96 ∨ f = 97 ∨ f = 98 ∨ f = 99 ∨ f = 100 ∨ f = 101 ∨ f = 102 ∨ f = 103 ∨ f = 104 ∨ f = 105 ∨ f = 106 ∨ f = 107 ∨ f = 108 ∨ f = 109 ∨ f = 110 ∨ f = 111 ∨ f = 112 ∨ f = 113 ∨ f = 114 ∨ f = 115 ∨ f = 116 ∨ f = 117 ∨ f = 118 ∨ f = 119 ∨ f = 120 ∨ f = 121 ∨ f = 122 ∨ f = 123 ∨ f = 124 ∨ f = 125 ∨ f = 126 ∨ f = 127 := by omega
  rcases h with rfl | rfl | rfl | rfl | rfl | rfl | rfl | rfl | rfl | rfl | rfl | rfl | rfl | rfl | rfl | rfl | rfl | rfl | rfl | rfl | rfl | rfl | rfl | rfl | rfl | rfl | rfl | rfl | rfl | rfl | rfl | rfl
  · exact (Option.some.inj (Go.Proofs.Tryz.func96.symm.trans hf)) ▸ gn96
  · exact (Option.some.inj (Go.Proofs.Tryz.func97.symm.trans hf)) ▸ gn97
  · exact (Option.some.inj (Go.Proofs.Tryz.func98.symm.trans hf)) ▸ gn98
  · exact (Option.some.inj (Go.Proofs.Tryz.func99.symm.trans hf)) ▸ gn99
  · exact (Option.some.inj (Go.Proofs.Tryz.func100.symm.trans hf)) ▸ gn100
  · exact (Option.some.inj (Go.Proofs.Tryz.func101.symm.trans hf)) ▸ gn101
  · exact (Option.some.inj (Go.Proofs.Tryz.func102.symm.trans hf)) ▸ gn102
  · exact (Option.some.inj (Go.Proofs.Tryz.func103.symm.trans hf)) ▸ gn103
  · exact (Option.some.inj (Go.Proofs.Tryz.func104.symm.trans hf)) ▸ gn104
  · exact (Option.some.inj (Go.Proofs.Tryz.func105.symm.trans hf)) ▸ gn105
  · exact (Option.some.inj (Go.Proofs.Tryz.func106.symm.trans hf)) ▸ gn106
  · exact (Option.some.inj (Go.Proofs.Tryz.func107.symm.trans hf)) ▸ gn107
  · exact (Option.some.inj (Go.Proofs.Tryz.func108.symm.trans hf)) ▸ gn108
  · exact (Option.some.inj (Go.Proofs.Tryz.func109.symm.trans hf)) ▸ gn109
  · exact (Option.some.inj (Go.Proofs.Tryz.func110.symm.trans hf)) ▸ gn110
  · exact (Option.some.inj (Go.Proofs.Tryz.func111.symm.trans hf)) ▸ gn111
  · exact (Option.some.inj (Go.Proofs.Tryz.func112.symm.trans hf)) ▸ gn112
  · exact (Option.some.inj (Go.Proofs.Tryz.func113.symm.trans hf)) ▸ gn113
  · exact (Option.some.inj (Go.Proofs.Tryz.func114.symm.trans hf)) ▸ gn114
  · exact (Option.some.inj (Go.Proofs.Tryz.func115.symm.trans hf)) ▸ gn115
  · exact (Option.some.inj (Go.Proofs.Tryz.func116.symm.trans hf)) ▸ gn116
  · exact (Option.some.inj (Go.Proofs.Tryz.func117.symm.trans hf)) ▸ gn117
  · exact (Option.some.inj (Go.Proofs.Tryz.func118.symm.trans hf)) ▸ gn118
  · exact (Option.some.inj (Go.Proofs.Tryz.func119.symm.trans hf)) ▸ gn119
  · exact (Option.some.inj (Go.Proofs.Tryz.func120.symm.trans hf)) ▸ gn120
  · exact (Option.some.inj (Go.Proofs.Tryz.func121.symm.trans hf)) ▸ gn121
  · exact (Option.some.inj (Go.Proofs.Tryz.func122.symm.trans hf)) ▸ gn122
  · exact (Option.some.inj (Go.Proofs.Tryz.func123.symm.trans hf)) ▸ gn123
  · exact (Option.some.inj (Go.Proofs.Tryz.func124.symm.trans hf)) ▸ gn124
  · exact (Option.some.inj (Go.Proofs.Tryz.func125.symm.trans hf)) ▸ gn125
  · exact (Option.some.inj (Go.Proofs.Tryz.func126.symm.trans hf)) ▸ gn126
  · exact (Option.some.inj (Go.Proofs.Tryz.func127.symm.trans hf)) ▸ gn127
theorem gns128 (f : Nat) (fn : Func) (h1 : 128 ≤ f) (h2 : f < 160) (hf : Go.Proofs.Tryz.prog.funcs[f]? = some fn) : fn.body.elim [] Code.globalsNamed = gnT f ∧ fn.goes = false := by
  have h : f = 128 ∨ f = 129 ∨ f = 130 ∨ f = 131 ∨ f = 132 ∨ f = 133 ∨ f = 134 ∨ f = 135 ∨ f = 136 ∨ f = 137 ∨ f = 138 ∨ f = 139 ∨ f = 140 ∨ f = 141 ∨ f = 142 ∨ f = 143 ∨ f = 144 ∨ f = 145 ∨ f = 146 ∨ f = 147 ∨ f = 148 ∨ f = 149 ∨ f = 150 ∨ f = 151 ∨ f = 152 ∨ f = 153 ∨ f = 154 ∨ f = 155 ∨ f = 156 ∨ f = 157 ∨ f = 158 ∨ f = 159 := by omega
  rcases h with rfl | rfl | rfl | rfl | rfl | rfl | rfl | rfl | rfl | rfl | rfl | rfl | rfl | rfl | rfl | rfl | rfl | rfl | rfl | rfl | rfl | rfl | rfl | rfl | rfl | rfl | rfl | rfl | rfl | rfl | rfl | rfl
  · exact (Option.some.inj (Go.Proofs.Tryz.func128.symm.trans hf)) ▸ gn128
  · exact (Option.some.inj (Go.Proofs.Tryz.func129.symm.trans hf)) ▸ gn129
  · exact (Option.some.inj (Go.Proofs.Tryz.func130.symm.trans hf)) ▸ gn130
  · exact (Option.some.inj (Go.Proofs.Tryz.func131.symm.trans hf)) ▸ gn131
  · exact (Option.some.inj (Go.Proofs.Tryz.func132.symm.trans hf)) ▸ gn132
  · exact (Option.some.inj (Go.Proofs.Tryz.func133.symm.trans hf)) ▸ gn133
  · exact (Option.some.inj (Go.Proofs.Tryz.func134.symm.trans hf)) ▸ gn134
  · exact (Option.some.inj (Go.Proofs.Tryz.func135.symm.trans hf)) ▸ gn135
  · exact (Option.some.inj (Go.Proofs.Tryz.func136.symm.trans hf)) ▸ gn136
  · exact (Option.some.inj (Go.Proofs.Tryz.func137.symm.trans hf)) ▸ gn137
  · exact (Option.some.inj (Go.Proofs.Tryz.func138.symm.trans hf)) ▸ gn138
  · exact (Option.some.inj (Go.Proofs.Tryz.func139.symm.trans hf)) ▸ gn139
  · exact (Option.some.inj (Go.Proofs.Tryz.func140.symm.trans hf)) ▸ gn140
  · exact (Option.some.inj (Go.Proofs.Tryz.func141.symm.trans hf)) ▸ gn141
  · exact (Option.some.inj (Go.Proofs.Tryz.func142.symm.trans hf)) ▸ gn142
  · exact (Option.some.inj (Go.Proofs.Tryz.func143.symm.trans hf)) ▸ gn143
  · exact (Option.some.inj (Go.Proofs.Tryz.func144.symm.trans hf)) ▸ gn144
  · exact (Option.some.inj (Go.Proofs.Tryz.func145.symm.trans hf)) ▸ gn145
  · exact (Option.some.inj (Go.Proofs.Tryz.func146.symm.trans hf)) ▸ gn146
  · exact (Option.some.inj (Go.Proofs.Tryz.func147.symm.trans hf)) ▸ gn147
  · exact (Option.some.inj (Go.Proofs.Tryz.func148.symm.trans hf)) ▸ gn148
  · exact (Option.some.inj (Go.Proofs.Tryz.func149.symm.trans hf)) ▸ gn149
  · exact (Option.some.inj (Go.Proofs.Tryz.func150.symm.trans hf)) ▸ gn150
  · exact (Option.some.inj (Go.Proofs.Tryz.func151.symm.trans hf)) ▸ gn151
  · exact (Option.some.inj (Go.Proofs.Tryz.func152.symm.trans hf)) ▸ gn152
  · exact (Option.some.inj (Go.Proofs.Tryz.func153.symm.trans hf)) ▸ gn153
  · exact (Option.some.inj (Go.Proofs.Tryz.func154.symm.trans hf)) ▸ gn154
  · exact (Option.some.inj (Go.Proofs.Tryz.func155.symm.trans hf)) ▸ gn155
  · exact (Option.some.inj (Go.Proofs.Tryz.func156.symm.trans hf)) ▸ gn156
  · exact (Option.some.inj (Go.Proofs.Tryz.func157.symm.trans hf)) ▸ gn157
  · exact (Option.some.inj (Go.Proofs.Tryz.func158.symm.trans hf)) ▸ gn158
  · exact (Option.some.inj (Go.Proofs.Tryz.func159.symm.trans hf)) ▸ gn159
theorem gns160 (f : Nat) (fn : Func) (h1 : 160 ≤ f) (h2 : f < 192) (hf : Go.Proofs.Tryz.prog.funcs[f]? = some fn) : fn.body.elim [] Code.globalsNamed = gnT f ∧ fn.goes = false := by
  have h : f = 160 ∨ f = 161 ∨ f = 162 ∨ f = 163 ∨ f = 164 ∨ f = 165 ∨ f = 166 ∨ f = 167 ∨ f = 168 ∨ f = 169 ∨ f = 170 ∨ f = 171 ∨ f = 172 ∨ f = 173 ∨ f = 174 ∨ f = 175 ∨ f = 176 ∨ f = 177 ∨ f = 178 ∨ f = 179 ∨ f = 180 ∨ f = 181 ∨ f = 182 ∨ f = 183 ∨ f = 184 ∨ f = 185 ∨ f = 186 ∨ f = 187 ∨ f = 188 ∨ f = 189 ∨ f = 190 ∨ f = 191 := by omega
  rcases h with rfl | rfl | rfl | rfl | rfl | rfl | rfl | rfl | rfl | rfl | rfl | rfl | rfl | rfl | rfl | rfl | rfl | rfl | rfl | rfl | rfl | rfl | rfl | rfl | rfl | rfl | rfl | rfl | rfl | rfl | rfl | rfl
  · exact (Option.some.inj (Go.Proofs.Tryz.func160.symm.trans hf)) ▸ gn160
  · exact (Option.some.inj (Go.Proofs.Tryz.func161.symm.trans hf)) ▸ gn161
  · exact (Option.some.inj (Go.Proofs.Tryz.func162.symm.trans hf)) ▸ gn162
  · exact (Option.some.inj (Go.Proofs.Tryz.func163.symm.trans hf)) ▸ gn163
  · exact (Option.some.inj (Go.Proofs.Tryz.func164.symm.trans hf)) ▸ gn164
  · exact (Option.some.inj (Go.Proofs.Tryz.func165.symm.trans hf)) ▸ gn165
  · exact (Option.some.inj (Go.Proofs.Tryz.func166.symm.trans hf)) ▸ gn166
  · exact (Option.some.inj (Go.Proofs.Tryz.func167.symm.trans hf)) ▸ gn167
  · exact (Option.some.inj (Go.Proofs.Tryz.func168.symm.trans hf)) ▸ gn168
  · exact (Option.some.inj (Go.Proofs.Tryz.func169.symm.trans hf)) ▸ gn169
  · exact (Option.some.inj (Go.Proofs.Tryz.func170.symm.trans hf)) ▸ gn170
  · exact (Option.some.inj (Go.Proofs.Tryz.func171.symm.trans hf)) ▸ gn171
  · exact (Option.some.inj (Go.Proofs.Tryz.func172.symm.trans hf)) ▸ gn172
  · exact (Option.some.inj (Go.Proofs.Tryz.func173.symm.trans hf)) ▸ gn173
  · exact (Option.some.inj (Go.Proofs.Tryz.func174.symm.trans hf)) ▸ gn174
  · exact (Option.some.inj (Go.Proofs.Tryz.func175.symm.trans hf)) ▸ gn175
  · exact (Option.some.inj (Go.Proofs.Tryz.func176.symm.trans hf)) ▸ gn176
  · exact (Option.some.inj (Go.Proofs.Tryz.func177.symm.trans hf)) ▸ gn177
  · exact (Option.some.inj (Go.Proofs.Tryz.func178.symm.trans hf)) ▸ gn178
  · exact (Option.some.inj (Go.Proofs.Tryz.func179.symm.trans hf)) ▸ gn179
  · exact (Option.some.inj (Go.Proofs.Tryz.func180.symm.trans hf)) ▸ gn180
  · exact (Option.some.inj (Go.Proofs.Tryz.func181.symm.trans hf)) ▸ gn181
  · exact (Option.some.inj (Go.Proofs.Tryz.func182.symm.trans hf)) ▸ gn182
  · exact (Option.some.inj (Go.Proofs.Tryz.func183.symm.trans hf)) ▸ gn183
  · exact (Option.some.inj (Go.Proofs.Tryz.func184.symm.trans hf)) ▸ gn184
  · exact (Option.some.inj (Go.Proofs.Tryz.func185.symm.trans hf)) ▸ gn185
  · exact (Option.some.inj (Go.Proofs.Tryz.func186.symm.trans hf)) ▸ gn186
  · exact (Option.some.inj (Go.Proofs.Tryz.func187.symm.trans hf)) ▸ gn187
  · exact (Option.some.inj (Go.Proofs.Tryz.func188.symm.trans hf)) ▸ gn188
  · exact (Option.some.inj (Go.Proofs.Tryz.func189.symm.trans hf)) ▸ gn189
  · exact (Option.some.inj (Go.Proofs.Tryz.func190.symm.trans hf)) ▸ gn190
  · exact (Option.some.inj (Go.Proofs.Tryz.func191.symm.trans hf)) ▸ gn191
theorem gns192 (f : Nat) (fn : Func) (h1 : 192 ≤ f) (h2 : f < 224) (hf : Go.Proofs.Tryz.prog.funcs[f]? = some fn) : fn.body.elim [] Code.globalsNamed = gnT f ∧ fn.goes = false := by
  have h : f = 192 ∨ f = 193 ∨ f = 194 ∨ f = 195 ∨ f = 196 ∨ f = 197 ∨ f = 198 ∨ f = 199 ∨ f = 200 ∨ f = 201 ∨ f = 202 ∨ f = 203 ∨ f = 204 ∨ f = 205 ∨ f = 206 ∨ f = 207 ∨ f = 208 ∨ f = 209 ∨ f = 210 ∨ f = 211 ∨ f = 212 ∨ f = 213 ∨ f = 214 ∨ f = 215 ∨ f = 216 ∨ f = 217 ∨ f = 218 ∨ f = 219 ∨ f = 220 ∨ f = 221 ∨ f = 222 ∨ f = 223 := by omega
  rcases h with rfl | rfl | rfl | rfl | rfl | rfl | rfl | rfl | rfl | rfl | rfl | rfl | rfl | rfl | rfl | rfl | rfl | rfl | rfl | rfl | rfl | rfl | rfl | rfl | rfl | rfl | rfl | rfl | rfl | rfl | rfl | rfl
  · exact (Option.some.inj (Go.Proofs.Tryz.func192.symm.trans hf)) ▸ gn192
  · exact (Option.some.inj (Go.Proofs.Tryz.func193.symm.trans hf)) ▸ gn193
  · exact (Option.some.inj (Go.Proofs.Tryz.func194.symm.trans hf)) ▸ gn194
  · exact (Option.some.inj (Go.Proofs.Tryz.func195.symm.trans hf)) ▸ gn195
  · exact (Option.some.inj (Go.Proofs.Tryz.func196.symm.trans hf)) ▸ gn196
  · exact (Option.some.inj (Go.Proofs.Tryz.func197.symm.trans hf)) ▸ gn197
  · exact (Option.some.inj (Go.Proofs.Tryz.func198.symm.trans hf)) ▸ gn198
  · exact (Option.some.inj (Go.Proofs.Tryz.func199.symm.trans hf)) ▸ gn199
  · exact (Option.some.inj (Go.Proofs.Tryz.func200.symm.trans hf)) ▸ gn200
  · exact (Option.some.inj (Go.Proofs.Tryz.func201.symm.trans hf)) ▸ gn201
  · exact (Option.some.inj (Go.Proofs.Tryz.func202.symm.trans hf)) ▸ gn202
  · exact (Option.some.inj (Go.Proofs.Tryz.func203.symm.trans hf)) ▸ gn203
  · exact (Option.some.inj (Go.Proofs.Tryz.func204.symm.trans hf)) ▸ gn204
  · exact (Option.some.inj (Go.Proofs.Tryz.func205.symm.trans hf)) ▸ gn205
  · exact (Option.some.inj (Go.Proofs.Tryz.func206.symm.trans hf)) ▸ gn206
  · exact (Option.some.inj (Go.Proofs.Tryz.func207.symm.trans hf)) ▸ gn207
  · exact (Option.some.inj (Go.Proofs.Tryz.func208.symm.trans hf)) ▸ gn208
  · exact (Option.some.inj (Go.Proofs.Tryz.func209.symm.trans hf)) ▸ gn209
  · exact (Option.some.inj (Go.Proofs.Tryz.func210.symm.trans hf)) ▸ gn210
  · exact (Option.some.inj (Go.Proofs.Tryz.func211.symm.trans hf)) ▸ gn211
  · exact (Option.some.inj (Go.Proofs.Tryz.func212.symm.trans hf)) ▸ gn212
  · exact (Option.some.inj (Go.Proofs.Tryz.func213.symm.trans hf)) ▸ gn213
  · exact (Option.some.inj (Go.Proofs.Tryz.func214.symm.trans hf)) ▸ gn214
  · exact (Option.some.inj (Go.Proofs.Tryz.func215.symm.trans hf)) ▸ gn215
  · exact (Option.some.inj (Go.Proofs.Tryz.func216.symm.trans hf)) ▸ gn216
  · exact (Option.some.inj (Go.Proofs.Tryz.func217.symm.trans hf)) ▸ gn217
  · exact (Option.some.inj (Go.Proofs.Tryz.func218.symm.trans hf)) ▸ gn218
  · exact (Option.some.inj (Go.Proofs.Tryz.func219.symm.trans hf)) ▸ gn219
  · exact (Option.some.inj (Go.Proofs.Tryz.func220.symm.trans hf)) ▸ gn220
  · exact (Option.some.inj (Go.Proofs.Tryz.func221.symm.trans hf)) ▸ gn221
  · exact (Option.some.inj (Go.Proofs.Tryz.func222.symm.trans hf)) ▸ gn222
  · exact (Option.some.inj (Go.Proofs.Tryz.func223.symm.trans hf)) ▸ gn223
theorem gns224 (f : Nat) (fn : Func) (h1 : 224 ≤ f) (h2 : f < 256) (hf : Go.Proofs.Tryz.prog.funcs[f]? = some fn) : fn.body.elim [] Code.globalsNamed = gnT f ∧ fn.goes = false := by
  have h : f = 224 ∨ f = 225 ∨ f = 226 ∨ f = 227 ∨ f = 228 ∨ f = 229 ∨ f = 230 ∨ f = 231 ∨ f = 232 ∨ f = 233 ∨ f = 234 ∨ f = 235 ∨ f = 236 ∨ f = 237 ∨ f = 238 ∨ f = 239 ∨ f = 240 ∨ f = 241 ∨ f = 242 ∨ f = 243 ∨ f = 244 ∨ f = 245 ∨ f = 246 ∨ f = 247 ∨ f = 248 ∨ f = 249 ∨ f = 250 ∨ f = 251 ∨ f = 252 ∨ f = 253 ∨ f = 254 ∨ f = 255 := by omega
  rcases h with rfl | rfl | rfl | rfl | rfl | rfl | rfl | rfl | rfl | rfl | rfl | rfl | rfl | rfl | rfl | rfl | rfl | rfl | rfl | rfl | rfl | rfl | rfl | rfl | rfl | rfl | rfl | rfl | rfl | rfl | rfl | rfl
  · exact (Option.some.inj (Go.Proofs.Tryz.func224.symm.trans hf)) ▸ gn224
  · exact (Option.some.inj (Go.Proofs.Tryz.func225.symm.trans hf)) ▸ gn225
  · exact (Option.some.inj (Go.Proofs.Tryz.func226.symm.trans hf)) ▸ gn226
  · exact (Option.some.inj (Go.Proofs.Tryz.func227.symm.trans hf)) ▸ gn227
  · exact (Option.some.inj (Go.Proofs.Tryz.func228.symm.trans hf)) ▸ gn228
  · exact (Option.some.inj (Go.Proofs.Tryz.func229.symm.trans hf)) ▸ gn229
  · exact (Option.some.inj (Go.Proofs.Tryz.func230.symm.trans hf)) ▸ gn230
  · exact (Option.some.inj (Go.Proofs.Tryz.func231.symm.trans hf)) ▸ gn231
  · exact (Option.some.inj (Go.Proofs.Tryz.func232.symm.trans hf)) ▸ gn232
  · exact (Option.some.inj (Go.Proofs.Tryz.func233.symm.trans hf)) ▸ gn233
  · exact (Option.some.inj (Go.Proofs.Tryz.func234.symm.trans hf)) ▸ gn234
  · exact (Option.some.inj (Go.Proofs.Tryz.func235.symm.trans hf)) ▸ gn235
  · exact (Option.some.inj (Go.Proofs.Tryz.func236.symm.trans hf)) ▸ gn236
  · exact (Option.some.inj (Go.Proofs.Tryz.func237.symm.trans hf)) ▸ gn237
  · exact (Option.some.inj (Go.Proofs.Tryz.func238.symm.trans hf)) ▸ gn238
  · exact (Option.some.inj (Go.Proofs.Tryz.func239.symm.trans hf)) ▸ gn239
  · exact (Option.some.inj (Go.Proofs.Tryz.func240.symm.trans hf)) ▸ gn240
  · exact (Option.some.inj (Go.Proofs.Tryz.func241.symm.trans hf)) ▸ gn241
  · exact (Option.some.inj (Go.Proofs.Tryz.func242.symm.trans hf)) ▸ gn242
  · exact (Option.some.inj (Go.Proofs.Tryz.func243.symm.trans hf)) ▸ gn243
  · exact (Option.some.inj (Go.Proofs.Tryz.func244.symm.trans hf)) ▸ gn244
  · exact (Option.some.inj (Go.Proofs.Tryz.func245.symm.trans hf)) ▸ gn245
  · exact (Option.some.inj (Go.Proofs.Tryz.func246.symm.trans hf)) ▸ gn246
  · exact (Option.some.inj (Go.Proofs.Tryz.func247.symm.trans hf)) ▸ gn247
  · exact (Option.some.inj (Go.Proofs.Tryz.func248.symm.trans hf)) ▸ gn248
  · exact (Option.some.inj (Go.Proofs.Tryz.func249.symm.trans hf)) ▸ gn249
  · exact (Option.some.inj (Go.Proofs.Tryz.func250.symm.trans hf)) ▸ gn250
  · exact (Option.some.inj (Go.Proofs.Tryz.func251.symm.trans hf)) ▸ gn251
  · exact (Option.some.inj (Go.Proofs.Tryz.func252.symm.trans hf)) ▸ gn252
  · exact (Option.some.inj (Go.Proofs.Tryz.func253.symm.trans hf)) ▸ gn253
  · exact (Option.some.inj (Go.Proofs.Tryz.func254.symm.trans hf)) ▸ gn254
  · exact (Option.some.inj (Go.Proofs.Tryz.func255.symm.trans hf)) ▸ gn255
theorem gns256 (f : Nat) (fn : Func) (h1 : 256 ≤ f) (h2 : f < 288) (hf : Go.Proofs.Tryz.prog.funcs[f]? = some fn) : fn.body.elim [] Code.globalsNamed = gnT f ∧ fn.goes = false := by
  have h : f = 256 ∨ f = 257 ∨ f = 258 ∨ f = 259 ∨ f = 260 ∨ f = 261 ∨ f = 262 ∨ f = 263 ∨ f = 264 ∨ f = 265 ∨ f = 266 ∨ f = 267 ∨ f = 268 ∨ f = 269 ∨ f = 270 ∨ f = 271 ∨ f = 272 ∨ f = 273 ∨ f = 274 ∨ f = 275 ∨ f = 276 ∨ f = 277 ∨ f = 278 ∨ f = 279 ∨ f = 280 ∨ f = 281 ∨ f = 282 ∨ f = 283 ∨ f = 284 ∨ f = 285 ∨ f = 286 ∨ f = 287 := by omega
  rcases h with rfl | rfl | rfl | rfl | rfl | rfl | rfl | rfl | rfl | rfl | rfl | rfl | rfl | rfl | rfl | rfl | rfl | rfl | rfl | rfl | rfl | rfl | rfl | rfl | rfl | rfl | rfl | rfl | rfl | rfl | rfl | rfl
  · exact (Option.some.inj (Go.Proofs.Tryz.func256.symm.trans hf)) ▸ gn256
  · exact (Option.some.inj (Go.Proofs.Tryz.func257.symm.trans hf)) ▸ gn257
  · exact (Option.some.inj (Go.Proofs.Tryz.func258.symm.trans hf)) ▸ gn258
  · exact (Option.some.inj (Go.Proofs.Tryz.func259.symm.trans hf)) ▸ gn259
  · exact (Option.some.inj (Go.Proofs.Tryz.func260.symm.trans hf)) ▸ gn260
  · exact (Option.some.inj (Go.Proofs.Tryz.func261.symm.trans hf)) ▸ gn261
  · exact (Option.some.inj (Go.Proofs.Tryz.func262.symm.trans hf)) ▸ gn262
  · exact (Option.some.inj (Go.Proofs.Tryz.func263.symm.trans hf)) ▸ gn263
  · exact (Option.some.inj (Go.Proofs.Tryz.func264.symm.trans hf)) ▸ gn264
  · exact (Option.some.inj (Go.Proofs.Tryz.func265.symm.trans hf)) ▸ gn265
  · exact (Option.some.inj (Go.Proofs.Tryz.func266.symm.trans hf)) ▸ gn266
  · exact (Option.some.inj (Go.Proofs.Tryz.func267.symm.trans hf)) ▸ gn267
  · exact (Option.some.inj (Go.Proofs.Tryz.func268.symm.trans hf)) ▸ gn268
  · exact (Option.some.inj (Go.Proofs.Tryz.func269.symm.trans hf)) ▸ gn269
  · exact (Option.some.inj (Go.Proofs.Tryz.func270.symm.trans hf)) ▸ gn270
  · exact (Option.some.inj (Go.Proofs.Tryz.func271.symm.trans hf)) ▸ gn271
  · exact (Option.some.inj (Go.Proofs.Tryz.func272.symm.trans hf)) ▸ gn272
  · exact (Option.some.inj (Go.Proofs.Tryz.func273.symm.trans hf)) ▸ gn273
  · exact (Option.some.inj (Go.Proofs.Tryz.func274.symm.trans hf)) ▸ gn274
  · exact (Option.some.inj (Go.Proofs.Tryz.func275.symm.trans hf)) ▸ gn275
  · exact (Option.some.inj (Go.Proofs.Tryz.func276.symm.trans hf)) ▸ gn276
  · exact (Option.some.inj (Go.Proofs.Tryz.func277.symm.trans hf)) ▸ gn277
  · exact (Option.some.inj (Go.Proofs.Tryz.func278.symm.trans hf)) ▸ gn278
  · exact (Option.some.inj (Go.Proofs.Tryz.func279.symm.trans hf)) ▸ gn279
  · exact (Option.some.inj (Go.Proofs.Tryz.func280.symm.trans hf)) ▸ gn280
  · exact (Option.some.inj (Go.Proofs.Tryz.func281.symm.trans hf)) ▸ gn281
  · exact (Option.some.inj (Go.Proofs.Tryz.func282.symm.trans hf)) ▸ gn282
  · exact (Option.some.inj (Go.Proofs.Tryz.func283.symm.trans hf)) ▸ gn283
  · exact (Option.some.inj (Go.Proofs.Tryz.func284.symm.trans hf)) ▸ gn284
  · exact (Option.some.inj (Go.Proofs.Tryz.func285.symm.trans hf)) ▸ gn285
  · exact (Option.some.inj (Go.Proofs.Tryz.func286.symm.trans hf)) ▸ gn286
  · exact (Option.some.inj (Go.Proofs.Tryz.func287.symm.trans hf)) ▸ gn287
theorem gns288 (f : Nat) (fn : Func) (h1 : 288 ≤ f) (h2 : f < 320) (hf : Go.Proofs.Tryz.prog.funcs[f]? = some fn) : fn.body.elim [] Code.globalsNamed = gnT f ∧ fn.goes = false := by
  have h : f = 288 ∨ f = 289 ∨ f = 290 ∨ f = 291 ∨ f = 292 ∨ f = 293 ∨ f = 294 ∨ f = 295 ∨ f = 296 ∨ f = 297 ∨ f = 298 ∨ f = 299 ∨ f = 300 ∨ f = 301 ∨ f = 302 ∨ f = 303 ∨ f = 304 ∨ f = 305 ∨ f = 306 ∨ f = 307 ∨ f = 308 ∨ f = 309 ∨ f = 310 ∨ f = 311 ∨ f = 312 ∨ f = 313 ∨ f = 314 ∨ f = 315 ∨ f = 316 ∨ f = 317 ∨ f = 318 ∨ f = 319 := by omega
  rcases h with rfl | rfl | rfl | rfl | rfl | rfl | rfl | rfl | rfl | rfl | rfl | rfl | rfl | rfl | rfl | rfl | rfl | rfl | rfl | rfl | rfl | rfl | rfl | rfl | rfl | rfl | rfl | rfl | rfl | rfl | rfl | rfl
  · exact (Option.some.inj (Go.Proofs.Tryz.func288.symm.trans hf)) ▸ gn288
  · exact (Option.some.inj (Go.Proofs.Tryz.func289.symm.trans hf)) ▸ gn289
  · exact (Option.some.inj (Go.Proofs.Tryz.func290.symm.trans hf)) ▸ gn290
  · exact (Option.some.inj (Go.Proofs.Tryz.func291.symm.trans hf)) ▸ gn291
  · exact (Option.some.inj (Go.Proofs.Tryz.func292.symm.trans hf)) ▸ gn292
  · exact (Option.some.inj (Go.Proofs.Tryz.func293.symm.trans hf)) ▸ gn293
  · exact (Option.some.inj (Go.Proofs.Tryz.func294.symm.trans hf)) ▸ gn294
  · exact (Option.some.inj (Go.Proofs.Tryz.func295.symm.trans hf)) ▸ gn295
  · exact (Option.some.inj (Go.Proofs.Tryz.func296.symm.trans hf)) ▸ gn296
  · exact (Option.some.inj (Go.Proofs.Tryz.func297.symm.trans hf)) ▸ gn297
  · exact (Option.some.inj (Go.Proofs.Tryz.func298.symm.trans hf)) ▸ gn298
  · exact (Option.some.inj (Go.Proofs.Tryz.func299.symm.trans hf)) ▸ gn299
  · exact (Option.some.inj (Go.Proofs.Tryz.func300.symm.trans hf)) ▸ gn300
  · exact (Option.some.inj (Go.Proofs.Tryz.func301.symm.trans hf)) ▸ gn301
  · exact (Option.some.inj (Go.Proofs.Tryz.func302.symm.trans hf)) ▸ gn302
  · exact (Option.some.inj (Go.Proofs.Tryz.func303.symm.trans hf)) ▸ gn303
  · exact (Option.some.inj (Go.Proofs.Tryz.func304.symm.trans hf)) ▸ gn304
  · exact (Option.some.inj (Go.Proofs.Tryz.func305.symm.trans hf)) ▸ gn305
  · exact (Option.some.inj (Go.Proofs.Tryz.func306.symm.trans hf)) ▸ gn306
  · exact (Option.some.inj (Go.Proofs.Tryz.func307.symm.trans hf)) ▸ gn307
  · exact (Option.some.inj (Go.Proofs.Tryz.func308.symm.trans hf)) ▸ gn308
  · exact (Option.some.inj (Go.Proofs.Tryz.func309.symm.trans hf)) ▸ gn309
  · exact (Option.some.inj (Go.Proofs.Tryz.func310.symm.trans hf)) ▸ gn310
  · exact (Option.some.inj (Go.Proofs.Tryz.func311.symm.trans hf)) ▸ gn311
  · exact (Option.some.inj (Go.Proofs.Tryz.func312.symm.trans hf)) ▸ gn312
  · exact (Option.some.inj (Go.Proofs.Tryz.func313.symm.trans hf)) ▸ gn313
  · exact (Option.some.inj (Go.Proofs.Tryz.func314.symm.trans hf)) ▸ gn314
  · exact (Option.some.inj (Go.Proofs.Tryz.func315.symm.trans hf)) ▸ gn315
  · exact (Option.some.inj (Go.Proofs.Tryz.func316.symm.trans hf)) ▸ gn316
  · exact (Option.some.inj (Go.Proofs.Tryz.func317.symm.trans hf)) ▸ gn317
  · exact (Option.some.inj (Go.Proofs.Tryz.func318.symm.trans hf)) ▸ gn318
  · exact (Option.some.inj (Go.Proofs.Tryz.func319.symm.trans hf)) ▸ gn319
theorem gns320 (f : Nat) (fn : Func) (h1 : 320 ≤ f) (h2 : f < 352) (hf : Go.Proofs.Tryz.prog.funcs[f]? = some fn) : fn.body.elim [] Code.globalsNamed = gnT f ∧ fn.goes = false := by
  have h : f = 320 ∨ f = 321 ∨ f = 322 ∨ f = 323 ∨ f = 324 ∨ f = 325 ∨ f = 326 ∨ f = 327 ∨ f = 328 ∨ f = 329 ∨ f = 330 ∨ f = 331 ∨ f = 332 ∨ f = 333 ∨ f = 334 ∨ f = 335 ∨ f = 336 ∨ f = 337 ∨ f = 338 ∨ f = 339 ∨ f = 340 ∨ f = 341 ∨ f = 342 ∨ f = 343 ∨ f = 344 ∨ f = 345 ∨ f = 346 ∨ f = 347 ∨ f = 348 ∨ f = 349 ∨ f = 350 ∨ f = 351 := by omega
  rcases h with rfl | rfl | rfl | rfl | rfl | rfl | rfl | rfl | rfl | rfl | rfl | rfl | rfl | rfl | rfl | rfl | rfl | rfl | rfl | rfl | rfl | rfl | rfl | rfl | rfl | rfl | rfl | rfl | rfl | rfl | rfl | rfl
  · exact (Option.some.inj (Go.Proofs.Tryz.func320.symm.trans hf)) ▸ gn320
  · exact (Option.some.inj (Go.Proofs.Tryz.func321.symm.trans hf)) ▸ gn321
  · exact (Option.some.inj (Go.Proofs.Tryz.func322.symm.trans hf)) ▸ gn322
  · exact (Option.some.inj (Go.Proofs.Tryz.func323.symm.trans hf)) ▸ gn323
  · exact (Option.some.inj (Go.Proofs.Tryz.func324.symm.trans hf)) ▸ gn324
  · exact (Option.some.inj (Go.Proofs.Tryz.func325.symm.trans hf)) ▸ gn325
  · exact (Option.some.inj (Go.Proofs.Tryz.func326.symm.trans hf)) ▸ gn326
  · exact (Option.some.inj (Go.Proofs.Tryz.func327.symm.trans hf)) ▸ gn327
  · exact (Option.some.inj (Go.Proofs.Tryz.func328.symm.trans hf)) ▸ gn328
  · exact (Option.some.inj (Go.Proofs.Tryz.func329.symm.trans hf)) ▸ gn329
  · exact (Option.some.inj (Go.Proofs.Tryz.func330.symm.trans hf)) ▸ gn330
  · exact (Option.some.inj (Go.Proofs.Tryz.func331.symm.trans hf)) ▸ gn331
  · exact (Option.some.inj (Go.Proofs.Tryz.func332.symm.trans hf)) ▸ gn332
  · exact (Option.some.inj (Go.Proofs.Tryz.func333.symm.trans hf)) ▸ gn333
  · exact (Option.some.inj (Go.Proofs.Tryz.func334.symm.trans hf)) ▸ gn334
  · exact (Option.some.inj (Go.Proofs.Tryz.func335.symm.trans hf)) ▸ gn335
  · exact (Option.some.inj (Go.Proofs.Tryz.func336.symm.trans hf)) ▸ gn336
  · exact (Option.some.inj (Go.Proofs.Tryz.func337.symm.trans hf)) ▸ gn337
  · exact (Option.some.inj (Go.Proofs.Tryz.func338.symm.trans hf)) ▸ gn338
  · exact (Option.some.inj (Go.Proofs.Tryz.func339.symm.trans hf)) ▸ gn339
  · exact (Option.some.inj (Go.Proofs.Tryz.func340.symm.trans hf)) ▸ gn340
  · exact (Option.some.inj (Go.Proofs.Tryz.func341.symm.trans hf)) ▸ gn341
  · exact (Option.some.inj (Go.Proofs.Tryz.func342.symm.trans hf)) ▸ gn342
  · exact (Option.some.inj (Go.Proofs.Tryz.func343.symm.trans hf)) ▸ gn343
  · exact (Option.some.inj (Go.Proofs.Tryz.func344.symm.trans hf)) ▸ gn344
  · exact (Option.some.inj (Go.Proofs.Tryz.func345.symm.trans hf)) ▸ gn345
  · exact (Option.some.inj (Go.Proofs.Tryz.func346.symm.trans hf)) ▸ gn346
  · exact (Option.some.inj (Go.Proofs.Tryz.func347.symm.trans hf)) ▸ gn347
  · exact (Option.some.inj (Go.Proofs.Tryz.func348.symm.trans hf)) ▸ gn348
  · exact (Option.some.inj (Go.Proofs.Tryz.func349.symm.trans hf)) ▸ gn349
  · exact (Option.some.inj (Go.Proofs.Tryz.func350.symm.trans hf)) ▸ gn350
  · exact (Option.some.inj (Go.Proofs.Tryz.func351.symm.trans hf)) ▸ gn351
theorem gns352 (f : Nat) (fn : Func) (h1 : 352 ≤ f) (h2 : f < 384) (hf : Go.Proofs.Tryz.prog.funcs[f]? = some fn) : fn.body.elim [] Code.globalsNamed = gnT f ∧ fn.goes = false := by
  have h : f = 352 ∨ f = 353 ∨ f = 354 ∨ f = 355 ∨ f = 356 ∨ f = 357 ∨ f = 358 ∨ f = 359 ∨ f = 360 ∨ f = 361 ∨ f = 362 ∨ f = 363 ∨ f = 364 ∨ f = 365 ∨ f = 366 ∨ f = 367 ∨ f = 368 ∨ f = 369 ∨ f = 370 ∨ f = 371 ∨ f = 372 ∨ f = 373 ∨ f = 374 ∨ f = 375 ∨ f = 376 ∨ f = 377 ∨ f = 378 ∨ f = 379 ∨ f = 380 ∨ f = 381 ∨ f = 382 ∨ f = 383 := by omega
  rcases h with rfl | rfl | rfl | rfl | rfl | rfl | rfl | rfl | rfl | rfl | rfl | rfl | rfl | rfl | rfl | rfl | rfl | rfl | rfl | rfl | rfl | rfl | rfl | rfl | rfl | rfl | rfl | rfl | rfl | rfl | rfl | rfl
  · exact (Option.some.inj (Go.Proofs.Tryz.func352.symm.trans hf)) ▸ gn352
  · exact (Option.some.inj (Go.Proofs.Tryz.func353.symm.trans hf)) ▸ gn353
  · exact (Option.some.inj (Go.Proofs.Tryz.func354.symm.trans hf)) ▸ gn354
  · exact (Option.some.inj (Go.Proofs.Tryz.func355.symm.trans hf)) ▸ gn355
  · exact (Option.some.inj (Go.Proofs.Tryz.func356.symm.trans hf)) ▸ gn356
  · exact (Option.some.inj (Go.Proofs.Tryz.func357.symm.trans hf)) ▸ gn357
  · exact (Option.some.inj (Go.Proofs.Tryz.func358.symm.trans hf)) ▸ gn358
  · exact (Option.some.inj (Go.Proofs.Tryz.func359.symm.trans hf)) ▸ gn359
  · exact (Option.some.inj (Go.Proofs.Tryz.func360.symm.trans hf)) ▸ gn360
  · exact (Option.some.inj (Go.Proofs.Tryz.func361.symm.trans hf)) ▸ gn361
  · exact (Option.some.inj (Go.Proofs.Tryz.func362.symm.trans hf)) ▸ gn362
  · exact (Option.some.inj (Go.Proofs.Tryz.func363.symm.trans hf)) ▸ gn363
  · exact (Option.some.inj (Go.Proofs.Tryz.func364.symm.trans hf)) ▸ gn364
  · exact (Option.some.inj (Go.Proofs.Tryz.func365.symm.trans hf)) ▸ gn365
  · exact (Option.some.inj (Go.Proofs.Tryz.func366.symm.trans hf)) ▸ gn366
  · exact (Option.some.inj (Go.Proofs.Tryz.func367.symm.trans hf)) ▸ gn367
  · exact (Option.some.inj (Go.Proofs.Tryz.func368.symm.trans hf)) ▸ gn368
  · exact (Option.some.inj (Go.Proofs.Tryz.func369.symm.trans hf)) ▸ gn369
  · exact (Option.some.inj (Go.Proofs.Tryz.func370.symm.trans hf)) ▸ gn370
  · exact (Option.some.inj (Go.Proofs.Tryz.func371.symm.trans hf)) ▸ gn371
  · exact (Option.some.inj (Go.Proofs.Tryz.func372.symm.trans hf)) ▸ gn372
  · exact (Option.some.inj (Go.Proofs.Tryz.func373.symm.trans hf)) ▸ gn373
  · exact (Option.some.inj (Go.Proofs.Tryz.func374.symm.trans hf)) ▸ gn374
  · exact (Option.some.inj (Go.Proofs.Tryz.func375.symm.trans hf)) ▸ gn375
  · exact (Option.some.inj (Go.Proofs.Tryz.func376.symm.trans hf)) ▸ gn376
  · exact (Option.some.inj (Go.Proofs.Tryz.func377.symm.trans hf)) ▸ gn377
  · exact (Option.some.inj (Go.Proofs.Tryz.func378.symm.trans hf)) ▸ gn378
  · exact (Option.some.inj (Go.Proofs.Tryz.func379.symm.trans hf)) ▸ gn379
  · exact (Option.some.inj (Go.Proofs.Tryz.func380.symm.trans hf)) ▸ gn380
  · exact (Option.some.inj (Go.Proofs.Tryz.func381.symm.trans hf)) ▸ gn381
  · exact (Option.some.inj (Go.Proofs.Tryz.func382.symm.trans hf)) ▸ gn382
  · exact (Option.some.inj (Go.Proofs.Tryz.func383.symm.trans hf)) ▸ gn383
theorem gns384 (f : Nat) (fn : Func) (h1 : 384 ≤ f) (h2 : f < 416) (hf : Go.Proofs.Tryz.prog.funcs[f]? = some fn) : fn.body.elim [] Code.globalsNamed = gnT f ∧ fn.goes = false := by
  have h : f = 384 ∨ f = 385 ∨ f = 386 ∨ f = 387 ∨ f = 388 ∨ f = 389 ∨ f = 390 ∨ f = 391 ∨ f = 392 ∨ f = 393 ∨ f = 394 ∨ f = 395 ∨ f = 396 ∨ f = 397 ∨ f = 398 ∨ f = 399 ∨ f = 400 ∨ f = 401 ∨ f = 402 ∨ f = 403 ∨ f = 404 ∨ f = 405 ∨ f = 406 ∨ f = 407 ∨ f = 408 ∨ f = 409 ∨ f = 410 ∨ f = 411 ∨ f = 412 ∨ f = 413 ∨ f = 414 ∨ f = 415 := by omega
  rcases h with rfl | rfl | rfl | rfl | rfl | rfl | rfl | rfl | rfl | rfl | rfl | rfl | rfl | rfl | rfl | rfl | rfl | rfl | rfl | rfl | rfl | rfl | rfl | rfl | rfl | rfl | rfl | rfl | rfl | rfl | rfl | rfl
  · exact (Option.some.inj (Go.Proofs.Tryz.func384.symm.trans hf)) ▸ gn384
  · exact (Option.some.inj (Go.Proofs.Tryz.func385.symm.trans hf)) ▸ gn385
  · exact (Option.some.inj (Go.Proofs.Tryz.func386.symm.trans hf)) ▸ gn386
  · exact (Option.some.inj (Go.Proofs.Tryz.func387.symm.trans hf)) ▸ gn387
  · exact (Option.some.inj (Go.Proofs.Tryz.func388.symm.trans hf)) ▸ gn388
  · exact (Option.some.inj (Go.Proofs.Tryz.func389.symm.trans hf)) ▸ gn389
  · exact (Option.some.inj (Go.Proofs.Tryz.func390.symm.trans hf)) ▸ gn390
  · exact (Option.some.inj (Go.Proofs.Tryz.func391.symm.trans hf)) ▸ gn391
  · exact (Option.some.inj (Go.Proofs.Tryz.func392.symm.trans hf)) ▸ gn392
  · exact (Option.some.inj (Go.Proofs.Tryz.func393.symm.trans hf)) ▸ gn393
  · exact (Option.some.inj (Go.Proofs.Tryz.func394.symm.trans hf)) ▸ gn394
  · exact (Option.some.inj (Go.Proofs.Tryz.func395.symm.trans hf)) ▸ gn395
  · exact (Option.some.inj (Go.Proofs.Tryz.func396.symm.trans hf)) ▸ gn396
  · exact (Option.some.inj (Go.Proofs.Tryz.func397.symm.trans hf)) ▸ gn397
  · exact (Option.some.inj (Go.Proofs.Tryz.func398.symm.trans hf)) ▸ gn398
  · exact (Option.some.inj (Go.Proofs.Tryz.func399.symm.trans hf)) ▸ gn399
  · exact (Option.some.inj (Go.Proofs.Tryz.func400.symm.trans hf)) ▸ gn400
  · exact (Option.some.inj (Go.Proofs.Tryz.func401.symm.trans hf)) ▸ gn401
  · exact (Option.some.inj (Go.Proofs.Tryz.func402.symm.trans hf)) ▸ gn402
  · exact (Option.some.inj (Go.Proofs.Tryz.func403.symm.trans hf)) ▸ gn403
  · exact (Option.some.inj (Go.Proofs.Tryz.func404.symm.trans hf)) ▸ gn404
  · exact (Option.some.inj (Go.Proofs.Tryz.func405.symm.trans hf)) ▸ gn405
  · exact (Option.some.inj (Go.Proofs.Tryz.func406.symm.trans hf)) ▸ gn406
  · exact (Option.some.inj (Go.Proofs.Tryz.func407.symm.trans hf)) ▸ gn407
  · exact (Option.some.inj (Go.Proofs.Tryz.func408.symm.trans hf)) ▸ gn408
  · exact (Option.some.inj (Go.Proofs.Tryz.func409.symm.trans hf)) ▸ gn409
  · exact (Option.some.inj (Go.Proofs.Tryz.func410.symm.trans hf)) ▸ gn410
  · exact (Option.some.inj (Go.Proofs.Tryz.func411.symm.trans hf)) ▸ gn411
  · exact (Option.some.inj (Go.Proofs.Tryz.func412.symm.trans hf)) ▸ gn412
  · exact (Option.some.inj (Go.Proofs.Tryz.func413.symm.trans hf)) ▸ gn413
  · exact (Option.some.inj (Go.Proofs.Tryz.func414.symm.trans hf)) ▸ gn414
  · exact (Option.some.inj (Go.Proofs.Tryz.func415.symm.trans hf)) ▸ gn415
theorem gns416 (f : Nat) (fn : Func) (h1 : 416 ≤ f) (h2 : f < 448) (hf : Go.Proofs.Tryz.prog.funcs[f]? = some fn) : fn.body.elim [] Code.globalsNamed = gnT f ∧ fn.goes = false := by
  have h : f = 416 ∨ f = 417 ∨ f = 418 ∨ f = 419 ∨ f = 420 ∨ f = 421 ∨ f = 422 ∨ f = 423 ∨ f = 424 ∨ f = 425 ∨ f = 426 ∨ f = 427 ∨ f = 428 ∨ f = 429 ∨ f = 430 ∨ f = 431 ∨ f = 432 ∨ f = 433 ∨ f = 434 ∨ f = 435 ∨ f = 436 ∨ f = 437 ∨ f = 438 ∨ f = 439 ∨ f = 440 ∨ f = 441 ∨ f = 442 ∨ f = 443 ∨ f = 444 ∨ f = 445 ∨ f = 446 ∨ f = 447 := by omega
  rcases h with rfl | rfl | rfl | rfl | rfl | rfl | rfl | rfl | rfl | rfl | rfl | rfl | rfl | rfl | rfl | rfl | rfl | rfl | rfl | rfl | rfl | rfl | rfl | rfl | rfl | rfl | rfl | rfl | rfl | rfl | rfl | rfl
  · exact (Option.some.inj (Go.Proofs.Tryz.func416.symm.trans hf)) ▸ gn416
  · exact (Option.some.inj (Go.Proofs.Tryz.func417.symm.trans hf)) ▸ gn417
  · exact (Option.some.inj (Go.Proofs.Tryz.func418.symm.trans hf)) ▸ gn418
  · exact (Option.some.inj (Go.Proofs.Tryz.func419.symm.trans hf)) ▸ gn419
  · exact (Option.some.inj (Go.Proofs.Tryz.func420.symm.trans hf)) ▸ gn420
  · exact (Option.some.inj (Go.Proofs.Tryz.func421.symm.trans hf)) ▸ gn421
  · exact (Option.some.inj (Go.Proofs.Tryz.func422.symm.trans hf)) ▸ gn422
  · exact (Option.some.inj (Go.Proofs.Tryz.func423.symm.trans hf)) ▸ gn423
  · exact (Option.some.inj (Go.Proofs.Tryz.func424.symm.trans hf)) ▸ gn424
  · exact (Option.some.inj (Go.Proofs.Tryz.func425.symm.trans hf)) ▸ gn425
  · exact (Option.some.inj (Go.Proofs.Tryz.func426.symm.trans hf)) ▸ gn426
  · exact (Option.some.inj (Go.Proofs.Tryz.func427.symm.trans hf)) ▸ gn427
  · exact (Option.some.inj (Go.Proofs.Tryz.func428.symm.trans hf)) ▸ gn428
  · exact (Option.some.inj (Go.Proofs.Tryz.func429.symm.trans hf)) ▸ gn429
  · exact (Option.some.inj (Go.Proofs.Tryz.func430.symm.trans hf)) ▸ gn430
  · exact (Option.some.inj (Go.Proofs.Tryz.func431.symm.trans hf)) ▸ gn431
  · exact (Option.some.inj (Go.Proofs.Tryz.func432.symm.trans hf)) ▸ gn432
  · exact (Option.some.inj (Go.Proofs.Tryz.func433.symm.trans hf)) ▸ gn433
  · exact (Option.some.inj (Go.Proofs.Tryz.func434.symm.trans hf)) ▸ gn434
  · exact (Option.some.inj (Go.Proofs.Tryz.func435.symm.trans hf)) ▸ gn435
  · exact (Option.some.inj (Go.Proofs.Tryz.func436.symm.trans hf)) ▸ gn436
  · exact (Option.some.inj (Go.Proofs.Tryz.func437.symm.trans hf)) ▸ gn437
  · exact (Option.some.inj (Go.Proofs.Tryz.func438.symm.trans hf)) ▸ gn438
  · exact (Option.some.inj (Go.Proofs.Tryz.func439.symm.trans hf)) ▸ gn439
  · exact (Option.some.inj (Go.Proofs.Tryz.func440.symm.trans hf)) ▸ gn440
  · exact (Option.some.inj (Go.Proofs.Tryz.func441.symm.trans hf)) ▸ gn441
  · exact (Option.some.inj (Go.Proofs.Tryz.func442.symm.trans hf)) ▸ gn442
  · exact (Option.some.inj (Go.Proofs.Tryz.func443.symm.trans hf)) ▸ gn443
  · exact (Option.some.inj (Go.Proofs.Tryz.func444.symm.trans hf)) ▸ gn444
  · exact (Option.some.inj (Go.Proofs.Tryz.func445.symm.trans hf)) ▸ gn445
  · exact (Option.some.inj (Go.Proofs.Tryz.func446.symm.trans hf)) ▸ gn446
  · exact (Option.some.inj (Go.Proofs.Tryz.func447.symm.trans hf)) ▸ gn447
theorem gns448 (f : Nat) (fn : Func) (h1 : 448 ≤ f) (h2 : f < 480) (hf : Go.Proofs.Tryz.prog.funcs[f]? = some fn) : fn.body.elim [] Code.globalsNamed = gnT f ∧ fn.goes = false := by
  have h : f = 448 ∨ f = 449 ∨ f = 450 ∨ f = 451 ∨ f = 452 ∨ f = 453 ∨ f = 454 ∨ f = 455 ∨ f = 456 ∨ f = 457 ∨ f = 458 ∨ f = 459 ∨ f = 460 ∨ f = 461 ∨ f = 462 ∨ f = 463 ∨ f = 464 ∨ f = 465 ∨ f = 466 ∨ f = 467 ∨ f = 468 ∨ f = 469 ∨ f = 470 ∨ f = 471 ∨ f = 472 ∨ f = 473 ∨ f = 474 ∨ f = 475 ∨ f = 476 ∨ f = 477 ∨ f = 478 ∨ f = 479 := by omega
  rcases h with rfl | rfl | rfl | rfl | rfl | rfl | rfl | rfl | rfl | rfl | rfl | rfl | rfl | rfl | rfl | rfl | rfl | rfl | rfl | rfl | rfl | rfl | rfl | rfl | rfl | rfl | rfl | rfl | rfl | rfl | rfl | rfl
  · exact (Option.some.inj (Go.Proofs.Tryz.func448.symm.trans hf)) ▸ gn448
  · exact (Option.some.inj (Go.Proofs.Tryz.func449.symm.trans hf)) ▸ gn449
  · exact (Option.some.inj (Go.Proofs.Tryz.func450.symm.trans hf)) ▸ gn450
  · exact (Option.some.inj (Go.Proofs.Tryz.func451.symm.trans hf)) ▸ gn451
  · exact (Option.some.inj (Go.Proofs.Tryz.func452.symm.trans hf)) ▸ gn452
  · exact (Option.some.inj (Go.Proofs.Tryz.func453.symm.trans hf)) ▸ gn453
  · exact (Option.some.inj (Go.Proofs.Tryz.func454.symm.trans hf)) ▸ gn454
  · exact (Option.some.inj (Go.Proofs.Tryz.func455.symm.trans hf)) ▸ gn455
  · exact (Option.some.inj (Go.Proofs.Tryz.func456.symm.trans hf)) ▸ gn456
  · exact (Option.some.inj (Go.Proofs.Tryz.func457.symm.trans hf)) ▸ gn457
  · exact (Option.some.inj (Go.Proofs.Tryz.func458.symm.trans hf)) ▸ gn458
  · exact (Option.some.inj (Go.Proofs.Tryz.func459.symm.trans hf)) ▸ gn459
  · exact (Option.some.inj (Go.Proofs.Tryz.func460.symm.trans hf)) ▸ gn460
  · exact (Option.some.inj (Go.Proofs.Tryz.func461.symm.trans hf)) ▸ gn461
  · exact (Option.some.inj (Go.Proofs.Tryz.func462.symm.trans hf)) ▸ gn462
  · exact (Option.some.inj (Go.Proofs.Tryz.func463.symm.trans hf)) ▸ gn463
  · exact (Option.some.inj (Go.Proofs.Tryz.func464.symm.trans hf)) ▸ gn464
  · exact (Option.some.inj (Go.Proofs.Tryz.func465.symm.trans hf)) ▸ gn465
  · exact (Option.some.inj (Go.Proofs.Tryz.func466.symm.trans hf)) ▸ gn466
  · exact (Option.some.inj (Go.Proofs.Tryz.func467.symm.trans hf)) ▸ gn467
  · exact (Option.some.inj (Go.Proofs.Tryz.func468.symm.trans hf)) ▸ gn468
  · exact (Option.some.inj (Go.Proofs.Tryz.func469.symm.trans hf)) ▸ gn469
  · exact (Option.some.inj (Go.Proofs.Tryz.func470.symm.trans hf)) ▸ gn470
  · exact (Option.some.inj (Go.Proofs.Tryz.func471.symm.trans hf)) ▸ gn471
  · exact (Option.some.inj (Go.Proofs.Tryz.func472.symm.trans hf)) ▸ gn472
  · exact (Option.some.inj (Go.Proofs.Tryz.func473.symm.trans hf)) ▸ gn473
  · exact (Option.some.inj (Go.Proofs.Tryz.func474.symm.trans hf)) ▸ gn474
  · exact (Option.some.inj (Go.Proofs.Tryz.func475.symm.trans hf)) ▸ gn475
  · exact (Option.some.inj (Go.Proofs.Tryz.func476.symm.trans hf)) ▸ gn476
  · exact (Option.some.inj (Go.Proofs.Tryz.func477.symm.trans hf)) ▸ gn477
  · exact (Option.some.inj (Go.Proofs.Tryz.func478.symm.trans hf)) ▸ gn478
  · exact (Option.some.inj (Go.Proofs.Tryz.func479.symm.trans hf)) ▸ gn479
theorem gns480 (f : Nat) (fn : Func) (h1 : 480 ≤ f) (h2 : f < 512) (hf : Go.Proofs.Tryz.prog.funcs[f]? = some fn) : fn.body.elim [] Code.globalsNamed = gnT f ∧ fn.goes = false := by
  have h : f = 480 ∨ f = 481 ∨ f = 482 ∨ f = 483 ∨ f = 484 ∨ f = 485 ∨ f = 486 ∨ f = 487 ∨ f = 488 ∨ f = 489 ∨ f = 490 ∨ f = 491 ∨ f = 492 ∨ f = 493 ∨ f = 494 ∨ f = 495 ∨ f = 496 ∨ f = 497 ∨ f = 498 ∨ f = 499 ∨ f = 500 ∨ f = 501 ∨ f = 502 ∨ f = 503 ∨ f = 504 ∨ f = 505 ∨ f = 506 ∨ f = 507 ∨ f = 508 ∨ f = 509 ∨ f = 510 ∨ f = 511 := by omega
  rcases h with rfl | rfl | rfl | rfl | rfl | rfl | rfl | rfl | rfl | rfl | rfl | rfl | rfl | rfl | rfl | rfl | rfl | rfl | rfl | rfl | rfl | rfl | rfl | rfl | rfl | rfl | rfl | rfl | rfl | rfl | rfl | rfl
  · exact (Option.some.inj (Go.Proofs.Tryz.func480.symm.trans hf)) ▸ gn480
  · exact (Option.some.inj (Go.Proofs.Tryz.func481.symm.trans hf)) ▸ gn481
  · exact (Option.some.inj (Go.Proofs.Tryz.func482.symm.trans hf)) ▸ gn482
  · exact (Option.some.inj (Go.Proofs.Tryz.func483.symm.trans hf)) ▸ gn483
  · exact (Option.some.inj (Go.Proofs.Tryz.func484.symm.trans hf)) ▸ gn484
  · exact (Option.some.inj (Go.Proofs.Tryz.func485.symm.trans hf)) ▸ gn485
  · exact (Option.some.inj (Go.Proofs.Tryz.func486.symm.trans hf)) ▸ gn486
  · exact (Option.some.inj (Go.Proofs.Tryz.func487.symm.trans hf)) ▸ gn487
  · exact (Option.some.inj (Go.Proofs.Tryz.func488.symm.trans hf)) ▸ gn488
  · exact (Option.some.inj (Go.Proofs.Tryz.func489.symm.trans hf)) ▸ gn489
  · exact (Option.some.inj (Go.Proofs.Tryz.func490.symm.trans hf)) ▸ gn490
  · exact (Option.some.inj (Go.Proofs.Tryz.func491.symm.trans hf)) ▸ gn491
  · exact (Option.some.inj (Go.Proofs.Tryz.func492.symm.trans hf)) ▸ gn492
  · exact (Option.some.inj (Go.Proofs.Tryz.func493.symm.trans hf)) ▸ gn493
  · exact (Option.some.inj (Go.Proofs.Tryz.func494.symm.trans hf)) ▸ gn494
  · exact (Option.some.inj (Go.Proofs.Tryz.func495.symm.trans hf)) ▸ gn495
  · exact (Option.some.inj (Go.Proofs.Tryz.func496.symm.trans hf)) ▸ gn496
  · exact (Option.some.inj (Go.Proofs.Tryz.func497.symm.trans hf)) ▸ gn497
  · exact (Option.some.inj (Go.Proofs.Tryz.func498.symm.trans hf)) ▸ gn498
  · exact (Option.some.inj (Go.Proofs.Tryz.func499.symm.trans hf)) ▸ gn499
  · exact (Option.some.inj (Go.Proofs.Tryz.func500.symm.trans hf)) ▸ gn500
  · exact (Option.some.inj (Go.Proofs.Tryz.func501.symm.trans hf)) ▸ gn501
  · exact (Option.some.inj (Go.Proofs.Tryz.func502.symm.trans hf)) ▸ gn502
  · exact (Option.some.inj (Go.Proofs.Tryz.func503.symm.trans hf)) ▸ gn503
  · exact (Option.some.inj (Go.Proofs.Tryz.func504.symm.trans hf)) ▸ gn504
  · exact (Option.some.inj (Go.Proofs.Tryz.func505.symm.trans hf)) ▸ gn505
  · exact (Option.some.inj (Go.Proofs.Tryz.func506.symm.trans hf)) ▸ gn506
  · exact (Option.some.inj (Go.Proofs.Tryz.func507.symm.trans hf)) ▸ gn507
  · exact (Option.some.inj (Go.Proofs.Tryz.func508.symm.trans hf)) ▸ gn508
  · exact (Option.some.inj (Go.Proofs.Tryz.func509.symm.trans hf)) ▸ gn509
  · exact (Option.some.inj (Go.Proofs.Tryz.func510.symm.trans hf)) ▸ gn510
  · exact (Option.some.inj (Go.Proofs.Tryz.func511.symm.trans hf)) ▸ gn511
theorem gns512 (f : Nat) (fn : Func) (h1 : 512 ≤ f) (h2 : f < 544) (hf : Go.Proofs.Tryz.prog.funcs[f]? = some fn) : fn.body.elim [] Code.globalsNamed = gnT f ∧ fn.goes = false := by
  have h : f = 512 ∨ f = 513 ∨ f = 514 ∨ f = 515 ∨ f = 516 ∨ f = 517 ∨ f = 518 ∨ f = 519 ∨ f = 520 ∨ f = 521 ∨ f = 522 ∨ f = 523 ∨ f = 524 ∨ f = 525 ∨ f = 526 ∨ f = 527 ∨ f = 528 ∨ f = 529 ∨ f = 530 ∨ f = 531 ∨ f = 532 ∨ f = 533 ∨ f = 534 ∨ f = 535 ∨ f = 536 ∨ f = 537 ∨ f = 538 ∨ f = 539 ∨ f = 540 ∨ f = 541 ∨ f = 542 ∨ f = 543 := by omega
  rcases h with rfl | rfl | rfl | rfl | rfl | rfl | rfl | rfl | rfl | rfl | rfl | rfl | rfl | rfl | rfl | rfl | rfl | rfl | rfl | rfl | rfl | rfl | rfl | rfl | rfl | rfl | rfl | rfl | rfl | rfl | rfl | rfl
  · exact (Option.some.inj (Go.Proofs.Tryz.func512.symm.trans hf)) ▸ gn512
  · exact (Option.some.inj (Go.Proofs.Tryz.func513.symm.trans hf)) ▸ gn513
  · exact (Option.some.inj (Go.Proofs.Tryz.func514.symm.trans hf)) ▸ gn514
  · exact (Option.some.inj (Go.Proofs.Tryz.func515.symm.trans hf)) ▸ gn515
  · exact (Option.some.inj (Go.Proofs.Tryz.func516.symm.trans hf)) ▸ gn516
  · exact (Option.some.inj (Go.Proofs.Tryz.func517.symm.trans hf)) ▸ gn517
  · exact (Option.some.inj (Go.Proofs.Tryz.func518.symm.trans hf)) ▸ gn518
  · exact (Option.some.inj (Go.Proofs.Tryz.func519.symm.trans hf)) ▸ gn519
  · exact (Option.some.inj (Go.Proofs.Tryz.func520.symm.trans hf)) ▸ gn520
  · exact (Option.some.inj (Go.Proofs.Tryz.func521.symm.trans hf)) ▸ gn521
  · exact (Option.some.inj (Go.Proofs.Tryz.func522.symm.trans hf)) ▸ gn522
  · exact (Option.some.inj (Go.Proofs.Tryz.func523.symm.trans hf)) ▸ gn523
  · exact (Option.some.inj (Go.Proofs.Tryz.func524.symm.trans hf)) ▸ gn524
  · exact (Option.some.inj (Go.Proofs.Tryz.func525.symm.trans hf)) ▸ gn525
  · exact (Option.some.inj (Go.Proofs.Tryz.func526.symm.trans hf)) ▸ gn526
  · exact (Option.some.inj (Go.Proofs.Tryz.func527.symm.trans hf)) ▸ gn527
  · exact (Option.some.inj (Go.Proofs.Tryz.func528.symm.trans hf)) ▸ gn528
  · exact (Option.some.inj (Go.Proofs.Tryz.func529.symm.trans hf)) ▸ gn529
  · exact (Option.some.inj (Go.Proofs.Tryz.func530.symm.trans hf)) ▸ gn530
  · exact (Option.some.inj (Go.Proofs.Tryz.func531.symm.trans hf)) ▸ gn531
  · exact (Option.some.inj (Go.Proofs.Tryz.func532.symm.trans hf)) ▸ gn532
  · exact (Option.some.inj (Go.Proofs.Tryz.func533.symm.trans hf)) ▸ gn533
  · exact (Option.some.inj (Go.Proofs.Tryz.func534.symm.trans hf)) ▸ gn534
  · exact (Option.some.inj (Go.Proofs.Tryz.func535.symm.trans hf)) ▸ gn535
  · exact (Option.some.inj (Go.Proofs.Tryz.func536.symm.trans hf)) ▸ gn536
  · exact (Option.some.inj (Go.Proofs.Tryz.func537.symm.trans hf)) ▸ gn537
  · exact (Option.some.inj (Go.Proofs.Tryz.func538.symm.trans hf)) ▸ gn538
  · exact (Option.some.inj (Go.Proofs.Tryz.func539.symm.trans hf)) ▸ gn539
  · exact (Option.some.inj (Go.Proofs.Tryz.func540.symm.trans hf)) ▸ gn540
  · exact (Option.some.inj (Go.Proofs.Tryz.func541.symm.trans hf)) ▸ gn541
  · exact (Option.some.inj (Go.Proofs.Tryz.func542.symm.trans hf)) ▸ gn542
  · exact (Option.some.inj (Go.Proofs.Tryz.func543.symm.trans hf)) ▸ gn543
theorem gns544 (f : Nat) (fn : Func) (h1 : 544 ≤ f) (h2 : f < 566) (hf : Go.Proofs.Tryz.prog.funcs[f]? = some fn) : fn.body.elim [] Code.globalsNamed = gnT f ∧ fn.goes = false := by
  have h : f = 544 ∨ f = 545 ∨ f = 546 ∨ f = 547 ∨ f = 548 ∨ f = 549 ∨ f = 550 ∨ f = 551 ∨ f = 552 ∨ f = 553 ∨ f = 554 ∨ f = 555 ∨ f = 556 ∨ f = 557 ∨ f = 558 ∨ f = 559 ∨ f = 560 ∨ f = 561 ∨ f = 562 ∨ f = 563 ∨ f = 564 ∨ f = 565 := by omega
  rcases h with rfl | rfl | rfl | rfl | rfl | rfl | rfl | rfl | rfl | rfl | rfl | rfl | rfl | rfl | rfl | rfl | rfl | rfl | rfl | rfl | rfl | rfl
  · exact (Option.some.inj (Go.Proofs.Tryz.func544.symm.trans hf)) ▸ gn544
  · exact (Option.some.inj (Go.Proofs.Tryz.func545.symm.trans hf)) ▸ gn545
  · exact (Option.some.inj (Go.Proofs.Tryz.func546.symm.trans hf)) ▸ gn546
  · exact (Option.some.inj (Go.Proofs.Tryz.func547.symm.trans hf)) ▸ gn547
  · exact (Option.some.inj (Go.Proofs.Tryz.func548.symm.trans hf)) ▸ gn548
  · exact (Option.some.inj (Go.Proofs.Tryz.func549.symm.trans hf)) ▸ gn549
  · exact (Option.some.inj (Go.Proofs.Tryz.func550.symm.trans hf)) ▸ gn550
  · exact (Option.some.inj (Go.Proofs.Tryz.func551.symm.trans hf)) ▸ gn551
  · exact (Option.some.inj (Go.Proofs.Tryz.func552.symm.trans hf)) ▸ gn552
  · exact (Option.some.inj (Go.Proofs.Tryz.func553.symm.trans hf)) ▸ gn553
  · exact (Option.some.inj (Go.Proofs.Tryz.func554.symm.trans hf)) ▸ gn554
  · exact (Option.some.inj (Go.Proofs.Tryz.func555.symm.trans hf)) ▸ gn555
  · exact (Option.some.inj (Go.Proofs.Tryz.func556.symm.trans hf)) ▸ gn556
  · exact (Option.some.inj (Go.Proofs.Tryz.func557.symm.trans hf)) ▸ gn557
  · exact (Option.some.inj (Go.Proofs.Tryz.func558.symm.trans hf)) ▸ gn558
  · exact (Option.some.inj (Go.Proofs.Tryz.func559.symm.trans hf)) ▸ gn559
  · exact (Option.some.inj (Go.Proofs.Tryz.func560.symm.trans hf)) ▸ gn560
  · exact (Option.some.inj (Go.Proofs.Tryz.func561.symm.trans hf)) ▸ gn561
  · exact (Option.some.inj (Go.Proofs.Tryz.func562.symm.trans hf)) ▸ gn562
  · exact (Option.some.inj (Go.Proofs.Tryz.func563.symm.trans hf)) ▸ gn563
  · exact (Option.some.inj (Go.Proofs.Tryz.func564.symm.trans hf)) ▸ gn564
  · exact (Option.some.inj (Go.Proofs.Tryz.func565.symm.trans hf)) ▸ gn565
theorem nFuncs' : Go.Proofs.Tryz.prog.funcs.size = 566 := by kernel_rfl
theorem gns (f : Nat) (fn : Func) (hf : Go.Proofs.Tryz.prog.funcs[f]? = some fn) : fn.body.elim [] Code.globalsNamed = gnT f ∧ fn.goes = false := by
  have hlt : f < 566 := by rw [← nFuncs']; exact (Array.getElem?_eq_some_iff.1 hf).1
  by_cases h32 : f < 32
  · exact gns0 f fn (by omega) h32 hf
  by_cases h64 : f < 64
  · exact gns32 f fn (by omega) h64 hf
  by_cases h96 : f < 96
  · exact gns64 f fn (by omega) h96 hf
  by_cases h128 : f < 128
  · exact gns96 f fn (by omega) h128 hf
  by_cases h160 : f < 160
  · exact gns128 f fn (by omega) h160 hf
  by_cases h192 : f < 192
  · exact gns160 f fn (by omega) h192 hf
  by_cases h224 : f < 224
  · exact gns192 f fn (by omega) h224 hf
  by_cases h256 : f < 256
  · exact gns224 f fn (by omega) h256 hf
  by_cases h288 : f < 288
  · exact gns256 f fn (by omega) h288 hf
  by_cases h320 : f < 320
  · exact gns288 f fn (by omega) h320 hf
  by_cases h352 : f < 352
  · exact gns320 f fn (by omega) h352 hf
  by_cases h384 : f < 384
  · exact gns352 f fn (by omega) h384 hf
  by_cases h416 : f < 416
  · exact gns384 f fn (by omega) h416 hf
  by_cases h448 : f < 448
  · exact gns416 f fn (by omega) h448 hf
  by_cases h480 : f < 480
  · exact gns448 f fn (by omega) h480 hf
  by_cases h512 : f < 512
  · exact gns480 f fn (by omega) h512 hf
  by_cases h544 : f < 544
  · exact gns512 f fn (by omega) h544 hf
  by_cases h566 : f < 566
  · exact gns544 f fn (by omega) h566 hf
  · omega
theorem gnT_big (f : Nat) (h : 566 ≤ f) : gnT f = [] := by
  unfold gnT
  repeat rw [if_neg (by omega)]
theorem gnAt (g : Nat) : ((Go.Proofs.Tryz.prog.funcs[g]?).bind (·.body)).elim [] Code.globalsNamed = gnT g := by
  cases hq : Go.Proofs.Tryz.prog.funcs[g]? with
  | none =>
    have : 566 ≤ g := by rw [← nFuncs']; exact Array.getElem?_eq_none_iff.1 hq
    rw [gnT_big g this]; rfl
  | some fn => exact (gns g fn hq).1
theorem varsNamed_of {f : Nat} {L : List Nat} (h : Go.Proofs.Tryz.prog.closure f = L) : Go.Proofs.Tryz.prog.varsNamed f = (((L.flatMap gnT).eraseDups).filterMap (fun g => (Go.Proofs.Tryz.prog.globals[g]?).map (·.name)) ++ L.filterMap fun g => (Go.Proofs.Tryz.prog.funcs[g]?).bind fun fn => if fn.body.isNone then entryReads.lookup fn.name else none).eraseDups := by
  unfold Program.varsNamed
  rw [h]
  have : (fun g => ((Go.Proofs.Tryz.prog.funcs[g]?).bind (·.body)).elim [] Code.globalsNamed) = gnT := funext gnAt
  rw [this]
theorem noGoes : Go.Proofs.Tryz.prog.funcs.any Func.goes = false := by
  rw [Array.any_eq_false]
  intro i hi hg
  have := (gns i Go.Proofs.Tryz.prog.funcs[i] (Array.getElem?_eq_getElem hi)).2
  rw [this] at hg; cases hg
theorem goes_false (f : Nat) : Go.Proofs.Tryz.prog.goes f = false := by
  unfold Program.goes
  rw [noGoes, Bool.and_false, Bool.or_false, List.any_eq_false]
  intro g _ hg
  cases hq : Go.Proofs.Tryz.prog.funcs[g]? with
  | none => rw [hq] at hg; cases hg
  | some fn => rw [hq] at hg; have := (gns g fn hq).2; simp only [Option.any_some] at hg; rw [this] at hg; cases hg
end Go.Exe.Tryz
