/- The static check of every function of the seat's program, by the kernel. -/
import Derived.Test.YtoddgmlofhkndaaGreatDoorExeFt
import Derived.Test.YtoddgmlofhkndaaGreatDoorChecked
set_option linter.unusedVariables false
set_option linter.unusedSimpArgs false
set_option maxRecDepth 100000
namespace Go.Exe.Tryz
open Go Go.Exe Go.Proofs
theorem ft_ok0 (f : Nat) (h1 : 0 ≤ f) (h2 : f < 32) : ft f = .bad ∨ ∃ fn, Go.Proofs.Tryz.prog.funcs[f]? = some fn ∧ ft f = cFn Go.Proofs.Tryz.prog fn := by
  have h : f = 0 ∨ f = 1 ∨ f = 2 ∨ f = 3 ∨ f = 4 ∨ f = 5 ∨ f = 6 ∨ f = 7 ∨ f = 8 ∨ f = 9 ∨ f = 10 ∨ f = 11 ∨ f = 12 ∨ f = 13 ∨ f = 14 ∨ f = 15 ∨ f = 16 ∨ f = 17 ∨ f = 18 ∨ f = 19 ∨ f = 20 ∨ f = 21 ∨ f = 22 ∨ f = 23 ∨ f = 24 ∨ f = 25 ∨ f = 26 ∨ f = 27 ∨ f = 28 ∨ f = 29 ∨ f = 30 ∨ f = 31 := by omega
  rcases h with rfl | rfl | rfl | rfl | rfl | rfl | rfl | rfl | rfl | rfl | rfl | rfl | rfl | rfl | rfl | rfl | rfl | rfl | rfl | rfl | rfl | rfl | rfl | rfl | rfl | rfl | rfl | rfl | rfl | rfl | rfl | rfl
  · exact .inr ⟨_, Go.Proofs.Tryz.func0, rfl⟩
  · exact .inr ⟨_, Go.Proofs.Tryz.func1, rfl⟩
  · exact .inr ⟨_, Go.Proofs.Tryz.func2, rfl⟩
  · exact .inr ⟨_, Go.Proofs.Tryz.func3, rfl⟩
  · exact .inr ⟨_, Go.Proofs.Tryz.func4, rfl⟩
  · exact .inr ⟨_, Go.Proofs.Tryz.func5, rfl⟩
  · exact .inr ⟨_, Go.Proofs.Tryz.func6, rfl⟩
  · exact .inr ⟨_, Go.Proofs.Tryz.func7, rfl⟩
  · exact .inr ⟨_, Go.Proofs.Tryz.func8, rfl⟩
  · exact .inr ⟨_, Go.Proofs.Tryz.func9, rfl⟩
  · exact .inr ⟨_, Go.Proofs.Tryz.func10, rfl⟩
  · exact .inr ⟨_, Go.Proofs.Tryz.func11, rfl⟩
  · exact .inr ⟨_, Go.Proofs.Tryz.func12, rfl⟩
  · exact .inr ⟨_, Go.Proofs.Tryz.func13, rfl⟩
  · exact .inr ⟨_, Go.Proofs.Tryz.func14, rfl⟩
  · exact .inr ⟨_, Go.Proofs.Tryz.func15, rfl⟩
  · exact .inr ⟨_, Go.Proofs.Tryz.func16, rfl⟩
  · exact .inr ⟨_, Go.Proofs.Tryz.func17, rfl⟩
  · exact .inr ⟨_, Go.Proofs.Tryz.func18, rfl⟩
  · exact .inr ⟨_, Go.Proofs.Tryz.func19, rfl⟩
  · exact .inr ⟨_, Go.Proofs.Tryz.func20, rfl⟩
  · exact .inr ⟨_, Go.Proofs.Tryz.func21, rfl⟩
  · exact .inr ⟨_, Go.Proofs.Tryz.func22, rfl⟩
  · exact .inr ⟨_, Go.Proofs.Tryz.func23, rfl⟩
  · exact .inr ⟨_, Go.Proofs.Tryz.func24, rfl⟩
  · exact .inr ⟨_, Go.Proofs.Tryz.func25, rfl⟩
  · exact .inr ⟨_, Go.Proofs.Tryz.func26, rfl⟩
  · exact .inr ⟨_, Go.Proofs.Tryz.func27, rfl⟩
  · exact .inr ⟨_, Go.Proofs.Tryz.func28, rfl⟩
  · exact .inr ⟨_, Go.Proofs.Tryz.func29, rfl⟩
  · exact .inr ⟨_, Go.Proofs.Tryz.func30, rfl⟩
  · exact .inr ⟨_, Go.Proofs.Tryz.func31, rfl⟩
theorem ft_ok32 (f : Nat) (h1 : 32 ≤ f) (h2 : f < 64) : ft f = .bad ∨ ∃ fn, Go.Proofs.Tryz.prog.funcs[f]? = some fn ∧ ft f = cFn Go.Proofs.Tryz.prog fn := by
  have h : f = 32 ∨ f = 33 ∨ f = 34 ∨ f = 35 ∨ f = 36 ∨ f = 37 ∨ f = 38 ∨ f = 39 ∨ f = 40 ∨ f = 41 ∨ f = 42 ∨ f = 43 ∨ f = 44 ∨ f = 45 ∨ f = 46 ∨ f = 47 ∨ f = 48 ∨ f = 49 ∨ f = 50 ∨ f = 51 ∨ f = 52 ∨ f = 53 ∨ f = 54 ∨ f = 55 ∨ f = 56 ∨ f = 57 ∨ f = 58 ∨ f = 59 ∨ f = 60 ∨ f = 61 ∨ f = 62 ∨ f = 63 := by omega
  rcases h with rfl | rfl | rfl | rfl | rfl | rfl | rfl | rfl | rfl | rfl | rfl | rfl | rfl | rfl | rfl | rfl | rfl | rfl | rfl | rfl | rfl | rfl | rfl | rfl | rfl | rfl | rfl | rfl | rfl | rfl | rfl | rfl
  · exact .inr ⟨_, Go.Proofs.Tryz.func32, rfl⟩
  · exact .inr ⟨_, Go.Proofs.Tryz.func33, rfl⟩
  · exact .inr ⟨_, Go.Proofs.Tryz.func34, rfl⟩
  · exact .inr ⟨_, Go.Proofs.Tryz.func35, rfl⟩
  · exact .inr ⟨_, Go.Proofs.Tryz.func36, rfl⟩
  · exact .inr ⟨_, Go.Proofs.Tryz.func37, rfl⟩
  · exact .inr ⟨_, Go.Proofs.Tryz.func38, rfl⟩
  · exact .inr ⟨_, Go.Proofs.Tryz.func39, rfl⟩
  · exact .inr ⟨_, Go.Proofs.Tryz.func40, rfl⟩
  · exact .inr ⟨_, Go.Proofs.Tryz.func41, rfl⟩
  · exact .inr ⟨_, Go.Proofs.Tryz.func42, rfl⟩
  · exact .inr ⟨_, Go.Proofs.Tryz.func43, rfl⟩
  · exact .inr ⟨_, Go.Proofs.Tryz.func44, rfl⟩
  · exact .inr ⟨_, Go.Proofs.Tryz.func45, rfl⟩
  · exact .inr ⟨_, Go.Proofs.Tryz.func46, rfl⟩
  · exact .inr ⟨_, Go.Proofs.Tryz.func47, rfl⟩
  · exact .inr ⟨_, Go.Proofs.Tryz.func48, rfl⟩
  · exact .inr ⟨_, Go.Proofs.Tryz.func49, rfl⟩
  · exact .inr ⟨_, Go.Proofs.Tryz.func50, rfl⟩
  · exact .inr ⟨_, Go.Proofs.Tryz.func51, rfl⟩
  · exact .inr ⟨_, Go.Proofs.Tryz.func52, rfl⟩
  · exact .inr ⟨_, Go.Proofs.Tryz.func53, rfl⟩
  · exact .inr ⟨_, Go.Proofs.Tryz.func54, rfl⟩
  · exact .inr ⟨_, Go.Proofs.Tryz.func55, rfl⟩
  · exact .inr ⟨_, Go.Proofs.Tryz.func56, rfl⟩
  · exact .inr ⟨_, Go.Proofs.Tryz.func57, rfl⟩
  · exact .inr ⟨_, Go.Proofs.Tryz.func58, rfl⟩
  · exact .inr ⟨_, Go.Proofs.Tryz.func59, rfl⟩
  · exact .inr ⟨_, Go.Proofs.Tryz.func60, rfl⟩
  · exact .inr ⟨_, Go.Proofs.Tryz.func61, rfl⟩
  · exact .inr ⟨_, Go.Proofs.Tryz.func62, rfl⟩
  · exact .inr ⟨_, Go.Proofs.Tryz.func63, rfl⟩
theorem ft_ok64 (f : Nat) (h1 : 64 ≤ f) (h2 : f < 96) : ft f = .bad ∨ ∃ fn, Go.Proofs.Tryz.prog.funcs[f]? = some fn ∧ ft f = cFn Go.Proofs.Tryz.prog fn := by
  have h : f = 64 ∨ f = 65 ∨ f = 66 ∨ f = 67 ∨ f = 68 ∨ f = 69 ∨ f = 70 ∨ f = 71 ∨ f = 72 ∨ f = 73 ∨ f = 74 ∨ f = 75 ∨ f = 76 ∨ f = 77 ∨ f = 78 ∨ f = 79 ∨ f = 80 ∨ f = 81 ∨ f = 82 ∨ f = 83 ∨ f = 84 ∨ f = 85 ∨ f = 86 ∨ f = 87 ∨ f = 88 ∨ f = 89 ∨ f = 90 ∨ f = 91 ∨ f = 92 ∨ f = 93 ∨ f = 94 ∨ f = 95 := by omega
  rcases h with rfl | rfl | rfl | rfl | rfl | rfl | rfl | rfl | rfl | rfl | rfl | rfl | rfl | rfl | rfl | rfl | rfl | rfl | rfl | rfl | rfl | rfl | rfl | rfl | rfl | rfl | rfl | rfl | rfl | rfl | rfl | rfl
  · exact .inr ⟨_, Go.Proofs.Tryz.func64, rfl⟩
  · exact .inr ⟨_, Go.Proofs.Tryz.func65, rfl⟩
  · exact .inr ⟨_, Go.Proofs.Tryz.func66, rfl⟩
  · exact .inr ⟨_, Go.Proofs.Tryz.func67, rfl⟩
  · exact .inr ⟨_, Go.Proofs.Tryz.func68, rfl⟩
  · exact .inr ⟨_, Go.Proofs.Tryz.func69, rfl⟩
  · exact .inr ⟨_, Go.Proofs.Tryz.func70, rfl⟩
  · exact .inr ⟨_, Go.Proofs.Tryz.func71, rfl⟩
  · exact .inr ⟨_, Go.Proofs.Tryz.func72, rfl⟩
  · exact .inr ⟨_, Go.Proofs.Tryz.func73, rfl⟩
  · exact .inr ⟨_, Go.Proofs.Tryz.func74, rfl⟩
  · exact .inr ⟨_, Go.Proofs.Tryz.func75, rfl⟩
  · exact .inr ⟨_, Go.Proofs.Tryz.func76, rfl⟩
  · exact .inr ⟨_, Go.Proofs.Tryz.func77, rfl⟩
  · exact .inr ⟨_, Go.Proofs.Tryz.func78, rfl⟩
  · exact .inr ⟨_, Go.Proofs.Tryz.func79, rfl⟩
  · exact .inr ⟨_, Go.Proofs.Tryz.func80, rfl⟩
  · exact .inr ⟨_, Go.Proofs.Tryz.func81, rfl⟩
  · exact .inr ⟨_, Go.Proofs.Tryz.func82, rfl⟩
  · exact .inr ⟨_, Go.Proofs.Tryz.func83, rfl⟩
  · exact .inr ⟨_, Go.Proofs.Tryz.func84, rfl⟩
  · exact .inr ⟨_, Go.Proofs.Tryz.func85, rfl⟩
  · exact .inr ⟨_, Go.Proofs.Tryz.func86, rfl⟩
  · exact .inr ⟨_, Go.Proofs.Tryz.func87, rfl⟩
  · exact .inr ⟨_, Go.Proofs.Tryz.func88, rfl⟩
  · exact .inr ⟨_, Go.Proofs.Tryz.func89, rfl⟩
  · exact .inr ⟨_, Go.Proofs.Tryz.func90, rfl⟩
  · exact .inr ⟨_, Go.Proofs.Tryz.func91, rfl⟩
  · exact .inr ⟨_, Go.Proofs.Tryz.func92, rfl⟩
  · exact .inr ⟨_, Go.Proofs.Tryz.func93, rfl⟩
  · exact .inr ⟨_, Go.Proofs.Tryz.func94, rfl⟩
  · exact .inr ⟨_, Go.Proofs.Tryz.func95, rfl⟩
theorem ft_ok96 (f : Nat) (h1 : 96 ≤ f) (h2 : f < 128) : ft f = .bad ∨ ∃ fn, Go.Proofs.Tryz.prog.funcs[f]? = some fn ∧ ft f = cFn Go.Proofs.Tryz.prog fn := by
  have h : f = 96 ∨ f = 97 ∨ f = 98 ∨ f = 99 ∨ f = 100 ∨ f = 101 ∨ f = 102 ∨ f = 103 ∨ f = 104 ∨ f = 105 ∨ f = 106 ∨ f = 107 ∨ f = 108 ∨ f = 109 ∨ f = 110 ∨ f = 111 ∨ f = 112 ∨ f = 113 ∨ f = 114 ∨ f = 115 ∨ f = 116 ∨ f = 117 ∨ f = 118 ∨ f = 119 ∨ f = 120 ∨ f = 121 ∨ f = 122 ∨ f = 123 ∨ f = 124 ∨ f = 125 ∨ f = 126 ∨ f = 127 := by omega
  rcases h with rfl | rfl | rfl | rfl | rfl | rfl | rfl | rfl | rfl | rfl | rfl | rfl | rfl | rfl | rfl | rfl | rfl | rfl | rfl | rfl | rfl | rfl | rfl | rfl | rfl | rfl | rfl | rfl | rfl | rfl | rfl | rfl
  · exact .inr ⟨_, Go.Proofs.Tryz.func96, rfl⟩
  · exact .inr ⟨_, Go.Proofs.Tryz.func97, rfl⟩
  · exact .inr ⟨_, Go.Proofs.Tryz.func98, rfl⟩
  · exact .inr ⟨_, Go.Proofs.Tryz.func99, rfl⟩
  · exact .inr ⟨_, Go.Proofs.Tryz.func100, rfl⟩
  · exact .inr ⟨_, Go.Proofs.Tryz.func101, rfl⟩
  · exact .inr ⟨_, Go.Proofs.Tryz.func102, rfl⟩
  · exact .inr ⟨_, Go.Proofs.Tryz.func103, rfl⟩
  · exact .inr ⟨_, Go.Proofs.Tryz.func104, rfl⟩
  · exact .inr ⟨_, Go.Proofs.Tryz.func105, rfl⟩
  · exact .inr ⟨_, Go.Proofs.Tryz.func106, rfl⟩
  · exact .inr ⟨_, Go.Proofs.Tryz.func107, rfl⟩
  · exact .inr ⟨_, Go.Proofs.Tryz.func108, rfl⟩
  · exact .inr ⟨_, Go.Proofs.Tryz.func109, rfl⟩
  · exact .inr ⟨_, Go.Proofs.Tryz.func110, rfl⟩
  · exact .inr ⟨_, Go.Proofs.Tryz.func111, rfl⟩
  · exact .inr ⟨_, Go.Proofs.Tryz.func112, rfl⟩
  · exact .inr ⟨_, Go.Proofs.Tryz.func113, rfl⟩
  · exact .inr ⟨_, Go.Proofs.Tryz.func114, rfl⟩
  · exact .inr ⟨_, Go.Proofs.Tryz.func115, rfl⟩
  · exact .inr ⟨_, Go.Proofs.Tryz.func116, rfl⟩
  · exact .inr ⟨_, Go.Proofs.Tryz.func117, rfl⟩
  · exact .inr ⟨_, Go.Proofs.Tryz.func118, rfl⟩
  · exact .inr ⟨_, Go.Proofs.Tryz.func119, rfl⟩
  · exact .inr ⟨_, Go.Proofs.Tryz.func120, rfl⟩
  · exact .inr ⟨_, Go.Proofs.Tryz.func121, rfl⟩
  · exact .inr ⟨_, Go.Proofs.Tryz.func122, rfl⟩
  · exact .inr ⟨_, Go.Proofs.Tryz.func123, rfl⟩
  · exact .inr ⟨_, Go.Proofs.Tryz.func124, rfl⟩
  · exact .inr ⟨_, Go.Proofs.Tryz.func125, rfl⟩
  · exact .inr ⟨_, Go.Proofs.Tryz.func126, rfl⟩
  · exact .inr ⟨_, Go.Proofs.Tryz.func127, rfl⟩
theorem ft_ok128 (f : Nat) (h1 : 128 ≤ f) (h2 : f < 160) : ft f = .bad ∨ ∃ fn, Go.Proofs.Tryz.prog.funcs[f]? = some fn ∧ ft f = cFn Go.Proofs.Tryz.prog fn := by
  have h : f = 128 ∨ f = 129 ∨ f = 130 ∨ f = 131 ∨ f = 132 ∨ f = 133 ∨ f = 134 ∨ f = 135 ∨ f = 136 ∨ f = 137 ∨ f = 138 ∨ f = 139 ∨ f = 140 ∨ f = 141 ∨ f = 142 ∨ f = 143 ∨ f = 144 ∨ f = 145 ∨ f = 146 ∨ f = 147 ∨ f = 148 ∨ f = 149 ∨ f = 150 ∨ f = 151 ∨ f = 152 ∨ f = 153 ∨ f = 154 ∨ f = 155 ∨ f = 156 ∨ f = 157 ∨ f = 158 ∨ f = 159 := by omega
  rcases h with rfl | rfl | rfl | rfl | rfl | rfl | rfl | rfl | rfl | rfl | rfl | rfl | rfl | rfl | rfl | rfl | rfl | rfl | rfl | rfl | rfl | rfl | rfl | rfl | rfl | rfl | rfl | rfl | rfl | rfl | rfl | rfl
  · exact .inr ⟨_, Go.Proofs.Tryz.func128, rfl⟩
  · exact .inr ⟨_, Go.Proofs.Tryz.func129, rfl⟩
  · exact .inr ⟨_, Go.Proofs.Tryz.func130, rfl⟩
  · exact .inr ⟨_, Go.Proofs.Tryz.func131, rfl⟩
  · exact .inr ⟨_, Go.Proofs.Tryz.func132, rfl⟩
  · exact .inr ⟨_, Go.Proofs.Tryz.func133, rfl⟩
  · exact .inr ⟨_, Go.Proofs.Tryz.func134, rfl⟩
  · exact .inr ⟨_, Go.Proofs.Tryz.func135, rfl⟩
  · exact .inr ⟨_, Go.Proofs.Tryz.func136, rfl⟩
  · exact .inr ⟨_, Go.Proofs.Tryz.func137, rfl⟩
  · exact .inr ⟨_, Go.Proofs.Tryz.func138, rfl⟩
  · exact .inr ⟨_, Go.Proofs.Tryz.func139, rfl⟩
  · exact .inr ⟨_, Go.Proofs.Tryz.func140, rfl⟩
  · exact .inr ⟨_, Go.Proofs.Tryz.func141, rfl⟩
  · exact .inr ⟨_, Go.Proofs.Tryz.func142, rfl⟩
  · exact .inr ⟨_, Go.Proofs.Tryz.func143, rfl⟩
  · exact .inr ⟨_, Go.Proofs.Tryz.func144, rfl⟩
  · exact .inr ⟨_, Go.Proofs.Tryz.func145, rfl⟩
  · exact .inr ⟨_, Go.Proofs.Tryz.func146, rfl⟩
  · exact .inr ⟨_, Go.Proofs.Tryz.func147, rfl⟩
  · exact .inr ⟨_, Go.Proofs.Tryz.func148, rfl⟩
  · exact .inr ⟨_, Go.Proofs.Tryz.func149, rfl⟩
  · exact .inr ⟨_, Go.Proofs.Tryz.func150, rfl⟩
  · exact .inr ⟨_, Go.Proofs.Tryz.func151, rfl⟩
  · exact .inr ⟨_, Go.Proofs.Tryz.func152, rfl⟩
  · exact .inr ⟨_, Go.Proofs.Tryz.func153, rfl⟩
  · exact .inr ⟨_, Go.Proofs.Tryz.func154, rfl⟩
  · exact .inr ⟨_, Go.Proofs.Tryz.func155, rfl⟩
  · exact .inr ⟨_, Go.Proofs.Tryz.func156, rfl⟩
  · exact .inr ⟨_, Go.Proofs.Tryz.func157, rfl⟩
  · exact .inr ⟨_, Go.Proofs.Tryz.func158, rfl⟩
  · exact .inr ⟨_, Go.Proofs.Tryz.func159, rfl⟩
theorem ft_ok160 (f : Nat) (h1 : 160 ≤ f) (h2 : f < 192) : ft f = .bad ∨ ∃ fn, Go.Proofs.Tryz.prog.funcs[f]? = some fn ∧ ft f = cFn Go.Proofs.Tryz.prog fn := by
  have h : f = 160 ∨ f = 161 ∨ f = 162 ∨ f = 163 ∨ f = 164 ∨ f = 165 ∨ f = 166 ∨ f = 167 ∨ f = 168 ∨ f = 169 ∨ f = 170 ∨ f = 171 ∨ f = 172 ∨ f = 173 ∨ f = 174 ∨ f = 175 ∨ f = 176 ∨ f = 177 ∨ f = 178 ∨ f = 179 ∨ f = 180 ∨ f = 181 ∨ f = 182 ∨ f = 183 ∨ f = 184 ∨ f = 185 ∨ f = 186 ∨ f = 187 ∨ f = 188 ∨ f = 189 ∨ f = 190 ∨ f = 191 := by omega
  rcases h with rfl | rfl | rfl | rfl | rfl | rfl | rfl | rfl | rfl | rfl | rfl | rfl | rfl | rfl | rfl | rfl | rfl | rfl | rfl | rfl | rfl | rfl | rfl | rfl | rfl | rfl | rfl | rfl | rfl | rfl | rfl | rfl
  · exact .inr ⟨_, Go.Proofs.Tryz.func160, rfl⟩
  · exact .inr ⟨_, Go.Proofs.Tryz.func161, rfl⟩
  · exact .inr ⟨_, Go.Proofs.Tryz.func162, rfl⟩
  · exact .inr ⟨_, Go.Proofs.Tryz.func163, rfl⟩
  · exact .inr ⟨_, Go.Proofs.Tryz.func164, rfl⟩
  · exact .inr ⟨_, Go.Proofs.Tryz.func165, rfl⟩
  · exact .inr ⟨_, Go.Proofs.Tryz.func166, rfl⟩
  · exact .inr ⟨_, Go.Proofs.Tryz.func167, rfl⟩
  · exact .inr ⟨_, Go.Proofs.Tryz.func168, rfl⟩
  · exact .inr ⟨_, Go.Proofs.Tryz.func169, rfl⟩
  · exact .inr ⟨_, Go.Proofs.Tryz.func170, rfl⟩
  · exact .inr ⟨_, Go.Proofs.Tryz.func171, rfl⟩
  · exact .inr ⟨_, Go.Proofs.Tryz.func172, rfl⟩
  · exact .inr ⟨_, Go.Proofs.Tryz.func173, rfl⟩
  · exact .inr ⟨_, Go.Proofs.Tryz.func174, rfl⟩
  · exact .inr ⟨_, Go.Proofs.Tryz.func175, rfl⟩
  · exact .inr ⟨_, Go.Proofs.Tryz.func176, rfl⟩
  · exact .inr ⟨_, Go.Proofs.Tryz.func177, rfl⟩
  · exact .inr ⟨_, Go.Proofs.Tryz.func178, rfl⟩
  · exact .inr ⟨_, Go.Proofs.Tryz.func179, rfl⟩
  · exact .inr ⟨_, Go.Proofs.Tryz.func180, rfl⟩
  · exact .inr ⟨_, Go.Proofs.Tryz.func181, rfl⟩
  · exact .inr ⟨_, Go.Proofs.Tryz.func182, rfl⟩
  · exact .inr ⟨_, Go.Proofs.Tryz.func183, rfl⟩
  · exact .inr ⟨_, Go.Proofs.Tryz.func184, rfl⟩
  · exact .inr ⟨_, Go.Proofs.Tryz.func185, rfl⟩
  · exact .inr ⟨_, Go.Proofs.Tryz.func186, rfl⟩
  · exact .inr ⟨_, Go.Proofs.Tryz.func187, rfl⟩
  · exact .inr ⟨_, Go.Proofs.Tryz.func188, rfl⟩
  · exact .inr ⟨_, Go.Proofs.Tryz.func189, rfl⟩
  · exact .inr ⟨_, Go.Proofs.Tryz.func190, rfl⟩
  · exact .inr ⟨_, Go.Proofs.Tryz.func191, rfl⟩
theorem ft_ok192 (f : Nat) (h1 : 192 ≤ f) (h2 : f < 224) : ft f = .bad ∨ ∃ fn, Go.Proofs.Tryz.prog.funcs[f]? = some fn ∧ ft f = cFn Go.Proofs.Tryz.prog fn := by
  have h : f = 192 ∨ f = 193 ∨ f = 194 ∨ f = 195 ∨ f = 196 ∨ f = 197 ∨ f = 198 ∨ f = 199 ∨ f = 200 ∨ f = 201 ∨ f = 202 ∨ f = 203 ∨ f = 204 ∨ f = 205 ∨ f = 206 ∨ f = 207 ∨ f = 208 ∨ f = 209 ∨ f = 210 ∨ f = 211 ∨ f = 212 ∨ f = 213 ∨ f = 214 ∨ f = 215 ∨ f = 216 ∨ f = 217 ∨ f = 218 ∨ f = 219 ∨ f = 220 ∨ f = 221 ∨ f = 222 ∨ f = 223 := by omega
  rcases h with rfl | rfl | rfl | rfl | rfl | rfl | rfl | rfl | rfl | rfl | rfl | rfl | rfl | rfl | rfl | rfl | rfl | rfl | rfl | rfl | rfl | rfl | rfl | rfl | rfl | rfl | rfl | rfl | rfl | rfl | rfl | rfl
  · exact .inr ⟨_, Go.Proofs.Tryz.func192, rfl⟩
  · exact .inr ⟨_, Go.Proofs.Tryz.func193, rfl⟩
  · exact .inr ⟨_, Go.Proofs.Tryz.func194, rfl⟩
  · exact .inr ⟨_, Go.Proofs.Tryz.func195, rfl⟩
  · exact .inr ⟨_, Go.Proofs.Tryz.func196, rfl⟩
  · exact .inr ⟨_, Go.Proofs.Tryz.func197, rfl⟩
  · exact .inr ⟨_, Go.Proofs.Tryz.func198, rfl⟩
  · exact .inr ⟨_, Go.Proofs.Tryz.func199, rfl⟩
  · exact .inr ⟨_, Go.Proofs.Tryz.func200, rfl⟩
  · exact .inr ⟨_, Go.Proofs.Tryz.func201, rfl⟩
  · exact .inr ⟨_, Go.Proofs.Tryz.func202, rfl⟩
  · exact .inr ⟨_, Go.Proofs.Tryz.func203, rfl⟩
  · exact .inr ⟨_, Go.Proofs.Tryz.func204, rfl⟩
  · exact .inr ⟨_, Go.Proofs.Tryz.func205, rfl⟩
  · exact .inr ⟨_, Go.Proofs.Tryz.func206, rfl⟩
  · exact .inr ⟨_, Go.Proofs.Tryz.func207, rfl⟩
  · exact .inr ⟨_, Go.Proofs.Tryz.func208, rfl⟩
  · exact .inr ⟨_, Go.Proofs.Tryz.func209, rfl⟩
  · exact .inr ⟨_, Go.Proofs.Tryz.func210, rfl⟩
  · exact .inr ⟨_, Go.Proofs.Tryz.func211, rfl⟩
  · exact .inr ⟨_, Go.Proofs.Tryz.func212, rfl⟩
  · exact .inr ⟨_, Go.Proofs.Tryz.func213, rfl⟩
  · exact .inr ⟨_, Go.Proofs.Tryz.func214, rfl⟩
  · exact .inr ⟨_, Go.Proofs.Tryz.func215, rfl⟩
  · exact .inr ⟨_, Go.Proofs.Tryz.func216, rfl⟩
  · exact .inr ⟨_, Go.Proofs.Tryz.func217, rfl⟩
  · exact .inr ⟨_, Go.Proofs.Tryz.func218, rfl⟩
  · exact .inr ⟨_, Go.Proofs.Tryz.func219, rfl⟩
  · exact .inr ⟨_, Go.Proofs.Tryz.func220, rfl⟩
  · exact .inr ⟨_, Go.Proofs.Tryz.func221, rfl⟩
  · exact .inr ⟨_, Go.Proofs.Tryz.func222, rfl⟩
  · exact .inr ⟨_, Go.Proofs.Tryz.func223, rfl⟩
theorem ft_ok224 (f : Nat) (h1 : 224 ≤ f) (h2 : f < 256) : ft f = .bad ∨ ∃ fn, Go.Proofs.Tryz.prog.funcs[f]? = some fn ∧ ft f = cFn Go.Proofs.Tryz.prog fn := by
  have h : f = 224 ∨ f = 225 ∨ f = 226 ∨ f = 227 ∨ f = 228 ∨ f = 229 ∨ f = 230 ∨ f = 231 ∨ f = 232 ∨ f = 233 ∨ f = 234 ∨ f = 235 ∨ f = 236 ∨ f = 237 ∨ f = 238 ∨ f = 239 ∨ f = 240 ∨ f = 241 ∨ f = 242 ∨ f = 243 ∨ f = 244 ∨ f = 245 ∨ f = 246 ∨ f = 247 ∨ f = 248 ∨ f = 249 ∨ f = 250 ∨ f = 251 ∨ f = 252 ∨ f = 253 ∨ f = 254 ∨ f = 255 := by omega
  rcases h with rfl | rfl | rfl | rfl | rfl | rfl | rfl | rfl | rfl | rfl | rfl | rfl | rfl | rfl | rfl | rfl | rfl | rfl | rfl | rfl | rfl | rfl | rfl | rfl | rfl | rfl | rfl | rfl | rfl | rfl | rfl | rfl
  · exact .inr ⟨_, Go.Proofs.Tryz.func224, rfl⟩
  · exact .inr ⟨_, Go.Proofs.Tryz.func225, rfl⟩
  · exact .inr ⟨_, Go.Proofs.Tryz.func226, rfl⟩
  · exact .inr ⟨_, Go.Proofs.Tryz.func227, rfl⟩
  · exact .inr ⟨_, Go.Proofs.Tryz.func228, rfl⟩
  · exact .inr ⟨_, Go.Proofs.Tryz.func229, rfl⟩
  · exact .inr ⟨_, Go.Proofs.Tryz.func230, rfl⟩
  · exact .inr ⟨_, Go.Proofs.Tryz.func231, rfl⟩
  · exact .inr ⟨_, Go.Proofs.Tryz.func232, rfl⟩
  · exact .inr ⟨_, Go.Proofs.Tryz.func233, rfl⟩
  · exact .inr ⟨_, Go.Proofs.Tryz.func234, rfl⟩
  · exact .inr ⟨_, Go.Proofs.Tryz.func235, rfl⟩
  · exact .inr ⟨_, Go.Proofs.Tryz.func236, rfl⟩
  · exact .inr ⟨_, Go.Proofs.Tryz.func237, rfl⟩
  · exact .inr ⟨_, Go.Proofs.Tryz.func238, rfl⟩
  · exact .inr ⟨_, Go.Proofs.Tryz.func239, rfl⟩
  · exact .inr ⟨_, Go.Proofs.Tryz.func240, rfl⟩
  · exact .inr ⟨_, Go.Proofs.Tryz.func241, rfl⟩
  · exact .inr ⟨_, Go.Proofs.Tryz.func242, rfl⟩
  · exact .inr ⟨_, Go.Proofs.Tryz.func243, rfl⟩
  · exact .inr ⟨_, Go.Proofs.Tryz.func244, rfl⟩
  · exact .inr ⟨_, Go.Proofs.Tryz.func245, rfl⟩
  · exact .inr ⟨_, Go.Proofs.Tryz.func246, rfl⟩
  · exact .inr ⟨_, Go.Proofs.Tryz.func247, rfl⟩
  · exact .inr ⟨_, Go.Proofs.Tryz.func248, rfl⟩
  · exact .inr ⟨_, Go.Proofs.Tryz.func249, rfl⟩
  · exact .inr ⟨_, Go.Proofs.Tryz.func250, rfl⟩
  · exact .inr ⟨_, Go.Proofs.Tryz.func251, rfl⟩
  · exact .inr ⟨_, Go.Proofs.Tryz.func252, rfl⟩
  · exact .inr ⟨_, Go.Proofs.Tryz.func253, rfl⟩
  · exact .inr ⟨_, Go.Proofs.Tryz.func254, rfl⟩
  · exact .inr ⟨_, Go.Proofs.Tryz.func255, rfl⟩
theorem ft_ok256 (f : Nat) (h1 : 256 ≤ f) (h2 : f < 288) : ft f = .bad ∨ ∃ fn, Go.Proofs.Tryz.prog.funcs[f]? = some fn ∧ ft f = cFn Go.Proofs.Tryz.prog fn := by
  have h : f = 256 ∨ f = 257 ∨ f = 258 ∨ f = 259 ∨ f = 260 ∨ f = 261 ∨ f = 262 ∨ f = 263 ∨ f = 264 ∨ f = 265 ∨ f = 266 ∨ f = 267 ∨ f = 268 ∨ f = 269 ∨ f = 270 ∨ f = 271 ∨ f = 272 ∨ f = 273 ∨ f = 274 ∨ f = 275 ∨ f = 276 ∨ f = 277 ∨ f = 278 ∨ f = 279 ∨ f = 280 ∨ f = 281 ∨ f = 282 ∨ f = 283 ∨ f = 284 ∨ f = 285 ∨ f = 286 ∨ f = 287 := by omega
  rcases h with rfl | rfl | rfl | rfl | rfl | rfl | rfl | rfl | rfl | rfl | rfl | rfl | rfl | rfl | rfl | rfl | rfl | rfl | rfl | rfl | rfl | rfl | rfl | rfl | rfl | rfl | rfl | rfl | rfl | rfl | rfl | rfl
  · exact .inr ⟨_, Go.Proofs.Tryz.func256, rfl⟩
  · exact .inr ⟨_, Go.Proofs.Tryz.func257, rfl⟩
  · exact .inr ⟨_, Go.Proofs.Tryz.func258, rfl⟩
  · exact .inr ⟨_, Go.Proofs.Tryz.func259, rfl⟩
  · exact .inr ⟨_, Go.Proofs.Tryz.func260, rfl⟩
  · exact .inr ⟨_, Go.Proofs.Tryz.func261, rfl⟩
  · exact .inr ⟨_, Go.Proofs.Tryz.func262, rfl⟩
  · exact .inr ⟨_, Go.Proofs.Tryz.func263, rfl⟩
  · exact .inr ⟨_, Go.Proofs.Tryz.func264, rfl⟩
  · exact .inr ⟨_, Go.Proofs.Tryz.func265, rfl⟩
  · exact .inr ⟨_, Go.Proofs.Tryz.func266, rfl⟩
  · exact .inr ⟨_, Go.Proofs.Tryz.func267, rfl⟩
  · exact .inr ⟨_, Go.Proofs.Tryz.func268, rfl⟩
  · exact .inr ⟨_, Go.Proofs.Tryz.func269, rfl⟩
  · exact .inr ⟨_, Go.Proofs.Tryz.func270, rfl⟩
  · exact .inr ⟨_, Go.Proofs.Tryz.func271, rfl⟩
  · exact .inr ⟨_, Go.Proofs.Tryz.func272, rfl⟩
  · exact .inr ⟨_, Go.Proofs.Tryz.func273, rfl⟩
  · exact .inr ⟨_, Go.Proofs.Tryz.func274, rfl⟩
  · exact .inr ⟨_, Go.Proofs.Tryz.func275, rfl⟩
  · exact .inr ⟨_, Go.Proofs.Tryz.func276, rfl⟩
  · exact .inr ⟨_, Go.Proofs.Tryz.func277, rfl⟩
  · exact .inr ⟨_, Go.Proofs.Tryz.func278, rfl⟩
  · exact .inr ⟨_, Go.Proofs.Tryz.func279, rfl⟩
  · exact .inr ⟨_, Go.Proofs.Tryz.func280, rfl⟩
  · exact .inr ⟨_, Go.Proofs.Tryz.func281, rfl⟩
  · exact .inr ⟨_, Go.Proofs.Tryz.func282, rfl⟩
  · exact .inr ⟨_, Go.Proofs.Tryz.func283, rfl⟩
  · exact .inr ⟨_, Go.Proofs.Tryz.func284, rfl⟩
  · exact .inr ⟨_, Go.Proofs.Tryz.func285, rfl⟩
  · exact .inr ⟨_, Go.Proofs.Tryz.func286, rfl⟩
  · exact .inr ⟨_, Go.Proofs.Tryz.func287, rfl⟩
theorem ft_ok288 (f : Nat) (h1 : 288 ≤ f) (h2 : f < 320) : ft f = .bad ∨ ∃ fn, Go.Proofs.Tryz.prog.funcs[f]? = some fn ∧ ft f = cFn Go.Proofs.Tryz.prog fn := by
  have h : f = 288 ∨ f = 289 ∨ f = 290 ∨ f = 291 ∨ f = 292 ∨ f = 293 ∨ f = 294 ∨ f = 295 ∨ f = 296 ∨ f = 297 ∨ f = 298 ∨ f = 299 ∨ f = 300 ∨ f = 301 ∨ f = 302 ∨ f = 303 ∨ f = 304 ∨ f = 305 ∨ f = 306 ∨ f = 307 ∨ f = 308 ∨ f = 309 ∨ f = 310 ∨ f = 311 ∨ f = 312 ∨ f = 313 ∨ f = 314 ∨ f = 315 ∨ f = 316 ∨ f = 317 ∨ f = 318 ∨ f = 319 := by omega
  rcases h with rfl | rfl | rfl | rfl | rfl | rfl | rfl | rfl | rfl | rfl | rfl | rfl | rfl | rfl | rfl | rfl | rfl | rfl | rfl | rfl | rfl | rfl | rfl | rfl | rfl | rfl | rfl | rfl | rfl | rfl | rfl | rfl
  · exact .inr ⟨_, Go.Proofs.Tryz.func288, rfl⟩
  · exact .inr ⟨_, Go.Proofs.Tryz.func289, rfl⟩
  · exact .inr ⟨_, Go.Proofs.Tryz.func290, rfl⟩
  · exact .inr ⟨_, Go.Proofs.Tryz.func291, rfl⟩
  · exact .inr ⟨_, Go.Proofs.Tryz.func292, rfl⟩
  · exact .inr ⟨_, Go.Proofs.Tryz.func293, rfl⟩
  · exact .inr ⟨_, Go.Proofs.Tryz.func294, rfl⟩
  · exact .inr ⟨_, Go.Proofs.Tryz.func295, rfl⟩
  · exact .inr ⟨_, Go.Proofs.Tryz.func296, rfl⟩
  · exact .inr ⟨_, Go.Proofs.Tryz.func297, rfl⟩
  · exact .inr ⟨_, Go.Proofs.Tryz.func298, rfl⟩
  · exact .inr ⟨_, Go.Proofs.Tryz.func299, rfl⟩
  · exact .inr ⟨_, Go.Proofs.Tryz.func300, rfl⟩
  · exact .inr ⟨_, Go.Proofs.Tryz.func301, rfl⟩
  · exact .inr ⟨_, Go.Proofs.Tryz.func302, rfl⟩
  · exact .inr ⟨_, Go.Proofs.Tryz.func303, rfl⟩
  · exact .inr ⟨_, Go.Proofs.Tryz.func304, rfl⟩
  · exact .inr ⟨_, Go.Proofs.Tryz.func305, rfl⟩
  · exact .inr ⟨_, Go.Proofs.Tryz.func306, rfl⟩
  · exact .inr ⟨_, Go.Proofs.Tryz.func307, rfl⟩
  · exact .inr ⟨_, Go.Proofs.Tryz.func308, rfl⟩
  · exact .inr ⟨_, Go.Proofs.Tryz.func309, rfl⟩
  · exact .inr ⟨_, Go.Proofs.Tryz.func310, rfl⟩
  · exact .inr ⟨_, Go.Proofs.Tryz.func311, rfl⟩
  · exact .inr ⟨_, Go.Proofs.Tryz.func312, rfl⟩
  · exact .inr ⟨_, Go.Proofs.Tryz.func313, rfl⟩
  · exact .inr ⟨_, Go.Proofs.Tryz.func314, rfl⟩
  · exact .inr ⟨_, Go.Proofs.Tryz.func315, rfl⟩
  · exact .inr ⟨_, Go.Proofs.Tryz.func316, rfl⟩
  · exact .inr ⟨_, Go.Proofs.Tryz.func317, rfl⟩
  · exact .inr ⟨_, Go.Proofs.Tryz.func318, rfl⟩
  · exact .inr ⟨_, Go.Proofs.Tryz.func319, rfl⟩
theorem ft_ok320 (f : Nat) (h1 : 320 ≤ f) (h2 : f < 352) : ft f = .bad ∨ ∃ fn, Go.Proofs.Tryz.prog.funcs[f]? = some fn ∧ ft f = cFn Go.Proofs.Tryz.prog fn := by
  have h : f = 320 ∨ f = 321 ∨ f = 322 ∨ f = 323 ∨ f = 324 ∨ f = 325 ∨ f = 326 ∨ f = 327 ∨ f = 328 ∨ f = 329 ∨ f = 330 ∨ f = 331 ∨ f = 332 ∨ f = 333 ∨ f = 334 ∨ f = 335 ∨ f = 336 ∨ f = 337 ∨ f = 338 ∨ f = 339 ∨ f = 340 ∨ f = 341 ∨ f = 342 ∨ f = 343 ∨ f = 344 ∨ f = 345 ∨ f = 346 ∨ f = 347 ∨ f = 348 ∨ f = 349 ∨ f = 350 ∨ f = 351 := by omega
  rcases h with rfl | rfl | rfl | rfl | rfl | rfl | rfl | rfl | rfl | rfl | rfl | rfl | rfl | rfl | rfl | rfl | rfl | rfl | rfl | rfl | rfl | rfl | rfl | rfl | rfl | rfl | rfl | rfl | rfl | rfl | rfl | rfl
  · exact .inr ⟨_, Go.Proofs.Tryz.func320, rfl⟩
  · exact .inr ⟨_, Go.Proofs.Tryz.func321, rfl⟩
  · exact .inr ⟨_, Go.Proofs.Tryz.func322, rfl⟩
  · exact .inr ⟨_, Go.Proofs.Tryz.func323, rfl⟩
  · exact .inr ⟨_, Go.Proofs.Tryz.func324, rfl⟩
  · exact .inr ⟨_, Go.Proofs.Tryz.func325, rfl⟩
  · exact .inr ⟨_, Go.Proofs.Tryz.func326, rfl⟩
  · exact .inr ⟨_, Go.Proofs.Tryz.func327, rfl⟩
  · exact .inr ⟨_, Go.Proofs.Tryz.func328, rfl⟩
  · exact .inr ⟨_, Go.Proofs.Tryz.func329, rfl⟩
  · exact .inr ⟨_, Go.Proofs.Tryz.func330, rfl⟩
  · exact .inr ⟨_, Go.Proofs.Tryz.func331, rfl⟩
  · exact .inr ⟨_, Go.Proofs.Tryz.func332, rfl⟩
  · exact .inr ⟨_, Go.Proofs.Tryz.func333, rfl⟩
  · exact .inr ⟨_, Go.Proofs.Tryz.func334, rfl⟩
  · exact .inr ⟨_, Go.Proofs.Tryz.func335, rfl⟩
  · exact .inr ⟨_, Go.Proofs.Tryz.func336, rfl⟩
  · exact .inr ⟨_, Go.Proofs.Tryz.func337, rfl⟩
  · exact .inr ⟨_, Go.Proofs.Tryz.func338, rfl⟩
  · exact .inr ⟨_, Go.Proofs.Tryz.func339, rfl⟩
  · exact .inr ⟨_, Go.Proofs.Tryz.func340, rfl⟩
  · exact .inr ⟨_, Go.Proofs.Tryz.func341, rfl⟩
  · exact .inr ⟨_, Go.Proofs.Tryz.func342, rfl⟩
  · exact .inr ⟨_, Go.Proofs.Tryz.func343, rfl⟩
  · exact .inr ⟨_, Go.Proofs.Tryz.func344, rfl⟩
  · exact .inr ⟨_, Go.Proofs.Tryz.func345, rfl⟩
  · exact .inr ⟨_, Go.Proofs.Tryz.func346, rfl⟩
  · exact .inr ⟨_, Go.Proofs.Tryz.func347, rfl⟩
  · exact .inr ⟨_, Go.Proofs.Tryz.func348, rfl⟩
  · exact .inr ⟨_, Go.Proofs.Tryz.func349, rfl⟩
  · exact .inr ⟨_, Go.Proofs.Tryz.func350, rfl⟩
  · exact .inr ⟨_, Go.Proofs.Tryz.func351, rfl⟩
theorem ft_ok352 (f : Nat) (h1 : 352 ≤ f) (h2 : f < 384) : ft f = .bad ∨ ∃ fn, Go.Proofs.Tryz.prog.funcs[f]? = some fn ∧ ft f = cFn Go.Proofs.Tryz.prog fn := by
  have h : f = 352 ∨ f = 353 ∨ f = 354 ∨ f = 355 ∨ f = 356 ∨ f = 357 ∨ f = 358 ∨ f = 359 ∨ f = 360 ∨ f = 361 ∨ f = 362 ∨ f = 363 ∨ f = 364 ∨ f = 365 ∨ f = 366 ∨ f = 367 ∨ f = 368 ∨ f = 369 ∨ f = 370 ∨ f = 371 ∨ f = 372 ∨ f = 373 ∨ f = 374 ∨ f = 375 ∨ f = 376 ∨ f = 377 ∨ f = 378 ∨ f = 379 ∨ f = 380 ∨ f = 381 ∨ f = 382 ∨ f = 383 := by omega
  rcases h with rfl | rfl | rfl | rfl | rfl | rfl | rfl | rfl | rfl | rfl | rfl | rfl | rfl | rfl | rfl | rfl | rfl | rfl | rfl | rfl | rfl | rfl | rfl | rfl | rfl | rfl | rfl | rfl | rfl | rfl | rfl | rfl
  · exact .inr ⟨_, Go.Proofs.Tryz.func352, rfl⟩
  · exact .inr ⟨_, Go.Proofs.Tryz.func353, rfl⟩
  · exact .inr ⟨_, Go.Proofs.Tryz.func354, rfl⟩
  · exact .inr ⟨_, Go.Proofs.Tryz.func355, rfl⟩
  · exact .inr ⟨_, Go.Proofs.Tryz.func356, rfl⟩
  · exact .inr ⟨_, Go.Proofs.Tryz.func357, rfl⟩
  · exact .inr ⟨_, Go.Proofs.Tryz.func358, rfl⟩
  · exact .inr ⟨_, Go.Proofs.Tryz.func359, rfl⟩
  · exact .inr ⟨_, Go.Proofs.Tryz.func360, rfl⟩
  · exact .inr ⟨_, Go.Proofs.Tryz.func361, rfl⟩
  · exact .inr ⟨_, Go.Proofs.Tryz.func362, rfl⟩
  · exact .inr ⟨_, Go.Proofs.Tryz.func363, rfl⟩
  · exact .inr ⟨_, Go.Proofs.Tryz.func364, rfl⟩
  · exact .inr ⟨_, Go.Proofs.Tryz.func365, rfl⟩
  · exact .inr ⟨_, Go.Proofs.Tryz.func366, rfl⟩
  · exact .inr ⟨_, Go.Proofs.Tryz.func367, rfl⟩
  · exact .inr ⟨_, Go.Proofs.Tryz.func368, rfl⟩
  · exact .inr ⟨_, Go.Proofs.Tryz.func369, rfl⟩
  · exact .inr ⟨_, Go.Proofs.Tryz.func370, rfl⟩
  · exact .inr ⟨_, Go.Proofs.Tryz.func371, rfl⟩
  · exact .inr ⟨_, Go.Proofs.Tryz.func372, rfl⟩
  · exact .inr ⟨_, Go.Proofs.Tryz.func373, rfl⟩
  · exact .inr ⟨_, Go.Proofs.Tryz.func374, rfl⟩
  · exact .inr ⟨_, Go.Proofs.Tryz.func375, rfl⟩
  · exact .inr ⟨_, Go.Proofs.Tryz.func376, rfl⟩
  · exact .inr ⟨_, Go.Proofs.Tryz.func377, rfl⟩
  · exact .inr ⟨_, Go.Proofs.Tryz.func378, rfl⟩
  · exact .inr ⟨_, Go.Proofs.Tryz.func379, rfl⟩
  · exact .inr ⟨_, Go.Proofs.Tryz.func380, rfl⟩
  · exact .inr ⟨_, Go.Proofs.Tryz.func381, rfl⟩
  · exact .inr ⟨_, Go.Proofs.Tryz.func382, rfl⟩
  · exact .inr ⟨_, Go.Proofs.Tryz.func383, rfl⟩
theorem ft_ok384 (f : Nat) (h1 : 384 ≤ f) (h2 : f < 416) : ft f = .bad ∨ ∃ fn, Go.Proofs.Tryz.prog.funcs[f]? = some fn ∧ ft f = cFn Go.Proofs.Tryz.prog fn := by
  have h : f = 384 ∨ f = 385 ∨ f = 386 ∨ f = 387 ∨ f = 388 ∨ f = 389 ∨ f = 390 ∨ f = 391 ∨ f = 392 ∨ f = 393 ∨ f = 394 ∨ f = 395 ∨ f = 396 ∨ f = 397 ∨ f = 398 ∨ f = 399 ∨ f = 400 ∨ f = 401 ∨ f = 402 ∨ f = 403 ∨ f = 404 ∨ f = 405 ∨ f = 406 ∨ f = 407 ∨ f = 408 ∨ f = 409 ∨ f = 410 ∨ f = 411 ∨ f = 412 ∨ f = 413 ∨ f = 414 ∨ f = 415 := by omega
  rcases h with rfl | rfl | rfl | rfl | rfl | rfl | rfl | rfl | rfl | rfl | rfl | rfl | rfl | rfl | rfl | rfl | rfl | rfl | rfl | rfl | rfl | rfl | rfl | rfl | rfl | rfl | rfl | rfl | rfl | rfl | rfl | rfl
  · exact .inr ⟨_, Go.Proofs.Tryz.func384, rfl⟩
  · exact .inr ⟨_, Go.Proofs.Tryz.func385, rfl⟩
  · exact .inr ⟨_, Go.Proofs.Tryz.func386, rfl⟩
  · exact .inr ⟨_, Go.Proofs.Tryz.func387, rfl⟩
  · exact .inr ⟨_, Go.Proofs.Tryz.func388, rfl⟩
  · exact .inr ⟨_, Go.Proofs.Tryz.func389, rfl⟩
  · exact .inr ⟨_, Go.Proofs.Tryz.func390, rfl⟩
  · exact .inr ⟨_, Go.Proofs.Tryz.func391, rfl⟩
  · exact .inr ⟨_, Go.Proofs.Tryz.func392, rfl⟩
  · exact .inr ⟨_, Go.Proofs.Tryz.func393, rfl⟩
  · exact .inr ⟨_, Go.Proofs.Tryz.func394, rfl⟩
  · exact .inr ⟨_, Go.Proofs.Tryz.func395, rfl⟩
  · exact .inr ⟨_, Go.Proofs.Tryz.func396, rfl⟩
  · exact .inr ⟨_, Go.Proofs.Tryz.func397, rfl⟩
  · exact .inr ⟨_, Go.Proofs.Tryz.func398, rfl⟩
  · exact .inr ⟨_, Go.Proofs.Tryz.func399, rfl⟩
  · exact .inr ⟨_, Go.Proofs.Tryz.func400, rfl⟩
  · exact .inr ⟨_, Go.Proofs.Tryz.func401, rfl⟩
  · exact .inr ⟨_, Go.Proofs.Tryz.func402, rfl⟩
  · exact .inr ⟨_, Go.Proofs.Tryz.func403, rfl⟩
  · exact .inr ⟨_, Go.Proofs.Tryz.func404, rfl⟩
  · exact .inr ⟨_, Go.Proofs.Tryz.func405, rfl⟩
  · exact .inr ⟨_, Go.Proofs.Tryz.func406, rfl⟩
  · exact .inr ⟨_, Go.Proofs.Tryz.func407, rfl⟩
  · exact .inr ⟨_, Go.Proofs.Tryz.func408, rfl⟩
  · exact .inr ⟨_, Go.Proofs.Tryz.func409, rfl⟩
  · exact .inr ⟨_, Go.Proofs.Tryz.func410, rfl⟩
  · exact .inr ⟨_, Go.Proofs.Tryz.func411, rfl⟩
  · exact .inr ⟨_, Go.Proofs.Tryz.func412, rfl⟩
  · exact .inr ⟨_, Go.Proofs.Tryz.func413, rfl⟩
  · exact .inr ⟨_, Go.Proofs.Tryz.func414, rfl⟩
  · exact .inr ⟨_, Go.Proofs.Tryz.func415, rfl⟩
theorem ft_ok416 (f : Nat) (h1 : 416 ≤ f) (h2 : f < 448) : ft f = .bad ∨ ∃ fn, Go.Proofs.Tryz.prog.funcs[f]? = some fn ∧ ft f = cFn Go.Proofs.Tryz.prog fn := by
  have h : f = 416 ∨ f = 417 ∨ f = 418 ∨ f = 419 ∨ f = 420 ∨ f = 421 ∨ f = 422 ∨ f = 423 ∨ f = 424 ∨ f = 425 ∨ f = 426 ∨ f = 427 ∨ f = 428 ∨ f = 429 ∨ f = 430 ∨ f = 431 ∨ f = 432 ∨ f = 433 ∨ f = 434 ∨ f = 435 ∨ f = 436 ∨ f = 437 ∨ f = 438 ∨ f = 439 ∨ f = 440 ∨ f = 441 ∨ f = 442 ∨ f = 443 ∨ f = 444 ∨ f = 445 ∨ f = 446 ∨ f = 447 := by omega
  rcases h with rfl | rfl | rfl | rfl | rfl | rfl | rfl | rfl | rfl | rfl | rfl | rfl | rfl | rfl | rfl | rfl | rfl | rfl | rfl | rfl | rfl | rfl | rfl | rfl | rfl | rfl | rfl | rfl | rfl | rfl | rfl | rfl
  · exact .inr ⟨_, Go.Proofs.Tryz.func416, rfl⟩
  · exact .inr ⟨_, Go.Proofs.Tryz.func417, rfl⟩
  · exact .inr ⟨_, Go.Proofs.Tryz.func418, rfl⟩
  · exact .inr ⟨_, Go.Proofs.Tryz.func419, rfl⟩
  · exact .inr ⟨_, Go.Proofs.Tryz.func420, rfl⟩
  · exact .inr ⟨_, Go.Proofs.Tryz.func421, rfl⟩
  · exact .inr ⟨_, Go.Proofs.Tryz.func422, rfl⟩
  · exact .inr ⟨_, Go.Proofs.Tryz.func423, rfl⟩
  · exact .inr ⟨_, Go.Proofs.Tryz.func424, rfl⟩
  · exact .inr ⟨_, Go.Proofs.Tryz.func425, rfl⟩
  · exact .inr ⟨_, Go.Proofs.Tryz.func426, rfl⟩
  · exact .inr ⟨_, Go.Proofs.Tryz.func427, rfl⟩
  · exact .inr ⟨_, Go.Proofs.Tryz.func428, rfl⟩
  · exact .inr ⟨_, Go.Proofs.Tryz.func429, rfl⟩
  · exact .inr ⟨_, Go.Proofs.Tryz.func430, rfl⟩
  · exact .inr ⟨_, Go.Proofs.Tryz.func431, rfl⟩
  · exact .inr ⟨_, Go.Proofs.Tryz.func432, rfl⟩
  · exact .inr ⟨_, Go.Proofs.Tryz.func433, rfl⟩
  · exact .inr ⟨_, Go.Proofs.Tryz.func434, rfl⟩
  · exact .inr ⟨_, Go.Proofs.Tryz.func435, rfl⟩
  · exact .inr ⟨_, Go.Proofs.Tryz.func436, rfl⟩
  · exact .inr ⟨_, Go.Proofs.Tryz.func437, rfl⟩
  · exact .inr ⟨_, Go.Proofs.Tryz.func438, rfl⟩
  · exact .inr ⟨_, Go.Proofs.Tryz.func439, rfl⟩
  · exact .inr ⟨_, Go.Proofs.Tryz.func440, rfl⟩
  · exact .inr ⟨_, Go.Proofs.Tryz.func441, rfl⟩
  · exact .inr ⟨_, Go.Proofs.Tryz.func442, rfl⟩
  · exact .inr ⟨_, Go.Proofs.Tryz.func443, rfl⟩
  · exact .inr ⟨_, Go.Proofs.Tryz.func444, rfl⟩
  · exact .inr ⟨_, Go.Proofs.Tryz.func445, rfl⟩
  · exact .inr ⟨_, Go.Proofs.Tryz.func446, rfl⟩
  · exact .inr ⟨_, Go.Proofs.Tryz.func447, rfl⟩
theorem ft_ok448 (f : Nat) (h1 : 448 ≤ f) (h2 : f < 480) : ft f = .bad ∨ ∃ fn, Go.Proofs.Tryz.prog.funcs[f]? = some fn ∧ ft f = cFn Go.Proofs.Tryz.prog fn := by
  have h : f = 448 ∨ f = 449 ∨ f = 450 ∨ f = 451 ∨ f = 452 ∨ f = 453 ∨ f = 454 ∨ f = 455 ∨ f = 456 ∨ f = 457 ∨ f = 458 ∨ f = 459 ∨ f = 460 ∨ f = 461 ∨ f = 462 ∨ f = 463 ∨ f = 464 ∨ f = 465 ∨ f = 466 ∨ f = 467 ∨ f = 468 ∨ f = 469 ∨ f = 470 ∨ f = 471 ∨ f = 472 ∨ f = 473 ∨ f = 474 ∨ f = 475 ∨ f = 476 ∨ f = 477 ∨ f = 478 ∨ f = 479 := by omega
  rcases h with rfl | rfl | rfl | rfl | rfl | rfl | rfl | rfl | rfl | rfl | rfl | rfl | rfl | rfl | rfl | rfl | rfl | rfl | rfl | rfl | rfl | rfl | rfl | rfl | rfl | rfl | rfl | rfl | rfl | rfl | rfl | rfl
  · exact .inr ⟨_, Go.Proofs.Tryz.func448, rfl⟩
  · exact .inr ⟨_, Go.Proofs.Tryz.func449, rfl⟩
  · exact .inr ⟨_, Go.Proofs.Tryz.func450, rfl⟩
  · exact .inr ⟨_, Go.Proofs.Tryz.func451, rfl⟩
  · exact .inr ⟨_, Go.Proofs.Tryz.func452, rfl⟩
  · exact .inr ⟨_, Go.Proofs.Tryz.func453, rfl⟩
  · exact .inr ⟨_, Go.Proofs.Tryz.func454, rfl⟩
  · exact .inr ⟨_, Go.Proofs.Tryz.func455, rfl⟩
  · exact .inr ⟨_, Go.Proofs.Tryz.func456, rfl⟩
  · exact .inr ⟨_, Go.Proofs.Tryz.func457, rfl⟩
  · exact .inr ⟨_, Go.Proofs.Tryz.func458, rfl⟩
  · exact .inr ⟨_, Go.Proofs.Tryz.func459, rfl⟩
  · exact .inr ⟨_, Go.Proofs.Tryz.func460, rfl⟩
  · exact .inr ⟨_, Go.Proofs.Tryz.func461, rfl⟩
  · exact .inr ⟨_, Go.Proofs.Tryz.func462, rfl⟩
  · exact .inr ⟨_, Go.Proofs.Tryz.func463, rfl⟩
  · exact .inr ⟨_, Go.Proofs.Tryz.func464, rfl⟩
  · exact .inr ⟨_, Go.Proofs.Tryz.func465, rfl⟩
  · exact .inr ⟨_, Go.Proofs.Tryz.func466, rfl⟩
  · exact .inr ⟨_, Go.Proofs.Tryz.func467, rfl⟩
  · exact .inr ⟨_, Go.Proofs.Tryz.func468, rfl⟩
  · exact .inr ⟨_, Go.Proofs.Tryz.func469, rfl⟩
  · exact .inr ⟨_, Go.Proofs.Tryz.func470, rfl⟩
  · exact .inr ⟨_, Go.Proofs.Tryz.func471, rfl⟩
  · exact .inr ⟨_, Go.Proofs.Tryz.func472, rfl⟩
  · exact .inr ⟨_, Go.Proofs.Tryz.func473, rfl⟩
  · exact .inr ⟨_, Go.Proofs.Tryz.func474, rfl⟩
  · exact .inr ⟨_, Go.Proofs.Tryz.func475, rfl⟩
  · exact .inr ⟨_, Go.Proofs.Tryz.func476, rfl⟩
  · exact .inr ⟨_, Go.Proofs.Tryz.func477, rfl⟩
  · exact .inr ⟨_, Go.Proofs.Tryz.func478, rfl⟩
  · exact .inr ⟨_, Go.Proofs.Tryz.func479, rfl⟩
theorem ft_ok480 (f : Nat) (h1 : 480 ≤ f) (h2 : f < 512) : ft f = .bad ∨ ∃ fn, Go.Proofs.Tryz.prog.funcs[f]? = some fn ∧ ft f = cFn Go.Proofs.Tryz.prog fn := by
  have h : f = 480 ∨ f = 481 ∨ f = 482 ∨ f = 483 ∨ f = 484 ∨ f = 485 ∨ f = 486 ∨ f = 487 ∨ f = 488 ∨ f = 489 ∨ f = 490 ∨ f = 491 ∨ f = 492 ∨ f = 493 ∨ f = 494 ∨ f = 495 ∨ f = 496 ∨ f = 497 ∨ f = 498 ∨ f = 499 ∨ f = 500 ∨ f = 501 ∨ f = 502 ∨ f = 503 ∨ f = 504 ∨ f = 505 ∨ f = 506 ∨ f = 507 ∨ f = 508 ∨ f = 509 ∨ f = 510 ∨ f = 511 := by omega
  rcases h with rfl | rfl | rfl | rfl | rfl | rfl | rfl | rfl | rfl | rfl | rfl | rfl | rfl | rfl | rfl | rfl | rfl | rfl | rfl | rfl | rfl | rfl | rfl | rfl | rfl | rfl | rfl | rfl | rfl | rfl | rfl | rfl
  · exact .inr ⟨_, Go.Proofs.Tryz.func480, rfl⟩
  · exact .inr ⟨_, Go.Proofs.Tryz.func481, rfl⟩
  · exact .inr ⟨_, Go.Proofs.Tryz.func482, rfl⟩
  · exact .inr ⟨_, Go.Proofs.Tryz.func483, rfl⟩
  · exact .inr ⟨_, Go.Proofs.Tryz.func484, rfl⟩
  · exact .inr ⟨_, Go.Proofs.Tryz.func485, rfl⟩
  · exact .inr ⟨_, Go.Proofs.Tryz.func486, rfl⟩
  · exact .inr ⟨_, Go.Proofs.Tryz.func487, rfl⟩
  · exact .inr ⟨_, Go.Proofs.Tryz.func488, rfl⟩
  · exact .inr ⟨_, Go.Proofs.Tryz.func489, rfl⟩
  · exact .inr ⟨_, Go.Proofs.Tryz.func490, rfl⟩
  · exact .inr ⟨_, Go.Proofs.Tryz.func491, rfl⟩
  · exact .inr ⟨_, Go.Proofs.Tryz.func492, rfl⟩
  · exact .inr ⟨_, Go.Proofs.Tryz.func493, rfl⟩
  · exact .inr ⟨_, Go.Proofs.Tryz.func494, rfl⟩
  · exact .inr ⟨_, Go.Proofs.Tryz.func495, rfl⟩
  · exact .inr ⟨_, Go.Proofs.Tryz.func496, rfl⟩
  · exact .inr ⟨_, Go.Proofs.Tryz.func497, rfl⟩
  · exact .inr ⟨_, Go.Proofs.Tryz.func498, rfl⟩
  · exact .inr ⟨_, Go.Proofs.Tryz.func499, rfl⟩
  · exact .inr ⟨_, Go.Proofs.Tryz.func500, rfl⟩
  · exact .inr ⟨_, Go.Proofs.Tryz.func501, rfl⟩
  · exact .inr ⟨_, Go.Proofs.Tryz.func502, rfl⟩
  · exact .inr ⟨_, Go.Proofs.Tryz.func503, rfl⟩
  · exact .inr ⟨_, Go.Proofs.Tryz.func504, rfl⟩
  · exact .inr ⟨_, Go.Proofs.Tryz.func505, rfl⟩
  · exact .inr ⟨_, Go.Proofs.Tryz.func506, rfl⟩
  · exact .inr ⟨_, Go.Proofs.Tryz.func507, rfl⟩
  · exact .inr ⟨_, Go.Proofs.Tryz.func508, rfl⟩
  · exact .inr ⟨_, Go.Proofs.Tryz.func509, rfl⟩
  · exact .inr ⟨_, Go.Proofs.Tryz.func510, rfl⟩
  · exact .inr ⟨_, Go.Proofs.Tryz.func511, rfl⟩
theorem ft_ok512 (f : Nat) (h1 : 512 ≤ f) (h2 : f < 544) : ft f = .bad ∨ ∃ fn, Go.Proofs.Tryz.prog.funcs[f]? = some fn ∧ ft f = cFn Go.Proofs.Tryz.prog fn := by
  have h : f = 512 ∨ f = 513 ∨ f = 514 ∨ f = 515 ∨ f = 516 ∨ f = 517 ∨ f = 518 ∨ f = 519 ∨ f = 520 ∨ f = 521 ∨ f = 522 ∨ f = 523 ∨ f = 524 ∨ f = 525 ∨ f = 526 ∨ f = 527 ∨ f = 528 ∨ f = 529 ∨ f = 530 ∨ f = 531 ∨ f = 532 ∨ f = 533 ∨ f = 534 ∨ f = 535 ∨ f = 536 ∨ f = 537 ∨ f = 538 ∨ f = 539 ∨ f = 540 ∨ f = 541 ∨ f = 542 ∨ f = 543 := by omega
  rcases h with rfl | rfl | rfl | rfl | rfl | rfl | rfl | rfl | rfl | rfl | rfl | rfl | rfl | rfl | rfl | rfl | rfl | rfl | rfl | rfl | rfl | rfl | rfl | rfl | rfl | rfl | rfl | rfl | rfl | rfl | rfl | rfl
  · exact .inr ⟨_, Go.Proofs.Tryz.func512, rfl⟩
  · exact .inr ⟨_, Go.Proofs.Tryz.func513, rfl⟩
  · exact .inr ⟨_, Go.Proofs.Tryz.func514, rfl⟩
  · exact .inr ⟨_, Go.Proofs.Tryz.func515, rfl⟩
  · exact .inr ⟨_, Go.Proofs.Tryz.func516, rfl⟩
  · exact .inr ⟨_, Go.Proofs.Tryz.func517, rfl⟩
  · exact .inr ⟨_, Go.Proofs.Tryz.func518, rfl⟩
  · exact .inr ⟨_, Go.Proofs.Tryz.func519, rfl⟩
  · exact .inr ⟨_, Go.Proofs.Tryz.func520, rfl⟩
  · exact .inr ⟨_, Go.Proofs.Tryz.func521, rfl⟩
  · exact .inr ⟨_, Go.Proofs.Tryz.func522, rfl⟩
  · exact .inr ⟨_, Go.Proofs.Tryz.func523, rfl⟩
  · exact .inr ⟨_, Go.Proofs.Tryz.func524, rfl⟩
  · exact .inr ⟨_, Go.Proofs.Tryz.func525, rfl⟩
  · exact .inr ⟨_, Go.Proofs.Tryz.func526, rfl⟩
  · exact .inr ⟨_, Go.Proofs.Tryz.func527, rfl⟩
  · exact .inr ⟨_, Go.Proofs.Tryz.func528, rfl⟩
  · exact .inr ⟨_, Go.Proofs.Tryz.func529, rfl⟩
  · exact .inr ⟨_, Go.Proofs.Tryz.func530, rfl⟩
  · exact .inr ⟨_, Go.Proofs.Tryz.func531, rfl⟩
  · exact .inr ⟨_, Go.Proofs.Tryz.func532, rfl⟩
  · exact .inr ⟨_, Go.Proofs.Tryz.func533, rfl⟩
  · exact .inr ⟨_, Go.Proofs.Tryz.func534, rfl⟩
  · exact .inr ⟨_, Go.Proofs.Tryz.func535, rfl⟩
  · exact .inr ⟨_, Go.Proofs.Tryz.func536, rfl⟩
  · exact .inr ⟨_, Go.Proofs.Tryz.func537, rfl⟩
  · exact .inr ⟨_, Go.Proofs.Tryz.func538, rfl⟩
  · exact .inr ⟨_, Go.Proofs.Tryz.func539, rfl⟩
  · exact .inr ⟨_, Go.Proofs.Tryz.func540, rfl⟩
  · exact .inr ⟨_, Go.Proofs.Tryz.func541, rfl⟩
  · exact .inr ⟨_, Go.Proofs.Tryz.func542, rfl⟩
  · exact .inr ⟨_, Go.Proofs.Tryz.func543, rfl⟩
theorem ft_ok544 (f : Nat) (h1 : 544 ≤ f) (h2 : f < 566) : ft f = .bad ∨ ∃ fn, Go.Proofs.Tryz.prog.funcs[f]? = some fn ∧ ft f = cFn Go.Proofs.Tryz.prog fn := by
  have h : f = 544 ∨ f = 545 ∨ f = 546 ∨ f = 547 ∨ f = 548 ∨ f = 549 ∨ f = 550 ∨ f = 551 ∨ f = 552 ∨ f = 553 ∨ f = 554 ∨ f = 555 ∨ f = 556 ∨ f = 557 ∨ f = 558 ∨ f = 559 ∨ f = 560 ∨ f = 561 ∨ f = 562 ∨ f = 563 ∨ f = 564 ∨ f = 565 := by omega
  rcases h with rfl | rfl | rfl | rfl | rfl | rfl | rfl | rfl | rfl | rfl | rfl | rfl | rfl | rfl | rfl | rfl | rfl | rfl | rfl | rfl | rfl | rfl
  · exact .inr ⟨_, Go.Proofs.Tryz.func544, rfl⟩
  · exact .inr ⟨_, Go.Proofs.Tryz.func545, rfl⟩
  · exact .inr ⟨_, Go.Proofs.Tryz.func546, rfl⟩
  · exact .inr ⟨_, Go.Proofs.Tryz.func547, rfl⟩
  · exact .inr ⟨_, Go.Proofs.Tryz.func548, rfl⟩
  · exact .inr ⟨_, Go.Proofs.Tryz.func549, rfl⟩
  · exact .inr ⟨_, Go.Proofs.Tryz.func550, rfl⟩
  · exact .inr ⟨_, Go.Proofs.Tryz.func551, rfl⟩
  · exact .inr ⟨_, Go.Proofs.Tryz.func552, rfl⟩
  · exact .inr ⟨_, Go.Proofs.Tryz.func553, rfl⟩
  · exact .inr ⟨_, Go.Proofs.Tryz.func554, rfl⟩
  · exact .inr ⟨_, Go.Proofs.Tryz.func555, rfl⟩
  · exact .inr ⟨_, Go.Proofs.Tryz.func556, rfl⟩
  · exact .inr ⟨_, Go.Proofs.Tryz.func557, rfl⟩
  · exact .inr ⟨_, Go.Proofs.Tryz.func558, rfl⟩
  · exact .inr ⟨_, Go.Proofs.Tryz.func559, rfl⟩
  · exact .inr ⟨_, Go.Proofs.Tryz.func560, rfl⟩
  · exact .inr ⟨_, Go.Proofs.Tryz.func561, rfl⟩
  · exact .inr ⟨_, Go.Proofs.Tryz.func562, rfl⟩
  · exact .inr ⟨_, Go.Proofs.Tryz.func563, rfl⟩
  · exact .inr ⟨_, Go.Proofs.Tryz.func564, rfl⟩
  · exact .inr ⟨_, Go.Proofs.Tryz.func565, rfl⟩
theorem ft_big (f : Nat) (h : 566 ≤ f) : ft f = .bad := by
  have hb : Nat.ble f 565 = false := by
    cases hq : Nat.ble f 565 with
    | false => rfl
    | true => have := Nat.le_of_ble_eq_true hq; omega
  unfold ft
  rw [hb]
  rfl
theorem ftOK1 (f : Nat) : ft f = .bad ∨ ∃ fn, Go.Proofs.Tryz.prog.funcs[f]? = some fn ∧ ft f = cFn Go.Proofs.Tryz.prog fn := by
  by_cases h32 : f < 32
  · exact ft_ok0 f (by omega) h32
  by_cases h64 : f < 64
  · exact ft_ok32 f (by omega) h64
  by_cases h96 : f < 96
  · exact ft_ok64 f (by omega) h96
  by_cases h128 : f < 128
  · exact ft_ok96 f (by omega) h128
  by_cases h160 : f < 160
  · exact ft_ok128 f (by omega) h160
  by_cases h192 : f < 192
  · exact ft_ok160 f (by omega) h192
  by_cases h224 : f < 224
  · exact ft_ok192 f (by omega) h224
  by_cases h256 : f < 256
  · exact ft_ok224 f (by omega) h256
  by_cases h288 : f < 288
  · exact ft_ok256 f (by omega) h288
  by_cases h320 : f < 320
  · exact ft_ok288 f (by omega) h320
  by_cases h352 : f < 352
  · exact ft_ok320 f (by omega) h352
  by_cases h384 : f < 384
  · exact ft_ok352 f (by omega) h384
  by_cases h416 : f < 416
  · exact ft_ok384 f (by omega) h416
  by_cases h448 : f < 448
  · exact ft_ok416 f (by omega) h448
  by_cases h480 : f < 480
  · exact ft_ok448 f (by omega) h480
  by_cases h512 : f < 512
  · exact ft_ok480 f (by omega) h512
  by_cases h544 : f < 544
  · exact ft_ok512 f (by omega) h544
  by_cases h566 : f < 566
  · exact ft_ok544 f (by omega) h566
  · exact .inl (ft_big f (by omega))
theorem ftOK [Sig] {gl : Nat → Nat → V} : FtOK Go.Proofs.Tryz.prog gl ft := fun f => (ftOK1 f).imp id fun h => .inr (.inr (.inr h))
theorem chk0 : fnChk Go.Proofs.Tryz.prog Go.Proofs.Tryz.f0 = true := by kernel_rfl
theorem chk1 : fnChk Go.Proofs.Tryz.prog Go.Proofs.Tryz.f1 = true := by kernel_rfl
theorem chk2 : fnChk Go.Proofs.Tryz.prog Go.Proofs.Tryz.f2 = true := by kernel_rfl
theorem chk3 : fnChk Go.Proofs.Tryz.prog Go.Proofs.Tryz.f3 = true := by kernel_rfl
theorem chk4 : fnChk Go.Proofs.Tryz.prog Go.Proofs.Tryz.f4 = true := by kernel_rfl
theorem chk5 : fnChk Go.Proofs.Tryz.prog Go.Proofs.Tryz.f5 = true := by kernel_rfl
theorem chk6 : fnChk Go.Proofs.Tryz.prog Go.Proofs.Tryz.f6 = true := by kernel_rfl
theorem chk7 : fnChk Go.Proofs.Tryz.prog Go.Proofs.Tryz.f7 = true := by kernel_rfl
theorem chk8 : fnChk Go.Proofs.Tryz.prog Go.Proofs.Tryz.f8 = true := by kernel_rfl
theorem chk9 : fnChk Go.Proofs.Tryz.prog Go.Proofs.Tryz.f9 = true := by kernel_rfl
theorem chk10 : fnChk Go.Proofs.Tryz.prog Go.Proofs.Tryz.f10 = true := by kernel_rfl
theorem chk11 : fnChk Go.Proofs.Tryz.prog Go.Proofs.Tryz.f11 = true := by kernel_rfl
theorem chk12 : fnChk Go.Proofs.Tryz.prog Go.Proofs.Tryz.f12 = true := by kernel_rfl
theorem chk13 : fnChk Go.Proofs.Tryz.prog Go.Proofs.Tryz.f13 = true := by kernel_rfl
theorem chk14 : fnChk Go.Proofs.Tryz.prog Go.Proofs.Tryz.f14 = true := by kernel_rfl
theorem chk15 : fnChk Go.Proofs.Tryz.prog Go.Proofs.Tryz.f15 = true := by kernel_rfl
theorem chk16 : fnChk Go.Proofs.Tryz.prog Go.Proofs.Tryz.f16 = true := by kernel_rfl
theorem chk17 : fnChk Go.Proofs.Tryz.prog Go.Proofs.Tryz.f17 = true := by kernel_rfl
theorem chk18 : fnChk Go.Proofs.Tryz.prog Go.Proofs.Tryz.f18 = true := by kernel_rfl
theorem chk19 : fnChk Go.Proofs.Tryz.prog Go.Proofs.Tryz.f19 = true := by kernel_rfl
theorem chk20 : fnChk Go.Proofs.Tryz.prog Go.Proofs.Tryz.f20 = true := by kernel_rfl
theorem chk21 : fnChk Go.Proofs.Tryz.prog Go.Proofs.Tryz.f21 = true := by kernel_rfl
theorem chk22 : fnChk Go.Proofs.Tryz.prog Go.Proofs.Tryz.f22 = true := by kernel_rfl
theorem chk23 : fnChk Go.Proofs.Tryz.prog Go.Proofs.Tryz.f23 = true := by kernel_rfl
theorem chk24 : fnChk Go.Proofs.Tryz.prog Go.Proofs.Tryz.f24 = true := by kernel_rfl
theorem chk25 : fnChk Go.Proofs.Tryz.prog Go.Proofs.Tryz.f25 = true := by kernel_rfl
theorem chk26 : fnChk Go.Proofs.Tryz.prog Go.Proofs.Tryz.f26 = true := by kernel_rfl
theorem chk27 : fnChk Go.Proofs.Tryz.prog Go.Proofs.Tryz.f27 = true := by kernel_rfl
theorem chk28 : fnChk Go.Proofs.Tryz.prog Go.Proofs.Tryz.f28 = true := by kernel_rfl
theorem chk29 : fnChk Go.Proofs.Tryz.prog Go.Proofs.Tryz.f29 = true := by kernel_rfl
theorem chk30 : fnChk Go.Proofs.Tryz.prog Go.Proofs.Tryz.f30 = true := by kernel_rfl
theorem chk31 : fnChk Go.Proofs.Tryz.prog Go.Proofs.Tryz.f31 = true := by kernel_rfl
theorem chk32 : fnChk Go.Proofs.Tryz.prog Go.Proofs.Tryz.f32 = true := by kernel_rfl
theorem chk33 : fnChk Go.Proofs.Tryz.prog Go.Proofs.Tryz.f33 = true := by kernel_rfl
theorem chk34 : fnChk Go.Proofs.Tryz.prog Go.Proofs.Tryz.f34 = true := by kernel_rfl
theorem chk35 : fnChk Go.Proofs.Tryz.prog Go.Proofs.Tryz.f35 = true := by kernel_rfl
theorem chk36 : fnChk Go.Proofs.Tryz.prog Go.Proofs.Tryz.f36 = true := by kernel_rfl
theorem chk37 : fnChk Go.Proofs.Tryz.prog Go.Proofs.Tryz.f37 = true := by kernel_rfl
theorem chk38 : fnChk Go.Proofs.Tryz.prog Go.Proofs.Tryz.f38 = true := by kernel_rfl
theorem chk39 : fnChk Go.Proofs.Tryz.prog Go.Proofs.Tryz.f39 = true := by kernel_rfl
theorem chk40 : fnChk Go.Proofs.Tryz.prog Go.Proofs.Tryz.f40 = true := by kernel_rfl
theorem chk41 : fnChk Go.Proofs.Tryz.prog Go.Proofs.Tryz.f41 = true := by kernel_rfl
theorem chk42 : fnChk Go.Proofs.Tryz.prog Go.Proofs.Tryz.f42 = true := by kernel_rfl
theorem chk43 : fnChk Go.Proofs.Tryz.prog Go.Proofs.Tryz.f43 = true := by kernel_rfl
theorem chk44 : fnChk Go.Proofs.Tryz.prog Go.Proofs.Tryz.f44 = true := by kernel_rfl
theorem chk45 : fnChk Go.Proofs.Tryz.prog Go.Proofs.Tryz.f45 = true := by kernel_rfl
theorem chk46 : fnChk Go.Proofs.Tryz.prog Go.Proofs.Tryz.f46 = true := by kernel_rfl
theorem chk47 : fnChk Go.Proofs.Tryz.prog Go.Proofs.Tryz.f47 = true := by kernel_rfl
theorem chk48 : fnChk Go.Proofs.Tryz.prog Go.Proofs.Tryz.f48 = true := by kernel_rfl
theorem chk49 : fnChk Go.Proofs.Tryz.prog Go.Proofs.Tryz.f49 = true := by kernel_rfl
theorem chk50 : fnChk Go.Proofs.Tryz.prog Go.Proofs.Tryz.f50 = true := by kernel_rfl
theorem chk51 : fnChk Go.Proofs.Tryz.prog Go.Proofs.Tryz.f51 = true := by kernel_rfl
theorem chk52 : fnChk Go.Proofs.Tryz.prog Go.Proofs.Tryz.f52 = true := by kernel_rfl
theorem chk53 : fnChk Go.Proofs.Tryz.prog Go.Proofs.Tryz.f53 = true := by kernel_rfl
theorem chk54 : fnChk Go.Proofs.Tryz.prog Go.Proofs.Tryz.f54 = true := by kernel_rfl
theorem chk55 : fnChk Go.Proofs.Tryz.prog Go.Proofs.Tryz.f55 = true := by kernel_rfl
theorem chk56 : fnChk Go.Proofs.Tryz.prog Go.Proofs.Tryz.f56 = true := by kernel_rfl
theorem chk57 : fnChk Go.Proofs.Tryz.prog Go.Proofs.Tryz.f57 = true := by kernel_rfl
theorem chk58 : fnChk Go.Proofs.Tryz.prog Go.Proofs.Tryz.f58 = true := by kernel_rfl
theorem chk59 : fnChk Go.Proofs.Tryz.prog Go.Proofs.Tryz.f59 = true := by kernel_rfl
theorem chk60 : fnChk Go.Proofs.Tryz.prog Go.Proofs.Tryz.f60 = true := by kernel_rfl
theorem chk61 : fnChk Go.Proofs.Tryz.prog Go.Proofs.Tryz.f61 = true := by kernel_rfl
theorem chk62 : fnChk Go.Proofs.Tryz.prog Go.Proofs.Tryz.f62 = true := by kernel_rfl
theorem chk63 : fnChk Go.Proofs.Tryz.prog Go.Proofs.Tryz.f63 = true := by kernel_rfl
theorem chk64 : fnChk Go.Proofs.Tryz.prog Go.Proofs.Tryz.f64 = true := by kernel_rfl
theorem chk65 : fnChk Go.Proofs.Tryz.prog Go.Proofs.Tryz.f65 = true := by kernel_rfl
theorem chk66 : fnChk Go.Proofs.Tryz.prog Go.Proofs.Tryz.f66 = true := by kernel_rfl
theorem chk67 : fnChk Go.Proofs.Tryz.prog Go.Proofs.Tryz.f67 = true := by kernel_rfl
theorem chk68 : fnChk Go.Proofs.Tryz.prog Go.Proofs.Tryz.f68 = true := by kernel_rfl
theorem chk69 : fnChk Go.Proofs.Tryz.prog Go.Proofs.Tryz.f69 = true := by kernel_rfl
theorem chk70 : fnChk Go.Proofs.Tryz.prog Go.Proofs.Tryz.f70 = true := by kernel_rfl
theorem chk71 : fnChk Go.Proofs.Tryz.prog Go.Proofs.Tryz.f71 = true := by kernel_rfl
theorem chk72 : fnChk Go.Proofs.Tryz.prog Go.Proofs.Tryz.f72 = true := by kernel_rfl
theorem chk73 : fnChk Go.Proofs.Tryz.prog Go.Proofs.Tryz.f73 = true := by kernel_rfl
theorem chk74 : fnChk Go.Proofs.Tryz.prog Go.Proofs.Tryz.f74 = true := by kernel_rfl
theorem chk75 : fnChk Go.Proofs.Tryz.prog Go.Proofs.Tryz.f75 = true := by kernel_rfl
theorem chk76 : fnChk Go.Proofs.Tryz.prog Go.Proofs.Tryz.f76 = true := by kernel_rfl
theorem chk77 : fnChk Go.Proofs.Tryz.prog Go.Proofs.Tryz.f77 = true := by kernel_rfl
theorem chk78 : fnChk Go.Proofs.Tryz.prog Go.Proofs.Tryz.f78 = true := by kernel_rfl
theorem chk79 : fnChk Go.Proofs.Tryz.prog Go.Proofs.Tryz.f79 = true := by kernel_rfl
theorem chk80 : fnChk Go.Proofs.Tryz.prog Go.Proofs.Tryz.f80 = true := by kernel_rfl
theorem chk81 : fnChk Go.Proofs.Tryz.prog Go.Proofs.Tryz.f81 = true := by kernel_rfl
theorem chk82 : fnChk Go.Proofs.Tryz.prog Go.Proofs.Tryz.f82 = true := by kernel_rfl
theorem chk83 : fnChk Go.Proofs.Tryz.prog Go.Proofs.Tryz.f83 = true := by kernel_rfl
theorem chk84 : fnChk Go.Proofs.Tryz.prog Go.Proofs.Tryz.f84 = true := by kernel_rfl
theorem chk85 : fnChk Go.Proofs.Tryz.prog Go.Proofs.Tryz.f85 = true := by kernel_rfl
theorem chk86 : fnChk Go.Proofs.Tryz.prog Go.Proofs.Tryz.f86 = true := by kernel_rfl
theorem chk87 : fnChk Go.Proofs.Tryz.prog Go.Proofs.Tryz.f87 = true := by kernel_rfl
theorem chk88 : fnChk Go.Proofs.Tryz.prog Go.Proofs.Tryz.f88 = true := by kernel_rfl
theorem chk89 : fnChk Go.Proofs.Tryz.prog Go.Proofs.Tryz.f89 = true := by kernel_rfl
theorem chk90 : fnChk Go.Proofs.Tryz.prog Go.Proofs.Tryz.f90 = true := by kernel_rfl
theorem chk91 : fnChk Go.Proofs.Tryz.prog Go.Proofs.Tryz.f91 = true := by kernel_rfl
theorem chk92 : fnChk Go.Proofs.Tryz.prog Go.Proofs.Tryz.f92 = true := by kernel_rfl
theorem chk93 : fnChk Go.Proofs.Tryz.prog Go.Proofs.Tryz.f93 = true := by kernel_rfl
theorem chk94 : fnChk Go.Proofs.Tryz.prog Go.Proofs.Tryz.f94 = true := by kernel_rfl
theorem chk95 : fnChk Go.Proofs.Tryz.prog Go.Proofs.Tryz.f95 = true := by kernel_rfl
theorem chk96 : fnChk Go.Proofs.Tryz.prog Go.Proofs.Tryz.f96 = true := by kernel_rfl
theorem chk97 : fnChk Go.Proofs.Tryz.prog Go.Proofs.Tryz.f97 = true := by kernel_rfl
theorem chk98 : fnChk Go.Proofs.Tryz.prog Go.Proofs.Tryz.f98 = true := by kernel_rfl
theorem chk99 : fnChk Go.Proofs.Tryz.prog Go.Proofs.Tryz.f99 = true := by kernel_rfl
theorem chk100 : fnChk Go.Proofs.Tryz.prog Go.Proofs.Tryz.f100 = true := by kernel_rfl
theorem chk101 : fnChk Go.Proofs.Tryz.prog Go.Proofs.Tryz.f101 = true := by kernel_rfl
theorem chk102 : fnChk Go.Proofs.Tryz.prog Go.Proofs.Tryz.f102 = true := by kernel_rfl
theorem chk103 : fnChk Go.Proofs.Tryz.prog Go.Proofs.Tryz.f103 = true := by kernel_rfl
theorem chk104 : fnChk Go.Proofs.Tryz.prog Go.Proofs.Tryz.f104 = true := by kernel_rfl
theorem chk105 : fnChk Go.Proofs.Tryz.prog Go.Proofs.Tryz.f105 = true := by kernel_rfl
theorem chk106 : fnChk Go.Proofs.Tryz.prog Go.Proofs.Tryz.f106 = true := by kernel_rfl
theorem chk107 : fnChk Go.Proofs.Tryz.prog Go.Proofs.Tryz.f107 = true := by kernel_rfl
theorem chk108 : fnChk Go.Proofs.Tryz.prog Go.Proofs.Tryz.f108 = true := by kernel_rfl
theorem chk109 : fnChk Go.Proofs.Tryz.prog Go.Proofs.Tryz.f109 = true := by kernel_rfl
theorem chk110 : fnChk Go.Proofs.Tryz.prog Go.Proofs.Tryz.f110 = true := by kernel_rfl
theorem chk111 : fnChk Go.Proofs.Tryz.prog Go.Proofs.Tryz.f111 = true := by kernel_rfl
theorem chk112 : fnChk Go.Proofs.Tryz.prog Go.Proofs.Tryz.f112 = true := by kernel_rfl
theorem chk113 : fnChk Go.Proofs.Tryz.prog Go.Proofs.Tryz.f113 = true := by kernel_rfl
theorem chk114 : fnChk Go.Proofs.Tryz.prog Go.Proofs.Tryz.f114 = true := by kernel_rfl
theorem chk115 : fnChk Go.Proofs.Tryz.prog Go.Proofs.Tryz.f115 = true := by kernel_rfl
theorem chk116 : fnChk Go.Proofs.Tryz.prog Go.Proofs.Tryz.f116 = true := by kernel_rfl
theorem chk117 : fnChk Go.Proofs.Tryz.prog Go.Proofs.Tryz.f117 = true := by kernel_rfl
theorem chk118 : fnChk Go.Proofs.Tryz.prog Go.Proofs.Tryz.f118 = true := by kernel_rfl
theorem chk119 : fnChk Go.Proofs.Tryz.prog Go.Proofs.Tryz.f119 = true := by kernel_rfl
theorem chk120 : fnChk Go.Proofs.Tryz.prog Go.Proofs.Tryz.f120 = true := by kernel_rfl
theorem chk121 : fnChk Go.Proofs.Tryz.prog Go.Proofs.Tryz.f121 = true := by kernel_rfl
theorem chk122 : fnChk Go.Proofs.Tryz.prog Go.Proofs.Tryz.f122 = true := by kernel_rfl
theorem chk123 : fnChk Go.Proofs.Tryz.prog Go.Proofs.Tryz.f123 = true := by kernel_rfl
theorem chk124 : fnChk Go.Proofs.Tryz.prog Go.Proofs.Tryz.f124 = true := by kernel_rfl
theorem chk125 : fnChk Go.Proofs.Tryz.prog Go.Proofs.Tryz.f125 = true := by kernel_rfl
theorem chk126 : fnChk Go.Proofs.Tryz.prog Go.Proofs.Tryz.f126 = true := by kernel_rfl
theorem chk127 : fnChk Go.Proofs.Tryz.prog Go.Proofs.Tryz.f127 = true := by kernel_rfl
theorem chk128 : fnChk Go.Proofs.Tryz.prog Go.Proofs.Tryz.f128 = true := by kernel_rfl
theorem chk129 : fnChk Go.Proofs.Tryz.prog Go.Proofs.Tryz.f129 = true := by kernel_rfl
theorem chk130 : fnChk Go.Proofs.Tryz.prog Go.Proofs.Tryz.f130 = true := by kernel_rfl
theorem chk131 : fnChk Go.Proofs.Tryz.prog Go.Proofs.Tryz.f131 = true := by kernel_rfl
theorem chk132 : fnChk Go.Proofs.Tryz.prog Go.Proofs.Tryz.f132 = true := by kernel_rfl
theorem chk133 : fnChk Go.Proofs.Tryz.prog Go.Proofs.Tryz.f133 = true := by kernel_rfl
theorem chk134 : fnChk Go.Proofs.Tryz.prog Go.Proofs.Tryz.f134 = true := by kernel_rfl
theorem chk135 : fnChk Go.Proofs.Tryz.prog Go.Proofs.Tryz.f135 = true := by kernel_rfl
theorem chk136 : fnChk Go.Proofs.Tryz.prog Go.Proofs.Tryz.f136 = true := by kernel_rfl
theorem chk137 : fnChk Go.Proofs.Tryz.prog Go.Proofs.Tryz.f137 = true := by kernel_rfl
theorem chk138 : fnChk Go.Proofs.Tryz.prog Go.Proofs.Tryz.f138 = true := by kernel_rfl
theorem chk139 : fnChk Go.Proofs.Tryz.prog Go.Proofs.Tryz.f139 = true := by kernel_rfl
theorem chk140 : fnChk Go.Proofs.Tryz.prog Go.Proofs.Tryz.f140 = true := by kernel_rfl
theorem chk141 : fnChk Go.Proofs.Tryz.prog Go.Proofs.Tryz.f141 = true := by kernel_rfl
theorem chk142 : fnChk Go.Proofs.Tryz.prog Go.Proofs.Tryz.f142 = true := by kernel_rfl
theorem chk143 : fnChk Go.Proofs.Tryz.prog Go.Proofs.Tryz.f143 = true := by kernel_rfl
theorem chk144 : fnChk Go.Proofs.Tryz.prog Go.Proofs.Tryz.f144 = true := by kernel_rfl
theorem chk145 : fnChk Go.Proofs.Tryz.prog Go.Proofs.Tryz.f145 = true := by kernel_rfl
theorem chk146 : fnChk Go.Proofs.Tryz.prog Go.Proofs.Tryz.f146 = true := by kernel_rfl
theorem chk147 : fnChk Go.Proofs.Tryz.prog Go.Proofs.Tryz.f147 = true := by kernel_rfl
theorem chk148 : fnChk Go.Proofs.Tryz.prog Go.Proofs.Tryz.f148 = true := by kernel_rfl
theorem chk149 : fnChk Go.Proofs.Tryz.prog Go.Proofs.Tryz.f149 = true := by kernel_rfl
theorem chk150 : fnChk Go.Proofs.Tryz.prog Go.Proofs.Tryz.f150 = true := by kernel_rfl
theorem chk151 : fnChk Go.Proofs.Tryz.prog Go.Proofs.Tryz.f151 = true := by kernel_rfl
theorem chk152 : fnChk Go.Proofs.Tryz.prog Go.Proofs.Tryz.f152 = true := by kernel_rfl
theorem chk153 : fnChk Go.Proofs.Tryz.prog Go.Proofs.Tryz.f153 = true := by kernel_rfl
theorem chk154 : fnChk Go.Proofs.Tryz.prog Go.Proofs.Tryz.f154 = true := by kernel_rfl
theorem chk155 : fnChk Go.Proofs.Tryz.prog Go.Proofs.Tryz.f155 = true := by kernel_rfl
theorem chk156 : fnChk Go.Proofs.Tryz.prog Go.Proofs.Tryz.f156 = true := by kernel_rfl
theorem chk157 : fnChk Go.Proofs.Tryz.prog Go.Proofs.Tryz.f157 = true := by kernel_rfl
theorem chk158 : fnChk Go.Proofs.Tryz.prog Go.Proofs.Tryz.f158 = true := by kernel_rfl
theorem chk159 : fnChk Go.Proofs.Tryz.prog Go.Proofs.Tryz.f159 = true := by kernel_rfl
theorem chk160 : fnChk Go.Proofs.Tryz.prog Go.Proofs.Tryz.f160 = true := by kernel_rfl
theorem chk161 : fnChk Go.Proofs.Tryz.prog Go.Proofs.Tryz.f161 = true := by kernel_rfl
theorem chk162 : fnChk Go.Proofs.Tryz.prog Go.Proofs.Tryz.f162 = true := by kernel_rfl
theorem chk163 : fnChk Go.Proofs.Tryz.prog Go.Proofs.Tryz.f163 = true := by kernel_rfl
theorem chk164 : fnChk Go.Proofs.Tryz.prog Go.Proofs.Tryz.f164 = true := by kernel_rfl
theorem chk165 : fnChk Go.Proofs.Tryz.prog Go.Proofs.Tryz.f165 = true := by kernel_rfl
theorem chk166 : fnChk Go.Proofs.Tryz.prog Go.Proofs.Tryz.f166 = true := by kernel_rfl
theorem chk167 : fnChk Go.Proofs.Tryz.prog Go.Proofs.Tryz.f167 = true := by kernel_rfl
theorem chk168 : fnChk Go.Proofs.Tryz.prog Go.Proofs.Tryz.f168 = true := by kernel_rfl
theorem chk169 : fnChk Go.Proofs.Tryz.prog Go.Proofs.Tryz.f169 = true := by kernel_rfl
theorem chk170 : fnChk Go.Proofs.Tryz.prog Go.Proofs.Tryz.f170 = true := by kernel_rfl
theorem chk171 : fnChk Go.Proofs.Tryz.prog Go.Proofs.Tryz.f171 = true := by kernel_rfl
theorem chk172 : fnChk Go.Proofs.Tryz.prog Go.Proofs.Tryz.f172 = true := by kernel_rfl
theorem chk173 : fnChk Go.Proofs.Tryz.prog Go.Proofs.Tryz.f173 = true := by kernel_rfl
theorem chk174 : fnChk Go.Proofs.Tryz.prog Go.Proofs.Tryz.f174 = true := by kernel_rfl
theorem chk175 : fnChk Go.Proofs.Tryz.prog Go.Proofs.Tryz.f175 = true := by kernel_rfl
theorem chk176 : fnChk Go.Proofs.Tryz.prog Go.Proofs.Tryz.f176 = true := by kernel_rfl
theorem chk177 : fnChk Go.Proofs.Tryz.prog Go.Proofs.Tryz.f177 = true := by kernel_rfl
theorem chk178 : fnChk Go.Proofs.Tryz.prog Go.Proofs.Tryz.f178 = true := by kernel_rfl
theorem chk179 : fnChk Go.Proofs.Tryz.prog Go.Proofs.Tryz.f179 = true := by kernel_rfl
theorem chk180 : fnChk Go.Proofs.Tryz.prog Go.Proofs.Tryz.f180 = true := by kernel_rfl
theorem chk181 : fnChk Go.Proofs.Tryz.prog Go.Proofs.Tryz.f181 = true := by kernel_rfl
theorem chk182 : fnChk Go.Proofs.Tryz.prog Go.Proofs.Tryz.f182 = true := by kernel_rfl
theorem chk183 : fnChk Go.Proofs.Tryz.prog Go.Proofs.Tryz.f183 = true := by kernel_rfl
theorem chk184 : fnChk Go.Proofs.Tryz.prog Go.Proofs.Tryz.f184 = true := by kernel_rfl
theorem chk185 : fnChk Go.Proofs.Tryz.prog Go.Proofs.Tryz.f185 = true := by kernel_rfl
theorem chk186 : fnChk Go.Proofs.Tryz.prog Go.Proofs.Tryz.f186 = true := by kernel_rfl
theorem chk187 : fnChk Go.Proofs.Tryz.prog Go.Proofs.Tryz.f187 = true := by kernel_rfl
theorem chk188 : fnChk Go.Proofs.Tryz.prog Go.Proofs.Tryz.f188 = true := by kernel_rfl
theorem chk189 : fnChk Go.Proofs.Tryz.prog Go.Proofs.Tryz.f189 = true := by kernel_rfl
theorem chk190 : fnChk Go.Proofs.Tryz.prog Go.Proofs.Tryz.f190 = true := by kernel_rfl
theorem chk191 : fnChk Go.Proofs.Tryz.prog Go.Proofs.Tryz.f191 = true := by kernel_rfl
theorem chk192 : fnChk Go.Proofs.Tryz.prog Go.Proofs.Tryz.f192 = true := by kernel_rfl
theorem chk193 : fnChk Go.Proofs.Tryz.prog Go.Proofs.Tryz.f193 = true := by kernel_rfl
theorem chk194 : fnChk Go.Proofs.Tryz.prog Go.Proofs.Tryz.f194 = true := by kernel_rfl
theorem chk195 : fnChk Go.Proofs.Tryz.prog Go.Proofs.Tryz.f195 = true := by kernel_rfl
theorem chk196 : fnChk Go.Proofs.Tryz.prog Go.Proofs.Tryz.f196 = true := by kernel_rfl
theorem chk197 : fnChk Go.Proofs.Tryz.prog Go.Proofs.Tryz.f197 = true := by kernel_rfl
theorem chk198 : fnChk Go.Proofs.Tryz.prog Go.Proofs.Tryz.f198 = true := by kernel_rfl
theorem chk199 : fnChk Go.Proofs.Tryz.prog Go.Proofs.Tryz.f199 = true := by kernel_rfl
theorem chk200 : fnChk Go.Proofs.Tryz.prog Go.Proofs.Tryz.f200 = true := by kernel_rfl
theorem chk201 : fnChk Go.Proofs.Tryz.prog Go.Proofs.Tryz.f201 = true := by kernel_rfl
theorem chk202 : fnChk Go.Proofs.Tryz.prog Go.Proofs.Tryz.f202 = true := by kernel_rfl
theorem chk203 : fnChk Go.Proofs.Tryz.prog Go.Proofs.Tryz.f203 = true := by kernel_rfl
theorem chk204 : fnChk Go.Proofs.Tryz.prog Go.Proofs.Tryz.f204 = true := by kernel_rfl
theorem chk205 : fnChk Go.Proofs.Tryz.prog Go.Proofs.Tryz.f205 = true := by kernel_rfl
theorem chk206 : fnChk Go.Proofs.Tryz.prog Go.Proofs.Tryz.f206 = true := by kernel_rfl
theorem chk207 : fnChk Go.Proofs.Tryz.prog Go.Proofs.Tryz.f207 = true := by kernel_rfl
theorem chk208 : fnChk Go.Proofs.Tryz.prog Go.Proofs.Tryz.f208 = true := by kernel_rfl
theorem chk209 : fnChk Go.Proofs.Tryz.prog Go.Proofs.Tryz.f209 = true := by kernel_rfl
theorem chk210 : fnChk Go.Proofs.Tryz.prog Go.Proofs.Tryz.f210 = true := by kernel_rfl
theorem chk211 : fnChk Go.Proofs.Tryz.prog Go.Proofs.Tryz.f211 = true := by kernel_rfl
theorem chk212 : fnChk Go.Proofs.Tryz.prog Go.Proofs.Tryz.f212 = true := by kernel_rfl
theorem chk213 : fnChk Go.Proofs.Tryz.prog Go.Proofs.Tryz.f213 = true := by kernel_rfl
theorem chk214 : fnChk Go.Proofs.Tryz.prog Go.Proofs.Tryz.f214 = true := by kernel_rfl
theorem chk215 : fnChk Go.Proofs.Tryz.prog Go.Proofs.Tryz.f215 = true := by kernel_rfl
theorem chk216 : fnChk Go.Proofs.Tryz.prog Go.Proofs.Tryz.f216 = true := by kernel_rfl
theorem chk217 : fnChk Go.Proofs.Tryz.prog Go.Proofs.Tryz.f217 = true := by kernel_rfl
theorem chk218 : fnChk Go.Proofs.Tryz.prog Go.Proofs.Tryz.f218 = true := by kernel_rfl
theorem chk219 : fnChk Go.Proofs.Tryz.prog Go.Proofs.Tryz.f219 = true := by kernel_rfl
theorem chk220 : fnChk Go.Proofs.Tryz.prog Go.Proofs.Tryz.f220 = true := by kernel_rfl
theorem chk221 : fnChk Go.Proofs.Tryz.prog Go.Proofs.Tryz.f221 = true := by kernel_rfl
theorem chk222 : fnChk Go.Proofs.Tryz.prog Go.Proofs.Tryz.f222 = true := by kernel_rfl
theorem chk223 : fnChk Go.Proofs.Tryz.prog Go.Proofs.Tryz.f223 = true := by kernel_rfl
theorem chk224 : fnChk Go.Proofs.Tryz.prog Go.Proofs.Tryz.f224 = true := by kernel_rfl
theorem chk225 : fnChk Go.Proofs.Tryz.prog Go.Proofs.Tryz.f225 = true := by kernel_rfl
theorem chk226 : fnChk Go.Proofs.Tryz.prog Go.Proofs.Tryz.f226 = true := by kernel_rfl
theorem chk227 : fnChk Go.Proofs.Tryz.prog Go.Proofs.Tryz.f227 = true := by kernel_rfl
theorem chk228 : fnChk Go.Proofs.Tryz.prog Go.Proofs.Tryz.f228 = true := by kernel_rfl
theorem chk229 : fnChk Go.Proofs.Tryz.prog Go.Proofs.Tryz.f229 = true := by kernel_rfl
theorem chk230 : fnChk Go.Proofs.Tryz.prog Go.Proofs.Tryz.f230 = true := by kernel_rfl
theorem chk231 : fnChk Go.Proofs.Tryz.prog Go.Proofs.Tryz.f231 = true := by kernel_rfl
theorem chk232 : fnChk Go.Proofs.Tryz.prog Go.Proofs.Tryz.f232 = true := by kernel_rfl
theorem chk233 : fnChk Go.Proofs.Tryz.prog Go.Proofs.Tryz.f233 = true := by kernel_rfl
theorem chk234 : fnChk Go.Proofs.Tryz.prog Go.Proofs.Tryz.f234 = true := by kernel_rfl
theorem chk235 : fnChk Go.Proofs.Tryz.prog Go.Proofs.Tryz.f235 = true := by kernel_rfl
theorem chk236 : fnChk Go.Proofs.Tryz.prog Go.Proofs.Tryz.f236 = true := by kernel_rfl
theorem chk237 : fnChk Go.Proofs.Tryz.prog Go.Proofs.Tryz.f237 = true := by kernel_rfl
theorem chk238 : fnChk Go.Proofs.Tryz.prog Go.Proofs.Tryz.f238 = true := by kernel_rfl
theorem chk239 : fnChk Go.Proofs.Tryz.prog Go.Proofs.Tryz.f239 = true := by kernel_rfl
theorem chk240 : fnChk Go.Proofs.Tryz.prog Go.Proofs.Tryz.f240 = true := by kernel_rfl
theorem chk241 : fnChk Go.Proofs.Tryz.prog Go.Proofs.Tryz.f241 = true := by kernel_rfl
theorem chk242 : fnChk Go.Proofs.Tryz.prog Go.Proofs.Tryz.f242 = true := by kernel_rfl
theorem chk243 : fnChk Go.Proofs.Tryz.prog Go.Proofs.Tryz.f243 = true := by kernel_rfl
theorem chk244 : fnChk Go.Proofs.Tryz.prog Go.Proofs.Tryz.f244 = true := by kernel_rfl
theorem chk245 : fnChk Go.Proofs.Tryz.prog Go.Proofs.Tryz.f245 = true := by kernel_rfl
theorem chk246 : fnChk Go.Proofs.Tryz.prog Go.Proofs.Tryz.f246 = true := by kernel_rfl
theorem chk247 : fnChk Go.Proofs.Tryz.prog Go.Proofs.Tryz.f247 = true := by kernel_rfl
theorem chk248 : fnChk Go.Proofs.Tryz.prog Go.Proofs.Tryz.f248 = true := by kernel_rfl
theorem chk249 : fnChk Go.Proofs.Tryz.prog Go.Proofs.Tryz.f249 = true := by kernel_rfl
theorem chk250 : fnChk Go.Proofs.Tryz.prog Go.Proofs.Tryz.f250 = true := by kernel_rfl
theorem chk251 : fnChk Go.Proofs.Tryz.prog Go.Proofs.Tryz.f251 = true := by kernel_rfl
theorem chk252 : fnChk Go.Proofs.Tryz.prog Go.Proofs.Tryz.f252 = true := by kernel_rfl
theorem chk253 : fnChk Go.Proofs.Tryz.prog Go.Proofs.Tryz.f253 = true := by kernel_rfl
theorem chk254 : fnChk Go.Proofs.Tryz.prog Go.Proofs.Tryz.f254 = true := by kernel_rfl
theorem chk255 : fnChk Go.Proofs.Tryz.prog Go.Proofs.Tryz.f255 = true := by kernel_rfl
theorem chk256 : fnChk Go.Proofs.Tryz.prog Go.Proofs.Tryz.f256 = true := by kernel_rfl
theorem chk257 : fnChk Go.Proofs.Tryz.prog Go.Proofs.Tryz.f257 = true := by kernel_rfl
theorem chk258 : fnChk Go.Proofs.Tryz.prog Go.Proofs.Tryz.f258 = true := by kernel_rfl
theorem chk259 : fnChk Go.Proofs.Tryz.prog Go.Proofs.Tryz.f259 = true := by kernel_rfl
theorem chk260 : fnChk Go.Proofs.Tryz.prog Go.Proofs.Tryz.f260 = true := by kernel_rfl
theorem chk261 : fnChk Go.Proofs.Tryz.prog Go.Proofs.Tryz.f261 = true := by kernel_rfl
theorem chk262 : fnChk Go.Proofs.Tryz.prog Go.Proofs.Tryz.f262 = true := by kernel_rfl
theorem chk263 : fnChk Go.Proofs.Tryz.prog Go.Proofs.Tryz.f263 = true := by kernel_rfl
theorem chk264 : fnChk Go.Proofs.Tryz.prog Go.Proofs.Tryz.f264 = true := by kernel_rfl
theorem chk265 : fnChk Go.Proofs.Tryz.prog Go.Proofs.Tryz.f265 = true := by kernel_rfl
theorem chk266 : fnChk Go.Proofs.Tryz.prog Go.Proofs.Tryz.f266 = true := by kernel_rfl
theorem chk267 : fnChk Go.Proofs.Tryz.prog Go.Proofs.Tryz.f267 = true := by kernel_rfl
theorem chk268 : fnChk Go.Proofs.Tryz.prog Go.Proofs.Tryz.f268 = true := by kernel_rfl
theorem chk269 : fnChk Go.Proofs.Tryz.prog Go.Proofs.Tryz.f269 = true := by kernel_rfl
theorem chk270 : fnChk Go.Proofs.Tryz.prog Go.Proofs.Tryz.f270 = true := by kernel_rfl
theorem chk271 : fnChk Go.Proofs.Tryz.prog Go.Proofs.Tryz.f271 = true := by kernel_rfl
theorem chk272 : fnChk Go.Proofs.Tryz.prog Go.Proofs.Tryz.f272 = true := by kernel_rfl
theorem chk273 : fnChk Go.Proofs.Tryz.prog Go.Proofs.Tryz.f273 = true := by kernel_rfl
theorem chk274 : fnChk Go.Proofs.Tryz.prog Go.Proofs.Tryz.f274 = true := by kernel_rfl
theorem chk275 : fnChk Go.Proofs.Tryz.prog Go.Proofs.Tryz.f275 = true := by kernel_rfl
theorem chk276 : fnChk Go.Proofs.Tryz.prog Go.Proofs.Tryz.f276 = true := by kernel_rfl
theorem chk277 : fnChk Go.Proofs.Tryz.prog Go.Proofs.Tryz.f277 = true := by kernel_rfl
theorem chk278 : fnChk Go.Proofs.Tryz.prog Go.Proofs.Tryz.f278 = true := by kernel_rfl
theorem chk279 : fnChk Go.Proofs.Tryz.prog Go.Proofs.Tryz.f279 = true := by kernel_rfl
theorem chk280 : fnChk Go.Proofs.Tryz.prog Go.Proofs.Tryz.f280 = true := by kernel_rfl
theorem chk281 : fnChk Go.Proofs.Tryz.prog Go.Proofs.Tryz.f281 = true := by kernel_rfl
theorem chk282 : fnChk Go.Proofs.Tryz.prog Go.Proofs.Tryz.f282 = true := by kernel_rfl
theorem chk283 : fnChk Go.Proofs.Tryz.prog Go.Proofs.Tryz.f283 = true := by kernel_rfl
theorem chk284 : fnChk Go.Proofs.Tryz.prog Go.Proofs.Tryz.f284 = true := by kernel_rfl
theorem chk285 : fnChk Go.Proofs.Tryz.prog Go.Proofs.Tryz.f285 = true := by kernel_rfl
theorem chk286 : fnChk Go.Proofs.Tryz.prog Go.Proofs.Tryz.f286 = true := by kernel_rfl
theorem chk287 : fnChk Go.Proofs.Tryz.prog Go.Proofs.Tryz.f287 = true := by kernel_rfl
theorem chk288 : fnChk Go.Proofs.Tryz.prog Go.Proofs.Tryz.f288 = true := by kernel_rfl
theorem chk289 : fnChk Go.Proofs.Tryz.prog Go.Proofs.Tryz.f289 = true := by kernel_rfl
theorem chk290 : fnChk Go.Proofs.Tryz.prog Go.Proofs.Tryz.f290 = true := by kernel_rfl
theorem chk291 : fnChk Go.Proofs.Tryz.prog Go.Proofs.Tryz.f291 = true := by kernel_rfl
theorem chk292 : fnChk Go.Proofs.Tryz.prog Go.Proofs.Tryz.f292 = true := by kernel_rfl
theorem chk293 : fnChk Go.Proofs.Tryz.prog Go.Proofs.Tryz.f293 = true := by kernel_rfl
theorem chk294 : fnChk Go.Proofs.Tryz.prog Go.Proofs.Tryz.f294 = true := by kernel_rfl
theorem chk295 : fnChk Go.Proofs.Tryz.prog Go.Proofs.Tryz.f295 = true := by kernel_rfl
theorem chk296 : fnChk Go.Proofs.Tryz.prog Go.Proofs.Tryz.f296 = true := by kernel_rfl
theorem chk297 : fnChk Go.Proofs.Tryz.prog Go.Proofs.Tryz.f297 = true := by kernel_rfl
theorem chk298 : fnChk Go.Proofs.Tryz.prog Go.Proofs.Tryz.f298 = true := by kernel_rfl
theorem chk299 : fnChk Go.Proofs.Tryz.prog Go.Proofs.Tryz.f299 = true := by kernel_rfl
theorem chk300 : fnChk Go.Proofs.Tryz.prog Go.Proofs.Tryz.f300 = true := by kernel_rfl
theorem chk301 : fnChk Go.Proofs.Tryz.prog Go.Proofs.Tryz.f301 = true := by kernel_rfl
theorem chk302 : fnChk Go.Proofs.Tryz.prog Go.Proofs.Tryz.f302 = true := by kernel_rfl
theorem chk303 : fnChk Go.Proofs.Tryz.prog Go.Proofs.Tryz.f303 = true := by kernel_rfl
theorem chk304 : fnChk Go.Proofs.Tryz.prog Go.Proofs.Tryz.f304 = true := by kernel_rfl
theorem chk305 : fnChk Go.Proofs.Tryz.prog Go.Proofs.Tryz.f305 = true := by kernel_rfl
theorem chk306 : fnChk Go.Proofs.Tryz.prog Go.Proofs.Tryz.f306 = true := by kernel_rfl
theorem chk307 : fnChk Go.Proofs.Tryz.prog Go.Proofs.Tryz.f307 = true := by kernel_rfl
theorem chk308 : fnChk Go.Proofs.Tryz.prog Go.Proofs.Tryz.f308 = true := by kernel_rfl
theorem chk309 : fnChk Go.Proofs.Tryz.prog Go.Proofs.Tryz.f309 = true := by kernel_rfl
theorem chk310 : fnChk Go.Proofs.Tryz.prog Go.Proofs.Tryz.f310 = true := by kernel_rfl
theorem chk311 : fnChk Go.Proofs.Tryz.prog Go.Proofs.Tryz.f311 = true := by kernel_rfl
theorem chk312 : fnChk Go.Proofs.Tryz.prog Go.Proofs.Tryz.f312 = true := by kernel_rfl
theorem chk313 : fnChk Go.Proofs.Tryz.prog Go.Proofs.Tryz.f313 = true := by kernel_rfl
theorem chk314 : fnChk Go.Proofs.Tryz.prog Go.Proofs.Tryz.f314 = true := by kernel_rfl
theorem chk315 : fnChk Go.Proofs.Tryz.prog Go.Proofs.Tryz.f315 = true := by kernel_rfl
theorem chk316 : fnChk Go.Proofs.Tryz.prog Go.Proofs.Tryz.f316 = true := by kernel_rfl
theorem chk317 : fnChk Go.Proofs.Tryz.prog Go.Proofs.Tryz.f317 = true := by kernel_rfl
theorem chk318 : fnChk Go.Proofs.Tryz.prog Go.Proofs.Tryz.f318 = true := by kernel_rfl
theorem chk319 : fnChk Go.Proofs.Tryz.prog Go.Proofs.Tryz.f319 = true := by kernel_rfl
theorem chk320 : fnChk Go.Proofs.Tryz.prog Go.Proofs.Tryz.f320 = true := by kernel_rfl
theorem chk321 : fnChk Go.Proofs.Tryz.prog Go.Proofs.Tryz.f321 = true := by kernel_rfl
theorem chk322 : fnChk Go.Proofs.Tryz.prog Go.Proofs.Tryz.f322 = true := by kernel_rfl
theorem chk323 : fnChk Go.Proofs.Tryz.prog Go.Proofs.Tryz.f323 = true := by kernel_rfl
theorem chk324 : fnChk Go.Proofs.Tryz.prog Go.Proofs.Tryz.f324 = true := by kernel_rfl
theorem chk325 : fnChk Go.Proofs.Tryz.prog Go.Proofs.Tryz.f325 = true := by kernel_rfl
theorem chk326 : fnChk Go.Proofs.Tryz.prog Go.Proofs.Tryz.f326 = true := by kernel_rfl
theorem chk327 : fnChk Go.Proofs.Tryz.prog Go.Proofs.Tryz.f327 = true := by kernel_rfl
theorem chk328 : fnChk Go.Proofs.Tryz.prog Go.Proofs.Tryz.f328 = true := by kernel_rfl
theorem chk329 : fnChk Go.Proofs.Tryz.prog Go.Proofs.Tryz.f329 = true := by kernel_rfl
theorem chk330 : fnChk Go.Proofs.Tryz.prog Go.Proofs.Tryz.f330 = true := by kernel_rfl
theorem chk331 : fnChk Go.Proofs.Tryz.prog Go.Proofs.Tryz.f331 = true := by kernel_rfl
theorem chk332 : fnChk Go.Proofs.Tryz.prog Go.Proofs.Tryz.f332 = true := by kernel_rfl
theorem chk333 : fnChk Go.Proofs.Tryz.prog Go.Proofs.Tryz.f333 = true := by kernel_rfl
theorem chk334 : fnChk Go.Proofs.Tryz.prog Go.Proofs.Tryz.f334 = true := by kernel_rfl
theorem chk335 : fnChk Go.Proofs.Tryz.prog Go.Proofs.Tryz.f335 = true := by kernel_rfl
theorem chk336 : fnChk Go.Proofs.Tryz.prog Go.Proofs.Tryz.f336 = true := by kernel_rfl
theorem chk337 : fnChk Go.Proofs.Tryz.prog Go.Proofs.Tryz.f337 = true := by kernel_rfl
theorem chk338 : fnChk Go.Proofs.Tryz.prog Go.Proofs.Tryz.f338 = true := by kernel_rfl
theorem chk339 : fnChk Go.Proofs.Tryz.prog Go.Proofs.Tryz.f339 = true := by kernel_rfl
theorem chk340 : fnChk Go.Proofs.Tryz.prog Go.Proofs.Tryz.f340 = true := by kernel_rfl
theorem chk341 : fnChk Go.Proofs.Tryz.prog Go.Proofs.Tryz.f341 = true := by kernel_rfl
theorem chk342 : fnChk Go.Proofs.Tryz.prog Go.Proofs.Tryz.f342 = true := by kernel_rfl
theorem chk343 : fnChk Go.Proofs.Tryz.prog Go.Proofs.Tryz.f343 = true := by kernel_rfl
theorem chk344 : fnChk Go.Proofs.Tryz.prog Go.Proofs.Tryz.f344 = true := by kernel_rfl
theorem chk345 : fnChk Go.Proofs.Tryz.prog Go.Proofs.Tryz.f345 = true := by kernel_rfl
theorem chk346 : fnChk Go.Proofs.Tryz.prog Go.Proofs.Tryz.f346 = true := by kernel_rfl
theorem chk347 : fnChk Go.Proofs.Tryz.prog Go.Proofs.Tryz.f347 = true := by kernel_rfl
theorem chk348 : fnChk Go.Proofs.Tryz.prog Go.Proofs.Tryz.f348 = true := by kernel_rfl
theorem chk349 : fnChk Go.Proofs.Tryz.prog Go.Proofs.Tryz.f349 = true := by kernel_rfl
theorem chk350 : fnChk Go.Proofs.Tryz.prog Go.Proofs.Tryz.f350 = true := by kernel_rfl
theorem chk351 : fnChk Go.Proofs.Tryz.prog Go.Proofs.Tryz.f351 = true := by kernel_rfl
theorem chk352 : fnChk Go.Proofs.Tryz.prog Go.Proofs.Tryz.f352 = true := by kernel_rfl
theorem chk353 : fnChk Go.Proofs.Tryz.prog Go.Proofs.Tryz.f353 = true := by kernel_rfl
theorem chk354 : fnChk Go.Proofs.Tryz.prog Go.Proofs.Tryz.f354 = true := by kernel_rfl
theorem chk355 : fnChk Go.Proofs.Tryz.prog Go.Proofs.Tryz.f355 = true := by kernel_rfl
theorem chk356 : fnChk Go.Proofs.Tryz.prog Go.Proofs.Tryz.f356 = true := by kernel_rfl
theorem chk357 : fnChk Go.Proofs.Tryz.prog Go.Proofs.Tryz.f357 = true := by kernel_rfl
theorem chk358 : fnChk Go.Proofs.Tryz.prog Go.Proofs.Tryz.f358 = true := by kernel_rfl
theorem chk359 : fnChk Go.Proofs.Tryz.prog Go.Proofs.Tryz.f359 = true := by kernel_rfl
theorem chk360 : fnChk Go.Proofs.Tryz.prog Go.Proofs.Tryz.f360 = true := by kernel_rfl
theorem chk361 : fnChk Go.Proofs.Tryz.prog Go.Proofs.Tryz.f361 = true := by kernel_rfl
theorem chk362 : fnChk Go.Proofs.Tryz.prog Go.Proofs.Tryz.f362 = true := by kernel_rfl
theorem chk363 : fnChk Go.Proofs.Tryz.prog Go.Proofs.Tryz.f363 = true := by kernel_rfl
theorem chk364 : fnChk Go.Proofs.Tryz.prog Go.Proofs.Tryz.f364 = true := by kernel_rfl
theorem chk365 : fnChk Go.Proofs.Tryz.prog Go.Proofs.Tryz.f365 = true := by kernel_rfl
theorem chk366 : fnChk Go.Proofs.Tryz.prog Go.Proofs.Tryz.f366 = true := by kernel_rfl
theorem chk367 : fnChk Go.Proofs.Tryz.prog Go.Proofs.Tryz.f367 = true := by kernel_rfl
theorem chk368 : fnChk Go.Proofs.Tryz.prog Go.Proofs.Tryz.f368 = true := by kernel_rfl
theorem chk369 : fnChk Go.Proofs.Tryz.prog Go.Proofs.Tryz.f369 = true := by kernel_rfl
theorem chk370 : fnChk Go.Proofs.Tryz.prog Go.Proofs.Tryz.f370 = true := by kernel_rfl
theorem chk371 : fnChk Go.Proofs.Tryz.prog Go.Proofs.Tryz.f371 = true := by kernel_rfl
theorem chk372 : fnChk Go.Proofs.Tryz.prog Go.Proofs.Tryz.f372 = true := by kernel_rfl
theorem chk373 : fnChk Go.Proofs.Tryz.prog Go.Proofs.Tryz.f373 = true := by kernel_rfl
theorem chk374 : fnChk Go.Proofs.Tryz.prog Go.Proofs.Tryz.f374 = true := by kernel_rfl
theorem chk375 : fnChk Go.Proofs.Tryz.prog Go.Proofs.Tryz.f375 = true := by kernel_rfl
theorem chk376 : fnChk Go.Proofs.Tryz.prog Go.Proofs.Tryz.f376 = true := by kernel_rfl
theorem chk377 : fnChk Go.Proofs.Tryz.prog Go.Proofs.Tryz.f377 = true := by kernel_rfl
theorem chk378 : fnChk Go.Proofs.Tryz.prog Go.Proofs.Tryz.f378 = true := by kernel_rfl
theorem chk379 : fnChk Go.Proofs.Tryz.prog Go.Proofs.Tryz.f379 = true := by kernel_rfl
theorem chk380 : fnChk Go.Proofs.Tryz.prog Go.Proofs.Tryz.f380 = true := by kernel_rfl
theorem chk381 : fnChk Go.Proofs.Tryz.prog Go.Proofs.Tryz.f381 = true := by kernel_rfl
theorem chk382 : fnChk Go.Proofs.Tryz.prog Go.Proofs.Tryz.f382 = true := by kernel_rfl
theorem chk383 : fnChk Go.Proofs.Tryz.prog Go.Proofs.Tryz.f383 = true := by kernel_rfl
theorem chk384 : fnChk Go.Proofs.Tryz.prog Go.Proofs.Tryz.f384 = true := by kernel_rfl
theorem chk385 : fnChk Go.Proofs.Tryz.prog Go.Proofs.Tryz.f385 = true := by kernel_rfl
theorem chk386 : fnChk Go.Proofs.Tryz.prog Go.Proofs.Tryz.f386 = true := by kernel_rfl
theorem chk387 : fnChk Go.Proofs.Tryz.prog Go.Proofs.Tryz.f387 = true := by kernel_rfl
theorem chk388 : fnChk Go.Proofs.Tryz.prog Go.Proofs.Tryz.f388 = true := by kernel_rfl
theorem chk389 : fnChk Go.Proofs.Tryz.prog Go.Proofs.Tryz.f389 = true := by kernel_rfl
theorem chk390 : fnChk Go.Proofs.Tryz.prog Go.Proofs.Tryz.f390 = true := by kernel_rfl
theorem chk391 : fnChk Go.Proofs.Tryz.prog Go.Proofs.Tryz.f391 = true := by kernel_rfl
theorem chk392 : fnChk Go.Proofs.Tryz.prog Go.Proofs.Tryz.f392 = true := by kernel_rfl
theorem chk393 : fnChk Go.Proofs.Tryz.prog Go.Proofs.Tryz.f393 = true := by kernel_rfl
theorem chk394 : fnChk Go.Proofs.Tryz.prog Go.Proofs.Tryz.f394 = true := by kernel_rfl
theorem chk395 : fnChk Go.Proofs.Tryz.prog Go.Proofs.Tryz.f395 = true := by kernel_rfl
theorem chk396 : fnChk Go.Proofs.Tryz.prog Go.Proofs.Tryz.f396 = true := by kernel_rfl
theorem chk397 : fnChk Go.Proofs.Tryz.prog Go.Proofs.Tryz.f397 = true := by kernel_rfl
theorem chk398 : fnChk Go.Proofs.Tryz.prog Go.Proofs.Tryz.f398 = true := by kernel_rfl
theorem chk399 : fnChk Go.Proofs.Tryz.prog Go.Proofs.Tryz.f399 = true := by kernel_rfl
theorem chk400 : fnChk Go.Proofs.Tryz.prog Go.Proofs.Tryz.f400 = true := by kernel_rfl
theorem chk401 : fnChk Go.Proofs.Tryz.prog Go.Proofs.Tryz.f401 = true := by kernel_rfl
theorem chk402 : fnChk Go.Proofs.Tryz.prog Go.Proofs.Tryz.f402 = true := by kernel_rfl
theorem chk403 : fnChk Go.Proofs.Tryz.prog Go.Proofs.Tryz.f403 = true := by kernel_rfl
theorem chk404 : fnChk Go.Proofs.Tryz.prog Go.Proofs.Tryz.f404 = true := by kernel_rfl
theorem chk405 : fnChk Go.Proofs.Tryz.prog Go.Proofs.Tryz.f405 = true := by kernel_rfl
theorem chk406 : fnChk Go.Proofs.Tryz.prog Go.Proofs.Tryz.f406 = true := by kernel_rfl
theorem chk407 : fnChk Go.Proofs.Tryz.prog Go.Proofs.Tryz.f407 = true := by kernel_rfl
theorem chk408 : fnChk Go.Proofs.Tryz.prog Go.Proofs.Tryz.f408 = true := by kernel_rfl
theorem chk409 : fnChk Go.Proofs.Tryz.prog Go.Proofs.Tryz.f409 = true := by kernel_rfl
theorem chk410 : fnChk Go.Proofs.Tryz.prog Go.Proofs.Tryz.f410 = true := by kernel_rfl
theorem chk411 : fnChk Go.Proofs.Tryz.prog Go.Proofs.Tryz.f411 = true := by kernel_rfl
theorem chk412 : fnChk Go.Proofs.Tryz.prog Go.Proofs.Tryz.f412 = true := by kernel_rfl
theorem chk413 : fnChk Go.Proofs.Tryz.prog Go.Proofs.Tryz.f413 = true := by kernel_rfl
theorem chk414 : fnChk Go.Proofs.Tryz.prog Go.Proofs.Tryz.f414 = true := by kernel_rfl
theorem chk415 : fnChk Go.Proofs.Tryz.prog Go.Proofs.Tryz.f415 = true := by kernel_rfl
theorem chk416 : fnChk Go.Proofs.Tryz.prog Go.Proofs.Tryz.f416 = true := by kernel_rfl
theorem chk417 : fnChk Go.Proofs.Tryz.prog Go.Proofs.Tryz.f417 = true := by kernel_rfl
theorem chk418 : fnChk Go.Proofs.Tryz.prog Go.Proofs.Tryz.f418 = true := by kernel_rfl
theorem chk419 : fnChk Go.Proofs.Tryz.prog Go.Proofs.Tryz.f419 = true := by kernel_rfl
theorem chk420 : fnChk Go.Proofs.Tryz.prog Go.Proofs.Tryz.f420 = true := by kernel_rfl
theorem chk421 : fnChk Go.Proofs.Tryz.prog Go.Proofs.Tryz.f421 = true := by kernel_rfl
theorem chk422 : fnChk Go.Proofs.Tryz.prog Go.Proofs.Tryz.f422 = true := by kernel_rfl
theorem chk423 : fnChk Go.Proofs.Tryz.prog Go.Proofs.Tryz.f423 = true := by kernel_rfl
theorem chk424 : fnChk Go.Proofs.Tryz.prog Go.Proofs.Tryz.f424 = true := by kernel_rfl
theorem chk425 : fnChk Go.Proofs.Tryz.prog Go.Proofs.Tryz.f425 = true := by kernel_rfl
theorem chk426 : fnChk Go.Proofs.Tryz.prog Go.Proofs.Tryz.f426 = true := by kernel_rfl
theorem chk427 : fnChk Go.Proofs.Tryz.prog Go.Proofs.Tryz.f427 = true := by kernel_rfl
theorem chk428 : fnChk Go.Proofs.Tryz.prog Go.Proofs.Tryz.f428 = true := by kernel_rfl
theorem chk429 : fnChk Go.Proofs.Tryz.prog Go.Proofs.Tryz.f429 = true := by kernel_rfl
theorem chk430 : fnChk Go.Proofs.Tryz.prog Go.Proofs.Tryz.f430 = true := by kernel_rfl
theorem chk431 : fnChk Go.Proofs.Tryz.prog Go.Proofs.Tryz.f431 = true := by kernel_rfl
theorem chk432 : fnChk Go.Proofs.Tryz.prog Go.Proofs.Tryz.f432 = true := by kernel_rfl
theorem chk433 : fnChk Go.Proofs.Tryz.prog Go.Proofs.Tryz.f433 = true := by kernel_rfl
theorem chk434 : fnChk Go.Proofs.Tryz.prog Go.Proofs.Tryz.f434 = true := by kernel_rfl
theorem chk435 : fnChk Go.Proofs.Tryz.prog Go.Proofs.Tryz.f435 = true := by kernel_rfl
theorem chk436 : fnChk Go.Proofs.Tryz.prog Go.Proofs.Tryz.f436 = true := by kernel_rfl
theorem chk437 : fnChk Go.Proofs.Tryz.prog Go.Proofs.Tryz.f437 = true := by kernel_rfl
theorem chk438 : fnChk Go.Proofs.Tryz.prog Go.Proofs.Tryz.f438 = true := by kernel_rfl
theorem chk439 : fnChk Go.Proofs.Tryz.prog Go.Proofs.Tryz.f439 = true := by kernel_rfl
theorem chk440 : fnChk Go.Proofs.Tryz.prog Go.Proofs.Tryz.f440 = true := by kernel_rfl
theorem chk441 : fnChk Go.Proofs.Tryz.prog Go.Proofs.Tryz.f441 = true := by kernel_rfl
theorem chk442 : fnChk Go.Proofs.Tryz.prog Go.Proofs.Tryz.f442 = true := by kernel_rfl
theorem chk443 : fnChk Go.Proofs.Tryz.prog Go.Proofs.Tryz.f443 = true := by kernel_rfl
theorem chk444 : fnChk Go.Proofs.Tryz.prog Go.Proofs.Tryz.f444 = true := by kernel_rfl
theorem chk445 : fnChk Go.Proofs.Tryz.prog Go.Proofs.Tryz.f445 = true := by kernel_rfl
theorem chk446 : fnChk Go.Proofs.Tryz.prog Go.Proofs.Tryz.f446 = true := by kernel_rfl
theorem chk447 : fnChk Go.Proofs.Tryz.prog Go.Proofs.Tryz.f447 = true := by kernel_rfl
theorem chk448 : fnChk Go.Proofs.Tryz.prog Go.Proofs.Tryz.f448 = true := by kernel_rfl
theorem chk449 : fnChk Go.Proofs.Tryz.prog Go.Proofs.Tryz.f449 = true := by kernel_rfl
theorem chk450 : fnChk Go.Proofs.Tryz.prog Go.Proofs.Tryz.f450 = true := by kernel_rfl
theorem chk451 : fnChk Go.Proofs.Tryz.prog Go.Proofs.Tryz.f451 = true := by kernel_rfl
theorem chk452 : fnChk Go.Proofs.Tryz.prog Go.Proofs.Tryz.f452 = true := by kernel_rfl
theorem chk453 : fnChk Go.Proofs.Tryz.prog Go.Proofs.Tryz.f453 = true := by kernel_rfl
theorem chk454 : fnChk Go.Proofs.Tryz.prog Go.Proofs.Tryz.f454 = true := by kernel_rfl
theorem chk455 : fnChk Go.Proofs.Tryz.prog Go.Proofs.Tryz.f455 = true := by kernel_rfl
theorem chk456 : fnChk Go.Proofs.Tryz.prog Go.Proofs.Tryz.f456 = true := by kernel_rfl
theorem chk457 : fnChk Go.Proofs.Tryz.prog Go.Proofs.Tryz.f457 = true := by kernel_rfl
theorem chk458 : fnChk Go.Proofs.Tryz.prog Go.Proofs.Tryz.f458 = true := by kernel_rfl
theorem chk459 : fnChk Go.Proofs.Tryz.prog Go.Proofs.Tryz.f459 = true := by kernel_rfl
theorem chk460 : fnChk Go.Proofs.Tryz.prog Go.Proofs.Tryz.f460 = true := by kernel_rfl
theorem chk461 : fnChk Go.Proofs.Tryz.prog Go.Proofs.Tryz.f461 = true := by kernel_rfl
theorem chk462 : fnChk Go.Proofs.Tryz.prog Go.Proofs.Tryz.f462 = true := by kernel_rfl
theorem chk463 : fnChk Go.Proofs.Tryz.prog Go.Proofs.Tryz.f463 = true := by kernel_rfl
theorem chk464 : fnChk Go.Proofs.Tryz.prog Go.Proofs.Tryz.f464 = true := by kernel_rfl
theorem chk465 : fnChk Go.Proofs.Tryz.prog Go.Proofs.Tryz.f465 = true := by kernel_rfl
theorem chk466 : fnChk Go.Proofs.Tryz.prog Go.Proofs.Tryz.f466 = true := by kernel_rfl
theorem chk467 : fnChk Go.Proofs.Tryz.prog Go.Proofs.Tryz.f467 = true := by kernel_rfl
theorem chk468 : fnChk Go.Proofs.Tryz.prog Go.Proofs.Tryz.f468 = true := by kernel_rfl
theorem chk469 : fnChk Go.Proofs.Tryz.prog Go.Proofs.Tryz.f469 = true := by kernel_rfl
theorem chk470 : fnChk Go.Proofs.Tryz.prog Go.Proofs.Tryz.f470 = true := by kernel_rfl
theorem chk471 : fnChk Go.Proofs.Tryz.prog Go.Proofs.Tryz.f471 = true := by kernel_rfl
theorem chk472 : fnChk Go.Proofs.Tryz.prog Go.Proofs.Tryz.f472 = true := by kernel_rfl
theorem chk473 : fnChk Go.Proofs.Tryz.prog Go.Proofs.Tryz.f473 = true := by kernel_rfl
theorem chk474 : fnChk Go.Proofs.Tryz.prog Go.Proofs.Tryz.f474 = true := by kernel_rfl
theorem chk475 : fnChk Go.Proofs.Tryz.prog Go.Proofs.Tryz.f475 = true := by kernel_rfl
theorem chk476 : fnChk Go.Proofs.Tryz.prog Go.Proofs.Tryz.f476 = true := by kernel_rfl
theorem chk477 : fnChk Go.Proofs.Tryz.prog Go.Proofs.Tryz.f477 = true := by kernel_rfl
theorem chk478 : fnChk Go.Proofs.Tryz.prog Go.Proofs.Tryz.f478 = true := by kernel_rfl
theorem chk479 : fnChk Go.Proofs.Tryz.prog Go.Proofs.Tryz.f479 = true := by kernel_rfl
theorem chk480 : fnChk Go.Proofs.Tryz.prog Go.Proofs.Tryz.f480 = true := by kernel_rfl
theorem chk481 : fnChk Go.Proofs.Tryz.prog Go.Proofs.Tryz.f481 = true := by kernel_rfl
theorem chk482 : fnChk Go.Proofs.Tryz.prog Go.Proofs.Tryz.f482 = true := by kernel_rfl
theorem chk483 : fnChk Go.Proofs.Tryz.prog Go.Proofs.Tryz.f483 = true := by kernel_rfl
theorem chk484 : fnChk Go.Proofs.Tryz.prog Go.Proofs.Tryz.f484 = true := by kernel_rfl
theorem chk485 : fnChk Go.Proofs.Tryz.prog Go.Proofs.Tryz.f485 = true := by kernel_rfl
theorem chk486 : fnChk Go.Proofs.Tryz.prog Go.Proofs.Tryz.f486 = true := by kernel_rfl
theorem chk487 : fnChk Go.Proofs.Tryz.prog Go.Proofs.Tryz.f487 = true := by kernel_rfl
theorem chk488 : fnChk Go.Proofs.Tryz.prog Go.Proofs.Tryz.f488 = true := by kernel_rfl
theorem chk489 : fnChk Go.Proofs.Tryz.prog Go.Proofs.Tryz.f489 = true := by kernel_rfl
theorem chk490 : fnChk Go.Proofs.Tryz.prog Go.Proofs.Tryz.f490 = true := by kernel_rfl
theorem chk491 : fnChk Go.Proofs.Tryz.prog Go.Proofs.Tryz.f491 = true := by kernel_rfl
theorem chk492 : fnChk Go.Proofs.Tryz.prog Go.Proofs.Tryz.f492 = true := by kernel_rfl
theorem chk493 : fnChk Go.Proofs.Tryz.prog Go.Proofs.Tryz.f493 = true := by kernel_rfl
theorem chk494 : fnChk Go.Proofs.Tryz.prog Go.Proofs.Tryz.f494 = true := by kernel_rfl
theorem chk495 : fnChk Go.Proofs.Tryz.prog Go.Proofs.Tryz.f495 = true := by kernel_rfl
theorem chk496 : fnChk Go.Proofs.Tryz.prog Go.Proofs.Tryz.f496 = true := by kernel_rfl
theorem chk497 : fnChk Go.Proofs.Tryz.prog Go.Proofs.Tryz.f497 = true := by kernel_rfl
theorem chk498 : fnChk Go.Proofs.Tryz.prog Go.Proofs.Tryz.f498 = true := by kernel_rfl
theorem chk499 : fnChk Go.Proofs.Tryz.prog Go.Proofs.Tryz.f499 = true := by kernel_rfl
theorem chk500 : fnChk Go.Proofs.Tryz.prog Go.Proofs.Tryz.f500 = true := by kernel_rfl
theorem chk501 : fnChk Go.Proofs.Tryz.prog Go.Proofs.Tryz.f501 = true := by kernel_rfl
theorem chk502 : fnChk Go.Proofs.Tryz.prog Go.Proofs.Tryz.f502 = true := by kernel_rfl
theorem chk503 : fnChk Go.Proofs.Tryz.prog Go.Proofs.Tryz.f503 = true := by kernel_rfl
theorem chk504 : fnChk Go.Proofs.Tryz.prog Go.Proofs.Tryz.f504 = true := by kernel_rfl
theorem chk505 : fnChk Go.Proofs.Tryz.prog Go.Proofs.Tryz.f505 = true := by kernel_rfl
theorem chk506 : fnChk Go.Proofs.Tryz.prog Go.Proofs.Tryz.f506 = true := by kernel_rfl
theorem chk507 : fnChk Go.Proofs.Tryz.prog Go.Proofs.Tryz.f507 = true := by kernel_rfl
theorem chk508 : fnChk Go.Proofs.Tryz.prog Go.Proofs.Tryz.f508 = true := by kernel_rfl
theorem chk509 : fnChk Go.Proofs.Tryz.prog Go.Proofs.Tryz.f509 = true := by kernel_rfl
theorem chk510 : fnChk Go.Proofs.Tryz.prog Go.Proofs.Tryz.f510 = true := by kernel_rfl
theorem chk511 : fnChk Go.Proofs.Tryz.prog Go.Proofs.Tryz.f511 = true := by kernel_rfl
theorem chk512 : fnChk Go.Proofs.Tryz.prog Go.Proofs.Tryz.f512 = true := by kernel_rfl
theorem chk513 : fnChk Go.Proofs.Tryz.prog Go.Proofs.Tryz.f513 = true := by kernel_rfl
theorem chk514 : fnChk Go.Proofs.Tryz.prog Go.Proofs.Tryz.f514 = true := by kernel_rfl
theorem chk515 : fnChk Go.Proofs.Tryz.prog Go.Proofs.Tryz.f515 = true := by kernel_rfl
theorem chk516 : fnChk Go.Proofs.Tryz.prog Go.Proofs.Tryz.f516 = true := by kernel_rfl
theorem chk517 : fnChk Go.Proofs.Tryz.prog Go.Proofs.Tryz.f517 = true := by kernel_rfl
theorem chk518 : fnChk Go.Proofs.Tryz.prog Go.Proofs.Tryz.f518 = true := by kernel_rfl
theorem chk519 : fnChk Go.Proofs.Tryz.prog Go.Proofs.Tryz.f519 = true := by kernel_rfl
theorem chk520 : fnChk Go.Proofs.Tryz.prog Go.Proofs.Tryz.f520 = true := by kernel_rfl
theorem chk521 : fnChk Go.Proofs.Tryz.prog Go.Proofs.Tryz.f521 = true := by kernel_rfl
theorem chk522 : fnChk Go.Proofs.Tryz.prog Go.Proofs.Tryz.f522 = true := by kernel_rfl
theorem chk523 : fnChk Go.Proofs.Tryz.prog Go.Proofs.Tryz.f523 = true := by kernel_rfl
theorem chk524 : fnChk Go.Proofs.Tryz.prog Go.Proofs.Tryz.f524 = true := by kernel_rfl
theorem chk525 : fnChk Go.Proofs.Tryz.prog Go.Proofs.Tryz.f525 = true := by kernel_rfl
theorem chk526 : fnChk Go.Proofs.Tryz.prog Go.Proofs.Tryz.f526 = true := by kernel_rfl
theorem chk527 : fnChk Go.Proofs.Tryz.prog Go.Proofs.Tryz.f527 = true := by kernel_rfl
theorem chk528 : fnChk Go.Proofs.Tryz.prog Go.Proofs.Tryz.f528 = true := by kernel_rfl
theorem chk529 : fnChk Go.Proofs.Tryz.prog Go.Proofs.Tryz.f529 = true := by kernel_rfl
theorem chk530 : fnChk Go.Proofs.Tryz.prog Go.Proofs.Tryz.f530 = true := by kernel_rfl
theorem chk531 : fnChk Go.Proofs.Tryz.prog Go.Proofs.Tryz.f531 = true := by kernel_rfl
theorem chk532 : fnChk Go.Proofs.Tryz.prog Go.Proofs.Tryz.f532 = true := by kernel_rfl
theorem chk533 : fnChk Go.Proofs.Tryz.prog Go.Proofs.Tryz.f533 = true := by kernel_rfl
theorem chk534 : fnChk Go.Proofs.Tryz.prog Go.Proofs.Tryz.f534 = true := by kernel_rfl
theorem chk535 : fnChk Go.Proofs.Tryz.prog Go.Proofs.Tryz.f535 = true := by kernel_rfl
theorem chk536 : fnChk Go.Proofs.Tryz.prog Go.Proofs.Tryz.f536 = true := by kernel_rfl
theorem chk537 : fnChk Go.Proofs.Tryz.prog Go.Proofs.Tryz.f537 = true := by kernel_rfl
theorem chk538 : fnChk Go.Proofs.Tryz.prog Go.Proofs.Tryz.f538 = true := by kernel_rfl
theorem chk539 : fnChk Go.Proofs.Tryz.prog Go.Proofs.Tryz.f539 = true := by kernel_rfl
theorem chk540 : fnChk Go.Proofs.Tryz.prog Go.Proofs.Tryz.f540 = true := by kernel_rfl
theorem chk541 : fnChk Go.Proofs.Tryz.prog Go.Proofs.Tryz.f541 = true := by kernel_rfl
theorem chk542 : fnChk Go.Proofs.Tryz.prog Go.Proofs.Tryz.f542 = true := by kernel_rfl
theorem chk543 : fnChk Go.Proofs.Tryz.prog Go.Proofs.Tryz.f543 = true := by kernel_rfl
theorem chk544 : fnChk Go.Proofs.Tryz.prog Go.Proofs.Tryz.f544 = true := by kernel_rfl
theorem chk545 : fnChk Go.Proofs.Tryz.prog Go.Proofs.Tryz.f545 = true := by kernel_rfl
theorem chk546 : fnChk Go.Proofs.Tryz.prog Go.Proofs.Tryz.f546 = true := by kernel_rfl
theorem chk547 : fnChk Go.Proofs.Tryz.prog Go.Proofs.Tryz.f547 = true := by kernel_rfl
theorem chk548 : fnChk Go.Proofs.Tryz.prog Go.Proofs.Tryz.f548 = true := by kernel_rfl
theorem chk549 : fnChk Go.Proofs.Tryz.prog Go.Proofs.Tryz.f549 = true := by kernel_rfl
theorem chk550 : fnChk Go.Proofs.Tryz.prog Go.Proofs.Tryz.f550 = true := by kernel_rfl
theorem chk551 : fnChk Go.Proofs.Tryz.prog Go.Proofs.Tryz.f551 = true := by kernel_rfl
theorem chk552 : fnChk Go.Proofs.Tryz.prog Go.Proofs.Tryz.f552 = true := by kernel_rfl
theorem chk553 : fnChk Go.Proofs.Tryz.prog Go.Proofs.Tryz.f553 = true := by kernel_rfl
theorem chk554 : fnChk Go.Proofs.Tryz.prog Go.Proofs.Tryz.f554 = true := by kernel_rfl
theorem chk555 : fnChk Go.Proofs.Tryz.prog Go.Proofs.Tryz.f555 = true := by kernel_rfl
theorem chk556 : fnChk Go.Proofs.Tryz.prog Go.Proofs.Tryz.f556 = true := by kernel_rfl
theorem chk557 : fnChk Go.Proofs.Tryz.prog Go.Proofs.Tryz.f557 = true := by kernel_rfl
theorem chk558 : fnChk Go.Proofs.Tryz.prog Go.Proofs.Tryz.f558 = true := by kernel_rfl
theorem chk559 : fnChk Go.Proofs.Tryz.prog Go.Proofs.Tryz.f559 = true := by kernel_rfl
theorem chk560 : fnChk Go.Proofs.Tryz.prog Go.Proofs.Tryz.f560 = true := by kernel_rfl
theorem chk561 : fnChk Go.Proofs.Tryz.prog Go.Proofs.Tryz.f561 = true := by kernel_rfl
theorem chk562 : fnChk Go.Proofs.Tryz.prog Go.Proofs.Tryz.f562 = true := by kernel_rfl
theorem chk563 : fnChk Go.Proofs.Tryz.prog Go.Proofs.Tryz.f563 = true := by kernel_rfl
theorem chk564 : fnChk Go.Proofs.Tryz.prog Go.Proofs.Tryz.f564 = true := by kernel_rfl
theorem chk565 : fnChk Go.Proofs.Tryz.prog Go.Proofs.Tryz.f565 = true := by kernel_rfl
theorem chks0 (f : Nat) (fn : Func) (h1 : 0 ≤ f) (h2 : f < 32) (hf : Go.Proofs.Tryz.prog.funcs[f]? = some fn) : fnChk Go.Proofs.Tryz.prog fn = true := by
  have h : f = 0 ∨ f = 1 ∨ f = 2 ∨ f = 3 ∨ f = 4 ∨ f = 5 ∨ f = 6 ∨ f = 7 ∨ f = 8 ∨ f = 9 ∨ f = 10 ∨ f = 11 ∨ f = 12 ∨ f = 13 ∨ f = 14 ∨ f = 15 ∨ f = 16 ∨ f = 17 ∨ f = 18 ∨ f = 19 ∨ f = 20 ∨ f = 21 ∨ f = 22 ∨ f = 23 ∨ f = 24 ∨ f = 25 ∨ f = 26 ∨ f = 27 ∨ f = 28 ∨ f = 29 ∨ f = 30 ∨ f = 31 := by omega
  rcases h with rfl | rfl | rfl | rfl | rfl | rfl | rfl | rfl | rfl | rfl | rfl | rfl | rfl | rfl | rfl | rfl | rfl | rfl | rfl | rfl | rfl | rfl | rfl | rfl | rfl | rfl | rfl | rfl | rfl | rfl | rfl | rfl
  · exact (Option.some.inj (Go.Proofs.Tryz.func0.symm.trans hf)) ▸ chk0
  · exact (Option.some.inj (Go.Proofs.Tryz.func1.symm.trans hf)) ▸ chk1
  · exact (Option.some.inj (Go.Proofs.Tryz.func2.symm.trans hf)) ▸ chk2
  · exact (Option.some.inj (Go.Proofs.Tryz.func3.symm.trans hf)) ▸ chk3
  · exact (Option.some.inj (Go.Proofs.Tryz.func4.symm.trans hf)) ▸ chk4
  · exact (Option.some.inj (Go.Proofs.Tryz.func5.symm.trans hf)) ▸ chk5
  · exact (Option.some.inj (Go.Proofs.Tryz.func6.symm.trans hf)) ▸ chk6
  · exact (Option.some.inj (Go.Proofs.Tryz.func7.symm.trans hf)) ▸ chk7
  · exact (Option.some.inj (Go.Proofs.Tryz.func8.symm.trans hf)) ▸ chk8
  · exact (Option.some.inj (Go.Proofs.Tryz.func9.symm.trans hf)) ▸ chk9
  · exact (Option.some.inj (Go.Proofs.Tryz.func10.symm.trans hf)) ▸ chk10
  · exact (Option.some.inj (Go.Proofs.Tryz.func11.symm.trans hf)) ▸ chk11
  · exact (Option.some.inj (Go.Proofs.Tryz.func12.symm.trans hf)) ▸ chk12
  · exact (Option.some.inj (Go.Proofs.Tryz.func13.symm.trans hf)) ▸ chk13
  · exact (Option.some.inj (Go.Proofs.Tryz.func14.symm.trans hf)) ▸ chk14
  · exact (Option.some.inj (Go.Proofs.Tryz.func15.symm.trans hf)) ▸ chk15
  · exact (Option.some.inj (Go.Proofs.Tryz.func16.symm.trans hf)) ▸ chk16
  · exact (Option.some.inj (Go.Proofs.Tryz.func17.symm.trans hf)) ▸ chk17
  · exact (Option.some.inj (Go.Proofs.Tryz.func18.symm.trans hf)) ▸ chk18
  · exact (Option.some.inj (Go.Proofs.Tryz.func19.symm.trans hf)) ▸ chk19
  · exact (Option.some.inj (Go.Proofs.Tryz.func20.symm.trans hf)) ▸ chk20
  · exact (Option.some.inj (Go.Proofs.Tryz.func21.symm.trans hf)) ▸ chk21
  · exact (Option.some.inj (Go.Proofs.Tryz.func22.symm.trans hf)) ▸ chk22
  · exact (Option.some.inj (Go.Proofs.Tryz.func23.symm.trans hf)) ▸ chk23
  · exact (Option.some.inj (Go.Proofs.Tryz.func24.symm.trans hf)) ▸ chk24
  · exact (Option.some.inj (Go.Proofs.Tryz.func25.symm.trans hf)) ▸ chk25
  · exact (Option.some.inj (Go.Proofs.Tryz.func26.symm.trans hf)) ▸ chk26
  · exact (Option.some.inj (Go.Proofs.Tryz.func27.symm.trans hf)) ▸ chk27
  · exact (Option.some.inj (Go.Proofs.Tryz.func28.symm.trans hf)) ▸ chk28
  · exact (Option.some.inj (Go.Proofs.Tryz.func29.symm.trans hf)) ▸ chk29
  · exact (Option.some.inj (Go.Proofs.Tryz.func30.symm.trans hf)) ▸ chk30
  · exact (Option.some.inj (Go.Proofs.Tryz.func31.symm.trans hf)) ▸ chk31
theorem chks32 (f : Nat) (fn : Func) (h1 : 32 ≤ f) (h2 : f < 64) (hf : Go.Proofs.Tryz.prog.funcs[f]? = some fn) : fnChk Go.Proofs.Tryz.prog fn = true := by
  have h : f = 32 ∨ f = 33 ∨ f = 34 ∨ f = 35 ∨ f = 36 ∨ f = 37 ∨ f = 38 ∨ f = 39 ∨ f = 40 ∨ f = 41 ∨ f = 42 ∨ f = 43 ∨ f = 44 ∨ f = 45 ∨ f = 46 ∨ f = 47 ∨ f = 48 ∨ f = 49 ∨ f = 50 ∨ f = 51 ∨ f = 52 ∨ f = 53 ∨ f = 54 ∨ f = 55 ∨ f = 56 ∨ f = 57 ∨ f = 58 ∨ f = 59 ∨ f = 60 ∨ f = 61 ∨ f = 62 ∨ f = 63 := by omega
  rcases h with rfl | rfl | rfl | rfl | rfl | rfl | rfl | rfl | rfl | rfl | rfl | rfl | rfl | rfl | rfl | rfl | rfl | rfl | rfl | rfl | rfl | rfl | rfl | rfl | rfl | rfl | rfl | rfl | rfl | rfl | rfl | rfl
  · exact (Option.some.inj (Go.Proofs.Tryz.func32.symm.trans hf)) ▸ chk32
  · exact (Option.some.inj (Go.Proofs.Tryz.func33.symm.trans hf)) ▸ chk33
  · exact (Option.some.inj (Go.Proofs.Tryz.func34.symm.trans hf)) ▸ chk34
  · exact (Option.some.inj (Go.Proofs.Tryz.func35.symm.trans hf)) ▸ chk35
  · exact (Option.some.inj (Go.Proofs.Tryz.func36.symm.trans hf)) ▸ chk36
  · exact (Option.some.inj (Go.Proofs.Tryz.func37.symm.trans hf)) ▸ chk37
  · exact (Option.some.inj (Go.Proofs.Tryz.func38.symm.trans hf)) ▸ chk38
  · exact (Option.some.inj (Go.Proofs.Tryz.func39.symm.trans hf)) ▸ chk39
  · exact (Option.some.inj (Go.Proofs.Tryz.func40.symm.trans hf)) ▸ chk40
  · exact (Option.some.inj (Go.Proofs.Tryz.func41.symm.trans hf)) ▸ chk41
  · exact (Option.some.inj (Go.Proofs.Tryz.func42.symm.trans hf)) ▸ chk42
  · exact (Option.some.inj (Go.Proofs.Tryz.func43.symm.trans hf)) ▸ chk43
  · exact (Option.some.inj (Go.Proofs.Tryz.func44.symm.trans hf)) ▸ chk44
  · exact (Option.some.inj (Go.Proofs.Tryz.func45.symm.trans hf)) ▸ chk45
  · exact (Option.some.inj (Go.Proofs.Tryz.func46.symm.trans hf)) ▸ chk46
  · exact (Option.some.inj (Go.Proofs.Tryz.func47.symm.trans hf)) ▸ chk47
  · exact (Option.some.inj (Go.Proofs.Tryz.func48.symm.trans hf)) ▸ chk48
  · exact (Option.some.inj (Go.Proofs.Tryz.func49.symm.trans hf)) ▸ chk49
  · exact (Option.some.inj (Go.Proofs.Tryz.func50.symm.trans hf)) ▸ chk50
  · exact (Option.some.inj (Go.Proofs.Tryz.func51.symm.trans hf)) ▸ chk51
  · exact (Option.some.inj (Go.Proofs.Tryz.func52.symm.trans hf)) ▸ chk52
  · exact (Option.some.inj (Go.Proofs.Tryz.func53.symm.trans hf)) ▸ chk53
  · exact (Option.some.inj (Go.Proofs.Tryz.func54.symm.trans hf)) ▸ chk54
  · exact (Option.some.inj (Go.Proofs.Tryz.func55.symm.trans hf)) ▸ chk55
  · exact (Option.some.inj (Go.Proofs.Tryz.func56.symm.trans hf)) ▸ chk56
  · exact (Option.some.inj (Go.Proofs.Tryz.func57.symm.trans hf)) ▸ chk57
  · exact (Option.some.inj (Go.Proofs.Tryz.func58.symm.trans hf)) ▸ chk58
  · exact (Option.some.inj (Go.Proofs.Tryz.func59.symm.trans hf)) ▸ chk59
  · exact (Option.some.inj (Go.Proofs.Tryz.func60.symm.trans hf)) ▸ chk60
  · exact (Option.some.inj (Go.Proofs.Tryz.func61.symm.trans hf)) ▸ chk61
  · exact (Option.some.inj (Go.Proofs.Tryz.func62.symm.trans hf)) ▸ chk62
  · exact (Option.some.inj (Go.Proofs.Tryz.func63.symm.trans hf)) ▸ chk63
theorem chks64 (f : Nat) (fn : Func) (h1 : 64 ≤ f) (h2 : f < 96) (hf : Go.Proofs.Tryz.prog.funcs[f]? = some fn) : fnChk Go.Proofs.Tryz.prog fn = true := by
  have h : f = 64 ∨ f = 65 ∨ f = 66 ∨ f = 67 ∨ f = 68 ∨ f = 69 ∨ f = 70 ∨ f = 71 ∨ f = 72 ∨ f = 73 ∨ f = 74 ∨ f = 75 ∨ f = 76 ∨ f = 77 ∨ f = 78 ∨ f = 79 ∨ f = 80 ∨ f = 81 ∨ f = 82 ∨ f = 83 ∨ f = 84 ∨ f = 85 ∨ f = 86 ∨ f = 87 ∨ f = 88 ∨ f = 89 ∨ f = 90 ∨ f = 91 ∨ f = 92 ∨ f = 93 ∨ f = 94 ∨ f = 95 := by omega
  rcases h with rfl | rfl | rfl | rfl | rfl | rfl | rfl | rfl | rfl | rfl | rfl | rfl | rfl | rfl | rfl | rfl | rfl | rfl | rfl | rfl | rfl | rfl | rfl | rfl | rfl | rfl | rfl | rfl | rfl | rfl | rfl | rfl
  · exact (Option.some.inj (Go.Proofs.Tryz.func64.symm.trans hf)) ▸ chk64
  · exact (Option.some.inj (Go.Proofs.Tryz.func65.symm.trans hf)) ▸ chk65
  · exact (Option.some.inj (Go.Proofs.Tryz.func66.symm.trans hf)) ▸ chk66
  · exact (Option.some.inj (Go.Proofs.Tryz.func67.symm.trans hf)) ▸ chk67
  · exact (Option.some.inj (Go.Proofs.Tryz.func68.symm.trans hf)) ▸ chk68
  · exact (Option.some.inj (Go.Proofs.Tryz.func69.symm.trans hf)) ▸ chk69
  · exact (Option.some.inj (Go.Proofs.Tryz.func70.symm.trans hf)) ▸ chk70
  · exact (Option.some.inj (Go.Proofs.Tryz.func71.symm.trans hf)) ▸ chk71
  · exact (Option.some.inj (Go.Proofs.Tryz.func72.symm.trans hf)) ▸ chk72
  · exact (Option.some.inj (Go.Proofs.Tryz.func73.symm.trans hf)) ▸ chk73
  · exact (Option.some.inj (Go.Proofs.Tryz.func74.symm.trans hf)) ▸ chk74
  · exact (Option.some.inj (Go.Proofs.Tryz.func75.symm.trans hf)) ▸ chk75
  · exact (Option.some.inj (Go.Proofs.Tryz.func76.symm.trans hf)) ▸ chk76
  · exact (Option.some.inj (Go.Proofs.Tryz.func77.symm.trans hf)) ▸ chk77
  · exact (Option.some.inj (Go.Proofs.Tryz.func78.symm.trans hf)) ▸ chk78
  · exact (Option.some.inj (Go.Proofs.Tryz.func79.symm.trans hf)) ▸ chk79
  · exact (Option.some.inj (Go.Proofs.Tryz.func80.symm.trans hf)) ▸ chk80
  · exact (Option.some.inj (Go.Proofs.Tryz.func81.symm.trans hf)) ▸ chk81
  · exact (Option.some.inj (Go.Proofs.Tryz.func82.symm.trans hf)) ▸ chk82
  · exact (Option.some.inj (Go.Proofs.Tryz.func83.symm.trans hf)) ▸ chk83
  · exact (Option.some.inj (Go.Proofs.Tryz.func84.symm.trans hf)) ▸ chk84
  · exact (Option.some.inj (Go.Proofs.Tryz.func85.symm.trans hf)) ▸ chk85
  · exact (Option.some.inj (Go.Proofs.Tryz.func86.symm.trans hf)) ▸ chk86
  · exact (Option.some.inj (Go.Proofs.Tryz.func87.symm.trans hf)) ▸ chk87
  · exact (Option.some.inj (Go.Proofs.Tryz.func88.symm.trans hf)) ▸ chk88
  · exact (Option.some.inj (Go.Proofs.Tryz.func89.symm.trans hf)) ▸ chk89
  · exact (Option.some.inj (Go.Proofs.Tryz.func90.symm.trans hf)) ▸ chk90
  · exact (Option.some.inj (Go.Proofs.Tryz.func91.symm.trans hf)) ▸ chk91
  · exact (Option.some.inj (Go.Proofs.Tryz.func92.symm.trans hf)) ▸ chk92
  · exact (Option.some.inj (Go.Proofs.Tryz.func93.symm.trans hf)) ▸ chk93
  · exact (Option.some.inj (Go.Proofs.Tryz.func94.symm.trans hf)) ▸ chk94
  · exact (Option.some.inj (Go.Proofs.Tryz.func95.symm.trans hf)) ▸ chk95
theorem chks96 (f : Nat) (fn : Func) (h1 : 96 ≤ f) (h2 : f < 128) (hf : Go.Proofs.Tryz.prog.funcs[f]? = some fn) : fnChk Go.Proofs.Tryz.prog fn = true := by
  have h : f = 96 ∨ f = 97 ∨ f = 98 ∨ f = 99 ∨ f = 100 ∨ f = 101 ∨ f = 102 ∨ f = 103 ∨ f = 104 ∨ f = 105 ∨ f = 106 ∨ f = 107 ∨ f = 108 ∨ f = 109 ∨ f = 110 ∨ f = 111 ∨ f = 112 ∨ f = 113 ∨ f = 114 ∨ f = 115 ∨ f = 116 ∨ f = 117 ∨ f = 118 ∨ f = 119 ∨ f = 120 ∨ f = 121 ∨ f = 122 ∨ f = 123 ∨ f = 124 ∨ f = 125 ∨ f = 126 ∨ f = 127 := by omega
  rcases h with rfl | rfl | rfl | rfl | rfl | rfl | rfl | rfl | rfl | rfl | rfl | rfl | rfl | rfl | rfl | rfl | rfl | rfl | rfl | rfl | rfl | rfl | rfl | rfl | rfl | rfl | rfl | rfl | rfl | rfl | rfl | rfl
  · exact (Option.some.inj (Go.Proofs.Tryz.func96.symm.trans hf)) ▸ chk96
  · exact (Option.some.inj (Go.Proofs.Tryz.func97.symm.trans hf)) ▸ chk97
  · exact (Option.some.inj (Go.Proofs.Tryz.func98.symm.trans hf)) ▸ chk98
  · exact (Option.some.inj (Go.Proofs.Tryz.func99.symm.trans hf)) ▸ chk99
  · exact (Option.some.inj (Go.Proofs.Tryz.func100.symm.trans hf)) ▸ chk100
  · exact (Option.some.inj (Go.Proofs.Tryz.func101.symm.trans hf)) ▸ chk101
  · exact (Option.some.inj (Go.Proofs.Tryz.func102.symm.trans hf)) ▸ chk102
  · exact (Option.some.inj (Go.Proofs.Tryz.func103.symm.trans hf)) ▸ chk103
  · exact (Option.some.inj (Go.Proofs.Tryz.func104.symm.trans hf)) ▸ chk104
  · exact (Option.some.inj (Go.Proofs.Tryz.func105.symm.trans hf)) ▸ chk105
  · exact (Option.some.inj (Go.Proofs.Tryz.func106.symm.trans hf)) ▸ chk106
  · exact (Option.some.inj (Go.Proofs.Tryz.func107.symm.trans hf)) ▸ chk107
  · exact (Option.some.inj (Go.Proofs.Tryz.func108.symm.trans hf)) ▸ chk108
  · exact (Option.some.inj (Go.Proofs.Tryz.func109.symm.trans hf)) ▸ chk109
  · exact (Option.some.inj (Go.Proofs.Tryz.func110.symm.trans hf)) ▸ chk110
  · exact (Option.some.inj (Go.Proofs.Tryz.func111.symm.trans hf)) ▸ chk111
  · exact (Option.some.inj (Go.Proofs.Tryz.func112.symm.trans hf)) ▸ chk112
  · exact (Option.some.inj (Go.Proofs.Tryz.func113.symm.trans hf)) ▸ chk113
  · exact (Option.some.inj (Go.Proofs.Tryz.func114.symm.trans hf)) ▸ chk114
  · exact (Option.some.inj (Go.Proofs.Tryz.func115.symm.trans hf)) ▸ chk115
  · exact (Option.some.inj (Go.Proofs.Tryz.func116.symm.trans hf)) ▸ chk116
  · exact (Option.some.inj (Go.Proofs.Tryz.func117.symm.trans hf)) ▸ chk117
  · exact (Option.some.inj (Go.Proofs.Tryz.func118.symm.trans hf)) ▸ chk118
  · exact (Option.some.inj (Go.Proofs.Tryz.func119.symm.trans hf)) ▸ chk119
  · exact (Option.some.inj (Go.Proofs.Tryz.func120.symm.trans hf)) ▸ chk120
  · exact (Option.some.inj (Go.Proofs.Tryz.func121.symm.trans hf)) ▸ chk121
  · exact (Option.some.inj (Go.Proofs.Tryz.func122.symm.trans hf)) ▸ chk122
  · exact (Option.some.inj (Go.Proofs.Tryz.func123.symm.trans hf)) ▸ chk123
  · exact (Option.some.inj (Go.Proofs.Tryz.func124.symm.trans hf)) ▸ chk124
  · exact (Option.some.inj (Go.Proofs.Tryz.func125.symm.trans hf)) ▸ chk125
  · exact (Option.some.inj (Go.Proofs.Tryz.func126.symm.trans hf)) ▸ chk126
  · exact (Option.some.inj (Go.Proofs.Tryz.func127.symm.trans hf)) ▸ chk127
theorem chks128 (f : Nat) (fn : Func) (h1 : 128 ≤ f) (h2 : f < 160) (hf : Go.Proofs.Tryz.prog.funcs[f]? = some fn) : fnChk Go.Proofs.Tryz.prog fn = true := by
  have h : f = 128 ∨ f = 129 ∨ f = 130 ∨ f = 131 ∨ f = 132 ∨ f = 133 ∨ f = 134 ∨ f = 135 ∨ f = 136 ∨ f = 137 ∨ f = 138 ∨ f = 139 ∨ f = 140 ∨ f = 141 ∨ f = 142 ∨ f = 143 ∨ f = 144 ∨ f = 145 ∨ f = 146 ∨ f = 147 ∨ f = 148 ∨ f = 149 ∨ f = 150 ∨ f = 151 ∨ f = 152 ∨ f = 153 ∨ f = 154 ∨ f = 155 ∨ f = 156 ∨ f = 157 ∨ f = 158 ∨ f = 159 := by omega
  rcases h with rfl | rfl | rfl | rfl | rfl | rfl | rfl | rfl | rfl | rfl | rfl | rfl | rfl | rfl | rfl | rfl | rfl | rfl | rfl | rfl | rfl | rfl | rfl | rfl | rfl | rfl | rfl | rfl | rfl | rfl | rfl | rfl
  · exact (Option.some.inj (Go.Proofs.Tryz.func128.symm.trans hf)) ▸ chk128
  · exact (Option.some.inj (Go.Proofs.Tryz.func129.symm.trans hf)) ▸ chk129
  · exact (Option.some.inj (Go.Proofs.Tryz.func130.symm.trans hf)) ▸ chk130
  · exact (Option.some.inj (Go.Proofs.Tryz.func131.symm.trans hf)) ▸ chk131
  · exact (Option.some.inj (Go.Proofs.Tryz.func132.symm.trans hf)) ▸ chk132
  · exact (Option.some.inj (Go.Proofs.Tryz.func133.symm.trans hf)) ▸ chk133
  · exact (Option.some.inj (Go.Proofs.Tryz.func134.symm.trans hf)) ▸ chk134
  · exact (Option.some.inj (Go.Proofs.Tryz.func135.symm.trans hf)) ▸ chk135
  · exact (Option.some.inj (Go.Proofs.Tryz.func136.symm.trans hf)) ▸ chk136
  · exact (Option.some.inj (Go.Proofs.Tryz.func137.symm.trans hf)) ▸ chk137
  · exact (Option.some.inj (Go.Proofs.Tryz.func138.symm.trans hf)) ▸ chk138
  · exact (Option.some.inj (Go.Proofs.Tryz.func139.symm.trans hf)) ▸ chk139
  · exact (Option.some.inj (Go.Proofs.Tryz.func140.symm.trans hf)) ▸ chk140
  · exact (Option.some.inj (Go.Proofs.Tryz.func141.symm.trans hf)) ▸ chk141
  · exact (Option.some.inj (Go.Proofs.Tryz.func142.symm.trans hf)) ▸ chk142
  · exact (Option.some.inj (Go.Proofs.Tryz.func143.symm.trans hf)) ▸ chk143
  · exact (Option.some.inj (Go.Proofs.Tryz.func144.symm.trans hf)) ▸ chk144
  · exact (Option.some.inj (Go.Proofs.Tryz.func145.symm.trans hf)) ▸ chk145
  · exact (Option.some.inj (Go.Proofs.Tryz.func146.symm.trans hf)) ▸ chk146
  · exact (Option.some.inj (Go.Proofs.Tryz.func147.symm.trans hf)) ▸ chk147
  · exact (Option.some.inj (Go.Proofs.Tryz.func148.symm.trans hf)) ▸ chk148
  · exact (Option.some.inj (Go.Proofs.Tryz.func149.symm.trans hf)) ▸ chk149
  · exact (Option.some.inj (Go.Proofs.Tryz.func150.symm.trans hf)) ▸ chk150
  · exact (Option.some.inj (Go.Proofs.Tryz.func151.symm.trans hf)) ▸ chk151
  · exact (Option.some.inj (Go.Proofs.Tryz.func152.symm.trans hf)) ▸ chk152
  · exact (Option.some.inj (Go.Proofs.Tryz.func153.symm.trans hf)) ▸ chk153
  · exact (Option.some.inj (Go.Proofs.Tryz.func154.symm.trans hf)) ▸ chk154
  · exact (Option.some.inj (Go.Proofs.Tryz.func155.symm.trans hf)) ▸ chk155
  · exact (Option.some.inj (Go.Proofs.Tryz.func156.symm.trans hf)) ▸ chk156
  · exact (Option.some.inj (Go.Proofs.Tryz.func157.symm.trans hf)) ▸ chk157
  · exact (Option.some.inj (Go.Proofs.Tryz.func158.symm.trans hf)) ▸ chk158
  · exact (Option.some.inj (Go.Proofs.Tryz.func159.symm.trans hf)) ▸ chk159
theorem chks160 (f : Nat) (fn : Func) (h1 : 160 ≤ f) (h2 : f < 192) (hf : Go.Proofs.Tryz.prog.funcs[f]? = some fn) : fnChk Go.Proofs.Tryz.prog fn = true := by
  have h : f = 160 ∨ f = 161 ∨ f = 162 ∨ f = 163 ∨ f = 164 ∨ f = 165 ∨ f = 166 ∨ f = 167 ∨ f = 168 ∨ f = 169 ∨ f = 170 ∨ f = 171 ∨ f = 172 ∨ f = 173 ∨ f = 174 ∨ f = 175 ∨ f = 176 ∨ f = 177 ∨ f = 178 ∨ f = 179 ∨ f = 180 ∨ f = 181 ∨ f = 182 ∨ f = 183 ∨ f = 184 ∨ f = 185 ∨ f = 186 ∨ f = 187 ∨ f = 188 ∨ f = 189 ∨ f = 190 ∨ f = 191 := by omega
  rcases h with rfl | rfl | rfl | rfl | rfl | rfl | rfl | rfl | rfl | rfl | rfl | rfl | rfl | rfl | rfl | rfl | rfl | rfl | rfl | rfl | rfl | rfl | rfl | rfl | rfl | rfl | rfl | rfl | rfl | rfl | rfl | rfl
  · exact (Option.some.inj (Go.Proofs.Tryz.func160.symm.trans hf)) ▸ chk160
  · exact (Option.some.inj (Go.Proofs.Tryz.func161.symm.trans hf)) ▸ chk161
  · exact (Option.some.inj (Go.Proofs.Tryz.func162.symm.trans hf)) ▸ chk162
  · exact (Option.some.inj (Go.Proofs.Tryz.func163.symm.trans hf)) ▸ chk163
  · exact (Option.some.inj (Go.Proofs.Tryz.func164.symm.trans hf)) ▸ chk164
  · exact (Option.some.inj (Go.Proofs.Tryz.func165.symm.trans hf)) ▸ chk165
  · exact (Option.some.inj (Go.Proofs.Tryz.func166.symm.trans hf)) ▸ chk166
  · exact (Option.some.inj (Go.Proofs.Tryz.func167.symm.trans hf)) ▸ chk167
  · exact (Option.some.inj (Go.Proofs.Tryz.func168.symm.trans hf)) ▸ chk168
  · exact (Option.some.inj (Go.Proofs.Tryz.func169.symm.trans hf)) ▸ chk169
  · exact (Option.some.inj (Go.Proofs.Tryz.func170.symm.trans hf)) ▸ chk170
  · exact (Option.some.inj (Go.Proofs.Tryz.func171.symm.trans hf)) ▸ chk171
  · exact (Option.some.inj (Go.Proofs.Tryz.func172.symm.trans hf)) ▸ chk172
  · exact (Option.some.inj (Go.Proofs.Tryz.func173.symm.trans hf)) ▸ chk173
  · exact (Option.some.inj (Go.Proofs.Tryz.func174.symm.trans hf)) ▸ chk174
  · exact (Option.some.inj (Go.Proofs.Tryz.func175.symm.trans hf)) ▸ chk175
  · exact (Option.some.inj (Go.Proofs.Tryz.func176.symm.trans hf)) ▸ chk176
  · exact (Option.some.inj (Go.Proofs.Tryz.func177.symm.trans hf)) ▸ chk177
  · exact (Option.some.inj (Go.Proofs.Tryz.func178.symm.trans hf)) ▸ chk178
  · exact (Option.some.inj (Go.Proofs.Tryz.func179.symm.trans hf)) ▸ chk179
  · exact (Option.some.inj (Go.Proofs.Tryz.func180.symm.trans hf)) ▸ chk180
  · exact (Option.some.inj (Go.Proofs.Tryz.func181.symm.trans hf)) ▸ chk181
  · exact (Option.some.inj (Go.Proofs.Tryz.func182.symm.trans hf)) ▸ chk182
  · exact (Option.some.inj (Go.Proofs.Tryz.func183.symm.trans hf)) ▸ chk183
  · exact (Option.some.inj (Go.Proofs.Tryz.func184.symm.trans hf)) ▸ chk184
  · exact (Option.some.inj (Go.Proofs.Tryz.func185.symm.trans hf)) ▸ chk185
  · exact (Option.some.inj (Go.Proofs.Tryz.func186.symm.trans hf)) ▸ chk186
  · exact (Option.some.inj (Go.Proofs.Tryz.func187.symm.trans hf)) ▸ chk187
  · exact (Option.some.inj (Go.Proofs.Tryz.func188.symm.trans hf)) ▸ chk188
  · exact (Option.some.inj (Go.Proofs.Tryz.func189.symm.trans hf)) ▸ chk189
  · exact (Option.some.inj (Go.Proofs.Tryz.func190.symm.trans hf)) ▸ chk190
  · exact (Option.some.inj (Go.Proofs.Tryz.func191.symm.trans hf)) ▸ chk191
theorem chks192 (f : Nat) (fn : Func) (h1 : 192 ≤ f) (h2 : f < 224) (hf : Go.Proofs.Tryz.prog.funcs[f]? = some fn) : fnChk Go.Proofs.Tryz.prog fn = true := by
  have h : f = 192 ∨ f = 193 ∨ f = 194 ∨ f = 195 ∨ f = 196 ∨ f = 197 ∨ f = 198 ∨ f = 199 ∨ f = 200 ∨ f = 201 ∨ f = 202 ∨ f = 203 ∨ f = 204 ∨ f = 205 ∨ f = 206 ∨ f = 207 ∨ f = 208 ∨ f = 209 ∨ f = 210 ∨ f = 211 ∨ f = 212 ∨ f = 213 ∨ f = 214 ∨ f = 215 ∨ f = 216 ∨ f = 217 ∨ f = 218 ∨ f = 219 ∨ f = 220 ∨ f = 221 ∨ f = 222 ∨ f = 223 := by omega
  rcases h with rfl | rfl | rfl | rfl | rfl | rfl | rfl | rfl | rfl | rfl | rfl | rfl | rfl | rfl | rfl | rfl | rfl | rfl | rfl | rfl | rfl | rfl | rfl | rfl | rfl | rfl | rfl | rfl | rfl | rfl | rfl | rfl
  · exact (Option.some.inj (Go.Proofs.Tryz.func192.symm.trans hf)) ▸ chk192
  · exact (Option.some.inj (Go.Proofs.Tryz.func193.symm.trans hf)) ▸ chk193
  · exact (Option.some.inj (Go.Proofs.Tryz.func194.symm.trans hf)) ▸ chk194
  · exact (Option.some.inj (Go.Proofs.Tryz.func195.symm.trans hf)) ▸ chk195
  · exact (Option.some.inj (Go.Proofs.Tryz.func196.symm.trans hf)) ▸ chk196
  · exact (Option.some.inj (Go.Proofs.Tryz.func197.symm.trans hf)) ▸ chk197
  · exact (Option.some.inj (Go.Proofs.Tryz.func198.symm.trans hf)) ▸ chk198
  · exact (Option.some.inj (Go.Proofs.Tryz.func199.symm.trans hf)) ▸ chk199
  · exact (Option.some.inj (Go.Proofs.Tryz.func200.symm.trans hf)) ▸ chk200
  · exact (Option.some.inj (Go.Proofs.Tryz.func201.symm.trans hf)) ▸ chk201
  · exact (Option.some.inj (Go.Proofs.Tryz.func202.symm.trans hf)) ▸ chk202
  · exact (Option.some.inj (Go.Proofs.Tryz.func203.symm.trans hf)) ▸ chk203
  · exact (Option.some.inj (Go.Proofs.Tryz.func204.symm.trans hf)) ▸ chk204
  · exact (Option.some.inj (Go.Proofs.Tryz.func205.symm.trans hf)) ▸ chk205
  · exact (Option.some.inj (Go.Proofs.Tryz.func206.symm.trans hf)) ▸ chk206
  · exact (Option.some.inj (Go.Proofs.Tryz.func207.symm.trans hf)) ▸ chk207
  · exact (Option.some.inj (Go.Proofs.Tryz.func208.symm.trans hf)) ▸ chk208
  · exact (Option.some.inj (Go.Proofs.Tryz.func209.symm.trans hf)) ▸ chk209
  · exact (Option.some.inj (Go.Proofs.Tryz.func210.symm.trans hf)) ▸ chk210
  · exact (Option.some.inj (Go.Proofs.Tryz.func211.symm.trans hf)) ▸ chk211
  · exact (Option.some.inj (Go.Proofs.Tryz.func212.symm.trans hf)) ▸ chk212
  · exact (Option.some.inj (Go.Proofs.Tryz.func213.symm.trans hf)) ▸ chk213
  · exact (Option.some.inj (Go.Proofs.Tryz.func214.symm.trans hf)) ▸ chk214
  · exact (Option.some.inj (Go.Proofs.Tryz.func215.symm.trans hf)) ▸ chk215
  · exact (Option.some.inj (Go.Proofs.Tryz.func216.symm.trans hf)) ▸ chk216
  · exact (Option.some.inj (Go.Proofs.Tryz.func217.symm.trans hf)) ▸ chk217
  · exact (Option.some.inj (Go.Proofs.Tryz.func218.symm.trans hf)) ▸ chk218
  · exact (Option.some.inj (Go.Proofs.Tryz.func219.symm.trans hf)) ▸ chk219
  · exact (Option.some.inj (Go.Proofs.Tryz.func220.symm.trans hf)) ▸ chk220
  · exact (Option.some.inj (Go.Proofs.Tryz.func221.symm.trans hf)) ▸ chk221
  · exact (Option.some.inj (Go.Proofs.Tryz.func222.symm.trans hf)) ▸ chk222
  · exact (Option.some.inj (Go.Proofs.Tryz.func223.symm.trans hf)) ▸ chk223
theorem chks224 (f : Nat) (fn : Func) (h1 : 224 ≤ f) (h2 : f < 256) (hf : Go.Proofs.Tryz.prog.funcs[f]? = some fn) : fnChk Go.Proofs.Tryz.prog fn = true := by
  have h : f = 224 ∨ f = 225 ∨ f = 226 ∨ f = 227 ∨ f = 228 ∨ f = 229 ∨ f = 230 ∨ f = 231 ∨ f = 232 ∨ f = 233 ∨ f = 234 ∨ f = 235 ∨ f = 236 ∨ f = 237 ∨ f = 238 ∨ f = 239 ∨ f = 240 ∨ f = 241 ∨ f = 242 ∨ f = 243 ∨ f = 244 ∨ f = 245 ∨ f = 246 ∨ f = 247 ∨ f = 248 ∨ f = 249 ∨ f = 250 ∨ f = 251 ∨ f = 252 ∨ f = 253 ∨ f = 254 ∨ f = 255 := by omega
  rcases h with rfl | rfl | rfl | rfl | rfl | rfl | rfl | rfl | rfl | rfl | rfl | rfl | rfl | rfl | rfl | rfl | rfl | rfl | rfl | rfl | rfl | rfl | rfl | rfl | rfl | rfl | rfl | rfl | rfl | rfl | rfl | rfl
  · exact (Option.some.inj (Go.Proofs.Tryz.func224.symm.trans hf)) ▸ chk224
  · exact (Option.some.inj (Go.Proofs.Tryz.func225.symm.trans hf)) ▸ chk225
  · exact (Option.some.inj (Go.Proofs.Tryz.func226.symm.trans hf)) ▸ chk226
  · exact (Option.some.inj (Go.Proofs.Tryz.func227.symm.trans hf)) ▸ chk227
  · exact (Option.some.inj (Go.Proofs.Tryz.func228.symm.trans hf)) ▸ chk228
  · exact (Option.some.inj (Go.Proofs.Tryz.func229.symm.trans hf)) ▸ chk229
  · exact (Option.some.inj (Go.Proofs.Tryz.func230.symm.trans hf)) ▸ chk230
  · exact (Option.some.inj (Go.Proofs.Tryz.func231.symm.trans hf)) ▸ chk231
  · exact (Option.some.inj (Go.Proofs.Tryz.func232.symm.trans hf)) ▸ chk232
  · exact (Option.some.inj (Go.Proofs.Tryz.func233.symm.trans hf)) ▸ chk233
  · exact (Option.some.inj (Go.Proofs.Tryz.func234.symm.trans hf)) ▸ chk234
  · exact (Option.some.inj (Go.Proofs.Tryz.func235.symm.trans hf)) ▸ chk235
  · exact (Option.some.inj (Go.Proofs.Tryz.func236.symm.trans hf)) ▸ chk236
  · exact (Option.some.inj (Go.Proofs.Tryz.func237.symm.trans hf)) ▸ chk237
  · exact (Option.some.inj (Go.Proofs.Tryz.func238.symm.trans hf)) ▸ chk238
  · exact (Option.some.inj (Go.Proofs.Tryz.func239.symm.trans hf)) ▸ chk239
  · exact (Option.some.inj (Go.Proofs.Tryz.func240.symm.trans hf)) ▸ chk240
  · exact (Option.some.inj (Go.Proofs.Tryz.func241.symm.trans hf)) ▸ chk241
  · exact (Option.some.inj (Go.Proofs.Tryz.func242.symm.trans hf)) ▸ chk242
  · exact (Option.some.inj (Go.Proofs.Tryz.func243.symm.trans hf)) ▸ chk243
  · exact (Option.some.inj (Go.Proofs.Tryz.func244.symm.trans hf)) ▸ chk244
  · exact (Option.some.inj (Go.Proofs.Tryz.func245.symm.trans hf)) ▸ chk245
  · exact (Option.some.inj (Go.Proofs.Tryz.func246.symm.trans hf)) ▸ chk246
  · exact (Option.some.inj (Go.Proofs.Tryz.func247.symm.trans hf)) ▸ chk247
  · exact (Option.some.inj (Go.Proofs.Tryz.func248.symm.trans hf)) ▸ chk248
  · exact (Option.some.inj (Go.Proofs.Tryz.func249.symm.trans hf)) ▸ chk249
  · exact (Option.some.inj (Go.Proofs.Tryz.func250.symm.trans hf)) ▸ chk250
  · exact (Option.some.inj (Go.Proofs.Tryz.func251.symm.trans hf)) ▸ chk251
  · exact (Option.some.inj (Go.Proofs.Tryz.func252.symm.trans hf)) ▸ chk252
  · exact (Option.some.inj (Go.Proofs.Tryz.func253.symm.trans hf)) ▸ chk253
  · exact (Option.some.inj (Go.Proofs.Tryz.func254.symm.trans hf)) ▸ chk254
  · exact (Option.some.inj (Go.Proofs.Tryz.func255.symm.trans hf)) ▸ chk255
theorem chks256 (f : Nat) (fn : Func) (h1 : 256 ≤ f) (h2 : f < 288) (hf : Go.Proofs.Tryz.prog.funcs[f]? = some fn) : fnChk Go.Proofs.Tryz.prog fn = true := by
  have h : f = 256 ∨ f = 257 ∨ f = 258 ∨ f = 259 ∨ f = 260 ∨ f = 261 ∨ f = 262 ∨ f = 263 ∨ f = 264 ∨ f = 265 ∨ f = 266 ∨ f = 267 ∨ f = 268 ∨ f = 269 ∨ f = 270 ∨ f = 271 ∨ f = 272 ∨ f = 273 ∨ f = 274 ∨ f = 275 ∨ f = 276 ∨ f = 277 ∨ f = 278 ∨ f = 279 ∨ f = 280 ∨ f = 281 ∨ f = 282 ∨ f = 283 ∨ f = 284 ∨ f = 285 ∨ f = 286 ∨ f = 287 := by omega
  rcases h with rfl | rfl | rfl | rfl | rfl | rfl | rfl | rfl | rfl | rfl | rfl | rfl | rfl | rfl | rfl | rfl | rfl | rfl | rfl | rfl | rfl | rfl | rfl | rfl | rfl | rfl | rfl | rfl | rfl | rfl | rfl | rfl
  · exact (Option.some.inj (Go.Proofs.Tryz.func256.symm.trans hf)) ▸ chk256
  · exact (Option.some.inj (Go.Proofs.Tryz.func257.symm.trans hf)) ▸ chk257
  · exact (Option.some.inj (Go.Proofs.Tryz.func258.symm.trans hf)) ▸ chk258
  · exact (Option.some.inj (Go.Proofs.Tryz.func259.symm.trans hf)) ▸ chk259
  · exact (Option.some.inj (Go.Proofs.Tryz.func260.symm.trans hf)) ▸ chk260
  · exact (Option.some.inj (Go.Proofs.Tryz.func261.symm.trans hf)) ▸ chk261
  · exact (Option.some.inj (Go.Proofs.Tryz.func262.symm.trans hf)) ▸ chk262
  · exact (Option.some.inj (Go.Proofs.Tryz.func263.symm.trans hf)) ▸ chk263
  · exact (Option.some.inj (Go.Proofs.Tryz.func264.symm.trans hf)) ▸ chk264
  · exact (Option.some.inj (Go.Proofs.Tryz.func265.symm.trans hf)) ▸ chk265
  · exact (Option.some.inj (Go.Proofs.Tryz.func266.symm.trans hf)) ▸ chk266
  · exact (Option.some.inj (Go.Proofs.Tryz.func267.symm.trans hf)) ▸ chk267
  · exact (Option.some.inj (Go.Proofs.Tryz.func268.symm.trans hf)) ▸ chk268
  · exact (Option.some.inj (Go.Proofs.Tryz.func269.symm.trans hf)) ▸ chk269
  · exact (Option.some.inj (Go.Proofs.Tryz.func270.symm.trans hf)) ▸ chk270
  · exact (Option.some.inj (Go.Proofs.Tryz.func271.symm.trans hf)) ▸ chk271
  · exact (Option.some.inj (Go.Proofs.Tryz.func272.symm.trans hf)) ▸ chk272
  · exact (Option.some.inj (Go.Proofs.Tryz.func273.symm.trans hf)) ▸ chk273
  · exact (Option.some.inj (Go.Proofs.Tryz.func274.symm.trans hf)) ▸ chk274
  · exact (Option.some.inj (Go.Proofs.Tryz.func275.symm.trans hf)) ▸ chk275
  · exact (Option.some.inj (Go.Proofs.Tryz.func276.symm.trans hf)) ▸ chk276
  · exact (Option.some.inj (Go.Proofs.Tryz.func277.symm.trans hf)) ▸ chk277
  · exact (Option.some.inj (Go.Proofs.Tryz.func278.symm.trans hf)) ▸ chk278
  · exact (Option.some.inj (Go.Proofs.Tryz.func279.symm.trans hf)) ▸ chk279
  · exact (Option.some.inj (Go.Proofs.Tryz.func280.symm.trans hf)) ▸ chk280
  · exact (Option.some.inj (Go.Proofs.Tryz.func281.symm.trans hf)) ▸ chk281
  · exact (Option.some.inj (Go.Proofs.Tryz.func282.symm.trans hf)) ▸ chk282
  · exact (Option.some.inj (Go.Proofs.Tryz.func283.symm.trans hf)) ▸ chk283
  · exact (Option.some.inj (Go.Proofs.Tryz.func284.symm.trans hf)) ▸ chk284
  · exact (Option.some.inj (Go.Proofs.Tryz.func285.symm.trans hf)) ▸ chk285
  · exact (Option.some.inj (Go.Proofs.Tryz.func286.symm.trans hf)) ▸ chk286
  · exact (Option.some.inj (Go.Proofs.Tryz.func287.symm.trans hf)) ▸ chk287
theorem chks288 (f : Nat) (fn : Func) (h1 : 288 ≤ f) (h2 : f < 320) (hf : Go.Proofs.Tryz.prog.funcs[f]? = some fn) : fnChk Go.Proofs.Tryz.prog fn = true := by
  have h : f = 288 ∨ f = 289 ∨ f = 290 ∨ f = 291 ∨ f = 292 ∨ f = 293 ∨ f = 294 ∨ f = 295 ∨ f = 296 ∨ f = 297 ∨ f = 298 ∨ f = 299 ∨ f = 300 ∨ f = 301 ∨ f = 302 ∨ f = 303 ∨ f = 304 ∨ f = 305 ∨ f = 306 ∨ f = 307 ∨ f = 308 ∨ f = 309 ∨ f = 310 ∨ f = 311 ∨ f = 312 ∨ f = 313 ∨ f = 314 ∨ f = 315 ∨ f = 316 ∨ f = 317 ∨ f = 318 ∨ f = 319 := by omega
  rcases h with rfl | rfl | rfl | rfl | rfl | rfl | rfl | rfl | rfl | rfl | rfl | rfl | rfl | rfl | rfl | rfl | rfl | rfl | rfl | rfl | rfl | rfl | rfl | rfl | rfl | rfl | rfl | rfl | rfl | rfl | rfl | rfl
  · exact (Option.some.inj (Go.Proofs.Tryz.func288.symm.trans hf)) ▸ chk288
  · exact (Option.some.inj (Go.Proofs.Tryz.func289.symm.trans hf)) ▸ chk289
  · exact (Option.some.inj (Go.Proofs.Tryz.func290.symm.trans hf)) ▸ chk290
  · exact (Option.some.inj (Go.Proofs.Tryz.func291.symm.trans hf)) ▸ chk291
  · exact (Option.some.inj (Go.Proofs.Tryz.func292.symm.trans hf)) ▸ chk292
  · exact (Option.some.inj (Go.Proofs.Tryz.func293.symm.trans hf)) ▸ chk293
  · exact (Option.some.inj (Go.Proofs.Tryz.func294.symm.trans hf)) ▸ chk294
  · exact (Option.some.inj (Go.Proofs.Tryz.func295.symm.trans hf)) ▸ chk295
  · exact (Option.some.inj (Go.Proofs.Tryz.func296.symm.trans hf)) ▸ chk296
  · exact (Option.some.inj (Go.Proofs.Tryz.func297.symm.trans hf)) ▸ chk297
  · exact (Option.some.inj (Go.Proofs.Tryz.func298.symm.trans hf)) ▸ chk298
  · exact (Option.some.inj (Go.Proofs.Tryz.func299.symm.trans hf)) ▸ chk299
  · exact (Option.some.inj (Go.Proofs.Tryz.func300.symm.trans hf)) ▸ chk300
  · exact (Option.some.inj (Go.Proofs.Tryz.func301.symm.trans hf)) ▸ chk301
  · exact (Option.some.inj (Go.Proofs.Tryz.func302.symm.trans hf)) ▸ chk302
  · exact (Option.some.inj (Go.Proofs.Tryz.func303.symm.trans hf)) ▸ chk303
  · exact (Option.some.inj (Go.Proofs.Tryz.func304.symm.trans hf)) ▸ chk304
  · exact (Option.some.inj (Go.Proofs.Tryz.func305.symm.trans hf)) ▸ chk305
  · exact (Option.some.inj (Go.Proofs.Tryz.func306.symm.trans hf)) ▸ chk306
  · exact (Option.some.inj (Go.Proofs.Tryz.func307.symm.trans hf)) ▸ chk307
  · exact (Option.some.inj (Go.Proofs.Tryz.func308.symm.trans hf)) ▸ chk308
  · exact (Option.some.inj (Go.Proofs.Tryz.func309.symm.trans hf)) ▸ chk309
  · exact (Option.some.inj (Go.Proofs.Tryz.func310.symm.trans hf)) ▸ chk310
  · exact (Option.some.inj (Go.Proofs.Tryz.func311.symm.trans hf)) ▸ chk311
  · exact (Option.some.inj (Go.Proofs.Tryz.func312.symm.trans hf)) ▸ chk312
  · exact (Option.some.inj (Go.Proofs.Tryz.func313.symm.trans hf)) ▸ chk313
  · exact (Option.some.inj (Go.Proofs.Tryz.func314.symm.trans hf)) ▸ chk314
  · exact (Option.some.inj (Go.Proofs.Tryz.func315.symm.trans hf)) ▸ chk315
  · exact (Option.some.inj (Go.Proofs.Tryz.func316.symm.trans hf)) ▸ chk316
  · exact (Option.some.inj (Go.Proofs.Tryz.func317.symm.trans hf)) ▸ chk317
  · exact (Option.some.inj (Go.Proofs.Tryz.func318.symm.trans hf)) ▸ chk318
  · exact (Option.some.inj (Go.Proofs.Tryz.func319.symm.trans hf)) ▸ chk319
theorem chks320 (f : Nat) (fn : Func) (h1 : 320 ≤ f) (h2 : f < 352) (hf : Go.Proofs.Tryz.prog.funcs[f]? = some fn) : fnChk Go.Proofs.Tryz.prog fn = true := by
  have h : f = 320 ∨ f = 321 ∨ f = 322 ∨ f = 323 ∨ f = 324 ∨ f = 325 ∨ f = 326 ∨ f = 327 ∨ f = 328 ∨ f = 329 ∨ f = 330 ∨ f = 331 ∨ f = 332 ∨ f = 333 ∨ f = 334 ∨ f = 335 ∨ f = 336 ∨ f = 337 ∨ f = 338 ∨ f = 339 ∨ f = 340 ∨ f = 341 ∨ f = 342 ∨ f = 343 ∨ f = 344 ∨ f = 345 ∨ f = 346 ∨ f = 347 ∨ f = 348 ∨ f = 349 ∨ f = 350 ∨ f = 351 := by omega
  rcases h with rfl | rfl | rfl | rfl | rfl | rfl | rfl | rfl | rfl | rfl | rfl | rfl | rfl | rfl | rfl | rfl | rfl | rfl | rfl | rfl | rfl | rfl | rfl | rfl | rfl | rfl | rfl | rfl | rfl | rfl | rfl | rfl
  · exact (Option.some.inj (Go.Proofs.Tryz.func320.symm.trans hf)) ▸ chk320
  · exact (Option.some.inj (Go.Proofs.Tryz.func321.symm.trans hf)) ▸ chk321
  · exact (Option.some.inj (Go.Proofs.Tryz.func322.symm.trans hf)) ▸ chk322
  · exact (Option.some.inj (Go.Proofs.Tryz.func323.symm.trans hf)) ▸ chk323
  · exact (Option.some.inj (Go.Proofs.Tryz.func324.symm.trans hf)) ▸ chk324
  · exact (Option.some.inj (Go.Proofs.Tryz.func325.symm.trans hf)) ▸ chk325
  · exact (Option.some.inj (Go.Proofs.Tryz.func326.symm.trans hf)) ▸ chk326
  · exact (Option.some.inj (Go.Proofs.Tryz.func327.symm.trans hf)) ▸ chk327
  · exact (Option.some.inj (Go.Proofs.Tryz.func328.symm.trans hf)) ▸ chk328
  · exact (Option.some.inj (Go.Proofs.Tryz.func329.symm.trans hf)) ▸ chk329
  · exact (Option.some.inj (Go.Proofs.Tryz.func330.symm.trans hf)) ▸ chk330
  · exact (Option.some.inj (Go.Proofs.Tryz.func331.symm.trans hf)) ▸ chk331
  · exact (Option.some.inj (Go.Proofs.Tryz.func332.symm.trans hf)) ▸ chk332
  · exact (Option.some.inj (Go.Proofs.Tryz.func333.symm.trans hf)) ▸ chk333
  · exact (Option.some.inj (Go.Proofs.Tryz.func334.symm.trans hf)) ▸ chk334
  · exact (Option.some.inj (Go.Proofs.Tryz.func335.symm.trans hf)) ▸ chk335
  · exact (Option.some.inj (Go.Proofs.Tryz.func336.symm.trans hf)) ▸ chk336
  · exact (Option.some.inj (Go.Proofs.Tryz.func337.symm.trans hf)) ▸ chk337
  · exact (Option.some.inj (Go.Proofs.Tryz.func338.symm.trans hf)) ▸ chk338
  · exact (Option.some.inj (Go.Proofs.Tryz.func339.symm.trans hf)) ▸ chk339
  · exact (Option.some.inj (Go.Proofs.Tryz.func340.symm.trans hf)) ▸ chk340
  · exact (Option.some.inj (Go.Proofs.Tryz.func341.symm.trans hf)) ▸ chk341
  · exact (Option.some.inj (Go.Proofs.Tryz.func342.symm.trans hf)) ▸ chk342
  · exact (Option.some.inj (Go.Proofs.Tryz.func343.symm.trans hf)) ▸ chk343
  · exact (Option.some.inj (Go.Proofs.Tryz.func344.symm.trans hf)) ▸ chk344
  · exact (Option.some.inj (Go.Proofs.Tryz.func345.symm.trans hf)) ▸ chk345
  · exact (Option.some.inj (Go.Proofs.Tryz.func346.symm.trans hf)) ▸ chk346
  · exact (Option.some.inj (Go.Proofs.Tryz.func347.symm.trans hf)) ▸ chk347
  · exact (Option.some.inj (Go.Proofs.Tryz.func348.symm.trans hf)) ▸ chk348
  · exact (Option.some.inj (Go.Proofs.Tryz.func349.symm.trans hf)) ▸ chk349
  · exact (Option.some.inj (Go.Proofs.Tryz.func350.symm.trans hf)) ▸ chk350
  · exact (Option.some.inj (Go.Proofs.Tryz.func351.symm.trans hf)) ▸ chk351
theorem chks352 (f : Nat) (fn : Func) (h1 : 352 ≤ f) (h2 : f < 384) (hf : Go.Proofs.Tryz.prog.funcs[f]? = some fn) : fnChk Go.Proofs.Tryz.prog fn = true := by
  have h : f = 352 ∨ f = 353 ∨ f = 354 ∨ f = 355 ∨ f = 356 ∨ f = 357 ∨ f = 358 ∨ f = 359 ∨ f = 360 ∨ f = 361 ∨ f = 362 ∨ f = 363 ∨ f = 364 ∨ f = 365 ∨ f = 366 ∨ f = 367 ∨ f = 368 ∨ f = 369 ∨ f = 370 ∨ f = 371 ∨ f = 372 ∨ f = 373 ∨ f = 374 ∨ f = 375 ∨ f = 376 ∨ f = 377 ∨ f = 378 ∨ f = 379 ∨ f = 380 ∨ f = 381 ∨ f = 382 ∨ f = 383 := by omega
  rcases h with rfl | rfl | rfl | rfl | rfl | rfl | rfl | rfl | rfl | rfl | rfl | rfl | rfl | rfl | rfl | rfl | rfl | rfl | rfl | rfl | rfl | rfl | rfl | rfl | rfl | rfl | rfl | rfl | rfl | rfl | rfl | rfl
  · exact (Option.some.inj (Go.Proofs.Tryz.func352.symm.trans hf)) ▸ chk352
  · exact (Option.some.inj (Go.Proofs.Tryz.func353.symm.trans hf)) ▸ chk353
  · exact (Option.some.inj (Go.Proofs.Tryz.func354.symm.trans hf)) ▸ chk354
  · exact (Option.some.inj (Go.Proofs.Tryz.func355.symm.trans hf)) ▸ chk355
  · exact (Option.some.inj (Go.Proofs.Tryz.func356.symm.trans hf)) ▸ chk356
  · exact (Option.some.inj (Go.Proofs.Tryz.func357.symm.trans hf)) ▸ chk357
  · exact (Option.some.inj (Go.Proofs.Tryz.func358.symm.trans hf)) ▸ chk358
  · exact (Option.some.inj (Go.Proofs.Tryz.func359.symm.trans hf)) ▸ chk359
  · exact (Option.some.inj (Go.Proofs.Tryz.func360.symm.trans hf)) ▸ chk360
  · exact (Option.some.inj (Go.Proofs.Tryz.func361.symm.trans hf)) ▸ chk361
  · exact (Option.some.inj (Go.Proofs.Tryz.func362.symm.trans hf)) ▸ chk362
  · exact (Option.some.inj (Go.Proofs.Tryz.func363.symm.trans hf)) ▸ chk363
  · exact (Option.some.inj (Go.Proofs.Tryz.func364.symm.trans hf)) ▸ chk364
  · exact (Option.some.inj (Go.Proofs.Tryz.func365.symm.trans hf)) ▸ chk365
  · exact (Option.some.inj (Go.Proofs.Tryz.func366.symm.trans hf)) ▸ chk366
  · exact (Option.some.inj (Go.Proofs.Tryz.func367.symm.trans hf)) ▸ chk367
  · exact (Option.some.inj (Go.Proofs.Tryz.func368.symm.trans hf)) ▸ chk368
  · exact (Option.some.inj (Go.Proofs.Tryz.func369.symm.trans hf)) ▸ chk369
  · exact (Option.some.inj (Go.Proofs.Tryz.func370.symm.trans hf)) ▸ chk370
  · exact (Option.some.inj (Go.Proofs.Tryz.func371.symm.trans hf)) ▸ chk371
  · exact (Option.some.inj (Go.Proofs.Tryz.func372.symm.trans hf)) ▸ chk372
  · exact (Option.some.inj (Go.Proofs.Tryz.func373.symm.trans hf)) ▸ chk373
  · exact (Option.some.inj (Go.Proofs.Tryz.func374.symm.trans hf)) ▸ chk374
  · exact (Option.some.inj (Go.Proofs.Tryz.func375.symm.trans hf)) ▸ chk375
  · exact (Option.some.inj (Go.Proofs.Tryz.func376.symm.trans hf)) ▸ chk376
  · exact (Option.some.inj (Go.Proofs.Tryz.func377.symm.trans hf)) ▸ chk377
  · exact (Option.some.inj (Go.Proofs.Tryz.func378.symm.trans hf)) ▸ chk378
  · exact (Option.some.inj (Go.Proofs.Tryz.func379.symm.trans hf)) ▸ chk379
  · exact (Option.some.inj (Go.Proofs.Tryz.func380.symm.trans hf)) ▸ chk380
  · exact (Option.some.inj (Go.Proofs.Tryz.func381.symm.trans hf)) ▸ chk381
  · exact (Option.some.inj (Go.Proofs.Tryz.func382.symm.trans hf)) ▸ chk382
  · exact (Option.some.inj (Go.Proofs.Tryz.func383.symm.trans hf)) ▸ chk383
theorem chks384 (f : Nat) (fn : Func) (h1 : 384 ≤ f) (h2 : f < 416) (hf : Go.Proofs.Tryz.prog.funcs[f]? = some fn) : fnChk Go.Proofs.Tryz.prog fn = true := by
  have h : f = 384 ∨ f = 385 ∨ f = 386 ∨ f = 387 ∨ f = 388 ∨ f = 389 ∨ f = 390 ∨ f = 391 ∨ f = 392 ∨ f = 393 ∨ f = 394 ∨ f = 395 ∨ f = 396 ∨ f = 397 ∨ f = 398 ∨ f = 399 ∨ f = 400 ∨ f = 401 ∨ f = 402 ∨ f = 403 ∨ f = 404 ∨ f = 405 ∨ f = 406 ∨ f = 407 ∨ f = 408 ∨ f = 409 ∨ f = 410 ∨ f = 411 ∨ f = 412 ∨ f = 413 ∨ f = 414 ∨ f = 415 := by omega
  rcases h with rfl | rfl | rfl | rfl | rfl | rfl | rfl | rfl | rfl | rfl | rfl | rfl | rfl | rfl | rfl | rfl | rfl | rfl | rfl | rfl | rfl | rfl | rfl | rfl | rfl | rfl | rfl | rfl | rfl | rfl | rfl | rfl
  · exact (Option.some.inj (Go.Proofs.Tryz.func384.symm.trans hf)) ▸ chk384
  · exact (Option.some.inj (Go.Proofs.Tryz.func385.symm.trans hf)) ▸ chk385
  · exact (Option.some.inj (Go.Proofs.Tryz.func386.symm.trans hf)) ▸ chk386
  · exact (Option.some.inj (Go.Proofs.Tryz.func387.symm.trans hf)) ▸ chk387
  · exact (Option.some.inj (Go.Proofs.Tryz.func388.symm.trans hf)) ▸ chk388
  · exact (Option.some.inj (Go.Proofs.Tryz.func389.symm.trans hf)) ▸ chk389
  · exact (Option.some.inj (Go.Proofs.Tryz.func390.symm.trans hf)) ▸ chk390
  · exact (Option.some.inj (Go.Proofs.Tryz.func391.symm.trans hf)) ▸ chk391
  · exact (Option.some.inj (Go.Proofs.Tryz.func392.symm.trans hf)) ▸ chk392
  · exact (Option.some.inj (Go.Proofs.Tryz.func393.symm.trans hf)) ▸ chk393
  · exact (Option.some.inj (Go.Proofs.Tryz.func394.symm.trans hf)) ▸ chk394
  · exact (Option.some.inj (Go.Proofs.Tryz.func395.symm.trans hf)) ▸ chk395
  · exact (Option.some.inj (Go.Proofs.Tryz.func396.symm.trans hf)) ▸ chk396
  · exact (Option.some.inj (Go.Proofs.Tryz.func397.symm.trans hf)) ▸ chk397
  · exact (Option.some.inj (Go.Proofs.Tryz.func398.symm.trans hf)) ▸ chk398
  · exact (Option.some.inj (Go.Proofs.Tryz.func399.symm.trans hf)) ▸ chk399
  · exact (Option.some.inj (Go.Proofs.Tryz.func400.symm.trans hf)) ▸ chk400
  · exact (Option.some.inj (Go.Proofs.Tryz.func401.symm.trans hf)) ▸ chk401
  · exact (Option.some.inj (Go.Proofs.Tryz.func402.symm.trans hf)) ▸ chk402
  · exact (Option.some.inj (Go.Proofs.Tryz.func403.symm.trans hf)) ▸ chk403
  · exact (Option.some.inj (Go.Proofs.Tryz.func404.symm.trans hf)) ▸ chk404
  · exact (Option.some.inj (Go.Proofs.Tryz.func405.symm.trans hf)) ▸ chk405
  · exact (Option.some.inj (Go.Proofs.Tryz.func406.symm.trans hf)) ▸ chk406
  · exact (Option.some.inj (Go.Proofs.Tryz.func407.symm.trans hf)) ▸ chk407
  · exact (Option.some.inj (Go.Proofs.Tryz.func408.symm.trans hf)) ▸ chk408
  · exact (Option.some.inj (Go.Proofs.Tryz.func409.symm.trans hf)) ▸ chk409
  · exact (Option.some.inj (Go.Proofs.Tryz.func410.symm.trans hf)) ▸ chk410
  · exact (Option.some.inj (Go.Proofs.Tryz.func411.symm.trans hf)) ▸ chk411
  · exact (Option.some.inj (Go.Proofs.Tryz.func412.symm.trans hf)) ▸ chk412
  · exact (Option.some.inj (Go.Proofs.Tryz.func413.symm.trans hf)) ▸ chk413
  · exact (Option.some.inj (Go.Proofs.Tryz.func414.symm.trans hf)) ▸ chk414
  · exact (Option.some.inj (Go.Proofs.Tryz.func415.symm.trans hf)) ▸ chk415
theorem chks416 (f : Nat) (fn : Func) (h1 : 416 ≤ f) (h2 : f < 448) (hf : Go.Proofs.Tryz.prog.funcs[f]? = some fn) : fnChk Go.Proofs.Tryz.prog fn = true := by
  have h : f = 416 ∨ f = 417 ∨ f = 418 ∨ f = 419 ∨ f = 420 ∨ f = 421 ∨ f = 422 ∨ f = 423 ∨ f = 424 ∨ f = 425 ∨ f = 426 ∨ f = 427 ∨ f = 428 ∨ f = 429 ∨ f = 430 ∨ f = 431 ∨ f = 432 ∨ f = 433 ∨ f = 434 ∨ f = 435 ∨ f = 436 ∨ f = 437 ∨ f = 438 ∨ f = 439 ∨ f = 440 ∨ f = 441 ∨ f = 442 ∨ f = 443 ∨ f = 444 ∨ f = 445 ∨ f = 446 ∨ f = 447 := by omega
  rcases h with rfl | rfl | rfl | rfl | rfl | rfl | rfl | rfl | rfl | rfl | rfl | rfl | rfl | rfl | rfl | rfl | rfl | rfl | rfl | rfl | rfl | rfl | rfl | rfl | rfl | rfl | rfl | rfl | rfl | rfl | rfl | rfl
  · exact (Option.some.inj (Go.Proofs.Tryz.func416.symm.trans hf)) ▸ chk416
  · exact (Option.some.inj (Go.Proofs.Tryz.func417.symm.trans hf)) ▸ chk417
  · exact (Option.some.inj (Go.Proofs.Tryz.func418.symm.trans hf)) ▸ chk418
  · exact (Option.some.inj (Go.Proofs.Tryz.func419.symm.trans hf)) ▸ chk419
  · exact (Option.some.inj (Go.Proofs.Tryz.func420.symm.trans hf)) ▸ chk420
  · exact (Option.some.inj (Go.Proofs.Tryz.func421.symm.trans hf)) ▸ chk421
  · exact (Option.some.inj (Go.Proofs.Tryz.func422.symm.trans hf)) ▸ chk422
  · exact (Option.some.inj (Go.Proofs.Tryz.func423.symm.trans hf)) ▸ chk423
  · exact (Option.some.inj (Go.Proofs.Tryz.func424.symm.trans hf)) ▸ chk424
  · exact (Option.some.inj (Go.Proofs.Tryz.func425.symm.trans hf)) ▸ chk425
  · exact (Option.some.inj (Go.Proofs.Tryz.func426.symm.trans hf)) ▸ chk426
  · exact (Option.some.inj (Go.Proofs.Tryz.func427.symm.trans hf)) ▸ chk427
  · exact (Option.some.inj (Go.Proofs.Tryz.func428.symm.trans hf)) ▸ chk428
  · exact (Option.some.inj (Go.Proofs.Tryz.func429.symm.trans hf)) ▸ chk429
  · exact (Option.some.inj (Go.Proofs.Tryz.func430.symm.trans hf)) ▸ chk430
  · exact (Option.some.inj (Go.Proofs.Tryz.func431.symm.trans hf)) ▸ chk431
  · exact (Option.some.inj (Go.Proofs.Tryz.func432.symm.trans hf)) ▸ chk432
  · exact (Option.some.inj (Go.Proofs.Tryz.func433.symm.trans hf)) ▸ chk433
  · exact (Option.some.inj (Go.Proofs.Tryz.func434.symm.trans hf)) ▸ chk434
  · exact (Option.some.inj (Go.Proofs.Tryz.func435.symm.trans hf)) ▸ chk435
  · exact (Option.some.inj (Go.Proofs.Tryz.func436.symm.trans hf)) ▸ chk436
  · exact (Option.some.inj (Go.Proofs.Tryz.func437.symm.trans hf)) ▸ chk437
  · exact (Option.some.inj (Go.Proofs.Tryz.func438.symm.trans hf)) ▸ chk438
  · exact (Option.some.inj (Go.Proofs.Tryz.func439.symm.trans hf)) ▸ chk439
  · exact (Option.some.inj (Go.Proofs.Tryz.func440.symm.trans hf)) ▸ chk440
  · exact (Option.some.inj (Go.Proofs.Tryz.func441.symm.trans hf)) ▸ chk441
  · exact (Option.some.inj (Go.Proofs.Tryz.func442.symm.trans hf)) ▸ chk442
  · exact (Option.some.inj (Go.Proofs.Tryz.func443.symm.trans hf)) ▸ chk443
  · exact (Option.some.inj (Go.Proofs.Tryz.func444.symm.trans hf)) ▸ chk444
  · exact (Option.some.inj (Go.Proofs.Tryz.func445.symm.trans hf)) ▸ chk445
  · exact (Option.some.inj (Go.Proofs.Tryz.func446.symm.trans hf)) ▸ chk446
  · exact (Option.some.inj (Go.Proofs.Tryz.func447.symm.trans hf)) ▸ chk447
theorem chks448 (f : Nat) (fn : Func) (h1 : 448 ≤ f) (h2 : f < 480) (hf : Go.Proofs.Tryz.prog.funcs[f]? = some fn) : fnChk Go.Proofs.Tryz.prog fn = true := by
  have h : f = 448 ∨ f = 449 ∨ f = 450 ∨ f = 451 ∨ f = 452 ∨ f = 453 ∨ f = 454 ∨ f = 455 ∨ f = 456 ∨ f = 457 ∨ f = 458 ∨ f = 459 ∨ f = 460 ∨ f = 461 ∨ f = 462 ∨ f = 463 ∨ f = 464 ∨ f = 465 ∨ f = 466 ∨ f = 467 ∨ f = 468 ∨ f = 469 ∨ f = 470 ∨ f = 471 ∨ f = 472 ∨ f = 473 ∨ f = 474 ∨ f = 475 ∨ f = 476 ∨ f = 477 ∨ f = 478 ∨ f = 479 := by omega
  rcases h with rfl | rfl | rfl | rfl | rfl | rfl | rfl | rfl | rfl | rfl | rfl | rfl | rfl | rfl | rfl | rfl | rfl | rfl | rfl | rfl | rfl | rfl | rfl | rfl | rfl | rfl | rfl | rfl | rfl | rfl | rfl | rfl
  · exact (Option.some.inj (Go.Proofs.Tryz.func448.symm.trans hf)) ▸ chk448
  · exact (Option.some.inj (Go.Proofs.Tryz.func449.symm.trans hf)) ▸ chk449
  · exact (Option.some.inj (Go.Proofs.Tryz.func450.symm.trans hf)) ▸ chk450
  · exact (Option.some.inj (Go.Proofs.Tryz.func451.symm.trans hf)) ▸ chk451
  · exact (Option.some.inj (Go.Proofs.Tryz.func452.symm.trans hf)) ▸ chk452
  · exact (Option.some.inj (Go.Proofs.Tryz.func453.symm.trans hf)) ▸ chk453
  · exact (Option.some.inj (Go.Proofs.Tryz.func454.symm.trans hf)) ▸ chk454
  · exact (Option.some.inj (Go.Proofs.Tryz.func455.symm.trans hf)) ▸ chk455
  · exact (Option.some.inj (Go.Proofs.Tryz.func456.symm.trans hf)) ▸ chk456
  · exact (Option.some.inj (Go.Proofs.Tryz.func457.symm.trans hf)) ▸ chk457
  · exact (Option.some.inj (Go.Proofs.Tryz.func458.symm.trans hf)) ▸ chk458
  · exact (Option.some.inj (Go.Proofs.Tryz.func459.symm.trans hf)) ▸ chk459
  · exact (Option.some.inj (Go.Proofs.Tryz.func460.symm.trans hf)) ▸ chk460
  · exact (Option.some.inj (Go.Proofs.Tryz.func461.symm.trans hf)) ▸ chk461
  · exact (Option.some.inj (Go.Proofs.Tryz.func462.symm.trans hf)) ▸ chk462
  · exact (Option.some.inj (Go.Proofs.Tryz.func463.symm.trans hf)) ▸ chk463
  · exact (Option.some.inj (Go.Proofs.Tryz.func464.symm.trans hf)) ▸ chk464
  · exact (Option.some.inj (Go.Proofs.Tryz.func465.symm.trans hf)) ▸ chk465
  · exact (Option.some.inj (Go.Proofs.Tryz.func466.symm.trans hf)) ▸ chk466
  · exact (Option.some.inj (Go.Proofs.Tryz.func467.symm.trans hf)) ▸ chk467
  · exact (Option.some.inj (Go.Proofs.Tryz.func468.symm.trans hf)) ▸ chk468
  · exact (Option.some.inj (Go.Proofs.Tryz.func469.symm.trans hf)) ▸ chk469
  · exact (Option.some.inj (Go.Proofs.Tryz.func470.symm.trans hf)) ▸ chk470
  · exact (Option.some.inj (Go.Proofs.Tryz.func471.symm.trans hf)) ▸ chk471
  · exact (Option.some.inj (Go.Proofs.Tryz.func472.symm.trans hf)) ▸ chk472
  · exact (Option.some.inj (Go.Proofs.Tryz.func473.symm.trans hf)) ▸ chk473
  · exact (Option.some.inj (Go.Proofs.Tryz.func474.symm.trans hf)) ▸ chk474
  · exact (Option.some.inj (Go.Proofs.Tryz.func475.symm.trans hf)) ▸ chk475
  · exact (Option.some.inj (Go.Proofs.Tryz.func476.symm.trans hf)) ▸ chk476
  · exact (Option.some.inj (Go.Proofs.Tryz.func477.symm.trans hf)) ▸ chk477
  · exact (Option.some.inj (Go.Proofs.Tryz.func478.symm.trans hf)) ▸ chk478
  · exact (Option.some.inj (Go.Proofs.Tryz.func479.symm.trans hf)) ▸ chk479
theorem chks480 (f : Nat) (fn : Func) (h1 : 480 ≤ f) (h2 : f < 512) (hf : Go.Proofs.Tryz.prog.funcs[f]? = some fn) : fnChk Go.Proofs.Tryz.prog fn = true := by
  have h : f = 480 ∨ f = 481 ∨ f = 482 ∨ f = 483 ∨ f = 484 ∨ f = 485 ∨ f = 486 ∨ f = 487 ∨ f = 488 ∨ f = 489 ∨ f = 490 ∨ f = 491 ∨ f = 492 ∨ f = 493 ∨ f = 494 ∨ f = 495 ∨ f = 496 ∨ f = 497 ∨ f = 498 ∨ f = 499 ∨ f = 500 ∨ f = 501 ∨ f = 502 ∨ f = 503 ∨ f = 504 ∨ f = 505 ∨ f = 506 ∨ f = 507 ∨ f = 508 ∨ f = 509 ∨ f = 510 ∨ f = 511 := by omega
  rcases h with rfl | rfl | rfl | rfl | rfl | rfl | rfl | rfl | rfl | rfl | rfl | rfl | rfl | rfl | rfl | rfl | rfl | rfl | rfl | rfl | rfl | rfl | rfl | rfl | rfl | rfl | rfl | rfl | rfl | rfl | rfl | rfl
  · exact (Option.some.inj (Go.Proofs.Tryz.func480.symm.trans hf)) ▸ chk480
  · exact (Option.some.inj (Go.Proofs.Tryz.func481.symm.trans hf)) ▸ chk481
  · exact (Option.some.inj (Go.Proofs.Tryz.func482.symm.trans hf)) ▸ chk482
  · exact (Option.some.inj (Go.Proofs.Tryz.func483.symm.trans hf)) ▸ chk483
  · exact (Option.some.inj (Go.Proofs.Tryz.func484.symm.trans hf)) ▸ chk484
  · exact (Option.some.inj (Go.Proofs.Tryz.func485.symm.trans hf)) ▸ chk485
  · exact (Option.some.inj (Go.Proofs.Tryz.func486.symm.trans hf)) ▸ chk486
  · exact (Option.some.inj (Go.Proofs.Tryz.func487.symm.trans hf)) ▸ chk487
  · exact (Option.some.inj (Go.Proofs.Tryz.func488.symm.trans hf)) ▸ chk488
  · exact (Option.some.inj (Go.Proofs.Tryz.func489.symm.trans hf)) ▸ chk489
  · exact (Option.some.inj (Go.Proofs.Tryz.func490.symm.trans hf)) ▸ chk490
  · exact (Option.some.inj (Go.Proofs.Tryz.func491.symm.trans hf)) ▸ chk491
  · exact (Option.some.inj (Go.Proofs.Tryz.func492.symm.trans hf)) ▸ chk492
  · exact (Option.some.inj (Go.Proofs.Tryz.func493.symm.trans hf)) ▸ chk493
  · exact (Option.some.inj (Go.Proofs.Tryz.func494.symm.trans hf)) ▸ chk494
  · exact (Option.some.inj (Go.Proofs.Tryz.func495.symm.trans hf)) ▸ chk495
  · exact (Option.some.inj (Go.Proofs.Tryz.func496.symm.trans hf)) ▸ chk496
  · exact (Option.some.inj (Go.Proofs.Tryz.func497.symm.trans hf)) ▸ chk497
  · exact (Option.some.inj (Go.Proofs.Tryz.func498.symm.trans hf)) ▸ chk498
  · exact (Option.some.inj (Go.Proofs.Tryz.func499.symm.trans hf)) ▸ chk499
  · exact (Option.some.inj (Go.Proofs.Tryz.func500.symm.trans hf)) ▸ chk500
  · exact (Option.some.inj (Go.Proofs.Tryz.func501.symm.trans hf)) ▸ chk501
  · exact (Option.some.inj (Go.Proofs.Tryz.func502.symm.trans hf)) ▸ chk502
  · exact (Option.some.inj (Go.Proofs.Tryz.func503.symm.trans hf)) ▸ chk503
  · exact (Option.some.inj (Go.Proofs.Tryz.func504.symm.trans hf)) ▸ chk504
  · exact (Option.some.inj (Go.Proofs.Tryz.func505.symm.trans hf)) ▸ chk505
  · exact (Option.some.inj (Go.Proofs.Tryz.func506.symm.trans hf)) ▸ chk506
  · exact (Option.some.inj (Go.Proofs.Tryz.func507.symm.trans hf)) ▸ chk507
  · exact (Option.some.inj (Go.Proofs.Tryz.func508.symm.trans hf)) ▸ chk508
  · exact (Option.some.inj (Go.Proofs.Tryz.func509.symm.trans hf)) ▸ chk509
  · exact (Option.some.inj (Go.Proofs.Tryz.func510.symm.trans hf)) ▸ chk510
  · exact (Option.some.inj (Go.Proofs.Tryz.func511.symm.trans hf)) ▸ chk511
theorem chks512 (f : Nat) (fn : Func) (h1 : 512 ≤ f) (h2 : f < 544) (hf : Go.Proofs.Tryz.prog.funcs[f]? = some fn) : fnChk Go.Proofs.Tryz.prog fn = true := by
  have h : f = 512 ∨ f = 513 ∨ f = 514 ∨ f = 515 ∨ f = 516 ∨ f = 517 ∨ f = 518 ∨ f = 519 ∨ f = 520 ∨ f = 521 ∨ f = 522 ∨ f = 523 ∨ f = 524 ∨ f = 525 ∨ f = 526 ∨ f = 527 ∨ f = 528 ∨ f = 529 ∨ f = 530 ∨ f = 531 ∨ f = 532 ∨ f = 533 ∨ f = 534 ∨ f = 535 ∨ f = 536 ∨ f = 537 ∨ f = 538 ∨ f = 539 ∨ f = 540 ∨ f = 541 ∨ f = 542 ∨ f = 543 := by omega
  rcases h with rfl | rfl | rfl | rfl | rfl | rfl | rfl | rfl | rfl | rfl | rfl | rfl | rfl | rfl | rfl | rfl | rfl | rfl | rfl | rfl | rfl | rfl | rfl | rfl | rfl | rfl | rfl | rfl | rfl | rfl | rfl | rfl
  · exact (Option.some.inj (Go.Proofs.Tryz.func512.symm.trans hf)) ▸ chk512
  · exact (Option.some.inj (Go.Proofs.Tryz.func513.symm.trans hf)) ▸ chk513
  · exact (Option.some.inj (Go.Proofs.Tryz.func514.symm.trans hf)) ▸ chk514
  · exact (Option.some.inj (Go.Proofs.Tryz.func515.symm.trans hf)) ▸ chk515
  · exact (Option.some.inj (Go.Proofs.Tryz.func516.symm.trans hf)) ▸ chk516
  · exact (Option.some.inj (Go.Proofs.Tryz.func517.symm.trans hf)) ▸ chk517
  · exact (Option.some.inj (Go.Proofs.Tryz.func518.symm.trans hf)) ▸ chk518
  · exact (Option.some.inj (Go.Proofs.Tryz.func519.symm.trans hf)) ▸ chk519
  · exact (Option.some.inj (Go.Proofs.Tryz.func520.symm.trans hf)) ▸ chk520
  · exact (Option.some.inj (Go.Proofs.Tryz.func521.symm.trans hf)) ▸ chk521
  · exact (Option.some.inj (Go.Proofs.Tryz.func522.symm.trans hf)) ▸ chk522
  · exact (Option.some.inj (Go.Proofs.Tryz.func523.symm.trans hf)) ▸ chk523
  · exact (Option.some.inj (Go.Proofs.Tryz.func524.symm.trans hf)) ▸ chk524
  · exact (Option.some.inj (Go.Proofs.Tryz.func525.symm.trans hf)) ▸ chk525
  · exact (Option.some.inj (Go.Proofs.Tryz.func526.symm.trans hf)) ▸ chk526
  · exact (Option.some.inj (Go.Proofs.Tryz.func527.symm.trans hf)) ▸ chk527
  · exact (Option.some.inj (Go.Proofs.Tryz.func528.symm.trans hf)) ▸ chk528
  · exact (Option.some.inj (Go.Proofs.Tryz.func529.symm.trans hf)) ▸ chk529
  · exact (Option.some.inj (Go.Proofs.Tryz.func530.symm.trans hf)) ▸ chk530
  · exact (Option.some.inj (Go.Proofs.Tryz.func531.symm.trans hf)) ▸ chk531
  · exact (Option.some.inj (Go.Proofs.Tryz.func532.symm.trans hf)) ▸ chk532
  · exact (Option.some.inj (Go.Proofs.Tryz.func533.symm.trans hf)) ▸ chk533
  · exact (Option.some.inj (Go.Proofs.Tryz.func534.symm.trans hf)) ▸ chk534
  · exact (Option.some.inj (Go.Proofs.Tryz.func535.symm.trans hf)) ▸ chk535
  · exact (Option.some.inj (Go.Proofs.Tryz.func536.symm.trans hf)) ▸ chk536
  · exact (Option.some.inj (Go.Proofs.Tryz.func537.symm.trans hf)) ▸ chk537
  · exact (Option.some.inj (Go.Proofs.Tryz.func538.symm.trans hf)) ▸ chk538
  · exact (Option.some.inj (Go.Proofs.Tryz.func539.symm.trans hf)) ▸ chk539
  · exact (Option.some.inj (Go.Proofs.Tryz.func540.symm.trans hf)) ▸ chk540
  · exact (Option.some.inj (Go.Proofs.Tryz.func541.symm.trans hf)) ▸ chk541
  · exact (Option.some.inj (Go.Proofs.Tryz.func542.symm.trans hf)) ▸ chk542
  · exact (Option.some.inj (Go.Proofs.Tryz.func543.symm.trans hf)) ▸ chk543
theorem chks544 (f : Nat) (fn : Func) (h1 : 544 ≤ f) (h2 : f < 566) (hf : Go.Proofs.Tryz.prog.funcs[f]? = some fn) : fnChk Go.Proofs.Tryz.prog fn = true := by
  have h : f = 544 ∨ f = 545 ∨ f = 546 ∨ f = 547 ∨ f = 548 ∨ f = 549 ∨ f = 550 ∨ f = 551 ∨ f = 552 ∨ f = 553 ∨ f = 554 ∨ f = 555 ∨ f = 556 ∨ f = 557 ∨ f = 558 ∨ f = 559 ∨ f = 560 ∨ f = 561 ∨ f = 562 ∨ f = 563 ∨ f = 564 ∨ f = 565 := by omega
  rcases h with rfl | rfl | rfl | rfl | rfl | rfl | rfl | rfl | rfl | rfl | rfl | rfl | rfl | rfl | rfl | rfl | rfl | rfl | rfl | rfl | rfl | rfl
  · exact (Option.some.inj (Go.Proofs.Tryz.func544.symm.trans hf)) ▸ chk544
  · exact (Option.some.inj (Go.Proofs.Tryz.func545.symm.trans hf)) ▸ chk545
  · exact (Option.some.inj (Go.Proofs.Tryz.func546.symm.trans hf)) ▸ chk546
  · exact (Option.some.inj (Go.Proofs.Tryz.func547.symm.trans hf)) ▸ chk547
  · exact (Option.some.inj (Go.Proofs.Tryz.func548.symm.trans hf)) ▸ chk548
  · exact (Option.some.inj (Go.Proofs.Tryz.func549.symm.trans hf)) ▸ chk549
  · exact (Option.some.inj (Go.Proofs.Tryz.func550.symm.trans hf)) ▸ chk550
  · exact (Option.some.inj (Go.Proofs.Tryz.func551.symm.trans hf)) ▸ chk551
  · exact (Option.some.inj (Go.Proofs.Tryz.func552.symm.trans hf)) ▸ chk552
  · exact (Option.some.inj (Go.Proofs.Tryz.func553.symm.trans hf)) ▸ chk553
  · exact (Option.some.inj (Go.Proofs.Tryz.func554.symm.trans hf)) ▸ chk554
  · exact (Option.some.inj (Go.Proofs.Tryz.func555.symm.trans hf)) ▸ chk555
  · exact (Option.some.inj (Go.Proofs.Tryz.func556.symm.trans hf)) ▸ chk556
  · exact (Option.some.inj (Go.Proofs.Tryz.func557.symm.trans hf)) ▸ chk557
  · exact (Option.some.inj (Go.Proofs.Tryz.func558.symm.trans hf)) ▸ chk558
  · exact (Option.some.inj (Go.Proofs.Tryz.func559.symm.trans hf)) ▸ chk559
  · exact (Option.some.inj (Go.Proofs.Tryz.func560.symm.trans hf)) ▸ chk560
  · exact (Option.some.inj (Go.Proofs.Tryz.func561.symm.trans hf)) ▸ chk561
  · exact (Option.some.inj (Go.Proofs.Tryz.func562.symm.trans hf)) ▸ chk562
  · exact (Option.some.inj (Go.Proofs.Tryz.func563.symm.trans hf)) ▸ chk563
  · exact (Option.some.inj (Go.Proofs.Tryz.func564.symm.trans hf)) ▸ chk564
  · exact (Option.some.inj (Go.Proofs.Tryz.func565.symm.trans hf)) ▸ chk565
theorem nFuncs : Go.Proofs.Tryz.prog.funcs.size = 566 := by kernel_rfl
theorem stat : Stat Go.Proofs.Tryz.prog where
  depth := of_decide_eq_true (by kernel_rfl)
  mixed := Checked.mixed Go.Proofs.Tryz.checked
  fns := fun f fn hf => by
    have hlt : f < 566 := by rw [← nFuncs]; exact (Array.getElem?_eq_some_iff.1 hf).1
    by_cases h32 : f < 32
    · exact chks0 f fn (by omega) h32 hf
    by_cases h64 : f < 64
    · exact chks32 f fn (by omega) h64 hf
    by_cases h96 : f < 96
    · exact chks64 f fn (by omega) h96 hf
    by_cases h128 : f < 128
    · exact chks96 f fn (by omega) h128 hf
    by_cases h160 : f < 160
    · exact chks128 f fn (by omega) h160 hf
    by_cases h192 : f < 192
    · exact chks160 f fn (by omega) h192 hf
    by_cases h224 : f < 224
    · exact chks192 f fn (by omega) h224 hf
    by_cases h256 : f < 256
    · exact chks224 f fn (by omega) h256 hf
    by_cases h288 : f < 288
    · exact chks256 f fn (by omega) h288 hf
    by_cases h320 : f < 320
    · exact chks288 f fn (by omega) h320 hf
    by_cases h352 : f < 352
    · exact chks320 f fn (by omega) h352 hf
    by_cases h384 : f < 384
    · exact chks352 f fn (by omega) h384 hf
    by_cases h416 : f < 416
    · exact chks384 f fn (by omega) h416 hf
    by_cases h448 : f < 448
    · exact chks416 f fn (by omega) h448 hf
    by_cases h480 : f < 480
    · exact chks448 f fn (by omega) h480 hf
    by_cases h512 : f < 512
    · exact chks480 f fn (by omega) h512 hf
    by_cases h544 : f < 544
    · exact chks512 f fn (by omega) h544 hf
    by_cases h566 : f < 566
    · exact chks544 f fn (by omega) h566 hf
    · omega
end Go.Exe.Tryz
