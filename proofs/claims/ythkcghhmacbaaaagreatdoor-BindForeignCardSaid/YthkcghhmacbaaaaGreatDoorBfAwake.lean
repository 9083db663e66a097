/- BindForeign: the run of its awake; tables of known calls. -/
import Derived.Test.YthkcghhmacbaaaaGreatDoorExeFt
import Derived.Test.YthkcghhmacbaaaaGreatDoorBfScR
import Derived.Test.YthkcghhmacbaaaaGreatDoorBfLtA
set_option linter.unusedSimpArgs false
set_option maxRecDepth 100000
set_option maxHeartbeats 4000000
set_option linter.unusedVariables false
namespace Go.Exe.Tryz
open Go Go.Exe Go.Proofs.Sc
theorem bf_awake : callX ft (gl3 1 2 3) 3000 5 [] s0 (fun v _ => isTrue v) = true := by kernel_rfl
noncomputable def bf_ft : Nat → Fc := ftK ft 5
noncomputable def bf_ftL (l : List KV) : Nat → Fc := ftC bf_ft 6 l
noncomputable def bf_ftT (l : List KV) (k : List Ke) : Nat → Fc := ftE (bf_ftL l) 95 k
noncomputable def bf_ftG (l g : List KV) (k : List Ke) : Nat → Fc := ftE (ftC (bf_ftL l) 225 g) 95 k
noncomputable def bf_run (t : Nat → Fc) (a : List V) : Bool := callX t (gl3 1 2 3) 3000 3 a s0 (fun v _ => isTrue v)
def kvT (a : V) (b : Bool) : KV := .mk (.tup [a]) (.bool b)
def bf_none : V := .agg [.int .i64 0, .int .i64 0, .int .i64 0, .int .i64 0]
def bf_k1 (x : V) : Ke := .mk (.tup [.int .i64 0, dat1 x]) 264 5 13 (lits1 ++ rows1 x) [bf_none]
def bf_k2 (x : V) : Ke := .mk (.tup [.int .i64 1, dat2 x]) 264 5 8 (lits2 ++ rows2 x) [bf_none]
/-- of a keyword in the name's place -/
def bf_k2w (n m : Nat) (l : List (List V)) : Ke := .mk (.tup [.int .i64 1, .str n m]) 264 5 8 l [bf_none]
def xU : V := .ab 104 []
def xW : V := .ab 107 []
/-- the name: not these -/
def xN : V := .ab 8 [.str 0 0, .str 1 95, .str 3 7630441]
/-- the asked name -/
def xA : V := .ab 5 [.str 0 0, .str 1 95]
/-- .. and it isn't the name -/
def xB : V := .ab 5 [.str 0 0, .str 1 95, .ab 8 []]
/-- both, with this first letter -/
def xS (b : Nat) : V := .ab 5 [.str 0 0, .str 1 95, .str 3 7630441, .int .u8 b]
end Go.Exe.Tryz
