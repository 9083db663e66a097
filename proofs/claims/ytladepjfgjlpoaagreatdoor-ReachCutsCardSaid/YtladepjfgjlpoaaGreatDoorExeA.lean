/- An executor for the program's text: values, heap, operations, code; it is run by the kernel. -/
import GoSem.Dispatch
set_option maxRecDepth 10000
set_option linter.unusedVariables false
set_option linter.unusedSectionVars false
set_option linter.unusedSimpArgs false
namespace Go.Exe
inductive D where | d0 | d1 | d2 | d3 | d4 | d5 | d6 | d7 | d8 | d9 | da | db | dc | dd | de | df
  deriving DecidableEq
structure N16 (α : Type) where
  mk :: (c0 c1 c2 c3 c4 c5 c6 c7 c8 c9 ca cb cc cd ce cf : α)
noncomputable def D.el {β : Type} (m0 m1 m2 m3 m4 m5 m6 m7 m8 m9 m10 m11 m12 m13 m14 m15 : β) (d : D) : β := D.rec (motive := fun _ => β) m0 m1 m2 m3 m4 m5 m6 m7 m8 m9 m10 m11 m12 m13 m14 m15 d
def N16.all {α : Type} (x : α) : N16 α := .mk x x x x x x x x x x x x x x x x
inductive Q where | q0 | q1 | q2 | q3 | q4 | q5 | q6 | q7 | q8 | q9 | q10 | q11 | q12 | q13 | q14 | q15 | q16 | q17 | q18 | q19
  deriving DecidableEq
structure N20 (α : Type) where
  mk :: (e0 e1 e2 e3 e4 e5 e6 e7 e8 e9 e10 e11 e12 e13 e14 e15 e16 e17 e18 e19 : α)
def N20.all {α : Type} (x : α) : N20 α := .mk x x x x x x x x x x x x x x x x x x x x
noncomputable def Q.el {β : Type} (m0 m1 m2 m3 m4 m5 m6 m7 m8 m9 m10 m11 m12 m13 m14 m15 m16 m17 m18 m19 : β) (d : Q) : β := Q.rec (motive := fun _ => β) m0 m1 m2 m3 m4 m5 m6 m7 m8 m9 m10 m11 m12 m13 m14 m15 m16 m17 m18 m19 d
noncomputable def Q.up (d : Q) (k : Q → Bool) (c : Unit → Bool) : Bool := Q.rec (motive := fun _ => (Q → Bool) → (Unit → Bool) → Bool) (fun k _ => k .q1) (fun k _ => k .q2) (fun k _ => k .q3) (fun k _ => k .q4) (fun k _ => k .q5) (fun k _ => k .q6) (fun k _ => k .q7) (fun k _ => k .q8) (fun k _ => k .q9) (fun k _ => k .q10) (fun k _ => k .q11) (fun k _ => k .q12) (fun k _ => k .q13) (fun k _ => k .q14) (fun k _ => k .q15) (fun k _ => k .q16) (fun k _ => k .q17) (fun k _ => k .q18) (fun k _ => k .q19) (fun _ c => c ()) d k c
noncomputable def D.up (d : D) (k : D → Bool) (c : Unit → Bool) : Bool := D.rec (motive := fun _ => (D → Bool) → (Unit → Bool) → Bool) (fun k _ => k .d1) (fun k _ => k .d2) (fun k _ => k .d3) (fun k _ => k .d4) (fun k _ => k .d5) (fun k _ => k .d6) (fun k _ => k .d7) (fun k _ => k .d8) (fun k _ => k .d9) (fun k _ => k .da) (fun k _ => k .db) (fun k _ => k .dc) (fun k _ => k .dd) (fun k _ => k .de) (fun k _ => k .df) (fun _ c => c ()) d k c
noncomputable def bel {β : Type} (f t : β) (b : Bool) : β := Bool.rec (motive := fun _ => β) f t b
noncomputable def nel {β : Type} (z : β) (s : Nat → β) (n : Nat) : β := Nat.rec (motive := fun _ => β) z (fun m _ => s m) n
noncomputable def nrec {β : Type} (z : β) (s : Nat → β → β) (n : Nat) : β := Nat.rec (motive := fun _ => β) z s n
noncomputable def iel {β : Type} (p : Nat → β) (q : Nat → β) (n : Int) : β := Int.rec (motive := fun _ => β) p q n
noncomputable def lel {α β : Type} (z : β) (s : α → List α → β) (l : List α) : β := List.rec (motive := fun _ => β) z (fun a l _ => s a l) l
noncomputable def lrec {α β : Type} (z : β) (s : α → List α → β → β) (l : List α) : β := List.rec (motive := fun _ => β) z s l
noncomputable def oel {α β : Type} (z : β) (s : α → β) (l : Option α) : β := Option.rec (motive := fun _ => β) z s l
inductive B where
  | mk (a : D) (b : D) (c : D) (d : D)
  deriving DecidableEq
inductive V where
  | int (k : IntKind) (n : Int)
  | bool (b : Bool)
  | str (n : Nat) (v : Nat)
  | nilp 
  | ptr (b : B) (o : Nat)
  | gptr (g : Nat) (o : Nat)
  | nils 
  | sl (b : B) (o : Nat) (n : Nat) (c : Nat)
  | slr (b : B) (o : Nat) (c : Nat) (n : Nat)
  | sle (b : B) (o : Nat) (q : Nat) (c : Nat)
  | nilm 
  | mp (b : B)
  | fn (f : Nat) (x : List V) (y : List V)
  | nilf 
  | nili 
  | agg (l : List V)
  | tup (l : List V)
  | sym (j : Nat) (k : IntKind) (m : Nat) (r : Nat)
abbrev T3 : Type := N16 (N16 (N16 (List V)))
inductive Cells where
  | one (l : List V)
  | many (n : Nat) (t : T3)
inductive KV where
  | mk (k : V) (v : V)
inductive Slot where
  | free 
  | dead 
  | cells (el : Nat) (sz : Nat) (c : Cells)
  | map (l : List KV)
abbrev Heap : Type := N16 (N16 (N16 (N16 Slot)))
abbrev E : Type := N20 (N16 V)
inductive Df where
  | mk (f : Nat) (l : List V)
inductive S where
  | mk (h : Heap) (nx : B) (ds : List Df)
inductive Opd where
  | tmp (i : Q) (j : D)
  | val (v : V)
mutual
inductive EqT where | int | bool | str | ptr | sl | mp | fn | st (l : List EqF)
inductive EqF where | mk (o s : Nat) (a : Bool) (t : EqT)
end
inductive Pt where
  | mk (o : Nat) (s : Nat) (x : Opd)
inductive I where
  | move (x : Opd)
  | pick (c : Opd) (a : Opd) (b : Opd)
  | alloc (el : Nat) (sz : Nat) (z : List V)
  | box (el : Nat) (sz : Nat) (x : Opd)
  | build (z : List V) (ps : List Pt)
  | buildSlice (el : Nat) (sz : Nat) (z : List V) (len : Nat) (ps : List Pt)
  | load1 (a : Opd)
  | loadA (sz : Nat) (a : Opd)
  | store (sz : Nat) (a : Opd) (x : Opd)
  | nilCheck (x : Opd)
  | bin (op : BinOp) (x : Opd) (y : Opd)
  | eq (neg : Bool) (t : EqT) (x : Opd) (y : Opd)
  | not (x : Opd)
  | neg (x : Opd)
  | convInt (k : IntKind) (x : Opd)
  | convId (x : Opd)
  | convU (x : Opd)
  | convP (u : Nat) (n : Nat) (x : Opd)
  | s2b (el : Nat) (x : Opd)
  | b2s (x : Opd)
  | makeFunc (f : Nat) (a : List Opd) (c : List Opd)
  | makeMap 
  | makeSlice (el : Nat) (sz : Nat) (z : List V) (l : Opd) (c : Opd)
  | sliceS (x : Opd) (l : Option Opd) (h : Option Opd)
  | sliceL (sz : Nat) (x : Opd) (l : Option Opd) (h : Option Opd) (m : Option Opd)
  | sliceArr (n : Nat) (sz : Nat) (x : Opd) (l : Option Opd) (h : Option Opd) (m : Option Opd)
  | fieldAddr (o : Nat) (x : Opd)
  | field (o : Nat) (s : Nat) (a : Bool) (x : Opd)
  | indexAddrS (sz : Nat) (x : Opd) (i : Opd)
  | indexAddrA (n : Nat) (sz : Nat) (x : Opd) (i : Opd)
  | indexV (n : Nat) (sz : Nat) (a : Bool) (x : Opd) (i : Opd)
  | indexStr (x : Opd) (i : Opd)
  | lookup (q : EqT) (z : V) (ok : Bool) (x : Opd) (i : Opd)
  | mapUpdate (q : EqT) (m : Opd) (k : Opd) (v : Opd)
  | mapDelete (q : EqT) (m : Opd) (k : Opd)
  | extract (x : Opd) (i : Nat)
  | call (f : Nat) (l : List Opd)
  | callV (x : Opd) (l : List Opd)
  | lenS (x : Opd)
  | lenL (x : Opd)
  | lenM (x : Opd)
  | const (v : V)
  | cap (x : Opd)
  | minmax (mx : Bool) (l : List Opd)
  | append (el : Nat) (sz : Nat) (s : Opd) (x : Opd)
  | appendZ (el : Nat) (sz : Nat) (z : List V) (s : Opd) (x : Opd)
  | copy (sz : Nat) (d : Opd) (s : Opd)
  | clear (z : List V) (sz : Nat) (x : Opd)
  | sliceData (x : Opd)
  | unsafeString (u : Nat) (p : Opd) (n : Opd)
  | deferC (f : Nat) (l : List Opd)
  | deferV (x : Opd) (l : List Opd)
  | bad 
inductive G where
  | no 
  | on (i : Q) (j : D) (w : Bool)
inductive Dst where
  | no 
  | at (i : Q) (j : D)
inductive Step where
  | mk (g : G) (d : Dst) (i : I)
  | chk (g : G) (d : Dst) (i : I)
inductive Cd where
  | skip 
  | steps (l : List Step)
  | seq (a : Cd) (b : Cd)
  | cond (c : Opd) (a : Cd) (b : Cd)
  | block (id : Nat) (a : Cd)
  | loop (a : Cd)
  | exit (id : Nat)
  | ret 
  | bad 
noncomputable def Cd.fold {β : Type} (m_skip : β) (m_steps : List Step → β) (m_seq : β → β → β) (m_cond : Opd → β → β → β) (m_block : Nat → β → β) (m_loop : β → β) (m_exit : Nat → β) (m_ret : β) (m_bad : β) (x : Cd) : β := Cd.rec (motive := fun _ => β) m_skip m_steps (fun _ _ ia ib => m_seq ia ib) (fun c _ _ ia ib => m_cond c ia ib) (fun id _ ia => m_block id ia) (fun _ ia => m_loop ia) m_exit m_ret m_bad x
inductive X where
  | norm 
  | ret 
  | exit (id : Nat)
inductive Rs where
  | tmp (x : Opd)
  | cell1 (x : Opd)
  | cellA (sz : Nat) (x : Opd)
inductive Fx where
  | idf 
  | indexByte 
  | cmpstr 
  | add64 
  | sub64 
  | noZero (el : Nat)
  | ldU32 
  | ldI64 
  | st 
  | casI32 
  | addI32 
  | addI64 
  | rDis 
  | rEn 
  | rAcq 
  | rRel 
inductive Fc where
  | code (c : Cd) (r : List Rs)
  | ext (x : Fx)
  | kn (l : List KV)
  | bad 
noncomputable def EqT.rc {β γ δ : Type} (mi mb ms mp ml mm mn : β) (mst : δ → β) (mf : Nat → Nat → Bool → β → γ) (z : δ) (c : γ → δ → δ) (x : EqT) : β :=
  EqT.rec (motive_1 := fun _ => β) (motive_2 := fun _ => γ) (motive_3 := fun _ => δ) mi mb ms mp ml mm mn (fun _ d => mst d) (fun o s a _ b => mf o s a b) z (fun _ _ g d => c g d) x
noncomputable def getV (d : D) (n : N16 (V)) : V := D.rec (motive := fun _ => N16 (V) → V) (fun n => n.c0) (fun n => n.c1) (fun n => n.c2) (fun n => n.c3) (fun n => n.c4) (fun n => n.c5) (fun n => n.c6) (fun n => n.c7) (fun n => n.c8) (fun n => n.c9) (fun n => n.ca) (fun n => n.cb) (fun n => n.cc) (fun n => n.cd) (fun n => n.ce) (fun n => n.cf) d n
noncomputable def setV (d : D) (n : N16 (V)) (v : V) (k : N16 (V) → Bool) : Bool := D.rec (motive := fun _ => N16 (V) → V → (N16 (V) → Bool) → Bool) (fun n v k => N16.rec (motive := fun _ => Bool) (fun _ c1 c2 c3 c4 c5 c6 c7 c8 c9 ca cb cc cd ce cf => k (.mk v c1 c2 c3 c4 c5 c6 c7 c8 c9 ca cb cc cd ce cf)) n)
    (fun n v k => N16.rec (motive := fun _ => Bool) (fun c0 _ c2 c3 c4 c5 c6 c7 c8 c9 ca cb cc cd ce cf => k (.mk c0 v c2 c3 c4 c5 c6 c7 c8 c9 ca cb cc cd ce cf)) n)
    (fun n v k => N16.rec (motive := fun _ => Bool) (fun c0 c1 _ c3 c4 c5 c6 c7 c8 c9 ca cb cc cd ce cf => k (.mk c0 c1 v c3 c4 c5 c6 c7 c8 c9 ca cb cc cd ce cf)) n)
    (fun n v k => N16.rec (motive := fun _ => Bool) (fun c0 c1 c2 _ c4 c5 c6 c7 c8 c9 ca cb cc cd ce cf => k (.mk c0 c1 c2 v c4 c5 c6 c7 c8 c9 ca cb cc cd ce cf)) n)
    (fun n v k => N16.rec (motive := fun _ => Bool) (fun c0 c1 c2 c3 _ c5 c6 c7 c8 c9 ca cb cc cd ce cf => k (.mk c0 c1 c2 c3 v c5 c6 c7 c8 c9 ca cb cc cd ce cf)) n)
    (fun n v k => N16.rec (motive := fun _ => Bool) (fun c0 c1 c2 c3 c4 _ c6 c7 c8 c9 ca cb cc cd ce cf => k (.mk c0 c1 c2 c3 c4 v c6 c7 c8 c9 ca cb cc cd ce cf)) n)
    (fun n v k => N16.rec (motive := fun _ => Bool) (fun c0 c1 c2 c3 c4 c5 _ c7 c8 c9 ca cb cc cd ce cf => k (.mk c0 c1 c2 c3 c4 c5 v c7 c8 c9 ca cb cc cd ce cf)) n)
    (fun n v k => N16.rec (motive := fun _ => Bool) (fun c0 c1 c2 c3 c4 c5 c6 _ c8 c9 ca cb cc cd ce cf => k (.mk c0 c1 c2 c3 c4 c5 c6 v c8 c9 ca cb cc cd ce cf)) n)
    (fun n v k => N16.rec (motive := fun _ => Bool) (fun c0 c1 c2 c3 c4 c5 c6 c7 _ c9 ca cb cc cd ce cf => k (.mk c0 c1 c2 c3 c4 c5 c6 c7 v c9 ca cb cc cd ce cf)) n)
    (fun n v k => N16.rec (motive := fun _ => Bool) (fun c0 c1 c2 c3 c4 c5 c6 c7 c8 _ ca cb cc cd ce cf => k (.mk c0 c1 c2 c3 c4 c5 c6 c7 c8 v ca cb cc cd ce cf)) n)
    (fun n v k => N16.rec (motive := fun _ => Bool) (fun c0 c1 c2 c3 c4 c5 c6 c7 c8 c9 _ cb cc cd ce cf => k (.mk c0 c1 c2 c3 c4 c5 c6 c7 c8 c9 v cb cc cd ce cf)) n)
    (fun n v k => N16.rec (motive := fun _ => Bool) (fun c0 c1 c2 c3 c4 c5 c6 c7 c8 c9 ca _ cc cd ce cf => k (.mk c0 c1 c2 c3 c4 c5 c6 c7 c8 c9 ca v cc cd ce cf)) n)
    (fun n v k => N16.rec (motive := fun _ => Bool) (fun c0 c1 c2 c3 c4 c5 c6 c7 c8 c9 ca cb _ cd ce cf => k (.mk c0 c1 c2 c3 c4 c5 c6 c7 c8 c9 ca cb v cd ce cf)) n)
    (fun n v k => N16.rec (motive := fun _ => Bool) (fun c0 c1 c2 c3 c4 c5 c6 c7 c8 c9 ca cb cc _ ce cf => k (.mk c0 c1 c2 c3 c4 c5 c6 c7 c8 c9 ca cb cc v ce cf)) n)
    (fun n v k => N16.rec (motive := fun _ => Bool) (fun c0 c1 c2 c3 c4 c5 c6 c7 c8 c9 ca cb cc cd _ cf => k (.mk c0 c1 c2 c3 c4 c5 c6 c7 c8 c9 ca cb cc cd v cf)) n)
    (fun n v k => N16.rec (motive := fun _ => Bool) (fun c0 c1 c2 c3 c4 c5 c6 c7 c8 c9 ca cb cc cd ce _ => k (.mk c0 c1 c2 c3 c4 c5 c6 c7 c8 c9 ca cb cc cd ce v)) n) d n v k
noncomputable def getS1 (d : D) (n : N16 (Slot)) : Slot := D.rec (motive := fun _ => N16 (Slot) → Slot) (fun n => n.c0) (fun n => n.c1) (fun n => n.c2) (fun n => n.c3) (fun n => n.c4) (fun n => n.c5) (fun n => n.c6) (fun n => n.c7) (fun n => n.c8) (fun n => n.c9) (fun n => n.ca) (fun n => n.cb) (fun n => n.cc) (fun n => n.cd) (fun n => n.ce) (fun n => n.cf) d n
noncomputable def setS1 (d : D) (n : N16 (Slot)) (v : Slot) (k : N16 (Slot) → Bool) : Bool := D.rec (motive := fun _ => N16 (Slot) → Slot → (N16 (Slot) → Bool) → Bool) (fun n v k => N16.rec (motive := fun _ => Bool) (fun _ c1 c2 c3 c4 c5 c6 c7 c8 c9 ca cb cc cd ce cf => k (.mk v c1 c2 c3 c4 c5 c6 c7 c8 c9 ca cb cc cd ce cf)) n)
    (fun n v k => N16.rec (motive := fun _ => Bool) (fun c0 _ c2 c3 c4 c5 c6 c7 c8 c9 ca cb cc cd ce cf => k (.mk c0 v c2 c3 c4 c5 c6 c7 c8 c9 ca cb cc cd ce cf)) n)
    (fun n v k => N16.rec (motive := fun _ => Bool) (fun c0 c1 _ c3 c4 c5 c6 c7 c8 c9 ca cb cc cd ce cf => k (.mk c0 c1 v c3 c4 c5 c6 c7 c8 c9 ca cb cc cd ce cf)) n)
    (fun n v k => N16.rec (motive := fun _ => Bool) (fun c0 c1 c2 _ c4 c5 c6 c7 c8 c9 ca cb cc cd ce cf => k (.mk c0 c1 c2 v c4 c5 c6 c7 c8 c9 ca cb cc cd ce cf)) n)
    (fun n v k => N16.rec (motive := fun _ => Bool) (fun c0 c1 c2 c3 _ c5 c6 c7 c8 c9 ca cb cc cd ce cf => k (.mk c0 c1 c2 c3 v c5 c6 c7 c8 c9 ca cb cc cd ce cf)) n)
    (fun n v k => N16.rec (motive := fun _ => Bool) (fun c0 c1 c2 c3 c4 _ c6 c7 c8 c9 ca cb cc cd ce cf => k (.mk c0 c1 c2 c3 c4 v c6 c7 c8 c9 ca cb cc cd ce cf)) n)
    (fun n v k => N16.rec (motive := fun _ => Bool) (fun c0 c1 c2 c3 c4 c5 _ c7 c8 c9 ca cb cc cd ce cf => k (.mk c0 c1 c2 c3 c4 c5 v c7 c8 c9 ca cb cc cd ce cf)) n)
    (fun n v k => N16.rec (motive := fun _ => Bool) (fun c0 c1 c2 c3 c4 c5 c6 _ c8 c9 ca cb cc cd ce cf => k (.mk c0 c1 c2 c3 c4 c5 c6 v c8 c9 ca cb cc cd ce cf)) n)
    (fun n v k => N16.rec (motive := fun _ => Bool) (fun c0 c1 c2 c3 c4 c5 c6 c7 _ c9 ca cb cc cd ce cf => k (.mk c0 c1 c2 c3 c4 c5 c6 c7 v c9 ca cb cc cd ce cf)) n)
    (fun n v k => N16.rec (motive := fun _ => Bool) (fun c0 c1 c2 c3 c4 c5 c6 c7 c8 _ ca cb cc cd ce cf => k (.mk c0 c1 c2 c3 c4 c5 c6 c7 c8 v ca cb cc cd ce cf)) n)
    (fun n v k => N16.rec (motive := fun _ => Bool) (fun c0 c1 c2 c3 c4 c5 c6 c7 c8 c9 _ cb cc cd ce cf => k (.mk c0 c1 c2 c3 c4 c5 c6 c7 c8 c9 v cb cc cd ce cf)) n)
    (fun n v k => N16.rec (motive := fun _ => Bool) (fun c0 c1 c2 c3 c4 c5 c6 c7 c8 c9 ca _ cc cd ce cf => k (.mk c0 c1 c2 c3 c4 c5 c6 c7 c8 c9 ca v cc cd ce cf)) n)
    (fun n v k => N16.rec (motive := fun _ => Bool) (fun c0 c1 c2 c3 c4 c5 c6 c7 c8 c9 ca cb _ cd ce cf => k (.mk c0 c1 c2 c3 c4 c5 c6 c7 c8 c9 ca cb v cd ce cf)) n)
    (fun n v k => N16.rec (motive := fun _ => Bool) (fun c0 c1 c2 c3 c4 c5 c6 c7 c8 c9 ca cb cc _ ce cf => k (.mk c0 c1 c2 c3 c4 c5 c6 c7 c8 c9 ca cb cc v ce cf)) n)
    (fun n v k => N16.rec (motive := fun _ => Bool) (fun c0 c1 c2 c3 c4 c5 c6 c7 c8 c9 ca cb cc cd _ cf => k (.mk c0 c1 c2 c3 c4 c5 c6 c7 c8 c9 ca cb cc cd v cf)) n)
    (fun n v k => N16.rec (motive := fun _ => Bool) (fun c0 c1 c2 c3 c4 c5 c6 c7 c8 c9 ca cb cc cd ce _ => k (.mk c0 c1 c2 c3 c4 c5 c6 c7 c8 c9 ca cb cc cd ce v)) n) d n v k
noncomputable def getS2 (d : D) (n : N16 (N16 Slot)) : N16 Slot := D.rec (motive := fun _ => N16 (N16 Slot) → N16 Slot) (fun n => n.c0) (fun n => n.c1) (fun n => n.c2) (fun n => n.c3) (fun n => n.c4) (fun n => n.c5) (fun n => n.c6) (fun n => n.c7) (fun n => n.c8) (fun n => n.c9) (fun n => n.ca) (fun n => n.cb) (fun n => n.cc) (fun n => n.cd) (fun n => n.ce) (fun n => n.cf) d n
noncomputable def setS2 (d : D) (n : N16 (N16 Slot)) (v : N16 Slot) (k : N16 (N16 Slot) → Bool) : Bool := D.rec (motive := fun _ => N16 (N16 Slot) → N16 Slot → (N16 (N16 Slot) → Bool) → Bool) (fun n v k => N16.rec (motive := fun _ => Bool) (fun _ c1 c2 c3 c4 c5 c6 c7 c8 c9 ca cb cc cd ce cf => k (.mk v c1 c2 c3 c4 c5 c6 c7 c8 c9 ca cb cc cd ce cf)) n)
    (fun n v k => N16.rec (motive := fun _ => Bool) (fun c0 _ c2 c3 c4 c5 c6 c7 c8 c9 ca cb cc cd ce cf => k (.mk c0 v c2 c3 c4 c5 c6 c7 c8 c9 ca cb cc cd ce cf)) n)
    (fun n v k => N16.rec (motive := fun _ => Bool) (fun c0 c1 _ c3 c4 c5 c6 c7 c8 c9 ca cb cc cd ce cf => k (.mk c0 c1 v c3 c4 c5 c6 c7 c8 c9 ca cb cc cd ce cf)) n)
    (fun n v k => N16.rec (motive := fun _ => Bool) (fun c0 c1 c2 _ c4 c5 c6 c7 c8 c9 ca cb cc cd ce cf => k (.mk c0 c1 c2 v c4 c5 c6 c7 c8 c9 ca cb cc cd ce cf)) n)
    (fun n v k => N16.rec (motive := fun _ => Bool) (fun c0 c1 c2 c3 _ c5 c6 c7 c8 c9 ca cb cc cd ce cf => k (.mk c0 c1 c2 c3 v c5 c6 c7 c8 c9 ca cb cc cd ce cf)) n)
    (fun n v k => N16.rec (motive := fun _ => Bool) (fun c0 c1 c2 c3 c4 _ c6 c7 c8 c9 ca cb cc cd ce cf => k (.mk c0 c1 c2 c3 c4 v c6 c7 c8 c9 ca cb cc cd ce cf)) n)
    (fun n v k => N16.rec (motive := fun _ => Bool) (fun c0 c1 c2 c3 c4 c5 _ c7 c8 c9 ca cb cc cd ce cf => k (.mk c0 c1 c2 c3 c4 c5 v c7 c8 c9 ca cb cc cd ce cf)) n)
    (fun n v k => N16.rec (motive := fun _ => Bool) (fun c0 c1 c2 c3 c4 c5 c6 _ c8 c9 ca cb cc cd ce cf => k (.mk c0 c1 c2 c3 c4 c5 c6 v c8 c9 ca cb cc cd ce cf)) n)
    (fun n v k => N16.rec (motive := fun _ => Bool) (fun c0 c1 c2 c3 c4 c5 c6 c7 _ c9 ca cb cc cd ce cf => k (.mk c0 c1 c2 c3 c4 c5 c6 c7 v c9 ca cb cc cd ce cf)) n)
    (fun n v k => N16.rec (motive := fun _ => Bool) (fun c0 c1 c2 c3 c4 c5 c6 c7 c8 _ ca cb cc cd ce cf => k (.mk c0 c1 c2 c3 c4 c5 c6 c7 c8 v ca cb cc cd ce cf)) n)
    (fun n v k => N16.rec (motive := fun _ => Bool) (fun c0 c1 c2 c3 c4 c5 c6 c7 c8 c9 _ cb cc cd ce cf => k (.mk c0 c1 c2 c3 c4 c5 c6 c7 c8 c9 v cb cc cd ce cf)) n)
    (fun n v k => N16.rec (motive := fun _ => Bool) (fun c0 c1 c2 c3 c4 c5 c6 c7 c8 c9 ca _ cc cd ce cf => k (.mk c0 c1 c2 c3 c4 c5 c6 c7 c8 c9 ca v cc cd ce cf)) n)
    (fun n v k => N16.rec (motive := fun _ => Bool) (fun c0 c1 c2 c3 c4 c5 c6 c7 c8 c9 ca cb _ cd ce cf => k (.mk c0 c1 c2 c3 c4 c5 c6 c7 c8 c9 ca cb v cd ce cf)) n)
    (fun n v k => N16.rec (motive := fun _ => Bool) (fun c0 c1 c2 c3 c4 c5 c6 c7 c8 c9 ca cb cc _ ce cf => k (.mk c0 c1 c2 c3 c4 c5 c6 c7 c8 c9 ca cb cc v ce cf)) n)
    (fun n v k => N16.rec (motive := fun _ => Bool) (fun c0 c1 c2 c3 c4 c5 c6 c7 c8 c9 ca cb cc cd _ cf => k (.mk c0 c1 c2 c3 c4 c5 c6 c7 c8 c9 ca cb cc cd v cf)) n)
    (fun n v k => N16.rec (motive := fun _ => Bool) (fun c0 c1 c2 c3 c4 c5 c6 c7 c8 c9 ca cb cc cd ce _ => k (.mk c0 c1 c2 c3 c4 c5 c6 c7 c8 c9 ca cb cc cd ce v)) n) d n v k
noncomputable def getS3 (d : D) (n : N16 (N16 (N16 Slot))) : N16 (N16 Slot) := D.rec (motive := fun _ => N16 (N16 (N16 Slot)) → N16 (N16 Slot)) (fun n => n.c0) (fun n => n.c1) (fun n => n.c2) (fun n => n.c3) (fun n => n.c4) (fun n => n.c5) (fun n => n.c6) (fun n => n.c7) (fun n => n.c8) (fun n => n.c9) (fun n => n.ca) (fun n => n.cb) (fun n => n.cc) (fun n => n.cd) (fun n => n.ce) (fun n => n.cf) d n
noncomputable def setS3 (d : D) (n : N16 (N16 (N16 Slot))) (v : N16 (N16 Slot)) (k : N16 (N16 (N16 Slot)) → Bool) : Bool := D.rec (motive := fun _ => N16 (N16 (N16 Slot)) → N16 (N16 Slot) → (N16 (N16 (N16 Slot)) → Bool) → Bool) (fun n v k => N16.rec (motive := fun _ => Bool) (fun _ c1 c2 c3 c4 c5 c6 c7 c8 c9 ca cb cc cd ce cf => k (.mk v c1 c2 c3 c4 c5 c6 c7 c8 c9 ca cb cc cd ce cf)) n)
    (fun n v k => N16.rec (motive := fun _ => Bool) (fun c0 _ c2 c3 c4 c5 c6 c7 c8 c9 ca cb cc cd ce cf => k (.mk c0 v c2 c3 c4 c5 c6 c7 c8 c9 ca cb cc cd ce cf)) n)
    (fun n v k => N16.rec (motive := fun _ => Bool) (fun c0 c1 _ c3 c4 c5 c6 c7 c8 c9 ca cb cc cd ce cf => k (.mk c0 c1 v c3 c4 c5 c6 c7 c8 c9 ca cb cc cd ce cf)) n)
    (fun n v k => N16.rec (motive := fun _ => Bool) (fun c0 c1 c2 _ c4 c5 c6 c7 c8 c9 ca cb cc cd ce cf => k (.mk c0 c1 c2 v c4 c5 c6 c7 c8 c9 ca cb cc cd ce cf)) n)
    (fun n v k => N16.rec (motive := fun _ => Bool) (fun c0 c1 c2 c3 _ c5 c6 c7 c8 c9 ca cb cc cd ce cf => k (.mk c0 c1 c2 c3 v c5 c6 c7 c8 c9 ca cb cc cd ce cf)) n)
    (fun n v k => N16.rec (motive := fun _ => Bool) (fun c0 c1 c2 c3 c4 _ c6 c7 c8 c9 ca cb cc cd ce cf => k (.mk c0 c1 c2 c3 c4 v c6 c7 c8 c9 ca cb cc cd ce cf)) n)
    (fun n v k => N16.rec (motive := fun _ => Bool) (fun c0 c1 c2 c3 c4 c5 _ c7 c8 c9 ca cb cc cd ce cf => k (.mk c0 c1 c2 c3 c4 c5 v c7 c8 c9 ca cb cc cd ce cf)) n)
    (fun n v k => N16.rec (motive := fun _ => Bool) (fun c0 c1 c2 c3 c4 c5 c6 _ c8 c9 ca cb cc cd ce cf => k (.mk c0 c1 c2 c3 c4 c5 c6 v c8 c9 ca cb cc cd ce cf)) n)
    (fun n v k => N16.rec (motive := fun _ => Bool) (fun c0 c1 c2 c3 c4 c5 c6 c7 _ c9 ca cb cc cd ce cf => k (.mk c0 c1 c2 c3 c4 c5 c6 c7 v c9 ca cb cc cd ce cf)) n)
    (fun n v k => N16.rec (motive := fun _ => Bool) (fun c0 c1 c2 c3 c4 c5 c6 c7 c8 _ ca cb cc cd ce cf => k (.mk c0 c1 c2 c3 c4 c5 c6 c7 c8 v ca cb cc cd ce cf)) n)
    (fun n v k => N16.rec (motive := fun _ => Bool) (fun c0 c1 c2 c3 c4 c5 c6 c7 c8 c9 _ cb cc cd ce cf => k (.mk c0 c1 c2 c3 c4 c5 c6 c7 c8 c9 v cb cc cd ce cf)) n)
    (fun n v k => N16.rec (motive := fun _ => Bool) (fun c0 c1 c2 c3 c4 c5 c6 c7 c8 c9 ca _ cc cd ce cf => k (.mk c0 c1 c2 c3 c4 c5 c6 c7 c8 c9 ca v cc cd ce cf)) n)
    (fun n v k => N16.rec (motive := fun _ => Bool) (fun c0 c1 c2 c3 c4 c5 c6 c7 c8 c9 ca cb _ cd ce cf => k (.mk c0 c1 c2 c3 c4 c5 c6 c7 c8 c9 ca cb v cd ce cf)) n)
    (fun n v k => N16.rec (motive := fun _ => Bool) (fun c0 c1 c2 c3 c4 c5 c6 c7 c8 c9 ca cb cc _ ce cf => k (.mk c0 c1 c2 c3 c4 c5 c6 c7 c8 c9 ca cb cc v ce cf)) n)
    (fun n v k => N16.rec (motive := fun _ => Bool) (fun c0 c1 c2 c3 c4 c5 c6 c7 c8 c9 ca cb cc cd _ cf => k (.mk c0 c1 c2 c3 c4 c5 c6 c7 c8 c9 ca cb cc cd v cf)) n)
    (fun n v k => N16.rec (motive := fun _ => Bool) (fun c0 c1 c2 c3 c4 c5 c6 c7 c8 c9 ca cb cc cd ce _ => k (.mk c0 c1 c2 c3 c4 c5 c6 c7 c8 c9 ca cb cc cd ce v)) n) d n v k
noncomputable def getS4 (d : D) (n : N16 (N16 (N16 (N16 Slot)))) : N16 (N16 (N16 Slot)) := D.rec (motive := fun _ => N16 (N16 (N16 (N16 Slot))) → N16 (N16 (N16 Slot))) (fun n => n.c0) (fun n => n.c1) (fun n => n.c2) (fun n => n.c3) (fun n => n.c4) (fun n => n.c5) (fun n => n.c6) (fun n => n.c7) (fun n => n.c8) (fun n => n.c9) (fun n => n.ca) (fun n => n.cb) (fun n => n.cc) (fun n => n.cd) (fun n => n.ce) (fun n => n.cf) d n
noncomputable def setS4 (d : D) (n : N16 (N16 (N16 (N16 Slot)))) (v : N16 (N16 (N16 Slot))) (k : N16 (N16 (N16 (N16 Slot))) → Bool) : Bool := D.rec (motive := fun _ => N16 (N16 (N16 (N16 Slot))) → N16 (N16 (N16 Slot)) → (N16 (N16 (N16 (N16 Slot))) → Bool) → Bool) (fun n v k => N16.rec (motive := fun _ => Bool) (fun _ c1 c2 c3 c4 c5 c6 c7 c8 c9 ca cb cc cd ce cf => k (.mk v c1 c2 c3 c4 c5 c6 c7 c8 c9 ca cb cc cd ce cf)) n)
    (fun n v k => N16.rec (motive := fun _ => Bool) (fun c0 _ c2 c3 c4 c5 c6 c7 c8 c9 ca cb cc cd ce cf => k (.mk c0 v c2 c3 c4 c5 c6 c7 c8 c9 ca cb cc cd ce cf)) n)
    (fun n v k => N16.rec (motive := fun _ => Bool) (fun c0 c1 _ c3 c4 c5 c6 c7 c8 c9 ca cb cc cd ce cf => k (.mk c0 c1 v c3 c4 c5 c6 c7 c8 c9 ca cb cc cd ce cf)) n)
    (fun n v k => N16.rec (motive := fun _ => Bool) (fun c0 c1 c2 _ c4 c5 c6 c7 c8 c9 ca cb cc cd ce cf => k (.mk c0 c1 c2 v c4 c5 c6 c7 c8 c9 ca cb cc cd ce cf)) n)
    (fun n v k => N16.rec (motive := fun _ => Bool) (fun c0 c1 c2 c3 _ c5 c6 c7 c8 c9 ca cb cc cd ce cf => k (.mk c0 c1 c2 c3 v c5 c6 c7 c8 c9 ca cb cc cd ce cf)) n)
    (fun n v k => N16.rec (motive := fun _ => Bool) (fun c0 c1 c2 c3 c4 _ c6 c7 c8 c9 ca cb cc cd ce cf => k (.mk c0 c1 c2 c3 c4 v c6 c7 c8 c9 ca cb cc cd ce cf)) n)
    (fun n v k => N16.rec (motive := fun _ => Bool) (fun c0 c1 c2 c3 c4 c5 _ c7 c8 c9 ca cb cc cd ce cf => k (.mk c0 c1 c2 c3 c4 c5 v c7 c8 c9 ca cb cc cd ce cf)) n)
    (fun n v k => N16.rec (motive := fun _ => Bool) (fun c0 c1 c2 c3 c4 c5 c6 _ c8 c9 ca cb cc cd ce cf => k (.mk c0 c1 c2 c3 c4 c5 c6 v c8 c9 ca cb cc cd ce cf)) n)
    (fun n v k => N16.rec (motive := fun _ => Bool) (fun c0 c1 c2 c3 c4 c5 c6 c7 _ c9 ca cb cc cd ce cf => k (.mk c0 c1 c2 c3 c4 c5 c6 c7 v c9 ca cb cc cd ce cf)) n)
    (fun n v k => N16.rec (motive := fun _ => Bool) (fun c0 c1 c2 c3 c4 c5 c6 c7 c8 _ ca cb cc cd ce cf => k (.mk c0 c1 c2 c3 c4 c5 c6 c7 c8 v ca cb cc cd ce cf)) n)
    (fun n v k => N16.rec (motive := fun _ => Bool) (fun c0 c1 c2 c3 c4 c5 c6 c7 c8 c9 _ cb cc cd ce cf => k (.mk c0 c1 c2 c3 c4 c5 c6 c7 c8 c9 v cb cc cd ce cf)) n)
    (fun n v k => N16.rec (motive := fun _ => Bool) (fun c0 c1 c2 c3 c4 c5 c6 c7 c8 c9 ca _ cc cd ce cf => k (.mk c0 c1 c2 c3 c4 c5 c6 c7 c8 c9 ca v cc cd ce cf)) n)
    (fun n v k => N16.rec (motive := fun _ => Bool) (fun c0 c1 c2 c3 c4 c5 c6 c7 c8 c9 ca cb _ cd ce cf => k (.mk c0 c1 c2 c3 c4 c5 c6 c7 c8 c9 ca cb v cd ce cf)) n)
    (fun n v k => N16.rec (motive := fun _ => Bool) (fun c0 c1 c2 c3 c4 c5 c6 c7 c8 c9 ca cb cc _ ce cf => k (.mk c0 c1 c2 c3 c4 c5 c6 c7 c8 c9 ca cb cc v ce cf)) n)
    (fun n v k => N16.rec (motive := fun _ => Bool) (fun c0 c1 c2 c3 c4 c5 c6 c7 c8 c9 ca cb cc cd _ cf => k (.mk c0 c1 c2 c3 c4 c5 c6 c7 c8 c9 ca cb cc cd v cf)) n)
    (fun n v k => N16.rec (motive := fun _ => Bool) (fun c0 c1 c2 c3 c4 c5 c6 c7 c8 c9 ca cb cc cd ce _ => k (.mk c0 c1 c2 c3 c4 c5 c6 c7 c8 c9 ca cb cc cd ce v)) n) d n v k
noncomputable def getL1 (d : D) (n : N16 (List V)) : List V := D.rec (motive := fun _ => N16 (List V) → List V) (fun n => n.c0) (fun n => n.c1) (fun n => n.c2) (fun n => n.c3) (fun n => n.c4) (fun n => n.c5) (fun n => n.c6) (fun n => n.c7) (fun n => n.c8) (fun n => n.c9) (fun n => n.ca) (fun n => n.cb) (fun n => n.cc) (fun n => n.cd) (fun n => n.ce) (fun n => n.cf) d n
noncomputable def setL1 (d : D) (n : N16 (List V)) (v : List V) (k : N16 (List V) → Bool) : Bool := D.rec (motive := fun _ => N16 (List V) → List V → (N16 (List V) → Bool) → Bool) (fun n v k => N16.rec (motive := fun _ => Bool) (fun _ c1 c2 c3 c4 c5 c6 c7 c8 c9 ca cb cc cd ce cf => k (.mk v c1 c2 c3 c4 c5 c6 c7 c8 c9 ca cb cc cd ce cf)) n)
    (fun n v k => N16.rec (motive := fun _ => Bool) (fun c0 _ c2 c3 c4 c5 c6 c7 c8 c9 ca cb cc cd ce cf => k (.mk c0 v c2 c3 c4 c5 c6 c7 c8 c9 ca cb cc cd ce cf)) n)
    (fun n v k => N16.rec (motive := fun _ => Bool) (fun c0 c1 _ c3 c4 c5 c6 c7 c8 c9 ca cb cc cd ce cf => k (.mk c0 c1 v c3 c4 c5 c6 c7 c8 c9 ca cb cc cd ce cf)) n)
    (fun n v k => N16.rec (motive := fun _ => Bool) (fun c0 c1 c2 _ c4 c5 c6 c7 c8 c9 ca cb cc cd ce cf => k (.mk c0 c1 c2 v c4 c5 c6 c7 c8 c9 ca cb cc cd ce cf)) n)
    (fun n v k => N16.rec (motive := fun _ => Bool) (fun c0 c1 c2 c3 _ c5 c6 c7 c8 c9 ca cb cc cd ce cf => k (.mk c0 c1 c2 c3 v c5 c6 c7 c8 c9 ca cb cc cd ce cf)) n)
    (fun n v k => N16.rec (motive := fun _ => Bool) (fun c0 c1 c2 c3 c4 _ c6 c7 c8 c9 ca cb cc cd ce cf => k (.mk c0 c1 c2 c3 c4 v c6 c7 c8 c9 ca cb cc cd ce cf)) n)
    (fun n v k => N16.rec (motive := fun _ => Bool) (fun c0 c1 c2 c3 c4 c5 _ c7 c8 c9 ca cb cc cd ce cf => k (.mk c0 c1 c2 c3 c4 c5 v c7 c8 c9 ca cb cc cd ce cf)) n)
    (fun n v k => N16.rec (motive := fun _ => Bool) (fun c0 c1 c2 c3 c4 c5 c6 _ c8 c9 ca cb cc cd ce cf => k (.mk c0 c1 c2 c3 c4 c5 c6 v c8 c9 ca cb cc cd ce cf)) n)
    (fun n v k => N16.rec (motive := fun _ => Bool) (fun c0 c1 c2 c3 c4 c5 c6 c7 _ c9 ca cb cc cd ce cf => k (.mk c0 c1 c2 c3 c4 c5 c6 c7 v c9 ca cb cc cd ce cf)) n)
    (fun n v k => N16.rec (motive := fun _ => Bool) (fun c0 c1 c2 c3 c4 c5 c6 c7 c8 _ ca cb cc cd ce cf => k (.mk c0 c1 c2 c3 c4 c5 c6 c7 c8 v ca cb cc cd ce cf)) n)
    (fun n v k => N16.rec (motive := fun _ => Bool) (fun c0 c1 c2 c3 c4 c5 c6 c7 c8 c9 _ cb cc cd ce cf => k (.mk c0 c1 c2 c3 c4 c5 c6 c7 c8 c9 v cb cc cd ce cf)) n)
    (fun n v k => N16.rec (motive := fun _ => Bool) (fun c0 c1 c2 c3 c4 c5 c6 c7 c8 c9 ca _ cc cd ce cf => k (.mk c0 c1 c2 c3 c4 c5 c6 c7 c8 c9 ca v cc cd ce cf)) n)
    (fun n v k => N16.rec (motive := fun _ => Bool) (fun c0 c1 c2 c3 c4 c5 c6 c7 c8 c9 ca cb _ cd ce cf => k (.mk c0 c1 c2 c3 c4 c5 c6 c7 c8 c9 ca cb v cd ce cf)) n)
    (fun n v k => N16.rec (motive := fun _ => Bool) (fun c0 c1 c2 c3 c4 c5 c6 c7 c8 c9 ca cb cc _ ce cf => k (.mk c0 c1 c2 c3 c4 c5 c6 c7 c8 c9 ca cb cc v ce cf)) n)
    (fun n v k => N16.rec (motive := fun _ => Bool) (fun c0 c1 c2 c3 c4 c5 c6 c7 c8 c9 ca cb cc cd _ cf => k (.mk c0 c1 c2 c3 c4 c5 c6 c7 c8 c9 ca cb cc cd v cf)) n)
    (fun n v k => N16.rec (motive := fun _ => Bool) (fun c0 c1 c2 c3 c4 c5 c6 c7 c8 c9 ca cb cc cd ce _ => k (.mk c0 c1 c2 c3 c4 c5 c6 c7 c8 c9 ca cb cc cd ce v)) n) d n v k
noncomputable def getL2 (d : D) (n : N16 (N16 (List V))) : N16 (List V) := D.rec (motive := fun _ => N16 (N16 (List V)) → N16 (List V)) (fun n => n.c0) (fun n => n.c1) (fun n => n.c2) (fun n => n.c3) (fun n => n.c4) (fun n => n.c5) (fun n => n.c6) (fun n => n.c7) (fun n => n.c8) (fun n => n.c9) (fun n => n.ca) (fun n => n.cb) (fun n => n.cc) (fun n => n.cd) (fun n => n.ce) (fun n => n.cf) d n
noncomputable def setL2 (d : D) (n : N16 (N16 (List V))) (v : N16 (List V)) (k : N16 (N16 (List V)) → Bool) : Bool := D.rec (motive := fun _ => N16 (N16 (List V)) → N16 (List V) → (N16 (N16 (List V)) → Bool) → Bool) (fun n v k => N16.rec (motive := fun _ => Bool) (fun _ c1 c2 c3 c4 c5 c6 c7 c8 c9 ca cb cc cd ce cf => k (.mk v c1 c2 c3 c4 c5 c6 c7 c8 c9 ca cb cc cd ce cf)) n)
    (fun n v k => N16.rec (motive := fun _ => Bool) (fun c0 _ c2 c3 c4 c5 c6 c7 c8 c9 ca cb cc cd ce cf => k (.mk c0 v c2 c3 c4 c5 c6 c7 c8 c9 ca cb cc cd ce cf)) n)
    (fun n v k => N16.rec (motive := fun _ => Bool) (fun c0 c1 _ c3 c4 c5 c6 c7 c8 c9 ca cb cc cd ce cf => k (.mk c0 c1 v c3 c4 c5 c6 c7 c8 c9 ca cb cc cd ce cf)) n)
    (fun n v k => N16.rec (motive := fun _ => Bool) (fun c0 c1 c2 _ c4 c5 c6 c7 c8 c9 ca cb cc cd ce cf => k (.mk c0 c1 c2 v c4 c5 c6 c7 c8 c9 ca cb cc cd ce cf)) n)
    (fun n v k => N16.rec (motive := fun _ => Bool) (fun c0 c1 c2 c3 _ c5 c6 c7 c8 c9 ca cb cc cd ce cf => k (.mk c0 c1 c2 c3 v c5 c6 c7 c8 c9 ca cb cc cd ce cf)) n)
    (fun n v k => N16.rec (motive := fun _ => Bool) (fun c0 c1 c2 c3 c4 _ c6 c7 c8 c9 ca cb cc cd ce cf => k (.mk c0 c1 c2 c3 c4 v c6 c7 c8 c9 ca cb cc cd ce cf)) n)
    (fun n v k => N16.rec (motive := fun _ => Bool) (fun c0 c1 c2 c3 c4 c5 _ c7 c8 c9 ca cb cc cd ce cf => k (.mk c0 c1 c2 c3 c4 c5 v c7 c8 c9 ca cb cc cd ce cf)) n)
    (fun n v k => N16.rec (motive := fun _ => Bool) (fun c0 c1 c2 c3 c4 c5 c6 _ c8 c9 ca cb cc cd ce cf => k (.mk c0 c1 c2 c3 c4 c5 c6 v c8 c9 ca cb cc cd ce cf)) n)
    (fun n v k => N16.rec (motive := fun _ => Bool) (fun c0 c1 c2 c3 c4 c5 c6 c7 _ c9 ca cb cc cd ce cf => k (.mk c0 c1 c2 c3 c4 c5 c6 c7 v c9 ca cb cc cd ce cf)) n)
    (fun n v k => N16.rec (motive := fun _ => Bool) (fun c0 c1 c2 c3 c4 c5 c6 c7 c8 _ ca cb cc cd ce cf => k (.mk c0 c1 c2 c3 c4 c5 c6 c7 c8 v ca cb cc cd ce cf)) n)
    (fun n v k => N16.rec (motive := fun _ => Bool) (fun c0 c1 c2 c3 c4 c5 c6 c7 c8 c9 _ cb cc cd ce cf => k (.mk c0 c1 c2 c3 c4 c5 c6 c7 c8 c9 v cb cc cd ce cf)) n)
    (fun n v k => N16.rec (motive := fun _ => Bool) (fun c0 c1 c2 c3 c4 c5 c6 c7 c8 c9 ca _ cc cd ce cf => k (.mk c0 c1 c2 c3 c4 c5 c6 c7 c8 c9 ca v cc cd ce cf)) n)
    (fun n v k => N16.rec (motive := fun _ => Bool) (fun c0 c1 c2 c3 c4 c5 c6 c7 c8 c9 ca cb _ cd ce cf => k (.mk c0 c1 c2 c3 c4 c5 c6 c7 c8 c9 ca cb v cd ce cf)) n)
    (fun n v k => N16.rec (motive := fun _ => Bool) (fun c0 c1 c2 c3 c4 c5 c6 c7 c8 c9 ca cb cc _ ce cf => k (.mk c0 c1 c2 c3 c4 c5 c6 c7 c8 c9 ca cb cc v ce cf)) n)
    (fun n v k => N16.rec (motive := fun _ => Bool) (fun c0 c1 c2 c3 c4 c5 c6 c7 c8 c9 ca cb cc cd _ cf => k (.mk c0 c1 c2 c3 c4 c5 c6 c7 c8 c9 ca cb cc cd v cf)) n)
    (fun n v k => N16.rec (motive := fun _ => Bool) (fun c0 c1 c2 c3 c4 c5 c6 c7 c8 c9 ca cb cc cd ce _ => k (.mk c0 c1 c2 c3 c4 c5 c6 c7 c8 c9 ca cb cc cd ce v)) n) d n v k
noncomputable def getL3 (d : D) (n : N16 (N16 (N16 (List V)))) : N16 (N16 (List V)) := D.rec (motive := fun _ => N16 (N16 (N16 (List V))) → N16 (N16 (List V))) (fun n => n.c0) (fun n => n.c1) (fun n => n.c2) (fun n => n.c3) (fun n => n.c4) (fun n => n.c5) (fun n => n.c6) (fun n => n.c7) (fun n => n.c8) (fun n => n.c9) (fun n => n.ca) (fun n => n.cb) (fun n => n.cc) (fun n => n.cd) (fun n => n.ce) (fun n => n.cf) d n
noncomputable def setL3 (d : D) (n : N16 (N16 (N16 (List V)))) (v : N16 (N16 (List V))) (k : N16 (N16 (N16 (List V))) → Bool) : Bool := D.rec (motive := fun _ => N16 (N16 (N16 (List V))) → N16 (N16 (List V)) → (N16 (N16 (N16 (List V))) → Bool) → Bool) (fun n v k => N16.rec (motive := fun _ => Bool) (fun _ c1 c2 c3 c4 c5 c6 c7 c8 c9 ca cb cc cd ce cf => k (.mk v c1 c2 c3 c4 c5 c6 c7 c8 c9 ca cb cc cd ce cf)) n)
    (fun n v k => N16.rec (motive := fun _ => Bool) (fun c0 _ c2 c3 c4 c5 c6 c7 c8 c9 ca cb cc cd ce cf => k (.mk c0 v c2 c3 c4 c5 c6 c7 c8 c9 ca cb cc cd ce cf)) n)
    (fun n v k => N16.rec (motive := fun _ => Bool) (fun c0 c1 _ c3 c4 c5 c6 c7 c8 c9 ca cb cc cd ce cf => k (.mk c0 c1 v c3 c4 c5 c6 c7 c8 c9 ca cb cc cd ce cf)) n)
    (fun n v k => N16.rec (motive := fun _ => Bool) (fun c0 c1 c2 _ c4 c5 c6 c7 c8 c9 ca cb cc cd ce cf => k (.mk c0 c1 c2 v c4 c5 c6 c7 c8 c9 ca cb cc cd ce cf)) n)
    (fun n v k => N16.rec (motive := fun _ => Bool) (fun c0 c1 c2 c3 _ c5 c6 c7 c8 c9 ca cb cc cd ce cf => k (.mk c0 c1 c2 c3 v c5 c6 c7 c8 c9 ca cb cc cd ce cf)) n)
    (fun n v k => N16.rec (motive := fun _ => Bool) (fun c0 c1 c2 c3 c4 _ c6 c7 c8 c9 ca cb cc cd ce cf => k (.mk c0 c1 c2 c3 c4 v c6 c7 c8 c9 ca cb cc cd ce cf)) n)
    (fun n v k => N16.rec (motive := fun _ => Bool) (fun c0 c1 c2 c3 c4 c5 _ c7 c8 c9 ca cb cc cd ce cf => k (.mk c0 c1 c2 c3 c4 c5 v c7 c8 c9 ca cb cc cd ce cf)) n)
    (fun n v k => N16.rec (motive := fun _ => Bool) (fun c0 c1 c2 c3 c4 c5 c6 _ c8 c9 ca cb cc cd ce cf => k (.mk c0 c1 c2 c3 c4 c5 c6 v c8 c9 ca cb cc cd ce cf)) n)
    (fun n v k => N16.rec (motive := fun _ => Bool) (fun c0 c1 c2 c3 c4 c5 c6 c7 _ c9 ca cb cc cd ce cf => k (.mk c0 c1 c2 c3 c4 c5 c6 c7 v c9 ca cb cc cd ce cf)) n)
    (fun n v k => N16.rec (motive := fun _ => Bool) (fun c0 c1 c2 c3 c4 c5 c6 c7 c8 _ ca cb cc cd ce cf => k (.mk c0 c1 c2 c3 c4 c5 c6 c7 c8 v ca cb cc cd ce cf)) n)
    (fun n v k => N16.rec (motive := fun _ => Bool) (fun c0 c1 c2 c3 c4 c5 c6 c7 c8 c9 _ cb cc cd ce cf => k (.mk c0 c1 c2 c3 c4 c5 c6 c7 c8 c9 v cb cc cd ce cf)) n)
    (fun n v k => N16.rec (motive := fun _ => Bool) (fun c0 c1 c2 c3 c4 c5 c6 c7 c8 c9 ca _ cc cd ce cf => k (.mk c0 c1 c2 c3 c4 c5 c6 c7 c8 c9 ca v cc cd ce cf)) n)
    (fun n v k => N16.rec (motive := fun _ => Bool) (fun c0 c1 c2 c3 c4 c5 c6 c7 c8 c9 ca cb _ cd ce cf => k (.mk c0 c1 c2 c3 c4 c5 c6 c7 c8 c9 ca cb v cd ce cf)) n)
    (fun n v k => N16.rec (motive := fun _ => Bool) (fun c0 c1 c2 c3 c4 c5 c6 c7 c8 c9 ca cb cc _ ce cf => k (.mk c0 c1 c2 c3 c4 c5 c6 c7 c8 c9 ca cb cc v ce cf)) n)
    (fun n v k => N16.rec (motive := fun _ => Bool) (fun c0 c1 c2 c3 c4 c5 c6 c7 c8 c9 ca cb cc cd _ cf => k (.mk c0 c1 c2 c3 c4 c5 c6 c7 c8 c9 ca cb cc cd v cf)) n)
    (fun n v k => N16.rec (motive := fun _ => Bool) (fun c0 c1 c2 c3 c4 c5 c6 c7 c8 c9 ca cb cc cd ce _ => k (.mk c0 c1 c2 c3 c4 c5 c6 c7 c8 c9 ca cb cc cd ce v)) n) d n v k
noncomputable def getE (d : Q) (n : N20 (N16 V)) : N16 V := Q.rec (motive := fun _ => N20 (N16 V) → N16 V) (fun n => n.e0) (fun n => n.e1) (fun n => n.e2) (fun n => n.e3) (fun n => n.e4) (fun n => n.e5) (fun n => n.e6) (fun n => n.e7) (fun n => n.e8) (fun n => n.e9) (fun n => n.e10) (fun n => n.e11) (fun n => n.e12) (fun n => n.e13) (fun n => n.e14) (fun n => n.e15) (fun n => n.e16) (fun n => n.e17) (fun n => n.e18) (fun n => n.e19) d n
noncomputable def setE (d : Q) (n : N20 (N16 V)) (v : N16 V) (k : N20 (N16 V) → Bool) : Bool := Q.rec (motive := fun _ => N20 (N16 V) → N16 V → (N20 (N16 V) → Bool) → Bool) (fun n v k => N20.rec (motive := fun _ => Bool) (fun _ e1 e2 e3 e4 e5 e6 e7 e8 e9 e10 e11 e12 e13 e14 e15 e16 e17 e18 e19 => k (.mk v e1 e2 e3 e4 e5 e6 e7 e8 e9 e10 e11 e12 e13 e14 e15 e16 e17 e18 e19)) n)
    (fun n v k => N20.rec (motive := fun _ => Bool) (fun e0 _ e2 e3 e4 e5 e6 e7 e8 e9 e10 e11 e12 e13 e14 e15 e16 e17 e18 e19 => k (.mk e0 v e2 e3 e4 e5 e6 e7 e8 e9 e10 e11 e12 e13 e14 e15 e16 e17 e18 e19)) n)
    (fun n v k => N20.rec (motive := fun _ => Bool) (fun e0 e1 _ e3 e4 e5 e6 e7 e8 e9 e10 e11 e12 e13 e14 e15 e16 e17 e18 e19 => k (.mk e0 e1 v e3 e4 e5 e6 e7 e8 e9 e10 e11 e12 e13 e14 e15 e16 e17 e18 e19)) n)
    (fun n v k => N20.rec (motive := fun _ => Bool) (fun e0 e1 e2 _ e4 e5 e6 e7 e8 e9 e10 e11 e12 e13 e14 e15 e16 e17 e18 e19 => k (.mk e0 e1 e2 v e4 e5 e6 e7 e8 e9 e10 e11 e12 e13 e14 e15 e16 e17 e18 e19)) n)
    (fun n v k => N20.rec (motive := fun _ => Bool) (fun e0 e1 e2 e3 _ e5 e6 e7 e8 e9 e10 e11 e12 e13 e14 e15 e16 e17 e18 e19 => k (.mk e0 e1 e2 e3 v e5 e6 e7 e8 e9 e10 e11 e12 e13 e14 e15 e16 e17 e18 e19)) n)
    (fun n v k => N20.rec (motive := fun _ => Bool) (fun e0 e1 e2 e3 e4 _ e6 e7 e8 e9 e10 e11 e12 e13 e14 e15 e16 e17 e18 e19 => k (.mk e0 e1 e2 e3 e4 v e6 e7 e8 e9 e10 e11 e12 e13 e14 e15 e16 e17 e18 e19)) n)
    (fun n v k => N20.rec (motive := fun _ => Bool) (fun e0 e1 e2 e3 e4 e5 _ e7 e8 e9 e10 e11 e12 e13 e14 e15 e16 e17 e18 e19 => k (.mk e0 e1 e2 e3 e4 e5 v e7 e8 e9 e10 e11 e12 e13 e14 e15 e16 e17 e18 e19)) n)
    (fun n v k => N20.rec (motive := fun _ => Bool) (fun e0 e1 e2 e3 e4 e5 e6 _ e8 e9 e10 e11 e12 e13 e14 e15 e16 e17 e18 e19 => k (.mk e0 e1 e2 e3 e4 e5 e6 v e8 e9 e10 e11 e12 e13 e14 e15 e16 e17 e18 e19)) n)
    (fun n v k => N20.rec (motive := fun _ => Bool) (fun e0 e1 e2 e3 e4 e5 e6 e7 _ e9 e10 e11 e12 e13 e14 e15 e16 e17 e18 e19 => k (.mk e0 e1 e2 e3 e4 e5 e6 e7 v e9 e10 e11 e12 e13 e14 e15 e16 e17 e18 e19)) n)
    (fun n v k => N20.rec (motive := fun _ => Bool) (fun e0 e1 e2 e3 e4 e5 e6 e7 e8 _ e10 e11 e12 e13 e14 e15 e16 e17 e18 e19 => k (.mk e0 e1 e2 e3 e4 e5 e6 e7 e8 v e10 e11 e12 e13 e14 e15 e16 e17 e18 e19)) n)
    (fun n v k => N20.rec (motive := fun _ => Bool) (fun e0 e1 e2 e3 e4 e5 e6 e7 e8 e9 _ e11 e12 e13 e14 e15 e16 e17 e18 e19 => k (.mk e0 e1 e2 e3 e4 e5 e6 e7 e8 e9 v e11 e12 e13 e14 e15 e16 e17 e18 e19)) n)
    (fun n v k => N20.rec (motive := fun _ => Bool) (fun e0 e1 e2 e3 e4 e5 e6 e7 e8 e9 e10 _ e12 e13 e14 e15 e16 e17 e18 e19 => k (.mk e0 e1 e2 e3 e4 e5 e6 e7 e8 e9 e10 v e12 e13 e14 e15 e16 e17 e18 e19)) n)
    (fun n v k => N20.rec (motive := fun _ => Bool) (fun e0 e1 e2 e3 e4 e5 e6 e7 e8 e9 e10 e11 _ e13 e14 e15 e16 e17 e18 e19 => k (.mk e0 e1 e2 e3 e4 e5 e6 e7 e8 e9 e10 e11 v e13 e14 e15 e16 e17 e18 e19)) n)
    (fun n v k => N20.rec (motive := fun _ => Bool) (fun e0 e1 e2 e3 e4 e5 e6 e7 e8 e9 e10 e11 e12 _ e14 e15 e16 e17 e18 e19 => k (.mk e0 e1 e2 e3 e4 e5 e6 e7 e8 e9 e10 e11 e12 v e14 e15 e16 e17 e18 e19)) n)
    (fun n v k => N20.rec (motive := fun _ => Bool) (fun e0 e1 e2 e3 e4 e5 e6 e7 e8 e9 e10 e11 e12 e13 _ e15 e16 e17 e18 e19 => k (.mk e0 e1 e2 e3 e4 e5 e6 e7 e8 e9 e10 e11 e12 e13 v e15 e16 e17 e18 e19)) n)
    (fun n v k => N20.rec (motive := fun _ => Bool) (fun e0 e1 e2 e3 e4 e5 e6 e7 e8 e9 e10 e11 e12 e13 e14 _ e16 e17 e18 e19 => k (.mk e0 e1 e2 e3 e4 e5 e6 e7 e8 e9 e10 e11 e12 e13 e14 v e16 e17 e18 e19)) n)
    (fun n v k => N20.rec (motive := fun _ => Bool) (fun e0 e1 e2 e3 e4 e5 e6 e7 e8 e9 e10 e11 e12 e13 e14 e15 _ e17 e18 e19 => k (.mk e0 e1 e2 e3 e4 e5 e6 e7 e8 e9 e10 e11 e12 e13 e14 e15 v e17 e18 e19)) n)
    (fun n v k => N20.rec (motive := fun _ => Bool) (fun e0 e1 e2 e3 e4 e5 e6 e7 e8 e9 e10 e11 e12 e13 e14 e15 e16 _ e18 e19 => k (.mk e0 e1 e2 e3 e4 e5 e6 e7 e8 e9 e10 e11 e12 e13 e14 e15 e16 v e18 e19)) n)
    (fun n v k => N20.rec (motive := fun _ => Bool) (fun e0 e1 e2 e3 e4 e5 e6 e7 e8 e9 e10 e11 e12 e13 e14 e15 e16 e17 _ e19 => k (.mk e0 e1 e2 e3 e4 e5 e6 e7 e8 e9 e10 e11 e12 e13 e14 e15 e16 e17 v e19)) n)
    (fun n v k => N20.rec (motive := fun _ => Bool) (fun e0 e1 e2 e3 e4 e5 e6 e7 e8 e9 e10 e11 e12 e13 e14 e15 e16 e17 e18 _ => k (.mk e0 e1 e2 e3 e4 e5 e6 e7 e8 e9 e10 e11 e12 e13 e14 e15 e16 e17 e18 v)) n) d n v k

-- digits of numbers
noncomputable def dig (n : Nat) : D :=
  (Bool.rec (motive := fun _ => _) ((Bool.rec (motive := fun _ => _) ((Bool.rec (motive := fun _ => _) ((Bool.rec (motive := fun _ => _) .df .de (Nat.ble n 14))) ((Bool.rec (motive := fun _ => _) .dd .dc (Nat.ble n 12))) (Nat.ble n 13))) ((Bool.rec (motive := fun _ => _) ((Bool.rec (motive := fun _ => _) .db .da (Nat.ble n 10))) ((Bool.rec (motive := fun _ => _) .d9 .d8 (Nat.ble n 8))) (Nat.ble n 9))) (Nat.ble n 11))) ((Bool.rec (motive := fun _ => _) ((Bool.rec (motive := fun _ => _) ((Bool.rec (motive := fun _ => _) .d7 .d6 (Nat.ble n 6))) ((Bool.rec (motive := fun _ => _) .d5 .d4 (Nat.ble n 4))) (Nat.ble n 5))) ((Bool.rec (motive := fun _ => _) ((Bool.rec (motive := fun _ => _) .d3 .d2 (Nat.ble n 2))) ((Bool.rec (motive := fun _ => _) .d1 .d0 (Nat.ble n 0))) (Nat.ble n 1))) (Nat.ble n 3))) (Nat.ble n 7))
noncomputable def qig (n : Nat) : Q :=
  (Bool.rec (motive := fun _ => _) ((Bool.rec (motive := fun _ => _) ((Bool.rec (motive := fun _ => _) ((Bool.rec (motive := fun _ => _) ((Bool.rec (motive := fun _ => _) .q19 .q18 (Nat.ble n 18))) .q17 (Nat.ble n 17))) .q16 (Nat.ble n 16))) ((Bool.rec (motive := fun _ => _) ((Bool.rec (motive := fun _ => _) ((Bool.rec (motive := fun _ => _) .q15 .q14 (Nat.ble n 14))) ((Bool.rec (motive := fun _ => _) .q13 .q12 (Nat.ble n 12))) (Nat.ble n 13))) ((Bool.rec (motive := fun _ => _) ((Bool.rec (motive := fun _ => _) .q11 .q10 (Nat.ble n 10))) ((Bool.rec (motive := fun _ => _) .q9 .q8 (Nat.ble n 8))) (Nat.ble n 9))) (Nat.ble n 11))) (Nat.ble n 15))) ((Bool.rec (motive := fun _ => _) ((Bool.rec (motive := fun _ => _) ((Bool.rec (motive := fun _ => _) .q7 .q6 (Nat.ble n 6))) ((Bool.rec (motive := fun _ => _) .q5 .q4 (Nat.ble n 4))) (Nat.ble n 5))) ((Bool.rec (motive := fun _ => _) ((Bool.rec (motive := fun _ => _) .q3 .q2 (Nat.ble n 2))) ((Bool.rec (motive := fun _ => _) .q1 .q0 (Nat.ble n 0))) (Nat.ble n 1))) (Nat.ble n 3))) (Nat.ble n 7))
noncomputable def Q.num (d : Q) : Nat := Q.el 0 1 2 3 4 5 6 7 8 9 10 11 12 13 14 15 16 17 18 19 d
noncomputable def D.num (d : D) : Nat := D.el 0 1 2 3 4 5 6 7 8 9 10 11 12 13 14 15 d
noncomputable def band (a b : Bool) : Bool := (Bool.rec (motive := fun _ => _) false b a)
noncomputable def B.eq (a b : B) : Bool := (B.rec (motive := fun _ => (B) → Bool) (fun a1 a2 a3 a4 b => (B.rec (motive := fun _ => (D) → (D) → (D) → (D) → Bool) (fun b1 b2 b3 b4 a1 a2 a3 a4 => band (Nat.beq (D.num a4) (D.num b4)) (band (Nat.beq (D.num a3) (D.num b3)) (band (Nat.beq (D.num a2) (D.num b2)) (Nat.beq (D.num a1) (D.num b1))))) (b) a1 a2 a3 a4)) (a) b)
-- numbers
noncomputable def forceN (n : Nat) (k : Nat → Bool) : Bool := (Nat.rec (motive := fun _ => (Nat → Bool) → Bool) (fun k => k 0) (fun m _ k => k (Nat.succ m)) n) k
noncomputable def forceI (z : Int) (k : Int → Bool) : Bool := (Int.rec (motive := fun _ => (Int → Bool) → Bool) (fun n k => forceN n fun n => k (.ofNat n)) (fun n k => forceN n fun n => k (.negSucc n)) z) k
noncomputable def kel {β : Type} (a b c d e f g h : β) (k : IntKind) : β := IntKind.casesOn (motive := fun _ => β) k a b c d e f g h
noncomputable def kmax (k : IntKind) : Nat := kel 127 32767 2147483647 9223372036854775807 255 65535 4294967295 18446744073709551615 k
noncomputable def knum (k : IntKind) : Nat := kel 0 1 2 3 4 5 6 7 k
noncomputable def keq (a b : IntKind) : Bool := Nat.beq (knum a) (knum b)
noncomputable def wrapK (k : IntKind) (z : Int) (kt : Int → Bool) : Bool :=
  (Int.rec (motive := fun _ => IntKind → (Int → Bool) → Bool) (fun n k kt => (Bool.rec (motive := fun _ => _) (forceI (k.wrap (.ofNat n)) kt) (forceN n fun n => kt (.ofNat n)) (Nat.ble n (kmax k)))) (fun n k kt => forceI (k.wrap (.negSucc n)) kt) z) k kt
noncomputable def iadd (x y : Int) : Int := (Int.rec (motive := fun _ => Int → Int) (fun m y => (Int.rec (motive := fun _ => Nat → Int) (fun n m => .ofNat (Nat.add m n)) (fun n m => Int.add (.ofNat m) (.negSucc n)) y) m) (fun m y => Int.add (.negSucc m) y) x) y
noncomputable def isub (x y : Int) : Int := (Int.rec (motive := fun _ => Int → Int) (fun m y => (Int.rec (motive := fun _ => Nat → Int) (fun n m => (Bool.rec (motive := fun _ => _) (Int.sub (.ofNat m) (.ofNat n)) (.ofNat (Nat.sub m n)) (Nat.ble n m))) (fun n m => Int.sub (.ofNat m) (.negSucc n)) y) m) (fun m y => Int.sub (.negSucc m) y) x) y
noncomputable def imul (x y : Int) : Int := (Int.rec (motive := fun _ => Int → Int) (fun m y => (Int.rec (motive := fun _ => Nat → Int) (fun n m => .ofNat (Nat.mul m n)) (fun n m => Int.mul (.ofNat m) (.negSucc n)) y) m) (fun m y => Int.mul (.negSucc m) y) x) y
noncomputable def ieq (x y : Int) : Bool := (Int.rec (motive := fun _ => Int → Bool) (fun m y => (Int.rec (motive := fun _ => Nat → Bool) (fun n m => Nat.beq m n) (fun _ _ => false) y) m) (fun m y => (Int.rec (motive := fun _ => Nat → Bool) (fun _ _ => false) (fun n m => Nat.beq m n) y) m) x) y
noncomputable def ile (x y : Int) : Bool := (Int.rec (motive := fun _ => Int → Bool) (fun m y => (Int.rec (motive := fun _ => Nat → Bool) (fun n m => Nat.ble m n) (fun _ _ => false) y) m) (fun m y => (Int.rec (motive := fun _ => Nat → Bool) (fun _ _ => true) (fun n m => Nat.ble n m) y) m) x) y
noncomputable def bnot (b : Bool) : Bool := (Bool.rec (motive := fun _ => _) true false b)
-- a number that is none below zero
noncomputable def natK (z : Int) (k : Nat → Bool) : Bool := (Int.rec (motive := fun _ => (Nat → Bool) → Bool) (fun n k => k n) (fun _ _ => false) z) k
-- values
noncomputable def undef : V := .tup []
noncomputable def asNat (v : V) (k : Nat → Bool) : Bool := (V.rec (motive_1 := fun _ => (Nat → Bool) → Bool) (motive_2 := fun _ => Unit) (fun _ z k => natK z k) (fun _ _ => false) (fun _ _ _ => false) (fun _ => false) (fun _ _ _ => false) (fun _ _ _ => false) (fun _ => false) (fun _ _ _ _ _ => false) (fun _ _ _ _ _ => false) (fun _ _ _ _ _ => false) (fun _ => false) (fun _ _ => false) (fun _ _ _ _ _ _ => false) (fun _ => false) (fun _ => false) (fun _ _ _ => false) (fun _ _ _ => false) (fun _ _ _ _ _ => false) () (fun _ _ _ _ => ()) (v) k)
noncomputable def opd (o : Opd) (e : E) : V := (Opd.rec (motive := fun _ => (E) → V) (fun i j e => getV j (getE i e)) (fun v _ => v) (o) e)
noncomputable def opds (l : List Opd) (e : E) (k : List V → Bool) : Bool := (List.rec (motive := fun _ => E → (List V → Bool) → Bool) (fun _ k => k []) (fun o _ ih e k => ih e fun r => k (opd o e :: r)) l) e k
-- lists of cells
noncomputable def ldrop (n : Nat) (l : List V) : List V := (Nat.rec (motive := fun _ => List V → List V) (fun l => l) (fun _ ih l => (List.rec (motive := fun _ => (List V → List V) → List V) (fun _ => []) (fun _ t _ ih => ih t) l) ih) n) l
noncomputable def hd (l : List V) (k : V → Bool) : Bool := (List.rec (motive := fun _ => (V → Bool) → Bool) (fun _ => false) (fun a _ _ k => k a) l) k
noncomputable def ltake (n : Nat) (l : List V) (k : List V → Bool) : Bool :=
  (Nat.rec (motive := fun _ => List V → (List V → Bool) → Bool) (fun _ k => k []) (fun _ ih l k => (List.rec (motive := fun _ => (List V → (List V → Bool) → Bool) → (List V → Bool) → Bool) (fun _ _ => false) (fun a t _ ih k => ih t fun r => k (a :: r)) l) ih k) n) l k
noncomputable def lover (new l : List V) (k : List V → Bool) : Bool :=
  (List.rec (motive := fun _ => List V → (List V → Bool) → Bool) (fun l k => k l) (fun a _ ih l k => (List.rec (motive := fun _ => V → (List V → (List V → Bool) → Bool) → (List V → Bool) → Bool) (fun _ _ _ => false) (fun _ t _ a ih k => ih t fun r => k (a :: r)) l) a ih k) new) l k
noncomputable def lput (o : Nat) (new l : List V) (k : List V → Bool) : Bool :=
  (Nat.rec (motive := fun _ => List V → List V → (List V → Bool) → Bool) (fun new l k => lover new l k) (fun _ ih new l k => (List.rec (motive := fun _ => (List V → List V → (List V → Bool) → Bool) → List V → (List V → Bool) → Bool) (fun _ _ _ => false) (fun a t _ ih new k => ih new t fun r => k (a :: r)) l) ih new k) o) new l k
noncomputable def lenIs (l : List V) (n : Nat) : Bool := (List.rec (motive := fun _ => Nat → Bool) (fun n => (Nat.rec (motive := fun _ => _) true (fun _ _ => false) n)) (fun _ _ ih n => (Nat.rec (motive := fun _ => (Nat → Bool) → Bool) (fun _ => false) (fun m _ ih => ih m) n) ih) l) n
noncomputable def vcells (v : V) (k : List V → Bool) : Bool := (V.rec (motive_1 := fun _ => (V) → (List V → Bool) → Bool) (motive_2 := fun _ => Unit) (fun _ _ v k => k [v]) (fun _ v k => k [v]) (fun _ _ v k => k [v]) (fun v k => k [v]) (fun _ _ v k => k [v]) (fun _ _ v k => k [v]) (fun v k => k [v]) (fun _ _ _ _ v k => k [v]) (fun _ _ _ _ v k => k [v]) (fun _ _ _ _ v k => k [v]) (fun v k => k [v]) (fun _ v k => k [v]) (fun _ _ _ _ _ v k => k [v]) (fun v k => k [v]) (fun v k => k [v]) (fun l _ _ k => k l) (fun _ _ v k => k [v]) (fun _ _ _ _ v k => k [v]) () (fun _ _ _ _ => ()) (v) v k)
-- is it one cell's
noncomputable def cellB (v : V) : Bool := (V.rec (motive_1 := fun _ => Bool) (motive_2 := fun _ => Unit) (fun _ _ => true) (fun _ => true) (fun _ _ => true) (true) (fun _ _ => true) (fun _ _ => true) (true) (fun _ _ _ _ => true) (fun _ _ _ _ => true) (fun _ _ _ _ => true) (true) (fun _ => true) (fun _ _ _ _ _ => true) (true) (true) (fun _ _ => false) (fun _ _ => false) (fun _ _ _ _ => true) () (fun _ _ _ _ => ()) (v) )
noncomputable def allCells (l : List V) : Bool := (List.rec (motive := fun _ => Bool) true (fun a _ ih => band (cellB a) ih) l)
-- the heap
noncomputable def hget (b : B) (h : Heap) : Slot := (B.rec (motive := fun _ => (Heap) → Slot) (fun a b c d h => getS1 d (getS2 c (getS3 b (getS4 a h)))) (b) h)
noncomputable def hset (b : B) (h : Heap) (s : Slot) (k : Heap → Bool) : Bool := (B.rec (motive := fun _ => (Heap) → (Slot) → (Heap → Bool) → Bool) (fun a b c d h s k => setS1 d (getS2 c (getS3 b (getS4 a h))) s fun n3 => setS2 c (getS3 b (getS4 a h)) n3 fun n2 => setS3 b (getS4 a h) n2 fun n1 => setS4 a h n1 k) (b) h s k)
noncomputable def bup (b : B) (k : B → Bool) : Bool := (B.rec (motive := fun _ => (B → Bool) → Bool) (fun a b c d k => D.up d (fun d => k (.mk a b c d)) (fun _ => D.up c (fun c => k (.mk a b c .d0)) (fun _ => D.up b (fun b => k (.mk a b .d0 .d0)) (fun _ => D.up a (fun a => k (.mk a .d0 .d0 .d0)) (fun _ => false))))) (b) k)
noncomputable def new (s : S) (sl : Slot) (k : B → S → Bool) : Bool := (S.rec (motive := fun _ => (Slot) → (B → S → Bool) → Bool) (fun h nx ds sl k => (Slot.rec (motive := fun _ => (Heap) → (B) → (List Df) → (Slot) → (B → S → Bool) → Bool) (fun h nx ds sl k => hset nx h sl fun h => bup nx fun nx' => k nx (.mk h nx' ds)) (fun _ _ _ _ _ => false) (fun _ _ _ _ _ _ _ _ => false) (fun _ _ _ _ _ _ => false) (hget nx h) h nx ds sl k)) (s) sl k)
-- rows of elements
noncomputable def t3get (i : Nat) (t : T3) : List V := getL1 (dig (Nat.mod i 16)) (getL2 (dig (Nat.mod (Nat.div i 16) 16)) (getL3 (dig (Nat.div i 256)) t))
noncomputable def t3set (i : Nat) (t : T3) (l : List V) (k : T3 → Bool) : Bool :=
  setL1 (dig (Nat.mod i 16)) (getL2 (dig (Nat.mod (Nat.div i 16) 16)) (getL3 (dig (Nat.div i 256)) t)) l fun n3 =>
  setL2 (dig (Nat.mod (Nat.div i 16) 16)) (getL3 (dig (Nat.div i 256)) t) n3 fun n2 => setL3 (dig (Nat.div i 256)) t n2 k
noncomputable def t3e : T3 := N16.all (N16.all (N16.all []))
noncomputable def blt (a b : Nat) : Bool := Nat.ble (Nat.succ a) b
noncomputable def cget (i : Nat) (c : Cells) (k : List V → Bool) : Bool := (Cells.rec (motive := fun _ => (Nat) → (List V → Bool) → Bool) (fun l i k => (Bool.rec (motive := fun _ => _) false (k l) (Nat.beq i 0))) (fun n t i k => (Bool.rec (motive := fun _ => _) false (k (t3get i t)) (blt i n))) (c) i k)
noncomputable def cset (i : Nat) (c : Cells) (l : List V) (k : Cells → Bool) : Bool := (Cells.rec (motive := fun _ => (Nat) → (List V) → (Cells → Bool) → Bool) (fun _ i l k => (Bool.rec (motive := fun _ => _) false (k (.one l)) (Nat.beq i 0))) (fun n t i l k => (Bool.rec (motive := fun _ => _) false (t3set i t l fun t => k (.many n t)) (blt i n))) (c) i l k)
noncomputable def load1 (b : B) (o : Nat) (s : S) (k : V → Bool) : Bool := (S.rec (motive := fun _ => (B) → (Nat) → (V → Bool) → Bool) (fun h _ _ b o k => (Slot.rec (motive := fun _ => (Nat) → (V → Bool) → Bool) (fun _ _ => false) (fun _ _ => false) (fun _ sz c o k => cget (Nat.div o sz) c fun l => hd (ldrop (Nat.mod o sz) l) k) (fun _ _ _ => false) (hget b h) o k)) (s) b o k)
noncomputable def loadN (n : Nat) (b : B) (o : Nat) (s : S) (k : List V → Bool) : Bool := (S.rec (motive := fun _ => (Nat) → (B) → (Nat) → (List V → Bool) → Bool) (fun h _ _ n b o k => (Slot.rec (motive := fun _ => (Nat) → (Nat) → (List V → Bool) → Bool) (fun _ _ _ => false) (fun _ _ _ => false) (fun _ sz c n o k => cget (Nat.div o sz) c fun l => ltake n (ldrop (Nat.mod o sz) l) k) (fun _ _ _ _ => false) (hget b h) n o k)) (s) n b o k)
noncomputable def store (b : B) (o : Nat) (new : List V) (s : S) (k : S → Bool) : Bool := (S.rec (motive := fun _ => (B) → (Nat) → (List V) → (S → Bool) → Bool) (fun h nx ds b o new k => (Slot.rec (motive := fun _ => (Heap) → (B) → (List Df) → (B) → (Nat) → (List V) → (S → Bool) → Bool) (fun _ _ _ _ _ _ _ => false) (fun _ _ _ _ _ _ _ => false) (fun el sz c h nx ds b o new k => cget (Nat.div o sz) c fun l => lput (Nat.mod o sz) new l fun l' => cset (Nat.div o sz) c l' fun c' => hset b h (.cells el sz c') fun h' => k (.mk h' nx ds)) (fun _ _ _ _ _ _ _ _ => false) (hget b h) h nx ds b o new k)) (s) b o new k)
noncomputable def setSlot (b : B) (sl : Slot) (s : S) (k : S → Bool) : Bool := (S.rec (motive := fun _ => (B) → (Slot) → (S → Bool) → Bool) (fun h nx ds b sl k => hset b h sl fun h' => k (.mk h' nx ds)) (s) b sl k)
-- elements, one by one
abbrev LL : Type := List (List V)
noncomputable def gath (m : Nat) (i : Nat) (c : Cells) (k : LL → Bool) : Bool :=
  (Nat.rec (motive := fun _ => Nat → Cells → (LL → Bool) → Bool) (fun _ _ k => k []) (fun _ ih i c k => cget i c fun l => ih (Nat.succ i) c fun r => k (l :: r)) m) i c k
noncomputable def pushE (l : LL) (i : Nat) (t : T3) (k : T3 → Bool) : Bool :=
  (List.rec (motive := fun _ => Nat → T3 → (T3 → Bool) → Bool) (fun _ t k => k t) (fun a _ ih i t k => t3set i t a fun t => ih (Nat.succ i) t k) l) i t k
noncomputable def putE (l : LL) (i : Nat) (c : Cells) (k : Cells → Bool) : Bool :=
  (List.rec (motive := fun _ => Nat → Cells → (Cells → Bool) → Bool) (fun _ c k => k c) (fun a _ ih i c k => cset i c a fun c => ih (Nat.succ i) c k) l) i c k
noncomputable def llen (l : LL) (k : Nat → Bool) : Bool := (List.rec (motive := fun _ => (Nat → Bool) → Bool) (fun k => k 0) (fun _ _ ih k => ih fun n => k (Nat.succ n)) l) k
noncomputable def lapp (a b : LL) (k : LL → Bool) : Bool := (List.rec (motive := fun _ => LL → (LL → Bool) → Bool) (fun b k => k b) (fun x _ ih b k => ih b fun r => k (x :: r)) a) b k
noncomputable def mkMany (l : LL) (k : Cells → Bool) : Bool := llen l fun n => (Bool.rec (motive := fun _ => _) false (pushE l 0 t3e fun t => k (.many n t)) (Nat.ble n 4096))
noncomputable def mkCells (l : LL) (k : Cells → Bool) : Bool :=
  (List.rec (motive := fun _ => LL → (Cells → Bool) → Bool) (fun l k => mkMany l k) (fun a t _ l k => (List.rec (motive := fun _ => List V → LL → (Cells → Bool) → Bool) (fun a _ k => k (.one a)) (fun _ _ _ _ l k => mkMany l k) t) a l k) l) l k
noncomputable def rep (n : Nat) (z : List V) (k : LL → Bool) : Bool := (Nat.rec (motive := fun _ => List V → (LL → Bool) → Bool) (fun _ k => k []) (fun _ ih z k => ih z fun r => k (z :: r)) n) z k
noncomputable def strE (n v : Nat) (k : LL → Bool) : Bool :=
  (Nat.rec (motive := fun _ => Nat → (LL → Bool) → Bool) (fun _ k => k []) (fun _ ih v k => forceN (Nat.mod v 256) fun b => ih (Nat.div v 256) fun r => k ([V.int .u8 (.ofNat b)] :: r)) n) v k
-- the elements of a slice, from a block whose elements have the size sz
noncomputable def chunk (n sz : Nat) (l : List V) (k : LL → Bool) : Bool := (Nat.rec (motive := fun _ => Nat → List V → (LL → Bool) → Bool) (fun _ _ k => k []) (fun _ ih sz l k => ltake sz l fun a => ih sz (ldrop sz l) fun r => k (a :: r)) n) sz l k
noncomputable def slotE (sz o n : Nat) (sl : Slot) (k : LL → Bool) : Bool := (Slot.rec (motive := fun _ => (Nat) → (Nat) → (Nat) → (LL → Bool) → Bool) (fun _ _ _ _ => false) (fun _ _ _ _ => false) (fun _ z c sz o n k => (Bool.rec (motive := fun _ => _) (cget (Nat.div o z) c fun l => chunk n sz (ldrop (Nat.mod o z) l) k) ((Bool.rec (motive := fun _ => _) false (gath n (Nat.div o sz) c k) (Nat.beq (Nat.mod o sz) 0))) (Nat.beq z sz))) (fun _ _ _ _ _ => false) (sl) sz o n k)
noncomputable def blockE (sz : Nat) (b : B) (o n : Nat) (s : S) (k : LL → Bool) : Bool := (S.rec (motive := fun _ => (Nat) → (B) → (Nat) → (Nat) → (LL → Bool) → Bool) (fun h _ _ sz b o n k => slotE sz o n (hget b h) k) (s) sz b o n k)
noncomputable def elemsOf (sz : Nat) (x : V) (s : S) (k : Nat → LL → Bool) : Bool := (V.rec (motive_1 := fun _ => (Nat) → (S) → (Nat → LL → Bool) → Bool) (motive_2 := fun _ => Unit) (fun _ _ _ _ _ => false) (fun _ _ _ _ => false) (fun n v sz _ k => (Bool.rec (motive := fun _ => _) false (strE n v fun l => k n l) (Nat.beq sz 1))) (fun _ _ _ => false) (fun _ _ _ _ _ => false) (fun _ _ _ _ _ => false) (fun _ _ k => k 0 []) (fun b o n _ sz s k => blockE sz b o n s fun l => k n l) (fun b o _ n sz s k => blockE sz b o n s fun l => k n l) (fun _ _ _ _ _ _ k => k 0 []) (fun _ _ _ => false) (fun _ _ _ _ => false) (fun _ _ _ _ _ _ _ _ => false) (fun _ _ _ => false) (fun _ _ _ => false) (fun _ _ _ _ _ => false) (fun _ _ _ _ _ => false) (fun _ _ _ _ _ _ _ => false) () (fun _ _ _ _ => ()) (x) sz s k)
-- stores elements in place
noncomputable def putAt (sz : Nat) (b : B) (i : Nat) (l : LL) (s : S) (k : S → Bool) : Bool := (S.rec (motive := fun _ => (Nat) → (B) → (Nat) → (LL) → (S → Bool) → Bool) (fun h nx ds sz b i l k => (Slot.rec (motive := fun _ => (Heap) → (B) → (List Df) → (Nat) → (B) → (Nat) → (LL) → (S → Bool) → Bool) (fun _ _ _ _ _ _ _ _ => false) (fun _ _ _ _ _ _ _ _ => false) (fun el z c h nx ds sz b i l k => (Bool.rec (motive := fun _ => _) false (putE l i c fun c' => hset b h (.cells el z c') fun h' => k (.mk h' nx ds)) (Nat.beq z sz))) (fun _ _ _ _ _ _ _ _ _ => false) (hget b h) h nx ds sz b i l k)) (s) sz b i l k)
noncomputable def fresh (el sz : Nat) (l : LL) (n : Nat) (s : S) (k : V → S → Bool) : Bool := mkCells l fun c => new s (.cells el sz c) fun b s => k (.slr b 0 0 n) s
noncomputable def grown (el sz : Nat) (b : B) (c : Cells) (n m : Nat) (s : S) (k : V → S → Bool) : Bool := setSlot b .dead s fun s => new s (.cells el sz c) fun b s => k (.slr b 0 0 (Nat.add n m)) s
noncomputable def appMany (el sz : Nat) (b : B) (o c n nn : Nat) (t : T3) (m : Nat) (l : LL) (s : S) (k : V → S → Bool) : Bool :=
  (Bool.rec (motive := fun _ => _) ((Bool.rec (motive := fun _ => _) false (putAt sz b (Nat.add c n) l s fun s => k (.slr b o c (Nat.add n m)) s) (Nat.ble (Nat.add (Nat.add c n) m) nn))) ((Bool.rec (motive := fun _ => _) false ((Bool.rec (motive := fun _ => _) false (pushE l n t fun t => forceN (Nat.add n m) fun q => grown el sz b (.many q t) n m s k) (Nat.ble (Nat.add n m) 4096))) (Nat.beq c 0))) (Nat.beq (Nat.add c n) nn))
noncomputable def appOne (el sz : Nat) (b : B) (o c n : Nat) (x : List V) (m : Nat) (l : LL) (s : S) (k : V → S → Bool) : Bool :=
  (Bool.rec (motive := fun _ => _) ((Bool.rec (motive := fun _ => _) false (putAt sz b (Nat.add c n) l s fun s => k (.slr b o c (Nat.add n m)) s) (Nat.ble (Nat.add (Nat.add c n) m) 1))) ((Bool.rec (motive := fun _ => _) false ((Bool.rec (motive := fun _ => _) false (t3set 0 t3e x fun t => pushE l n t fun t => forceN (Nat.add n m) fun q => grown el sz b (.many q t) n m s k) (Nat.ble (Nat.add n m) 4096))) (Nat.beq c 0))) (Nat.beq (Nat.add c n) 1))
noncomputable def appR (el sz : Nat) (b : B) (o c n m : Nat) (l : LL) (s : S) (k : V → S → Bool) : Bool := (S.rec (motive := fun _ => (S) → (Nat) → (Nat) → (B) → (Nat) → (Nat) → (Nat) → (Nat) → (LL) → (V → S → Bool) → Bool) (fun h _ _ s el sz b o c n m l k => (Slot.rec (motive := fun _ => (S) → (Nat) → (Nat) → (B) → (Nat) → (Nat) → (Nat) → (Nat) → (LL) → (V → S → Bool) → Bool) (fun _ _ _ _ _ _ _ _ _ _ => false) (fun _ _ _ _ _ _ _ _ _ _ => false) (fun e0 z cc s el sz b o c n m l k => (Bool.rec (motive := fun _ => _) false ((Bool.rec (motive := fun _ => _) false ((Bool.rec (motive := fun _ => _) false ((Cells.rec (motive := fun _ => (S) → (Nat) → (Nat) → (B) → (Nat) → (Nat) → (Nat) → (Nat) → (LL) → (V → S → Bool) → Bool) (fun x s el sz b o c n m l k => appOne el sz b o c n x m l s k) (fun nn t s el sz b o c n m l k => appMany el sz b o c n nn t m l s k) (cc) s el sz b o c n m l k)) (Nat.beq o (Nat.mul c sz)))) (Nat.beq z sz))) (Nat.beq e0 el))) (fun _ _ _ _ _ _ _ _ _ _ _ => false) (hget b h) s el sz b o c n m l k)) (s) s el sz b o c n m l k)
noncomputable def isSl (x : V) : Bool := (V.rec (motive_1 := fun _ => Bool) (motive_2 := fun _ => Unit) (fun _ _ => false) (fun _ => false) (fun _ _ => false) (false) (fun _ _ => false) (fun _ _ => false) (true) (fun _ _ _ _ => true) (fun _ _ _ _ => true) (fun _ _ _ _ => false) (false) (fun _ => false) (fun _ _ _ _ _ => false) (false) (false) (fun _ _ => false) (fun _ _ => false) (fun _ _ _ _ => false) () (fun _ _ _ _ => ()) (x) )
noncomputable def appX (el sz : Nat) (x : V) (m : Nat) (l : LL) (s : S) (k : V → S → Bool) : Bool :=
  (Bool.rec (motive := fun _ => _) ((V.rec (motive_1 := fun _ => (Nat) → (Nat) → (Nat) → (LL) → (S) → (V → S → Bool) → Bool) (motive_2 := fun _ => Unit) (fun _ _ _ _ _ _ _ _ => false) (fun _ _ _ _ _ _ _ => false) (fun _ _ _ _ _ _ _ _ => false) (fun _ _ _ _ _ _ => false) (fun _ _ _ _ _ _ _ _ => false) (fun _ _ _ _ _ _ _ _ => false) (fun el sz m l s k => fresh el sz l m s k) (fun b o n c el sz m l s k => (Bool.rec (motive := fun _ => _) (blockE sz b o n s fun old => lapp old l fun l => forceN (Nat.add n m) fun q => fresh el sz l q s k) ((Bool.rec (motive := fun _ => _) false (putAt sz b (Nat.add (Nat.div o sz) n) l s fun s => forceN (Nat.add n m) fun q => k (.sl b o q c) s) (Nat.beq (Nat.mod o sz) 0))) (Nat.ble (Nat.add n m) c))) (fun b o c n el sz m l s k => appR el sz b o c n m l s k) (fun _ _ _ _ _ _ _ _ _ _ => false) (fun _ _ _ _ _ _ => false) (fun _ _ _ _ _ _ _ => false) (fun _ _ _ _ _ _ _ _ _ _ _ => false) (fun _ _ _ _ _ _ => false) (fun _ _ _ _ _ _ => false) (fun _ _ _ _ _ _ _ _ => false) (fun _ _ _ _ _ _ _ _ => false) (fun _ _ _ _ _ _ _ _ _ _ => false) () (fun _ _ _ _ => ()) (x) el sz m l s k)) ((Bool.rec (motive := fun _ => _) false (k x s) (isSl x))) (Nat.beq m 0))
-- strings: the first byte is the least digit
noncomputable def pow8 (n : Nat) : Nat := Nat.pow 2 (Nat.mul 8 n)
noncomputable def byteAt (i v : Nat) : Nat := Nat.mod (Nat.shiftRight v (Nat.mul 8 i)) 256
noncomputable def subStr (n v l h : Nat) (k : V → Bool) : Bool :=
  (Bool.rec (motive := fun _ => _) false ((Bool.rec (motive := fun _ => _) false (forceN (Nat.sub h l) fun m => forceN (Nat.mod (Nat.shiftRight v (Nat.mul 8 l)) (pow8 m)) fun w => k (.str m w)) (Nat.ble l h))) (Nat.ble h n))
noncomputable def catStr (n v m w : Nat) (k : V → Bool) : Bool := (Bool.rec (motive := fun _ => _) false (forceN (Nat.add n m) fun q => forceN (Nat.add v (Nat.mul w (pow8 n))) fun u => k (.str q u)) (Nat.ble (Nat.add n m) 1000000))
-- -1, 0, 1: less, the same, greater (0, 1, 2 here)
noncomputable def cmpStr (n v m w : Nat) (k : Nat → Bool) : Bool :=
  (Nat.rec (motive := fun _ => Nat → Nat → Nat → (Nat → Bool) → Bool) (fun _ m _ k => (Nat.rec (motive := fun _ => (Nat → Bool) → Bool) (fun k => k 1) (fun _ _ k => k 0) m) k) (fun _ ih v m w k => (Nat.rec (motive := fun _ => (Nat → Nat → Nat → (Nat → Bool) → Bool) → Nat → Nat → (Nat → Bool) → Bool) (fun _ _ _ k => k 2) (fun m _ ih v w k => (Bool.rec (motive := fun _ => _) ((Bool.rec (motive := fun _ => _) (k 2) (k 0) (Nat.ble (Nat.mod v 256) (Nat.mod w 256)))) (ih (Nat.div v 256) m (Nat.div w 256) k) (Nat.beq (Nat.mod v 256) (Nat.mod w 256)))) m) ih v w k) n) v m w k
noncomputable def strEq (n v m w : Nat) : Bool := band (Nat.beq n m) (Nat.beq v w)
noncomputable def b2sE (l : LL) (k : Nat → Nat → Bool) : Bool :=
  (List.rec (motive := fun _ => (Nat → Nat → Bool) → Bool) (fun k => k 0 0) (fun a _ ih k => hd a fun x => (V.rec (motive_1 := fun _ => ((Nat → Nat → Bool) → Bool) → (Nat → Nat → Bool) → Bool) (motive_2 := fun _ => Unit) (fun kd z ih k => (Bool.rec (motive := fun _ => _) false (natK z fun b => (Bool.rec (motive := fun _ => _) false (ih fun n v => forceN (Nat.add b (Nat.mul 256 v)) fun v => k (Nat.succ n) v) (Nat.ble b 255))) (keq kd .u8))) (fun _ _ _ => false) (fun _ _ _ _ => false) (fun _ _ => false) (fun _ _ _ _ => false) (fun _ _ _ _ => false) (fun _ _ => false) (fun _ _ _ _ _ _ => false) (fun _ _ _ _ _ _ => false) (fun _ _ _ _ _ _ => false) (fun _ _ => false) (fun _ _ _ => false) (fun _ _ _ _ _ _ _ => false) (fun _ _ => false) (fun _ _ => false) (fun _ _ _ _ => false) (fun _ _ _ _ => false) (fun _ _ _ _ _ _ => false) () (fun _ _ _ _ => ()) (x) ih k)) l) k
-- operators
noncomputable def bopel {β : Type} (add sub mul quo rem and or xor shl shr andNot eql neq lss leq gtr geq : β) (op : BinOp) : β := BinOp.casesOn (motive := fun _ => β) op add sub mul quo rem and or xor shl shr andNot eql neq lss leq gtr geq
noncomputable def arith (op : BinOp) (kd : IntKind) (a b : Int) (k : V → Bool) : Bool :=
  bopel (β := IntKind → Int → Int → (V → Bool) → Bool)
    (fun kd a b k => wrapK kd (iadd a b) fun z => k (.int kd z)) (fun kd a b k => wrapK kd (isub a b) fun z => k (.int kd z)) (fun kd a b k => wrapK kd (imul a b) fun z => k (.int kd z))
    (fun kd a b k => (Bool.rec (motive := fun _ => _) (wrapK kd (Int.tdiv a b) fun z => k (.int kd z)) false (ieq b (.ofNat 0)))) (fun kd a b k => (Bool.rec (motive := fun _ => _) (forceI (Int.tmod a b) fun z => k (.int kd z)) false (ieq b (.ofNat 0))))
    (fun kd a b k => natK a fun m => natK b fun n => (Bool.rec (motive := fun _ => _) false ((Bool.rec (motive := fun _ => _) false (forceN (Nat.land m n) fun z => k (.int kd (.ofNat z))) (Nat.ble n (kmax kd)))) (Nat.ble m (kmax kd))))
    (fun kd a b k => natK a fun m => natK b fun n => (Bool.rec (motive := fun _ => _) false ((Bool.rec (motive := fun _ => _) false (forceN (Nat.lor m n) fun z => k (.int kd (.ofNat z))) (Nat.ble n (kmax kd)))) (Nat.ble m (kmax kd))))
    (fun kd a b k => natK a fun m => natK b fun n => (Bool.rec (motive := fun _ => _) false ((Bool.rec (motive := fun _ => _) false (forceN (Nat.xor m n) fun z => k (.int kd (.ofNat z))) (Nat.ble n (kmax kd)))) (Nat.ble m (kmax kd))))
    (fun _ _ _ _ => false) (fun _ _ _ _ => false)
    (fun _ _ _ _ => false)
    (fun _ _ _ _ => false) (fun _ _ _ _ => false)
    (fun _ a b k => k (.bool (bnot (ile b a)))) (fun _ a b k => k (.bool (ile a b))) (fun _ a b k => k (.bool (bnot (ile a b)))) (fun _ a b k => k (.bool (ile b a))) op kd a b k
noncomputable def kbits (k : IntKind) : Nat := kel 8 16 32 64 8 16 32 64 k
noncomputable def shiftX (op : BinOp) (kd : IntKind) (a b : Int) (k : V → Bool) : Bool := natK a fun m => natK b fun n => (Bool.rec (motive := fun _ => _) false ((Bool.rec (motive := fun _ => _) false (bopel (β := IntKind → Nat → Nat → (V → Bool) → Bool) (fun _ _ _ _ => false) (fun _ _ _ _ => false) (fun _ _ _ _ => false) (fun _ _ _ _ => false) (fun _ _ _ _ => false) (fun _ _ _ _ => false) (fun _ _ _ _ => false) (fun _ _ _ _ => false)
    (fun kd m n k => wrapK kd (.ofNat (Nat.mul m (Nat.pow 2 n))) fun z => k (.int kd z)) (fun kd m n k => forceN (Nat.div m (Nat.pow 2 n)) fun z => k (.int kd (.ofNat z)))
    (fun _ _ _ _ => false) (fun _ _ _ _ => false) (fun _ _ _ _ => false) (fun _ _ _ _ => false) (fun _ _ _ _ => false) (fun _ _ _ _ => false) (fun _ _ _ _ => false) op kd m n k) (Nat.ble n (kbits kd)))) (Nat.ble m (kmax kd)))
noncomputable def isShift (op : BinOp) : Bool := bopel false false false false false false false false true true false false false false false false false op
noncomputable def isRem (op : BinOp) : Bool := bopel false false false false true false false false false false false false false false false false false op
noncomputable def is64 (k : IntKind) : Bool := kel false false false true false false false true k
noncomputable def strOp (op : BinOp) (n v m w : Nat) (k : V → Bool) : Bool :=
  bopel (β := Nat → Nat → Nat → Nat → (V → Bool) → Bool) (fun n v m w k => catStr n v m w k) (fun _ _ _ _ _ => false) (fun _ _ _ _ _ => false) (fun _ _ _ _ _ => false) (fun _ _ _ _ _ => false) (fun _ _ _ _ _ => false) (fun _ _ _ _ _ => false) (fun _ _ _ _ _ => false) (fun _ _ _ _ _ => false) (fun _ _ _ _ _ => false) (fun _ _ _ _ _ => false)
    (fun _ _ _ _ _ => false) (fun _ _ _ _ _ => false)
    (fun n v m w k => cmpStr n v m w fun c => k (.bool (Nat.beq c 0))) (fun n v m w k => cmpStr n v m w fun c => k (.bool (Nat.ble c 1))) (fun n v m w k => cmpStr n v m w fun c => k (.bool (Nat.beq c 2))) (fun n v m w k => cmpStr n v m w fun c => k (.bool (Nat.ble 1 c))) op n v m w k
noncomputable def bin (op : BinOp) (x y : V) (k : V → Bool) : Bool := (V.rec (motive_1 := fun _ => (BinOp) → (V) → (V → Bool) → Bool) (motive_2 := fun _ => Unit) (fun kd a op y k => (V.rec (motive_1 := fun _ => (BinOp) → (IntKind) → (Int) → (V → Bool) → Bool) (motive_2 := fun _ => Unit) (fun kd' b op kd a k => (Bool.rec (motive := fun _ => _) ((Bool.rec (motive := fun _ => _) false (arith op kd a b k) (keq kd kd'))) (shiftX op kd a b k) (isShift op))) (fun _ _ _ _ _ => false) (fun _ _ _ _ _ _ => false) (fun _ _ _ _ => false) (fun _ _ _ _ _ _ => false) (fun _ _ _ _ _ _ => false) (fun _ _ _ _ => false) (fun _ _ _ _ _ _ _ _ => false) (fun _ _ _ _ _ _ _ _ => false) (fun _ _ _ _ _ _ _ _ => false) (fun _ _ _ _ => false) (fun _ _ _ _ _ => false) (fun _ _ _ _ _ _ _ _ _ => false) (fun _ _ _ _ => false) (fun _ _ _ _ => false) (fun _ _ _ _ _ _ => false) (fun _ _ _ _ _ _ => false) (fun _ _ _ _ _ _ _ _ => false) () (fun _ _ _ _ => ()) (y) op kd a k)) (fun _ _ _ _ => false) (fun n v op y k => (V.rec (motive_1 := fun _ => (BinOp) → (Nat) → (Nat) → (V → Bool) → Bool) (motive_2 := fun _ => Unit) (fun _ _ _ _ _ _ => false) (fun _ _ _ _ _ => false) (fun m w op n v k => strOp op n v m w k) (fun _ _ _ _ => false) (fun _ _ _ _ _ _ => false) (fun _ _ _ _ _ _ => false) (fun _ _ _ _ => false) (fun _ _ _ _ _ _ _ _ => false) (fun _ _ _ _ _ _ _ _ => false) (fun _ _ _ _ _ _ _ _ => false) (fun _ _ _ _ => false) (fun _ _ _ _ _ => false) (fun _ _ _ _ _ _ _ _ _ => false) (fun _ _ _ _ => false) (fun _ _ _ _ => false) (fun _ _ _ _ _ _ => false) (fun _ _ _ _ _ _ => false) (fun _ _ _ _ _ _ _ _ => false) () (fun _ _ _ _ => ()) (y) op n v k)) (fun _ _ _ => false) (fun _ _ _ _ _ => false) (fun _ _ _ _ _ => false) (fun _ _ _ => false) (fun _ _ _ _ _ _ _ => false) (fun _ _ _ _ _ _ _ => false) (fun _ _ _ _ _ _ _ => false) (fun _ _ _ => false) (fun _ _ _ _ => false) (fun _ _ _ _ _ _ _ _ => false) (fun _ _ _ => false) (fun _ _ _ => false) (fun _ _ _ _ _ => false) (fun _ _ _ _ _ => false) (fun j a m r op y k => (V.rec (motive_1 := fun _ => (BinOp) → (IntKind) → (Nat) → (Nat) → (V → Bool) → Bool) (motive_2 := fun _ => Unit) (fun kb z op a m r k => (Bool.rec (motive := fun _ => _) false ((Bool.rec (motive := fun _ => _) false ((Bool.rec (motive := fun _ => _) false ((Bool.rec (motive := fun _ => _) false ((Bool.rec (motive := fun _ => _) false (k (.int .u64 (.ofNat r))) (natK z fun n => Nat.beq n m))) (blt 0 m))) (keq kb .u64))) (keq a .u64))) (isRem op))) (fun _ _ _ _ _ _ => false) (fun _ _ _ _ _ _ _ => false) (fun _ _ _ _ _ => false) (fun _ _ _ _ _ _ _ => false) (fun _ _ _ _ _ _ _ => false) (fun _ _ _ _ _ => false) (fun _ _ _ _ _ _ _ _ _ => false) (fun _ _ _ _ _ _ _ _ _ => false) (fun _ _ _ _ _ _ _ _ _ => false) (fun _ _ _ _ _ => false) (fun _ _ _ _ _ _ => false) (fun _ _ _ _ _ _ _ _ _ _ => false) (fun _ _ _ _ _ => false) (fun _ _ _ _ _ => false) (fun _ _ _ _ _ _ _ => false) (fun _ _ _ _ _ _ _ => false) (fun _ _ _ _ _ _ _ _ _ => false) () (fun _ _ _ _ => ()) (y) op a m r k)) () (fun _ _ _ _ => ()) (x) op y k)
-- ==
noncomputable def eqInt (x y : V) (k : Bool → Bool) : Bool := (V.rec (motive_1 := fun _ => (V) → (Bool → Bool) → Bool) (motive_2 := fun _ => Unit) (fun kd a y k => (V.rec (motive_1 := fun _ => (IntKind) → (Int) → (Bool → Bool) → Bool) (motive_2 := fun _ => Unit) (fun kd' b kd a k => (Bool.rec (motive := fun _ => _) false (k (ieq a b)) (keq kd kd'))) (fun _ _ _ _ => false) (fun _ _ _ _ _ => false) (fun _ _ _ => false) (fun _ _ _ _ _ => false) (fun _ _ _ _ _ => false) (fun _ _ _ => false) (fun _ _ _ _ _ _ _ => false) (fun _ _ _ _ _ _ _ => false) (fun _ _ _ _ _ _ _ => false) (fun _ _ _ => false) (fun _ _ _ _ => false) (fun _ _ _ _ _ _ _ _ => false) (fun _ _ _ => false) (fun _ _ _ => false) (fun _ _ _ _ _ => false) (fun _ _ _ _ _ => false) (fun _ _ _ _ _ _ _ => false) () (fun _ _ _ _ => ()) (y) kd a k)) (fun _ _ _ => false) (fun _ _ _ _ => false) (fun _ _ => false) (fun _ _ _ _ => false) (fun _ _ _ _ => false) (fun _ _ => false) (fun _ _ _ _ _ _ => false) (fun _ _ _ _ _ _ => false) (fun _ _ _ _ _ _ => false) (fun _ _ => false) (fun _ _ _ => false) (fun _ _ _ _ _ _ _ => false) (fun _ _ => false) (fun _ _ => false) (fun _ _ _ _ => false) (fun _ _ _ _ => false) (fun _ _ _ _ _ _ => false) () (fun _ _ _ _ => ()) (x) y k)
noncomputable def eqBool (x y : V) (k : Bool → Bool) : Bool := (V.rec (motive_1 := fun _ => (V) → (Bool → Bool) → Bool) (motive_2 := fun _ => Unit) (fun _ _ _ _ => false) (fun a y k => (V.rec (motive_1 := fun _ => (Bool) → (Bool → Bool) → Bool) (motive_2 := fun _ => Unit) (fun _ _ _ _ => false) (fun b a k => k ((Bool.rec (motive := fun _ => _) (bnot b) b a))) (fun _ _ _ _ => false) (fun _ _ => false) (fun _ _ _ _ => false) (fun _ _ _ _ => false) (fun _ _ => false) (fun _ _ _ _ _ _ => false) (fun _ _ _ _ _ _ => false) (fun _ _ _ _ _ _ => false) (fun _ _ => false) (fun _ _ _ => false) (fun _ _ _ _ _ _ _ => false) (fun _ _ => false) (fun _ _ => false) (fun _ _ _ _ => false) (fun _ _ _ _ => false) (fun _ _ _ _ _ _ => false) () (fun _ _ _ _ => ()) (y) a k)) (fun _ _ _ _ => false) (fun _ _ => false) (fun _ _ _ _ => false) (fun _ _ _ _ => false) (fun _ _ => false) (fun _ _ _ _ _ _ => false) (fun _ _ _ _ _ _ => false) (fun _ _ _ _ _ _ => false) (fun _ _ => false) (fun _ _ _ => false) (fun _ _ _ _ _ _ _ => false) (fun _ _ => false) (fun _ _ => false) (fun _ _ _ _ => false) (fun _ _ _ _ => false) (fun _ _ _ _ _ _ => false) () (fun _ _ _ _ => ()) (x) y k)
noncomputable def eqStr (x y : V) (k : Bool → Bool) : Bool := (V.rec (motive_1 := fun _ => (V) → (Bool → Bool) → Bool) (motive_2 := fun _ => Unit) (fun _ _ _ _ => false) (fun _ _ _ => false) (fun n v y k => (V.rec (motive_1 := fun _ => (Nat) → (Nat) → (Bool → Bool) → Bool) (motive_2 := fun _ => Unit) (fun _ _ _ _ _ => false) (fun _ _ _ _ => false) (fun m w n v k => k (strEq n v m w)) (fun _ _ _ => false) (fun _ _ _ _ _ => false) (fun _ _ _ _ _ => false) (fun _ _ _ => false) (fun _ _ _ _ _ _ _ => false) (fun _ _ _ _ _ _ _ => false) (fun _ _ _ _ _ _ _ => false) (fun _ _ _ => false) (fun _ _ _ _ => false) (fun _ _ _ _ _ _ _ _ => false) (fun _ _ _ => false) (fun _ _ _ => false) (fun _ _ _ _ _ => false) (fun _ _ _ _ _ => false) (fun _ _ _ _ _ _ _ => false) () (fun _ _ _ _ => ()) (y) n v k)) (fun _ _ => false) (fun _ _ _ _ => false) (fun _ _ _ _ => false) (fun _ _ => false) (fun _ _ _ _ _ _ => false) (fun _ _ _ _ _ _ => false) (fun _ _ _ _ _ _ => false) (fun _ _ => false) (fun _ _ _ => false) (fun _ _ _ _ _ _ _ => false) (fun _ _ => false) (fun _ _ => false) (fun _ _ _ _ => false) (fun _ _ _ _ => false) (fun _ _ _ _ _ _ => false) () (fun _ _ _ _ => ()) (x) y k)
noncomputable def eqPtr (x y : V) (k : Bool → Bool) : Bool := (V.rec (motive_1 := fun _ => (V) → (Bool → Bool) → Bool) (motive_2 := fun _ => Unit) (fun _ _ _ _ => false) (fun _ _ _ => false) (fun _ _ _ _ => false) (fun y k => (V.rec (motive_1 := fun _ => (Bool → Bool) → Bool) (motive_2 := fun _ => Unit) (fun _ _ _ => false) (fun _ _ => false) (fun _ _ _ => false) (fun k => k true) (fun _ _ k => k false) (fun _ _ _ => false) (fun _ => false) (fun _ _ _ _ _ => false) (fun _ _ _ _ _ => false) (fun _ _ _ _ _ => false) (fun _ => false) (fun _ _ => false) (fun _ _ _ _ _ _ => false) (fun _ => false) (fun _ => false) (fun _ _ _ => false) (fun _ _ _ => false) (fun _ _ _ _ _ => false) () (fun _ _ _ _ => ()) (y) k)) (fun b o y k => (V.rec (motive_1 := fun _ => (B) → (Nat) → (Bool → Bool) → Bool) (motive_2 := fun _ => Unit) (fun _ _ _ _ _ => false) (fun _ _ _ _ => false) (fun _ _ _ _ _ => false) (fun _ _ k => k false) (fun b' o' b o k => (Bool.rec (motive := fun _ => _) false (k (Nat.beq o o')) (B.eq b b'))) (fun _ _ _ _ _ => false) (fun _ _ _ => false) (fun _ _ _ _ _ _ _ => false) (fun _ _ _ _ _ _ _ => false) (fun _ _ _ _ _ _ _ => false) (fun _ _ _ => false) (fun _ _ _ _ => false) (fun _ _ _ _ _ _ _ _ => false) (fun _ _ _ => false) (fun _ _ _ => false) (fun _ _ _ _ _ => false) (fun _ _ _ _ _ => false) (fun _ _ _ _ _ _ _ => false) () (fun _ _ _ _ => ()) (y) b o k)) (fun _ _ _ _ => false) (fun _ _ => false) (fun _ _ _ _ _ _ => false) (fun _ _ _ _ _ _ => false) (fun _ _ _ _ _ _ => false) (fun _ _ => false) (fun _ _ _ => false) (fun _ _ _ _ _ _ _ => false) (fun _ _ => false) (fun _ _ => false) (fun _ _ _ _ => false) (fun _ _ _ _ => false) (fun _ _ _ _ _ _ => false) () (fun _ _ _ _ => ()) (x) y k)
noncomputable def eqSl (x y : V) (k : Bool → Bool) : Bool := (V.rec (motive_1 := fun _ => (V) → (Bool → Bool) → Bool) (motive_2 := fun _ => Unit) (fun _ _ _ _ => false) (fun _ _ _ => false) (fun _ _ _ _ => false) (fun _ _ => false) (fun _ _ _ _ => false) (fun _ _ _ _ => false) (fun y k => (V.rec (motive_1 := fun _ => (Bool → Bool) → Bool) (motive_2 := fun _ => Unit) (fun _ _ _ => false) (fun _ _ => false) (fun _ _ _ => false) (fun _ => false) (fun _ _ _ => false) (fun _ _ _ => false) (fun k => k true) (fun _ _ _ _ k => k false) (fun _ _ _ _ k => k false) (fun _ _ _ _ k => k false) (fun _ => false) (fun _ _ => false) (fun _ _ _ _ _ _ => false) (fun _ => false) (fun _ => false) (fun _ _ _ => false) (fun _ _ _ => false) (fun _ _ _ _ _ => false) () (fun _ _ _ _ => ()) (y) k)) (fun _ _ _ _ y k => (V.rec (motive_1 := fun _ => (Bool → Bool) → Bool) (motive_2 := fun _ => Unit) (fun _ _ _ => false) (fun _ _ => false) (fun _ _ _ => false) (fun _ => false) (fun _ _ _ => false) (fun _ _ _ => false) (fun k => k false) (fun _ _ _ _ _ => false) (fun _ _ _ _ _ => false) (fun _ _ _ _ _ => false) (fun _ => false) (fun _ _ => false) (fun _ _ _ _ _ _ => false) (fun _ => false) (fun _ => false) (fun _ _ _ => false) (fun _ _ _ => false) (fun _ _ _ _ _ => false) () (fun _ _ _ _ => ()) (y) k)) (fun _ _ _ _ y k => (V.rec (motive_1 := fun _ => (Bool → Bool) → Bool) (motive_2 := fun _ => Unit) (fun _ _ _ => false) (fun _ _ => false) (fun _ _ _ => false) (fun _ => false) (fun _ _ _ => false) (fun _ _ _ => false) (fun k => k false) (fun _ _ _ _ _ => false) (fun _ _ _ _ _ => false) (fun _ _ _ _ _ => false) (fun _ => false) (fun _ _ => false) (fun _ _ _ _ _ _ => false) (fun _ => false) (fun _ => false) (fun _ _ _ => false) (fun _ _ _ => false) (fun _ _ _ _ _ => false) () (fun _ _ _ _ => ()) (y) k)) (fun _ _ _ _ y k => (V.rec (motive_1 := fun _ => (Bool → Bool) → Bool) (motive_2 := fun _ => Unit) (fun _ _ _ => false) (fun _ _ => false) (fun _ _ _ => false) (fun _ => false) (fun _ _ _ => false) (fun _ _ _ => false) (fun k => k false) (fun _ _ _ _ _ => false) (fun _ _ _ _ _ => false) (fun _ _ _ _ _ => false) (fun _ => false) (fun _ _ => false) (fun _ _ _ _ _ _ => false) (fun _ => false) (fun _ => false) (fun _ _ _ => false) (fun _ _ _ => false) (fun _ _ _ _ _ => false) () (fun _ _ _ _ => ()) (y) k)) (fun _ _ => false) (fun _ _ _ => false) (fun _ _ _ _ _ _ _ => false) (fun _ _ => false) (fun _ _ => false) (fun _ _ _ _ => false) (fun _ _ _ _ => false) (fun _ _ _ _ _ _ => false) () (fun _ _ _ _ => ()) (x) y k)
noncomputable def eqMp (x y : V) (k : Bool → Bool) : Bool := (V.rec (motive_1 := fun _ => (V) → (Bool → Bool) → Bool) (motive_2 := fun _ => Unit) (fun _ _ _ _ => false) (fun _ _ _ => false) (fun _ _ _ _ => false) (fun _ _ => false) (fun _ _ _ _ => false) (fun _ _ _ _ => false) (fun _ _ => false) (fun _ _ _ _ _ _ => false) (fun _ _ _ _ _ _ => false) (fun _ _ _ _ _ _ => false) (fun y k => (V.rec (motive_1 := fun _ => (Bool → Bool) → Bool) (motive_2 := fun _ => Unit) (fun _ _ _ => false) (fun _ _ => false) (fun _ _ _ => false) (fun _ => false) (fun _ _ _ => false) (fun _ _ _ => false) (fun _ => false) (fun _ _ _ _ _ => false) (fun _ _ _ _ _ => false) (fun _ _ _ _ _ => false) (fun k => k true) (fun _ k => k false) (fun _ _ _ _ _ _ => false) (fun _ => false) (fun _ => false) (fun _ _ _ => false) (fun _ _ _ => false) (fun _ _ _ _ _ => false) () (fun _ _ _ _ => ()) (y) k)) (fun _ y k => (V.rec (motive_1 := fun _ => (Bool → Bool) → Bool) (motive_2 := fun _ => Unit) (fun _ _ _ => false) (fun _ _ => false) (fun _ _ _ => false) (fun _ => false) (fun _ _ _ => false) (fun _ _ _ => false) (fun _ => false) (fun _ _ _ _ _ => false) (fun _ _ _ _ _ => false) (fun _ _ _ _ _ => false) (fun k => k false) (fun _ _ => false) (fun _ _ _ _ _ _ => false) (fun _ => false) (fun _ => false) (fun _ _ _ => false) (fun _ _ _ => false) (fun _ _ _ _ _ => false) () (fun _ _ _ _ => ()) (y) k)) (fun _ _ _ _ _ _ _ => false) (fun _ _ => false) (fun _ _ => false) (fun _ _ _ _ => false) (fun _ _ _ _ => false) (fun _ _ _ _ _ _ => false) () (fun _ _ _ _ => ()) (x) y k)
noncomputable def eqFn (x y : V) (k : Bool → Bool) : Bool := (V.rec (motive_1 := fun _ => (V) → (Bool → Bool) → Bool) (motive_2 := fun _ => Unit) (fun _ _ _ _ => false) (fun _ _ _ => false) (fun _ _ _ _ => false) (fun _ _ => false) (fun _ _ _ _ => false) (fun _ _ _ _ => false) (fun _ _ => false) (fun _ _ _ _ _ _ => false) (fun _ _ _ _ _ _ => false) (fun _ _ _ _ _ _ => false) (fun _ _ => false) (fun _ _ _ => false) (fun _ _ _ _ _ y k => (V.rec (motive_1 := fun _ => (Bool → Bool) → Bool) (motive_2 := fun _ => Unit) (fun _ _ _ => false) (fun _ _ => false) (fun _ _ _ => false) (fun _ => false) (fun _ _ _ => false) (fun _ _ _ => false) (fun _ => false) (fun _ _ _ _ _ => false) (fun _ _ _ _ _ => false) (fun _ _ _ _ _ => false) (fun _ => false) (fun _ _ => false) (fun _ _ _ _ _ _ => false) (fun k => k false) (fun _ => false) (fun _ _ _ => false) (fun _ _ _ => false) (fun _ _ _ _ _ => false) () (fun _ _ _ _ => ()) (y) k)) (fun y k => (V.rec (motive_1 := fun _ => (Bool → Bool) → Bool) (motive_2 := fun _ => Unit) (fun _ _ _ => false) (fun _ _ => false) (fun _ _ _ => false) (fun _ => false) (fun _ _ _ => false) (fun _ _ _ => false) (fun _ => false) (fun _ _ _ _ _ => false) (fun _ _ _ _ _ => false) (fun _ _ _ _ _ => false) (fun _ => false) (fun _ _ => false) (fun _ _ _ _ _ k => k false) (fun k => k true) (fun _ => false) (fun _ _ _ => false) (fun _ _ _ => false) (fun _ _ _ _ _ => false) () (fun _ _ _ _ => ()) (y) k)) (fun _ _ => false) (fun _ _ _ _ => false) (fun _ _ _ _ => false) (fun _ _ _ _ _ _ => false) () (fun _ _ _ _ => ()) (x) y k)
noncomputable def eqX (t : EqT) (x y : V) (k : Bool → Bool) : Bool :=
  EqT.rc (β := V → V → (Bool → Bool) → Bool) (γ := List V → List V → (Bool → Bool) → Bool) (δ := List V → List V → (Bool → Bool) → Bool) eqInt eqBool eqStr eqPtr eqSl eqMp eqFn
    (fun d x y k => (V.rec (motive_1 := fun _ => (List V → List V → (Bool → Bool) → Bool) → (V) → (Bool → Bool) → Bool) (motive_2 := fun _ => Unit) (fun _ _ _ _ _ => false) (fun _ _ _ _ => false) (fun _ _ _ _ _ => false) (fun _ _ _ => false) (fun _ _ _ _ _ => false) (fun _ _ _ _ _ => false) (fun _ _ _ => false) (fun _ _ _ _ _ _ _ => false) (fun _ _ _ _ _ _ _ => false) (fun _ _ _ _ _ _ _ => false) (fun _ _ _ => false) (fun _ _ _ _ => false) (fun _ _ _ _ _ _ _ _ => false) (fun _ _ _ => false) (fun _ _ _ => false) (fun a _ d y k => (V.rec (motive_1 := fun _ => (List V → List V → (Bool → Bool) → Bool) → (List V) → (Bool → Bool) → Bool) (motive_2 := fun _ => Unit) (fun _ _ _ _ _ => false) (fun _ _ _ _ => false) (fun _ _ _ _ _ => false) (fun _ _ _ => false) (fun _ _ _ _ _ => false) (fun _ _ _ _ _ => false) (fun _ _ _ => false) (fun _ _ _ _ _ _ _ => false) (fun _ _ _ _ _ _ _ => false) (fun _ _ _ _ _ _ _ => false) (fun _ _ _ => false) (fun _ _ _ _ => false) (fun _ _ _ _ _ _ _ _ => false) (fun _ _ _ => false) (fun _ _ _ => false) (fun b _ d a k => d a b k) (fun _ _ _ _ _ => false) (fun _ _ _ _ _ _ _ => false) () (fun _ _ _ _ => ()) (y) d a k)) (fun _ _ _ _ _ => false) (fun _ _ _ _ _ _ _ => false) () (fun _ _ _ _ => ()) (x) d y k))
    (fun o s a f x y k => (Bool.rec (motive := fun _ => _) (hd (ldrop o x) fun p => hd (ldrop o y) fun q => f p q k) (ltake s (ldrop o x) fun p => ltake s (ldrop o y) fun q => f (.agg p) (.agg q) k) a))
    (fun _ _ k => k true) (fun g d x y k => g x y fun r => (Bool.rec (motive := fun _ => _) (k false) (d x y k) r)) t x y k
-- values that are alike, for reads that are looked at again
noncomputable def veq0 (x y : V) : Bool := (V.rec (motive_1 := fun _ => (V) → Bool) (motive_2 := fun _ => Unit) (fun kd a y => (V.rec (motive_1 := fun _ => (IntKind) → (Int) → Bool) (motive_2 := fun _ => Unit) (fun kd' b kd a => band (keq kd kd') (ieq a b)) (fun _ _ _ => false) (fun _ _ _ _ => false) (fun _ _ => false) (fun _ _ _ _ => false) (fun _ _ _ _ => false) (fun _ _ => false) (fun _ _ _ _ _ _ => false) (fun _ _ _ _ _ _ => false) (fun _ _ _ _ _ _ => false) (fun _ _ => false) (fun _ _ _ => false) (fun _ _ _ _ _ _ _ => false) (fun _ _ => false) (fun _ _ => false) (fun _ _ _ _ => false) (fun _ _ _ _ => false) (fun _ _ _ _ _ _ => false) () (fun _ _ _ _ => ()) (y) kd a)) (fun a y => (V.rec (motive_1 := fun _ => (Bool) → Bool) (motive_2 := fun _ => Unit) (fun _ _ _ => false) (fun b a => (Bool.rec (motive := fun _ => _) (bnot b) b a)) (fun _ _ _ => false) (fun _ => false) (fun _ _ _ => false) (fun _ _ _ => false) (fun _ => false) (fun _ _ _ _ _ => false) (fun _ _ _ _ _ => false) (fun _ _ _ _ _ => false) (fun _ => false) (fun _ _ => false) (fun _ _ _ _ _ _ => false) (fun _ => false) (fun _ => false) (fun _ _ _ => false) (fun _ _ _ => false) (fun _ _ _ _ _ => false) () (fun _ _ _ _ => ()) (y) a)) (fun n v y => (V.rec (motive_1 := fun _ => (Nat) → (Nat) → Bool) (motive_2 := fun _ => Unit) (fun _ _ _ _ => false) (fun _ _ _ => false) (fun m w n v => strEq n v m w) (fun _ _ => false) (fun _ _ _ _ => false) (fun _ _ _ _ => false) (fun _ _ => false) (fun _ _ _ _ _ _ => false) (fun _ _ _ _ _ _ => false) (fun _ _ _ _ _ _ => false) (fun _ _ => false) (fun _ _ _ => false) (fun _ _ _ _ _ _ _ => false) (fun _ _ => false) (fun _ _ => false) (fun _ _ _ _ => false) (fun _ _ _ _ => false) (fun _ _ _ _ _ _ => false) () (fun _ _ _ _ => ()) (y) n v)) (fun y => (V.rec (motive_1 := fun _ => Bool) (motive_2 := fun _ => Unit) (fun _ _ => false) (fun _ => false) (fun _ _ => false) (true) (fun _ _ => false) (fun _ _ => false) (false) (fun _ _ _ _ => false) (fun _ _ _ _ => false) (fun _ _ _ _ => false) (false) (fun _ => false) (fun _ _ _ _ _ => false) (false) (false) (fun _ _ => false) (fun _ _ => false) (fun _ _ _ _ => false) () (fun _ _ _ _ => ()) (y) )) (fun b o y => (V.rec (motive_1 := fun _ => (B) → (Nat) → Bool) (motive_2 := fun _ => Unit) (fun _ _ _ _ => false) (fun _ _ _ => false) (fun _ _ _ _ => false) (fun _ _ => false) (fun b' o' b o => band (Nat.beq o o') (B.eq b b')) (fun _ _ _ _ => false) (fun _ _ => false) (fun _ _ _ _ _ _ => false) (fun _ _ _ _ _ _ => false) (fun _ _ _ _ _ _ => false) (fun _ _ => false) (fun _ _ _ => false) (fun _ _ _ _ _ _ _ => false) (fun _ _ => false) (fun _ _ => false) (fun _ _ _ _ => false) (fun _ _ _ _ => false) (fun _ _ _ _ _ _ => false) () (fun _ _ _ _ => ()) (y) b o)) (fun g o y => (V.rec (motive_1 := fun _ => (Nat) → (Nat) → Bool) (motive_2 := fun _ => Unit) (fun _ _ _ _ => false) (fun _ _ _ => false) (fun _ _ _ _ => false) (fun _ _ => false) (fun _ _ _ _ => false) (fun g' o' g o => band (Nat.beq g g') (Nat.beq o o')) (fun _ _ => false) (fun _ _ _ _ _ _ => false) (fun _ _ _ _ _ _ => false) (fun _ _ _ _ _ _ => false) (fun _ _ => false) (fun _ _ _ => false) (fun _ _ _ _ _ _ _ => false) (fun _ _ => false) (fun _ _ => false) (fun _ _ _ _ => false) (fun _ _ _ _ => false) (fun _ _ _ _ _ _ => false) () (fun _ _ _ _ => ()) (y) g o)) (fun y => (V.rec (motive_1 := fun _ => Bool) (motive_2 := fun _ => Unit) (fun _ _ => false) (fun _ => false) (fun _ _ => false) (false) (fun _ _ => false) (fun _ _ => false) (true) (fun _ _ _ _ => false) (fun _ _ _ _ => false) (fun _ _ _ _ => false) (false) (fun _ => false) (fun _ _ _ _ _ => false) (false) (false) (fun _ _ => false) (fun _ _ => false) (fun _ _ _ _ => false) () (fun _ _ _ _ => ()) (y) )) (fun b o n c y => (V.rec (motive_1 := fun _ => (B) → (Nat) → (Nat) → (Nat) → Bool) (motive_2 := fun _ => Unit) (fun _ _ _ _ _ _ => false) (fun _ _ _ _ _ => false) (fun _ _ _ _ _ _ => false) (fun _ _ _ _ => false) (fun _ _ _ _ _ _ => false) (fun _ _ _ _ _ _ => false) (fun _ _ _ _ => false) (fun b' o' n' c' b o n c => band (Nat.beq o o') (band (Nat.beq n n') (band (Nat.beq c c') (B.eq b b')))) (fun _ _ _ _ _ _ _ _ => false) (fun _ _ _ _ _ _ _ _ => false) (fun _ _ _ _ => false) (fun _ _ _ _ _ => false) (fun _ _ _ _ _ _ _ _ _ => false) (fun _ _ _ _ => false) (fun _ _ _ _ => false) (fun _ _ _ _ _ _ => false) (fun _ _ _ _ _ _ => false) (fun _ _ _ _ _ _ _ _ => false) () (fun _ _ _ _ => ()) (y) b o n c)) (fun b o c n y => (V.rec (motive_1 := fun _ => (B) → (Nat) → (Nat) → (Nat) → Bool) (motive_2 := fun _ => Unit) (fun _ _ _ _ _ _ => false) (fun _ _ _ _ _ => false) (fun _ _ _ _ _ _ => false) (fun _ _ _ _ => false) (fun _ _ _ _ _ _ => false) (fun _ _ _ _ _ _ => false) (fun _ _ _ _ => false) (fun _ _ _ _ _ _ _ _ => false) (fun b' o' c' n' b o c n => band (Nat.beq o o') (band (Nat.beq n n') (band (Nat.beq c c') (B.eq b b')))) (fun _ _ _ _ _ _ _ _ => false) (fun _ _ _ _ => false) (fun _ _ _ _ _ => false) (fun _ _ _ _ _ _ _ _ _ => false) (fun _ _ _ _ => false) (fun _ _ _ _ => false) (fun _ _ _ _ _ _ => false) (fun _ _ _ _ _ _ => false) (fun _ _ _ _ _ _ _ _ => false) () (fun _ _ _ _ => ()) (y) b o c n)) (fun b o q c y => (V.rec (motive_1 := fun _ => (B) → (Nat) → (Nat) → (Nat) → Bool) (motive_2 := fun _ => Unit) (fun _ _ _ _ _ _ => false) (fun _ _ _ _ _ => false) (fun _ _ _ _ _ _ => false) (fun _ _ _ _ => false) (fun _ _ _ _ _ _ => false) (fun _ _ _ _ _ _ => false) (fun _ _ _ _ => false) (fun _ _ _ _ _ _ _ _ => false) (fun _ _ _ _ _ _ _ _ => false) (fun b' o' q' c' b o q c => band (Nat.beq o o') (band (Nat.beq q q') (band (Nat.beq c c') (B.eq b b')))) (fun _ _ _ _ => false) (fun _ _ _ _ _ => false) (fun _ _ _ _ _ _ _ _ _ => false) (fun _ _ _ _ => false) (fun _ _ _ _ => false) (fun _ _ _ _ _ _ => false) (fun _ _ _ _ _ _ => false) (fun _ _ _ _ _ _ _ _ => false) () (fun _ _ _ _ => ()) (y) b o q c)) (fun y => (V.rec (motive_1 := fun _ => Bool) (motive_2 := fun _ => Unit) (fun _ _ => false) (fun _ => false) (fun _ _ => false) (false) (fun _ _ => false) (fun _ _ => false) (false) (fun _ _ _ _ => false) (fun _ _ _ _ => false) (fun _ _ _ _ => false) (true) (fun _ => false) (fun _ _ _ _ _ => false) (false) (false) (fun _ _ => false) (fun _ _ => false) (fun _ _ _ _ => false) () (fun _ _ _ _ => ()) (y) )) (fun b y => (V.rec (motive_1 := fun _ => (B) → Bool) (motive_2 := fun _ => Unit) (fun _ _ _ => false) (fun _ _ => false) (fun _ _ _ => false) (fun _ => false) (fun _ _ _ => false) (fun _ _ _ => false) (fun _ => false) (fun _ _ _ _ _ => false) (fun _ _ _ _ _ => false) (fun _ _ _ _ _ => false) (fun _ => false) (fun b' b => B.eq b b') (fun _ _ _ _ _ _ => false) (fun _ => false) (fun _ => false) (fun _ _ _ => false) (fun _ _ _ => false) (fun _ _ _ _ _ => false) () (fun _ _ _ _ => ()) (y) b)) (fun _ _ _ _ _ _ => false) (fun y => (V.rec (motive_1 := fun _ => Bool) (motive_2 := fun _ => Unit) (fun _ _ => false) (fun _ => false) (fun _ _ => false) (false) (fun _ _ => false) (fun _ _ => false) (false) (fun _ _ _ _ => false) (fun _ _ _ _ => false) (fun _ _ _ _ => false) (false) (fun _ => false) (fun _ _ _ _ _ => false) (true) (false) (fun _ _ => false) (fun _ _ => false) (fun _ _ _ _ => false) () (fun _ _ _ _ => ()) (y) )) (fun _ => false) (fun _ _ _ => false) (fun _ _ _ => false) (fun _ _ _ _ _ => false) () (fun _ _ _ _ => ()) (x) y)
noncomputable def veqL (f : V → V → Bool) (a b : List V) : Bool := (List.rec (motive := fun _ => (V → V → Bool) → List V → Bool) (fun _ b => (List.rec (motive := fun _ => _) true (fun _ _ _ => false) b)) (fun x _ ih f b => (List.rec (motive := fun _ => V → ((V → V → Bool) → List V → Bool) → (V → V → Bool) → Bool) (fun _ _ _ => false) (fun y t _ x ih f => band (f x y) (ih f t)) b) x ih f) a) f b
noncomputable def veq1 (x y : V) : Bool := (V.rec (motive_1 := fun _ => (V) → (V) → Bool) (motive_2 := fun _ => Unit) (fun _ _ x y => veq0 x y) (fun _ x y => veq0 x y) (fun _ _ x y => veq0 x y) (fun x y => veq0 x y) (fun _ _ x y => veq0 x y) (fun _ _ x y => veq0 x y) (fun x y => veq0 x y) (fun _ _ _ _ x y => veq0 x y) (fun _ _ _ _ x y => veq0 x y) (fun _ _ _ _ x y => veq0 x y) (fun x y => veq0 x y) (fun _ x y => veq0 x y) (fun _ _ _ _ _ x y => veq0 x y) (fun x y => veq0 x y) (fun x y => veq0 x y) (fun a _ _ y => (V.rec (motive_1 := fun _ => (List V) → Bool) (motive_2 := fun _ => Unit) (fun _ _ _ => false) (fun _ _ => false) (fun _ _ _ => false) (fun _ => false) (fun _ _ _ => false) (fun _ _ _ => false) (fun _ => false) (fun _ _ _ _ _ => false) (fun _ _ _ _ _ => false) (fun _ _ _ _ _ => false) (fun _ => false) (fun _ _ => false) (fun _ _ _ _ _ _ => false) (fun _ => false) (fun _ => false) (fun b _ a => veqL veq0 a b) (fun _ _ _ => false) (fun _ _ _ _ _ => false) () (fun _ _ _ _ => ()) (y) a)) (fun a _ _ y => (V.rec (motive_1 := fun _ => (List V) → Bool) (motive_2 := fun _ => Unit) (fun _ _ _ => false) (fun _ _ => false) (fun _ _ _ => false) (fun _ => false) (fun _ _ _ => false) (fun _ _ _ => false) (fun _ => false) (fun _ _ _ _ _ => false) (fun _ _ _ _ _ => false) (fun _ _ _ _ _ => false) (fun _ => false) (fun _ _ => false) (fun _ _ _ _ _ _ => false) (fun _ => false) (fun _ => false) (fun _ _ _ => false) (fun b _ a => veqL veq0 a b) (fun _ _ _ _ _ => false) () (fun _ _ _ _ => ()) (y) a)) (fun _ _ _ _ x y => veq0 x y) () (fun _ _ _ _ => ()) (x) x y)
noncomputable def veq (x y : V) : Bool := (V.rec (motive_1 := fun _ => (V) → (V) → Bool) (motive_2 := fun _ => Unit) (fun _ _ x y => veq1 x y) (fun _ x y => veq1 x y) (fun _ _ x y => veq1 x y) (fun x y => veq1 x y) (fun _ _ x y => veq1 x y) (fun _ _ x y => veq1 x y) (fun x y => veq1 x y) (fun _ _ _ _ x y => veq1 x y) (fun _ _ _ _ x y => veq1 x y) (fun _ _ _ _ x y => veq1 x y) (fun x y => veq1 x y) (fun _ x y => veq1 x y) (fun _ _ _ _ _ x y => veq1 x y) (fun x y => veq1 x y) (fun x y => veq1 x y) (fun _ _ x y => veq1 x y) (fun a _ _ y => (V.rec (motive_1 := fun _ => (List V) → Bool) (motive_2 := fun _ => Unit) (fun _ _ _ => false) (fun _ _ => false) (fun _ _ _ => false) (fun _ => false) (fun _ _ _ => false) (fun _ _ _ => false) (fun _ => false) (fun _ _ _ _ _ => false) (fun _ _ _ _ _ => false) (fun _ _ _ _ _ => false) (fun _ => false) (fun _ _ => false) (fun _ _ _ _ _ _ => false) (fun _ => false) (fun _ => false) (fun _ _ _ => false) (fun b _ a => veqL veq1 a b) (fun _ _ _ _ _ => false) () (fun _ _ _ _ => ()) (y) a)) (fun _ _ _ _ x y => veq1 x y) () (fun _ _ _ _ => ()) (x) x y)
-- maps
noncomputable def kvK (x : KV) : V := (KV.rec (motive := fun _ => V) (fun a _ => a) (x) )
noncomputable def kvV (x : KV) : V := (KV.rec (motive := fun _ => V) (fun _ b => b) (x) )
noncomputable def mfind (q : EqT) (l : List KV) (x : V) (k : V → Bool) (no : Unit → Bool) : Bool := (List.rec (motive := fun _ => EqT → V → (V → Bool) → (Unit → Bool) → Bool) (fun _ _ _ no => no ()) (fun a _ ih q x k no => eqX q x (kvK a) fun r => (Bool.rec (motive := fun _ => _) (ih q x k no) (k (kvV a)) r)) l) q x k no
noncomputable def bitsB (v : V) : Bool := (V.rec (motive_1 := fun _ => Bool) (motive_2 := fun _ => Unit) (fun _ _ => true) (fun _ => true) (fun _ _ => true) (false) (fun _ _ => false) (fun _ _ => false) (false) (fun _ _ _ _ => false) (fun _ _ _ _ => false) (fun _ _ _ _ => false) (false) (fun _ => false) (fun _ _ _ _ _ => false) (false) (false) (fun _ _ => false) (fun _ _ => false) (fun _ _ _ _ => false) () (fun _ _ _ _ => ()) (v) )
noncomputable def bitsL (l : List V) : Bool := (List.rec (motive := fun _ => Bool) true (fun a _ ih => band (bitsB a) ih) l)
noncomputable def mput (q : EqT) (l : List KV) (x v : V) (k : List KV → Bool) : Bool := (List.rec (motive := fun _ => EqT → V → V → (List KV → Bool) → Bool) (fun _ x v k => k [.mk x v]) (fun a t ih q x v k => eqX q x (kvK a) fun r => (Bool.rec (motive := fun _ => _) (ih q x v fun r => k (a :: r)) ((Bool.rec (motive := fun _ => _) false (k (.mk x v :: t)) (band (veq x (kvK a)) (vcells x bitsL)))) r)) l) q x v k
noncomputable def mdel (q : EqT) (l : List KV) (x : V) (k : List KV → Bool) : Bool := (List.rec (motive := fun _ => EqT → V → (List KV → Bool) → Bool) (fun _ _ k => k []) (fun a t ih q x k => eqX q x (kvK a) fun r => (Bool.rec (motive := fun _ => _) (ih q x fun r => k (a :: r)) (k t) r)) l) q x k
noncomputable def mlen (l : List KV) (k : Nat → Bool) : Bool := (List.rec (motive := fun _ => (Nat → Bool) → Bool) (fun k => k 0) (fun _ _ ih k => ih fun n => k (Nat.succ n)) l) k
noncomputable def mapOf (b : B) (s : S) (k : List KV → Bool) : Bool := (S.rec (motive := fun _ => (B) → (List KV → Bool) → Bool) (fun h _ _ b k => (Slot.rec (motive := fun _ => (List KV → Bool) → Bool) (fun _ => false) (fun _ => false) (fun _ _ _ _ => false) (fun l k => k l) (hget b h) k)) (s) b k)
-- parts
noncomputable def parts (ps : List Pt) (e : E) (l : List V) (k : List V → Bool) : Bool :=
  (List.rec (motive := fun _ => E → List V → (List V → Bool) → Bool) (fun _ l k => k l) (fun p _ ih e l k => (Pt.rec (motive := fun _ => (E → List V → (List V → Bool) → Bool) → (E) → (List V) → (List V → Bool) → Bool) (fun o n x ih e l k => vcells (opd x e) fun c => (Bool.rec (motive := fun _ => _) false (lput o c l fun l => ih e l k) (lenIs c n))) (p) ih e l k)) ps) e l k
noncomputable def llput (i : Nat) (a : List V) (l : LL) (k : LL → Bool) : Bool :=
  (Nat.rec (motive := fun _ => List V → LL → (LL → Bool) → Bool) (fun a l k => (List.rec (motive := fun _ => List V → (LL → Bool) → Bool) (fun _ _ => false) (fun _ t _ a k => k (a :: t)) l) a k) (fun _ ih a l k => (List.rec (motive := fun _ => (List V → LL → (LL → Bool) → Bool) → List V → (LL → Bool) → Bool) (fun _ _ _ => false) (fun x t _ ih a k => ih a t fun r => k (x :: r)) l) ih a k) i) a l k
noncomputable def partsL (ps : List Pt) (e : E) (l : LL) (k : LL → Bool) : Bool :=
  (List.rec (motive := fun _ => E → LL → (LL → Bool) → Bool) (fun _ l k => k l) (fun p _ ih e l k => (Pt.rec (motive := fun _ => (E → LL → (LL → Bool) → Bool) → (E) → (LL) → (LL → Bool) → Bool) (fun o n x ih e l k => vcells (opd x e) fun c => (Bool.rec (motive := fun _ => _) false ((Bool.rec (motive := fun _ => _) false (llput o c l fun l => ih e l k) (allCells c))) (lenIs c n))) (p) ih e l k)) ps) e l k
abbrev CL : Type := Nat → List V → S → (V → S → Bool) → Bool
-- slices of slices
noncomputable def optN (x : Option Opd) (e : E) (d : Nat) (k : Nat → Bool) : Bool := (Option.rec (motive := fun _ => E → Nat → (Nat → Bool) → Bool) (fun _ d k => k d) (fun o e _ k => asNat (opd o e) k) x) e d k
noncomputable def sliceSl (sz : Nat) (b : B) (o l h m : Nat) (k : V → Bool) : Bool := (Bool.rec (motive := fun _ => _) false ((Bool.rec (motive := fun _ => _) false (forceN (Nat.sub h l) fun n => forceN (Nat.sub m l) fun c => (Bool.rec (motive := fun _ => _) (forceN (Nat.add o (Nat.mul l sz)) fun o => k (.sl b o n c)) (k (.sl b o n c)) (Nat.beq m l))) (Nat.ble l h))) (Nat.ble h m))
noncomputable def slotIs (b : B) (s : S) (k : Nat → Nat → Cells → Bool) : Bool := (S.rec (motive := fun _ => (B) → (Nat → Nat → Cells → Bool) → Bool) (fun h _ _ b k => (Slot.rec (motive := fun _ => (Nat → Nat → Cells → Bool) → Bool) (fun _ => false) (fun _ => false) (fun el sz c k => k el sz c) (fun _ _ => false) (hget b h) k)) (s) b k)
noncomputable def szIs (b : B) (sz : Nat) (s : S) : Bool := (S.rec (motive := fun _ => (B) → (Nat) → Bool) (fun h _ _ b sz => (Slot.rec (motive := fun _ => (Nat) → Bool) (fun _ => false) (fun _ => false) (fun _ z _ sz => Nat.beq z sz) (fun _ _ => false) (hget b h) sz)) (s) b sz)
noncomputable def sliceX (sz : Nat) (x : V) (lo hi mx : Option Opd) (e : E) (s : S) (k : V → Bool) : Bool := (V.rec (motive_1 := fun _ => (Nat) → (Option Opd) → (Option Opd) → (Option Opd) → (E) → (S) → (V → Bool) → Bool) (motive_2 := fun _ => Unit) (fun _ _ _ _ _ _ _ _ _ => false) (fun _ _ _ _ _ _ _ _ => false) (fun _ _ _ _ _ _ _ _ _ => false) (fun _ _ _ _ _ _ _ => false) (fun _ _ _ _ _ _ _ _ _ => false) (fun _ _ _ _ _ _ _ _ _ => false) (fun _ lo hi mx e _ k => optN lo e 0 fun l => optN hi e 0 fun h => optN mx e 0 fun m => (Bool.rec (motive := fun _ => _) false (k .nils) (Nat.beq (Nat.add l (Nat.add h m)) 0))) (fun b o n c sz lo hi mx e _ k => optN lo e 0 fun l => optN hi e n fun h => optN mx e c fun m => (Bool.rec (motive := fun _ => _) false (sliceSl sz b o l h m k) (Nat.ble m c))) (fun b o c n sz lo hi mx e s k => (Option.rec (motive := fun _ => Nat → Option Opd → Option Opd → E → S → B → Nat → Nat → Nat → (V → Bool) → Bool) (fun sz lo hi e s b o c n k => optN lo e 0 fun l => optN hi e n fun h => (Bool.rec (motive := fun _ => _) false ((Bool.rec (motive := fun _ => _) false ((Bool.rec (motive := fun _ => _) ((Bool.rec (motive := fun _ => _) ((Bool.rec (motive := fun _ => _) false (forceN (Nat.add o (Nat.mul l sz)) fun q => forceN (Nat.add c l) fun c => k (.sle b o q c)) (szIs b sz s))) (k (.slr b o c h)) (Nat.beq l 0))) ((Bool.rec (motive := fun _ => _) false (forceN (Nat.sub h l) fun q => forceN (Nat.add o (Nat.mul l sz)) fun o => forceN (Nat.add c l) fun c => k (.slr b o c q)) (szIs b sz s))) (blt l h))) (Nat.ble l h))) (Nat.ble h n))) (fun mo sz lo hi e _ b o _ n k => asNat (opd mo e) fun m => optN lo e 0 fun l => optN hi e n fun h => (Bool.rec (motive := fun _ => _) false (sliceSl sz b o l h m k) (Nat.ble m n))) mx) sz lo hi e s b o c n k) (fun _ _ _ _ _ _ _ _ _ _ _ => false) (fun _ _ _ _ _ _ _ => false) (fun _ _ _ _ _ _ _ _ => false) (fun _ _ _ _ _ _ _ _ _ _ _ _ => false) (fun _ _ _ _ _ _ _ => false) (fun _ _ _ _ _ _ _ => false) (fun _ _ _ _ _ _ _ _ _ => false) (fun _ _ _ _ _ _ _ _ _ => false) (fun _ _ _ _ _ _ _ _ _ _ _ => false) () (fun _ _ _ _ => ()) (x) sz lo hi mx e s k)
noncomputable def addOff (x : V) (d : Nat) (k : V → Bool) : Bool := (V.rec (motive_1 := fun _ => (Nat) → (V → Bool) → Bool) (motive_2 := fun _ => Unit) (fun _ _ _ _ => false) (fun _ _ _ => false) (fun _ _ _ _ => false) (fun _ _ => false) (fun b o d k => forceN (Nat.add o d) fun o => k (.ptr b o)) (fun b o d k => forceN (Nat.add o d) fun o => k (.gptr b o)) (fun _ _ => false) (fun _ _ _ _ _ _ => false) (fun _ _ _ _ _ _ => false) (fun _ _ _ _ _ _ => false) (fun _ _ => false) (fun _ _ _ => false) (fun _ _ _ _ _ _ _ => false) (fun _ _ => false) (fun _ _ => false) (fun _ _ _ _ => false) (fun _ _ _ _ => false) (fun _ _ _ _ _ _ => false) () (fun _ _ _ _ => ()) (x) d k)
noncomputable def mmX (l : List V) (x : V) (mx : Bool) (s : S) (k : V → S → Bool) : Bool := (List.rec (motive := fun _ => V → Bool → S → (V → S → Bool) → Bool) (fun x _ s k => k x s) (fun y _ ih x mx s k => (V.rec (motive_1 := fun _ => (V → Bool → S → (V → S → Bool) → Bool) → (V) → (Bool) → (S) → (V → S → Bool) → Bool) (motive_2 := fun _ => Unit) (fun kd a ih y mx s k => (V.rec (motive_1 := fun _ => (V → Bool → S → (V → S → Bool) → Bool) → (IntKind) → (Int) → (Bool) → (S) → (V → S → Bool) → Bool) (motive_2 := fun _ => Unit) (fun _ b ih kd a mx s k => (Bool.rec (motive := fun _ => _) ((Bool.rec (motive := fun _ => _) (ih (.int kd b) mx s k) (ih (.int kd a) mx s k) (ile a b))) ((Bool.rec (motive := fun _ => _) (ih (.int kd b) mx s k) (ih (.int kd a) mx s k) (ile b a))) mx)) (fun _ _ _ _ _ _ _ => false) (fun _ _ _ _ _ _ _ _ => false) (fun _ _ _ _ _ _ => false) (fun _ _ _ _ _ _ _ _ => false) (fun _ _ _ _ _ _ _ _ => false) (fun _ _ _ _ _ _ => false) (fun _ _ _ _ _ _ _ _ _ _ => false) (fun _ _ _ _ _ _ _ _ _ _ => false) (fun _ _ _ _ _ _ _ _ _ _ => false) (fun _ _ _ _ _ _ => false) (fun _ _ _ _ _ _ _ => false) (fun _ _ _ _ _ _ _ _ _ _ _ => false) (fun _ _ _ _ _ _ => false) (fun _ _ _ _ _ _ => false) (fun _ _ _ _ _ _ _ _ => false) (fun _ _ _ _ _ _ _ _ => false) (fun _ _ _ _ _ _ _ _ _ _ => false) () (fun _ _ _ _ => ()) (y) ih kd a mx s k)) (fun _ _ _ _ _ _ => false) (fun _ _ _ _ _ _ _ => false) (fun _ _ _ _ _ => false) (fun _ _ _ _ _ _ _ => false) (fun _ _ _ _ _ _ _ => false) (fun _ _ _ _ _ => false) (fun _ _ _ _ _ _ _ _ _ => false) (fun _ _ _ _ _ _ _ _ _ => false) (fun _ _ _ _ _ _ _ _ _ => false) (fun _ _ _ _ _ => false) (fun _ _ _ _ _ _ => false) (fun _ _ _ _ _ _ _ _ _ _ => false) (fun _ _ _ _ _ => false) (fun _ _ _ _ _ => false) (fun _ _ _ _ _ _ _ => false) (fun _ _ _ _ _ _ _ => false) (fun _ _ _ _ _ _ _ _ _ => false) () (fun _ _ _ _ => ()) (x) ih y mx s k)) l) x mx s k
-- what package-level tables hold
noncomputable def iX (i : I) (cl : CL) (gl : Nat → Nat → V) (e : E) (s : S) (k : V → S → Bool) : Bool := (I.rec (motive := fun _ => (CL) → (Nat → Nat → V) → (E) → (S) → (V → S → Bool) → Bool) (fun x _ _ e s k => k (opd x e) s) (fun c a b _ _ e s k => (V.rec (motive_1 := fun _ => (Opd) → (Opd) → (E) → (S) → (V → S → Bool) → Bool) (motive_2 := fun _ => Unit) (fun _ _ _ _ _ _ _ => false) (fun t a b e s k => (Bool.rec (motive := fun _ => _) (k (opd b e) s) (k (opd a e) s) t)) (fun _ _ _ _ _ _ _ => false) (fun _ _ _ _ _ => false) (fun _ _ _ _ _ _ _ => false) (fun _ _ _ _ _ _ _ => false) (fun _ _ _ _ _ => false) (fun _ _ _ _ _ _ _ _ _ => false) (fun _ _ _ _ _ _ _ _ _ => false) (fun _ _ _ _ _ _ _ _ _ => false) (fun _ _ _ _ _ => false) (fun _ _ _ _ _ _ => false) (fun _ _ _ _ _ _ _ _ _ _ => false) (fun _ _ _ _ _ => false) (fun _ _ _ _ _ => false) (fun _ _ _ _ _ _ _ => false) (fun _ _ _ _ _ _ _ => false) (fun _ _ _ _ _ _ _ _ _ => false) () (fun _ _ _ _ => ()) (opd c e) a b e s k)) (fun el sz z _ _ _ s k => new s (.cells el sz (.one z)) fun b s => k (.ptr b 0) s) (fun el sz x _ _ e s k => vcells (opd x e) fun l => (Bool.rec (motive := fun _ => _) false ((Bool.rec (motive := fun _ => _) false (new s (.cells el sz (.one l)) fun b s => k (.ptr b 0) s) (allCells l))) (lenIs l sz))) (fun z ps _ _ e s k => parts ps e z fun l => k (.agg l) s) (fun el sz z len ps _ _ e s k => rep len z fun l => partsL ps e l fun l => mkCells l fun c => new s (.cells el sz c) fun b s => k (.sl b 0 len len) s) (fun a _ gl e s k => (V.rec (motive_1 := fun _ => (Nat → Nat → V) → (S) → (V → S → Bool) → Bool) (motive_2 := fun _ => Unit) (fun _ _ _ _ _ => false) (fun _ _ _ _ => false) (fun _ _ _ _ _ => false) (fun _ _ _ => false) (fun b o _ s k => load1 b o s fun v => k v s) (fun g o gl s k => (V.rec (motive_1 := fun _ => (S) → (V → S → Bool) → Bool) (motive_2 := fun _ => Unit) (fun kd z s k => k (.int kd z) s) (fun _ _ _ => false) (fun _ _ _ _ => false) (fun _ _ => false) (fun _ _ _ _ => false) (fun _ _ _ _ => false) (fun _ _ => false) (fun _ _ _ _ _ _ => false) (fun _ _ _ _ _ _ => false) (fun _ _ _ _ _ _ => false) (fun _ _ => false) (fun _ _ _ => false) (fun _ _ _ _ _ _ _ => false) (fun _ _ => false) (fun _ _ => false) (fun _ _ _ _ => false) (fun _ _ _ _ => false) (fun _ _ _ _ _ _ => false) () (fun _ _ _ _ => ()) (gl g o) s k)) (fun _ _ _ => false) (fun _ _ _ _ _ _ _ => false) (fun _ _ _ _ _ _ _ => false) (fun _ _ _ _ _ _ _ => false) (fun _ _ _ => false) (fun _ _ _ _ => false) (fun _ _ _ _ _ _ _ _ => false) (fun _ _ _ => false) (fun _ _ _ => false) (fun _ _ _ _ _ => false) (fun _ _ _ _ _ => false) (fun _ _ _ _ _ _ _ => false) () (fun _ _ _ _ => ()) (opd a e) gl s k)) (fun sz a _ _ e s k => (V.rec (motive_1 := fun _ => (Nat) → (S) → (V → S → Bool) → Bool) (motive_2 := fun _ => Unit) (fun _ _ _ _ _ => false) (fun _ _ _ _ => false) (fun _ _ _ _ _ => false) (fun _ _ _ => false) (fun b o sz s k => loadN sz b o s fun l => k (.agg l) s) (fun _ _ _ _ _ => false) (fun _ _ _ => false) (fun _ _ _ _ _ _ _ => false) (fun _ _ _ _ _ _ _ => false) (fun _ _ _ _ _ _ _ => false) (fun _ _ _ => false) (fun _ _ _ _ => false) (fun _ _ _ _ _ _ _ _ => false) (fun _ _ _ => false) (fun _ _ _ => false) (fun _ _ _ _ _ => false) (fun _ _ _ _ _ => false) (fun _ _ _ _ _ _ _ => false) () (fun _ _ _ _ => ()) (opd a e) sz s k)) (fun sz a x _ _ e s k => (V.rec (motive_1 := fun _ => (Nat) → (Opd) → (E) → (S) → (V → S → Bool) → Bool) (motive_2 := fun _ => Unit) (fun _ _ _ _ _ _ _ => false) (fun _ _ _ _ _ _ => false) (fun _ _ _ _ _ _ _ => false) (fun _ _ _ _ _ => false) (fun b o sz x e s k => vcells (opd x e) fun l => (Bool.rec (motive := fun _ => _) false ((Bool.rec (motive := fun _ => _) false (store b o l s fun s => k undef s) (allCells l))) (lenIs l sz))) (fun _ _ _ _ _ _ _ => false) (fun _ _ _ _ _ => false) (fun _ _ _ _ _ _ _ _ _ => false) (fun _ _ _ _ _ _ _ _ _ => false) (fun _ _ _ _ _ _ _ _ _ => false) (fun _ _ _ _ _ => false) (fun _ _ _ _ _ _ => false) (fun _ _ _ _ _ _ _ _ _ _ => false) (fun _ _ _ _ _ => false) (fun _ _ _ _ _ => false) (fun _ _ _ _ _ _ _ => false) (fun _ _ _ _ _ _ _ => false) (fun _ _ _ _ _ _ _ _ _ => false) () (fun _ _ _ _ => ()) (opd a e) sz x e s k)) (fun x _ _ e s k => (V.rec (motive_1 := fun _ => (Opd) → (E) → (S) → (V → S → Bool) → Bool) (motive_2 := fun _ => Unit) (fun _ _ x e s k => k (opd x e) s) (fun _ x e s k => k (opd x e) s) (fun _ _ x e s k => k (opd x e) s) (fun _ _ _ _ => false) (fun _ _ x e s k => k (opd x e) s) (fun _ _ x e s k => k (opd x e) s) (fun x e s k => k (opd x e) s) (fun _ _ _ _ x e s k => k (opd x e) s) (fun _ _ _ _ x e s k => k (opd x e) s) (fun _ _ _ _ x e s k => k (opd x e) s) (fun x e s k => k (opd x e) s) (fun _ x e s k => k (opd x e) s) (fun _ _ _ _ _ x e s k => k (opd x e) s) (fun _ _ _ _ => false) (fun _ _ _ _ => false) (fun _ _ x e s k => k (opd x e) s) (fun _ _ x e s k => k (opd x e) s) (fun _ _ _ _ x e s k => k (opd x e) s) () (fun _ _ _ _ => ()) (opd x e) x e s k)) (fun op x y _ _ e s k => bin op (opd x e) (opd y e) fun v => k v s) (fun neg t x y _ _ e s k => eqX t (opd x e) (opd y e) fun r => k (.bool ((Bool.rec (motive := fun _ => _) r (bnot r) neg))) s) (fun x _ _ e s k => (V.rec (motive_1 := fun _ => (S) → (V → S → Bool) → Bool) (motive_2 := fun _ => Unit) (fun _ _ _ _ => false) (fun b s k => k (.bool (bnot b)) s) (fun _ _ _ _ => false) (fun _ _ => false) (fun _ _ _ _ => false) (fun _ _ _ _ => false) (fun _ _ => false) (fun _ _ _ _ _ _ => false) (fun _ _ _ _ _ _ => false) (fun _ _ _ _ _ _ => false) (fun _ _ => false) (fun _ _ _ => false) (fun _ _ _ _ _ _ _ => false) (fun _ _ => false) (fun _ _ => false) (fun _ _ _ _ => false) (fun _ _ _ _ => false) (fun _ _ _ _ _ _ => false) () (fun _ _ _ _ => ()) (opd x e) s k)) (fun x _ _ e s k => (V.rec (motive_1 := fun _ => (S) → (V → S → Bool) → Bool) (motive_2 := fun _ => Unit) (fun kd z s k => wrapK kd (Int.neg z) fun z => k (.int kd z) s) (fun _ _ _ => false) (fun _ _ _ _ => false) (fun _ _ => false) (fun _ _ _ _ => false) (fun _ _ _ _ => false) (fun _ _ => false) (fun _ _ _ _ _ _ => false) (fun _ _ _ _ _ _ => false) (fun _ _ _ _ _ _ => false) (fun _ _ => false) (fun _ _ _ => false) (fun _ _ _ _ _ _ _ => false) (fun _ _ => false) (fun _ _ => false) (fun _ _ _ _ => false) (fun _ _ _ _ => false) (fun _ _ _ _ _ _ => false) () (fun _ _ _ _ => ()) (opd x e) s k)) (fun kd x _ _ e s k => (V.rec (motive_1 := fun _ => (IntKind) → (S) → (V → S → Bool) → Bool) (motive_2 := fun _ => Unit) (fun _ z kd s k => wrapK kd z fun z => k (.int kd z) s) (fun _ _ _ _ => false) (fun _ _ _ _ _ => false) (fun _ _ _ => false) (fun _ _ _ _ _ => false) (fun _ _ _ _ _ => false) (fun _ _ _ => false) (fun _ _ _ _ _ _ _ => false) (fun _ _ _ _ _ _ _ => false) (fun _ _ _ _ _ _ _ => false) (fun _ _ _ => false) (fun _ _ _ _ => false) (fun _ _ _ _ _ _ _ _ => false) (fun _ _ _ => false) (fun _ _ _ => false) (fun _ _ _ _ _ => false) (fun _ _ _ _ _ => false) (fun j a m r kd s k => (Bool.rec (motive := fun _ => _) false ((Bool.rec (motive := fun _ => _) false (k (.sym j kd m r) s) (is64 a))) (is64 kd))) () (fun _ _ _ _ => ()) (opd x e) kd s k)) (fun x _ _ e s k => (V.rec (motive_1 := fun _ => (S) → (V → S → Bool) → Bool) (motive_2 := fun _ => Unit) (fun _ _ _ _ => false) (fun _ _ _ => false) (fun n v s k => k (.str n v) s) (fun _ _ => false) (fun _ _ _ _ => false) (fun _ _ _ _ => false) (fun _ _ => false) (fun _ _ _ _ _ _ => false) (fun _ _ _ _ _ _ => false) (fun _ _ _ _ _ _ => false) (fun _ _ => false) (fun _ _ _ => false) (fun _ _ _ _ _ _ _ => false) (fun _ _ => false) (fun _ _ => false) (fun _ _ _ _ => false) (fun _ _ _ _ => false) (fun _ _ _ _ _ _ => false) () (fun _ _ _ _ => ()) (opd x e) s k)) (fun x _ _ e s k => (V.rec (motive_1 := fun _ => (S) → (V → S → Bool) → Bool) (motive_2 := fun _ => Unit) (fun _ _ _ _ => false) (fun _ _ _ => false) (fun _ _ _ _ => false) (fun _ _ => false) (fun b o s k => slotIs b s fun _ sz c => cget (Nat.div o sz) c fun _ => k (.ptr b o) s) (fun _ _ _ _ => false) (fun _ _ => false) (fun _ _ _ _ _ _ => false) (fun _ _ _ _ _ _ => false) (fun _ _ _ _ _ _ => false) (fun _ _ => false) (fun _ _ _ => false) (fun _ _ _ _ _ _ _ => false) (fun _ _ => false) (fun _ _ => false) (fun _ _ _ _ => false) (fun _ _ _ _ => false) (fun _ _ _ _ _ _ => false) () (fun _ _ _ _ => ()) (opd x e) s k)) (fun u n x _ _ e s k => (V.rec (motive_1 := fun _ => (Nat) → (Nat) → (S) → (V → S → Bool) → Bool) (motive_2 := fun _ => Unit) (fun _ _ _ _ _ _ => false) (fun _ _ _ _ _ => false) (fun _ _ _ _ _ _ => false) (fun _ _ _ _ => false) (fun b o u n s k => slotIs b s fun el sz c => (Bool.rec (motive := fun _ => _) false ((Bool.rec (motive := fun _ => _) false ((Bool.rec (motive := fun _ => _) false (cget (Nat.div o sz) c fun _ => k (.ptr b o) s) (Nat.beq (Nat.mod o sz) 0))) (Nat.beq sz n))) (Nat.beq el u))) (fun _ _ _ _ _ _ => false) (fun _ _ _ _ => false) (fun _ _ _ _ _ _ _ _ => false) (fun _ _ _ _ _ _ _ _ => false) (fun _ _ _ _ _ _ _ _ => false) (fun _ _ _ _ => false) (fun _ _ _ _ _ => false) (fun _ _ _ _ _ _ _ _ _ => false) (fun _ _ _ _ => false) (fun _ _ _ _ => false) (fun _ _ _ _ _ _ => false) (fun _ _ _ _ _ _ => false) (fun _ _ _ _ _ _ _ _ => false) () (fun _ _ _ _ => ()) (opd x e) u n s k)) (fun el x _ _ e s k => (V.rec (motive_1 := fun _ => (Nat) → (S) → (V → S → Bool) → Bool) (motive_2 := fun _ => Unit) (fun _ _ _ _ _ => false) (fun _ _ _ _ => false) (fun n v el s k => strE n v fun l => fresh el 1 l n s k) (fun _ _ _ => false) (fun _ _ _ _ _ => false) (fun _ _ _ _ _ => false) (fun _ _ _ => false) (fun _ _ _ _ _ _ _ => false) (fun _ _ _ _ _ _ _ => false) (fun _ _ _ _ _ _ _ => false) (fun _ _ _ => false) (fun _ _ _ _ => false) (fun _ _ _ _ _ _ _ _ => false) (fun _ _ _ => false) (fun _ _ _ => false) (fun _ _ _ _ _ => false) (fun _ _ _ _ _ => false) (fun _ _ _ _ _ _ _ => false) () (fun _ _ _ _ => ()) (opd x e) el s k)) (fun x _ _ e s k => (V.rec (motive_1 := fun _ => (S) → (V → S → Bool) → Bool) (motive_2 := fun _ => Unit) (fun _ _ _ _ => false) (fun _ _ _ => false) (fun _ _ _ _ => false) (fun _ _ => false) (fun _ _ _ _ => false) (fun _ _ _ _ => false) (fun s k => k (.str 0 0) s) (fun b o n _ s k => blockE 1 b o n s fun l => b2sE l fun n v => k (.str n v) s) (fun b o _ n s k => blockE 1 b o n s fun l => b2sE l fun n v => k (.str n v) s) (fun _ _ _ _ _ _ => false) (fun _ _ => false) (fun _ _ _ => false) (fun _ _ _ _ _ _ _ => false) (fun _ _ => false) (fun _ _ => false) (fun _ _ _ _ => false) (fun _ _ _ _ => false) (fun _ _ _ _ _ _ => false) () (fun _ _ _ _ => ()) (opd x e) s k)) (fun f a c _ _ e s k => opds a e fun a => opds c e fun c => k (.fn f a c) s) (fun _ _ _ s k => new s (.map []) fun b s => k (.mp b) s) (fun el sz z l c _ _ e s k => asNat (opd l e) fun l => asNat (opd c e) fun c => (Bool.rec (motive := fun _ => _) false ((Bool.rec (motive := fun _ => _) false (rep c z fun r => mkCells r fun cc => new s (.cells el sz cc) fun b s => k (.sl b 0 l c) s) (Nat.ble l c))) (Nat.ble c 4096))) (fun x l h _ _ e s k => (V.rec (motive_1 := fun _ => (Option Opd) → (Option Opd) → (E) → (S) → (V → S → Bool) → Bool) (motive_2 := fun _ => Unit) (fun _ _ _ _ _ _ _ => false) (fun _ _ _ _ _ _ => false) (fun n v l h e s k => optN l e 0 fun l => optN h e n fun h => subStr n v l h fun v => k v s) (fun _ _ _ _ _ => false) (fun _ _ _ _ _ _ _ => false) (fun _ _ _ _ _ _ _ => false) (fun _ _ _ _ _ => false) (fun _ _ _ _ _ _ _ _ _ => false) (fun _ _ _ _ _ _ _ _ _ => false) (fun _ _ _ _ _ _ _ _ _ => false) (fun _ _ _ _ _ => false) (fun _ _ _ _ _ _ => false) (fun _ _ _ _ _ _ _ _ _ _ => false) (fun _ _ _ _ _ => false) (fun _ _ _ _ _ => false) (fun _ _ _ _ _ _ _ => false) (fun _ _ _ _ _ _ _ => false) (fun _ _ _ _ _ _ _ _ _ => false) () (fun _ _ _ _ => ()) (opd x e) l h e s k)) (fun sz x l h m _ _ e s k => sliceX sz (opd x e) l h m e s fun v => k v s) (fun q sz x l h m _ _ e s k => (V.rec (motive_1 := fun _ => (Nat) → (Nat) → (Option Opd) → (Option Opd) → (Option Opd) → (E) → (S) → (V → S → Bool) → Bool) (motive_2 := fun _ => Unit) (fun _ _ _ _ _ _ _ _ _ _ => false) (fun _ _ _ _ _ _ _ _ _ => false) (fun _ _ _ _ _ _ _ _ _ _ => false) (fun _ _ _ _ _ _ _ _ => false) (fun b o q sz l h m e s k => optN l e 0 fun l => optN h e q fun h => optN m e q fun m => (Bool.rec (motive := fun _ => _) false (sliceSl sz b o l h m fun v => k v s) (Nat.ble m q))) (fun _ _ _ _ _ _ _ _ _ _ => false) (fun _ _ _ _ _ _ _ _ => false) (fun _ _ _ _ _ _ _ _ _ _ _ _ => false) (fun _ _ _ _ _ _ _ _ _ _ _ _ => false) (fun _ _ _ _ _ _ _ _ _ _ _ _ => false) (fun _ _ _ _ _ _ _ _ => false) (fun _ _ _ _ _ _ _ _ _ => false) (fun _ _ _ _ _ _ _ _ _ _ _ _ _ => false) (fun _ _ _ _ _ _ _ _ => false) (fun _ _ _ _ _ _ _ _ => false) (fun _ _ _ _ _ _ _ _ _ _ => false) (fun _ _ _ _ _ _ _ _ _ _ => false) (fun _ _ _ _ _ _ _ _ _ _ _ _ => false) () (fun _ _ _ _ => ()) (opd x e) q sz l h m e s k)) (fun o x _ _ e s k => addOff (opd x e) o fun v => k v s) (fun o n a x _ _ e s k => (V.rec (motive_1 := fun _ => (Nat) → (Nat) → (Bool) → (S) → (V → S → Bool) → Bool) (motive_2 := fun _ => Unit) (fun _ _ _ _ _ _ _ => false) (fun _ _ _ _ _ _ => false) (fun _ _ _ _ _ _ _ => false) (fun _ _ _ _ _ => false) (fun _ _ _ _ _ _ _ => false) (fun _ _ _ _ _ _ _ => false) (fun _ _ _ _ _ => false) (fun _ _ _ _ _ _ _ _ _ => false) (fun _ _ _ _ _ _ _ _ _ => false) (fun _ _ _ _ _ _ _ _ _ => false) (fun _ _ _ _ _ => false) (fun _ _ _ _ _ _ => false) (fun _ _ _ _ _ _ _ _ _ _ => false) (fun _ _ _ _ _ => false) (fun _ _ _ _ _ => false) (fun l _ o n a s k => (Bool.rec (motive := fun _ => _) (hd (ldrop o l) fun v => k v s) (ltake n (ldrop o l) fun l => k (.agg l) s) a)) (fun _ _ _ _ _ _ _ => false) (fun _ _ _ _ _ _ _ _ _ => false) () (fun _ _ _ _ => ()) (opd x e) o n a s k)) (fun sz x i _ _ e s k => asNat (opd i e) fun i => (V.rec (motive_1 := fun _ => (Nat) → (Nat) → (S) → (V → S → Bool) → Bool) (motive_2 := fun _ => Unit) (fun _ _ _ _ _ _ => false) (fun _ _ _ _ _ => false) (fun _ _ _ _ _ _ => false) (fun _ _ _ _ => false) (fun _ _ _ _ _ _ => false) (fun _ _ _ _ _ _ => false) (fun _ _ _ _ => false) (fun b o n _ sz i s k => (Bool.rec (motive := fun _ => _) false (forceN (Nat.add o (Nat.mul i sz)) fun o => k (.ptr b o) s) (blt i n))) (fun b o _ n sz i s k => (Bool.rec (motive := fun _ => _) false (forceN (Nat.add o (Nat.mul i sz)) fun o => k (.ptr b o) s) (blt i n))) (fun _ _ _ _ _ _ _ _ => false) (fun _ _ _ _ => false) (fun _ _ _ _ _ => false) (fun _ _ _ _ _ _ _ _ _ => false) (fun _ _ _ _ => false) (fun _ _ _ _ => false) (fun _ _ _ _ _ _ => false) (fun _ _ _ _ _ _ => false) (fun _ _ _ _ _ _ _ _ => false) () (fun _ _ _ _ => ()) (opd x e) sz i s k)) (fun n sz x i _ _ e s k => asNat (opd i e) fun i => (Bool.rec (motive := fun _ => _) false (addOff (opd x e) (Nat.mul i sz) fun v => k v s) (blt i n))) (fun n sz a x i _ _ e s k => asNat (opd i e) fun i => (Bool.rec (motive := fun _ => _) false ((V.rec (motive_1 := fun _ => (Nat) → (Nat) → (Bool) → (S) → (V → S → Bool) → Bool) (motive_2 := fun _ => Unit) (fun _ _ _ _ _ _ _ => false) (fun _ _ _ _ _ _ => false) (fun _ _ _ _ _ _ _ => false) (fun _ _ _ _ _ => false) (fun _ _ _ _ _ _ _ => false) (fun _ _ _ _ _ _ _ => false) (fun _ _ _ _ _ => false) (fun _ _ _ _ _ _ _ _ _ => false) (fun _ _ _ _ _ _ _ _ _ => false) (fun _ _ _ _ _ _ _ _ _ => false) (fun _ _ _ _ _ => false) (fun _ _ _ _ _ _ => false) (fun _ _ _ _ _ _ _ _ _ _ => false) (fun _ _ _ _ _ => false) (fun _ _ _ _ _ => false) (fun l _ i sz a s k => (Bool.rec (motive := fun _ => _) (hd (ldrop (Nat.mul i sz) l) fun v => k v s) (ltake sz (ldrop (Nat.mul i sz) l) fun l => k (.agg l) s) a)) (fun _ _ _ _ _ _ _ => false) (fun _ _ _ _ _ _ _ _ _ => false) () (fun _ _ _ _ => ()) (opd x e) i sz a s k)) (blt i n))) (fun x i _ _ e s k => asNat (opd i e) fun i => (V.rec (motive_1 := fun _ => (Nat) → (S) → (V → S → Bool) → Bool) (motive_2 := fun _ => Unit) (fun _ _ _ _ _ => false) (fun _ _ _ _ => false) (fun n v i s k => (Bool.rec (motive := fun _ => _) false (forceN (byteAt i v) fun b => k (.int .u8 (.ofNat b)) s) (blt i n))) (fun _ _ _ => false) (fun _ _ _ _ _ => false) (fun _ _ _ _ _ => false) (fun _ _ _ => false) (fun _ _ _ _ _ _ _ => false) (fun _ _ _ _ _ _ _ => false) (fun _ _ _ _ _ _ _ => false) (fun _ _ _ => false) (fun _ _ _ _ => false) (fun _ _ _ _ _ _ _ _ => false) (fun _ _ _ => false) (fun _ _ _ => false) (fun _ _ _ _ _ => false) (fun _ _ _ _ _ => false) (fun _ _ _ _ _ _ _ => false) () (fun _ _ _ _ => ()) (opd x e) i s k)) (fun q z ok x i _ _ e s k => eqX q (opd i e) (opd i e) fun _ => (V.rec (motive_1 := fun _ => (EqT) → (V) → (Bool) → (Opd) → (E) → (S) → (V → S → Bool) → Bool) (motive_2 := fun _ => Unit) (fun _ _ _ _ _ _ _ _ _ => false) (fun _ _ _ _ _ _ _ _ => false) (fun _ _ _ _ _ _ _ _ _ => false) (fun _ _ _ _ _ _ _ => false) (fun _ _ _ _ _ _ _ _ _ => false) (fun _ _ _ _ _ _ _ _ _ => false) (fun _ _ _ _ _ _ _ => false) (fun _ _ _ _ _ _ _ _ _ _ _ => false) (fun _ _ _ _ _ _ _ _ _ _ _ => false) (fun _ _ _ _ _ _ _ _ _ _ _ => false) (fun _ z ok _ _ s k => k ((Bool.rec (motive := fun _ => _) z (.tup [z, .bool false]) ok)) s) (fun b q z ok i e s k => mapOf b s fun l => mfind q l (opd i e) (fun v => k ((Bool.rec (motive := fun _ => _) v (.tup [v, .bool true]) ok)) s) (fun _ => k ((Bool.rec (motive := fun _ => _) z (.tup [z, .bool false]) ok)) s)) (fun _ _ _ _ _ _ _ _ _ _ _ _ => false) (fun _ _ _ _ _ _ _ => false) (fun _ _ _ _ _ _ _ => false) (fun _ _ _ _ _ _ _ _ _ => false) (fun _ _ _ _ _ _ _ _ _ => false) (fun _ _ _ _ _ _ _ _ _ _ _ => false) () (fun _ _ _ _ => ()) (opd x e) q z ok i e s k)) (fun q m x v _ _ e s k => eqX q (opd x e) (opd x e) fun _ => (V.rec (motive_1 := fun _ => (EqT) → (Opd) → (Opd) → (E) → (S) → (V → S → Bool) → Bool) (motive_2 := fun _ => Unit) (fun _ _ _ _ _ _ _ _ => false) (fun _ _ _ _ _ _ _ => false) (fun _ _ _ _ _ _ _ _ => false) (fun _ _ _ _ _ _ => false) (fun _ _ _ _ _ _ _ _ => false) (fun _ _ _ _ _ _ _ _ => false) (fun _ _ _ _ _ _ => false) (fun _ _ _ _ _ _ _ _ _ _ => false) (fun _ _ _ _ _ _ _ _ _ _ => false) (fun _ _ _ _ _ _ _ _ _ _ => false) (fun _ _ _ _ _ _ => false) (fun b q x v e s k => mapOf b s fun l => mput q l (opd x e) (opd v e) fun l => setSlot b (.map l) s fun s => k undef s) (fun _ _ _ _ _ _ _ _ _ _ _ => false) (fun _ _ _ _ _ _ => false) (fun _ _ _ _ _ _ => false) (fun _ _ _ _ _ _ _ _ => false) (fun _ _ _ _ _ _ _ _ => false) (fun _ _ _ _ _ _ _ _ _ _ => false) () (fun _ _ _ _ => ()) (opd m e) q x v e s k)) (fun q m x _ _ e s k => eqX q (opd x e) (opd x e) fun _ => (V.rec (motive_1 := fun _ => (EqT) → (Opd) → (E) → (S) → (V → S → Bool) → Bool) (motive_2 := fun _ => Unit) (fun _ _ _ _ _ _ _ => false) (fun _ _ _ _ _ _ => false) (fun _ _ _ _ _ _ _ => false) (fun _ _ _ _ _ => false) (fun _ _ _ _ _ _ _ => false) (fun _ _ _ _ _ _ _ => false) (fun _ _ _ _ _ => false) (fun _ _ _ _ _ _ _ _ _ => false) (fun _ _ _ _ _ _ _ _ _ => false) (fun _ _ _ _ _ _ _ _ _ => false) (fun _ _ _ s k => k undef s) (fun b q x e s k => mapOf b s fun l => mdel q l (opd x e) fun l => setSlot b (.map l) s fun s => k undef s) (fun _ _ _ _ _ _ _ _ _ _ => false) (fun _ _ _ _ _ => false) (fun _ _ _ _ _ => false) (fun _ _ _ _ _ _ _ => false) (fun _ _ _ _ _ _ _ => false) (fun _ _ _ _ _ _ _ _ _ => false) () (fun _ _ _ _ => ()) (opd m e) q x e s k)) (fun x i _ _ e s k => (V.rec (motive_1 := fun _ => (Nat) → (S) → (V → S → Bool) → Bool) (motive_2 := fun _ => Unit) (fun _ _ _ _ _ => false) (fun _ _ _ _ => false) (fun _ _ _ _ _ => false) (fun _ _ _ => false) (fun _ _ _ _ _ => false) (fun _ _ _ _ _ => false) (fun _ _ _ => false) (fun _ _ _ _ _ _ _ => false) (fun _ _ _ _ _ _ _ => false) (fun _ _ _ _ _ _ _ => false) (fun _ _ _ => false) (fun _ _ _ _ => false) (fun _ _ _ _ _ _ _ _ => false) (fun _ _ _ => false) (fun _ _ _ => false) (fun _ _ _ _ _ => false) (fun l _ i s k => hd (ldrop i l) fun v => k v s) (fun _ _ _ _ _ _ _ => false) () (fun _ _ _ _ => ()) (opd x e) i s k)) (fun f l cl _ e s k => opds l e fun a => cl f a s k) (fun x l cl _ e s k => (V.rec (motive_1 := fun _ => (List Opd) → (CL) → (E) → (S) → (V → S → Bool) → Bool) (motive_2 := fun _ => Unit) (fun _ _ _ _ _ _ _ => false) (fun _ _ _ _ _ _ => false) (fun _ _ _ _ _ _ _ => false) (fun _ _ _ _ _ => false) (fun _ _ _ _ _ _ _ => false) (fun _ _ _ _ _ _ _ => false) (fun _ _ _ _ _ => false) (fun _ _ _ _ _ _ _ _ _ => false) (fun _ _ _ _ _ _ _ _ _ => false) (fun _ _ _ _ _ _ _ _ _ => false) (fun _ _ _ _ _ => false) (fun _ _ _ _ _ _ => false) (fun f p c _ _ l cl e s k => opds l e fun a => cl f (p ++ (a ++ c)) s k) (fun _ _ _ _ _ => false) (fun _ _ _ _ _ => false) (fun _ _ _ _ _ _ _ => false) (fun _ _ _ _ _ _ _ => false) (fun _ _ _ _ _ _ _ _ _ => false) () (fun _ _ _ _ => ()) (opd x e) l cl e s k)) (fun x _ _ e s k => (V.rec (motive_1 := fun _ => (S) → (V → S → Bool) → Bool) (motive_2 := fun _ => Unit) (fun _ _ _ _ => false) (fun _ _ _ => false) (fun n _ s k => k (.int .i64 (.ofNat n)) s) (fun _ _ => false) (fun _ _ _ _ => false) (fun _ _ _ _ => false) (fun _ _ => false) (fun _ _ _ _ _ _ => false) (fun _ _ _ _ _ _ => false) (fun _ _ _ _ _ _ => false) (fun _ _ => false) (fun _ _ _ => false) (fun _ _ _ _ _ _ _ => false) (fun _ _ => false) (fun _ _ => false) (fun _ _ _ _ => false) (fun _ _ _ _ => false) (fun _ _ _ _ _ _ => false) () (fun _ _ _ _ => ()) (opd x e) s k)) (fun x _ _ e s k => (V.rec (motive_1 := fun _ => (S) → (V → S → Bool) → Bool) (motive_2 := fun _ => Unit) (fun _ _ _ _ => false) (fun _ _ _ => false) (fun _ _ _ _ => false) (fun _ _ => false) (fun _ _ _ _ => false) (fun _ _ _ _ => false) (fun s k => k (.int .i64 (.ofNat 0)) s) (fun _ _ n _ s k => k (.int .i64 (.ofNat n)) s) (fun _ _ _ n s k => k (.int .i64 (.ofNat n)) s) (fun _ _ _ _ s k => k (.int .i64 (.ofNat 0)) s) (fun _ _ => false) (fun _ _ _ => false) (fun _ _ _ _ _ _ _ => false) (fun _ _ => false) (fun _ _ => false) (fun _ _ _ _ => false) (fun _ _ _ _ => false) (fun _ _ _ _ _ _ => false) () (fun _ _ _ _ => ()) (opd x e) s k)) (fun x _ _ e s k => (V.rec (motive_1 := fun _ => (S) → (V → S → Bool) → Bool) (motive_2 := fun _ => Unit) (fun _ _ _ _ => false) (fun _ _ _ => false) (fun _ _ _ _ => false) (fun _ _ => false) (fun _ _ _ _ => false) (fun _ _ _ _ => false) (fun _ _ => false) (fun _ _ _ _ _ _ => false) (fun _ _ _ _ _ _ => false) (fun _ _ _ _ _ _ => false) (fun s k => k (.int .i64 (.ofNat 0)) s) (fun b s k => mapOf b s fun l => mlen l fun n => k (.int .i64 (.ofNat n)) s) (fun _ _ _ _ _ _ _ => false) (fun _ _ => false) (fun _ _ => false) (fun _ _ _ _ => false) (fun _ _ _ _ => false) (fun _ _ _ _ _ _ => false) () (fun _ _ _ _ => ()) (opd x e) s k)) (fun v _ _ _ s k => k v s) (fun x _ _ e s k => (V.rec (motive_1 := fun _ => (S) → (V → S → Bool) → Bool) (motive_2 := fun _ => Unit) (fun _ _ _ _ => false) (fun _ _ _ => false) (fun _ _ _ _ => false) (fun _ _ => false) (fun _ _ _ _ => false) (fun _ _ _ _ => false) (fun s k => k (.int .i64 (.ofNat 0)) s) (fun _ _ _ c s k => k (.int .i64 (.ofNat c)) s) (fun _ _ _ _ _ _ => false) (fun _ _ _ _ _ _ => false) (fun _ _ => false) (fun _ _ _ => false) (fun _ _ _ _ _ _ _ => false) (fun _ _ => false) (fun _ _ => false) (fun _ _ _ _ => false) (fun _ _ _ _ => false) (fun _ _ _ _ _ _ => false) () (fun _ _ _ _ => ()) (opd x e) s k)) (fun mx l _ _ e s k => opds l e fun a => (List.rec (motive := fun _ => Bool → S → (V → S → Bool) → Bool) (fun _ _ _ => false) (fun x t _ mx s k => mmX t x mx s k) a) mx s k) (fun el sz x y _ _ e s k => elemsOf sz (opd y e) s fun m l => appX el sz (opd x e) m l s k) (fun el sz z x y _ _ e s k => asNat (opd y e) fun m => (Bool.rec (motive := fun _ => _) false (rep m z fun l => appX el sz (opd x e) m l s k) (Nat.ble m 4096))) (fun sz d x _ _ e s k => elemsOf sz (opd x e) s fun m l => (V.rec (motive_1 := fun _ => (Nat) → (Nat) → (LL) → (S) → (V → S → Bool) → Bool) (motive_2 := fun _ => Unit) (fun _ _ _ _ _ _ _ => false) (fun _ _ _ _ _ _ => false) (fun _ _ _ _ _ _ _ => false) (fun _ _ _ _ _ => false) (fun _ _ _ _ _ _ _ => false) (fun _ _ _ _ _ _ _ => false) (fun _ _ _ s k => k (.int .i64 (.ofNat 0)) s) (fun b o n _ sz m l s k => (Bool.rec (motive := fun _ => _) false ((Bool.rec (motive := fun _ => _) false (putAt sz b (Nat.div o sz) l s fun s => k (.int .i64 (.ofNat m)) s) (Nat.ble m n))) (Nat.beq (Nat.mod o sz) 0))) (fun b o _ n sz m l s k => (Bool.rec (motive := fun _ => _) false ((Bool.rec (motive := fun _ => _) ((Bool.rec (motive := fun _ => _) false (k (.int .i64 (.ofNat 0)) s) (Nat.beq m 0))) ((Bool.rec (motive := fun _ => _) false (putAt sz b (Nat.div o sz) l s fun s => k (.int .i64 (.ofNat m)) s) (Nat.beq (Nat.mod o sz) 0))) (blt 0 m))) (Nat.ble m n))) (fun _ _ _ _ _ _ _ _ _ => false) (fun _ _ _ _ _ => false) (fun _ _ _ _ _ _ => false) (fun _ _ _ _ _ _ _ _ _ _ => false) (fun _ _ _ _ _ => false) (fun _ _ _ _ _ => false) (fun _ _ _ _ _ _ _ => false) (fun _ _ _ _ _ _ _ => false) (fun _ _ _ _ _ _ _ _ _ => false) () (fun _ _ _ _ => ()) (opd d e) sz m l s k)) (fun z sz x _ _ e s k => (V.rec (motive_1 := fun _ => (List V) → (Nat) → (S) → (V → S → Bool) → Bool) (motive_2 := fun _ => Unit) (fun _ _ _ _ _ _ => false) (fun _ _ _ _ _ => false) (fun _ _ _ _ _ _ => false) (fun _ _ _ _ => false) (fun _ _ _ _ _ _ => false) (fun _ _ _ _ _ _ => false) (fun _ _ s k => k undef s) (fun b o n _ z sz s k => (Bool.rec (motive := fun _ => _) false (rep n z fun l => putAt sz b (Nat.div o sz) l s fun s => k undef s) (Nat.beq (Nat.mod o sz) 0))) (fun b o _ n z sz s k => (Bool.rec (motive := fun _ => _) false (rep n z fun l => putAt sz b (Nat.div o sz) l s fun s => k undef s) (Nat.beq (Nat.mod o sz) 0))) (fun _ _ _ _ _ _ _ _ => false) (fun _ _ _ _ => false) (fun _ _ _ _ _ => false) (fun _ _ _ _ _ _ _ _ _ => false) (fun _ _ _ _ => false) (fun _ _ _ _ => false) (fun _ _ _ _ _ _ => false) (fun _ _ _ _ _ _ => false) (fun _ _ _ _ _ _ _ _ => false) () (fun _ _ _ _ => ()) (opd x e) z sz s k)) (fun x _ _ e s k => (V.rec (motive_1 := fun _ => (S) → (V → S → Bool) → Bool) (motive_2 := fun _ => Unit) (fun _ _ _ _ => false) (fun _ _ _ => false) (fun _ _ _ _ => false) (fun _ _ => false) (fun _ _ _ _ => false) (fun _ _ _ _ => false) (fun s k => k .nilp s) (fun b o _ c s k => (Bool.rec (motive := fun _ => _) false (k (.ptr b o) s) (blt 0 c))) (fun b o _ n s k => (Bool.rec (motive := fun _ => _) false (k (.ptr b o) s) (blt 0 n))) (fun _ _ _ _ _ _ => false) (fun _ _ => false) (fun _ _ _ => false) (fun _ _ _ _ _ _ _ => false) (fun _ _ => false) (fun _ _ => false) (fun _ _ _ _ => false) (fun _ _ _ _ => false) (fun _ _ _ _ _ _ => false) () (fun _ _ _ _ => ()) (opd x e) s k)) (fun u p n _ _ e s k => (V.rec (motive_1 := fun _ => (Nat) → (Opd) → (E) → (S) → (V → S → Bool) → Bool) (motive_2 := fun _ => Unit) (fun kd z u p e s k => (Bool.rec (motive := fun _ => _) false (natK z fun n => (V.rec (motive_1 := fun _ => (Nat) → (Nat) → (S) → (V → S → Bool) → Bool) (motive_2 := fun _ => Unit) (fun _ _ _ _ _ _ => false) (fun _ _ _ _ _ => false) (fun _ _ _ _ _ _ => false) (fun n _ s k => (Bool.rec (motive := fun _ => _) false (k (.str 0 0) s) (Nat.beq n 0))) (fun b o n u s k => (Bool.rec (motive := fun _ => _) (slotIs b s fun el _ _ => (Bool.rec (motive := fun _ => _) false ((Bool.rec (motive := fun _ => _) false ((Bool.rec (motive := fun _ => _) false (blockE 1 b 0 n s fun l => b2sE l fun m v => setSlot b .dead s fun s => k (.str m v) s) (Nat.ble n 1000000))) (Nat.beq o 0))) (Nat.beq el u))) (k (.str 0 0) s) (Nat.beq n 0))) (fun _ _ _ _ _ _ => false) (fun _ _ _ _ => false) (fun _ _ _ _ _ _ _ _ => false) (fun _ _ _ _ _ _ _ _ => false) (fun _ _ _ _ _ _ _ _ => false) (fun _ _ _ _ => false) (fun _ _ _ _ _ => false) (fun _ _ _ _ _ _ _ _ _ => false) (fun _ _ _ _ => false) (fun _ _ _ _ => false) (fun _ _ _ _ _ _ => false) (fun _ _ _ _ _ _ => false) (fun _ _ _ _ _ _ _ _ => false) () (fun _ _ _ _ => ()) (opd p e) n u s k)) (keq kd .i64))) (fun _ _ _ _ _ _ => false) (fun _ _ _ _ _ _ _ => false) (fun _ _ _ _ _ => false) (fun _ _ _ _ _ _ _ => false) (fun _ _ _ _ _ _ _ => false) (fun _ _ _ _ _ => false) (fun _ _ _ _ _ _ _ _ _ => false) (fun _ _ _ _ _ _ _ _ _ => false) (fun _ _ _ _ _ _ _ _ _ => false) (fun _ _ _ _ _ => false) (fun _ _ _ _ _ _ => false) (fun _ _ _ _ _ _ _ _ _ _ => false) (fun _ _ _ _ _ => false) (fun _ _ _ _ _ => false) (fun _ _ _ _ _ _ _ => false) (fun _ _ _ _ _ _ _ => false) (fun _ _ _ _ _ _ _ _ _ => false) () (fun _ _ _ _ => ()) (opd n e) u p e s k)) (fun f l _ _ e s k => opds l e fun a => (S.rec (motive := fun _ => (Nat) → (List V) → (V → S → Bool) → Bool) (fun h nx ds f a k => k undef (.mk h nx (.mk f a :: ds))) (s) f a k)) (fun x l _ _ e s k => (V.rec (motive_1 := fun _ => (List Opd) → (E) → (S) → (V → S → Bool) → Bool) (motive_2 := fun _ => Unit) (fun _ _ _ _ _ _ => false) (fun _ _ _ _ _ => false) (fun _ _ _ _ _ _ => false) (fun _ _ _ _ => false) (fun _ _ _ _ _ _ => false) (fun _ _ _ _ _ _ => false) (fun _ _ _ _ => false) (fun _ _ _ _ _ _ _ _ => false) (fun _ _ _ _ _ _ _ _ => false) (fun _ _ _ _ _ _ _ _ => false) (fun _ _ _ _ => false) (fun _ _ _ _ _ => false) (fun f p c _ _ l e s k => opds l e fun a => (S.rec (motive := fun _ => (Nat) → (List V) → (List V) → (List V) → (V → S → Bool) → Bool) (fun h nx ds f p c a k => k undef (.mk h nx (.mk f (p ++ (a ++ c)) :: ds))) (s) f p c a k)) (fun _ _ _ _ => false) (fun _ _ _ _ => false) (fun _ _ _ _ _ _ => false) (fun _ _ _ _ _ _ => false) (fun _ _ _ _ _ _ _ _ => false) () (fun _ _ _ _ => ()) (opd x e) l e s k)) (fun _ _ _ _ _ => false) (i) cl gl e s k)
-- steps
noncomputable def put (d : Dst) (e : E) (v : V) (k : E → Bool) : Bool := (Dst.rec (motive := fun _ => (E) → (V) → (E → Bool) → Bool) (fun e _ k => k e) (fun i j e v k => setV j (getE i e) v fun r => setE i e r k) (d) e v k)
noncomputable def dstV (d : Dst) (e : E) : V := (Dst.rec (motive := fun _ => (E) → V) (fun _ => undef) (fun i j e => getV j (getE i e)) (d) e)
noncomputable def guard (g : G) (e : E) (k : Bool → Bool) : Bool := (G.rec (motive := fun _ => (E) → (Bool → Bool) → Bool) (fun _ k => k true) (fun i j w e k => (V.rec (motive_1 := fun _ => (Bool) → (Bool → Bool) → Bool) (motive_2 := fun _ => Unit) (fun _ _ _ k => k false) (fun b w k => k ((Bool.rec (motive := fun _ => _) (bnot w) w b))) (fun _ _ _ k => k false) (fun _ k => k false) (fun _ _ _ k => k false) (fun _ _ _ k => k false) (fun _ k => k false) (fun _ _ _ _ _ k => k false) (fun _ _ _ _ _ k => k false) (fun _ _ _ _ _ k => k false) (fun _ k => k false) (fun _ _ k => k false) (fun _ _ _ _ _ _ k => k false) (fun _ k => k false) (fun _ k => k false) (fun _ _ _ k => k false) (fun _ _ _ k => k false) (fun _ _ _ _ _ k => k false) () (fun _ _ _ _ => ()) (getV j (getE i e)) w k)) (g) e k)
noncomputable def stepX (t : Step) (cl : CL) (gl : Nat → Nat → V) (e : E) (s : S) (k : E → S → Bool) : Bool := (Step.rec (motive := fun _ => (CL) → (Nat → Nat → V) → (E) → (S) → (E → S → Bool) → Bool) (fun g d i cl gl e s k => guard g e fun r => (Bool.rec (motive := fun _ => _) (put d e undef fun e => k e s) (iX i cl gl e s fun v s => put d e v fun e => k e s) r)) (fun g d i cl gl e s k => guard g e fun r => (Bool.rec (motive := fun _ => _) (k e s) (iX i cl gl e s fun v _ => (Bool.rec (motive := fun _ => _) false (k e s) (veq v (dstV d e)))) r)) (t) cl gl e s k)
noncomputable def stepsX (l : List Step) (cl : CL) (gl : Nat → Nat → V) (e : E) (s : S) (k : E → S → Bool) : Bool :=
  (List.rec (motive := fun _ => CL → (Nat → Nat → V) → E → S → (E → S → Bool) → Bool) (fun _ _ e s k => k e s) (fun t _ ih cl gl e s k => stepX t cl gl e s fun e s => ih cl gl e s k) l) cl gl e s k
-- code
abbrev KX : Type := X → E → S → Bool
noncomputable def codeX (c : Cd) (cl : CL) (gl : Nat → Nat → V) (e : E) (s : S) (k : KX) : Bool :=
  Cd.fold (β := CL → (Nat → Nat → V) → E → S → KX → Bool) (fun _ _ e s k => k .norm e s) (fun l cl gl e s k => stepsX l cl gl e s fun e s => k .norm e s)
    (fun fa fb cl gl e s k => fa cl gl e s fun x e s => (X.rec (motive := fun _ => (CL → (Nat → Nat → V) → E → S → KX → Bool) → (CL) → (Nat → Nat → V) → (E) → (S) → (KX) → Bool) (fun fb cl gl e s k => fb cl gl e s k) (fun _ _ _ e s k => k .ret e s) (fun id _ _ _ e s k => k (.exit id) e s) (x) fb cl gl e s k))
    (fun c fa fb cl gl e s k => (V.rec (motive_1 := fun _ => (CL → (Nat → Nat → V) → E → S → KX → Bool) → (CL → (Nat → Nat → V) → E → S → KX → Bool) → (CL) → (Nat → Nat → V) → (E) → (S) → (KX) → Bool) (motive_2 := fun _ => Unit) (fun _ _ _ _ _ _ _ _ _ => false) (fun t fa fb cl gl e s k => (Bool.rec (motive := fun _ => _) (fb cl gl e s k) (fa cl gl e s k) t)) (fun _ _ _ _ _ _ _ _ _ => false) (fun _ _ _ _ _ _ _ => false) (fun _ _ _ _ _ _ _ _ _ => false) (fun _ _ _ _ _ _ _ _ _ => false) (fun _ _ _ _ _ _ _ => false) (fun _ _ _ _ _ _ _ _ _ _ _ => false) (fun _ _ _ _ _ _ _ _ _ _ _ => false) (fun _ _ _ _ _ _ _ _ _ _ _ => false) (fun _ _ _ _ _ _ _ => false) (fun _ _ _ _ _ _ _ _ => false) (fun _ _ _ _ _ _ _ _ _ _ _ _ => false) (fun _ _ _ _ _ _ _ => false) (fun _ _ _ _ _ _ _ => false) (fun _ _ _ _ _ _ _ _ _ => false) (fun _ _ _ _ _ _ _ _ _ => false) (fun _ _ _ _ _ _ _ _ _ _ _ => false) () (fun _ _ _ _ => ()) (opd c e) fa fb cl gl e s k))
    (fun id fa cl gl e s k => fa cl gl e s fun x e s => (X.rec (motive := fun _ => (Nat) → (E) → (S) → (KX) → Bool) (fun _ e s k => k .norm e s) (fun _ e s k => k .ret e s) (fun id' id e s k => (Bool.rec (motive := fun _ => _) (k (.exit id') e s) (k .norm e s) (Nat.beq id' id))) (x) id e s k))
    (fun fa cl gl e s k => (Nat.rec (motive := fun _ => (CL → (Nat → Nat → V) → E → S → KX → Bool) → CL → (Nat → Nat → V) → KX → E → S → Bool) (fun _ _ _ _ _ _ => false) (fun _ ih fa cl gl k e s => fa cl gl e s fun x e s => (X.rec (motive := fun _ => ((CL → (Nat → Nat → V) → E → S → KX → Bool) → CL → (Nat → Nat → V) → KX → E → S → Bool) → (CL → (Nat → Nat → V) → E → S → KX → Bool) → (CL) → (Nat → Nat → V) → (KX) → (E) → (S) → Bool) (fun ih fa cl gl k e s => ih fa cl gl k e s) (fun _ _ _ _ k e s => k .ret e s) (fun id _ _ _ _ k e s => k (.exit id) e s) (x) ih fa cl gl k e s)) 100000) fa cl gl k e s)
    (fun id _ _ e s k => k (.exit id) e s) (fun _ _ e s k => k .ret e s) (fun _ _ _ _ _ => false) c cl gl e s k
noncomputable def envL (l : List V) (e : E) (k : E → Bool) : Bool :=
  (List.rec (motive := fun _ => Q → D → E → (E → Bool) → Bool) (fun _ _ e k => k e) (fun a _ ih i j e k => setV j (getE i e) a fun r => setE i e r fun e => D.up j (fun j => ih i j e k) (fun _ => Q.up i (fun i => ih i .d0 e k) (fun _ => false))) l) .q0 .d0 e k
noncomputable def e0 : E := N20.all (N16.all undef)
noncomputable def resX (r : List Rs) (e : E) (s : S) (k : List V → Bool) : Bool :=
  (List.rec (motive := fun _ => E → S → (List V → Bool) → Bool) (fun _ _ k => k []) (fun r _ ih e s k => (Rs.rec (motive := fun _ => (E → S → (List V → Bool) → Bool) → (E) → (S) → (List V → Bool) → Bool) (fun x ih e s k => ih e s fun l => k (opd x e :: l)) (fun x ih e s k => (V.rec (motive_1 := fun _ => (E → S → (List V → Bool) → Bool) → (E) → (S) → (List V → Bool) → Bool) (motive_2 := fun _ => Unit) (fun _ _ _ _ _ _ => false) (fun _ _ _ _ _ => false) (fun _ _ _ _ _ _ => false) (fun _ _ _ _ => false) (fun b o ih e s k => load1 b o s fun v => ih e s fun l => k (v :: l)) (fun _ _ _ _ _ _ => false) (fun _ _ _ _ => false) (fun _ _ _ _ _ _ _ _ => false) (fun _ _ _ _ _ _ _ _ => false) (fun _ _ _ _ _ _ _ _ => false) (fun _ _ _ _ => false) (fun _ _ _ _ _ => false) (fun _ _ _ _ _ _ _ _ _ => false) (fun _ _ _ _ => false) (fun _ _ _ _ => false) (fun _ _ _ _ _ _ => false) (fun _ _ _ _ _ _ => false) (fun _ _ _ _ _ _ _ _ => false) () (fun _ _ _ _ => ()) (opd x e) ih e s k)) (fun n x ih e s k => (V.rec (motive_1 := fun _ => (Nat) → (E → S → (List V → Bool) → Bool) → (E) → (S) → (List V → Bool) → Bool) (motive_2 := fun _ => Unit) (fun _ _ _ _ _ _ _ => false) (fun _ _ _ _ _ _ => false) (fun _ _ _ _ _ _ _ => false) (fun _ _ _ _ _ => false) (fun b o n ih e s k => loadN n b o s fun v => ih e s fun l => k (.agg v :: l)) (fun _ _ _ _ _ _ _ => false) (fun _ _ _ _ _ => false) (fun _ _ _ _ _ _ _ _ _ => false) (fun _ _ _ _ _ _ _ _ _ => false) (fun _ _ _ _ _ _ _ _ _ => false) (fun _ _ _ _ _ => false) (fun _ _ _ _ _ _ => false) (fun _ _ _ _ _ _ _ _ _ _ => false) (fun _ _ _ _ _ => false) (fun _ _ _ _ _ => false) (fun _ _ _ _ _ _ _ => false) (fun _ _ _ _ _ _ _ => false) (fun _ _ _ _ _ _ _ _ _ => false) () (fun _ _ _ _ => ()) (opd x e) n ih e s k)) (r) ih e s k)) r) e s k
noncomputable def tup1 (l : List V) : V := (List.rec (motive := fun _ => List V → V) (fun l => .tup l) (fun a t _ l => (List.rec (motive := fun _ => V → List V → V) (fun a _ => a) (fun _ _ _ _ l => .tup l) t) a l) l) l
noncomputable def runD (ds : List Df) (cl : CL) (s : S) (k : S → Bool) : Bool := (List.rec (motive := fun _ => CL → S → (S → Bool) → Bool) (fun _ s k => k s) (fun d _ ih cl s k => (Df.rec (motive := fun _ => (CL → S → (S → Bool) → Bool) → (CL) → (S) → (S → Bool) → Bool) (fun f a ih cl s k => cl f a s fun _ s => ih cl s k) (d) ih cl s k)) ds) cl s k
noncomputable def noDs (s : S) (k : List Df → S → Bool) : Bool := (S.rec (motive := fun _ => (List Df → S → Bool) → Bool) (fun h nx ds k => k ds (.mk h nx [])) (s) k)
noncomputable def withDs (ds : List Df) (s : S) (k : S → Bool) : Bool := (S.rec (motive := fun _ => (List Df) → (S → Bool) → Bool) (fun h nx _ ds k => k (.mk h nx ds)) (s) ds k)
noncomputable def leaveX (r : List Rs) (old : List Df) (dl : CL) (e : E) (s : S) (k : V → S → Bool) : Bool :=
  noDs s fun ds s => runD ds dl s fun s => resX r e s fun l => withDs old s fun s => k (tup1 l) s
noncomputable def bodyX (c : Cd) (r : List Rs) (cl : CL) (dl : CL) (gl : Nat → Nat → V) (a : List V) (s : S) (k : V → S → Bool) : Bool :=
  envL a e0 fun e => noDs s fun old s => codeX c cl gl e s fun x e s => (X.rec (motive := fun _ => (List Rs) → (List Df) → (CL) → (E) → (S) → (V → S → Bool) → Bool) (fun r old dl e s k => leaveX r old dl e s k) (fun r old dl e s k => leaveX r old dl e s k) (fun _ _ _ _ _ _ _ => false) (x) r old dl e s k)
noncomputable def args1 (l : List V) (k : V → Bool) : Bool := (List.rec (motive := fun _ => (V → Bool) → Bool) (fun _ => false) (fun a t _ k => (List.rec (motive := fun _ => V → (V → Bool) → Bool) (fun a k => k a) (fun _ _ _ _ _ => false) t) a k) l) k
noncomputable def args2 (l : List V) (k : V → V → Bool) : Bool := (List.rec (motive := fun _ => (V → V → Bool) → Bool) (fun _ => false) (fun a t _ k => args1 t fun b => k a b) l) k
noncomputable def args3 (l : List V) (k : V → V → V → Bool) : Bool := (List.rec (motive := fun _ => (V → V → V → Bool) → Bool) (fun _ => false) (fun a t _ k => args2 t fun b c => k a b c) l) k
noncomputable def asStr (x : V) (k : Nat → Nat → Bool) : Bool := (V.rec (motive_1 := fun _ => (Nat → Nat → Bool) → Bool) (motive_2 := fun _ => Unit) (fun _ _ _ => false) (fun _ _ => false) (fun n v k => k n v) (fun _ => false) (fun _ _ _ => false) (fun _ _ _ => false) (fun _ => false) (fun _ _ _ _ _ => false) (fun _ _ _ _ _ => false) (fun _ _ _ _ _ => false) (fun _ => false) (fun _ _ => false) (fun _ _ _ _ _ _ => false) (fun _ => false) (fun _ => false) (fun _ _ _ => false) (fun _ _ _ => false) (fun _ _ _ _ _ => false) () (fun _ _ _ _ => ()) (x) k)
noncomputable def findB (n v c : Nat) (k : Int → Bool) : Bool := (Nat.rec (motive := fun _ => Nat → Nat → Nat → (Int → Bool) → Bool) (fun _ _ _ k => k (.negSucc 0)) (fun _ ih i v c k => (Bool.rec (motive := fun _ => _) (ih (Nat.succ i) (Nat.div v 256) c k) (k (.ofNat i)) (Nat.beq (Nat.mod v 256) c))) n) 0 v c k
noncomputable def m64 : Nat := 18446744073709551616
noncomputable def xInt (x : V) (k : IntKind → Int → Bool) : Bool := (V.rec (motive_1 := fun _ => (IntKind → Int → Bool) → Bool) (motive_2 := fun _ => Unit) (fun kd z k => k kd z) (fun _ _ => false) (fun _ _ _ => false) (fun _ => false) (fun _ _ _ => false) (fun _ _ _ => false) (fun _ => false) (fun _ _ _ _ _ => false) (fun _ _ _ _ _ => false) (fun _ _ _ _ _ => false) (fun _ => false) (fun _ _ => false) (fun _ _ _ _ _ _ => false) (fun _ => false) (fun _ => false) (fun _ _ _ => false) (fun _ _ _ => false) (fun _ _ _ _ _ => false) () (fun _ _ _ _ => ()) (x) k)
noncomputable def xPtr (x : V) (k : B → Nat → Bool) : Bool := (V.rec (motive_1 := fun _ => (B → Nat → Bool) → Bool) (motive_2 := fun _ => Unit) (fun _ _ _ => false) (fun _ _ => false) (fun _ _ _ => false) (fun _ => false) (fun b o k => k b o) (fun _ _ _ => false) (fun _ => false) (fun _ _ _ _ _ => false) (fun _ _ _ _ _ => false) (fun _ _ _ _ _ => false) (fun _ => false) (fun _ _ => false) (fun _ _ _ _ _ _ => false) (fun _ => false) (fun _ => false) (fun _ _ _ => false) (fun _ _ _ => false) (fun _ _ _ _ _ => false) () (fun _ _ _ _ => ()) (x) k)
noncomputable def atLd (kd : IntKind) (a : List V) (s : S) (k : V → S → Bool) : Bool := args1 a fun x => xPtr x fun b o => load1 b o s fun v => xInt v fun k1 z => (Bool.rec (motive := fun _ => _) false (k (.int k1 z) s) (keq k1 kd))
noncomputable def atSt (a : List V) (s : S) (k : V → S → Bool) : Bool := args2 a fun x y => xPtr x fun b o => xInt y fun kd z => store b o [.int kd z] s fun s => k (.tup []) s
noncomputable def atCas (kd : IntKind) (a : List V) (s : S) (k : V → S → Bool) : Bool := args3 a fun x y z => xPtr x fun b o => load1 b o s fun v => xInt v fun k1 u => xInt y fun _ q => xInt z fun k3 t => (Bool.rec (motive := fun _ => _) false ((Bool.rec (motive := fun _ => _) (k (.bool false) s) (store b o [.int k3 t] s fun s => k (.bool true) s) (ieq u q))) (keq k1 kd))
noncomputable def atAdd (kd : IntKind) (a : List V) (s : S) (k : V → S → Bool) : Bool := args2 a fun x y => xPtr x fun b o => load1 b o s fun v => xInt v fun k1 u => xInt y fun _ q => (Bool.rec (motive := fun _ => _) false (wrapK kd (iadd u q) fun z => store b o [.int kd z] s fun s => k (.int kd z) s) (keq k1 kd))
noncomputable def raceN (a : List V) (s : S) (k : V → S → Bool) : Bool := (List.rec (motive := fun _ => S → (V → S → Bool) → Bool) (fun s k => k (.tup []) s) (fun _ _ _ _ _ => false) a) s k
noncomputable def raceP (a : List V) (s : S) (k : V → S → Bool) : Bool := args1 a fun x => xPtr x fun _ _ => k (.tup []) s
noncomputable def extX (f : Fx) (a : List V) (s : S) (k : V → S → Bool) : Bool := (Fx.rec (motive := fun _ => (List V) → (S) → (V → S → Bool) → Bool) (fun a s k => args1 a fun x => k x s) (fun a s k => args2 a fun x y => asStr x fun n v => (V.rec (motive_1 := fun _ => (Nat) → (Nat) → (S) → (V → S → Bool) → Bool) (motive_2 := fun _ => Unit) (fun kd z n v s k => (Bool.rec (motive := fun _ => _) false (natK z fun c => (Bool.rec (motive := fun _ => _) false (findB n v c fun z => k (.int .i64 z) s) (Nat.ble c 255))) (keq kd .u8))) (fun _ _ _ _ _ => false) (fun _ _ _ _ _ _ => false) (fun _ _ _ _ => false) (fun _ _ _ _ _ _ => false) (fun _ _ _ _ _ _ => false) (fun _ _ _ _ => false) (fun _ _ _ _ _ _ _ _ => false) (fun _ _ _ _ _ _ _ _ => false) (fun _ _ _ _ _ _ _ _ => false) (fun _ _ _ _ => false) (fun _ _ _ _ _ => false) (fun _ _ _ _ _ _ _ _ _ => false) (fun _ _ _ _ => false) (fun _ _ _ _ => false) (fun _ _ _ _ _ _ => false) (fun _ _ _ _ _ _ => false) (fun _ _ _ _ _ _ _ _ => false) () (fun _ _ _ _ => ()) (y) n v s k)) (fun a s k => args2 a fun x y => asStr x fun n v => asStr y fun m w => cmpStr n v m w fun c => k (.int .i64 (isub (.ofNat c) (.ofNat 1))) s) (fun a s k => args3 a fun x y z => asNat x fun x => asNat y fun y => asNat z fun z => (Bool.rec (motive := fun _ => _) false (forceN (Nat.mod (Nat.add (Nat.add x y) z) m64) fun p => forceN (Nat.div (Nat.add (Nat.add x y) z) m64) fun q => k (.tup [.int .u64 (.ofNat p), .int .u64 (.ofNat q)]) s) (Nat.ble z 1))) (fun a s k => args3 a fun x y z => asNat x fun x => asNat y fun y => asNat z fun z => (Bool.rec (motive := fun _ => _) false (forceN (Nat.mod (Nat.sub (Nat.sub (Nat.add x m64) y) z) m64) fun p => k (.tup [.int .u64 (.ofNat p), .int .u64 (.ofNat ((Bool.rec (motive := fun _ => _) 0 1 (blt x (Nat.add y z)))))]) s) (Nat.ble z 1))) (fun el a s k => args1 a fun x => (V.rec (motive_1 := fun _ => (Nat) → (S) → (V → S → Bool) → Bool) (motive_2 := fun _ => Unit) (fun kd z el s k => (Bool.rec (motive := fun _ => _) false (natK z fun n => (Bool.rec (motive := fun _ => _) false (new s (.cells el 1 (.many 0 t3e)) fun b s => k (.slr b 0 0 n) s) (Nat.ble n 1000000))) (keq kd .i64))) (fun _ _ _ _ => false) (fun _ _ _ _ _ => false) (fun _ _ _ => false) (fun _ _ _ _ _ => false) (fun _ _ _ _ _ => false) (fun _ _ _ => false) (fun _ _ _ _ _ _ _ => false) (fun _ _ _ _ _ _ _ => false) (fun _ _ _ _ _ _ _ => false) (fun _ _ _ => false) (fun _ _ _ _ => false) (fun _ _ _ _ _ _ _ _ => false) (fun _ _ _ => false) (fun _ _ _ => false) (fun _ _ _ _ _ => false) (fun _ _ _ _ _ => false) (fun _ _ _ _ _ _ _ => false) () (fun _ _ _ _ => ()) (x) el s k)) (fun a s k => atLd .u32 a s k) (fun a s k => atLd .i64 a s k) (fun a s k => atSt a s k) (fun a s k => atCas .i32 a s k) (fun a s k => atAdd .i32 a s k) (fun a s k => atAdd .i64 a s k) (fun a s k => raceN a s k) (fun a s k => raceN a s k) (fun a s k => raceP a s k) (fun a s k => raceP a s k) (f) a s k)
noncomputable def knX (l : List KV) (a : List V) (s : S) (k : V → S → Bool) : Bool := (List.rec (motive := fun _ => List V → S → (V → S → Bool) → Bool) (fun _ _ _ => false) (fun x _ ih a s k => (Bool.rec (motive := fun _ => _) (ih a s k) (k (kvV x) s) (veq (.tup a) (kvK x)))) l) a s k
noncomputable def wrapX (ft : Nat → Fc) (ih : CL) (f : Nat) (a : List V) (s : S) (k : V → S → Bool) : Bool := (Fc.rec (motive := fun _ => (CL) → (Nat) → (List V) → (S) → (V → S → Bool) → Bool) (fun _ _ ih f a s k => ih f a s k) (fun x _ _ a s k => extX x a s k) (fun _ ih f a s k => ih f a s k) (fun _ f _ _ _ => false) (ft f) ih f a s k)
noncomputable def callX (ft : Nat → Fc) (gl : Nat → Nat → V) (fuel : Nat) : CL :=
  (Nat.rec (motive := fun _ => CL) (fun _ _ _ _ => false) (fun _ ih f a s k => (Fc.rec (motive := fun _ => (Nat → Fc) → (Nat → Nat → V) → (CL) → (Nat) → (List V) → (S) → (V → S → Bool) → Bool) (fun c r ft gl ih _ a s k => bodyX c r (wrapX ft ih) ih gl a s k) (fun _ _ _ _ _ _ _ _ => false) (fun l _ _ _ _ a s k => knX l a s k) (fun _ _ _ _ _ _ _ => false) (ft f) ft gl ih f a s k)) fuel)
noncomputable def h0 : Heap := N16.all (N16.all (N16.all (N16.all .free)))
noncomputable def s0 : S := .mk h0 (.mk .d0 .d0 .d0 .d0) []

-- from the program's text to instructions
noncomputable def strOf (b : ByteArray) : Nat := b.data.toList.foldr (fun x r => x.toNat + 256 * r) 0
noncomputable def ofVal0 : Value → Option V
  | .int k n => some (.int k n)
  | .bool b => some (.bool b)
  | .string b => some (.str b.size (strOf b))
  | .pointer none => some .nilp
  | .slice none 0 0 => some .nils
  | .map none => some .nilm
  | .nilFunc => some .nilf
  | .nilIface => some .nili
  | _ => none
noncomputable def allO {α β : Type} (f : α → Option β) : List α → Option (List β)
  | [] => some []
  | a :: l => match f a, allO f l with | some b, some r => some (b :: r) | _, _ => none
noncomputable def ofVal : Value → Option V
  | .agg cs => (allO ofVal0 cs.toList).map .agg
  | .tuple cs => if cs.isEmpty then some undef else none
  | v => ofVal0 v
noncomputable def tyd (P : Program) (t : Nat) : TypeDesc := (P.underlying t).getD .invalid
noncomputable def tsz (P : Program) (t : Nat) : Nat := match P.info? t with | some i => i.size | none => 0
noncomputable def isA (P : Program) (t : Nat) : Bool := match tyd P t with | .struct _ | .array _ _ => true | _ => false
noncomputable def aggO (P : Program) (t : Nat) : Option Bool := match P.underlying t with | some (.struct _) => some true | some (.array _ _) => some true | some _ => some false | none => none
noncomputable def szO (P : Program) (t : Nat) : Option Nat := match P.info? t with | some i => if i.size = 0 then none else some i.size | none => none
noncomputable def zval (P : Program) (t : Nat) : Option V := match P.info? t with | some i => (match i.zero with | some z => ofVal z | none => none) | none => none
noncomputable def zcells (P : Program) (t : Nat) : Option (List V) := match P.info? t with | some i => (match i.zero with | some z => allO ofVal0 z.cells.toList | none => none) | none => none
noncomputable def cOpd : Operand → Option Opd
  | .tmp t => if Nat.ble t 319 then some (.tmp (qig (Nat.div t 16)) (dig (Nat.mod t 16))) else none
  | .const v => (ofVal v).map .val
  | .global g => some (.val (.gptr g 0))
  | .func f => some (.val (.fn f [] []))
noncomputable def cOpds (l : Array Operand) : Option (List Opd) := allO cOpd l.toList
noncomputable def cOpt : Option Operand → Option (Option Opd)
  | none => some none
  | some x => (cOpd x).map some
noncomputable def eqTo (P : Program) : Nat → Nat → Option EqT
  | 0, _ => none
  | d + 1, t => match P.underlying t with
    | some (.int _) => some .int
    | some .bool => some .bool
    | some .string => some .str
    | some (.pointer e) => if tsz P e = 0 then none else some .ptr
    | some (.slice _) => some .sl
    | some (.map _ _) => some .mp
    | some (.func _ _ _) => some .fn
    | some (.struct fs) => if P.stoodInHeld t then none else
        (allO (fun (f : Field) => match eqTo P d f.type, aggO P f.type with | some q, some g => some (EqF.mk f.offset (tsz P f.type) g q) | _, _ => none) (fs.toList.filter fun f => f.name ≠ "_")).map .st
    | _ => none
/-- keys of maps: numbers, truth values, strings, and structs of such -/
noncomputable def isB (P : Program) (t : Nat) : Bool := match P.underlying t with | some (.int _) | some .bool | some .string => true | _ => false
noncomputable def keyTo (P : Program) (t : Nat) : Option EqT := match P.underlying t with
  | some (.struct fs) => if fs.toList.all (fun f => isB P f.type) then eqTo P 8 t else none
  | _ => if isB P t then eqTo P 8 t else none
noncomputable def isU8 (P : Program) (t : Nat) : Bool := match tyd P t with | .int .u8 => true | _ => false
noncomputable def compB (b : Builtin) (ts : Array TypeId) (args : List Opd) : Program → Option I :=
  match b, ts.toList, args with
  | .len, [t], [x] => fun P => match P.underlying t with
    | some (.array n _) => some (.const (.int .i64 (.ofNat n)))
    | some .string => some (.lenS x)
    | some (.slice _) => some (.lenL x)
    | some (.map _ _) => some (.lenM x)
    | _ => none
  | .cap, [t], [x] => fun P => match P.underlying t with | some (.slice _) => some (.cap x) | _ => none
  | .min, _, l => fun _ => some (.minmax false l)
  | .max, _, l => fun _ => some (.minmax true l)
  | .append, t :: r, [s, x] => fun P => match P.underlying t with
    | some (.slice e) => do
      let n ← szO P e
      let z ← zcells P e
      if z.length = n && Nat.ble (P.bytesOf e) 1000000 then
        (match r with
        | u :: _ => (match P.underlying u with
          | some (.int _) => some (I.appendZ e n z s x)
          | some (.slice _) => some (I.append e n s x)
          | some .string => some (I.append e n s x)
          | _ => none)
        | [] => some (I.append e n s x))
      else none
    | _ => none
  | .copy, t :: _, [d, s] => fun P => match P.underlying t with | some (.slice e) => do let n ← szO P e; some (.copy n d s) | _ => none
  | .clear, [t], [x] => fun P => match P.underlying t with
    | some (.slice e) => do
      let n ← szO P e
      let z ← zcells P e
      (if z.length = n then some (I.clear z n x) else none)
    | _ => none
  | .delete, t :: _, [m, k] => fun P => match P.underlying t with | some (.map kt _) => do let q ← keyTo P kt; some (.mapDelete q m k) | _ => none
  | .unsafeSliceData, _, [x] => fun _ => some (.sliceData x)
  | .unsafeString, [t, _], [p, n] => fun P => match P.underlying t with
    | some (.pointer u) => (if szO P u = some 1 then some (I.unsafeString u p n) else none)
    | _ => none
  | _, _, _ => fun _ => none
noncomputable def comp (o : Op) : Program → Option I :=
  match o with
  | .move x | .assign x => fun _ => (cOpd x).map .move
  | .pick c a b => fun _ => do pure (.pick (← cOpd c) (← cOpd a) (← cOpd b))
  | .alloc t => fun P => do
    let z ← zcells P t
    let n ← szO P t
    (if z.length = n then some (I.alloc t n z) else none)
  | .box t x => fun P => do
    let x ← cOpd x
    let n ← szO P t
    some (.box t n x)
  | .build t ps => fun P => do
    let z ← zcells P t
    match P.underlying t with
    | some (.struct fs) => (if fs.toList.all (fun f => (P.info? f.type).isSome) then
        (allO (fun (p : Nat × Operand) => (do let f ← fs.toList[p.1]?; let x ← cOpd p.2; some (Pt.mk f.offset (tsz P f.type) x) : Option Pt)) ps.toList).map (fun l => I.build z l)
        else none)
    | some (.array _ e) => do
      let n ← szO P e
      (allO (fun (p : Nat × Operand) => (do let x ← cOpd p.2; some (Pt.mk (p.1 * n) n x) : Option Pt)) ps.toList).map (fun l => I.build z l)
    | _ => none
  | .buildSlice t m ps => fun P => do
    match P.underlying t with
    | some (.slice e) => do
      let z ← zcells P e
      let n ← szO P e
      let l ← allO (fun (p : Nat × Operand) => (do let x ← cOpd p.2; some (Pt.mk p.1 n x) : Option Pt)) ps.toList
      (if z.length = n && Nat.ble m 4096 && Nat.ble n 4096 then some (I.buildSlice e n z m l) else none)
    | _ => none
  | .load t a => fun P => do
    let a ← cOpd a
    match aggO P t with
    | some true => do let n ← szO P t; some (.loadA n a)
    | some false => some (.load1 a)
    | none => none
  | .store t a x => fun P => do
    let a ← cOpd a
    let x ← cOpd x
    let n ← szO P t
    some (.store n a x)
  | .nilCheck x => fun _ => (cOpd x).map .nilCheck
  | .binOp op t x y _ => fun P => do
    let x ← cOpd x
    let y ← cOpd y
    match op with
    | .eql => (if P.eqGuardType P.depth t then none else (eqTo P 8 t).map fun q => I.eq false q x y)
    | .neq => (if P.eqGuardType P.depth t then none else (eqTo P 8 t).map fun q => I.eq true q x y)
    | op => pure (.bin op x y)
  | .unOp op _ x => fun _ => (cOpd x).bind fun x => match op with | .not => some (.not x) | .neg => some (.neg x) | _ => none
  | .convert s d x => fun P => (cOpd x).bind fun x => match P.underlying s, P.underlying d with
    | some .string, some .string => some (.convId x)
    | some (.pointer e), some .unsafePointer => (szO P e).map fun _ => .convU x
    | some .unsafePointer, some (.pointer u) => (szO P u).map fun n => .convP u n x
    | some (.int _), some (.int k) => some (.convInt k x)
    | some .string, some (.slice e) => if isU8 P e then some (.s2b e x) else none
    | some (.slice e), some .string => if isU8 P e then some (.b2s x) else none
    | _, _ => none
  | .makeFunc (.func f) a c => fun _ => do pure (.makeFunc f (← cOpds a) (← cOpds c))
  | .makeMap _ none => fun _ => some .makeMap
  | .makeSlice t l c => fun P => do
    match P.underlying t with
    | some (.slice e) => do
      let n ← szO P e
      let z ← zcells P e
      let l ← cOpd l
      let c ← cOpd c
      (if z.length = n && Nat.ble (P.bytesOf e) 1000000 then some (I.makeSlice e n z l c) else none)
    | _ => none
  | .slice t x lo hi mx => fun P => do
    let x ← cOpd x
    let lo ← cOpt lo
    let hi ← cOpt hi
    let mx ← cOpt mx
    match P.underlying t with
    | some .string => if mx.isNone then some (.sliceS x lo hi) else none
    | some (.slice e) => do let n ← szO P e; (if mx.isSome && hi.isNone then none else some (I.sliceL n x lo hi mx))
    | some (.array m e) => do let n ← szO P e; (if mx.isSome && hi.isNone then none else some (I.sliceArr m n x lo hi mx))
    | _ => none
  | .fieldAddr s x f => fun P => do
    match P.underlying s with
    | some (.struct fs) => do
      let x ← cOpd x
      let f ← fs.toList[f]?
      let _ ← szO P f.type
      some (.fieldAddr f.offset x)
    | _ => none
  | .field t x f => fun P => do
    match P.underlying t with
    | some (.struct fs) => do
      let x ← cOpd x
      let f ← fs.toList[f]?
      let g ← aggO P f.type
      some (.field f.offset (tsz P f.type) g x)
    | _ => none
  | .indexAddr t x i => fun P => do
    let x ← cOpd x
    let i ← cOpd i
    match P.underlying t with
    | some (.slice e) => do let n ← szO P e; some (.indexAddrS n x i)
    | some (.array m e) => do let n ← szO P e; some (.indexAddrA m n x i)
    | _ => none
  | .index t x i => fun P => do
    let x ← cOpd x
    let i ← cOpd i
    match P.underlying t with
    | some .string => some (.indexStr x i)
    | some (.array m e) => do
      let n ← szO P e
      let g ← aggO P e
      some (.indexV m n g x i)
    | _ => none
  | .lookup t x i ok => fun P => do
    match P.underlying t with
    | some (.map kt e) => do
      let q ← keyTo P kt
      let z ← zval P e
      let x ← cOpd x
      let i ← cOpd i
      some (.lookup q z ok x i)
    | _ => none
  | .mapUpdate t m k v | .insert t m k v => fun P => do
    match P.underlying t with
    | some (.map kt _) => do
      let q ← keyTo P kt
      let m ← cOpd m
      let k ← cOpd k
      let v ← cOpd v
      some (.mapUpdate q m k v)
    | _ => none
  | .extract x i => fun _ => (cOpd x).map fun x => .extract x i
  | .call c => fun P => do
    let l ← cOpds c.args
    match c.callee with
    | .value (.func f) => pure (.call f l)
    | .value f => do pure (.callV (← cOpd f) l)
    | .builtin b => compB b c.argTypes l P
    | _ => none
  | .defer c => fun P => do
    let l ← cOpds c.args
    match c.callee with
    | .value (.func f) => pure (.deferC f l)
    | .value f => do pure (.deferV (← cOpd f) l)
    | _ => none
  | _ => fun _ => none
noncomputable def cDst : Option Tmp → Option Dst
  | none => some .no
  | some t => if Nat.ble t 319 then some (.at (qig (Nat.div t 16)) (dig (Nat.mod t 16))) else none
noncomputable def cGuard (ops : List Oper) : Option (Nat × Bool) → Option G
  | none => some .no
  | some (j, w) => match ops[j]? with
    | some o => match o.dst with
      | some t => if Nat.ble t 319 then some (.on (qig (Nat.div t 16)) (dig (Nat.mod t 16)) w) else none
      | none => none
    | none => none
noncomputable def cStep (P : Program) (ops : List Oper) (chk : Bool) (o : Oper) : Step :=
  match cGuard ops o.guard, cDst o.dst with
  | some g, some d => (Bool.rec (motive := fun _ => _) (.mk g d ((comp o.op P).getD .bad)) (.chk g d ((comp o.op P).getD .bad)) chk)
  | _, _ => .mk .no .no .bad
-- regions that draw their order: 0 pure, 1 reads, 2 makes memory, 3 anything
noncomputable def clsOf (P : Program) (o : Op) : Nat := match o with
  | .load .. | .lookup .. => 1
  | .alloc _ | .box .. | .buildSlice .. | .makeMap .. | .makeSlice .. => 2
  | .convert s d _ => (match tyd P s, tyd P d with | .string, .slice _ => 2 | .slice _, .string => 1 | .pointer _, .unsafePointer => 1 | .unsafePointer, .pointer _ => 1 | _, _ => 0)
  | .slice t .. => (match tyd P t with | .slice _ => 1 | _ => 0)
  | .call c => (match c.callee with
    | .builtin .len => (match c.argTypes.toList with | t :: _ => (match tyd P t with | .map _ _ => 1 | _ => 0) | _ => 3)
    | .builtin .cap | .builtin .min | .builtin .max => 0
    | _ => 3)
  | .move .. | .assign .. | .pick .. | .build .. | .nilCheck .. | .binOp .. | .unOp .. | .makeInterface .. | .makeFunc .. | .fieldAddr .. | .field .. | .indexAddr .. | .index .. | .extract .. => 0
  | _ => 3
noncomputable def bit (m i : Nat) : Bool := Nat.beq (Nat.land (Nat.shiftRight m i) 1) 1
noncomputable def maskOf (clo : List Nat) (es : List Edge) : Nat := es.foldl (fun m e => if Region.binds .any e then Nat.lor (Nat.lor m (Nat.shiftLeft 1 e.on)) (clo.getD e.on 0) else m) 0
noncomputable def closures (ops : List Oper) : List Nat := ops.foldl (fun clo o => clo ++ [maskOf clo o.after.toList]) []
structure Pl where
  i : Nat
  o : Oper
  c : Nat
  m : Nat
noncomputable def pls (P : Program) (ops : List Oper) : List Pl := (ops.zip (closures ops)).zipIdx.map fun ((o, m), i) => { i, o, c := clsOf P o.op, m }
-- all that may run now (pure, or reads), in order; reads that were done and may stand here too are looked at again
noncomputable def stageA (past : Nat) : List Pl → (was done : Nat) → List (Bool × Pl) × Nat
  | [], _, done => ([], done)
  | p :: l, was, done =>
    (Bool.rec (motive := fun _ => _) ((Bool.rec (motive := fun _ => _) (stageA past l was done) (match stageA past l was (Nat.lor done (Nat.shiftLeft 1 p.i)) with | (r, d) => ((false, p) :: r, d)) (band (Nat.ble p.c 1) (Nat.beq (Nat.land p.m done) p.m)))) ((Bool.rec (motive := fun _ => _) (stageA past l was done) (match stageA past l was done with | (r, d) => ((true, p) :: r, d)) (band (Nat.beq p.c 1) (band (bit was p.i) (bnot (bit past p.i)))))) (bit done p.i))
-- what the next effect wants beside
noncomputable def stageB (need : Nat) : List Pl → (done : Nat) → List (Bool × Pl) × Nat
  | [], done => ([], done)
  | p :: l, done =>
    (Bool.rec (motive := fun _ => _) (stageB need l done) (match stageB need l (Nat.lor done (Nat.shiftLeft 1 p.i)) with | (r, d) => ((false, p) :: r, d)) (band (bnot (bit done p.i)) (band (Nat.ble p.c 2) (bit need p.i))))
noncomputable def planFrom (all : List Pl) : List Pl → (past done : Nat) → List (Bool × Pl)
  | [], past, done => match stageA past all done done with | (a, d) => match stageB (Nat.pow 2 all.length - 1) all d with | (b, _) => a ++ b
  | e :: es, past, done => match stageA past all done done with | (a, d) => match stageB e.m all d with | (b, d) => a ++ (b ++ ((false, e) :: planFrom all es (Nat.lor past e.m) (Nat.lor d (Nat.shiftLeft 1 e.i))))
noncomputable def plan (P : Program) (ops : List Oper) : List (Bool × Pl) := planFrom (pls P ops) ((pls P ops).filter fun p => Nat.beq p.c 3) 0 0
noncomputable def cRegion (P : Program) (ops : List Oper) (draw : Bool) : List Step := if draw then (plan P ops).map (fun p => cStep P ops p.1 p.2.o) else ops.map (cStep P ops false)
noncomputable def cCode (P : Program) : Code → Cd
  | .skip => .skip
  | .region _ ops d => .steps (cRegion P ops.toList d)
  | .seq a b => .seq (cCode P a) (cCode P b)
  | .cond c a b => match cOpd c with | some c => .cond c (cCode P a) (cCode P b) | none => .bad
  | .block id a => .block id (cCode P a)
  | .loop a => .loop (cCode P a)
  | .exit id => .exit id
  | .ret => .ret
  | _ => .bad
noncomputable def cRes (P : Program) : ResultVar → Option Rs
  | .tmp t => (cOpd (.tmp t)).map .tmp
  | .cell a t => do
    let x ← cOpd (.tmp a)
    match aggO P t with
    | some true => do let n ← szO P t; some (.cellA n x)
    | some false => some (.cell1 x)
    | none => none
noncomputable def extRows : List (String × Fx) := [("internal/abi.NoEscape", .idf), ("internal/bytealg.IndexByteString", .indexByte), ("internal/bytealg.abigen_runtime_cmpstring", .cmpstr), ("math/bits.Add64", .add64), ("math/bits.Sub64", .sub64),
  ("sync/atomic.LoadUint32", .ldU32), ("sync/atomic.LoadInt64", .ldI64), ("sync/atomic.StoreUint32", .st), ("sync/atomic.CompareAndSwapInt32", .casI32), ("sync/atomic.AddInt32", .addI32), ("sync/atomic.AddInt64", .addI64), ("internal/race.Disable", .rDis), ("internal/race.Enable", .rEn), ("internal/race.Acquire", .rAcq), ("internal/race.ReleaseMerge", .rRel)]
noncomputable def cFn (P : Program) (fn : Func) : Fc :=
  match fn.body with
  | some c => match allO (cRes P) fn.results.toList with | some r => .code (cCode P c) r | none => .bad
  | none =>
    match extRows.lookup fn.name with
    | some x => .ext x
    | none =>
      if fn.name == "internal/bytealg.MakeNoZero" then (match fn.resultTypes.toList with | [t] => (match tyd P t with | .slice e => .ext (.noZero e) | _ => .bad) | _ => .bad)
      else .bad

end Go.Exe

