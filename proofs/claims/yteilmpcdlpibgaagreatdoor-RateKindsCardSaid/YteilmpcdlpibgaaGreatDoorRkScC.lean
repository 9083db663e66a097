import Derived.Test.YteilmpcdlpibgaaGreatDoorRkScB
import Derived.Tactics2
import Derived.StillTactics
import Derived.Laws.Pointers
import Derived.Deep.RegionHeldLaw
import Derived.Deep.AppendLies
import Derived.Deep.RegionLaw
set_option linter.unusedVariables false
set_option linter.unusedSimpArgs false
namespace Go.Proofs.Sc
open Go Go.Proofs Go.RowKit
theorem info38 : (Tryz.prog.info? 316).map (fun i => (i.zero, i.size, i.bytes)) = some (some (.agg #[.int .i64 0, .string ⟨#[]⟩, .int .i64 0, .int .i64 0, .int .i64 0]), 5, 48) := by kernel_rfl
/-- a token's cells -/
def tokC (k : Int) (t : ByteArray) (f l c : Int) : List Value := [.int .i64 k, .string t, .int .i64 f, .int .i64 l, .int .i64 c]
theorem Upd.below {b : Nat} {w w' : World} (h : Upd b w w') (hb : b ≤ w.heap.size) : Below b w w' := ⟨h.os, h.tape, h.out, h.size, fun k hk => h.heap k (by omega) (by omega)⟩
theorem own_ne {w : World} {b e s n : Nat} {v : Value} {xs : List Value} (h : w.ownsRow (b + 1) e s v n xs) : some b ≠ v.ownBlock := by
  rcases h.2 with ⟨rfl, _⟩ | ⟨g, cap, cur, rfl, hg, _⟩
  · intro e; cases e
  · intro e
    have e : b = g := Option.some.inj e
    omega
theorem old_alloc {w w0 : World} {o : Obj} {b : Nat} (hb : b < w.heap.size) (h : w0.heap = w.heap.push o) : w0.heap[b]? = w.heap[b]? ∧ b < w0.heap.size := by
  rw [h, Array.getElem?_push, if_neg (by omega), Array.size_push]; exact ⟨rfl, by omega⟩
/-- what the append left of the scanner's own block -/
theorem St.grown {w w0 w1 : World} {b : Nat} {rest f l c out} (h : St w b rest f l c out) (h0 : w0.heap[b]? = w.heap[b]?) (hb : b < w0.heap.size) (hg : w0.grownBy w1 out.ownBlock) (hne : some b ≠ out.ownBlock) : St w1 b rest f l c out :=
  have hh : w1.heap[b]? = w.heap[b]? := (hg.block b hb hne).trans h0
  have hc : ∀ o, w1.cell? ⟨b, o, none⟩ = w.cell? ⟨b, o, none⟩ := fun o => World.cell?_of_block hh
  have hf : ∀ o, w1.frozen? ⟨b, o, none⟩ = w.frozen? ⟨b, o, none⟩ := fun o => World.frozen?_of_block hh
  ⟨(hc 0).trans h.c0, (hc 1).trans h.c1, (hc 2).trans h.c2, (hc 3).trans h.c3, (hc 4).trans h.c4, (hf 0).trans h.f0, (hf 3).trans h.f3, (hf 4).trans h.f4⟩
theorem below_grown {w w0 w1 : World} {b e s n : Nat} {o : Obj} {v : Value} {xs : List Value} (hg : w0.grownBy w1 v.ownBlock) (hown : w.ownsRow (b + 1) e s v n xs) (hb : b < w.heap.size) (h : w0.heap = w.heap.push o) (ho : w0.os = w.os) (ht : w0.tape = w.tape) (hp : w0.output = w.output) : Below b w w1 := by
  refine ⟨hg.os.trans ho, hg.tape.trans ht, hg.output.trans hp, ?_, fun k hk => ?_⟩
  · have := hg.size; rw [h, Array.size_push] at this; omega
  · have hk' := old_alloc (o := o) (w0 := w0) (show k < w.heap.size by omega) h
    rw [hg.block k hk'.2 ?_, hk'.1]
    rcases hown.2 with ⟨rfl, _⟩ | ⟨g, cap, cur, rfl, hgb, _⟩
    · intro e; cases e
    · intro e
      have e : k = g := Option.some.inj e
      omega
/-- the tokens' row is no part of what a step turns -/
theorem own_upd {w w' : World} {b e s n : Nat} {v : Value} {xs : List Value} (h : w.ownsRow (b + 1) e s v n xs) (u : Upd b w w') : w'.ownsRow (b + 1) e s v n xs := by
  refine ⟨h.1, ?_⟩
  rcases h.2 with h | ⟨g, cap, cur, h1, h2, h3, h4⟩
  · exact .inl h
  · refine .inr ⟨g, cap, cur, h1, h2, ?_, h4⟩
    have hlt : g < w.heap.size := by
      by_cases hlt : g < w.heap.size
      · exact hlt
      · rw [Array.getElem?_eq_none (Nat.le_of_not_lt hlt)] at h3; cases h3
    rw [u.heap g hlt (by omega)]; exact h3
set_option maxRecDepth 100000 in
set_option maxHeartbeats 3200000 in
theorem put_any (w : World) (b : Nat) (rest : ByteArray) (f l c : Int) (out : Value) (k : Nat) (xs : List Value) (kd : Int) (t : ByteArray) (n : Nat) (hn : n ≤ rest.size) (hs : rest.size ≤ 1000000) (h0 : 0 ≤ c) (h1 : c ≤ 1000000) (hk : k ≤ 1000000) (st : St w b rest f l c out) (hb : b < w.heap.size)
    (hnl : ∀ k, k < n → rest.data.toList.getD k 0 ≠ 10) (hown : w.ownsRow (b + 1) 316 5 out k xs) :
    Calls Tryz.prog 247 #[.pointer (some ⟨b, 0, none⟩), .int .i64 kd, .string t, .int .i64 n] w fun e w' => e = .returned (.tuple #[]) ∧ ∃ out', St w' b (rest.extract n rest.size) f l (c + n) out' ∧ w'.ownsRow (b + 1) 316 5 out' (k + 1) (xs ++ tokC kd t f l c) ∧ Below b w w' := by
  obtain ⟨i0, hi0, hz0, hz1, hz2⟩ := info_parts info38
  have hst := Lib.hid st
  have hnl' := Lib.hid hnl
  clear hnl
  obtain ⟨c0, c1, c2, c3, c4, f0, f3, f4⟩ := st
  go_enter Tryz.func247, Tryz.ntmps247
  go_wp2_with fail
  go_region_law ((refine step_append_lies _ (by rfl) _ _ _ (by rfl) (b + 1) 316 i0 _ 5 48 Tryz.underlying257 hi0 hz0 hz1 hz2 rfl (by omega) out k xs (by rfl) ((hown.alloc _).drew) ⟨w.heap.size, 0, none⟩ 1 1 [.int .i64 kd, .string t, .int .i64 f, .int .i64 l, .int .i64 c] (by rfl) (by rfl) (World.news_of_block (cs := #[.int .i64 kd, .string t, .int .i64 f, .int .i64 l, .int .i64 c]) (t := 316) (fr := (0, 0)) (heap_alloc_new w _)) (by simp [Value.oneCell']) (by omega) (by unfold maxLen; omega) (by omega) (by simp; omega) (w.heap.size + 1) (by simp) ?_; intro gg cap w1 hown1 hgrow hat hlt; have HS := Lib.hid (St.grown hst.out (old_alloc hb rfl).1 (old_alloc hb rfl).2 hgrow (own_ne hown)); have hb1 : b < w1.heap.size := World.block_lt_of_cell? w1 _ HS.out.c0; have d4 := HS.out.c4; have e4 := HS.out.f4; have HG := Lib.hid hgrow; have HO := Lib.hid hown1; clear hgrow hown1))
  all_goals
    have st2 := Lib.hid (HS.out.setOut (.slice (some ⟨gg, 0, none⟩) (k + 1) cap))
    go_wp2_with (go_at_call 298; refine (pass_any _ b rest f l c _ n hn hs h0 h1 st2.out (by rw [World.size_setCell]; exact hb1) hnl'.out).mono ?_; rintro e w2 ⟨rfl, hS2, hU2⟩)
    exact bodyPost_end (v := .tuple #[]) (by simp [results, Tryz.results247, go_sem]) rfl ⟨rfl, _, hS2, own_upd HO.out ((Upd.set b 4 w1 _).trans hU2), (below_grown HG.out hown hb rfl rfl rfl rfl).trans (((Upd.set b 4 w1 _).trans hU2).below (by omega))⟩
end Go.Proofs.Sc
