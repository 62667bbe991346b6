/- Part 31 of the claim on TopWakes: work.Step. No condition. -/
import Derived.Test.YthoeodjgfelkhaaGreatm29
set_option linter.unusedVariables false
set_option linter.unusedSimpArgs false
set_option maxRecDepth 100000
set_option maxHeartbeats 8000000
namespace Go.Proofs.YthoeodjgfelkhaaGreat.QT
open Go.RowKit Go.Proofs.YthoeodjgfelkhaaGreatW.PrintWords Go.Proofs.YthoeodjgfelkhaaGreatW.PrintLast Go.Proofs.YthoeodjgfelkhaaGreatW.PrintMore
attribute [local go_sem] max2_int min2_int max_two min_two
section
theorem clone57' (A : Option Addr) (c : Nat) (l : List S116) (w : World) (hc : Kd.C k116 w A l.length l) (hn : l.length ≤ 1000000) :
  Calls Tryz.prog 57 #[.slice A l.length c] w fun e w' => ∃ v, e = .returned v ∧ k116.R 116 w' w.heap.size (fun _ => True) v l ∧ Below w.heap.size w w' :=
 (clone57 A c l w hc hn).mono fun _ _ ⟨v, he, hr, hb⟩ => ⟨v, he, Kd.R_imp rfl (fun _ _ _ x cs h => by rw [k116_open (w := w) h]; exact k116_mkM _ _ _ x) hr, hb⟩
structure WB (w : World) (c : Cf) (wk z : Array Value) (W : World) : Prop where
 hb : Below w.heap.size w W
 h0 : W.heap[w.heap.size]? = some (.cells #[.int .i64 c.w, .int .i64 c.d, .int .i64 c.i, .int .i64 c.s] 23 (0, 0))
 h1 : W.heap[w.heap.size + 1]? = some (.cells wk 76 (0, 0))
 h2 : W.heap[w.heap.size + 1 + 1]? = some (.cells z 76 (0, 0))
section
variable {w : World} {c : Cf} {wk z : Array Value} {W W1 : World}
theorem WB.start (w : World) (c : Cf) (wk z : Array Value) : WB w c wk z (((w.alloc (.cells #[.int .i64 c.w, .int .i64 c.d, .int .i64 c.i, .int .i64 c.s] 23)).alloc (.cells wk 76)).alloc (.cells z 76)) :=
 ⟨below_alloc (below_alloc (below_alloc (Below.refl _ _) _) _) _, blk_alloc (two_allocs w _ _).1 _, blk_alloc (two_allocs w _ _).2 _, by
  have h := blk_new ((w.alloc (.cells #[.int .i64 c.w, .int .i64 c.d, .int .i64 c.i, .int .i64 c.s] 23)).alloc (.cells wk 76)) (.cells z 76)
  rwa [World.size_alloc, World.size_alloc] at h⟩
theorem WB.below (h : WB w c wk z W) (hb : Below W.heap.size W W1) : WB w c wk z W1 := ⟨below_then h.hb h.hb.size hb, blk_below h.h0 hb, blk_below h.h1 hb, blk_below h.h2 hb⟩
theorem WB.drew (h : WB w c wk z W) : WB w c wk z W.drew := ⟨below_drew h.hb, h.h0, h.h1, h.h2⟩
theorem WB.lt (h : WB w c wk z W) : w.heap.size + 1 + 1 < W.heap.size := blk_lt h.h2
theorem WB.far (h : WB w c wk z W) {p : Addr} (hp : w.heap.size + 1 + 1 < p.block) (u : Value) : WB w c wk z (W.setCell p u) := ⟨h.hb.setCell (by omega) u, blk_far h.h0 (by omega) u, blk_far h.h1 (by omega) u, blk_far h.h2 (by omega) u⟩
theorem WB.grown (h : WB w c wk z W) {g : Nat} (hg : W.grownBy W1 (some g)) (hne : w.heap.size + 1 + 1 < g) : WB w c wk z W1 :=
 ⟨⟨hg.os.trans h.hb.os, hg.tape.trans h.hb.tape, hg.output.trans h.hb.output, Nat.le_trans h.hb.size hg.size, fun i hi => (hg.block i (by have := h.lt; omega) (by simp only [ne_eq, Option.some.injEq]; omega)).trans (h.hb.block i hi)⟩,
  blk_grown h.h0 hg (by simp only [ne_eq, Option.some.injEq]; omega), blk_grown h.h1 hg (by simp only [ne_eq, Option.some.injEq]; omega), blk_grown h.h2 hg (by simp only [ne_eq, Option.some.injEq]; omega)⟩
end
theorem wbCells {w : World} {c : Cf} {pc sp lk : Int} {f : S66} {st : List S116} {As : Option Addr} {cs_ : Nat} {z : Array Value} {W : World} (h : WB w c #[.int .i64 pc, .slice As st.length cs_, .int .i64 f.f0, .int .i64 f.f1, .int .i64 f.f2, .int .u64 f.f3, .int .u64 f.f4, .int .u64 f.f5, .int .i64 f.f6, .int .i64 sp, .int .i64 lk] z W) : W.cell? ⟨w.heap.size, 0, none⟩ = some (.int .i64 c.w) ∧ W.cell? ⟨w.heap.size, 1, none⟩ = some (.int .i64 c.d) ∧ W.cell? ⟨w.heap.size, 2, none⟩ = some (.int .i64 c.i) ∧ W.cell? ⟨w.heap.size, 3, none⟩ = some (.int .i64 c.s) ∧ W.cell? ⟨w.heap.size + 1, 0, none⟩ = some (.int .i64 pc) ∧ W.cell? ⟨w.heap.size + 1, 1, none⟩ = some (.slice As st.length cs_) ∧ W.cell? ⟨w.heap.size + 1, 2, none⟩ = some (.int .i64 f.f0) ∧ W.cell? ⟨w.heap.size + 1, 3, none⟩ = some (.int .i64 f.f1) ∧ W.cell? ⟨w.heap.size + 1, 4, none⟩ = some (.int .i64 f.f2) ∧ W.cell? ⟨w.heap.size + 1, 5, none⟩ = some (.int .u64 f.f3) ∧ W.cell? ⟨w.heap.size + 1, 6, none⟩ = some (.int .u64 f.f4) ∧ W.cell? ⟨w.heap.size + 1, 7, none⟩ = some (.int .u64 f.f5) ∧ W.cell? ⟨w.heap.size + 1, 8, none⟩ = some (.int .i64 f.f6) ∧ W.cell? ⟨w.heap.size + 1, 9, none⟩ = some (.int .i64 sp) ∧ W.cell? ⟨w.heap.size + 1, 10, none⟩ = some (.int .i64 lk) :=
 ⟨(blk_cell h.h0 0).trans rfl, (blk_cell h.h0 1).trans rfl, (blk_cell h.h0 2).trans rfl, (blk_cell h.h0 3).trans rfl, (blk_cell h.h1 0).trans rfl, (blk_cell h.h1 1).trans rfl, (blk_cell h.h1 2).trans rfl, (blk_cell h.h1 3).trans rfl, (blk_cell h.h1 4).trans rfl, (blk_cell h.h1 5).trans rfl, (blk_cell h.h1 6).trans rfl, (blk_cell h.h1 7).trans rfl, (blk_cell h.h1 8).trans rfl, (blk_cell h.h1 9).trans rfl, (blk_cell h.h1 10).trans rfl⟩
theorem WB.put {w : World} {c : Cf} {wk z : Array Value} {W : World} (h : WB w c wk z W) (i : Nat) (u : Value) : WB w c wk (z.setIfInBounds i u) (W.setCell ⟨w.heap.size + 1 + 1, i, none⟩ u) :=
 ⟨h.hb.setCell (p := ⟨w.heap.size + 1 + 1, i, none⟩) (by show w.heap.size ≤ w.heap.size + 1 + 1; omega) u, blk_far h.h0 (by show w.heap.size ≠ w.heap.size + 1 + 1; omega) u, blk_far h.h1 (by show w.heap.size + 1 ≠ w.heap.size + 1 + 1; omega) u, blk_set h.h2 i u⟩
theorem WB.putR {w : World} {c : Cf} {wk z : Array Value} {W : World} (h : WB w c wk z W) {α : Type} {dk : Kd α} {e base : Nat} {v : Value} {xs : List α} (hr : dk.R e W base (fun _ => True) v xs) (he : ∀ q, q ∈ e :: dk.E → q ≠ 76) (i : Nat) (u : Value) : dk.R e (W.setCell ⟨w.heap.size + 1 + 1, i, none⟩ u) base (fun _ => True) v xs := Kd.R_set hr h.h2 he i u
theorem WB.put11 {w : World} {c : Cf} {wk : Array Value} {W : World} {z0 z1 z2 z3 z4 z5 z6 z7 z8 z9 z10 : Value} (h : WB w c wk #[z0, z1, z2, z3, z4, z5, z6, z7, z8, z9, z10] W) (a0 a1 a2 a3 a4 a5 a6 a7 a8 a9 a10 : Value) : WB w c wk #[a0, a1, a2, a3, a4, a5, a6, a7, a8, a9, a10] (((((((((((W.setCell ⟨w.heap.size + 1 + 1, 0, none⟩ a0).setCell ⟨w.heap.size + 1 + 1, 1, none⟩ a1).setCell ⟨w.heap.size + 1 + 1, 2, none⟩ a2).setCell ⟨w.heap.size + 1 + 1, 3, none⟩ a3).setCell ⟨w.heap.size + 1 + 1, 4, none⟩ a4).setCell ⟨w.heap.size + 1 + 1, 5, none⟩ a5).setCell ⟨w.heap.size + 1 + 1, 6, none⟩ a6).setCell ⟨w.heap.size + 1 + 1, 7, none⟩ a7).setCell ⟨w.heap.size + 1 + 1, 8, none⟩ a8).setCell ⟨w.heap.size + 1 + 1, 9, none⟩ a9).setCell ⟨w.heap.size + 1 + 1, 10, none⟩ a10) := by
 have h1 : WB w c wk #[a0, z1, z2, z3, z4, z5, z6, z7, z8, z9, z10] (W.setCell ⟨w.heap.size + 1 + 1, 0, none⟩ a0) := by simpa using h.put 0 a0
 have h2 : WB w c wk #[a0, a1, z2, z3, z4, z5, z6, z7, z8, z9, z10] ((W.setCell ⟨w.heap.size + 1 + 1, 0, none⟩ a0).setCell ⟨w.heap.size + 1 + 1, 1, none⟩ a1) := by simpa using h1.put 1 a1
 have h3 : WB w c wk #[a0, a1, a2, z3, z4, z5, z6, z7, z8, z9, z10] (((W.setCell ⟨w.heap.size + 1 + 1, 0, none⟩ a0).setCell ⟨w.heap.size + 1 + 1, 1, none⟩ a1).setCell ⟨w.heap.size + 1 + 1, 2, none⟩ a2) := by simpa using h2.put 2 a2
 have h4 : WB w c wk #[a0, a1, a2, a3, z4, z5, z6, z7, z8, z9, z10] ((((W.setCell ⟨w.heap.size + 1 + 1, 0, none⟩ a0).setCell ⟨w.heap.size + 1 + 1, 1, none⟩ a1).setCell ⟨w.heap.size + 1 + 1, 2, none⟩ a2).setCell ⟨w.heap.size + 1 + 1, 3, none⟩ a3) := by simpa using h3.put 3 a3
 have h5 : WB w c wk #[a0, a1, a2, a3, a4, z5, z6, z7, z8, z9, z10] (((((W.setCell ⟨w.heap.size + 1 + 1, 0, none⟩ a0).setCell ⟨w.heap.size + 1 + 1, 1, none⟩ a1).setCell ⟨w.heap.size + 1 + 1, 2, none⟩ a2).setCell ⟨w.heap.size + 1 + 1, 3, none⟩ a3).setCell ⟨w.heap.size + 1 + 1, 4, none⟩ a4) := by simpa using h4.put 4 a4
 have h6 : WB w c wk #[a0, a1, a2, a3, a4, a5, z6, z7, z8, z9, z10] ((((((W.setCell ⟨w.heap.size + 1 + 1, 0, none⟩ a0).setCell ⟨w.heap.size + 1 + 1, 1, none⟩ a1).setCell ⟨w.heap.size + 1 + 1, 2, none⟩ a2).setCell ⟨w.heap.size + 1 + 1, 3, none⟩ a3).setCell ⟨w.heap.size + 1 + 1, 4, none⟩ a4).setCell ⟨w.heap.size + 1 + 1, 5, none⟩ a5) := by simpa using h5.put 5 a5
 have h7 : WB w c wk #[a0, a1, a2, a3, a4, a5, a6, z7, z8, z9, z10] (((((((W.setCell ⟨w.heap.size + 1 + 1, 0, none⟩ a0).setCell ⟨w.heap.size + 1 + 1, 1, none⟩ a1).setCell ⟨w.heap.size + 1 + 1, 2, none⟩ a2).setCell ⟨w.heap.size + 1 + 1, 3, none⟩ a3).setCell ⟨w.heap.size + 1 + 1, 4, none⟩ a4).setCell ⟨w.heap.size + 1 + 1, 5, none⟩ a5).setCell ⟨w.heap.size + 1 + 1, 6, none⟩ a6) := by simpa using h6.put 6 a6
 have h8 : WB w c wk #[a0, a1, a2, a3, a4, a5, a6, a7, z8, z9, z10] ((((((((W.setCell ⟨w.heap.size + 1 + 1, 0, none⟩ a0).setCell ⟨w.heap.size + 1 + 1, 1, none⟩ a1).setCell ⟨w.heap.size + 1 + 1, 2, none⟩ a2).setCell ⟨w.heap.size + 1 + 1, 3, none⟩ a3).setCell ⟨w.heap.size + 1 + 1, 4, none⟩ a4).setCell ⟨w.heap.size + 1 + 1, 5, none⟩ a5).setCell ⟨w.heap.size + 1 + 1, 6, none⟩ a6).setCell ⟨w.heap.size + 1 + 1, 7, none⟩ a7) := by simpa using h7.put 7 a7
 have h9 : WB w c wk #[a0, a1, a2, a3, a4, a5, a6, a7, a8, z9, z10] (((((((((W.setCell ⟨w.heap.size + 1 + 1, 0, none⟩ a0).setCell ⟨w.heap.size + 1 + 1, 1, none⟩ a1).setCell ⟨w.heap.size + 1 + 1, 2, none⟩ a2).setCell ⟨w.heap.size + 1 + 1, 3, none⟩ a3).setCell ⟨w.heap.size + 1 + 1, 4, none⟩ a4).setCell ⟨w.heap.size + 1 + 1, 5, none⟩ a5).setCell ⟨w.heap.size + 1 + 1, 6, none⟩ a6).setCell ⟨w.heap.size + 1 + 1, 7, none⟩ a7).setCell ⟨w.heap.size + 1 + 1, 8, none⟩ a8) := by simpa using h8.put 8 a8
 have h10 : WB w c wk #[a0, a1, a2, a3, a4, a5, a6, a7, a8, a9, z10] ((((((((((W.setCell ⟨w.heap.size + 1 + 1, 0, none⟩ a0).setCell ⟨w.heap.size + 1 + 1, 1, none⟩ a1).setCell ⟨w.heap.size + 1 + 1, 2, none⟩ a2).setCell ⟨w.heap.size + 1 + 1, 3, none⟩ a3).setCell ⟨w.heap.size + 1 + 1, 4, none⟩ a4).setCell ⟨w.heap.size + 1 + 1, 5, none⟩ a5).setCell ⟨w.heap.size + 1 + 1, 6, none⟩ a6).setCell ⟨w.heap.size + 1 + 1, 7, none⟩ a7).setCell ⟨w.heap.size + 1 + 1, 8, none⟩ a8).setCell ⟨w.heap.size + 1 + 1, 9, none⟩ a9) := by simpa using h9.put 9 a9
 have h11 : WB w c wk #[a0, a1, a2, a3, a4, a5, a6, a7, a8, a9, a10] (((((((((((W.setCell ⟨w.heap.size + 1 + 1, 0, none⟩ a0).setCell ⟨w.heap.size + 1 + 1, 1, none⟩ a1).setCell ⟨w.heap.size + 1 + 1, 2, none⟩ a2).setCell ⟨w.heap.size + 1 + 1, 3, none⟩ a3).setCell ⟨w.heap.size + 1 + 1, 4, none⟩ a4).setCell ⟨w.heap.size + 1 + 1, 5, none⟩ a5).setCell ⟨w.heap.size + 1 + 1, 6, none⟩ a6).setCell ⟨w.heap.size + 1 + 1, 7, none⟩ a7).setCell ⟨w.heap.size + 1 + 1, 8, none⟩ a8).setCell ⟨w.heap.size + 1 + 1, 9, none⟩ a9).setCell ⟨w.heap.size + 1 + 1, 10, none⟩ a10) := by simpa using h10.put 10 a10
 exact h11
theorem heap_drew {W : World} {g : Nat} {o : Option Obj} (h : W.heap[g]? = o) : W.drew.heap[g]? = o := h
theorem far11 {W : World} {b g t : Nat} {cs : Array Value} (h : W.heap[g]? = some (.cells cs t (0, 0))) (hne : g ≠ b) (a0 a1 a2 a3 a4 a5 a6 a7 a8 a9 a10 : Value) : (((((((((((W.setCell ⟨b, 0, none⟩ a0).setCell ⟨b, 1, none⟩ a1).setCell ⟨b, 2, none⟩ a2).setCell ⟨b, 3, none⟩ a3).setCell ⟨b, 4, none⟩ a4).setCell ⟨b, 5, none⟩ a5).setCell ⟨b, 6, none⟩ a6).setCell ⟨b, 7, none⟩ a7).setCell ⟨b, 8, none⟩ a8).setCell ⟨b, 9, none⟩ a9).setCell ⟨b, 10, none⟩ a10).drew.heap[g]? = some (.cells cs t (0, 0)) := by
 have h1 : (W.setCell ⟨b, 0, none⟩ a0).heap[g]? = some (.cells cs t (0, 0)) := blk_far (p := ⟨b, 0, none⟩) h hne a0
 have h2 : ((W.setCell ⟨b, 0, none⟩ a0).setCell ⟨b, 1, none⟩ a1).heap[g]? = some (.cells cs t (0, 0)) := blk_far (p := ⟨b, 1, none⟩) h1 hne a1
 have h3 : (((W.setCell ⟨b, 0, none⟩ a0).setCell ⟨b, 1, none⟩ a1).setCell ⟨b, 2, none⟩ a2).heap[g]? = some (.cells cs t (0, 0)) := blk_far (p := ⟨b, 2, none⟩) h2 hne a2
 have h4 : ((((W.setCell ⟨b, 0, none⟩ a0).setCell ⟨b, 1, none⟩ a1).setCell ⟨b, 2, none⟩ a2).setCell ⟨b, 3, none⟩ a3).heap[g]? = some (.cells cs t (0, 0)) := blk_far (p := ⟨b, 3, none⟩) h3 hne a3
 have h5 : (((((W.setCell ⟨b, 0, none⟩ a0).setCell ⟨b, 1, none⟩ a1).setCell ⟨b, 2, none⟩ a2).setCell ⟨b, 3, none⟩ a3).setCell ⟨b, 4, none⟩ a4).heap[g]? = some (.cells cs t (0, 0)) := blk_far (p := ⟨b, 4, none⟩) h4 hne a4
 have h6 : ((((((W.setCell ⟨b, 0, none⟩ a0).setCell ⟨b, 1, none⟩ a1).setCell ⟨b, 2, none⟩ a2).setCell ⟨b, 3, none⟩ a3).setCell ⟨b, 4, none⟩ a4).setCell ⟨b, 5, none⟩ a5).heap[g]? = some (.cells cs t (0, 0)) := blk_far (p := ⟨b, 5, none⟩) h5 hne a5
 have h7 : (((((((W.setCell ⟨b, 0, none⟩ a0).setCell ⟨b, 1, none⟩ a1).setCell ⟨b, 2, none⟩ a2).setCell ⟨b, 3, none⟩ a3).setCell ⟨b, 4, none⟩ a4).setCell ⟨b, 5, none⟩ a5).setCell ⟨b, 6, none⟩ a6).heap[g]? = some (.cells cs t (0, 0)) := blk_far (p := ⟨b, 6, none⟩) h6 hne a6
 have h8 : ((((((((W.setCell ⟨b, 0, none⟩ a0).setCell ⟨b, 1, none⟩ a1).setCell ⟨b, 2, none⟩ a2).setCell ⟨b, 3, none⟩ a3).setCell ⟨b, 4, none⟩ a4).setCell ⟨b, 5, none⟩ a5).setCell ⟨b, 6, none⟩ a6).setCell ⟨b, 7, none⟩ a7).heap[g]? = some (.cells cs t (0, 0)) := blk_far (p := ⟨b, 7, none⟩) h7 hne a7
 have h9 : (((((((((W.setCell ⟨b, 0, none⟩ a0).setCell ⟨b, 1, none⟩ a1).setCell ⟨b, 2, none⟩ a2).setCell ⟨b, 3, none⟩ a3).setCell ⟨b, 4, none⟩ a4).setCell ⟨b, 5, none⟩ a5).setCell ⟨b, 6, none⟩ a6).setCell ⟨b, 7, none⟩ a7).setCell ⟨b, 8, none⟩ a8).heap[g]? = some (.cells cs t (0, 0)) := blk_far (p := ⟨b, 8, none⟩) h8 hne a8
 have h10 : ((((((((((W.setCell ⟨b, 0, none⟩ a0).setCell ⟨b, 1, none⟩ a1).setCell ⟨b, 2, none⟩ a2).setCell ⟨b, 3, none⟩ a3).setCell ⟨b, 4, none⟩ a4).setCell ⟨b, 5, none⟩ a5).setCell ⟨b, 6, none⟩ a6).setCell ⟨b, 7, none⟩ a7).setCell ⟨b, 8, none⟩ a8).setCell ⟨b, 9, none⟩ a9).heap[g]? = some (.cells cs t (0, 0)) := blk_far (p := ⟨b, 9, none⟩) h9 hne a9
 have h11 : (((((((((((W.setCell ⟨b, 0, none⟩ a0).setCell ⟨b, 1, none⟩ a1).setCell ⟨b, 2, none⟩ a2).setCell ⟨b, 3, none⟩ a3).setCell ⟨b, 4, none⟩ a4).setCell ⟨b, 5, none⟩ a5).setCell ⟨b, 6, none⟩ a6).setCell ⟨b, 7, none⟩ a7).setCell ⟨b, 8, none⟩ a8).setCell ⟨b, 9, none⟩ a9).setCell ⟨b, 10, none⟩ a10).heap[g]? = some (.cells cs t (0, 0)) := blk_far (p := ⟨b, 10, none⟩) h10 hne a10
 exact heap_drew h11
theorem WB.put11R {w : World} {c : Cf} {wk : Array Value} {W : World} {z : Array Value} (h : WB w c wk z W) {α : Type} {dk : Kd α} {e base : Nat} {v : Value} {xs : List α} (hr : dk.R e W base (fun _ => True) v xs) (he : ∀ q, q ∈ e :: dk.E → q ≠ 76) (a0 a1 a2 a3 a4 a5 a6 a7 a8 a9 a10 : Value) : dk.R e (((((((((((W.setCell ⟨w.heap.size + 1 + 1, 0, none⟩ a0).setCell ⟨w.heap.size + 1 + 1, 1, none⟩ a1).setCell ⟨w.heap.size + 1 + 1, 2, none⟩ a2).setCell ⟨w.heap.size + 1 + 1, 3, none⟩ a3).setCell ⟨w.heap.size + 1 + 1, 4, none⟩ a4).setCell ⟨w.heap.size + 1 + 1, 5, none⟩ a5).setCell ⟨w.heap.size + 1 + 1, 6, none⟩ a6).setCell ⟨w.heap.size + 1 + 1, 7, none⟩ a7).setCell ⟨w.heap.size + 1 + 1, 8, none⟩ a8).setCell ⟨w.heap.size + 1 + 1, 9, none⟩ a9).setCell ⟨w.heap.size + 1 + 1, 10, none⟩ a10) base (fun _ => True) v xs := by
 have h1 := h.put 0 a0
 have r1 := h.putR hr he 0 a0
 have h2 := h1.put 1 a1
 have r2 := h1.putR r1 he 1 a1
 have h3 := h2.put 2 a2
 have r3 := h2.putR r2 he 2 a2
 have h4 := h3.put 3 a3
 have r4 := h3.putR r3 he 3 a3
 have h5 := h4.put 4 a4
 have r5 := h4.putR r4 he 4 a4
 have h6 := h5.put 5 a5
 have r6 := h5.putR r5 he 5 a5
 have h7 := h6.put 6 a6
 have r7 := h6.putR r6 he 6 a6
 have h8 := h7.put 7 a7
 have r8 := h7.putR r7 he 7 a7
 have h9 := h8.put 8 a8
 have r9 := h8.putR r8 he 8 a8
 have h10 := h9.put 9 a9
 have r10 := h9.putR r9 he 9 a9
 have h11 := h10.put 10 a10
 have r11 := h10.putR r10 he 10 a10
 exact r11
attribute [local go_sem] run_store_func
theorem work_step (c : Cf) (t : List S45) (At : Option Addr) (ct : Nat) (m : List Int) (Am : Option Addr) (cm : Nat) (wn d pc sp lk : Int) (f : S66) (st : List S116) (As : Option Addr) (cs_ : Nat) (b : Bool) (x' : Hd) (w : World)
  (hm : Kd.C (Kd.int .u64) w Am m.length m) (hmc : m.length ≤ cm) (hmn : m.length ≤ 1000000) (hs : Kd.C k116 w As st.length st) (hsn : st.length ≤ 1000000)
  (hmay : ∀ W, Below w.heap.size w W → Calls Tryz.prog 68 #[cfV c, .slice At t.length ct, .slice Am m.length cm, .int .i64 wn, .agg #[.int .i64 pc, .slice As st.length cs_, .int .i64 f.f0, .int .i64 f.f1, .int .i64 f.f2, .int .u64 f.f3, .int .u64 f.f4, .int .u64 f.f5, .int .i64 f.f6, .int .i64 sp, .int .i64 lk]] W fun e w' => e = .returned (.bool b) ∧ Below W.heap.size W w')
  (hx : (b = false ∧ x' = ⟨pc, st, f, sp, lk, m, []⟩) ∨ (b = true ∧ ((pc = 0 ∧ ∀ w0, HDoes 76 [] ⟨c, t, At, ct, wn, d, w, w0⟩ ⟨pc, st, f, sp, lk, m, []⟩ x') ∨ (pc = 1 ∧ ∀ w0, HDoes 77 [] ⟨c, t, At, ct, wn, d, w, w0⟩ ⟨pc, st, f, sp, lk, m, []⟩ x') ∨ (pc = 2 ∧ ∀ w0, HDoes 78 [] ⟨c, t, At, ct, wn, d, w, w0⟩ ⟨pc, st, f, sp, lk, m, []⟩ x') ∨ (pc = 3 ∧ ∀ w0, HDoes 78 [] ⟨c, t, At, ct, wn, d, w, w0⟩ ⟨pc, st, f, sp, lk, m, []⟩ x') ∨ (pc = 4 ∧ ∀ w0, HDoes 79 [] ⟨c, t, At, ct, wn, d, w, w0⟩ ⟨pc, st, f, sp, lk, m, []⟩ x') ∨ (pc = 5 ∧ ∀ w0, HDoes 80 [] ⟨c, t, At, ct, wn, d, w, w0⟩ ⟨pc, st, f, sp, lk, m, []⟩ x') ∨ (pc = 6 ∧ ∀ w0, HDoes 81 [] ⟨c, t, At, ct, wn, d, w, w0⟩ ⟨pc, st, f, sp, lk, m, []⟩ x') ∨ (pc = 7 ∧ ∀ w0, HDoes 82 [] ⟨c, t, At, ct, wn, d, w, w0⟩ ⟨pc, st, f, sp, lk, m, []⟩ x') ∨ (pc = 8 ∧ ∀ w0, HDoes 83 [] ⟨c, t, At, ct, wn, d, w, w0⟩ ⟨pc, st, f, sp, lk, m, []⟩ x') ∨ (pc = 9 ∧ ∀ w0, HDoes 84 [] ⟨c, t, At, ct, wn, d, w, w0⟩ ⟨pc, st, f, sp, lk, m, []⟩ x') ∨ (pc = 10 ∧ ∀ w0, HDoes 85 [] ⟨c, t, At, ct, wn, d, w, w0⟩ ⟨pc, st, f, sp, lk, m, []⟩ x') ∨ (pc = 11 ∧ ∀ w0, HDoes 86 [] ⟨c, t, At, ct, wn, d, w, w0⟩ ⟨pc, st, f, sp, lk, m, []⟩ x') ∨ (pc = 12 ∧ ∀ w0, HDoes 87 [] ⟨c, t, At, ct, wn, d, w, w0⟩ ⟨pc, st, f, sp, lk, m, []⟩ x') ∨ (pc = 13 ∧ ∀ w0, HDoes 88 [] ⟨c, t, At, ct, wn, d, w, w0⟩ ⟨pc, st, f, sp, lk, m, []⟩ x') ∨ (pc = 14 ∧ ∀ w0, HDoes 89 [] ⟨c, t, At, ct, wn, d, w, w0⟩ ⟨pc, st, f, sp, lk, m, []⟩ x') ∨ (pc = 15 ∧ ∀ w0, HDoes 90 [] ⟨c, t, At, ct, wn, d, w, w0⟩ ⟨pc, st, f, sp, lk, m, []⟩ x')))) :
  Calls Tryz.prog 60 #[cfV c, .slice At t.length ct, .slice Am m.length cm, .int .i64 wn, .agg #[.int .i64 pc, .slice As st.length cs_, .int .i64 f.f0, .int .i64 f.f1, .int .i64 f.f2, .int .u64 f.f3, .int .u64 f.f4, .int .u64 f.f5, .int .i64 f.f6, .int .i64 sp, .int .i64 lk], .int .u64 d] w fun e w' => ∃ vm vs ve, e = .returned (.tuple #[vm, .agg #[.int .i64 x'.pc, vs, .int .i64 x'.f.f0, .int .i64 x'.f.f1, .int .i64 x'.f.f2, .int .u64 x'.f.f3, .int .u64 x'.f.f4, .int .u64 x'.f.f5, .int .i64 x'.f.f6, .int .i64 x'.sp, .int .i64 x'.lk], ve]) ∧
   (Kd.int .u64).R 38 w' w.heap.size (fun _ => True) vm x'.m ∧ k116.R 116 w' w.heap.size (fun _ => True) vs x'.st ∧ k40.R 40 w' w.heap.size (fun _ => True) ve x'.ev ∧ Below w.heap.size w w' := by
 have HW0 := qQ (WB.start w c #[.int .i64 pc, .slice As st.length cs_, .int .i64 f.f0, .int .i64 f.f1, .int .i64 f.f2, .int .u64 f.f3, .int .u64 f.f4, .int .u64 f.f5, .int .i64 f.f6, .int .i64 sp, .int .i64 lk] #[.int .i64 0, .slice none 0 0, .int .i64 0, .int .i64 0, .int .i64 0, .int .u64 0, .int .u64 0, .int .u64 0, .int .i64 0, .int .i64 0, .int .i64 0])
 have HM := qQ hm
 have HMC := qQ hmc
 have HMN := qQ hmn
 have HST := qQ hs
 have HSN := qQ hsn
 have HMAY := qQ hmay
 have HX := qQ hx
 clear hm hmc hmn hs hsn hmay hx
 go_enter Tryz.func60, Tryz.ntmps60
 go_wp2
 refine zS 10 [] (fun W' => WB w c #[.int .i64 pc, .slice As st.length cs_, .int .i64 f.f0, .int .i64 f.f1, .int .i64 f.f2, .int .u64 f.f3, .int .u64 f.f4, .int .u64 f.f5, .int .i64 f.f6, .int .i64 sp, .int .i64 lk] #[.int .i64 0, .slice none 0 0, .int .i64 0, .int .i64 0, .int .i64 0, .int .u64 0, .int .u64 0, .int .u64 0, .int .i64 0, .int .i64 0, .int .i64 0] W') HW0.o.drew fun hHeld => ?_
 refine zT 0 1 17 ?_ (hy := by intro w' hSw; have r0 := wbCells hSw; go_simp; with_reducible rfl)
 refine zT 1 3 18 ?_ (hy := by intro w' hSw; have r0 := wbCells hSw; go_simp; with_reducible rfl)
 refine zY 2 7 19 ?_
 refine zY 3 15 20 ?_
 refine zY 5 47 22 ?_
 refine zY 6 111 23 ?_
 refine zO 4 127 21 fun K hK => ?_
 go_simp
 refine (clone54' Am cm m _ (Kd.C_below HM.o HW0.o.drew.hb) HMN.o).mono ?_
 rintro e w1 ⟨u, rfl, hr, hb⟩
 obtain ⟨A5, c5, eo⟩ := Kd.R_slice hr
 subst eo
 have HW1 := qQ (HW0.o.drew.below hb)
 have HR1 := qQ (Kd.R_lower hr HW0.o.drew.hb.size)
 clear hr hb
 refine hK.out _ _ HW1.o (fun hHeld => ?_)
 refine zY 7 255 24 ?_
 refine zO 8 511 25 fun K hK => ?_
 go_simp
 refine hK.out _ _ (HW1.o.below (below_alloc (Below.refl _ _) _)) (fun hHeld => ?_)
 refine zY 9 1023 15 ?_
 refine zD ?_
 have HW2 := qQ (HW1.o.below (below_alloc (Below.refl _ _) (handO (⟨c, t, At, ct, wn, d, w, w⟩ : HK) (⟨pc, st, f, sp, lk, m, []⟩ : Hd) (.slice As st.length cs_) (.slice A5 m.length c5) (.slice none 0 0))))
 have HH2 := qQ (blk_new w1 (handO (⟨c, t, At, ct, wn, d, w, w⟩ : HK) (⟨pc, st, f, sp, lk, m, []⟩ : Hd) (.slice As st.length cs_) (.slice A5 m.length c5) (.slice none 0 0)))
 have HR2 := qQ (Kd.R_alloc HR1.o (handO (⟨c, t, At, ct, wn, d, w, w⟩ : HK) (⟨pc, st, f, sp, lk, m, []⟩ : Hd) (.slice As st.length cs_) (.slice A5 m.length c5) (.slice none 0 0)))
 have hgg := HW1.o.lt
 generalize w1.alloc (handO (⟨c, t, At, ct, wn, d, w, w⟩ : HK) (⟨pc, st, f, sp, lk, m, []⟩ : Hd) (.slice As st.length cs_) (.slice A5 m.length c5) (.slice none 0 0)) = w2 at HW2 HH2 HR2 ⊢
 generalize w1.heap.size = g at HH2 hgg ⊢
 have HG := qQ hgg
 clear hHeld hgg HW1 HR1 HW0
 obtain ⟨r0, r1, r2, r3, r4, r5, r6, r7, r8, r9, r10, r11, r12, r13, r14⟩ := wbCells HW2.o
 rcases HX.o with ⟨rfl, rfl⟩ | ⟨rfl, hd⟩
 ·clear HX
  go_wp2_with (first | (go_at_call 57; with_reducible refine (clone57' As cs_ st _ (Kd.C_below HST.o HW2.o.hb) HSN.o).mono ?_; rintro e w3 ⟨u, rfl, hr, hb⟩; obtain ⟨A6, c6, eo⟩ := Kd.R_slice hr; subst eo; have HW3 := qQ (HW2.o.below hb); have HH3 := qQ (blk_below HH2.o hb); have HR3 := qQ (Kd.R_below HR2.o hb); have HS3 := qQ (Kd.R_lower hr HW2.o.hb.size); clear hr hb r0 r1 r2 r3 r4 r5 r6 r7 r8 r9 r10 r11 r12 r13 r14; have g1 := (blk_cell HH3.o 1).trans rfl; have gz := fun i => blk_frozen HH3.o i; have HW4 := qQ (HW3.o.far (p := ⟨g, 1, none⟩) HG.o (.slice A6 st.length c6)); obtain ⟨r0, r1, r2, r3, r4, r5, r6, r7, r8, r9, r10, r11, r12, r13, r14⟩ := wbCells HW4.o) | (go_at_call 68; (with_reducible refine (HMAY.o _ HW4.o.hb).mono ?_); rintro e w5 ⟨rfl, hb⟩; have HW5 := qQ (HW4.o.below hb); have hh4 : (w3.setCell ⟨g, 1, none⟩ (.slice A6 st.length c6)).heap[g]? = some (handO (⟨c, t, At, ct, wn, d, w, w⟩ : HK) (⟨pc, st, f, sp, lk, m, []⟩ : Hd) (.slice A6 st.length c6) (.slice A5 m.length c5) (.slice none 0 0)) := (by simpa using blk_set HH3.o 1 (.slice A6 st.length c6)); have HH5 := qQ (blk_below hh4 hb); have HR5 := qQ (Kd.R_below (Kd.R_set HR3.o HH3.o (fun q hq => by rcases List.mem_cons.1 hq with rfl | hq; decide; cases hq) 1 (.slice A6 st.length c6)) hb); have HS5 := qQ (Kd.R_below (Kd.R_set HS3.o HH3.o (fun q hq => by rcases List.mem_cons.1 hq with rfl | hq; decide; cases hq) 1 (.slice A6 st.length c6)) hb); clear hh4 hb r0 r1 r2 r3 r4 r5 r6 r7 r8 r9 r10 r11 r12 r13 r14 g1 gz))
  refine zS 11 [9] (fun W' => W'.heap[g]? = some (handO (⟨c, t, At, ct, wn, d, w, w⟩ : HK) (⟨pc, st, f, sp, lk, m, []⟩ : Hd) (.slice A6 st.length c6) (.slice A5 m.length c5) (.slice none 0 0))) HH5.o fun hHeld => ?_
  refine zY 0 1 40 ?_
  refine zY 1 3 41 ?_
  refine zY 2 7 42 ?_
  refine zT 3 15 43 ?_ (hy := zy5)
  refine zY 4 31 44 ?_
  refine zY 5 63 45 ?_
  refine zY 6 127 46 ?_
  refine zT 7 255 47 ?_ (hy := zy5)
  refine zY 8 511 12 ?_
  refine zL 9 1023 fun K hK => ?_
  have y0 := (blk_cell HW5.o.h2 0).trans rfl
  have y1 := (blk_cell HW5.o.h2 1).trans rfl
  have y2 := (blk_cell HW5.o.h2 2).trans rfl
  have y3 := (blk_cell HW5.o.h2 3).trans rfl
  have y4 := (blk_cell HW5.o.h2 4).trans rfl
  have y5 := (blk_cell HW5.o.h2 5).trans rfl
  have y6 := (blk_cell HW5.o.h2 6).trans rfl
  have y7 := (blk_cell HW5.o.h2 7).trans rfl
  have y8 := (blk_cell HW5.o.h2 8).trans rfl
  have y9 := (blk_cell HW5.o.h2 9).trans rfl
  have y10 := (blk_cell HW5.o.h2 10).trans rfl
  have yz := fun i => blk_frozen HW5.o.h2 i
  go_simp
  refine hK.out _ _ ?_
  refine zY 10 2047 14 ?_
  refine zD ?_
  have P11 := (HW5.o.put11 (.int .i64 pc) (.slice A6 st.length c6) (.int .i64 f.f0) (.int .i64 f.f1) (.int .i64 f.f2) (.int .u64 f.f3) (.int .u64 f.f4) (.int .u64 f.f5) (.int .i64 f.f6) (.int .i64 sp) (.int .i64 lk)).drew
  have Qm := Kd.R_drew (HW5.o.put11R HR5.o (fun q hq => by rcases List.mem_cons.1 hq with rfl | hq; decide; cases hq) (.int .i64 pc) (.slice A6 st.length c6) (.int .i64 f.f0) (.int .i64 f.f1) (.int .i64 f.f2) (.int .u64 f.f3) (.int .u64 f.f4) (.int .u64 f.f5) (.int .i64 f.f6) (.int .i64 sp) (.int .i64 lk))
  have Qs := Kd.R_drew (HW5.o.put11R HS5.o (fun q hq => by rcases List.mem_cons.1 hq with rfl | hq; decide; cases hq) (.int .i64 pc) (.slice A6 st.length c6) (.int .i64 f.f0) (.int .i64 f.f1) (.int .i64 f.f2) (.int .u64 f.f3) (.int .u64 f.f4) (.int .u64 f.f5) (.int .i64 f.f6) (.int .i64 sp) (.int .i64 lk))
  have Qe := Kd.R_drew (HW5.o.put11R (Kd.R_nil k40 40 w5 w.heap.size (fun _ => True)) (fun q hq => by rcases List.mem_cons.1 hq with rfl | hq; decide; cases hq) (.int .i64 pc) (.slice A6 st.length c6) (.int .i64 f.f0) (.int .i64 f.f1) (.int .i64 f.f2) (.int .u64 f.f3) (.int .u64 f.f4) (.int .u64 f.f5) (.int .i64 f.f6) (.int .i64 sp) (.int .i64 lk))
  clear hHeld y0 y1 y2 y3 y4 y5 y6 y7 y8 y9 y10 yz
  go_wp2
  refine bodyPost_ret (results_list (rs := [.tmp 12, .cell 13 76, .tmp 14]) rfl (by simp) (.tmp (.cell (w.heap.size + 1 + 1) 76 #[.int .i64 pc, .slice A6 st.length c6, .int .i64 f.f0, .int .i64 f.f1, .int .i64 f.f2, .int .u64 f.f3, .int .u64 f.f4, .int .u64 f.f5, .int .i64 f.f6, .int .i64 sp, .int .i64 lk] (0, 0) _ rfl P11.h2 Tryz.underlying76 rfl (by kernel_rfl) (.tmp .nil)))) rfl ?_
  exact ⟨_, _, _, rfl, Qm, Qs, Qe, P11.hb⟩
 ·clear HX
  obtain ⟨fid, hp0, hp1, hen, hfu, hd⟩ : ∃ fid : Nat, 0 ≤ pc ∧ pc < 16 ∧ Enters Tryz.prog fid ∧ (#[.func (.func 76) #[.pointer (some ⟨g, 0, none⟩)] #[], .func (.func 77) #[.pointer (some ⟨g, 0, none⟩)] #[], .func (.func 78) #[.pointer (some ⟨g, 0, none⟩)] #[], .func (.func 78) #[.pointer (some ⟨g, 0, none⟩)] #[], .func (.func 79) #[.pointer (some ⟨g, 0, none⟩)] #[], .func (.func 80) #[.pointer (some ⟨g, 0, none⟩)] #[], .func (.func 81) #[.pointer (some ⟨g, 0, none⟩)] #[], .func (.func 82) #[.pointer (some ⟨g, 0, none⟩)] #[], .func (.func 83) #[.pointer (some ⟨g, 0, none⟩)] #[], .func (.func 84) #[.pointer (some ⟨g, 0, none⟩)] #[], .func (.func 85) #[.pointer (some ⟨g, 0, none⟩)] #[], .func (.func 86) #[.pointer (some ⟨g, 0, none⟩)] #[], .func (.func 87) #[.pointer (some ⟨g, 0, none⟩)] #[], .func (.func 88) #[.pointer (some ⟨g, 0, none⟩)] #[], .func (.func 89) #[.pointer (some ⟨g, 0, none⟩)] #[], .func (.func 90) #[.pointer (some ⟨g, 0, none⟩)] #[]] : Array Value)[pc.toNat]? = some (.func (.func fid) #[.pointer (some ⟨g, 0, none⟩)] #[]) ∧ ∀ w0, HDoes fid [] ⟨c, t, At, ct, wn, d, w, w0⟩ ⟨pc, st, f, sp, lk, m, []⟩ x' := by
   rcases hd with ⟨rfl, h⟩ | ⟨rfl, h⟩ | ⟨rfl, h⟩ | ⟨rfl, h⟩ | ⟨rfl, h⟩ | ⟨rfl, h⟩ | ⟨rfl, h⟩ | ⟨rfl, h⟩ | ⟨rfl, h⟩ | ⟨rfl, h⟩ | ⟨rfl, h⟩ | ⟨rfl, h⟩ | ⟨rfl, h⟩ | ⟨rfl, h⟩ | ⟨rfl, h⟩ | ⟨rfl, h⟩
   ·exact ⟨76, by decide, by decide, enters_of Tryz.func76 (by kernel_rfl) rfl, rfl, h⟩
   ·exact ⟨77, by decide, by decide, enters_of Tryz.func77 (by kernel_rfl) rfl, rfl, h⟩
   ·exact ⟨78, by decide, by decide, enters_of Tryz.func78 (by kernel_rfl) rfl, rfl, h⟩
   ·exact ⟨78, by decide, by decide, enters_of Tryz.func78 (by kernel_rfl) rfl, rfl, h⟩
   ·exact ⟨79, by decide, by decide, enters_of Tryz.func79 (by kernel_rfl) rfl, rfl, h⟩
   ·exact ⟨80, by decide, by decide, enters_of Tryz.func80 (by kernel_rfl) rfl, rfl, h⟩
   ·exact ⟨81, by decide, by decide, enters_of Tryz.func81 (by kernel_rfl) rfl, rfl, h⟩
   ·exact ⟨82, by decide, by decide, enters_of Tryz.func82 (by kernel_rfl) rfl, rfl, h⟩
   ·exact ⟨83, by decide, by decide, enters_of Tryz.func83 (by kernel_rfl) rfl, rfl, h⟩
   ·exact ⟨84, by decide, by decide, enters_of Tryz.func84 (by kernel_rfl) rfl, rfl, h⟩
   ·exact ⟨85, by decide, by decide, enters_of Tryz.func85 (by kernel_rfl) rfl, rfl, h⟩
   ·exact ⟨86, by decide, by decide, enters_of Tryz.func86 (by kernel_rfl) rfl, rfl, h⟩
   ·exact ⟨87, by decide, by decide, enters_of Tryz.func87 (by kernel_rfl) rfl, rfl, h⟩
   ·exact ⟨88, by decide, by decide, enters_of Tryz.func88 (by kernel_rfl) rfl, rfl, h⟩
   ·exact ⟨89, by decide, by decide, enters_of Tryz.func89 (by kernel_rfl) rfl, rfl, h⟩
   ·exact ⟨90, by decide, by decide, enters_of Tryz.func90 (by kernel_rfl) rfl, rfl, h⟩
  have HFU := qQ hfu
  have HEN := qQ hen
  have HD := qQ hd
  have een := fun args W => HEN.o args W
  clear hfu hen hd
  go_wp2_with (first | (go_at_call 57; with_reducible refine (clone57' As cs_ st _ (Kd.C_below HST.o HW2.o.hb) HSN.o).mono ?_; rintro e w3 ⟨u, rfl, hr, hb⟩; obtain ⟨A6, c6, eo⟩ := Kd.R_slice hr; subst eo; have HW3 := qQ (HW2.o.below hb); have HH3 := qQ (blk_below HH2.o hb); have HR3 := qQ (Kd.R_below HR2.o hb); have HS3 := qQ (Kd.R_lower hr HW2.o.hb.size); clear hr hb r0 r1 r2 r3 r4 r5 r6 r7 r8 r9 r10 r11 r12 r13 r14; have g1 := (blk_cell HH3.o 1).trans rfl; have gz := fun i => blk_frozen HH3.o i; have HW4 := qQ (HW3.o.far (p := ⟨g, 1, none⟩) HG.o (.slice A6 st.length c6)); obtain ⟨r0, r1, r2, r3, r4, r5, r6, r7, r8, r9, r10, r11, r12, r13, r14⟩ := wbCells HW4.o) | (go_at_call 68; (with_reducible refine (HMAY.o _ HW4.o.hb).mono ?_); rintro e w5 ⟨rfl, hb⟩; have HW5 := qQ (HW4.o.below hb); have hh4 : (w3.setCell ⟨g, 1, none⟩ (.slice A6 st.length c6)).heap[g]? = some (handO (⟨c, t, At, ct, wn, d, w, w⟩ : HK) (⟨pc, st, f, sp, lk, m, []⟩ : Hd) (.slice A6 st.length c6) (.slice A5 m.length c5) (.slice none 0 0)) := (by simpa using blk_set HH3.o 1 (.slice A6 st.length c6)); have HH5 := qQ (blk_below hh4 hb); have HR5 := qQ (Kd.R_below (Kd.R_set HR3.o HH3.o (fun q hq => by rcases List.mem_cons.1 hq with rfl | hq; decide; cases hq) 1 (.slice A6 st.length c6)) hb); have HS5 := qQ (Kd.R_below (Kd.R_set HS3.o HH3.o (fun q hq => by rcases List.mem_cons.1 hq with rfl | hq; decide; cases hq) 1 (.slice A6 st.length c6)) hb); clear hh4 hb r0 r1 r2 r3 r4 r5 r6 r7 r8 r9 r10 r11 r12 r13 r14 g1 gz; have HW6 := qQ (HW5.o.below (below_alloc (Below.refl _ _) (.cells #[.func (.func 76) #[.pointer (some ⟨g, 0, none⟩)] #[], .func (.func 77) #[.pointer (some ⟨g, 0, none⟩)] #[], .func (.func 78) #[.pointer (some ⟨g, 0, none⟩)] #[], .func (.func 78) #[.pointer (some ⟨g, 0, none⟩)] #[], .func (.func 79) #[.pointer (some ⟨g, 0, none⟩)] #[], .func (.func 80) #[.pointer (some ⟨g, 0, none⟩)] #[], .func (.func 81) #[.pointer (some ⟨g, 0, none⟩)] #[], .func (.func 82) #[.pointer (some ⟨g, 0, none⟩)] #[], .func (.func 83) #[.pointer (some ⟨g, 0, none⟩)] #[], .func (.func 84) #[.pointer (some ⟨g, 0, none⟩)] #[], .func (.func 85) #[.pointer (some ⟨g, 0, none⟩)] #[], .func (.func 86) #[.pointer (some ⟨g, 0, none⟩)] #[], .func (.func 87) #[.pointer (some ⟨g, 0, none⟩)] #[], .func (.func 88) #[.pointer (some ⟨g, 0, none⟩)] #[], .func (.func 89) #[.pointer (some ⟨g, 0, none⟩)] #[], .func (.func 90) #[.pointer (some ⟨g, 0, none⟩)] #[]] 136))); have HH6 := qQ (blk_alloc HH5.o (.cells #[.func (.func 76) #[.pointer (some ⟨g, 0, none⟩)] #[], .func (.func 77) #[.pointer (some ⟨g, 0, none⟩)] #[], .func (.func 78) #[.pointer (some ⟨g, 0, none⟩)] #[], .func (.func 78) #[.pointer (some ⟨g, 0, none⟩)] #[], .func (.func 79) #[.pointer (some ⟨g, 0, none⟩)] #[], .func (.func 80) #[.pointer (some ⟨g, 0, none⟩)] #[], .func (.func 81) #[.pointer (some ⟨g, 0, none⟩)] #[], .func (.func 82) #[.pointer (some ⟨g, 0, none⟩)] #[], .func (.func 83) #[.pointer (some ⟨g, 0, none⟩)] #[], .func (.func 84) #[.pointer (some ⟨g, 0, none⟩)] #[], .func (.func 85) #[.pointer (some ⟨g, 0, none⟩)] #[], .func (.func 86) #[.pointer (some ⟨g, 0, none⟩)] #[], .func (.func 87) #[.pointer (some ⟨g, 0, none⟩)] #[], .func (.func 88) #[.pointer (some ⟨g, 0, none⟩)] #[], .func (.func 89) #[.pointer (some ⟨g, 0, none⟩)] #[], .func (.func 90) #[.pointer (some ⟨g, 0, none⟩)] #[]] 136)); have HR6 := qQ (Kd.R_alloc HR5.o (.cells #[.func (.func 76) #[.pointer (some ⟨g, 0, none⟩)] #[], .func (.func 77) #[.pointer (some ⟨g, 0, none⟩)] #[], .func (.func 78) #[.pointer (some ⟨g, 0, none⟩)] #[], .func (.func 78) #[.pointer (some ⟨g, 0, none⟩)] #[], .func (.func 79) #[.pointer (some ⟨g, 0, none⟩)] #[], .func (.func 80) #[.pointer (some ⟨g, 0, none⟩)] #[], .func (.func 81) #[.pointer (some ⟨g, 0, none⟩)] #[], .func (.func 82) #[.pointer (some ⟨g, 0, none⟩)] #[], .func (.func 83) #[.pointer (some ⟨g, 0, none⟩)] #[], .func (.func 84) #[.pointer (some ⟨g, 0, none⟩)] #[], .func (.func 85) #[.pointer (some ⟨g, 0, none⟩)] #[], .func (.func 86) #[.pointer (some ⟨g, 0, none⟩)] #[], .func (.func 87) #[.pointer (some ⟨g, 0, none⟩)] #[], .func (.func 88) #[.pointer (some ⟨g, 0, none⟩)] #[], .func (.func 89) #[.pointer (some ⟨g, 0, none⟩)] #[], .func (.func 90) #[.pointer (some ⟨g, 0, none⟩)] #[]] 136)); have HS6 := qQ (Kd.R_alloc HS5.o (.cells #[.func (.func 76) #[.pointer (some ⟨g, 0, none⟩)] #[], .func (.func 77) #[.pointer (some ⟨g, 0, none⟩)] #[], .func (.func 78) #[.pointer (some ⟨g, 0, none⟩)] #[], .func (.func 78) #[.pointer (some ⟨g, 0, none⟩)] #[], .func (.func 79) #[.pointer (some ⟨g, 0, none⟩)] #[], .func (.func 80) #[.pointer (some ⟨g, 0, none⟩)] #[], .func (.func 81) #[.pointer (some ⟨g, 0, none⟩)] #[], .func (.func 82) #[.pointer (some ⟨g, 0, none⟩)] #[], .func (.func 83) #[.pointer (some ⟨g, 0, none⟩)] #[], .func (.func 84) #[.pointer (some ⟨g, 0, none⟩)] #[], .func (.func 85) #[.pointer (some ⟨g, 0, none⟩)] #[], .func (.func 86) #[.pointer (some ⟨g, 0, none⟩)] #[], .func (.func 87) #[.pointer (some ⟨g, 0, none⟩)] #[], .func (.func 88) #[.pointer (some ⟨g, 0, none⟩)] #[], .func (.func 89) #[.pointer (some ⟨g, 0, none⟩)] #[], .func (.func 90) #[.pointer (some ⟨g, 0, none⟩)] #[]] 136)); have b := (blk_cell (blk_new w5 (.cells #[.func (.func 76) #[.pointer (some ⟨g, 0, none⟩)] #[], .func (.func 77) #[.pointer (some ⟨g, 0, none⟩)] #[], .func (.func 78) #[.pointer (some ⟨g, 0, none⟩)] #[], .func (.func 78) #[.pointer (some ⟨g, 0, none⟩)] #[], .func (.func 79) #[.pointer (some ⟨g, 0, none⟩)] #[], .func (.func 80) #[.pointer (some ⟨g, 0, none⟩)] #[], .func (.func 81) #[.pointer (some ⟨g, 0, none⟩)] #[], .func (.func 82) #[.pointer (some ⟨g, 0, none⟩)] #[], .func (.func 83) #[.pointer (some ⟨g, 0, none⟩)] #[], .func (.func 84) #[.pointer (some ⟨g, 0, none⟩)] #[], .func (.func 85) #[.pointer (some ⟨g, 0, none⟩)] #[], .func (.func 86) #[.pointer (some ⟨g, 0, none⟩)] #[], .func (.func 87) #[.pointer (some ⟨g, 0, none⟩)] #[], .func (.func 88) #[.pointer (some ⟨g, 0, none⟩)] #[], .func (.func 89) #[.pointer (some ⟨g, 0, none⟩)] #[], .func (.func 90) #[.pointer (some ⟨g, 0, none⟩)] #[]] 136)) pc.toNat).trans HFU.o; have a0 : (w5.alloc (.cells #[.nilFunc, .nilFunc, .nilFunc, .nilFunc, .nilFunc, .nilFunc, .nilFunc, .nilFunc, .nilFunc, .nilFunc, .nilFunc, .nilFunc, .nilFunc, .nilFunc, .nilFunc, .nilFunc] 136)).cell? ⟨w5.heap.size, 0, none⟩ = some .nilFunc := (by simp); have a1 : (w5.alloc (.cells #[.nilFunc, .nilFunc, .nilFunc, .nilFunc, .nilFunc, .nilFunc, .nilFunc, .nilFunc, .nilFunc, .nilFunc, .nilFunc, .nilFunc, .nilFunc, .nilFunc, .nilFunc, .nilFunc] 136)).cell? ⟨w5.heap.size, 1, none⟩ = some .nilFunc := (by simp); have a2 : (w5.alloc (.cells #[.nilFunc, .nilFunc, .nilFunc, .nilFunc, .nilFunc, .nilFunc, .nilFunc, .nilFunc, .nilFunc, .nilFunc, .nilFunc, .nilFunc, .nilFunc, .nilFunc, .nilFunc, .nilFunc] 136)).cell? ⟨w5.heap.size, 2, none⟩ = some .nilFunc := (by simp); have a3 : (w5.alloc (.cells #[.nilFunc, .nilFunc, .nilFunc, .nilFunc, .nilFunc, .nilFunc, .nilFunc, .nilFunc, .nilFunc, .nilFunc, .nilFunc, .nilFunc, .nilFunc, .nilFunc, .nilFunc, .nilFunc] 136)).cell? ⟨w5.heap.size, 3, none⟩ = some .nilFunc := (by simp); have a4 : (w5.alloc (.cells #[.nilFunc, .nilFunc, .nilFunc, .nilFunc, .nilFunc, .nilFunc, .nilFunc, .nilFunc, .nilFunc, .nilFunc, .nilFunc, .nilFunc, .nilFunc, .nilFunc, .nilFunc, .nilFunc] 136)).cell? ⟨w5.heap.size, 4, none⟩ = some .nilFunc := (by simp); have a5 : (w5.alloc (.cells #[.nilFunc, .nilFunc, .nilFunc, .nilFunc, .nilFunc, .nilFunc, .nilFunc, .nilFunc, .nilFunc, .nilFunc, .nilFunc, .nilFunc, .nilFunc, .nilFunc, .nilFunc, .nilFunc] 136)).cell? ⟨w5.heap.size, 5, none⟩ = some .nilFunc := (by simp); have a6 : (w5.alloc (.cells #[.nilFunc, .nilFunc, .nilFunc, .nilFunc, .nilFunc, .nilFunc, .nilFunc, .nilFunc, .nilFunc, .nilFunc, .nilFunc, .nilFunc, .nilFunc, .nilFunc, .nilFunc, .nilFunc] 136)).cell? ⟨w5.heap.size, 6, none⟩ = some .nilFunc := (by simp); have a7 : (w5.alloc (.cells #[.nilFunc, .nilFunc, .nilFunc, .nilFunc, .nilFunc, .nilFunc, .nilFunc, .nilFunc, .nilFunc, .nilFunc, .nilFunc, .nilFunc, .nilFunc, .nilFunc, .nilFunc, .nilFunc] 136)).cell? ⟨w5.heap.size, 7, none⟩ = some .nilFunc := (by simp); have a8 : (w5.alloc (.cells #[.nilFunc, .nilFunc, .nilFunc, .nilFunc, .nilFunc, .nilFunc, .nilFunc, .nilFunc, .nilFunc, .nilFunc, .nilFunc, .nilFunc, .nilFunc, .nilFunc, .nilFunc, .nilFunc] 136)).cell? ⟨w5.heap.size, 8, none⟩ = some .nilFunc := (by simp); have a9 : (w5.alloc (.cells #[.nilFunc, .nilFunc, .nilFunc, .nilFunc, .nilFunc, .nilFunc, .nilFunc, .nilFunc, .nilFunc, .nilFunc, .nilFunc, .nilFunc, .nilFunc, .nilFunc, .nilFunc, .nilFunc] 136)).cell? ⟨w5.heap.size, 9, none⟩ = some .nilFunc := (by simp); have a10 : (w5.alloc (.cells #[.nilFunc, .nilFunc, .nilFunc, .nilFunc, .nilFunc, .nilFunc, .nilFunc, .nilFunc, .nilFunc, .nilFunc, .nilFunc, .nilFunc, .nilFunc, .nilFunc, .nilFunc, .nilFunc] 136)).cell? ⟨w5.heap.size, 10, none⟩ = some .nilFunc := (by simp); have a11 : (w5.alloc (.cells #[.nilFunc, .nilFunc, .nilFunc, .nilFunc, .nilFunc, .nilFunc, .nilFunc, .nilFunc, .nilFunc, .nilFunc, .nilFunc, .nilFunc, .nilFunc, .nilFunc, .nilFunc, .nilFunc] 136)).cell? ⟨w5.heap.size, 11, none⟩ = some .nilFunc := (by simp); have a12 : (w5.alloc (.cells #[.nilFunc, .nilFunc, .nilFunc, .nilFunc, .nilFunc, .nilFunc, .nilFunc, .nilFunc, .nilFunc, .nilFunc, .nilFunc, .nilFunc, .nilFunc, .nilFunc, .nilFunc, .nilFunc] 136)).cell? ⟨w5.heap.size, 12, none⟩ = some .nilFunc := (by simp); have a13 : (w5.alloc (.cells #[.nilFunc, .nilFunc, .nilFunc, .nilFunc, .nilFunc, .nilFunc, .nilFunc, .nilFunc, .nilFunc, .nilFunc, .nilFunc, .nilFunc, .nilFunc, .nilFunc, .nilFunc, .nilFunc] 136)).cell? ⟨w5.heap.size, 13, none⟩ = some .nilFunc := (by simp); have a14 : (w5.alloc (.cells #[.nilFunc, .nilFunc, .nilFunc, .nilFunc, .nilFunc, .nilFunc, .nilFunc, .nilFunc, .nilFunc, .nilFunc, .nilFunc, .nilFunc, .nilFunc, .nilFunc, .nilFunc, .nilFunc] 136)).cell? ⟨w5.heap.size, 14, none⟩ = some .nilFunc := (by simp); have a15 : (w5.alloc (.cells #[.nilFunc, .nilFunc, .nilFunc, .nilFunc, .nilFunc, .nilFunc, .nilFunc, .nilFunc, .nilFunc, .nilFunc, .nilFunc, .nilFunc, .nilFunc, .nilFunc, .nilFunc, .nilFunc] 136)).cell? ⟨w5.heap.size, 15, none⟩ = some .nilFunc := (by simp); have a16 : ∀ i, (w5.alloc (.cells #[.nilFunc, .nilFunc, .nilFunc, .nilFunc, .nilFunc, .nilFunc, .nilFunc, .nilFunc, .nilFunc, .nilFunc, .nilFunc, .nilFunc, .nilFunc, .nilFunc, .nilFunc, .nilFunc] 136)).frozen? ⟨w5.heap.size, i, none⟩ = false := fun i => (by simp); have r4 := (blk_cell HW6.o.h1 0).trans rfl))
  have hs6 : HSt ⟨c, t, At, ct, wn, d, w, (w5.alloc (.cells #[.func (.func 76) #[.pointer (some ⟨g, 0, none⟩)] #[], .func (.func 77) #[.pointer (some ⟨g, 0, none⟩)] #[], .func (.func 78) #[.pointer (some ⟨g, 0, none⟩)] #[], .func (.func 78) #[.pointer (some ⟨g, 0, none⟩)] #[], .func (.func 79) #[.pointer (some ⟨g, 0, none⟩)] #[], .func (.func 80) #[.pointer (some ⟨g, 0, none⟩)] #[], .func (.func 81) #[.pointer (some ⟨g, 0, none⟩)] #[], .func (.func 82) #[.pointer (some ⟨g, 0, none⟩)] #[], .func (.func 83) #[.pointer (some ⟨g, 0, none⟩)] #[], .func (.func 84) #[.pointer (some ⟨g, 0, none⟩)] #[], .func (.func 85) #[.pointer (some ⟨g, 0, none⟩)] #[], .func (.func 86) #[.pointer (some ⟨g, 0, none⟩)] #[], .func (.func 87) #[.pointer (some ⟨g, 0, none⟩)] #[], .func (.func 88) #[.pointer (some ⟨g, 0, none⟩)] #[], .func (.func 89) #[.pointer (some ⟨g, 0, none⟩)] #[], .func (.func 90) #[.pointer (some ⟨g, 0, none⟩)] #[]] 136))⟩ (w5.alloc (.cells #[.func (.func 76) #[.pointer (some ⟨g, 0, none⟩)] #[], .func (.func 77) #[.pointer (some ⟨g, 0, none⟩)] #[], .func (.func 78) #[.pointer (some ⟨g, 0, none⟩)] #[], .func (.func 78) #[.pointer (some ⟨g, 0, none⟩)] #[], .func (.func 79) #[.pointer (some ⟨g, 0, none⟩)] #[], .func (.func 80) #[.pointer (some ⟨g, 0, none⟩)] #[], .func (.func 81) #[.pointer (some ⟨g, 0, none⟩)] #[], .func (.func 82) #[.pointer (some ⟨g, 0, none⟩)] #[], .func (.func 83) #[.pointer (some ⟨g, 0, none⟩)] #[], .func (.func 84) #[.pointer (some ⟨g, 0, none⟩)] #[], .func (.func 85) #[.pointer (some ⟨g, 0, none⟩)] #[], .func (.func 86) #[.pointer (some ⟨g, 0, none⟩)] #[], .func (.func 87) #[.pointer (some ⟨g, 0, none⟩)] #[], .func (.func 88) #[.pointer (some ⟨g, 0, none⟩)] #[], .func (.func 89) #[.pointer (some ⟨g, 0, none⟩)] #[], .func (.func 90) #[.pointer (some ⟨g, 0, none⟩)] #[]] 136)) (.slice none 0 0) g ⟨pc, st, f, sp, lk, m, []⟩ (.slice A6 st.length c6) (.slice A5 m.length c5) (.slice none 0 0) (w5.alloc (.cells #[.func (.func 76) #[.pointer (some ⟨g, 0, none⟩)] #[], .func (.func 77) #[.pointer (some ⟨g, 0, none⟩)] #[], .func (.func 78) #[.pointer (some ⟨g, 0, none⟩)] #[], .func (.func 78) #[.pointer (some ⟨g, 0, none⟩)] #[], .func (.func 79) #[.pointer (some ⟨g, 0, none⟩)] #[], .func (.func 80) #[.pointer (some ⟨g, 0, none⟩)] #[], .func (.func 81) #[.pointer (some ⟨g, 0, none⟩)] #[], .func (.func 82) #[.pointer (some ⟨g, 0, none⟩)] #[], .func (.func 83) #[.pointer (some ⟨g, 0, none⟩)] #[], .func (.func 84) #[.pointer (some ⟨g, 0, none⟩)] #[], .func (.func 85) #[.pointer (some ⟨g, 0, none⟩)] #[], .func (.func 86) #[.pointer (some ⟨g, 0, none⟩)] #[], .func (.func 87) #[.pointer (some ⟨g, 0, none⟩)] #[], .func (.func 88) #[.pointer (some ⟨g, 0, none⟩)] #[], .func (.func 89) #[.pointer (some ⟨g, 0, none⟩)] #[], .func (.func 90) #[.pointer (some ⟨g, 0, none⟩)] #[]] 136)) :=
   ⟨Nat.le_refl _, fun _ _ _ _ => rfl, .inl rfl, ⟨rfl, rfl, rfl, Nat.le_refl _, fun _ _ _ => rfl⟩, HW6.o.hb.size, blk_lt HH6.o, HW6.o.hb, (by have := HG.o; show w.heap.size ≤ g; omega), HH6.o, HS6.o, HR6.o, Kd.R_nil _ _ _ _ _⟩
  refine (HD.o _ _ _ _ _ _ hs6).mono ?_
  rintro e w7 ⟨⟨u7, rfl⟩, v1, vm, ve, hs7⟩
  obtain ⟨A7, c7, rfl⟩ := Kd.R_slice hs7.rs
  obtain ⟨A8, c8, rfl⟩ := Kd.R_slice hs7.rm
  obtain ⟨A9, c9, rfl⟩ := Kd.R_slice hs7.re
  have HW7 := qQ (HW6.o.grown hs7.gb HG.o)
  have HS7 := qQ hs7.rs
  have HR7 := qQ hs7.rm
  have HE7 := qQ (Kd.R_lower hs7.re HW6.o.hb.size)
  have HH7 := qQ hs7.hb
  clear hs6 hs7 a0 a1 a2 a3 a4 a5 a6 a7 a8 a9 a10 a11 a12 a13 a14 a15 b a16 r4 HH6 HR6 HS6 HH5 HR5 HS5
  go_wp2
  refine zS 15 [] (fun W' => W'.heap[g]? = some (handO (⟨c, t, At, ct, wn, d, w, (w5.alloc (.cells #[.func (.func 76) #[.pointer (some ⟨g, 0, none⟩)] #[], .func (.func 77) #[.pointer (some ⟨g, 0, none⟩)] #[], .func (.func 78) #[.pointer (some ⟨g, 0, none⟩)] #[], .func (.func 78) #[.pointer (some ⟨g, 0, none⟩)] #[], .func (.func 79) #[.pointer (some ⟨g, 0, none⟩)] #[], .func (.func 80) #[.pointer (some ⟨g, 0, none⟩)] #[], .func (.func 81) #[.pointer (some ⟨g, 0, none⟩)] #[], .func (.func 82) #[.pointer (some ⟨g, 0, none⟩)] #[], .func (.func 83) #[.pointer (some ⟨g, 0, none⟩)] #[], .func (.func 84) #[.pointer (some ⟨g, 0, none⟩)] #[], .func (.func 85) #[.pointer (some ⟨g, 0, none⟩)] #[], .func (.func 86) #[.pointer (some ⟨g, 0, none⟩)] #[], .func (.func 87) #[.pointer (some ⟨g, 0, none⟩)] #[], .func (.func 88) #[.pointer (some ⟨g, 0, none⟩)] #[], .func (.func 89) #[.pointer (some ⟨g, 0, none⟩)] #[], .func (.func 90) #[.pointer (some ⟨g, 0, none⟩)] #[]] 136))⟩ : HK) x' (.slice A7 x'.st.length c7) (.slice A8 x'.m.length c8) (.slice A9 x'.ev.length c9))) HH7.o fun hHeld => ?_
  refine zY 0 1 86 ?_
  refine zY 1 3 87 ?_
  refine zY 2 7 88 ?_
  refine zT 3 15 89 ?_ (hy := zy5)
  refine zY 4 31 90 ?_
  refine zY 5 63 91 ?_
  refine zY 6 127 92 ?_
  refine zT 7 255 93 ?_ (hy := zy5)
  refine zY 8 511 94 ?_
  refine zY 9 1023 95 ?_
  refine zY 10 2047 96 ?_
  refine zT 11 4095 97 ?_ (hy := zy5)
  refine zY 12 8191 12 ?_
  refine one_ (i := 13) (N := none) (zM 15 16383) rfl rfl (by kernel_rfl) (by decide) (fun K hK => ?_)
  have y0 := (blk_cell HW7.o.h2 0).trans rfl
  have y1 := (blk_cell HW7.o.h2 1).trans rfl
  have y2 := (blk_cell HW7.o.h2 2).trans rfl
  have y3 := (blk_cell HW7.o.h2 3).trans rfl
  have y4 := (blk_cell HW7.o.h2 4).trans rfl
  have y5 := (blk_cell HW7.o.h2 5).trans rfl
  have y6 := (blk_cell HW7.o.h2 6).trans rfl
  have y7 := (blk_cell HW7.o.h2 7).trans rfl
  have y8 := (blk_cell HW7.o.h2 8).trans rfl
  have y9 := (blk_cell HW7.o.h2 9).trans rfl
  have y10 := (blk_cell HW7.o.h2 10).trans rfl
  have yz := fun i => blk_frozen HW7.o.h2 i
  have qh0 := handCells (k := (⟨c, t, At, ct, wn, d, w, (w5.alloc (.cells #[.func (.func 76) #[.pointer (some ⟨g, 0, none⟩)] #[], .func (.func 77) #[.pointer (some ⟨g, 0, none⟩)] #[], .func (.func 78) #[.pointer (some ⟨g, 0, none⟩)] #[], .func (.func 78) #[.pointer (some ⟨g, 0, none⟩)] #[], .func (.func 79) #[.pointer (some ⟨g, 0, none⟩)] #[], .func (.func 80) #[.pointer (some ⟨g, 0, none⟩)] #[], .func (.func 81) #[.pointer (some ⟨g, 0, none⟩)] #[], .func (.func 82) #[.pointer (some ⟨g, 0, none⟩)] #[], .func (.func 83) #[.pointer (some ⟨g, 0, none⟩)] #[], .func (.func 84) #[.pointer (some ⟨g, 0, none⟩)] #[], .func (.func 85) #[.pointer (some ⟨g, 0, none⟩)] #[], .func (.func 86) #[.pointer (some ⟨g, 0, none⟩)] #[], .func (.func 87) #[.pointer (some ⟨g, 0, none⟩)] #[], .func (.func 88) #[.pointer (some ⟨g, 0, none⟩)] #[], .func (.func 89) #[.pointer (some ⟨g, 0, none⟩)] #[], .func (.func 90) #[.pointer (some ⟨g, 0, none⟩)] #[]] 136))⟩ : HK)) (x := x') HH7.o
  go_simp
  refine hK.out _ _ (far11 (b := w.heap.size + 1 + 1) HH7.o (by have := HG.o; omega) _ _ _ _ _ _ _ _ _ _ _) (fun hHeld => ?_)
  refine zY 14 32767 14 ?_
  refine zD ?_
  have P11 := (HW7.o.put11 (.int .i64 x'.pc) (.slice A7 x'.st.length c7) (.int .i64 x'.f.f0) (.int .i64 x'.f.f1) (.int .i64 x'.f.f2) (.int .u64 x'.f.f3) (.int .u64 x'.f.f4) (.int .u64 x'.f.f5) (.int .i64 x'.f.f6) (.int .i64 x'.sp) (.int .i64 x'.lk)).drew
  have Qm := Kd.R_drew (HW7.o.put11R HR7.o (fun q hq => by rcases List.mem_cons.1 hq with rfl | hq; decide; cases hq) (.int .i64 x'.pc) (.slice A7 x'.st.length c7) (.int .i64 x'.f.f0) (.int .i64 x'.f.f1) (.int .i64 x'.f.f2) (.int .u64 x'.f.f3) (.int .u64 x'.f.f4) (.int .u64 x'.f.f5) (.int .i64 x'.f.f6) (.int .i64 x'.sp) (.int .i64 x'.lk))
  have Qs := Kd.R_drew (HW7.o.put11R HS7.o (fun q hq => by rcases List.mem_cons.1 hq with rfl | hq; decide; cases hq) (.int .i64 x'.pc) (.slice A7 x'.st.length c7) (.int .i64 x'.f.f0) (.int .i64 x'.f.f1) (.int .i64 x'.f.f2) (.int .u64 x'.f.f3) (.int .u64 x'.f.f4) (.int .u64 x'.f.f5) (.int .i64 x'.f.f6) (.int .i64 x'.sp) (.int .i64 x'.lk))
  have Qe := Kd.R_drew (HW7.o.put11R HE7.o (fun q hq => by rcases List.mem_cons.1 hq with rfl | hq; decide; cases hq) (.int .i64 x'.pc) (.slice A7 x'.st.length c7) (.int .i64 x'.f.f0) (.int .i64 x'.f.f1) (.int .i64 x'.f.f2) (.int .u64 x'.f.f3) (.int .u64 x'.f.f4) (.int .u64 x'.f.f5) (.int .i64 x'.f.f6) (.int .i64 x'.sp) (.int .i64 x'.lk))
  clear hHeld y0 y1 y2 y3 y4 y5 y6 y7 y8 y9 y10 yz qh0
  go_wp2
  refine bodyPost_ret (results_list (rs := [.tmp 12, .cell 13 76, .tmp 14]) rfl (by simp) (.tmp (.cell (w.heap.size + 1 + 1) 76 #[.int .i64 x'.pc, .slice A7 x'.st.length c7, .int .i64 x'.f.f0, .int .i64 x'.f.f1, .int .i64 x'.f.f2, .int .u64 x'.f.f3, .int .u64 x'.f.f4, .int .u64 x'.f.f5, .int .i64 x'.f.f6, .int .i64 x'.sp, .int .i64 x'.lk] (0, 0) _ rfl P11.h2 Tryz.underlying76 rfl (by kernel_rfl) (.tmp .nil)))) rfl ?_
  exact ⟨_, _, _, rfl, Qm, Qs, Qe, P11.hb⟩
end
end Go.Proofs.YthoeodjgfelkhaaGreat.QT
