/- Part 34 of the claim on TopWakes: pool.New; draw.Round. No condition. -/
import Derived.Test.YthoeodjgfelkhaaGreatm33
set_option linter.unusedVariables false
set_option linter.unusedSimpArgs false
set_option maxRecDepth 100000
set_option maxHeartbeats 8000000
namespace Go.Proofs.YthoeodjgfelkhaaGreat.QT
open Go.RowKit Go.Proofs.YthoeodjgfelkhaaGreatW.PrintWords Go.Proofs.YthoeodjgfelkhaaGreatW.PrintLast Go.Proofs.YthoeodjgfelkhaaGreatW.PrintMore
attribute [local go_sem] max2_int min2_int max_two min_two
structure NP (w : World) (n b : Nat) (c : Cf) (vT vM vW vS : Value) (t : List S45) (m : List Int) (ws : List S76) (ss : List S68) (W : World) : Prop where
 bel : Below w.heap.size w W
 hw : w.heap.size ≤ n
 hn : n ≤ W.heap.size
 hb : W.heap[b]? = some (.cells (pC c vT vM vW vS) 34 (0, 0))
 hg : n ≤ b
 hT : k45.R 45 W n (fun _ => True) vT t
 hM : (Kd.int .u64).R 38 W n (fun _ => True) vM m
 hW : k76.R 76 W n (fun _ => True) vW ws
 hS : k68.R 68 W n (fun _ => True) vS ss
theorem E68k : k68.E = [3] := rfl
theorem below_more {N n : Nat} {w W W1 : World} (h : Below N w W) (hb : Below n W W1) (hn : N ≤ n) : Below N w W1 :=
 ⟨hb.os.trans h.os, hb.tape.trans h.tape, hb.output.trans h.output, Nat.le_trans h.size hb.size, fun i hi => (hb.block i (by omega)).trans (h.block i hi)⟩
theorem own_fresh {α : Type} {d : Kd α} {e base k : Nat} {ok : Nat → Prop} {v : Value} {xs : List α} {W : World} (h : d.R e W base ok v xs) (hk : W.heap.size ≤ k) : some k ≠ v.ownBlock := fun e1 => by
 have := ((Kd.R_bound h).1 k e1.symm).2.2.1
 omega
section
variable {w : World} {n b : Nat} {c : Cf} {vT vM vW vS : Value} {t : List S45} {m : List Int} {ws : List S76} {ss : List S68} {W W1 : World}
theorem NP.below (h : NP w n b c vT vM vW vS t m ws ss W) (hb : Below W.heap.size W W1) : NP w n b c vT vM vW vS t m ws ss W1 :=
 ⟨below_then h.bel h.bel.size hb, h.hw, Nat.le_trans h.hn hb.size, blk_below h.hb hb, h.hg, Kd.R_below h.hT hb, Kd.R_below h.hM hb, Kd.R_below h.hW hb, Kd.R_below h.hS hb⟩
theorem NP.drew (h : NP w n b c vT vM vW vS t m ws ss W) : NP w n b c vT vM vW vS t m ws ss W.drew := h.below (below_drew (Below.refl _ _))
theorem NP.grown (h : NP w n b c vT vM vW vS t m ws ss W) {g : Nat} (hg : W.grownBy W1 (some g)) (h1 : w.heap.size ≤ g) (h2 : g < n) : NP w n b c vT vM vW vS t m ws ss W1 := by
 have hr : ∀ {α : Type} {d : Kd α} {e : Nat} {v : Value} {xs : List α}, d.R e W n (fun _ => True) v xs → d.R e W1 n (fun _ => True) v xs := fun h => Kd.R_mono (Kd.R_grown (Kd.R_bound h) hg (fun k hk => by have := hk.2.1; simp only [ne_eq, Option.some.injEq]; omega)) (fun _ _ => trivial)
 have hb := h.hg
 exact ⟨below_grown h.bel hg h1 h.bel.size, h.hw, Nat.le_trans h.hn hg.size, blk_grown h.hb hg (by simp only [ne_eq, Option.some.injEq]; omega), h.hg, hr h.hT, hr h.hM, hr h.hW, hr h.hS⟩
theorem NP.putW (h : NP w n b c vT vM vW vS t m ws ss W) {v1 : Value} {ws1 : List S76} (hr : k76.R 76 W1 n (fun _ => True) v1 ws1) (hb : Below n W W1) (hg : W.grownBy W1 vW.ownBlock) : NP w n b c vT vM v1 vS t m ws1 ss (W1.setCell ⟨b, 6, none⟩ v1) := by
 have hb1 := blk_grown h.hb hg (Kd.R_ne h.hW h.hb (by decide))
 exact ⟨(below_more h.bel hb h.hw).setCell (p := ⟨b, 6, none⟩) (Nat.le_trans h.hw h.hg) v1, h.hw, by simpa using Nat.le_trans h.hn hg.size, by simpa using blk_set hb1 6 v1, h.hg, Kd.R_set (Kd.R_over h.hT h.hW (by rw [E45]; decide) hg) hb1 (by rw [E45]; decide) _ _, Kd.R_set (Kd.R_over h.hM h.hW (T1 (by decide)) hg) hb1 (T1 (by decide)) _ _, Kd.R_set hr hb1 (by rw [EE76]; decide) _ _, Kd.R_set (Kd.R_over h.hS h.hW (by rw [E68k]; decide) hg) hb1 (by rw [E68k]; decide) _ _⟩
theorem NP.putS (h : NP w n b c vT vM vW vS t m ws ss W) {v1 : Value} {ss1 : List S68} (hr : k68.R 68 W1 n (fun _ => True) v1 ss1) (hb : Below n W W1) (hg : W.grownBy W1 vS.ownBlock) : NP w n b c vT vM vW v1 t m ws ss1 (W1.setCell ⟨b, 7, none⟩ v1) := by
 have hb1 := blk_grown h.hb hg (Kd.R_ne h.hS h.hb (by decide))
 exact ⟨(below_more h.bel hb h.hw).setCell (p := ⟨b, 7, none⟩) (Nat.le_trans h.hw h.hg) v1, h.hw, by simpa using Nat.le_trans h.hn hg.size, by simpa using blk_set hb1 7 v1, h.hg, Kd.R_set (Kd.R_over h.hT h.hS (by rw [E45]; decide) hg) hb1 (by rw [E45]; decide) _ _, Kd.R_set (Kd.R_over h.hM h.hS (T1 (by decide)) hg) hb1 (T1 (by decide)) _ _, Kd.R_set (Kd.R_over h.hW h.hS (by rw [EE76]; decide) hg) hb1 (by rw [EE76]; decide) _ _, Kd.R_set hr hb1 (by rw [E68k]; decide) _ _⟩
end
theorem takeR_found {left : List Int} {r : Int} {k : Nat} (h : idxF left r = (k : Int)) (l : List Int) : takeR left (r :: l) = takeR (left.eraseIdx k) l := by rw [takeR, h, if_neg (by omega), Int.toNat_natCast]
theorem erase_len {l : List Int} {k : Nat} (h : k < l.length) : (l.eraseIdx k).length = l.length - 1 := List.length_eraseIdx_of_lt h
theorem erase_le (l : List Int) (k : Nat) : (l.eraseIdx k).length ≤ l.length := List.length_eraseIdx_le l k
theorem i64_suc (k : Nat) : Value.int .i64 ((k : Int) + 1) = Value.int .i64 ((k + 1 : Nat) : Int) := by simp
theorem nat_neg (k : Nat) : ((k : Int) < 0) = False := eq_false (by omega)
theorem w64_suc' (k : Nat) (h : k ≤ 1000000) : wrap64 ((k : Int) + 1) = (k : Int) + 1 := by unfold wrap64; omega
def rL (W : World) (N n : Nat) (v : Value) (l : List Int) : Prop := (Kd.int .i64).R 3 W N (fun _ => True) v l ∧ ∀ k, v.ownBlock = some k → k < n
section
variable {W W1 : World} {N n : Nat} {v : Value} {l : List Int}
theorem rL_del {g k c : Nat} (h : (Kd.int .i64).R 3 W N (fun _ => True) (.slice (some ⟨g, 0, none⟩) (l.length - 1) c) (l.eraseIdx k)) (hk : k < l.length) (hg : g < n) : rL W N n (.slice (some ⟨g, 0, none⟩) (l.eraseIdx k).length c) (l.eraseIdx k) :=
 ⟨by rw [List.length_eraseIdx_of_lt hk]; exact h, fun q hq => by
  have h9 : g = q := by simpa [Value.ownBlock] using hq
  omega⟩
theorem rL_R (h : rL W N n v l) : (Kd.int .i64).R 3 W N (fun _ => True) v l := h.1
theorem rL_below (h : rL W N n v l) (hb : Below W.heap.size W W1) : rL W1 N n v l := ⟨Kd.R_below h.1 hb, h.2⟩
theorem rL_over {α : Type} {d : Kd α} {e base : Nat} {ok : Nat → Prop} {u : Value} {xs : List α} (h : rL W N n v l) (hr : d.R e W base ok u xs) (he : 3 ≠ e) (hg : W.grownBy W1 u.ownBlock) : rL W1 N n v l := ⟨Kd.R_over h.1 hr (T1 he) hg, h.2⟩
theorem rL_set (h : rL W N n v l) {g i : Nat} {cells : Array Value} (hb : W.heap[g]? = some (.cells cells 34 (0, 0))) (u : Value) : rL (W.setCell ⟨g, i, none⟩ u) N n v l := ⟨Kd.R_set h.1 hb (T1 (by decide)) i u, h.2⟩
theorem rL_but (h : rL W N n v l) {g t : Nat} {z : Array Value} (hz : W.heap[g]? = some (.cells z t (0, 0))) (ht : 3 ≠ t) (hf : ∀ b, b ≠ g → W1.heap[b]? = W.heap[b]?) : rL W1 N n v l := ⟨R_but h.1 hz (T1 ht) hf, h.2⟩
end
abbrev zP : Array Value := #[.int .i64 0, .int .i64 0, .int .i64 0, .int .i64 0, .slice none 0 0, .slice none 0 0, .slice none 0 0, .slice none 0 0]
def NewPost (c : Cf) (t : List S45) (roots : List (List Int)) (w : World) (e : Ending) (w' : World) : Prop :=
 Below w.heap.size w w' ∧ ((∃ m ws ss vT vM vW vS, newF c t roots = some (m, ws, ss) ∧ e = .returned (.tuple #[.agg (pC c vT vM vW vS), .bool true]) ∧ k45.R 45 w' w.heap.size (fun _ => True) vT t ∧ (Kd.int .u64).R 38 w' w.heap.size (fun _ => True) vM m ∧ k76.R 76 w' w.heap.size (fun _ => True) vW ws ∧ k68.R 68 w' w.heap.size (fun _ => True) vS ss) ∨
  (newF c t roots = none ∧ e = .returned (.tuple #[.agg zP, .bool false])))
theorem newF_none {c : Cf} {t : List S45} {roots : List (List Int)} (h : ¬ (mayB c = true ∧ forestB t = true ∧ roots.length ≤ 3)) : newF c t roots = none := by unfold newF; rw [if_neg h]
theorem newF_take {c : Cf} {t : List S45} {roots : List (List Int)} (h : mayB c = true ∧ forestB t = true ∧ roots.length ≤ 3) : newF c t roots = (takeAll (rootsF t) roots).map fun _ => (zerosF c, (List.range c.w.toNat).map (fun i : Nat => newW (i : Int)), roots.map newS) := by unfold newF; rw [if_pos h]
theorem may_lo (c : Cf) (h : mayB c = true) : 1 ≤ c.w ∧ c.w ≤ 8 ∧ 0 ≤ sizeF c ∧ sizeF c ≤ 100000 := by
 have hs : lay_May.f c.w c.d c.i c.s = some true := by rw [may_some, h]
 have hm := hs
 simp only [lay_May.f, lay_in.f] at hm
 by_cases a1 : c.w ≥ 1
 ·by_cases a2 : c.w ≤ 8
  ·by_cases b1 : c.d ≥ 1
   ·by_cases b2 : c.d ≤ 16
    ·by_cases e0 : Go.bits .and .i64 c.d (wrap64 (c.d - 1)) = 0
     ·by_cases d1 : c.i ≥ 1
      ·by_cases d2 : c.i ≤ 16
       ·refine ⟨a1, a2, ?_⟩
        unfold sizeF lay_Size.f
        rw [hs]
        simp only [Option.bind_some, if_true, Option.getD_some]
        simp only [lay_base.f, Option.bind_some, Option.getD_some]
        have h1 : wrap64 (2 * c.i) = 2 * c.i := by unfold wrap64; omega
        have h2 : wrap64 (3 + c.d) = 3 + c.d := by unfold wrap64; omega
        have h3 : 0 ≤ c.w * (3 + c.d) ∧ c.w * (3 + c.d) ≤ 8 * 19 := ⟨Int.mul_nonneg (by omega) (by omega), Int.mul_le_mul a2 (by omega) (by omega) (by omega)⟩
        rw [h1, h2]
        generalize c.w * (3 + c.d) = z at h3 ⊢
        unfold wrap64; omega
       ·simp [a1, a2, b1, b2, e0, d1, d2] at hm
      ·simp [a1, a2, b1, b2, e0, d1] at hm
     ·simp [a1, a2, b1, b2, e0] at hm
    ·simp [a1, a2, b1, b2] at hm
   ·simp [a1, a2, b1] at hm
  ·simp [a1, a2] at hm
 ·simp [a1] at hm
theorem new_13 (c : Cf) (t : List S45) (At : Option Addr) (ct : Nat) (roots : List (List Int)) (Ar : Option Addr) (cr : Nat) (w : World) (hT : Kd.C k45 w At t.length t) (hct : t.length ≤ ct) (hR : Kd.C (Kd.slice 3 (Kd.int .i64)) w Ar roots.length roots) (htn : t.length ≤ 1000000) (hk : ∀ x ∈ t, x.f1.length ≤ 1000000) (hrn : roots.length ≤ 1000000) (hrk : ∀ l ∈ roots, l.length ≤ 1000000) :
  Calls Tryz.prog 13 #[cfV c, .slice At t.length ct, .slice Ar roots.length cr] w (NewPost c t roots w) := by
 have HT := qQ hT
 have HR := qQ hR
 have HK := qQ hk
 have HRK := qQ hrk
 have B2 := qQ (show Below w.heap.size w ((w.alloc (.cells #[.int .i64 c.w, .int .i64 c.d, .int .i64 c.i, .int .i64 c.s] 23)).alloc (.cells #[.int .i64 0, .int .i64 0, .int .i64 0, .int .i64 0, .slice none 0 0, .slice none 0 0, .slice none 0 0, .slice none 0 0] 34)) from below_alloc (below_alloc (Below.refl _ _) _) _)
 have X0 := qQ (show (((w.alloc (.cells #[.int .i64 c.w, .int .i64 c.d, .int .i64 c.i, .int .i64 c.s] 23)).alloc (.cells #[.int .i64 0, .int .i64 0, .int .i64 0, .int .i64 0, .slice none 0 0, .slice none 0 0, .slice none 0 0, .slice none 0 0] 34))).heap[w.heap.size]? = some (.cells #[.int .i64 c.w, .int .i64 c.d, .int .i64 c.i, .int .i64 c.s] 23 (0, 0)) from blk_alloc (blk_new _ _) _)
 have X1 := qQ (show (((w.alloc (.cells #[.int .i64 c.w, .int .i64 c.d, .int .i64 c.i, .int .i64 c.s] 23)).alloc (.cells #[.int .i64 0, .int .i64 0, .int .i64 0, .int .i64 0, .slice none 0 0, .slice none 0 0, .slice none 0 0, .slice none 0 0] 34))).heap[w.heap.size + 1]? = some (.cells #[.int .i64 0, .int .i64 0, .int .i64 0, .int .i64 0, .slice none 0 0, .slice none 0 0, .slice none 0 0, .slice none 0 0] 34 (0, 0)) from by have := blk_new (w.alloc (.cells #[.int .i64 c.w, .int .i64 c.d, .int .i64 c.i, .int .i64 c.s] 23)) (.cells #[.int .i64 0, .int .i64 0, .int .i64 0, .int .i64 0, .slice none 0 0, .slice none 0 0, .slice none 0 0, .slice none 0 0] 34); simpa using this)
 have x0 := fun j => blk_cell X0.o j
 clear hT hR hk hrk
 go_enter Tryz.func13, Tryz.ntmps13
 generalize hw2 : ((w.alloc (.cells #[.int .i64 c.w, .int .i64 c.d, .int .i64 c.i, .int .i64 c.s] 23)).alloc (.cells #[.int .i64 0, .int .i64 0, .int .i64 0, .int .i64 0, .slice none 0 0, .slice none 0 0, .slice none 0 0, .slice none 0 0] 34)) = w2 at B2 X0 X1 x0
 have y0 := 0
 have y1 := 0
 go_wp2_with (first | (go_at_call 22; (with_reducible refine (lay_May.calls c.w c.d c.i c.s _ _ (may_some c)).mono ?_); rintro e w3 ⟨rfl, hb⟩; have C3 := qQ hb; clear hb x0; clear y0 y1; have y0 := fun j => blk_cell (blk_below X1.o C3.o) j; have y1 := fun j => blk_frozen (blk_below X1.o C3.o) j; generalize hm : mayB c = bm; have HM := qQ hm; clear hm; cases bm) | (go_at_call 23; (with_reducible refine (forest_23 At ct t _ (Kd.C_below HT.o (below_then B2.o B2.o.size C3.o)) htn).mono ?_); rintro e w4 ⟨rfl, hb⟩; have C4 := below_all C3 ⟨hb⟩; clear hb; clear y0 y1; have y0 := fun j => blk_cell (blk_below X1.o C4.o) j; have y1 := fun j => blk_frozen (blk_below X1.o C4.o) j; generalize hm : forestB t = bm; have HF := qQ hm; clear hm; cases bm; rotate_left; by_cases h3 : roots.length ≤ 3; (have h4 : ((3 : Int) < (roots.length : Int)) = False := eq_false (by omega)); rotate_left; (have h4 : ((3 : Int) < (roots.length : Int)) = True := eq_true (by omega)); rotate_left) | (go_at_call 24; (with_reducible refine (forest_Roots.calls (t.length + 1) At ct t (rootsF t) _ (Kd.C_below HT.o (below_then B2.o B2.o.size C4.o)) hct (roots_some t htn HF.o)).mono ?_); rintro e w5 ⟨v0, rfl, hr, hb⟩; obtain ⟨AL, cL, eo⟩ := Kd.R_slice hr; subst eo; have HL5 := qQ (show rL w5 w2.heap.size w5.heap.size (.slice AL (rootsF t).length cL) (rootsF t) from ⟨Kd.R_lower hr C4.o.size, fun k hk => ((Kd.R_bound hr).1 k hk).2.2.1⟩); have C5 := below_all C4 ⟨hb⟩; clear hr hb y0 y1 h4))
 ·have EZ := eight (blk_below X1.o C3.o) (.int .i64 0) (.int .i64 0) (.int .i64 0) (.int .i64 0) (.slice none 0 0) (.slice none 0 0) (.slice none 0 0) (.slice none 0 0)
  refine bodyPost_ret (results_ct rfl _ _ (w.heap.size + 1) 34 zP (0, 0) _ rfl EZ.1 Tryz.underlying34 rfl (by kernel_rfl)) rfl ?_
  exact ⟨EZ.2.2 _ _ (below_then B2.o B2.o.size C3.o) (by omega), Or.inr ⟨newF_none (by rw [HM.o]; simp), rfl⟩⟩
 ·have EZ := eight (blk_below X1.o C4.o) (.int .i64 0) (.int .i64 0) (.int .i64 0) (.int .i64 0) (.slice none 0 0) (.slice none 0 0) (.slice none 0 0) (.slice none 0 0)
  refine bodyPost_ret (results_ct rfl _ _ (w.heap.size + 1) 34 zP (0, 0) _ rfl EZ.1 Tryz.underlying34 rfl (by kernel_rfl)) rfl ?_
  exact ⟨EZ.2.2 _ _ (below_then B2.o B2.o.size C4.o) (by omega), Or.inr ⟨newF_none (by rw [HF.o]; simp), rfl⟩⟩
 ·have HLO := qQ (may_lo c HM.o)
  have X05 := qQ (blk_below X0.o C5.o)
  refine zS 8 [7] (fun W' => W'.heap[w.heap.size]? = some (.cells #[.int .i64 c.w, .int .i64 c.d, .int .i64 c.i, .int .i64 c.s] 23 (0, 0))) (blk_drew X05.o) fun hHeld => ?_
  refine zT 0 1 32 ?_ (hy := zy15)
  refine zY 1 3 33 ?_
  refine zT 3 11 35 ?_ (hy := zy15)
  refine join_ (σ := (Option Addr × Nat) × (Option Addr × Nat) × Nat) 1 (zM 8 127) (fun s => [(34, .slice s.1.1 t.length s.1.2), (36, .slice s.2.1.1 (zerosF c).length s.2.1.2), (37, .agg #[.int .i64 c.w, .int .i64 c.d, .int .i64 c.i, .int .i64 c.s, .slice s.1.1 t.length s.1.2, .slice s.2.1.1 (zerosF c).length s.2.1.2, .slice none 0 0, .slice none 0 0]), (9, .pointer (some ⟨s.2.2, 0, none⟩))]) (fun s W' => Below w5.heap.size w5 W' ∧ k45.R 45 W' w5.heap.size (fun _ => True) (.slice s.1.1 t.length s.1.2) t ∧ (Kd.int .u64).R 38 W' w5.heap.size (fun _ => True) (.slice s.2.1.1 (zerosF c).length s.2.1.2) (zerosF c) ∧ W'.heap[s.2.2]? = some (.cells #[.int .i64 0, .int .i64 0, .int .i64 0, .int .i64 0, .slice none 0 0, .slice none 0 0, .slice none 0 0, .slice none 0 0] 34 (0, 0)) ∧ w5.heap.size ≤ s.2.2) ?_ ?_
  rotate_left
  ·intro hcont
   have q0 := below_drew (Below.refl w5.heap.size w5)
   refine two_ (i := 2) (j := 6) (Ni := some 34) (Nj := some 9) (zM 8 15) (zM 8 75) rfl rfl rfl rfl (by kernel_rfl) (by decide) (by decide) (fun K hK => ?_) (fun K hK => ?_)
   ·go_simp
    (with_reducible refine (tasks_25 At ct t _ (Kd.C_below HT.o (below_then (below_then B2.o B2.o.size C5.o) (below_then B2.o B2.o.size C5.o).size q0)) htn HK.o).mono ?_)
    rintro e v1 ⟨v, rfl, hr, hd⟩
    obtain ⟨AT, cT, eo⟩ := Kd.R_slice hr
    subst eo
    have rT1 := Kd.R_mono (Kd.R_lower hr q0.size) (fun _ _ => trivial)
    have q1 := below_then q0 q0.size hd
    refine hK.out _ _ ((q1.block _ (blk_lt X05.o)).trans X05.o) (fun hHeld => ?_)
    refine two_ (i := 4) (j := 6) (Ni := some 36) (Nj := some 9) (zM 8 31) (zM 8 79) rfl rfl rfl rfl (by kernel_rfl) (by decide) (by decide) (fun K hK => ?_) (fun K hK => ?_)
    ·go_simp
     (with_reducible refine (lay_New.calls ((sizeF c).toNat + 1) c.w c.d c.i c.s (zerosF c) _ (zeros_some c HLO.o.2.2.1 HLO.o.2.2.2)).mono ?_)
     rintro e v2 ⟨v, rfl, hr, hd⟩
     obtain ⟨AM, cM, eo⟩ := Kd.R_slice hr
     subst eo
     have rM2 := Kd.R_lower hr q1.size
     have rT2 := Kd.R_below rT1 hd
     have q2 := below_then q1 q1.size hd
     refine hK.out _ _ ((q2.block _ (blk_lt X05.o)).trans X05.o) (fun hHeld => ?_)
     refine zY 5 63 37 ?_
     refine zO 6 127 9 fun K hK => ?_
     go_simp
     have hg3 := blk_new v2 (.cells #[.int .i64 0, .int .i64 0, .int .i64 0, .int .i64 0, .slice none 0 0, .slice none 0 0, .slice none 0 0, .slice none 0 0] 34)
     have q3 := below_then q2 q2.size (below_alloc (Below.refl _ _) (.cells #[.int .i64 0, .int .i64 0, .int .i64 0, .int .i64 0, .slice none 0 0, .slice none 0 0, .slice none 0 0, .slice none 0 0] 34))
     have rT3 := Kd.R_below rT2 (below_alloc (Below.refl _ _) (.cells #[.int .i64 0, .int .i64 0, .int .i64 0, .int .i64 0, .slice none 0 0, .slice none 0 0, .slice none 0 0, .slice none 0 0] 34))
     have rM3 := Kd.R_below rM2 (below_alloc (Below.refl _ _) (.cells #[.int .i64 0, .int .i64 0, .int .i64 0, .int .i64 0, .slice none 0 0, .slice none 0 0, .slice none 0 0, .slice none 0 0] 34))
     refine hK.out _ _ ((q3.block _ (blk_lt X05.o)).trans X05.o) (fun hHeld => ?_)
     exact norm_ rfl (hcont ((AT, cT), (AM, cM), v2.heap.size) _ ⟨q3, rT3, rM3, hg3, q2.size⟩)
    ·go_simp
     have hg4 := blk_new v1 (.cells #[.int .i64 0, .int .i64 0, .int .i64 0, .int .i64 0, .slice none 0 0, .slice none 0 0, .slice none 0 0, .slice none 0 0] 34)
     have q4 := below_then q1 q1.size (below_alloc (Below.refl _ _) (.cells #[.int .i64 0, .int .i64 0, .int .i64 0, .int .i64 0, .slice none 0 0, .slice none 0 0, .slice none 0 0, .slice none 0 0] 34))
     have rT4 := Kd.R_below rT1 (below_alloc (Below.refl _ _) (.cells #[.int .i64 0, .int .i64 0, .int .i64 0, .int .i64 0, .slice none 0 0, .slice none 0 0, .slice none 0 0, .slice none 0 0] 34))
     refine hK.out _ _ ((q4.block _ (blk_lt X05.o)).trans X05.o) (fun hHeld => ?_)
     refine zO 4 95 36 fun K hK => ?_
     go_simp
     (with_reducible refine (lay_New.calls ((sizeF c).toNat + 1) c.w c.d c.i c.s (zerosF c) _ (zeros_some c HLO.o.2.2.1 HLO.o.2.2.2)).mono ?_)
     rintro e v5 ⟨v, rfl, hr, hd⟩
     obtain ⟨AM, cM, eo⟩ := Kd.R_slice hr
     subst eo
     have rM5 := Kd.R_lower hr q4.size
     have rT5 := Kd.R_below rT4 hd
     have hg5 := blk_below hg4 hd
     have q5 := below_then q4 q4.size hd
     refine hK.out _ _ ((q5.block _ (blk_lt X05.o)).trans X05.o) (fun hHeld => ?_)
     refine zY 5 127 37 ?_
     exact norm_ rfl (hcont ((AT, cT), (AM, cM), v1.heap.size) _ ⟨q5, rT5, rM5, hg5, q1.size⟩)
   ·go_simp
    have hg6 := blk_drew (blk_new w5 (.cells #[.int .i64 0, .int .i64 0, .int .i64 0, .int .i64 0, .slice none 0 0, .slice none 0 0, .slice none 0 0, .slice none 0 0] 34))
    have q6 := below_drew (below_alloc (Below.refl w5.heap.size w5) (.cells #[.int .i64 0, .int .i64 0, .int .i64 0, .int .i64 0, .slice none 0 0, .slice none 0 0, .slice none 0 0, .slice none 0 0] 34))
    refine hK.out _ _ ((q6.block _ (blk_lt X05.o)).trans X05.o) (fun hHeld => ?_)
    refine zO 2 79 34 fun K hK => ?_
    go_simp
    (with_reducible refine (tasks_25 At ct t _ (Kd.C_below HT.o (below_then (below_then B2.o B2.o.size C5.o) (below_then B2.o B2.o.size C5.o).size q6)) htn HK.o).mono ?_)
    rintro e v7 ⟨v, rfl, hr, hd⟩
    obtain ⟨AT, cT, eo⟩ := Kd.R_slice hr
    subst eo
    have rT7 := Kd.R_mono (Kd.R_lower hr q6.size) (fun _ _ => trivial)
    have hg7 := blk_below hg6 hd
    have q7 := below_then q6 q6.size hd
    refine hK.out _ _ ((q7.block _ (blk_lt X05.o)).trans X05.o) (fun hHeld => ?_)
    refine zO 4 95 36 fun K hK => ?_
    go_simp
    (with_reducible refine (lay_New.calls ((sizeF c).toNat + 1) c.w c.d c.i c.s (zerosF c) _ (zeros_some c HLO.o.2.2.1 HLO.o.2.2.2)).mono ?_)
    rintro e v8 ⟨v, rfl, hr, hd⟩
    obtain ⟨AM, cM, eo⟩ := Kd.R_slice hr
    subst eo
    have rM8 := Kd.R_lower hr q7.size
    have rT8 := Kd.R_below rT7 hd
    have hg8 := blk_below hg7 hd
    have q8 := below_then q7 q7.size hd
    refine hK.out _ _ ((q8.block _ (blk_lt X05.o)).trans X05.o) (fun hHeld => ?_)
    refine zY 5 127 37 ?_
    exact norm_ rfl (hcont ((AT, cT), (AM, cM), w5.heap.size) _ ⟨q8, rT8, rM8, hg8, Nat.le_refl _⟩)
  rintro ⟨⟨AT, cT⟩, ⟨AM, cM⟩, g⟩ w6 ⟨hb, hrT, hrM, hz, hle⟩
  simp only [putAll, Act.put, List.setIfInBounds_toArray, List.set_cons_zero, List.set_cons_succ] at hb hrT hrM hz hle ⊢
  have C6 := qQ hb
  have HT6 := qQ hrT
  have HM6 := qQ hrM
  have HZ6 := qQ hz
  have HG6 := qQ hle
  clear hb hrT hrM hz hle
  refine zL 7 255 fun K hK => ?_
  have y0 := fun j => blk_cell HZ6.o j
  have y1 := fun j => blk_frozen HZ6.o j
  go_simp
  refine hK.out _ _ ?_
  clear y0 y1
  refine zD ?_
  have HF6 := qQ (eight HZ6.o (.int .i64 c.w) (.int .i64 c.d) (.int .i64 c.i) (.int .i64 c.s) (.slice AT t.length cT) (.slice AM (zerosF c).length cM) (.slice none 0 0) (.slice none 0 0))
  have HN6 := qQ (show NP w2 w5.heap.size g c (.slice AT t.length cT) (.slice AM (zerosF c).length cM) (.slice none 0 0) (.slice none 0 0) t (zerosF c) [] [] (w8 w6 g (.int .i64 c.w) (.int .i64 c.d) (.int .i64 c.i) (.int .i64 c.s) (.slice AT t.length cT) (.slice AM (zerosF c).length cM) (.slice none 0 0) (.slice none 0 0)) from ⟨HF6.o.2.2 _ _ (below_then C5.o C5.o.size C6.o) (Nat.le_trans C5.o.size HG6.o), C5.o.size, (HF6.o.2.2 _ _ C6.o HG6.o).size, HF6.o.1, HG6.o, R_but HT6.o HZ6.o (by rw [E45]; decide) HF6.o.2.1, R_but HM6.o HZ6.o (T1 (by decide)) HF6.o.2.1, Kd.R_nil _ _ _ _ _, Kd.R_nil _ _ _ _ _⟩)
  have HL6 := qQ (rL_but (rL_below HL5.o C6.o) HZ6.o (by decide) HF6.o.2.1)
  have HMF := qQ (show mayB c = true ∧ forestB t = true ∧ roots.length ≤ 3 from ⟨HM.o, HF.o, h3⟩)
  unfold w8 at HN6 HL6
  clear HF6 HZ6 HT6 HM6 HL5 X05 HM HF
  generalize ((((((((w6.setCell ⟨g, 0, none⟩ (.int .i64 c.w)).setCell ⟨g, 1, none⟩ (.int .i64 c.d)).setCell ⟨g, 2, none⟩ (.int .i64 c.i)).setCell ⟨g, 3, none⟩ (.int .i64 c.s)).setCell ⟨g, 4, none⟩ (.slice AT t.length cT)).setCell ⟨g, 5, none⟩ (.slice AM (zerosF c).length cM)).setCell ⟨g, 6, none⟩ (.slice none 0 0)).setCell ⟨g, 7, none⟩ (.slice none 0 0)) = w7 at HN6 HL6 ⊢
  have x0 := fun j => blk_cell ((HN6.o.bel.block _ (blk_lt X0.o)).trans X0.o) j
  go_wp2
  clear x0
  go_loopw [40] (fun i wr => ∃ (k : Nat) (A7 : Option Addr) (c7 : Nat), k ≤ c.w.toNat ∧ i = .int .i64 (k : Int) ∧ Aside0 (NP w2 w5.heap.size g c (.slice AT t.length cT) (.slice AM (zerosF c).length cM) (.slice A7 k c7) (.slice none 0 0) t (zerosF c) ((List.range k).map fun i : Nat => newW (i : Int)) [] wr) ∧ Aside0 (rL wr w2.heap.size w5.heap.size (.slice AL (rootsF t).length cL) (rootsF t)))
   (fun i _ => c.w.toNat - (intOf i).toNat)
  case atStart => exact ⟨0, none, 0, by omega, rfl, HN6, HL6⟩
  case round =>
   obtain ⟨kw, A7, c7, hk, rfl, HNr, HLr⟩ := hrel
   clear HN6 HL6
   have hlo := HLO.o
   by_cases hlt : kw < c.w.toNat
   ·obtain ⟨k, rfl⟩ : ∃ k, k = kw := ⟨_, rfl⟩
    have kk : ((k : Int) < c.w) = True := eq_true (by omega)
    have hk8 : c.w.toNat ≤ 8 := by omega
    clear hlo
    go_wp2
    refine zS 8 [7] (fun W' => W'.heap[g]? = some (.cells (pC c (.slice AT t.length cT) (.slice AM (zerosF c).length cM) (.slice A7 k c7) (.slice none 0 0)) 34 (0, 0))) HNr.o.drew.hb fun hHeld => ?_
    refine zY 0 1 43 ?_
    refine zT 1 3 44 ?_ (hy := zy19)
    refine zY 2 7 45 ?_
    refine zO 3 15 46 fun K hK => ?_
    go_simp
    (with_reducible refine (work_New.calls (k : Int) 0 [] 1 0 (k : Int) 0 0 0 0 0 0 _ (newW_some k)).mono ?_)
    rintro e wa ⟨v1, rfl, hr, hb⟩
    have NPa := qQ (HNr.o.drew.below hb)
    have HLa := qQ (rL_below HLr.o ((below_drew (Below.refl _ _)).trans hb))
    have HV := qQ hr
    have HD := qQ hb
    clear hr hb
    refine hK.out _ _ NPa.o.hb (fun hHeld => ?_)
    refine zO 4 31 47 fun K hK => ?_
    go_simp
    refine hK.out _ _ (blk_alloc NPa.o.hb _) (fun hHeld => ?_)
    refine zO 5 63 48 fun K hK => ?_
    refine Kd.R_append_step k76 (w0 := wa) (W := wa) w5.heap.size (by rfl) (.tmp 44) (.tmp 47) 31 76 (.agg #[.int .i64 0, .slice none 0 0, .int .i64 0, .int .i64 0, .int .i64 0, .int .u64 0, .int .u64 0, .int .u64 0, .int .i64 0, .int .i64 0, .int .i64 0]) 104 rfl Tryz.underlying31 cinfo76 rfl (by decide) (by decide) (.slice A7 k c7) ((List.range k).map fun i : Nat => newW (i : Int)) (newW (k : Int)) [.int .i64 0, v1, .int .i64 1, .int .i64 0, .int .i64 (k : Int), .int .u64 0, .int .u64 0, .int .u64 0, .int .i64 0, .int .i64 0, .int .i64 0] (fun _ => True) (fun k => wr.drew.heap.size ≤ k) (by rfl) (by rfl) (k76_mkM _ _ _ (newW (k : Int)) (Kd.R_mono (Kd.R_lower (Kd.R_bound HV.o) HNr.o.drew.hn) (fun q hq => hq.2.1))) (fun q hq => ⟨trivial, own_fresh HNr.o.hW (by simpa using hq)⟩) (fun _ _ => trivial) NPa.o.hW (Below.refl _ _) NPa.o.hn (by have := HLO.o; simp; omega) ?_
    intro v' wb hr2 hb2 hg2 hat2
    obtain ⟨A9, c9, eo⟩ := Kd.R_slice hr2
    subst eo
    rw [show ((List.range k).map fun i : Nat => newW (i : Int)) ++ [(newW (k : Int))] = ((List.range (k + 1)).map fun i : Nat => newW (i : Int)) from by simp [List.range_succ]] at hr2
    rw [show (((List.range (k + 1)).map fun i : Nat => newW (i : Int))).length = k + 1 from by simp] at hr2
    have NPb := qQ (NPa.o.putW hr2 hb2 hg2)
    have HLb := qQ (rL_set (rL_over HLa.o NPa.o.hW (by decide) hg2) (blk_grown NPa.o.hb hg2 (Kd.R_ne NPa.o.hW NPa.o.hb (by decide))) (i := 6) (.slice A9 (k + 1) c9))
    have HBb := qQ (blk_grown NPa.o.hb hg2 (Kd.R_ne NPa.o.hW NPa.o.hb (by decide)))
    clear hr2 hb2 hg2 hat2
    refine hK.out _ _ HBb.o (fun hHeld => ?_)
    refine zY 6 127 49 ?_
    refine zL 7 255 fun K hK => ?_
    have y0 := fun j => blk_cell HBb.o j
    have y1 := fun j => blk_frozen HBb.o j
    go_simp
    refine hK.out _ _ ?_
    clear y0 y1
    refine zD ?_
    go_wp2
    go_roundw
    case rel => exact ⟨k + 1, A9, c9, by omega, by first | (simp; done) | rw [w64_succ k (by omega)], NPb, HLb⟩
    case measure => (try rw [w64_succ k (by omega)]); simp [intOf]; omega
   ·have hkk : kw = c.w.toNat := by omega
    have HKK := qQ hkk
    have kk : ((kw : Int) < c.w) = False := eq_false (by omega)
    clear hlo hkk hk hlt
    go_wp2
    go_loopw [8, 53] (fun vl i wr => ∃ (k : Nat) (A8 : Option Addr) (c8 : Nat) (AL : Option Addr) (cL : Nat) (left : List Int), k ≤ roots.length ∧ i = .int .i64 (k : Int) ∧ vl = .slice AL left.length cL ∧ Aside0 (NP w2 w5.heap.size g c (.slice AT t.length cT) (.slice AM (zerosF c).length cM) (.slice A7 kw c7) (.slice A8 k c8) t (zerosF c) ((List.range kw).map fun i : Nat => newW (i : Int)) ((roots.take k).map newS) wr) ∧ Aside0 (rL wr w2.heap.size w5.heap.size (.slice AL left.length cL) left) ∧ Aside0 (takeAll left (roots.drop k) = takeAll (rootsF t) roots) ∧ Aside0 (left.length ≤ 1000000))
     (fun _ i _ => roots.length - (intOf i).toNat)
    case atStart => exact ⟨0, none, 0, AL, cL, rootsF t, by omega, rfl, rfl, HNr, HLr, ⟨rfl⟩, ⟨Nat.le_trans (rootsG_lt t t.length 0).2 htn⟩⟩
    case round =>
     obtain ⟨k, A8, c8, AL, cL, left, hk, rfl, rfl, HN0, HL0, HTK, HLN⟩ := hrel
     clear HNr HLr kk
     by_cases hlt : k < roots.length
     ·obtain ⟨l, hl⟩ : ∃ l, roots[k]? = some l := ⟨_, List.getElem?_eq_getElem hlt⟩
      have HLK := qQ hl
      have hdr : roots.drop k = l :: roots.drop (k + 1) := by rw [List.drop_eq_getElem_cons hlt]; rw [List.getElem?_eq_getElem hlt] at hl; injection hl with hl; rw [hl]
      have HT2 := qQ (show (takeR left l).bind (fun left' => takeAll left' (roots.drop (k + 1))) = takeAll (rootsF t) roots from by have h := HTK.o; rw [hdr] at h; exact h)
      have hwr := below_then B2.o B2.o.size HN0.o.bel
      obtain ⟨ad, cs, eA, _, hK, hcc⟩ := Kd.C_get HR.o [] (k : Int) (by omega) (by omega)
      subst eA
      simp only [Int.toNat_natCast] at hK hcc
      rw [show roots.getD k [] = l by simp [List.getD, hl]] at hK
      obtain ⟨Al, cl, rfl, hll, hcl0⟩ := hK
      have HCL := qQ hcl0
      have q00 : w.cell? (ad.add (k * 1 + 0)) = some (.slice Al l.length cl) := hcc 0 _ rfl
      have q0 : wr.cell? (ad.add k) = some (.slice Al l.length cl) := pw_cell_below hwr (by simpa using q00)
      have HLL := qQ hll
      have hl6 := HRK.o l (List.mem_of_getElem? hl)
      have kk : ((k : Int) < (roots.length : Int)) = True := eq_true (by omega)
      have k0 : (0 ≤ (k : Int)) = True := eq_true (by omega)
      clear hcl0 hcc hdr hl hll q00 hwr
      go_wp2
      clear q0
      go_loopw [8, 59] (fun vl i wr => ∃ (j : Nat) (AL2 : Option Addr) (cL2 : Nat) (left2 : List Int), j ≤ l.length ∧ i = .int .i64 (j : Int) ∧ vl = .slice AL2 left2.length cL2 ∧ Aside0 (NP w2 w5.heap.size g c (.slice AT t.length cT) (.slice AM (zerosF c).length cM) (.slice A7 kw c7) (.slice A8 k c8) t (zerosF c) ((List.range kw).map fun i : Nat => newW (i : Int)) ((roots.take k).map newS) wr) ∧ Aside0 (rL wr w2.heap.size w5.heap.size (.slice AL2 left2.length cL2) left2) ∧ Aside0 (takeR left2 (l.drop j) = takeR left l) ∧ Aside0 (left2.length ≤ 1000000))
       (fun _ i _ => l.length - (intOf i).toNat)
      case atStart => exact ⟨0, AL, cL, left, by omega, rfl, rfl, HN0, HL0, ⟨rfl⟩, HLN⟩
      case round =>
       obtain ⟨j, AL2, cL2, left2, hj, rfl, rfl, HNr, HLr, HTR, HLN2⟩ := hrel
       clear HN0 HL0
       by_cases hltj : j < l.length
       ·have hwr := below_then B2.o B2.o.size HNr.o.bel
        obtain ⟨ad2, eA2, q2⟩ := Kd.at_int (Kd.C_below HCL.o hwr) (j : Int) (by omega) (by omega)
        subst eA2
        simp only [Int.toNat_natCast] at q2
        have kj : ((j : Int) < (l.length : Int)) = True := eq_true (by omega)
        have j0 : (0 ≤ (j : Int)) = True := eq_true (by omega)
        clear hwr
        rcases idx_or left2 (rd l (j : Int)) with hi | ⟨k', hi, hlk⟩
        ·have hix := index_some left2 (rd l (j : Int)) HLN2.o
         rw [hi] at hix
         have HI := qQ hi
         have HIX := qQ hix
         clear hi hix
         go_wp2_with (go_at_call 28; (with_reducible refine (slices_Index_int_int.calls (left2.length + 1) AL2 cL2 left2 (rd l (j : Int)) (-1) _ (Kd.R_reads' (rL_R HLr.o)).2.2 (Kd.R_reads' (rL_R HLr.o)).2.1 HIX.o).mono ?_); rintro e wx ⟨rfl, hb⟩; have hb := hb.below; have HNx := qQ (HNr.o.below hb); have y0 := fun j => blk_cell ((HNx.o.bel.block _ (blk_lt X1.o)).trans X1.o) j; have y1 := fun j => blk_frozen ((HNx.o.bel.block _ (blk_lt X1.o)).trans X1.o) j; clear hb)
         clear y0 y1
         have EZ := eight ((HNx.o.bel.block _ (blk_lt X1.o)).trans X1.o) (.int .i64 0) (.int .i64 0) (.int .i64 0) (.int .i64 0) (.slice none 0 0) (.slice none 0 0) (.slice none 0 0) (.slice none 0 0)
         refine bodyPost_ret (results_ct rfl _ _ (w.heap.size + 1) 34 zP (0, 0) _ rfl EZ.1 Tryz.underlying34 rfl (by kernel_rfl)) rfl ?_
         exact ⟨EZ.2.2 _ _ (below_then B2.o B2.o.size HNx.o.bel) (by omega), Or.inr ⟨by rw [newF_take HMF.o, ← HT2.o, ← HTR.o, rd_drop hltj, takeR, HI.o, if_pos (by decide)]; rfl, rfl⟩⟩
        ·have hix := index_some left2 (rd l (j : Int)) HLN2.o
         rw [hi] at hix
         obtain ⟨gL, cL3, eo, hgL⟩ := R_some HLr.o.1 (by omega)
         injection eo with e1 _ e3
         subst e1 e3
         have hgn := HLr.o.2 gL rfl
         have kw2 := w64_suc' k' (Nat.le_trans (Nat.le_of_lt hlk) HLN2.o)
         have kl := nat_neg k'
         have HI := qQ hi
         have HIX := qQ hix
         clear hi hix
         go_wp2_with (first | (go_at_call 28; (with_reducible refine (slices_Index_int_int.calls (left2.length + 1) _ _ left2 (rd l (j : Int)) (k' : Int) _ (Kd.R_reads' (rL_R HLr.o)).2.2 (Kd.R_reads' (rL_R HLr.o)).2.1 HIX.o).mono ?_); rintro e wx ⟨rfl, hb⟩; have hb := hb.below; have HNx := qQ (HNr.o.below hb); have HLx := qQ (rL_below HLr.o hb); clear hb) | (go_at_call 29; (with_reducible refine (delete_29 gL _ k' w2.heap.size left2 _ (rL_R HLx.o) hlk HLN2.o).mono ?_); rintro e wy ⟨rfl, hr, hg⟩; have HNy := qQ (HNx.o.grown hg hgL hgn); have HLy := qQ hr; clear hr hg))
         go_roundw
         case rel =>
          have r1 := (takeR_found HI.o (l.drop (j + 1))).symm.trans ((congrArg (takeR left2) (rd_drop hltj).symm).trans HTR.o)
          have r2 := rL_del HLy.o hlk hgn
          have r3 := Nat.le_trans (erase_le left2 k') HLN2.o
          have r4 := erase_len hlk
          have r5 := Nat.succ_le_of_lt hltj
          have R1 := qQ r1
          have R2 := qQ r2
          have R3 := qQ r3
          clear r1 r2 r3
          refine ⟨j + 1, some ⟨gL, 0, none⟩, _, left2.eraseIdx k', r5, ?_, ?_, HNy, R2, R1, R3⟩
          ·exact i64_suc j
          ·rw [r4]
         case measure => simp [intOf]; omega
       ·have kj : ((j : Int) < (l.length : Int)) = False := eq_false (by omega)
        have hd : l.drop j = [] := List.drop_eq_nil_of_le (by omega)
        have htr := HTR.o
        rw [hd, takeR] at htr
        have HTL := qQ htr
        clear hd htr
        go_wp2
        refine zS 8 [7] (fun W' => W'.heap[g]? = some (.cells (pC c (.slice AT t.length cT) (.slice AM (zerosF c).length cM) (.slice A7 kw c7) (.slice A8 k c8)) 34 (0, 0))) HNr.o.drew.hb fun hHeld => ?_
        refine zY 0 1 75 ?_
        refine zT 1 3 76 ?_ (hy := zy19)
        refine zY 2 7 77 ?_
        refine zO 3 15 78 fun K hK => ?_
        go_simp
        (with_reducible refine (submit_New.calls Al cl l 0 l 0 0 0 0 0 0 0 _ (Kd.C_below HCL.o (below_then (below_then B2.o B2.o.size HNr.o.bel) (below_then B2.o B2.o.size HNr.o.bel).size (below_drew (Below.refl _ _)))) HLL.o (newS_some l (HRK.o l (List.mem_of_getElem? HLK.o)))).mono ?_)
        rintro e wa ⟨v1, rfl, hr, hb⟩
        have NPa := qQ (HNr.o.drew.below hb)
        have HLa := qQ (rL_below HLr.o ((below_drew (Below.refl _ _)).trans hb))
        have HV := qQ hr
        have HD := qQ hb
        clear hr hb
        refine hK.out _ _ NPa.o.hb (fun hHeld => ?_)
        refine zO 4 31 79 fun K hK => ?_
        go_simp
        refine hK.out _ _ (blk_alloc NPa.o.hb _) (fun hHeld => ?_)
        refine zO 5 63 80 fun K hK => ?_
        refine Kd.R_append_step k68 (w0 := wa) (W := wa) w5.heap.size (by rfl) (.tmp 76) (.tmp 79) 32 68 (.agg #[.int .i64 0, .slice none 0 0, .int .i64 0, .int .i64 0, .int .i64 0, .int .u64 0, .int .u64 0, .int .u64 0, .int .i64 0]) 88 rfl Tryz.underlying32 cinfo68 rfl (by decide) (by decide) (.slice A8 k c8) ((roots.take k).map newS) (newS l) [.int .i64 0, v1, .int .i64 0, .int .i64 0, .int .i64 0, .int .u64 0, .int .u64 0, .int .u64 0, .int .i64 0] (fun _ => True) (fun k => wr.drew.heap.size ≤ k) (by rfl) (by rfl) (k68_mkM _ _ _ (newS l) (Kd.R_mono (Kd.R_lower (Kd.R_bound HV.o) HNr.o.drew.hn) (fun q hq => hq.2.1))) (fun q hq => ⟨trivial, own_fresh HNr.o.hS (by simpa using hq)⟩) (fun _ _ => trivial) NPa.o.hS (Below.refl _ _) NPa.o.hn (by have := HLO.o; simp; omega) ?_
        intro v' wb hr2 hb2 hg2 hat2
        obtain ⟨A9, c9, eo⟩ := Kd.R_slice hr2
        subst eo
        rw [show ((roots.take k).map newS) ++ [(newS l)] = ((roots.take (k + 1)).map newS) from by rw [List.take_add_one, HLK.o]; simp] at hr2
        rw [show (((roots.take (k + 1)).map newS)).length = k + 1 from by simp; omega] at hr2
        have NPb := qQ (NPa.o.putS hr2 hb2 hg2)
        have HLb := qQ (rL_set (rL_over HLa.o NPa.o.hS (by decide) hg2) (blk_grown NPa.o.hb hg2 (Kd.R_ne NPa.o.hS NPa.o.hb (by decide))) (i := 7) (.slice A9 (k + 1) c9))
        have HBb := qQ (blk_grown NPa.o.hb hg2 (Kd.R_ne NPa.o.hS NPa.o.hb (by decide)))
        clear hr2 hb2 hg2 hat2
        refine hK.out _ _ HBb.o (fun hHeld => ?_)
        refine zY 6 127 81 ?_
        refine zL 7 255 fun K hK => ?_
        have y0 := fun j => blk_cell HBb.o j
        have y1 := fun j => blk_frozen HBb.o j
        go_simp
        refine hK.out _ _ ?_
        clear y0 y1
        refine zD ?_
        go_wp2
        go_roundw
        case rel =>
         have r1 := HT2.o
         rw [← HTL.o] at r1
         have R1 := qQ (show takeAll left2 (roots.drop (k + 1)) = takeAll (rootsF t) roots from r1)
         have r5 := Nat.succ_le_of_lt hlt
         clear r1
         exact ⟨k + 1, A9, c9, AL2, cL2, left2, r5, i64_suc k, rfl, NPb, HLb, R1, HLN2⟩
        case measure => simp [intOf]; omega
     ·have hkk : k = roots.length := by omega
      subst hkk
      have kk : ((roots.length : Int) < (roots.length : Int)) = False := eq_false (by omega)
      have x1r := (HN0.o.bel.block _ (blk_lt X1.o)).trans X1.o
      have y0 := fun j => blk_cell x1r j
      have y1 := fun j => blk_frozen x1r j
      have y2 := fun j => blk_cell HN0.o.hb j
      have EZ := qQ (eight x1r (.int .i64 c.w) (.int .i64 c.d) (.int .i64 c.i) (.int .i64 c.s) (.slice AT t.length cT) (.slice AM (zerosF c).length cM) (.slice A7 kw c7) (.slice A8 roots.length c8))
      have X1R := qQ x1r
      clear x1r
      unfold w8 at EZ
      go_wp2
      clear y0 y1 y2
      refine bodyPost_ret (results_ct rfl _ _ (w.heap.size + 1) 34 (pC c (.slice AT t.length cT) (.slice AM (zerosF c).length cM) (.slice A7 kw c7) (.slice A8 roots.length c8)) (0, 0) _ rfl EZ.o.1 Tryz.underlying34 rfl (by kernel_rfl)) rfl ?_
      have hle : w.heap.size ≤ w5.heap.size := Nat.le_trans B2.o.size C5.o.size
      have hnew : newF c t roots = some (zerosF c, ((List.range kw).map fun i : Nat => newW (i : Int)), roots.map newS) := by
       have h := HTK.o
       rw [List.drop_eq_nil_of_le (Nat.le_refl _), takeAll] at h
       rw [newF_take HMF.o, ← h, HKK.o]; rfl
      have hss : (roots.take roots.length).map newS = roots.map newS := by rw [List.take_length]
      exact ⟨EZ.o.2.2 _ _ (below_then B2.o B2.o.size HN0.o.bel) (by omega), Or.inl ⟨_, _, _, _, _, _, _, hnew, rfl, Kd.R_lower (R_but HN0.o.hT X1R.o (by rw [E45]; decide) EZ.o.2.1) hle, Kd.R_lower (R_but HN0.o.hM X1R.o (T1 (by decide)) EZ.o.2.1) hle, Kd.R_lower (R_but HN0.o.hW X1R.o (by rw [EE76]; decide) EZ.o.2.1) hle, by rw [← hss]; exact Kd.R_lower (R_but HN0.o.hS X1R.o (by rw [E68k]; decide) EZ.o.2.1) hle⟩⟩
 ·have EZ := eight (blk_below X1.o C4.o) (.int .i64 0) (.int .i64 0) (.int .i64 0) (.int .i64 0) (.slice none 0 0) (.slice none 0 0) (.slice none 0 0) (.slice none 0 0)
  refine bodyPost_ret (results_ct rfl _ _ (w.heap.size + 1) 34 zP (0, 0) _ rfl EZ.1 Tryz.underlying34 rfl (by kernel_rfl)) rfl ?_
  exact ⟨EZ.2.2 _ _ (below_then B2.o B2.o.size C4.o) (by omega), Or.inr ⟨newF_none (by simp only [not_and]; omega), rfl⟩⟩
theorem cinfo83 : (Tryz.prog.info? 83).map (fun i => (i.zero, i.size, i.bytes)) = some (some (.agg #[.int .i64 0, .int .i64 0, .int .u64 0]), 3, 24) := by kernel_rfl
def rowsF (nw : Nat) (d : Int) : List S83 := (List.range nw).map fun i : Nat => (⟨0, (i : Int), d⟩ : S83)
def roundF (nw ns : Nat) (d : Int) : List S83 := rowsF nw d ++ (List.range ns).map fun i : Nat => (⟨1, (i : Int), d⟩ : S83)
theorem round_40 (nw ns : Nat) (d : Int) (w : World) (h1 : nw < 21) (h2 : ns < 21) :
  Calls Tryz.prog 40 #[.int .i64 (nw : Int), .int .i64 (ns : Int), .int .u64 d] w fun e w' => ∃ v, e = .returned v ∧ k83.R 83 w' w.heap.size (fun _ => True) v (roundF nw ns d) ∧ Below w.heap.size w w' := by
 have f1 : draw_below.f (nw : Int) 21 = some true := by unfold draw_below.f; simp; omega
 have f2 : draw_below.f (ns : Int) 21 = some true := by unfold draw_below.f; simp; omega
 go_enter Tryz.func40, Tryz.ntmps40
 go_wp2_with (first | (go_at_call 58; (with_reducible refine (draw_below.calls (nw : Int) 21 true _ f1).mono ?_); rintro e w1 ⟨rfl, hb⟩; have hb := hb.below; have B1 := qQ hb; clear hb f1) | (go_at_call 58; (with_reducible refine (draw_below.calls (ns : Int) 21 true _ f2).mono ?_); rintro e w2 ⟨rfl, hb⟩; have hb := hb.below; have B2 := below_all B1 ⟨hb⟩; clear hb f2))
 go_loopw [7, 19] (fun a i wr => ∃ (k : Nat) (A7 : Option Addr) (c7 : Nat), k ≤ nw ∧ i = .int .i64 (k : Int) ∧ a = .slice A7 k c7 ∧ Aside0 (Below w.heap.size w wr) ∧ Aside0 (k83.R 83 wr w.heap.size (fun _ => True) (.slice A7 k c7) ((List.range k).map fun i : Nat => (⟨0, (i : Int), d⟩ : S83))))
  (fun _ i _ => nw - (intOf i).toNat)
 case atStart => exact ⟨0, none, 0, by omega, rfl, rfl, B2, ⟨Kd.R_nil _ _ _ _ _⟩⟩
 case round =>
  obtain ⟨k, A7, c7, hk, rfl, rfl, HBr, HRr⟩ := hrel
  clear B1 B2
  by_cases hlt : k < nw
  ·have kk : ((k : Int) < (nw : Int)) = True := eq_true (by omega)
   have hL : ((List.range k).map fun i : Nat => (⟨0, (i : Int), d⟩ : S83)).length = k := by simp
   go_wp2_with (first | ((with_reducible refine gate_builtin (b := .append) (xs := #[.tmp 22, .tmp 26]) rfl ?_); at_builtin; refine Kd.R_append k83 (w0 := w) (W := wr) w.heap.size rfl (.tmp 22) (.tmp 26) 57 83 (.agg #[.int .i64 0, .int .i64 0, .int .u64 0]) 24 rfl Tryz.underlying57 cinfo83 rfl (by decide) (by decide) (.slice A7 k c7) ((List.range k).map fun i : Nat => (⟨0, (i : Int), d⟩ : S83)) ⟨0, (k : Int), d⟩ [.int .i64 0, .int .i64 (k : Int), .int .u64 d] (fun _ => True) (fun _ => False) rfl rfl (k83_mkM _ _ _ ⟨0, (k : Int), d⟩) (fun _ h => h.elim) (fun _ _ => trivial) HRr.o HBr.o HBr.o.size (by simp [rowsF]; omega) ?_; intro v' wb hr2 hb2 hg2 hat2; clear hg2 hat2; obtain ⟨A9, c9, eo⟩ := Kd.R_slice hr2; subst eo; rw [show (((List.range k).map fun i : Nat => (⟨0, (i : Int), d⟩ : S83)) ++ [(⟨0, (k : Int), d⟩ : S83)]).length = k + 1 from (by simp [rowsF]; try omega)] at hr2; have HR9 := qQ hr2; have HB9 := qQ hb2; clear hr2 hb2))
   go_roundw
   case rel =>
    refine ⟨k + 1, A9, c9, Nat.succ_le_of_lt hlt, i64_suc k, rfl, HB9, ⟨?_⟩⟩
    have h := HR9.o
    rw [show ((List.range k).map fun i : Nat => (⟨0, (i : Int), d⟩ : S83)) ++ [(⟨0, (k : Int), d⟩ : S83)] = ((List.range (k + 1)).map fun i : Nat => (⟨0, (i : Int), d⟩ : S83)) from by simp [List.range_succ]] at h
    exact h
   case measure => simp [intOf]; omega
  ·have hkk : nw = k := by omega
   subst hkk
   have kk : ((nw : Int) < (nw : Int)) = False := eq_false (by omega)
   clear hlt hk
   have HS := qQ (show k83.R 83 wr w.heap.size (fun _ => True) (.slice A7 nw c7) (rowsF nw d) from HRr.o)
   clear HRr
   have HBs := HBr
   clear HBr
   go_wp2
   go_loopw [7, 30] (fun a i wr => ∃ (k : Nat) (A7 : Option Addr) (c7 : Nat), k ≤ ns ∧ i = .int .i64 (k : Int) ∧ a = .slice A7 (nw + k) c7 ∧ Aside0 (Below w.heap.size w wr) ∧ Aside0 (k83.R 83 wr w.heap.size (fun _ => True) (.slice A7 (nw + k) c7) (rowsF nw d ++ (List.range k).map fun i : Nat => (⟨1, (i : Int), d⟩ : S83))))
    (fun _ i _ => ns - (intOf i).toNat)
   case atStart => exact ⟨0, A7, c7, by omega, rfl, rfl, HBs, ⟨by rw [show (rowsF nw d ++ (List.range 0).map fun i : Nat => (⟨1, (i : Int), d⟩ : S83)) = rowsF nw d from List.append_nil _]; exact HS.o⟩⟩
   case round =>
    obtain ⟨k, A7, c7, hk, rfl, rfl, HBr, HRr⟩ := hrel
    clear HBs HS
    by_cases hlt : k < ns
    ·have kk : ((k : Int) < (ns : Int)) = True := eq_true (by omega)
     have hL : (rowsF nw d ++ (List.range k).map fun i : Nat => (⟨1, (i : Int), d⟩ : S83)).length = nw + k := by simp [rowsF]
     go_wp2_with (first | ((with_reducible refine gate_builtin (b := .append) (xs := #[.tmp 33, .tmp 37]) rfl ?_); at_builtin; refine Kd.R_append k83 (w0 := w) (W := wr) w.heap.size rfl (.tmp 33) (.tmp 37) 57 83 (.agg #[.int .i64 0, .int .i64 0, .int .u64 0]) 24 rfl Tryz.underlying57 cinfo83 rfl (by decide) (by decide) (.slice A7 (nw + k) c7) (rowsF nw d ++ (List.range k).map fun i : Nat => (⟨1, (i : Int), d⟩ : S83)) ⟨1, (k : Int), d⟩ [.int .i64 1, .int .i64 (k : Int), .int .u64 d] (fun _ => True) (fun _ => False) rfl rfl (k83_mkM _ _ _ ⟨1, (k : Int), d⟩) (fun _ h => h.elim) (fun _ _ => trivial) HRr.o HBr.o HBr.o.size (by simp [rowsF]; omega) ?_; intro v' wb hr2 hb2 hg2 hat2; clear hg2 hat2; obtain ⟨A9, c9, eo⟩ := Kd.R_slice hr2; subst eo; rw [show ((rowsF nw d ++ (List.range k).map fun i : Nat => (⟨1, (i : Int), d⟩ : S83)) ++ [(⟨1, (k : Int), d⟩ : S83)]).length = nw + k + 1 from (by simp [rowsF]; try omega)] at hr2; have HR9 := qQ hr2; have HB9 := qQ hb2; clear hr2 hb2))
     go_roundw
     case rel =>
      refine ⟨k + 1, A9, c9, Nat.succ_le_of_lt hlt, i64_suc k, (by simp [rowsF]), HB9, ⟨?_⟩⟩
      have h := HR9.o
      rw [show (rowsF nw d ++ (List.range k).map fun i : Nat => (⟨1, (i : Int), d⟩ : S83)) ++ [(⟨1, (k : Int), d⟩ : S83)] = (rowsF nw d ++ (List.range (k + 1)).map fun i : Nat => (⟨1, (i : Int), d⟩ : S83)) from by simp [List.range_succ]] at h
      exact h
     case measure => simp [intOf]; omega
    ·have hkk : ns = k := by omega
     subst hkk
     have kk : ((ns : Int) < (ns : Int)) = False := eq_false (by omega)
     have HS := qQ (show k83.R 83 wr w.heap.size (fun _ => True) (.slice A7 (nw + ns) c7) (roundF nw ns d) from HRr.o)
     clear HRr hlt hk
     go_wp2
     go_ret
     exact ⟨_, rfl, HS.o, HBr.o⟩
end Go.Proofs.YthoeodjgfelkhaaGreat.QT
