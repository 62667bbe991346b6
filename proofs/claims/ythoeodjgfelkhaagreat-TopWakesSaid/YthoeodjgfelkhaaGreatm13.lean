/- Part 13 of the claim on TopWakes: printed contracts; push.Step; pool.lame, May. No condition. -/
import Derived.Test.YthoeodjgfelkhaaGreatm10
import Derived.Test.YthoeodjgfelkhaaGreatm12
set_option linter.unusedVariables false
set_option linter.unusedSimpArgs false
set_option maxRecDepth 100000
set_option maxHeartbeats 8000000
namespace Go.Proofs.YthoeodjgfelkhaaGreat.QT
open Go.RowKit Go.Proofs.YthoeodjgfelkhaaGreatW.PrintWords Go.Proofs.YthoeodjgfelkhaaGreatW.PrintLast Go.Proofs.YthoeodjgfelkhaaGreatW.PrintMore
attribute [local go_sem] max2_int min2_int max_two min_two
def forest_Roots.l0 : Nat → List (S45) → List Int → Int → Int → Option (List Int)
 | 0, _, _, _, _ => none
 | k + 1, x0, x3, x9, x10 => if x10 < x9 then ((forest_Parent.f x0 x10).bind fun t107 => (if t107 = (-1) then (if x3.length < 17592186044416 then (forest_Roots.l0 k x0 (x3 ++ [x10]) x9 (wrap64 (x10 + 1))) else (none)) else (forest_Roots.l0 k x0 x3 x9 (wrap64 (x10 + 1))))) else (some x3)
def forest_Roots.f (k : Nat) (l0 : List (S45)) : Option (List Int) := (forest_May.f l0).bind fun t106 => (if t106 = true then (forest_Roots.l0 k l0 ([] : List Int) (l0.length : Int) 0) else (some ([] : List Int)))
theorem forest_Roots.calls (k : Nat) (A0 : Option Addr) (c0 : Nat) (l0 : List (S45)) (r : List Int) (w : World) (hr0 : Kd.C k45 w A0 l0.length l0) (hc0 : l0.length ≤ c0) (h : forest_Roots.f k l0 = some r) :
  Calls Tryz.prog 24 #[.slice A0 l0.length c0] w fun e w' => ∃ v0_ : Value, e = .returned (v0_) ∧ Kd.R (Kd.int .i64) 3 w' w.heap.size (fun _ => True) v0_ r ∧ Below w.heap.size w w' := by
 have HR0 := qQ hr0
 have HC0 := qQ hc0
 clear hr0 hc0
 have HB := qQ (Below.refl w.heap.size w)
 unfold forest_Roots.f at h
 have H := h
 clear h
 replace H := Option.bind_eq_some_iff.mp H
 obtain ⟨t106, A20, H⟩ := H
 have A2 := qQ A20
 clear A20
 by_cases c3 : t106 = true
 ·subst c3
  rw [if_pos rfl] at H
  have H' := qQ H
  clear H
  go_enter Tryz.func24, Tryz.ntmps24
  go_wp2_with (first | ((with_reducible refine gate_callee (f := 23) rfl ?_); refine goesL_ (some 6) rfl rfl Tryz.func23 (by kernel_rfl) rfl #[.slice A0 l0.length c0] rfl (by (try simp only [List.map_toArray, List.map_cons, List.map_nil]); first | done | rfl | (simp only [List.length_drop, List.length_take]; rfl)) ?_; (with_reducible refine (forest_May.calls _ _ l0 true _ ?side1 ?side2 A2.o).mono ?_); (try clear A2); (case side1 => repeat (first | exact HR0.o | (with_reducible refine Kd.C_alloc ?_ _) | (with_reducible refine Kd.C_drewN ?_ _) | (with_reducible refine Kd.C_drew ?_))); (case side2 => exact HC0.o); rintro e w4 ⟨rfl, hb⟩; refine ⟨_, rfl, ?_⟩; replace HB := qQ (below_step zB hb); (try clear hb); (try clear hb2); (try clear hk); (try clear hi)))
  go_loopg [3, 10] k (fun kq v3 v10 w' => ∃ (x3_1 : List Int) (x10_1 : Int), v10 = .int .i64 x10_1 ∧ Aside0 (forest_Roots.l0 kq l0 x3_1 (l0.length : Int) x10_1 = some r) ∧ Aside0 (kq ≤ k) ∧ Aside0 (Kd.R (Kd.int .i64) 3 w' w.heap.size (fun _ => True) v3 x3_1) ∧ Aside0 (Below w.heap.size w w'))
  case atStart => exact ⟨(([] : List Int)), (0), (by first | rfl | (simp; done) | (simp [*]; done)), H', ⟨Nat.le_refl _⟩, ⟨by first | exact Kd.R_nil _ _ _ _ _ | exact Kd.N_nil _ _ _ _ _ | exact Kd.V_nil _ _ _ _ _ | exact Kd.Q_nil _ _ _ _ _ | exact Kd.S_nil _ _ _ _ _⟩, ⟨zB⟩⟩
  case round =>
   clear H'
   try clear c2
   try clear p2
   try clear c3
   obtain ⟨x3_1, x10_1, rfl, HA, HK1, HO_3, HB⟩ := hrel
   cases gk with
   | zero => exact absurd HA.o (by simp [forest_Roots.l0])
   | succ k1 =>
    have H := HA.o
    clear HA
    simp only [forest_Roots.l0] at H
    by_cases c5 : x10_1 < (l0.length : Int)
    ·rw [if_pos c5] at H
     have c5b0 : decide (x10_1 < (l0.length : Int)) = true := decide_eq_true c5
     clear c5
     replace H := Option.bind_eq_some_iff.mp H
     obtain ⟨t107, A60, H⟩ := H
     replace H : (if t107 = (-1) then (if x3_1.length < 17592186044416 then (forest_Roots.l0 k1 l0 (x3_1 ++ [x10_1]) (l0.length : Int) (wrap64 (x10_1 + 1))) else (none)) else (forest_Roots.l0 k1 l0 x3_1 (l0.length : Int) (wrap64 (x10_1 + 1)))) = some r := H
     have A6 := qQ A60
     clear A60
     by_cases c7 : t107 = (-1)
     ·rw [if_pos c7] at H
      have c7b0 : (t107 == (-1)) = true := beq_iff_eq.mpr c7
      have c7b1 : (t107 != (-1)) = false := bne_eq_false_iff_eq.mpr c7
      clear c7
      by_cases c8 : x3_1.length < 17592186044416
      ·rw [if_pos c8] at H
       have LMc8 := qQ c8
       clear c8
       obtain ⟨y108, hy108⟩ : ∃ y_ : List Int, y_ = (x3_1 ++ [x10_1]) := ⟨_, rfl⟩
       replace H : (forest_Roots.l0 k1 l0 y108 (l0.length : Int) (wrap64 (x10_1 + 1))) = some r := by first | (rw [hy108]; with_reducible exact H) | (have H2_ := (Option.bind_some _ _).symm.trans H; rw [hy108]; with_reducible exact H2_) | (have H2_ := (Option.bind_some _ _).symm.trans H; with_reducible exact H2_) | with_reducible exact H | (rw [hy108]; exact H) | exact H
       have Ny108 := qQ hy108
       clear hy108
       have H' := qQ H
       clear H
       go_wp2_with (first | ((with_reducible refine gate_callee (f := 49) rfl ?_); refine goesL_ (some 15) rfl rfl Tryz.func49 (by kernel_rfl) rfl #[.slice A0 l0.length c0, .int .i64 x10_1] rfl (by (try simp only [List.map_toArray, List.map_cons, List.map_nil]); first | done | rfl | (simp only [List.length_drop, List.length_take]; rfl)) ?_; (with_reducible refine (forest_Parent.calls _ _ l0 x10_1 t107 _ ?side1 ?side2 A6.o).mono ?_); (try clear A6); (case side1 => repeat (first | exact (Kd.C_below HR0.o HB.o) | (with_reducible refine Kd.C_alloc ?_ _) | (with_reducible refine Kd.C_drewN ?_ _) | (with_reducible refine Kd.C_drew ?_))); (case side2 => exact HC0.o); rintro e w9 ⟨rfl, hb⟩; refine ⟨_, rfl, ?_⟩; replace HO_3 := qQ (Kd.R_below (by (with_reducible repeat (first | apply Kd.R_alloc | apply Kd.R_drewN | apply Kd.R_drew)); exact HO_3.o) hb); replace HB := qQ (below_step zB hb); (try clear hb); (try clear hb2); (try clear hk); (try clear hi)) | ((with_reducible refine gate_builtin (b := .append) (xs := #[.tmp 17, .tmp 19]) rfl ?_); at_builtin; refine Kd.R_append (Kd.int .i64) (w0 := w) w.heap.size rfl (.tmp 17) (.tmp 19) 43 3 (.int .i64 0) 8 rfl Tryz.underlying43 info3 rfl (by decide) (by omega) u3 x3_1 x10_1 [.int .i64 x10_1] (fun _ => True) (fun _ => False) rfl rfl ?aP (fun _ hk => hk.elim) ?aF ?aO ?aB ?aS ?aL ?_; (case aP => exact rfl); (case aB => exact zB); (case aF => exact (fun _ _ => trivial)); (case aO => exact (by (with_reducible repeat (first | apply Kd.R_alloc | apply Kd.R_drewN | apply Kd.R_drew)); exact HO_3.o)); (case aS => exact (below_size zB)); (case aL => have := LMc8.o; omega); intro v109 w10 ho hb hg hat; rw [← Ny108.o] at ho; have n0_ := qQ (hb); have n1_ := qQ (ho); clear HB; clear HO_3; have HB := n0_; have HO110 := n1_; clear n0_ n1_; clear ho hb hg hat))
       go_roundg k1
       case measure => have := HK1.o; omega
       case rel => exact ⟨(y108), (wrap64 (x10_1 + 1)), (by first | rfl | (simp; done) | (simp [*]; done)), H', ⟨by have := HK1.o; omega⟩, ⟨by (with_reducible repeat (first | apply Kd.R_alloc | apply Kd.R_drewN | apply Kd.R_drew)); exact HO110.o⟩, ⟨zB⟩⟩
      ·rw [if_neg c8] at H
       exact absurd H (by simp)
     ·rw [if_neg c7] at H
      have c7b0 : (t107 == (-1)) = false := beq_eq_false_iff_ne.mpr c7
      have c7b1 : (t107 != (-1)) = true := bne_iff_ne.mpr c7
      have H' := qQ H
      clear H
      go_wp2_with (first | ((with_reducible refine gate_callee (f := 49) rfl ?_); refine goesL_ (some 15) rfl rfl Tryz.func49 (by kernel_rfl) rfl #[.slice A0 l0.length c0, .int .i64 x10_1] rfl (by (try simp only [List.map_toArray, List.map_cons, List.map_nil]); first | done | rfl | (simp only [List.length_drop, List.length_take]; rfl)) ?_; (with_reducible refine (forest_Parent.calls _ _ l0 x10_1 t107 _ ?side1 ?side2 A6.o).mono ?_); (try clear A6); (case side1 => repeat (first | exact (Kd.C_below HR0.o HB.o) | (with_reducible refine Kd.C_alloc ?_ _) | (with_reducible refine Kd.C_drewN ?_ _) | (with_reducible refine Kd.C_drew ?_))); (case side2 => exact HC0.o); rintro e w11 ⟨rfl, hb⟩; refine ⟨_, rfl, ?_⟩; replace HO_3 := qQ (Kd.R_below (by (with_reducible repeat (first | apply Kd.R_alloc | apply Kd.R_drewN | apply Kd.R_drew)); exact HO_3.o) hb); replace HB := qQ (below_step zB hb); (try clear hb); (try clear hb2); (try clear hk); (try clear hi)))
      go_roundg k1
      case measure => have := HK1.o; omega
      case rel => exact ⟨(x3_1), (wrap64 (x10_1 + 1)), (by first | rfl | (simp; done) | (simp [*]; done)), H', ⟨by have := HK1.o; omega⟩, ⟨by (with_reducible repeat (first | apply Kd.R_alloc | apply Kd.R_drewN | apply Kd.R_drew)); exact HO_3.o⟩, ⟨zB⟩⟩
    ·rw [if_neg c5] at H
     have c5b0 : decide (x10_1 < (l0.length : Int)) = false := decide_eq_false c5
     clear c5
     obtain rfl := Option.some.inj H
     go_wp2
     go_ret
     exact ⟨_, by first | rfl | (simp [errW_none, errW_some] <;> rfl) | (simp [*, errW_none, errW_some] <;> rfl), by (with_reducible repeat (first | apply Kd.R_alloc | apply Kd.R_drewN | apply Kd.R_drew)); exact HO_3.o, zB⟩
 ·replace c3 := Bool.eq_false_iff.mpr c3
  subst c3
  rw [if_neg (show ¬ (false = true) by decide)] at H
  obtain rfl := Option.some.inj H
  go_enter Tryz.func24, Tryz.ntmps24
  go_wp2_with (first | ((with_reducible refine gate_callee (f := 23) rfl ?_); refine goesL_ (some 6) rfl rfl Tryz.func23 (by kernel_rfl) rfl #[.slice A0 l0.length c0] rfl (by (try simp only [List.map_toArray, List.map_cons, List.map_nil]); first | done | rfl | (simp only [List.length_drop, List.length_take]; rfl)) ?_; (with_reducible refine (forest_May.calls _ _ l0 false _ ?side1 ?side2 A2.o).mono ?_); (try clear A2); (case side1 => repeat (first | exact HR0.o | (with_reducible refine Kd.C_alloc ?_ _) | (with_reducible refine Kd.C_drewN ?_ _) | (with_reducible refine Kd.C_drew ?_))); (case side2 => exact HC0.o); rintro e w12 ⟨rfl, hb⟩; refine ⟨_, rfl, ?_⟩; replace HB := qQ (below_step zB hb); (try clear hb); (try clear hb2); (try clear hk); (try clear hi)))
  go_ret
  exact ⟨_, by first | rfl | (simp [errW_none, errW_some] <;> rfl) | (simp [*, errW_none, errW_some] <;> rfl), by first | exact Kd.R_nil _ _ _ _ _ | exact Kd.N_nil _ _ _ _ _ | exact Kd.V_nil _ _ _ _ _ | exact Kd.Q_nil _ _ _ _ _ | exact Kd.S_nil _ _ _ _ _, zB⟩
section
theorem run_store_func (P : Program) (w : World) (a : Addr) (f : Fn) (b c : Array Value) (m : Mode) : (Go.store a (.func f b c) m).run P w = stored P w a (.func f b c) m := run_store P w a _ m rfl
attribute [local go_sem] run_store_func
structure Thr (w : World) (c : Cf) (f z : S66) (W : World) : Prop where
 two : Two w c f W
 h2 : W.heap[w.heap.size + 1 + 1]? = some (.cells #[.int .i64 z.f0, .int .i64 z.f1, .int .i64 z.f2, .int .u64 z.f3, .int .u64 z.f4, .int .u64 z.f5, .int .i64 z.f6] 66 (0, 0))
theorem Thr.start (w : World) (c : Cf) (f : S66) : Thr w c f ⟨0, 0, 0, 0, 0, 0, 0⟩ (((w.alloc (.cells #[.int .i64 c.w, .int .i64 c.d, .int .i64 c.i, .int .i64 c.s] 23)).alloc (.cells #[.int .i64 f.f0, .int .i64 f.f1, .int .i64 f.f2, .int .u64 f.f3, .int .u64 f.f4, .int .u64 f.f5, .int .i64 f.f6] 66)).alloc (.cells #[.int .i64 0, .int .i64 0, .int .i64 0, .int .u64 0, .int .u64 0, .int .u64 0, .int .i64 0] 66)) :=
 ⟨(Two.start w c f).alloc _, by
  have h := blk_new ((w.alloc (.cells #[.int .i64 c.w, .int .i64 c.d, .int .i64 c.i, .int .i64 c.s] 23)).alloc (.cells #[.int .i64 f.f0, .int .i64 f.f1, .int .i64 f.f2, .int .u64 f.f3, .int .u64 f.f4, .int .u64 f.f5, .int .i64 f.f6] 66)) (.cells #[.int .i64 0, .int .i64 0, .int .i64 0, .int .u64 0, .int .u64 0, .int .u64 0, .int .i64 0] 66)
  rwa [World.size_alloc, World.size_alloc] at h⟩
section
variable {w : World} {c : Cf} {f z : S66} {W W1 : World}
theorem Thr.below (h : Thr w c f z W) (hb : Below W.heap.size W W1) : Thr w c f z W1 := ⟨h.two.below hb, blk_below h.h2 hb⟩
theorem Thr.drew (h : Thr w c f z W) : Thr w c f z W.drew := ⟨h.two.drew, h.h2⟩
theorem Thr.alloc (h : Thr w c f z W) (o : Obj) : Thr w c f z (W.alloc o) := ⟨h.two.alloc o, blk_alloc h.h2 o⟩
theorem Thr.lt (h : Thr w c f z W) : w.heap.size + 1 + 1 < W.heap.size := blk_lt h.h2
theorem Thr.grown (h : Thr w c f z W) {g : Nat} (hg : W.grownBy W1 (some g)) (hne : w.heap.size + 1 + 1 < g) : Thr w c f z W1 :=
 ⟨⟨⟨hg.os.trans h.two.hb.os, hg.tape.trans h.two.hb.tape, hg.output.trans h.two.hb.output, Nat.le_trans h.two.hb.size hg.size, fun i hi => (hg.block i (by have := h.lt; omega) (by simp only [ne_eq, Option.some.injEq]; omega)).trans (h.two.hb.block i hi)⟩,
  blk_grown h.two.h0 hg (by simp only [ne_eq, Option.some.injEq]; omega), blk_grown h.two.h1 hg (by simp only [ne_eq, Option.some.injEq]; omega)⟩, blk_grown h.h2 hg (by simp only [ne_eq, Option.some.injEq]; omega)⟩
theorem thrCells (h : Thr w c f z W) : (W.cell? ⟨w.heap.size + 1 + 1, 0, none⟩ = some (.int .i64 z.f0) ∧ W.cell? ⟨w.heap.size + 1 + 1, 1, none⟩ = some (.int .i64 z.f1) ∧ W.cell? ⟨w.heap.size + 1 + 1, 2, none⟩ = some (.int .i64 z.f2) ∧ W.cell? ⟨w.heap.size + 1 + 1, 3, none⟩ = some (.int .u64 z.f3) ∧ W.cell? ⟨w.heap.size + 1 + 1, 4, none⟩ = some (.int .u64 z.f4) ∧ W.cell? ⟨w.heap.size + 1 + 1, 5, none⟩ = some (.int .u64 z.f5) ∧ W.cell? ⟨w.heap.size + 1 + 1, 6, none⟩ = some (.int .i64 z.f6)) ∧
  (∀ i, W.frozen? ⟨w.heap.size + 1 + 1, i, none⟩ = false) :=
 ⟨⟨(blk_cell h.h2 0).trans rfl, (blk_cell h.h2 1).trans rfl, (blk_cell h.h2 2).trans rfl, (blk_cell h.h2 3).trans rfl, (blk_cell h.h2 4).trans rfl, (blk_cell h.h2 5).trans rfl, (blk_cell h.h2 6).trans rfl⟩, fun i => blk_frozen h.h2 i⟩
theorem R_ans {base : Nat} {v : Value} {l : List Int} (hr : (Kd.int .u64).R 38 W base (fun _ => True) v l) (h : Thr w c f z W) (f' : S66) : (Kd.int .u64).R 38 (((((((W.setCell ⟨w.heap.size + 1 + 1, 0, none⟩ (.int .i64 f'.f0)).setCell ⟨w.heap.size + 1 + 1, 1, none⟩ (.int .i64 f'.f1)).setCell ⟨w.heap.size + 1 + 1, 2, none⟩ (.int .i64 f'.f2)).setCell ⟨w.heap.size + 1 + 1, 3, none⟩ (.int .u64 f'.f3)).setCell ⟨w.heap.size + 1 + 1, 4, none⟩ (.int .u64 f'.f4)).setCell ⟨w.heap.size + 1 + 1, 5, none⟩ (.int .u64 f'.f5)).setCell ⟨w.heap.size + 1 + 1, 6, none⟩ (.int .i64 f'.f6)) base (fun _ => True) v l := by
 have h0 := Kd.R_types hr h.h2 (fun q hq => by rcases List.mem_cons.1 hq with rfl | hq; decide; cases hq)
 have far : ∀ (V : World) (i : Nat) (u : Value), (Kd.int .u64).R 38 V base (fun k => True ∧ k ≠ w.heap.size + 1 + 1) v l → (Kd.int .u64).R 38 (V.setCell ⟨w.heap.size + 1 + 1, i, none⟩ u) base (fun k => True ∧ k ≠ w.heap.size + 1 + 1) v l := fun V i u hv => Kd.R_far hv (fun k hk => hk.2) u
 exact Kd.R_mono (far _ _ _ (far _ _ _ (far _ _ _ (far _ _ _ (far _ _ _ (far _ _ _ (far _ _ _ h0))))))) (fun _ _ => trivial)
theorem Thr.ans (h : Thr w c f z W) (f' : S66) : Thr w c f f' (((((((W.setCell ⟨w.heap.size + 1 + 1, 0, none⟩ (.int .i64 f'.f0)).setCell ⟨w.heap.size + 1 + 1, 1, none⟩ (.int .i64 f'.f1)).setCell ⟨w.heap.size + 1 + 1, 2, none⟩ (.int .i64 f'.f2)).setCell ⟨w.heap.size + 1 + 1, 3, none⟩ (.int .u64 f'.f3)).setCell ⟨w.heap.size + 1 + 1, 4, none⟩ (.int .u64 f'.f4)).setCell ⟨w.heap.size + 1 + 1, 5, none⟩ (.int .u64 f'.f5)).setCell ⟨w.heap.size + 1 + 1, 6, none⟩ (.int .i64 f'.f6)) := by
 have two : ∀ (V : World) (i : Nat) (u : Value), Two w c f V → Two w c f (V.setCell ⟨w.heap.size + 1 + 1, i, none⟩ u) := fun V i u hv =>
  ⟨hv.hb.setCell (p := ⟨w.heap.size + 1 + 1, i, none⟩) (by show w.heap.size ≤ w.heap.size + 1 + 1; omega) u, blk_far hv.h0 (by show w.heap.size ≠ w.heap.size + 1 + 1; omega) u, blk_far hv.h1 (by show w.heap.size + 1 ≠ w.heap.size + 1 + 1; omega) u⟩
 refine ⟨two _ _ _ (two _ _ _ (two _ _ _ (two _ _ _ (two _ _ _ (two _ _ _ (two _ _ _ h.two)))))), ?_⟩
 simpa using blk_set (blk_set (blk_set (blk_set (blk_set (blk_set (blk_set h.h2 0 (.int .i64 f'.f0)) 1 (.int .i64 f'.f1)) 2 (.int .i64 f'.f2)) 3 (.int .u64 f'.f3)) 4 (.int .u64 f'.f4)) 5 (.int .u64 f'.f5)) 6 (.int .i64 f'.f6)
end
theorem push_step (A : Option Addr) (cp : Nat) (c : Cf) (f f' : S66) (l l' : List Int) (w : World) (hC : Kd.C (Kd.int .u64) w A l.length l) (hcp : l.length ≤ cp) (hn : l.length ≤ 1000000)
  (hk : (goesB c l.length f 0 4 = false ∧ l' = l ∧ f' = f) ∨ (goesB c l.length f 0 4 = true ∧ ((f.f1 = 0 ∧ Does 195 174 c f l f' l') ∨ (f.f1 = 1 ∧ Does 195 175 c f l f' l') ∨ (f.f1 = 2 ∧ Does 195 176 c f l f' l') ∨ (f.f1 = 3 ∧ Does 195 177 c f l f' l')))) :
  Calls Tryz.prog 156 #[cfV c, .slice A l.length cp, frV f] w fun e w' => ∃ v, e = .returned (.tuple #[v, frV f']) ∧ (Kd.int .u64).R 38 w' w.heap.size (fun _ => True) v l' ∧ Below w.heap.size w w' := by
 have HT0 := qQ (Thr.start w c f)
 have HC := qQ hC
 have HCP := qQ hcp
 have HN := qQ hn
 clear hC hcp hn
 have HK := qQ hk
 clear hk
 go_enter Tryz.func156, Tryz.ntmps156
 go_wp2
 refine zS 7 [] (fun W' => Thr w c f ⟨0, 0, 0, 0, 0, 0, 0⟩ W') HT0.o.drew fun hHeld => ?_
 refine zT 0 1 10 ?_ (hy := zy13)
 refine zT 1 3 11 ?_ (hy := zy13)
 refine zY 2 7 12 ?_
 refine zO 3 15 13 fun K hK => ?_
 go_simp
 refine (clone54 A cp l _ (Kd.C_below HC.o HT0.o.drew.two.hb) HN.o).mono ?_
 rintro e w1 ⟨u, rfl, ho, hb⟩
 have HT1 := qQ (HT0.o.drew.below hb)
 have HO1 := qQ (Kd.R_lower (Kd.R_imp (d' := Kd.int .u64) rfl (fun _ _ _ _ _ h => h) ho) HT0.o.drew.two.hb.size)
 obtain ⟨A1, c1, rfl⟩ := Kd.R_slice ho
 clear ho hb
 refine hK.out _ _ HT1.o (fun hHeld => ?_)
 refine zY 4 31 14 ?_
 refine zO 5 63 15 fun K hK => ?_
 go_simp
 refine hK.out _ _ (HT1.o.alloc _) (fun hHeld => ?_)
 refine zY 6 127 8 ?_
 refine zD ?_
 have HST0 := qQ (show St 195 (w1.alloc (boxO f c (.slice A1 l.length c1) 195)) w1.heap.size w.heap.size f c (.slice A1 l.length c1) l (w1.alloc (boxO f c (.slice A1 l.length c1) 195)) from ⟨⟨rfl, rfl, rfl, Nat.le_refl _, fun _ _ _ => rfl⟩, blk_new _ _, Kd.R_alloc HO1.o _, by decide, by have := HT1.o.two.hb.size; simp; omega⟩)
 have HT2 := qQ (HT1.o.alloc (boxO f c (.slice A1 l.length c1) 195))
 have hgl : w1.heap.size < (w1.alloc (boxO f c (.slice A1 l.length c1) 195)).heap.size := by simp
 have hgg := HT1.o.lt
 generalize (w1.alloc (boxO f c (.slice A1 l.length c1) 195)) = w2 at HST0 HT2 hgl ⊢
 generalize w1.heap.size = g at HST0 hgl hgg ⊢
 have HG := qQ hgg
 have HGL := qQ hgl
 clear hgg hgl hHeld HT1 HO1 HT0
 have a0 : (w2.alloc (.cells #[.nilFunc, .nilFunc, .nilFunc, .nilFunc] 196)).cell? ⟨w2.heap.size, 0, none⟩ = some .nilFunc := by simp
 have a1 : (w2.alloc (.cells #[.nilFunc, .nilFunc, .nilFunc, .nilFunc] 196)).cell? ⟨w2.heap.size, 1, none⟩ = some .nilFunc := by simp
 have a2 : (w2.alloc (.cells #[.nilFunc, .nilFunc, .nilFunc, .nilFunc] 196)).cell? ⟨w2.heap.size, 2, none⟩ = some .nilFunc := by simp
 have a3 : (w2.alloc (.cells #[.nilFunc, .nilFunc, .nilFunc, .nilFunc] 196)).cell? ⟨w2.heap.size, 3, none⟩ = some .nilFunc := by simp
 have a4 : ∀ i, (w2.alloc (.cells #[.nilFunc, .nilFunc, .nilFunc, .nilFunc] 196)).frozen? ⟨w2.heap.size, i, none⟩ = false := fun i => by simp
 obtain ⟨ao, hao⟩ : ∃ ao, ao = (Obj.cells #[.func (.func 174) #[.pointer (some ⟨g, 0, none⟩)] #[], .func (.func 175) #[.pointer (some ⟨g, 0, none⟩)] #[], .func (.func 176) #[.pointer (some ⟨g, 0, none⟩)] #[], .func (.func 177) #[.pointer (some ⟨g, 0, none⟩)] #[]] 196) := ⟨_, rfl⟩
 have HT3 := qQ (HT2.o.alloc (.cells #[.func (.func 174) #[.pointer (some ⟨g, 0, none⟩)] #[], .func (.func 175) #[.pointer (some ⟨g, 0, none⟩)] #[], .func (.func 176) #[.pointer (some ⟨g, 0, none⟩)] #[], .func (.func 177) #[.pointer (some ⟨g, 0, none⟩)] #[]] 196))
 have HS3 := qQ (HST0.o.below (below_alloc (Below.refl _ _) (.cells #[.func (.func 174) #[.pointer (some ⟨g, 0, none⟩)] #[], .func (.func 175) #[.pointer (some ⟨g, 0, none⟩)] #[], .func (.func 176) #[.pointer (some ⟨g, 0, none⟩)] #[], .func (.func 177) #[.pointer (some ⟨g, 0, none⟩)] #[]] 196)))
 have HA3 := qQ (blk_new w2 (.cells #[.func (.func 174) #[.pointer (some ⟨g, 0, none⟩)] #[], .func (.func 175) #[.pointer (some ⟨g, 0, none⟩)] #[], .func (.func 176) #[.pointer (some ⟨g, 0, none⟩)] #[], .func (.func 177) #[.pointer (some ⟨g, 0, none⟩)] #[]] 196))
 have r0 := twoCells HT3.o.two
 clear hao ao
 rcases HK.o with ⟨hg, e1, e2⟩ | ⟨hg, hk⟩
 ·have e1 := e1.symm
  have e2 := e2.symm
  subst e1
  subst e2
  clear HK
  go_wp2_with (go_at_call 137; with_reducible refine (push_goes A cp l.length c f 0 4 _).mono ?_; rintro e w4 ⟨rfl, hb⟩; have HT4 := qQ (HT3.o.below hb); have HS4 := qQ (HS3.o.below hb); clear hb r0)
  refine zS 10 [9] (fun W' => W'.heap[g]? = some (boxO f c (.slice A1 l.length c1) 195)) HS4.o.drew.hb fun hHeld => ?_
  refine zY 0 1 34 ?_
  refine zY 1 3 35 ?_
  refine zY 2 7 36 ?_
  refine zT 3 15 37 ?_ (hy := zy10)
  refine zY 4 31 38 ?_
  refine zY 5 63 39 ?_
  refine zY 6 127 40 ?_
  refine zT 7 255 41 ?_ (hy := zy10)
  refine zY 8 511 6 ?_
  refine zL 9 1023 fun K hK => ?_
  have y0 := thrCells HT4.o
  have s0 := boxCells HS4.o.hb
  go_simp
  refine hK.out _ _ ?_
  refine zD ?_
  have HT9 := qQ (HT4.o.ans f).drew
  have HR9 := qQ (Kd.R_drew (R_ans HS4.o.hr HT4.o f))
  clear hHeld y0 s0
  go_wp2
  refine bodyPost_ret (results_tc rfl _ _ (w.heap.size + 1 + 1) 66 #[.int .i64 f.f0, .int .i64 f.f1, .int .i64 f.f2, .int .u64 f.f3, .int .u64 f.f4, .int .u64 f.f5, .int .i64 f.f6] (0, 0) _ rfl HT9.o.h2 Tryz.underlying66 rfl (by kernel_rfl)) rfl ?_
  exact ⟨_, rfl, HR9.o, HT9.o.two.hb⟩
 ·clear HK
  have e174 := fun args W => enters_of Tryz.func174 (by kernel_rfl) rfl args W
  have e175 := fun args W => enters_of Tryz.func175 (by kernel_rfl) rfl args W
  have e176 := fun args W => enters_of Tryz.func176 (by kernel_rfl) rfl args W
  have e177 := fun args W => enters_of Tryz.func177 (by kernel_rfl) rfl args W
  rcases hk with ⟨hpc, hd⟩ | ⟨hpc, hd⟩ | ⟨hpc, hd⟩ | ⟨hpc, hd⟩
  all_goals
   have HD := qQ hd
   have HPC := qQ hpc
   clear hd hpc
   go_wp2_with (go_at_call 137; with_reducible refine (push_goes A cp l.length c f 0 4 _).mono ?_; rintro e w4 ⟨rfl, hb⟩; have HT4 := qQ (HT3.o.below hb); have HS4 := qQ (HS3.o.below hb); have ha4 := blk_below HA3.o hb; have hpc := HPC.o; clear hb r0; have r0 := twoCells HT4.o.two; have b0 := (blk_cell ha4 0).trans rfl; have b1 := (blk_cell ha4 1).trans rfl; have b2 := (blk_cell ha4 2).trans rfl; have b3 := (blk_cell ha4 3).trans rfl; clear ha4)
   refine (HD.o _ _ _ _ (St.self HS4.o)).mono ?_
   rintro e w5 ⟨⟨u5, rfl⟩, v5, hs5⟩
   have HT5 := qQ (HT4.o.grown hs5.gb HG.o)
   have HS5 := qQ hs5
   clear hs5 r0 b0 b1 b2 b3
   go_wp2
   obtain ⟨A5, c5, rfl, _, _⟩ := Kd.R_reads HS5.o.hr
   refine zS 10 [9] (fun W' => W'.heap[g]? = some (boxO f' c (.slice A5 l'.length c5) 195)) HS5.o.drew.hb fun hHeld => ?_
   refine zY 0 1 34 ?_
   refine zY 1 3 35 ?_
   refine zY 2 7 36 ?_
   refine zT 3 15 37 ?_ (hy := zy10)
   refine zY 4 31 38 ?_
   refine zY 5 63 39 ?_
   refine zY 6 127 40 ?_
   refine zT 7 255 41 ?_ (hy := zy10)
   refine zY 8 511 6 ?_
   refine zL 9 1023 fun K hK => ?_
   have y0 := thrCells HT5.o
   have s0 := boxCells HS5.o.hb
   go_simp
   refine hK.out _ _ ?_
   refine zD ?_
   have HT9 := qQ (HT5.o.ans f').drew
   have HR9 := qQ (Kd.R_drew (R_ans HS5.o.hr HT5.o f'))
   clear hHeld y0 s0
   go_wp2
   refine bodyPost_ret (results_tc rfl _ _ (w.heap.size + 1 + 1) 66 #[.int .i64 f'.f0, .int .i64 f'.f1, .int .i64 f'.f2, .int .u64 f'.f3, .int .u64 f'.f4, .int .u64 f'.f5, .int .i64 f'.f6] (0, 0) _ rfl HT9.o.h2 Tryz.underlying66 rfl (by kernel_rfl)) rfl ?_
   exact ⟨_, rfl, HR9.o, HT9.o.two.hb⟩
end
section
attribute [local go_sem] Oper.semAt_some
structure PRd (c : Cf) (t : List S45) (At : Option Addr) (ct : Nat) (m : List Int) (Am : Option Addr) (cm : Nat) (ws : List S76) (Aw : Option Addr) (cw : Nat) (ss : List S68) (As : Option Addr) (cs_ : Nat) (W : World) : Prop where
 hT : Kd.C k45 W At t.length t
 hM : Kd.C (Kd.int .u64) W Am m.length m
 hW : Kd.C k76 W Aw ws.length ws
 hS : Kd.C k68 W As ss.length ss
 cT : t.length ≤ ct
 cM : m.length ≤ cm
theorem PRd.below {c : Cf} {t : List S45} {At : Option Addr} {ct : Nat} {m : List Int} {Am : Option Addr} {cm : Nat} {ws : List S76} {Aw : Option Addr} {cw : Nat} {ss : List S68} {As : Option Addr} {cs_ : Nat} {W W1 : World} (h : PRd c t At ct m Am cm ws Aw cw ss As cs_ W) (hb : Below W.heap.size W W1) : PRd c t At ct m Am cm ws Aw cw ss As cs_ W1 := ⟨Kd.C_below h.hT hb, Kd.C_below h.hM hb, Kd.C_below h.hW hb, Kd.C_below h.hS hb, h.cT, h.cM⟩
structure PMay (c : Cf) (t : List S45) (m : List Int) (ws : List S76) (ss : List S68) : Prop where
 may : mayB c = true
 fo : forestB t = true
 ml : (m.length : Int) = sizeF c
 wl : (ws.length : Int) = c.w
 sl : ss.length ≤ 3
 nt : t.length ≤ 1000000
 wk : ∀ x ∈ ws, 0 ≤ x.f0 ∧ x.f0 < 16 ∧ thinkB true t x.f1 = true ∧ x.f1.length ≤ 1000000
 sb : ∀ s ∈ ss, 0 ≤ s.f0 ∧ s.f0 < 6 ∧ (∀ r ∈ s.f1, 0 ≤ r ∧ r < (t.length : Int)) ∧ (s.f0 ≠ 0 → s.f1 ≠ []) ∧ s.f1.length ≤ 1000000
theorem workMay_true (c : Cf) (t : List S45) (m : List Int) (i : Int) (x : S76) (h1 : mayB c = true) (h2 : forestB t = true) (h3 : (m.length : Int) = sizeF c) (h4 : 0 ≤ i) (h5 : i < c.w) (h6 : 0 ≤ x.f0) (h7 : x.f0 < 16) (h8 : thinkB true t x.f1 = true) (h9 : t.length ≤ 1000000) (h10 : x.f1.length ≤ 1000000) :
  work_May.f c.w c.d c.i c.s t m i x.f0 x.f1 x.f2.f0 x.f2.f1 x.f2.f2 x.f2.f3 x.f2.f4 x.f2.f5 x.f2.f6 x.f3 x.f4 = some true := by
 unfold work_May.f
 rw [may_some c, size_some c, h1]
 simp [forest_May.f, think_May.f, h2, h3, h4, h5, h6, h7, h8, h9, h10]
theorem lame_67 (c : Cf) (t : List S45) (At : Option Addr) (ct : Nat) (m : List Int) (Am : Option Addr) (cm : Nat) (ws : List S76) (Aw : Option Addr) (cw : Nat) (ss : List S68) (As : Option Addr) (cs_ : Nat) (fv : Value) (Bt : Nat) (W : World) (hp : PMay c t m ws ss) (hr : PRd c t At ct m Am cm ws Aw cw ss As cs_ W) (hb : W.heap[Bt]? = some (.cells #[.int .i64 c.w, .int .i64 c.d, .int .i64 c.i, .int .i64 c.s, .slice At t.length ct, .slice Am m.length cm, .slice Aw ws.length cw, .slice As ss.length cs_] 34 (0, 0))) (hwn : ws.length ≤ 1000000) :
  Calls Tryz.prog 67 #[fv, .pointer (some ⟨Bt, 0, none⟩)] W fun e W' => (∃ v, e = .returned v) ∧ Below W.heap.size W W' := by
 have HP := qQ hp
 have HR := qQ hr
 have HB := qQ hb
 have p6 := (blk_cell hb 6).trans rfl
 clear hp hr hb
 go_enter Tryz.func67, Tryz.ntmps67
 go_wp2
 go_loopw [8] (fun i wr => ∃ k : Nat, k ≤ ws.length ∧ i = .int .i64 (k : Int) ∧ Aside0 (Below W.heap.size W wr))
  (fun i _ => ws.length - (intOf i).toNat)
 case atStart => exact ⟨0, by omega, rfl, ⟨Below.refl _ _⟩⟩
 case round =>
  obtain ⟨k, hk, rfl, HW⟩ := hrel
  clear p6
  by_cases hlt : k < ws.length
  ·have hrw := HR.o.below HW.o
   obtain ⟨ad, A1, c1, e0, x0, x1, x2, x3, x4, x5, x6, x7, x8, x9, x10, hl1, hc1⟩ := at_T76 hrw.hW (k : Int) (by omega) (by omega)
   cases e0
   obtain ⟨q, hq⟩ : ∃ q, rd_T76 ws (k : Int) = q := ⟨_, rfl⟩
   have HQ := qQ (show q ∈ ws by rw [← hq]; simp [rd_T76, List.getD, List.getElem?_eq_getElem hlt])
   rw [hq] at x0 x1 x2 x3 x4 x5 x6 x7 x8 x9 x10 hl1 hc1
   simp only [Int.toNat_natCast] at x0 x1 x2 x3 x4 x5 x6 x7 x8 x9 x10
   clear hq hrw
   have HL1 := qQ hl1
   have HC1 := qQ hc1
   clear hl1 hc1
   have kk : ((k : Int) < (ws.length : Int)) = True := eq_true (by omega)
   have hh := blk_below HB.o HW.o
   have p0 := (blk_cell (blk_alloc hh (.cells #[.int .i64 q.f0, .slice A1 q.f1.length c1, .int .i64 q.f2.f0, .int .i64 q.f2.f1, .int .i64 q.f2.f2, .int .u64 q.f2.f3, .int .u64 q.f2.f4, .int .u64 q.f2.f5, .int .i64 q.f2.f6, .int .i64 q.f3, .int .i64 q.f4] 76)) 0).trans rfl
   have p1 := (blk_cell (blk_alloc hh (.cells #[.int .i64 q.f0, .slice A1 q.f1.length c1, .int .i64 q.f2.f0, .int .i64 q.f2.f1, .int .i64 q.f2.f2, .int .u64 q.f2.f3, .int .u64 q.f2.f4, .int .u64 q.f2.f5, .int .i64 q.f2.f6, .int .i64 q.f3, .int .i64 q.f4] 76)) 1).trans rfl
   have p2 := (blk_cell (blk_alloc hh (.cells #[.int .i64 q.f0, .slice A1 q.f1.length c1, .int .i64 q.f2.f0, .int .i64 q.f2.f1, .int .i64 q.f2.f2, .int .u64 q.f2.f3, .int .u64 q.f2.f4, .int .u64 q.f2.f5, .int .i64 q.f2.f6, .int .i64 q.f3, .int .i64 q.f4] 76)) 2).trans rfl
   have p3 := (blk_cell (blk_alloc hh (.cells #[.int .i64 q.f0, .slice A1 q.f1.length c1, .int .i64 q.f2.f0, .int .i64 q.f2.f1, .int .i64 q.f2.f2, .int .u64 q.f2.f3, .int .u64 q.f2.f4, .int .u64 q.f2.f5, .int .i64 q.f2.f6, .int .i64 q.f3, .int .i64 q.f4] 76)) 3).trans rfl
   have p4 := (blk_cell (blk_alloc hh (.cells #[.int .i64 q.f0, .slice A1 q.f1.length c1, .int .i64 q.f2.f0, .int .i64 q.f2.f1, .int .i64 q.f2.f2, .int .u64 q.f2.f3, .int .u64 q.f2.f4, .int .u64 q.f2.f5, .int .i64 q.f2.f6, .int .i64 q.f3, .int .i64 q.f4] 76)) 4).trans rfl
   have p5 := (blk_cell (blk_alloc hh (.cells #[.int .i64 q.f0, .slice A1 q.f1.length c1, .int .i64 q.f2.f0, .int .i64 q.f2.f1, .int .i64 q.f2.f2, .int .u64 q.f2.f3, .int .u64 q.f2.f4, .int .u64 q.f2.f5, .int .i64 q.f2.f6, .int .i64 q.f3, .int .i64 q.f4] 76)) 5).trans rfl
   have HN := qQ (blk_new wr (.cells #[.int .i64 q.f0, .slice A1 q.f1.length c1, .int .i64 q.f2.f0, .int .i64 q.f2.f1, .int .i64 q.f2.f2, .int .u64 q.f2.f3, .int .u64 q.f2.f4, .int .u64 q.f2.f5, .int .i64 q.f2.f6, .int .i64 q.f3, .int .i64 q.f4] 76))
   have n0 := (blk_cell HN.o 0).trans rfl
   have n1 := (blk_cell HN.o 1).trans rfl
   have n2 := (blk_cell HN.o 2).trans rfl
   have n3 := (blk_cell HN.o 3).trans rfl
   have n4 := (blk_cell HN.o 4).trans rfl
   have n5 := (blk_cell HN.o 5).trans rfl
   have n6 := (blk_cell HN.o 6).trans rfl
   have n7 := (blk_cell HN.o 7).trans rfl
   have n8 := (blk_cell HN.o 8).trans rfl
   have n9 := (blk_cell HN.o 9).trans rfl
   have n10 := (blk_cell HN.o 10).trans rfl
   have HW1 := qQ (HW.o.alloc HW.o.size (.cells #[.int .i64 q.f0, .slice A1 q.f1.length c1, .int .i64 q.f2.f0, .int .i64 q.f2.f1, .int .i64 q.f2.f2, .int .u64 q.f2.f3, .int .u64 q.f2.f4, .int .u64 q.f2.f5, .int .i64 q.f2.f6, .int .i64 q.f3, .int .i64 q.f4] 76))
   clear hh
   have HT := qQ (workMay_true c t m (k : Int) q HP.o.may HP.o.fo HP.o.ml (by omega) (by have := HP.o.wl; omega) (HP.o.wk q HQ.o).1 (HP.o.wk q HQ.o).2.1 (HP.o.wk q HQ.o).2.2.1 HP.o.nt (HP.o.wk q HQ.o).2.2.2)
   go_wp2_with (go_at_call 68; (with_reducible refine (work_May.calls c.w c.d c.i c.s At ct t Am cm m (k : Int) q.f0 A1 c1 q.f1 q.f2.f0 q.f2.f1 q.f2.f2 q.f2.f3 q.f2.f4 q.f2.f5 q.f2.f6 q.f3 q.f4 true _ (HR.o.below HW1.o).hT HR.o.cT (HR.o.below HW1.o).hM HR.o.cM (Kd.C_alloc HC1.o _) HL1.o HT.o).mono ?_); rintro e w9 ⟨rfl, hb⟩; have HW2 := qQ (below_then HW1.o HW1.o.size hb); clear hb)
   go_roundw
   case rel => exact ⟨k + 1, by omega, by simp, HW2⟩
   case measure => simp [intOf]; omega
  ·obtain rfl : k = ws.length := by omega
   go_wp2
   go_end0
   exact ⟨⟨_, rfl⟩, HW.o⟩
theorem lame_35 (n : Nat) (c : Cf) (t : List S45) (At : Option Addr) (ct : Nat) (m : List Int) (Am : Option Addr) (cm : Nat) (ws : List S76) (Aw : Option Addr) (cw : Nat) (ss : List S68) (As : Option Addr) (cs_ : Nat) (w : World) :
  CallsIn Fence.wide n Tryz.prog 35 #[.agg #[.int .i64 c.w, .int .i64 c.d, .int .i64 c.i, .int .i64 c.s, .slice At t.length ct, .slice Am m.length cm, .slice Aw ws.length cw, .slice As ss.length cs_]] w fun e w' => e = .returned (.func (.func 67) #[] #[.pointer (some ⟨w.heap.size, 0, none⟩)]) ∧ w' = w.alloc (.cells #[.int .i64 c.w, .int .i64 c.d, .int .i64 c.i, .int .i64 c.s, .slice At t.length ct, .slice Am m.length cm, .slice Aw ws.length cw, .slice As ss.length cs_] 34) := by
 refine callsIn_of_wp Tryz.func35 rfl trivial ?_ rfl
 simp only [Tryz.ntmps35, List.size_toArray, List.length_cons, List.length_nil, Nat.reduceAdd, Nat.reduceSub, Array.replicate_succ, Array.replicate_zero, List.push_toArray, List.append_toArray, List.nil_append, List.cons_append]
 gi_wp2
 go_ret
 exact ⟨rfl, rfl⟩
theorem lame_stops (n N : Nat) (c : Cf) (t : List S45) (At : Option Addr) (ct : Nat) (m : List Int) (Am : Option Addr) (cm : Nat) (ws : List S76) (Aw : Option Addr) (cw : Nat) (ss : List S68) (As : Option Addr) (cs_ : Nat) (Bt : Nat) (Wc : World) (hp : PMay c t m ws ss) (hr : PRd c t At ct m Am cm ws Aw cw ss As cs_ Wc) (hb : Wc.heap[Bt]? = some (.cells #[.int .i64 c.w, .int .i64 c.d, .int .i64 c.i, .int .i64 c.s, .slice At t.length ct, .slice Am m.length cm, .slice Aw ws.length cw, .slice As ss.length cs_] 34 (0, 0))) (hwn : ws.length ≤ 1000000) :
  SeqStopsK Fence.wide n Tryz.prog 67 #[.pointer (some ⟨Bt, 0, none⟩)] (fun x : Nat => #[Value.int .i64 (x : Nat)]) (Below N) (fun ys => ys = []) (fun _ => False) 0 Wc := fun l J Jx W hW habJ _ _ h0 =>
 callsIn_wide.2 ((lame_67 c t At ct m Am cm ws Aw cw ss As cs_ _ Bt W hp (hr.below hW) (blk_below hb hW) hwn).mono (fun e W' h => ⟨h.1, .inl ⟨[], rfl, habJ _ _ _ none h0 (grown_of_below h.2 none) (fun r e => by cases e)⟩⟩))
theorem index_ints0 (A : Option Addr) (cap : Nat) (l : List Int) (fid : FuncId) (pv : Value) (w : World) (hC : Kd.C (Kd.int .i64) w A l.length l) (hn : l.length ≤ 1000000) (hen : Enters Tryz.prog fid)
  (hf : ∀ x, x ∈ l → ∀ (W : World), Below w.heap.size w W → Calls Tryz.prog fid #[.int .i64 x, pv] W fun e W' => e = .returned (.bool false) ∧ Below W.heap.size W W') :
  Calls Tryz.prog 69 #[.slice A l.length cap, .func (.func fid) #[] #[pv]] w fun e w' => e = .returned (.int .i64 (-1)) ∧ Below w.heap.size w w' := by
 have HF := qQ hf
 have HCC := qQ hC
 clear hf hC
 have een := fun args W => hen args W
 clear hen
 go_enter Tryz.func69, Tryz.ntmps69
 go_wp2
 go_loopw [8] (fun i wr => ∃ k : Nat, k ≤ l.length ∧ i = .int .i64 (k : Int) ∧ Aside0 (Below w.heap.size w wr))
  (fun i _ => l.length - (intOf i).toNat)
 case atStart => exact ⟨0, by omega, rfl, ⟨Below.refl _ _⟩⟩
 case round =>
  obtain ⟨k, hk, rfl, HB⟩ := hrel
  by_cases hlt : k < l.length
  ·obtain ⟨ad, e0, x0⟩ := Kd.at_int (Kd.C_below HCC.o HB.o) (k : Int) (by omega) (by omega)
   cases e0
   obtain ⟨q, hq⟩ : ∃ q, rd l (k : Int) = q := ⟨_, rfl⟩
   have HM := qQ (show q ∈ l by rw [← hq]; simp [rd, List.getElem?_eq_getElem hlt])
   rw [hq] at x0
   simp only [Int.toNat_natCast] at x0
   clear hq
   have kk : ((k : Int) < (l.length : Int)) = True := eq_true (by omega)
   go_wp2
   refine (HF.o q HM.o _ HB.o).mono ?_
   rintro e w' ⟨rfl, hb⟩
   have HB2 := qQ (HB.o.trans (hb.mono HB.o.size))
   clear hb
   go_wp2
   go_roundw
   case rel => exact ⟨k + 1, by omega, by simp, HB2⟩
   case measure => simp [intOf]; omega
  ·obtain rfl : k = l.length := by omega
   go_wp2
   go_ret
   exact ⟨rfl, HB.o⟩
theorem contains_ints0 (A : Option Addr) (cap : Nat) (l : List Int) (fid : FuncId) (pv : Value) (w : World) (hC : Kd.C (Kd.int .i64) w A l.length l) (hn : l.length ≤ 1000000) (hen : Enters Tryz.prog fid)
  (hf : ∀ x, x ∈ l → ∀ (W : World), Below w.heap.size w W → Calls Tryz.prog fid #[.int .i64 x, pv] W fun e W' => e = .returned (.bool false) ∧ Below W.heap.size W W') :
  Calls Tryz.prog 38 #[.slice A l.length cap, .func (.func fid) #[] #[pv]] w fun e w' => e = .returned (.bool false) ∧ Below w.heap.size w w' := by
 have HI := qQ (index_ints0 A cap l fid pv w hC hn hen hf)
 clear hC hen hf
 go_enter Tryz.func38, Tryz.ntmps38
 go_wp2_with (go_at_call 69; (with_reducible refine HI.o.mono ?_); rintro e w' ⟨rfl, hb⟩; have HB := qQ hb; clear hb)
 go_ret
 exact ⟨rfl, HB.o⟩
theorem odd_37 (c : Cf) (t : List S45) (At : Option Addr) (ct : Nat) (m : List Int) (Am : Option Addr) (cm : Nat) (ws : List S76) (Aw : Option Addr) (cw : Nat) (ss : List S68) (As : Option Addr) (cs_ : Nat) (r : Int) (Bt : Nat) (W : World) (hb : W.heap[Bt]? = some (.cells #[.int .i64 c.w, .int .i64 c.d, .int .i64 c.i, .int .i64 c.s, .slice At t.length ct, .slice Am m.length cm, .slice Aw ws.length cw, .slice As ss.length cs_] 34 (0, 0))) (h0 : 0 ≤ r) (h1 : r < (t.length : Int)) :
  Calls Tryz.prog 37 #[.int .i64 r, .pointer (some ⟨Bt, 0, none⟩)] W fun e W' => e = .returned (.bool false) ∧ Below W.heap.size W W' := by
 have p4 := (blk_cell hb 4).trans rfl
 have d0 : decide (r < 0) = false := decide_eq_false (by omega)
 have d1 : decide (r ≥ (t.length : Int)) = false := decide_eq_false (by omega)
 clear hb h0 h1
 go_enter Tryz.func37, Tryz.ntmps37
 go_wp2
 go_ret
 exact ⟨rfl, Below.refl _ _⟩
theorem sub_36 (c : Cf) (t : List S45) (At : Option Addr) (ct : Nat) (m : List Int) (Am : Option Addr) (cm : Nat) (ws : List S76) (Aw : Option Addr) (cw : Nat) (ss : List S68) (As : Option Addr) (cs_ : Nat) (s : S68) (A1 : Option Addr) (c1 : Nat) (Bt : Nat) (W : World) (hb : W.heap[Bt]? = some (.cells #[.int .i64 c.w, .int .i64 c.d, .int .i64 c.i, .int .i64 c.s, .slice At t.length ct, .slice Am m.length cm, .slice Aw ws.length cw, .slice As ss.length cs_] 34 (0, 0))) (hC : Kd.C (Kd.int .i64) W A1 s.f1.length s.f1) (hs : 0 ≤ s.f0 ∧ s.f0 < 6 ∧ (∀ r ∈ s.f1, 0 ≤ r ∧ r < (t.length : Int)) ∧ (s.f0 ≠ 0 → s.f1 ≠ []) ∧ s.f1.length ≤ 1000000) :
  Calls Tryz.prog 36 #[.agg #[.int .i64 s.f0, .slice A1 s.f1.length c1, .int .i64 s.f2.f0, .int .i64 s.f2.f1, .int .i64 s.f2.f2, .int .u64 s.f2.f3, .int .u64 s.f2.f4, .int .u64 s.f2.f5, .int .i64 s.f2.f6], .pointer (some ⟨Bt, 0, none⟩)] W fun e W' => e = .returned (.bool false) ∧ Below W.heap.size W W' := by
 have HB0 := qQ (below_alloc (Below.refl W.heap.size W) (.cells #[.int .i64 s.f0, .slice A1 s.f1.length c1, .int .i64 s.f2.f0, .int .i64 s.f2.f1, .int .i64 s.f2.f2, .int .u64 s.f2.f3, .int .u64 s.f2.f4, .int .u64 s.f2.f5, .int .i64 s.f2.f6] 68))
 have HH := qQ (blk_new W (.cells #[.int .i64 s.f0, .slice A1 s.f1.length c1, .int .i64 s.f2.f0, .int .i64 s.f2.f1, .int .i64 s.f2.f2, .int .u64 s.f2.f3, .int .u64 s.f2.f4, .int .u64 s.f2.f5, .int .i64 s.f2.f6] 68))
 have HC := qQ hC
 have HS := qQ hs
 have HB := qQ hb
 have s0 := (blk_cell HH.o 0).trans rfl
 have s1 := (blk_cell HH.o 1).trans rfl
 have d0 : decide (s.f0 < 0) = false := decide_eq_false (by have := HS.o.1; omega)
 have d1 : decide (s.f0 ≥ 6) = false := decide_eq_false (by have := HS.o.2.1; omega)
 have e37 := fun args W => enters_of Tryz.func37 (by kernel_rfl) rfl args W
 clear hC hs hb
 by_cases hz : s.f0 = 0
 ·have b0 : (s.f0 != 0) = false := by simp [hz]
  clear hz
  go_enter Tryz.func36, Tryz.ntmps36
  go_wp2_with (go_at_call 38; (with_reducible refine (contains_ints0 A1 c1 s.f1 37 _ _ (Kd.C_below HC.o HB0.o) HS.o.2.2.2.2 (enters_of Tryz.func37 (by kernel_rfl) rfl) (fun x hx V hV => odd_37 c t At ct m Am cm ws Aw cw ss As cs_ x Bt V (blk_below (blk_below HB.o HB0.o) hV) (HS.o.2.2.1 x hx).1 (HS.o.2.2.1 x hx).2)).mono ?_); rintro e w1 ⟨rfl, hd⟩; have HB1 := qQ (below_then HB0.o HB0.o.size hd); replace s0 := cell_below s0 hd; replace s1 := cell_below s1 hd; clear hd)
  go_ret
  exact ⟨rfl, HB1.o⟩
 ·have b0 : (s.f0 != 0) = true := by simp [hz]
  have b1 : ((s.f1.length : Int) == 0) = false := by simpa using HS.o.2.2.2.1 hz
  clear hz
  go_enter Tryz.func36, Tryz.ntmps36
  go_wp2_with (go_at_call 38; (with_reducible refine (contains_ints0 A1 c1 s.f1 37 _ _ (Kd.C_below HC.o HB0.o) HS.o.2.2.2.2 (enters_of Tryz.func37 (by kernel_rfl) rfl) (fun x hx V hV => odd_37 c t At ct m Am cm ws Aw cw ss As cs_ x Bt V (blk_below (blk_below HB.o HB0.o) hV) (HS.o.2.2.1 x hx).1 (HS.o.2.2.1 x hx).2)).mono ?_); rintro e w1 ⟨rfl, hd⟩; have HB1 := qQ (below_then HB0.o HB0.o.size hd); replace s0 := cell_below s0 hd; replace s1 := cell_below s1 hd; clear hd)
  go_ret
  exact ⟨rfl, HB1.o⟩
structure PX (c : Cf) (t : List S45) (At : Option Addr) (ct : Nat) (m : List Int) (Am : Option Addr) (cm : Nat) (ws : List S76) (Aw : Option Addr) (cw : Nat) (ss : List S68) (As : Option Addr) (cs_ : Nat) (w : World) (pre : List Nat) (W : World) : Prop where
 bel : Below w.heap.size w W
 h0 : W.heap[w.heap.size]? = some (.cells #[.int .i64 c.w, .int .i64 c.d, .int .i64 c.i, .int .i64 c.s, .slice At t.length ct, .slice Am m.length cm, .slice Aw ws.length cw, .slice As ss.length cs_] 34 (0, 0))
 h1 : W.heap[w.heap.size + 1]? = some (.cells #[.bool false] 4 (0, 0))
theorem px_own (c : Cf) (t : List S45) (At : Option Addr) (ct : Nat) (m : List Int) (Am : Option Addr) (cm : Nat) (ws : List S76) (Aw : Option Addr) (cw : Nat) (ss : List S68) (As : Option Addr) (cs_ : Nat) (w : World) (B : Nat) (hw : w.heap.size + 1 < B) : OwnFrom B (PX c t At ct m Am cm ws Aw cw ss As cs_ w) := fun pre W W' row h hgr hr => by
 have blk : ∀ {b : Nat} {o : Obj}, W.heap[b]? = some o → b < B → W'.heap[b]? = some o := fun {b o} hb hlt => (hgr.block b (Array.getElem?_eq_some_iff.1 hb).1 (fun e => by have := (hr b e.symm).1; omega)).trans hb
 exact ⟨h.bel.grown hgr (by have := (Array.getElem?_eq_some_iff.1 h.h1).1; omega) (fun k e => by have := (hr k e).1; omega), blk h.h0 (by omega), blk h.h1 hw⟩
theorem PMay_in (n : Nat) (hn : 3 ≤ n) (c : Cf) (t : List S45) (At : Option Addr) (ct : Nat) (m : List Int) (Am : Option Addr) (cm : Nat) (ws : List S76) (Aw : Option Addr) (cw : Nat) (ss : List S68) (As : Option Addr) (cs_ : Nat) (w : World) (hp : PMay c t m ws ss) (hr : PRd c t At ct m Am cm ws Aw cw ss As cs_ w) (hwn : ws.length ≤ 1000000) :
  CallsIn Fence.wide n Tryz.prog 17 #[.agg #[.int .i64 c.w, .int .i64 c.d, .int .i64 c.i, .int .i64 c.s, .slice At t.length ct, .slice Am m.length cm, .slice Aw ws.length cw, .slice As ss.length cs_]] w fun e W' => e = .returned (.bool true) ∧ Below w.heap.size w W' := by
 have h1 : 1 ≤ n := by omega
 have HB0 := qQ ((((Below.refl w.heap.size w).alloc (Nat.le_refl _) (.cells #[.int .i64 c.w, .int .i64 c.d, .int .i64 c.i, .int .i64 c.s, .slice At t.length ct, .slice Am m.length cm, .slice Aw ws.length cw, .slice As ss.length cs_] 34)).alloc (by simp) (.cells #[.bool false] 4)))
 have hh0 := blk_alloc (blk_new w (.cells #[.int .i64 c.w, .int .i64 c.d, .int .i64 c.i, .int .i64 c.s, .slice At t.length ct, .slice Am m.length cm, .slice Aw ws.length cw, .slice As ss.length cs_] 34)) (.cells #[.bool false] 4)
 have hh1 := blk_new (w.alloc (.cells #[.int .i64 c.w, .int .i64 c.d, .int .i64 c.i, .int .i64 c.s, .slice At t.length ct, .slice Am m.length cm, .slice Aw ws.length cw, .slice As ss.length cs_] 34)) (.cells #[.bool false] 4)
 rw [World.size_alloc] at hh1
 have HH := qQ (And.intro hh0 hh1)
 have HP := qQ hp
 have HR := qQ hr
 have p0 := (blk_cell hh0 0).trans rfl
 have p1 := (blk_cell hh0 1).trans rfl
 have p2 := (blk_cell hh0 2).trans rfl
 have p3 := (blk_cell hh0 3).trans rfl
 have p4 := (blk_cell hh0 4).trans rfl
 have p5 := (blk_cell hh0 5).trans rfl
 have p6 := (blk_cell hh0 6).trans rfl
 have p7 := (blk_cell hh0 7).trans rfl
 have b0 : ((ws.length : Int) != c.w) = false := by simp [hp.wl]
 have b1 : decide ((ss.length : Int) > 3) = false := decide_eq_false (by have := hp.sl; omega)
 have HMAY := qQ (show lay_May.f c.w c.d c.i c.s = some true by rw [may_some c, hp.may])
 clear hp hr hh0 hh1
 refine callsIn_of_wp_marks Tryz.func17 rfl trivial ?_ rfl
 simp only [Tryz.ntmps17, List.size_toArray, List.length_cons, List.length_nil, Nat.reduceAdd, Nat.reduceSub, Array.replicate_succ, Array.replicate_zero, List.push_toArray, List.append_toArray, List.nil_append, List.cons_append]
 gi_wp2_with (first | (refine ⟨trivial, (callsIn_wide.2 (lay_May.calls c.w c.d c.i c.s _ _ HMAY.o)).mono ?_⟩; rintro e w1 ⟨rfl, hd⟩; have HB1 := qQ (below_then HB0.o HB0.o.size hd); have HH1 := qQ (And.intro (blk_below HH.o.1 hd) (blk_below HH.o.2 hd)); clear hd p0 p1 p2 p3 p4 p5 p6 p7; have p0 := (blk_cell HH1.o.1 0).trans rfl; have p1 := (blk_cell HH1.o.1 1).trans rfl; have p2 := (blk_cell HH1.o.1 2).trans rfl; have p3 := (blk_cell HH1.o.1 3).trans rfl; have p4 := (blk_cell HH1.o.1 4).trans rfl; have p5 := (blk_cell HH1.o.1 5).trans rfl; have p6 := (blk_cell HH1.o.1 6).trans rfl; have p7 := (blk_cell HH1.o.1 7).trans rfl) | (refine ⟨trivial, (lame_35 (n - 1) c t At ct m Am cm ws Aw cw ss As cs_ _).mono ?_⟩; rintro e w' ⟨rfl, rfl⟩))
 have HD0 := qQ (show PX c t At ct m Am cm ws Aw cw ss As cs_ w [] _ from ⟨HB1.o.alloc HB1.o.size (.cells #[.int .i64 c.w, .int .i64 c.d, .int .i64 c.i, .int .i64 c.s, .slice At t.length ct, .slice Am m.length cm, .slice Aw ws.length cw, .slice As ss.length cs_] 34), blk_alloc HH1.o.1 _, blk_alloc HH1.o.2 _⟩)
 have hkb := blk_new w1 (.cells #[.int .i64 c.w, .int .i64 c.d, .int .i64 c.i, .int .i64 c.s, .slice At t.length ct, .slice Am m.length cm, .slice Aw ws.length cw, .slice As ss.length cs_] 34)
 have hrd := (HR.o.below HD0.o.bel)
 have hsz : (w1.alloc (.cells #[.int .i64 c.w, .int .i64 c.d, .int .i64 c.i, .int .i64 c.s, .slice At t.length ct, .slice Am m.length cm, .slice Aw ws.length cw, .slice As ss.length cs_] 34)).heap.size = w1.heap.size + 1 := by simp
 have hw1 := blk_lt HH1.o.2
 clear p0 p1 p2 p3 p4 p5 p6 p7
 generalize w1.alloc (.cells #[.int .i64 c.w, .int .i64 c.d, .int .i64 c.i, .int .i64 c.s, .slice At t.length ct, .slice Am m.length cm, .slice Aw ws.length cw, .slice As ss.length cs_] 34) = Wc at HD0 hkb hsz hrd ⊢
 generalize w1.heap.size = g at hkb hsz hw1 ⊢
 have HRD := qQ hrd
 have HKB := qQ hkb
 have HSZ := qQ hsz
 clear HH HH1 HB1 HB0 hrd hkb hsz
 refine wpIn_rangeFunc_ownF rfl h1 (gf := 67) (lb := #[.pointer (some ⟨g, 0, none⟩)]) rfl trivial (enters_of Tryz.func67 (by kernel_rfl) rfl)
  (lame_stops (n - 1) w.heap.size c t At ct m Am cm ws Aw cw ss As cs_ g Wc HP.o HRD.o HKB.o hwn) belowK_t (belowK_b HD0.o.bel.size) (Below.refl _ _) (fun _ => rfl)
  (PX c t At ct m Am cm ws Aw cw ss As cs_ w) (fun c pre W => False)
  (px_own c t At ct m Am cm ws Aw cw ss As cs_ w _ (by have := HSZ.o; omega)) (fun c s W W' row hs _ _ => hs) HD0.o (fun x => { tmps := #[.agg #[.int .i64 c.w, .int .i64 c.d, .int .i64 c.i, .int .i64 c.s, .slice At t.length ct, .slice Am m.length cm, .slice Aw ws.length cw, .slice As ss.length cs_], .pointer (some ⟨w.heap.size, 0, none⟩), .pointer (some ⟨w.heap.size + 1, 0, none⟩), .pointer (some ⟨w.heap.size, 0, none⟩), .agg #[.int .i64 c.w, .int .i64 c.d, .int .i64 c.i, .int .i64 c.s], .bool true, .bool false, .bool false, .pointer (some ⟨w.heap.size, 6, none⟩), .slice Aw ws.length cw, .int .i64 (ws.length : Int), .pointer (some ⟨w.heap.size, 0, none⟩), .pointer (some ⟨w.heap.size, 0, none⟩), .int .i64 c.w, .bool false, .bool false, .bool false, .pointer (some ⟨w.heap.size, 7, none⟩), .slice As ss.length cs_, .int .i64 (ss.length : Int), .bool false, .bool false, .agg #[.int .i64 c.w, .int .i64 c.d, .int .i64 c.i, .int .i64 c.s, .slice At t.length ct, .slice Am m.length cm, .slice Aw ws.length cw, .slice As ss.length cs_], .func (.func 67) #[] #[.pointer (some ⟨g, 0, none⟩)], .int .i64 (x : Nat), undef, undef, undef, undef, undef], defers := [] }) ?assign ?body ?done ?stop
 case assign =>
  intro l x W K hK
  gi_wp2
  simpa using hK
 case body =>
  rintro l pre x W hM hlt
  exact absurd hlt (Nat.not_lt_zero _)
 case stop =>
  rintro D c pre W hD hf _ _
  exact hf.elim
 case done =>
  rintro D ys W hD hys hM hK
  have HM := qQ hM
  have HK := qQ hK
  have q1 := (blk_cell hM.h1 0).trans rfl
  have q1' := blk_frozen hM.h1 0
  have p0 := (blk_cell hM.h0 7).trans rfl
  have e36 := fun args W => enters_of Tryz.func36 (by kernel_rfl) rfl args W
  clear hM hK
  gi_wp2_with (refine ⟨trivial, (callsIn_wide.2 (contains_68c As cs_ ss 36 _ (fun _ => false) _ (HR.o.below HM.o.bel).hS (by have := HP.o.sl; omega) (enters_of Tryz.func36 (by kernel_rfl) rfl) (fun s hs V A1 c1 hV hl hC => sub_36 c t At ct m Am cm ws Aw cw ss As cs_ s A1 c1 w.heap.size V (blk_below HM.o.h0 hV) hC (HP.o.sb s hs)))).mono ?_⟩; rintro e w2 ⟨rfl, hd⟩; rw [show (ss.any fun _ => false) = false by simp]; have HB2 := qQ (below_then HM.o.bel HM.o.bel.size hd); have HH2 := qQ (blk_below HM.o.h1 hd); have HK2 := qQ ((hd.block D (Array.getElem?_eq_some_iff.1 HK.o).1).trans HK.o); clear hd q1 q1'; have q1 := (blk_cell HH2.o 0).trans rfl; have q1' := blk_frozen HH2.o 0)
  have hK' := (KeepsOthers.setCell w2 ⟨w.heap.size + 1, 0, none⟩ (.bool true)).same D _ HK2.o rfl
  refine ⟨by simp, .inl ⟨_, _, rfl, run_takeDeferred hK', ?_⟩⟩
  have hc5 := cell_kept (World.cell?_setCell_same' w2 ⟨w.heap.size + 1, 0, none⟩ (.bool true) (by rw [q1]; rfl)) (grownBy_putObj' _ D (.deferred none)) (fun r e => by cases e; exact ⟨_, hK', rfl⟩)
  refine ⟨.bool true, ?_, rfl, (HB2.o.setCell (p := ⟨w.heap.size + 1, 0, none⟩) (by show w.heap.size ≤ w.heap.size + 1; omega) _).trans (belowK_b (w := w) (Nat.le_refl _) _ D _ _ (by have := HD0.o.bel.size; omega) hK' rfl rfl)⟩
  simp [results, Tryz.f17, go_sem, hc5]
theorem may_17 (c : Cf) (t : List S45) (At : Option Addr) (ct : Nat) (m : List Int) (Am : Option Addr) (cm : Nat) (ws : List S76) (Aw : Option Addr) (cw : Nat) (ss : List S68) (As : Option Addr) (cs_ : Nat) (w : World) (hp : PMay c t m ws ss) (hr : PRd c t At ct m Am cm ws Aw cw ss As cs_ w) (hwn : ws.length ≤ 1000000) :
  Calls Tryz.prog 17 #[.agg #[.int .i64 c.w, .int .i64 c.d, .int .i64 c.i, .int .i64 c.s, .slice At t.length ct, .slice Am m.length cm, .slice Aw ws.length cw, .slice As ss.length cs_]] w fun e W' => e = .returned (.bool true) ∧ Below w.heap.size w W' :=
 callsIn_wide.1 (PMay_in 3 (by omega) c t At ct m Am cm ws Aw cw ss As cs_ w hp hr hwn)
end
end Go.Proofs.YthoeodjgfelkhaaGreat.QT
