/- Part 12 of the claim on TopWakes: printed contracts; slices.Delete of one. No condition. -/
import Derived.Test.YthoeodjgfelkhaaGreatm11
set_option linter.unusedVariables false
set_option linter.unusedSimpArgs false
set_option maxRecDepth 100000
set_option maxHeartbeats 8000000
namespace Go.Proofs.YthoeodjgfelkhaaGreat.QT
open Go.RowKit Go.Proofs.YthoeodjgfelkhaaGreatW.PrintWords Go.Proofs.YthoeodjgfelkhaaGreatW.PrintLast Go.Proofs.YthoeodjgfelkhaaGreatW.PrintMore
attribute [local go_sem] max2_int min2_int max_two min_two
def work_May.f (a0_0 : Int) (a0_1 : Int) (a0_2 : Int) (a0_3 : Int) (l1 : List (S45)) (l2 : List Int) (a3 : Int) (a4_0 : Int) (l4_1 : List (S116)) (a4_2 : Int) (a4_3 : Int) (a4_4 : Int) (a4_5 : Int) (a4_6 : Int) (a4_7 : Int) (a4_8 : Int) (a4_9 : Int) (a4_10 : Int) : Option (Bool) := (lay_May.f a0_0 a0_1 a0_2 a0_3).bind fun t299 => (if t299 = true then ((lay_Size.f a0_0 a0_1 a0_2 a0_3).bind fun t300 => (if (l2.length : Int) = t300 then ((forest_May.f l1).bind fun t301 => (if t301 = true then (if a3 ≥ 0 then (if a3 < a0_0 then (if a4_0 ≥ 0 then (if a4_0 < 16 then ((think_May.f l1 l4_1).bind fun t302 => (some t302)) else (some false)) else (some false)) else (some false)) else (some false)) else (some false))) else (some false))) else (some false))
theorem work_May.calls (a0_0 : Int) (a0_1 : Int) (a0_2 : Int) (a0_3 : Int) (A1 : Option Addr) (c1 : Nat) (l1 : List (S45)) (A2 : Option Addr) (c2 : Nat) (l2 : List Int) (a3 : Int) (a4_0 : Int) (A4_1 : Option Addr) (c4_1 : Nat) (l4_1 : List (S116)) (a4_2 : Int) (a4_3 : Int) (a4_4 : Int) (a4_5 : Int) (a4_6 : Int) (a4_7 : Int) (a4_8 : Int) (a4_9 : Int) (a4_10 : Int) (r : Bool) (w : World) (hr1 : Kd.C k45 w A1 l1.length l1) (hc1 : l1.length ≤ c1) (hr2 : Kd.C (Kd.int .u64) w A2 l2.length l2) (hc2 : l2.length ≤ c2) (hr4_1 : Kd.C k116 w A4_1 l4_1.length l4_1) (hc4_1 : l4_1.length ≤ c4_1) (h : work_May.f a0_0 a0_1 a0_2 a0_3 l1 l2 a3 a4_0 l4_1 a4_2 a4_3 a4_4 a4_5 a4_6 a4_7 a4_8 a4_9 a4_10 = some r) :
  Calls Tryz.prog 68 #[.agg #[.int .i64 a0_0, .int .i64 a0_1, .int .i64 a0_2, .int .i64 a0_3], .slice A1 l1.length c1, .slice A2 l2.length c2, .int .i64 a3, .agg #[.int .i64 a4_0, .slice A4_1 l4_1.length c4_1, .int .i64 a4_2, .int .i64 a4_3, .int .i64 a4_4, .int .u64 a4_5, .int .u64 a4_6, .int .u64 a4_7, .int .i64 a4_8, .int .i64 a4_9, .int .i64 a4_10]] w fun e w' => e = .returned (.bool r) ∧ Below w.heap.size w w' := by
 have hu23 := Tryz.underlying23
 have hu76 := Tryz.underlying76
 have HR1 := qQ hr1
 have HC1 := qQ hc1
 clear hr1 hc1
 have HR2 := qQ hr2
 have HC2 := qQ hc2
 clear hr2 hc2
 have HR4_1 := qQ hr4_1
 have HC4_1 := qQ hc4_1
 clear hr4_1 hc4_1
 have HB := qQ (Below.refl w.heap.size w)
 unfold work_May.f at h
 have H := h
 clear h
 replace H := Option.bind_eq_some_iff.mp H
 obtain ⟨t299, A60, H⟩ := H
 have A6 := qQ A60
 clear A60
 by_cases c7 : t299 = true
 rotate_left
 case' neg =>
  replace c7 := Bool.eq_false_iff.mpr c7
  subst c7
  rw [if_neg (show ¬ (false = true) by decide)] at H
  obtain rfl := Option.some.inj H
 rotate_right
 case' pos =>
  subst c7
  rw [if_pos rfl] at H
  replace H := Option.bind_eq_some_iff.mp H
  obtain ⟨t300, A80, H⟩ := H
  have A8 := qQ A80
  clear A80
  by_cases c9 : (l2.length : Int) = t300
  rotate_left
  case' neg =>
   rw [if_neg c9] at H
   have c9b0 : ((l2.length : Int) == t300) = false := beq_eq_false_iff_ne.mpr c9
   have c9b1 : ((l2.length : Int) != t300) = true := bne_iff_ne.mpr c9
   obtain rfl := Option.some.inj H
  rotate_right
  case' pos =>
   rw [if_pos c9] at H
   have c9b0 : ((l2.length : Int) == t300) = true := beq_iff_eq.mpr c9
   have c9b1 : ((l2.length : Int) != t300) = false := bne_eq_false_iff_eq.mpr c9
   clear c9
   replace H := Option.bind_eq_some_iff.mp H
   obtain ⟨t301, A100, H⟩ := H
   have A10 := qQ A100
   clear A100
   by_cases c11 : t301 = true
   rotate_left
   case' neg =>
    replace c11 := Bool.eq_false_iff.mpr c11
    subst c11
    rw [if_neg (show ¬ (false = true) by decide)] at H
    obtain rfl := Option.some.inj H
   rotate_right
   case' pos =>
    subst c11
    rw [if_pos rfl] at H
    by_cases c12 : a3 ≥ 0
    rotate_left
    case' neg =>
     rw [if_neg c12] at H
     have c12b0 : decide (0 ≤ a3) = false := decide_eq_false c12
     clear c12
     obtain rfl := Option.some.inj H
    rotate_right
    case' pos =>
     rw [if_pos c12] at H
     have c12b0 : decide (0 ≤ a3) = true := decide_eq_true c12
     clear c12
     by_cases c13 : a3 < a0_0
     rotate_left
     case' neg =>
      rw [if_neg c13] at H
      have c13b0 : decide (a3 < a0_0) = false := decide_eq_false c13
      clear c13
      obtain rfl := Option.some.inj H
     rotate_right
     case' pos =>
      rw [if_pos c13] at H
      have c13b0 : decide (a3 < a0_0) = true := decide_eq_true c13
      clear c13
      by_cases c14 : a4_0 ≥ 0
      rotate_left
      case' neg =>
       rw [if_neg c14] at H
       have c14b0 : decide (0 ≤ a4_0) = false := decide_eq_false c14
       clear c14
       obtain rfl := Option.some.inj H
      rotate_right
      case' pos =>
       rw [if_pos c14] at H
       have c14b0 : decide (0 ≤ a4_0) = true := decide_eq_true c14
       clear c14
       by_cases c15 : a4_0 < 16
       rotate_left
       case' neg =>
        rw [if_neg c15] at H
        have c15b0 : decide (a4_0 < 16) = false := decide_eq_false c15
        clear c15
        obtain rfl := Option.some.inj H
       rotate_right
       case' pos =>
        rw [if_pos c15] at H
        have c15b0 : decide (a4_0 < 16) = true := decide_eq_true c15
        clear c15
        replace H := Option.bind_eq_some_iff.mp H
        obtain ⟨t302, A160, H⟩ := H
        replace H : (some t302) = some r := H
        have A16 := qQ A160
        clear A160
        obtain rfl := Option.some.inj H
 all_goals
  go_enter Tryz.func68, Tryz.ntmps68
  go_wp2_with (first | ((with_reducible refine gate_dst (N := 5) rfl ?_); (try (refine gate_guard (by rfl) ?_; dsimp only)); refine box_event ?hg (N := 5) ?hd (cs := #[.int .i64 a0_0, .int .i64 a0_1, .int .i64 a0_2, .int .i64 a0_3]) (t := 23) ?hr ?_; (case hd => rfl); (case hg => rfl); (case hr => first | (go_simp; done) | (go_simp; rfl)); intro gb297 hg w1 hbox hb; have BK297 := qQ (hbox); have GW297 := qQ ((by rw [hg]; exact (below_size zB) : w.heap.size ≤ gb297)); have GE297 := qQ ((by rw [hg]; exact (below_size zB) : w.heap.size ≤ gb297)); replace HB := qQ (below_step zB hb); clear hb hbox hg) | ((with_reducible refine gate_dst (N := 9) rfl ?_); (try (refine gate_guard (by rfl) ?_; dsimp only)); refine box_event ?hg (N := 9) ?hd (cs := #[.int .i64 a4_0, .slice A4_1 l4_1.length c4_1, .int .i64 a4_2, .int .i64 a4_3, .int .i64 a4_4, .int .u64 a4_5, .int .u64 a4_6, .int .u64 a4_7, .int .i64 a4_8, .int .i64 a4_9, .int .i64 a4_10]) (t := 76) ?hr ?_; (case hd => rfl); (case hg => rfl); (case hr => first | (go_simp; done) | (go_simp; rfl)); intro gb298 hg w2 hbox hb; have BK298 := qQ (hbox); have GW298 := qQ ((by rw [hg]; exact (below_size zB) : w.heap.size ≤ gb298)); have GE298 := qQ ((by rw [hg]; exact (below_size zB) : w.heap.size ≤ gb298)); have NB297_298 := qQ ((by rw [hg]; exact Nat.ne_of_lt (blk_lt (g := gb297) (o := .cells #[.int .i64 a0_0, .int .i64 a0_1, .int .i64 a0_2, .int .i64 a0_3] 23 (0, 0)) (zK BK297.o)) : gb297 ≠ gb298)); have NB298_297 := qQ ((by rw [hg]; exact Nat.ne_of_gt (blk_lt (g := gb297) (o := .cells #[.int .i64 a0_0, .int .i64 a0_1, .int .i64 a0_2, .int .i64 a0_3] 23 (0, 0)) (zK BK297.o)) : gb298 ≠ gb297)); replace BK297 := qQ (blk_below (g := gb297) (o := .cells #[.int .i64 a0_0, .int .i64 a0_1, .int .i64 a0_2, .int .i64 a0_3] 23 (0, 0)) (zK BK297.o) hb); replace HB := qQ (below_step zB hb); clear hb hbox hg; have hnb1 := NB297_298.o; have hnc1 := NB298_297.o; have hcz1 := blk_cell BK297.o; have hfz1 := blk_frozen BK297.o) | ((with_reducible refine gate_callee (f := 22) rfl ?_); refine goesL_ (some 12) rfl rfl Tryz.func22 (by kernel_rfl) rfl #[.agg #[.int .i64 a0_0, .int .i64 a0_1, .int .i64 a0_2, .int .i64 a0_3]] rfl (by (try simp only [List.map_toArray, List.map_cons, List.map_nil]); first | done | rfl | (simp only [List.length_drop, List.length_take]; rfl)) ?_; (with_reducible refine (lay_May.calls a0_0 a0_1 a0_2 a0_3 true _ A6.o).mono ?_); (try clear A6); rintro e w3 ⟨rfl, hb⟩; refine ⟨_, rfl, ?_⟩; replace BK297 := qQ (blk_below (g := gb297) (o := .cells #[.int .i64 a0_0, .int .i64 a0_1, .int .i64 a0_2, .int .i64 a0_3] 23 (0, 0)) (zK BK297.o) hb); replace BK298 := qQ (blk_below (g := gb298) (o := .cells #[.int .i64 a4_0, .slice A4_1 l4_1.length c4_1, .int .i64 a4_2, .int .i64 a4_3, .int .i64 a4_4, .int .u64 a4_5, .int .u64 a4_6, .int .u64 a4_7, .int .i64 a4_8, .int .i64 a4_9, .int .i64 a4_10] 76 (0, 0)) (zK BK298.o) hb); replace HB := qQ (below_step zB hb); (try clear hb); (try clear hb2); (try clear hk); (try clear hi); have hcz2 := blk_cell BK297.o; have hfz2 := blk_frozen BK297.o) | (go_at_call 52; (with_reducible refine (lay_Size.calls a0_0 a0_1 a0_2 a0_3 t300 _ A8.o).mono ?_); (try clear A8); rintro e w4 ⟨rfl, hb⟩; replace BK297 := qQ (blk_below (g := gb297) (o := .cells #[.int .i64 a0_0, .int .i64 a0_1, .int .i64 a0_2, .int .i64 a0_3] 23 (0, 0)) (zK BK297.o) hb); replace BK298 := qQ (blk_below (g := gb298) (o := .cells #[.int .i64 a4_0, .slice A4_1 l4_1.length c4_1, .int .i64 a4_2, .int .i64 a4_3, .int .i64 a4_4, .int .u64 a4_5, .int .u64 a4_6, .int .u64 a4_7, .int .i64 a4_8, .int .i64 a4_9, .int .i64 a4_10] 76 (0, 0)) (zK BK298.o) hb); replace HB := qQ (below_step zB hb); (try clear hb); (try clear hb2); (try clear hk); (try clear hi)) | (go_at_call 23; (with_reducible refine (forest_May.calls _ _ l1 true _ ?side1 ?side2 A10.o).mono ?_); (try clear A10); (case side1 => repeat (first | exact (Kd.C_below HR1.o HB.o) | (with_reducible refine Kd.C_alloc ?_ _) | (with_reducible refine Kd.C_drewN ?_ _) | (with_reducible refine Kd.C_drew ?_))); (case side2 => exact HC1.o); rintro e w5 ⟨rfl, hb⟩; replace BK297 := qQ (blk_below (g := gb297) (o := .cells #[.int .i64 a0_0, .int .i64 a0_1, .int .i64 a0_2, .int .i64 a0_3] 23 (0, 0)) (zK BK297.o) hb); replace BK298 := qQ (blk_below (g := gb298) (o := .cells #[.int .i64 a4_0, .slice A4_1 l4_1.length c4_1, .int .i64 a4_2, .int .i64 a4_3, .int .i64 a4_4, .int .u64 a4_5, .int .u64 a4_6, .int .u64 a4_7, .int .i64 a4_8, .int .i64 a4_9, .int .i64 a4_10] 76 (0, 0)) (zK BK298.o) hb); replace HB := qQ (below_step zB hb); (try clear hb); (try clear hb2); (try clear hk); (try clear hi); have hcz3 := blk_cell BK297.o; have hfz3 := blk_frozen BK297.o; have hcz4 := blk_cell BK298.o; have hfz4 := blk_frozen BK298.o) | (go_at_call 106; (with_reducible refine (think_May.calls _ _ l1 _ _ l4_1 t302 _ ?side1 ?side2 ?side3 ?side4 A16.o).mono ?_); (try clear A16); (case side1 => repeat (first | exact (Kd.C_below HR1.o HB.o) | (with_reducible refine Kd.C_alloc ?_ _) | (with_reducible refine Kd.C_drewN ?_ _) | (with_reducible refine Kd.C_drew ?_))); (case side2 => exact HC1.o); (case side3 => repeat (first | exact (Kd.C_below HR4_1.o HB.o) | (with_reducible refine Kd.C_alloc ?_ _) | (with_reducible refine Kd.C_drewN ?_ _) | (with_reducible refine Kd.C_drew ?_))); (case side4 => exact HC4_1.o); rintro e w6 ⟨rfl, hb⟩; replace BK297 := qQ (blk_below (g := gb297) (o := .cells #[.int .i64 a0_0, .int .i64 a0_1, .int .i64 a0_2, .int .i64 a0_3] 23 (0, 0)) (zK BK297.o) hb); replace BK298 := qQ (blk_below (g := gb298) (o := .cells #[.int .i64 a4_0, .slice A4_1 l4_1.length c4_1, .int .i64 a4_2, .int .i64 a4_3, .int .i64 a4_4, .int .u64 a4_5, .int .u64 a4_6, .int .u64 a4_7, .int .i64 a4_8, .int .i64 a4_9, .int .i64 a4_10] 76 (0, 0)) (zK BK298.o) hb); replace HB := qQ (below_step zB hb); (try clear hb); (try clear hb2); (try clear hk); (try clear hi)) | (go_at_call 23; (with_reducible refine (forest_May.calls _ _ l1 true _ ?side1 ?side2 A10.o).mono ?_); (try clear A10); (case side1 => repeat (first | exact (Kd.C_below HR1.o HB.o) | (with_reducible refine Kd.C_alloc ?_ _) | (with_reducible refine Kd.C_drewN ?_ _) | (with_reducible refine Kd.C_drew ?_))); (case side2 => exact HC1.o); rintro e w5 ⟨rfl, hb⟩; replace BK297 := qQ (blk_below (g := gb297) (o := .cells #[.int .i64 a0_0, .int .i64 a0_1, .int .i64 a0_2, .int .i64 a0_3] 23 (0, 0)) (zK BK297.o) hb); replace BK298 := qQ (blk_below (g := gb298) (o := .cells #[.int .i64 a4_0, .slice A4_1 l4_1.length c4_1, .int .i64 a4_2, .int .i64 a4_3, .int .i64 a4_4, .int .u64 a4_5, .int .u64 a4_6, .int .u64 a4_7, .int .i64 a4_8, .int .i64 a4_9, .int .i64 a4_10] 76 (0, 0)) (zK BK298.o) hb); replace HB := qQ (below_step zB hb); (try clear hb); (try clear hb2); (try clear hk); (try clear hi); have hcz3 := blk_cell BK297.o; have hfz3 := blk_frozen BK297.o) | (go_at_call 23; (with_reducible refine (forest_May.calls _ _ l1 true _ ?side1 ?side2 A10.o).mono ?_); (try clear A10); (case side1 => repeat (first | exact (Kd.C_below HR1.o HB.o) | (with_reducible refine Kd.C_alloc ?_ _) | (with_reducible refine Kd.C_drewN ?_ _) | (with_reducible refine Kd.C_drew ?_))); (case side2 => exact HC1.o); rintro e w5 ⟨rfl, hb⟩; replace BK297 := qQ (blk_below (g := gb297) (o := .cells #[.int .i64 a0_0, .int .i64 a0_1, .int .i64 a0_2, .int .i64 a0_3] 23 (0, 0)) (zK BK297.o) hb); replace BK298 := qQ (blk_below (g := gb298) (o := .cells #[.int .i64 a4_0, .slice A4_1 l4_1.length c4_1, .int .i64 a4_2, .int .i64 a4_3, .int .i64 a4_4, .int .u64 a4_5, .int .u64 a4_6, .int .u64 a4_7, .int .i64 a4_8, .int .i64 a4_9, .int .i64 a4_10] 76 (0, 0)) (zK BK298.o) hb); replace HB := qQ (below_step zB hb); (try clear hb); (try clear hb2); (try clear hk); (try clear hi)) | (go_at_call 23; (with_reducible refine (forest_May.calls _ _ l1 false _ ?side1 ?side2 A10.o).mono ?_); (try clear A10); (case side1 => repeat (first | exact (Kd.C_below HR1.o HB.o) | (with_reducible refine Kd.C_alloc ?_ _) | (with_reducible refine Kd.C_drewN ?_ _) | (with_reducible refine Kd.C_drew ?_))); (case side2 => exact HC1.o); rintro e w5 ⟨rfl, hb⟩; replace BK297 := qQ (blk_below (g := gb297) (o := .cells #[.int .i64 a0_0, .int .i64 a0_1, .int .i64 a0_2, .int .i64 a0_3] 23 (0, 0)) (zK BK297.o) hb); replace BK298 := qQ (blk_below (g := gb298) (o := .cells #[.int .i64 a4_0, .slice A4_1 l4_1.length c4_1, .int .i64 a4_2, .int .i64 a4_3, .int .i64 a4_4, .int .u64 a4_5, .int .u64 a4_6, .int .u64 a4_7, .int .i64 a4_8, .int .i64 a4_9, .int .i64 a4_10] 76 (0, 0)) (zK BK298.o) hb); replace HB := qQ (below_step zB hb); (try clear hb); (try clear hb2); (try clear hk); (try clear hi)) | ((with_reducible refine gate_callee (f := 22) rfl ?_); refine goesL_ (some 12) rfl rfl Tryz.func22 (by kernel_rfl) rfl #[.agg #[.int .i64 a0_0, .int .i64 a0_1, .int .i64 a0_2, .int .i64 a0_3]] rfl (by (try simp only [List.map_toArray, List.map_cons, List.map_nil]); first | done | rfl | (simp only [List.length_drop, List.length_take]; rfl)) ?_; (with_reducible refine (lay_May.calls a0_0 a0_1 a0_2 a0_3 false _ A6.o).mono ?_); (try clear A6); rintro e w3 ⟨rfl, hb⟩; refine ⟨_, rfl, ?_⟩; replace BK297 := qQ (blk_below (g := gb297) (o := .cells #[.int .i64 a0_0, .int .i64 a0_1, .int .i64 a0_2, .int .i64 a0_3] 23 (0, 0)) (zK BK297.o) hb); replace BK298 := qQ (blk_below (g := gb298) (o := .cells #[.int .i64 a4_0, .slice A4_1 l4_1.length c4_1, .int .i64 a4_2, .int .i64 a4_3, .int .i64 a4_4, .int .u64 a4_5, .int .u64 a4_6, .int .u64 a4_7, .int .i64 a4_8, .int .i64 a4_9, .int .i64 a4_10] 76 (0, 0)) (zK BK298.o) hb); replace HB := qQ (below_step zB hb); (try clear hb); (try clear hb2); (try clear hk); (try clear hi)))
  go_ret
  exact ⟨by first | rfl | (simp [errW_none, errW_some] <;> rfl) | (simp [*, errW_none, errW_some] <;> rfl), zB⟩
theorem R_past {W : World} {base g c n i : Nat} {xs : List Int} {u : Value} (h : (Kd.int .i64).R 3 W base (fun _ => True) (.slice (some ⟨g, 0, none⟩) n c) xs) (hi : n ≤ i) : (Kd.int .i64).R 3 (W.setCell ⟨g, i, none⟩ u) base (fun _ => True) (.slice (some ⟨g, 0, none⟩) n c) xs := by
 obtain ⟨h1, inner, ⟨h2, h3⟩, h4⟩ := h
 refine ⟨h1, inner, ⟨h2, ?_⟩, h4⟩
 have hv' : xs.length = n := (Kd.R_reads' (show (Kd.int .i64).R 3 W base (fun _ => True) (.slice (some ⟨g, 0, none⟩) n c) xs from ⟨h1, inner, ⟨h2, h3⟩, h4⟩)).1.symm
 rcases h3 with ⟨hv, _⟩ | ⟨g', cap, cur, hv, hb, hh, hn, hm, hs, ht⟩
 ·cases hv
 injection hv with ha _ hc
 injection ha with ha
 injection ha with hg
 subst hg; subst hc
 refine .inr ⟨g, c, cur.setIfInBounds i u, by rw [hv'], hb, blk_set hh i u, hn, hm, by simpa using hs, ?_⟩
 rw [Array.toList_setIfInBounds, List.take_set_of_le (by show xs.length * 1 ≤ i; omega)]
 exact ht
theorem R_room {W : World} {base g c n i : Nat} {xs : List Int} (h : (Kd.int .i64).R 3 W base (fun _ => True) (.slice (some ⟨g, 0, none⟩) n c) xs) (hi : i < c) : (W.cell? ⟨g, i, none⟩).isSome = true ∧ W.frozen? ⟨g, i, none⟩ = false := by
 obtain ⟨h1, inner, ⟨h2, h3⟩, h4⟩ := h
 rcases h3 with ⟨hv, _⟩ | ⟨g', cap, cur, hv, hb, hh, hn, hm, hs, ht⟩
 ·cases hv
 injection hv with ha _ hc
 injection ha with ha
 injection ha with hg
 subst hg; subst hc
 refine ⟨?_, blk_frozen hh i⟩
 rw [blk_cell hh i]
 have : i < cur.size := by rw [hs]; show i < c * 1; omega
 simp [this]
theorem delete_29 (g c k base : Nat) (l : List Int) (w : World) (h : (Kd.int .i64).R 3 w base (fun _ => True) (.slice (some ⟨g, 0, none⟩) l.length c) l) (hk : k < l.length) (hn : l.length ≤ 1000000) :
  Calls Tryz.prog 29 #[.slice (some ⟨g, 0, none⟩) l.length c, .int .i64 (k : Int), .int .i64 ((k : Int) + 1)] w fun e w' => e = .returned (.slice (some ⟨g, 0, none⟩) (l.length - 1) c) ∧ (Kd.int .i64).R 3 w' base (fun _ => True) (.slice (some ⟨g, 0, none⟩) (l.length - 1) c) (l.eraseIdx k) ∧ w.grownBy w' (some g) := by
 have HR := qQ h
 have hc := (Kd.R_reads' h).2.1
 have q0 : ((0 : Int) ≤ (k : Int)) = True := eq_true (by omega)
 have q1 : ((k : Int) ≤ (k : Int) + 1) = True := eq_true (by omega)
 have q2 : ((k : Int) + 1 ≤ (l.length : Int)) = True := eq_true (by omega)
 have q3 : ((k : Int) == (k : Int) + 1) = false := by simp; omega
 have q5 : ((0 : Int) ≤ (k : Int) + 1) = True := eq_true (by omega)
 have q4 : ((k : Int) ≤ (c : Int)) = True := eq_true (by omega)
 clear h
 go_enter Tryz.func29, Tryz.ntmps29
 go_wp2
 refine zS 8 [6] (fun W' => True) trivial fun hHeld => ?_
 refine zY 0 1 20 ?_
 refine zY 1 3 21 ?_
 refine zY 2 7 22 ?_
 refine zY 3 15 23 ?_
 refine zY 4 31 24 ?_
 refine zY 5 63 25 ?_
 refine last_ (i := 6) (N := (some 26)) (zM 8 127) rfl rfl (by kernel_rfl) (by decide) (fun K hK => ?_)
 refine Kd.R_delete_step (Kd.int .i64) (w0 := w.drew) (W := w.drew) base (by rfl) (.tmp 22) (.tmp 25) 43 3 rfl Tryz.underlying43 (by kernel_rfl) (g := g) (n := l.length) (c := c) (k := k) (xs := l) (ok := fun _ => True) (by rfl) (by rfl) ?hA rfl (Kd.R_drew HR.o) hk (Below.refl _ _) (Nat.le_of_lt (Nat.lt_of_le_of_lt (R_ge HR.o) (by obtain ⟨v, hv⟩ := Option.isSome_iff_exists.1 (R_room HR.o (show 0 < c by omega)).1; exact World.block_lt_of_cell? w.drew _ hv))) ?_
 case hA =>
  rw [show (k + 1) * (Kd.int .i64).sz = k + 1 from Nat.mul_one _]
  by_cases hck : c = k + 1
  ·rw [if_pos hck, if_pos hck]
  ·rw [if_neg hck, if_neg hck]; simp [Addr.add]
 intro w1 hr hb hg
 have HR1 := qQ hr
 have HG1 := qQ hg
 clear hr hb hg
 refine hK.out _ _ ?_
 simp only [Act.put, List.setIfInBounds_toArray, List.set_cons_zero, List.set_cons_succ, List.getElem_toArray, List.getElem_cons_succ, List.getElem_cons_zero]
 refine zY 7 255 0 ?_
 refine zD ?_
 clear q0 q1 q2 q3 q4 q5
 have hl1 : (l.length - 1 : Nat) < c := by omega
 have hcl : ∀ ty cap, (Builtin.clear_ #[43] ty #[.slice (some ⟨g, l.length - 1, none⟩) (l.length - (l.length - 1)) cap]).run Tryz.prog w1 = .ok (.tuple #[]) (w1.setCell ⟨g, l.length - 1, none⟩ (.int .i64 0)) := fun ty cap => by
  rw [show l.length - (l.length - 1) = 1 by omega]
  exact Go.Lib.run_clear_slice (P := Tryz.prog) w1 43 3 ty (.int .i64 0) Tryz.underlying43 (fun _ => rfl) rfl rfl g (l.length - 1) 1 cap (by omega) (fun j hj => by obtain rfl : j = 0 := (by omega); exact (R_room HR1.o hl1).1) (fun j hj => by obtain rfl : j = 0 := (by omega); exact (R_room HR1.o hl1).2)
 have r0 : ((0 : Int) ≤ ((l.length - 1 : Nat) : Int)) = True := eq_true (by omega)
 have r1 : (((l.length - 1 : Nat) : Int) ≤ (l.length : Int)) = True := eq_true (by omega)
 have r2 : ((l.length : Int) ≤ (c : Int)) = True := eq_true (by omega)
 have HK := qQ (R_past (u := .int .i64 0) (i := l.length - 1) HR1.o (Nat.le_refl _))
 have HG2 := qQ (gb_set (show w.grownBy w1 (some g) from ⟨HG1.o.os, HG1.o.tape, HG1.o.output, HG1.o.size, HG1.o.block⟩) (l.length - 1) (.int .i64 0))
 go_wp2
 all_goals go_ret
 all_goals first | exact ⟨rfl, HK.o, HG2.o⟩ | (have e9 : c = k + 1 := (by assumption); rw [← e9]; exact ⟨rfl, HK.o, HG2.o⟩) | (rename_i h9; subst h9; exact ⟨rfl, HK.o, HG2.o⟩)
def think_Start.f (l0 : List (S45)) (l1 : List (S116)) (a2 : Int) : Option ((List (S116))) := (api_Item_57.f l1).bind fun t289 => ((think_May.f l0 l1).bind fun t292 => (if t292 = true then ((think_in.f a2 (wrap64 ((l0.length : Int) - 1))).bind fun t293 => (if t293 = true then (if t289.length < 5864062014805 then (some (t289 ++ [(⟨a2, 0, 0⟩ : S116)])) else (none)) else (some t289))) else (some t289)))
theorem think_Start.calls (A0 : Option Addr) (c0 : Nat) (l0 : List (S45)) (A1 : Option Addr) (c1 : Nat) (l1 : List (S116)) (a2 : Int) (r : List (S116)) (w : World) (hr0 : Kd.C k45 w A0 l0.length l0) (hc0 : l0.length ≤ c0) (hr1 : Kd.C k116 w A1 l1.length l1) (hc1 : l1.length ≤ c1) (h : think_Start.f l0 l1 a2 = some r) :
  Calls Tryz.prog 128 #[.slice A0 l0.length c0, .slice A1 l1.length c1, .int .i64 a2] w fun e w' => ∃ v0_ : Value, e = .returned (v0_) ∧ Kd.R k116 116 w' w.heap.size (fun _ => True) v0_ r ∧ Below w.heap.size w w' := by
 have hu116 := Tryz.underlying116
 have HR0 := qQ hr0
 have HC0 := qQ hc0
 clear hr0 hc0
 have HR1 := qQ hr1
 have HC1 := qQ hc1
 clear hr1 hc1
 have HB := qQ (Below.refl w.heap.size w)
 unfold think_Start.f at h
 have H := h
 clear h
 replace H := Option.bind_eq_some_iff.mp H
 obtain ⟨t289, A40, H⟩ := H
 have A4 := qQ A40
 clear A40
 replace H := Option.bind_eq_some_iff.mp H
 obtain ⟨t292, A50, H⟩ := H
 have A5 := qQ A50
 clear A50
 by_cases c6 : t292 = true
 rotate_left
 case' neg =>
  replace c6 := Bool.eq_false_iff.mpr c6
  subst c6
  rw [if_neg (show ¬ (false = true) by decide)] at H
  obtain rfl := Option.some.inj H
 rotate_right
 case' pos =>
  subst c6
  rw [if_pos rfl] at H
  replace H := Option.bind_eq_some_iff.mp H
  obtain ⟨t293, A70, H⟩ := H
  have A7 := qQ A70
  clear A70
  by_cases c8 : t293 = true
  rotate_left
  case' neg =>
   replace c8 := Bool.eq_false_iff.mpr c8
   subst c8
   rw [if_neg (show ¬ (false = true) by decide)] at H
   obtain rfl := Option.some.inj H
  rotate_right
  case' pos =>
   subst c8
   rw [if_pos rfl] at H
   by_cases c9 : t289.length < 5864062014805
   rotate_left
   ·rw [if_neg c9] at H
    exact absurd H (by simp)
   rw [if_pos c9] at H
   have LMc9 := qQ c9
   clear c9
   obtain ⟨y294, hy294⟩ : ∃ y_ : List (S116), y_ = (t289 ++ [(⟨a2, 0, 0⟩ : S116)]) := ⟨_, rfl⟩
   replace H : (some y294) = some r := by first | (rw [hy294]; with_reducible exact H) | (have H2_ := (Option.bind_some _ _).symm.trans H; rw [hy294]; with_reducible exact H2_) | (have H2_ := (Option.bind_some _ _).symm.trans H; with_reducible exact H2_) | with_reducible exact H | (rw [hy294]; exact H) | exact H
   have Ny294 := qQ hy294
   clear hy294
   obtain rfl := Option.some.inj H
 all_goals
  go_enter Tryz.func128, Tryz.ntmps128
  go_wp2_with (first | ((with_reducible refine gate_callee (f := 57) rfl ?_); refine goesL_ (some 9) rfl rfl Tryz.func57 (by kernel_rfl) rfl #[.slice A1 l1.length c1] rfl (by (try simp only [List.map_toArray, List.map_cons, List.map_nil]); first | done | rfl | (simp only [List.length_drop, List.length_take]; rfl)) ?_; (with_reducible refine (api_Item_57.calls _ _ l1 t289 _ ?side1 ?side2 A4.o).mono ?_); (try clear A4); (case side1 => repeat (first | exact HR1.o | (with_reducible refine Kd.C_alloc ?_ _) | (with_reducible refine Kd.C_drewN ?_ _) | (with_reducible refine Kd.C_drew ?_))); (case side2 => exact HC1.o); rintro e w1 ⟨v290, rfl, ho0, hb⟩; refine ⟨_, rfl, ?_⟩; have HO291 := qQ (Kd.R_lower ho0 (below_size zB)); replace HB := qQ (below_step zB hb); (try clear hb); (try clear hb2); (try clear hk); (try clear hi); (try clear ho0)) | ((with_reducible refine gate_callee (f := 106) rfl ?_); refine goesL_ (some 12) rfl rfl Tryz.func106 (by kernel_rfl) rfl #[.slice A0 l0.length c0, .slice A1 l1.length c1] rfl (by (try simp only [List.map_toArray, List.map_cons, List.map_nil]); first | done | rfl | (simp only [List.length_drop, List.length_take]; rfl)) ?_; (with_reducible refine (think_May.calls _ _ l0 _ _ l1 true _ ?side1 ?side2 ?side3 ?side4 A5.o).mono ?_); (try clear A5); (case side1 => repeat (first | exact (Kd.C_below HR0.o HB.o) | (with_reducible refine Kd.C_alloc ?_ _) | (with_reducible refine Kd.C_drewN ?_ _) | (with_reducible refine Kd.C_drew ?_))); (case side2 => exact HC0.o); (case side3 => repeat (first | exact (Kd.C_below HR1.o HB.o) | (with_reducible refine Kd.C_alloc ?_ _) | (with_reducible refine Kd.C_drewN ?_ _) | (with_reducible refine Kd.C_drew ?_))); (case side4 => exact HC1.o); rintro e w2 ⟨rfl, hb⟩; refine ⟨_, rfl, ?_⟩; replace HO291 := qQ (Kd.R_below (by (with_reducible repeat (first | apply Kd.R_alloc | apply Kd.R_drewN | apply Kd.R_drew)); exact HO291.o) hb); replace HB := qQ (below_step zB hb); (try clear hb); (try clear hb2); (try clear hk); (try clear hi)) | (go_at_call 126; (with_reducible refine (think_in.calls a2 (wrap64 ((l0.length : Int) - 1)) true _ A7.o).mono ?_); (try clear A7); rintro e w' ⟨rfl, ⟨nd, rfl⟩⟩) | ((with_reducible refine gate_builtin (b := .append) (xs := #[.tmp 23, .tmp 26]) rfl ?_); (try (refine gate_guard (by rfl) ?_; dsimp only)); at_builtin; refine Kd.R_append k116 (w0 := w) w.heap.size rfl (.tmp 23) (.tmp 26) 74 116 (.agg #[(.int .i64 0), (.int .i64 0), (.int .i64 0)]) 24 rfl Tryz.underlying74 info116 rfl (by decide) (by omega) v290 t289 (⟨a2, 0, 0⟩ : S116) [.int .i64 a2, .int .i64 0, .int .i64 0] (fun _ => True) (fun _ => False) rfl rfl ?aP (fun _ hk => hk.elim) ?aF ?aO ?aB ?aS ?aL ?_; (case aP => exact k116_mkM _ _ _ (⟨a2, 0, 0⟩ : S116)); (case aB => exact zB); (case aF => exact (fun _ _ => trivial)); (case aO => exact (by (with_reducible repeat (first | apply Kd.R_alloc | apply Kd.R_drewN | apply Kd.R_drew)); exact HO291.o)); (case aS => exact (below_size zB)); (case aL => have := LMc9.o; omega); intro v295 w12 ho hb hg hat; rw [← Ny294.o] at ho; have n0_ := qQ (hb); have n1_ := qQ (ho); clear HB; clear HO291; have HB := n0_; have HO296 := n1_; clear n0_ n1_; clear ho hb hg hat) | (go_at_call 126; (with_reducible refine (think_in.calls a2 (wrap64 ((l0.length : Int) - 1)) false _ A7.o).mono ?_); (try clear A7); rintro e w' ⟨rfl, ⟨nd, rfl⟩⟩) | ((with_reducible refine gate_callee (f := 106) rfl ?_); refine goesL_ (some 12) rfl rfl Tryz.func106 (by kernel_rfl) rfl #[.slice A0 l0.length c0, .slice A1 l1.length c1] rfl (by (try simp only [List.map_toArray, List.map_cons, List.map_nil]); first | done | rfl | (simp only [List.length_drop, List.length_take]; rfl)) ?_; (with_reducible refine (think_May.calls _ _ l0 _ _ l1 false _ ?side1 ?side2 ?side3 ?side4 A5.o).mono ?_); (try clear A5); (case side1 => repeat (first | exact (Kd.C_below HR0.o HB.o) | (with_reducible refine Kd.C_alloc ?_ _) | (with_reducible refine Kd.C_drewN ?_ _) | (with_reducible refine Kd.C_drew ?_))); (case side2 => exact HC0.o); (case side3 => repeat (first | exact (Kd.C_below HR1.o HB.o) | (with_reducible refine Kd.C_alloc ?_ _) | (with_reducible refine Kd.C_drewN ?_ _) | (with_reducible refine Kd.C_drew ?_))); (case side4 => exact HC1.o); rintro e w2 ⟨rfl, hb⟩; refine ⟨_, rfl, ?_⟩; replace HO291 := qQ (Kd.R_below (by (with_reducible repeat (first | apply Kd.R_alloc | apply Kd.R_drewN | apply Kd.R_drew)); exact HO291.o) hb); replace HB := qQ (below_step zB hb); (try clear hb); (try clear hb2); (try clear hk); (try clear hi)))
  go_ret
  first | (exact ⟨_, by first | rfl | (simp [errW_none, errW_some] <;> rfl) | (simp [*, errW_none, errW_some] <;> rfl), by (with_reducible repeat (first | apply Kd.R_alloc | apply Kd.R_drewN | apply Kd.R_drew)); exact HO296.o, zB⟩) | (exact ⟨_, by first | rfl | (simp [errW_none, errW_some] <;> rfl) | (simp [*, errW_none, errW_some] <;> rfl), by (with_reducible repeat (first | apply Kd.R_alloc | apply Kd.R_drewN | apply Kd.R_drew)); exact HO291.o, zB⟩)
def submit_May.f (a0_0 : Int) (a0_1 : Int) (a0_2 : Int) (a0_3 : Int) (l1 : List (S45)) (l2 : List Int) (a3_0 : Int) (l3_1 : List Int) (a3_2 : Int) (a3_3 : Int) (a3_4 : Int) (a3_5 : Int) (a3_6 : Int) (a3_7 : Int) (a3_8 : Int) : Option (Bool) := (lay_May.f a0_0 a0_1 a0_2 a0_3).bind fun t305 => (if t305 = true then ((lay_Size.f a0_0 a0_1 a0_2 a0_3).bind fun t306 => (if (l2.length : Int) = t306 then ((forest_May.f l1).bind fun t307 => (if t307 = true then (if a3_0 ≥ 0 then (if a3_0 < 6 then (if (l3_1.length : Int) > 0 then (if 0 < (l3_1.length : Int) then (if (rd l3_1 0) ≥ 0 then (some (decide ((rd l3_1 0) < (l1.length : Int)))) else (some false)) else (none)) else (some false)) else (some false)) else (some false)) else (some false))) else (some false))) else (some false))
theorem submit_May.calls (a0_0 : Int) (a0_1 : Int) (a0_2 : Int) (a0_3 : Int) (A1 : Option Addr) (c1 : Nat) (l1 : List (S45)) (A2 : Option Addr) (c2 : Nat) (l2 : List Int) (a3_0 : Int) (A3_1 : Option Addr) (c3_1 : Nat) (l3_1 : List Int) (a3_2 : Int) (a3_3 : Int) (a3_4 : Int) (a3_5 : Int) (a3_6 : Int) (a3_7 : Int) (a3_8 : Int) (r : Bool) (w : World) (hr1 : Kd.C k45 w A1 l1.length l1) (hc1 : l1.length ≤ c1) (hr2 : Kd.C (Kd.int .u64) w A2 l2.length l2) (hc2 : l2.length ≤ c2) (hr3_1 : Kd.C (Kd.int .i64) w A3_1 l3_1.length l3_1) (hc3_1 : l3_1.length ≤ c3_1) (h : submit_May.f a0_0 a0_1 a0_2 a0_3 l1 l2 a3_0 l3_1 a3_2 a3_3 a3_4 a3_5 a3_6 a3_7 a3_8 = some r) :
  Calls Tryz.prog 62 #[.agg #[.int .i64 a0_0, .int .i64 a0_1, .int .i64 a0_2, .int .i64 a0_3], .slice A1 l1.length c1, .slice A2 l2.length c2, .agg #[.int .i64 a3_0, .slice A3_1 l3_1.length c3_1, .int .i64 a3_2, .int .i64 a3_3, .int .i64 a3_4, .int .u64 a3_5, .int .u64 a3_6, .int .u64 a3_7, .int .i64 a3_8]] w fun e w' => e = .returned (.bool r) ∧ Below w.heap.size w w' := by
 have hu23 := Tryz.underlying23
 have hu68 := Tryz.underlying68
 have HR1 := qQ hr1
 have HC1 := qQ hc1
 clear hr1 hc1
 have HR2 := qQ hr2
 have HC2 := qQ hc2
 clear hr2 hc2
 have HR3_1 := qQ hr3_1
 have HC3_1 := qQ hc3_1
 clear hr3_1 hc3_1
 have HB := qQ (Below.refl w.heap.size w)
 unfold submit_May.f at h
 have H := h
 clear h
 replace H := Option.bind_eq_some_iff.mp H
 obtain ⟨t305, A50, H⟩ := H
 have A5 := qQ A50
 clear A50
 by_cases c6 : t305 = true
 rotate_left
 case' neg =>
  replace c6 := Bool.eq_false_iff.mpr c6
  subst c6
  rw [if_neg (show ¬ (false = true) by decide)] at H
  obtain rfl := Option.some.inj H
 rotate_right
 case' pos =>
  subst c6
  rw [if_pos rfl] at H
  replace H := Option.bind_eq_some_iff.mp H
  obtain ⟨t306, A70, H⟩ := H
  have A7 := qQ A70
  clear A70
  by_cases c8 : (l2.length : Int) = t306
  rotate_left
  case' neg =>
   rw [if_neg c8] at H
   have c8b0 : ((l2.length : Int) == t306) = false := beq_eq_false_iff_ne.mpr c8
   have c8b1 : ((l2.length : Int) != t306) = true := bne_iff_ne.mpr c8
   obtain rfl := Option.some.inj H
  rotate_right
  case' pos =>
   rw [if_pos c8] at H
   have c8b0 : ((l2.length : Int) == t306) = true := beq_iff_eq.mpr c8
   have c8b1 : ((l2.length : Int) != t306) = false := bne_eq_false_iff_eq.mpr c8
   clear c8
   replace H := Option.bind_eq_some_iff.mp H
   obtain ⟨t307, A90, H⟩ := H
   have A9 := qQ A90
   clear A90
   by_cases c10 : t307 = true
   rotate_left
   case' neg =>
    replace c10 := Bool.eq_false_iff.mpr c10
    subst c10
    rw [if_neg (show ¬ (false = true) by decide)] at H
    obtain rfl := Option.some.inj H
   rotate_right
   case' pos =>
    subst c10
    rw [if_pos rfl] at H
    by_cases c11 : a3_0 ≥ 0
    rotate_left
    case' neg =>
     rw [if_neg c11] at H
     have c11b0 : decide (0 ≤ a3_0) = false := decide_eq_false c11
     clear c11
     obtain rfl := Option.some.inj H
    rotate_right
    case' pos =>
     rw [if_pos c11] at H
     have c11b0 : decide (0 ≤ a3_0) = true := decide_eq_true c11
     clear c11
     by_cases c12 : a3_0 < 6
     rotate_left
     case' neg =>
      rw [if_neg c12] at H
      have c12b0 : decide (a3_0 < 6) = false := decide_eq_false c12
      clear c12
      obtain rfl := Option.some.inj H
     rotate_right
     case' pos =>
      rw [if_pos c12] at H
      have c12b0 : decide (a3_0 < 6) = true := decide_eq_true c12
      clear c12
      by_cases c13 : (l3_1.length : Int) > 0
      rotate_left
      case' neg =>
       rw [if_neg c13] at H
       have c13b0 : decide (0 < (l3_1.length : Int)) = false := decide_eq_false c13
       have c13b1 : decide (0 < l3_1.length) = false := decide_eq_false (by omega)
       clear c13
       obtain rfl := Option.some.inj H
      rotate_right
      case' pos =>
       rw [if_pos c13] at H
       have c13b0 : decide (0 < (l3_1.length : Int)) = true := decide_eq_true c13
       have c13b1 : decide (0 < l3_1.length) = true := decide_eq_true (by omega)
       clear c13
       by_cases c14 : 0 < (l3_1.length : Int)
       rotate_left
       ·rw [if_neg c14] at H
        exact absurd H (by simp)
       rw [if_pos c14] at H
       have c14b0 : decide (0 < (l3_1.length : Int)) = true := decide_eq_true c14
       have c14b1 : decide (0 < l3_1.length) = true := decide_eq_true (by omega)
       clear c14
       by_cases c15 : (rd l3_1 0) ≥ 0
       rotate_left
       case' neg =>
        rw [if_neg c15] at H
        have c15b0 : decide (0 ≤ (rd l3_1 0)) = false := decide_eq_false c15
        clear c15
        obtain rfl := Option.some.inj H
       rotate_right
       case' pos =>
        rw [if_pos c15] at H
        have c15b0 : decide (0 ≤ (rd l3_1 0)) = true := decide_eq_true c15
        clear c15
        obtain rfl := Option.some.inj H
 all_goals
  go_enter Tryz.func62, Tryz.ntmps62
  go_wp2_with (first | ((with_reducible refine gate_dst (N := 4) rfl ?_); (try (refine gate_guard (by rfl) ?_; dsimp only)); refine box_event ?hg (N := 4) ?hd (cs := #[.int .i64 a0_0, .int .i64 a0_1, .int .i64 a0_2, .int .i64 a0_3]) (t := 23) ?hr ?_; (case hd => rfl); (case hg => rfl); (case hr => first | (go_simp; done) | (go_simp; rfl)); intro gb303 hg w1 hbox hb; have BK303 := qQ (hbox); have GW303 := qQ ((by rw [hg]; exact (below_size zB) : w.heap.size ≤ gb303)); have GE303 := qQ ((by rw [hg]; exact (below_size zB) : w.heap.size ≤ gb303)); replace HB := qQ (below_step zB hb); clear hb hbox hg) | ((with_reducible refine gate_dst (N := 7) rfl ?_); (try (refine gate_guard (by rfl) ?_; dsimp only)); refine box_event ?hg (N := 7) ?hd (cs := #[.int .i64 a3_0, .slice A3_1 l3_1.length c3_1, .int .i64 a3_2, .int .i64 a3_3, .int .i64 a3_4, .int .u64 a3_5, .int .u64 a3_6, .int .u64 a3_7, .int .i64 a3_8]) (t := 68) ?hr ?_; (case hd => rfl); (case hg => rfl); (case hr => first | (go_simp; done) | (go_simp; rfl)); intro gb304 hg w2 hbox hb; have BK304 := qQ (hbox); have GW304 := qQ ((by rw [hg]; exact (below_size zB) : w.heap.size ≤ gb304)); have GE304 := qQ ((by rw [hg]; exact (below_size zB) : w.heap.size ≤ gb304)); have NB303_304 := qQ ((by rw [hg]; exact Nat.ne_of_lt (blk_lt (g := gb303) (o := .cells #[.int .i64 a0_0, .int .i64 a0_1, .int .i64 a0_2, .int .i64 a0_3] 23 (0, 0)) (zK BK303.o)) : gb303 ≠ gb304)); have NB304_303 := qQ ((by rw [hg]; exact Nat.ne_of_gt (blk_lt (g := gb303) (o := .cells #[.int .i64 a0_0, .int .i64 a0_1, .int .i64 a0_2, .int .i64 a0_3] 23 (0, 0)) (zK BK303.o)) : gb304 ≠ gb303)); replace BK303 := qQ (blk_below (g := gb303) (o := .cells #[.int .i64 a0_0, .int .i64 a0_1, .int .i64 a0_2, .int .i64 a0_3] 23 (0, 0)) (zK BK303.o) hb); replace HB := qQ (below_step zB hb); clear hb hbox hg; have hnb1 := NB303_304.o; have hnc1 := NB304_303.o; have hcz1 := blk_cell BK303.o; have hfz1 := blk_frozen BK303.o) | ((with_reducible refine gate_callee (f := 22) rfl ?_); refine goesL_ (some 10) rfl rfl Tryz.func22 (by kernel_rfl) rfl #[.agg #[.int .i64 a0_0, .int .i64 a0_1, .int .i64 a0_2, .int .i64 a0_3]] rfl (by (try simp only [List.map_toArray, List.map_cons, List.map_nil]); first | done | rfl | (simp only [List.length_drop, List.length_take]; rfl)) ?_; (with_reducible refine (lay_May.calls a0_0 a0_1 a0_2 a0_3 true _ A5.o).mono ?_); (try clear A5); rintro e w3 ⟨rfl, hb⟩; refine ⟨_, rfl, ?_⟩; replace BK303 := qQ (blk_below (g := gb303) (o := .cells #[.int .i64 a0_0, .int .i64 a0_1, .int .i64 a0_2, .int .i64 a0_3] 23 (0, 0)) (zK BK303.o) hb); replace BK304 := qQ (blk_below (g := gb304) (o := .cells #[.int .i64 a3_0, .slice A3_1 l3_1.length c3_1, .int .i64 a3_2, .int .i64 a3_3, .int .i64 a3_4, .int .u64 a3_5, .int .u64 a3_6, .int .u64 a3_7, .int .i64 a3_8] 68 (0, 0)) (zK BK304.o) hb); replace HB := qQ (below_step zB hb); (try clear hb); (try clear hb2); (try clear hk); (try clear hi); have hcz2 := blk_cell BK303.o; have hfz2 := blk_frozen BK303.o) | (go_at_call 52; (with_reducible refine (lay_Size.calls a0_0 a0_1 a0_2 a0_3 t306 _ A7.o).mono ?_); (try clear A7); rintro e w4 ⟨rfl, hb⟩; replace BK303 := qQ (blk_below (g := gb303) (o := .cells #[.int .i64 a0_0, .int .i64 a0_1, .int .i64 a0_2, .int .i64 a0_3] 23 (0, 0)) (zK BK303.o) hb); replace BK304 := qQ (blk_below (g := gb304) (o := .cells #[.int .i64 a3_0, .slice A3_1 l3_1.length c3_1, .int .i64 a3_2, .int .i64 a3_3, .int .i64 a3_4, .int .u64 a3_5, .int .u64 a3_6, .int .u64 a3_7, .int .i64 a3_8] 68 (0, 0)) (zK BK304.o) hb); replace HB := qQ (below_step zB hb); (try clear hb); (try clear hb2); (try clear hk); (try clear hi)) | (go_at_call 23; (with_reducible refine (forest_May.calls _ _ l1 true _ ?side1 ?side2 A9.o).mono ?_); (try clear A9); (case side1 => repeat (first | exact (Kd.C_below HR1.o HB.o) | (with_reducible refine Kd.C_alloc ?_ _) | (with_reducible refine Kd.C_drewN ?_ _) | (with_reducible refine Kd.C_drew ?_))); (case side2 => exact HC1.o); rintro e w5 ⟨rfl, hb⟩; replace BK303 := qQ (blk_below (g := gb303) (o := .cells #[.int .i64 a0_0, .int .i64 a0_1, .int .i64 a0_2, .int .i64 a0_3] 23 (0, 0)) (zK BK303.o) hb); replace BK304 := qQ (blk_below (g := gb304) (o := .cells #[.int .i64 a3_0, .slice A3_1 l3_1.length c3_1, .int .i64 a3_2, .int .i64 a3_3, .int .i64 a3_4, .int .u64 a3_5, .int .u64 a3_6, .int .u64 a3_7, .int .i64 a3_8] 68 (0, 0)) (zK BK304.o) hb); replace HB := qQ (below_step zB hb); (try clear hb); (try clear hb2); (try clear hk); (try clear hi); have hcz3 := blk_cell BK304.o; have hfz3 := blk_frozen BK304.o; have p308 : 0 ≤ (0 : Int) := (by omega); have q308 : 0 < (l3_1.length : Int) := of_decide_eq_true (by first | (with_reducible assumption) | assumption); obtain ⟨ad308, e308, hx308_0⟩ := Kd.at_int HR3_1.o 0 p308 q308; cases e308; have qi308 : (0 < l3_1.length) = True := eq_true (by omega); (try rw [show ((0 : Int)).toNat = 0 from rfl] at hx308_0); (try rw [Addr.add_zero'] at hx308_0); replace hx308_0 := (HB.o.cell (World.block_lt_of_cell? w _ hx308_0)).trans hx308_0; replace p308 := eq_true p308; replace q308 := eq_true q308; have p309 : 0 ≤ (0 : Int) := (by omega); have q309 : 0 < (l3_1.length : Int) := of_decide_eq_true (by first | (with_reducible assumption) | assumption); obtain ⟨ad309, e309, hx309_0⟩ := Kd.at_int HR3_1.o 0 p309 q309; obtain rfl : ad308 = ad309 := (by injection e309); have qi309 : (0 < l3_1.length) = True := eq_true (by omega); (try rw [show ((0 : Int)).toNat = 0 from rfl] at hx309_0); (try rw [Addr.add_zero'] at hx309_0); replace hx309_0 := (HB.o.cell (World.block_lt_of_cell? w _ hx309_0)).trans hx309_0; replace p309 := eq_true p309; replace q309 := eq_true q309) | (go_at_call 23; (with_reducible refine (forest_May.calls _ _ l1 true _ ?side1 ?side2 A9.o).mono ?_); (try clear A9); (case side1 => repeat (first | exact (Kd.C_below HR1.o HB.o) | (with_reducible refine Kd.C_alloc ?_ _) | (with_reducible refine Kd.C_drewN ?_ _) | (with_reducible refine Kd.C_drew ?_))); (case side2 => exact HC1.o); rintro e w5 ⟨rfl, hb⟩; replace BK303 := qQ (blk_below (g := gb303) (o := .cells #[.int .i64 a0_0, .int .i64 a0_1, .int .i64 a0_2, .int .i64 a0_3] 23 (0, 0)) (zK BK303.o) hb); replace BK304 := qQ (blk_below (g := gb304) (o := .cells #[.int .i64 a3_0, .slice A3_1 l3_1.length c3_1, .int .i64 a3_2, .int .i64 a3_3, .int .i64 a3_4, .int .u64 a3_5, .int .u64 a3_6, .int .u64 a3_7, .int .i64 a3_8] 68 (0, 0)) (zK BK304.o) hb); replace HB := qQ (below_step zB hb); (try clear hb); (try clear hb2); (try clear hk); (try clear hi); have hcz3 := blk_cell BK304.o; have hfz3 := blk_frozen BK304.o; have p308 : 0 ≤ (0 : Int) := (by omega); have q308 : 0 < (l3_1.length : Int) := of_decide_eq_true (by first | (with_reducible assumption) | assumption); obtain ⟨ad308, e308, hx308_0⟩ := Kd.at_int HR3_1.o 0 p308 q308; cases e308; have qi308 : (0 < l3_1.length) = True := eq_true (by omega); (try rw [show ((0 : Int)).toNat = 0 from rfl] at hx308_0); (try rw [Addr.add_zero'] at hx308_0); replace hx308_0 := (HB.o.cell (World.block_lt_of_cell? w _ hx308_0)).trans hx308_0; replace p308 := eq_true p308; replace q308 := eq_true q308) | (go_at_call 23; (with_reducible refine (forest_May.calls _ _ l1 true _ ?side1 ?side2 A9.o).mono ?_); (try clear A9); (case side1 => repeat (first | exact (Kd.C_below HR1.o HB.o) | (with_reducible refine Kd.C_alloc ?_ _) | (with_reducible refine Kd.C_drewN ?_ _) | (with_reducible refine Kd.C_drew ?_))); (case side2 => exact HC1.o); rintro e w5 ⟨rfl, hb⟩; replace BK303 := qQ (blk_below (g := gb303) (o := .cells #[.int .i64 a0_0, .int .i64 a0_1, .int .i64 a0_2, .int .i64 a0_3] 23 (0, 0)) (zK BK303.o) hb); replace BK304 := qQ (blk_below (g := gb304) (o := .cells #[.int .i64 a3_0, .slice A3_1 l3_1.length c3_1, .int .i64 a3_2, .int .i64 a3_3, .int .i64 a3_4, .int .u64 a3_5, .int .u64 a3_6, .int .u64 a3_7, .int .i64 a3_8] 68 (0, 0)) (zK BK304.o) hb); replace HB := qQ (below_step zB hb); (try clear hb); (try clear hb2); (try clear hk); (try clear hi); have hcz3 := blk_cell BK304.o; have hfz3 := blk_frozen BK304.o) | (go_at_call 23; (with_reducible refine (forest_May.calls _ _ l1 false _ ?side1 ?side2 A9.o).mono ?_); (try clear A9); (case side1 => repeat (first | exact (Kd.C_below HR1.o HB.o) | (with_reducible refine Kd.C_alloc ?_ _) | (with_reducible refine Kd.C_drewN ?_ _) | (with_reducible refine Kd.C_drew ?_))); (case side2 => exact HC1.o); rintro e w5 ⟨rfl, hb⟩; replace BK303 := qQ (blk_below (g := gb303) (o := .cells #[.int .i64 a0_0, .int .i64 a0_1, .int .i64 a0_2, .int .i64 a0_3] 23 (0, 0)) (zK BK303.o) hb); replace BK304 := qQ (blk_below (g := gb304) (o := .cells #[.int .i64 a3_0, .slice A3_1 l3_1.length c3_1, .int .i64 a3_2, .int .i64 a3_3, .int .i64 a3_4, .int .u64 a3_5, .int .u64 a3_6, .int .u64 a3_7, .int .i64 a3_8] 68 (0, 0)) (zK BK304.o) hb); replace HB := qQ (below_step zB hb); (try clear hb); (try clear hb2); (try clear hk); (try clear hi)) | ((with_reducible refine gate_callee (f := 22) rfl ?_); refine goesL_ (some 10) rfl rfl Tryz.func22 (by kernel_rfl) rfl #[.agg #[.int .i64 a0_0, .int .i64 a0_1, .int .i64 a0_2, .int .i64 a0_3]] rfl (by (try simp only [List.map_toArray, List.map_cons, List.map_nil]); first | done | rfl | (simp only [List.length_drop, List.length_take]; rfl)) ?_; (with_reducible refine (lay_May.calls a0_0 a0_1 a0_2 a0_3 false _ A5.o).mono ?_); (try clear A5); rintro e w3 ⟨rfl, hb⟩; refine ⟨_, rfl, ?_⟩; replace BK303 := qQ (blk_below (g := gb303) (o := .cells #[.int .i64 a0_0, .int .i64 a0_1, .int .i64 a0_2, .int .i64 a0_3] 23 (0, 0)) (zK BK303.o) hb); replace BK304 := qQ (blk_below (g := gb304) (o := .cells #[.int .i64 a3_0, .slice A3_1 l3_1.length c3_1, .int .i64 a3_2, .int .i64 a3_3, .int .i64 a3_4, .int .u64 a3_5, .int .u64 a3_6, .int .u64 a3_7, .int .i64 a3_8] 68 (0, 0)) (zK BK304.o) hb); replace HB := qQ (below_step zB hb); (try clear hb); (try clear hb2); (try clear hk); (try clear hi)))
  go_ret
  exact ⟨by first | rfl | (simp [errW_none, errW_some] <;> rfl) | (simp [*, errW_none, errW_some] <;> rfl), zB⟩
end Go.Proofs.YthoeodjgfelkhaaGreat.QT
