-- Written by inj.py (a program of this session), by the kit's print with functions given by hand. Not trusted: Lean checks it.
import Derived.Test.YtdglmmpnjbobjaaQLx0
import Derived.Test.YtdglmmpnjbobjaaQLx20
namespace Go.Proofs.Ytdglmmpnjbobjaa.QL
open Go.RowKit Go.Proofs.YtdglmmpnjbobjaaW.PrintWords Go.Proofs.YtdglmmpnjbobjaaW.PrintLast Go.Proofs.YtdglmmpnjbobjaaW.PrintMore
attribute [local go_sem] max2_int min2_int max_two min_two max_three min_three max_four min_four   -- for this text's walks alone
set_option linter.unusedVariables false
set_option linter.unusedSimpArgs false

/-! ### poacherref03_Slot: function 28 -/
def poacherref03_Slot.f (a0_0 : Int) (a0_1 : Int) (a0_2 : Int) (a0_3 : Int) (a1 : Int) (a2 : Int) : Option (Int) := (poacherref03_Top.f a0_0 a0_1 a0_2 a0_3 a1).bind fun t148 => (if t148 < 0 then (some (-1)) else (if (IntKind.u64.wrap (a0_1)) = 0 then (none) else (some (wrap64 ((wrap64 (t148 + 3)) + (wrap64 (Int.tmod a2 (IntKind.u64.wrap (a0_1)))))))))
set_option maxHeartbeats 8000000 in
set_option maxRecDepth 100000 in
theorem poacherref03_Slot.calls (a0_0 : Int) (a0_1 : Int) (a0_2 : Int) (a0_3 : Int) (a1 : Int) (a2 : Int) (r : Int) (w : World) (h : poacherref03_Slot.f a0_0 a0_1 a0_2 a0_3 a1 a2 = some r) :
    Calls Try.prog 28 #[.agg #[.int .i64 a0_0, .int .i64 a0_1, .int .i64 a0_2, .int .i64 a0_3], .int .i64 a1, .int .u64 a2] w fun e w' => e = .returned (.int .i64 r) ∧ Below w.heap.size w w' := by
  have hu23 := Try.underlying23
  have HB := Aside0.mk (Below.refl w.heap.size w)
  have H : ((poacherref03_Top.f a0_0 a0_1 a0_2 a0_3 a1).bind fun t148 => (if t148 < 0 then (some (-1)) else (if (IntKind.u64.wrap (a0_1)) = 0 then (none) else (some (wrap64 ((wrap64 (t148 + 3)) + (wrap64 (Int.tmod a2 (IntKind.u64.wrap (a0_1)))))))))) = some r := h
  clear h
  replace H := Option.bind_eq_some_iff.mp H
  obtain ⟨t148, A40, H⟩ := H
  replace H : (if t148 < 0 then (some (-1)) else (if (IntKind.u64.wrap (a0_1)) = 0 then (none) else (some (wrap64 ((wrap64 (t148 + 3)) + (wrap64 (Int.tmod a2 (IntKind.u64.wrap (a0_1))))))))) = some r := H
  have A4 := Aside0.mk A40
  clear A40
  by_cases c5 : t148 < 0
  · rw [if_pos c5] at H
    have c5b0 : decide (t148 < 0) = true := decide_eq_true c5
    clear c5
    obtain rfl := Option.some.inj H
    simp only [Option.some.injEq, Prod.mk.injEq] at H
    obtain ⟨rfl⟩ := H
    go_enter Try.func28, Try.ntmps28
    go_wp2_with (first | ((with_reducible refine gate_dst (N := 3) rfl ?_); refine box_event ?hg (N := 3) ?hd (cs := #[.int .i64 a0_0, .int .i64 a0_1, .int .i64 a0_2, .int .i64 a0_3]) (t := 23) ?hr ?_; (case hd => rfl); (case hg => rfl); (case hr => first | (go_simp; done) | (go_simp; rfl)); intro gb147 hg w6 hbox hb; have n0_ := Aside0.mk (below_step (by repeat (first | (with_reducible first | exact HB.out | apply below_alloc | apply pw_below_drewN | apply below_drew1) | exact HB.out)) hb); have n1_ := Aside0.mk (hbox); have n2_ := Aside0.mk ((by rw [hg]; exact (below_size (by repeat (first | (with_reducible first | exact HB.out | apply below_alloc | apply pw_below_drewN | apply below_drew1) | exact HB.out))) : w.heap.size ≤ gb147)); have n3_ := Aside0.mk ((by rw [hg]; exact (below_size (by repeat (first | (with_reducible first | exact HB.out | apply below_alloc | apply pw_below_drewN | apply below_drew1) | exact HB.out))) : w.heap.size ≤ gb147)); clear HB; have HB := n0_; have BK147 := n1_; have GW147 := n2_; have GE147 := n3_; clear n0_ n1_ n2_ n3_; clear hb hbox hg; have hcz7_0 : w6.cell? ⟨gb147, 0, none⟩ = some (.int .i64 a0_0) := (blk_cell BK147.out 0).trans rfl; have hcz7_1 : w6.cell? ⟨gb147, 1, none⟩ = some (.int .i64 a0_1) := (blk_cell BK147.out 1).trans rfl; have hcz7_2 : w6.cell? ⟨gb147, 2, none⟩ = some (.int .i64 a0_2) := (blk_cell BK147.out 2).trans rfl; have hcz7_3 : w6.cell? ⟨gb147, 3, none⟩ = some (.int .i64 a0_3) := (blk_cell BK147.out 3).trans rfl; have hfz7_0 := blk_frozen BK147.out 0; have hfz7_1 := blk_frozen BK147.out 1; have hfz7_2 := blk_frozen BK147.out 2; have hfz7_3 := blk_frozen BK147.out 3) | ((with_reducible refine gate_callee (f := 22) rfl ?_); refine goesL_ (some 10) rfl rfl Try.func22 (by kernel_rfl) rfl #[.agg #[.int .i64 a0_0, .int .i64 a0_1, .int .i64 a0_2, .int .i64 a0_3], .int .i64 a1] rfl (by (try simp only [List.map_toArray, List.map_cons, List.map_nil]); first | done | rfl | (simp only [List.length_drop, List.length_take]; rfl)) ?_; (with_reducible refine (poacherref03_Top.calls a0_0 a0_1 a0_2 a0_3 a1 t148 _ A4.out).mono ?_); (try clear A4); rintro e w8 ⟨rfl, hb⟩; refine ⟨_, rfl, ?_⟩; have n0_ := Aside0.mk (blk_below (g := gb147) (o := .cells #[.int .i64 a0_0, .int .i64 a0_1, .int .i64 a0_2, .int .i64 a0_3] 23 (0, 0)) (by (with_reducible repeat (first | refine blk_drewN ?_ _ | refine blk_drew ?_ | refine blk_alloc ?_ _)); exact BK147.out) hb); have n1_ := Aside0.mk (below_step (by repeat (first | (with_reducible first | exact HB.out | apply below_alloc | apply pw_below_drewN | apply below_drew1 | refine below_set ?_ GE147.out) | exact HB.out)) hb); clear BK147; clear HB; have BK147 := n0_; have HB := n1_; clear n0_ n1_; (try clear hb); (try clear hb2); (try clear hk); (try clear hi)))
    go_ret
    exact ⟨by first | rfl | (simp [errW_none, errW_some] <;> rfl) | (simp [*, errW_none, errW_some] <;> rfl), by repeat (first | (with_reducible first | exact HB.out | apply below_alloc | apply pw_below_drewN | apply below_drew1 | refine below_set ?_ GE147.out) | exact HB.out)⟩
  · rw [if_neg c5] at H
    have c5b0 : decide (t148 < 0) = false := decide_eq_false c5
    clear c5
    by_cases c9 : (IntKind.u64.wrap (a0_1)) = 0
    · rw [if_pos c9] at H
      exact absurd H (by simp)
    · rw [if_neg c9] at H
      have c9b0 : ((IntKind.u64.wrap (a0_1)) == 0) = false := beq_eq_false_iff_ne.mpr c9
      have c9b1 : ((IntKind.u64.wrap (a0_1)) != 0) = true := bne_iff_ne.mpr c9
      obtain rfl := Option.some.inj H
      simp only [Option.some.injEq, Prod.mk.injEq] at H
      obtain ⟨rfl⟩ := H
      go_enter Try.func28, Try.ntmps28
      go_wp2_with (first | ((with_reducible refine gate_dst (N := 3) rfl ?_); refine box_event ?hg (N := 3) ?hd (cs := #[.int .i64 a0_0, .int .i64 a0_1, .int .i64 a0_2, .int .i64 a0_3]) (t := 23) ?hr ?_; (case hd => rfl); (case hg => rfl); (case hr => first | (go_simp; done) | (go_simp; rfl)); intro gb147 hg w10 hbox hb; have n0_ := Aside0.mk (below_step (by repeat (first | (with_reducible first | exact HB.out | apply below_alloc | apply pw_below_drewN | apply below_drew1) | exact HB.out)) hb); have n1_ := Aside0.mk (hbox); have n2_ := Aside0.mk ((by rw [hg]; exact (below_size (by repeat (first | (with_reducible first | exact HB.out | apply below_alloc | apply pw_below_drewN | apply below_drew1) | exact HB.out))) : w.heap.size ≤ gb147)); have n3_ := Aside0.mk ((by rw [hg]; exact (below_size (by repeat (first | (with_reducible first | exact HB.out | apply below_alloc | apply pw_below_drewN | apply below_drew1) | exact HB.out))) : w.heap.size ≤ gb147)); clear HB; have HB := n0_; have BK147 := n1_; have GW147 := n2_; have GE147 := n3_; clear n0_ n1_ n2_ n3_; clear hb hbox hg; have hcz11_0 : w10.cell? ⟨gb147, 0, none⟩ = some (.int .i64 a0_0) := (blk_cell BK147.out 0).trans rfl; have hcz11_1 : w10.cell? ⟨gb147, 1, none⟩ = some (.int .i64 a0_1) := (blk_cell BK147.out 1).trans rfl; have hcz11_2 : w10.cell? ⟨gb147, 2, none⟩ = some (.int .i64 a0_2) := (blk_cell BK147.out 2).trans rfl; have hcz11_3 : w10.cell? ⟨gb147, 3, none⟩ = some (.int .i64 a0_3) := (blk_cell BK147.out 3).trans rfl; have hfz11_0 := blk_frozen BK147.out 0; have hfz11_1 := blk_frozen BK147.out 1; have hfz11_2 := blk_frozen BK147.out 2; have hfz11_3 := blk_frozen BK147.out 3) | ((with_reducible refine gate_callee (f := 22) rfl ?_); refine goesL_ (some 10) rfl rfl Try.func22 (by kernel_rfl) rfl #[.agg #[.int .i64 a0_0, .int .i64 a0_1, .int .i64 a0_2, .int .i64 a0_3], .int .i64 a1] rfl (by (try simp only [List.map_toArray, List.map_cons, List.map_nil]); first | done | rfl | (simp only [List.length_drop, List.length_take]; rfl)) ?_; (with_reducible refine (poacherref03_Top.calls a0_0 a0_1 a0_2 a0_3 a1 t148 _ A4.out).mono ?_); (try clear A4); rintro e w12 ⟨rfl, hb⟩; refine ⟨_, rfl, ?_⟩; have n0_ := Aside0.mk (blk_below (g := gb147) (o := .cells #[.int .i64 a0_0, .int .i64 a0_1, .int .i64 a0_2, .int .i64 a0_3] 23 (0, 0)) (by (with_reducible repeat (first | refine blk_drewN ?_ _ | refine blk_drew ?_ | refine blk_alloc ?_ _)); exact BK147.out) hb); have n1_ := Aside0.mk (below_step (by repeat (first | (with_reducible first | exact HB.out | apply below_alloc | apply pw_below_drewN | apply below_drew1 | refine below_set ?_ GE147.out) | exact HB.out)) hb); clear BK147; clear HB; have BK147 := n0_; have HB := n1_; clear n0_ n1_; (try clear hb); (try clear hb2); (try clear hk); (try clear hi); have hcz13_0 : w12.cell? ⟨gb147, 0, none⟩ = some (.int .i64 a0_0) := (blk_cell BK147.out 0).trans rfl; have hcz13_1 : w12.cell? ⟨gb147, 1, none⟩ = some (.int .i64 a0_1) := (blk_cell BK147.out 1).trans rfl; have hcz13_2 : w12.cell? ⟨gb147, 2, none⟩ = some (.int .i64 a0_2) := (blk_cell BK147.out 2).trans rfl; have hcz13_3 : w12.cell? ⟨gb147, 3, none⟩ = some (.int .i64 a0_3) := (blk_cell BK147.out 3).trans rfl; have hfz13_0 := blk_frozen BK147.out 0; have hfz13_1 := blk_frozen BK147.out 1; have hfz13_2 := blk_frozen BK147.out 2; have hfz13_3 := blk_frozen BK147.out 3))
      go_ret
      exact ⟨by first | rfl | (simp [errW_none, errW_some] <;> rfl) | (simp [*, errW_none, errW_some] <;> rfl), by repeat (first | (with_reducible first | exact HB.out | apply below_alloc | apply pw_below_drewN | apply below_drew1 | refine below_set ?_ GE147.out) | exact HB.out)⟩

end Go.Proofs.Ytdglmmpnjbobjaa.QL
