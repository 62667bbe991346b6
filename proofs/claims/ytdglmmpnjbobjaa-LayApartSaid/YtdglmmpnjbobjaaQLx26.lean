-- Written by inj.py (a program of this session), by the kit's print with functions given by hand. Not trusted: Lean checks it.
import Derived.Test.YtdglmmpnjbobjaaQLx0
import Derived.Test.YtdglmmpnjbobjaaQLx2
import Derived.Test.YtdglmmpnjbobjaaQLx4
import Derived.Test.YtdglmmpnjbobjaaQLx13
import Derived.Test.YtdglmmpnjbobjaaQLx25
namespace Go.Proofs.Ytdglmmpnjbobjaa.QL
open Go.RowKit Go.Proofs.YtdglmmpnjbobjaaW.PrintWords Go.Proofs.YtdglmmpnjbobjaaW.PrintLast Go.Proofs.YtdglmmpnjbobjaaW.PrintMore
attribute [local go_sem] max2_int min2_int max_two min_two max_three min_three max_four min_four   -- for this text's walks alone
set_option linter.unusedVariables false
set_option linter.unusedSimpArgs false

/-! ### poacherlaw03_LayApart: function 4 -/
mutual
def poacherlaw03_LayApart.j0 : Nat → Int → Int → Int → Int → Int → Int → Bool → Bool → Int → Int → Int → Int → Option (Bool)
  | 0, _, _, _, _, _, _, _, _, _, _, _, _ => none
  | k + 1, x1, x2, x3, x4, x5, x6, x15, x63, x182000, x182001, x182002, x182003 => if x63 = true then (some x15) else ((poacherlaw03_spot.f x182000 x182001 x182002 x182003 x1 x2 x3).bind fun t184 => ((poacherlaw03_spot.f x182000 x182001 x182002 x182003 x4 x5 x6).bind fun t185 => (if x1 < 2 then (poacherlaw03_LayApart.j1 k x1 x2 x3 x4 x5 x6 t184 t185 (IntKind.u64.wrap (x182002)) x182000 x182001 x182002 x182003) else (poacherlaw03_LayApart.j1 k x1 x2 x3 x4 x5 x6 t184 t185 1 x182000 x182001 x182002 x182003))))
def poacherlaw03_LayApart.j1 : Nat → Int → Int → Int → Int → Int → Int → Int → Int → Int → Int → Int → Int → Int → Option (Bool)
  | 0, _, _, _, _, _, _, _, _, _, _, _, _, _ => none
  | k + 1, x1, x2, x3, x4, x5, x6, x16, x17, x18, x182000, x182001, x182002, x182003 => if x1 = 5 then (if x1 = x4 then (if x1 < 2 then (if (IntKind.u64.wrap (x182001)) = 0 then (none) else (if ((x16 == x17) == ((Int.tmod x3 (IntKind.u64.wrap (x182001))) == (Int.tmod x6 (IntKind.u64.wrap (x182001))))) = true then (if x16 ≥ 6 then ((lay_Size.f x182000 x182001 x182002 x182003).bind fun t186 => (if x16 < t186 then (if x17 ≥ 6 then ((lay_Size.f x182000 x182001 x182002 x182003).bind fun t187 => (some (decide (x17 < t187)))) else (some false)) else (some false))) else (some false)) else (some false))) else (if x2 = x5 then (if (IntKind.u64.wrap (x182001)) = 0 then (none) else (if ((x16 == x17) == ((Int.tmod x3 (IntKind.u64.wrap (x182001))) == (Int.tmod x6 (IntKind.u64.wrap (x182001))))) = true then (if x16 ≥ 6 then ((lay_Size.f x182000 x182001 x182002 x182003).bind fun t188 => (if x16 < t188 then (if x17 ≥ 6 then ((lay_Size.f x182000 x182001 x182002 x182003).bind fun t189 => (some (decide (x17 < t189)))) else (some false)) else (some false))) else (some false)) else (some false))) else (if ((x16 == x17) == false) = true then (if x16 ≥ 6 then ((lay_Size.f x182000 x182001 x182002 x182003).bind fun t190 => (if x16 < t190 then (if x17 ≥ 6 then ((lay_Size.f x182000 x182001 x182002 x182003).bind fun t191 => (some (decide (x17 < t191)))) else (some false)) else (some false))) else (some false)) else (some false)))) else (if ((x16 == x17) == false) = true then (if x16 ≥ 6 then ((lay_Size.f x182000 x182001 x182002 x182003).bind fun t192 => (if x16 < t192 then (if x17 ≥ 6 then ((lay_Size.f x182000 x182001 x182002 x182003).bind fun t193 => (some (decide (x17 < t193)))) else (some false)) else (some false))) else (some false)) else (some false))) else (if x1 = x4 then (if x1 < 2 then (if x18 = 0 then (none) else (if ((x16 == x17) == ((Int.tmod x3 x18) == (Int.tmod x6 x18))) = true then (if x16 ≥ 6 then ((lay_Size.f x182000 x182001 x182002 x182003).bind fun t194 => (if x16 < t194 then (if x17 ≥ 6 then ((lay_Size.f x182000 x182001 x182002 x182003).bind fun t195 => (some (decide (x17 < t195)))) else (some false)) else (some false))) else (some false)) else (some false))) else (if x2 = x5 then (if x18 = 0 then (none) else (if ((x16 == x17) == ((Int.tmod x3 x18) == (Int.tmod x6 x18))) = true then (if x16 ≥ 6 then ((lay_Size.f x182000 x182001 x182002 x182003).bind fun t196 => (if x16 < t196 then (if x17 ≥ 6 then ((lay_Size.f x182000 x182001 x182002 x182003).bind fun t197 => (some (decide (x17 < t197)))) else (some false)) else (some false))) else (some false)) else (some false))) else (if ((x16 == x17) == false) = true then (if x16 ≥ 6 then ((lay_Size.f x182000 x182001 x182002 x182003).bind fun t198 => (if x16 < t198 then (if x17 ≥ 6 then ((lay_Size.f x182000 x182001 x182002 x182003).bind fun t199 => (some (decide (x17 < t199)))) else (some false)) else (some false))) else (some false)) else (some false)))) else (if ((x16 == x17) == false) = true then (if x16 ≥ 6 then ((lay_Size.f x182000 x182001 x182002 x182003).bind fun t200 => (if x16 < t200 then (if x17 ≥ 6 then ((lay_Size.f x182000 x182001 x182002 x182003).bind fun t201 => (some (decide (x17 < t201)))) else (some false)) else (some false))) else (some false)) else (some false)))
end
def poacherlaw03_LayApart.f (k : Nat) (a0_0 : Int) (a0_1 : Int) (a0_2 : Int) (a0_3 : Int) (a1 : Int) (a2 : Int) (a3 : Int) (a4 : Int) (a5 : Int) (a6 : Int) : Option (Bool) := (poacherlaw03_awake.f k).bind fun t182 => (if t182 = true then ((lay_May.f a0_0 a0_1 a0_2 a0_3).bind fun t183 => (if t183 = true then (if a1 < 0 then (poacherlaw03_LayApart.j0 k a1 a2 a3 a4 a5 a6 t182 true a0_0 a0_1 a0_2 a0_3) else (if a1 > 5 then (poacherlaw03_LayApart.j0 k a1 a2 a3 a4 a5 a6 t182 true a0_0 a0_1 a0_2 a0_3) else (if a4 < 0 then (poacherlaw03_LayApart.j0 k a1 a2 a3 a4 a5 a6 t182 true a0_0 a0_1 a0_2 a0_3) else (if a4 > 5 then (poacherlaw03_LayApart.j0 k a1 a2 a3 a4 a5 a6 t182 true a0_0 a0_1 a0_2 a0_3) else (if a2 < 0 then (poacherlaw03_LayApart.j0 k a1 a2 a3 a4 a5 a6 t182 true a0_0 a0_1 a0_2 a0_3) else (if a5 < 0 then (poacherlaw03_LayApart.j0 k a1 a2 a3 a4 a5 a6 t182 true a0_0 a0_1 a0_2 a0_3) else (if a2 ≥ a0_0 then (poacherlaw03_LayApart.j0 k a1 a2 a3 a4 a5 a6 t182 true a0_0 a0_1 a0_2 a0_3) else (poacherlaw03_LayApart.j0 k a1 a2 a3 a4 a5 a6 t182 (decide (a5 ≥ a0_0)) a0_0 a0_1 a0_2 a0_3)))))))) else (poacherlaw03_LayApart.j0 k a1 a2 a3 a4 a5 a6 t182 true a0_0 a0_1 a0_2 a0_3))) else (poacherlaw03_LayApart.j0 k a1 a2 a3 a4 a5 a6 t182 true a0_0 a0_1 a0_2 a0_3))
theorem poacherlaw03_LayApart.mono_l : ∀ k, (∀ y0 y1 y2 y3 y4 y5 y6 y7 y8 y9 y10 y11, LeO (poacherlaw03_LayApart.j0 k y0 y1 y2 y3 y4 y5 y6 y7 y8 y9 y10 y11) (poacherlaw03_LayApart.j0 (k + 1) y0 y1 y2 y3 y4 y5 y6 y7 y8 y9 y10 y11)) ∧ (∀ y0 y1 y2 y3 y4 y5 y6 y7 y8 y9 y10 y11 y12, LeO (poacherlaw03_LayApart.j1 k y0 y1 y2 y3 y4 y5 y6 y7 y8 y9 y10 y11 y12) (poacherlaw03_LayApart.j1 (k + 1) y0 y1 y2 y3 y4 y5 y6 y7 y8 y9 y10 y11 y12))
  | 0 => ⟨fun _ _ _ _ _ _ _ _ _ _ _ _ r h => by simp [poacherlaw03_LayApart.j0] at h, fun _ _ _ _ _ _ _ _ _ _ _ _ _ r h => by simp [poacherlaw03_LayApart.j1] at h⟩
  | k + 1 => by
    obtain ⟨ih0, ih1⟩ := poacherlaw03_LayApart.mono_l k
    refine ⟨?_, ?_⟩
    · intro y0 y1 y2 y3 y4 y5 y6 y7 y8 y9 y10 y11
      unfold poacherlaw03_LayApart.j0
      repeat' first
      | (with_reducible exact ih0 _ _ _ _ _ _ _ _ _ _ _ _)
      | (with_reducible exact ih1 _ _ _ _ _ _ _ _ _ _ _ _ _)
      | (with_reducible exact poacherlaw03_awake.mono _)
      | (with_reducible exact LeO.refl _)
      | (with_reducible exact LeO.none _)
      | (with_reducible refine LeO.ite ?_ ?_)
      | (with_reducible refine LeO.bind ?_ (fun _ => ?_))
      | exact ih0 _ _ _ _ _ _ _ _ _ _ _ _
      | exact ih1 _ _ _ _ _ _ _ _ _ _ _ _ _
      | exact poacherlaw03_awake.mono _
      | exact LeO.none _
      | refine LeO.ite ?_ ?_
      | refine LeO.bind ?_ (fun _ => ?_)
    · intro y0 y1 y2 y3 y4 y5 y6 y7 y8 y9 y10 y11 y12
      unfold poacherlaw03_LayApart.j1
      repeat' first
      | (with_reducible exact ih0 _ _ _ _ _ _ _ _ _ _ _ _)
      | (with_reducible exact ih1 _ _ _ _ _ _ _ _ _ _ _ _ _)
      | (with_reducible exact poacherlaw03_awake.mono _)
      | (with_reducible exact LeO.refl _)
      | (with_reducible exact LeO.none _)
      | (with_reducible refine LeO.ite ?_ ?_)
      | (with_reducible refine LeO.bind ?_ (fun _ => ?_))
      | exact ih0 _ _ _ _ _ _ _ _ _ _ _ _
      | exact ih1 _ _ _ _ _ _ _ _ _ _ _ _ _
      | exact poacherlaw03_awake.mono _
      | exact LeO.none _
      | refine LeO.ite ?_ ?_
      | refine LeO.bind ?_ (fun _ => ?_)
theorem poacherlaw03_LayApart.mono : ∀ a0 a1 a2 a3 a4 a5 a6 a7 a8 a9 k, LeO (poacherlaw03_LayApart.f k a0 a1 a2 a3 a4 a5 a6 a7 a8 a9) (poacherlaw03_LayApart.f (k + 1) a0 a1 a2 a3 a4 a5 a6 a7 a8 a9) := by
  intro a0 a1 a2 a3 a4 a5 a6 a7 a8 a9 k
  obtain ⟨ih0, ih1⟩ := poacherlaw03_LayApart.mono_l k
  unfold poacherlaw03_LayApart.f
  repeat' first
      | (with_reducible exact ih0 _ _ _ _ _ _ _ _ _ _ _ _)
      | (with_reducible exact ih1 _ _ _ _ _ _ _ _ _ _ _ _ _)
      | (with_reducible exact poacherlaw03_awake.mono _)
      | (with_reducible exact LeO.refl _)
      | (with_reducible exact LeO.none _)
      | (with_reducible refine LeO.ite ?_ ?_)
      | (with_reducible refine LeO.bind ?_ (fun _ => ?_))
      | exact ih0 _ _ _ _ _ _ _ _ _ _ _ _
      | exact ih1 _ _ _ _ _ _ _ _ _ _ _ _ _
      | exact poacherlaw03_awake.mono _
      | exact LeO.none _
      | refine LeO.ite ?_ ?_
      | refine LeO.bind ?_ (fun _ => ?_)
set_option maxHeartbeats 8000000 in
set_option maxRecDepth 100000 in
theorem poacherlaw03_LayApart.calls (k : Nat) (a0_0 : Int) (a0_1 : Int) (a0_2 : Int) (a0_3 : Int) (a1 : Int) (a2 : Int) (a3 : Int) (a4 : Int) (a5 : Int) (a6 : Int) (r : Bool) (w : World) (hr_ : Aside0 (r = true)) (h : poacherlaw03_LayApart.f k a0_0 a0_1 a0_2 a0_3 a1 a2 a3 a4 a5 a6 = some r) :
    Calls Try.prog 4 #[.agg #[.int .i64 a0_0, .int .i64 a0_1, .int .i64 a0_2, .int .i64 a0_3], .int .i64 a1, .int .i64 a2, .int .u64 a3, .int .i64 a4, .int .i64 a5, .int .u64 a6] w fun e w' => e = .returned (.bool r) ∧ Below w.heap.size w w' := by
  have hu23 := Try.underlying23
  have HB := Aside0.mk (Below.refl w.heap.size w)
  have H : ((poacherlaw03_awake.f k).bind fun t182 => (if t182 = true then ((lay_May.f a0_0 a0_1 a0_2 a0_3).bind fun t183 => (if t183 = true then (if a1 < 0 then (poacherlaw03_LayApart.j0 k a1 a2 a3 a4 a5 a6 t182 true a0_0 a0_1 a0_2 a0_3) else (if a1 > 5 then (poacherlaw03_LayApart.j0 k a1 a2 a3 a4 a5 a6 t182 true a0_0 a0_1 a0_2 a0_3) else (if a4 < 0 then (poacherlaw03_LayApart.j0 k a1 a2 a3 a4 a5 a6 t182 true a0_0 a0_1 a0_2 a0_3) else (if a4 > 5 then (poacherlaw03_LayApart.j0 k a1 a2 a3 a4 a5 a6 t182 true a0_0 a0_1 a0_2 a0_3) else (if a2 < 0 then (poacherlaw03_LayApart.j0 k a1 a2 a3 a4 a5 a6 t182 true a0_0 a0_1 a0_2 a0_3) else (if a5 < 0 then (poacherlaw03_LayApart.j0 k a1 a2 a3 a4 a5 a6 t182 true a0_0 a0_1 a0_2 a0_3) else (if a2 ≥ a0_0 then (poacherlaw03_LayApart.j0 k a1 a2 a3 a4 a5 a6 t182 true a0_0 a0_1 a0_2 a0_3) else (poacherlaw03_LayApart.j0 k a1 a2 a3 a4 a5 a6 t182 (decide (a5 ≥ a0_0)) a0_0 a0_1 a0_2 a0_3)))))))) else (poacherlaw03_LayApart.j0 k a1 a2 a3 a4 a5 a6 t182 true a0_0 a0_1 a0_2 a0_3))) else (poacherlaw03_LayApart.j0 k a1 a2 a3 a4 a5 a6 t182 true a0_0 a0_1 a0_2 a0_3))) = some r := h
  clear h
  replace H := Option.bind_eq_some_iff.mp H
  obtain ⟨t182, A80, H⟩ := H
  replace H : (if t182 = true then ((lay_May.f a0_0 a0_1 a0_2 a0_3).bind fun t183 => (if t183 = true then (if a1 < 0 then (poacherlaw03_LayApart.j0 k a1 a2 a3 a4 a5 a6 t182 true a0_0 a0_1 a0_2 a0_3) else (if a1 > 5 then (poacherlaw03_LayApart.j0 k a1 a2 a3 a4 a5 a6 t182 true a0_0 a0_1 a0_2 a0_3) else (if a4 < 0 then (poacherlaw03_LayApart.j0 k a1 a2 a3 a4 a5 a6 t182 true a0_0 a0_1 a0_2 a0_3) else (if a4 > 5 then (poacherlaw03_LayApart.j0 k a1 a2 a3 a4 a5 a6 t182 true a0_0 a0_1 a0_2 a0_3) else (if a2 < 0 then (poacherlaw03_LayApart.j0 k a1 a2 a3 a4 a5 a6 t182 true a0_0 a0_1 a0_2 a0_3) else (if a5 < 0 then (poacherlaw03_LayApart.j0 k a1 a2 a3 a4 a5 a6 t182 true a0_0 a0_1 a0_2 a0_3) else (if a2 ≥ a0_0 then (poacherlaw03_LayApart.j0 k a1 a2 a3 a4 a5 a6 t182 true a0_0 a0_1 a0_2 a0_3) else (poacherlaw03_LayApart.j0 k a1 a2 a3 a4 a5 a6 t182 (decide (a5 ≥ a0_0)) a0_0 a0_1 a0_2 a0_3)))))))) else (poacherlaw03_LayApart.j0 k a1 a2 a3 a4 a5 a6 t182 true a0_0 a0_1 a0_2 a0_3))) else (poacherlaw03_LayApart.j0 k a1 a2 a3 a4 a5 a6 t182 true a0_0 a0_1 a0_2 a0_3)) = some r := H
  have A8 := Aside0.mk A80
  clear A80
  have HC9 := Aside0.mk H
  clear H
  go_enter Try.func4, Try.ntmps4
  go_upto_region 2 with (first | ((with_reducible refine gate_dst (N := 7) rfl ?_); refine box_event ?hg (N := 7) ?hd (cs := #[.int .i64 a0_0, .int .i64 a0_1, .int .i64 a0_2, .int .i64 a0_3]) (t := 23) ?hr ?_; (case hd => rfl); (case hg => rfl); (case hr => first | (go_simp; done) | (go_simp; rfl)); intro gb181 hg w10 hbox hb; have n0_ := Aside0.mk (below_step (by repeat (first | (with_reducible first | exact HB.out | apply below_alloc | apply pw_below_drewN | apply below_drew1) | exact HB.out)) hb); have n1_ := Aside0.mk (hbox); have n2_ := Aside0.mk ((by rw [hg]; exact (below_size (by repeat (first | (with_reducible first | exact HB.out | apply below_alloc | apply pw_below_drewN | apply below_drew1) | exact HB.out))) : w.heap.size ≤ gb181)); have n3_ := Aside0.mk ((by rw [hg]; exact (below_size (by repeat (first | (with_reducible first | exact HB.out | apply below_alloc | apply pw_below_drewN | apply below_drew1) | exact HB.out))) : w.heap.size ≤ gb181)); clear HB; have HB := n0_; have BK181 := n1_; have GW181 := n2_; have GE181 := n3_; clear n0_ n1_ n2_ n3_; clear hb hbox hg) | (go_at_call 9; (with_reducible refine (poacherlaw03_awake.calls k  t182 _ A8.out).mono ?_); (try clear A8); rintro e w11 ⟨rfl, hb⟩; have n0_ := Aside0.mk (blk_below (g := gb181) (o := .cells #[.int .i64 a0_0, .int .i64 a0_1, .int .i64 a0_2, .int .i64 a0_3] 23 (0, 0)) (by (with_reducible repeat (first | refine blk_drewN ?_ _ | refine blk_drew ?_ | refine blk_alloc ?_ _)); exact BK181.out) hb); have n1_ := Aside0.mk (below_step (by repeat (first | (with_reducible first | exact HB.out | apply below_alloc | apply pw_below_drewN | apply below_drew1 | refine below_set ?_ GE181.out) | exact HB.out)) hb); clear BK181; clear HB; have BK181 := n0_; have HB := n1_; clear n0_ n1_; (try clear hb); (try clear hb2); (try clear hk); (try clear hi)))
  repeat (go_quiet (first | ((with_reducible refine gate_dst (N := 7) rfl ?_); refine box_event ?hg (N := 7) ?hd (cs := #[.int .i64 a0_0, .int .i64 a0_1, .int .i64 a0_2, .int .i64 a0_3]) (t := 23) ?hr ?_; (case hd => rfl); (case hg => rfl); (case hr => first | (go_simp; done) | (go_simp; rfl)); intro gb181 hg w10 hbox hb; have n0_ := Aside0.mk (below_step (by repeat (first | (with_reducible first | exact HB.out | apply below_alloc | apply pw_below_drewN | apply below_drew1) | exact HB.out)) hb); have n1_ := Aside0.mk (hbox); have n2_ := Aside0.mk ((by rw [hg]; exact (below_size (by repeat (first | (with_reducible first | exact HB.out | apply below_alloc | apply pw_below_drewN | apply below_drew1) | exact HB.out))) : w.heap.size ≤ gb181)); have n3_ := Aside0.mk ((by rw [hg]; exact (below_size (by repeat (first | (with_reducible first | exact HB.out | apply below_alloc | apply pw_below_drewN | apply below_drew1) | exact HB.out))) : w.heap.size ≤ gb181)); clear HB; have HB := n0_; have BK181 := n1_; have GW181 := n2_; have GE181 := n3_; clear n0_ n1_ n2_ n3_; clear hb hbox hg) | (go_at_call 9; (with_reducible refine (poacherlaw03_awake.calls k  t182 _ A8.out).mono ?_); (try clear A8); rintro e w11 ⟨rfl, hb⟩; have n0_ := Aside0.mk (blk_below (g := gb181) (o := .cells #[.int .i64 a0_0, .int .i64 a0_1, .int .i64 a0_2, .int .i64 a0_3] 23 (0, 0)) (by (with_reducible repeat (first | refine blk_drewN ?_ _ | refine blk_drew ?_ | refine blk_alloc ?_ _)); exact BK181.out) hb); have n1_ := Aside0.mk (below_step (by repeat (first | (with_reducible first | exact HB.out | apply below_alloc | apply pw_below_drewN | apply below_drew1 | refine below_set ?_ GE181.out) | exact HB.out)) hb); clear BK181; clear HB; have BK181 := n0_; have HB := n1_; clear n0_ n1_; (try clear hb); (try clear hb2); (try clear hk); (try clear hi))); go_upto_region 2 with (first | ((with_reducible refine gate_dst (N := 7) rfl ?_); refine box_event ?hg (N := 7) ?hd (cs := #[.int .i64 a0_0, .int .i64 a0_1, .int .i64 a0_2, .int .i64 a0_3]) (t := 23) ?hr ?_; (case hd => rfl); (case hg => rfl); (case hr => first | (go_simp; done) | (go_simp; rfl)); intro gb181 hg w10 hbox hb; have n0_ := Aside0.mk (below_step (by repeat (first | (with_reducible first | exact HB.out | apply below_alloc | apply pw_below_drewN | apply below_drew1) | exact HB.out)) hb); have n1_ := Aside0.mk (hbox); have n2_ := Aside0.mk ((by rw [hg]; exact (below_size (by repeat (first | (with_reducible first | exact HB.out | apply below_alloc | apply pw_below_drewN | apply below_drew1) | exact HB.out))) : w.heap.size ≤ gb181)); have n3_ := Aside0.mk ((by rw [hg]; exact (below_size (by repeat (first | (with_reducible first | exact HB.out | apply below_alloc | apply pw_below_drewN | apply below_drew1) | exact HB.out))) : w.heap.size ≤ gb181)); clear HB; have HB := n0_; have BK181 := n1_; have GW181 := n2_; have GE181 := n3_; clear n0_ n1_ n2_ n3_; clear hb hbox hg) | (go_at_call 9; (with_reducible refine (poacherlaw03_awake.calls k  t182 _ A8.out).mono ?_); (try clear A8); rintro e w11 ⟨rfl, hb⟩; have n0_ := Aside0.mk (blk_below (g := gb181) (o := .cells #[.int .i64 a0_0, .int .i64 a0_1, .int .i64 a0_2, .int .i64 a0_3] 23 (0, 0)) (by (with_reducible repeat (first | refine blk_drewN ?_ _ | refine blk_drew ?_ | refine blk_alloc ?_ _)); exact BK181.out) hb); have n1_ := Aside0.mk (below_step (by repeat (first | (with_reducible first | exact HB.out | apply below_alloc | apply pw_below_drewN | apply below_drew1 | refine below_set ?_ GE181.out) | exact HB.out)) hb); clear BK181; clear HB; have BK181 := n0_; have HB := n1_; clear n0_ n1_; (try clear hb); (try clear hb2); (try clear hk); (try clear hi))))
  (try simp only [Act.put, List.setIfInBounds_toArray, List.set_cons_zero, List.set_cons_succ])
  go_cut [63] (fun v63 wc => ∃ (kq : Nat) (x63_8 : Bool), v63 = .bool x63_8 ∧ Aside0 (poacherlaw03_LayApart.j0 kq a1 a2 a3 a4 a5 a6 t182 x63_8 a0_0 a0_1 a0_2 a0_3 = some r) ∧ Aside0 (kq ≤ k) ∧ Aside0 (wc.heap[gb181]? = some (.cells #[.int .i64 a0_0, .int .i64 a0_1, .int .i64 a0_2, .int .i64 a0_3] 23 (0, 0))) ∧ Aside0 (Below w.heap.size w wc))
  case first =>
    have H := HC9.out
    clear HC9
    by_cases c12 : t182 = true
    · subst c12
      have H1 : ((lay_May.f a0_0 a0_1 a0_2 a0_3).bind fun t183 => (if t183 = true then (if a1 < 0 then (poacherlaw03_LayApart.j0 k a1 a2 a3 a4 a5 a6 true true a0_0 a0_1 a0_2 a0_3) else (if a1 > 5 then (poacherlaw03_LayApart.j0 k a1 a2 a3 a4 a5 a6 true true a0_0 a0_1 a0_2 a0_3) else (if a4 < 0 then (poacherlaw03_LayApart.j0 k a1 a2 a3 a4 a5 a6 true true a0_0 a0_1 a0_2 a0_3) else (if a4 > 5 then (poacherlaw03_LayApart.j0 k a1 a2 a3 a4 a5 a6 true true a0_0 a0_1 a0_2 a0_3) else (if a2 < 0 then (poacherlaw03_LayApart.j0 k a1 a2 a3 a4 a5 a6 true true a0_0 a0_1 a0_2 a0_3) else (if a5 < 0 then (poacherlaw03_LayApart.j0 k a1 a2 a3 a4 a5 a6 true true a0_0 a0_1 a0_2 a0_3) else (if a2 ≥ a0_0 then (poacherlaw03_LayApart.j0 k a1 a2 a3 a4 a5 a6 true true a0_0 a0_1 a0_2 a0_3) else (poacherlaw03_LayApart.j0 k a1 a2 a3 a4 a5 a6 true (decide (a5 ≥ a0_0)) a0_0 a0_1 a0_2 a0_3)))))))) else (poacherlaw03_LayApart.j0 k a1 a2 a3 a4 a5 a6 true true a0_0 a0_1 a0_2 a0_3))) = some r := by rw [if_pos rfl] at H; exact H
      clear H
      have H := H1
      clear H1
      replace H := Option.bind_eq_some_iff.mp H
      obtain ⟨t183, A130, H⟩ := H
      replace H : (if t183 = true then (if a1 < 0 then (poacherlaw03_LayApart.j0 k a1 a2 a3 a4 a5 a6 true true a0_0 a0_1 a0_2 a0_3) else (if a1 > 5 then (poacherlaw03_LayApart.j0 k a1 a2 a3 a4 a5 a6 true true a0_0 a0_1 a0_2 a0_3) else (if a4 < 0 then (poacherlaw03_LayApart.j0 k a1 a2 a3 a4 a5 a6 true true a0_0 a0_1 a0_2 a0_3) else (if a4 > 5 then (poacherlaw03_LayApart.j0 k a1 a2 a3 a4 a5 a6 true true a0_0 a0_1 a0_2 a0_3) else (if a2 < 0 then (poacherlaw03_LayApart.j0 k a1 a2 a3 a4 a5 a6 true true a0_0 a0_1 a0_2 a0_3) else (if a5 < 0 then (poacherlaw03_LayApart.j0 k a1 a2 a3 a4 a5 a6 true true a0_0 a0_1 a0_2 a0_3) else (if a2 ≥ a0_0 then (poacherlaw03_LayApart.j0 k a1 a2 a3 a4 a5 a6 true true a0_0 a0_1 a0_2 a0_3) else (poacherlaw03_LayApart.j0 k a1 a2 a3 a4 a5 a6 true (decide (a5 ≥ a0_0)) a0_0 a0_1 a0_2 a0_3)))))))) else (poacherlaw03_LayApart.j0 k a1 a2 a3 a4 a5 a6 true true a0_0 a0_1 a0_2 a0_3)) = some r := H
      have A13 := Aside0.mk A130
      clear A130
      by_cases c14 : t183 = true
      · subst c14
        have H1 : (if a1 < 0 then (poacherlaw03_LayApart.j0 k a1 a2 a3 a4 a5 a6 true true a0_0 a0_1 a0_2 a0_3) else (if a1 > 5 then (poacherlaw03_LayApart.j0 k a1 a2 a3 a4 a5 a6 true true a0_0 a0_1 a0_2 a0_3) else (if a4 < 0 then (poacherlaw03_LayApart.j0 k a1 a2 a3 a4 a5 a6 true true a0_0 a0_1 a0_2 a0_3) else (if a4 > 5 then (poacherlaw03_LayApart.j0 k a1 a2 a3 a4 a5 a6 true true a0_0 a0_1 a0_2 a0_3) else (if a2 < 0 then (poacherlaw03_LayApart.j0 k a1 a2 a3 a4 a5 a6 true true a0_0 a0_1 a0_2 a0_3) else (if a5 < 0 then (poacherlaw03_LayApart.j0 k a1 a2 a3 a4 a5 a6 true true a0_0 a0_1 a0_2 a0_3) else (if a2 ≥ a0_0 then (poacherlaw03_LayApart.j0 k a1 a2 a3 a4 a5 a6 true true a0_0 a0_1 a0_2 a0_3) else (poacherlaw03_LayApart.j0 k a1 a2 a3 a4 a5 a6 true (decide (a5 ≥ a0_0)) a0_0 a0_1 a0_2 a0_3)))))))) = some r := by rw [if_pos rfl] at H; exact H
        clear H
        have H := H1
        clear H1
        by_cases c15 : a1 < 0
        · rw [if_pos c15] at H
          have c15b0 : decide (a1 < 0) = true := decide_eq_true c15
          clear c15
          (first | rw [c15b0] | (simp only [i64_w, i32_w]; rw [c15b0]) | skip)
          have H' := Aside0.mk H
          clear H
          have hcz16_0 : w11.cell? ⟨gb181, 0, none⟩ = some (.int .i64 a0_0) := (blk_cell BK181.out 0).trans rfl
          have hcz16_1 : w11.cell? ⟨gb181, 1, none⟩ = some (.int .i64 a0_1) := (blk_cell BK181.out 1).trans rfl
          have hcz16_2 : w11.cell? ⟨gb181, 2, none⟩ = some (.int .i64 a0_2) := (blk_cell BK181.out 2).trans rfl
          have hcz16_3 : w11.cell? ⟨gb181, 3, none⟩ = some (.int .i64 a0_3) := (blk_cell BK181.out 3).trans rfl
          have hfz16_0 := blk_frozen BK181.out 0
          have hfz16_1 := blk_frozen BK181.out 1
          have hfz16_2 := blk_frozen BK181.out 2
          have hfz16_3 := blk_frozen BK181.out 3
          go_wp2_with (first | (go_at_call 14; (with_reducible refine (lay_May.calls a0_0 a0_1 a0_2 a0_3 true _ A13.out).mono ?_); (try clear A13); rintro e w17 ⟨rfl, hb⟩; have n0_ := Aside0.mk (blk_below (g := gb181) (o := .cells #[.int .i64 a0_0, .int .i64 a0_1, .int .i64 a0_2, .int .i64 a0_3] 23 (0, 0)) (by (with_reducible repeat (first | refine blk_drewN ?_ _ | refine blk_drew ?_ | refine blk_alloc ?_ _)); exact BK181.out) hb); have n1_ := Aside0.mk (below_step (by repeat (first | (with_reducible first | exact HB.out | apply below_alloc | apply pw_below_drewN | apply below_drew1 | refine below_set ?_ GE181.out) | exact HB.out)) hb); clear BK181; clear HB; have BK181 := n0_; have HB := n1_; clear n0_ n1_; (try clear hb); (try clear hb2); (try clear hk); (try clear hi)))
          repeat (go_quiet (first | (go_at_call 14; (with_reducible refine (lay_May.calls a0_0 a0_1 a0_2 a0_3 true _ A13.out).mono ?_); (try clear A13); rintro e w17 ⟨rfl, hb⟩; have n0_ := Aside0.mk (blk_below (g := gb181) (o := .cells #[.int .i64 a0_0, .int .i64 a0_1, .int .i64 a0_2, .int .i64 a0_3] 23 (0, 0)) (by (with_reducible repeat (first | refine blk_drewN ?_ _ | refine blk_drew ?_ | refine blk_alloc ?_ _)); exact BK181.out) hb); have n1_ := Aside0.mk (below_step (by repeat (first | (with_reducible first | exact HB.out | apply below_alloc | apply pw_below_drewN | apply below_drew1 | refine below_set ?_ GE181.out) | exact HB.out)) hb); clear BK181; clear HB; have BK181 := n0_; have HB := n1_; clear n0_ n1_; (try clear hb); (try clear hb2); (try clear hk); (try clear hi))); try go_wp2_with (first | (go_at_call 14; (with_reducible refine (lay_May.calls a0_0 a0_1 a0_2 a0_3 true _ A13.out).mono ?_); (try clear A13); rintro e w17 ⟨rfl, hb⟩; have n0_ := Aside0.mk (blk_below (g := gb181) (o := .cells #[.int .i64 a0_0, .int .i64 a0_1, .int .i64 a0_2, .int .i64 a0_3] 23 (0, 0)) (by (with_reducible repeat (first | refine blk_drewN ?_ _ | refine blk_drew ?_ | refine blk_alloc ?_ _)); exact BK181.out) hb); have n1_ := Aside0.mk (below_step (by repeat (first | (with_reducible first | exact HB.out | apply below_alloc | apply pw_below_drewN | apply below_drew1 | refine below_set ?_ GE181.out) | exact HB.out)) hb); clear BK181; clear HB; have BK181 := n0_; have HB := n1_; clear n0_ n1_; (try clear hb); (try clear hb2); (try clear hk); (try clear hi))))
          go_meet
          case rel => exact ⟨_, (true), (by first | rfl | (simp; done) | (simp [*]; done)), H', ⟨by first | omega | exact Nat.le_refl _⟩, ⟨by (with_reducible repeat (first | refine blk_drewN ?_ _ | refine blk_drew ?_ | refine blk_alloc ?_ _)); exact BK181.out⟩, ⟨by repeat (first | (with_reducible first | exact HB.out | apply below_alloc | apply pw_below_drewN | apply below_drew1 | refine below_set ?_ GE181.out) | exact HB.out)⟩⟩
        · rw [if_neg c15] at H
          have c15b0 : decide (a1 < 0) = false := decide_eq_false c15
          clear c15
          (first | rw [c15b0] | (simp only [i64_w, i32_w]; rw [c15b0]) | skip)
          by_cases c18 : a1 > 5
          · rw [if_pos c18] at H
            have c18b0 : decide (5 < a1) = true := decide_eq_true c18
            clear c18
            have H' := Aside0.mk H
            clear H
            have hcz19_0 : w11.cell? ⟨gb181, 0, none⟩ = some (.int .i64 a0_0) := (blk_cell BK181.out 0).trans rfl
            have hcz19_1 : w11.cell? ⟨gb181, 1, none⟩ = some (.int .i64 a0_1) := (blk_cell BK181.out 1).trans rfl
            have hcz19_2 : w11.cell? ⟨gb181, 2, none⟩ = some (.int .i64 a0_2) := (blk_cell BK181.out 2).trans rfl
            have hcz19_3 : w11.cell? ⟨gb181, 3, none⟩ = some (.int .i64 a0_3) := (blk_cell BK181.out 3).trans rfl
            have hfz19_0 := blk_frozen BK181.out 0
            have hfz19_1 := blk_frozen BK181.out 1
            have hfz19_2 := blk_frozen BK181.out 2
            have hfz19_3 := blk_frozen BK181.out 3
            go_wp2_with (first | (go_at_call 14; (with_reducible refine (lay_May.calls a0_0 a0_1 a0_2 a0_3 true _ A13.out).mono ?_); (try clear A13); rintro e w20 ⟨rfl, hb⟩; have n0_ := Aside0.mk (blk_below (g := gb181) (o := .cells #[.int .i64 a0_0, .int .i64 a0_1, .int .i64 a0_2, .int .i64 a0_3] 23 (0, 0)) (by (with_reducible repeat (first | refine blk_drewN ?_ _ | refine blk_drew ?_ | refine blk_alloc ?_ _)); exact BK181.out) hb); have n1_ := Aside0.mk (below_step (by repeat (first | (with_reducible first | exact HB.out | apply below_alloc | apply pw_below_drewN | apply below_drew1 | refine below_set ?_ GE181.out) | exact HB.out)) hb); clear BK181; clear HB; have BK181 := n0_; have HB := n1_; clear n0_ n1_; (try clear hb); (try clear hb2); (try clear hk); (try clear hi)))
            repeat (go_quiet (first | (go_at_call 14; (with_reducible refine (lay_May.calls a0_0 a0_1 a0_2 a0_3 true _ A13.out).mono ?_); (try clear A13); rintro e w20 ⟨rfl, hb⟩; have n0_ := Aside0.mk (blk_below (g := gb181) (o := .cells #[.int .i64 a0_0, .int .i64 a0_1, .int .i64 a0_2, .int .i64 a0_3] 23 (0, 0)) (by (with_reducible repeat (first | refine blk_drewN ?_ _ | refine blk_drew ?_ | refine blk_alloc ?_ _)); exact BK181.out) hb); have n1_ := Aside0.mk (below_step (by repeat (first | (with_reducible first | exact HB.out | apply below_alloc | apply pw_below_drewN | apply below_drew1 | refine below_set ?_ GE181.out) | exact HB.out)) hb); clear BK181; clear HB; have BK181 := n0_; have HB := n1_; clear n0_ n1_; (try clear hb); (try clear hb2); (try clear hk); (try clear hi))); try go_wp2_with (first | (go_at_call 14; (with_reducible refine (lay_May.calls a0_0 a0_1 a0_2 a0_3 true _ A13.out).mono ?_); (try clear A13); rintro e w20 ⟨rfl, hb⟩; have n0_ := Aside0.mk (blk_below (g := gb181) (o := .cells #[.int .i64 a0_0, .int .i64 a0_1, .int .i64 a0_2, .int .i64 a0_3] 23 (0, 0)) (by (with_reducible repeat (first | refine blk_drewN ?_ _ | refine blk_drew ?_ | refine blk_alloc ?_ _)); exact BK181.out) hb); have n1_ := Aside0.mk (below_step (by repeat (first | (with_reducible first | exact HB.out | apply below_alloc | apply pw_below_drewN | apply below_drew1 | refine below_set ?_ GE181.out) | exact HB.out)) hb); clear BK181; clear HB; have BK181 := n0_; have HB := n1_; clear n0_ n1_; (try clear hb); (try clear hb2); (try clear hk); (try clear hi))))
            go_meet
            case rel => exact ⟨_, (true), (by first | rfl | (simp; done) | (simp [*]; done)), H', ⟨by first | omega | exact Nat.le_refl _⟩, ⟨by (with_reducible repeat (first | refine blk_drewN ?_ _ | refine blk_drew ?_ | refine blk_alloc ?_ _)); exact BK181.out⟩, ⟨by repeat (first | (with_reducible first | exact HB.out | apply below_alloc | apply pw_below_drewN | apply below_drew1 | refine below_set ?_ GE181.out) | exact HB.out)⟩⟩
          · rw [if_neg c18] at H
            have c18b0 : decide (5 < a1) = false := decide_eq_false c18
            clear c18
            by_cases c21 : a4 < 0
            · rw [if_pos c21] at H
              have c21b0 : decide (a4 < 0) = true := decide_eq_true c21
              clear c21
              have H' := Aside0.mk H
              clear H
              have hcz22_0 : w11.cell? ⟨gb181, 0, none⟩ = some (.int .i64 a0_0) := (blk_cell BK181.out 0).trans rfl
              have hcz22_1 : w11.cell? ⟨gb181, 1, none⟩ = some (.int .i64 a0_1) := (blk_cell BK181.out 1).trans rfl
              have hcz22_2 : w11.cell? ⟨gb181, 2, none⟩ = some (.int .i64 a0_2) := (blk_cell BK181.out 2).trans rfl
              have hcz22_3 : w11.cell? ⟨gb181, 3, none⟩ = some (.int .i64 a0_3) := (blk_cell BK181.out 3).trans rfl
              have hfz22_0 := blk_frozen BK181.out 0
              have hfz22_1 := blk_frozen BK181.out 1
              have hfz22_2 := blk_frozen BK181.out 2
              have hfz22_3 := blk_frozen BK181.out 3
              go_wp2_with (first | (go_at_call 14; (with_reducible refine (lay_May.calls a0_0 a0_1 a0_2 a0_3 true _ A13.out).mono ?_); (try clear A13); rintro e w23 ⟨rfl, hb⟩; have n0_ := Aside0.mk (blk_below (g := gb181) (o := .cells #[.int .i64 a0_0, .int .i64 a0_1, .int .i64 a0_2, .int .i64 a0_3] 23 (0, 0)) (by (with_reducible repeat (first | refine blk_drewN ?_ _ | refine blk_drew ?_ | refine blk_alloc ?_ _)); exact BK181.out) hb); have n1_ := Aside0.mk (below_step (by repeat (first | (with_reducible first | exact HB.out | apply below_alloc | apply pw_below_drewN | apply below_drew1 | refine below_set ?_ GE181.out) | exact HB.out)) hb); clear BK181; clear HB; have BK181 := n0_; have HB := n1_; clear n0_ n1_; (try clear hb); (try clear hb2); (try clear hk); (try clear hi)))
              repeat (go_quiet (first | (go_at_call 14; (with_reducible refine (lay_May.calls a0_0 a0_1 a0_2 a0_3 true _ A13.out).mono ?_); (try clear A13); rintro e w23 ⟨rfl, hb⟩; have n0_ := Aside0.mk (blk_below (g := gb181) (o := .cells #[.int .i64 a0_0, .int .i64 a0_1, .int .i64 a0_2, .int .i64 a0_3] 23 (0, 0)) (by (with_reducible repeat (first | refine blk_drewN ?_ _ | refine blk_drew ?_ | refine blk_alloc ?_ _)); exact BK181.out) hb); have n1_ := Aside0.mk (below_step (by repeat (first | (with_reducible first | exact HB.out | apply below_alloc | apply pw_below_drewN | apply below_drew1 | refine below_set ?_ GE181.out) | exact HB.out)) hb); clear BK181; clear HB; have BK181 := n0_; have HB := n1_; clear n0_ n1_; (try clear hb); (try clear hb2); (try clear hk); (try clear hi))); try go_wp2_with (first | (go_at_call 14; (with_reducible refine (lay_May.calls a0_0 a0_1 a0_2 a0_3 true _ A13.out).mono ?_); (try clear A13); rintro e w23 ⟨rfl, hb⟩; have n0_ := Aside0.mk (blk_below (g := gb181) (o := .cells #[.int .i64 a0_0, .int .i64 a0_1, .int .i64 a0_2, .int .i64 a0_3] 23 (0, 0)) (by (with_reducible repeat (first | refine blk_drewN ?_ _ | refine blk_drew ?_ | refine blk_alloc ?_ _)); exact BK181.out) hb); have n1_ := Aside0.mk (below_step (by repeat (first | (with_reducible first | exact HB.out | apply below_alloc | apply pw_below_drewN | apply below_drew1 | refine below_set ?_ GE181.out) | exact HB.out)) hb); clear BK181; clear HB; have BK181 := n0_; have HB := n1_; clear n0_ n1_; (try clear hb); (try clear hb2); (try clear hk); (try clear hi))))
              go_meet
              case rel => exact ⟨_, (true), (by first | rfl | (simp; done) | (simp [*]; done)), H', ⟨by first | omega | exact Nat.le_refl _⟩, ⟨by (with_reducible repeat (first | refine blk_drewN ?_ _ | refine blk_drew ?_ | refine blk_alloc ?_ _)); exact BK181.out⟩, ⟨by repeat (first | (with_reducible first | exact HB.out | apply below_alloc | apply pw_below_drewN | apply below_drew1 | refine below_set ?_ GE181.out) | exact HB.out)⟩⟩
            · rw [if_neg c21] at H
              have c21b0 : decide (a4 < 0) = false := decide_eq_false c21
              clear c21
              by_cases c24 : a4 > 5
              · rw [if_pos c24] at H
                have c24b0 : decide (5 < a4) = true := decide_eq_true c24
                clear c24
                have H' := Aside0.mk H
                clear H
                have hcz25_0 : w11.cell? ⟨gb181, 0, none⟩ = some (.int .i64 a0_0) := (blk_cell BK181.out 0).trans rfl
                have hcz25_1 : w11.cell? ⟨gb181, 1, none⟩ = some (.int .i64 a0_1) := (blk_cell BK181.out 1).trans rfl
                have hcz25_2 : w11.cell? ⟨gb181, 2, none⟩ = some (.int .i64 a0_2) := (blk_cell BK181.out 2).trans rfl
                have hcz25_3 : w11.cell? ⟨gb181, 3, none⟩ = some (.int .i64 a0_3) := (blk_cell BK181.out 3).trans rfl
                have hfz25_0 := blk_frozen BK181.out 0
                have hfz25_1 := blk_frozen BK181.out 1
                have hfz25_2 := blk_frozen BK181.out 2
                have hfz25_3 := blk_frozen BK181.out 3
                go_wp2_with (first | (go_at_call 14; (with_reducible refine (lay_May.calls a0_0 a0_1 a0_2 a0_3 true _ A13.out).mono ?_); (try clear A13); rintro e w26 ⟨rfl, hb⟩; have n0_ := Aside0.mk (blk_below (g := gb181) (o := .cells #[.int .i64 a0_0, .int .i64 a0_1, .int .i64 a0_2, .int .i64 a0_3] 23 (0, 0)) (by (with_reducible repeat (first | refine blk_drewN ?_ _ | refine blk_drew ?_ | refine blk_alloc ?_ _)); exact BK181.out) hb); have n1_ := Aside0.mk (below_step (by repeat (first | (with_reducible first | exact HB.out | apply below_alloc | apply pw_below_drewN | apply below_drew1 | refine below_set ?_ GE181.out) | exact HB.out)) hb); clear BK181; clear HB; have BK181 := n0_; have HB := n1_; clear n0_ n1_; (try clear hb); (try clear hb2); (try clear hk); (try clear hi)))
                repeat (go_quiet (first | (go_at_call 14; (with_reducible refine (lay_May.calls a0_0 a0_1 a0_2 a0_3 true _ A13.out).mono ?_); (try clear A13); rintro e w26 ⟨rfl, hb⟩; have n0_ := Aside0.mk (blk_below (g := gb181) (o := .cells #[.int .i64 a0_0, .int .i64 a0_1, .int .i64 a0_2, .int .i64 a0_3] 23 (0, 0)) (by (with_reducible repeat (first | refine blk_drewN ?_ _ | refine blk_drew ?_ | refine blk_alloc ?_ _)); exact BK181.out) hb); have n1_ := Aside0.mk (below_step (by repeat (first | (with_reducible first | exact HB.out | apply below_alloc | apply pw_below_drewN | apply below_drew1 | refine below_set ?_ GE181.out) | exact HB.out)) hb); clear BK181; clear HB; have BK181 := n0_; have HB := n1_; clear n0_ n1_; (try clear hb); (try clear hb2); (try clear hk); (try clear hi))); try go_wp2_with (first | (go_at_call 14; (with_reducible refine (lay_May.calls a0_0 a0_1 a0_2 a0_3 true _ A13.out).mono ?_); (try clear A13); rintro e w26 ⟨rfl, hb⟩; have n0_ := Aside0.mk (blk_below (g := gb181) (o := .cells #[.int .i64 a0_0, .int .i64 a0_1, .int .i64 a0_2, .int .i64 a0_3] 23 (0, 0)) (by (with_reducible repeat (first | refine blk_drewN ?_ _ | refine blk_drew ?_ | refine blk_alloc ?_ _)); exact BK181.out) hb); have n1_ := Aside0.mk (below_step (by repeat (first | (with_reducible first | exact HB.out | apply below_alloc | apply pw_below_drewN | apply below_drew1 | refine below_set ?_ GE181.out) | exact HB.out)) hb); clear BK181; clear HB; have BK181 := n0_; have HB := n1_; clear n0_ n1_; (try clear hb); (try clear hb2); (try clear hk); (try clear hi))))
                go_meet
                case rel => exact ⟨_, (true), (by first | rfl | (simp; done) | (simp [*]; done)), H', ⟨by first | omega | exact Nat.le_refl _⟩, ⟨by (with_reducible repeat (first | refine blk_drewN ?_ _ | refine blk_drew ?_ | refine blk_alloc ?_ _)); exact BK181.out⟩, ⟨by repeat (first | (with_reducible first | exact HB.out | apply below_alloc | apply pw_below_drewN | apply below_drew1 | refine below_set ?_ GE181.out) | exact HB.out)⟩⟩
              · rw [if_neg c24] at H
                have c24b0 : decide (5 < a4) = false := decide_eq_false c24
                clear c24
                by_cases c27 : a2 < 0
                · rw [if_pos c27] at H
                  have c27b0 : decide (a2 < 0) = true := decide_eq_true c27
                  clear c27
                  have H' := Aside0.mk H
                  clear H
                  have hcz28_0 : w11.cell? ⟨gb181, 0, none⟩ = some (.int .i64 a0_0) := (blk_cell BK181.out 0).trans rfl
                  have hcz28_1 : w11.cell? ⟨gb181, 1, none⟩ = some (.int .i64 a0_1) := (blk_cell BK181.out 1).trans rfl
                  have hcz28_2 : w11.cell? ⟨gb181, 2, none⟩ = some (.int .i64 a0_2) := (blk_cell BK181.out 2).trans rfl
                  have hcz28_3 : w11.cell? ⟨gb181, 3, none⟩ = some (.int .i64 a0_3) := (blk_cell BK181.out 3).trans rfl
                  have hfz28_0 := blk_frozen BK181.out 0
                  have hfz28_1 := blk_frozen BK181.out 1
                  have hfz28_2 := blk_frozen BK181.out 2
                  have hfz28_3 := blk_frozen BK181.out 3
                  go_wp2_with (first | (go_at_call 14; (with_reducible refine (lay_May.calls a0_0 a0_1 a0_2 a0_3 true _ A13.out).mono ?_); (try clear A13); rintro e w29 ⟨rfl, hb⟩; have n0_ := Aside0.mk (blk_below (g := gb181) (o := .cells #[.int .i64 a0_0, .int .i64 a0_1, .int .i64 a0_2, .int .i64 a0_3] 23 (0, 0)) (by (with_reducible repeat (first | refine blk_drewN ?_ _ | refine blk_drew ?_ | refine blk_alloc ?_ _)); exact BK181.out) hb); have n1_ := Aside0.mk (below_step (by repeat (first | (with_reducible first | exact HB.out | apply below_alloc | apply pw_below_drewN | apply below_drew1 | refine below_set ?_ GE181.out) | exact HB.out)) hb); clear BK181; clear HB; have BK181 := n0_; have HB := n1_; clear n0_ n1_; (try clear hb); (try clear hb2); (try clear hk); (try clear hi)))
                  repeat (go_quiet (first | (go_at_call 14; (with_reducible refine (lay_May.calls a0_0 a0_1 a0_2 a0_3 true _ A13.out).mono ?_); (try clear A13); rintro e w29 ⟨rfl, hb⟩; have n0_ := Aside0.mk (blk_below (g := gb181) (o := .cells #[.int .i64 a0_0, .int .i64 a0_1, .int .i64 a0_2, .int .i64 a0_3] 23 (0, 0)) (by (with_reducible repeat (first | refine blk_drewN ?_ _ | refine blk_drew ?_ | refine blk_alloc ?_ _)); exact BK181.out) hb); have n1_ := Aside0.mk (below_step (by repeat (first | (with_reducible first | exact HB.out | apply below_alloc | apply pw_below_drewN | apply below_drew1 | refine below_set ?_ GE181.out) | exact HB.out)) hb); clear BK181; clear HB; have BK181 := n0_; have HB := n1_; clear n0_ n1_; (try clear hb); (try clear hb2); (try clear hk); (try clear hi))); try go_wp2_with (first | (go_at_call 14; (with_reducible refine (lay_May.calls a0_0 a0_1 a0_2 a0_3 true _ A13.out).mono ?_); (try clear A13); rintro e w29 ⟨rfl, hb⟩; have n0_ := Aside0.mk (blk_below (g := gb181) (o := .cells #[.int .i64 a0_0, .int .i64 a0_1, .int .i64 a0_2, .int .i64 a0_3] 23 (0, 0)) (by (with_reducible repeat (first | refine blk_drewN ?_ _ | refine blk_drew ?_ | refine blk_alloc ?_ _)); exact BK181.out) hb); have n1_ := Aside0.mk (below_step (by repeat (first | (with_reducible first | exact HB.out | apply below_alloc | apply pw_below_drewN | apply below_drew1 | refine below_set ?_ GE181.out) | exact HB.out)) hb); clear BK181; clear HB; have BK181 := n0_; have HB := n1_; clear n0_ n1_; (try clear hb); (try clear hb2); (try clear hk); (try clear hi))))
                  go_meet
                  case rel => exact ⟨_, (true), (by first | rfl | (simp; done) | (simp [*]; done)), H', ⟨by first | omega | exact Nat.le_refl _⟩, ⟨by (with_reducible repeat (first | refine blk_drewN ?_ _ | refine blk_drew ?_ | refine blk_alloc ?_ _)); exact BK181.out⟩, ⟨by repeat (first | (with_reducible first | exact HB.out | apply below_alloc | apply pw_below_drewN | apply below_drew1 | refine below_set ?_ GE181.out) | exact HB.out)⟩⟩
                · rw [if_neg c27] at H
                  have c27b0 : decide (a2 < 0) = false := decide_eq_false c27
                  clear c27
                  by_cases c30 : a5 < 0
                  · rw [if_pos c30] at H
                    have c30b0 : decide (a5 < 0) = true := decide_eq_true c30
                    clear c30
                    have H' := Aside0.mk H
                    clear H
                    have hcz31_0 : w11.cell? ⟨gb181, 0, none⟩ = some (.int .i64 a0_0) := (blk_cell BK181.out 0).trans rfl
                    have hcz31_1 : w11.cell? ⟨gb181, 1, none⟩ = some (.int .i64 a0_1) := (blk_cell BK181.out 1).trans rfl
                    have hcz31_2 : w11.cell? ⟨gb181, 2, none⟩ = some (.int .i64 a0_2) := (blk_cell BK181.out 2).trans rfl
                    have hcz31_3 : w11.cell? ⟨gb181, 3, none⟩ = some (.int .i64 a0_3) := (blk_cell BK181.out 3).trans rfl
                    have hfz31_0 := blk_frozen BK181.out 0
                    have hfz31_1 := blk_frozen BK181.out 1
                    have hfz31_2 := blk_frozen BK181.out 2
                    have hfz31_3 := blk_frozen BK181.out 3
                    go_wp2_with (first | (go_at_call 14; (with_reducible refine (lay_May.calls a0_0 a0_1 a0_2 a0_3 true _ A13.out).mono ?_); (try clear A13); rintro e w32 ⟨rfl, hb⟩; have n0_ := Aside0.mk (blk_below (g := gb181) (o := .cells #[.int .i64 a0_0, .int .i64 a0_1, .int .i64 a0_2, .int .i64 a0_3] 23 (0, 0)) (by (with_reducible repeat (first | refine blk_drewN ?_ _ | refine blk_drew ?_ | refine blk_alloc ?_ _)); exact BK181.out) hb); have n1_ := Aside0.mk (below_step (by repeat (first | (with_reducible first | exact HB.out | apply below_alloc | apply pw_below_drewN | apply below_drew1 | refine below_set ?_ GE181.out) | exact HB.out)) hb); clear BK181; clear HB; have BK181 := n0_; have HB := n1_; clear n0_ n1_; (try clear hb); (try clear hb2); (try clear hk); (try clear hi)))
                    repeat (go_quiet (first | (go_at_call 14; (with_reducible refine (lay_May.calls a0_0 a0_1 a0_2 a0_3 true _ A13.out).mono ?_); (try clear A13); rintro e w32 ⟨rfl, hb⟩; have n0_ := Aside0.mk (blk_below (g := gb181) (o := .cells #[.int .i64 a0_0, .int .i64 a0_1, .int .i64 a0_2, .int .i64 a0_3] 23 (0, 0)) (by (with_reducible repeat (first | refine blk_drewN ?_ _ | refine blk_drew ?_ | refine blk_alloc ?_ _)); exact BK181.out) hb); have n1_ := Aside0.mk (below_step (by repeat (first | (with_reducible first | exact HB.out | apply below_alloc | apply pw_below_drewN | apply below_drew1 | refine below_set ?_ GE181.out) | exact HB.out)) hb); clear BK181; clear HB; have BK181 := n0_; have HB := n1_; clear n0_ n1_; (try clear hb); (try clear hb2); (try clear hk); (try clear hi))); try go_wp2_with (first | (go_at_call 14; (with_reducible refine (lay_May.calls a0_0 a0_1 a0_2 a0_3 true _ A13.out).mono ?_); (try clear A13); rintro e w32 ⟨rfl, hb⟩; have n0_ := Aside0.mk (blk_below (g := gb181) (o := .cells #[.int .i64 a0_0, .int .i64 a0_1, .int .i64 a0_2, .int .i64 a0_3] 23 (0, 0)) (by (with_reducible repeat (first | refine blk_drewN ?_ _ | refine blk_drew ?_ | refine blk_alloc ?_ _)); exact BK181.out) hb); have n1_ := Aside0.mk (below_step (by repeat (first | (with_reducible first | exact HB.out | apply below_alloc | apply pw_below_drewN | apply below_drew1 | refine below_set ?_ GE181.out) | exact HB.out)) hb); clear BK181; clear HB; have BK181 := n0_; have HB := n1_; clear n0_ n1_; (try clear hb); (try clear hb2); (try clear hk); (try clear hi))))
                    go_meet
                    case rel => exact ⟨_, (true), (by first | rfl | (simp; done) | (simp [*]; done)), H', ⟨by first | omega | exact Nat.le_refl _⟩, ⟨by (with_reducible repeat (first | refine blk_drewN ?_ _ | refine blk_drew ?_ | refine blk_alloc ?_ _)); exact BK181.out⟩, ⟨by repeat (first | (with_reducible first | exact HB.out | apply below_alloc | apply pw_below_drewN | apply below_drew1 | refine below_set ?_ GE181.out) | exact HB.out)⟩⟩
                  · rw [if_neg c30] at H
                    have c30b0 : decide (a5 < 0) = false := decide_eq_false c30
                    clear c30
                    by_cases c33 : a2 ≥ a0_0
                    · rw [if_pos c33] at H
                      have c33b0 : decide (a0_0 ≤ a2) = true := decide_eq_true c33
                      clear c33
                      have H' := Aside0.mk H
                      clear H
                      have hcz34_0 : w11.cell? ⟨gb181, 0, none⟩ = some (.int .i64 a0_0) := (blk_cell BK181.out 0).trans rfl
                      have hcz34_1 : w11.cell? ⟨gb181, 1, none⟩ = some (.int .i64 a0_1) := (blk_cell BK181.out 1).trans rfl
                      have hcz34_2 : w11.cell? ⟨gb181, 2, none⟩ = some (.int .i64 a0_2) := (blk_cell BK181.out 2).trans rfl
                      have hcz34_3 : w11.cell? ⟨gb181, 3, none⟩ = some (.int .i64 a0_3) := (blk_cell BK181.out 3).trans rfl
                      have hfz34_0 := blk_frozen BK181.out 0
                      have hfz34_1 := blk_frozen BK181.out 1
                      have hfz34_2 := blk_frozen BK181.out 2
                      have hfz34_3 := blk_frozen BK181.out 3
                      go_wp2_with (first | (go_at_call 14; (with_reducible refine (lay_May.calls a0_0 a0_1 a0_2 a0_3 true _ A13.out).mono ?_); (try clear A13); rintro e w35 ⟨rfl, hb⟩; have n0_ := Aside0.mk (blk_below (g := gb181) (o := .cells #[.int .i64 a0_0, .int .i64 a0_1, .int .i64 a0_2, .int .i64 a0_3] 23 (0, 0)) (by (with_reducible repeat (first | refine blk_drewN ?_ _ | refine blk_drew ?_ | refine blk_alloc ?_ _)); exact BK181.out) hb); have n1_ := Aside0.mk (below_step (by repeat (first | (with_reducible first | exact HB.out | apply below_alloc | apply pw_below_drewN | apply below_drew1 | refine below_set ?_ GE181.out) | exact HB.out)) hb); clear BK181; clear HB; have BK181 := n0_; have HB := n1_; clear n0_ n1_; (try clear hb); (try clear hb2); (try clear hk); (try clear hi); have hcz36_0 : w35.cell? ⟨gb181, 0, none⟩ = some (.int .i64 a0_0) := (blk_cell BK181.out 0).trans rfl; have hcz36_1 : w35.cell? ⟨gb181, 1, none⟩ = some (.int .i64 a0_1) := (blk_cell BK181.out 1).trans rfl; have hcz36_2 : w35.cell? ⟨gb181, 2, none⟩ = some (.int .i64 a0_2) := (blk_cell BK181.out 2).trans rfl; have hcz36_3 : w35.cell? ⟨gb181, 3, none⟩ = some (.int .i64 a0_3) := (blk_cell BK181.out 3).trans rfl; have hfz36_0 := blk_frozen BK181.out 0; have hfz36_1 := blk_frozen BK181.out 1; have hfz36_2 := blk_frozen BK181.out 2; have hfz36_3 := blk_frozen BK181.out 3))
                      repeat (go_quiet (first | (go_at_call 14; (with_reducible refine (lay_May.calls a0_0 a0_1 a0_2 a0_3 true _ A13.out).mono ?_); (try clear A13); rintro e w35 ⟨rfl, hb⟩; have n0_ := Aside0.mk (blk_below (g := gb181) (o := .cells #[.int .i64 a0_0, .int .i64 a0_1, .int .i64 a0_2, .int .i64 a0_3] 23 (0, 0)) (by (with_reducible repeat (first | refine blk_drewN ?_ _ | refine blk_drew ?_ | refine blk_alloc ?_ _)); exact BK181.out) hb); have n1_ := Aside0.mk (below_step (by repeat (first | (with_reducible first | exact HB.out | apply below_alloc | apply pw_below_drewN | apply below_drew1 | refine below_set ?_ GE181.out) | exact HB.out)) hb); clear BK181; clear HB; have BK181 := n0_; have HB := n1_; clear n0_ n1_; (try clear hb); (try clear hb2); (try clear hk); (try clear hi); have hcz36_0 : w35.cell? ⟨gb181, 0, none⟩ = some (.int .i64 a0_0) := (blk_cell BK181.out 0).trans rfl; have hcz36_1 : w35.cell? ⟨gb181, 1, none⟩ = some (.int .i64 a0_1) := (blk_cell BK181.out 1).trans rfl; have hcz36_2 : w35.cell? ⟨gb181, 2, none⟩ = some (.int .i64 a0_2) := (blk_cell BK181.out 2).trans rfl; have hcz36_3 : w35.cell? ⟨gb181, 3, none⟩ = some (.int .i64 a0_3) := (blk_cell BK181.out 3).trans rfl; have hfz36_0 := blk_frozen BK181.out 0; have hfz36_1 := blk_frozen BK181.out 1; have hfz36_2 := blk_frozen BK181.out 2; have hfz36_3 := blk_frozen BK181.out 3)); try go_wp2_with (first | (go_at_call 14; (with_reducible refine (lay_May.calls a0_0 a0_1 a0_2 a0_3 true _ A13.out).mono ?_); (try clear A13); rintro e w35 ⟨rfl, hb⟩; have n0_ := Aside0.mk (blk_below (g := gb181) (o := .cells #[.int .i64 a0_0, .int .i64 a0_1, .int .i64 a0_2, .int .i64 a0_3] 23 (0, 0)) (by (with_reducible repeat (first | refine blk_drewN ?_ _ | refine blk_drew ?_ | refine blk_alloc ?_ _)); exact BK181.out) hb); have n1_ := Aside0.mk (below_step (by repeat (first | (with_reducible first | exact HB.out | apply below_alloc | apply pw_below_drewN | apply below_drew1 | refine below_set ?_ GE181.out) | exact HB.out)) hb); clear BK181; clear HB; have BK181 := n0_; have HB := n1_; clear n0_ n1_; (try clear hb); (try clear hb2); (try clear hk); (try clear hi); have hcz36_0 : w35.cell? ⟨gb181, 0, none⟩ = some (.int .i64 a0_0) := (blk_cell BK181.out 0).trans rfl; have hcz36_1 : w35.cell? ⟨gb181, 1, none⟩ = some (.int .i64 a0_1) := (blk_cell BK181.out 1).trans rfl; have hcz36_2 : w35.cell? ⟨gb181, 2, none⟩ = some (.int .i64 a0_2) := (blk_cell BK181.out 2).trans rfl; have hcz36_3 : w35.cell? ⟨gb181, 3, none⟩ = some (.int .i64 a0_3) := (blk_cell BK181.out 3).trans rfl; have hfz36_0 := blk_frozen BK181.out 0; have hfz36_1 := blk_frozen BK181.out 1; have hfz36_2 := blk_frozen BK181.out 2; have hfz36_3 := blk_frozen BK181.out 3)))
                      go_meet
                      case rel => exact ⟨_, (true), (by first | rfl | (simp; done) | (simp [*]; done)), H', ⟨by first | omega | exact Nat.le_refl _⟩, ⟨by (with_reducible repeat (first | refine blk_drewN ?_ _ | refine blk_drew ?_ | refine blk_alloc ?_ _)); exact BK181.out⟩, ⟨by repeat (first | (with_reducible first | exact HB.out | apply below_alloc | apply pw_below_drewN | apply below_drew1 | refine below_set ?_ GE181.out) | exact HB.out)⟩⟩
                    · rw [if_neg c33] at H
                      have c33b0 : decide (a0_0 ≤ a2) = false := decide_eq_false c33
                      clear c33
                      have H' := Aside0.mk H
                      clear H
                      have hcz37_0 : w11.cell? ⟨gb181, 0, none⟩ = some (.int .i64 a0_0) := (blk_cell BK181.out 0).trans rfl
                      have hcz37_1 : w11.cell? ⟨gb181, 1, none⟩ = some (.int .i64 a0_1) := (blk_cell BK181.out 1).trans rfl
                      have hcz37_2 : w11.cell? ⟨gb181, 2, none⟩ = some (.int .i64 a0_2) := (blk_cell BK181.out 2).trans rfl
                      have hcz37_3 : w11.cell? ⟨gb181, 3, none⟩ = some (.int .i64 a0_3) := (blk_cell BK181.out 3).trans rfl
                      have hfz37_0 := blk_frozen BK181.out 0
                      have hfz37_1 := blk_frozen BK181.out 1
                      have hfz37_2 := blk_frozen BK181.out 2
                      have hfz37_3 := blk_frozen BK181.out 3
                      go_wp2_with (first | (go_at_call 14; (with_reducible refine (lay_May.calls a0_0 a0_1 a0_2 a0_3 true _ A13.out).mono ?_); (try clear A13); rintro e w38 ⟨rfl, hb⟩; have n0_ := Aside0.mk (blk_below (g := gb181) (o := .cells #[.int .i64 a0_0, .int .i64 a0_1, .int .i64 a0_2, .int .i64 a0_3] 23 (0, 0)) (by (with_reducible repeat (first | refine blk_drewN ?_ _ | refine blk_drew ?_ | refine blk_alloc ?_ _)); exact BK181.out) hb); have n1_ := Aside0.mk (below_step (by repeat (first | (with_reducible first | exact HB.out | apply below_alloc | apply pw_below_drewN | apply below_drew1 | refine below_set ?_ GE181.out) | exact HB.out)) hb); clear BK181; clear HB; have BK181 := n0_; have HB := n1_; clear n0_ n1_; (try clear hb); (try clear hb2); (try clear hk); (try clear hi); have hcz39_0 : w38.cell? ⟨gb181, 0, none⟩ = some (.int .i64 a0_0) := (blk_cell BK181.out 0).trans rfl; have hcz39_1 : w38.cell? ⟨gb181, 1, none⟩ = some (.int .i64 a0_1) := (blk_cell BK181.out 1).trans rfl; have hcz39_2 : w38.cell? ⟨gb181, 2, none⟩ = some (.int .i64 a0_2) := (blk_cell BK181.out 2).trans rfl; have hcz39_3 : w38.cell? ⟨gb181, 3, none⟩ = some (.int .i64 a0_3) := (blk_cell BK181.out 3).trans rfl; have hfz39_0 := blk_frozen BK181.out 0; have hfz39_1 := blk_frozen BK181.out 1; have hfz39_2 := blk_frozen BK181.out 2; have hfz39_3 := blk_frozen BK181.out 3))
                      repeat (go_quiet (first | (go_at_call 14; (with_reducible refine (lay_May.calls a0_0 a0_1 a0_2 a0_3 true _ A13.out).mono ?_); (try clear A13); rintro e w38 ⟨rfl, hb⟩; have n0_ := Aside0.mk (blk_below (g := gb181) (o := .cells #[.int .i64 a0_0, .int .i64 a0_1, .int .i64 a0_2, .int .i64 a0_3] 23 (0, 0)) (by (with_reducible repeat (first | refine blk_drewN ?_ _ | refine blk_drew ?_ | refine blk_alloc ?_ _)); exact BK181.out) hb); have n1_ := Aside0.mk (below_step (by repeat (first | (with_reducible first | exact HB.out | apply below_alloc | apply pw_below_drewN | apply below_drew1 | refine below_set ?_ GE181.out) | exact HB.out)) hb); clear BK181; clear HB; have BK181 := n0_; have HB := n1_; clear n0_ n1_; (try clear hb); (try clear hb2); (try clear hk); (try clear hi); have hcz39_0 : w38.cell? ⟨gb181, 0, none⟩ = some (.int .i64 a0_0) := (blk_cell BK181.out 0).trans rfl; have hcz39_1 : w38.cell? ⟨gb181, 1, none⟩ = some (.int .i64 a0_1) := (blk_cell BK181.out 1).trans rfl; have hcz39_2 : w38.cell? ⟨gb181, 2, none⟩ = some (.int .i64 a0_2) := (blk_cell BK181.out 2).trans rfl; have hcz39_3 : w38.cell? ⟨gb181, 3, none⟩ = some (.int .i64 a0_3) := (blk_cell BK181.out 3).trans rfl; have hfz39_0 := blk_frozen BK181.out 0; have hfz39_1 := blk_frozen BK181.out 1; have hfz39_2 := blk_frozen BK181.out 2; have hfz39_3 := blk_frozen BK181.out 3)); try go_wp2_with (first | (go_at_call 14; (with_reducible refine (lay_May.calls a0_0 a0_1 a0_2 a0_3 true _ A13.out).mono ?_); (try clear A13); rintro e w38 ⟨rfl, hb⟩; have n0_ := Aside0.mk (blk_below (g := gb181) (o := .cells #[.int .i64 a0_0, .int .i64 a0_1, .int .i64 a0_2, .int .i64 a0_3] 23 (0, 0)) (by (with_reducible repeat (first | refine blk_drewN ?_ _ | refine blk_drew ?_ | refine blk_alloc ?_ _)); exact BK181.out) hb); have n1_ := Aside0.mk (below_step (by repeat (first | (with_reducible first | exact HB.out | apply below_alloc | apply pw_below_drewN | apply below_drew1 | refine below_set ?_ GE181.out) | exact HB.out)) hb); clear BK181; clear HB; have BK181 := n0_; have HB := n1_; clear n0_ n1_; (try clear hb); (try clear hb2); (try clear hk); (try clear hi); have hcz39_0 : w38.cell? ⟨gb181, 0, none⟩ = some (.int .i64 a0_0) := (blk_cell BK181.out 0).trans rfl; have hcz39_1 : w38.cell? ⟨gb181, 1, none⟩ = some (.int .i64 a0_1) := (blk_cell BK181.out 1).trans rfl; have hcz39_2 : w38.cell? ⟨gb181, 2, none⟩ = some (.int .i64 a0_2) := (blk_cell BK181.out 2).trans rfl; have hcz39_3 : w38.cell? ⟨gb181, 3, none⟩ = some (.int .i64 a0_3) := (blk_cell BK181.out 3).trans rfl; have hfz39_0 := blk_frozen BK181.out 0; have hfz39_1 := blk_frozen BK181.out 1; have hfz39_2 := blk_frozen BK181.out 2; have hfz39_3 := blk_frozen BK181.out 3)))
                      go_meet
                      case rel => exact ⟨_, (decide (a5 ≥ a0_0)), (by first | rfl | (simp; done) | (simp [*]; done)), H', ⟨by first | omega | exact Nat.le_refl _⟩, ⟨by (with_reducible repeat (first | refine blk_drewN ?_ _ | refine blk_drew ?_ | refine blk_alloc ?_ _)); exact BK181.out⟩, ⟨by repeat (first | (with_reducible first | exact HB.out | apply below_alloc | apply pw_below_drewN | apply below_drew1 | refine below_set ?_ GE181.out) | exact HB.out)⟩⟩
      · replace c14 := Bool.eq_false_iff.mpr c14
        subst c14
        have H1 : (poacherlaw03_LayApart.j0 k a1 a2 a3 a4 a5 a6 true true a0_0 a0_1 a0_2 a0_3) = some r := by rw [if_neg (show ¬ (false = true) by decide)] at H; exact H
        clear H
        have H := H1
        clear H1
        have H' := Aside0.mk H
        clear H
        have hcz40_0 : w11.cell? ⟨gb181, 0, none⟩ = some (.int .i64 a0_0) := (blk_cell BK181.out 0).trans rfl
        have hcz40_1 : w11.cell? ⟨gb181, 1, none⟩ = some (.int .i64 a0_1) := (blk_cell BK181.out 1).trans rfl
        have hcz40_2 : w11.cell? ⟨gb181, 2, none⟩ = some (.int .i64 a0_2) := (blk_cell BK181.out 2).trans rfl
        have hcz40_3 : w11.cell? ⟨gb181, 3, none⟩ = some (.int .i64 a0_3) := (blk_cell BK181.out 3).trans rfl
        have hfz40_0 := blk_frozen BK181.out 0
        have hfz40_1 := blk_frozen BK181.out 1
        have hfz40_2 := blk_frozen BK181.out 2
        have hfz40_3 := blk_frozen BK181.out 3
        go_wp2_with (first | (go_at_call 14; (with_reducible refine (lay_May.calls a0_0 a0_1 a0_2 a0_3 false _ A13.out).mono ?_); (try clear A13); rintro e w41 ⟨rfl, hb⟩; have n0_ := Aside0.mk (blk_below (g := gb181) (o := .cells #[.int .i64 a0_0, .int .i64 a0_1, .int .i64 a0_2, .int .i64 a0_3] 23 (0, 0)) (by (with_reducible repeat (first | refine blk_drewN ?_ _ | refine blk_drew ?_ | refine blk_alloc ?_ _)); exact BK181.out) hb); have n1_ := Aside0.mk (below_step (by repeat (first | (with_reducible first | exact HB.out | apply below_alloc | apply pw_below_drewN | apply below_drew1 | refine below_set ?_ GE181.out) | exact HB.out)) hb); clear BK181; clear HB; have BK181 := n0_; have HB := n1_; clear n0_ n1_; (try clear hb); (try clear hb2); (try clear hk); (try clear hi)))
        repeat (go_quiet (first | (go_at_call 14; (with_reducible refine (lay_May.calls a0_0 a0_1 a0_2 a0_3 false _ A13.out).mono ?_); (try clear A13); rintro e w41 ⟨rfl, hb⟩; have n0_ := Aside0.mk (blk_below (g := gb181) (o := .cells #[.int .i64 a0_0, .int .i64 a0_1, .int .i64 a0_2, .int .i64 a0_3] 23 (0, 0)) (by (with_reducible repeat (first | refine blk_drewN ?_ _ | refine blk_drew ?_ | refine blk_alloc ?_ _)); exact BK181.out) hb); have n1_ := Aside0.mk (below_step (by repeat (first | (with_reducible first | exact HB.out | apply below_alloc | apply pw_below_drewN | apply below_drew1 | refine below_set ?_ GE181.out) | exact HB.out)) hb); clear BK181; clear HB; have BK181 := n0_; have HB := n1_; clear n0_ n1_; (try clear hb); (try clear hb2); (try clear hk); (try clear hi))); try go_wp2_with (first | (go_at_call 14; (with_reducible refine (lay_May.calls a0_0 a0_1 a0_2 a0_3 false _ A13.out).mono ?_); (try clear A13); rintro e w41 ⟨rfl, hb⟩; have n0_ := Aside0.mk (blk_below (g := gb181) (o := .cells #[.int .i64 a0_0, .int .i64 a0_1, .int .i64 a0_2, .int .i64 a0_3] 23 (0, 0)) (by (with_reducible repeat (first | refine blk_drewN ?_ _ | refine blk_drew ?_ | refine blk_alloc ?_ _)); exact BK181.out) hb); have n1_ := Aside0.mk (below_step (by repeat (first | (with_reducible first | exact HB.out | apply below_alloc | apply pw_below_drewN | apply below_drew1 | refine below_set ?_ GE181.out) | exact HB.out)) hb); clear BK181; clear HB; have BK181 := n0_; have HB := n1_; clear n0_ n1_; (try clear hb); (try clear hb2); (try clear hk); (try clear hi))))
        go_meet
        case rel => exact ⟨_, (true), (by first | rfl | (simp; done) | (simp [*]; done)), H', ⟨by first | omega | exact Nat.le_refl _⟩, ⟨by (with_reducible repeat (first | refine blk_drewN ?_ _ | refine blk_drew ?_ | refine blk_alloc ?_ _)); exact BK181.out⟩, ⟨by repeat (first | (with_reducible first | exact HB.out | apply below_alloc | apply pw_below_drewN | apply below_drew1 | refine below_set ?_ GE181.out) | exact HB.out)⟩⟩
    · replace c12 := Bool.eq_false_iff.mpr c12
      subst c12
      have H1 : (poacherlaw03_LayApart.j0 k a1 a2 a3 a4 a5 a6 false true a0_0 a0_1 a0_2 a0_3) = some r := by rw [if_neg (show ¬ (false = true) by decide)] at H; exact H
      clear H
      have H := H1
      clear H1
      have H' := Aside0.mk H
      clear H
      go_wp2
      repeat (go_quiet (fail); try go_wp2)
      go_meet
      case rel => exact ⟨_, (true), (by first | rfl | (simp; done) | (simp [*]; done)), H', ⟨by first | omega | exact Nat.le_refl _⟩, ⟨by (with_reducible repeat (first | refine blk_drewN ?_ _ | refine blk_drew ?_ | refine blk_alloc ?_ _)); exact BK181.out⟩, ⟨by repeat (first | (with_reducible first | exact HB.out | apply below_alloc | apply pw_below_drewN | apply below_drew1 | refine below_set ?_ GE181.out) | exact HB.out)⟩⟩
  case rest =>
    clear HC9
    try clear c1
    try clear c2
    try clear p2
    try clear c3
    try clear c4
    try clear c12
    try clear c14
    try clear c15
    try clear c15b0
    try clear c18
    try clear c18b0
    try clear c21
    try clear c21b0
    try clear c24
    try clear c24b0
    try clear c27
    try clear c27b0
    try clear c30
    try clear c30b0
    try clear c33
    try clear c33b0
    try clear hcz16_0
    try clear hcz16_1
    try clear hcz16_2
    try clear hcz16_3
    try clear hcz19_0
    try clear hcz19_1
    try clear hcz19_2
    try clear hcz19_3
    try clear hcz22_0
    try clear hcz22_1
    try clear hcz22_2
    try clear hcz22_3
    try clear hcz25_0
    try clear hcz25_1
    try clear hcz25_2
    try clear hcz25_3
    try clear hcz28_0
    try clear hcz28_1
    try clear hcz28_2
    try clear hcz28_3
    try clear hcz31_0
    try clear hcz31_1
    try clear hcz31_2
    try clear hcz31_3
    try clear hcz34_0
    try clear hcz34_1
    try clear hcz34_2
    try clear hcz34_3
    try clear hcz36_0
    try clear hcz36_1
    try clear hcz36_2
    try clear hcz36_3
    try clear hcz37_0
    try clear hcz37_1
    try clear hcz37_2
    try clear hcz37_3
    try clear hcz39_0
    try clear hcz39_1
    try clear hcz39_2
    try clear hcz39_3
    try clear hcz40_0
    try clear hcz40_1
    try clear hcz40_2
    try clear hcz40_3
    try clear hfz16_0
    try clear hfz16_1
    try clear hfz16_2
    try clear hfz16_3
    try clear hfz19_0
    try clear hfz19_1
    try clear hfz19_2
    try clear hfz19_3
    try clear hfz22_0
    try clear hfz22_1
    try clear hfz22_2
    try clear hfz22_3
    try clear hfz25_0
    try clear hfz25_1
    try clear hfz25_2
    try clear hfz25_3
    try clear hfz28_0
    try clear hfz28_1
    try clear hfz28_2
    try clear hfz28_3
    try clear hfz31_0
    try clear hfz31_1
    try clear hfz31_2
    try clear hfz31_3
    try clear hfz34_0
    try clear hfz34_1
    try clear hfz34_2
    try clear hfz34_3
    try clear hfz36_0
    try clear hfz36_1
    try clear hfz36_2
    try clear hfz36_3
    try clear hfz37_0
    try clear hfz37_1
    try clear hfz37_2
    try clear hfz37_3
    try clear hfz39_0
    try clear hfz39_1
    try clear hfz39_2
    try clear hfz39_3
    try clear hfz40_0
    try clear hfz40_1
    try clear hfz40_2
    try clear hfz40_3
    obtain ⟨kq, x63_8, rfl, HA, HJ8, BK181, HB⟩ := hcut
    cases kq with
    | zero => exact absurd HA.out (by simp [poacherlaw03_LayApart.j0])
    | succ kj8 =>
      have H := HA.out
      clear HA
      simp only [poacherlaw03_LayApart.j0] at H
      by_cases c42 : x63_8 = true
      · subst c42
        have H1 : (some t182) = some r := by rw [if_pos rfl] at H; exact H
        clear H
        have H := H1
        clear H1
        obtain rfl := Option.some.inj H
        clear hr_
        go_wp2
        repeat (go_quiet (fail); try go_wp2)
        go_ret
        exact ⟨by first | rfl | (simp [errW_none, errW_some] <;> rfl) | (simp [*, errW_none, errW_some] <;> rfl), by repeat (first | (with_reducible first | exact HB.out | apply below_alloc | apply pw_below_drewN | apply below_drew1 | refine below_set ?_ GE181.out) | exact HB.out)⟩
      · replace c42 := Bool.eq_false_iff.mpr c42
        subst c42
        have H1 : ((poacherlaw03_spot.f a0_0 a0_1 a0_2 a0_3 a1 a2 a3).bind fun t184 => ((poacherlaw03_spot.f a0_0 a0_1 a0_2 a0_3 a4 a5 a6).bind fun t185 => (if a1 < 2 then (poacherlaw03_LayApart.j1 kj8 a1 a2 a3 a4 a5 a6 t184 t185 (IntKind.u64.wrap (a0_2)) a0_0 a0_1 a0_2 a0_3) else (poacherlaw03_LayApart.j1 kj8 a1 a2 a3 a4 a5 a6 t184 t185 1 a0_0 a0_1 a0_2 a0_3)))) = some r := by rw [if_neg (show ¬ (false = true) by decide)] at H; exact H
        clear H
        have H := H1
        clear H1
        replace H := Option.bind_eq_some_iff.mp H
        obtain ⟨t184, A430, H⟩ := H
        replace H : ((poacherlaw03_spot.f a0_0 a0_1 a0_2 a0_3 a4 a5 a6).bind fun t185 => (if a1 < 2 then (poacherlaw03_LayApart.j1 kj8 a1 a2 a3 a4 a5 a6 t184 t185 (IntKind.u64.wrap (a0_2)) a0_0 a0_1 a0_2 a0_3) else (poacherlaw03_LayApart.j1 kj8 a1 a2 a3 a4 a5 a6 t184 t185 1 a0_0 a0_1 a0_2 a0_3))) = some r := H
        have A43 := Aside0.mk A430
        clear A430
        replace H := Option.bind_eq_some_iff.mp H
        obtain ⟨t185, A440, H⟩ := H
        replace H : (if a1 < 2 then (poacherlaw03_LayApart.j1 kj8 a1 a2 a3 a4 a5 a6 t184 t185 (IntKind.u64.wrap (a0_2)) a0_0 a0_1 a0_2 a0_3) else (poacherlaw03_LayApart.j1 kj8 a1 a2 a3 a4 a5 a6 t184 t185 1 a0_0 a0_1 a0_2 a0_3)) = some r := H
        have A44 := Aside0.mk A440
        clear A440
        have HC45 := Aside0.mk H
        clear H
        have hcz46_0 : wc.cell? ⟨gb181, 0, none⟩ = some (.int .i64 a0_0) := (blk_cell BK181.out 0).trans rfl
        have hcz46_1 : wc.cell? ⟨gb181, 1, none⟩ = some (.int .i64 a0_1) := (blk_cell BK181.out 1).trans rfl
        have hcz46_2 : wc.cell? ⟨gb181, 2, none⟩ = some (.int .i64 a0_2) := (blk_cell BK181.out 2).trans rfl
        have hcz46_3 : wc.cell? ⟨gb181, 3, none⟩ = some (.int .i64 a0_3) := (blk_cell BK181.out 3).trans rfl
        have hfz46_0 := blk_frozen BK181.out 0
        have hfz46_1 := blk_frozen BK181.out 1
        have hfz46_2 := blk_frozen BK181.out 2
        have hfz46_3 := blk_frozen BK181.out 3
        go_upto_if 76 with (first | (go_at_call 29; (with_reducible refine (poacherlaw03_spot.calls a0_0 a0_1 a0_2 a0_3 a1 a2 a3 t184 _ A43.out).mono ?_); (try clear A43); rintro e w47 ⟨rfl, hb⟩; have n0_ := Aside0.mk (blk_below (g := gb181) (o := .cells #[.int .i64 a0_0, .int .i64 a0_1, .int .i64 a0_2, .int .i64 a0_3] 23 (0, 0)) (by (with_reducible repeat (first | refine blk_drewN ?_ _ | refine blk_drew ?_ | refine blk_alloc ?_ _)); exact BK181.out) hb); have n1_ := Aside0.mk (below_step (by repeat (first | (with_reducible first | exact HB.out | apply below_alloc | apply pw_below_drewN | apply below_drew1 | refine below_set ?_ GE181.out) | exact HB.out)) hb); clear BK181; clear HB; have BK181 := n0_; have HB := n1_; clear n0_ n1_; (try clear hb); (try clear hb2); (try clear hk); (try clear hi); have hcz48_0 : w47.cell? ⟨gb181, 0, none⟩ = some (.int .i64 a0_0) := (blk_cell BK181.out 0).trans rfl; have hcz48_1 : w47.cell? ⟨gb181, 1, none⟩ = some (.int .i64 a0_1) := (blk_cell BK181.out 1).trans rfl; have hcz48_2 : w47.cell? ⟨gb181, 2, none⟩ = some (.int .i64 a0_2) := (blk_cell BK181.out 2).trans rfl; have hcz48_3 : w47.cell? ⟨gb181, 3, none⟩ = some (.int .i64 a0_3) := (blk_cell BK181.out 3).trans rfl; have hfz48_0 := blk_frozen BK181.out 0; have hfz48_1 := blk_frozen BK181.out 1; have hfz48_2 := blk_frozen BK181.out 2; have hfz48_3 := blk_frozen BK181.out 3) | (go_at_call 29; (with_reducible refine (poacherlaw03_spot.calls a0_0 a0_1 a0_2 a0_3 a4 a5 a6 t185 _ A44.out).mono ?_); (try clear A44); rintro e w49 ⟨rfl, hb⟩; have n0_ := Aside0.mk (blk_below (g := gb181) (o := .cells #[.int .i64 a0_0, .int .i64 a0_1, .int .i64 a0_2, .int .i64 a0_3] 23 (0, 0)) (by (with_reducible repeat (first | refine blk_drewN ?_ _ | refine blk_drew ?_ | refine blk_alloc ?_ _)); exact BK181.out) hb); have n1_ := Aside0.mk (below_step (by repeat (first | (with_reducible first | exact HB.out | apply below_alloc | apply pw_below_drewN | apply below_drew1 | refine below_set ?_ GE181.out) | exact HB.out)) hb); clear BK181; clear HB; have BK181 := n0_; have HB := n1_; clear n0_ n1_; (try clear hb); (try clear hb2); (try clear hk); (try clear hi)))
        repeat (go_quiet (first | (go_at_call 29; (with_reducible refine (poacherlaw03_spot.calls a0_0 a0_1 a0_2 a0_3 a1 a2 a3 t184 _ A43.out).mono ?_); (try clear A43); rintro e w47 ⟨rfl, hb⟩; have n0_ := Aside0.mk (blk_below (g := gb181) (o := .cells #[.int .i64 a0_0, .int .i64 a0_1, .int .i64 a0_2, .int .i64 a0_3] 23 (0, 0)) (by (with_reducible repeat (first | refine blk_drewN ?_ _ | refine blk_drew ?_ | refine blk_alloc ?_ _)); exact BK181.out) hb); have n1_ := Aside0.mk (below_step (by repeat (first | (with_reducible first | exact HB.out | apply below_alloc | apply pw_below_drewN | apply below_drew1 | refine below_set ?_ GE181.out) | exact HB.out)) hb); clear BK181; clear HB; have BK181 := n0_; have HB := n1_; clear n0_ n1_; (try clear hb); (try clear hb2); (try clear hk); (try clear hi); have hcz48_0 : w47.cell? ⟨gb181, 0, none⟩ = some (.int .i64 a0_0) := (blk_cell BK181.out 0).trans rfl; have hcz48_1 : w47.cell? ⟨gb181, 1, none⟩ = some (.int .i64 a0_1) := (blk_cell BK181.out 1).trans rfl; have hcz48_2 : w47.cell? ⟨gb181, 2, none⟩ = some (.int .i64 a0_2) := (blk_cell BK181.out 2).trans rfl; have hcz48_3 : w47.cell? ⟨gb181, 3, none⟩ = some (.int .i64 a0_3) := (blk_cell BK181.out 3).trans rfl; have hfz48_0 := blk_frozen BK181.out 0; have hfz48_1 := blk_frozen BK181.out 1; have hfz48_2 := blk_frozen BK181.out 2; have hfz48_3 := blk_frozen BK181.out 3) | (go_at_call 29; (with_reducible refine (poacherlaw03_spot.calls a0_0 a0_1 a0_2 a0_3 a4 a5 a6 t185 _ A44.out).mono ?_); (try clear A44); rintro e w49 ⟨rfl, hb⟩; have n0_ := Aside0.mk (blk_below (g := gb181) (o := .cells #[.int .i64 a0_0, .int .i64 a0_1, .int .i64 a0_2, .int .i64 a0_3] 23 (0, 0)) (by (with_reducible repeat (first | refine blk_drewN ?_ _ | refine blk_drew ?_ | refine blk_alloc ?_ _)); exact BK181.out) hb); have n1_ := Aside0.mk (below_step (by repeat (first | (with_reducible first | exact HB.out | apply below_alloc | apply pw_below_drewN | apply below_drew1 | refine below_set ?_ GE181.out) | exact HB.out)) hb); clear BK181; clear HB; have BK181 := n0_; have HB := n1_; clear n0_ n1_; (try clear hb); (try clear hb2); (try clear hk); (try clear hi))); go_upto_if 76 with (first | (go_at_call 29; (with_reducible refine (poacherlaw03_spot.calls a0_0 a0_1 a0_2 a0_3 a1 a2 a3 t184 _ A43.out).mono ?_); (try clear A43); rintro e w47 ⟨rfl, hb⟩; have n0_ := Aside0.mk (blk_below (g := gb181) (o := .cells #[.int .i64 a0_0, .int .i64 a0_1, .int .i64 a0_2, .int .i64 a0_3] 23 (0, 0)) (by (with_reducible repeat (first | refine blk_drewN ?_ _ | refine blk_drew ?_ | refine blk_alloc ?_ _)); exact BK181.out) hb); have n1_ := Aside0.mk (below_step (by repeat (first | (with_reducible first | exact HB.out | apply below_alloc | apply pw_below_drewN | apply below_drew1 | refine below_set ?_ GE181.out) | exact HB.out)) hb); clear BK181; clear HB; have BK181 := n0_; have HB := n1_; clear n0_ n1_; (try clear hb); (try clear hb2); (try clear hk); (try clear hi); have hcz48_0 : w47.cell? ⟨gb181, 0, none⟩ = some (.int .i64 a0_0) := (blk_cell BK181.out 0).trans rfl; have hcz48_1 : w47.cell? ⟨gb181, 1, none⟩ = some (.int .i64 a0_1) := (blk_cell BK181.out 1).trans rfl; have hcz48_2 : w47.cell? ⟨gb181, 2, none⟩ = some (.int .i64 a0_2) := (blk_cell BK181.out 2).trans rfl; have hcz48_3 : w47.cell? ⟨gb181, 3, none⟩ = some (.int .i64 a0_3) := (blk_cell BK181.out 3).trans rfl; have hfz48_0 := blk_frozen BK181.out 0; have hfz48_1 := blk_frozen BK181.out 1; have hfz48_2 := blk_frozen BK181.out 2; have hfz48_3 := blk_frozen BK181.out 3) | (go_at_call 29; (with_reducible refine (poacherlaw03_spot.calls a0_0 a0_1 a0_2 a0_3 a4 a5 a6 t185 _ A44.out).mono ?_); (try clear A44); rintro e w49 ⟨rfl, hb⟩; have n0_ := Aside0.mk (blk_below (g := gb181) (o := .cells #[.int .i64 a0_0, .int .i64 a0_1, .int .i64 a0_2, .int .i64 a0_3] 23 (0, 0)) (by (with_reducible repeat (first | refine blk_drewN ?_ _ | refine blk_drew ?_ | refine blk_alloc ?_ _)); exact BK181.out) hb); have n1_ := Aside0.mk (below_step (by repeat (first | (with_reducible first | exact HB.out | apply below_alloc | apply pw_below_drewN | apply below_drew1 | refine below_set ?_ GE181.out) | exact HB.out)) hb); clear BK181; clear HB; have BK181 := n0_; have HB := n1_; clear n0_ n1_; (try clear hb); (try clear hb2); (try clear hk); (try clear hi))))
        (try simp only [Act.put, List.setIfInBounds_toArray, List.set_cons_zero, List.set_cons_succ])
        go_cut [18] (fun v18 wc => ∃ (kq : Nat) (x18_44 : Int), v18 = .int .u64 x18_44 ∧ Aside0 (poacherlaw03_LayApart.j1 kq a1 a2 a3 a4 a5 a6 t184 t185 x18_44 a0_0 a0_1 a0_2 a0_3 = some r) ∧ Aside0 (kq ≤ kj8) ∧ Aside0 (wc.heap[gb181]? = some (.cells #[.int .i64 a0_0, .int .i64 a0_1, .int .i64 a0_2, .int .i64 a0_3] 23 (0, 0))) ∧ Aside0 (Below w.heap.size w wc))
        case first =>
          have H := HC45.out
          clear HC45
          by_cases c50 : a1 < 2
          · rw [if_pos c50] at H
            have c50b0 : decide (a1 < 2) = true := decide_eq_true c50
            clear c50
            (first | rw [c50b0] | (simp only [i64_w, i32_w]; rw [c50b0]) | skip)
            have H' := Aside0.mk H
            clear H
            have hcz51_0 : w49.cell? ⟨gb181, 0, none⟩ = some (.int .i64 a0_0) := (blk_cell BK181.out 0).trans rfl
            have hcz51_1 : w49.cell? ⟨gb181, 1, none⟩ = some (.int .i64 a0_1) := (blk_cell BK181.out 1).trans rfl
            have hcz51_2 : w49.cell? ⟨gb181, 2, none⟩ = some (.int .i64 a0_2) := (blk_cell BK181.out 2).trans rfl
            have hcz51_3 : w49.cell? ⟨gb181, 3, none⟩ = some (.int .i64 a0_3) := (blk_cell BK181.out 3).trans rfl
            have hfz51_0 := blk_frozen BK181.out 0
            have hfz51_1 := blk_frozen BK181.out 1
            have hfz51_2 := blk_frozen BK181.out 2
            have hfz51_3 := blk_frozen BK181.out 3
            go_wp2
            repeat (go_quiet (fail); try go_wp2)
            go_meet
            case rel => exact ⟨_, (IntKind.u64.wrap (a0_2)), (by first | rfl | (simp; done) | (simp [*]; done)), H', ⟨by have := HJ8.out; first | omega | exact Nat.le_refl _⟩, ⟨by (with_reducible repeat (first | refine blk_drewN ?_ _ | refine blk_drew ?_ | refine blk_alloc ?_ _)); exact BK181.out⟩, ⟨by repeat (first | (with_reducible first | exact HB.out | apply below_alloc | apply pw_below_drewN | apply below_drew1 | refine below_set ?_ GE181.out) | exact HB.out)⟩⟩
          · rw [if_neg c50] at H
            have c50b0 : decide (a1 < 2) = false := decide_eq_false c50
            clear c50
            (first | rw [c50b0] | (simp only [i64_w, i32_w]; rw [c50b0]) | skip)
            have H' := Aside0.mk H
            clear H
            go_wp2
            repeat (go_quiet (fail); try go_wp2)
            go_meet
            case rel => exact ⟨_, (1), (by first | rfl | (simp; done) | (simp [*]; done)), H', ⟨by have := HJ8.out; first | omega | exact Nat.le_refl _⟩, ⟨by (with_reducible repeat (first | refine blk_drewN ?_ _ | refine blk_drew ?_ | refine blk_alloc ?_ _)); exact BK181.out⟩, ⟨by repeat (first | (with_reducible first | exact HB.out | apply below_alloc | apply pw_below_drewN | apply below_drew1 | refine below_set ?_ GE181.out) | exact HB.out)⟩⟩
        case rest =>
          clear HC45
          try clear c1
          try clear c2
          try clear p2
          try clear c3
          try clear c4
          try clear c5
          try clear c12
          try clear c14
          try clear c15
          try clear c15b0
          try clear c18
          try clear c18b0
          try clear c21
          try clear c21b0
          try clear c24
          try clear c24b0
          try clear c27
          try clear c27b0
          try clear c30
          try clear c30b0
          try clear c33
          try clear c33b0
          try clear c42
          try clear c50
          try clear c50b0
          try clear hcz16_0
          try clear hcz16_1
          try clear hcz16_2
          try clear hcz16_3
          try clear hcz19_0
          try clear hcz19_1
          try clear hcz19_2
          try clear hcz19_3
          try clear hcz22_0
          try clear hcz22_1
          try clear hcz22_2
          try clear hcz22_3
          try clear hcz25_0
          try clear hcz25_1
          try clear hcz25_2
          try clear hcz25_3
          try clear hcz28_0
          try clear hcz28_1
          try clear hcz28_2
          try clear hcz28_3
          try clear hcz31_0
          try clear hcz31_1
          try clear hcz31_2
          try clear hcz31_3
          try clear hcz34_0
          try clear hcz34_1
          try clear hcz34_2
          try clear hcz34_3
          try clear hcz36_0
          try clear hcz36_1
          try clear hcz36_2
          try clear hcz36_3
          try clear hcz37_0
          try clear hcz37_1
          try clear hcz37_2
          try clear hcz37_3
          try clear hcz39_0
          try clear hcz39_1
          try clear hcz39_2
          try clear hcz39_3
          try clear hcz40_0
          try clear hcz40_1
          try clear hcz40_2
          try clear hcz40_3
          try clear hcz46_0
          try clear hcz46_1
          try clear hcz46_2
          try clear hcz46_3
          try clear hcz48_0
          try clear hcz48_1
          try clear hcz48_2
          try clear hcz48_3
          try clear hcz51_0
          try clear hcz51_1
          try clear hcz51_2
          try clear hcz51_3
          try clear hfz16_0
          try clear hfz16_1
          try clear hfz16_2
          try clear hfz16_3
          try clear hfz19_0
          try clear hfz19_1
          try clear hfz19_2
          try clear hfz19_3
          try clear hfz22_0
          try clear hfz22_1
          try clear hfz22_2
          try clear hfz22_3
          try clear hfz25_0
          try clear hfz25_1
          try clear hfz25_2
          try clear hfz25_3
          try clear hfz28_0
          try clear hfz28_1
          try clear hfz28_2
          try clear hfz28_3
          try clear hfz31_0
          try clear hfz31_1
          try clear hfz31_2
          try clear hfz31_3
          try clear hfz34_0
          try clear hfz34_1
          try clear hfz34_2
          try clear hfz34_3
          try clear hfz36_0
          try clear hfz36_1
          try clear hfz36_2
          try clear hfz36_3
          try clear hfz37_0
          try clear hfz37_1
          try clear hfz37_2
          try clear hfz37_3
          try clear hfz39_0
          try clear hfz39_1
          try clear hfz39_2
          try clear hfz39_3
          try clear hfz40_0
          try clear hfz40_1
          try clear hfz40_2
          try clear hfz40_3
          try clear hfz46_0
          try clear hfz46_1
          try clear hfz46_2
          try clear hfz46_3
          try clear hfz48_0
          try clear hfz48_1
          try clear hfz48_2
          try clear hfz48_3
          try clear hfz51_0
          try clear hfz51_1
          try clear hfz51_2
          try clear hfz51_3
          try clear p2
          obtain ⟨kq, x18_44, rfl, HA, HJ44, BK181, HB⟩ := hcut
          cases kq with
          | zero => exact absurd HA.out (by simp [poacherlaw03_LayApart.j1])
          | succ kj44 =>
            have H := HA.out
            clear HA
            simp only [poacherlaw03_LayApart.j1] at H
            by_cases c52 : a1 = 5
            · rw [if_pos c52] at H
              have c52b0 : (a1 == 5) = true := beq_iff_eq.mpr c52
              have c52b1 : (a1 != 5) = false := bne_eq_false_iff_eq.mpr c52
              clear c52
              by_cases c53 : a1 = a4
              · rw [if_pos c53] at H
                have c53b0 : (a1 == a4) = true := beq_iff_eq.mpr c53
                have c53b1 : (a1 != a4) = false := bne_eq_false_iff_eq.mpr c53
                clear c53
                by_cases c54 : a1 < 2
                · rw [if_pos c54] at H
                  have c54b0 : decide (a1 < 2) = true := decide_eq_true c54
                  clear c54
                  by_cases c55 : (IntKind.u64.wrap (a0_1)) = 0
                  · rw [if_pos c55] at H
                    exact absurd H (by simp)
                  · rw [if_neg c55] at H
                    have c55b0 : ((IntKind.u64.wrap (a0_1)) == 0) = false := beq_eq_false_iff_ne.mpr c55
                    have c55b1 : ((IntKind.u64.wrap (a0_1)) != 0) = true := bne_iff_ne.mpr c55
                    by_cases c56 : ((t184 == t185) == ((Int.tmod a3 (IntKind.u64.wrap (a0_1))) == (Int.tmod a6 (IntKind.u64.wrap (a0_1))))) = true
                    · rw [if_pos c56] at H
                      have c56b0 : ((t184 == t185) == ((Int.tmod a3 (IntKind.u64.wrap (a0_1))) == (Int.tmod a6 (IntKind.u64.wrap (a0_1))))) = true := c56
                      (try (have c56b1 : decide ((t184 == t185) = ((Int.tmod a3 (IntKind.u64.wrap (a0_1))) == (Int.tmod a6 (IntKind.u64.wrap (a0_1))))) = true := by simpa using c56))
                      (try (have c56b2 : ((t184 == t185) == ((Int.tmod a3 (IntKind.u64.wrap (a0_1))) == (Int.tmod a6 (IntKind.u64.wrap (a0_1))))) = true := by simpa using c56))
                      clear c56
                      by_cases c57 : t184 ≥ 6
                      · rw [if_pos c57] at H
                        have c57b0 : decide (6 ≤ t184) = true := decide_eq_true c57
                        clear c57
                        replace H := Option.bind_eq_some_iff.mp H
                        obtain ⟨t186, A580, H⟩ := H
                        replace H : (if t184 < t186 then (if t185 ≥ 6 then ((lay_Size.f a0_0 a0_1 a0_2 a0_3).bind fun t187 => (some (decide (t185 < t187)))) else (some false)) else (some false)) = some r := H
                        have A58 := Aside0.mk A580
                        clear A580
                        by_cases c59 : t184 < t186
                        · rw [if_pos c59] at H
                          have c59b0 : decide (t184 < t186) = true := decide_eq_true c59
                          clear c59
                          by_cases c60 : t185 ≥ 6
                          · rw [if_pos c60] at H
                            have c60b0 : decide (6 ≤ t185) = true := decide_eq_true c60
                            clear c60
                            replace H := Option.bind_eq_some_iff.mp H
                            obtain ⟨t187, A610, H⟩ := H
                            replace H : (some (decide (t185 < t187))) = some r := H
                            have A61 := Aside0.mk A610
                            clear A610
                            obtain rfl := Option.some.inj H
                            clear hr_
                            have hcz62_0 : wc.cell? ⟨gb181, 0, none⟩ = some (.int .i64 a0_0) := (blk_cell BK181.out 0).trans rfl
                            have hcz62_1 : wc.cell? ⟨gb181, 1, none⟩ = some (.int .i64 a0_1) := (blk_cell BK181.out 1).trans rfl
                            have hcz62_2 : wc.cell? ⟨gb181, 2, none⟩ = some (.int .i64 a0_2) := (blk_cell BK181.out 2).trans rfl
                            have hcz62_3 : wc.cell? ⟨gb181, 3, none⟩ = some (.int .i64 a0_3) := (blk_cell BK181.out 3).trans rfl
                            have hfz62_0 := blk_frozen BK181.out 0
                            have hfz62_1 := blk_frozen BK181.out 1
                            have hfz62_2 := blk_frozen BK181.out 2
                            have hfz62_3 := blk_frozen BK181.out 3
                            go_wp2_with (first | (go_at_call 15; (with_reducible refine (lay_Size.calls a0_0 a0_1 a0_2 a0_3 t186 _ A58.out).mono ?_); (try clear A58); rintro e w63 ⟨rfl, hb⟩; have n0_ := Aside0.mk (blk_below (g := gb181) (o := .cells #[.int .i64 a0_0, .int .i64 a0_1, .int .i64 a0_2, .int .i64 a0_3] 23 (0, 0)) (by (with_reducible repeat (first | refine blk_drewN ?_ _ | refine blk_drew ?_ | refine blk_alloc ?_ _)); exact BK181.out) hb); have n1_ := Aside0.mk (below_step (by repeat (first | (with_reducible first | exact HB.out | apply below_alloc | apply pw_below_drewN | apply below_drew1 | refine below_set ?_ GE181.out) | exact HB.out)) hb); clear BK181; clear HB; have BK181 := n0_; have HB := n1_; clear n0_ n1_; (try clear hb); (try clear hb2); (try clear hk); (try clear hi); have hcz64_0 : w63.cell? ⟨gb181, 0, none⟩ = some (.int .i64 a0_0) := (blk_cell BK181.out 0).trans rfl; have hcz64_1 : w63.cell? ⟨gb181, 1, none⟩ = some (.int .i64 a0_1) := (blk_cell BK181.out 1).trans rfl; have hcz64_2 : w63.cell? ⟨gb181, 2, none⟩ = some (.int .i64 a0_2) := (blk_cell BK181.out 2).trans rfl; have hcz64_3 : w63.cell? ⟨gb181, 3, none⟩ = some (.int .i64 a0_3) := (blk_cell BK181.out 3).trans rfl; have hfz64_0 := blk_frozen BK181.out 0; have hfz64_1 := blk_frozen BK181.out 1; have hfz64_2 := blk_frozen BK181.out 2; have hfz64_3 := blk_frozen BK181.out 3) | (go_at_call 15; (with_reducible refine (lay_Size.calls a0_0 a0_1 a0_2 a0_3 t187 _ A61.out).mono ?_); (try clear A61); rintro e w65 ⟨rfl, hb⟩; have n0_ := Aside0.mk (blk_below (g := gb181) (o := .cells #[.int .i64 a0_0, .int .i64 a0_1, .int .i64 a0_2, .int .i64 a0_3] 23 (0, 0)) (by (with_reducible repeat (first | refine blk_drewN ?_ _ | refine blk_drew ?_ | refine blk_alloc ?_ _)); exact BK181.out) hb); have n1_ := Aside0.mk (below_step (by repeat (first | (with_reducible first | exact HB.out | apply below_alloc | apply pw_below_drewN | apply below_drew1 | refine below_set ?_ GE181.out) | exact HB.out)) hb); clear BK181; clear HB; have BK181 := n0_; have HB := n1_; clear n0_ n1_; (try clear hb); (try clear hb2); (try clear hk); (try clear hi)))
                            repeat (go_quiet (first | (go_at_call 15; (with_reducible refine (lay_Size.calls a0_0 a0_1 a0_2 a0_3 t186 _ A58.out).mono ?_); (try clear A58); rintro e w63 ⟨rfl, hb⟩; have n0_ := Aside0.mk (blk_below (g := gb181) (o := .cells #[.int .i64 a0_0, .int .i64 a0_1, .int .i64 a0_2, .int .i64 a0_3] 23 (0, 0)) (by (with_reducible repeat (first | refine blk_drewN ?_ _ | refine blk_drew ?_ | refine blk_alloc ?_ _)); exact BK181.out) hb); have n1_ := Aside0.mk (below_step (by repeat (first | (with_reducible first | exact HB.out | apply below_alloc | apply pw_below_drewN | apply below_drew1 | refine below_set ?_ GE181.out) | exact HB.out)) hb); clear BK181; clear HB; have BK181 := n0_; have HB := n1_; clear n0_ n1_; (try clear hb); (try clear hb2); (try clear hk); (try clear hi); have hcz64_0 : w63.cell? ⟨gb181, 0, none⟩ = some (.int .i64 a0_0) := (blk_cell BK181.out 0).trans rfl; have hcz64_1 : w63.cell? ⟨gb181, 1, none⟩ = some (.int .i64 a0_1) := (blk_cell BK181.out 1).trans rfl; have hcz64_2 : w63.cell? ⟨gb181, 2, none⟩ = some (.int .i64 a0_2) := (blk_cell BK181.out 2).trans rfl; have hcz64_3 : w63.cell? ⟨gb181, 3, none⟩ = some (.int .i64 a0_3) := (blk_cell BK181.out 3).trans rfl; have hfz64_0 := blk_frozen BK181.out 0; have hfz64_1 := blk_frozen BK181.out 1; have hfz64_2 := blk_frozen BK181.out 2; have hfz64_3 := blk_frozen BK181.out 3) | (go_at_call 15; (with_reducible refine (lay_Size.calls a0_0 a0_1 a0_2 a0_3 t187 _ A61.out).mono ?_); (try clear A61); rintro e w65 ⟨rfl, hb⟩; have n0_ := Aside0.mk (blk_below (g := gb181) (o := .cells #[.int .i64 a0_0, .int .i64 a0_1, .int .i64 a0_2, .int .i64 a0_3] 23 (0, 0)) (by (with_reducible repeat (first | refine blk_drewN ?_ _ | refine blk_drew ?_ | refine blk_alloc ?_ _)); exact BK181.out) hb); have n1_ := Aside0.mk (below_step (by repeat (first | (with_reducible first | exact HB.out | apply below_alloc | apply pw_below_drewN | apply below_drew1 | refine below_set ?_ GE181.out) | exact HB.out)) hb); clear BK181; clear HB; have BK181 := n0_; have HB := n1_; clear n0_ n1_; (try clear hb); (try clear hb2); (try clear hk); (try clear hi))); try go_wp2_with (first | (go_at_call 15; (with_reducible refine (lay_Size.calls a0_0 a0_1 a0_2 a0_3 t186 _ A58.out).mono ?_); (try clear A58); rintro e w63 ⟨rfl, hb⟩; have n0_ := Aside0.mk (blk_below (g := gb181) (o := .cells #[.int .i64 a0_0, .int .i64 a0_1, .int .i64 a0_2, .int .i64 a0_3] 23 (0, 0)) (by (with_reducible repeat (first | refine blk_drewN ?_ _ | refine blk_drew ?_ | refine blk_alloc ?_ _)); exact BK181.out) hb); have n1_ := Aside0.mk (below_step (by repeat (first | (with_reducible first | exact HB.out | apply below_alloc | apply pw_below_drewN | apply below_drew1 | refine below_set ?_ GE181.out) | exact HB.out)) hb); clear BK181; clear HB; have BK181 := n0_; have HB := n1_; clear n0_ n1_; (try clear hb); (try clear hb2); (try clear hk); (try clear hi); have hcz64_0 : w63.cell? ⟨gb181, 0, none⟩ = some (.int .i64 a0_0) := (blk_cell BK181.out 0).trans rfl; have hcz64_1 : w63.cell? ⟨gb181, 1, none⟩ = some (.int .i64 a0_1) := (blk_cell BK181.out 1).trans rfl; have hcz64_2 : w63.cell? ⟨gb181, 2, none⟩ = some (.int .i64 a0_2) := (blk_cell BK181.out 2).trans rfl; have hcz64_3 : w63.cell? ⟨gb181, 3, none⟩ = some (.int .i64 a0_3) := (blk_cell BK181.out 3).trans rfl; have hfz64_0 := blk_frozen BK181.out 0; have hfz64_1 := blk_frozen BK181.out 1; have hfz64_2 := blk_frozen BK181.out 2; have hfz64_3 := blk_frozen BK181.out 3) | (go_at_call 15; (with_reducible refine (lay_Size.calls a0_0 a0_1 a0_2 a0_3 t187 _ A61.out).mono ?_); (try clear A61); rintro e w65 ⟨rfl, hb⟩; have n0_ := Aside0.mk (blk_below (g := gb181) (o := .cells #[.int .i64 a0_0, .int .i64 a0_1, .int .i64 a0_2, .int .i64 a0_3] 23 (0, 0)) (by (with_reducible repeat (first | refine blk_drewN ?_ _ | refine blk_drew ?_ | refine blk_alloc ?_ _)); exact BK181.out) hb); have n1_ := Aside0.mk (below_step (by repeat (first | (with_reducible first | exact HB.out | apply below_alloc | apply pw_below_drewN | apply below_drew1 | refine below_set ?_ GE181.out) | exact HB.out)) hb); clear BK181; clear HB; have BK181 := n0_; have HB := n1_; clear n0_ n1_; (try clear hb); (try clear hb2); (try clear hk); (try clear hi))))
                            go_ret
                            exact ⟨by first | rfl | (simp [errW_none, errW_some] <;> rfl) | (simp [*, errW_none, errW_some] <;> rfl), by repeat (first | (with_reducible first | exact HB.out | apply below_alloc | apply pw_below_drewN | apply below_drew1 | refine below_set ?_ GE181.out) | exact HB.out)⟩
                          · rw [if_neg c60] at H
                            have c60b0 : decide (6 ≤ t185) = false := decide_eq_false c60
                            clear c60
                            exact absurd (H.trans (congrArg some hr_.out)) (by simp)
                        · rw [if_neg c59] at H
                          have c59b0 : decide (t184 < t186) = false := decide_eq_false c59
                          clear c59
                          exact absurd (H.trans (congrArg some hr_.out)) (by simp)
                      · rw [if_neg c57] at H
                        have c57b0 : decide (6 ≤ t184) = false := decide_eq_false c57
                        clear c57
                        exact absurd (H.trans (congrArg some hr_.out)) (by simp)
                    · rw [if_neg c56] at H
                      have c56b0 : ((t184 == t185) == ((Int.tmod a3 (IntKind.u64.wrap (a0_1))) == (Int.tmod a6 (IntKind.u64.wrap (a0_1))))) = false := by simpa using c56
                      (try (have c56b1 : decide ((t184 == t185) = ((Int.tmod a3 (IntKind.u64.wrap (a0_1))) == (Int.tmod a6 (IntKind.u64.wrap (a0_1))))) = false := by simpa using c56))
                      (try (have c56b2 : ((t184 == t185) == ((Int.tmod a3 (IntKind.u64.wrap (a0_1))) == (Int.tmod a6 (IntKind.u64.wrap (a0_1))))) = false := by simpa using c56))
                      (try (have c56b3 : ¬ ((t184 == t185) = ((Int.tmod a3 (IntKind.u64.wrap (a0_1))) == (Int.tmod a6 (IntKind.u64.wrap (a0_1))))) := by simpa using c56))
                      clear c56
                      exact absurd (H.trans (congrArg some hr_.out)) (by simp)
                · rw [if_neg c54] at H
                  have c54b0 : decide (a1 < 2) = false := decide_eq_false c54
                  clear c54
                  by_cases c66 : a2 = a5
                  · rw [if_pos c66] at H
                    have c66b0 : (a2 == a5) = true := beq_iff_eq.mpr c66
                    have c66b1 : (a2 != a5) = false := bne_eq_false_iff_eq.mpr c66
                    clear c66
                    by_cases c67 : (IntKind.u64.wrap (a0_1)) = 0
                    · rw [if_pos c67] at H
                      exact absurd H (by simp)
                    · rw [if_neg c67] at H
                      have c67b0 : ((IntKind.u64.wrap (a0_1)) == 0) = false := beq_eq_false_iff_ne.mpr c67
                      have c67b1 : ((IntKind.u64.wrap (a0_1)) != 0) = true := bne_iff_ne.mpr c67
                      by_cases c68 : ((t184 == t185) == ((Int.tmod a3 (IntKind.u64.wrap (a0_1))) == (Int.tmod a6 (IntKind.u64.wrap (a0_1))))) = true
                      · rw [if_pos c68] at H
                        have c68b0 : ((t184 == t185) == ((Int.tmod a3 (IntKind.u64.wrap (a0_1))) == (Int.tmod a6 (IntKind.u64.wrap (a0_1))))) = true := c68
                        (try (have c68b1 : decide ((t184 == t185) = ((Int.tmod a3 (IntKind.u64.wrap (a0_1))) == (Int.tmod a6 (IntKind.u64.wrap (a0_1))))) = true := by simpa using c68))
                        (try (have c68b2 : ((t184 == t185) == ((Int.tmod a3 (IntKind.u64.wrap (a0_1))) == (Int.tmod a6 (IntKind.u64.wrap (a0_1))))) = true := by simpa using c68))
                        clear c68
                        by_cases c69 : t184 ≥ 6
                        · rw [if_pos c69] at H
                          have c69b0 : decide (6 ≤ t184) = true := decide_eq_true c69
                          clear c69
                          replace H := Option.bind_eq_some_iff.mp H
                          obtain ⟨t188, A700, H⟩ := H
                          replace H : (if t184 < t188 then (if t185 ≥ 6 then ((lay_Size.f a0_0 a0_1 a0_2 a0_3).bind fun t189 => (some (decide (t185 < t189)))) else (some false)) else (some false)) = some r := H
                          have A70 := Aside0.mk A700
                          clear A700
                          by_cases c71 : t184 < t188
                          · rw [if_pos c71] at H
                            have c71b0 : decide (t184 < t188) = true := decide_eq_true c71
                            clear c71
                            by_cases c72 : t185 ≥ 6
                            · rw [if_pos c72] at H
                              have c72b0 : decide (6 ≤ t185) = true := decide_eq_true c72
                              clear c72
                              replace H := Option.bind_eq_some_iff.mp H
                              obtain ⟨t189, A730, H⟩ := H
                              replace H : (some (decide (t185 < t189))) = some r := H
                              have A73 := Aside0.mk A730
                              clear A730
                              obtain rfl := Option.some.inj H
                              clear hr_
                              have hcz74_0 : wc.cell? ⟨gb181, 0, none⟩ = some (.int .i64 a0_0) := (blk_cell BK181.out 0).trans rfl
                              have hcz74_1 : wc.cell? ⟨gb181, 1, none⟩ = some (.int .i64 a0_1) := (blk_cell BK181.out 1).trans rfl
                              have hcz74_2 : wc.cell? ⟨gb181, 2, none⟩ = some (.int .i64 a0_2) := (blk_cell BK181.out 2).trans rfl
                              have hcz74_3 : wc.cell? ⟨gb181, 3, none⟩ = some (.int .i64 a0_3) := (blk_cell BK181.out 3).trans rfl
                              have hfz74_0 := blk_frozen BK181.out 0
                              have hfz74_1 := blk_frozen BK181.out 1
                              have hfz74_2 := blk_frozen BK181.out 2
                              have hfz74_3 := blk_frozen BK181.out 3
                              go_wp2_with (first | (go_at_call 15; (with_reducible refine (lay_Size.calls a0_0 a0_1 a0_2 a0_3 t188 _ A70.out).mono ?_); (try clear A70); rintro e w75 ⟨rfl, hb⟩; have n0_ := Aside0.mk (blk_below (g := gb181) (o := .cells #[.int .i64 a0_0, .int .i64 a0_1, .int .i64 a0_2, .int .i64 a0_3] 23 (0, 0)) (by (with_reducible repeat (first | refine blk_drewN ?_ _ | refine blk_drew ?_ | refine blk_alloc ?_ _)); exact BK181.out) hb); have n1_ := Aside0.mk (below_step (by repeat (first | (with_reducible first | exact HB.out | apply below_alloc | apply pw_below_drewN | apply below_drew1 | refine below_set ?_ GE181.out) | exact HB.out)) hb); clear BK181; clear HB; have BK181 := n0_; have HB := n1_; clear n0_ n1_; (try clear hb); (try clear hb2); (try clear hk); (try clear hi); have hcz76_0 : w75.cell? ⟨gb181, 0, none⟩ = some (.int .i64 a0_0) := (blk_cell BK181.out 0).trans rfl; have hcz76_1 : w75.cell? ⟨gb181, 1, none⟩ = some (.int .i64 a0_1) := (blk_cell BK181.out 1).trans rfl; have hcz76_2 : w75.cell? ⟨gb181, 2, none⟩ = some (.int .i64 a0_2) := (blk_cell BK181.out 2).trans rfl; have hcz76_3 : w75.cell? ⟨gb181, 3, none⟩ = some (.int .i64 a0_3) := (blk_cell BK181.out 3).trans rfl; have hfz76_0 := blk_frozen BK181.out 0; have hfz76_1 := blk_frozen BK181.out 1; have hfz76_2 := blk_frozen BK181.out 2; have hfz76_3 := blk_frozen BK181.out 3) | (go_at_call 15; (with_reducible refine (lay_Size.calls a0_0 a0_1 a0_2 a0_3 t189 _ A73.out).mono ?_); (try clear A73); rintro e w77 ⟨rfl, hb⟩; have n0_ := Aside0.mk (blk_below (g := gb181) (o := .cells #[.int .i64 a0_0, .int .i64 a0_1, .int .i64 a0_2, .int .i64 a0_3] 23 (0, 0)) (by (with_reducible repeat (first | refine blk_drewN ?_ _ | refine blk_drew ?_ | refine blk_alloc ?_ _)); exact BK181.out) hb); have n1_ := Aside0.mk (below_step (by repeat (first | (with_reducible first | exact HB.out | apply below_alloc | apply pw_below_drewN | apply below_drew1 | refine below_set ?_ GE181.out) | exact HB.out)) hb); clear BK181; clear HB; have BK181 := n0_; have HB := n1_; clear n0_ n1_; (try clear hb); (try clear hb2); (try clear hk); (try clear hi)))
                              repeat (go_quiet (first | (go_at_call 15; (with_reducible refine (lay_Size.calls a0_0 a0_1 a0_2 a0_3 t188 _ A70.out).mono ?_); (try clear A70); rintro e w75 ⟨rfl, hb⟩; have n0_ := Aside0.mk (blk_below (g := gb181) (o := .cells #[.int .i64 a0_0, .int .i64 a0_1, .int .i64 a0_2, .int .i64 a0_3] 23 (0, 0)) (by (with_reducible repeat (first | refine blk_drewN ?_ _ | refine blk_drew ?_ | refine blk_alloc ?_ _)); exact BK181.out) hb); have n1_ := Aside0.mk (below_step (by repeat (first | (with_reducible first | exact HB.out | apply below_alloc | apply pw_below_drewN | apply below_drew1 | refine below_set ?_ GE181.out) | exact HB.out)) hb); clear BK181; clear HB; have BK181 := n0_; have HB := n1_; clear n0_ n1_; (try clear hb); (try clear hb2); (try clear hk); (try clear hi); have hcz76_0 : w75.cell? ⟨gb181, 0, none⟩ = some (.int .i64 a0_0) := (blk_cell BK181.out 0).trans rfl; have hcz76_1 : w75.cell? ⟨gb181, 1, none⟩ = some (.int .i64 a0_1) := (blk_cell BK181.out 1).trans rfl; have hcz76_2 : w75.cell? ⟨gb181, 2, none⟩ = some (.int .i64 a0_2) := (blk_cell BK181.out 2).trans rfl; have hcz76_3 : w75.cell? ⟨gb181, 3, none⟩ = some (.int .i64 a0_3) := (blk_cell BK181.out 3).trans rfl; have hfz76_0 := blk_frozen BK181.out 0; have hfz76_1 := blk_frozen BK181.out 1; have hfz76_2 := blk_frozen BK181.out 2; have hfz76_3 := blk_frozen BK181.out 3) | (go_at_call 15; (with_reducible refine (lay_Size.calls a0_0 a0_1 a0_2 a0_3 t189 _ A73.out).mono ?_); (try clear A73); rintro e w77 ⟨rfl, hb⟩; have n0_ := Aside0.mk (blk_below (g := gb181) (o := .cells #[.int .i64 a0_0, .int .i64 a0_1, .int .i64 a0_2, .int .i64 a0_3] 23 (0, 0)) (by (with_reducible repeat (first | refine blk_drewN ?_ _ | refine blk_drew ?_ | refine blk_alloc ?_ _)); exact BK181.out) hb); have n1_ := Aside0.mk (below_step (by repeat (first | (with_reducible first | exact HB.out | apply below_alloc | apply pw_below_drewN | apply below_drew1 | refine below_set ?_ GE181.out) | exact HB.out)) hb); clear BK181; clear HB; have BK181 := n0_; have HB := n1_; clear n0_ n1_; (try clear hb); (try clear hb2); (try clear hk); (try clear hi))); try go_wp2_with (first | (go_at_call 15; (with_reducible refine (lay_Size.calls a0_0 a0_1 a0_2 a0_3 t188 _ A70.out).mono ?_); (try clear A70); rintro e w75 ⟨rfl, hb⟩; have n0_ := Aside0.mk (blk_below (g := gb181) (o := .cells #[.int .i64 a0_0, .int .i64 a0_1, .int .i64 a0_2, .int .i64 a0_3] 23 (0, 0)) (by (with_reducible repeat (first | refine blk_drewN ?_ _ | refine blk_drew ?_ | refine blk_alloc ?_ _)); exact BK181.out) hb); have n1_ := Aside0.mk (below_step (by repeat (first | (with_reducible first | exact HB.out | apply below_alloc | apply pw_below_drewN | apply below_drew1 | refine below_set ?_ GE181.out) | exact HB.out)) hb); clear BK181; clear HB; have BK181 := n0_; have HB := n1_; clear n0_ n1_; (try clear hb); (try clear hb2); (try clear hk); (try clear hi); have hcz76_0 : w75.cell? ⟨gb181, 0, none⟩ = some (.int .i64 a0_0) := (blk_cell BK181.out 0).trans rfl; have hcz76_1 : w75.cell? ⟨gb181, 1, none⟩ = some (.int .i64 a0_1) := (blk_cell BK181.out 1).trans rfl; have hcz76_2 : w75.cell? ⟨gb181, 2, none⟩ = some (.int .i64 a0_2) := (blk_cell BK181.out 2).trans rfl; have hcz76_3 : w75.cell? ⟨gb181, 3, none⟩ = some (.int .i64 a0_3) := (blk_cell BK181.out 3).trans rfl; have hfz76_0 := blk_frozen BK181.out 0; have hfz76_1 := blk_frozen BK181.out 1; have hfz76_2 := blk_frozen BK181.out 2; have hfz76_3 := blk_frozen BK181.out 3) | (go_at_call 15; (with_reducible refine (lay_Size.calls a0_0 a0_1 a0_2 a0_3 t189 _ A73.out).mono ?_); (try clear A73); rintro e w77 ⟨rfl, hb⟩; have n0_ := Aside0.mk (blk_below (g := gb181) (o := .cells #[.int .i64 a0_0, .int .i64 a0_1, .int .i64 a0_2, .int .i64 a0_3] 23 (0, 0)) (by (with_reducible repeat (first | refine blk_drewN ?_ _ | refine blk_drew ?_ | refine blk_alloc ?_ _)); exact BK181.out) hb); have n1_ := Aside0.mk (below_step (by repeat (first | (with_reducible first | exact HB.out | apply below_alloc | apply pw_below_drewN | apply below_drew1 | refine below_set ?_ GE181.out) | exact HB.out)) hb); clear BK181; clear HB; have BK181 := n0_; have HB := n1_; clear n0_ n1_; (try clear hb); (try clear hb2); (try clear hk); (try clear hi))))
                              go_ret
                              exact ⟨by first | rfl | (simp [errW_none, errW_some] <;> rfl) | (simp [*, errW_none, errW_some] <;> rfl), by repeat (first | (with_reducible first | exact HB.out | apply below_alloc | apply pw_below_drewN | apply below_drew1 | refine below_set ?_ GE181.out) | exact HB.out)⟩
                            · rw [if_neg c72] at H
                              have c72b0 : decide (6 ≤ t185) = false := decide_eq_false c72
                              clear c72
                              exact absurd (H.trans (congrArg some hr_.out)) (by simp)
                          · rw [if_neg c71] at H
                            have c71b0 : decide (t184 < t188) = false := decide_eq_false c71
                            clear c71
                            exact absurd (H.trans (congrArg some hr_.out)) (by simp)
                        · rw [if_neg c69] at H
                          have c69b0 : decide (6 ≤ t184) = false := decide_eq_false c69
                          clear c69
                          exact absurd (H.trans (congrArg some hr_.out)) (by simp)
                      · rw [if_neg c68] at H
                        have c68b0 : ((t184 == t185) == ((Int.tmod a3 (IntKind.u64.wrap (a0_1))) == (Int.tmod a6 (IntKind.u64.wrap (a0_1))))) = false := by simpa using c68
                        (try (have c68b1 : decide ((t184 == t185) = ((Int.tmod a3 (IntKind.u64.wrap (a0_1))) == (Int.tmod a6 (IntKind.u64.wrap (a0_1))))) = false := by simpa using c68))
                        (try (have c68b2 : ((t184 == t185) == ((Int.tmod a3 (IntKind.u64.wrap (a0_1))) == (Int.tmod a6 (IntKind.u64.wrap (a0_1))))) = false := by simpa using c68))
                        (try (have c68b3 : ¬ ((t184 == t185) = ((Int.tmod a3 (IntKind.u64.wrap (a0_1))) == (Int.tmod a6 (IntKind.u64.wrap (a0_1))))) := by simpa using c68))
                        clear c68
                        exact absurd (H.trans (congrArg some hr_.out)) (by simp)
                  · rw [if_neg c66] at H
                    have c66b0 : (a2 == a5) = false := beq_eq_false_iff_ne.mpr c66
                    have c66b1 : (a2 != a5) = true := bne_iff_ne.mpr c66
                    by_cases c78 : ((t184 == t185) == false) = true
                    · rw [if_pos c78] at H
                      have c78b0 : ((t184 == t185) == false) = true := c78
                      (try (have c78b1 : decide ((t184 == t185) = false) = true := by simpa using c78))
                      (try (have c78b2 : ((t184 == t185) == false) = true := by simpa using c78))
                      clear c78
                      by_cases c79 : t184 ≥ 6
                      · rw [if_pos c79] at H
                        have c79b0 : decide (6 ≤ t184) = true := decide_eq_true c79
                        clear c79
                        replace H := Option.bind_eq_some_iff.mp H
                        obtain ⟨t190, A800, H⟩ := H
                        replace H : (if t184 < t190 then (if t185 ≥ 6 then ((lay_Size.f a0_0 a0_1 a0_2 a0_3).bind fun t191 => (some (decide (t185 < t191)))) else (some false)) else (some false)) = some r := H
                        have A80 := Aside0.mk A800
                        clear A800
                        by_cases c81 : t184 < t190
                        · rw [if_pos c81] at H
                          have c81b0 : decide (t184 < t190) = true := decide_eq_true c81
                          clear c81
                          by_cases c82 : t185 ≥ 6
                          · rw [if_pos c82] at H
                            have c82b0 : decide (6 ≤ t185) = true := decide_eq_true c82
                            clear c82
                            replace H := Option.bind_eq_some_iff.mp H
                            obtain ⟨t191, A830, H⟩ := H
                            replace H : (some (decide (t185 < t191))) = some r := H
                            have A83 := Aside0.mk A830
                            clear A830
                            obtain rfl := Option.some.inj H
                            clear hr_
                            have hcz84_0 : wc.cell? ⟨gb181, 0, none⟩ = some (.int .i64 a0_0) := (blk_cell BK181.out 0).trans rfl
                            have hcz84_1 : wc.cell? ⟨gb181, 1, none⟩ = some (.int .i64 a0_1) := (blk_cell BK181.out 1).trans rfl
                            have hcz84_2 : wc.cell? ⟨gb181, 2, none⟩ = some (.int .i64 a0_2) := (blk_cell BK181.out 2).trans rfl
                            have hcz84_3 : wc.cell? ⟨gb181, 3, none⟩ = some (.int .i64 a0_3) := (blk_cell BK181.out 3).trans rfl
                            have hfz84_0 := blk_frozen BK181.out 0
                            have hfz84_1 := blk_frozen BK181.out 1
                            have hfz84_2 := blk_frozen BK181.out 2
                            have hfz84_3 := blk_frozen BK181.out 3
                            go_wp2_with (first | (go_at_call 15; (with_reducible refine (lay_Size.calls a0_0 a0_1 a0_2 a0_3 t190 _ A80.out).mono ?_); (try clear A80); rintro e w85 ⟨rfl, hb⟩; have n0_ := Aside0.mk (blk_below (g := gb181) (o := .cells #[.int .i64 a0_0, .int .i64 a0_1, .int .i64 a0_2, .int .i64 a0_3] 23 (0, 0)) (by (with_reducible repeat (first | refine blk_drewN ?_ _ | refine blk_drew ?_ | refine blk_alloc ?_ _)); exact BK181.out) hb); have n1_ := Aside0.mk (below_step (by repeat (first | (with_reducible first | exact HB.out | apply below_alloc | apply pw_below_drewN | apply below_drew1 | refine below_set ?_ GE181.out) | exact HB.out)) hb); clear BK181; clear HB; have BK181 := n0_; have HB := n1_; clear n0_ n1_; (try clear hb); (try clear hb2); (try clear hk); (try clear hi); have hcz86_0 : w85.cell? ⟨gb181, 0, none⟩ = some (.int .i64 a0_0) := (blk_cell BK181.out 0).trans rfl; have hcz86_1 : w85.cell? ⟨gb181, 1, none⟩ = some (.int .i64 a0_1) := (blk_cell BK181.out 1).trans rfl; have hcz86_2 : w85.cell? ⟨gb181, 2, none⟩ = some (.int .i64 a0_2) := (blk_cell BK181.out 2).trans rfl; have hcz86_3 : w85.cell? ⟨gb181, 3, none⟩ = some (.int .i64 a0_3) := (blk_cell BK181.out 3).trans rfl; have hfz86_0 := blk_frozen BK181.out 0; have hfz86_1 := blk_frozen BK181.out 1; have hfz86_2 := blk_frozen BK181.out 2; have hfz86_3 := blk_frozen BK181.out 3) | (go_at_call 15; (with_reducible refine (lay_Size.calls a0_0 a0_1 a0_2 a0_3 t191 _ A83.out).mono ?_); (try clear A83); rintro e w87 ⟨rfl, hb⟩; have n0_ := Aside0.mk (blk_below (g := gb181) (o := .cells #[.int .i64 a0_0, .int .i64 a0_1, .int .i64 a0_2, .int .i64 a0_3] 23 (0, 0)) (by (with_reducible repeat (first | refine blk_drewN ?_ _ | refine blk_drew ?_ | refine blk_alloc ?_ _)); exact BK181.out) hb); have n1_ := Aside0.mk (below_step (by repeat (first | (with_reducible first | exact HB.out | apply below_alloc | apply pw_below_drewN | apply below_drew1 | refine below_set ?_ GE181.out) | exact HB.out)) hb); clear BK181; clear HB; have BK181 := n0_; have HB := n1_; clear n0_ n1_; (try clear hb); (try clear hb2); (try clear hk); (try clear hi)))
                            repeat (go_quiet (first | (go_at_call 15; (with_reducible refine (lay_Size.calls a0_0 a0_1 a0_2 a0_3 t190 _ A80.out).mono ?_); (try clear A80); rintro e w85 ⟨rfl, hb⟩; have n0_ := Aside0.mk (blk_below (g := gb181) (o := .cells #[.int .i64 a0_0, .int .i64 a0_1, .int .i64 a0_2, .int .i64 a0_3] 23 (0, 0)) (by (with_reducible repeat (first | refine blk_drewN ?_ _ | refine blk_drew ?_ | refine blk_alloc ?_ _)); exact BK181.out) hb); have n1_ := Aside0.mk (below_step (by repeat (first | (with_reducible first | exact HB.out | apply below_alloc | apply pw_below_drewN | apply below_drew1 | refine below_set ?_ GE181.out) | exact HB.out)) hb); clear BK181; clear HB; have BK181 := n0_; have HB := n1_; clear n0_ n1_; (try clear hb); (try clear hb2); (try clear hk); (try clear hi); have hcz86_0 : w85.cell? ⟨gb181, 0, none⟩ = some (.int .i64 a0_0) := (blk_cell BK181.out 0).trans rfl; have hcz86_1 : w85.cell? ⟨gb181, 1, none⟩ = some (.int .i64 a0_1) := (blk_cell BK181.out 1).trans rfl; have hcz86_2 : w85.cell? ⟨gb181, 2, none⟩ = some (.int .i64 a0_2) := (blk_cell BK181.out 2).trans rfl; have hcz86_3 : w85.cell? ⟨gb181, 3, none⟩ = some (.int .i64 a0_3) := (blk_cell BK181.out 3).trans rfl; have hfz86_0 := blk_frozen BK181.out 0; have hfz86_1 := blk_frozen BK181.out 1; have hfz86_2 := blk_frozen BK181.out 2; have hfz86_3 := blk_frozen BK181.out 3) | (go_at_call 15; (with_reducible refine (lay_Size.calls a0_0 a0_1 a0_2 a0_3 t191 _ A83.out).mono ?_); (try clear A83); rintro e w87 ⟨rfl, hb⟩; have n0_ := Aside0.mk (blk_below (g := gb181) (o := .cells #[.int .i64 a0_0, .int .i64 a0_1, .int .i64 a0_2, .int .i64 a0_3] 23 (0, 0)) (by (with_reducible repeat (first | refine blk_drewN ?_ _ | refine blk_drew ?_ | refine blk_alloc ?_ _)); exact BK181.out) hb); have n1_ := Aside0.mk (below_step (by repeat (first | (with_reducible first | exact HB.out | apply below_alloc | apply pw_below_drewN | apply below_drew1 | refine below_set ?_ GE181.out) | exact HB.out)) hb); clear BK181; clear HB; have BK181 := n0_; have HB := n1_; clear n0_ n1_; (try clear hb); (try clear hb2); (try clear hk); (try clear hi))); try go_wp2_with (first | (go_at_call 15; (with_reducible refine (lay_Size.calls a0_0 a0_1 a0_2 a0_3 t190 _ A80.out).mono ?_); (try clear A80); rintro e w85 ⟨rfl, hb⟩; have n0_ := Aside0.mk (blk_below (g := gb181) (o := .cells #[.int .i64 a0_0, .int .i64 a0_1, .int .i64 a0_2, .int .i64 a0_3] 23 (0, 0)) (by (with_reducible repeat (first | refine blk_drewN ?_ _ | refine blk_drew ?_ | refine blk_alloc ?_ _)); exact BK181.out) hb); have n1_ := Aside0.mk (below_step (by repeat (first | (with_reducible first | exact HB.out | apply below_alloc | apply pw_below_drewN | apply below_drew1 | refine below_set ?_ GE181.out) | exact HB.out)) hb); clear BK181; clear HB; have BK181 := n0_; have HB := n1_; clear n0_ n1_; (try clear hb); (try clear hb2); (try clear hk); (try clear hi); have hcz86_0 : w85.cell? ⟨gb181, 0, none⟩ = some (.int .i64 a0_0) := (blk_cell BK181.out 0).trans rfl; have hcz86_1 : w85.cell? ⟨gb181, 1, none⟩ = some (.int .i64 a0_1) := (blk_cell BK181.out 1).trans rfl; have hcz86_2 : w85.cell? ⟨gb181, 2, none⟩ = some (.int .i64 a0_2) := (blk_cell BK181.out 2).trans rfl; have hcz86_3 : w85.cell? ⟨gb181, 3, none⟩ = some (.int .i64 a0_3) := (blk_cell BK181.out 3).trans rfl; have hfz86_0 := blk_frozen BK181.out 0; have hfz86_1 := blk_frozen BK181.out 1; have hfz86_2 := blk_frozen BK181.out 2; have hfz86_3 := blk_frozen BK181.out 3) | (go_at_call 15; (with_reducible refine (lay_Size.calls a0_0 a0_1 a0_2 a0_3 t191 _ A83.out).mono ?_); (try clear A83); rintro e w87 ⟨rfl, hb⟩; have n0_ := Aside0.mk (blk_below (g := gb181) (o := .cells #[.int .i64 a0_0, .int .i64 a0_1, .int .i64 a0_2, .int .i64 a0_3] 23 (0, 0)) (by (with_reducible repeat (first | refine blk_drewN ?_ _ | refine blk_drew ?_ | refine blk_alloc ?_ _)); exact BK181.out) hb); have n1_ := Aside0.mk (below_step (by repeat (first | (with_reducible first | exact HB.out | apply below_alloc | apply pw_below_drewN | apply below_drew1 | refine below_set ?_ GE181.out) | exact HB.out)) hb); clear BK181; clear HB; have BK181 := n0_; have HB := n1_; clear n0_ n1_; (try clear hb); (try clear hb2); (try clear hk); (try clear hi))))
                            go_ret
                            exact ⟨by first | rfl | (simp [errW_none, errW_some] <;> rfl) | (simp [*, errW_none, errW_some] <;> rfl), by repeat (first | (with_reducible first | exact HB.out | apply below_alloc | apply pw_below_drewN | apply below_drew1 | refine below_set ?_ GE181.out) | exact HB.out)⟩
                          · rw [if_neg c82] at H
                            have c82b0 : decide (6 ≤ t185) = false := decide_eq_false c82
                            clear c82
                            exact absurd (H.trans (congrArg some hr_.out)) (by simp)
                        · rw [if_neg c81] at H
                          have c81b0 : decide (t184 < t190) = false := decide_eq_false c81
                          clear c81
                          exact absurd (H.trans (congrArg some hr_.out)) (by simp)
                      · rw [if_neg c79] at H
                        have c79b0 : decide (6 ≤ t184) = false := decide_eq_false c79
                        clear c79
                        exact absurd (H.trans (congrArg some hr_.out)) (by simp)
                    · rw [if_neg c78] at H
                      have c78b0 : ((t184 == t185) == false) = false := by simpa using c78
                      (try (have c78b1 : decide ((t184 == t185) = false) = false := by simpa using c78))
                      (try (have c78b2 : ((t184 == t185) == false) = false := by simpa using c78))
                      (try (have c78b3 : ¬ ((t184 == t185) = false) := by simpa using c78))
                      clear c78
                      exact absurd (H.trans (congrArg some hr_.out)) (by simp)
              · rw [if_neg c53] at H
                have c53b0 : (a1 == a4) = false := beq_eq_false_iff_ne.mpr c53
                have c53b1 : (a1 != a4) = true := bne_iff_ne.mpr c53
                by_cases c88 : ((t184 == t185) == false) = true
                · rw [if_pos c88] at H
                  have c88b0 : ((t184 == t185) == false) = true := c88
                  (try (have c88b1 : decide ((t184 == t185) = false) = true := by simpa using c88))
                  (try (have c88b2 : ((t184 == t185) == false) = true := by simpa using c88))
                  clear c88
                  by_cases c89 : t184 ≥ 6
                  · rw [if_pos c89] at H
                    have c89b0 : decide (6 ≤ t184) = true := decide_eq_true c89
                    clear c89
                    replace H := Option.bind_eq_some_iff.mp H
                    obtain ⟨t192, A900, H⟩ := H
                    replace H : (if t184 < t192 then (if t185 ≥ 6 then ((lay_Size.f a0_0 a0_1 a0_2 a0_3).bind fun t193 => (some (decide (t185 < t193)))) else (some false)) else (some false)) = some r := H
                    have A90 := Aside0.mk A900
                    clear A900
                    by_cases c91 : t184 < t192
                    · rw [if_pos c91] at H
                      have c91b0 : decide (t184 < t192) = true := decide_eq_true c91
                      clear c91
                      by_cases c92 : t185 ≥ 6
                      · rw [if_pos c92] at H
                        have c92b0 : decide (6 ≤ t185) = true := decide_eq_true c92
                        clear c92
                        replace H := Option.bind_eq_some_iff.mp H
                        obtain ⟨t193, A930, H⟩ := H
                        replace H : (some (decide (t185 < t193))) = some r := H
                        have A93 := Aside0.mk A930
                        clear A930
                        obtain rfl := Option.some.inj H
                        clear hr_
                        have hcz94_0 : wc.cell? ⟨gb181, 0, none⟩ = some (.int .i64 a0_0) := (blk_cell BK181.out 0).trans rfl
                        have hcz94_1 : wc.cell? ⟨gb181, 1, none⟩ = some (.int .i64 a0_1) := (blk_cell BK181.out 1).trans rfl
                        have hcz94_2 : wc.cell? ⟨gb181, 2, none⟩ = some (.int .i64 a0_2) := (blk_cell BK181.out 2).trans rfl
                        have hcz94_3 : wc.cell? ⟨gb181, 3, none⟩ = some (.int .i64 a0_3) := (blk_cell BK181.out 3).trans rfl
                        have hfz94_0 := blk_frozen BK181.out 0
                        have hfz94_1 := blk_frozen BK181.out 1
                        have hfz94_2 := blk_frozen BK181.out 2
                        have hfz94_3 := blk_frozen BK181.out 3
                        go_wp2_with (first | (go_at_call 15; (with_reducible refine (lay_Size.calls a0_0 a0_1 a0_2 a0_3 t192 _ A90.out).mono ?_); (try clear A90); rintro e w95 ⟨rfl, hb⟩; have n0_ := Aside0.mk (blk_below (g := gb181) (o := .cells #[.int .i64 a0_0, .int .i64 a0_1, .int .i64 a0_2, .int .i64 a0_3] 23 (0, 0)) (by (with_reducible repeat (first | refine blk_drewN ?_ _ | refine blk_drew ?_ | refine blk_alloc ?_ _)); exact BK181.out) hb); have n1_ := Aside0.mk (below_step (by repeat (first | (with_reducible first | exact HB.out | apply below_alloc | apply pw_below_drewN | apply below_drew1 | refine below_set ?_ GE181.out) | exact HB.out)) hb); clear BK181; clear HB; have BK181 := n0_; have HB := n1_; clear n0_ n1_; (try clear hb); (try clear hb2); (try clear hk); (try clear hi); have hcz96_0 : w95.cell? ⟨gb181, 0, none⟩ = some (.int .i64 a0_0) := (blk_cell BK181.out 0).trans rfl; have hcz96_1 : w95.cell? ⟨gb181, 1, none⟩ = some (.int .i64 a0_1) := (blk_cell BK181.out 1).trans rfl; have hcz96_2 : w95.cell? ⟨gb181, 2, none⟩ = some (.int .i64 a0_2) := (blk_cell BK181.out 2).trans rfl; have hcz96_3 : w95.cell? ⟨gb181, 3, none⟩ = some (.int .i64 a0_3) := (blk_cell BK181.out 3).trans rfl; have hfz96_0 := blk_frozen BK181.out 0; have hfz96_1 := blk_frozen BK181.out 1; have hfz96_2 := blk_frozen BK181.out 2; have hfz96_3 := blk_frozen BK181.out 3) | (go_at_call 15; (with_reducible refine (lay_Size.calls a0_0 a0_1 a0_2 a0_3 t193 _ A93.out).mono ?_); (try clear A93); rintro e w97 ⟨rfl, hb⟩; have n0_ := Aside0.mk (blk_below (g := gb181) (o := .cells #[.int .i64 a0_0, .int .i64 a0_1, .int .i64 a0_2, .int .i64 a0_3] 23 (0, 0)) (by (with_reducible repeat (first | refine blk_drewN ?_ _ | refine blk_drew ?_ | refine blk_alloc ?_ _)); exact BK181.out) hb); have n1_ := Aside0.mk (below_step (by repeat (first | (with_reducible first | exact HB.out | apply below_alloc | apply pw_below_drewN | apply below_drew1 | refine below_set ?_ GE181.out) | exact HB.out)) hb); clear BK181; clear HB; have BK181 := n0_; have HB := n1_; clear n0_ n1_; (try clear hb); (try clear hb2); (try clear hk); (try clear hi)))
                        repeat (go_quiet (first | (go_at_call 15; (with_reducible refine (lay_Size.calls a0_0 a0_1 a0_2 a0_3 t192 _ A90.out).mono ?_); (try clear A90); rintro e w95 ⟨rfl, hb⟩; have n0_ := Aside0.mk (blk_below (g := gb181) (o := .cells #[.int .i64 a0_0, .int .i64 a0_1, .int .i64 a0_2, .int .i64 a0_3] 23 (0, 0)) (by (with_reducible repeat (first | refine blk_drewN ?_ _ | refine blk_drew ?_ | refine blk_alloc ?_ _)); exact BK181.out) hb); have n1_ := Aside0.mk (below_step (by repeat (first | (with_reducible first | exact HB.out | apply below_alloc | apply pw_below_drewN | apply below_drew1 | refine below_set ?_ GE181.out) | exact HB.out)) hb); clear BK181; clear HB; have BK181 := n0_; have HB := n1_; clear n0_ n1_; (try clear hb); (try clear hb2); (try clear hk); (try clear hi); have hcz96_0 : w95.cell? ⟨gb181, 0, none⟩ = some (.int .i64 a0_0) := (blk_cell BK181.out 0).trans rfl; have hcz96_1 : w95.cell? ⟨gb181, 1, none⟩ = some (.int .i64 a0_1) := (blk_cell BK181.out 1).trans rfl; have hcz96_2 : w95.cell? ⟨gb181, 2, none⟩ = some (.int .i64 a0_2) := (blk_cell BK181.out 2).trans rfl; have hcz96_3 : w95.cell? ⟨gb181, 3, none⟩ = some (.int .i64 a0_3) := (blk_cell BK181.out 3).trans rfl; have hfz96_0 := blk_frozen BK181.out 0; have hfz96_1 := blk_frozen BK181.out 1; have hfz96_2 := blk_frozen BK181.out 2; have hfz96_3 := blk_frozen BK181.out 3) | (go_at_call 15; (with_reducible refine (lay_Size.calls a0_0 a0_1 a0_2 a0_3 t193 _ A93.out).mono ?_); (try clear A93); rintro e w97 ⟨rfl, hb⟩; have n0_ := Aside0.mk (blk_below (g := gb181) (o := .cells #[.int .i64 a0_0, .int .i64 a0_1, .int .i64 a0_2, .int .i64 a0_3] 23 (0, 0)) (by (with_reducible repeat (first | refine blk_drewN ?_ _ | refine blk_drew ?_ | refine blk_alloc ?_ _)); exact BK181.out) hb); have n1_ := Aside0.mk (below_step (by repeat (first | (with_reducible first | exact HB.out | apply below_alloc | apply pw_below_drewN | apply below_drew1 | refine below_set ?_ GE181.out) | exact HB.out)) hb); clear BK181; clear HB; have BK181 := n0_; have HB := n1_; clear n0_ n1_; (try clear hb); (try clear hb2); (try clear hk); (try clear hi))); try go_wp2_with (first | (go_at_call 15; (with_reducible refine (lay_Size.calls a0_0 a0_1 a0_2 a0_3 t192 _ A90.out).mono ?_); (try clear A90); rintro e w95 ⟨rfl, hb⟩; have n0_ := Aside0.mk (blk_below (g := gb181) (o := .cells #[.int .i64 a0_0, .int .i64 a0_1, .int .i64 a0_2, .int .i64 a0_3] 23 (0, 0)) (by (with_reducible repeat (first | refine blk_drewN ?_ _ | refine blk_drew ?_ | refine blk_alloc ?_ _)); exact BK181.out) hb); have n1_ := Aside0.mk (below_step (by repeat (first | (with_reducible first | exact HB.out | apply below_alloc | apply pw_below_drewN | apply below_drew1 | refine below_set ?_ GE181.out) | exact HB.out)) hb); clear BK181; clear HB; have BK181 := n0_; have HB := n1_; clear n0_ n1_; (try clear hb); (try clear hb2); (try clear hk); (try clear hi); have hcz96_0 : w95.cell? ⟨gb181, 0, none⟩ = some (.int .i64 a0_0) := (blk_cell BK181.out 0).trans rfl; have hcz96_1 : w95.cell? ⟨gb181, 1, none⟩ = some (.int .i64 a0_1) := (blk_cell BK181.out 1).trans rfl; have hcz96_2 : w95.cell? ⟨gb181, 2, none⟩ = some (.int .i64 a0_2) := (blk_cell BK181.out 2).trans rfl; have hcz96_3 : w95.cell? ⟨gb181, 3, none⟩ = some (.int .i64 a0_3) := (blk_cell BK181.out 3).trans rfl; have hfz96_0 := blk_frozen BK181.out 0; have hfz96_1 := blk_frozen BK181.out 1; have hfz96_2 := blk_frozen BK181.out 2; have hfz96_3 := blk_frozen BK181.out 3) | (go_at_call 15; (with_reducible refine (lay_Size.calls a0_0 a0_1 a0_2 a0_3 t193 _ A93.out).mono ?_); (try clear A93); rintro e w97 ⟨rfl, hb⟩; have n0_ := Aside0.mk (blk_below (g := gb181) (o := .cells #[.int .i64 a0_0, .int .i64 a0_1, .int .i64 a0_2, .int .i64 a0_3] 23 (0, 0)) (by (with_reducible repeat (first | refine blk_drewN ?_ _ | refine blk_drew ?_ | refine blk_alloc ?_ _)); exact BK181.out) hb); have n1_ := Aside0.mk (below_step (by repeat (first | (with_reducible first | exact HB.out | apply below_alloc | apply pw_below_drewN | apply below_drew1 | refine below_set ?_ GE181.out) | exact HB.out)) hb); clear BK181; clear HB; have BK181 := n0_; have HB := n1_; clear n0_ n1_; (try clear hb); (try clear hb2); (try clear hk); (try clear hi))))
                        go_ret
                        exact ⟨by first | rfl | (simp [errW_none, errW_some] <;> rfl) | (simp [*, errW_none, errW_some] <;> rfl), by repeat (first | (with_reducible first | exact HB.out | apply below_alloc | apply pw_below_drewN | apply below_drew1 | refine below_set ?_ GE181.out) | exact HB.out)⟩
                      · rw [if_neg c92] at H
                        have c92b0 : decide (6 ≤ t185) = false := decide_eq_false c92
                        clear c92
                        exact absurd (H.trans (congrArg some hr_.out)) (by simp)
                    · rw [if_neg c91] at H
                      have c91b0 : decide (t184 < t192) = false := decide_eq_false c91
                      clear c91
                      exact absurd (H.trans (congrArg some hr_.out)) (by simp)
                  · rw [if_neg c89] at H
                    have c89b0 : decide (6 ≤ t184) = false := decide_eq_false c89
                    clear c89
                    exact absurd (H.trans (congrArg some hr_.out)) (by simp)
                · rw [if_neg c88] at H
                  have c88b0 : ((t184 == t185) == false) = false := by simpa using c88
                  (try (have c88b1 : decide ((t184 == t185) = false) = false := by simpa using c88))
                  (try (have c88b2 : ((t184 == t185) == false) = false := by simpa using c88))
                  (try (have c88b3 : ¬ ((t184 == t185) = false) := by simpa using c88))
                  clear c88
                  exact absurd (H.trans (congrArg some hr_.out)) (by simp)
            · rw [if_neg c52] at H
              have c52b0 : (a1 == 5) = false := beq_eq_false_iff_ne.mpr c52
              have c52b1 : (a1 != 5) = true := bne_iff_ne.mpr c52
              by_cases c98 : a1 = a4
              · rw [if_pos c98] at H
                have c98b0 : (a1 == a4) = true := beq_iff_eq.mpr c98
                have c98b1 : (a1 != a4) = false := bne_eq_false_iff_eq.mpr c98
                clear c98
                by_cases c99 : a1 < 2
                · rw [if_pos c99] at H
                  have c99b0 : decide (a1 < 2) = true := decide_eq_true c99
                  clear c99
                  by_cases c100 : x18_44 = 0
                  · rw [if_pos c100] at H
                    exact absurd H (by simp)
                  · rw [if_neg c100] at H
                    have c100b0 : (x18_44 == 0) = false := beq_eq_false_iff_ne.mpr c100
                    have c100b1 : (x18_44 != 0) = true := bne_iff_ne.mpr c100
                    by_cases c101 : ((t184 == t185) == ((Int.tmod a3 x18_44) == (Int.tmod a6 x18_44))) = true
                    · rw [if_pos c101] at H
                      have c101b0 : ((t184 == t185) == ((Int.tmod a3 x18_44) == (Int.tmod a6 x18_44))) = true := c101
                      (try (have c101b1 : decide ((t184 == t185) = ((Int.tmod a3 x18_44) == (Int.tmod a6 x18_44))) = true := by simpa using c101))
                      (try (have c101b2 : ((t184 == t185) == ((Int.tmod a3 x18_44) == (Int.tmod a6 x18_44))) = true := by simpa using c101))
                      clear c101
                      by_cases c102 : t184 ≥ 6
                      · rw [if_pos c102] at H
                        have c102b0 : decide (6 ≤ t184) = true := decide_eq_true c102
                        clear c102
                        replace H := Option.bind_eq_some_iff.mp H
                        obtain ⟨t194, A1030, H⟩ := H
                        replace H : (if t184 < t194 then (if t185 ≥ 6 then ((lay_Size.f a0_0 a0_1 a0_2 a0_3).bind fun t195 => (some (decide (t185 < t195)))) else (some false)) else (some false)) = some r := H
                        have A103 := Aside0.mk A1030
                        clear A1030
                        by_cases c104 : t184 < t194
                        · rw [if_pos c104] at H
                          have c104b0 : decide (t184 < t194) = true := decide_eq_true c104
                          clear c104
                          by_cases c105 : t185 ≥ 6
                          · rw [if_pos c105] at H
                            have c105b0 : decide (6 ≤ t185) = true := decide_eq_true c105
                            clear c105
                            replace H := Option.bind_eq_some_iff.mp H
                            obtain ⟨t195, A1060, H⟩ := H
                            replace H : (some (decide (t185 < t195))) = some r := H
                            have A106 := Aside0.mk A1060
                            clear A1060
                            obtain rfl := Option.some.inj H
                            clear hr_
                            have hcz107_0 : wc.cell? ⟨gb181, 0, none⟩ = some (.int .i64 a0_0) := (blk_cell BK181.out 0).trans rfl
                            have hcz107_1 : wc.cell? ⟨gb181, 1, none⟩ = some (.int .i64 a0_1) := (blk_cell BK181.out 1).trans rfl
                            have hcz107_2 : wc.cell? ⟨gb181, 2, none⟩ = some (.int .i64 a0_2) := (blk_cell BK181.out 2).trans rfl
                            have hcz107_3 : wc.cell? ⟨gb181, 3, none⟩ = some (.int .i64 a0_3) := (blk_cell BK181.out 3).trans rfl
                            have hfz107_0 := blk_frozen BK181.out 0
                            have hfz107_1 := blk_frozen BK181.out 1
                            have hfz107_2 := blk_frozen BK181.out 2
                            have hfz107_3 := blk_frozen BK181.out 3
                            go_wp2_with (first | (go_at_call 15; (with_reducible refine (lay_Size.calls a0_0 a0_1 a0_2 a0_3 t194 _ A103.out).mono ?_); (try clear A103); rintro e w108 ⟨rfl, hb⟩; have n0_ := Aside0.mk (blk_below (g := gb181) (o := .cells #[.int .i64 a0_0, .int .i64 a0_1, .int .i64 a0_2, .int .i64 a0_3] 23 (0, 0)) (by (with_reducible repeat (first | refine blk_drewN ?_ _ | refine blk_drew ?_ | refine blk_alloc ?_ _)); exact BK181.out) hb); have n1_ := Aside0.mk (below_step (by repeat (first | (with_reducible first | exact HB.out | apply below_alloc | apply pw_below_drewN | apply below_drew1 | refine below_set ?_ GE181.out) | exact HB.out)) hb); clear BK181; clear HB; have BK181 := n0_; have HB := n1_; clear n0_ n1_; (try clear hb); (try clear hb2); (try clear hk); (try clear hi); have hcz109_0 : w108.cell? ⟨gb181, 0, none⟩ = some (.int .i64 a0_0) := (blk_cell BK181.out 0).trans rfl; have hcz109_1 : w108.cell? ⟨gb181, 1, none⟩ = some (.int .i64 a0_1) := (blk_cell BK181.out 1).trans rfl; have hcz109_2 : w108.cell? ⟨gb181, 2, none⟩ = some (.int .i64 a0_2) := (blk_cell BK181.out 2).trans rfl; have hcz109_3 : w108.cell? ⟨gb181, 3, none⟩ = some (.int .i64 a0_3) := (blk_cell BK181.out 3).trans rfl; have hfz109_0 := blk_frozen BK181.out 0; have hfz109_1 := blk_frozen BK181.out 1; have hfz109_2 := blk_frozen BK181.out 2; have hfz109_3 := blk_frozen BK181.out 3) | (go_at_call 15; (with_reducible refine (lay_Size.calls a0_0 a0_1 a0_2 a0_3 t195 _ A106.out).mono ?_); (try clear A106); rintro e w110 ⟨rfl, hb⟩; have n0_ := Aside0.mk (blk_below (g := gb181) (o := .cells #[.int .i64 a0_0, .int .i64 a0_1, .int .i64 a0_2, .int .i64 a0_3] 23 (0, 0)) (by (with_reducible repeat (first | refine blk_drewN ?_ _ | refine blk_drew ?_ | refine blk_alloc ?_ _)); exact BK181.out) hb); have n1_ := Aside0.mk (below_step (by repeat (first | (with_reducible first | exact HB.out | apply below_alloc | apply pw_below_drewN | apply below_drew1 | refine below_set ?_ GE181.out) | exact HB.out)) hb); clear BK181; clear HB; have BK181 := n0_; have HB := n1_; clear n0_ n1_; (try clear hb); (try clear hb2); (try clear hk); (try clear hi)))
                            repeat (go_quiet (first | (go_at_call 15; (with_reducible refine (lay_Size.calls a0_0 a0_1 a0_2 a0_3 t194 _ A103.out).mono ?_); (try clear A103); rintro e w108 ⟨rfl, hb⟩; have n0_ := Aside0.mk (blk_below (g := gb181) (o := .cells #[.int .i64 a0_0, .int .i64 a0_1, .int .i64 a0_2, .int .i64 a0_3] 23 (0, 0)) (by (with_reducible repeat (first | refine blk_drewN ?_ _ | refine blk_drew ?_ | refine blk_alloc ?_ _)); exact BK181.out) hb); have n1_ := Aside0.mk (below_step (by repeat (first | (with_reducible first | exact HB.out | apply below_alloc | apply pw_below_drewN | apply below_drew1 | refine below_set ?_ GE181.out) | exact HB.out)) hb); clear BK181; clear HB; have BK181 := n0_; have HB := n1_; clear n0_ n1_; (try clear hb); (try clear hb2); (try clear hk); (try clear hi); have hcz109_0 : w108.cell? ⟨gb181, 0, none⟩ = some (.int .i64 a0_0) := (blk_cell BK181.out 0).trans rfl; have hcz109_1 : w108.cell? ⟨gb181, 1, none⟩ = some (.int .i64 a0_1) := (blk_cell BK181.out 1).trans rfl; have hcz109_2 : w108.cell? ⟨gb181, 2, none⟩ = some (.int .i64 a0_2) := (blk_cell BK181.out 2).trans rfl; have hcz109_3 : w108.cell? ⟨gb181, 3, none⟩ = some (.int .i64 a0_3) := (blk_cell BK181.out 3).trans rfl; have hfz109_0 := blk_frozen BK181.out 0; have hfz109_1 := blk_frozen BK181.out 1; have hfz109_2 := blk_frozen BK181.out 2; have hfz109_3 := blk_frozen BK181.out 3) | (go_at_call 15; (with_reducible refine (lay_Size.calls a0_0 a0_1 a0_2 a0_3 t195 _ A106.out).mono ?_); (try clear A106); rintro e w110 ⟨rfl, hb⟩; have n0_ := Aside0.mk (blk_below (g := gb181) (o := .cells #[.int .i64 a0_0, .int .i64 a0_1, .int .i64 a0_2, .int .i64 a0_3] 23 (0, 0)) (by (with_reducible repeat (first | refine blk_drewN ?_ _ | refine blk_drew ?_ | refine blk_alloc ?_ _)); exact BK181.out) hb); have n1_ := Aside0.mk (below_step (by repeat (first | (with_reducible first | exact HB.out | apply below_alloc | apply pw_below_drewN | apply below_drew1 | refine below_set ?_ GE181.out) | exact HB.out)) hb); clear BK181; clear HB; have BK181 := n0_; have HB := n1_; clear n0_ n1_; (try clear hb); (try clear hb2); (try clear hk); (try clear hi))); try go_wp2_with (first | (go_at_call 15; (with_reducible refine (lay_Size.calls a0_0 a0_1 a0_2 a0_3 t194 _ A103.out).mono ?_); (try clear A103); rintro e w108 ⟨rfl, hb⟩; have n0_ := Aside0.mk (blk_below (g := gb181) (o := .cells #[.int .i64 a0_0, .int .i64 a0_1, .int .i64 a0_2, .int .i64 a0_3] 23 (0, 0)) (by (with_reducible repeat (first | refine blk_drewN ?_ _ | refine blk_drew ?_ | refine blk_alloc ?_ _)); exact BK181.out) hb); have n1_ := Aside0.mk (below_step (by repeat (first | (with_reducible first | exact HB.out | apply below_alloc | apply pw_below_drewN | apply below_drew1 | refine below_set ?_ GE181.out) | exact HB.out)) hb); clear BK181; clear HB; have BK181 := n0_; have HB := n1_; clear n0_ n1_; (try clear hb); (try clear hb2); (try clear hk); (try clear hi); have hcz109_0 : w108.cell? ⟨gb181, 0, none⟩ = some (.int .i64 a0_0) := (blk_cell BK181.out 0).trans rfl; have hcz109_1 : w108.cell? ⟨gb181, 1, none⟩ = some (.int .i64 a0_1) := (blk_cell BK181.out 1).trans rfl; have hcz109_2 : w108.cell? ⟨gb181, 2, none⟩ = some (.int .i64 a0_2) := (blk_cell BK181.out 2).trans rfl; have hcz109_3 : w108.cell? ⟨gb181, 3, none⟩ = some (.int .i64 a0_3) := (blk_cell BK181.out 3).trans rfl; have hfz109_0 := blk_frozen BK181.out 0; have hfz109_1 := blk_frozen BK181.out 1; have hfz109_2 := blk_frozen BK181.out 2; have hfz109_3 := blk_frozen BK181.out 3) | (go_at_call 15; (with_reducible refine (lay_Size.calls a0_0 a0_1 a0_2 a0_3 t195 _ A106.out).mono ?_); (try clear A106); rintro e w110 ⟨rfl, hb⟩; have n0_ := Aside0.mk (blk_below (g := gb181) (o := .cells #[.int .i64 a0_0, .int .i64 a0_1, .int .i64 a0_2, .int .i64 a0_3] 23 (0, 0)) (by (with_reducible repeat (first | refine blk_drewN ?_ _ | refine blk_drew ?_ | refine blk_alloc ?_ _)); exact BK181.out) hb); have n1_ := Aside0.mk (below_step (by repeat (first | (with_reducible first | exact HB.out | apply below_alloc | apply pw_below_drewN | apply below_drew1 | refine below_set ?_ GE181.out) | exact HB.out)) hb); clear BK181; clear HB; have BK181 := n0_; have HB := n1_; clear n0_ n1_; (try clear hb); (try clear hb2); (try clear hk); (try clear hi))))
                            go_ret
                            exact ⟨by first | rfl | (simp [errW_none, errW_some] <;> rfl) | (simp [*, errW_none, errW_some] <;> rfl), by repeat (first | (with_reducible first | exact HB.out | apply below_alloc | apply pw_below_drewN | apply below_drew1 | refine below_set ?_ GE181.out) | exact HB.out)⟩
                          · rw [if_neg c105] at H
                            have c105b0 : decide (6 ≤ t185) = false := decide_eq_false c105
                            clear c105
                            exact absurd (H.trans (congrArg some hr_.out)) (by simp)
                        · rw [if_neg c104] at H
                          have c104b0 : decide (t184 < t194) = false := decide_eq_false c104
                          clear c104
                          exact absurd (H.trans (congrArg some hr_.out)) (by simp)
                      · rw [if_neg c102] at H
                        have c102b0 : decide (6 ≤ t184) = false := decide_eq_false c102
                        clear c102
                        exact absurd (H.trans (congrArg some hr_.out)) (by simp)
                    · rw [if_neg c101] at H
                      have c101b0 : ((t184 == t185) == ((Int.tmod a3 x18_44) == (Int.tmod a6 x18_44))) = false := by simpa using c101
                      (try (have c101b1 : decide ((t184 == t185) = ((Int.tmod a3 x18_44) == (Int.tmod a6 x18_44))) = false := by simpa using c101))
                      (try (have c101b2 : ((t184 == t185) == ((Int.tmod a3 x18_44) == (Int.tmod a6 x18_44))) = false := by simpa using c101))
                      (try (have c101b3 : ¬ ((t184 == t185) = ((Int.tmod a3 x18_44) == (Int.tmod a6 x18_44))) := by simpa using c101))
                      clear c101
                      exact absurd (H.trans (congrArg some hr_.out)) (by simp)
                · rw [if_neg c99] at H
                  have c99b0 : decide (a1 < 2) = false := decide_eq_false c99
                  clear c99
                  by_cases c111 : a2 = a5
                  · rw [if_pos c111] at H
                    have c111b0 : (a2 == a5) = true := beq_iff_eq.mpr c111
                    have c111b1 : (a2 != a5) = false := bne_eq_false_iff_eq.mpr c111
                    clear c111
                    by_cases c112 : x18_44 = 0
                    · rw [if_pos c112] at H
                      exact absurd H (by simp)
                    · rw [if_neg c112] at H
                      have c112b0 : (x18_44 == 0) = false := beq_eq_false_iff_ne.mpr c112
                      have c112b1 : (x18_44 != 0) = true := bne_iff_ne.mpr c112
                      by_cases c113 : ((t184 == t185) == ((Int.tmod a3 x18_44) == (Int.tmod a6 x18_44))) = true
                      · rw [if_pos c113] at H
                        have c113b0 : ((t184 == t185) == ((Int.tmod a3 x18_44) == (Int.tmod a6 x18_44))) = true := c113
                        (try (have c113b1 : decide ((t184 == t185) = ((Int.tmod a3 x18_44) == (Int.tmod a6 x18_44))) = true := by simpa using c113))
                        (try (have c113b2 : ((t184 == t185) == ((Int.tmod a3 x18_44) == (Int.tmod a6 x18_44))) = true := by simpa using c113))
                        clear c113
                        by_cases c114 : t184 ≥ 6
                        · rw [if_pos c114] at H
                          have c114b0 : decide (6 ≤ t184) = true := decide_eq_true c114
                          clear c114
                          replace H := Option.bind_eq_some_iff.mp H
                          obtain ⟨t196, A1150, H⟩ := H
                          replace H : (if t184 < t196 then (if t185 ≥ 6 then ((lay_Size.f a0_0 a0_1 a0_2 a0_3).bind fun t197 => (some (decide (t185 < t197)))) else (some false)) else (some false)) = some r := H
                          have A115 := Aside0.mk A1150
                          clear A1150
                          by_cases c116 : t184 < t196
                          · rw [if_pos c116] at H
                            have c116b0 : decide (t184 < t196) = true := decide_eq_true c116
                            clear c116
                            by_cases c117 : t185 ≥ 6
                            · rw [if_pos c117] at H
                              have c117b0 : decide (6 ≤ t185) = true := decide_eq_true c117
                              clear c117
                              replace H := Option.bind_eq_some_iff.mp H
                              obtain ⟨t197, A1180, H⟩ := H
                              replace H : (some (decide (t185 < t197))) = some r := H
                              have A118 := Aside0.mk A1180
                              clear A1180
                              obtain rfl := Option.some.inj H
                              clear hr_
                              have hcz119_0 : wc.cell? ⟨gb181, 0, none⟩ = some (.int .i64 a0_0) := (blk_cell BK181.out 0).trans rfl
                              have hcz119_1 : wc.cell? ⟨gb181, 1, none⟩ = some (.int .i64 a0_1) := (blk_cell BK181.out 1).trans rfl
                              have hcz119_2 : wc.cell? ⟨gb181, 2, none⟩ = some (.int .i64 a0_2) := (blk_cell BK181.out 2).trans rfl
                              have hcz119_3 : wc.cell? ⟨gb181, 3, none⟩ = some (.int .i64 a0_3) := (blk_cell BK181.out 3).trans rfl
                              have hfz119_0 := blk_frozen BK181.out 0
                              have hfz119_1 := blk_frozen BK181.out 1
                              have hfz119_2 := blk_frozen BK181.out 2
                              have hfz119_3 := blk_frozen BK181.out 3
                              go_wp2_with (first | (go_at_call 15; (with_reducible refine (lay_Size.calls a0_0 a0_1 a0_2 a0_3 t196 _ A115.out).mono ?_); (try clear A115); rintro e w120 ⟨rfl, hb⟩; have n0_ := Aside0.mk (blk_below (g := gb181) (o := .cells #[.int .i64 a0_0, .int .i64 a0_1, .int .i64 a0_2, .int .i64 a0_3] 23 (0, 0)) (by (with_reducible repeat (first | refine blk_drewN ?_ _ | refine blk_drew ?_ | refine blk_alloc ?_ _)); exact BK181.out) hb); have n1_ := Aside0.mk (below_step (by repeat (first | (with_reducible first | exact HB.out | apply below_alloc | apply pw_below_drewN | apply below_drew1 | refine below_set ?_ GE181.out) | exact HB.out)) hb); clear BK181; clear HB; have BK181 := n0_; have HB := n1_; clear n0_ n1_; (try clear hb); (try clear hb2); (try clear hk); (try clear hi); have hcz121_0 : w120.cell? ⟨gb181, 0, none⟩ = some (.int .i64 a0_0) := (blk_cell BK181.out 0).trans rfl; have hcz121_1 : w120.cell? ⟨gb181, 1, none⟩ = some (.int .i64 a0_1) := (blk_cell BK181.out 1).trans rfl; have hcz121_2 : w120.cell? ⟨gb181, 2, none⟩ = some (.int .i64 a0_2) := (blk_cell BK181.out 2).trans rfl; have hcz121_3 : w120.cell? ⟨gb181, 3, none⟩ = some (.int .i64 a0_3) := (blk_cell BK181.out 3).trans rfl; have hfz121_0 := blk_frozen BK181.out 0; have hfz121_1 := blk_frozen BK181.out 1; have hfz121_2 := blk_frozen BK181.out 2; have hfz121_3 := blk_frozen BK181.out 3) | (go_at_call 15; (with_reducible refine (lay_Size.calls a0_0 a0_1 a0_2 a0_3 t197 _ A118.out).mono ?_); (try clear A118); rintro e w122 ⟨rfl, hb⟩; have n0_ := Aside0.mk (blk_below (g := gb181) (o := .cells #[.int .i64 a0_0, .int .i64 a0_1, .int .i64 a0_2, .int .i64 a0_3] 23 (0, 0)) (by (with_reducible repeat (first | refine blk_drewN ?_ _ | refine blk_drew ?_ | refine blk_alloc ?_ _)); exact BK181.out) hb); have n1_ := Aside0.mk (below_step (by repeat (first | (with_reducible first | exact HB.out | apply below_alloc | apply pw_below_drewN | apply below_drew1 | refine below_set ?_ GE181.out) | exact HB.out)) hb); clear BK181; clear HB; have BK181 := n0_; have HB := n1_; clear n0_ n1_; (try clear hb); (try clear hb2); (try clear hk); (try clear hi)))
                              repeat (go_quiet (first | (go_at_call 15; (with_reducible refine (lay_Size.calls a0_0 a0_1 a0_2 a0_3 t196 _ A115.out).mono ?_); (try clear A115); rintro e w120 ⟨rfl, hb⟩; have n0_ := Aside0.mk (blk_below (g := gb181) (o := .cells #[.int .i64 a0_0, .int .i64 a0_1, .int .i64 a0_2, .int .i64 a0_3] 23 (0, 0)) (by (with_reducible repeat (first | refine blk_drewN ?_ _ | refine blk_drew ?_ | refine blk_alloc ?_ _)); exact BK181.out) hb); have n1_ := Aside0.mk (below_step (by repeat (first | (with_reducible first | exact HB.out | apply below_alloc | apply pw_below_drewN | apply below_drew1 | refine below_set ?_ GE181.out) | exact HB.out)) hb); clear BK181; clear HB; have BK181 := n0_; have HB := n1_; clear n0_ n1_; (try clear hb); (try clear hb2); (try clear hk); (try clear hi); have hcz121_0 : w120.cell? ⟨gb181, 0, none⟩ = some (.int .i64 a0_0) := (blk_cell BK181.out 0).trans rfl; have hcz121_1 : w120.cell? ⟨gb181, 1, none⟩ = some (.int .i64 a0_1) := (blk_cell BK181.out 1).trans rfl; have hcz121_2 : w120.cell? ⟨gb181, 2, none⟩ = some (.int .i64 a0_2) := (blk_cell BK181.out 2).trans rfl; have hcz121_3 : w120.cell? ⟨gb181, 3, none⟩ = some (.int .i64 a0_3) := (blk_cell BK181.out 3).trans rfl; have hfz121_0 := blk_frozen BK181.out 0; have hfz121_1 := blk_frozen BK181.out 1; have hfz121_2 := blk_frozen BK181.out 2; have hfz121_3 := blk_frozen BK181.out 3) | (go_at_call 15; (with_reducible refine (lay_Size.calls a0_0 a0_1 a0_2 a0_3 t197 _ A118.out).mono ?_); (try clear A118); rintro e w122 ⟨rfl, hb⟩; have n0_ := Aside0.mk (blk_below (g := gb181) (o := .cells #[.int .i64 a0_0, .int .i64 a0_1, .int .i64 a0_2, .int .i64 a0_3] 23 (0, 0)) (by (with_reducible repeat (first | refine blk_drewN ?_ _ | refine blk_drew ?_ | refine blk_alloc ?_ _)); exact BK181.out) hb); have n1_ := Aside0.mk (below_step (by repeat (first | (with_reducible first | exact HB.out | apply below_alloc | apply pw_below_drewN | apply below_drew1 | refine below_set ?_ GE181.out) | exact HB.out)) hb); clear BK181; clear HB; have BK181 := n0_; have HB := n1_; clear n0_ n1_; (try clear hb); (try clear hb2); (try clear hk); (try clear hi))); try go_wp2_with (first | (go_at_call 15; (with_reducible refine (lay_Size.calls a0_0 a0_1 a0_2 a0_3 t196 _ A115.out).mono ?_); (try clear A115); rintro e w120 ⟨rfl, hb⟩; have n0_ := Aside0.mk (blk_below (g := gb181) (o := .cells #[.int .i64 a0_0, .int .i64 a0_1, .int .i64 a0_2, .int .i64 a0_3] 23 (0, 0)) (by (with_reducible repeat (first | refine blk_drewN ?_ _ | refine blk_drew ?_ | refine blk_alloc ?_ _)); exact BK181.out) hb); have n1_ := Aside0.mk (below_step (by repeat (first | (with_reducible first | exact HB.out | apply below_alloc | apply pw_below_drewN | apply below_drew1 | refine below_set ?_ GE181.out) | exact HB.out)) hb); clear BK181; clear HB; have BK181 := n0_; have HB := n1_; clear n0_ n1_; (try clear hb); (try clear hb2); (try clear hk); (try clear hi); have hcz121_0 : w120.cell? ⟨gb181, 0, none⟩ = some (.int .i64 a0_0) := (blk_cell BK181.out 0).trans rfl; have hcz121_1 : w120.cell? ⟨gb181, 1, none⟩ = some (.int .i64 a0_1) := (blk_cell BK181.out 1).trans rfl; have hcz121_2 : w120.cell? ⟨gb181, 2, none⟩ = some (.int .i64 a0_2) := (blk_cell BK181.out 2).trans rfl; have hcz121_3 : w120.cell? ⟨gb181, 3, none⟩ = some (.int .i64 a0_3) := (blk_cell BK181.out 3).trans rfl; have hfz121_0 := blk_frozen BK181.out 0; have hfz121_1 := blk_frozen BK181.out 1; have hfz121_2 := blk_frozen BK181.out 2; have hfz121_3 := blk_frozen BK181.out 3) | (go_at_call 15; (with_reducible refine (lay_Size.calls a0_0 a0_1 a0_2 a0_3 t197 _ A118.out).mono ?_); (try clear A118); rintro e w122 ⟨rfl, hb⟩; have n0_ := Aside0.mk (blk_below (g := gb181) (o := .cells #[.int .i64 a0_0, .int .i64 a0_1, .int .i64 a0_2, .int .i64 a0_3] 23 (0, 0)) (by (with_reducible repeat (first | refine blk_drewN ?_ _ | refine blk_drew ?_ | refine blk_alloc ?_ _)); exact BK181.out) hb); have n1_ := Aside0.mk (below_step (by repeat (first | (with_reducible first | exact HB.out | apply below_alloc | apply pw_below_drewN | apply below_drew1 | refine below_set ?_ GE181.out) | exact HB.out)) hb); clear BK181; clear HB; have BK181 := n0_; have HB := n1_; clear n0_ n1_; (try clear hb); (try clear hb2); (try clear hk); (try clear hi))))
                              go_ret
                              exact ⟨by first | rfl | (simp [errW_none, errW_some] <;> rfl) | (simp [*, errW_none, errW_some] <;> rfl), by repeat (first | (with_reducible first | exact HB.out | apply below_alloc | apply pw_below_drewN | apply below_drew1 | refine below_set ?_ GE181.out) | exact HB.out)⟩
                            · rw [if_neg c117] at H
                              have c117b0 : decide (6 ≤ t185) = false := decide_eq_false c117
                              clear c117
                              exact absurd (H.trans (congrArg some hr_.out)) (by simp)
                          · rw [if_neg c116] at H
                            have c116b0 : decide (t184 < t196) = false := decide_eq_false c116
                            clear c116
                            exact absurd (H.trans (congrArg some hr_.out)) (by simp)
                        · rw [if_neg c114] at H
                          have c114b0 : decide (6 ≤ t184) = false := decide_eq_false c114
                          clear c114
                          exact absurd (H.trans (congrArg some hr_.out)) (by simp)
                      · rw [if_neg c113] at H
                        have c113b0 : ((t184 == t185) == ((Int.tmod a3 x18_44) == (Int.tmod a6 x18_44))) = false := by simpa using c113
                        (try (have c113b1 : decide ((t184 == t185) = ((Int.tmod a3 x18_44) == (Int.tmod a6 x18_44))) = false := by simpa using c113))
                        (try (have c113b2 : ((t184 == t185) == ((Int.tmod a3 x18_44) == (Int.tmod a6 x18_44))) = false := by simpa using c113))
                        (try (have c113b3 : ¬ ((t184 == t185) = ((Int.tmod a3 x18_44) == (Int.tmod a6 x18_44))) := by simpa using c113))
                        clear c113
                        exact absurd (H.trans (congrArg some hr_.out)) (by simp)
                  · rw [if_neg c111] at H
                    have c111b0 : (a2 == a5) = false := beq_eq_false_iff_ne.mpr c111
                    have c111b1 : (a2 != a5) = true := bne_iff_ne.mpr c111
                    by_cases c123 : ((t184 == t185) == false) = true
                    · rw [if_pos c123] at H
                      have c123b0 : ((t184 == t185) == false) = true := c123
                      (try (have c123b1 : decide ((t184 == t185) = false) = true := by simpa using c123))
                      (try (have c123b2 : ((t184 == t185) == false) = true := by simpa using c123))
                      clear c123
                      by_cases c124 : t184 ≥ 6
                      · rw [if_pos c124] at H
                        have c124b0 : decide (6 ≤ t184) = true := decide_eq_true c124
                        clear c124
                        replace H := Option.bind_eq_some_iff.mp H
                        obtain ⟨t198, A1250, H⟩ := H
                        replace H : (if t184 < t198 then (if t185 ≥ 6 then ((lay_Size.f a0_0 a0_1 a0_2 a0_3).bind fun t199 => (some (decide (t185 < t199)))) else (some false)) else (some false)) = some r := H
                        have A125 := Aside0.mk A1250
                        clear A1250
                        by_cases c126 : t184 < t198
                        · rw [if_pos c126] at H
                          have c126b0 : decide (t184 < t198) = true := decide_eq_true c126
                          clear c126
                          by_cases c127 : t185 ≥ 6
                          · rw [if_pos c127] at H
                            have c127b0 : decide (6 ≤ t185) = true := decide_eq_true c127
                            clear c127
                            replace H := Option.bind_eq_some_iff.mp H
                            obtain ⟨t199, A1280, H⟩ := H
                            replace H : (some (decide (t185 < t199))) = some r := H
                            have A128 := Aside0.mk A1280
                            clear A1280
                            obtain rfl := Option.some.inj H
                            clear hr_
                            have hcz129_0 : wc.cell? ⟨gb181, 0, none⟩ = some (.int .i64 a0_0) := (blk_cell BK181.out 0).trans rfl
                            have hcz129_1 : wc.cell? ⟨gb181, 1, none⟩ = some (.int .i64 a0_1) := (blk_cell BK181.out 1).trans rfl
                            have hcz129_2 : wc.cell? ⟨gb181, 2, none⟩ = some (.int .i64 a0_2) := (blk_cell BK181.out 2).trans rfl
                            have hcz129_3 : wc.cell? ⟨gb181, 3, none⟩ = some (.int .i64 a0_3) := (blk_cell BK181.out 3).trans rfl
                            have hfz129_0 := blk_frozen BK181.out 0
                            have hfz129_1 := blk_frozen BK181.out 1
                            have hfz129_2 := blk_frozen BK181.out 2
                            have hfz129_3 := blk_frozen BK181.out 3
                            go_wp2_with (first | (go_at_call 15; (with_reducible refine (lay_Size.calls a0_0 a0_1 a0_2 a0_3 t198 _ A125.out).mono ?_); (try clear A125); rintro e w130 ⟨rfl, hb⟩; have n0_ := Aside0.mk (blk_below (g := gb181) (o := .cells #[.int .i64 a0_0, .int .i64 a0_1, .int .i64 a0_2, .int .i64 a0_3] 23 (0, 0)) (by (with_reducible repeat (first | refine blk_drewN ?_ _ | refine blk_drew ?_ | refine blk_alloc ?_ _)); exact BK181.out) hb); have n1_ := Aside0.mk (below_step (by repeat (first | (with_reducible first | exact HB.out | apply below_alloc | apply pw_below_drewN | apply below_drew1 | refine below_set ?_ GE181.out) | exact HB.out)) hb); clear BK181; clear HB; have BK181 := n0_; have HB := n1_; clear n0_ n1_; (try clear hb); (try clear hb2); (try clear hk); (try clear hi); have hcz131_0 : w130.cell? ⟨gb181, 0, none⟩ = some (.int .i64 a0_0) := (blk_cell BK181.out 0).trans rfl; have hcz131_1 : w130.cell? ⟨gb181, 1, none⟩ = some (.int .i64 a0_1) := (blk_cell BK181.out 1).trans rfl; have hcz131_2 : w130.cell? ⟨gb181, 2, none⟩ = some (.int .i64 a0_2) := (blk_cell BK181.out 2).trans rfl; have hcz131_3 : w130.cell? ⟨gb181, 3, none⟩ = some (.int .i64 a0_3) := (blk_cell BK181.out 3).trans rfl; have hfz131_0 := blk_frozen BK181.out 0; have hfz131_1 := blk_frozen BK181.out 1; have hfz131_2 := blk_frozen BK181.out 2; have hfz131_3 := blk_frozen BK181.out 3) | (go_at_call 15; (with_reducible refine (lay_Size.calls a0_0 a0_1 a0_2 a0_3 t199 _ A128.out).mono ?_); (try clear A128); rintro e w132 ⟨rfl, hb⟩; have n0_ := Aside0.mk (blk_below (g := gb181) (o := .cells #[.int .i64 a0_0, .int .i64 a0_1, .int .i64 a0_2, .int .i64 a0_3] 23 (0, 0)) (by (with_reducible repeat (first | refine blk_drewN ?_ _ | refine blk_drew ?_ | refine blk_alloc ?_ _)); exact BK181.out) hb); have n1_ := Aside0.mk (below_step (by repeat (first | (with_reducible first | exact HB.out | apply below_alloc | apply pw_below_drewN | apply below_drew1 | refine below_set ?_ GE181.out) | exact HB.out)) hb); clear BK181; clear HB; have BK181 := n0_; have HB := n1_; clear n0_ n1_; (try clear hb); (try clear hb2); (try clear hk); (try clear hi)))
                            repeat (go_quiet (first | (go_at_call 15; (with_reducible refine (lay_Size.calls a0_0 a0_1 a0_2 a0_3 t198 _ A125.out).mono ?_); (try clear A125); rintro e w130 ⟨rfl, hb⟩; have n0_ := Aside0.mk (blk_below (g := gb181) (o := .cells #[.int .i64 a0_0, .int .i64 a0_1, .int .i64 a0_2, .int .i64 a0_3] 23 (0, 0)) (by (with_reducible repeat (first | refine blk_drewN ?_ _ | refine blk_drew ?_ | refine blk_alloc ?_ _)); exact BK181.out) hb); have n1_ := Aside0.mk (below_step (by repeat (first | (with_reducible first | exact HB.out | apply below_alloc | apply pw_below_drewN | apply below_drew1 | refine below_set ?_ GE181.out) | exact HB.out)) hb); clear BK181; clear HB; have BK181 := n0_; have HB := n1_; clear n0_ n1_; (try clear hb); (try clear hb2); (try clear hk); (try clear hi); have hcz131_0 : w130.cell? ⟨gb181, 0, none⟩ = some (.int .i64 a0_0) := (blk_cell BK181.out 0).trans rfl; have hcz131_1 : w130.cell? ⟨gb181, 1, none⟩ = some (.int .i64 a0_1) := (blk_cell BK181.out 1).trans rfl; have hcz131_2 : w130.cell? ⟨gb181, 2, none⟩ = some (.int .i64 a0_2) := (blk_cell BK181.out 2).trans rfl; have hcz131_3 : w130.cell? ⟨gb181, 3, none⟩ = some (.int .i64 a0_3) := (blk_cell BK181.out 3).trans rfl; have hfz131_0 := blk_frozen BK181.out 0; have hfz131_1 := blk_frozen BK181.out 1; have hfz131_2 := blk_frozen BK181.out 2; have hfz131_3 := blk_frozen BK181.out 3) | (go_at_call 15; (with_reducible refine (lay_Size.calls a0_0 a0_1 a0_2 a0_3 t199 _ A128.out).mono ?_); (try clear A128); rintro e w132 ⟨rfl, hb⟩; have n0_ := Aside0.mk (blk_below (g := gb181) (o := .cells #[.int .i64 a0_0, .int .i64 a0_1, .int .i64 a0_2, .int .i64 a0_3] 23 (0, 0)) (by (with_reducible repeat (first | refine blk_drewN ?_ _ | refine blk_drew ?_ | refine blk_alloc ?_ _)); exact BK181.out) hb); have n1_ := Aside0.mk (below_step (by repeat (first | (with_reducible first | exact HB.out | apply below_alloc | apply pw_below_drewN | apply below_drew1 | refine below_set ?_ GE181.out) | exact HB.out)) hb); clear BK181; clear HB; have BK181 := n0_; have HB := n1_; clear n0_ n1_; (try clear hb); (try clear hb2); (try clear hk); (try clear hi))); try go_wp2_with (first | (go_at_call 15; (with_reducible refine (lay_Size.calls a0_0 a0_1 a0_2 a0_3 t198 _ A125.out).mono ?_); (try clear A125); rintro e w130 ⟨rfl, hb⟩; have n0_ := Aside0.mk (blk_below (g := gb181) (o := .cells #[.int .i64 a0_0, .int .i64 a0_1, .int .i64 a0_2, .int .i64 a0_3] 23 (0, 0)) (by (with_reducible repeat (first | refine blk_drewN ?_ _ | refine blk_drew ?_ | refine blk_alloc ?_ _)); exact BK181.out) hb); have n1_ := Aside0.mk (below_step (by repeat (first | (with_reducible first | exact HB.out | apply below_alloc | apply pw_below_drewN | apply below_drew1 | refine below_set ?_ GE181.out) | exact HB.out)) hb); clear BK181; clear HB; have BK181 := n0_; have HB := n1_; clear n0_ n1_; (try clear hb); (try clear hb2); (try clear hk); (try clear hi); have hcz131_0 : w130.cell? ⟨gb181, 0, none⟩ = some (.int .i64 a0_0) := (blk_cell BK181.out 0).trans rfl; have hcz131_1 : w130.cell? ⟨gb181, 1, none⟩ = some (.int .i64 a0_1) := (blk_cell BK181.out 1).trans rfl; have hcz131_2 : w130.cell? ⟨gb181, 2, none⟩ = some (.int .i64 a0_2) := (blk_cell BK181.out 2).trans rfl; have hcz131_3 : w130.cell? ⟨gb181, 3, none⟩ = some (.int .i64 a0_3) := (blk_cell BK181.out 3).trans rfl; have hfz131_0 := blk_frozen BK181.out 0; have hfz131_1 := blk_frozen BK181.out 1; have hfz131_2 := blk_frozen BK181.out 2; have hfz131_3 := blk_frozen BK181.out 3) | (go_at_call 15; (with_reducible refine (lay_Size.calls a0_0 a0_1 a0_2 a0_3 t199 _ A128.out).mono ?_); (try clear A128); rintro e w132 ⟨rfl, hb⟩; have n0_ := Aside0.mk (blk_below (g := gb181) (o := .cells #[.int .i64 a0_0, .int .i64 a0_1, .int .i64 a0_2, .int .i64 a0_3] 23 (0, 0)) (by (with_reducible repeat (first | refine blk_drewN ?_ _ | refine blk_drew ?_ | refine blk_alloc ?_ _)); exact BK181.out) hb); have n1_ := Aside0.mk (below_step (by repeat (first | (with_reducible first | exact HB.out | apply below_alloc | apply pw_below_drewN | apply below_drew1 | refine below_set ?_ GE181.out) | exact HB.out)) hb); clear BK181; clear HB; have BK181 := n0_; have HB := n1_; clear n0_ n1_; (try clear hb); (try clear hb2); (try clear hk); (try clear hi))))
                            go_ret
                            exact ⟨by first | rfl | (simp [errW_none, errW_some] <;> rfl) | (simp [*, errW_none, errW_some] <;> rfl), by repeat (first | (with_reducible first | exact HB.out | apply below_alloc | apply pw_below_drewN | apply below_drew1 | refine below_set ?_ GE181.out) | exact HB.out)⟩
                          · rw [if_neg c127] at H
                            have c127b0 : decide (6 ≤ t185) = false := decide_eq_false c127
                            clear c127
                            exact absurd (H.trans (congrArg some hr_.out)) (by simp)
                        · rw [if_neg c126] at H
                          have c126b0 : decide (t184 < t198) = false := decide_eq_false c126
                          clear c126
                          exact absurd (H.trans (congrArg some hr_.out)) (by simp)
                      · rw [if_neg c124] at H
                        have c124b0 : decide (6 ≤ t184) = false := decide_eq_false c124
                        clear c124
                        exact absurd (H.trans (congrArg some hr_.out)) (by simp)
                    · rw [if_neg c123] at H
                      have c123b0 : ((t184 == t185) == false) = false := by simpa using c123
                      (try (have c123b1 : decide ((t184 == t185) = false) = false := by simpa using c123))
                      (try (have c123b2 : ((t184 == t185) == false) = false := by simpa using c123))
                      (try (have c123b3 : ¬ ((t184 == t185) = false) := by simpa using c123))
                      clear c123
                      exact absurd (H.trans (congrArg some hr_.out)) (by simp)
              · rw [if_neg c98] at H
                have c98b0 : (a1 == a4) = false := beq_eq_false_iff_ne.mpr c98
                have c98b1 : (a1 != a4) = true := bne_iff_ne.mpr c98
                by_cases c133 : ((t184 == t185) == false) = true
                · rw [if_pos c133] at H
                  have c133b0 : ((t184 == t185) == false) = true := c133
                  (try (have c133b1 : decide ((t184 == t185) = false) = true := by simpa using c133))
                  (try (have c133b2 : ((t184 == t185) == false) = true := by simpa using c133))
                  clear c133
                  by_cases c134 : t184 ≥ 6
                  · rw [if_pos c134] at H
                    have c134b0 : decide (6 ≤ t184) = true := decide_eq_true c134
                    clear c134
                    replace H := Option.bind_eq_some_iff.mp H
                    obtain ⟨t200, A1350, H⟩ := H
                    replace H : (if t184 < t200 then (if t185 ≥ 6 then ((lay_Size.f a0_0 a0_1 a0_2 a0_3).bind fun t201 => (some (decide (t185 < t201)))) else (some false)) else (some false)) = some r := H
                    have A135 := Aside0.mk A1350
                    clear A1350
                    by_cases c136 : t184 < t200
                    · rw [if_pos c136] at H
                      have c136b0 : decide (t184 < t200) = true := decide_eq_true c136
                      clear c136
                      by_cases c137 : t185 ≥ 6
                      · rw [if_pos c137] at H
                        have c137b0 : decide (6 ≤ t185) = true := decide_eq_true c137
                        clear c137
                        replace H := Option.bind_eq_some_iff.mp H
                        obtain ⟨t201, A1380, H⟩ := H
                        replace H : (some (decide (t185 < t201))) = some r := H
                        have A138 := Aside0.mk A1380
                        clear A1380
                        obtain rfl := Option.some.inj H
                        clear hr_
                        have hcz139_0 : wc.cell? ⟨gb181, 0, none⟩ = some (.int .i64 a0_0) := (blk_cell BK181.out 0).trans rfl
                        have hcz139_1 : wc.cell? ⟨gb181, 1, none⟩ = some (.int .i64 a0_1) := (blk_cell BK181.out 1).trans rfl
                        have hcz139_2 : wc.cell? ⟨gb181, 2, none⟩ = some (.int .i64 a0_2) := (blk_cell BK181.out 2).trans rfl
                        have hcz139_3 : wc.cell? ⟨gb181, 3, none⟩ = some (.int .i64 a0_3) := (blk_cell BK181.out 3).trans rfl
                        have hfz139_0 := blk_frozen BK181.out 0
                        have hfz139_1 := blk_frozen BK181.out 1
                        have hfz139_2 := blk_frozen BK181.out 2
                        have hfz139_3 := blk_frozen BK181.out 3
                        go_wp2_with (first | (go_at_call 15; (with_reducible refine (lay_Size.calls a0_0 a0_1 a0_2 a0_3 t200 _ A135.out).mono ?_); (try clear A135); rintro e w140 ⟨rfl, hb⟩; have n0_ := Aside0.mk (blk_below (g := gb181) (o := .cells #[.int .i64 a0_0, .int .i64 a0_1, .int .i64 a0_2, .int .i64 a0_3] 23 (0, 0)) (by (with_reducible repeat (first | refine blk_drewN ?_ _ | refine blk_drew ?_ | refine blk_alloc ?_ _)); exact BK181.out) hb); have n1_ := Aside0.mk (below_step (by repeat (first | (with_reducible first | exact HB.out | apply below_alloc | apply pw_below_drewN | apply below_drew1 | refine below_set ?_ GE181.out) | exact HB.out)) hb); clear BK181; clear HB; have BK181 := n0_; have HB := n1_; clear n0_ n1_; (try clear hb); (try clear hb2); (try clear hk); (try clear hi); have hcz141_0 : w140.cell? ⟨gb181, 0, none⟩ = some (.int .i64 a0_0) := (blk_cell BK181.out 0).trans rfl; have hcz141_1 : w140.cell? ⟨gb181, 1, none⟩ = some (.int .i64 a0_1) := (blk_cell BK181.out 1).trans rfl; have hcz141_2 : w140.cell? ⟨gb181, 2, none⟩ = some (.int .i64 a0_2) := (blk_cell BK181.out 2).trans rfl; have hcz141_3 : w140.cell? ⟨gb181, 3, none⟩ = some (.int .i64 a0_3) := (blk_cell BK181.out 3).trans rfl; have hfz141_0 := blk_frozen BK181.out 0; have hfz141_1 := blk_frozen BK181.out 1; have hfz141_2 := blk_frozen BK181.out 2; have hfz141_3 := blk_frozen BK181.out 3) | (go_at_call 15; (with_reducible refine (lay_Size.calls a0_0 a0_1 a0_2 a0_3 t201 _ A138.out).mono ?_); (try clear A138); rintro e w142 ⟨rfl, hb⟩; have n0_ := Aside0.mk (blk_below (g := gb181) (o := .cells #[.int .i64 a0_0, .int .i64 a0_1, .int .i64 a0_2, .int .i64 a0_3] 23 (0, 0)) (by (with_reducible repeat (first | refine blk_drewN ?_ _ | refine blk_drew ?_ | refine blk_alloc ?_ _)); exact BK181.out) hb); have n1_ := Aside0.mk (below_step (by repeat (first | (with_reducible first | exact HB.out | apply below_alloc | apply pw_below_drewN | apply below_drew1 | refine below_set ?_ GE181.out) | exact HB.out)) hb); clear BK181; clear HB; have BK181 := n0_; have HB := n1_; clear n0_ n1_; (try clear hb); (try clear hb2); (try clear hk); (try clear hi)))
                        repeat (go_quiet (first | (go_at_call 15; (with_reducible refine (lay_Size.calls a0_0 a0_1 a0_2 a0_3 t200 _ A135.out).mono ?_); (try clear A135); rintro e w140 ⟨rfl, hb⟩; have n0_ := Aside0.mk (blk_below (g := gb181) (o := .cells #[.int .i64 a0_0, .int .i64 a0_1, .int .i64 a0_2, .int .i64 a0_3] 23 (0, 0)) (by (with_reducible repeat (first | refine blk_drewN ?_ _ | refine blk_drew ?_ | refine blk_alloc ?_ _)); exact BK181.out) hb); have n1_ := Aside0.mk (below_step (by repeat (first | (with_reducible first | exact HB.out | apply below_alloc | apply pw_below_drewN | apply below_drew1 | refine below_set ?_ GE181.out) | exact HB.out)) hb); clear BK181; clear HB; have BK181 := n0_; have HB := n1_; clear n0_ n1_; (try clear hb); (try clear hb2); (try clear hk); (try clear hi); have hcz141_0 : w140.cell? ⟨gb181, 0, none⟩ = some (.int .i64 a0_0) := (blk_cell BK181.out 0).trans rfl; have hcz141_1 : w140.cell? ⟨gb181, 1, none⟩ = some (.int .i64 a0_1) := (blk_cell BK181.out 1).trans rfl; have hcz141_2 : w140.cell? ⟨gb181, 2, none⟩ = some (.int .i64 a0_2) := (blk_cell BK181.out 2).trans rfl; have hcz141_3 : w140.cell? ⟨gb181, 3, none⟩ = some (.int .i64 a0_3) := (blk_cell BK181.out 3).trans rfl; have hfz141_0 := blk_frozen BK181.out 0; have hfz141_1 := blk_frozen BK181.out 1; have hfz141_2 := blk_frozen BK181.out 2; have hfz141_3 := blk_frozen BK181.out 3) | (go_at_call 15; (with_reducible refine (lay_Size.calls a0_0 a0_1 a0_2 a0_3 t201 _ A138.out).mono ?_); (try clear A138); rintro e w142 ⟨rfl, hb⟩; have n0_ := Aside0.mk (blk_below (g := gb181) (o := .cells #[.int .i64 a0_0, .int .i64 a0_1, .int .i64 a0_2, .int .i64 a0_3] 23 (0, 0)) (by (with_reducible repeat (first | refine blk_drewN ?_ _ | refine blk_drew ?_ | refine blk_alloc ?_ _)); exact BK181.out) hb); have n1_ := Aside0.mk (below_step (by repeat (first | (with_reducible first | exact HB.out | apply below_alloc | apply pw_below_drewN | apply below_drew1 | refine below_set ?_ GE181.out) | exact HB.out)) hb); clear BK181; clear HB; have BK181 := n0_; have HB := n1_; clear n0_ n1_; (try clear hb); (try clear hb2); (try clear hk); (try clear hi))); try go_wp2_with (first | (go_at_call 15; (with_reducible refine (lay_Size.calls a0_0 a0_1 a0_2 a0_3 t200 _ A135.out).mono ?_); (try clear A135); rintro e w140 ⟨rfl, hb⟩; have n0_ := Aside0.mk (blk_below (g := gb181) (o := .cells #[.int .i64 a0_0, .int .i64 a0_1, .int .i64 a0_2, .int .i64 a0_3] 23 (0, 0)) (by (with_reducible repeat (first | refine blk_drewN ?_ _ | refine blk_drew ?_ | refine blk_alloc ?_ _)); exact BK181.out) hb); have n1_ := Aside0.mk (below_step (by repeat (first | (with_reducible first | exact HB.out | apply below_alloc | apply pw_below_drewN | apply below_drew1 | refine below_set ?_ GE181.out) | exact HB.out)) hb); clear BK181; clear HB; have BK181 := n0_; have HB := n1_; clear n0_ n1_; (try clear hb); (try clear hb2); (try clear hk); (try clear hi); have hcz141_0 : w140.cell? ⟨gb181, 0, none⟩ = some (.int .i64 a0_0) := (blk_cell BK181.out 0).trans rfl; have hcz141_1 : w140.cell? ⟨gb181, 1, none⟩ = some (.int .i64 a0_1) := (blk_cell BK181.out 1).trans rfl; have hcz141_2 : w140.cell? ⟨gb181, 2, none⟩ = some (.int .i64 a0_2) := (blk_cell BK181.out 2).trans rfl; have hcz141_3 : w140.cell? ⟨gb181, 3, none⟩ = some (.int .i64 a0_3) := (blk_cell BK181.out 3).trans rfl; have hfz141_0 := blk_frozen BK181.out 0; have hfz141_1 := blk_frozen BK181.out 1; have hfz141_2 := blk_frozen BK181.out 2; have hfz141_3 := blk_frozen BK181.out 3) | (go_at_call 15; (with_reducible refine (lay_Size.calls a0_0 a0_1 a0_2 a0_3 t201 _ A138.out).mono ?_); (try clear A138); rintro e w142 ⟨rfl, hb⟩; have n0_ := Aside0.mk (blk_below (g := gb181) (o := .cells #[.int .i64 a0_0, .int .i64 a0_1, .int .i64 a0_2, .int .i64 a0_3] 23 (0, 0)) (by (with_reducible repeat (first | refine blk_drewN ?_ _ | refine blk_drew ?_ | refine blk_alloc ?_ _)); exact BK181.out) hb); have n1_ := Aside0.mk (below_step (by repeat (first | (with_reducible first | exact HB.out | apply below_alloc | apply pw_below_drewN | apply below_drew1 | refine below_set ?_ GE181.out) | exact HB.out)) hb); clear BK181; clear HB; have BK181 := n0_; have HB := n1_; clear n0_ n1_; (try clear hb); (try clear hb2); (try clear hk); (try clear hi))))
                        go_ret
                        exact ⟨by first | rfl | (simp [errW_none, errW_some] <;> rfl) | (simp [*, errW_none, errW_some] <;> rfl), by repeat (first | (with_reducible first | exact HB.out | apply below_alloc | apply pw_below_drewN | apply below_drew1 | refine below_set ?_ GE181.out) | exact HB.out)⟩
                      · rw [if_neg c137] at H
                        have c137b0 : decide (6 ≤ t185) = false := decide_eq_false c137
                        clear c137
                        exact absurd (H.trans (congrArg some hr_.out)) (by simp)
                    · rw [if_neg c136] at H
                      have c136b0 : decide (t184 < t200) = false := decide_eq_false c136
                      clear c136
                      exact absurd (H.trans (congrArg some hr_.out)) (by simp)
                  · rw [if_neg c134] at H
                    have c134b0 : decide (6 ≤ t184) = false := decide_eq_false c134
                    clear c134
                    exact absurd (H.trans (congrArg some hr_.out)) (by simp)
                · rw [if_neg c133] at H
                  have c133b0 : ((t184 == t185) == false) = false := by simpa using c133
                  (try (have c133b1 : decide ((t184 == t185) = false) = false := by simpa using c133))
                  (try (have c133b2 : ((t184 == t185) == false) = false := by simpa using c133))
                  (try (have c133b3 : ¬ ((t184 == t185) = false) := by simpa using c133))
                  clear c133
                  exact absurd (H.trans (congrArg some hr_.out)) (by simp)

end Go.Proofs.Ytdglmmpnjbobjaa.QL
