-- Written by inj.py (a program of this session), by the kit's print with functions given by hand. Not trusted: Lean checks it.
import Derived.Test.YtonhjnfhaelfkaaQDx0
import Derived.Test.YtonhjnfhaelfkaaQDx5
import Derived.Test.YtonhjnfhaelfkaaQDx11
import Derived.Test.YtonhjnfhaelfkaaQDx12
namespace Go.Proofs.Ytonhjnfhaelfkaa.QD
open Go.RowKit Go.Proofs.YtonhjnfhaelfkaaW.PrintWords Go.Proofs.YtonhjnfhaelfkaaW.PrintLast Go.Proofs.YtonhjnfhaelfkaaW.PrintMore
attribute [local go_sem] max2_int min2_int max_two min_two max_three min_three max_four min_four   -- for this text's walks alone
set_option linter.unusedVariables false
set_option linter.unusedSimpArgs false

/-! ### poacherlaw05_DrawRounds: function 5 -/
mutual
def poacherlaw05_DrawRounds.j0 : Nat → Int → Int → Int → Int → Bool → Bool → Option (Bool)
  | 0, _, _, _, _, _, _ => none
  | k + 1, x0, x1, x2, x3, x9, x51 => if x51 = true then (some x9) else (poacherlaw05_DrawRounds.l0 k x0 x1 x2 x3 ([] : List (S25)) ([] : List (S25)) 0)
def poacherlaw05_DrawRounds.l0 : Nat → Int → Int → Int → Int → List (S25) → List (S25) → Int → Option (Bool)
  | 0, _, _, _, _, _, _, _ => none
  | k + 1, x0, x1, x2, x3, x10, x11, x12 => if x12 < x2 then ((draw_Round.f k x0 x1 (IntKind.u64.wrap (x12))).bind fun t197 => (if x10.length + t197.length < 5864062014805 then (poacherlaw05_DrawRounds.l1 k x0 x1 x2 x3 (x10 ++ t197) x11 x12 t197 0) else (none))) else (if (x10.length : Int) = (wrap64 (x2 * (wrap64 (x0 + x1)))) then ((draw_Fair.f x10 x0 x1 (wrap64 ((wrap64 (2 * (wrap64 (x0 + x1)))) - 1))).bind fun t194 => (if t194 = true then ((draw_Fair.f x10 x0 x1 (wrap64 (x0 + x1))).bind fun t195 => (if t195 = true then (if (wrap64 (x0 + x1)) = 1 then (some ((x11.length : Int) == (wrap64 (x2 * (wrap64 ((wrap64 (x0 + x1)) - 1)))))) else ((draw_Fair.f x11 x0 x1 1).bind fun t196 => (if t196 = true then (some false) else (some ((x11.length : Int) == (wrap64 (x2 * (wrap64 ((wrap64 (x0 + x1)) - 1))))))))) else (some false))) else (some false))) else (some false))
def poacherlaw05_DrawRounds.l1 : Nat → Int → Int → Int → Int → List (S25) → List (S25) → Int → List (S25) → Int → Option (Bool)
  | 0, _, _, _, _, _, _, _, _, _ => none
  | k + 1, x0, x1, x2, x3, x10, x11, x12, x13, x14 => if x14 < (x13.length : Int) then (if 0 ≤ x14 then (if ((rd_T25 x13 x14).f0) = 0 then (if ((rd_T25 x13 x14).f1) = x3 then (poacherlaw05_DrawRounds.l1 k x0 x1 x2 x3 x10 x11 x12 x13 (wrap64 (x14 + 1))) else (if x11.length < 5864062014805 then (poacherlaw05_DrawRounds.l1 k x0 x1 x2 x3 x10 (x11 ++ [(⟨(rd_T25 x13 x14).f0, (rd_T25 x13 x14).f1, (rd_T25 x13 x14).f2⟩ : S25)]) x12 x13 (wrap64 (x14 + 1))) else (none))) else (if x11.length < 5864062014805 then (poacherlaw05_DrawRounds.l1 k x0 x1 x2 x3 x10 (x11 ++ [(⟨(rd_T25 x13 x14).f0, (rd_T25 x13 x14).f1, (rd_T25 x13 x14).f2⟩ : S25)]) x12 x13 (wrap64 (x14 + 1))) else (none))) else (none)) else (poacherlaw05_DrawRounds.l0 k x0 x1 x2 x3 x10 x11 (wrap64 (x12 + 1)))
end
def poacherlaw05_DrawRounds.f (k : Nat) (a0 : Int) (a1 : Int) (a2 : Int) (a3 : Int) : Option (Bool) := (poacherlaw05_awake.f k).bind fun t193 => (if t193 = true then (if a0 < 1 then (poacherlaw05_DrawRounds.j0 k a0 a1 a2 a3 t193 true) else (if a0 > 4 then (poacherlaw05_DrawRounds.j0 k a0 a1 a2 a3 t193 true) else (if a1 < 0 then (poacherlaw05_DrawRounds.j0 k a0 a1 a2 a3 t193 true) else (if a1 > 3 then (poacherlaw05_DrawRounds.j0 k a0 a1 a2 a3 t193 true) else (if a2 < 2 then (poacherlaw05_DrawRounds.j0 k a0 a1 a2 a3 t193 true) else (if a2 > 5 then (poacherlaw05_DrawRounds.j0 k a0 a1 a2 a3 t193 true) else (if a3 < 0 then (poacherlaw05_DrawRounds.j0 k a0 a1 a2 a3 t193 true) else (poacherlaw05_DrawRounds.j0 k a0 a1 a2 a3 t193 (decide (a3 ≥ a0)))))))))) else (poacherlaw05_DrawRounds.j0 k a0 a1 a2 a3 t193 true))
theorem poacherlaw05_DrawRounds.mono_l : ∀ k, (∀ y0 y1 y2 y3 y4 y5, LeO (poacherlaw05_DrawRounds.j0 k y0 y1 y2 y3 y4 y5) (poacherlaw05_DrawRounds.j0 (k + 1) y0 y1 y2 y3 y4 y5)) ∧ (∀ y0 y1 y2 y3 y4 y5 y6, LeO (poacherlaw05_DrawRounds.l0 k y0 y1 y2 y3 y4 y5 y6) (poacherlaw05_DrawRounds.l0 (k + 1) y0 y1 y2 y3 y4 y5 y6)) ∧ (∀ y0 y1 y2 y3 y4 y5 y6 y7 y8, LeO (poacherlaw05_DrawRounds.l1 k y0 y1 y2 y3 y4 y5 y6 y7 y8) (poacherlaw05_DrawRounds.l1 (k + 1) y0 y1 y2 y3 y4 y5 y6 y7 y8))
  | 0 => ⟨fun _ _ _ _ _ _ r h => by simp [poacherlaw05_DrawRounds.j0] at h, fun _ _ _ _ _ _ _ r h => by simp [poacherlaw05_DrawRounds.l0] at h, fun _ _ _ _ _ _ _ _ _ r h => by simp [poacherlaw05_DrawRounds.l1] at h⟩
  | k + 1 => by
    obtain ⟨ih0, ih1, ih2⟩ := poacherlaw05_DrawRounds.mono_l k
    refine ⟨?_, ?_, ?_⟩
    · intro y0 y1 y2 y3 y4 y5
      unfold poacherlaw05_DrawRounds.j0
      repeat' first
      | (with_reducible exact ih0 _ _ _ _ _ _)
      | (with_reducible exact ih1 _ _ _ _ _ _ _)
      | (with_reducible exact ih2 _ _ _ _ _ _ _ _ _)
      | (with_reducible exact draw_Round.mono _ _ _ _)
      | (with_reducible exact poacherlaw05_awake.mono _)
      | (with_reducible exact LeO.refl _)
      | (with_reducible exact LeO.none _)
      | (with_reducible refine LeO.ite ?_ ?_)
      | (with_reducible refine LeO.bind ?_ (fun _ => ?_))
      | exact ih0 _ _ _ _ _ _
      | exact ih1 _ _ _ _ _ _ _
      | exact ih2 _ _ _ _ _ _ _ _ _
      | exact draw_Round.mono _ _ _ _
      | exact poacherlaw05_awake.mono _
      | exact LeO.none _
      | refine LeO.ite ?_ ?_
      | refine LeO.bind ?_ (fun _ => ?_)
    · intro y0 y1 y2 y3 y4 y5 y6
      unfold poacherlaw05_DrawRounds.l0
      repeat' first
      | (with_reducible exact ih0 _ _ _ _ _ _)
      | (with_reducible exact ih1 _ _ _ _ _ _ _)
      | (with_reducible exact ih2 _ _ _ _ _ _ _ _ _)
      | (with_reducible exact draw_Round.mono _ _ _ _)
      | (with_reducible exact poacherlaw05_awake.mono _)
      | (with_reducible exact LeO.refl _)
      | (with_reducible exact LeO.none _)
      | (with_reducible refine LeO.ite ?_ ?_)
      | (with_reducible refine LeO.bind ?_ (fun _ => ?_))
      | exact ih0 _ _ _ _ _ _
      | exact ih1 _ _ _ _ _ _ _
      | exact ih2 _ _ _ _ _ _ _ _ _
      | exact draw_Round.mono _ _ _ _
      | exact poacherlaw05_awake.mono _
      | exact LeO.none _
      | refine LeO.ite ?_ ?_
      | refine LeO.bind ?_ (fun _ => ?_)
    · intro y0 y1 y2 y3 y4 y5 y6 y7 y8
      unfold poacherlaw05_DrawRounds.l1
      repeat' first
      | (with_reducible exact ih0 _ _ _ _ _ _)
      | (with_reducible exact ih1 _ _ _ _ _ _ _)
      | (with_reducible exact ih2 _ _ _ _ _ _ _ _ _)
      | (with_reducible exact draw_Round.mono _ _ _ _)
      | (with_reducible exact poacherlaw05_awake.mono _)
      | (with_reducible exact LeO.refl _)
      | (with_reducible exact LeO.none _)
      | (with_reducible refine LeO.ite ?_ ?_)
      | (with_reducible refine LeO.bind ?_ (fun _ => ?_))
      | exact ih0 _ _ _ _ _ _
      | exact ih1 _ _ _ _ _ _ _
      | exact ih2 _ _ _ _ _ _ _ _ _
      | exact draw_Round.mono _ _ _ _
      | exact poacherlaw05_awake.mono _
      | exact LeO.none _
      | refine LeO.ite ?_ ?_
      | refine LeO.bind ?_ (fun _ => ?_)
theorem poacherlaw05_DrawRounds.mono : ∀ a0 a1 a2 a3 k, LeO (poacherlaw05_DrawRounds.f k a0 a1 a2 a3) (poacherlaw05_DrawRounds.f (k + 1) a0 a1 a2 a3) := by
  intro a0 a1 a2 a3 k
  obtain ⟨ih0, ih1, ih2⟩ := poacherlaw05_DrawRounds.mono_l k
  unfold poacherlaw05_DrawRounds.f
  repeat' first
      | (with_reducible exact ih0 _ _ _ _ _ _)
      | (with_reducible exact ih1 _ _ _ _ _ _ _)
      | (with_reducible exact ih2 _ _ _ _ _ _ _ _ _)
      | (with_reducible exact draw_Round.mono _ _ _ _)
      | (with_reducible exact poacherlaw05_awake.mono _)
      | (with_reducible exact LeO.refl _)
      | (with_reducible exact LeO.none _)
      | (with_reducible refine LeO.ite ?_ ?_)
      | (with_reducible refine LeO.bind ?_ (fun _ => ?_))
      | exact ih0 _ _ _ _ _ _
      | exact ih1 _ _ _ _ _ _ _
      | exact ih2 _ _ _ _ _ _ _ _ _
      | exact draw_Round.mono _ _ _ _
      | exact poacherlaw05_awake.mono _
      | exact LeO.none _
      | refine LeO.ite ?_ ?_
      | refine LeO.bind ?_ (fun _ => ?_)
set_option maxHeartbeats 8000000 in
set_option maxRecDepth 100000 in
theorem poacherlaw05_DrawRounds.calls (k : Nat) (a0 : Int) (a1 : Int) (a2 : Int) (a3 : Int) (r : Bool) (w : World) (hr_ : Aside0 (r = true)) (h : poacherlaw05_DrawRounds.f k a0 a1 a2 a3 = some r) :
    Calls Try.prog 5 #[.int .i64 a0, .int .i64 a1, .int .i64 a2, .int .i64 a3] w fun e w' => e = .returned (.bool r) ∧ Below w.heap.size w w' := by
  have hu25 := Try.underlying25
  have HB := Aside0.mk (Below.refl w.heap.size w)
  have H : ((poacherlaw05_awake.f k).bind fun t193 => (if t193 = true then (if a0 < 1 then (poacherlaw05_DrawRounds.j0 k a0 a1 a2 a3 t193 true) else (if a0 > 4 then (poacherlaw05_DrawRounds.j0 k a0 a1 a2 a3 t193 true) else (if a1 < 0 then (poacherlaw05_DrawRounds.j0 k a0 a1 a2 a3 t193 true) else (if a1 > 3 then (poacherlaw05_DrawRounds.j0 k a0 a1 a2 a3 t193 true) else (if a2 < 2 then (poacherlaw05_DrawRounds.j0 k a0 a1 a2 a3 t193 true) else (if a2 > 5 then (poacherlaw05_DrawRounds.j0 k a0 a1 a2 a3 t193 true) else (if a3 < 0 then (poacherlaw05_DrawRounds.j0 k a0 a1 a2 a3 t193 true) else (poacherlaw05_DrawRounds.j0 k a0 a1 a2 a3 t193 (decide (a3 ≥ a0)))))))))) else (poacherlaw05_DrawRounds.j0 k a0 a1 a2 a3 t193 true))) = some r := h
  clear h
  replace H := Option.bind_eq_some_iff.mp H
  obtain ⟨t193, A50, H⟩ := H
  replace H : (if t193 = true then (if a0 < 1 then (poacherlaw05_DrawRounds.j0 k a0 a1 a2 a3 t193 true) else (if a0 > 4 then (poacherlaw05_DrawRounds.j0 k a0 a1 a2 a3 t193 true) else (if a1 < 0 then (poacherlaw05_DrawRounds.j0 k a0 a1 a2 a3 t193 true) else (if a1 > 3 then (poacherlaw05_DrawRounds.j0 k a0 a1 a2 a3 t193 true) else (if a2 < 2 then (poacherlaw05_DrawRounds.j0 k a0 a1 a2 a3 t193 true) else (if a2 > 5 then (poacherlaw05_DrawRounds.j0 k a0 a1 a2 a3 t193 true) else (if a3 < 0 then (poacherlaw05_DrawRounds.j0 k a0 a1 a2 a3 t193 true) else (poacherlaw05_DrawRounds.j0 k a0 a1 a2 a3 t193 (decide (a3 ≥ a0)))))))))) else (poacherlaw05_DrawRounds.j0 k a0 a1 a2 a3 t193 true)) = some r := H
  have A5 := Aside0.mk A50
  clear A50
  have HC6 := Aside0.mk H
  clear H
  go_enter Try.func5, Try.ntmps5
  go_upto_region 2 with (first | ((with_reducible refine gate_callee (f := 10) rfl ?_); refine goesL_ (some 16) rfl rfl Try.func10 (by kernel_rfl) rfl #[] rfl (by (try simp only [List.map_toArray, List.map_cons, List.map_nil]); first | done | rfl | (simp only [List.length_drop, List.length_take]; rfl)) ?_; (with_reducible refine (poacherlaw05_awake.calls k  t193 _ A5.out).mono ?_); (try clear A5); rintro e w7 ⟨rfl, hb⟩; refine ⟨_, rfl, ?_⟩; have n0_ := Aside0.mk (below_step (by repeat (first | (with_reducible first | exact HB.out | apply below_alloc | apply pw_below_drewN | apply below_drew1) | exact HB.out)) hb); clear HB; have HB := n0_; clear n0_; (try clear hb); (try clear hb2); (try clear hk); (try clear hi)))
  (try simp only [Act.put, List.setIfInBounds_toArray, List.set_cons_zero, List.set_cons_succ])
  go_cut [51] (fun v51 wc => ∃ (kq : Nat) (x51_5 : Bool), v51 = .bool x51_5 ∧ Aside0 (poacherlaw05_DrawRounds.j0 kq a0 a1 a2 a3 t193 x51_5 = some r) ∧ Aside0 (kq ≤ k) ∧ Aside0 (Below w.heap.size w wc))
  case first =>
    have H := HC6.out
    clear HC6
    by_cases c8 : t193 = true
    · subst c8
      have H1 : (if a0 < 1 then (poacherlaw05_DrawRounds.j0 k a0 a1 a2 a3 true true) else (if a0 > 4 then (poacherlaw05_DrawRounds.j0 k a0 a1 a2 a3 true true) else (if a1 < 0 then (poacherlaw05_DrawRounds.j0 k a0 a1 a2 a3 true true) else (if a1 > 3 then (poacherlaw05_DrawRounds.j0 k a0 a1 a2 a3 true true) else (if a2 < 2 then (poacherlaw05_DrawRounds.j0 k a0 a1 a2 a3 true true) else (if a2 > 5 then (poacherlaw05_DrawRounds.j0 k a0 a1 a2 a3 true true) else (if a3 < 0 then (poacherlaw05_DrawRounds.j0 k a0 a1 a2 a3 true true) else (poacherlaw05_DrawRounds.j0 k a0 a1 a2 a3 true (decide (a3 ≥ a0)))))))))) = some r := by rw [if_pos rfl] at H; exact H
      clear H
      have H := H1
      clear H1
      by_cases c9 : a0 < 1
      · rw [if_pos c9] at H
        have c9b0 : decide (a0 < 1) = true := decide_eq_true c9
        clear c9
        (first | rw [c9b0] | (simp only [i64_w, i32_w]; rw [c9b0]) | skip)
        have H' := Aside0.mk H
        clear H
        go_wp2
        go_meet
        case rel => exact ⟨_, (true), (by first | rfl | (simp; done) | (simp [*]; done)), H', ⟨by first | omega | exact Nat.le_refl _⟩, ⟨by repeat (first | (with_reducible first | exact HB.out | apply below_alloc | apply pw_below_drewN | apply below_drew1) | exact HB.out)⟩⟩
      · rw [if_neg c9] at H
        have c9b0 : decide (a0 < 1) = false := decide_eq_false c9
        clear c9
        (first | rw [c9b0] | (simp only [i64_w, i32_w]; rw [c9b0]) | skip)
        by_cases c10 : a0 > 4
        · rw [if_pos c10] at H
          have c10b0 : decide (4 < a0) = true := decide_eq_true c10
          clear c10
          have H' := Aside0.mk H
          clear H
          go_wp2
          go_meet
          case rel => exact ⟨_, (true), (by first | rfl | (simp; done) | (simp [*]; done)), H', ⟨by first | omega | exact Nat.le_refl _⟩, ⟨by repeat (first | (with_reducible first | exact HB.out | apply below_alloc | apply pw_below_drewN | apply below_drew1) | exact HB.out)⟩⟩
        · rw [if_neg c10] at H
          have c10b0 : decide (4 < a0) = false := decide_eq_false c10
          clear c10
          by_cases c11 : a1 < 0
          · rw [if_pos c11] at H
            have c11b0 : decide (a1 < 0) = true := decide_eq_true c11
            clear c11
            have H' := Aside0.mk H
            clear H
            go_wp2
            go_meet
            case rel => exact ⟨_, (true), (by first | rfl | (simp; done) | (simp [*]; done)), H', ⟨by first | omega | exact Nat.le_refl _⟩, ⟨by repeat (first | (with_reducible first | exact HB.out | apply below_alloc | apply pw_below_drewN | apply below_drew1) | exact HB.out)⟩⟩
          · rw [if_neg c11] at H
            have c11b0 : decide (a1 < 0) = false := decide_eq_false c11
            clear c11
            by_cases c12 : a1 > 3
            · rw [if_pos c12] at H
              have c12b0 : decide (3 < a1) = true := decide_eq_true c12
              clear c12
              have H' := Aside0.mk H
              clear H
              go_wp2
              go_meet
              case rel => exact ⟨_, (true), (by first | rfl | (simp; done) | (simp [*]; done)), H', ⟨by first | omega | exact Nat.le_refl _⟩, ⟨by repeat (first | (with_reducible first | exact HB.out | apply below_alloc | apply pw_below_drewN | apply below_drew1) | exact HB.out)⟩⟩
            · rw [if_neg c12] at H
              have c12b0 : decide (3 < a1) = false := decide_eq_false c12
              clear c12
              by_cases c13 : a2 < 2
              · rw [if_pos c13] at H
                have c13b0 : decide (a2 < 2) = true := decide_eq_true c13
                clear c13
                have H' := Aside0.mk H
                clear H
                go_wp2
                go_meet
                case rel => exact ⟨_, (true), (by first | rfl | (simp; done) | (simp [*]; done)), H', ⟨by first | omega | exact Nat.le_refl _⟩, ⟨by repeat (first | (with_reducible first | exact HB.out | apply below_alloc | apply pw_below_drewN | apply below_drew1) | exact HB.out)⟩⟩
              · rw [if_neg c13] at H
                have c13b0 : decide (a2 < 2) = false := decide_eq_false c13
                clear c13
                by_cases c14 : a2 > 5
                · rw [if_pos c14] at H
                  have c14b0 : decide (5 < a2) = true := decide_eq_true c14
                  clear c14
                  have H' := Aside0.mk H
                  clear H
                  go_wp2
                  go_meet
                  case rel => exact ⟨_, (true), (by first | rfl | (simp; done) | (simp [*]; done)), H', ⟨by first | omega | exact Nat.le_refl _⟩, ⟨by repeat (first | (with_reducible first | exact HB.out | apply below_alloc | apply pw_below_drewN | apply below_drew1) | exact HB.out)⟩⟩
                · rw [if_neg c14] at H
                  have c14b0 : decide (5 < a2) = false := decide_eq_false c14
                  clear c14
                  by_cases c15 : a3 < 0
                  · rw [if_pos c15] at H
                    have c15b0 : decide (a3 < 0) = true := decide_eq_true c15
                    clear c15
                    have H' := Aside0.mk H
                    clear H
                    go_wp2
                    go_meet
                    case rel => exact ⟨_, (true), (by first | rfl | (simp; done) | (simp [*]; done)), H', ⟨by first | omega | exact Nat.le_refl _⟩, ⟨by repeat (first | (with_reducible first | exact HB.out | apply below_alloc | apply pw_below_drewN | apply below_drew1) | exact HB.out)⟩⟩
                  · rw [if_neg c15] at H
                    have c15b0 : decide (a3 < 0) = false := decide_eq_false c15
                    clear c15
                    have H' := Aside0.mk H
                    clear H
                    go_wp2
                    go_meet
                    case rel => exact ⟨_, (decide (a3 ≥ a0)), (by first | rfl | (simp; done) | (simp [*]; done)), H', ⟨by first | omega | exact Nat.le_refl _⟩, ⟨by repeat (first | (with_reducible first | exact HB.out | apply below_alloc | apply pw_below_drewN | apply below_drew1) | exact HB.out)⟩⟩
    · replace c8 := Bool.eq_false_iff.mpr c8
      subst c8
      have H1 : (poacherlaw05_DrawRounds.j0 k a0 a1 a2 a3 false true) = some r := by rw [if_neg (show ¬ (false = true) by decide)] at H; exact H
      clear H
      have H := H1
      clear H1
      have H' := Aside0.mk H
      clear H
      go_wp2
      go_meet
      case rel => exact ⟨_, (true), (by first | rfl | (simp; done) | (simp [*]; done)), H', ⟨by first | omega | exact Nat.le_refl _⟩, ⟨by repeat (first | (with_reducible first | exact HB.out | apply below_alloc | apply pw_below_drewN | apply below_drew1) | exact HB.out)⟩⟩
  case rest =>
    clear HC6
    try clear c1
    try clear p2
    try clear c5
    try clear c8
    try clear c9
    try clear c9b0
    try clear c10
    try clear c10b0
    try clear c11
    try clear c11b0
    try clear c12
    try clear c12b0
    try clear c13
    try clear c13b0
    try clear c14
    try clear c14b0
    try clear c15
    try clear c15b0
    obtain ⟨kq, x51_5, rfl, HA, HJ5, HB⟩ := hcut
    cases kq with
    | zero => exact absurd HA.out (by simp [poacherlaw05_DrawRounds.j0])
    | succ kj5 =>
      have H := HA.out
      clear HA
      simp only [poacherlaw05_DrawRounds.j0] at H
      by_cases c16 : x51_5 = true
      · subst c16
        have H1 : (some t193) = some r := by rw [if_pos rfl] at H; exact H
        clear H
        have H := H1
        clear H1
        obtain rfl := Option.some.inj H
        clear hr_
        go_wp2
        go_ret
        exact ⟨by first | rfl | (simp [errW_none, errW_some] <;> rfl) | (simp [*, errW_none, errW_some] <;> rfl), by repeat (first | (with_reducible first | exact HB.out | apply below_alloc | apply pw_below_drewN | apply below_drew1) | exact HB.out)⟩
      · replace c16 := Bool.eq_false_iff.mpr c16
        subst c16
        have H1 : (poacherlaw05_DrawRounds.l0 kj5 a0 a1 a2 a3 ([] : List (S25)) ([] : List (S25)) 0) = some r := by rw [if_neg (show ¬ (false = true) by decide)] at H; exact H
        clear H
        have H := H1
        clear H1
        have H' := Aside0.mk H
        clear H
        go_wp2
        go_loopg [10, 11, 12] kj5 (fun kq v10 v11 v12 w' => ∃ (x10_2 : List (S25)) (x11_2 : List (S25)) (x12_2 : Int), v12 = .int .i64 x12_2 ∧ Aside0 (poacherlaw05_DrawRounds.l0 kq a0 a1 a2 a3 x10_2 x11_2 x12_2 = some r) ∧ Aside0 (kq ≤ kj5) ∧ Aside0 (Kd.R k25 25 w' w.heap.size (fun k_ => some k_ ≠ (v11 : Value).ownBlock) v10 x10_2) ∧ Aside0 (Kd.R k25 25 w' w.heap.size (fun k_ => some k_ ≠ (v10 : Value).ownBlock) v11 x11_2) ∧ Aside0 (Below w.heap.size w w'))
        case atStart => exact ⟨(([] : List (S25))), (([] : List (S25))), (0), (by first | rfl | (simp; done) | (simp [*]; done)), H', ⟨Nat.le_refl _⟩, ⟨by first | exact Kd.R_nil _ _ _ _ _ | exact Kd.N_nil _ _ _ _ _ | exact Kd.V_nil _ _ _ _ _ | exact Kd.Q_nil _ _ _ _ _ | exact Kd.S_nil _ _ _ _ _⟩, ⟨by first | exact Kd.R_nil _ _ _ _ _ | exact Kd.N_nil _ _ _ _ _ | exact Kd.V_nil _ _ _ _ _ | exact Kd.Q_nil _ _ _ _ _ | exact Kd.S_nil _ _ _ _ _⟩, ⟨by repeat (first | (with_reducible first | exact HB.out | apply below_alloc | apply pw_below_drewN | apply below_drew1) | exact HB.out)⟩⟩
        case round =>
          clear H'
          try clear c1
          try clear p2
          try clear c5
          try clear c8
          try clear c9
          try clear c9b0
          try clear c10
          try clear c10b0
          try clear c11
          try clear c11b0
          try clear c12
          try clear c12b0
          try clear c13
          try clear c13b0
          try clear c14
          try clear c14b0
          try clear c15
          try clear c15b0
          try clear c16
          try clear p2
          obtain ⟨x10_2, x11_2, x12_2, rfl, HA, HK2, HO_10, HO_11, HB⟩ := hrel
          cases gk with
          | zero => exact absurd HA.out (by simp [poacherlaw05_DrawRounds.l0])
          | succ k2 =>
            have H := HA.out
            clear HA
            simp only [poacherlaw05_DrawRounds.l0] at H
            by_cases c17 : x12_2 < a2
            · rw [if_pos c17] at H
              have c17b0 : decide (x12_2 < a2) = true := decide_eq_true c17
              clear c17
              replace H := Option.bind_eq_some_iff.mp H
              obtain ⟨t197, A180, H⟩ := H
              replace H : (if x10_2.length + t197.length < 5864062014805 then (poacherlaw05_DrawRounds.l1 k2 a0 a1 a2 a3 (x10_2 ++ t197) x11_2 x12_2 t197 0) else (none)) = some r := H
              have A18 := Aside0.mk A180
              clear A180
              by_cases c19 : x10_2.length + t197.length < 5864062014805
              · rw [if_pos c19] at H
                have LMc19 := Aside0.mk c19
                clear c19
                obtain ⟨y200, hy200⟩ : ∃ y_ : List (S25), y_ = (x10_2 ++ t197) := ⟨_, rfl⟩
                replace H : (poacherlaw05_DrawRounds.l1 k2 a0 a1 a2 a3 y200 x11_2 x12_2 t197 0) = some r := by first | (rw [hy200]; with_reducible exact H) | (have H2_ := (Option.bind_some _ _).symm.trans H; rw [hy200]; with_reducible exact H2_) | (have H2_ := (Option.bind_some _ _).symm.trans H; with_reducible exact H2_) | with_reducible exact H | (rw [hy200]; exact H) | exact H
                have Ny200 := Aside0.mk hy200
                clear hy200
                have H' := Aside0.mk H
                clear H
                go_wp2_with (first | ((with_reducible refine gate_callee (f := 14) rfl ?_); refine goesL_ (some 62) rfl rfl Try.func14 (by kernel_rfl) rfl #[.int .i64 a0, .int .i64 a1, .int .u64 (IntKind.u64.wrap (x12_2))] rfl (by (try simp only [List.map_toArray, List.map_cons, List.map_nil]); first | done | rfl | (simp only [List.length_drop, List.length_take]; rfl)) ?_; (with_reducible refine (draw_Round.calls k2 a0 a1 (IntKind.u64.wrap (x12_2)) t197 _ A18.out).mono ?_); (try clear A18); rintro e w20 ⟨v198, rfl, ho0, hb⟩; refine ⟨_, rfl, ?_⟩; have n0_ := Aside0.mk (Kd.R_elder' (by (with_reducible repeat (first | apply Kd.R_alloc | apply Kd.R_drewN | apply Kd.R_drew)); exact HO_10.out) (Kd.R_base ho0) hb); have n1_ := Aside0.mk (Kd.R_elder' (by (with_reducible repeat (first | apply Kd.R_alloc | apply Kd.R_drewN | apply Kd.R_drew)); exact HO_11.out) (Kd.R_base ho0) hb); have n2_ := Aside0.mk (Kd.R_lower (Kd.R_new' (Kd.R_new' ho0 (Kd.R_lt (by (with_reducible repeat (first | apply Kd.R_alloc | apply Kd.R_drewN | apply Kd.R_drew)); exact HO_10.out))) (Kd.R_lt (by (with_reducible repeat (first | apply Kd.R_alloc | apply Kd.R_drewN | apply Kd.R_drew)); exact HO_11.out))) (below_size (by repeat (first | (with_reducible first | exact HB.out | apply below_alloc | apply pw_below_drewN | apply below_drew1) | exact HB.out)))); have n3_ := Aside0.mk (below_step (by repeat (first | (with_reducible first | exact HB.out | apply below_alloc | apply pw_below_drewN | apply below_drew1) | exact HB.out)) hb); clear HO_10; clear HO_11; clear HB; have HO_10 := n0_; have HO_11 := n1_; have HO199 := n2_; have HB := n3_; clear n0_ n1_ n2_ n3_; (try clear hb); (try clear hb2); (try clear hk); (try clear hi); (try clear ho0); obtain ⟨Ao22, co22, eo22⟩ := Kd.R_slice HO199.out; subst eo22) | ((with_reducible refine gate_builtin (b := .append) (xs := #[.tmp 63, .tmp 64]) rfl ?_); (try (refine gate_guard (by rfl) ?_; dsimp only)); at_builtin; refine Kd.R_append_rows k25 (w0 := w) w.heap.size rfl (.tmp 63) (.tmp 64) 26 25 (.agg #[(.int .i64 0), (.int .i64 0), (.int .u64 0)]) 24 rfl Try.underlying26 info25 rfl (by decide) (by omega) u10 x10_2 t197 _ _ _ (fun k_ => some k_ ≠ (u11 : Value).ownBlock ∧ some k_ ≠ (.slice Ao22 t197.length co22 : Value).ownBlock) (fun _ => False) rfl rfl ?aO ?aR (fun _ _ h => h) (fun _ h => h.elim) ?aF ?aB ?aS ?aL ?_; (case aR => repeat (first | exact (Kd.R_reads' HO199.out).2.2 | (with_reducible refine Kd.C_alloc ?_ _) | (with_reducible refine Kd.C_drewN ?_ _) | (with_reducible refine Kd.C_drew ?_))); (case aB => exact (by repeat (first | (with_reducible first | exact HB.out | apply below_alloc | apply pw_below_drewN | apply below_drew1) | exact HB.out))); (case aF => exact (fun k_ hk => ⟨Kd.fresh' (Kd.R_lt (by (with_reducible repeat (first | apply Kd.R_alloc | apply Kd.R_drewN | apply Kd.R_drew)); exact HO_11.out)) k_ hk, Kd.fresh' (Kd.R_lt (by (with_reducible repeat (first | apply Kd.R_alloc | apply Kd.R_drewN | apply Kd.R_drew)); exact HO199.out)) k_ hk⟩)); (case aO => exact (by (with_reducible repeat (first | apply Kd.R_alloc | apply Kd.R_drewN | apply Kd.R_drew)); exact HO_10.out)); (case aS => exact (below_size (by repeat (first | (with_reducible first | exact HB.out | apply below_alloc | apply pw_below_drewN | apply below_drew1) | exact HB.out)))); (case aL => have := LMc19.out; omega); intro v201 w21 ho hb hg hat; rw [← Ny200.out] at ho; have n0_ := Aside0.mk (Kd.R_after (ok := (fun k_ => some k_ ≠ (.slice Ao22 t197.length co22 : Value).ownBlock)) (by (with_reducible repeat (first | apply Kd.R_alloc | apply Kd.R_drewN | apply Kd.R_drew)); exact Kd.R_mono HO_11.out (fun _ hk => ⟨hk.2, hk.1⟩)) hg hat); have n1_ := Aside0.mk (Kd.R_after (ok := (fun k_ => some k_ ≠ (u11 : Value).ownBlock)) (by (with_reducible repeat (first | apply Kd.R_alloc | apply Kd.R_drewN | apply Kd.R_drew)); exact Kd.R_mono HO199.out (fun _ hk => ⟨hk.2, hk.1.2⟩)) hg hat); have n2_ := Aside0.mk (hb); have n3_ := Aside0.mk (ho); clear HO_11; clear HO199; clear HB; clear HO_10; have HO_11 := n0_; have HO199 := n1_; have HB := n2_; have HO202 := n3_; clear n0_ n1_ n2_ n3_; clear ho hb hg hat))
                go_loopg [11, 14] k2 (fun kq v11 v14 w' => ∃ (x11_3 : List (S25)) (x14_3 : Int), v14 = .int .i64 x14_3 ∧ Aside0 (poacherlaw05_DrawRounds.l1 kq a0 a1 a2 a3 y200 x11_3 x12_2 t197 x14_3 = some r) ∧ Aside0 (kq ≤ k2) ∧ Aside0 (Kd.R k25 25 w' w.heap.size (fun k_ => some k_ ≠ (v11 : Value).ownBlock ∧ some k_ ≠ ((.slice Ao22 t197.length co22) : Value).ownBlock) v201 y200) ∧ Aside0 (Kd.R k25 25 w' w.heap.size (fun k_ => some k_ ≠ (v201 : Value).ownBlock ∧ some k_ ≠ ((.slice Ao22 t197.length co22) : Value).ownBlock) v11 x11_3) ∧ Aside0 (Kd.R k25 25 w' w.heap.size (fun k_ => some k_ ≠ (v201 : Value).ownBlock ∧ some k_ ≠ (v11 : Value).ownBlock) (.slice Ao22 t197.length co22) t197) ∧ Aside0 (Below w.heap.size w w'))
                case atStart => exact ⟨(x11_2), (0), (by first | rfl | (simp; done) | (simp [*]; done)), H', ⟨Nat.le_refl _⟩, ⟨by (with_reducible repeat (first | apply Kd.R_alloc | apply Kd.R_drewN | apply Kd.R_drew)); exact HO202.out⟩, ⟨by (with_reducible repeat (first | apply Kd.R_alloc | apply Kd.R_drewN | apply Kd.R_drew)); exact Kd.R_mono HO_11.out (fun _ hk => ⟨hk.2, hk.1⟩)⟩, ⟨by (with_reducible repeat (first | apply Kd.R_alloc | apply Kd.R_drewN | apply Kd.R_drew)); exact Kd.R_mono HO199.out (fun _ hk => ⟨hk.2, hk.1⟩)⟩, ⟨by repeat (first | (with_reducible first | exact HB.out | apply below_alloc | apply pw_below_drewN | apply below_drew1) | exact HB.out)⟩⟩
                case round =>
                  clear H'
                  try clear c1
                  try clear p2
                  try clear c5
                  try clear c8
                  try clear c9
                  try clear c9b0
                  try clear c10
                  try clear c10b0
                  try clear c11
                  try clear c11b0
                  try clear c12
                  try clear c12b0
                  try clear c13
                  try clear c13b0
                  try clear c14
                  try clear c14b0
                  try clear c15
                  try clear c15b0
                  try clear c16
                  try clear c17
                  try clear c17b0
                  try clear c19
                  try clear p2
                  obtain ⟨x11_3, x14_3, rfl, HA, HK3, HO_10, HO_11, HO_13, HB⟩ := hrel
                  cases gk with
                  | zero => exact absurd HA.out (by simp [poacherlaw05_DrawRounds.l1])
                  | succ k3 =>
                    have H := HA.out
                    clear HA
                    simp only [poacherlaw05_DrawRounds.l1] at H
                    by_cases c23 : x14_3 < (t197.length : Int)
                    · rw [if_pos c23] at H
                      have c23b0 : decide (x14_3 < (t197.length : Int)) = true := decide_eq_true c23
                      clear c23
                      by_cases c24 : 0 ≤ x14_3
                      · rw [if_pos c24] at H
                        have c24b0 : decide (0 ≤ x14_3) = true := decide_eq_true c24
                        clear c24
                        by_cases c25 : ((rd_T25 t197 x14_3).f0) = 0
                        · rw [if_pos c25] at H
                          have c25b0 : (((rd_T25 t197 x14_3).f0) == 0) = true := beq_iff_eq.mpr c25
                          have c25b1 : (((rd_T25 t197 x14_3).f0) != 0) = false := bne_eq_false_iff_eq.mpr c25
                          clear c25
                          by_cases c26 : ((rd_T25 t197 x14_3).f1) = a3
                          · rw [if_pos c26] at H
                            have c26b0 : (((rd_T25 t197 x14_3).f1) == a3) = true := beq_iff_eq.mpr c26
                            have c26b1 : (((rd_T25 t197 x14_3).f1) != a3) = false := bne_eq_false_iff_eq.mpr c26
                            clear c26
                            have H' := Aside0.mk H
                            clear H
                            have p203 : 0 ≤ (x14_3 : Int) := of_decide_eq_true (by first | (with_reducible assumption) | assumption)
                            have q203 : x14_3 < (t197.length : Int) := of_decide_eq_true (by first | (with_reducible assumption) | assumption)
                            obtain ⟨ad203, e203, hx203_0, hx203_1, hx203_2⟩ := at_T25 (Kd.R_reads' HO_13.out).2.2 x14_3 p203 q203
                            cases e203
                            replace p203 := eq_true p203
                            replace q203 := eq_true q203
                            have p204 : 0 ≤ (x14_3 : Int) := of_decide_eq_true (by first | (with_reducible assumption) | assumption)
                            have q204 : x14_3 < (t197.length : Int) := of_decide_eq_true (by first | (with_reducible assumption) | assumption)
                            obtain ⟨ad204, e204, hx204_0, hx204_1, hx204_2⟩ := at_T25 (Kd.R_reads' HO_13.out).2.2 x14_3 p204 q204
                            obtain rfl : ad203 = ad204 := (by injection e204)
                            replace p204 := eq_true p204
                            replace q204 := eq_true q204
                            go_wp2
                            go_roundg k3
                            case measure => have := HJ5.out; have := HK2.out; have := HK3.out; omega
                            case rel => exact ⟨(x11_3), (wrap64 (x14_3 + 1)), (by first | rfl | (simp; done) | (simp [*]; done)), H', ⟨by have := HJ5.out; have := HK2.out; have := HK3.out; omega⟩, ⟨by (with_reducible repeat (first | apply Kd.R_alloc | apply Kd.R_drewN | apply Kd.R_drew)); exact HO_10.out⟩, ⟨by (with_reducible repeat (first | apply Kd.R_alloc | apply Kd.R_drewN | apply Kd.R_drew)); exact HO_11.out⟩, ⟨by (with_reducible repeat (first | apply Kd.R_alloc | apply Kd.R_drewN | apply Kd.R_drew)); exact HO_13.out⟩, ⟨by repeat (first | (with_reducible first | exact HB.out | apply below_alloc | apply pw_below_drewN | apply below_drew1) | exact HB.out)⟩⟩
                          · rw [if_neg c26] at H
                            have c26b0 : (((rd_T25 t197 x14_3).f1) == a3) = false := beq_eq_false_iff_ne.mpr c26
                            have c26b1 : (((rd_T25 t197 x14_3).f1) != a3) = true := bne_iff_ne.mpr c26
                            by_cases c27 : x11_3.length < 5864062014805
                            · rw [if_pos c27] at H
                              have LMc27 := Aside0.mk c27
                              clear c27
                              obtain ⟨y206, hy206⟩ : ∃ y_ : List (S25), y_ = (x11_3 ++ [(⟨(rd_T25 t197 x14_3).f0, (rd_T25 t197 x14_3).f1, (rd_T25 t197 x14_3).f2⟩ : S25)]) := ⟨_, rfl⟩
                              replace H : (poacherlaw05_DrawRounds.l1 k3 a0 a1 a2 a3 y200 y206 x12_2 t197 (wrap64 (x14_3 + 1))) = some r := by first | (rw [hy206]; with_reducible exact H) | (have H2_ := (Option.bind_some _ _).symm.trans H; rw [hy206]; with_reducible exact H2_) | (have H2_ := (Option.bind_some _ _).symm.trans H; with_reducible exact H2_) | with_reducible exact H | (rw [hy206]; exact H) | exact H
                              have Ny206 := Aside0.mk hy206
                              clear hy206
                              have H' := Aside0.mk H
                              clear H
                              have p203 : 0 ≤ (x14_3 : Int) := of_decide_eq_true (by first | (with_reducible assumption) | assumption)
                              have q203 : x14_3 < (t197.length : Int) := of_decide_eq_true (by first | (with_reducible assumption) | assumption)
                              obtain ⟨ad203, e203, hx203_0, hx203_1, hx203_2⟩ := at_T25 (Kd.R_reads' HO_13.out).2.2 x14_3 p203 q203
                              cases e203
                              replace p203 := eq_true p203
                              replace q203 := eq_true q203
                              have p204 : 0 ≤ (x14_3 : Int) := of_decide_eq_true (by first | (with_reducible assumption) | assumption)
                              have q204 : x14_3 < (t197.length : Int) := of_decide_eq_true (by first | (with_reducible assumption) | assumption)
                              obtain ⟨ad204, e204, hx204_0, hx204_1, hx204_2⟩ := at_T25 (Kd.R_reads' HO_13.out).2.2 x14_3 p204 q204
                              obtain rfl : ad203 = ad204 := (by injection e204)
                              replace p204 := eq_true p204
                              replace q204 := eq_true q204
                              have p205 : 0 ≤ (x14_3 : Int) := of_decide_eq_true (by first | (with_reducible assumption) | assumption)
                              have q205 : x14_3 < (t197.length : Int) := of_decide_eq_true (by first | (with_reducible assumption) | assumption)
                              obtain ⟨ad205, e205, hx205_0, hx205_1, hx205_2⟩ := at_T25 (Kd.R_reads' HO_13.out).2.2 x14_3 p205 q205
                              obtain rfl : ad203 = ad205 := (by injection e205)
                              replace p205 := eq_true p205
                              replace q205 := eq_true q205
                              go_wp2_with (first | ((with_reducible refine gate_builtin (b := .append) (xs := #[.tmp 87, .tmp 92]) rfl ?_); (try (refine gate_guard (by rfl) ?_; dsimp only)); at_builtin; refine Kd.R_append k25 (w0 := w) w.heap.size rfl (.tmp 87) (.tmp 92) 26 25 (.agg #[(.int .i64 0), (.int .i64 0), (.int .u64 0)]) 24 rfl Try.underlying26 info25 rfl (by decide) (by omega) u11 x11_3 (⟨(rd_T25 t197 x14_3).f0, (rd_T25 t197 x14_3).f1, (rd_T25 t197 x14_3).f2⟩ : S25) [.int .i64 ((rd_T25 t197 x14_3).f0), .int .i64 ((rd_T25 t197 x14_3).f1), .int .u64 ((rd_T25 t197 x14_3).f2)] (fun k_ => some k_ ≠ (v201 : Value).ownBlock ∧ some k_ ≠ (.slice (some ad203) t197.length co22 : Value).ownBlock) (fun _ => False) rfl rfl ?aP (fun _ hk => hk.elim) ?aF ?aO ?aB ?aS ?aL ?_; (case aP => exact k25_mkM _ _ _ (⟨(rd_T25 t197 x14_3).f0, (rd_T25 t197 x14_3).f1, (rd_T25 t197 x14_3).f2⟩ : S25)); (case aB => exact (by repeat (first | (with_reducible first | exact HB.out | apply below_alloc | apply pw_below_drewN | apply below_drew1) | exact HB.out))); (case aF => exact (fun k_ hk => ⟨Kd.fresh' (Kd.R_lt (by (with_reducible repeat (first | apply Kd.R_alloc | apply Kd.R_drewN | apply Kd.R_drew)); exact HO_10.out)) k_ hk, Kd.fresh' (Kd.R_lt (by (with_reducible repeat (first | apply Kd.R_alloc | apply Kd.R_drewN | apply Kd.R_drew)); exact HO_13.out)) k_ hk⟩)); (case aO => exact (by (with_reducible repeat (first | apply Kd.R_alloc | apply Kd.R_drewN | apply Kd.R_drew)); exact HO_11.out)); (case aS => exact (below_size (by repeat (first | (with_reducible first | exact HB.out | apply below_alloc | apply pw_below_drewN | apply below_drew1) | exact HB.out)))); (case aL => have := LMc27.out; omega); intro v207 w28 ho hb hg hat; rw [← Ny206.out] at ho; have n0_ := Aside0.mk (Kd.R_after (ok := (fun k_ => some k_ ≠ (.slice (some ad203) t197.length co22 : Value).ownBlock)) (by (with_reducible repeat (first | apply Kd.R_alloc | apply Kd.R_drewN | apply Kd.R_drew)); exact Kd.R_mono HO_10.out (fun _ hk => ⟨hk.2, hk.1⟩)) hg hat); have n1_ := Aside0.mk (Kd.R_after (ok := (fun k_ => some k_ ≠ (v201 : Value).ownBlock)) (by (with_reducible repeat (first | apply Kd.R_alloc | apply Kd.R_drewN | apply Kd.R_drew)); exact HO_13.out) hg hat); have n2_ := Aside0.mk (hb); have n3_ := Aside0.mk (ho); clear HO_10; clear HO_13; clear HB; clear HO_11; have HO_10 := n0_; have HO_13 := n1_; have HB := n2_; have HO208 := n3_; clear n0_ n1_ n2_ n3_; clear ho hb hg hat))
                              go_roundg k3
                              case measure => have := HJ5.out; have := HK2.out; have := HK3.out; omega
                              case rel => exact ⟨(y206), (wrap64 (x14_3 + 1)), (by first | rfl | (simp; done) | (simp [*]; done)), H', ⟨by have := HJ5.out; have := HK2.out; have := HK3.out; omega⟩, ⟨by (with_reducible repeat (first | apply Kd.R_alloc | apply Kd.R_drewN | apply Kd.R_drew)); exact Kd.R_mono HO_10.out (fun _ hk => ⟨hk.2, hk.1⟩)⟩, ⟨by (with_reducible repeat (first | apply Kd.R_alloc | apply Kd.R_drewN | apply Kd.R_drew)); exact HO208.out⟩, ⟨by (with_reducible repeat (first | apply Kd.R_alloc | apply Kd.R_drewN | apply Kd.R_drew)); exact HO_13.out⟩, ⟨by repeat (first | (with_reducible first | exact HB.out | apply below_alloc | apply pw_below_drewN | apply below_drew1) | exact HB.out)⟩⟩
                            · rw [if_neg c27] at H
                              exact absurd H (by simp)
                        · rw [if_neg c25] at H
                          have c25b0 : (((rd_T25 t197 x14_3).f0) == 0) = false := beq_eq_false_iff_ne.mpr c25
                          have c25b1 : (((rd_T25 t197 x14_3).f0) != 0) = true := bne_iff_ne.mpr c25
                          by_cases c29 : x11_3.length < 5864062014805
                          · rw [if_pos c29] at H
                            have LMc29 := Aside0.mk c29
                            clear c29
                            obtain ⟨y210, hy210⟩ : ∃ y_ : List (S25), y_ = (x11_3 ++ [(⟨(rd_T25 t197 x14_3).f0, (rd_T25 t197 x14_3).f1, (rd_T25 t197 x14_3).f2⟩ : S25)]) := ⟨_, rfl⟩
                            replace H : (poacherlaw05_DrawRounds.l1 k3 a0 a1 a2 a3 y200 y210 x12_2 t197 (wrap64 (x14_3 + 1))) = some r := by first | (rw [hy210]; with_reducible exact H) | (have H2_ := (Option.bind_some _ _).symm.trans H; rw [hy210]; with_reducible exact H2_) | (have H2_ := (Option.bind_some _ _).symm.trans H; with_reducible exact H2_) | with_reducible exact H | (rw [hy210]; exact H) | exact H
                            have Ny210 := Aside0.mk hy210
                            clear hy210
                            have H' := Aside0.mk H
                            clear H
                            have p203 : 0 ≤ (x14_3 : Int) := of_decide_eq_true (by first | (with_reducible assumption) | assumption)
                            have q203 : x14_3 < (t197.length : Int) := of_decide_eq_true (by first | (with_reducible assumption) | assumption)
                            obtain ⟨ad203, e203, hx203_0, hx203_1, hx203_2⟩ := at_T25 (Kd.R_reads' HO_13.out).2.2 x14_3 p203 q203
                            cases e203
                            replace p203 := eq_true p203
                            replace q203 := eq_true q203
                            have p209 : 0 ≤ (x14_3 : Int) := of_decide_eq_true (by first | (with_reducible assumption) | assumption)
                            have q209 : x14_3 < (t197.length : Int) := of_decide_eq_true (by first | (with_reducible assumption) | assumption)
                            obtain ⟨ad209, e209, hx209_0, hx209_1, hx209_2⟩ := at_T25 (Kd.R_reads' HO_13.out).2.2 x14_3 p209 q209
                            obtain rfl : ad203 = ad209 := (by injection e209)
                            replace p209 := eq_true p209
                            replace q209 := eq_true q209
                            go_wp2_with (first | ((with_reducible refine gate_builtin (b := .append) (xs := #[.tmp 87, .tmp 92]) rfl ?_); (try (refine gate_guard (by rfl) ?_; dsimp only)); at_builtin; refine Kd.R_append k25 (w0 := w) w.heap.size rfl (.tmp 87) (.tmp 92) 26 25 (.agg #[(.int .i64 0), (.int .i64 0), (.int .u64 0)]) 24 rfl Try.underlying26 info25 rfl (by decide) (by omega) u11 x11_3 (⟨(rd_T25 t197 x14_3).f0, (rd_T25 t197 x14_3).f1, (rd_T25 t197 x14_3).f2⟩ : S25) [.int .i64 ((rd_T25 t197 x14_3).f0), .int .i64 ((rd_T25 t197 x14_3).f1), .int .u64 ((rd_T25 t197 x14_3).f2)] (fun k_ => some k_ ≠ (v201 : Value).ownBlock ∧ some k_ ≠ (.slice (some ad203) t197.length co22 : Value).ownBlock) (fun _ => False) rfl rfl ?aP (fun _ hk => hk.elim) ?aF ?aO ?aB ?aS ?aL ?_; (case aP => exact k25_mkM _ _ _ (⟨(rd_T25 t197 x14_3).f0, (rd_T25 t197 x14_3).f1, (rd_T25 t197 x14_3).f2⟩ : S25)); (case aB => exact (by repeat (first | (with_reducible first | exact HB.out | apply below_alloc | apply pw_below_drewN | apply below_drew1) | exact HB.out))); (case aF => exact (fun k_ hk => ⟨Kd.fresh' (Kd.R_lt (by (with_reducible repeat (first | apply Kd.R_alloc | apply Kd.R_drewN | apply Kd.R_drew)); exact HO_10.out)) k_ hk, Kd.fresh' (Kd.R_lt (by (with_reducible repeat (first | apply Kd.R_alloc | apply Kd.R_drewN | apply Kd.R_drew)); exact HO_13.out)) k_ hk⟩)); (case aO => exact (by (with_reducible repeat (first | apply Kd.R_alloc | apply Kd.R_drewN | apply Kd.R_drew)); exact HO_11.out)); (case aS => exact (below_size (by repeat (first | (with_reducible first | exact HB.out | apply below_alloc | apply pw_below_drewN | apply below_drew1) | exact HB.out)))); (case aL => have := LMc29.out; omega); intro v211 w30 ho hb hg hat; rw [← Ny210.out] at ho; have n0_ := Aside0.mk (Kd.R_after (ok := (fun k_ => some k_ ≠ (.slice (some ad203) t197.length co22 : Value).ownBlock)) (by (with_reducible repeat (first | apply Kd.R_alloc | apply Kd.R_drewN | apply Kd.R_drew)); exact Kd.R_mono HO_10.out (fun _ hk => ⟨hk.2, hk.1⟩)) hg hat); have n1_ := Aside0.mk (Kd.R_after (ok := (fun k_ => some k_ ≠ (v201 : Value).ownBlock)) (by (with_reducible repeat (first | apply Kd.R_alloc | apply Kd.R_drewN | apply Kd.R_drew)); exact HO_13.out) hg hat); have n2_ := Aside0.mk (hb); have n3_ := Aside0.mk (ho); clear HO_10; clear HO_13; clear HB; clear HO_11; have HO_10 := n0_; have HO_13 := n1_; have HB := n2_; have HO212 := n3_; clear n0_ n1_ n2_ n3_; clear ho hb hg hat))
                            go_roundg k3
                            case measure => have := HJ5.out; have := HK2.out; have := HK3.out; omega
                            case rel => exact ⟨(y210), (wrap64 (x14_3 + 1)), (by first | rfl | (simp; done) | (simp [*]; done)), H', ⟨by have := HJ5.out; have := HK2.out; have := HK3.out; omega⟩, ⟨by (with_reducible repeat (first | apply Kd.R_alloc | apply Kd.R_drewN | apply Kd.R_drew)); exact Kd.R_mono HO_10.out (fun _ hk => ⟨hk.2, hk.1⟩)⟩, ⟨by (with_reducible repeat (first | apply Kd.R_alloc | apply Kd.R_drewN | apply Kd.R_drew)); exact HO212.out⟩, ⟨by (with_reducible repeat (first | apply Kd.R_alloc | apply Kd.R_drewN | apply Kd.R_drew)); exact HO_13.out⟩, ⟨by repeat (first | (with_reducible first | exact HB.out | apply below_alloc | apply pw_below_drewN | apply below_drew1) | exact HB.out)⟩⟩
                          · rw [if_neg c29] at H
                            exact absurd H (by simp)
                      · rw [if_neg c24] at H
                        exact absurd H (by simp)
                    · rw [if_neg c23] at H
                      have c23b0 : decide (x14_3 < (t197.length : Int)) = false := decide_eq_false c23
                      clear c23
                      have H' := Aside0.mk H
                      clear H
                      go_wp2
                      go_roundg k3
                      case measure => have := HJ5.out; have := HK2.out; have := HK3.out; omega
                      case rel => exact ⟨(y200), (x11_3), (wrap64 (x12_2 + 1)), (by first | rfl | (simp; done) | (simp [*]; done)), H', ⟨by have := HJ5.out; have := HK2.out; have := HK3.out; omega⟩, ⟨by (with_reducible repeat (first | apply Kd.R_alloc | apply Kd.R_drewN | apply Kd.R_drew)); exact Kd.R_mono HO_10.out (fun _ hk => hk.1)⟩, ⟨by (with_reducible repeat (first | apply Kd.R_alloc | apply Kd.R_drewN | apply Kd.R_drew)); exact Kd.R_mono HO_11.out (fun _ hk => hk.1)⟩, ⟨by repeat (first | (with_reducible first | exact HB.out | apply below_alloc | apply pw_below_drewN | apply below_drew1) | exact HB.out)⟩⟩
              · rw [if_neg c19] at H
                exact absurd H (by simp)
            · rw [if_neg c17] at H
              have c17b0 : decide (x12_2 < a2) = false := decide_eq_false c17
              clear c17
              by_cases c31 : (x10_2.length : Int) = (wrap64 (a2 * (wrap64 (a0 + a1))))
              · rw [if_pos c31] at H
                have c31b0 : ((x10_2.length : Int) == (wrap64 (a2 * (wrap64 (a0 + a1))))) = true := beq_iff_eq.mpr c31
                have c31b1 : ((x10_2.length : Int) != (wrap64 (a2 * (wrap64 (a0 + a1))))) = false := bne_eq_false_iff_eq.mpr c31
                clear c31
                replace H := Option.bind_eq_some_iff.mp H
                obtain ⟨t194, A320, H⟩ := H
                replace H : (if t194 = true then ((draw_Fair.f x10_2 a0 a1 (wrap64 (a0 + a1))).bind fun t195 => (if t195 = true then (if (wrap64 (a0 + a1)) = 1 then (some ((x11_2.length : Int) == (wrap64 (a2 * (wrap64 ((wrap64 (a0 + a1)) - 1)))))) else ((draw_Fair.f x11_2 a0 a1 1).bind fun t196 => (if t196 = true then (some false) else (some ((x11_2.length : Int) == (wrap64 (a2 * (wrap64 ((wrap64 (a0 + a1)) - 1))))))))) else (some false))) else (some false)) = some r := H
                have A32 := Aside0.mk A320
                clear A320
                by_cases c33 : t194 = true
                · subst c33
                  have H1 : ((draw_Fair.f x10_2 a0 a1 (wrap64 (a0 + a1))).bind fun t195 => (if t195 = true then (if (wrap64 (a0 + a1)) = 1 then (some ((x11_2.length : Int) == (wrap64 (a2 * (wrap64 ((wrap64 (a0 + a1)) - 1)))))) else ((draw_Fair.f x11_2 a0 a1 1).bind fun t196 => (if t196 = true then (some false) else (some ((x11_2.length : Int) == (wrap64 (a2 * (wrap64 ((wrap64 (a0 + a1)) - 1))))))))) else (some false))) = some r := by rw [if_pos rfl] at H; exact H
                  clear H
                  have H := H1
                  clear H1
                  replace H := Option.bind_eq_some_iff.mp H
                  obtain ⟨t195, A340, H⟩ := H
                  replace H : (if t195 = true then (if (wrap64 (a0 + a1)) = 1 then (some ((x11_2.length : Int) == (wrap64 (a2 * (wrap64 ((wrap64 (a0 + a1)) - 1)))))) else ((draw_Fair.f x11_2 a0 a1 1).bind fun t196 => (if t196 = true then (some false) else (some ((x11_2.length : Int) == (wrap64 (a2 * (wrap64 ((wrap64 (a0 + a1)) - 1))))))))) else (some false)) = some r := H
                  have A34 := Aside0.mk A340
                  clear A340
                  by_cases c35 : t195 = true
                  · subst c35
                    have H1 : (if (wrap64 (a0 + a1)) = 1 then (some ((x11_2.length : Int) == (wrap64 (a2 * (wrap64 ((wrap64 (a0 + a1)) - 1)))))) else ((draw_Fair.f x11_2 a0 a1 1).bind fun t196 => (if t196 = true then (some false) else (some ((x11_2.length : Int) == (wrap64 (a2 * (wrap64 ((wrap64 (a0 + a1)) - 1))))))))) = some r := by rw [if_pos rfl] at H; exact H
                    clear H
                    have H := H1
                    clear H1
                    by_cases c36 : (wrap64 (a0 + a1)) = 1
                    · rw [if_pos c36] at H
                      have c36b0 : ((wrap64 (a0 + a1)) == 1) = true := beq_iff_eq.mpr c36
                      have c36b1 : ((wrap64 (a0 + a1)) != 1) = false := bne_eq_false_iff_eq.mpr c36
                      clear c36
                      obtain rfl := Option.some.inj H
                      clear hr_
                      obtain ⟨Ao37, co37, eo37⟩ := Kd.R_slice HO_10.out
                      subst eo37
                      go_wp2_with (first | (go_at_call 21; (with_reducible refine (draw_Fair.calls _ _ x10_2 a0 a1 (wrap64 ((wrap64 (2 * (wrap64 (a0 + a1)))) - 1)) true _ ?side1 ?side2 A32.out).mono ?_); (try clear A32); (case side1 => repeat (first | exact (Kd.R_reads' HO_10.out).2.2 | (with_reducible refine Kd.C_alloc ?_ _) | (with_reducible refine Kd.C_drewN ?_ _) | (with_reducible refine Kd.C_drew ?_))); (case side2 => exact (Kd.R_reads' HO_10.out).2.1); rintro e w38 ⟨rfl, hb⟩; have n0_ := Aside0.mk (Kd.R_below (by (with_reducible repeat (first | apply Kd.R_alloc | apply Kd.R_drewN | apply Kd.R_drew)); exact HO_10.out) hb); have n1_ := Aside0.mk (Kd.R_below (by (with_reducible repeat (first | apply Kd.R_alloc | apply Kd.R_drewN | apply Kd.R_drew)); exact HO_11.out) hb); have n2_ := Aside0.mk (below_step (by repeat (first | (with_reducible first | exact HB.out | apply below_alloc | apply pw_below_drewN | apply below_drew1) | exact HB.out)) hb); clear HO_10; clear HO_11; clear HB; have HO_10 := n0_; have HO_11 := n1_; have HB := n2_; clear n0_ n1_ n2_; (try clear hb); (try clear hb2); (try clear hk); (try clear hi)) | (go_at_call 21; (with_reducible refine (draw_Fair.calls _ _ x10_2 a0 a1 (wrap64 (a0 + a1)) true _ ?side1 ?side2 A34.out).mono ?_); (try clear A34); (case side1 => repeat (first | exact (Kd.R_reads' HO_10.out).2.2 | (with_reducible refine Kd.C_alloc ?_ _) | (with_reducible refine Kd.C_drewN ?_ _) | (with_reducible refine Kd.C_drew ?_))); (case side2 => exact (Kd.R_reads' HO_10.out).2.1); rintro e w39 ⟨rfl, hb⟩; have n0_ := Aside0.mk (Kd.R_below (by (with_reducible repeat (first | apply Kd.R_alloc | apply Kd.R_drewN | apply Kd.R_drew)); exact HO_10.out) hb); have n1_ := Aside0.mk (Kd.R_below (by (with_reducible repeat (first | apply Kd.R_alloc | apply Kd.R_drewN | apply Kd.R_drew)); exact HO_11.out) hb); have n2_ := Aside0.mk (below_step (by repeat (first | (with_reducible first | exact HB.out | apply below_alloc | apply pw_below_drewN | apply below_drew1) | exact HB.out)) hb); clear HO_10; clear HO_11; clear HB; have HO_10 := n0_; have HO_11 := n1_; have HB := n2_; clear n0_ n1_ n2_; (try clear hb); (try clear hb2); (try clear hk); (try clear hi); obtain ⟨Ao40, co40, eo40⟩ := Kd.R_slice HO_11.out; subst eo40))
                      go_ret
                      exact ⟨by first | rfl | (simp [errW_none, errW_some] <;> rfl) | (simp [*, errW_none, errW_some] <;> rfl), by repeat (first | (with_reducible first | exact HB.out | apply below_alloc | apply pw_below_drewN | apply below_drew1) | exact HB.out)⟩
                    · rw [if_neg c36] at H
                      have c36b0 : ((wrap64 (a0 + a1)) == 1) = false := beq_eq_false_iff_ne.mpr c36
                      have c36b1 : ((wrap64 (a0 + a1)) != 1) = true := bne_iff_ne.mpr c36
                      replace H := Option.bind_eq_some_iff.mp H
                      obtain ⟨t196, A410, H⟩ := H
                      replace H : (if t196 = true then (some false) else (some ((x11_2.length : Int) == (wrap64 (a2 * (wrap64 ((wrap64 (a0 + a1)) - 1))))))) = some r := H
                      have A41 := Aside0.mk A410
                      clear A410
                      by_cases c42 : t196 = true
                      · subst c42
                        have H1 : (some false) = some r := by rw [if_pos rfl] at H; exact H
                        clear H
                        have H := H1
                        clear H1
                        exact absurd (H.trans (congrArg some hr_.out)) (by simp)
                      · replace c42 := Bool.eq_false_iff.mpr c42
                        subst c42
                        have H1 : (some ((x11_2.length : Int) == (wrap64 (a2 * (wrap64 ((wrap64 (a0 + a1)) - 1)))))) = some r := by rw [if_neg (show ¬ (false = true) by decide)] at H; exact H
                        clear H
                        have H := H1
                        clear H1
                        obtain rfl := Option.some.inj H
                        clear hr_
                        obtain ⟨Ao43, co43, eo43⟩ := Kd.R_slice HO_10.out
                        subst eo43
                        go_wp2_with (first | (go_at_call 21; (with_reducible refine (draw_Fair.calls _ _ x10_2 a0 a1 (wrap64 ((wrap64 (2 * (wrap64 (a0 + a1)))) - 1)) true _ ?side1 ?side2 A32.out).mono ?_); (try clear A32); (case side1 => repeat (first | exact (Kd.R_reads' HO_10.out).2.2 | (with_reducible refine Kd.C_alloc ?_ _) | (with_reducible refine Kd.C_drewN ?_ _) | (with_reducible refine Kd.C_drew ?_))); (case side2 => exact (Kd.R_reads' HO_10.out).2.1); rintro e w44 ⟨rfl, hb⟩; have n0_ := Aside0.mk (Kd.R_below (by (with_reducible repeat (first | apply Kd.R_alloc | apply Kd.R_drewN | apply Kd.R_drew)); exact HO_10.out) hb); have n1_ := Aside0.mk (Kd.R_below (by (with_reducible repeat (first | apply Kd.R_alloc | apply Kd.R_drewN | apply Kd.R_drew)); exact HO_11.out) hb); have n2_ := Aside0.mk (below_step (by repeat (first | (with_reducible first | exact HB.out | apply below_alloc | apply pw_below_drewN | apply below_drew1) | exact HB.out)) hb); clear HO_10; clear HO_11; clear HB; have HO_10 := n0_; have HO_11 := n1_; have HB := n2_; clear n0_ n1_ n2_; (try clear hb); (try clear hb2); (try clear hk); (try clear hi)) | (go_at_call 21; (with_reducible refine (draw_Fair.calls _ _ x10_2 a0 a1 (wrap64 (a0 + a1)) true _ ?side1 ?side2 A34.out).mono ?_); (try clear A34); (case side1 => repeat (first | exact (Kd.R_reads' HO_10.out).2.2 | (with_reducible refine Kd.C_alloc ?_ _) | (with_reducible refine Kd.C_drewN ?_ _) | (with_reducible refine Kd.C_drew ?_))); (case side2 => exact (Kd.R_reads' HO_10.out).2.1); rintro e w45 ⟨rfl, hb⟩; have n0_ := Aside0.mk (Kd.R_below (by (with_reducible repeat (first | apply Kd.R_alloc | apply Kd.R_drewN | apply Kd.R_drew)); exact HO_10.out) hb); have n1_ := Aside0.mk (Kd.R_below (by (with_reducible repeat (first | apply Kd.R_alloc | apply Kd.R_drewN | apply Kd.R_drew)); exact HO_11.out) hb); have n2_ := Aside0.mk (below_step (by repeat (first | (with_reducible first | exact HB.out | apply below_alloc | apply pw_below_drewN | apply below_drew1) | exact HB.out)) hb); clear HO_10; clear HO_11; clear HB; have HO_10 := n0_; have HO_11 := n1_; have HB := n2_; clear n0_ n1_ n2_; (try clear hb); (try clear hb2); (try clear hk); (try clear hi); obtain ⟨Ao46, co46, eo46⟩ := Kd.R_slice HO_11.out; subst eo46) | (go_at_call 21; (with_reducible refine (draw_Fair.calls _ _ x11_2 a0 a1 1 false _ ?side1 ?side2 A41.out).mono ?_); (try clear A41); (case side1 => repeat (first | exact (Kd.R_reads' HO_11.out).2.2 | (with_reducible refine Kd.C_alloc ?_ _) | (with_reducible refine Kd.C_drewN ?_ _) | (with_reducible refine Kd.C_drew ?_))); (case side2 => exact (Kd.R_reads' HO_11.out).2.1); rintro e w47 ⟨rfl, hb⟩; have n0_ := Aside0.mk (Kd.R_below (by (with_reducible repeat (first | apply Kd.R_alloc | apply Kd.R_drewN | apply Kd.R_drew)); exact HO_10.out) hb); have n1_ := Aside0.mk (Kd.R_below (by (with_reducible repeat (first | apply Kd.R_alloc | apply Kd.R_drewN | apply Kd.R_drew)); exact HO_11.out) hb); have n2_ := Aside0.mk (below_step (by repeat (first | (with_reducible first | exact HB.out | apply below_alloc | apply pw_below_drewN | apply below_drew1) | exact HB.out)) hb); clear HO_10; clear HO_11; clear HB; have HO_10 := n0_; have HO_11 := n1_; have HB := n2_; clear n0_ n1_ n2_; (try clear hb); (try clear hb2); (try clear hk); (try clear hi)))
                        go_ret
                        exact ⟨by first | rfl | (simp [errW_none, errW_some] <;> rfl) | (simp [*, errW_none, errW_some] <;> rfl), by repeat (first | (with_reducible first | exact HB.out | apply below_alloc | apply pw_below_drewN | apply below_drew1) | exact HB.out)⟩
                  · replace c35 := Bool.eq_false_iff.mpr c35
                    subst c35
                    have H1 : (some false) = some r := by rw [if_neg (show ¬ (false = true) by decide)] at H; exact H
                    clear H
                    have H := H1
                    clear H1
                    exact absurd (H.trans (congrArg some hr_.out)) (by simp)
                · replace c33 := Bool.eq_false_iff.mpr c33
                  subst c33
                  have H1 : (some false) = some r := by rw [if_neg (show ¬ (false = true) by decide)] at H; exact H
                  clear H
                  have H := H1
                  clear H1
                  exact absurd (H.trans (congrArg some hr_.out)) (by simp)
              · rw [if_neg c31] at H
                have c31b0 : ((x10_2.length : Int) == (wrap64 (a2 * (wrap64 (a0 + a1))))) = false := beq_eq_false_iff_ne.mpr c31
                have c31b1 : ((x10_2.length : Int) != (wrap64 (a2 * (wrap64 (a0 + a1))))) = true := bne_iff_ne.mpr c31
                exact absurd (H.trans (congrArg some hr_.out)) (by simp)

/-- THE ONE PURE STATEMENT of poacherlaw05_DrawRounds: yours. -/
def poacherlaw05_DrawRounds.Pure : Prop := ∀ (a0 : Int) (a1 : Int) (a2 : Int) (a3 : Int), (Lit.int .i64 a0).wf = true → (Lit.int .i64 a1).wf = true → (Lit.int .i64 a2).wf = true → (Lit.int .i64 a3).wf = true → ∃ k, poacherlaw05_DrawRounds.f k a0 a1 a2 a3 = some true
theorem poacherlaw05_DrawRounds.walk (P : poacherlaw05_DrawRounds.Pure) (a0 : Int) (a1 : Int) (a2 : Int) (a3 : Int) (w : World) (w0 : (Lit.int .i64 a0).wf = true) (w1 : (Lit.int .i64 a1).wf = true) (w2 : (Lit.int .i64 a2).wf = true) (w3 : (Lit.int .i64 a3).wf = true) :
    Calls Try.prog 5 #[.int .i64 a0, .int .i64 a1, .int .i64 a2, .int .i64 a3] w fun e w' => e = .returned (.bool true) ∧ Below w.heap.size w w' := by
  obtain ⟨k, h⟩ := P a0 a1 a2 a3 w0 w1 w2 w3
  refine (poacherlaw05_DrawRounds.calls k a0 a1 a2 a3 true w ⟨rfl⟩ h).mono ?_
  rintro e w' ⟨rfl, hd⟩
  exact ⟨rfl, hd⟩

end Go.Proofs.Ytonhjnfhaelfkaa.QD
