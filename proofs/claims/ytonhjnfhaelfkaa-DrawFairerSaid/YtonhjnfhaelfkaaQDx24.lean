-- Written by inj.py (a program of this session), by the kit's print with functions given by hand. Not trusted: Lean checks it.
import Derived.Test.YtonhjnfhaelfkaaQDx0
import Derived.Test.YtonhjnfhaelfkaaQDx11
import Derived.Test.YtonhjnfhaelfkaaQDx12
namespace Go.Proofs.Ytonhjnfhaelfkaa.QD
open Go.RowKit Go.Proofs.YtonhjnfhaelfkaaW.PrintWords Go.Proofs.YtonhjnfhaelfkaaW.PrintLast Go.Proofs.YtonhjnfhaelfkaaW.PrintMore
attribute [local go_sem] max2_int min2_int max_two min_two max_three min_three max_four min_four   -- for this text's walks alone
set_option linter.unusedVariables false
set_option linter.unusedSimpArgs false

/-! ### poacherlaw05_DrawFairer: function 7 -/
def poacherlaw05_DrawFairer.j0 : Nat → List (S25) → Int → Int → Int → Int → Int → Bool → Bool → Option (Bool)
  | 0, _, _, _, _, _, _, _, _ => none
  | k + 1, x0, x1, x2, x3, x4, x5, x13, x61 => if x61 = true then (some x13) else ((draw_Fair.f x0 x1 x2 x3).bind fun t218 => (if t218 = true then ((draw_Fair.f x0 x1 x2 (wrap64 (x3 + 1))).bind fun t219 => (if t219 = true then (if 0 ≤ x4 then (if x4 ≤ x5 then (if x5 ≤ (x0.length : Int) then ((draw_Fair.f ((x0.take (x5 : Int).toNat).drop (x4 : Int).toNat) x1 x2 x3).bind fun t224 => (if t224 = true then ((draw_Fair.f x0 0 0 x3).bind fun t225 => (if t225 = true then ((draw_Fair.f ([] : List (S25)) x1 x2 x3).bind fun t226 => (some t226)) else (some false))) else (some false))) else (none)) else (none)) else (none)) else (some false))) else ((draw_Fair.f x0 0 0 x3).bind fun t227 => (if t227 = true then ((draw_Fair.f ([] : List (S25)) x1 x2 x3).bind fun t228 => (some t228)) else (some false)))))
def poacherlaw05_DrawFairer.f (k : Nat) (l0 : List (S25)) (a1 : Int) (a2 : Int) (a3 : Int) (a4 : Int) (a5 : Int) : Option (Bool) := (poacherlaw05_awake.f k).bind fun t217 => (if t217 = true then (if (l0.length : Int) > 60 then (poacherlaw05_DrawFairer.j0 k l0 a1 a2 a3 a4 a5 t217 true) else (if a3 < 1 then (poacherlaw05_DrawFairer.j0 k l0 a1 a2 a3 a4 a5 t217 true) else (if a3 > 100 then (poacherlaw05_DrawFairer.j0 k l0 a1 a2 a3 a4 a5 t217 true) else (if a4 < 0 then (poacherlaw05_DrawFairer.j0 k l0 a1 a2 a3 a4 a5 t217 true) else (if a5 < a4 then (poacherlaw05_DrawFairer.j0 k l0 a1 a2 a3 a4 a5 t217 true) else (if a5 > (l0.length : Int) then (poacherlaw05_DrawFairer.j0 k l0 a1 a2 a3 a4 a5 t217 true) else (if a1 < 0 then (poacherlaw05_DrawFairer.j0 k l0 a1 a2 a3 a4 a5 t217 true) else (if a1 > 20 then (poacherlaw05_DrawFairer.j0 k l0 a1 a2 a3 a4 a5 t217 true) else (if a2 < 0 then (poacherlaw05_DrawFairer.j0 k l0 a1 a2 a3 a4 a5 t217 true) else (poacherlaw05_DrawFairer.j0 k l0 a1 a2 a3 a4 a5 t217 (decide (a2 > 20)))))))))))) else (poacherlaw05_DrawFairer.j0 k l0 a1 a2 a3 a4 a5 t217 true))
theorem poacherlaw05_DrawFairer.mono_l : ∀ k, (∀ y0 y1 y2 y3 y4 y5 y6 y7, LeO (poacherlaw05_DrawFairer.j0 k y0 y1 y2 y3 y4 y5 y6 y7) (poacherlaw05_DrawFairer.j0 (k + 1) y0 y1 y2 y3 y4 y5 y6 y7))
  | 0 => fun _ _ _ _ _ _ _ _ r h => by simp [poacherlaw05_DrawFairer.j0] at h
  | k + 1 => by
    have ih0 := poacherlaw05_DrawFairer.mono_l k
    · intro y0 y1 y2 y3 y4 y5 y6 y7
      unfold poacherlaw05_DrawFairer.j0
      repeat' first
      | (with_reducible exact ih0 _ _ _ _ _ _ _ _)
      | (with_reducible exact poacherlaw05_awake.mono _)
      | (with_reducible exact LeO.refl _)
      | (with_reducible exact LeO.none _)
      | (with_reducible refine LeO.ite ?_ ?_)
      | (with_reducible refine LeO.bind ?_ (fun _ => ?_))
      | exact ih0 _ _ _ _ _ _ _ _
      | exact poacherlaw05_awake.mono _
      | exact LeO.none _
      | refine LeO.ite ?_ ?_
      | refine LeO.bind ?_ (fun _ => ?_)
theorem poacherlaw05_DrawFairer.mono : ∀ a0 a1 a2 a3 a4 a5 k, LeO (poacherlaw05_DrawFairer.f k a0 a1 a2 a3 a4 a5) (poacherlaw05_DrawFairer.f (k + 1) a0 a1 a2 a3 a4 a5) := by
  intro a0 a1 a2 a3 a4 a5 k
  have ih0 := poacherlaw05_DrawFairer.mono_l k
  unfold poacherlaw05_DrawFairer.f
  repeat' first
      | (with_reducible exact ih0 _ _ _ _ _ _ _ _)
      | (with_reducible exact poacherlaw05_awake.mono _)
      | (with_reducible exact LeO.refl _)
      | (with_reducible exact LeO.none _)
      | (with_reducible refine LeO.ite ?_ ?_)
      | (with_reducible refine LeO.bind ?_ (fun _ => ?_))
      | exact ih0 _ _ _ _ _ _ _ _
      | exact poacherlaw05_awake.mono _
      | exact LeO.none _
      | refine LeO.ite ?_ ?_
      | refine LeO.bind ?_ (fun _ => ?_)
set_option maxHeartbeats 8000000 in
set_option maxRecDepth 100000 in
theorem poacherlaw05_DrawFairer.calls (k : Nat) (A0 : Option Addr) (c0 : Nat) (l0 : List (S25)) (a1 : Int) (a2 : Int) (a3 : Int) (a4 : Int) (a5 : Int) (r : Bool) (w : World) (hr0 : Kd.C k25 w A0 l0.length l0) (hc0 : l0.length ≤ c0) (hr_ : Aside0 (r = true)) (h : poacherlaw05_DrawFairer.f k l0 a1 a2 a3 a4 a5 = some r) :
    Calls Try.prog 7 #[.slice A0 l0.length c0, .int .i64 a1, .int .i64 a2, .int .i64 a3, .int .i64 a4, .int .i64 a5] w fun e w' => e = .returned (.bool r) ∧ Below w.heap.size w w' := by
  have HR0 := Aside0.mk hr0
  have HC0 := Aside0.mk hc0
  clear hr0 hc0
  have HB := Aside0.mk (Below.refl w.heap.size w)
  have H : ((poacherlaw05_awake.f k).bind fun t217 => (if t217 = true then (if (l0.length : Int) > 60 then (poacherlaw05_DrawFairer.j0 k l0 a1 a2 a3 a4 a5 t217 true) else (if a3 < 1 then (poacherlaw05_DrawFairer.j0 k l0 a1 a2 a3 a4 a5 t217 true) else (if a3 > 100 then (poacherlaw05_DrawFairer.j0 k l0 a1 a2 a3 a4 a5 t217 true) else (if a4 < 0 then (poacherlaw05_DrawFairer.j0 k l0 a1 a2 a3 a4 a5 t217 true) else (if a5 < a4 then (poacherlaw05_DrawFairer.j0 k l0 a1 a2 a3 a4 a5 t217 true) else (if a5 > (l0.length : Int) then (poacherlaw05_DrawFairer.j0 k l0 a1 a2 a3 a4 a5 t217 true) else (if a1 < 0 then (poacherlaw05_DrawFairer.j0 k l0 a1 a2 a3 a4 a5 t217 true) else (if a1 > 20 then (poacherlaw05_DrawFairer.j0 k l0 a1 a2 a3 a4 a5 t217 true) else (if a2 < 0 then (poacherlaw05_DrawFairer.j0 k l0 a1 a2 a3 a4 a5 t217 true) else (poacherlaw05_DrawFairer.j0 k l0 a1 a2 a3 a4 a5 t217 (decide (a2 > 20)))))))))))) else (poacherlaw05_DrawFairer.j0 k l0 a1 a2 a3 a4 a5 t217 true))) = some r := h
  clear h
  replace H := Option.bind_eq_some_iff.mp H
  obtain ⟨t217, A70, H⟩ := H
  replace H : (if t217 = true then (if (l0.length : Int) > 60 then (poacherlaw05_DrawFairer.j0 k l0 a1 a2 a3 a4 a5 t217 true) else (if a3 < 1 then (poacherlaw05_DrawFairer.j0 k l0 a1 a2 a3 a4 a5 t217 true) else (if a3 > 100 then (poacherlaw05_DrawFairer.j0 k l0 a1 a2 a3 a4 a5 t217 true) else (if a4 < 0 then (poacherlaw05_DrawFairer.j0 k l0 a1 a2 a3 a4 a5 t217 true) else (if a5 < a4 then (poacherlaw05_DrawFairer.j0 k l0 a1 a2 a3 a4 a5 t217 true) else (if a5 > (l0.length : Int) then (poacherlaw05_DrawFairer.j0 k l0 a1 a2 a3 a4 a5 t217 true) else (if a1 < 0 then (poacherlaw05_DrawFairer.j0 k l0 a1 a2 a3 a4 a5 t217 true) else (if a1 > 20 then (poacherlaw05_DrawFairer.j0 k l0 a1 a2 a3 a4 a5 t217 true) else (if a2 < 0 then (poacherlaw05_DrawFairer.j0 k l0 a1 a2 a3 a4 a5 t217 true) else (poacherlaw05_DrawFairer.j0 k l0 a1 a2 a3 a4 a5 t217 (decide (a2 > 20)))))))))))) else (poacherlaw05_DrawFairer.j0 k l0 a1 a2 a3 a4 a5 t217 true)) = some r := H
  have A7 := Aside0.mk A70
  clear A70
  have HC8 := Aside0.mk H
  clear H
  go_enter Try.func7, Try.ntmps7
  go_upto_region 2 with (first | ((with_reducible refine gate_callee (f := 10) rfl ?_); refine goesL_ (some 15) rfl rfl Try.func10 (by kernel_rfl) rfl #[] rfl (by (try simp only [List.map_toArray, List.map_cons, List.map_nil]); first | done | rfl | (simp only [List.length_drop, List.length_take]; rfl)) ?_; (with_reducible refine (poacherlaw05_awake.calls k  t217 _ A7.out).mono ?_); (try clear A7); rintro e w9 ⟨rfl, hb⟩; refine ⟨_, rfl, ?_⟩; have n0_ := Aside0.mk (below_step (by repeat (first | (with_reducible first | exact HB.out | apply below_alloc | apply pw_below_drewN | apply below_drew1) | exact HB.out)) hb); clear HB; have HB := n0_; clear n0_; (try clear hb); (try clear hb2); (try clear hk); (try clear hi)))
  (try simp only [Act.put, List.setIfInBounds_toArray, List.set_cons_zero, List.set_cons_succ])
  go_cut [61] (fun v61 wc => ∃ (kq : Nat) (x61_7 : Bool), v61 = .bool x61_7 ∧ Aside0 (poacherlaw05_DrawFairer.j0 kq l0 a1 a2 a3 a4 a5 t217 x61_7 = some r) ∧ Aside0 (kq ≤ k) ∧ Aside0 (Below w.heap.size w wc))
  case first =>
    have H := HC8.out
    clear HC8
    by_cases c10 : t217 = true
    · subst c10
      have H1 : (if (l0.length : Int) > 60 then (poacherlaw05_DrawFairer.j0 k l0 a1 a2 a3 a4 a5 true true) else (if a3 < 1 then (poacherlaw05_DrawFairer.j0 k l0 a1 a2 a3 a4 a5 true true) else (if a3 > 100 then (poacherlaw05_DrawFairer.j0 k l0 a1 a2 a3 a4 a5 true true) else (if a4 < 0 then (poacherlaw05_DrawFairer.j0 k l0 a1 a2 a3 a4 a5 true true) else (if a5 < a4 then (poacherlaw05_DrawFairer.j0 k l0 a1 a2 a3 a4 a5 true true) else (if a5 > (l0.length : Int) then (poacherlaw05_DrawFairer.j0 k l0 a1 a2 a3 a4 a5 true true) else (if a1 < 0 then (poacherlaw05_DrawFairer.j0 k l0 a1 a2 a3 a4 a5 true true) else (if a1 > 20 then (poacherlaw05_DrawFairer.j0 k l0 a1 a2 a3 a4 a5 true true) else (if a2 < 0 then (poacherlaw05_DrawFairer.j0 k l0 a1 a2 a3 a4 a5 true true) else (poacherlaw05_DrawFairer.j0 k l0 a1 a2 a3 a4 a5 true (decide (a2 > 20)))))))))))) = some r := by rw [if_pos rfl] at H; exact H
      clear H
      have H := H1
      clear H1
      by_cases c11 : (l0.length : Int) > 60
      · rw [if_pos c11] at H
        have c11b0 : decide (60 < (l0.length : Int)) = true := decide_eq_true c11
        have c11b1 : decide (60 < l0.length) = true := decide_eq_true (by omega)
        clear c11
        (first | rw [c11b0] | (simp only [i64_w, i32_w]; rw [c11b0]) | skip)
        have H' := Aside0.mk H
        clear H
        go_wp2
        go_meet
        case rel => exact ⟨_, (true), (by first | rfl | (simp; done) | (simp [*]; done)), H', ⟨by first | omega | exact Nat.le_refl _⟩, ⟨by repeat (first | (with_reducible first | exact HB.out | apply below_alloc | apply pw_below_drewN | apply below_drew1) | exact HB.out)⟩⟩
      · rw [if_neg c11] at H
        have c11b0 : decide (60 < (l0.length : Int)) = false := decide_eq_false c11
        have c11b1 : decide (60 < l0.length) = false := decide_eq_false (by omega)
        clear c11
        (first | rw [c11b0] | (simp only [i64_w, i32_w]; rw [c11b0]) | skip)
        by_cases c12 : a3 < 1
        · rw [if_pos c12] at H
          have c12b0 : decide (a3 < 1) = true := decide_eq_true c12
          clear c12
          have H' := Aside0.mk H
          clear H
          go_wp2
          go_meet
          case rel => exact ⟨_, (true), (by first | rfl | (simp; done) | (simp [*]; done)), H', ⟨by first | omega | exact Nat.le_refl _⟩, ⟨by repeat (first | (with_reducible first | exact HB.out | apply below_alloc | apply pw_below_drewN | apply below_drew1) | exact HB.out)⟩⟩
        · rw [if_neg c12] at H
          have c12b0 : decide (a3 < 1) = false := decide_eq_false c12
          clear c12
          by_cases c13 : a3 > 100
          · rw [if_pos c13] at H
            have c13b0 : decide (100 < a3) = true := decide_eq_true c13
            clear c13
            have H' := Aside0.mk H
            clear H
            go_wp2
            go_meet
            case rel => exact ⟨_, (true), (by first | rfl | (simp; done) | (simp [*]; done)), H', ⟨by first | omega | exact Nat.le_refl _⟩, ⟨by repeat (first | (with_reducible first | exact HB.out | apply below_alloc | apply pw_below_drewN | apply below_drew1) | exact HB.out)⟩⟩
          · rw [if_neg c13] at H
            have c13b0 : decide (100 < a3) = false := decide_eq_false c13
            clear c13
            by_cases c14 : a4 < 0
            · rw [if_pos c14] at H
              have c14b0 : decide (a4 < 0) = true := decide_eq_true c14
              clear c14
              have H' := Aside0.mk H
              clear H
              go_wp2
              go_meet
              case rel => exact ⟨_, (true), (by first | rfl | (simp; done) | (simp [*]; done)), H', ⟨by first | omega | exact Nat.le_refl _⟩, ⟨by repeat (first | (with_reducible first | exact HB.out | apply below_alloc | apply pw_below_drewN | apply below_drew1) | exact HB.out)⟩⟩
            · rw [if_neg c14] at H
              have c14b0 : decide (a4 < 0) = false := decide_eq_false c14
              clear c14
              by_cases c15 : a5 < a4
              · rw [if_pos c15] at H
                have c15b0 : decide (a5 < a4) = true := decide_eq_true c15
                clear c15
                have H' := Aside0.mk H
                clear H
                go_wp2
                go_meet
                case rel => exact ⟨_, (true), (by first | rfl | (simp; done) | (simp [*]; done)), H', ⟨by first | omega | exact Nat.le_refl _⟩, ⟨by repeat (first | (with_reducible first | exact HB.out | apply below_alloc | apply pw_below_drewN | apply below_drew1) | exact HB.out)⟩⟩
              · rw [if_neg c15] at H
                have c15b0 : decide (a5 < a4) = false := decide_eq_false c15
                clear c15
                by_cases c16 : a5 > (l0.length : Int)
                · rw [if_pos c16] at H
                  have c16b0 : decide ((l0.length : Int) < a5) = true := decide_eq_true c16
                  clear c16
                  have H' := Aside0.mk H
                  clear H
                  go_wp2
                  go_meet
                  case rel => exact ⟨_, (true), (by first | rfl | (simp; done) | (simp [*]; done)), H', ⟨by first | omega | exact Nat.le_refl _⟩, ⟨by repeat (first | (with_reducible first | exact HB.out | apply below_alloc | apply pw_below_drewN | apply below_drew1) | exact HB.out)⟩⟩
                · rw [if_neg c16] at H
                  have c16b0 : decide ((l0.length : Int) < a5) = false := decide_eq_false c16
                  clear c16
                  by_cases c17 : a1 < 0
                  · rw [if_pos c17] at H
                    have c17b0 : decide (a1 < 0) = true := decide_eq_true c17
                    clear c17
                    have H' := Aside0.mk H
                    clear H
                    go_wp2
                    go_meet
                    case rel => exact ⟨_, (true), (by first | rfl | (simp; done) | (simp [*]; done)), H', ⟨by first | omega | exact Nat.le_refl _⟩, ⟨by repeat (first | (with_reducible first | exact HB.out | apply below_alloc | apply pw_below_drewN | apply below_drew1) | exact HB.out)⟩⟩
                  · rw [if_neg c17] at H
                    have c17b0 : decide (a1 < 0) = false := decide_eq_false c17
                    clear c17
                    by_cases c18 : a1 > 20
                    · rw [if_pos c18] at H
                      have c18b0 : decide (20 < a1) = true := decide_eq_true c18
                      clear c18
                      have H' := Aside0.mk H
                      clear H
                      go_wp2
                      go_meet
                      case rel => exact ⟨_, (true), (by first | rfl | (simp; done) | (simp [*]; done)), H', ⟨by first | omega | exact Nat.le_refl _⟩, ⟨by repeat (first | (with_reducible first | exact HB.out | apply below_alloc | apply pw_below_drewN | apply below_drew1) | exact HB.out)⟩⟩
                    · rw [if_neg c18] at H
                      have c18b0 : decide (20 < a1) = false := decide_eq_false c18
                      clear c18
                      by_cases c19 : a2 < 0
                      · rw [if_pos c19] at H
                        have c19b0 : decide (a2 < 0) = true := decide_eq_true c19
                        clear c19
                        have H' := Aside0.mk H
                        clear H
                        go_wp2
                        go_meet
                        case rel => exact ⟨_, (true), (by first | rfl | (simp; done) | (simp [*]; done)), H', ⟨by first | omega | exact Nat.le_refl _⟩, ⟨by repeat (first | (with_reducible first | exact HB.out | apply below_alloc | apply pw_below_drewN | apply below_drew1) | exact HB.out)⟩⟩
                      · rw [if_neg c19] at H
                        have c19b0 : decide (a2 < 0) = false := decide_eq_false c19
                        clear c19
                        have H' := Aside0.mk H
                        clear H
                        go_wp2
                        go_meet
                        case rel => exact ⟨_, (decide (a2 > 20)), (by first | rfl | (simp; done) | (simp [*]; done)), H', ⟨by first | omega | exact Nat.le_refl _⟩, ⟨by repeat (first | (with_reducible first | exact HB.out | apply below_alloc | apply pw_below_drewN | apply below_drew1) | exact HB.out)⟩⟩
    · replace c10 := Bool.eq_false_iff.mpr c10
      subst c10
      have H1 : (poacherlaw05_DrawFairer.j0 k l0 a1 a2 a3 a4 a5 false true) = some r := by rw [if_neg (show ¬ (false = true) by decide)] at H; exact H
      clear H
      have H := H1
      clear H1
      have H' := Aside0.mk H
      clear H
      go_wp2
      go_meet
      case rel => exact ⟨_, (true), (by first | rfl | (simp; done) | (simp [*]; done)), H', ⟨by first | omega | exact Nat.le_refl _⟩, ⟨by repeat (first | (with_reducible first | exact HB.out | apply below_alloc | apply pw_below_drewN | apply below_drew1) | exact HB.out)⟩⟩
  case rest =>
    clear HC8
    try clear c1
    try clear p2
    try clear c7
    try clear c10
    try clear c11
    try clear c11b0
    try clear c11b1
    try clear c12
    try clear c12b0
    try clear c13
    try clear c13b0
    try clear c14
    try clear c14b0
    try clear c15
    try clear c15b0
    try clear c16
    try clear c16b0
    try clear c17
    try clear c17b0
    try clear c18
    try clear c18b0
    try clear c19
    try clear c19b0
    obtain ⟨kq, x61_7, rfl, HA, HJ7, HB⟩ := hcut
    cases kq with
    | zero => exact absurd HA.out (by simp [poacherlaw05_DrawFairer.j0])
    | succ kj7 =>
      have H := HA.out
      clear HA
      simp only [poacherlaw05_DrawFairer.j0] at H
      by_cases c20 : x61_7 = true
      · subst c20
        have H1 : (some t217) = some r := by rw [if_pos rfl] at H; exact H
        clear H
        have H := H1
        clear H1
        obtain rfl := Option.some.inj H
        clear hr_
        go_wp2
        go_ret
        exact ⟨by first | rfl | (simp [errW_none, errW_some] <;> rfl) | (simp [*, errW_none, errW_some] <;> rfl), by repeat (first | (with_reducible first | exact HB.out | apply below_alloc | apply pw_below_drewN | apply below_drew1) | exact HB.out)⟩
      · replace c20 := Bool.eq_false_iff.mpr c20
        subst c20
        have H1 : ((draw_Fair.f l0 a1 a2 a3).bind fun t218 => (if t218 = true then ((draw_Fair.f l0 a1 a2 (wrap64 (a3 + 1))).bind fun t219 => (if t219 = true then (if 0 ≤ a4 then (if a4 ≤ a5 then (if a5 ≤ (l0.length : Int) then ((draw_Fair.f ((l0.take (a5 : Int).toNat).drop (a4 : Int).toNat) a1 a2 a3).bind fun t224 => (if t224 = true then ((draw_Fair.f l0 0 0 a3).bind fun t225 => (if t225 = true then ((draw_Fair.f ([] : List (S25)) a1 a2 a3).bind fun t226 => (some t226)) else (some false))) else (some false))) else (none)) else (none)) else (none)) else (some false))) else ((draw_Fair.f l0 0 0 a3).bind fun t227 => (if t227 = true then ((draw_Fair.f ([] : List (S25)) a1 a2 a3).bind fun t228 => (some t228)) else (some false))))) = some r := by rw [if_neg (show ¬ (false = true) by decide)] at H; exact H
        clear H
        have H := H1
        clear H1
        replace H := Option.bind_eq_some_iff.mp H
        obtain ⟨t218, A210, H⟩ := H
        replace H : (if t218 = true then ((draw_Fair.f l0 a1 a2 (wrap64 (a3 + 1))).bind fun t219 => (if t219 = true then (if 0 ≤ a4 then (if a4 ≤ a5 then (if a5 ≤ (l0.length : Int) then ((draw_Fair.f ((l0.take (a5 : Int).toNat).drop (a4 : Int).toNat) a1 a2 a3).bind fun t224 => (if t224 = true then ((draw_Fair.f l0 0 0 a3).bind fun t225 => (if t225 = true then ((draw_Fair.f ([] : List (S25)) a1 a2 a3).bind fun t226 => (some t226)) else (some false))) else (some false))) else (none)) else (none)) else (none)) else (some false))) else ((draw_Fair.f l0 0 0 a3).bind fun t227 => (if t227 = true then ((draw_Fair.f ([] : List (S25)) a1 a2 a3).bind fun t228 => (some t228)) else (some false)))) = some r := H
        have A21 := Aside0.mk A210
        clear A210
        by_cases c22 : t218 = true
        · subst c22
          have H1 : ((draw_Fair.f l0 a1 a2 (wrap64 (a3 + 1))).bind fun t219 => (if t219 = true then (if 0 ≤ a4 then (if a4 ≤ a5 then (if a5 ≤ (l0.length : Int) then ((draw_Fair.f ((l0.take (a5 : Int).toNat).drop (a4 : Int).toNat) a1 a2 a3).bind fun t224 => (if t224 = true then ((draw_Fair.f l0 0 0 a3).bind fun t225 => (if t225 = true then ((draw_Fair.f ([] : List (S25)) a1 a2 a3).bind fun t226 => (some t226)) else (some false))) else (some false))) else (none)) else (none)) else (none)) else (some false))) = some r := by rw [if_pos rfl] at H; exact H
          clear H
          have H := H1
          clear H1
          replace H := Option.bind_eq_some_iff.mp H
          obtain ⟨t219, A230, H⟩ := H
          replace H : (if t219 = true then (if 0 ≤ a4 then (if a4 ≤ a5 then (if a5 ≤ (l0.length : Int) then ((draw_Fair.f ((l0.take (a5 : Int).toNat).drop (a4 : Int).toNat) a1 a2 a3).bind fun t224 => (if t224 = true then ((draw_Fair.f l0 0 0 a3).bind fun t225 => (if t225 = true then ((draw_Fair.f ([] : List (S25)) a1 a2 a3).bind fun t226 => (some t226)) else (some false))) else (some false))) else (none)) else (none)) else (none)) else (some false)) = some r := H
          have A23 := Aside0.mk A230
          clear A230
          by_cases c24 : t219 = true
          · subst c24
            have H1 : (if 0 ≤ a4 then (if a4 ≤ a5 then (if a5 ≤ (l0.length : Int) then ((draw_Fair.f ((l0.take (a5 : Int).toNat).drop (a4 : Int).toNat) a1 a2 a3).bind fun t224 => (if t224 = true then ((draw_Fair.f l0 0 0 a3).bind fun t225 => (if t225 = true then ((draw_Fair.f ([] : List (S25)) a1 a2 a3).bind fun t226 => (some t226)) else (some false))) else (some false))) else (none)) else (none)) else (none)) = some r := by rw [if_pos rfl] at H; exact H
            clear H
            have H := H1
            clear H1
            by_cases c25 : 0 ≤ a4
            · rw [if_pos c25] at H
              have c25b0 := eq_true c25
              have c25b1 : decide (0 ≤ a4) = true := decide_eq_true c25
              clear c25
              by_cases c26 : a4 ≤ a5
              · rw [if_pos c26] at H
                have c26b0 := eq_true c26
                have c26b1 : decide (a4 ≤ a5) = true := decide_eq_true c26
                clear c26
                by_cases c27 : a5 ≤ (l0.length : Int)
                · rw [if_pos c27] at H
                  have c27b0 := eq_true c27
                  have c27b1 : decide (a5 ≤ (l0.length : Int)) = true := decide_eq_true c27
                  clear c27
                  obtain ⟨y220, hy220⟩ : ∃ y_ : List (S25), y_ = ((l0.take (a5 : Int).toNat).drop (a4 : Int).toNat) := ⟨_, rfl⟩
                  replace H : ((draw_Fair.f y220 a1 a2 a3).bind fun t224 => (if t224 = true then ((draw_Fair.f l0 0 0 a3).bind fun t225 => (if t225 = true then ((draw_Fair.f ([] : List (S25)) a1 a2 a3).bind fun t226 => (some t226)) else (some false))) else (some false))) = some r := by first | (rw [hy220]; with_reducible exact H) | (have H2_ := (Option.bind_some _ _).symm.trans H; rw [hy220]; with_reducible exact H2_) | (have H2_ := (Option.bind_some _ _).symm.trans H; with_reducible exact H2_) | with_reducible exact H | (rw [hy220]; exact H) | exact H
                  have Ny220 := Aside0.mk hy220
                  clear hy220
                  replace H := Option.bind_eq_some_iff.mp H
                  obtain ⟨t224, A280, H⟩ := H
                  replace H : (if t224 = true then ((draw_Fair.f l0 0 0 a3).bind fun t225 => (if t225 = true then ((draw_Fair.f ([] : List (S25)) a1 a2 a3).bind fun t226 => (some t226)) else (some false))) else (some false)) = some r := H
                  have A28 := Aside0.mk A280
                  clear A280
                  by_cases c29 : t224 = true
                  · subst c29
                    have H1 : ((draw_Fair.f l0 0 0 a3).bind fun t225 => (if t225 = true then ((draw_Fair.f ([] : List (S25)) a1 a2 a3).bind fun t226 => (some t226)) else (some false))) = some r := by rw [if_pos rfl] at H; exact H
                    clear H
                    have H := H1
                    clear H1
                    replace H := Option.bind_eq_some_iff.mp H
                    obtain ⟨t225, A300, H⟩ := H
                    replace H : (if t225 = true then ((draw_Fair.f ([] : List (S25)) a1 a2 a3).bind fun t226 => (some t226)) else (some false)) = some r := H
                    have A30 := Aside0.mk A300
                    clear A300
                    by_cases c31 : t225 = true
                    · subst c31
                      have H1 : ((draw_Fair.f ([] : List (S25)) a1 a2 a3).bind fun t226 => (some t226)) = some r := by rw [if_pos rfl] at H; exact H
                      clear H
                      have H := H1
                      clear H1
                      replace H := Option.bind_eq_some_iff.mp H
                      obtain ⟨t226, A320, H⟩ := H
                      replace H : (some t226) = some r := H
                      have A32 := Aside0.mk A320
                      clear A320
                      obtain rfl := Option.some.inj H
                      clear hr_
                      go_wp2_with (first | ((with_reducible refine gate_callee (f := 21) rfl ?_); refine goesL_ (some 67) rfl rfl Try.func21 (by kernel_rfl) rfl #[.slice A0 l0.length c0, .int .i64 a1, .int .i64 a2, .int .i64 a3] rfl (by (try simp only [List.map_toArray, List.map_cons, List.map_nil]); first | done | rfl | (simp only [List.length_drop, List.length_take]; rfl)) ?_; (with_reducible refine (draw_Fair.calls _ _ l0 a1 a2 a3 true _ ?side1 ?side2 A21.out).mono ?_); (try clear A21); (case side1 => repeat (first | exact (Kd.C_below HR0.out HB.out) | (with_reducible refine Kd.C_alloc ?_ _) | (with_reducible refine Kd.C_drewN ?_ _) | (with_reducible refine Kd.C_drew ?_))); (case side2 => exact HC0.out); rintro e w33 ⟨rfl, hb⟩; refine ⟨_, rfl, ?_⟩; have n0_ := Aside0.mk (below_step (by repeat (first | (with_reducible first | exact HB.out | apply below_alloc | apply pw_below_drewN | apply below_drew1) | exact HB.out)) hb); clear HB; have HB := n0_; clear n0_; (try clear hb); (try clear hb2); (try clear hk); (try clear hi)) | (go_at_call 21; (with_reducible refine (draw_Fair.calls _ _ l0 a1 a2 (wrap64 (a3 + 1)) true _ ?side1 ?side2 A23.out).mono ?_); (try clear A23); (case side1 => repeat (first | exact (Kd.C_below HR0.out HB.out) | (with_reducible refine Kd.C_alloc ?_ _) | (with_reducible refine Kd.C_drewN ?_ _) | (with_reducible refine Kd.C_drew ?_))); (case side2 => exact HC0.out); rintro e w34 ⟨rfl, hb⟩; have n0_ := Aside0.mk (below_step (by repeat (first | (with_reducible first | exact HB.out | apply below_alloc | apply pw_below_drewN | apply below_drew1) | exact HB.out)) hb); clear HB; have HB := n0_; clear n0_; (try clear hb); (try clear hb2); (try clear hk); (try clear hi); have q35 : (a5 : Int) ≤ ((l0.length : Int) : Int) := of_decide_eq_true (by first | (with_reducible assumption) | assumption); obtain ⟨i035, hi035, _, hsz35, _⟩ := info_parts info25; have hroom35 : l0.length ≤ c0 := HC0.out; have hC35 : Kd.C k25 _ A0 l0.length l0 := HR0.out; have ql35 : (a4 : Int) ≤ (a5 : Int) := of_decide_eq_true (by first | (with_reducible assumption) | assumption); have q035 : (0 : Int) ≤ (a4 : Int) := of_decide_eq_true (by first | (with_reducible assumption) | assumption); have hcut35 := cut_mid (P := Try.prog) 26 25 .i64 .i64 Try.underlying26 hi035 3 hsz35 A0 l0.length c0 a4 a5 q035 ql35 q35 hroom35; have hr35 := Kd.C_mid (lo := (a4 : Int).toNat) (hi := (a5 : Int).toNat) (c := c0) hC35 (by omega) (by omega) hroom35; obtain ⟨A35, hA35⟩ : ∃ A1, A1 = (if c0 = (a4 : Int).toNat then A0 else (A0 : Option Addr).map (·.add ((a4 : Int).toNat * 3))) := ⟨_, rfl⟩; obtain ⟨c35, hc35⟩ : ∃ c1, c1 = c0 - (a4 : Int).toNat := ⟨_, rfl⟩; have hy35 : y220.length = (a5 : Int).toNat - (a4 : Int).toNat := (by rw [Ny220.out, List.length_drop, List.length_take] <;> omega); rw [show ((l0).take (a5 : Int).toNat).drop (a4 : Int).toNat = y220 from Ny220.out.symm] at hr35; replace hr35 : Kd.C k25 _ A35 y220.length y220 := (by rw [hA35]; exact hr35); rw [← hy35, ← hA35, ← hc35] at hcut35; have HR223 := Aside0.mk hr35; have HC223 := Aside0.mk (show y220.length ≤ c35 from by rw [hy35, hc35]; exact Nat.sub_le_sub_right (Nat.le_trans (by omega) hroom35) _); clear hr35 hC35 hroom35 hi035 hsz35 hc35; have KY35 := Aside0.mk hy35; have KA35 := Aside0.mk hA35; clear hy35 hA35; replace q35 := eq_true q35) | (go_at_call 21; (with_reducible refine (draw_Fair.calls _ _ y220 a1 a2 a3 true _ ?side1 ?side2 A28.out).mono ?_); (try clear A28); (case side1 => repeat (first | exact (Kd.C_below HR223.out HB.out) | (with_reducible refine Kd.C_alloc ?_ _) | (with_reducible refine Kd.C_drewN ?_ _) | (with_reducible refine Kd.C_drew ?_))); (case side2 => exact HC223.out); rintro e w36 ⟨rfl, hb⟩; have n0_ := Aside0.mk (below_step (by repeat (first | (with_reducible first | exact HB.out | apply below_alloc | apply pw_below_drewN | apply below_drew1) | exact HB.out)) hb); clear HB; have HB := n0_; clear n0_; (try clear hb); (try clear hb2); (try clear hk); (try clear hi)) | (go_at_call 21; (with_reducible refine (draw_Fair.calls _ _ l0 0 0 a3 true _ ?side1 ?side2 A30.out).mono ?_); (try clear A30); (case side1 => repeat (first | exact (Kd.C_below HR0.out HB.out) | (with_reducible refine Kd.C_alloc ?_ _) | (with_reducible refine Kd.C_drewN ?_ _) | (with_reducible refine Kd.C_drew ?_))); (case side2 => exact HC0.out); rintro e w37 ⟨rfl, hb⟩; have n0_ := Aside0.mk (below_step (by repeat (first | (with_reducible first | exact HB.out | apply below_alloc | apply pw_below_drewN | apply below_drew1) | exact HB.out)) hb); clear HB; have HB := n0_; clear n0_; (try clear hb); (try clear hb2); (try clear hk); (try clear hi)) | (go_at_call 21; (refine (draw_Fair.calls _ _ ([] : List (S25)) a1 a2 a3 t226 _ ?side1 ?side2 A32.out).mono ?_); (try clear A32); (case side1 => exact Kd.C_nil _ _); (case side2 => exact Nat.le_refl _); rintro e w38 ⟨rfl, hb⟩; have n0_ := Aside0.mk (below_step (by repeat (first | (with_reducible first | exact HB.out | apply below_alloc | apply pw_below_drewN | apply below_drew1) | exact HB.out)) hb); clear HB; have HB := n0_; clear n0_; (try clear hb); (try clear hb2); (try clear hk); (try clear hi)))
                      go_ret
                      exact ⟨by first | rfl | (simp [errW_none, errW_some] <;> rfl) | (simp [*, errW_none, errW_some] <;> rfl), by repeat (first | (with_reducible first | exact HB.out | apply below_alloc | apply pw_below_drewN | apply below_drew1) | exact HB.out)⟩
                    · replace c31 := Bool.eq_false_iff.mpr c31
                      subst c31
                      have H1 : (some false) = some r := by rw [if_neg (show ¬ (false = true) by decide)] at H; exact H
                      clear H
                      have H := H1
                      clear H1
                      exact absurd (H.trans (congrArg some hr_.out)) (by simp)
                  · replace c29 := Bool.eq_false_iff.mpr c29
                    subst c29
                    have H1 : (some false) = some r := by rw [if_neg (show ¬ (false = true) by decide)] at H; exact H
                    clear H
                    have H := H1
                    clear H1
                    exact absurd (H.trans (congrArg some hr_.out)) (by simp)
                · rw [if_neg c27] at H
                  exact absurd H (by simp)
              · rw [if_neg c26] at H
                exact absurd H (by simp)
            · rw [if_neg c25] at H
              exact absurd H (by simp)
          · replace c24 := Bool.eq_false_iff.mpr c24
            subst c24
            have H1 : (some false) = some r := by rw [if_neg (show ¬ (false = true) by decide)] at H; exact H
            clear H
            have H := H1
            clear H1
            exact absurd (H.trans (congrArg some hr_.out)) (by simp)
        · replace c22 := Bool.eq_false_iff.mpr c22
          subst c22
          have H1 : ((draw_Fair.f l0 0 0 a3).bind fun t227 => (if t227 = true then ((draw_Fair.f ([] : List (S25)) a1 a2 a3).bind fun t228 => (some t228)) else (some false))) = some r := by rw [if_neg (show ¬ (false = true) by decide)] at H; exact H
          clear H
          have H := H1
          clear H1
          replace H := Option.bind_eq_some_iff.mp H
          obtain ⟨t227, A390, H⟩ := H
          replace H : (if t227 = true then ((draw_Fair.f ([] : List (S25)) a1 a2 a3).bind fun t228 => (some t228)) else (some false)) = some r := H
          have A39 := Aside0.mk A390
          clear A390
          by_cases c40 : t227 = true
          · subst c40
            have H1 : ((draw_Fair.f ([] : List (S25)) a1 a2 a3).bind fun t228 => (some t228)) = some r := by rw [if_pos rfl] at H; exact H
            clear H
            have H := H1
            clear H1
            replace H := Option.bind_eq_some_iff.mp H
            obtain ⟨t228, A410, H⟩ := H
            replace H : (some t228) = some r := H
            have A41 := Aside0.mk A410
            clear A410
            obtain rfl := Option.some.inj H
            clear hr_
            go_wp2_with (first | ((with_reducible refine gate_callee (f := 21) rfl ?_); refine goesL_ (some 67) rfl rfl Try.func21 (by kernel_rfl) rfl #[.slice A0 l0.length c0, .int .i64 a1, .int .i64 a2, .int .i64 a3] rfl (by (try simp only [List.map_toArray, List.map_cons, List.map_nil]); first | done | rfl | (simp only [List.length_drop, List.length_take]; rfl)) ?_; (with_reducible refine (draw_Fair.calls _ _ l0 a1 a2 a3 false _ ?side1 ?side2 A21.out).mono ?_); (try clear A21); (case side1 => repeat (first | exact (Kd.C_below HR0.out HB.out) | (with_reducible refine Kd.C_alloc ?_ _) | (with_reducible refine Kd.C_drewN ?_ _) | (with_reducible refine Kd.C_drew ?_))); (case side2 => exact HC0.out); rintro e w42 ⟨rfl, hb⟩; refine ⟨_, rfl, ?_⟩; have n0_ := Aside0.mk (below_step (by repeat (first | (with_reducible first | exact HB.out | apply below_alloc | apply pw_below_drewN | apply below_drew1) | exact HB.out)) hb); clear HB; have HB := n0_; clear n0_; (try clear hb); (try clear hb2); (try clear hk); (try clear hi)) | (go_at_call 21; (with_reducible refine (draw_Fair.calls _ _ l0 0 0 a3 true _ ?side1 ?side2 A39.out).mono ?_); (try clear A39); (case side1 => repeat (first | exact (Kd.C_below HR0.out HB.out) | (with_reducible refine Kd.C_alloc ?_ _) | (with_reducible refine Kd.C_drewN ?_ _) | (with_reducible refine Kd.C_drew ?_))); (case side2 => exact HC0.out); rintro e w43 ⟨rfl, hb⟩; have n0_ := Aside0.mk (below_step (by repeat (first | (with_reducible first | exact HB.out | apply below_alloc | apply pw_below_drewN | apply below_drew1) | exact HB.out)) hb); clear HB; have HB := n0_; clear n0_; (try clear hb); (try clear hb2); (try clear hk); (try clear hi)) | (go_at_call 21; (refine (draw_Fair.calls _ _ ([] : List (S25)) a1 a2 a3 t228 _ ?side1 ?side2 A41.out).mono ?_); (try clear A41); (case side1 => exact Kd.C_nil _ _); (case side2 => exact Nat.le_refl _); rintro e w44 ⟨rfl, hb⟩; have n0_ := Aside0.mk (below_step (by repeat (first | (with_reducible first | exact HB.out | apply below_alloc | apply pw_below_drewN | apply below_drew1) | exact HB.out)) hb); clear HB; have HB := n0_; clear n0_; (try clear hb); (try clear hb2); (try clear hk); (try clear hi)))
            go_ret
            exact ⟨by first | rfl | (simp [errW_none, errW_some] <;> rfl) | (simp [*, errW_none, errW_some] <;> rfl), by repeat (first | (with_reducible first | exact HB.out | apply below_alloc | apply pw_below_drewN | apply below_drew1) | exact HB.out)⟩
          · replace c40 := Bool.eq_false_iff.mpr c40
            subst c40
            have H1 : (some false) = some r := by rw [if_neg (show ¬ (false = true) by decide)] at H; exact H
            clear H
            have H := H1
            clear H1
            exact absurd (H.trans (congrArg some hr_.out)) (by simp)

end Go.Proofs.Ytonhjnfhaelfkaa.QD
