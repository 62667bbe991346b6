-- Written by inj.py (a program of this session), by the kit's print with functions given by hand. Not trusted: Lean checks it.
import Derived.Test.YtonhjnfhaelfkaaQDx0
import Derived.Test.YtonhjnfhaelfkaaQDx6
import Derived.Test.YtonhjnfhaelfkaaQDx12
namespace Go.Proofs.Ytonhjnfhaelfkaa.QD
open Go.RowKit Go.Proofs.YtonhjnfhaelfkaaW.PrintWords Go.Proofs.YtonhjnfhaelfkaaW.PrintLast Go.Proofs.YtonhjnfhaelfkaaW.PrintMore
attribute [local go_sem] max2_int min2_int max_two min_two max_three min_three max_four min_four   -- for this text's walks alone
set_option linter.unusedVariables false
set_option linter.unusedSimpArgs false

/-! ### poacherlaw05_DrawVictim: function 4 -/
mutual
def poacherlaw05_DrawVictim.j0 : Nat → Int → Int → Int → Int → Bool → Bool → Option (Bool)
  | 0, _, _, _, _, _, _ => none
  | k + 1, x0, x1, x2, x3, x9, x31 => if x31 = true then (if x9 = true then (if x2 > 64 then (some true) else ((draw_Victim.f x0 x1 x2).bind fun t189 => (some (t189 == (-1))))) else (some false)) else ((draw_Victim.f x0 x1 x2).bind fun t190 => (if (IntKind.u64.wrap (wrap64 (x2 - 1))) = 0 then (none) else ((draw_Victim.f (Int.tmod x0 (IntKind.u64.wrap (wrap64 (x2 - 1)))) x1 x2).bind fun t191 => (if t190 < 0 then (poacherlaw05_DrawVictim.j1 k x1 x2 x3 true) else (if t190 ≥ x2 then (poacherlaw05_DrawVictim.j1 k x1 x2 x3 true) else (if t190 = x1 then (poacherlaw05_DrawVictim.j1 k x1 x2 x3 true) else (poacherlaw05_DrawVictim.j1 k x1 x2 x3 (t191 != t190))))))))
def poacherlaw05_DrawVictim.j1 : Nat → Int → Int → Int → Bool → Option (Bool)
  | 0, _, _, _, _ => none
  | k + 1, x1, x2, x3, x72 => if x72 = true then (some false) else (if x3 < 0 then (some true) else (if x3 ≥ x2 then (some true) else (if x3 = x1 then (some true) else (if x2 = 0 then (none) else ((draw_Victim.f (IntKind.u64.wrap (Int.tmod (wrap64 ((wrap64 ((wrap64 (x3 - x1)) - 1)) + x2)) x2)) x1 x2).bind fun t192 => (some (t192 == x3)))))))
end
def poacherlaw05_DrawVictim.f (k : Nat) (a0 : Int) (a1 : Int) (a2 : Int) (a3 : Int) : Option (Bool) := (poacherlaw05_awake.f k).bind fun t188 => (if t188 = true then (if a2 < 2 then (poacherlaw05_DrawVictim.j0 k a0 a1 a2 a3 t188 true) else (if a2 > 64 then (poacherlaw05_DrawVictim.j0 k a0 a1 a2 a3 t188 true) else (if a1 < 0 then (poacherlaw05_DrawVictim.j0 k a0 a1 a2 a3 t188 true) else (poacherlaw05_DrawVictim.j0 k a0 a1 a2 a3 t188 (decide (a1 ≥ a2)))))) else (poacherlaw05_DrawVictim.j0 k a0 a1 a2 a3 t188 true))
theorem poacherlaw05_DrawVictim.mono_l : ∀ k, (∀ y0 y1 y2 y3 y4 y5, LeO (poacherlaw05_DrawVictim.j0 k y0 y1 y2 y3 y4 y5) (poacherlaw05_DrawVictim.j0 (k + 1) y0 y1 y2 y3 y4 y5)) ∧ (∀ y0 y1 y2 y3, LeO (poacherlaw05_DrawVictim.j1 k y0 y1 y2 y3) (poacherlaw05_DrawVictim.j1 (k + 1) y0 y1 y2 y3))
  | 0 => ⟨fun _ _ _ _ _ _ r h => by simp [poacherlaw05_DrawVictim.j0] at h, fun _ _ _ _ r h => by simp [poacherlaw05_DrawVictim.j1] at h⟩
  | k + 1 => by
    obtain ⟨ih0, ih1⟩ := poacherlaw05_DrawVictim.mono_l k
    refine ⟨?_, ?_⟩
    · intro y0 y1 y2 y3 y4 y5
      unfold poacherlaw05_DrawVictim.j0
      repeat' first
      | (with_reducible exact ih0 _ _ _ _ _ _)
      | (with_reducible exact ih1 _ _ _ _)
      | (with_reducible exact poacherlaw05_awake.mono _)
      | (with_reducible exact LeO.refl _)
      | (with_reducible exact LeO.none _)
      | (with_reducible refine LeO.ite ?_ ?_)
      | (with_reducible refine LeO.bind ?_ (fun _ => ?_))
      | exact ih0 _ _ _ _ _ _
      | exact ih1 _ _ _ _
      | exact poacherlaw05_awake.mono _
      | exact LeO.none _
      | refine LeO.ite ?_ ?_
      | refine LeO.bind ?_ (fun _ => ?_)
    · intro y0 y1 y2 y3
      unfold poacherlaw05_DrawVictim.j1
      repeat' first
      | (with_reducible exact ih0 _ _ _ _ _ _)
      | (with_reducible exact ih1 _ _ _ _)
      | (with_reducible exact poacherlaw05_awake.mono _)
      | (with_reducible exact LeO.refl _)
      | (with_reducible exact LeO.none _)
      | (with_reducible refine LeO.ite ?_ ?_)
      | (with_reducible refine LeO.bind ?_ (fun _ => ?_))
      | exact ih0 _ _ _ _ _ _
      | exact ih1 _ _ _ _
      | exact poacherlaw05_awake.mono _
      | exact LeO.none _
      | refine LeO.ite ?_ ?_
      | refine LeO.bind ?_ (fun _ => ?_)
theorem poacherlaw05_DrawVictim.mono : ∀ a0 a1 a2 a3 k, LeO (poacherlaw05_DrawVictim.f k a0 a1 a2 a3) (poacherlaw05_DrawVictim.f (k + 1) a0 a1 a2 a3) := by
  intro a0 a1 a2 a3 k
  obtain ⟨ih0, ih1⟩ := poacherlaw05_DrawVictim.mono_l k
  unfold poacherlaw05_DrawVictim.f
  repeat' first
      | (with_reducible exact ih0 _ _ _ _ _ _)
      | (with_reducible exact ih1 _ _ _ _)
      | (with_reducible exact poacherlaw05_awake.mono _)
      | (with_reducible exact LeO.refl _)
      | (with_reducible exact LeO.none _)
      | (with_reducible refine LeO.ite ?_ ?_)
      | (with_reducible refine LeO.bind ?_ (fun _ => ?_))
      | exact ih0 _ _ _ _ _ _
      | exact ih1 _ _ _ _
      | exact poacherlaw05_awake.mono _
      | exact LeO.none _
      | refine LeO.ite ?_ ?_
      | refine LeO.bind ?_ (fun _ => ?_)
set_option maxHeartbeats 8000000 in
set_option maxRecDepth 100000 in
theorem poacherlaw05_DrawVictim.calls (k : Nat) (a0 : Int) (a1 : Int) (a2 : Int) (a3 : Int) (r : Bool) (w : World) (hr_ : Aside0 (r = true)) (h : poacherlaw05_DrawVictim.f k a0 a1 a2 a3 = some r) :
    Calls Try.prog 4 #[.int .u64 a0, .int .i64 a1, .int .i64 a2, .int .i64 a3] w fun e w' => e = .returned (.bool r) ∧ Below w.heap.size w w' := by
  have HB := Aside0.mk (Below.refl w.heap.size w)
  have H : ((poacherlaw05_awake.f k).bind fun t188 => (if t188 = true then (if a2 < 2 then (poacherlaw05_DrawVictim.j0 k a0 a1 a2 a3 t188 true) else (if a2 > 64 then (poacherlaw05_DrawVictim.j0 k a0 a1 a2 a3 t188 true) else (if a1 < 0 then (poacherlaw05_DrawVictim.j0 k a0 a1 a2 a3 t188 true) else (poacherlaw05_DrawVictim.j0 k a0 a1 a2 a3 t188 (decide (a1 ≥ a2)))))) else (poacherlaw05_DrawVictim.j0 k a0 a1 a2 a3 t188 true))) = some r := h
  clear h
  replace H := Option.bind_eq_some_iff.mp H
  obtain ⟨t188, A50, H⟩ := H
  replace H : (if t188 = true then (if a2 < 2 then (poacherlaw05_DrawVictim.j0 k a0 a1 a2 a3 t188 true) else (if a2 > 64 then (poacherlaw05_DrawVictim.j0 k a0 a1 a2 a3 t188 true) else (if a1 < 0 then (poacherlaw05_DrawVictim.j0 k a0 a1 a2 a3 t188 true) else (poacherlaw05_DrawVictim.j0 k a0 a1 a2 a3 t188 (decide (a1 ≥ a2)))))) else (poacherlaw05_DrawVictim.j0 k a0 a1 a2 a3 t188 true)) = some r := H
  have A5 := Aside0.mk A50
  clear A50
  have HC6 := Aside0.mk H
  clear H
  go_enter Try.func4, Try.ntmps4
  go_upto_region 2 with (first | ((with_reducible refine gate_callee (f := 10) rfl ?_); refine goesL_ (some 12) rfl rfl Try.func10 (by kernel_rfl) rfl #[] rfl (by (try simp only [List.map_toArray, List.map_cons, List.map_nil]); first | done | rfl | (simp only [List.length_drop, List.length_take]; rfl)) ?_; (with_reducible refine (poacherlaw05_awake.calls k  t188 _ A5.out).mono ?_); (try clear A5); rintro e w7 ⟨rfl, hb⟩; refine ⟨_, rfl, ?_⟩; have n0_ := Aside0.mk (below_step (by repeat (first | (with_reducible first | exact HB.out | apply below_alloc | apply pw_below_drewN | apply below_drew1) | exact HB.out)) hb); clear HB; have HB := n0_; clear n0_; (try clear hb); (try clear hb2); (try clear hk); (try clear hi)))
  (try simp only [Act.put, List.setIfInBounds_toArray, List.set_cons_zero, List.set_cons_succ])
  go_cut [31] (fun v31 wc => ∃ (kq : Nat) (x31_5 : Bool), v31 = .bool x31_5 ∧ Aside0 (poacherlaw05_DrawVictim.j0 kq a0 a1 a2 a3 t188 x31_5 = some r) ∧ Aside0 (kq ≤ k) ∧ Aside0 (Below w.heap.size w wc))
  case first =>
    have H := HC6.out
    clear HC6
    by_cases c8 : t188 = true
    · subst c8
      have H1 : (if a2 < 2 then (poacherlaw05_DrawVictim.j0 k a0 a1 a2 a3 true true) else (if a2 > 64 then (poacherlaw05_DrawVictim.j0 k a0 a1 a2 a3 true true) else (if a1 < 0 then (poacherlaw05_DrawVictim.j0 k a0 a1 a2 a3 true true) else (poacherlaw05_DrawVictim.j0 k a0 a1 a2 a3 true (decide (a1 ≥ a2)))))) = some r := by rw [if_pos rfl] at H; exact H
      clear H
      have H := H1
      clear H1
      by_cases c9 : a2 < 2
      · rw [if_pos c9] at H
        have c9b0 : decide (a2 < 2) = true := decide_eq_true c9
        clear c9
        (first | rw [c9b0] | (simp only [i64_w, i32_w]; rw [c9b0]) | skip)
        have H' := Aside0.mk H
        clear H
        go_wp2
        go_meet
        case rel => exact ⟨_, (true), (by first | rfl | (simp; done) | (simp [*]; done)), H', ⟨by first | omega | exact Nat.le_refl _⟩, ⟨by repeat (first | (with_reducible first | exact HB.out | apply below_alloc | apply pw_below_drewN | apply below_drew1) | exact HB.out)⟩⟩
      · rw [if_neg c9] at H
        have c9b0 : decide (a2 < 2) = false := decide_eq_false c9
        clear c9
        (first | rw [c9b0] | (simp only [i64_w, i32_w]; rw [c9b0]) | skip)
        by_cases c10 : a2 > 64
        · rw [if_pos c10] at H
          have c10b0 : decide (64 < a2) = true := decide_eq_true c10
          clear c10
          have H' := Aside0.mk H
          clear H
          go_wp2
          go_meet
          case rel => exact ⟨_, (true), (by first | rfl | (simp; done) | (simp [*]; done)), H', ⟨by first | omega | exact Nat.le_refl _⟩, ⟨by repeat (first | (with_reducible first | exact HB.out | apply below_alloc | apply pw_below_drewN | apply below_drew1) | exact HB.out)⟩⟩
        · rw [if_neg c10] at H
          have c10b0 : decide (64 < a2) = false := decide_eq_false c10
          clear c10
          by_cases c11 : a1 < 0
          · rw [if_pos c11] at H
            have c11b0 : decide (a1 < 0) = true := decide_eq_true c11
            clear c11
            have H' := Aside0.mk H
            clear H
            go_wp2
            go_meet
            case rel => exact ⟨_, (true), (by first | rfl | (simp; done) | (simp [*]; done)), H', ⟨by first | omega | exact Nat.le_refl _⟩, ⟨by repeat (first | (with_reducible first | exact HB.out | apply below_alloc | apply pw_below_drewN | apply below_drew1) | exact HB.out)⟩⟩
          · rw [if_neg c11] at H
            have c11b0 : decide (a1 < 0) = false := decide_eq_false c11
            clear c11
            have H' := Aside0.mk H
            clear H
            go_wp2
            go_meet
            case rel => exact ⟨_, (decide (a1 ≥ a2)), (by first | rfl | (simp; done) | (simp [*]; done)), H', ⟨by first | omega | exact Nat.le_refl _⟩, ⟨by repeat (first | (with_reducible first | exact HB.out | apply below_alloc | apply pw_below_drewN | apply below_drew1) | exact HB.out)⟩⟩
    · replace c8 := Bool.eq_false_iff.mpr c8
      subst c8
      have H1 : (poacherlaw05_DrawVictim.j0 k a0 a1 a2 a3 false true) = some r := by rw [if_neg (show ¬ (false = true) by decide)] at H; exact H
      clear H
      have H := H1
      clear H1
      have H' := Aside0.mk H
      clear H
      go_wp2
      go_meet
      case rel => exact ⟨_, (true), (by first | rfl | (simp; done) | (simp [*]; done)), H', ⟨by first | omega | exact Nat.le_refl _⟩, ⟨by repeat (first | (with_reducible first | exact HB.out | apply below_alloc | apply pw_below_drewN | apply below_drew1) | exact HB.out)⟩⟩
  case rest =>
    clear HC6
    try clear c1
    try clear p2
    try clear c4
    try clear c8
    try clear c9
    try clear c9b0
    try clear c10
    try clear c10b0
    try clear c11
    try clear c11b0
    obtain ⟨kq, x31_5, rfl, HA, HJ5, HB⟩ := hcut
    cases kq with
    | zero => exact absurd HA.out (by simp [poacherlaw05_DrawVictim.j0])
    | succ kj5 =>
      have H := HA.out
      clear HA
      simp only [poacherlaw05_DrawVictim.j0] at H
      by_cases c12 : x31_5 = true
      · subst c12
        have H1 : (if t188 = true then (if a2 > 64 then (some true) else ((draw_Victim.f a0 a1 a2).bind fun t189 => (some (t189 == (-1))))) else (some false)) = some r := by rw [if_pos rfl] at H; exact H
        clear H
        have H := H1
        clear H1
        by_cases c13 : t188 = true
        · subst c13
          have H1 : (if a2 > 64 then (some true) else ((draw_Victim.f a0 a1 a2).bind fun t189 => (some (t189 == (-1))))) = some r := by rw [if_pos rfl] at H; exact H
          clear H
          have H := H1
          clear H1
          by_cases c14 : a2 > 64
          · rw [if_pos c14] at H
            have c14b0 : decide (64 < a2) = true := decide_eq_true c14
            clear c14
            obtain rfl := Option.some.inj H
            clear hr_
            go_wp2
            go_ret
            exact ⟨by first | rfl | (simp [errW_none, errW_some] <;> rfl) | (simp [*, errW_none, errW_some] <;> rfl), by repeat (first | (with_reducible first | exact HB.out | apply below_alloc | apply pw_below_drewN | apply below_drew1) | exact HB.out)⟩
          · rw [if_neg c14] at H
            have c14b0 : decide (64 < a2) = false := decide_eq_false c14
            clear c14
            replace H := Option.bind_eq_some_iff.mp H
            obtain ⟨t189, A150, H⟩ := H
            replace H : (some (t189 == (-1))) = some r := H
            have A15 := Aside0.mk A150
            clear A150
            obtain rfl := Option.some.inj H
            clear hr_
            go_wp2_with (first | (go_at_call 18; (with_reducible refine (draw_Victim.calls a0 a1 a2 t189 _ A15.out).mono ?_); (try clear A15); rintro e w' ⟨rfl, ⟨nd, rfl⟩⟩))
            go_ret
            exact ⟨by first | rfl | (simp [errW_none, errW_some] <;> rfl) | (simp [*, errW_none, errW_some] <;> rfl), by repeat (first | (with_reducible first | exact HB.out | apply below_alloc | apply pw_below_drewN | apply below_drew1) | exact HB.out)⟩
        · replace c13 := Bool.eq_false_iff.mpr c13
          subst c13
          have H1 : (some false) = some r := by rw [if_neg (show ¬ (false = true) by decide)] at H; exact H
          clear H
          have H := H1
          clear H1
          exact absurd (H.trans (congrArg some hr_.out)) (by simp)
      · replace c12 := Bool.eq_false_iff.mpr c12
        subst c12
        have H1 : ((draw_Victim.f a0 a1 a2).bind fun t190 => (if (IntKind.u64.wrap (wrap64 (a2 - 1))) = 0 then (none) else ((draw_Victim.f (Int.tmod a0 (IntKind.u64.wrap (wrap64 (a2 - 1)))) a1 a2).bind fun t191 => (if t190 < 0 then (poacherlaw05_DrawVictim.j1 kj5 a1 a2 a3 true) else (if t190 ≥ a2 then (poacherlaw05_DrawVictim.j1 kj5 a1 a2 a3 true) else (if t190 = a1 then (poacherlaw05_DrawVictim.j1 kj5 a1 a2 a3 true) else (poacherlaw05_DrawVictim.j1 kj5 a1 a2 a3 (t191 != t190)))))))) = some r := by rw [if_neg (show ¬ (false = true) by decide)] at H; exact H
        clear H
        have H := H1
        clear H1
        replace H := Option.bind_eq_some_iff.mp H
        obtain ⟨t190, A160, H⟩ := H
        replace H : (if (IntKind.u64.wrap (wrap64 (a2 - 1))) = 0 then (none) else ((draw_Victim.f (Int.tmod a0 (IntKind.u64.wrap (wrap64 (a2 - 1)))) a1 a2).bind fun t191 => (if t190 < 0 then (poacherlaw05_DrawVictim.j1 kj5 a1 a2 a3 true) else (if t190 ≥ a2 then (poacherlaw05_DrawVictim.j1 kj5 a1 a2 a3 true) else (if t190 = a1 then (poacherlaw05_DrawVictim.j1 kj5 a1 a2 a3 true) else (poacherlaw05_DrawVictim.j1 kj5 a1 a2 a3 (t191 != t190))))))) = some r := H
        have A16 := Aside0.mk A160
        clear A160
        by_cases c17 : (IntKind.u64.wrap (wrap64 (a2 - 1))) = 0
        · rw [if_pos c17] at H
          exact absurd H (by simp)
        · rw [if_neg c17] at H
          have c17b0 : ((IntKind.u64.wrap (wrap64 (a2 - 1))) == 0) = false := beq_eq_false_iff_ne.mpr c17
          have c17b1 : ((IntKind.u64.wrap (wrap64 (a2 - 1))) != 0) = true := bne_iff_ne.mpr c17
          replace H := Option.bind_eq_some_iff.mp H
          obtain ⟨t191, A180, H⟩ := H
          replace H : (if t190 < 0 then (poacherlaw05_DrawVictim.j1 kj5 a1 a2 a3 true) else (if t190 ≥ a2 then (poacherlaw05_DrawVictim.j1 kj5 a1 a2 a3 true) else (if t190 = a1 then (poacherlaw05_DrawVictim.j1 kj5 a1 a2 a3 true) else (poacherlaw05_DrawVictim.j1 kj5 a1 a2 a3 (t191 != t190))))) = some r := H
          have A18 := Aside0.mk A180
          clear A180
          have HC19 := Aside0.mk H
          clear H
          go_upto_region 6 with (first | ((with_reducible refine gate_callee (f := 18) rfl ?_); refine goesL_ (some 47) rfl rfl Try.func18 (by kernel_rfl) rfl #[.int .u64 a0, .int .i64 a1, .int .i64 a2] rfl (by (try simp only [List.map_toArray, List.map_cons, List.map_nil]); first | done | rfl | (simp only [List.length_drop, List.length_take]; rfl)) ?_; (with_reducible refine (draw_Victim.calls a0 a1 a2 t190 _ A16.out).mono ?_); (try clear A16); rintro e w' ⟨rfl, ⟨nd, rfl⟩⟩; refine ⟨_, rfl, ?_⟩) | ((with_reducible refine gate_callee (f := 18) rfl ?_); refine goesL_ (some 55) rfl rfl Try.func18 (by kernel_rfl) rfl #[.int .u64 (Int.tmod a0 (IntKind.u64.wrap (wrap64 (a2 - 1)))), .int .i64 a1, .int .i64 a2] rfl (by (try simp only [List.map_toArray, List.map_cons, List.map_nil]); first | done | rfl | (simp only [List.length_drop, List.length_take]; rfl)) ?_; (with_reducible refine (draw_Victim.calls (Int.tmod a0 (IntKind.u64.wrap (wrap64 (a2 - 1)))) a1 a2 t191 _ A18.out).mono ?_); (try clear A18); rintro e w' ⟨rfl, ⟨nd, rfl⟩⟩; refine ⟨_, rfl, ?_⟩))
          (try simp only [Act.put, List.setIfInBounds_toArray, List.set_cons_zero, List.set_cons_succ])
          go_cut [72] (fun v72 wc => ∃ (kq : Nat) (x72_18 : Bool), v72 = .bool x72_18 ∧ Aside0 (poacherlaw05_DrawVictim.j1 kq a1 a2 a3 x72_18 = some r) ∧ Aside0 (kq ≤ kj5) ∧ Aside0 (Below w.heap.size w wc))
          case first =>
            have H := HC19.out
            clear HC19
            by_cases c20 : t190 < 0
            · rw [if_pos c20] at H
              have c20b0 : decide (t190 < 0) = true := decide_eq_true c20
              clear c20
              (first | rw [c20b0] | (simp only [i64_w, i32_w]; rw [c20b0]) | skip)
              have H' := Aside0.mk H
              clear H
              go_wp2
              go_meet
              case rel => exact ⟨_, (true), (by first | rfl | (simp; done) | (simp [*]; done)), H', ⟨by have := HJ5.out; first | omega | exact Nat.le_refl _⟩, ⟨by repeat (first | (with_reducible first | exact HB.out | apply below_alloc | apply pw_below_drewN | apply below_drew1) | exact HB.out)⟩⟩
            · rw [if_neg c20] at H
              have c20b0 : decide (t190 < 0) = false := decide_eq_false c20
              clear c20
              (first | rw [c20b0] | (simp only [i64_w, i32_w]; rw [c20b0]) | skip)
              by_cases c21 : t190 ≥ a2
              · rw [if_pos c21] at H
                have c21b0 : decide (a2 ≤ t190) = true := decide_eq_true c21
                clear c21
                have H' := Aside0.mk H
                clear H
                go_wp2
                go_meet
                case rel => exact ⟨_, (true), (by first | rfl | (simp; done) | (simp [*]; done)), H', ⟨by have := HJ5.out; first | omega | exact Nat.le_refl _⟩, ⟨by repeat (first | (with_reducible first | exact HB.out | apply below_alloc | apply pw_below_drewN | apply below_drew1) | exact HB.out)⟩⟩
              · rw [if_neg c21] at H
                have c21b0 : decide (a2 ≤ t190) = false := decide_eq_false c21
                clear c21
                by_cases c22 : t190 = a1
                · rw [if_pos c22] at H
                  have c22b0 : (t190 == a1) = true := beq_iff_eq.mpr c22
                  have c22b1 : (t190 != a1) = false := bne_eq_false_iff_eq.mpr c22
                  clear c22
                  have H' := Aside0.mk H
                  clear H
                  go_wp2
                  go_meet
                  case rel => exact ⟨_, (true), (by first | rfl | (simp; done) | (simp [*]; done)), H', ⟨by have := HJ5.out; first | omega | exact Nat.le_refl _⟩, ⟨by repeat (first | (with_reducible first | exact HB.out | apply below_alloc | apply pw_below_drewN | apply below_drew1) | exact HB.out)⟩⟩
                · rw [if_neg c22] at H
                  have c22b0 : (t190 == a1) = false := beq_eq_false_iff_ne.mpr c22
                  have c22b1 : (t190 != a1) = true := bne_iff_ne.mpr c22
                  have H' := Aside0.mk H
                  clear H
                  go_wp2
                  go_meet
                  case rel => exact ⟨_, ((t191 != t190)), (by first | rfl | (simp; done) | (simp [*]; done)), H', ⟨by have := HJ5.out; first | omega | exact Nat.le_refl _⟩, ⟨by repeat (first | (with_reducible first | exact HB.out | apply below_alloc | apply pw_below_drewN | apply below_drew1) | exact HB.out)⟩⟩
          case rest =>
            clear HC19
            try clear c1
            try clear c2
            try clear p2
            try clear c4
            try clear p6
            try clear c8
            try clear c9
            try clear c9b0
            try clear c10
            try clear c10b0
            try clear c11
            try clear c11b0
            try clear c12
            try clear c13
            try clear c14
            try clear c14b0
            try clear c17
            try clear c17b0
            try clear c17b1
            try clear c18
            try clear c20
            try clear c20b0
            try clear c21
            try clear c21b0
            try clear c22
            try clear c22b0
            try clear c22b1
            try clear p2
            obtain ⟨kq, x72_18, rfl, HA, HJ18, HB⟩ := hcut
            cases kq with
            | zero => exact absurd HA.out (by simp [poacherlaw05_DrawVictim.j1])
            | succ kj18 =>
              have H := HA.out
              clear HA
              simp only [poacherlaw05_DrawVictim.j1] at H
              by_cases c23 : x72_18 = true
              · subst c23
                have H1 : (some false) = some r := by rw [if_pos rfl] at H; exact H
                clear H
                have H := H1
                clear H1
                exact absurd (H.trans (congrArg some hr_.out)) (by simp)
              · replace c23 := Bool.eq_false_iff.mpr c23
                subst c23
                have H1 : (if a3 < 0 then (some true) else (if a3 ≥ a2 then (some true) else (if a3 = a1 then (some true) else (if a2 = 0 then (none) else ((draw_Victim.f (IntKind.u64.wrap (Int.tmod (wrap64 ((wrap64 ((wrap64 (a3 - a1)) - 1)) + a2)) a2)) a1 a2).bind fun t192 => (some (t192 == a3))))))) = some r := by rw [if_neg (show ¬ (false = true) by decide)] at H; exact H
                clear H
                have H := H1
                clear H1
                by_cases c24 : a3 < 0
                · rw [if_pos c24] at H
                  have c24b0 : decide (a3 < 0) = true := decide_eq_true c24
                  clear c24
                  obtain rfl := Option.some.inj H
                  clear hr_
                  go_wp2
                  go_ret
                  exact ⟨by first | rfl | (simp [errW_none, errW_some] <;> rfl) | (simp [*, errW_none, errW_some] <;> rfl), by repeat (first | (with_reducible first | exact HB.out | apply below_alloc | apply pw_below_drewN | apply below_drew1) | exact HB.out)⟩
                · rw [if_neg c24] at H
                  have c24b0 : decide (a3 < 0) = false := decide_eq_false c24
                  clear c24
                  by_cases c25 : a3 ≥ a2
                  · rw [if_pos c25] at H
                    have c25b0 : decide (a2 ≤ a3) = true := decide_eq_true c25
                    clear c25
                    obtain rfl := Option.some.inj H
                    clear hr_
                    go_wp2
                    go_ret
                    exact ⟨by first | rfl | (simp [errW_none, errW_some] <;> rfl) | (simp [*, errW_none, errW_some] <;> rfl), by repeat (first | (with_reducible first | exact HB.out | apply below_alloc | apply pw_below_drewN | apply below_drew1) | exact HB.out)⟩
                  · rw [if_neg c25] at H
                    have c25b0 : decide (a2 ≤ a3) = false := decide_eq_false c25
                    clear c25
                    by_cases c26 : a3 = a1
                    · rw [if_pos c26] at H
                      have c26b0 : (a3 == a1) = true := beq_iff_eq.mpr c26
                      have c26b1 : (a3 != a1) = false := bne_eq_false_iff_eq.mpr c26
                      clear c26
                      obtain rfl := Option.some.inj H
                      clear hr_
                      go_wp2
                      go_ret
                      exact ⟨by first | rfl | (simp [errW_none, errW_some] <;> rfl) | (simp [*, errW_none, errW_some] <;> rfl), by repeat (first | (with_reducible first | exact HB.out | apply below_alloc | apply pw_below_drewN | apply below_drew1) | exact HB.out)⟩
                    · rw [if_neg c26] at H
                      have c26b0 : (a3 == a1) = false := beq_eq_false_iff_ne.mpr c26
                      have c26b1 : (a3 != a1) = true := bne_iff_ne.mpr c26
                      by_cases c27 : a2 = 0
                      · rw [if_pos c27] at H
                        exact absurd H (by simp)
                      · rw [if_neg c27] at H
                        have c27b0 : (a2 == 0) = false := beq_eq_false_iff_ne.mpr c27
                        have c27b1 : (a2 != 0) = true := bne_iff_ne.mpr c27
                        replace H := Option.bind_eq_some_iff.mp H
                        obtain ⟨t192, A280, H⟩ := H
                        replace H : (some (t192 == a3)) = some r := H
                        have A28 := Aside0.mk A280
                        clear A280
                        obtain rfl := Option.some.inj H
                        clear hr_
                        go_wp2_with (first | ((with_reducible refine gate_callee (f := 18) rfl ?_); refine goesL_ (some 96) rfl rfl Try.func18 (by kernel_rfl) rfl #[.int .u64 (IntKind.u64.wrap (Int.tmod (wrap64 ((wrap64 ((wrap64 (a3 - a1)) - 1)) + a2)) a2)), .int .i64 a1, .int .i64 a2] rfl (by (try simp only [List.map_toArray, List.map_cons, List.map_nil]); first | done | rfl | (simp only [List.length_drop, List.length_take]; rfl)) ?_; (with_reducible refine (draw_Victim.calls (IntKind.u64.wrap (Int.tmod (wrap64 ((wrap64 ((wrap64 (a3 - a1)) - 1)) + a2)) a2)) a1 a2 t192 _ A28.out).mono ?_); (try clear A28); rintro e w' ⟨rfl, ⟨nd, rfl⟩⟩; refine ⟨_, rfl, ?_⟩))
                        go_ret
                        exact ⟨by first | rfl | (simp [errW_none, errW_some] <;> rfl) | (simp [*, errW_none, errW_some] <;> rfl), by repeat (first | (with_reducible first | exact HB.out | apply below_alloc | apply pw_below_drewN | apply below_drew1) | exact HB.out)⟩

/-- THE ONE PURE STATEMENT of poacherlaw05_DrawVictim: yours. -/
def poacherlaw05_DrawVictim.Pure : Prop := ∀ (a0 : Int) (a1 : Int) (a2 : Int) (a3 : Int), (Lit.int .u64 a0).wf = true → (Lit.int .i64 a1).wf = true → (Lit.int .i64 a2).wf = true → (Lit.int .i64 a3).wf = true → ∃ k, poacherlaw05_DrawVictim.f k a0 a1 a2 a3 = some true
theorem poacherlaw05_DrawVictim.walk (P : poacherlaw05_DrawVictim.Pure) (a0 : Int) (a1 : Int) (a2 : Int) (a3 : Int) (w : World) (w0 : (Lit.int .u64 a0).wf = true) (w1 : (Lit.int .i64 a1).wf = true) (w2 : (Lit.int .i64 a2).wf = true) (w3 : (Lit.int .i64 a3).wf = true) :
    Calls Try.prog 4 #[.int .u64 a0, .int .i64 a1, .int .i64 a2, .int .i64 a3] w fun e w' => e = .returned (.bool true) ∧ Below w.heap.size w w' := by
  obtain ⟨k, h⟩ := P a0 a1 a2 a3 w0 w1 w2 w3
  refine (poacherlaw05_DrawVictim.calls k a0 a1 a2 a3 true w ⟨rfl⟩ h).mono ?_
  rintro e w' ⟨rfl, hd⟩
  exact ⟨rfl, hd⟩

end Go.Proofs.Ytonhjnfhaelfkaa.QD
