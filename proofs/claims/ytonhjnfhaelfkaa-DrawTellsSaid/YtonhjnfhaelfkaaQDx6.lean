-- Written by inj.py (a program of this session), by the kit's print with functions given by hand. Not trusted: Lean checks it.
import Derived.Test.YtonhjnfhaelfkaaQDx0
import Derived.Test.YtonhjnfhaelfkaaQDx4
namespace Go.Proofs.Ytonhjnfhaelfkaa.QD
open Go.RowKit Go.Proofs.YtonhjnfhaelfkaaW.PrintWords Go.Proofs.YtonhjnfhaelfkaaW.PrintLast Go.Proofs.YtonhjnfhaelfkaaW.PrintMore
attribute [local go_sem] max2_int min2_int max_two min_two max_three min_three max_four min_four   -- for this text's walks alone
set_option linter.unusedVariables false
set_option linter.unusedSimpArgs false

/-! ### draw_Victim: function 18 -/
def draw_Victim.f (a0 : Int) (a1 : Int) (a2 : Int) : Option (Int) := if a2 < 2 then (some (-1)) else ((draw_below.f a1 a2).bind fun t109 => (if t109 = true then (if (IntKind.u64.wrap ((IntKind.u64.wrap (a2)) - 1)) = 0 then (none) else (if (IntKind.u64.wrap (a2)) = 0 then (none) else (some (wrap64 (Int.tmod (IntKind.u64.wrap ((IntKind.u64.wrap ((IntKind.u64.wrap (a1)) + 1)) + (Int.tmod a0 (IntKind.u64.wrap ((IntKind.u64.wrap (a2)) - 1))))) (IntKind.u64.wrap (a2))))))) else (some (-1))))
set_option maxHeartbeats 8000000 in
set_option maxRecDepth 100000 in
theorem draw_Victim.calls (a0 : Int) (a1 : Int) (a2 : Int) (r : Int) (w : World) (h : draw_Victim.f a0 a1 a2 = some r) :
    Calls Try.prog 18 #[.int .u64 a0, .int .i64 a1, .int .i64 a2] w fun e w' => e = .returned (.int .i64 r) ∧ Drawn0 w w' := by
  have H : (if a2 < 2 then (some (-1)) else ((draw_below.f a1 a2).bind fun t109 => (if t109 = true then (if (IntKind.u64.wrap ((IntKind.u64.wrap (a2)) - 1)) = 0 then (none) else (if (IntKind.u64.wrap (a2)) = 0 then (none) else (some (wrap64 (Int.tmod (IntKind.u64.wrap ((IntKind.u64.wrap ((IntKind.u64.wrap (a1)) + 1)) + (Int.tmod a0 (IntKind.u64.wrap ((IntKind.u64.wrap (a2)) - 1))))) (IntKind.u64.wrap (a2))))))) else (some (-1))))) = some r := h
  clear h
  by_cases c4 : a2 < 2
  · rw [if_pos c4] at H
    have c4b0 : decide (a2 < 2) = true := decide_eq_true c4
    clear c4
    obtain rfl := Option.some.inj H
    simp only [Option.some.injEq, Prod.mk.injEq] at H
    obtain ⟨rfl⟩ := H
    go_enter Try.func18, Try.ntmps18
    go_wp2
    go_ret
    exact ⟨by first | rfl | (simp; done) | (simp [*]; done), by repeat (first | exact Drawn0.refl _ | apply Drawn0.step)⟩
  · rw [if_neg c4] at H
    have c4b0 : decide (a2 < 2) = false := decide_eq_false c4
    clear c4
    replace H := Option.bind_eq_some_iff.mp H
    obtain ⟨t109, A50, H⟩ := H
    replace H : (if t109 = true then (if (IntKind.u64.wrap ((IntKind.u64.wrap (a2)) - 1)) = 0 then (none) else (if (IntKind.u64.wrap (a2)) = 0 then (none) else (some (wrap64 (Int.tmod (IntKind.u64.wrap ((IntKind.u64.wrap ((IntKind.u64.wrap (a1)) + 1)) + (Int.tmod a0 (IntKind.u64.wrap ((IntKind.u64.wrap (a2)) - 1))))) (IntKind.u64.wrap (a2))))))) else (some (-1))) = some r := H
    have A5 := Aside0.mk A50
    clear A50
    by_cases c6 : t109 = true
    · subst c6
      have H1 : (if (IntKind.u64.wrap ((IntKind.u64.wrap (a2)) - 1)) = 0 then (none) else (if (IntKind.u64.wrap (a2)) = 0 then (none) else (some (wrap64 (Int.tmod (IntKind.u64.wrap ((IntKind.u64.wrap ((IntKind.u64.wrap (a1)) + 1)) + (Int.tmod a0 (IntKind.u64.wrap ((IntKind.u64.wrap (a2)) - 1))))) (IntKind.u64.wrap (a2))))))) = some r := by rw [if_pos rfl] at H; exact H
      clear H
      have H := H1
      clear H1
      by_cases c7 : (IntKind.u64.wrap ((IntKind.u64.wrap (a2)) - 1)) = 0
      · rw [if_pos c7] at H
        exact absurd H (by simp)
      · rw [if_neg c7] at H
        have c7b0 : ((IntKind.u64.wrap ((IntKind.u64.wrap (a2)) - 1)) == 0) = false := beq_eq_false_iff_ne.mpr c7
        have c7b1 : ((IntKind.u64.wrap ((IntKind.u64.wrap (a2)) - 1)) != 0) = true := bne_iff_ne.mpr c7
        by_cases c8 : (IntKind.u64.wrap (a2)) = 0
        · rw [if_pos c8] at H
          exact absurd H (by simp)
        · rw [if_neg c8] at H
          have c8b0 : ((IntKind.u64.wrap (a2)) == 0) = false := beq_eq_false_iff_ne.mpr c8
          have c8b1 : ((IntKind.u64.wrap (a2)) != 0) = true := bne_iff_ne.mpr c8
          obtain rfl := Option.some.inj H
          simp only [Option.some.injEq, Prod.mk.injEq] at H
          obtain ⟨rfl⟩ := H
          go_enter Try.func18, Try.ntmps18
          go_wp2_with (first | (go_at_call 23; (with_reducible refine (draw_below.calls a1 a2 true _ A5.out).mono ?_); (try clear A5); rintro e w' ⟨rfl, ⟨nd, rfl⟩⟩))
          go_ret
          exact ⟨by first | rfl | (simp; done) | (simp [*]; done), by repeat (first | exact Drawn0.refl _ | apply Drawn0.step)⟩
    · replace c6 := Bool.eq_false_iff.mpr c6
      subst c6
      have H1 : (some (-1)) = some r := by rw [if_neg (show ¬ (false = true) by decide)] at H; exact H
      clear H
      have H := H1
      clear H1
      obtain rfl := Option.some.inj H
      simp only [Option.some.injEq, Prod.mk.injEq] at H
      obtain ⟨rfl⟩ := H
      go_enter Try.func18, Try.ntmps18
      go_wp2_with (first | (go_at_call 23; (with_reducible refine (draw_below.calls a1 a2 false _ A5.out).mono ?_); (try clear A5); rintro e w' ⟨rfl, ⟨nd, rfl⟩⟩))
      go_ret
      exact ⟨by first | rfl | (simp; done) | (simp [*]; done), by repeat (first | exact Drawn0.refl _ | apply Drawn0.step)⟩

end Go.Proofs.Ytonhjnfhaelfkaa.QD
