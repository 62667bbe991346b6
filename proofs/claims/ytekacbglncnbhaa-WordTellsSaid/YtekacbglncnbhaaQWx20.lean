-- Written by inj.py (a program of this session), by the kit's print with functions given by hand. Not trusted: Lean checks it.
import Derived.Test.YtekacbglncnbhaaQWx0
namespace Go.Proofs.Ytekacbglncnbhaa.QW
open Go.RowKit Go.Proofs.YtekacbglncnbhaaW.PrintWords Go.Proofs.YtekacbglncnbhaaW.PrintLast Go.Proofs.YtekacbglncnbhaaW.PrintMore
attribute [local go_sem] max2_int min2_int max_two min_two max_three min_three max_four min_four   -- for this text's walks alone
set_option linter.unusedVariables false
set_option linter.unusedSimpArgs false

/-! ### poacherref02_Far: function 26 -/
def poacherref02_Far.f (a0 : Int) (a1 : Int) : Option (Int) := if (IntKind.u64.wrap (a0 - a1)) ≥ 9223372036854775808 then (some (wrap64 ((wrap64 (-(wrap64 (IntKind.u64.wrap (18446744073709551615 - (IntKind.u64.wrap (a0 - a1))))))) - 1))) else (some (wrap64 (IntKind.u64.wrap (a0 - a1))))
set_option maxHeartbeats 8000000 in
set_option maxRecDepth 100000 in
theorem poacherref02_Far.calls (a0 : Int) (a1 : Int) (r : Int) (w : World) (h : poacherref02_Far.f a0 a1 = some r) :
    Calls Try.prog 26 #[.int .u64 a0, .int .u64 a1] w fun e w' => e = .returned (.int .i64 r) ∧ Drawn0 w w' := by
  have H : (if (IntKind.u64.wrap (a0 - a1)) ≥ 9223372036854775808 then (some (wrap64 ((wrap64 (-(wrap64 (IntKind.u64.wrap (18446744073709551615 - (IntKind.u64.wrap (a0 - a1))))))) - 1))) else (some (wrap64 (IntKind.u64.wrap (a0 - a1))))) = some r := h
  clear h
  by_cases c3 : (IntKind.u64.wrap (a0 - a1)) ≥ 9223372036854775808
  · rw [if_pos c3] at H
    have c3b0 : decide (9223372036854775808 ≤ (IntKind.u64.wrap (a0 - a1))) = true := decide_eq_true c3
    clear c3
    obtain rfl := Option.some.inj H
    go_enter Try.func26, Try.ntmps26
    go_wp2
    go_ret
    exact ⟨by first | rfl | (simp; done) | (simp [*]; done), by repeat (first | exact Drawn0.refl _ | apply Drawn0.step)⟩
  · rw [if_neg c3] at H
    have c3b0 : decide (9223372036854775808 ≤ (IntKind.u64.wrap (a0 - a1))) = false := decide_eq_false c3
    clear c3
    obtain rfl := Option.some.inj H
    go_enter Try.func26, Try.ntmps26
    go_wp2
    go_ret
    exact ⟨by first | rfl | (simp; done) | (simp [*]; done), by repeat (first | exact Drawn0.refl _ | apply Drawn0.step)⟩

end Go.Proofs.Ytekacbglncnbhaa.QW
