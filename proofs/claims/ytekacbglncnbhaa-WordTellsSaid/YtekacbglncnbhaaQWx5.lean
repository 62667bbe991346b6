-- Written by inj.py (a program of this session), by the kit's print with functions given by hand. Not trusted: Lean checks it.
import Derived.Test.YtekacbglncnbhaaQWx0
namespace Go.Proofs.Ytekacbglncnbhaa.QW
open Go.RowKit Go.Proofs.YtekacbglncnbhaaW.PrintWords Go.Proofs.YtekacbglncnbhaaW.PrintLast Go.Proofs.YtekacbglncnbhaaW.PrintMore
attribute [local go_sem] max2_int min2_int max_two min_two max_three min_three max_four min_four   -- for this text's walks alone
set_option linter.unusedVariables false
set_option linter.unusedSimpArgs false

/-! ### word_Lowest: function 21 -/
def word_Lowest.f (a0 : Int) : Option (Int) := some (Try.lowest a0)
theorem word_Lowest.calls (a0 : Int) (r : Int) (w : World) (h : word_Lowest.f a0 = some r) :
    Calls Try.prog 21 #[.int .u64 a0] w fun e w' => e = .returned (.int .i64 r) ∧ Below w.heap.size w w' := by
  obtain rfl := Option.some.inj h
  exact Try.Lowest_calls a0 w

end Go.Proofs.Ytekacbglncnbhaa.QW
