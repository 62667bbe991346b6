import Derived.Test.YtonhjnfhaelfkaaQDx26
import Derived.Test.YtonhjnfhaelfkaaMath
set_option linter.unusedVariables false
set_option linter.unusedSimpArgs false
namespace Go.Proofs.Ytonhjnfhaelfkaa.Pure
open Go.RowKit Go.Proofs.Ytonhjnfhaelfkaa.QD Go.Proofs.YtonhjnfhaelfkaaW.PrintWords Go.Proofs.YtonhjnfhaelfkaaW.PrintLast

theorem DrawFits (a0 a1 a2 a3 a4 : Int) (w0 : (Lit.int .i64 a0).wf = true) (w1 : (Lit.int .i64 a1).wf = true) (w2 : (Lit.int .u64 a2).wf = true) (w3 : (Lit.int .i64 a3).wf = true) (w4 : (Lit.int .i64 a4).wf = true) :
    ∃ k, poacherlaw05_DrawFits.f k a0 a1 a2 a3 a4 = some true := by
  refine ⟨50, ?_⟩
  unfold poacherlaw05_DrawFits.f
  rw [awake_50]
  simp only [fit_eq, Option.bind_some, beq_self_eq_true, if_true]
  unfold fit
  by_cases h0 : a0 = 0
  · subst h0
    by_cases h1 : a1 ≥ 0 <;> by_cases h2 : a1 < a3 <;> by_cases h3 : a1 < a4 <;> simp [h1, h2, h3]
  · by_cases g1 : a0 = 1
    · subst g1
      by_cases h1 : a1 ≥ 0 <;> by_cases h2 : a1 < a3 <;> by_cases h3 : a1 < a4 <;> simp [h1, h2, h3]
    · by_cases g2 : a0 = 2
      · subst g2
        by_cases h1 : a1 ≥ 0 <;> by_cases h2 : a1 < a3 <;> by_cases h3 : a1 < a4 <;> simp [h1, h2, h3]
      · by_cases g3 : a0 = 3
        · subst g3
          by_cases h1 : a1 ≥ 0 <;> by_cases h2 : a1 < a3 <;> by_cases h3 : a1 < a4 <;> simp [h1, h2, h3]
        · by_cases h1 : a1 ≥ 0 <;> by_cases h2 : a1 < a3 <;> by_cases h3 : a1 < a4 <;> simp [h0, g1, g2, g3, h1, h2, h3]

end Go.Proofs.Ytonhjnfhaelfkaa.Pure
