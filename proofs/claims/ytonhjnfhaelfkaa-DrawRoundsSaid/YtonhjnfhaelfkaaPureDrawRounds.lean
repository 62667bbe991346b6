import Derived.Test.YtonhjnfhaelfkaaQDx22
import Derived.Test.YtonhjnfhaelfkaaMath
set_option linter.unusedVariables false
set_option linter.unusedSimpArgs false
namespace Go.Proofs.Ytonhjnfhaelfkaa.Pure
open Go.RowKit Go.Proofs.Ytonhjnfhaelfkaa.QD Go.Proofs.YtonhjnfhaelfkaaW.PrintWords Go.Proofs.YtonhjnfhaelfkaaW.PrintLast

theorem rounds_all : ∀ a b n c : Fin 4, c ≤ a → poacherlaw05_DrawRounds.l0 200 ((a.val : Int) + 1) (b.val : Int) ((n.val : Int) + 2) (c.val : Int) [] [] 0 = some true := by decide +kernel

theorem DrawRounds : poacherlaw05_DrawRounds.Pure := by
  intro a0 a1 a2 a3 w0 w1 w2 w3
  refine ⟨200 + 1, ?_⟩
  unfold poacherlaw05_DrawRounds.f
  rw [awake_k (by omega)]
  simp only [Option.bind_some, if_true]
  have stop : poacherlaw05_DrawRounds.j0 (200 + 1) a0 a1 a2 a3 true true = some true := by rw [poacherlaw05_DrawRounds.j0, if_pos rfl]
  split
  · exact stop
  split
  · exact stop
  split
  · exact stop
  split
  · exact stop
  split
  · exact stop
  split
  · exact stop
  split
  · exact stop
  by_cases h9 : a3 ≥ a0
  · rw [decide_eq_true h9]; exact stop
  rw [decide_eq_false h9, poacherlaw05_DrawRounds.j0, if_neg (by simp)]
  have := rounds_all ⟨(a0 - 1).toNat, by omega⟩ ⟨a1.toNat, by omega⟩ ⟨(a2 - 2).toNat, by omega⟩ ⟨a3.toNat, by omega⟩ (by show a3.toNat ≤ (a0 - 1).toNat; omega)
  simp only at this
  rwa [show (((a0 - 1).toNat : Nat) : Int) + 1 = a0 from by omega, show ((a1.toNat : Nat) : Int) = a1 from by omega, show (((a2 - 2).toNat : Nat) : Int) + 2 = a2 from by omega, show ((a3.toNat : Nat) : Int) = a3 from by omega] at this

end Go.Proofs.Ytonhjnfhaelfkaa.Pure
