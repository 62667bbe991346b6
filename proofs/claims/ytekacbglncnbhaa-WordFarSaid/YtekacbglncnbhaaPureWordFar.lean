/- Each number lies as far behind another one as that lies ahead of it; one more is one farther; 0 just if they are the same. No condition. -/
import Derived.Test.YtekacbglncnbhaaQWx24
import Derived.Test.YtekacbglncnbhaaMath
namespace Go.Proofs.Ytekacbglncnbhaa.Pure
open Go.RowKit Go.Proofs.Ytekacbglncnbhaa.QW Go.Proofs.YtekacbglncnbhaaW.PrintWords Go.Proofs.YtekacbglncnbhaaW.PrintLast Go.Proofs.YtekacbglncnbhaaW.PrintMore

theorem WordFar : poacherlaw02_WordFar.Pure := by
  intro a0 a1 h0 h1
  obtain ⟨a, rfl, ha⟩ := nat_of_u64 h0
  obtain ⟨b, rfl, hb⟩ := nat_of_u64 h1
  have e1 : ((wrap64 ((a : Int) - b) == 0) == ((a : Int) == b)) = true := by
    have : wrap64 ((a : Int) - b) = 0 ↔ (a : Int) = b := by unfold wrap64; omega
    by_cases h : (a : Int) = b
    · have h' := this.2 h
      rw [beq_iff_eq.2 h', beq_iff_eq.2 h]; rfl
    · have h' : ¬ wrap64 ((a : Int) - b) = 0 := fun e => h (this.1 e)
      rw [beq_eq_false_iff_ne.2 h', beq_eq_false_iff_ne.2 h]; rfl
  have e2 : wrap64 ((b : Int) - a) = wrap64 (-wrap64 ((a : Int) - b)) := by unfold wrap64; omega
  have e3 : (IntKind.u64.wrap ((b : Int) + IntKind.u64.wrap (wrap64 ((a : Int) - b))) == (a : Int)) = true := by
    rw [beq_iff_eq, IntKind.wrap_u64, IntKind.wrap_u64]; unfold wrap64; omega
  unfold poacherlaw02_WordFar.f
  rw [awake_true, far_eq, far_eq]
  simp only [Option.bind_some, if_true]
  rw [if_pos e1, if_pos e2, e3]
  by_cases h : wrap64 ((a : Int) - b) = 9223372036854775807
  · rw [if_pos h]
  · rw [if_neg h]
    have e4 : IntKind.u64.wrap ((a : Int) + 1) = (((a + 1) % 18446744073709551616 : Nat) : Int) := by rw [IntKind.wrap_u64]; omega
    rw [e4, far_eq]
    simp only [Option.bind_some]
    rw [if_pos]
    unfold wrap64; omega

end Go.Proofs.Ytekacbglncnbhaa.Pure
