/- A bit that is set is set, set twice it is as once, the epoch stays, no other bit changes. No condition. -/
import Derived.Test.YtekacbglncnbhaaQWx25
import Derived.Test.YtekacbglncnbhaaMath
namespace Go.Proofs.Ytekacbglncnbhaa.Pure
open Go.RowKit Go.Proofs.Ytekacbglncnbhaa.QW Go.Proofs.YtekacbglncnbhaaW.PrintWords Go.Proofs.YtekacbglncnbhaaW.PrintLast Go.Proofs.YtekacbglncnbhaaW.PrintMore

theorem WordSet : poacherlaw02_WordSet.Pure := by
  intro a0 a1 a2 h0 h1 h2
  obtain ⟨e, rfl, he⟩ := nat_of_u64 h0
  refine ⟨2, ?_⟩
  unfold poacherlaw02_WordSet.f
  rw [awake_true]
  simp only [Option.bind_some]
  by_cases hout : a1 < 0 ∨ 16 ≤ a1
  · rw [set_out e a1 hout]
    simp only [Option.bind_some]
    by_cases hneg : a1 < 0
    · rw [if_pos hneg]
      simp only [poacherlaw02_WordSet.j0, if_true, beq_self_eq_true]
    · rw [if_neg hneg, decide_eq_true (by omega)]
      simp only [poacherlaw02_WordSet.j0, if_true, beq_self_eq_true]
  · obtain ⟨w, rfl⟩ := Int.eq_ofNat_of_zero_le (show 0 ≤ a1 by omega)
    have hw : w < 16 := by omega
    have hpl := put_lt e w he hw
    rw [set_eq e w he hw]
    simp only [Option.bind_some]
    rw [if_neg (by omega), decide_eq_false (by omega)]
    have fin : poacherlaw02_WordSet.j1 1 (e : Int) (w : Int) true ((put e w : Nat) : Int) true = some true := by
      have e1 : put (put e w) w = put e w := put_has (put_self e w)
      have e2 : put e w / 65536 = e / 65536 := put_epoch e w hw
      have e3 : (put e w % 65536).testBit w = true := by
        rw [show (65536 : Nat) = 2 ^ 16 from rfl, Nat.testBit_mod_two_pow, put_self]; simp [hw]
      simp only [poacherlaw02_WordSet.j1, if_true, mask_eq _ hpl, Option.bind_some]
      rw [if_pos (by omega), shr_bit _ w (by omega) (by omega), e3]
      rw [if_pos rfl, set_eq _ w hpl hw, e1]
      simp only [Option.bind_some, if_true, epoch_eq, e2]
    simp only [poacherlaw02_WordSet.j0, Bool.false_eq_true, if_false]
    by_cases c1 : a2 < 0
    · rw [if_pos c1]; exact fin
    · rw [if_neg c1]
      by_cases c2 : a2 > 15
      · rw [if_pos c2]; exact fin
      · rw [if_neg c2]
        by_cases c3 : a2 = (w : Int)
        · rw [if_pos c3]; exact fin
        · rw [if_neg c3, mask_eq _ hpl, mask_eq e he]
          obtain ⟨k, rfl⟩ := Int.eq_ofNat_of_zero_le (show 0 ≤ a2 by omega)
          simp only [Option.bind_some]
          rw [if_pos (by omega), shr_bit _ k (by omega) (by omega), shr_bit _ k (by omega) (by omega)]
          have e4 : (put e w % 65536).testBit k = (e % 65536).testBit k := by
            rw [show (65536 : Nat) = 2 ^ 16 from rfl, Nat.testBit_mod_two_pow, Nat.testBit_mod_two_pow, put_other e (by omega : w ≠ k)]
          rw [e4, beq_self_eq_true]; exact fin

end Go.Proofs.Ytekacbglncnbhaa.Pure
