/- Wiped a word has no mask and an epoch more; bumped it has that epoch too. No condition. -/
import Derived.Test.YtekacbglncnbhaaQWx27
import Derived.Test.YtekacbglncnbhaaMath
namespace Go.Proofs.Ytekacbglncnbhaa.Pure
open Go.RowKit Go.Proofs.Ytekacbglncnbhaa.QW Go.Proofs.YtekacbglncnbhaaW.PrintWords Go.Proofs.YtekacbglncnbhaaW.PrintLast Go.Proofs.YtekacbglncnbhaaW.PrintMore

theorem WordWipe : poacherlaw02_WordWipe.Pure := by
  intro a0 h0
  obtain ⟨e, rfl, he⟩ := nat_of_u64 h0
  unfold poacherlaw02_WordWipe.f
  have c1 := cut_lt (e % 65536) (by omega)
  have e1 : pk (e / 65536 + 1) 0 % 65536 = 0 := by unfold pk; omega
  have e2 : pk (e / 65536 + 1) 0 / 65536 = (e / 65536 + 1) % 281474976710656 := by unfold pk; omega
  have e3 : pk (e / 65536 + 1) (cut (e % 65536)) / 65536 = (e / 65536 + 1) % 281474976710656 := by unfold pk; omega
  have e4 : pk (e / 65536 + 1) (cut (e % 65536)) % 65536 = cut (e % 65536) := by unfold pk; omega
  have e5 : (((e / 65536 + 1) % 281474976710656 : Nat) : Int) = Int.tmod (IntKind.u64.wrap (((e / 65536 : Nat) : Int) + 1)) 281474976710656 := by
    have : IntKind.u64.wrap (((e / 65536 : Nat) : Int) + 1) = ((e / 65536 + 1 : Nat) : Int) := by rw [IntKind.wrap_u64]; omega
    rw [this]; exact Int.ofNat_tmod _ 281474976710656
  simp only [awake_true, wipe_eq e he, bump_eq e he, Option.bind_some, if_true, mask_eq _ (pk_lt _ _), epoch_eq, mask_eq e he, e1, e2, e3, e4]
  rw [if_pos (by rfl), if_pos e5, u64_and_nat _ _ (by omega) (by omega)]
  have e6 : cut (e % 65536) &&& (e % 65536) = cut (e % 65536) := by
    unfold cut
    apply Nat.eq_of_testBit_eq
    intro i
    simp only [Nat.testBit_and]
    cases Nat.testBit (e % 65536) i <;> simp
  rw [e6]; simp

end Go.Proofs.Ytekacbglncnbhaa.Pure
