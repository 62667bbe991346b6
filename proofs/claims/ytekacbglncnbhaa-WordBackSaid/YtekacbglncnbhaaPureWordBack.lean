/- What is packed is told again; each word is that of its epoch and its mask. No condition. -/
import Derived.Test.YtekacbglncnbhaaQWx22
import Derived.Test.YtekacbglncnbhaaMath
namespace Go.Proofs.Ytekacbglncnbhaa.Pure
open Go.RowKit Go.Proofs.Ytekacbglncnbhaa.QW Go.Proofs.YtekacbglncnbhaaW.PrintWords Go.Proofs.YtekacbglncnbhaaW.PrintLast Go.Proofs.YtekacbglncnbhaaW.PrintMore

theorem WordBack : poacherlaw02_WordBack.Pure := by
  intro a0 a1 h0 h1
  obtain ⟨a, rfl, ha⟩ := nat_of_u64 h0
  obtain ⟨b, rfl, hb⟩ := nat_of_u64 h1
  have e1 : pk (a / 65536) (a % 65536) = a := by unfold pk; omega
  have e2 : Int.tmod (a : Int) 281474976710656 = ((a % 281474976710656 : Nat) : Int) := (Int.ofNat_tmod a 281474976710656).symm
  have e3 : Int.tmod (b : Int) 65536 = ((b % 65536 : Nat) : Int) := (Int.ofNat_tmod b 65536).symm
  have e4 : pk a b / 65536 = a % 281474976710656 := by unfold pk; omega
  have e5 : pk a b % 65536 = b % 65536 := by unfold pk; omega
  simp only [poacherlaw02_WordBack.f, awake_true, pack_eq a b hb, epoch_eq, mask_eq a ha, Option.bind_some, if_true, pack_eq (a / 65536) (a % 65536) (by omega), e1, mask_eq _ (pk_lt a b), e2, e3, e4, e5, beq_self_eq_true]

end Go.Proofs.Ytekacbglncnbhaa.Pure
