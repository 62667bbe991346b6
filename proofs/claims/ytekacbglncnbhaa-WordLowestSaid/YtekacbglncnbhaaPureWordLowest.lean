/- The lowest bit is set and none below it; none just if no bit of 16 is set. No condition. -/
import Derived.Test.YtekacbglncnbhaaQWx26
import Derived.Test.YtekacbglncnbhaaMath
namespace Go.Proofs.Ytekacbglncnbhaa.Pure
open Go.RowKit Go.Proofs.Ytekacbglncnbhaa.QW Go.Proofs.YtekacbglncnbhaaW.PrintWords Go.Proofs.YtekacbglncnbhaaW.PrintLast Go.Proofs.YtekacbglncnbhaaW.PrintMore

theorem WordLowest : poacherlaw02_WordLowest.Pure := by
  intro a0 h0
  obtain ⟨m, rfl, hm⟩ := nat_of_u64 h0
  unfold poacherlaw02_WordLowest.f word_Lowest.f
  rw [awake_true]
  simp only [Option.bind_some, if_true]
  rcases lowest_cases m hm with ⟨h1, h2⟩ | ⟨x, hx, h1, h2, h3⟩
  · rw [h1, if_pos (by omega), if_pos rfl]
    have e1 : Int.tmod (m : Int) 65536 = ((m % 65536 : Nat) : Int) := (Int.ofNat_tmod m 65536).symm
    have e2 : m % 2 ^ 16 = 0 := mod_of_clear h2
    rw [e1, show m % 65536 = 0 from e2]; rfl
  · rw [h1, if_neg (by omega), if_neg (by omega), if_pos (by omega), shr_bit m x hm (by omega), h2]
    have hp : 0 < 2 ^ x := Nat.two_pow_pos x
    have hq : ¬ (((2 ^ x : Nat) : Int) = 0) := fun h => Nat.lt_irrefl 0 (by have h' := Int.natCast_eq_zero.1 h; rw [h'] at hp; exact hp)
    rw [if_pos rfl, shl1 x hx, if_neg hq, ← Int.ofNat_tmod, mod_of_clear h3]
    rfl

end Go.Proofs.Ytekacbglncnbhaa.Pure
