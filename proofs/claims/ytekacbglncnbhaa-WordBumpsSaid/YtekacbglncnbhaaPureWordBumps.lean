/- Bumped as often as bits are set no mask is left, each bit is told once, rising, and the epoch is as many more; then there is none. No condition. -/
import Derived.Test.YtekacbglncnbhaaQWx23
import Derived.Test.YtekacbglncnbhaaMath
namespace Go.Proofs.Ytekacbglncnbhaa.Pure
open Go.RowKit Go.Proofs.Ytekacbglncnbhaa.QW Go.Proofs.YtekacbglncnbhaaW.PrintWords Go.Proofs.YtekacbglncnbhaaW.PrintLast Go.Proofs.YtekacbglncnbhaaW.PrintMore

theorem pk_bit (E c w : Nat) (hc : c < 65536) (hw : w < 16) : (pk E c).testBit w = c.testBit w := by
  have e : pk E c = 2 ^ 16 * (E % 281474976710656) + c := by unfold pk; omega
  rw [e, Nat.testBit_two_pow_mul_add _ (by omega)]
  simp [hw]

theorem next_round {i d k w : Nat} {last : Int} (hd : 16 - i = d + 1) (hi : i ≤ 16) (hk : 2 * (d + 1) + 2 ≤ k + 2) (hl : (i : Int) - 1 ≤ last) (hlw : ¬ (w : Int) ≤ last) (hw : w < 16) :
    16 - (i + 1) = d ∧ i + 1 ≤ 16 ∧ 2 * d + 2 ≤ k ∧ ((i + 1 : Nat) : Int) - 1 ≤ (w : Int) ∧ (w : Int) ≤ 15 := by omega

theorem cut_bit {m x : Nat} (h1 : m.testBit x = true) (h2 : ∀ k, k < x → m.testBit k = false) : (cut m).testBit x = false ∧ ∀ k, k < x → (cut m).testBit k = false := by
  unfold cut
  have e := and_pred h1 h2
  refine ⟨?_, fun k hk => by rw [Nat.testBit_and, h2 k hk]; rfl⟩
  rw [e]
  have hp := parts_at h1 h2
  generalize m / 2 ^ (x + 1) = q at hp
  have e2 : m - 2 ^ x = 2 ^ (x + 1) * q + 0 := by omega
  rw [e2, Nat.testBit_two_pow_mul_add q (Nat.two_pow_pos _)]
  simp

/-- No mask is left: the loop is over, and what stands behind it is true. -/
theorem bumps_end (k : Nat) (last : Int) (x i : Nat) (hx : x < 18446744073709551616) (h0 : x % 65536 = 0) :
    poacherlaw02_WordBumps.j1 (k + 1) true last (x : Int) (i : Int) (((0 : Nat) : Int) != 0) = some true ∧ poacherlaw02_WordBumps.j1 (k + 1) true last (x : Int) (i : Int) false = some true := by
  have key : poacherlaw02_WordBumps.j1 (k + 1) true last (x : Int) (i : Int) false = some true := by
    simp only [poacherlaw02_WordBumps.j1, Bool.false_eq_true, if_false, if_true]
    rw [bump_eq x hx, mask_eq x hx, h0]
    simp only [Option.bind_some]
    have e0 : Try.lowest ((0 : Nat) : Int) = -1 := by decide +kernel
    have e1 : cut 0 = 0 := rfl
    have e2 : pk (x / 65536 + 1) 0 / 65536 = (x / 65536 + 1) % 281474976710656 := by unfold pk; omega
    have e3 : pk (x / 65536 + 1) 0 % 65536 = 0 := by unfold pk; omega
    rw [if_pos (by rfl), e0, if_pos rfl, e1, epoch_eq, epoch_eq, e2, mask_eq _ (pk_lt _ _), e3]
    simp only [Option.bind_some]
    have e4 : (((x / 65536 + 1) % 281474976710656 : Nat) : Int) = Int.tmod (IntKind.u64.wrap (((x / 65536 : Nat) : Int) + 1)) 281474976710656 := by
      have : IntKind.u64.wrap (((x / 65536 : Nat) : Int) + 1) = ((x / 65536 + 1 : Nat) : Int) := by rw [IntKind.wrap_u64]; omega
      rw [this]; exact Int.ofNat_tmod _ 281474976710656
    rw [if_pos e4]; rfl
  exact ⟨key, key⟩

/-- The loop from a round on: i rounds are over, what was told last is at least i - 1, no bit up to it is set. -/
theorem bumps (d : Nat) : ∀ (k : Nat) (last : Int) (x : Nat) (i : Nat), 16 - i = d → i ≤ 16 → 2 * d + 2 ≤ k → x < 18446744073709551616 → (i : Int) - 1 ≤ last → last ≤ 15 → (∀ j : Nat, (j : Int) ≤ last → x.testBit j = false) →
    poacherlaw02_WordBumps.l0 k true last (x : Int) (i : Int) = some true := by
  induction d with
  | zero =>
    intro k last x i hd hi hk hx hl hl2 hb
    obtain ⟨k, rfl⟩ : ∃ m, k = m + 2 := ⟨k - 2, by omega⟩
    have h0 : x % 65536 = 0 := by
      have : x % 2 ^ 16 = 0 := mod_of_clear fun j hj => hb j (by omega)
      exact this
    simp only [poacherlaw02_WordBumps.l0]
    rw [if_neg (by omega)]
    exact (bumps_end k last x i hx h0).2
  | succ d ih =>
    intro k last x i hd hi hk hx hl hl2 hb
    obtain ⟨k, rfl⟩ : ∃ m, k = m + 2 := ⟨k - 2, by omega⟩
    simp only [poacherlaw02_WordBumps.l0]
    rw [if_pos (by omega), mask_eq x hx]
    simp only [Option.bind_some]
    by_cases h0 : x % 65536 = 0
    · rw [h0]; exact (bumps_end k last x i hx h0).1
    · have hne : ((((x % 65536 : Nat) : Int)) != 0) = true := by rw [bne_iff_ne]; omega
      rw [hne]
      simp only [poacherlaw02_WordBumps.j1, if_true]
      rw [bump_eq x hx]
      simp only [Option.bind_some]
      have hxm : x % 65536 < 65536 := Nat.mod_lt _ (by omega)
      have hmb : ∀ j, j < 16 → (x % 65536).testBit j = x.testBit j := fun j hj => by
        rw [show (65536 : Nat) = 2 ^ 16 from rfl, Nat.testBit_mod_two_pow]; simp [hj]
      rcases lowest_cases (x % 65536) (by omega) with ⟨h1, h2⟩ | ⟨w, hw, h1, h2, h3⟩
      · exfalso
        have : (x % 65536) % 2 ^ 16 = 0 := mod_of_clear h2
        omega
      · have hlw : ¬ (w : Int) ≤ last := fun hle => by
          have := hb w hle
          rw [hmb w hw, this] at h2
          exact absurd h2 (by simp)
        have hcut := and_pred h2 h3
        have hcb := cut_bit h2 h3
        have hcl := cut_lt (x % 65536) hxm
        have hge : 2 ^ w ≤ x % 65536 := by
          have := parts_at h2 h3
          omega
        have hp : 0 < 2 ^ w := Nat.two_pow_pos w
        generalize hm : x % 65536 = m at *
        rw [h1, if_neg hlw, if_neg (by omega), set_eq _ w (pk_lt _ _) hw, epoch_eq, mask_eq x hx, hm]
        simp only [Option.bind_some]
        have e1 : IntKind.u64.wrap (((x / 65536 : Nat) : Int) + 1) = ((x / 65536 + 1 : Nat) : Int) := by rw [IntKind.wrap_u64]; omega
        have e2 : put (pk (x / 65536 + 1) (cut m)) w = pk (x / 65536 + 1) m := by
          rw [put_new (by rw [pk_bit _ _ w hcl hw]; exact hcb.1)]
          have : cut m = m - 2 ^ w := hcut
          unfold pk
          generalize 2 ^ w = p at *
          omega
        rw [e1, pack_eq _ _ (by omega), e2]
        simp only [Option.bind_some]
        rw [if_pos (by trivial), mask_eq _ (pk_lt _ _)]
        simp only [Option.bind_some]
        have e3 : pk (x / 65536 + 1) (cut m) % 65536 = cut m := by unfold pk; omega
        have e4 : cut m < m := by
          have : cut m = m - 2 ^ w := hcut
          generalize 2 ^ w = p at *
          omega
        rw [e3, if_neg (by omega)]
        have e5 : wrap64 ((i : Int) + 1) = ((i + 1 : Nat) : Int) := by unfold wrap64; omega
        rw [e5]
        obtain ⟨g1, g2, g3, g4, g5⟩ := next_round hd hi hk hl hlw hw
        refine ih k (w : Int) (pk (x / 65536 + 1) (cut m)) (i + 1) g1 g2 g3 (pk_lt _ _) g4 g5 ?_
        intro j hj
        have hjw : j ≤ w := Int.ofNat_le.1 hj
        rw [pk_bit _ _ j hcl (Nat.lt_of_le_of_lt hjw hw)]
        by_cases e : j = w
        · rw [e]; exact hcb.1
        · exact hcb.2 j (Nat.lt_of_le_of_ne hjw e)

theorem WordBumps : poacherlaw02_WordBumps.Pure := by
  intro a0 h0
  obtain ⟨x, rfl, hx⟩ := nat_of_u64 h0
  refine ⟨40, ?_⟩
  unfold poacherlaw02_WordBumps.f
  rw [awake_true]
  simp only [Option.bind_some]
  exact bumps 16 40 (-1) x 0 (by omega) (by omega) (by omega) hx (by omega) (by omega) (fun j hj => by omega)

end Go.Proofs.Ytekacbglncnbhaa.Pure
