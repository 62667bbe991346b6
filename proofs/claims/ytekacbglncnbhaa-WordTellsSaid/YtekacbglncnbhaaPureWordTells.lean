/- The package word answers as the reference does, for all numbers: pack, epoch, mask, set, lowest, bump, wipe, far. No condition. -/
import Derived.Test.YtekacbglncnbhaaQWx21
import Derived.Test.YtekacbglncnbhaaMath
namespace Go.Proofs.Ytekacbglncnbhaa.Pure
open Go.RowKit Go.Proofs.Ytekacbglncnbhaa.QW Go.Proofs.YtekacbglncnbhaaW.PrintWords Go.Proofs.YtekacbglncnbhaaW.PrintLast Go.Proofs.YtekacbglncnbhaaW.PrintMore

theorem rpack_eq (e m : Nat) : poacherref02_Pack.f (e : Int) (m : Int) = some ((pk e m : Nat) : Int) := by
  unfold poacherref02_Pack.f
  have h1 : Int.tmod (e : Int) 281474976710656 = ((e % 281474976710656 : Nat) : Int) := (Int.ofNat_tmod e 281474976710656).symm
  have h2 : Int.tmod (m : Int) 65536 = ((m % 65536 : Nat) : Int) := (Int.ofNat_tmod m 65536).symm
  rw [h1, h2, IntKind.wrap_u64, IntKind.wrap_u64]
  congr 1
  unfold pk
  omega

theorem repoch_eq (e : Nat) (he : e < 18446744073709551616) : poacherref02_Epoch.f (e : Int) = some ((e / 65536 : Nat) : Int) := by
  unfold poacherref02_Epoch.f
  have h1 : Int.tdiv (e : Int) 65536 = ((e / 65536 : Nat) : Int) := rfl
  rw [h1, IntKind.wrap_u64]
  congr 1
  omega

theorem rmask_eq (e : Nat) : poacherref02_Mask.f (e : Int) = some ((e % 65536 : Nat) : Int) := by
  unfold poacherref02_Mask.f
  exact congrArg some (Int.ofNat_tmod e 65536).symm

theorem rbit_from (d : Nat) : ∀ (k w i : Nat), w - i = d → i ≤ w → w < 16 → d < k → poacherref02_bit.l0 k (w : Int) ((2 ^ i : Nat) : Int) (i : Int) = some ((2 ^ w : Nat) : Int) := by
  induction d with
  | zero =>
    intro k w i hd hi hw hk
    obtain ⟨k, rfl⟩ : ∃ m, k = m + 1 := ⟨k - 1, by omega⟩
    obtain rfl : i = w := by omega
    simp only [poacherref02_bit.l0]
    rw [if_neg (by omega)]
  | succ d ih =>
    intro k w i hd hi hw hk
    obtain ⟨k, rfl⟩ : ∃ m, k = m + 1 := ⟨k - 1, by omega⟩
    simp only [poacherref02_bit.l0]
    have hlt : 2 ^ i < 2 ^ 16 := Nat.pow_lt_pow_right (by omega) (by omega)
    have e1 : IntKind.u64.wrap (2 * ((2 ^ i : Nat) : Int)) = ((2 ^ (i + 1) : Nat) : Int) := by
      rw [IntKind.wrap_u64, Nat.pow_succ]
      generalize 2 ^ i = p at *
      omega
    have e2 : wrap64 ((i : Int) + 1) = ((i + 1 : Nat) : Int) := by unfold wrap64; omega
    rw [if_pos (by omega), e1, e2]
    exact ih k w (i + 1) (by omega) (by omega) hw (by omega)

theorem rbit_eq (k w : Nat) (hw : w < 16) (hk : 16 < k) : poacherref02_bit.f k (w : Int) = some ((2 ^ w : Nat) : Int) := by
  unfold poacherref02_bit.f
  exact rbit_from w k w 0 (by omega) (by omega) hw (by omega)

theorem rhas_eq (k m w : Nat) (hm : m < 18446744073709551616) (hw : w < 16) (hk : 16 < k) : poacherref02_Has.f k (m : Int) (w : Int) = some (m.testBit w) := by
  unfold poacherref02_Has.f
  rw [rbit_eq k w hw hk]
  simp only [Option.bind_some]
  have hp : 0 < 2 ^ w := Nat.two_pow_pos w
  have hq : ¬ (((2 ^ w : Nat) : Int) = 0) := fun h => Nat.lt_irrefl 0 (by have h' := Int.natCast_eq_zero.1 h; rw [h'] at hp; exact hp)
  have h1 : Int.tdiv (m : Int) ((2 ^ w : Nat) : Int) = ((m / 2 ^ w : Nat) : Int) := rfl
  have h2 : IntKind.u64.wrap ((m / 2 ^ w : Nat) : Int) = ((m / 2 ^ w : Nat) : Int) := by
    have : m / 2 ^ w ≤ m := Nat.div_le_self _ _
    rw [IntKind.wrap_u64]
    generalize m / 2 ^ w = q at *
    omega
  have h3 : Int.tmod ((m / 2 ^ w : Nat) : Int) 2 = ((m / 2 ^ w % 2 : Nat) : Int) := (Int.ofNat_tmod _ 2).symm
  rw [if_neg hq, h1, h2, h3, Nat.testBit_eq_decide_div_mod_eq]
  by_cases h : m / 2 ^ w % 2 = 1
  · rw [h]; rfl
  · have h0 : m / 2 ^ w % 2 = 0 := by omega
    rw [h0]; rfl

theorem rlowest_from (m : Nat) (hm : m < 18446744073709551616) (d : Nat) : ∀ (k i : Nat), 16 - i = d → i ≤ 16 → 16 + d < k → (∀ j, j < i → m.testBit j = false) →
    poacherref02_Lowest.l0 k (m : Int) (i : Int) = some (Try.lowest m) := by
  induction d with
  | zero =>
    intro k i hd hi hk hb
    obtain ⟨k, rfl⟩ : ∃ m, k = m + 1 := ⟨k - 1, by omega⟩
    simp only [poacherref02_Lowest.l0]
    rw [if_neg (by omega)]
    rcases lowest_cases m hm with ⟨h1, _⟩ | ⟨x, hx, _, h2, _⟩
    · rw [h1]
    · rw [hb x (by omega)] at h2; exact absurd h2 (by simp)
  | succ d ih =>
    intro k i hd hi hk hb
    obtain ⟨k, rfl⟩ : ∃ m, k = m + 1 := ⟨k - 1, by omega⟩
    simp only [poacherref02_Lowest.l0]
    rw [if_pos (by omega), rhas_eq k m i hm (by omega) (by omega)]
    simp only [Option.bind_some]
    by_cases h : m.testBit i = true
    · rw [if_pos h]
      rcases lowest_cases m hm with ⟨_, h2⟩ | ⟨x, hx, h1, h2, h3⟩
      · rw [h2 i (by omega)] at h; exact absurd h (by simp)
      · have : x = i := by
          rcases Nat.lt_trichotomy x i with hlt | he | hgt
          · rw [hb x hlt] at h2; exact absurd h2 (by simp)
          · exact he
          · rw [h3 i hgt] at h; exact absurd h (by simp)
        rw [h1, this]
    · rw [if_neg h]
      have e2 : wrap64 ((i : Int) + 1) = ((i + 1 : Nat) : Int) := by unfold wrap64; omega
      rw [e2]
      refine ih k (i + 1) (by omega) (by omega) (by omega) (fun j hj => ?_)
      by_cases e : j = i
      · subst e; simpa using h
      · exact hb j (by omega)

theorem rlowest_eq (k m : Nat) (hm : m < 18446744073709551616) (hk : 40 < k) : poacherref02_Lowest.f k (m : Int) = some (Try.lowest m) := by
  unfold poacherref02_Lowest.f
  exact rlowest_from m hm 16 k 0 (by omega) (by omega) (by omega) (fun j hj => absurd hj (by omega))

theorem rbump_eq (k e : Nat) (he : e < 18446744073709551616) (hk : 40 < k) : poacherref02_Bump.f k (e : Int) = some (((pk (e / 65536 + 1) (cut (e % 65536)) : Nat) : Int), Try.lowest ((e % 65536 : Nat) : Int)) := by
  unfold poacherref02_Bump.f
  have hm : e % 65536 < 65536 := Nat.mod_lt _ (by omega)
  have h1 : IntKind.u64.wrap (((e / 65536 : Nat) : Int) + 1) = ((e / 65536 + 1 : Nat) : Int) := by rw [IntKind.wrap_u64]; omega
  rw [rmask_eq e, repoch_eq e he]
  simp only [Option.bind_some]
  rw [rlowest_eq k _ (by omega) hk, h1]
  simp only [Option.bind_some]
  generalize e % 65536 = m at *
  rcases lowest_cases m (by omega) with ⟨h2, h3⟩ | ⟨x, hx, h2, h3, h4⟩
  · have hz : m = 0 := by
      have : m % 2 ^ 16 = 0 := mod_of_clear h3
      omega
    subst hz
    have := rpack_eq (e / 65536 + 1) 0
    rw [h2, if_pos (by omega), show (0 : Int) = ((0 : Nat) : Int) from rfl, this]
    rfl
  · have hge : 2 ^ x ≤ m := by have := parts_at h3 h4; omega
    have h5 : IntKind.u64.wrap ((m : Int) - ((2 ^ x : Nat) : Int)) = ((cut m : Nat) : Int) := by
      have : cut m = m - 2 ^ x := and_pred h3 h4
      rw [this, IntKind.wrap_u64]
      generalize 2 ^ x = p at *
      omega
    rw [h2, if_neg (by omega), rbit_eq k x hx (by omega)]
    simp only [Option.bind_some]
    rw [h5, rpack_eq]
    rfl

theorem rset_eq (k e : Nat) (w : Int) (he : e < 18446744073709551616) (hk : 40 < k) : poacherref02_Set.f k (e : Int) w = word_Set.f (e : Int) w := by
  obtain ⟨k, rfl⟩ : ∃ m, k = m + 1 := ⟨k - 1, by omega⟩
  unfold poacherref02_Set.f
  by_cases hout : w < 0 ∨ 16 ≤ w
  · rw [set_out e w hout]
    by_cases hneg : w < 0
    · rw [if_pos hneg]; simp only [poacherref02_Set.j0, if_true]
    · rw [if_neg hneg, decide_eq_true (by omega)]; simp only [poacherref02_Set.j0, if_true]
  · obtain ⟨x, rfl⟩ := Int.eq_ofNat_of_zero_le (show 0 ≤ w by omega)
    have hx : x < 16 := by omega
    rw [set_eq e x he hx, if_neg (by omega), decide_eq_false (by omega)]
    simp only [poacherref02_Set.j0, Bool.false_eq_true, if_false]
    rw [rhas_eq k e x he hx (by omega), rbit_eq k x hx (by omega)]
    simp only [Option.bind_some]
    by_cases h : e.testBit x = true
    · rw [if_pos h, put_has h]
    · rw [if_neg h]
      have hf : e.testBit x = false := by simpa using h
      have hl := put_lt e x he hx
      rw [put_new hf] at hl ⊢
      have : IntKind.u64.wrap ((e : Int) + ((2 ^ x : Nat) : Int)) = ((e + 2 ^ x : Nat) : Int) := by
        rw [IntKind.wrap_u64]
        generalize 2 ^ x = p at *
        omega
      rw [this]

theorem rwipe_eq (e : Nat) (he : e < 18446744073709551616) : poacherref02_Wipe.f (e : Int) = some ((pk (e / 65536 + 1) 0 : Nat) : Int) := by
  unfold poacherref02_Wipe.f
  have h1 : IntKind.u64.wrap (((e / 65536 : Nat) : Int) + 1) = ((e / 65536 + 1 : Nat) : Int) := by rw [IntKind.wrap_u64]; omega
  have := rpack_eq (e / 65536 + 1) 0
  rw [repoch_eq e he]
  simp only [Option.bind_some]
  rw [h1, show (0 : Int) = ((0 : Nat) : Int) from rfl, this]
  rfl

theorem rfar_eq (a b : Nat) : poacherref02_Far.f (a : Int) (b : Int) = some (wrap64 ((a : Int) - b)) := by
  unfold poacherref02_Far.f
  rw [IntKind.wrap_u64, IntKind.wrap_u64]
  by_cases h : ((a : Int) - b) % 18446744073709551616 ≥ 9223372036854775808
  · rw [if_pos h]
    congr 1
    unfold wrap64
    omega
  · rw [if_neg h]
    congr 1
    unfold wrap64
    omega

theorem set_some (e : Nat) (w : Int) (he : e < 18446744073709551616) : ∃ r, word_Set.f (e : Int) w = some r := by
  by_cases hout : w < 0 ∨ 16 ≤ w
  · exact ⟨_, set_out e w hout⟩
  · obtain ⟨x, rfl⟩ := Int.eq_ofNat_of_zero_le (show 0 ≤ w by omega)
    exact ⟨_, set_eq e x he (by omega)⟩

theorem WordTells : poacherlaw02_WordTells.Pure := by
  intro a0 a1 w h0 h1 _
  obtain ⟨a, rfl, ha⟩ := nat_of_u64 h0
  obtain ⟨b, rfl, hb⟩ := nat_of_u64 h1
  refine ⟨50, ?_⟩
  obtain ⟨r, hr⟩ := set_some a w ha
  unfold poacherlaw02_WordTells.f word_Lowest.f
  simp only [awake_true, bump_eq a ha, rbump_eq 50 a ha (by omega), Option.bind_some, if_true, pack_eq a b hb, rpack_eq, epoch_eq, repoch_eq a ha, mask_eq a ha, rmask_eq, rset_eq 50 a w ha (by omega), hr, rlowest_eq 50 a ha (by omega), wipe_eq a ha, rwipe_eq a ha, far_eq, rfar_eq, beq_self_eq_true]

end Go.Proofs.Ytekacbglncnbhaa.Pure
