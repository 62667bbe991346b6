/- The plain laws on words: what each function of the packages word and poacherref02 answers, over natural numbers. -/
import Derived.Laws.BitsAllLaws
import Derived.Laws.Bits64
import Derived.Test.YtekacbglncnbhaaQWx10
namespace Go.Proofs.Ytekacbglncnbhaa.QW
open Go.RowKit Go.Proofs.YtekacbglncnbhaaW.PrintWords Go.Proofs.YtekacbglncnbhaaW.PrintLast Go.Proofs.YtekacbglncnbhaaW.PrintMore

theorem awake_true : poacherlaw02_awake.f = some true := by decide +kernel

theorem nat_of_u64 {a : Int} (h : (Lit.int .u64 a).wf = true) : ∃ n : Nat, a = (n : Int) ∧ n < 18446744073709551616 := by
  have h1 : IntKind.u64.min = 0 := rfl
  have h2 : IntKind.u64.max = 18446744073709551615 := rfl
  simp only [Lit.wf, Bool.and_eq_true, decide_eq_true_eq] at h
  exact ⟨a.toNat, by omega, by omega⟩

theorem i64_bounds {a : Int} (h : (Lit.int .i64 a).wf = true) : -9223372036854775808 ≤ a ∧ a ≤ 9223372036854775807 := by
  have h1 : IntKind.i64.min = -9223372036854775808 := rfl
  have h2 : IntKind.i64.max = 9223372036854775807 := rfl
  simp only [Lit.wf, Bool.and_eq_true, decide_eq_true_eq] at h
  omega

def pk (e m : Nat) : Nat := e % 281474976710656 * 65536 + m % 65536
theorem pk_lt (e m : Nat) : pk e m < 18446744073709551616 := by unfold pk; omega

theorem and16 (m : Nat) (hm : m < 18446744073709551616) : Go.bits .and .u64 (m : Int) 65535 = ((m % 65536 : Nat) : Int) := by
  have := u64_and_nat m 65535 hm (by omega)
  rw [nat_mask16] at this
  exact this

theorem pack_eq (e m : Nat) (hm : m < 18446744073709551616) : word_Pack.f (e : Int) (m : Int) = some ((pk e m : Nat) : Int) := by
  unfold word_Pack.f
  rw [and16 m hm]
  have h1 : IntKind.u64.wrap ((e : Int) * 65536) = ((e % 281474976710656 * 65536 : Nat) : Int) := by rw [IntKind.wrap_u64]; omega
  rw [h1, u64_or_nat _ _ (by omega) (by omega), nat_join 16 _ _ (by omega) (by omega)]
  rfl

theorem epoch_eq (e : Nat) : word_Epoch.f (e : Int) = some ((e / 65536 : Nat) : Int) := by
  unfold word_Epoch.f; congr 1

theorem mask_eq (e : Nat) (he : e < 18446744073709551616) : word_Mask.f (e : Int) = some ((e % 65536 : Nat) : Int) := by
  unfold word_Mask.f; rw [and16 e he]

theorem bitAt_eq (m k : Nat) (hm : m < 18446744073709551616) : Try.bitAt (m : Int) k = m.testBit k := by
  unfold Try.bitAt
  have h1 : ((m : Int) / 2 ^ k) = ((m / 2 ^ k : Nat) : Int) := by simp
  have h2 : m / 2 ^ k < 18446744073709551616 := Nat.lt_of_le_of_lt (Nat.div_le_self _ _) hm
  have h3 := u64_and_nat (m / 2 ^ k) 1 h2 (by omega)
  rw [h1, show (1 : Int) = ((1 : Nat) : Int) from rfl, h3, nat_mask1, Nat.testBit_eq_decide_div_mod_eq]
  by_cases h : m / 2 ^ k % 2 = 1
  · rw [h]; simp
  · have h0 : m / 2 ^ k % 2 = 0 := by omega
    rw [h0]; simp

theorem bitsTo_nil {m : Int} : ∀ {k : Nat}, Try.bitsTo m k = [] → ∀ j, j < k → Try.bitAt m j = false := by
  intro k h j hj
  have := List.filter_eq_nil_iff.1 h j (by simpa using hj)
  simpa using this

theorem lowest_cases (m : Nat) (hm : m < 18446744073709551616) :
    (Try.lowest m = -1 ∧ ∀ k, k < 16 → m.testBit k = false) ∨ (∃ x : Nat, x < 16 ∧ Try.lowest m = x ∧ m.testBit x = true ∧ ∀ k, k < x → m.testBit k = false) := by
  have key : ∀ n, (Try.bitsTo m n = [] ∧ ∀ k, k < n → m.testBit k = false) ∨ (∃ x l, x < n ∧ Try.bitsTo m n = x :: l ∧ m.testBit x = true ∧ ∀ k, k < x → m.testBit k = false) := by
    intro n
    induction n with
    | zero => exact .inl ⟨rfl, fun k h => absurd h (by omega)⟩
    | succ n ih =>
      have hs : Try.bitsTo (m : Int) (n + 1) = if m.testBit n = true then Try.bitsTo m n ++ [n] else Try.bitsTo m n := by
        have hb := bitAt_eq m n hm
        unfold Try.bitsTo
        rw [List.range_succ, List.filter_append]
        by_cases h : m.testBit n = true
        · rw [if_pos h]; simp [hb, h]
        · rw [if_neg h]; simp [hb, h]
      rcases ih with ⟨h1, h2⟩ | ⟨x, l, hx, h1, h2, h3⟩
      · by_cases h : m.testBit n = true
        · rw [if_pos h, h1] at hs
          exact .inr ⟨n, [], by omega, hs, h, h2⟩
        · rw [if_neg h, h1] at hs
          refine .inl ⟨hs, fun k hk => ?_⟩
          by_cases e : k = n
          · subst e; simpa using h
          · exact h2 k (by omega)
      · by_cases h : m.testBit n = true
        · rw [if_pos h, h1] at hs
          exact .inr ⟨x, l ++ [n], by omega, by simpa using hs, h2, h3⟩
        · rw [if_neg h, h1] at hs
          exact .inr ⟨x, l, by omega, hs, h2, h3⟩
  rcases key 16 with ⟨h1, h2⟩ | ⟨x, l, hx, h1, h2, h3⟩
  · exact .inl ⟨by rw [Try.lowest, h1], h2⟩
  · exact .inr ⟨x, hx, by rw [Try.lowest, h1], h2, h3⟩

theorem mod_of_clear {m n : Nat} (h : ∀ k, k < n → m.testBit k = false) : m % 2 ^ n = 0 := by
  apply Nat.eq_of_testBit_eq
  intro i
  rw [Nat.testBit_mod_two_pow, Nat.zero_testBit]
  by_cases hi : i < n
  · rw [h i hi]; simp
  · simp [hi]

/-- A bit that is set, none below: the number parts at it. -/
theorem parts_at {m x : Nat} (h1 : m.testBit x = true) (h2 : ∀ k, k < x → m.testBit k = false) : m = 2 ^ (x + 1) * (m / 2 ^ (x + 1)) + 2 ^ x := by
  have h3 := mod_of_clear h2
  have h4 : m / 2 ^ x % 2 = 1 := by simpa [Nat.testBit_eq_decide_div_mod_eq] using h1
  have h5 := Nat.div_add_mod m (2 ^ x)
  have h6 := Nat.div_add_mod (m / 2 ^ x) 2
  rw [h3] at h5
  rw [h4, Nat.div_div_eq_div_mul, ← Nat.pow_succ] at h6
  have h7 : 2 ^ x * (2 * (m / 2 ^ (x + 1)) + 1) = 2 ^ (x + 1) * (m / 2 ^ (x + 1)) + 2 ^ x := by
    rw [Nat.mul_add, Nat.mul_one, Nat.pow_succ]
    congr 1
    rw [Nat.mul_assoc]
  rw [← h7, h6]
  omega

/-- The lowest bit taken away. -/
theorem and_pred {m x : Nat} (h1 : m.testBit x = true) (h2 : ∀ k, k < x → m.testBit k = false) : m &&& (m - 1) = m - 2 ^ x := by
  have hp := parts_at h1 h2
  generalize m / 2 ^ (x + 1) = q at hp
  have hx : 0 < 2 ^ x := Nat.two_pow_pos x
  have hx1 : 2 ^ (x + 1) = 2 * 2 ^ x := by rw [Nat.pow_succ]; omega
  have e1 : m - 1 = 2 ^ (x + 1) * q + (2 ^ x - 1) := by omega
  have e2 : m - 2 ^ x = 2 ^ (x + 1) * q + 0 := by omega
  rw [e1, e2]
  conv => lhs; lhs; rw [hp]
  apply Nat.eq_of_testBit_eq
  intro j
  rw [Nat.testBit_and, Nat.testBit_two_pow_mul_add q (by omega : 2 ^ x < 2 ^ (x + 1)), Nat.testBit_two_pow_mul_add q (by omega : 2 ^ x - 1 < 2 ^ (x + 1)), Nat.testBit_two_pow_mul_add q (by omega : 0 < 2 ^ (x + 1))]
  by_cases hj : j < x + 1
  · simp only [hj, if_true, Nat.zero_testBit, Nat.testBit_two_pow, Nat.testBit_two_pow_sub_one]
    by_cases e : x = j
    · subst e; simp
    · simp [e]
  · simp only [hj, if_false, Bool.and_self]

/-- What bump leaves of a mask. -/
def cut (m : Nat) : Nat := m &&& (m - 1)
theorem cut_le (m : Nat) : cut m ≤ m := Nat.and_le_left
theorem cut_lt (m : Nat) (h : m < 65536) : cut m < 65536 := Nat.lt_of_le_of_lt (cut_le m) h

theorem bump_eq (e : Nat) (he : e < 18446744073709551616) : word_Bump.f (e : Int) = some (((pk (e / 65536 + 1) (cut (e % 65536)) : Nat) : Int), Try.lowest ((e % 65536 : Nat) : Int)) := by
  unfold word_Bump.f word_Lowest.f
  rw [mask_eq e he, epoch_eq]
  simp only [Option.bind_some]
  have h1 : IntKind.u64.wrap (((e / 65536 : Nat) : Int) + 1) = ((e / 65536 + 1 : Nat) : Int) := by rw [IntKind.wrap_u64]; omega
  have h2 : Go.bits .and .u64 ((e % 65536 : Nat) : Int) (IntKind.u64.wrap (((e % 65536 : Nat) : Int) - 1)) = ((cut (e % 65536) : Nat) : Int) := by
    by_cases h0 : e % 65536 = 0
    · rw [h0]; decide +kernel
    · have h3 : IntKind.u64.wrap (((e % 65536 : Nat) : Int) - 1) = ((e % 65536 - 1 : Nat) : Int) := by rw [IntKind.wrap_u64]; omega
      rw [h3, u64_and_nat _ _ (by omega) (by omega)]
      rfl
  rw [h1, h2, pack_eq _ _ (Nat.lt_of_lt_of_le (cut_lt _ (by omega)) (by omega))]
  simp only [Option.bind_some]

theorem wipe_eq (e : Nat) (he : e < 18446744073709551616) : word_Wipe.f (e : Int) = some ((pk (e / 65536 + 1) 0 : Nat) : Int) := by
  unfold word_Wipe.f
  rw [epoch_eq]
  simp only [Option.bind_some]
  have h1 : IntKind.u64.wrap (((e / 65536 : Nat) : Int) + 1) = ((e / 65536 + 1 : Nat) : Int) := by rw [IntKind.wrap_u64]; omega
  have := pack_eq (e / 65536 + 1) 0 (by omega)
  rw [h1, show (0 : Int) = ((0 : Nat) : Int) from rfl, this]
  simp only [Option.bind_some]

theorem shl1 (w : Nat) (hw : w < 16) : shl .u64 1 (w : Int) = ((2 ^ w : Nat) : Int) := by
  have h : 2 ^ w < 65536 := Nat.pow_lt_pow_right (by omega) hw
  have e : shl .u64 1 (w : Int) = IntKind.u64.wrap (1 * 2 ^ min (w : Int).toNat 64) := rfl
  rw [e, IntKind.wrap_u64, Int.toNat_natCast, Nat.min_eq_left (by omega), Int.one_mul]
  have : ((2 : Int) ^ w) = ((2 ^ w : Nat) : Int) := by simp
  rw [this]
  generalize 2 ^ w = p at *
  omega

/-- What set makes of a word, at a bit that there is. -/
def put (e w : Nat) : Nat := e ||| 2 ^ w
theorem set_eq (e w : Nat) (he : e < 18446744073709551616) (hw : w < 16) : word_Set.f (e : Int) (w : Int) = some ((put e w : Nat) : Int) := by
  unfold word_Set.f
  rw [if_neg (by omega), if_neg (by omega), if_pos (by omega), shl1 w hw, u64_or_nat _ _ he (Nat.lt_trans (Nat.pow_lt_pow_right (by omega) hw : 2 ^ w < 2 ^ 16) (by omega))]
  rfl
theorem set_out (e : Nat) (w : Int) (hw : w < 0 ∨ 16 ≤ w) : word_Set.f (e : Int) w = some (e : Int) := by
  unfold word_Set.f
  rcases hw with h | h
  · rw [if_pos h]
  · rw [if_neg (by omega), if_pos (by omega)]

theorem put_has {e w : Nat} (h : e.testBit w = true) : put e w = e := by
  apply Nat.eq_of_testBit_eq
  intro i
  rw [put, Nat.testBit_or, Nat.testBit_two_pow]
  by_cases hi : w = i
  · subst hi; simp [h]
  · simp [hi]
theorem put_new {e w : Nat} (h : e.testBit w = false) : put e w = e + 2 ^ w := by
  have h1 := Nat.div_add_mod e (2 ^ (w + 1))
  have h2 : e % 2 ^ (w + 1) < 2 ^ w := by
    have h3 : e % 2 ^ (w + 1) / 2 ^ w = 0 := by
      have h4 : e / 2 ^ w % 2 = 0 := by
        have := h
        rw [Nat.testBit_eq_decide_div_mod_eq] at this
        have : ¬ (e / 2 ^ w % 2 = 1) := by simpa using this
        omega
      rw [Nat.pow_succ, Nat.mod_mul_right_div_self, h4]
    exact (Nat.div_eq_zero_iff_lt (Nat.two_pow_pos w)).1 h3
  generalize e / 2 ^ (w + 1) = q at h1
  generalize e % 2 ^ (w + 1) = r at h1 h2
  have hx1 : 2 ^ (w + 1) = 2 * 2 ^ w := by rw [Nat.pow_succ]; omega
  have e2 : e + 2 ^ w = 2 ^ (w + 1) * q + (2 ^ w + r) := by omega
  apply Nat.eq_of_testBit_eq
  intro j
  rw [put, Nat.testBit_or, e2, ← h1, Nat.testBit_two_pow_mul_add q (by omega : r < 2 ^ (w + 1)), Nat.testBit_two_pow_mul_add q (by omega : 2 ^ w + r < 2 ^ (w + 1)), Nat.testBit_two_pow]
  by_cases hj : j < w + 1
  · simp only [hj, if_true]
    have e3 : 2 ^ w + r = 2 ^ w * 1 + r := by omega
    rw [e3, Nat.testBit_two_pow_mul_add 1 h2]
    by_cases hw : j < w
    · have : ¬ (w = j) := by omega
      simp [hw, this]
    · obtain rfl : j = w := by omega
      simp
  · have : ¬ (w = j) := by omega
    simp [hj, this]

theorem far_eq (a b : Nat) : word_Far.f (a : Int) (b : Int) = some (wrap64 ((a : Int) - b)) := by
  unfold word_Far.f
  congr 1
  rw [IntKind.wrap_u64]; unfold wrap64; omega

theorem shr_bit (m k : Nat) (hm : m < 18446744073709551616) (hk : k < 64) : Go.bits .and .u64 (shr .u64 (m : Int) (k : Int)) 1 = if m.testBit k = true then 1 else 0 := by
  have e : shr .u64 (m : Int) (k : Int) = (m : Int) / 2 ^ min (k : Int).toNat 64 := rfl
  have h1 : ((m : Int) / 2 ^ k) = ((m / 2 ^ k : Nat) : Int) := by simp
  have h2 : m / 2 ^ k < 18446744073709551616 := Nat.lt_of_le_of_lt (Nat.div_le_self _ _) hm
  have h3 := u64_and_nat (m / 2 ^ k) 1 h2 (by omega)
  rw [e, Int.toNat_natCast, Nat.min_eq_left (by omega), h1, show (1 : Int) = ((1 : Nat) : Int) from rfl, h3, nat_mask1, Nat.testBit_eq_decide_div_mod_eq]
  by_cases h : m / 2 ^ k % 2 = 1
  · rw [h]; simp
  · have h0 : m / 2 ^ k % 2 = 0 := by omega
    rw [h0]; simp

theorem put_self (e w : Nat) : (put e w).testBit w = true := by
  rw [put, Nat.testBit_or, Nat.testBit_two_pow]; simp
theorem put_other (e : Nat) {w k : Nat} (h : w ≠ k) : (put e w).testBit k = e.testBit k := by
  rw [put, Nat.testBit_or, Nat.testBit_two_pow]; simp [h]
theorem put_lt (e w : Nat) (he : e < 18446744073709551616) (hw : w < 16) : put e w < 18446744073709551616 :=
  Nat.or_lt_two_pow (n := 64) he (Nat.lt_trans (Nat.pow_lt_pow_right (by omega) hw : 2 ^ w < 2 ^ 16) (by omega))
theorem put_epoch (e w : Nat) (hw : w < 16) : put e w / 65536 = e / 65536 := by
  apply Nat.eq_of_testBit_eq
  intro i
  rw [show (65536 : Nat) = 2 ^ 16 from rfl, Nat.testBit_div_two_pow, Nat.testBit_div_two_pow]
  exact put_other e (by omega)

end Go.Proofs.Ytekacbglncnbhaa.QW
