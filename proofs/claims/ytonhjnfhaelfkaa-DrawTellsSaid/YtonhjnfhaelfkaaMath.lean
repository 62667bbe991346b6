/- The plain laws of the package draw: what each function answers. -/
import Derived.Test.YtonhjnfhaelfkaaQDx6
import Derived.Test.YtonhjnfhaelfkaaQDx7
import Derived.Test.YtonhjnfhaelfkaaQDx12
set_option linter.unusedVariables false
set_option linter.unusedSimpArgs false
namespace Go.Proofs.Ytonhjnfhaelfkaa.QD
open Go.RowKit Go.Proofs.YtonhjnfhaelfkaaW.PrintWords Go.Proofs.YtonhjnfhaelfkaaW.PrintLast Go.Proofs.YtonhjnfhaelfkaaW.PrintMore

theorem leO_le {α : Type} {f : Nat → Option α} (h : ∀ k, LeO (f k) (f (k + 1))) {k k' : Nat} (hk : k ≤ k') {r : α} (hr : f k = some r) : f k' = some r := by
  obtain ⟨d, rfl⟩ := Nat.exists_eq_add_of_le hk
  induction d with
  | zero => exact hr
  | succ d ih => exact h _ _ (ih (by omega))
theorem awake_50 : poacherlaw05_awake.f 50 = some true := by decide +kernel
theorem awake_k {k : Nat} (h : 50 ≤ k) : poacherlaw05_awake.f k = some true := leO_le (fun k => poacherlaw05_awake.mono k) h awake_50

theorem u64_bounds {a : Int} (h : (Lit.int .u64 a).wf = true) : 0 ≤ a ∧ a ≤ 18446744073709551615 := by
  have h1 : IntKind.u64.min = 0 := rfl
  have h2 : IntKind.u64.max = 18446744073709551615 := rfl
  simp only [Lit.wf, Bool.and_eq_true, decide_eq_true_eq] at h
  omega
theorem i64_bounds {a : Int} (h : (Lit.int .i64 a).wf = true) : -9223372036854775808 ≤ a ∧ a ≤ 9223372036854775807 := by
  have h1 : IntKind.i64.min = -9223372036854775808 := rfl
  have h2 : IntKind.i64.max = 9223372036854775807 := rfl
  simp only [Lit.wf, Bool.and_eq_true, decide_eq_true_eq] at h
  omega

theorem below_eq (a b : Int) : draw_below.f a b = some (decide (0 ≤ a ∧ a < b)) := by
  unfold draw_below.f
  by_cases h : a ≥ 0
  · rw [if_pos h]; congr 1; by_cases h2 : a < b <;> simp [h2]; exact h
  · rw [if_neg h]; congr 1; simp; omega

/-- Whom one looks at. -/
def vic (d self w : Int) : Int := if self + 1 + d % (w - 1) < w then self + 1 + d % (w - 1) else self + 1 + d % (w - 1) - w
theorem vic_eq (d self w : Int) (hd : 0 ≤ d) (hw : 2 ≤ w ∧ w ≤ 64) (hs : 0 ≤ self ∧ self < w) : draw_Victim.f d self w = some (vic d self w) := by
  unfold draw_Victim.f
  have h1 := Int.emod_nonneg d (show w - 1 ≠ 0 by omega)
  have h2 := Int.emod_lt_of_pos d (show 0 < w - 1 by omega)
  have e1 : IntKind.u64.wrap w = w := by rw [IntKind.wrap_u64]; omega
  have e2 : IntKind.u64.wrap (w - 1) = w - 1 := by rw [IntKind.wrap_u64]; omega
  have e3 : IntKind.u64.wrap self = self := by rw [IntKind.wrap_u64]; omega
  have e4 : IntKind.u64.wrap (self + 1) = self + 1 := by rw [IntKind.wrap_u64]; omega
  have e5 : Int.tmod d (w - 1) = d % (w - 1) := Int.tmod_eq_emod_of_nonneg hd
  have e6 : IntKind.u64.wrap (self + 1 + d % (w - 1)) = self + 1 + d % (w - 1) := by rw [IntKind.wrap_u64]; omega
  rw [below_eq, if_neg (by omega)]
  simp only [Option.bind_some, show decide (0 ≤ self ∧ self < w) = true from by simpa using hs, if_true]
  rw [e1, e2, e3, e4, e5, e6, if_neg (by omega), if_neg (by omega), Int.tmod_eq_emod_of_nonneg (by omega)]
  congr 1
  unfold vic
  by_cases h : self + 1 + d % (w - 1) < w
  · rw [if_pos h, Int.emod_eq_of_lt (by omega) h]; unfold wrap64; omega
  · rw [if_neg h]
    have : (self + 1 + d % (w - 1)) % w = self + 1 + d % (w - 1) - w := by
      rw [show self + 1 + d % (w - 1) = (self + 1 + d % (w - 1) - w) + w from by omega, Int.add_emod_right, Int.emod_eq_of_lt (by omega) (by omega)]
      omega
    rw [this]; unfold wrap64; omega
theorem vic_no (d self w : Int) (h : ¬ (2 ≤ w ∧ 0 ≤ self ∧ self < w)) : draw_Victim.f d self w = some (-1) := by
  unfold draw_Victim.f
  by_cases h2 : w < 2
  · rw [if_pos h2]
  · rw [if_neg h2, below_eq]
    simp only [Option.bind_some, show decide (0 ≤ self ∧ self < w) = false from by simp; omega]
    rfl

/-- Does a pick fit? -/
def fit (p0 p1 w s : Int) : Bool := (p0 == 0 && decide (0 ≤ p1 ∧ p1 < w)) || (p0 == 1 && decide (0 ≤ p1 ∧ p1 < s)) || p0 == 2 || p0 == 3
theorem fit_eq (p0 p1 p2 w s : Int) : draw_Fits.f p0 p1 p2 w s = some (fit p0 p1 w s) := by
  unfold draw_Fits.f
  simp only [below_eq, Option.bind_some]
  unfold fit
  by_cases h0 : p0 = 0
  · subst h0; by_cases h : 0 ≤ p1 ∧ p1 < w <;> simp [h]
  · by_cases h1 : p0 = 1
    · subst h1; by_cases h : 0 ≤ p1 ∧ p1 < s <;> simp [h]
    · by_cases h2 : p0 = 2 <;> simp [h0, h1, h2]

open Go.Proofs.YtonhjnfhaelfkaaHand in
theorem round_k {a b : Int} (d : Int) (ha : 0 ≤ a ∧ a < 21) (hb : 0 ≤ b ∧ b < 21) {k : Nat} (hk : 50 ≤ k) : draw_Round.f k a b d = some ((roundOf a b d).map s25) :=
  leO_le (fun k => draw_Round.mono a b d k) (show b.toNat + 1 + a.toNat + 1 + 1 ≤ k by omega) (round_closed a b d ha hb)
theorem round_no {a b : Int} (d : Int) (h : ¬ ((0 ≤ a ∧ a < 21) ∧ (0 ≤ b ∧ b < 21))) {k : Nat} (hk : 1 ≤ k) : draw_Round.f k a b d = some [] := by
  obtain ⟨k, rfl⟩ : ∃ j, k = j + 1 := ⟨k - 1, by omega⟩
  unfold draw_Round.f
  rw [below_eq, below_eq]
  by_cases ha : 0 ≤ a ∧ a < 21
  · have hb : ¬ (0 ≤ b ∧ b < 21) := fun hb => h ⟨ha, hb⟩
    simp [ha, hb, draw_Round.j0]
  · simp [ha, draw_Round.j0]
end Go.Proofs.Ytonhjnfhaelfkaa.QD
