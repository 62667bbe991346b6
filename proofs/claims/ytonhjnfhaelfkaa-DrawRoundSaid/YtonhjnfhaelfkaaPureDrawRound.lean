import Derived.Test.YtonhjnfhaelfkaaQDx28
import Derived.Test.YtonhjnfhaelfkaaMath
set_option linter.unusedVariables false
set_option linter.unusedSimpArgs false
namespace Go.Proofs.Ytonhjnfhaelfkaa.Pure
open Go.RowKit Go.Proofs.Ytonhjnfhaelfkaa.QD Go.Proofs.YtonhjnfhaelfkaaW.PrintWords Go.Proofs.YtonhjnfhaelfkaaW.PrintLast Go.Proofs.YtonhjnfhaelfkaaHand

/-- The pick at a place of a round. -/
def rp (a d : Int) (i : Int) : S25 := if i < a then ⟨0, i, d⟩ else ⟨1, i - a, d⟩
theorem round_len (a b d : Int) : ((roundOf a b d).map s25).length = a.toNat + b.toNat := by simp [roundOf]
theorem round_at (a b d i : Int) (ha : 0 ≤ a) (hb : 0 ≤ b) (h0 : 0 ≤ i) (h1 : i < a + b) : rd_T25 ((roundOf a b d).map s25) i = rp a d i := by
  unfold rd_T25 rp
  rw [List.getD_eq_getElem?_getD, List.getElem?_map, roundOf]
  by_cases h : i < a
  · rw [if_pos h, List.getElem?_append_left (by simp; omega), List.getElem?_map, List.getElem?_range (by omega)]
    simp [s25, Int.toNat_of_nonneg h0]
  · rw [if_neg h, List.getElem?_append_right (by simp; omega), List.getElem?_map, List.getElem?_range (by simp; omega)]
    simp [s25]
    omega

theorem rp_f2 (a d i : Int) : (rp a d i).f2 = d := by unfold rp; split <;> rfl
theorem rp_f0 (a d i : Int) : (rp a d i).f0 = if i < a then 0 else 1 := by unfold rp; split <;> rfl
theorem rp_f1 (a d i : Int) : (rp a d i).f1 = if i < a then i else i - a := by unfold rp; split <;> rfl

theorem round_main (k : Nat) (a b d i j : Int) (ha : 0 ≤ a ∧ a < 21) (hb : 0 ≤ b ∧ b < 21) (hi : 0 ≤ i ∧ i < a + b) (hj : 0 ≤ j ∧ j < a + b) : poacherlaw05_DrawRound.j1 (k + 1) a b d i j ((roundOf a b d).map s25) false = some true := by
  have e1 : wrap64 (a - 1) = a - 1 := by unfold wrap64; omega
  rw [poacherlaw05_DrawRound.j1, if_neg (by simp), round_len, if_pos hi.1, if_pos (by omega), round_at a b d i ha.1 hb.1 hi.1 hi.2, fit_eq, Option.bind_some]
  have hfit : fit (rp a d i).f0 (rp a d i).f1 a b = true := by
    rw [rp_f0, rp_f1]; unfold fit
    by_cases h : i < a
    · simp [h, hi.1]
    · simp [h]; omega
  rw [hfit, if_pos rfl, rp_f2, if_pos rfl, e1, fit_eq]
  have hless : fit (rp a d i).f0 (rp a d i).f1 (a - 1) b = (if (rp a d i).f0 = 0 then ((rp a d i).f1 != a - 1) else true) := by
    rw [rp_f0, rp_f1]; unfold fit
    by_cases h : i < a
    · simp only [if_pos h]
      have hd : decide (0 ≤ i ∧ i < a - 1) = (i != a - 1) := by
        by_cases h2 : i = a - 1
        · rw [decide_eq_false (by omega)]; simp [h2]
        · rw [decide_eq_true (by omega)]; simp [h2]
      rw [hd]
      simp
    · simp only [if_neg h]
      have hd : decide (0 ≤ i - a ∧ i - a < b) = true := decide_eq_true (by omega)
      rw [hd]
      simp
  have hend : (if (rp a d i).f0 = 0 then (some (fit (rp a d i).f0 (rp a d i).f1 (a - 1) b == ((rp a d i).f1 != a - 1))) else (some (fit (rp a d i).f0 (rp a d i).f1 (a - 1) b == true))) = some true := by
    rw [hless]
    by_cases h : (rp a d i).f0 = 0
    · rw [if_pos h, if_pos h]; simp
    · rw [if_neg h, if_neg h]; simp
  by_cases hij : i = j
  · rw [if_pos hij, Option.bind_some]
    exact hend
  · rw [if_neg hij, if_pos hj.1, if_pos (by omega), round_at a b d j ha.1 hb.1 hj.1 hj.2]
    have hne : (!((rp a d i).f0 == (rp a d j).f0) || (!((rp a d i).f1 == (rp a d j).f1) || !(d == (rp a d j).f2))) = true := by
      rw [rp_f0, rp_f0, rp_f1, rp_f1]
      by_cases h : i < a <;> by_cases h2 : j < a <;> simp [h, h2] <;> omega
    rw [if_pos hne, Option.bind_some]
    exact hend

theorem DrawRound : poacherlaw05_DrawRound.Pure := by
  intro a b d i j w0 w1 w2 w3 w4
  have b0 := i64_bounds w0
  have b1 := i64_bounds w1
  obtain ⟨k, hk⟩ : ∃ k : Nat, 50 ≤ k := ⟨50, Nat.le_refl _⟩
  refine ⟨k + 1 + 1, ?_⟩
  unfold poacherlaw05_DrawRound.f
  rw [awake_k (by omega), Option.bind_some]
  by_cases hin : (0 ≤ a ∧ a < 21) ∧ (0 ≤ b ∧ b < 21)
  · rw [round_k d hin.1 hin.2 (by omega), Option.bind_some, if_pos rfl, if_neg (by omega), if_neg (by omega), if_neg (by omega), decide_eq_false (show ¬ b > 20 by omega), poacherlaw05_DrawRound.j0, if_neg (by simp), round_len]
    have e1 : wrap64 (a + b) = a + b := by unfold wrap64; omega
    have hl : ((a.toNat + b.toNat : Nat) : Int) = a + b := by omega
    have stop : poacherlaw05_DrawRound.j1 (k + 1) a b d i j ((roundOf a b d).map s25) true = some true := by
      rw [poacherlaw05_DrawRound.j1, if_pos rfl, round_len, e1, hl]; simp
    rw [e1, hl, if_pos rfl]
    by_cases h1 : i < 0
    · rw [if_pos h1]; exact stop
    rw [if_neg h1]
    by_cases h2 : j < 0
    · rw [if_pos h2]; exact stop
    rw [if_neg h2]
    by_cases h3 : i ≥ a + b
    · rw [if_pos h3]; exact stop
    rw [if_neg h3]
    by_cases h4 : j ≥ a + b
    · rw [decide_eq_true h4]; exact stop
    · rw [decide_eq_false h4]
      exact round_main k a b d i j hin.1 hin.2 (by omega) (by omega)
  · rw [round_no d hin (by omega), Option.bind_some, if_pos rfl]
    have stop : poacherlaw05_DrawRound.j0 (k + 1 + 1) a b d i j true [] true = some true := by
      rw [poacherlaw05_DrawRound.j0, if_pos rfl, if_pos rfl]; rfl
    split
    · exact stop
    split
    · exact stop
    split
    · exact stop
    rw [decide_eq_true (show b > 20 by omega)]
    exact stop

end Go.Proofs.Ytonhjnfhaelfkaa.Pure
