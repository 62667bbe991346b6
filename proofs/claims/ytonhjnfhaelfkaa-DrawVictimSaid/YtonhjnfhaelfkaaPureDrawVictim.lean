import Derived.Test.YtonhjnfhaelfkaaQDx21
import Derived.Test.YtonhjnfhaelfkaaMath
set_option linter.unusedVariables false
set_option linter.unusedSimpArgs false
namespace Go.Proofs.Ytonhjnfhaelfkaa.Pure
open Go.RowKit Go.Proofs.Ytonhjnfhaelfkaa.QD Go.Proofs.YtonhjnfhaelfkaaW.PrintWords Go.Proofs.YtonhjnfhaelfkaaW.PrintLast

theorem victim_no (k : Nat) (d self w x : Int) (h : w < 2 ∨ 64 < w ∨ self < 0 ∨ w ≤ self) : poacherlaw05_DrawVictim.j0 (k + 1) d self w x true true = some true := by
  rw [poacherlaw05_DrawVictim.j0, if_pos rfl, if_pos rfl]
  by_cases h1 : w > 64
  · rw [if_pos h1]
  · rw [if_neg h1, vic_no d self w (by omega)]
    rfl
theorem victim_yes (k : Nat) (d self w x : Int) (hd : 0 ≤ d ∧ d ≤ 18446744073709551615) (hw : 2 ≤ w ∧ w ≤ 64) (hs : 0 ≤ self ∧ self < w) : poacherlaw05_DrawVictim.j0 (k + 1 + 1) d self w x true false = some true := by
  have e0 : wrap64 (w - 1) = w - 1 := by unfold wrap64; omega
  have e1 : IntKind.u64.wrap (w - 1) = w - 1 := by rw [IntKind.wrap_u64]; omega
  have e2 : Int.tmod d (w - 1) = d % (w - 1) := Int.tmod_eq_emod_of_nonneg hd.1
  have h1 := Int.emod_nonneg d (show w - 1 ≠ 0 by omega)
  have h2 := Int.emod_lt_of_pos d (show 0 < w - 1 by omega)
  have hv : vic (d % (w - 1)) self w = vic d self w := by unfold vic; rw [Int.emod_emod]
  have hr : 0 ≤ vic d self w ∧ vic d self w < w ∧ vic d self w ≠ self := by unfold vic; split <;> omega
  rw [poacherlaw05_DrawVictim.j0, if_neg (by simp), e0, e1, e2, vic_eq d self w hd.1 hw hs]
  simp only [Option.bind_some]
  rw [if_neg (by omega), vic_eq _ self w h1 hw hs, hv]
  simp only [Option.bind_some]
  rw [if_neg (by omega), if_neg (by omega), if_neg hr.2.2, show (vic d self w != vic d self w) = false from by simp, poacherlaw05_DrawVictim.j1, if_neg (by simp)]
  by_cases hx : x < 0 ∨ x ≥ w ∨ x = self
  · rcases hx with hx | hx | hx
    · rw [if_pos hx]
    · rw [if_neg (by omega), if_pos hx]
    · rw [if_neg (by omega), if_neg (by omega), if_pos hx]
  · have c1 : ¬ x < 0 := fun h => hx (.inl h)
    have c2 : ¬ x ≥ w := fun h => hx (.inr (.inl h))
    have c3 : ¬ x = self := fun h => hx (.inr (.inr h))
    rw [if_neg c1, if_neg c2, if_neg c3, if_neg (by omega)]
    have g1 : wrap64 (x - self) = x - self := by unfold wrap64; omega
    have g2 : wrap64 (x - self - 1) = x - self - 1 := by unfold wrap64; omega
    have g3 : wrap64 (x - self - 1 + w) = x - self - 1 + w := by unfold wrap64; omega
    obtain ⟨m, hm, hm0, hm1, hm2⟩ : ∃ m, Int.tmod (x - self - 1 + w) w = m ∧ 0 ≤ m ∧ m < w - 1 ∧ (self + 1 + m = x ∨ self + 1 + m = x + w) := by
      rw [Int.tmod_eq_emod_of_nonneg (by omega)]
      by_cases hlt : self < x
      · refine ⟨x - self - 1, ?_, by omega, by omega, by omega⟩
        rw [Int.add_emod_right, Int.emod_eq_of_lt (by omega) (by omega)]
      · refine ⟨x - self - 1 + w, Int.emod_eq_of_lt (by omega) (by omega), by omega, by omega, by omega⟩
    have g4 : IntKind.u64.wrap m = m := by rw [IntKind.wrap_u64]; omega
    rw [g1, g2, g3, hm, g4, vic_eq m self w hm0 hw hs]
    simp only [Option.bind_some]
    congr 1
    rw [beq_iff_eq]
    unfold vic
    rw [Int.emod_eq_of_lt hm0 hm1]
    split <;> omega

theorem DrawVictim : poacherlaw05_DrawVictim.Pure := by
  intro a0 a1 a2 a3 w0 w1 w2 w3
  have b0 := u64_bounds w0
  obtain ⟨k, hk⟩ : ∃ k : Nat, 50 ≤ k := ⟨50, Nat.le_refl _⟩
  refine ⟨k + 1 + 1, ?_⟩
  unfold poacherlaw05_DrawVictim.f
  rw [awake_k (by omega)]
  simp only [Option.bind_some, if_true]
  by_cases h1 : a2 < 2
  · rw [if_pos h1]; exact victim_no _ _ _ _ _ (by omega)
  rw [if_neg h1]
  by_cases h2 : a2 > 64
  · rw [if_pos h2]; exact victim_no _ _ _ _ _ (by omega)
  rw [if_neg h2]
  by_cases h3 : a1 < 0
  · rw [if_pos h3]; exact victim_no _ _ _ _ _ (by omega)
  rw [if_neg h3]
  by_cases h4 : a1 ≥ a2
  · rw [decide_eq_true h4]; exact victim_no _ _ _ _ _ (by omega)
  · rw [decide_eq_false h4]; exact victim_yes _ _ _ _ _ b0 (by omega) (by omega)

end Go.Proofs.Ytonhjnfhaelfkaa.Pure
