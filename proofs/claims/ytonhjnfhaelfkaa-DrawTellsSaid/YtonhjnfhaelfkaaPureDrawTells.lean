import Derived.Test.YtonhjnfhaelfkaaQDx20
import Derived.Test.YtonhjnfhaelfkaaRefFair
set_option linter.unusedVariables false
set_option linter.unusedSimpArgs false
namespace Go.Proofs.Ytonhjnfhaelfkaa.Pure
open Go.RowKit Go.Proofs.Ytonhjnfhaelfkaa.QD Go.Proofs.YtonhjnfhaelfkaaW.PrintWords Go.Proofs.YtonhjnfhaelfkaaW.PrintLast Go.Proofs.YtonhjnfhaelfkaaHand

theorem decode_both (l : List Int) (hl : l.length ≤ 200) {k : Nat} (hk : 3000 ≤ k) : ∃ r : List S25, r.length ≤ 200 ∧ draw_Decode.f l = some r ∧ poacherref05_Decode.f k l = some r := by
  refine ⟨(decoded l).map s25, by simp [decoded]; omega, ?_, refDecode_eq l (by omega) k (by omega)⟩
  unfold draw_Decode.f
  rw [if_pos (by omega)]
theorem round_both (a b d : Int) {k : Nat} (hk : 3000 ≤ k) : ∃ r : List S25, r.length ≤ 200 ∧ draw_Round.f k a b d = some r ∧ poacherref05_Round.f k a b d = some r := by
  by_cases h : (0 ≤ a ∧ a < 21) ∧ (0 ≤ b ∧ b < 21)
  · exact ⟨(roundOf a b d).map s25, by simp [roundOf]; omega, round_k d h.1 h.2 (by omega), refRound_in d h.1 h.2 (by omega)⟩
  · exact ⟨[], by simp, round_no d h (by omega), refRound_no d h (by omega)⟩
theorem fair_both (l : List S25) (a b f : Int) (hl : l.length ≤ 60) (hf : f ≤ 9223372036854775807) {k : Nat} (hk : 3000 ≤ k) : ∃ r : Bool, draw_Fair.f l a b f = some r ∧ poacherref05_Fair.f k l a b f = some r := by
  by_cases h : (0 ≤ a ∧ a < 21) ∧ (0 ≤ b ∧ b < 21) ∧ 1 ≤ f
  · refine ⟨_, ?_, refFair_in l a b f h.1 h.2.1 h.2.2 hl hk⟩
    unfold draw_Fair.f
    rw [if_pos ⟨by omega, hf⟩, if_pos h]
  · refine ⟨false, ?_, refFair_no l a b f h (by omega)⟩
    unfold draw_Fair.f
    rw [if_pos ⟨by omega, hf⟩, if_neg h]
theorem victim_both (d self w : Int) (hd : 0 ≤ d) (hw : w ≤ 64) {k : Nat} (hk : 3000 ≤ k) : ∃ r : Int, draw_Victim.f d self w = some r ∧ poacherref05_Victim.f k d self w = some r := by
  by_cases h : 2 ≤ w ∧ 0 ≤ self ∧ self < w
  · exact ⟨_, vic_eq d self w hd ⟨h.1, hw⟩ h.2, refVictim_in d self w hd ⟨h.1, hw⟩ h.2 (by omega)⟩
  · exact ⟨_, vic_no d self w h, refVictim_no d self w h (by omega)⟩

theorem DrawTells (l0 : List Int) (p0 p1 p2 : Int) (l2 : List S25) (a3 a4 a5 : Int) (hb0 : ∀ x ∈ l0, (Lit.int .u8 x).wf = true) (v0 : (Lit.int .i64 p0).wf = true) (v1 : (Lit.int .i64 p1).wf = true) (v2 : (Lit.int .u64 p2).wf = true)
    (w3 : (Lit.int .i64 a3).wf = true) (w4 : (Lit.int .i64 a4).wf = true) (w5 : (Lit.int .i64 a5).wf = true) : ∃ k, poacherlaw05_DrawTells.f k l0 p0 p1 p2 l2 a3 a4 a5 = some true := by
  obtain ⟨k, hk⟩ : ∃ k : Nat, 3000 ≤ k := ⟨3000, Nat.le_refl _⟩
  refine ⟨k + 1, ?_⟩
  have b5 := i64_bounds w5
  have b2 := u64_bounds v2
  unfold poacherlaw05_DrawTells.f
  rw [awake_k (by omega), Option.bind_some, if_pos rfl]
  have stop : poacherlaw05_DrawTells.j0 (k + 1) l0 l2 a3 a4 a5 true true p0 p1 p2 = some true := by rw [poacherlaw05_DrawTells.j0, if_pos rfl]
  by_cases g0 : (l0.length : Int) > 200
  · rw [if_pos g0]; exact stop
  rw [if_neg g0]
  by_cases g1 : (l2.length : Int) > 60
  · rw [decide_eq_true g1]; exact stop
  obtain ⟨r1, h1, d1, d2⟩ := decode_both l0 (by omega) hk
  obtain ⟨r2, h2, c1, c2⟩ := round_both a3 a4 p2 hk
  obtain ⟨r3, f1, f2⟩ := fair_both l2 a3 a4 a5 (by omega) b5.2 hk
  rw [decide_eq_false g1, poacherlaw05_DrawTells.j0, if_neg (by simp), d1, Option.bind_some, d2, Option.bind_some, picks_same r1 (by omega) k (by omega), Option.bind_some, c1, Option.bind_some, c2, Option.bind_some, picks_same r2 (by omega) k (by omega), Option.bind_some,
    refFits_eq, Option.bind_some, f2, Option.bind_some]
  by_cases g3 : a3 > 64
  · rw [if_pos g3, if_pos rfl, if_pos rfl, fit_eq, Option.bind_some, if_pos (by simp), f1, Option.bind_some, if_pos (by simp)]
  · obtain ⟨r4, e1, e2⟩ := victim_both p2 p1 a3 b2.1 (by omega) hk
    rw [if_neg g3, e1, Option.bind_some, e2, Option.bind_some, if_pos rfl, if_pos rfl, fit_eq, Option.bind_some, if_pos (by simp), f1, Option.bind_some, if_pos (by simp)]
    simp

end Go.Proofs.Ytonhjnfhaelfkaa.Pure
