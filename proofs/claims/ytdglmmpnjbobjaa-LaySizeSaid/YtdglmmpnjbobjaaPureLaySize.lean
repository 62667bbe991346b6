/- A worker more takes as many cells as a worker's are; its cells stand behind those of the others, that stay where they are. No condition. -/
import Derived.Test.YtdglmmpnjbobjaaQLx30
import Derived.Test.YtdglmmpnjbobjaaMath
namespace Go.Proofs.Ytdglmmpnjbobjaa.Pure
open Go.RowKit Go.Proofs.Ytdglmmpnjbobjaa.QL Go.Proofs.YtdglmmpnjbobjaaW.PrintWords Go.Proofs.YtdglmmpnjbobjaaW.PrintLast Go.Proofs.YtdglmmpnjbobjaaW.PrintMore

theorem LaySize (W D I S w x : Int) (_w0 : (Lit.int .i64 W).wf = true) (_w1 : (Lit.int .i64 D).wf = true) (_w2 : (Lit.int .i64 I).wf = true) (_w3 : (Lit.int .i64 S).wf = true) (_w4 : (Lit.int .i64 w).wf = true) (w5 : (Lit.int .u64 x).wf = true) : ∃ k, poacherlaw03_LaySize.f k W D I S w x = some true := by
  obtain ⟨x, rfl, hx⟩ := nat_of_u64 w5
  refine ⟨400, ?_⟩
  unfold poacherlaw03_LaySize.f
  rw [awake_true]
  simp only [Option.bind_some, if_true, may_eq]
  have out : ∀ (b : Bool) (a0 a1 a2 a3 b0 b1 b2 b3 : Int), poacherlaw03_LaySize.j0 400 w (x : Int) true true a0 a1 a2 a3 b0 b1 b2 b3 = some true := fun b a0 a1 a2 a3 b0 b1 b2 b3 => by
    simp only [poacherlaw03_LaySize.j0, if_true]
  by_cases h : Ok W D I S
  · rw [if_pos (decide_eq_true h)]
    have e1 : wrap64 (W + 1) = W + 1 := by have := h.1; unfold wrap64; omega
    rw [e1]
    by_cases h2 : Ok (W + 1) D I S
    · rw [if_pos (decide_eq_true h2)]
      by_cases h3 : w < 0
      · rw [if_pos h3]; exact out true _ _ _ _ _ _ _ _
      · rw [if_neg h3]
        by_cases h4 : w ≥ W
        · rw [decide_eq_true h4]; exact out true _ _ _ _ _ _ _ _
        · rw [decide_eq_false h4]
          have hb := base_lo h (w := w) (by omega) (by have := h.1; omega)
          have hW := h.1
          have hm := mod_small x D (by have := h.2.1; omega) (by have := h.2.1; omega)
          simp only [poacherlaw03_LaySize.j0, Bool.false_eq_true, if_false, size_eq, top_eq, park_eq, slot_eq _ _ _ _ _ x hx, Option.bind_some]
          have g1 : Ok W D I S ∧ 0 ≤ w ∧ w < W := ⟨h, by omega⟩
          have g2 : Ok (W + 1) D I S ∧ 0 ≤ w ∧ w < W + 1 := ⟨h2, by omega⟩
          have g3 : Ok (W + 1) D I S ∧ 0 ≤ W ∧ W < W + 1 := ⟨h2, by omega⟩
          have g4 : ¬ (Ok W D I S ∧ 0 ≤ W ∧ W < W) := by omega
          rw [if_pos h, if_pos h2, if_pos g1, if_pos g2, if_pos g3, if_neg g4]
          have g5 : base D I (W + 1) = wrap64 (wrap64 (base D I W + 3) + D) := by
            have hbW := base_lo h (w := W) (by omega) (by omega)
            have hD := h.2.1
            have e : base D I (W + 1) = base D I W + (3 + D) := by unfold base; rw [Int.add_mul]; omega
            rw [e]; unfold wrap64; omega
          rw [if_pos g5, if_pos rfl, if_pos rfl, if_pos (by rw [if_pos g1, if_pos g2]), if_pos rfl, if_pos g1]
          congr 1
          exact decide_eq_true (by omega)
    · rw [if_neg (by rw [decide_eq_true_eq]; exact h2)]; exact out true _ _ _ _ _ _ _ _
  · rw [if_neg (by rw [decide_eq_true_eq]; exact h)]; exact out true _ _ _ _ _ _ _ _

end Go.Proofs.Ytdglmmpnjbobjaa.Pure
