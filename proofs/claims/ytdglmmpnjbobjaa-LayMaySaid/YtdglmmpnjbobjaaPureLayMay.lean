/- With one more or fewer a layout may be as long as the limits hold. No condition. -/
import Derived.Test.YtdglmmpnjbobjaaQLx29
import Derived.Test.YtdglmmpnjbobjaaMath
namespace Go.Proofs.Ytdglmmpnjbobjaa.Pure
open Go.RowKit Go.Proofs.Ytdglmmpnjbobjaa.QL Go.Proofs.YtdglmmpnjbobjaaW.PrintWords Go.Proofs.YtdglmmpnjbobjaaW.PrintLast Go.Proofs.YtdglmmpnjbobjaaW.PrintMore

theorem LayMay (W D I S : Int) (_w0 : (Lit.int .i64 W).wf = true) (_w1 : (Lit.int .i64 D).wf = true) (_w2 : (Lit.int .i64 I).wf = true) (_w3 : (Lit.int .i64 S).wf = true) : ∃ k, poacherlaw03_LayMay.f k W D I S = some true := by
  refine ⟨400, ?_⟩
  unfold poacherlaw03_LayMay.f
  rw [awake_true]
  simp only [Option.bind_some, if_true, may_eq]
  by_cases h : Ok W D I S
  · rw [decide_eq_true h]
    simp only [poacherlaw03_LayMay.j0, Bool.not_true, Bool.false_eq_true, if_false, may_eq, Option.bind_some]
    obtain ⟨hW, hD, hI, hS⟩ := h
    have e1 : wrap64 (W + 1) = W + 1 := by unfold wrap64; omega
    have e2 : wrap64 (I + 1) = I + 1 := by unfold wrap64; omega
    have e3 : wrap64 (2 * D) = 2 * D := by unfold wrap64; omega
    have e4 : wrap64 (S + 1) = S + 1 := by unfold wrap64; omega
    have e5 : wrap64 (D + 1) = D + 1 := by unfold wrap64; omega
    rw [e1, e2, e3, e4, e5]
    have f1 : (decide (Ok (W + 1) D I S) == decide (W < 8)) = true := by rw [beq_iff_eq, decide_eq_decide]; unfold Ok; omega
    have f2 : (decide (Ok W D (I + 1) S) == decide (I < 16)) = true := by rw [beq_iff_eq, decide_eq_decide]; unfold Ok; omega
    have f3 : (decide (Ok W (2 * D) I S) == decide (D < 16)) = true := by rw [beq_iff_eq, decide_eq_decide]; unfold Ok; omega
    have f4 : (decide (Ok W D I (S + 1)) == decide (S < 4)) = true := by rw [beq_iff_eq, decide_eq_decide]; unfold Ok; omega
    have f5 : (decide (Ok W (D + 1) I S) == (D == 1)) = true := by
      rw [beq_iff_eq]
      by_cases hd : D = 1
      · rw [beq_iff_eq.2 hd]; exact decide_eq_true (by unfold Ok; omega)
      · rw [beq_eq_false_iff_ne.2 hd]; exact decide_eq_false (by unfold Ok; omega)
    have f6 : (!decide (Ok 0 D I S)) = true := by
      rw [decide_eq_false (by unfold Ok; omega)]; rfl
    rw [if_pos f1, if_pos f2, if_pos f3, if_pos f4, if_pos f5, f6]
  · rw [decide_eq_false h]
    simp only [poacherlaw03_LayMay.j0, Bool.not_false, if_true]

end Go.Proofs.Ytdglmmpnjbobjaa.Pure
