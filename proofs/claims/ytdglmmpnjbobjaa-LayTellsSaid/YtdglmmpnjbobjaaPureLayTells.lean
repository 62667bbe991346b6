/- The package lay answers as the reference does, for all layouts. No condition. -/
import Derived.Test.YtdglmmpnjbobjaaQLx24
import Derived.Test.YtdglmmpnjbobjaaMath
namespace Go.Proofs.Ytdglmmpnjbobjaa.Pure
open Go.RowKit Go.Proofs.Ytdglmmpnjbobjaa.QL Go.Proofs.YtdglmmpnjbobjaaW.PrintWords Go.Proofs.YtdglmmpnjbobjaaW.PrintLast Go.Proofs.YtdglmmpnjbobjaaW.PrintMore

theorem rmay_eq (W D I S : Int) : poacherref03_May.f W D I S = some (decide (Ok W D I S)) := by
  unfold poacherref03_May.f
  repeat' split
  all_goals first
    | (congr 1; rw [decide_eq_decide]; unfold Ok; omega)
    | (congr 1; symm; exact decide_eq_false (by unfold Ok; omega))

theorem base_wrap {W D I S w : Int} (h : Ok W D I S) (h0 : 0 ≤ w) (h9 : w ≤ 9) : wrap64 (wrap64 (6 + wrap64 (2 * I)) + wrap64 (w * wrap64 (3 + D))) = base D I w := by
  have := base_eq h h0 h9
  unfold lay_base.f at this
  exact Option.some.inj this

theorem rsize_eq (W D I S : Int) : poacherref03_Size.f W D I S = some (if Ok W D I S then base D I W else 0) := by
  unfold poacherref03_Size.f
  rw [rmay_eq]
  simp only [Option.bind_some, decide_eq_true_eq]
  by_cases h : Ok W D I S
  · have h1 := h.1
    rw [if_pos h, if_pos h, base_wrap h (by omega) (by omega)]
  · rw [if_neg h, if_neg h]

theorem rnew_eq (W D I S : Int) : poacherref03_New.f W D I S = some (List.replicate (if Ok W D I S then base D I W else 0).toNat 0) := by
  unfold poacherref03_New.f
  rw [rsize_eq]
  simp only [Option.bind_some]
  by_cases h : Ok W D I S
  · have h1 := h.1
    have hb := base_lo h (w := W) (by omega) (by omega)
    rw [if_pos h, if_pos (by omega), if_pos (by omega)]
  · rw [if_neg h]; rfl

theorem rseq_eq (W D I S : Int) (x : Nat) : poacherref03_Seq.f W D I S (x : Int) = some (if Ok W D I S then 6 + (x : Int) % I else -1) := by
  unfold poacherref03_Seq.f
  rw [rmay_eq]
  simp only [Option.bind_some, decide_eq_true_eq]
  by_cases h : Ok W D I S
  · have hI := h.2.2.1
    obtain ⟨h1, h2, h3, h4⟩ := mod_small x I hI.1 hI.2
    rw [if_pos h, if_pos h, if_neg h1, h2]
    congr 1; unfold wrap64; omega
  · rw [if_neg h, if_neg h]

theorem rval_eq (W D I S : Int) (x : Nat) : poacherref03_Val.f W D I S (x : Int) = some (if Ok W D I S then 6 + I + (x : Int) % I else -1) := by
  unfold poacherref03_Val.f
  rw [rmay_eq]
  simp only [Option.bind_some, decide_eq_true_eq]
  by_cases h : Ok W D I S
  · have hI := h.2.2.1
    obtain ⟨h1, h2, h3, h4⟩ := mod_small x I hI.1 hI.2
    rw [if_pos h, if_pos h, if_neg h1, h2]
    congr 1; unfold wrap64; omega
  · rw [if_neg h, if_neg h]

theorem rtop_eq (W D I S w : Int) : poacherref03_Top.f W D I S w = some (if Ok W D I S ∧ 0 ≤ w ∧ w < W then base D I w else -1) := by
  unfold poacherref03_Top.f
  rw [rmay_eq]
  simp only [Option.bind_some, decide_eq_true_eq]
  by_cases h : Ok W D I S
  · rw [if_pos h]
    have h1 := h.1
    by_cases h2 : w < 0
    · rw [if_pos h2, if_neg (by omega)]
    · rw [if_neg h2]
      by_cases h3 : w ≥ W
      · rw [if_pos h3, if_neg (by omega)]
      · rw [if_neg h3, if_pos ⟨h, by omega, by omega⟩, base_wrap h (by omega) (by omega)]
  · rw [if_neg h, if_neg (fun h3 => h h3.1)]

theorem rbottom_eq (W D I S w : Int) : poacherref03_Bottom.f W D I S w = some (if Ok W D I S ∧ 0 ≤ w ∧ w < W then base D I w + 1 else -1) := by
  unfold poacherref03_Bottom.f
  rw [rtop_eq]
  simp only [Option.bind_some]
  by_cases h : Ok W D I S ∧ 0 ≤ w ∧ w < W
  · have hb := base_lo h.1 (w := w) (by omega) (by have := h.1.1; omega)
    rw [if_pos h, if_pos h, if_neg (by omega)]
    congr 1; unfold wrap64; omega
  · rw [if_neg h, if_neg h]; rfl

theorem rpark_eq (W D I S w : Int) : poacherref03_Park.f W D I S w = some (if Ok W D I S ∧ 0 ≤ w ∧ w < W then base D I w + 2 else -1) := by
  unfold poacherref03_Park.f
  rw [rtop_eq]
  simp only [Option.bind_some]
  by_cases h : Ok W D I S ∧ 0 ≤ w ∧ w < W
  · have hb := base_lo h.1 (w := w) (by omega) (by have := h.1.1; omega)
    rw [if_pos h, if_pos h, if_neg (by omega)]
    congr 1; unfold wrap64; omega
  · rw [if_neg h, if_neg h]; rfl

theorem rslot_eq (W D I S w : Int) (x : Nat) : poacherref03_Slot.f W D I S w (x : Int) = some (if Ok W D I S ∧ 0 ≤ w ∧ w < W then base D I w + 3 + (x : Int) % D else -1) := by
  unfold poacherref03_Slot.f
  rw [rtop_eq]
  simp only [Option.bind_some]
  by_cases h : Ok W D I S ∧ 0 ≤ w ∧ w < W
  · have hb := base_lo h.1 (w := w) (by omega) (by have := h.1.1; omega)
    have hD := h.1.2.1
    obtain ⟨h1, h2, h3, h4⟩ := mod_small x D (by omega) (by omega)
    rw [if_pos h, if_pos h, if_neg (by omega), if_neg h1, h2]
    congr 1; unfold wrap64; omega
  · rw [if_neg h, if_neg h]; rfl

theorem same_from (l : List Int) (hl : l.length ≤ 400) (d : Nat) : ∀ (k i : Nat), l.length - i = d → i ≤ l.length → d < k → poacherref01_Same.l0 k l l (i : Int) = some true := by
  induction d with
  | zero =>
    intro k i hd hi hk
    obtain ⟨k, rfl⟩ : ∃ m, k = m + 1 := ⟨k - 1, by omega⟩
    simp only [poacherref01_Same.l0]
    rw [if_neg (by omega)]
  | succ d ih =>
    intro k i hd hi hk
    obtain ⟨k, rfl⟩ : ∃ m, k = m + 1 := ⟨k - 1, by omega⟩
    simp only [poacherref01_Same.l0]
    have e : wrap64 ((i : Int) + 1) = ((i + 1 : Nat) : Int) := by unfold wrap64; omega
    rw [if_pos (by omega), if_pos (by omega), if_pos (by omega), if_pos (by trivial), e]
    exact ih k (i + 1) (by omega) (by omega) (by omega)

theorem same_eq (k : Nat) (hk : 400 < k) (l : List Int) (hl : l.length ≤ 400) : poacherref01_Same.f k l l = some true := by
  unfold poacherref01_Same.f
  rw [if_pos rfl]
  exact same_from l hl l.length k 0 (by omega) (by omega) (by omega)

theorem awake_500 : poacherlaw03_awake.f 500 = some true := by decide +kernel

theorem LayTells (W D I S w x : Int) (_w0 : (Lit.int .i64 W).wf = true) (_w1 : (Lit.int .i64 D).wf = true) (_w2 : (Lit.int .i64 I).wf = true) (_w3 : (Lit.int .i64 S).wf = true) (_w4 : (Lit.int .i64 w).wf = true) (w5 : (Lit.int .u64 x).wf = true) : ∃ k, poacherlaw03_LayTells.f k W D I S w x = some true := by
  obtain ⟨x, rfl, hx⟩ := nat_of_u64 w5
  refine ⟨500, ?_⟩
  have hl : (List.replicate (if Ok W D I S then base D I W else 0).toNat (0 : Int)).length ≤ 400 := by
    rw [List.length_replicate]
    by_cases h : Ok W D I S
    · have h1 := h.1
      have hb := base_lo h (w := W) (by omega) (by omega)
      rw [if_pos h]; omega
    · rw [if_neg h]; decide
  unfold poacherlaw03_LayTells.f
  rw [awake_500]
  simp only [Option.bind_some, if_true, may_eq, rmay_eq, new_eq 500 W D I S (by omega), rnew_eq, same_eq 500 (by omega) _ hl, beq_self_eq_true, size_eq, rsize_eq, seq_eq, rseq_eq, val_eq, rval_eq, top_eq, rtop_eq, bottom_eq, rbottom_eq, park_eq, rpark_eq, slot_eq _ _ _ _ _ x hx, rslot_eq]

end Go.Proofs.Ytdglmmpnjbobjaa.Pure
