/- The plain laws on layouts: what each function of the package lay answers, over whole numbers. -/
import Derived.Laws.BitsAllLaws
import Derived.Laws.Bits64
import Derived.Test.YtdglmmpnjbobjaaQLx13
namespace Go.Proofs.Ytdglmmpnjbobjaa.QL
open Go.RowKit Go.Proofs.YtdglmmpnjbobjaaW.PrintWords Go.Proofs.YtdglmmpnjbobjaaW.PrintLast Go.Proofs.YtdglmmpnjbobjaaW.PrintMore

theorem awake_true : poacherlaw03_awake.f 400 = some true := by decide +kernel

theorem nat_of_u64 {a : Int} (h : (Lit.int .u64 a).wf = true) : ∃ n : Nat, a = (n : Int) ∧ n < 18446744073709551616 := by
  have h1 : IntKind.u64.min = 0 := rfl
  have h2 : IntKind.u64.max = 18446744073709551615 := rfl
  simp only [Lit.wf, Bool.and_eq_true, decide_eq_true_eq] at h
  exact ⟨a.toNat, by omega, by omega⟩

theorem i64_bounds {a : Int} (h : (Lit.int .i64 a).wf = true) : -9223372036854775808 ≤ a ∧ a ≤ 9223372036854775807 := by
  have h1 : IntKind.i64.min = -9223372036854775808 := rfl
  have h2 : IntKind.i64.max = 9223372036854775807 := rfl
  simp only [Lit.wf, Bool.and_eq_true, decide_eq_true_eq] at h
  omega

/-- May a layout be? -/
def Ok (W D I S : Int) : Prop := (1 ≤ W ∧ W ≤ 8) ∧ (D = 1 ∨ D = 2 ∨ D = 4 ∨ D = 8 ∨ D = 16) ∧ (1 ≤ I ∧ I ≤ 16) ∧ (0 ≤ S ∧ S ≤ 4)
instance (W D I S : Int) : Decidable (Ok W D I S) := by unfold Ok; infer_instance

theorem two_power {D : Int} (h1 : 1 ≤ D) (h2 : D ≤ 16) : Go.bits .and .i64 D (wrap64 (D - 1)) = 0 ↔ (D = 1 ∨ D = 2 ∨ D = 4 ∨ D = 8 ∨ D = 16) := by
  have h : D = 1 ∨ D = 2 ∨ D = 3 ∨ D = 4 ∨ D = 5 ∨ D = 6 ∨ D = 7 ∨ D = 8 ∨ D = 9 ∨ D = 10 ∨ D = 11 ∨ D = 12 ∨ D = 13 ∨ D = 14 ∨ D = 15 ∨ D = 16 := by omega
  rcases h with rfl | rfl | rfl | rfl | rfl | rfl | rfl | rfl | rfl | rfl | rfl | rfl | rfl | rfl | rfl | rfl <;> decide +kernel

theorem in_eq (n a b : Int) : lay_in.f n a b = some (decide (a ≤ n ∧ n ≤ b)) := by
  unfold lay_in.f
  by_cases h : n ≥ a
  · rw [if_pos h]; congr 1; simp; omega
  · rw [if_neg h]; congr 1; simp; omega

theorem may_eq (W D I S : Int) : lay_May.f W D I S = some (decide (Ok W D I S)) := by
  unfold lay_May.f
  simp only [in_eq, Option.bind_some, decide_eq_true_eq]
  by_cases h1 : 1 ≤ W ∧ W ≤ 8
  · rw [if_pos h1]
    by_cases h2 : 1 ≤ D ∧ D ≤ 16
    · rw [if_pos h2]
      have h3 := two_power h2.1 h2.2
      by_cases h4 : Go.bits .and .i64 D (wrap64 (D - 1)) = 0
      · rw [if_pos h4]
        have h5 := h3.1 h4
        by_cases h6 : 1 ≤ I ∧ I ≤ 16
        · rw [if_pos h6]; congr 1; simp only [Ok, h1, h5, h6, true_and]
        · rw [if_neg h6]; congr 1; simp only [Ok, h6, false_and, and_false, decide_false]
      · rw [if_neg h4]
        have h5 : ¬ (D = 1 ∨ D = 2 ∨ D = 4 ∨ D = 8 ∨ D = 16) := fun h => h4 (h3.2 h)
        congr 1; simp only [Ok, h5, false_and, and_false, decide_false]
    · rw [if_neg h2]
      have h5 : ¬ (D = 1 ∨ D = 2 ∨ D = 4 ∨ D = 8 ∨ D = 16) := by omega
      congr 1; simp only [Ok, h5, false_and, and_false, decide_false]
  · rw [if_neg h1]; congr 1; simp only [Ok, h1, false_and, decide_false]

/-- Where a worker's cells begin. -/
def base (D I w : Int) : Int := 6 + 2 * I + w * (3 + D)
theorem base_lo {W D I S w : Int} (h : Ok W D I S) (h0 : 0 ≤ w) (h9 : w ≤ 9) : 8 ≤ base D I w ∧ base D I w ≤ 209 := by
  obtain ⟨_, hD, hI, _⟩ := h
  unfold base
  rcases hD with rfl | rfl | rfl | rfl | rfl <;> omega

theorem base_eq {W D I S w : Int} (h : Ok W D I S) (h0 : 0 ≤ w) (h9 : w ≤ 9) : lay_base.f W D I S w = some (base D I w) := by
  have hb := base_lo h h0 h9
  obtain ⟨_, hD, hI, _⟩ := h
  unfold lay_base.f
  congr 1
  unfold base at *
  rcases hD with rfl | rfl | rfl | rfl | rfl <;> (unfold wrap64; omega)

theorem size_eq (W D I S : Int) : lay_Size.f W D I S = some (if Ok W D I S then base D I W else 0) := by
  unfold lay_Size.f
  rw [may_eq]
  simp only [Option.bind_some, decide_eq_true_eq]
  by_cases h : Ok W D I S
  · rw [if_pos h, if_pos h, base_eq h (by have := h.1; omega) (by have := h.1; omega)]; rfl
  · rw [if_neg h, if_neg h]

theorem at_eq (W D I S w : Int) (ro : Option Int) : lay_at.f W D I S w ro = if Ok W D I S then (if 0 ≤ w ∧ w < W then ro else some (-1)) else some (-1) := by
  unfold lay_at.f
  rw [may_eq]
  simp only [Option.bind_some, decide_eq_true_eq, in_eq]
  by_cases h : Ok W D I S
  · rw [if_pos h, if_pos h]
    have h1 := h.1
    have e : wrap64 (W - 1) = W - 1 := by unfold wrap64; omega
    rw [e]
    by_cases h2 : 0 ≤ w ∧ w < W
    · rw [if_pos h2, if_pos (by omega)]
    · rw [if_neg h2, if_neg (by omega)]
  · rw [if_neg h, if_neg h]

theorem top_eq (W D I S w : Int) : lay_Top.f W D I S w = some (if Ok W D I S ∧ 0 ≤ w ∧ w < W then base D I w else -1) := by
  unfold lay_Top.f
  rw [at_eq]
  by_cases h : Ok W D I S
  · by_cases h2 : 0 ≤ w ∧ w < W
    · rw [if_pos h, if_pos h2, if_pos ⟨h, h2⟩, base_eq h (by omega) (by have := h.1; omega)]
    · rw [if_pos h, if_neg h2, if_neg (fun h3 => h2 h3.2)]
  · rw [if_neg h, if_neg (fun h3 => h h3.1)]

theorem bottom_eq (W D I S w : Int) : lay_Bottom.f W D I S w = some (if Ok W D I S ∧ 0 ≤ w ∧ w < W then base D I w + 1 else -1) := by
  unfold lay_Bottom.f
  rw [at_eq]
  by_cases h : Ok W D I S
  · by_cases h2 : 0 ≤ w ∧ w < W
    · have hb := base_lo h (w := w) (by omega) (by have := h.1; omega)
      rw [if_pos h, if_pos h2, if_pos ⟨h, h2⟩, base_eq h (by omega) (by have := h.1; omega)]
      simp only [Option.bind_some]; congr 1; unfold wrap64; omega
    · rw [if_pos h, if_neg h2, if_neg (fun h3 => h2 h3.2)]
  · rw [if_neg h, if_neg (fun h3 => h h3.1)]

theorem park_eq (W D I S w : Int) : lay_Park.f W D I S w = some (if Ok W D I S ∧ 0 ≤ w ∧ w < W then base D I w + 2 else -1) := by
  unfold lay_Park.f
  rw [at_eq]
  by_cases h : Ok W D I S
  · by_cases h2 : 0 ≤ w ∧ w < W
    · have hb := base_lo h (w := w) (by omega) (by have := h.1; omega)
      rw [if_pos h, if_pos h2, if_pos ⟨h, h2⟩, base_eq h (by omega) (by have := h.1; omega)]
      simp only [Option.bind_some]; congr 1; unfold wrap64; omega
    · rw [if_pos h, if_neg h2, if_neg (fun h3 => h2 h3.2)]
  · rw [if_neg h, if_neg (fun h3 => h h3.1)]

/-- A number that is a u64, modulo a small one. -/
theorem mod_small (x : Nat) (n : Int) (h0 : 1 ≤ n) (h1 : n ≤ 16) : ¬ IntKind.u64.wrap n = 0 ∧ wrap64 (Int.tmod (x : Int) (IntKind.u64.wrap n)) = (x : Int) % n ∧ 0 ≤ (x : Int) % n ∧ (x : Int) % n < n := by
  have e : IntKind.u64.wrap n = n := by rw [IntKind.wrap_u64]; omega
  have h2 := Int.emod_nonneg (x : Int) (show n ≠ 0 by omega)
  have h3 := Int.emod_lt_of_pos (x : Int) (show 0 < n by omega)
  rw [e, Int.tmod_eq_emod_of_nonneg (by omega)]
  refine ⟨by omega, ?_, h2, h3⟩
  unfold wrap64; omega

theorem seq_eq (W D I S : Int) (x : Nat) : lay_Seq.f W D I S (x : Int) = some (if Ok W D I S then 6 + (x : Int) % I else -1) := by
  unfold lay_Seq.f
  rw [at_eq]
  by_cases h : Ok W D I S
  · have hI := h.2.2.1
    have hW := h.1
    obtain ⟨h1, h2, h3, h4⟩ := mod_small x I hI.1 hI.2
    rw [if_pos h, if_pos h, if_pos (by omega), if_neg h1, h2]
    congr 1; unfold wrap64; omega
  · rw [if_neg h, if_neg h]

theorem val_eq (W D I S : Int) (x : Nat) : lay_Val.f W D I S (x : Int) = some (if Ok W D I S then 6 + I + (x : Int) % I else -1) := by
  unfold lay_Val.f
  rw [at_eq]
  by_cases h : Ok W D I S
  · have hI := h.2.2.1
    have hW := h.1
    obtain ⟨h1, h2, h3, h4⟩ := mod_small x I hI.1 hI.2
    rw [if_pos h, if_pos h, if_pos (by omega), if_neg h1, h2]
    congr 1; unfold wrap64; omega
  · rw [if_neg h, if_neg h]

theorem and_mask {D : Int} (hD : D = 1 ∨ D = 2 ∨ D = 4 ∨ D = 8 ∨ D = 16) (x : Nat) (hx : x < 18446744073709551616) : Go.bits .and .u64 (x : Int) (IntKind.u64.wrap (wrap64 (D - 1))) = (x : Int) % D := by
  have h1 := u64_and_nat x 0 hx (by omega)
  have h2 := u64_and_nat x 1 hx (by omega)
  have h3 := u64_and_nat x 3 hx (by omega)
  have h4 := u64_and_nat x 7 hx (by omega)
  have h5 := u64_and_nat x 15 hx (by omega)
  rw [nat_mask1] at h2
  rw [nat_mask2] at h3
  rw [nat_mask3] at h4
  rw [nat_mask4] at h5
  rcases hD with rfl | rfl | rfl | rfl | rfl
  · have e : IntKind.u64.wrap (wrap64 (1 - 1)) = ((0 : Nat) : Int) := by decide +kernel
    rw [e, h1]; simp
  · have e : IntKind.u64.wrap (wrap64 (2 - 1)) = ((1 : Nat) : Int) := by decide +kernel
    rw [e, h2]; omega
  · have e : IntKind.u64.wrap (wrap64 (4 - 1)) = ((3 : Nat) : Int) := by decide +kernel
    rw [e, h3]; omega
  · have e : IntKind.u64.wrap (wrap64 (8 - 1)) = ((7 : Nat) : Int) := by decide +kernel
    rw [e, h4]; omega
  · have e : IntKind.u64.wrap (wrap64 (16 - 1)) = ((15 : Nat) : Int) := by decide +kernel
    rw [e, h5]; omega

theorem slot_eq (W D I S w : Int) (x : Nat) (hx : x < 18446744073709551616) : lay_Slot.f W D I S w (x : Int) = some (if Ok W D I S ∧ 0 ≤ w ∧ w < W then base D I w + 3 + (x : Int) % D else -1) := by
  unfold lay_Slot.f
  rw [at_eq]
  by_cases h : Ok W D I S
  · by_cases h2 : 0 ≤ w ∧ w < W
    · have hb := base_lo h (w := w) (by omega) (by have := h.1; omega)
      have hD := h.2.1
      have hm := mod_small x D (by omega) (by omega)
      rw [if_pos h, if_pos h2, if_pos ⟨h, h2⟩, base_eq h (by omega) (by have := h.1; omega), and_mask hD x hx]
      simp only [Option.bind_some]; congr 1; unfold wrap64; omega
    · rw [if_pos h, if_neg h2, if_neg (fun h3 => h2 h3.2)]
  · rw [if_neg h, if_neg (fun h3 => h h3.1)]

theorem new_from (n : Nat) (hn : n ≤ 400) (d : Nat) : ∀ (k i : Nat), n - i = d → i ≤ n → d < k → lay_New.l0 k (List.replicate i 0) (n : Int) (i : Int) = some (List.replicate n 0) := by
  induction d with
  | zero =>
    intro k i hd hi hk
    obtain ⟨k, rfl⟩ : ∃ m, k = m + 1 := ⟨k - 1, by omega⟩
    simp only [lay_New.l0]
    rw [if_neg (by omega), show i = n from by omega]
  | succ d ih =>
    intro k i hd hi hk
    obtain ⟨k, rfl⟩ : ∃ m, k = m + 1 := ⟨k - 1, by omega⟩
    simp only [lay_New.l0]
    have e : wrap64 ((i : Int) + 1) = ((i + 1 : Nat) : Int) := by unfold wrap64; omega
    rw [if_pos (by omega), if_pos (by rw [List.length_replicate]; omega), e, ← List.replicate_succ']
    exact ih k (i + 1) (by omega) (by omega) (by omega)

theorem new_eq (k : Nat) (W D I S : Int) (hk : 400 < k) : lay_New.f k W D I S = some (List.replicate (if Ok W D I S then base D I W else 0).toNat 0) := by
  unfold lay_New.f
  rw [size_eq]
  simp only [Option.bind_some]
  by_cases h : Ok W D I S
  · have h1 := h.1
    have hb := base_lo h (w := W) (by omega) (by omega)
    rw [if_pos h]
    have e : base D I W = ((base D I W).toNat : Int) := by omega
    have := new_from (base D I W).toNat (by omega) (base D I W).toNat k 0 (by omega) (by omega) (by omega)
    rw [← e] at this
    exact this
  · rw [if_neg h]
    exact new_from 0 (by omega) 0 k 0 (by omega) (by omega) (by omega)

end Go.Proofs.Ytdglmmpnjbobjaa.QL
