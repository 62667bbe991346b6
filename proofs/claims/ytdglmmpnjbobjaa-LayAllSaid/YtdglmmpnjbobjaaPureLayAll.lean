/- As many cells as there are are somebody's; what is no layout has none. No condition. -/
import Derived.Test.YtdglmmpnjbobjaaQLx27
import Derived.Test.YtdglmmpnjbobjaaMath
namespace Go.Proofs.Ytdglmmpnjbobjaa.Pure
open Go.RowKit Go.Proofs.Ytdglmmpnjbobjaa.QL Go.Proofs.YtdglmmpnjbobjaaW.PrintWords Go.Proofs.YtdglmmpnjbobjaaW.PrintLast Go.Proofs.YtdglmmpnjbobjaaW.PrintMore

/-- Cell i is one that number x names. -/
def hit (W D I : Int) (i : Int) (x : Nat) : Prop := 6 + (x : Int) % I = i ∨ 6 + I + (x : Int) % I = i ∨ ∃ w : Int, 0 ≤ w ∧ w < W ∧ (base D I w = i ∨ base D I w + 1 = i ∨ base D I w + 2 = i ∨ base D I w + 3 + (x : Int) % D = i)

theorem l1_from {W D I S : Int} (h : Ok W D I S) (i : Int) (x : Nat) (hx : x < 16) (d : Nat) : ∀ (K : Nat) (w : Nat) (s : Bool), W - w = d →
    ∃ s', poacherlaw03_LayAll.l1 (K + 2 * d + 2) i s (x : Int) (w : Int) W D I S = poacherlaw03_LayAll.l0 K i s' ((x + 1 : Nat) : Int) W D I S ∧ (s = true → s' = true) ∧
      ((∃ v : Int, (w : Int) ≤ v ∧ v < W ∧ (base D I v = i ∨ base D I v + 1 = i ∨ base D I v + 2 = i ∨ base D I v + 3 + (x : Int) % D = i)) → s' = true) := by
  have hW := h.1
  induction d with
  | zero =>
    intro K w s hd
    refine ⟨s, ?_, id, fun ⟨v, h1, h2, _⟩ => by omega⟩
    have e : IntKind.u64.wrap ((x : Int) + 1) = ((x + 1 : Nat) : Int) := by rw [IntKind.wrap_u64]; omega
    simp only [poacherlaw03_LayAll.l1]
    rw [if_neg (by omega)]
    simp only [poacherlaw03_LayAll.j5, Bool.false_eq_true, if_false, e]
  | succ d ih =>
    intro K w s hd
    have e : wrap64 ((w : Int) + 1) = ((w + 1 : Nat) : Int) := by unfold wrap64; omega
    have g : Ok W D I S ∧ 0 ≤ (w : Int) ∧ (w : Int) < W := ⟨h, by omega⟩
    have key : ∀ s0 : Bool, (s = true → s0 = true) → ((base D I w = i ∨ base D I w + 1 = i ∨ base D I w + 2 = i ∨ base D I w + 3 + (x : Int) % D = i) → s0 = true) →
        ∃ s', poacherlaw03_LayAll.l1 (K + 2 * d + 2) i s0 (x : Int) ((w + 1 : Nat) : Int) W D I S = poacherlaw03_LayAll.l0 K i s' ((x + 1 : Nat) : Int) W D I S ∧ (s = true → s' = true) ∧
          ((∃ v : Int, (w : Int) ≤ v ∧ v < W ∧ (base D I v = i ∨ base D I v + 1 = i ∨ base D I v + 2 = i ∨ base D I v + 3 + (x : Int) % D = i)) → s' = true) := fun s0 hs0 hh => by
      obtain ⟨s', h1, h2, h3⟩ := ih K (w + 1) s0 (by omega)
      refine ⟨s', h1, fun e => h2 (hs0 e), fun ⟨v, v1, v2, v3⟩ => ?_⟩
      by_cases ev : v = (w : Int)
      · subst ev; exact h2 (hh v3)
      · exact h3 ⟨v, by omega, v2, v3⟩
    rw [show K + 2 * (d + 1) + 2 = (K + 2 * d + 2) + 2 from by omega]
    simp only [poacherlaw03_LayAll.l1]
    rw [if_pos (by omega), decide_eq_true (show (w : Int) < 8 by omega)]
    simp only [poacherlaw03_LayAll.j5, if_true, top_eq, bottom_eq, park_eq, slot_eq _ _ _ _ _ x (by omega), Option.bind_some, if_pos g, e]
    by_cases hs : s = true
    · rw [if_pos hs]
      exact key true (fun _ => rfl) (fun _ => rfl)
    · rw [if_neg hs]
      by_cases t1 : base D I w = i
      · rw [if_pos t1]; exact key true (fun _ => rfl) (fun _ => rfl)
      · rw [if_neg t1]
        by_cases t2 : base D I w + 1 = i
        · rw [if_pos t2]; exact key true (fun _ => rfl) (fun _ => rfl)
        · rw [if_neg t2]
          by_cases t3 : base D I w + 2 = i
          · rw [if_pos t3]; exact key true (fun _ => rfl) (fun _ => rfl)
          · rw [if_neg t3]
            refine key _ (fun e => absurd e hs) (fun t => ?_)
            rw [beq_iff_eq]
            rcases t with t | t | t | t
            · exact absurd t t1
            · exact absurd t t2
            · exact absurd t t3
            · exact t

theorem l0_from {W D I S : Int} (h : Ok W D I S) (i : Int) (d : Nat) : ∀ (K : Nat) (x : Nat) (s : Bool), 16 - x = d → x ≤ 16 → d * 20 + 1 ≤ K → (s = true ∨ ∃ y, x ≤ y ∧ y < 16 ∧ hit W D I i y) →
    poacherlaw03_LayAll.l0 K i s (x : Int) W D I S = some true := by
  have hW := h.1
  induction d with
  | zero =>
    intro K x s hd hx hK hs
    obtain ⟨K, rfl⟩ : ∃ m, K = m + 1 := ⟨K - 1, by omega⟩
    simp only [poacherlaw03_LayAll.l0]
    rw [if_neg (by omega)]
    rcases hs with rfl | ⟨y, h1, h2, _⟩
    · rfl
    · omega
  | succ d ih =>
    intro K x s hd hx hK hs
    have hWd : W - ((0 : Nat) : Int) = (W.toNat : Int) := by omega
    obtain ⟨L, rfl⟩ : ∃ m, K = (m + 2 * W.toNat + 2) + 2 := ⟨K - (2 * W.toNat + 4), by omega⟩
    have key : ∀ s0 : Bool, (s = true → s0 = true) → ((6 + (x : Int) % I = i ∨ 6 + I + (x : Int) % I = i) → s0 = true) →
        poacherlaw03_LayAll.j3 (L + 2 * W.toNat + 2 + 1) i s0 (x : Int) W D I S = some true := fun s0 h0 h1 => by
      simp only [poacherlaw03_LayAll.j3]
      obtain ⟨s', e1, e2, e3⟩ := l1_from h i x (by omega) W.toNat L 0 s0 hWd
      have e1' : poacherlaw03_LayAll.l1 (L + 2 * W.toNat + 2) i s0 (x : Int) 0 W D I S = poacherlaw03_LayAll.l0 L i s' ((x + 1 : Nat) : Int) W D I S := e1
      rw [e1']
      refine ih L (x + 1) s' (by omega) (by omega) (by omega) ?_
      rcases hs with hs | ⟨y, y1, y2, y3⟩
      · exact .inl (e2 (h0 hs))
      · by_cases ey : y = x
        · subst ey
          rcases y3 with t | t | ⟨v, v1, v2, v3⟩
          · exact .inl (e2 (h1 (.inl t)))
          · exact .inl (e2 (h1 (.inr t)))
          · exact .inl (e3 ⟨v, by omega, v2, v3⟩)
        · exact .inr ⟨y, by omega, y2, y3⟩
    simp only [poacherlaw03_LayAll.l0, seq_eq, val_eq, Option.bind_some, if_pos h]
    rw [if_pos (by omega)]
    by_cases e1 : s = true
    · rw [if_pos e1]; exact key true (fun _ => rfl) (fun _ => rfl)
    · rw [if_neg e1]
      by_cases e2 : 6 + (x : Int) % I = i
      · rw [if_pos e2]; exact key true (fun _ => rfl) (fun _ => rfl)
      · rw [if_neg e2]
        refine key _ (fun e => absurd e e1) (fun t => ?_)
        rw [beq_iff_eq]
        rcases t with t | t
        · exact absurd t e2
        · exact t

/-- Each cell from the seventh on is some number's. -/
theorem hit_some {W D I S i : Int} (h : Ok W D I S) (h6 : 6 ≤ i) (hn : i < base D I W) : ∃ y : Nat, 0 ≤ y ∧ y < 16 ∧ hit W D I i y := by
  have hI := h.2.2.1
  have hD := h.2.1
  by_cases c1 : i < 6 + I
  · refine ⟨(i - 6).toNat, by omega, by omega, .inl ?_⟩
    have : (((i - 6).toNat : Nat) : Int) % I = i - 6 := by rw [Int.toNat_of_nonneg (by omega)]; exact Int.emod_eq_of_lt (by omega) (by omega)
    omega
  · by_cases c2 : i < 6 + 2 * I
    · refine ⟨(i - 6 - I).toNat, by omega, by omega, .inr (.inl ?_)⟩
      have : (((i - 6 - I).toNat : Nat) : Int) % I = i - 6 - I := by rw [Int.toNat_of_nonneg (by omega)]; exact Int.emod_eq_of_lt (by omega) (by omega)
      omega
    · have hj0 : 0 ≤ (i - 6 - 2 * I) / (3 + D) := Int.ediv_nonneg (by omega) (by omega)
      have hj1 := Int.emod_add_mul_ediv (i - 6 - 2 * I) (3 + D)
      have hj2 := Int.emod_nonneg (i - 6 - 2 * I) (show 3 + D ≠ 0 by omega)
      have hj3 := Int.emod_lt_of_pos (i - 6 - 2 * I) (show 0 < 3 + D by omega)
      have hw : (i - 6 - 2 * I) / (3 + D) < W := by
        refine Int.ediv_lt_of_lt_mul (by omega) ?_
        unfold base at hn; omega
      rw [Int.mul_comm (3 + D)] at hj1
      have hb : base D I ((i - 6 - 2 * I) / (3 + D)) + (i - 6 - 2 * I) % (3 + D) = i := by
        unfold base
        generalize (i - 6 - 2 * I) / (3 + D) * (3 + D) = z at *
        omega
      generalize (i - 6 - 2 * I) / (3 + D) = w at *
      generalize (i - 6 - 2 * I) % (3 + D) = o at *
      by_cases o3 : o < 3
      · refine ⟨0, by omega, by omega, .inr (.inr ⟨w, hj0, hw, ?_⟩)⟩
        omega
      · refine ⟨(o - 3).toNat, by omega, by omega, .inr (.inr ⟨w, hj0, hw, .inr (.inr (.inr ?_))⟩)⟩
        have : (((o - 3).toNat : Nat) : Int) % D = o - 3 := by rw [Int.toNat_of_nonneg (by omega)]; exact Int.emod_eq_of_lt (by omega) (by omega)
        omega

theorem awake_900 : poacherlaw03_awake.f 900 = some true := by decide +kernel

theorem LayAll (W D I S i : Int) (_w0 : (Lit.int .i64 W).wf = true) (_w1 : (Lit.int .i64 D).wf = true) (_w2 : (Lit.int .i64 I).wf = true) (_w3 : (Lit.int .i64 S).wf = true) (_w4 : (Lit.int .i64 i).wf = true) : ∃ k, poacherlaw03_LayAll.f k W D I S i = some true := by
  refine ⟨900, ?_⟩
  unfold poacherlaw03_LayAll.f
  rw [awake_900, size_eq]
  simp only [Option.bind_some, if_true, may_eq]
  by_cases h : Ok W D I S
  · have hW := h.1
    have hb := base_lo h (w := W) (by omega) (by omega)
    rw [decide_eq_true h, if_pos h]
    simp only [poacherlaw03_LayAll.j0, Bool.not_true, Bool.false_eq_true, if_false]
    have out : poacherlaw03_LayAll.j1 899 i (base D I W) true W D I S = some true := by
      simp only [poacherlaw03_LayAll.j1, if_true]
      rw [decide_eq_true (by omega)]
    by_cases c1 : i < 6
    · rw [if_pos c1]; exact out
    · rw [if_neg c1]
      by_cases c2 : i ≥ base D I W
      · rw [decide_eq_true c2]; exact out
      · rw [decide_eq_false c2]
        simp only [poacherlaw03_LayAll.j1, Bool.false_eq_true, if_false]
        exact l0_from h i 16 898 0 false (by omega) (by omega) (by omega) (.inr (hit_some h (by omega) (by omega)))
  · rw [decide_eq_false h, if_neg h]
    have e0 : (0 : Int) = ((0 : Nat) : Int) := rfl
    have g : ¬ (Ok W D I S ∧ (0 : Int) ≤ 0 ∧ 0 < W) := fun h1 => h h1.1
    have s1 := seq_eq W D I S 0
    have s2 := slot_eq W D I S 0 0 (by omega)
    rw [if_neg h] at s1
    rw [if_neg g] at s2
    simp only [poacherlaw03_LayAll.j0, Bool.not_false, if_true, new_eq 899 W D I S (by omega), if_neg h, Option.bind_some]
    rw [show lay_Seq.f W D I S 0 = some (-1) from s1, show lay_Slot.f W D I S 0 0 = some (-1) from s2, top_eq, if_neg g]
    rfl

end Go.Proofs.Ytdglmmpnjbobjaa.Pure
