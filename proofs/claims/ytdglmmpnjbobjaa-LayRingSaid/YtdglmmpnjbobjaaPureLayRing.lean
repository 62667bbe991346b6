/- A slot is that of each number that is D, or a multiple of it, more; so is the injector's of I. No condition. -/
import Derived.Test.YtdglmmpnjbobjaaQLxR1
import Derived.Test.YtdglmmpnjbobjaaMath
namespace Go.Proofs.Ytdglmmpnjbobjaa.Pure
open Go.RowKit Go.Proofs.Ytdglmmpnjbobjaa.QL Go.Proofs.YtdglmmpnjbobjaaW.PrintWords Go.Proofs.YtdglmmpnjbobjaaW.PrintLast Go.Proofs.YtdglmmpnjbobjaaW.PrintMore

theorem next_other {n : Int} (h2 : 2 ≤ n) (h16 : n ≤ 16) (x : Int) : ¬ (x + 1) % n = x % n := by
  have : n = 2 ∨ n = 3 ∨ n = 4 ∨ n = 5 ∨ n = 6 ∨ n = 7 ∨ n = 8 ∨ n = 9 ∨ n = 10 ∨ n = 11 ∨ n = 12 ∨ n = 13 ∨ n = 14 ∨ n = 15 ∨ n = 16 := by omega
  rcases this with rfl | rfl | rfl | rfl | rfl | rfl | rfl | rfl | rfl | rfl | rfl | rfl | rfl | rfl | rfl <;> omega

theorem far_on (x k : Nat) (n : Int) (h1 : 1 ≤ n) (h16 : n ≤ 16) (hx : x ≤ 4611686018427387904) (hk : k ≤ 1000) : ∃ y : Nat, IntKind.u64.wrap ((x : Int) + IntKind.u64.wrap (wrap64 ((k : Int) * n))) = (y : Int) ∧ y < 18446744073709551616 ∧ (y : Int) % n = (x : Int) % n := by
  have hm0 : 0 ≤ (k : Int) * n := Int.mul_nonneg (by omega) (by omega)
  have hm1 : (k : Int) * n ≤ 16000 := by
    have := Int.mul_le_mul (show (k : Int) ≤ 1000 by omega) h16 (by omega) (by omega)
    omega
  have e : IntKind.u64.wrap ((x : Int) + IntKind.u64.wrap (wrap64 ((k : Int) * n))) = (x : Int) + (k : Int) * n := by
    rw [IntKind.wrap_u64, IntKind.wrap_u64]; unfold wrap64; omega
  refine ⟨((x : Int) + (k : Int) * n).toNat, by omega, by omega, ?_⟩
  rw [Int.toNat_of_nonneg (by omega)]
  exact Int.add_mul_emod_self_right _ _ _

theorem LayRing (W D I S w x k : Int) (_w0 : (Lit.int .i64 W).wf = true) (_w1 : (Lit.int .i64 D).wf = true) (_w2 : (Lit.int .i64 I).wf = true) (_w3 : (Lit.int .i64 S).wf = true) (_w4 : (Lit.int .i64 w).wf = true) (w5 : (Lit.int .u64 x).wf = true) (_w6 : (Lit.int .i64 k).wf = true) :
    ∃ n, poacherlaw03_LayRing.f n W D I S w x k = some true := by
  obtain ⟨x, rfl, hx⟩ := nat_of_u64 w5
  refine ⟨400, ?_⟩
  unfold poacherlaw03_LayRing.f
  rw [awake_true]
  simp only [Option.bind_some, if_true, may_eq]
  have out : ∀ (x1 x2 x3 y0 y1 y2 y3 : Int), poacherlaw03_LayRing.j0 400 x1 x2 x3 true true y0 y1 y2 y3 = some true := fun x1 x2 x3 y0 y1 y2 y3 => by
    simp only [poacherlaw03_LayRing.j0, if_true]
  by_cases h : Ok W D I S
  · rw [if_pos (decide_eq_true h)]
    by_cases c1 : w < 0
    · rw [if_pos c1]; exact out _ _ _ _ _ _ _
    rw [if_neg c1]
    by_cases c2 : w ≥ W
    · rw [if_pos c2]; exact out _ _ _ _ _ _ _
    rw [if_neg c2]
    by_cases c3 : k < 0
    · rw [if_pos c3]; exact out _ _ _ _ _ _ _
    rw [if_neg c3]
    by_cases c4 : k > 1000
    · rw [if_pos c4]; exact out _ _ _ _ _ _ _
    rw [if_neg c4]
    by_cases c5 : (x : Int) > 4611686018427387904
    · rw [decide_eq_true c5]; exact out _ _ _ _ _ _ _
    rw [decide_eq_false c5]
    obtain ⟨n, rfl⟩ := Int.eq_ofNat_of_zero_le (show 0 ≤ k by omega)
    have hI := h.2.2.1
    have hD := h.2.1
    obtain ⟨y, ey, hy, my⟩ := far_on x n D (by omega) (by omega) (by omega) (by omega)
    obtain ⟨z, ez, hz, mz⟩ := far_on x n I (by omega) (by omega) (by omega) (by omega)
    have e1 : IntKind.u64.wrap ((x : Int) + 1) = ((x + 1 : Nat) : Int) := by rw [IntKind.wrap_u64]; omega
    have g : Ok W D I S ∧ 0 ≤ w ∧ w < W := ⟨h, by omega⟩
    have hx1 : ((x + 1 : Nat) : Int) = (x : Int) + 1 := by omega
    simp only [poacherlaw03_LayRing.j0, Bool.false_eq_true, if_false, ey, ez, e1, slot_eq _ _ _ _ _ y hy, slot_eq _ _ _ _ _ x hx, slot_eq _ _ _ _ _ (x + 1) (by omega), seq_eq, val_eq, Option.bind_some, if_pos g, if_pos h, my, mz, if_true]
    simp only [hx1]
    have fin : (if I = 1 then some true else (some ((6 + ((x : Int) + 1) % I) != (6 + (x : Int) % I)))) = some true := by
      by_cases i1 : I = 1
      · rw [if_pos i1]
      · rw [if_neg i1]
        have := next_other (n := I) (by omega) (by omega) (x : Int)
        congr 1
        rw [bne_iff_ne]; omega
    by_cases d1 : D = 1
    · rw [if_pos d1]; exact fin
    · rw [if_neg d1]
      have := next_other (n := D) (by omega) (by omega) (x : Int)
      rw [if_neg (by omega)]; exact fin
  · rw [if_neg (by rw [decide_eq_true_eq]; exact h)]; exact out _ _ _ _ _ _ _

end Go.Proofs.Ytdglmmpnjbobjaa.Pure
