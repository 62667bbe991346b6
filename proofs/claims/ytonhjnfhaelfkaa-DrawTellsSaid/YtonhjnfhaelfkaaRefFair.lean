/- The document's Fair in closed form. -/
import Derived.Test.YtonhjnfhaelfkaaRef
set_option linter.unusedVariables false
set_option linter.unusedSimpArgs false
namespace Go.Proofs.Ytonhjnfhaelfkaa.QD
open Go.RowKit Go.Proofs.YtonhjnfhaelfkaaW.PrintWords Go.Proofs.YtonhjnfhaelfkaaW.PrintLast Go.Proofs.YtonhjnfhaelfkaaW.PrintMore Go.Proofs.YtonhjnfhaelfkaaHand

/-- Does a stretch name the j-th of all? -/
def nmAt (part : List (Int × Int × Int)) (w j : Int) : Bool := if j < w then part.any (same 0 j) else part.any (same 1 (j - w))

theorem fair_l1 (l : List S25) (w s f : Int) (hw : 0 ≤ w ∧ w < 21) (hs : 0 ≤ s ∧ s < 21) (hf : 1 ≤ f) (hl : l.length ≤ 1000) (i : Nat) (hi : (i : Int) + f ≤ l.length) :
    ∀ (t k : Nat) (j : Int), j + t = w + s → 0 ≤ j → l.length + 1 ≤ k → poacherref05_Fair.l1 (k + t + 1) l w s f (i : Int) j =
      if (List.range t).all (fun u : Nat => nmAt ((((l.take ((i : Int) + f).toNat).drop i)).map tr25) w (j + (u : Int))) = true then poacherref05_Fair.l0 k l w s f ((i + 1 : Nat) : Int) else some false
  | 0, k, j, h, h0, hk => by
    rw [poacherref05_Fair.l1, show wrap64 (w + s) = w + s from by unfold wrap64; omega, if_neg (by omega), show wrap64 ((i : Int) + 1) = ((i + 1 : Nat) : Int) from by unfold wrap64; omega]
    simp
  | t + 1, k, j, h, h0, hk => by
    have e1 : wrap64 (w + s) = w + s := by unfold wrap64; omega
    have e2 : wrap64 (j + 1) = j + 1 := by unfold wrap64; omega
    have e3 : wrap64 ((i : Int) + f) = (i : Int) + f := by unfold wrap64; omega
    have e4 : wrap64 (j - w) = j - w := by unfold wrap64; omega
    have hp : ((l.take ((i : Int) + f).toNat).drop i).length + 1 ≤ l.length + 1 := by simp; omega
    have ih := fair_l1 l w s f hw hs hf hl i hi t k (j + 1) (by omega) (by omega) hk
    have hall : (List.range (t + 1)).all (fun u : Nat => nmAt ((((l.take ((i : Int) + f).toNat).drop i)).map tr25) w (j + (u : Int))) =
        (nmAt ((((l.take ((i : Int) + f).toNat).drop i)).map tr25) w j && (List.range t).all (fun u : Nat => nmAt ((((l.take ((i : Int) + f).toNat).drop i)).map tr25) w (j + 1 + (u : Int)))) := by
      rw [List.range_succ_eq_map, List.all_cons, List.all_map, show j + ((0 : Nat) : Int) = j from by omega]
      congr 2
      funext u
      simp only [Function.comp]
      rw [show j + ((u.succ : Nat) : Int) = j + 1 + (u : Int) from by omega]
    rw [show k + (t + 1) + 1 = (k + t + 1) + 1 from by omega, poacherref05_Fair.l1, e1, if_pos (by omega), e2, e3, e4, ih, hall, Int.toNat_natCast]
    by_cases hc : j < w
    · rw [if_pos hc, if_pos (by omega), if_pos (by omega), if_pos (by omega), named_eq _ _ _ (by omega) (by omega), Option.bind_some]
      have hn : nmAt ((((l.take ((i : Int) + f).toNat).drop i)).map tr25) w j = ((((l.take ((i : Int) + f).toNat).drop i)).map tr25).any (same 0 j) := by unfold nmAt; rw [if_pos hc]
      rw [hn]
      cases hb : ((((l.take ((i : Int) + f).toNat).drop i)).map tr25).any (same 0 j)
      · rw [if_neg (by simp), if_neg (by omega), if_neg (by simp)]
      · rw [if_pos rfl]; simp
    · rw [if_neg hc, if_pos (by omega), if_pos (by omega), if_pos (by omega), if_pos (by omega), named_eq _ _ _ (by omega) (by omega), Option.bind_some]
      have hn : nmAt ((((l.take ((i : Int) + f).toNat).drop i)).map tr25) w j = ((((l.take ((i : Int) + f).toNat).drop i)).map tr25).any (same 1 (j - w)) := by unfold nmAt; rw [if_neg hc]
      rw [hn]
      cases hb : ((((l.take ((i : Int) + f).toNat).drop i)).map tr25).any (same 1 (j - w))
      · rw [if_neg (by simp), if_neg (by simp)]
      · rw [if_pos rfl]; simp

theorem names_round (l : List S25) (w s : Int) (f x : Nat) (hw : 0 ≤ w ∧ w < 21) (hs : 0 ≤ s ∧ s < 21) :
    names (roundOf w s 0) (l.map tr25) f x = (List.range (w.toNat + s.toNat)).all (fun u : Nat => nmAt ((((l.take (x + f)).drop x)).map tr25) w (0 + (u : Int))) := by
  have hp : (((l.take (x + f)).drop x)).map tr25 = ((l.map tr25).drop x).take f := by
    rw [List.map_drop, List.map_take, List.drop_take, Nat.add_sub_cancel_left]
  rw [hp]
  unfold names roundOf
  rw [List.range_add, List.all_append, List.all_append, List.all_map, List.all_map, List.all_map]
  have g : ∀ (n : Nat) (p q : Nat → Bool), (∀ u, u < n → p u = q u) → (List.range n).all p = (List.range n).all q := fun n p q h => by
    rw [Bool.eq_iff_iff, List.all_eq_true, List.all_eq_true]
    exact ⟨fun hh u hu => (h u (List.mem_range.1 hu)) ▸ hh u hu, fun hh u hu => (h u (List.mem_range.1 hu)).symm ▸ hh u hu⟩
  congr 1
  · refine g _ _ _ fun u hu => ?_
    simp only [Function.comp, nmAt]
    rw [if_pos (by omega), show (0 : Int) + (u : Int) = (u : Int) from by omega]
  · refine g _ _ _ fun u hu => ?_
    simp only [Function.comp, nmAt]
    rw [if_neg (by omega), show (0 : Int) + ((w.toNat + u : Nat) : Int) - w = (u : Int) from by omega]

theorem fair_l0 (l : List S25) (w s f : Int) (hw : 0 ≤ w ∧ w < 21) (hs : 0 ≤ s ∧ s < 21) (hf : 1 ≤ f) (hl : l.length ≤ 1000) (k : Nat) (hk : l.length + 1 ≤ k) :
    ∀ (m i : Nat), i + m = l.length → poacherref05_Fair.l0 (k + m * (w.toNat + s.toNat + 3) + 2) l w s f (i : Int) =
      some ((List.range (m + 1)).all fun u : Nat => !decide (i + u + f.toNat ≤ l.length) || names (roundOf w s 0) (l.map tr25) f.toNat (i + u))
  | m, i, h => by
    have e1 : wrap64 ((l.length : Int) - (i : Int)) = (l.length : Int) - (i : Int) := by unfold wrap64; omega
    by_cases hc : (i : Int) + f ≤ l.length
    · match m with
      | 0 => omega
      | m + 1 =>
        have ih := fair_l0 l w s f hw hs hf hl k hk m (i + 1) (by omega)
        have hall : (List.range (m + 1 + 1)).all (fun u : Nat => !decide (i + u + f.toNat ≤ l.length) || names (roundOf w s 0) (l.map tr25) f.toNat (i + u)) =
            (names (roundOf w s 0) (l.map tr25) f.toNat i && (List.range (m + 1)).all fun u : Nat => !decide (i + 1 + u + f.toNat ≤ l.length) || names (roundOf w s 0) (l.map tr25) f.toNat (i + 1 + u)) := by
          rw [List.range_succ_eq_map, List.all_cons, List.all_map, Nat.add_zero, decide_eq_true (show i + f.toNat ≤ l.length by omega)]
          congr 2
          funext u
          simp only [Function.comp]
          rw [show i + u.succ = i + 1 + u from by omega]
        have hK : k + (m + 1) * (w.toNat + s.toNat + 3) + 2 = ((k + m * (w.toNat + s.toNat + 3) + 2) + (w.toNat + s.toNat) + 1) + 1 + 1 := by rw [Nat.add_mul]; omega
        have hn := names_round l w s f.toNat i hw hs
        rw [hK, poacherref05_Fair.l0, if_pos (by omega), e1, decide_eq_true (show f ≤ (l.length : Int) - (i : Int) by omega), poacherref05_Fair.j2, if_pos rfl,
          fair_l1 l w s f hw hs hf hl i hc (w.toNat + s.toNat) _ 0 (by omega) (by omega) (by omega), ih, hall, hn, show ((i : Int) + f).toNat = i + f.toNat from by omega]
        cases hb : (List.range (w.toNat + s.toNat)).all (fun u : Nat => nmAt ((((l.take (i + f.toNat)).drop i)).map tr25) w (0 + (u : Int)))
        · rw [if_neg (by simp)]; simp
        · rw [if_pos rfl]; simp
    · have hr : (List.range (m + 1)).all (fun u : Nat => !decide (i + u + f.toNat ≤ l.length) || names (roundOf w s 0) (l.map tr25) f.toNat (i + u)) = true := by
        rw [List.all_eq_true]
        intro u _
        rw [decide_eq_false (by omega)]
        rfl
      rw [hr, show k + m * (w.toNat + s.toNat + 3) + 2 = (k + m * (w.toNat + s.toNat + 3)) + 1 + 1 from rfl, poacherref05_Fair.l0, e1, decide_eq_false (show ¬ f ≤ (l.length : Int) - (i : Int) by omega)]
      split <;> rw [poacherref05_Fair.j2, if_neg (by simp)]

theorem refFair_in (l : List S25) (a b f : Int) (ha : 0 ≤ a ∧ a < 21) (hb : 0 ≤ b ∧ b < 21) (hf : 1 ≤ f) (hl : l.length ≤ 60) {K : Nat} (hK : 3000 ≤ K) : poacherref05_Fair.f K l a b f = some (fairOf (roundOf a b 0) (l.map tr25) f.toNat) := by
  have h := fair_l0 l a b f ha hb hf (by omega) 61 (by omega) l.length 0 (by omega)
  rw [show ((0 : Nat) : Int) = 0 from rfl] at h
  have hm : l.length * (a.toNat + b.toNat + 3) ≤ 60 * 43 := Nat.mul_le_mul hl (by omega)
  refine leO_le (fun k => poacherref05_Fair.mono l a b f k) (show 61 + l.length * (a.toNat + b.toNat + 3) + 2 + 1 ≤ K by omega) ?_
  unfold poacherref05_Fair.f
  rw [if_neg (by omega), if_neg (by omega), if_neg (by omega), if_neg (by omega), decide_eq_false (show ¬ f < 1 by omega), poacherref05_Fair.j0, if_neg (by simp), h]
  unfold fairOf
  simp only [Nat.zero_add, List.length_map]
theorem refFair_no (l : List S25) (a b f : Int) (h : ¬ ((0 ≤ a ∧ a < 21) ∧ (0 ≤ b ∧ b < 21) ∧ 1 ≤ f)) {k : Nat} (hk : 1 ≤ k) : poacherref05_Fair.f k l a b f = some false := by
  obtain ⟨k, rfl⟩ : ∃ j, k = j + 1 := ⟨k - 1, by omega⟩
  have stop : poacherref05_Fair.j0 (k + 1) l a b f true = some false := by rw [poacherref05_Fair.j0, if_pos rfl]
  unfold poacherref05_Fair.f
  split
  · exact stop
  split
  · exact stop
  split
  · exact stop
  split
  · exact stop
  rw [decide_eq_true (show f < 1 by omega)]
  exact stop
end Go.Proofs.Ytonhjnfhaelfkaa.QD
