/- The document's answers (poacherref05) in closed form. -/
import Derived.Test.YtonhjnfhaelfkaaQDx13
import Derived.Test.YtonhjnfhaelfkaaQDx14
import Derived.Test.YtonhjnfhaelfkaaQDx15
import Derived.Test.YtonhjnfhaelfkaaQDx16
import Derived.Test.YtonhjnfhaelfkaaQDx17
import Derived.Test.YtonhjnfhaelfkaaQDx18
import Derived.Test.YtonhjnfhaelfkaaQDx19
import Derived.Test.YtonhjnfhaelfkaaMath
set_option linter.unusedVariables false
set_option linter.unusedSimpArgs false
namespace Go.Proofs.Ytonhjnfhaelfkaa.QD
open Go.RowKit Go.Proofs.YtonhjnfhaelfkaaW.PrintWords Go.Proofs.YtonhjnfhaelfkaaW.PrintLast Go.Proofs.YtonhjnfhaelfkaaW.PrintMore Go.Proofs.YtonhjnfhaelfkaaHand

theorem picks_l0 (l : List S25) (hl : l.length ≤ 100000) : ∀ (m k : Nat) (i : Int), i + m = l.length → 0 ≤ i → poacherref05_Picks.l0 (k + m + 1) l l i = some true
  | 0, k, i, h, h0 => by rw [poacherref05_Picks.l0, if_neg (by omega)]
  | m + 1, k, i, h, h0 => by
    rw [show k + (m + 1) + 1 = (k + m + 1) + 1 from by omega, poacherref05_Picks.l0, if_pos (by omega), if_pos h0, if_pos (by omega), if_neg (by simp), show wrap64 (i + 1) = i + 1 from by unfold wrap64; omega]
    exact picks_l0 l hl m k (i + 1) (by omega) (by omega)
theorem picks_same (l : List S25) (hl : l.length ≤ 100000) (k : Nat) (hk : l.length + 1 ≤ k) : poacherref05_Picks.f k l l = some true := by
  unfold poacherref05_Picks.f
  rw [if_pos rfl, show k = (k - l.length - 1) + l.length + 1 from by omega]
  exact picks_l0 l hl l.length _ 0 (by omega) (by omega)

theorem refFits_eq (p0 p1 p2 w s : Int) : poacherref05_Fits.f p0 p1 p2 w s = some (fit p0 p1 w s) := by
  unfold poacherref05_Fits.f fit
  by_cases h0 : p0 = 0
  · subst h0; by_cases h : p1 ≥ 0 <;> by_cases h2 : p1 < w <;> simp [h, h2]
  · by_cases h1 : p0 = 1
    · subst h1; by_cases h : p1 ≥ 0 <;> by_cases h2 : p1 < s <;> simp [h, h2]
    · by_cases h2 : p0 = 2
      · simp [h2]
      · by_cases h3 : p0 = 3 <;> simp [h0, h1, h2, h3]

theorem refRound_l0 (a b d : Int) (ha : 0 ≤ a ∧ a < 21) (hb : 0 ≤ b ∧ b < 21) : ∀ (m k : Nat) (x7 : List S25) (i : Int), i + m = a + b → 0 ≤ i → x7.length + m ≤ 1000 →
    poacherref05_Round.l0 (k + m + 1) a b d x7 i = some (x7 ++ (List.range m).map fun j : Nat => if i + (j : Int) < a then (⟨0, i + (j : Int), d⟩ : S25) else ⟨1, i + (j : Int) - a, d⟩)
  | 0, k, x7, i, h, h0, hl => by
    rw [poacherref05_Round.l0, show wrap64 (a + b) = a + b from by unfold wrap64; omega, if_neg (by omega)]
    simp
  | m + 1, k, x7, i, h, h0, hl => by
    have e : ∀ j : Nat, i + ((j + 1 : Nat) : Int) = i + 1 + (j : Int) := fun j => by omega
    have e2 : (fun j : Nat => if i + ((j + 1 : Nat) : Int) < a then (⟨0, i + ((j + 1 : Nat) : Int), d⟩ : S25) else ⟨1, i + ((j + 1 : Nat) : Int) - a, d⟩) = fun j : Nat => if i + 1 + (j : Int) < a then (⟨0, i + 1 + (j : Int), d⟩ : S25) else ⟨1, i + 1 + (j : Int) - a, d⟩ := by funext j; rw [e]
    rw [show k + (m + 1) + 1 = (k + m + 1) + 1 from by omega, poacherref05_Round.l0, show wrap64 (a + b) = a + b from by unfold wrap64; omega, if_pos (by omega), show wrap64 (i + 1) = i + 1 from by unfold wrap64; omega, show wrap64 (i - a) = i - a from by unfold wrap64; omega, List.range_succ_eq_map, List.map_cons, List.map_map]
    by_cases hc : i < a
    · rw [if_pos hc, if_pos (by omega), refRound_l0 a b d ha hb m k _ (i + 1) (by omega) (by omega) (by simp; omega), List.append_assoc, ← e2]
      simp [Function.comp_def, hc]
    · rw [if_neg hc, if_pos (by omega), refRound_l0 a b d ha hb m k _ (i + 1) (by omega) (by omega) (by simp; omega), List.append_assoc, ← e2]
      simp [Function.comp_def, hc]

theorem refRound_in {a b : Int} (d : Int) (ha : 0 ≤ a ∧ a < 21) (hb : 0 ≤ b ∧ b < 21) {k : Nat} (hk : 50 ≤ k) : poacherref05_Round.f k a b d = some ((roundOf a b d).map s25) := by
  obtain ⟨j, rfl⟩ : ∃ j, k = (j + (a.toNat + b.toNat) + 1) + 1 := ⟨k - (a.toNat + b.toNat) - 2, by omega⟩
  unfold poacherref05_Round.f
  rw [if_neg (by omega), if_neg (by omega), if_neg (by omega), decide_eq_false (show ¬ b > 20 by omega), poacherref05_Round.j0, if_neg (by simp), refRound_l0 a b d ha hb (a.toNat + b.toNat) j [] 0 (by omega) (by omega) (by simp; omega), List.nil_append, roundOf, List.map_append, List.map_map, List.map_map, List.range_add, List.map_append, List.map_map]
  congr 2
  · refine List.map_congr_left fun x hx => ?_
    have := List.mem_range.1 hx
    rw [if_pos (by omega)]
    simp [s25]
  · refine List.map_congr_left fun x hx => ?_
    simp only [Function.comp]
    rw [if_neg (by omega)]
    simp only [s25]
    congr 1
    omega
theorem refRound_no {a b : Int} (d : Int) (h : ¬ ((0 ≤ a ∧ a < 21) ∧ (0 ≤ b ∧ b < 21))) {k : Nat} (hk : 1 ≤ k) : poacherref05_Round.f k a b d = some [] := by
  obtain ⟨k, rfl⟩ : ∃ j, k = j + 1 := ⟨k - 1, by omega⟩
  have stop : poacherref05_Round.j0 (k + 1) a b d true = some [] := by rw [poacherref05_Round.j0, if_pos rfl]
  unfold poacherref05_Round.f
  split
  · exact stop
  split
  · exact stop
  split
  · exact stop
  rw [decide_eq_true (show b > 20 by omega)]
  exact stop

theorem s25_mk (x y z : Int) : s25 (x, y, z) = ⟨x, y, z⟩ := rfl
theorem pick_is (a b c : Int) : s25 (pickOf a b c) = ⟨wrap64 (a.tmod 4), wrap64 b, IntKind.u64.wrap c⟩ := by
  unfold pickOf
  rw [s25_mk, i64_w, i64_w]
theorem rd_nat (l : List Int) (m : Nat) : rd l (m : Int) = l.getD m 0 := by unfold rd; rw [Int.toNat_natCast]
theorem refDecode_l0 (l : List Int) (hl : l.length ≤ 100000) : ∀ (m k j : Nat) (x3 : List S25), j + m = l.length / 3 → x3.length + m ≤ 1000000 →
    poacherref05_Decode.l0 (k + m + 1) l x3 ((3 * j : Nat) : Int) = some (x3 ++ (List.range m).map fun t : Nat => s25 (pickOf (l.getD (3 * (j + t)) 0) (l.getD (3 * (j + t) + 1) 0) (l.getD (3 * (j + t) + 2) 0)))
  | 0, k, j, x3, h, hx => by
    rw [poacherref05_Decode.l0, show wrap64 (((3 * j : Nat) : Int) + 2) = ((3 * j + 2 : Nat) : Int) from by unfold wrap64; omega, if_neg (by omega)]
    simp
  | m + 1, k, j, x3, h, hx => by
    have w1 : wrap64 (((3 * j : Nat) : Int) + 1) = ((3 * j + 1 : Nat) : Int) := by unfold wrap64; omega
    have w2 : wrap64 (((3 * j : Nat) : Int) + 2) = ((3 * j + 2 : Nat) : Int) := by unfold wrap64; omega
    have w3 : wrap64 (((3 * j : Nat) : Int) + 3) = ((3 * (j + 1) : Nat) : Int) := by unfold wrap64; omega
    have hx3 : x3.length < 5864062014805 := by omega
    rw [show k + (m + 1) + 1 = (k + m + 1) + 1 from by omega, poacherref05_Decode.l0, w1, w2, w3, if_pos (by omega), if_pos (by omega), if_pos (by omega), if_pos (by omega), if_pos (by omega), if_pos (by omega), if_pos hx3, rd_nat, rd_nat, rd_nat, ← pick_is,
      refDecode_l0 l hl m k (j + 1) _ (by omega) (by rw [List.length_append, List.length_singleton]; omega), List.range_succ_eq_map, List.map_cons, List.map_map, List.append_assoc, Nat.add_zero]
    have e2 : ((fun t : Nat => s25 (pickOf (l.getD (3 * (j + t)) 0) (l.getD (3 * (j + t) + 1) 0) (l.getD (3 * (j + t) + 2) 0))) ∘ Nat.succ) = fun t : Nat => s25 (pickOf (l.getD (3 * (j + 1 + t)) 0) (l.getD (3 * (j + 1 + t) + 1) 0) (l.getD (3 * (j + 1 + t) + 2) 0)) := by
      funext t
      simp only [Function.comp]
      rw [show j + t.succ = j + 1 + t from by omega]
    rw [e2]
    rfl
theorem refDecode_eq (l : List Int) (hl : l.length ≤ 100000) (k : Nat) (hk : l.length + 1 ≤ k) : poacherref05_Decode.f k l = some ((decoded l).map s25) := by
  unfold poacherref05_Decode.f
  have h := refDecode_l0 l hl (l.length / 3) (k - l.length / 3 - 1) 0 [] (by omega) (by simp; omega)
  rw [show k - l.length / 3 - 1 + l.length / 3 + 1 = k from by omega] at h
  rw [show (0 : Int) = ((3 * 0 : Nat) : Int) from rfl, h, List.nil_append, decoded, List.map_map]
  congr 1
  refine List.map_congr_left fun x _ => ?_
  rw [Nat.zero_add]
  rfl

def pos (self w i : Int) : Int := if self + i < w then self + i else self + i - w
theorem refVictim_l0 (d self w : Int) (hd : 0 ≤ d) (hw : 2 ≤ w ∧ w ≤ 64) (hs : 0 ≤ self ∧ self < w) : ∀ (t k : Nat) (i : Int), i + t = d % (w - 1) + 1 → 0 ≤ i →
    poacherref05_Victim.l0 (k + t + 1) d w (pos self w i) i = some (pos self w (d % (w - 1) + 1))
  | t, k, i, h, h0 => by
    have h1 := Int.emod_nonneg d (show w - 1 ≠ 0 by omega)
    have h2 := Int.emod_lt_of_pos d (show 0 < w - 1 by omega)
    have e1 : wrap64 (w - 1) = w - 1 := by unfold wrap64; omega
    have e2 : IntKind.u64.wrap (w - 1) = w - 1 := by rw [IntKind.wrap_u64]; omega
    have e3 : Int.tmod (Int.tmod d (w - 1)) 1000 = d % (w - 1) := by
      rw [Int.tmod_eq_emod_of_nonneg hd, Int.tmod_eq_emod_of_nonneg h1, Int.emod_eq_of_lt h1 (by omega)]
    have e4 : IntKind.u64.wrap (d % (w - 1) + 1) = d % (w - 1) + 1 := by rw [IntKind.wrap_u64]; omega
    have e5 : IntKind.u64.wrap (i + 1) = i + 1 := by rw [IntKind.wrap_u64]; omega
    have hp : 0 ≤ pos self w i ∧ pos self w i < w := by unfold pos; split <;> omega
    have e6 : wrap64 (pos self w i + 1) = pos self w i + 1 := by unfold wrap64; omega
    match t with
    | 0 => rw [poacherref05_Victim.l0, e1, e2, if_neg (by omega), e3, e4, if_neg (by omega), show i = d % (w - 1) + 1 from by omega]
    | t + 1 =>
      rw [show k + (t + 1) + 1 = (k + t + 1) + 1 from by omega, poacherref05_Victim.l0, e1, e2, if_neg (by omega), e3, e4, if_pos (by omega), e5, e6]
      have ih := refVictim_l0 d self w hd hw hs t k (i + 1) (by omega) (by omega)
      by_cases hc : pos self w i + 1 = w
      · rw [if_pos hc, show (0 : Int) = pos self w (i + 1) from by unfold pos at hc ⊢; split at hc <;> split <;> omega]
        exact ih
      · rw [if_neg hc, show pos self w i + 1 = pos self w (i + 1) from by unfold pos at hc ⊢; split at hc <;> split <;> omega]
        exact ih
theorem refVictim_in (d self w : Int) (hd : 0 ≤ d) (hw : 2 ≤ w ∧ w ≤ 64) (hs : 0 ≤ self ∧ self < w) {k : Nat} (hk : 70 ≤ k) : poacherref05_Victim.f k d self w = some (vic d self w) := by
  have h1 := Int.emod_nonneg d (show w - 1 ≠ 0 by omega)
  have h2 := Int.emod_lt_of_pos d (show 0 < w - 1 by omega)
  obtain ⟨j, rfl⟩ : ∃ j, k = (j + (d % (w - 1) + 1).toNat + 1) + 1 := ⟨k - (d % (w - 1) + 1).toNat - 2, by omega⟩
  unfold poacherref05_Victim.f
  have h := refVictim_l0 d self w hd hw hs (d % (w - 1) + 1).toNat j 0 (by omega) (by omega)
  have hp : pos self w 0 = self := by unfold pos; rw [if_pos (by omega)]; omega
  have hv : pos self w (d % (w - 1) + 1) = vic d self w := by unfold pos vic; split <;> split <;> omega
  rw [hp, hv] at h
  rw [if_neg (by omega), if_neg (by omega), decide_eq_false (show ¬ self ≥ w by omega), poacherref05_Victim.j0, if_neg (by simp), h]
theorem refVictim_no (d self w : Int) (h : ¬ (2 ≤ w ∧ 0 ≤ self ∧ self < w)) {k : Nat} (hk : 1 ≤ k) : poacherref05_Victim.f k d self w = some (-1) := by
  obtain ⟨k, rfl⟩ : ∃ j, k = j + 1 := ⟨k - 1, by omega⟩
  have stop : poacherref05_Victim.j0 (k + 1) d self w true = some (-1) := by rw [poacherref05_Victim.j0, if_pos rfl]
  unfold poacherref05_Victim.f
  split
  · exact stop
  split
  · exact stop
  rw [decide_eq_true (show self ≥ w by omega)]
  exact stop

theorem named_l0 (L : List S25) (p0 p1 : Int) (hl : L.length ≤ 100000) : ∀ (m k : Nat) (i : Nat), i + m = L.length → poacherref05_named.l0 (k + m + 1) L p0 p1 (i : Int) = some (((L.map tr25).drop i).any (same p0 p1))
  | 0, k, i, h => by
    rw [poacherref05_named.l0, if_neg (by omega), List.drop_eq_nil_of_le (by simp; omega)]
    rfl
  | m + 1, k, i, h => by
    have hi : i < L.length := by omega
    have e1 : wrap64 ((i : Int) + 1) = ((i + 1 : Nat) : Int) := by unfold wrap64; omega
    have ih := named_l0 L p0 p1 hl m k (i + 1) (by omega)
    have hd : (L.map tr25).drop i = tr25 L[i] :: (L.map tr25).drop (i + 1) := by
      rw [List.drop_eq_getElem_cons (by simpa using hi), List.getElem_map]
    have hr : rd_T25 L (i : Int) = L[i] := by
      unfold rd_T25
      rw [Int.toNat_natCast, List.getD_eq_getElem?_getD, List.getElem?_eq_getElem hi]
      rfl
    rw [show k + (m + 1) + 1 = (k + m + 1) + 1 from by omega, poacherref05_named.l0, if_pos (by omega), if_pos (by omega), e1, ih, hd, List.any_cons, hr]
    have hs : same p0 p1 (tr25 L[i]) = (decide (L[i].f0 = p0) && decide (L[i].f1 = p1)) := by
      show (L[i].f0 == p0 && L[i].f1 == p1) = _
      by_cases a1 : L[i].f0 = p0 <;> by_cases a2 : L[i].f1 = p1 <;> simp [a1, a2]
    rw [hs]
    by_cases a1 : L[i].f0 = p0
    · by_cases a2 : L[i].f1 = p1
      · rw [if_pos a1, if_pos a2]; simp [a1, a2]
      · rw [if_pos a1, if_neg a2]; simp [a1, a2]
    · rw [if_neg a1]; simp [a1]
theorem named_eq (L : List S25) (p0 p1 : Int) (hl : L.length ≤ 100000) {k : Nat} (hk : L.length + 1 ≤ k) : poacherref05_named.f k L p0 p1 = some ((L.map tr25).any (same p0 p1)) := by
  unfold poacherref05_named.f
  have h := named_l0 L p0 p1 hl L.length (k - L.length - 1) 0 (by omega)
  rw [show k - L.length - 1 + L.length + 1 = k from by omega, List.drop_zero] at h
  exact h
end Go.Proofs.Ytonhjnfhaelfkaa.QD
