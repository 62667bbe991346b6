-- Written by inj.py (a program of this session), by the kit's print with functions given by hand. Not trusted: Lean checks it.
import Derived.Test.YtonhjnfhaelfkaaQDx0
import Derived.Test.YtonhjnfhaelfkaaQDx3
import Derived.Test.YtonhjnfhaelfkaaQDx4
import Derived.Test.YtonhjnfhaelfkaaQDx5
namespace Go.Proofs.Ytonhjnfhaelfkaa.QD
open Go.RowKit Go.Proofs.YtonhjnfhaelfkaaW.PrintWords Go.Proofs.YtonhjnfhaelfkaaW.PrintLast Go.Proofs.YtonhjnfhaelfkaaW.PrintMore
attribute [local go_sem] max2_int min2_int max_two min_two max_three min_three max_four min_four   -- for this text's walks alone
set_option linter.unusedVariables false
set_option linter.unusedSimpArgs false

/-! ### draw_Fair: function 21 -/
theorem round_l1 (d b : Int) (hb : b ≤ 21) : ∀ (m k : Nat) (x7 : List S25) (i : Int), i + m = b → 0 ≤ i → x7.length + m ≤ 1000 → draw_Round.l1 (k + m + 1) d x7 b i = some (x7 ++ (List.range m).map fun j : Nat => (⟨1, i + (j : Int), d⟩ : S25))
  | 0, k, x7, i, h, _, _ => by
    rw [draw_Round.l1, if_neg (by omega)]
    simp
  | m + 1, k, x7, i, h, h0, hl => by
    rw [show k + (m + 1) + 1 = (k + m + 1) + 1 from by omega, draw_Round.l1, if_pos (by omega), if_pos (by omega), show wrap64 (i + 1) = i + 1 from by unfold wrap64; omega, round_l1 d b hb m k _ (i + 1) (by omega) (by omega) (by simp; omega), List.range_succ_eq_map, List.map_cons, List.map_map, List.append_assoc]
    congr 2
    simp [Function.comp_def]
    intro j _
    omega
theorem round_l0 (d a b : Int) (ha : a ≤ 21) : ∀ (m k : Nat) (x7 : List S25) (i : Int), i + m = a → 0 ≤ i → x7.length + m ≤ 1000 → draw_Round.l0 (k + m + 1) b d x7 a i = draw_Round.l1 k d (x7 ++ (List.range m).map fun j : Nat => (⟨0, i + (j : Int), d⟩ : S25)) b 0
  | 0, k, x7, i, h, _, _ => by
    rw [draw_Round.l0, if_neg (by omega)]
    simp
  | m + 1, k, x7, i, h, h0, hl => by
    rw [show k + (m + 1) + 1 = (k + m + 1) + 1 from by omega, draw_Round.l0, if_pos (by omega), if_pos (by omega), show wrap64 (i + 1) = i + 1 from by unfold wrap64; omega, round_l0 d a b ha m k _ (i + 1) (by omega) (by omega) (by simp; omega), List.range_succ_eq_map, List.map_cons, List.map_map, List.append_assoc]
    congr 2
    simp [Function.comp_def]
    intro j _
    omega
theorem round_closed (a b d : Int) (ha : 0 ≤ a ∧ a < 21) (hb : 0 ≤ b ∧ b < 21) : draw_Round.f (b.toNat + 1 + a.toNat + 1 + 1) a b d = some ((Go.Proofs.YtonhjnfhaelfkaaHand.roundOf a b d).map s25) := by
  have h0 : draw_below.f a 21 = some true := by unfold draw_below.f; rw [if_pos ha.1]; simp [ha.2]
  have h1 : draw_below.f b 21 = some true := by unfold draw_below.f; rw [if_pos hb.1]; simp [hb.2]
  unfold draw_Round.f
  rw [h0, h1]
  simp only [Option.bind_some, if_true, Bool.not_true, draw_Round.j0]
  rw [if_neg (by simp), round_l0 d a b (by omega) a.toNat (b.toNat + 1) [] 0 (by omega) (by omega) (by simp; omega), show b.toNat + 1 = 0 + b.toNat + 1 from by omega, round_l1 d b (by omega) b.toNat 0 _ 0 (by omega) (by omega) (by simp; omega)]
  simp [Go.Proofs.YtonhjnfhaelfkaaHand.roundOf, s25, Function.comp_def]
def draw_Fair.f (l0 : List (S25)) (a1 : Int) (a2 : Int) (a3 : Int) : Option (Bool) := if l0.length ≤ 100000 ∧ a3 ≤ 9223372036854775807 then some (if (0 ≤ a1 ∧ a1 < 21) ∧ (0 ≤ a2 ∧ a2 < 21) ∧ 1 ≤ a3 then Go.Proofs.YtonhjnfhaelfkaaHand.fairOf (Go.Proofs.YtonhjnfhaelfkaaHand.roundOf a1 a2 0) (l0.map tr25) a3.toNat else false) else none
theorem draw_Fair.calls (A0 : Option Addr) (c0 : Nat) (l0 : List (S25)) (a1 : Int) (a2 : Int) (a3 : Int) (r : Bool) (w : World) (hr0 : Kd.C k25 w A0 l0.length l0) (hc0 : l0.length ≤ c0) (h : draw_Fair.f l0 a1 a2 a3 = some r) :
    Calls Try.prog 21 #[.slice A0 l0.length c0, .int .i64 a1, .int .i64 a2, .int .i64 a3] w fun e w' => e = .returned (.bool r) ∧ Below w.heap.size w w' := by
  unfold draw_Fair.f at h
  by_cases hl : l0.length ≤ 100000 ∧ a3 ≤ 9223372036854775807
  · rw [if_pos hl] at h
    obtain rfl := Option.some.inj h
    by_cases hc : (0 ≤ a1 ∧ a1 < 21) ∧ (0 ≤ a2 ∧ a2 < 21) ∧ 1 ≤ a3
    · rw [if_pos hc]
      obtain ⟨ad, hA, hPR⟩ := C25_PR hr0
      have hlm : (l0.map tr25).length = l0.length := List.length_map ..
      have hlr : (Go.Proofs.YtonhjnfhaelfkaaHand.roundOf a1 a2 0).length ≤ 100000 := by simp [Go.Proofs.YtonhjnfhaelfkaaHand.roundOf]; omega
      have := Go.Proofs.YtonhjnfhaelfkaaHand.Fair_calls A0 ad c0 (l0.map tr25) (Go.Proofs.YtonhjnfhaelfkaaHand.roundOf a1 a2 0) a1 a2 a3 hc.1 hc.2.1 hc.2.2 hl.2 (by rw [hlm]; exact hA) (by rw [hlm]; exact hl.1) (by rw [hlm]; exact hc0) hlr w hPR
        (fun W => (draw_Round.calls _ a1 a2 0 _ W (round_closed a1 a2 0 hc.1 hc.2.1)).mono fun e w' ⟨v, he, hR, hb⟩ => ⟨v, he, by have := R25_own hR; rwa [tr_s25] at this, hb⟩)
      rw [hlm] at this
      exact this
    · rw [if_neg hc]
      exact Go.Proofs.YtonhjnfhaelfkaaHand.Fair_no_calls A0 l0.length c0 a1 a2 a3 hc w
  · rw [if_neg hl] at h
    cases h

end Go.Proofs.Ytonhjnfhaelfkaa.QD
