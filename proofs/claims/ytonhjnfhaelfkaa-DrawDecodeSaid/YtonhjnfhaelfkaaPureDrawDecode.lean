import Derived.Test.YtonhjnfhaelfkaaQDx27
import Derived.Test.YtonhjnfhaelfkaaMath
set_option linter.unusedVariables false
set_option linter.unusedSimpArgs false
namespace Go.Proofs.Ytonhjnfhaelfkaa.Pure
open Go.RowKit Go.Proofs.Ytonhjnfhaelfkaa.QD Go.Proofs.YtonhjnfhaelfkaaW.PrintWords Go.Proofs.YtonhjnfhaelfkaaW.PrintLast Go.Proofs.YtonhjnfhaelfkaaHand

theorem dec_eq (l : List Int) (h : l.length ≤ 100000) : draw_Decode.f l = some ((decoded l).map s25) := by unfold draw_Decode.f; rw [if_pos h]
theorem dec_len (l : List Int) : ((decoded l).map s25).length = l.length / 3 := by simp [decoded]
theorem dec_at (l : List Int) (i : Int) (h0 : 0 ≤ i) (h1 : i.toNat < l.length / 3) : rd_T25 ((decoded l).map s25) i = s25 (pickOf (l.getD (3 * i.toNat) 0) (l.getD (3 * i.toNat + 1) 0) (l.getD (3 * i.toNat + 2) 0)) := by
  unfold rd_T25
  rw [List.getD_eq_getElem?_getD, List.getElem?_map, decoded, List.getElem?_map, List.getElem?_range h1]
  rfl
theorem u8_bounds {a : Int} (h : (Lit.int .u8 a).wf = true) : 0 ≤ a ∧ a ≤ 255 := by
  have h1 : IntKind.u8.min = 0 := rfl
  have h2 : IntKind.u8.max = 255 := rfl
  simp only [Lit.wf, Bool.and_eq_true, decide_eq_true_eq] at h
  omega
theorem getD_bounds {l : List Int} (h : ∀ x ∈ l, (Lit.int .u8 x).wf = true) (j : Nat) : 0 ≤ l.getD j 0 ∧ l.getD j 0 ≤ 255 := by
  rw [List.getD_eq_getElem?_getD]
  cases hj : l[j]? with
  | none => simp
  | some x => exact u8_bounds (h x (List.mem_of_getElem? hj))
theorem getD_left (l l' : List Int) (j : Nat) (h : j < l.length) : (l ++ l').getD j 0 = l.getD j 0 := by
  rw [List.getD_eq_getElem?_getD, List.getD_eq_getElem?_getD, List.getElem?_append_left h]

theorem s25_0 (p : Int × Int × Int) : (s25 p).f0 = p.1 := rfl
theorem s25_1 (p : Int × Int × Int) : (s25 p).f1 = p.2.1 := rfl
theorem s25_2 (p : Int × Int × Int) : (s25 p).f2 = p.2.2 := rfl
theorem pick_eq (a b c : Int) : pickOf a b c = (IntKind.i64.wrap (a.tmod 4), IntKind.i64.wrap b, IntKind.u64.wrap c) := by unfold pickOf; rfl
theorem p3_0 (a b c : Int) : (a, b, c).1 = a := rfl
theorem p3_1 (a b c : Int) : (a, b, c).2.1 = b := rfl
theorem p3_2 (a b c : Int) : (a, b, c).2.2 = c := rfl
theorem pick_0 (a b c : Int) (h : 0 ≤ a ∧ a ≤ 255) : (s25 (pickOf a b c)).f0 = a % 4 := by
  rw [s25_0, pick_eq, p3_0, Int.tmod_eq_emod_of_nonneg h.1, i64_w]; unfold wrap64; omega
theorem pick_1 (a b c : Int) : (s25 (pickOf a b c)).f1 = wrap64 b := by rw [s25_1, pick_eq, p3_1, i64_w]
theorem pick_2 (a b c : Int) : (s25 (pickOf a b c)).f2 = IntKind.u64.wrap c := by rw [s25_2, pick_eq, p3_2]

theorem app_step {β : Type} (l0 : List Int) (h : ([] : List Int).length + l0.length < 140737488355328) (F : List Int → Option β) : (if ([] : List Int).length + l0.length < 140737488355328 then ((some (([] : List Int) ++ l0 : List Int)).bind F) else none) = F l0 := by rw [if_pos h, Option.bind_some, List.nil_append]

theorem DrawDecode (l0 l1 : List Int) (a2 : Int) (hb0 : ∀ x ∈ l0, (Lit.int .u8 x).wf = true) (hb1 : ∀ x ∈ l1, (Lit.int .u8 x).wf = true) (w2 : (Lit.int .i64 a2).wf = true) : ∃ k, poacherlaw05_DrawDecode.f k l0 l1 a2 = some true := by
  have b2 := i64_bounds w2
  obtain ⟨k, hk⟩ : ∃ k : Nat, 50 ≤ k := ⟨50, Nat.le_refl _⟩
  refine ⟨k + 1 + 1, ?_⟩
  unfold poacherlaw05_DrawDecode.f
  rw [awake_k (by omega)]
  simp only [Option.bind_some, if_true]
  by_cases g0 : (l0.length : Int) > 200
  · rw [if_pos g0, poacherlaw05_DrawDecode.j0, if_pos rfl]
  by_cases g1 : (l1.length : Int) > 200
  · rw [if_neg g0, decide_eq_true g1, poacherlaw05_DrawDecode.j0, if_pos rfl]
  have hl : (l0 ++ l1).length = l0.length + l1.length := List.length_append
  have hz : ([] : List Int).length + l0.length < 140737488355328 := by rw [List.length_nil]; omega
  have hz2 : l0.length + l1.length < 140737488355328 := by omega
  rw [if_neg g0, decide_eq_false g1, poacherlaw05_DrawDecode.j0, if_neg (by simp), dec_eq l0 (by omega), Option.bind_some, app_step l0 hz, if_pos hz2, dec_eq (l0 ++ l1) (by omega), Option.bind_some]
  have e1 : wrap64 ((l0.length : Int) / 3) = ((l0.length / 3 : Nat) : Int) := by unfold wrap64; omega
  have e2 : wrap64 ((l0.length : Int) + (l1.length : Int)) = ((l0.length + l1.length : Nat) : Int) := by unfold wrap64; omega
  have e3 : wrap64 (Int.tdiv ((l0.length + l1.length : Nat) : Int) 3) = (((l0.length + l1.length) / 3 : Nat) : Int) := by
    rw [Int.tdiv_eq_ediv_of_nonneg (by omega)]; unfold wrap64; omega
  rw [dec_len, dec_len, hl, e1, e2, e3, if_pos rfl, show ((((l0.length + l1.length) / 3 : Nat) : Int) != (((l0.length + l1.length) / 3 : Nat) : Int)) = false from by simp, poacherlaw05_DrawDecode.j1, if_neg (by simp)]
  by_cases c1 : a2 < 0
  · rw [if_pos c1]
  rw [if_neg c1, dec_len]
  by_cases c2 : a2 ≥ ((l0.length / 3 : Nat) : Int)
  · rw [if_pos c2]
  rw [if_neg c2, if_pos (by omega), if_pos (by omega), dec_len, hl, if_pos (by omega)]
  have hj : a2.toNat < l0.length / 3 := by omega
  have x0 := dec_at l0 a2 (by omega) hj
  have x1 := dec_at (l0 ++ l1) a2 (by omega) (by omega)
  rw [getD_left _ _ _ (by omega), getD_left _ _ _ (by omega), getD_left _ _ _ (by omega), ← x0] at x1
  have y1 : wrap64 (wrap64 (3 * a2) + 1) = ((3 * a2.toNat + 1 : Nat) : Int) := by unfold wrap64; omega
  have y2 : wrap64 (wrap64 (3 * a2) + 2) = ((3 * a2.toNat + 2 : Nat) : Int) := by unfold wrap64; omega
  have r : ∀ m : Nat, rd l0 (m : Int) = l0.getD m 0 := fun m => by unfold rd; rw [Int.toNat_natCast]
  rw [x1, if_pos (by simp), y1, y2, r, r, x0]
  have q0 := getD_bounds hb0 (3 * a2.toNat)
  rw [pick_0 _ _ _ q0, pick_1, pick_2, if_pos (by omega), if_pos (by omega), if_pos (by omega), if_pos (by omega), if_pos rfl, if_pos (by omega), if_pos (by omega)]
  simp

end Go.Proofs.Ytonhjnfhaelfkaa.Pure
