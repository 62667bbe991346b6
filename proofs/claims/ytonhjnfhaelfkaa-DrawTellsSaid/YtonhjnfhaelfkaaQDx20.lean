-- Written by inj.py (a program of this session), by the kit's print with functions given by hand. Not trusted: Lean checks it.
import Derived.Test.YtonhjnfhaelfkaaQDx0
import Derived.Test.YtonhjnfhaelfkaaQDx3
import Derived.Test.YtonhjnfhaelfkaaQDx5
import Derived.Test.YtonhjnfhaelfkaaQDx6
import Derived.Test.YtonhjnfhaelfkaaQDx7
import Derived.Test.YtonhjnfhaelfkaaQDx11
import Derived.Test.YtonhjnfhaelfkaaQDx12
import Derived.Test.YtonhjnfhaelfkaaQDx13
import Derived.Test.YtonhjnfhaelfkaaQDx14
import Derived.Test.YtonhjnfhaelfkaaQDx15
import Derived.Test.YtonhjnfhaelfkaaQDx16
import Derived.Test.YtonhjnfhaelfkaaQDx18
import Derived.Test.YtonhjnfhaelfkaaQDx19
namespace Go.Proofs.Ytonhjnfhaelfkaa.QD
open Go.RowKit Go.Proofs.YtonhjnfhaelfkaaW.PrintWords Go.Proofs.YtonhjnfhaelfkaaW.PrintLast Go.Proofs.YtonhjnfhaelfkaaW.PrintMore
attribute [local go_sem] max2_int min2_int max_two min_two max_three min_three max_four min_four   -- for this text's walks alone
set_option linter.unusedVariables false
set_option linter.unusedSimpArgs false

/-! ### poacherlaw05_DrawTells: function 3 -/
def poacherlaw05_DrawTells.j0 : Nat → List Int → List (S25) → Int → Int → Int → Bool → Bool → Int → Int → Int → Option (Bool)
  | 0, _, _, _, _, _, _, _, _, _, _ => none
  | k + 1, x0, x2, x3, x4, x5, x13, x31, x165000, x165001, x165002 => if x31 = true then (some x13) else ((draw_Decode.f x0).bind fun t166 => ((poacherref05_Decode.f k x0).bind fun t169 => ((poacherref05_Picks.f k t166 t169).bind fun t172 => ((draw_Round.f k x3 x4 x165002).bind fun t173 => ((poacherref05_Round.f k x3 x4 x165002).bind fun t176 => ((poacherref05_Picks.f k t173 t176).bind fun t179 => ((poacherref05_Fits.f x165000 x165001 x165002 x3 x4).bind fun t180 => ((poacherref05_Fair.f k x2 x3 x4 x5).bind fun t181 => (if x3 > 64 then (if t172 = true then (if t179 = true then ((draw_Fits.f x165000 x165001 x165002 x3 x4).bind fun t182 => (if (t182 == t180) = true then ((draw_Fair.f x2 x3 x4 x5).bind fun t183 => (if (t183 == t181) = true then (some true) else (some false))) else (some false))) else (some false)) else (some false)) else ((draw_Victim.f x165002 x165001 x3).bind fun t184 => ((poacherref05_Victim.f k x165002 x165001 x3).bind fun t185 => (if t172 = true then (if t179 = true then ((draw_Fits.f x165000 x165001 x165002 x3 x4).bind fun t186 => (if (t186 == t180) = true then ((draw_Fair.f x2 x3 x4 x5).bind fun t187 => (if (t187 == t181) = true then (some (t184 == t185)) else (some false))) else (some false))) else (some false)) else (some false)))))))))))))
def poacherlaw05_DrawTells.f (k : Nat) (l0 : List Int) (a1_0 : Int) (a1_1 : Int) (a1_2 : Int) (l2 : List (S25)) (a3 : Int) (a4 : Int) (a5 : Int) : Option (Bool) := (poacherlaw05_awake.f k).bind fun t165 => (if t165 = true then (if (l0.length : Int) > 200 then (poacherlaw05_DrawTells.j0 k l0 l2 a3 a4 a5 t165 true a1_0 a1_1 a1_2) else (poacherlaw05_DrawTells.j0 k l0 l2 a3 a4 a5 t165 (decide ((l2.length : Int) > 60)) a1_0 a1_1 a1_2)) else (poacherlaw05_DrawTells.j0 k l0 l2 a3 a4 a5 t165 true a1_0 a1_1 a1_2))
theorem poacherlaw05_DrawTells.mono_l : ∀ k, (∀ y0 y1 y2 y3 y4 y5 y6 y7 y8 y9, LeO (poacherlaw05_DrawTells.j0 k y0 y1 y2 y3 y4 y5 y6 y7 y8 y9) (poacherlaw05_DrawTells.j0 (k + 1) y0 y1 y2 y3 y4 y5 y6 y7 y8 y9))
  | 0 => fun _ _ _ _ _ _ _ _ _ _ r h => by simp [poacherlaw05_DrawTells.j0] at h
  | k + 1 => by
    have ih0 := poacherlaw05_DrawTells.mono_l k
    · intro y0 y1 y2 y3 y4 y5 y6 y7 y8 y9
      unfold poacherlaw05_DrawTells.j0
      repeat' first
      | (with_reducible exact ih0 _ _ _ _ _ _ _ _ _ _)
      | (with_reducible exact draw_Round.mono _ _ _ _)
      | (with_reducible exact poacherlaw05_awake.mono _)
      | (with_reducible exact poacherref05_Decode.mono _ _)
      | (with_reducible exact poacherref05_Fair.mono _ _ _ _ _)
      | (with_reducible exact poacherref05_Picks.mono _ _ _)
      | (with_reducible exact poacherref05_Round.mono _ _ _ _)
      | (with_reducible exact poacherref05_Victim.mono _ _ _ _)
      | (with_reducible exact LeO.refl _)
      | (with_reducible exact LeO.none _)
      | (with_reducible refine LeO.ite ?_ ?_)
      | (with_reducible refine LeO.bind ?_ (fun _ => ?_))
      | exact ih0 _ _ _ _ _ _ _ _ _ _
      | exact draw_Round.mono _ _ _ _
      | exact poacherlaw05_awake.mono _
      | exact poacherref05_Decode.mono _ _
      | exact poacherref05_Fair.mono _ _ _ _ _
      | exact poacherref05_Picks.mono _ _ _
      | exact poacherref05_Round.mono _ _ _ _
      | exact poacherref05_Victim.mono _ _ _ _
      | exact LeO.none _
      | refine LeO.ite ?_ ?_
      | refine LeO.bind ?_ (fun _ => ?_)
theorem poacherlaw05_DrawTells.mono : ∀ a0 a1 a2 a3 a4 a5 a6 a7 k, LeO (poacherlaw05_DrawTells.f k a0 a1 a2 a3 a4 a5 a6 a7) (poacherlaw05_DrawTells.f (k + 1) a0 a1 a2 a3 a4 a5 a6 a7) := by
  intro a0 a1 a2 a3 a4 a5 a6 a7 k
  have ih0 := poacherlaw05_DrawTells.mono_l k
  unfold poacherlaw05_DrawTells.f
  repeat' first
      | (with_reducible exact ih0 _ _ _ _ _ _ _ _ _ _)
      | (with_reducible exact draw_Round.mono _ _ _ _)
      | (with_reducible exact poacherlaw05_awake.mono _)
      | (with_reducible exact poacherref05_Decode.mono _ _)
      | (with_reducible exact poacherref05_Fair.mono _ _ _ _ _)
      | (with_reducible exact poacherref05_Picks.mono _ _ _)
      | (with_reducible exact poacherref05_Round.mono _ _ _ _)
      | (with_reducible exact poacherref05_Victim.mono _ _ _ _)
      | (with_reducible exact LeO.refl _)
      | (with_reducible exact LeO.none _)
      | (with_reducible refine LeO.ite ?_ ?_)
      | (with_reducible refine LeO.bind ?_ (fun _ => ?_))
      | exact ih0 _ _ _ _ _ _ _ _ _ _
      | exact draw_Round.mono _ _ _ _
      | exact poacherlaw05_awake.mono _
      | exact poacherref05_Decode.mono _ _
      | exact poacherref05_Fair.mono _ _ _ _ _
      | exact poacherref05_Picks.mono _ _ _
      | exact poacherref05_Round.mono _ _ _ _
      | exact poacherref05_Victim.mono _ _ _ _
      | exact LeO.none _
      | refine LeO.ite ?_ ?_
      | refine LeO.bind ?_ (fun _ => ?_)
def poacherlaw05_DrawTells.T5 : Bool × List (List Nat × List Nat) := (true, [([], []), ([], []), ([], []), ([2], [2]), ([0, 1, 3], [0, 1, 3]), ([], []), ([], []), ([], []), ([7], [7]), ([5, 6, 8, 4], [5, 6, 8]), ([4, 9, 9], [4, 9]), ([10, 10, 0, 1, 2, 3, 4, 5, 6, 7, 8, 9, 10], [10])])
def poacherlaw05_DrawTells.B5 : List Nat := [0, 0, 0, 4, 15, 0, 0, 0, 128, 511, 1023, 2047]
theorem poacherlaw05_DrawTells.tab5 : rtab .any (opsOf Try.f3 5) = poacherlaw05_DrawTells.T5 := by kernel_rfl
theorem poacherlaw05_DrawTells.bits5 : waitsOk poacherlaw05_DrawTells.T5.2 poacherlaw05_DrawTells.B5 = true := by kernel_rfl
def poacherlaw05_DrawTells.T8 : Bool × List (List Nat × List Nat) := (true, [([], []), ([0], [0]), ([1], [1]), ([2], [2]), ([3, 2], [2, 3]), ([2], [2]), ([5, 2], [2, 5]), ([2], [2]), ([4, 6, 7, 2, 2], [2, 4, 6, 7]), ([2], [2]), ([9, 2], [2, 9]), ([2], [2]), ([11, 2], [2, 11]), ([2], [2]), ([10, 12, 13, 8, 2], [2, 10, 12, 13]), ([8, 14, 2], [2, 8, 14]), ([2, 15], [2, 15]), ([16, 14, 0, 1, 2, 3, 4, 5, 6, 7, 8, 9, 10, 11, 12, 13, 14, 15, 16], [16])])
def poacherlaw05_DrawTells.B8 : List Nat := [0, 1, 3, 7, 15, 7, 39, 7, 255, 7, 519, 7, 2055, 7, 16383, 32767, 65535, 131071]
theorem poacherlaw05_DrawTells.tab8 : rtab .any (opsOf Try.f3 8) = poacherlaw05_DrawTells.T8 := by kernel_rfl
theorem poacherlaw05_DrawTells.bits8 : waitsOk poacherlaw05_DrawTells.T8.2 poacherlaw05_DrawTells.B8 = true := by kernel_rfl
set_option maxHeartbeats 8000000 in
set_option maxRecDepth 100000 in
theorem poacherlaw05_DrawTells.calls (k : Nat) (A0 : Option Addr) (c0 : Nat) (l0 : List Int) (a1_0 : Int) (a1_1 : Int) (a1_2 : Int) (A2 : Option Addr) (c2 : Nat) (l2 : List (S25)) (a3 : Int) (a4 : Int) (a5 : Int) (r : Bool) (w : World) (hr0 : Kd.C (Kd.int .u8) w A0 l0.length l0) (hc0 : l0.length ≤ c0) (hr2 : Kd.C k25 w A2 l2.length l2) (hc2 : l2.length ≤ c2) (hr_ : Aside0 (r = true)) (h : poacherlaw05_DrawTells.f k l0 a1_0 a1_1 a1_2 l2 a3 a4 a5 = some r) :
    Calls Try.prog 3 #[.slice A0 l0.length c0, .agg #[.int .i64 a1_0, .int .i64 a1_1, .int .u64 a1_2], .slice A2 l2.length c2, .int .i64 a3, .int .i64 a4, .int .i64 a5] w fun e w' => e = .returned (.bool r) ∧ Below w.heap.size w w' := by
  have hu25 := Try.underlying25
  have HR0 := Aside0.mk hr0
  have HC0 := Aside0.mk hc0
  clear hr0 hc0
  have HR2 := Aside0.mk hr2
  have HC2 := Aside0.mk hc2
  clear hr2 hc2
  have HB := Aside0.mk (Below.refl w.heap.size w)
  have H : ((poacherlaw05_awake.f k).bind fun t165 => (if t165 = true then (if (l0.length : Int) > 200 then (poacherlaw05_DrawTells.j0 k l0 l2 a3 a4 a5 t165 true a1_0 a1_1 a1_2) else (poacherlaw05_DrawTells.j0 k l0 l2 a3 a4 a5 t165 (decide ((l2.length : Int) > 60)) a1_0 a1_1 a1_2)) else (poacherlaw05_DrawTells.j0 k l0 l2 a3 a4 a5 t165 true a1_0 a1_1 a1_2))) = some r := h
  clear h
  replace H := Option.bind_eq_some_iff.mp H
  obtain ⟨t165, A70, H⟩ := H
  replace H : (if t165 = true then (if (l0.length : Int) > 200 then (poacherlaw05_DrawTells.j0 k l0 l2 a3 a4 a5 t165 true a1_0 a1_1 a1_2) else (poacherlaw05_DrawTells.j0 k l0 l2 a3 a4 a5 t165 (decide ((l2.length : Int) > 60)) a1_0 a1_1 a1_2)) else (poacherlaw05_DrawTells.j0 k l0 l2 a3 a4 a5 t165 true a1_0 a1_1 a1_2)) = some r := H
  have A7 := Aside0.mk A70
  clear A70
  have HC8 := Aside0.mk H
  clear H
  go_enter Try.func3, Try.ntmps3
  go_upto_region 2 with (first | ((with_reducible refine gate_dst (N := 7) rfl ?_); (try (refine gate_guard (by rfl) ?_; dsimp only)); refine box_event ?hg (N := 7) ?hd (cs := #[.int .i64 a1_0, .int .i64 a1_1, .int .u64 a1_2]) (t := 25) ?hr ?_; (case hd => rfl); (case hg => rfl); (case hr => first | (go_simp; done) | (go_simp; rfl)); intro gb164 hg w9 hbox hb; have n0_ := Aside0.mk (below_step (by repeat (first | (with_reducible first | exact HB.out | apply below_alloc | apply pw_below_drewN | apply below_drew1) | exact HB.out)) hb); have n1_ := Aside0.mk (hbox); have n2_ := Aside0.mk ((by rw [hg]; exact (below_size (by repeat (first | (with_reducible first | exact HB.out | apply below_alloc | apply pw_below_drewN | apply below_drew1) | exact HB.out))) : w.heap.size ≤ gb164)); have n3_ := Aside0.mk ((by rw [hg]; exact (below_size (by repeat (first | (with_reducible first | exact HB.out | apply below_alloc | apply pw_below_drewN | apply below_drew1) | exact HB.out))) : w.heap.size ≤ gb164)); clear HB; have HB := n0_; have BK164 := n1_; have GW164 := n2_; have GE164 := n3_; clear n0_ n1_ n2_ n3_; clear hb hbox hg) | ((with_reducible refine gate_callee (f := 10) rfl ?_); refine goesL_ (some 19) rfl rfl Try.func10 (by kernel_rfl) rfl #[] rfl (by (try simp only [List.map_toArray, List.map_cons, List.map_nil]); first | done | rfl | (simp only [List.length_drop, List.length_take]; rfl)) ?_; (with_reducible refine (poacherlaw05_awake.calls k  t165 _ A7.out).mono ?_); (try clear A7); rintro e w10 ⟨rfl, hb⟩; refine ⟨_, rfl, ?_⟩; have n0_ := Aside0.mk (blk_below (g := gb164) (o := .cells #[.int .i64 a1_0, .int .i64 a1_1, .int .u64 a1_2] 25 (0, 0)) (by (with_reducible repeat (first | refine blk_drewN ?_ _ | refine blk_drew ?_ | refine blk_alloc ?_ _)); exact BK164.out) hb); have n1_ := Aside0.mk (below_step (by repeat (first | (with_reducible first | exact HB.out | apply below_alloc | apply pw_below_drewN | apply below_drew1 | refine below_set ?_ GE164.out) | exact HB.out)) hb); clear BK164; clear HB; have BK164 := n0_; have HB := n1_; clear n0_ n1_; (try clear hb); (try clear hb2); (try clear hk); (try clear hi)))
  (try simp only [Act.put, List.setIfInBounds_toArray, List.set_cons_zero, List.set_cons_succ])
  go_cut [31] (fun v31 wc => ∃ (kq : Nat) (x31_7 : Bool), v31 = .bool x31_7 ∧ Aside0 (poacherlaw05_DrawTells.j0 kq l0 l2 a3 a4 a5 t165 x31_7 a1_0 a1_1 a1_2 = some r) ∧ Aside0 (kq ≤ k) ∧ Aside0 (wc.heap[gb164]? = some (.cells #[.int .i64 a1_0, .int .i64 a1_1, .int .u64 a1_2] 25 (0, 0))) ∧ Aside0 (Below w.heap.size w wc))
  case first =>
    have H := HC8.out
    clear HC8
    by_cases c11 : t165 = true
    · subst c11
      have H1 : (if (l0.length : Int) > 200 then (poacherlaw05_DrawTells.j0 k l0 l2 a3 a4 a5 true true a1_0 a1_1 a1_2) else (poacherlaw05_DrawTells.j0 k l0 l2 a3 a4 a5 true (decide ((l2.length : Int) > 60)) a1_0 a1_1 a1_2)) = some r := by rw [if_pos rfl] at H; exact H
      clear H
      have H := H1
      clear H1
      by_cases c12 : (l0.length : Int) > 200
      · rw [if_pos c12] at H
        have c12b0 : decide (200 < (l0.length : Int)) = true := decide_eq_true c12
        have c12b1 : decide (200 < l0.length) = true := decide_eq_true (by omega)
        clear c12
        (first | rw [c12b0] | (simp only [i64_w, i32_w]; rw [c12b0]) | skip)
        have H' := Aside0.mk H
        clear H
        go_wp2
        go_meet
        case rel => exact ⟨_, (true), (by first | rfl | (simp; done) | (simp [*]; done)), H', ⟨by first | omega | exact Nat.le_refl _⟩, ⟨by (with_reducible repeat (first | refine blk_drewN ?_ _ | refine blk_drew ?_ | refine blk_alloc ?_ _)); exact BK164.out⟩, ⟨by repeat (first | (with_reducible first | exact HB.out | apply below_alloc | apply pw_below_drewN | apply below_drew1 | refine below_set ?_ GE164.out) | exact HB.out)⟩⟩
      · rw [if_neg c12] at H
        have c12b0 : decide (200 < (l0.length : Int)) = false := decide_eq_false c12
        have c12b1 : decide (200 < l0.length) = false := decide_eq_false (by omega)
        clear c12
        (first | rw [c12b0] | (simp only [i64_w, i32_w]; rw [c12b0]) | skip)
        have H' := Aside0.mk H
        clear H
        go_wp2
        go_meet
        case rel => exact ⟨_, (decide ((l2.length : Int) > 60)), (by first | rfl | (simp; done) | (simp [*]; done)), H', ⟨by first | omega | exact Nat.le_refl _⟩, ⟨by (with_reducible repeat (first | refine blk_drewN ?_ _ | refine blk_drew ?_ | refine blk_alloc ?_ _)); exact BK164.out⟩, ⟨by repeat (first | (with_reducible first | exact HB.out | apply below_alloc | apply pw_below_drewN | apply below_drew1 | refine below_set ?_ GE164.out) | exact HB.out)⟩⟩
    · replace c11 := Bool.eq_false_iff.mpr c11
      subst c11
      have H1 : (poacherlaw05_DrawTells.j0 k l0 l2 a3 a4 a5 false true a1_0 a1_1 a1_2) = some r := by rw [if_neg (show ¬ (false = true) by decide)] at H; exact H
      clear H
      have H := H1
      clear H1
      have H' := Aside0.mk H
      clear H
      go_wp2
      go_meet
      case rel => exact ⟨_, (true), (by first | rfl | (simp; done) | (simp [*]; done)), H', ⟨by first | omega | exact Nat.le_refl _⟩, ⟨by (with_reducible repeat (first | refine blk_drewN ?_ _ | refine blk_drew ?_ | refine blk_alloc ?_ _)); exact BK164.out⟩, ⟨by repeat (first | (with_reducible first | exact HB.out | apply below_alloc | apply pw_below_drewN | apply below_drew1 | refine below_set ?_ GE164.out) | exact HB.out)⟩⟩
  case rest =>
    clear HC8
    try clear c1
    try clear c2
    try clear p2
    try clear c3
    try clear c10
    try clear c11
    try clear c12
    try clear c12b0
    try clear c12b1
    obtain ⟨kq, x31_7, rfl, HA, HJ7, BK164, HB⟩ := hcut
    cases kq with
    | zero => exact absurd HA.out (by simp [poacherlaw05_DrawTells.j0])
    | succ kj7 =>
      have H := HA.out
      clear HA
      simp only [poacherlaw05_DrawTells.j0] at H
      by_cases c13 : x31_7 = true
      · subst c13
        have H1 : (some t165) = some r := by rw [if_pos rfl] at H; exact H
        clear H
        have H := H1
        clear H1
        obtain rfl := Option.some.inj H
        clear hr_
        go_wp2
        go_ret
        exact ⟨by first | rfl | (simp [errW_none, errW_some] <;> rfl) | (simp [*, errW_none, errW_some] <;> rfl), by repeat (first | (with_reducible first | exact HB.out | apply below_alloc | apply pw_below_drewN | apply below_drew1 | refine below_set ?_ GE164.out) | exact HB.out)⟩
      · replace c13 := Bool.eq_false_iff.mpr c13
        subst c13
        have H1 : ((draw_Decode.f l0).bind fun t166 => ((poacherref05_Decode.f kj7 l0).bind fun t169 => ((poacherref05_Picks.f kj7 t166 t169).bind fun t172 => ((draw_Round.f kj7 a3 a4 a1_2).bind fun t173 => ((poacherref05_Round.f kj7 a3 a4 a1_2).bind fun t176 => ((poacherref05_Picks.f kj7 t173 t176).bind fun t179 => ((poacherref05_Fits.f a1_0 a1_1 a1_2 a3 a4).bind fun t180 => ((poacherref05_Fair.f kj7 l2 a3 a4 a5).bind fun t181 => (if a3 > 64 then (if t172 = true then (if t179 = true then ((draw_Fits.f a1_0 a1_1 a1_2 a3 a4).bind fun t182 => (if (t182 == t180) = true then ((draw_Fair.f l2 a3 a4 a5).bind fun t183 => (if (t183 == t181) = true then (some true) else (some false))) else (some false))) else (some false)) else (some false)) else ((draw_Victim.f a1_2 a1_1 a3).bind fun t184 => ((poacherref05_Victim.f kj7 a1_2 a1_1 a3).bind fun t185 => (if t172 = true then (if t179 = true then ((draw_Fits.f a1_0 a1_1 a1_2 a3 a4).bind fun t186 => (if (t186 == t180) = true then ((draw_Fair.f l2 a3 a4 a5).bind fun t187 => (if (t187 == t181) = true then (some (t184 == t185)) else (some false))) else (some false))) else (some false)) else (some false))))))))))))) = some r := by rw [if_neg (show ¬ (false = true) by decide)] at H; exact H
        clear H
        have H := H1
        clear H1
        replace H := Option.bind_eq_some_iff.mp H
        obtain ⟨t166, A140, H⟩ := H
        replace H : ((poacherref05_Decode.f kj7 l0).bind fun t169 => ((poacherref05_Picks.f kj7 t166 t169).bind fun t172 => ((draw_Round.f kj7 a3 a4 a1_2).bind fun t173 => ((poacherref05_Round.f kj7 a3 a4 a1_2).bind fun t176 => ((poacherref05_Picks.f kj7 t173 t176).bind fun t179 => ((poacherref05_Fits.f a1_0 a1_1 a1_2 a3 a4).bind fun t180 => ((poacherref05_Fair.f kj7 l2 a3 a4 a5).bind fun t181 => (if a3 > 64 then (if t172 = true then (if t179 = true then ((draw_Fits.f a1_0 a1_1 a1_2 a3 a4).bind fun t182 => (if (t182 == t180) = true then ((draw_Fair.f l2 a3 a4 a5).bind fun t183 => (if (t183 == t181) = true then (some true) else (some false))) else (some false))) else (some false)) else (some false)) else ((draw_Victim.f a1_2 a1_1 a3).bind fun t184 => ((poacherref05_Victim.f kj7 a1_2 a1_1 a3).bind fun t185 => (if t172 = true then (if t179 = true then ((draw_Fits.f a1_0 a1_1 a1_2 a3 a4).bind fun t186 => (if (t186 == t180) = true then ((draw_Fair.f l2 a3 a4 a5).bind fun t187 => (if (t187 == t181) = true then (some (t184 == t185)) else (some false))) else (some false))) else (some false)) else (some false)))))))))))) = some r := H
        have A14 := Aside0.mk A140
        clear A140
        replace H := Option.bind_eq_some_iff.mp H
        obtain ⟨t169, A150, H⟩ := H
        replace H : ((poacherref05_Picks.f kj7 t166 t169).bind fun t172 => ((draw_Round.f kj7 a3 a4 a1_2).bind fun t173 => ((poacherref05_Round.f kj7 a3 a4 a1_2).bind fun t176 => ((poacherref05_Picks.f kj7 t173 t176).bind fun t179 => ((poacherref05_Fits.f a1_0 a1_1 a1_2 a3 a4).bind fun t180 => ((poacherref05_Fair.f kj7 l2 a3 a4 a5).bind fun t181 => (if a3 > 64 then (if t172 = true then (if t179 = true then ((draw_Fits.f a1_0 a1_1 a1_2 a3 a4).bind fun t182 => (if (t182 == t180) = true then ((draw_Fair.f l2 a3 a4 a5).bind fun t183 => (if (t183 == t181) = true then (some true) else (some false))) else (some false))) else (some false)) else (some false)) else ((draw_Victim.f a1_2 a1_1 a3).bind fun t184 => ((poacherref05_Victim.f kj7 a1_2 a1_1 a3).bind fun t185 => (if t172 = true then (if t179 = true then ((draw_Fits.f a1_0 a1_1 a1_2 a3 a4).bind fun t186 => (if (t186 == t180) = true then ((draw_Fair.f l2 a3 a4 a5).bind fun t187 => (if (t187 == t181) = true then (some (t184 == t185)) else (some false))) else (some false))) else (some false)) else (some false))))))))))) = some r := H
        have A15 := Aside0.mk A150
        clear A150
        replace H := Option.bind_eq_some_iff.mp H
        obtain ⟨t172, A160, H⟩ := H
        replace H : ((draw_Round.f kj7 a3 a4 a1_2).bind fun t173 => ((poacherref05_Round.f kj7 a3 a4 a1_2).bind fun t176 => ((poacherref05_Picks.f kj7 t173 t176).bind fun t179 => ((poacherref05_Fits.f a1_0 a1_1 a1_2 a3 a4).bind fun t180 => ((poacherref05_Fair.f kj7 l2 a3 a4 a5).bind fun t181 => (if a3 > 64 then (if t172 = true then (if t179 = true then ((draw_Fits.f a1_0 a1_1 a1_2 a3 a4).bind fun t182 => (if (t182 == t180) = true then ((draw_Fair.f l2 a3 a4 a5).bind fun t183 => (if (t183 == t181) = true then (some true) else (some false))) else (some false))) else (some false)) else (some false)) else ((draw_Victim.f a1_2 a1_1 a3).bind fun t184 => ((poacherref05_Victim.f kj7 a1_2 a1_1 a3).bind fun t185 => (if t172 = true then (if t179 = true then ((draw_Fits.f a1_0 a1_1 a1_2 a3 a4).bind fun t186 => (if (t186 == t180) = true then ((draw_Fair.f l2 a3 a4 a5).bind fun t187 => (if (t187 == t181) = true then (some (t184 == t185)) else (some false))) else (some false))) else (some false)) else (some false)))))))))) = some r := H
        have A16 := Aside0.mk A160
        clear A160
        replace H := Option.bind_eq_some_iff.mp H
        obtain ⟨t173, A170, H⟩ := H
        replace H : ((poacherref05_Round.f kj7 a3 a4 a1_2).bind fun t176 => ((poacherref05_Picks.f kj7 t173 t176).bind fun t179 => ((poacherref05_Fits.f a1_0 a1_1 a1_2 a3 a4).bind fun t180 => ((poacherref05_Fair.f kj7 l2 a3 a4 a5).bind fun t181 => (if a3 > 64 then (if t172 = true then (if t179 = true then ((draw_Fits.f a1_0 a1_1 a1_2 a3 a4).bind fun t182 => (if (t182 == t180) = true then ((draw_Fair.f l2 a3 a4 a5).bind fun t183 => (if (t183 == t181) = true then (some true) else (some false))) else (some false))) else (some false)) else (some false)) else ((draw_Victim.f a1_2 a1_1 a3).bind fun t184 => ((poacherref05_Victim.f kj7 a1_2 a1_1 a3).bind fun t185 => (if t172 = true then (if t179 = true then ((draw_Fits.f a1_0 a1_1 a1_2 a3 a4).bind fun t186 => (if (t186 == t180) = true then ((draw_Fair.f l2 a3 a4 a5).bind fun t187 => (if (t187 == t181) = true then (some (t184 == t185)) else (some false))) else (some false))) else (some false)) else (some false))))))))) = some r := H
        have A17 := Aside0.mk A170
        clear A170
        replace H := Option.bind_eq_some_iff.mp H
        obtain ⟨t176, A180, H⟩ := H
        replace H : ((poacherref05_Picks.f kj7 t173 t176).bind fun t179 => ((poacherref05_Fits.f a1_0 a1_1 a1_2 a3 a4).bind fun t180 => ((poacherref05_Fair.f kj7 l2 a3 a4 a5).bind fun t181 => (if a3 > 64 then (if t172 = true then (if t179 = true then ((draw_Fits.f a1_0 a1_1 a1_2 a3 a4).bind fun t182 => (if (t182 == t180) = true then ((draw_Fair.f l2 a3 a4 a5).bind fun t183 => (if (t183 == t181) = true then (some true) else (some false))) else (some false))) else (some false)) else (some false)) else ((draw_Victim.f a1_2 a1_1 a3).bind fun t184 => ((poacherref05_Victim.f kj7 a1_2 a1_1 a3).bind fun t185 => (if t172 = true then (if t179 = true then ((draw_Fits.f a1_0 a1_1 a1_2 a3 a4).bind fun t186 => (if (t186 == t180) = true then ((draw_Fair.f l2 a3 a4 a5).bind fun t187 => (if (t187 == t181) = true then (some (t184 == t185)) else (some false))) else (some false))) else (some false)) else (some false)))))))) = some r := H
        have A18 := Aside0.mk A180
        clear A180
        replace H := Option.bind_eq_some_iff.mp H
        obtain ⟨t179, A190, H⟩ := H
        replace H : ((poacherref05_Fits.f a1_0 a1_1 a1_2 a3 a4).bind fun t180 => ((poacherref05_Fair.f kj7 l2 a3 a4 a5).bind fun t181 => (if a3 > 64 then (if t172 = true then (if t179 = true then ((draw_Fits.f a1_0 a1_1 a1_2 a3 a4).bind fun t182 => (if (t182 == t180) = true then ((draw_Fair.f l2 a3 a4 a5).bind fun t183 => (if (t183 == t181) = true then (some true) else (some false))) else (some false))) else (some false)) else (some false)) else ((draw_Victim.f a1_2 a1_1 a3).bind fun t184 => ((poacherref05_Victim.f kj7 a1_2 a1_1 a3).bind fun t185 => (if t172 = true then (if t179 = true then ((draw_Fits.f a1_0 a1_1 a1_2 a3 a4).bind fun t186 => (if (t186 == t180) = true then ((draw_Fair.f l2 a3 a4 a5).bind fun t187 => (if (t187 == t181) = true then (some (t184 == t185)) else (some false))) else (some false))) else (some false)) else (some false))))))) = some r := H
        have A19 := Aside0.mk A190
        clear A190
        replace H := Option.bind_eq_some_iff.mp H
        obtain ⟨t180, A200, H⟩ := H
        replace H : ((poacherref05_Fair.f kj7 l2 a3 a4 a5).bind fun t181 => (if a3 > 64 then (if t172 = true then (if t179 = true then ((draw_Fits.f a1_0 a1_1 a1_2 a3 a4).bind fun t182 => (if (t182 == t180) = true then ((draw_Fair.f l2 a3 a4 a5).bind fun t183 => (if (t183 == t181) = true then (some true) else (some false))) else (some false))) else (some false)) else (some false)) else ((draw_Victim.f a1_2 a1_1 a3).bind fun t184 => ((poacherref05_Victim.f kj7 a1_2 a1_1 a3).bind fun t185 => (if t172 = true then (if t179 = true then ((draw_Fits.f a1_0 a1_1 a1_2 a3 a4).bind fun t186 => (if (t186 == t180) = true then ((draw_Fair.f l2 a3 a4 a5).bind fun t187 => (if (t187 == t181) = true then (some (t184 == t185)) else (some false))) else (some false))) else (some false)) else (some false)))))) = some r := H
        have A20 := Aside0.mk A200
        clear A200
        replace H := Option.bind_eq_some_iff.mp H
        obtain ⟨t181, A210, H⟩ := H
        replace H : (if a3 > 64 then (if t172 = true then (if t179 = true then ((draw_Fits.f a1_0 a1_1 a1_2 a3 a4).bind fun t182 => (if (t182 == t180) = true then ((draw_Fair.f l2 a3 a4 a5).bind fun t183 => (if (t183 == t181) = true then (some true) else (some false))) else (some false))) else (some false)) else (some false)) else ((draw_Victim.f a1_2 a1_1 a3).bind fun t184 => ((poacherref05_Victim.f kj7 a1_2 a1_1 a3).bind fun t185 => (if t172 = true then (if t179 = true then ((draw_Fits.f a1_0 a1_1 a1_2 a3 a4).bind fun t186 => (if (t186 == t180) = true then ((draw_Fair.f l2 a3 a4 a5).bind fun t187 => (if (t187 == t181) = true then (some (t184 == t185)) else (some false))) else (some false))) else (some false)) else (some false))))) = some r := H
        have A21 := Aside0.mk A210
        clear A210
        by_cases c22 : a3 > 64
        · rw [if_pos c22] at H
          have c22b0 : decide (64 < a3) = true := decide_eq_true c22
          clear c22
          by_cases c23 : t172 = true
          · subst c23
            have H1 : (if t179 = true then ((draw_Fits.f a1_0 a1_1 a1_2 a3 a4).bind fun t182 => (if (t182 == t180) = true then ((draw_Fair.f l2 a3 a4 a5).bind fun t183 => (if (t183 == t181) = true then (some true) else (some false))) else (some false))) else (some false)) = some r := by rw [if_pos rfl] at H; exact H
            clear H
            have H := H1
            clear H1
            by_cases c24 : t179 = true
            · subst c24
              have H1 : ((draw_Fits.f a1_0 a1_1 a1_2 a3 a4).bind fun t182 => (if (t182 == t180) = true then ((draw_Fair.f l2 a3 a4 a5).bind fun t183 => (if (t183 == t181) = true then (some true) else (some false))) else (some false))) = some r := by rw [if_pos rfl] at H; exact H
              clear H
              have H := H1
              clear H1
              replace H := Option.bind_eq_some_iff.mp H
              obtain ⟨t182, A250, H⟩ := H
              replace H : (if (t182 == t180) = true then ((draw_Fair.f l2 a3 a4 a5).bind fun t183 => (if (t183 == t181) = true then (some true) else (some false))) else (some false)) = some r := H
              have A25 := Aside0.mk A250
              clear A250
              by_cases c26 : (t182 == t180) = true
              · rw [if_pos c26] at H
                have c26b0 : (t182 == t180) = true := c26
                (try (have c26b1 : decide (t182 = t180) = true := by simpa using c26))
                (try (have c26b2 : (t182 == t180) = true := by simpa using c26))
                clear c26
                replace H := Option.bind_eq_some_iff.mp H
                obtain ⟨t183, A270, H⟩ := H
                replace H : (if (t183 == t181) = true then (some true) else (some false)) = some r := H
                have A27 := Aside0.mk A270
                clear A270
                by_cases c28 : (t183 == t181) = true
                · rw [if_pos c28] at H
                  have c28b0 : (t183 == t181) = true := c28
                  (try (have c28b1 : decide (t183 = t181) = true := by simpa using c28))
                  (try (have c28b2 : (t183 == t181) = true := by simpa using c28))
                  clear c28
                  obtain rfl := Option.some.inj H
                  clear hr_
                  try go_wp2_with (first | ((with_reducible refine gate_callee (f := 12) rfl ?_); refine goesL_ (some 34) rfl rfl Try.func12 (by kernel_rfl) rfl #[.slice A0 l0.length c0] rfl (by (try simp only [List.map_toArray, List.map_cons, List.map_nil]); first | done | rfl | (simp only [List.length_drop, List.length_take]; rfl)) ?_; (with_reducible refine (draw_Decode.calls _ _ l0 t166 _ ?side1 ?side2 A14.out).mono ?_); (try clear A14); (case side1 => repeat (first | exact (Kd.C_below HR0.out HB.out) | (with_reducible refine Kd.C_alloc ?_ _) | (with_reducible refine Kd.C_drewN ?_ _) | (with_reducible refine Kd.C_drew ?_))); (case side2 => exact HC0.out); rintro e w29 ⟨v167, rfl, ho0, hb⟩; refine ⟨_, rfl, ?_⟩; have n0_ := Aside0.mk (Kd.R_lower (Kd.R_newB ho0 (g := gb164) (o := .cells #[.int .i64 a1_0, .int .i64 a1_1, .int .u64 a1_2] 25 (0, 0)) (by (with_reducible repeat (first | refine blk_drewN ?_ _ | refine blk_drew ?_ | refine blk_alloc ?_ _)); exact BK164.out)) (below_size (by repeat (first | (with_reducible first | exact HB.out | apply below_alloc | apply pw_below_drewN | apply below_drew1 | refine below_set ?_ GE164.out) | exact HB.out)))); have n1_ := Aside0.mk (blk_below (g := gb164) (o := .cells #[.int .i64 a1_0, .int .i64 a1_1, .int .u64 a1_2] 25 (0, 0)) (by (with_reducible repeat (first | refine blk_drewN ?_ _ | refine blk_drew ?_ | refine blk_alloc ?_ _)); exact BK164.out) hb); have n2_ := Aside0.mk (below_step (by repeat (first | (with_reducible first | exact HB.out | apply below_alloc | apply pw_below_drewN | apply below_drew1 | refine below_set ?_ GE164.out) | exact HB.out)) hb); clear BK164; clear HB; have HO168 := n0_; have BK164 := n1_; have HB := n2_; clear n0_ n1_ n2_; (try clear hb); (try clear hb2); (try clear hk); (try clear hi); (try clear ho0)) | ((with_reducible refine gate_callee (f := 13) rfl ?_); refine goesL_ (some 36) rfl rfl Try.func13 (by kernel_rfl) rfl #[.slice A0 l0.length c0] rfl (by (try simp only [List.map_toArray, List.map_cons, List.map_nil]); first | done | rfl | (simp only [List.length_drop, List.length_take]; rfl)) ?_; (with_reducible refine (poacherref05_Decode.calls kj7 _ _ l0 t169 _ ?side1 ?side2 A15.out).mono ?_); (try clear A15); (case side1 => repeat (first | exact (Kd.C_below HR0.out HB.out) | (with_reducible refine Kd.C_alloc ?_ _) | (with_reducible refine Kd.C_drewN ?_ _) | (with_reducible refine Kd.C_drew ?_))); (case side2 => exact HC0.out); rintro e w30 ⟨v170, rfl, ho0, hb⟩; refine ⟨_, rfl, ?_⟩; have n0_ := Aside0.mk (Kd.R_elder' (by (with_reducible repeat (first | apply Kd.R_alloc | apply Kd.R_drewN | apply Kd.R_drew)); exact HO168.out) (Kd.R_base ho0) hb); have n1_ := Aside0.mk (Kd.R_lower (Kd.R_newB (Kd.R_new' ho0 (Kd.R_lt (by (with_reducible repeat (first | apply Kd.R_alloc | apply Kd.R_drewN | apply Kd.R_drew)); exact HO168.out))) (g := gb164) (o := .cells #[.int .i64 a1_0, .int .i64 a1_1, .int .u64 a1_2] 25 (0, 0)) (by (with_reducible repeat (first | refine blk_drewN ?_ _ | refine blk_drew ?_ | refine blk_alloc ?_ _)); exact BK164.out)) (below_size (by repeat (first | (with_reducible first | exact HB.out | apply below_alloc | apply pw_below_drewN | apply below_drew1 | refine below_set ?_ GE164.out) | exact HB.out)))); have n2_ := Aside0.mk (blk_below (g := gb164) (o := .cells #[.int .i64 a1_0, .int .i64 a1_1, .int .u64 a1_2] 25 (0, 0)) (by (with_reducible repeat (first | refine blk_drewN ?_ _ | refine blk_drew ?_ | refine blk_alloc ?_ _)); exact BK164.out) hb); have n3_ := Aside0.mk (below_step (by repeat (first | (with_reducible first | exact HB.out | apply below_alloc | apply pw_below_drewN | apply below_drew1 | refine below_set ?_ GE164.out) | exact HB.out)) hb); clear HO168; clear BK164; clear HB; have HO168 := n0_; have HO171 := n1_; have BK164 := n2_; have HB := n3_; clear n0_ n1_ n2_ n3_; (try clear hb); (try clear hb2); (try clear hk); (try clear hi); (try clear ho0); obtain ⟨Ao31, co31, eo31⟩ := Kd.R_slice HO168.out; subst eo31; obtain ⟨Ao32, co32, eo32⟩ := Kd.R_slice HO171.out; subst eo32) | ((with_reducible refine gate_callee (f := 11) rfl ?_); refine goesL_ (some 37) rfl rfl Try.func11 (by kernel_rfl) rfl #[.slice Ao31 t166.length co31, .slice Ao32 t169.length co32] rfl (by (try simp only [List.map_toArray, List.map_cons, List.map_nil]); first | done | rfl | (simp only [List.length_drop, List.length_take]; rfl)) ?_; (with_reducible refine (poacherref05_Picks.calls kj7 _ _ t166 _ _ t169 true _ ?side1 ?side2 ?side3 ?side4 A16.out).mono ?_); (try clear A16); (case side1 => repeat (first | exact (Kd.R_reads' HO168.out).2.2 | (with_reducible refine Kd.C_alloc ?_ _) | (with_reducible refine Kd.C_drewN ?_ _) | (with_reducible refine Kd.C_drew ?_))); (case side2 => exact (Kd.R_reads' HO168.out).2.1); (case side3 => repeat (first | exact (Kd.R_reads' HO171.out).2.2 | (with_reducible refine Kd.C_alloc ?_ _) | (with_reducible refine Kd.C_drewN ?_ _) | (with_reducible refine Kd.C_drew ?_))); (case side4 => exact (Kd.R_reads' HO171.out).2.1); rintro e w' ⟨rfl, ⟨nd, rfl⟩⟩; refine ⟨_, rfl, ?_⟩))
                  (try (rw [drewN_self w30]; generalize hq_ : World.drewN w30 _ = w30; have n0_ : Aside0 (Kd.R k25 25 w30 w.heap.size (fun k_ => some k_ ≠ (.slice Ao32 t169.length co32 : Value).ownBlock ∧ k_ ≠ gb164) (.slice Ao31 t166.length co31) t166) := ⟨by rw [← hq_]; exact (by (with_reducible repeat (first | apply Kd.R_alloc | apply Kd.R_drewN | apply Kd.R_drew)); exact Kd.R_mono HO168.out (fun _ hk => (by refine ⟨?_, ?_⟩ <;> first | exact hk.2 | exact hk.1.2 | exact hk.1.1.2 | exact hk.1.1.1.2 | exact hk.1.1.1.1.2 | exact hk.1 | exact hk.1.1 | exact hk.1.1.1 | exact hk.1.1.1.1 | exact hk.1.1.1.1.1)))⟩; have n1_ : Aside0 (Kd.R k25 25 w30 w.heap.size (fun k_ => some k_ ≠ (.slice Ao31 t166.length co31 : Value).ownBlock ∧ k_ ≠ gb164) (.slice Ao32 t169.length co32) t169) := ⟨by rw [← hq_]; exact (by (with_reducible repeat (first | apply Kd.R_alloc | apply Kd.R_drewN | apply Kd.R_drew)); exact Kd.R_mono HO171.out (fun _ hk => (by refine ⟨?_, ?_⟩ <;> first | exact hk.2 | exact hk.1.2 | exact hk.1.1.2 | exact hk.1.1.1.2 | exact hk.1.1.1.1.2 | exact hk.1 | exact hk.1.1 | exact hk.1.1.1 | exact hk.1.1.1.1 | exact hk.1.1.1.1.1)))⟩; have n2_ : Aside0 (w30.heap[gb164]? = some (.cells #[.int .i64 a1_0, .int .i64 a1_1, .int .u64 a1_2] 25 (0, 0))) := ⟨by rw [← hq_]; exact (by (with_reducible repeat (first | refine blk_drewN ?_ _ | refine blk_drew ?_ | refine blk_alloc ?_ _)); exact BK164.out)⟩; have n3_ : Aside0 (Below w.heap.size w w30) := ⟨by rw [← hq_]; exact (by repeat (first | (with_reducible first | exact HB.out | apply below_alloc | apply pw_below_drewN | apply below_drew1 | refine below_set ?_ GE164.out) | exact HB.out))⟩; clear HO168 HO171 BK164 HB hq_; have HO168 := n0_; have HO171 := n1_; have BK164 := n2_; have HB := n3_; clear n0_ n1_ n2_ n3_))
                  have n0_ := Aside0.mk (Kd.R_drew HO168.out)
                  have n1_ := Aside0.mk (Kd.R_drew HO171.out)
                  have n2_ := Aside0.mk (blk_drew BK164.out)
                  have n3_ := Aside0.mk (below_drew1 HB.out)
                  clear HO168
                  clear HO171
                  clear BK164
                  clear HB
                  have HO168 := n0_
                  have HO171 := n1_
                  have BK164 := n2_
                  have HB := n3_
                  clear n0_ n1_ n2_ n3_
                  refine start_ (n := 12) (S := fun w' => w'.cell? ⟨gb164, 0, none⟩ = some (.int .i64 a1_0) ∧ w'.cell? ⟨gb164, 1, none⟩ = some (.int .i64 a1_1) ∧ w'.cell? ⟨gb164, 2, none⟩ = some (.int .u64 a1_2)) (ds := []) #[false, false, false, false, false, false, false, false, false, false, false, false] (by kernel_rfl) rfl rfl ⟨(blk_cell BK164.out 0).trans rfl, (blk_cell BK164.out 1).trans rfl, (blk_cell BK164.out 2).trans rfl⟩ (fun hHeld => ?_); refine with_tabW poacherlaw05_DrawTells.tab5 poacherlaw05_DrawTells.bits5 (fun HT_ HW_ => ?_)
                  generalize w30.drew = w33 at HO168 HO171 BK164 HB hHeld ⊢
                  refine pure_ (i := 0) (N := some 38) (v := ?_) (a' := ?_) #[true, false, false, false, false, false, false, false, false, false, false, false] rfl rfl (any_of HT_.out (by kernel_rfl)) (fun _ _ _ h => h) (Or.inl ⟨by rfl, ?_⟩) ?_ ?_
                  rotate_left
                  · intro w'
                    go_simp
                    with_reducible rfl
                  rotate_left
                  · simp only [Act.put, List.setIfInBounds_toArray, List.set_cons_zero, List.set_cons_succ, i64_w, i32_w]
                    rfl
                  refine pure_ (i := 1) (N := some 39) (v := ?_) (a' := ?_) #[true, true, false, false, false, false, false, false, false, false, false, false] rfl rfl (any_of HT_.out (by kernel_rfl)) (fun _ _ _ h => h) (Or.inl ⟨by rfl, ?_⟩) ?_ ?_
                  rotate_left
                  · intro w'
                    go_simp
                    with_reducible rfl
                  rotate_left
                  · simp only [Act.put, List.setIfInBounds_toArray, List.set_cons_zero, List.set_cons_succ, i64_w, i32_w]
                    rfl
                  refine pure_ (i := 2) (N := some 40) (v := ?_) (a' := ?_) #[true, true, true, false, false, false, false, false, false, false, false, false] rfl rfl (any_of HT_.out (by kernel_rfl)) (fun _ _ _ h => h) (Or.inl ⟨by rfl, ?_⟩) ?_ ?_
                  rotate_left
                  · intro w'
                    go_simp
                    with_reducible rfl
                  rotate_left
                  · simp only [Act.put, List.setIfInBounds_toArray, List.set_cons_zero, List.set_cons_succ, i64_w, i32_w]
                    rfl
                  refine pure_ (i := 5) (N := some 43) (v := ?_) (a' := ?_) #[true, true, true, false, false, true, false, false, false, false, false, false] rfl rfl (any_of HT_.out (by kernel_rfl)) (fun _ _ _ h => h) (Or.inl ⟨by rfl, ?_⟩) ?_ ?_
                  rotate_left
                  · intro w'
                    go_simp
                    with_reducible rfl
                  rotate_left
                  · simp only [Act.put, List.setIfInBounds_toArray, List.set_cons_zero, List.set_cons_succ, i64_w, i32_w]
                    rfl
                  refine pure_ (i := 6) (N := some 44) (v := ?_) (a' := ?_) #[true, true, true, false, false, true, true, false, false, false, false, false] rfl rfl (any_of HT_.out (by kernel_rfl)) (fun _ _ _ h => h) (Or.inl ⟨by rfl, ?_⟩) ?_ ?_
                  rotate_left
                  · intro w'
                    go_simp
                    with_reducible rfl
                  rotate_left
                  · simp only [Act.put, List.setIfInBounds_toArray, List.set_cons_zero, List.set_cons_succ, i64_w, i32_w]
                    rfl
                  refine pure_ (i := 7) (N := some 45) (v := ?_) (a' := ?_) #[true, true, true, false, false, true, true, true, false, false, false, false] rfl rfl (any_of HT_.out (by kernel_rfl)) (fun _ _ _ h => h) (Or.inl ⟨by rfl, ?_⟩) ?_ ?_
                  rotate_left
                  · intro w'
                    go_simp
                    with_reducible rfl
                  rotate_left
                  · simp only [Act.put, List.setIfInBounds_toArray, List.set_cons_zero, List.set_cons_succ, i64_w, i32_w]
                    rfl
                  refine take_ (i := 3) (N := some 41) (v := ?_) (a' := ?_) #[true, true, true, true, false, true, true, true, false, false, false, false] rfl rfl (take_ofW HT_.out HW_.out (by kernel_rfl)) (fun _ _ _ h => h) (Or.inl ⟨by rfl, ?_⟩) hHeld ?_ ?_
                  rotate_left
                  · rintro w' ⟨s0, s1, s2⟩
                    go_simp
                    with_reducible rfl
                  rotate_left
                  · simp only [Act.put, List.setIfInBounds_toArray, List.set_cons_zero, List.set_cons_succ, i64_w, i32_w]
                    rfl
                  refine take_ (i := 8) (N := some 46) (v := ?_) (a' := ?_) #[true, true, true, true, false, true, true, true, true, false, false, false] rfl rfl (take_ofW HT_.out HW_.out (by kernel_rfl)) (fun _ _ _ h => h) (Or.inl ⟨by rfl, ?_⟩) hHeld ?_ ?_
                  rotate_left
                  · rintro w' ⟨s0, s1, s2⟩
                    go_simp
                    with_reducible rfl
                  rotate_left
                  · simp only [Act.put, List.setIfInBounds_toArray, List.set_cons_zero, List.set_cons_succ, i64_w, i32_w]
                    rfl
                  refine one_ (i := 4) (N := some 42) #[true, true, true, true, true, true, true, true, true, false, false, false] rfl rfl (one_of HT_.out (by kernel_rfl)) (by decide) (fun K hK => ?_)
                  refine goes_ Try.func14 (by kernel_rfl) rfl #[.int .i64 a3, .int .i64 a4, .int .u64 a1_2] (by rfl) rfl rfl (by (try simp only [List.map_toArray, List.map_cons, List.map_nil]); first | done | rfl | (simp only [List.length_drop, List.length_take]; rfl)) ?_
                  with_reducible refine (draw_Round.calls kj7 a3 a4 a1_2 t173 _ A17.out).mono ?_
                  rintro e w34 ⟨v174, rfl, ho0, hb⟩
                  refine ⟨_, rfl, ?_⟩
                  have n0_ := Aside0.mk (Kd.R_elder' (by (with_reducible repeat (first | apply Kd.R_alloc | apply Kd.R_drewN | apply Kd.R_drew)); exact HO168.out) (Kd.R_base ho0) hb)
                  have n1_ := Aside0.mk (Kd.R_elder' (by (with_reducible repeat (first | apply Kd.R_alloc | apply Kd.R_drewN | apply Kd.R_drew)); exact HO171.out) (Kd.R_base ho0) hb)
                  have n2_ := Aside0.mk (Kd.R_lower (Kd.R_newB (Kd.R_new' (Kd.R_new' ho0 (Kd.R_lt (by (with_reducible repeat (first | apply Kd.R_alloc | apply Kd.R_drewN | apply Kd.R_drew)); exact HO168.out))) (Kd.R_lt (by (with_reducible repeat (first | apply Kd.R_alloc | apply Kd.R_drewN | apply Kd.R_drew)); exact HO171.out))) (g := gb164) (o := .cells #[.int .i64 a1_0, .int .i64 a1_1, .int .u64 a1_2] 25 (0, 0)) (by (with_reducible repeat (first | refine blk_drewN ?_ _ | refine blk_drew ?_ | refine blk_alloc ?_ _)); exact BK164.out)) (below_size (by repeat (first | (with_reducible first | exact HB.out | apply below_alloc | apply pw_below_drewN | apply below_drew1 | refine below_set ?_ GE164.out) | exact HB.out))))
                  have n3_ := Aside0.mk (blk_below (g := gb164) (o := .cells #[.int .i64 a1_0, .int .i64 a1_1, .int .u64 a1_2] 25 (0, 0)) (by (with_reducible repeat (first | refine blk_drewN ?_ _ | refine blk_drew ?_ | refine blk_alloc ?_ _)); exact BK164.out) hb)
                  have n4_ := Aside0.mk (below_step (by repeat (first | (with_reducible first | exact HB.out | apply below_alloc | apply pw_below_drewN | apply below_drew1 | refine below_set ?_ GE164.out) | exact HB.out)) hb)
                  clear HO168
                  clear HO171
                  clear BK164
                  clear HB
                  have HO168 := n0_
                  have HO171 := n1_
                  have HO175 := n2_
                  have BK164 := n3_
                  have HB := n4_
                  clear n0_ n1_ n2_ n3_ n4_
                  (try clear hb)
                  (try clear hb2)
                  (try clear hk)
                  (try clear hi)
                  (try clear ho0)
                  refine hK.out _ _ ⟨(blk_cell BK164.out 0).trans rfl, (blk_cell BK164.out 1).trans rfl, (blk_cell BK164.out 2).trans rfl⟩ (fun hHeld => ?_)
                  clear hK K
                  refine norm_ (a' := ?_) ?_ ?_
                  rotate_left
                  · show Act.put _ (some 42) _ = _
                    simp only [Act.put, List.setIfInBounds_toArray, List.set_cons_zero, List.set_cons_succ, i64_w, i32_w]
                    rfl
                  refine one_ (i := 9) (N := some 47) #[true, true, true, true, true, true, true, true, true, true, false, false] rfl rfl (one_of HT_.out (by kernel_rfl)) (by decide) (fun K hK => ?_)
                  refine goes_ Try.func15 (by kernel_rfl) rfl #[.int .i64 a3, .int .i64 a4, .int .u64 a1_2] (by rfl) rfl rfl (by (try simp only [List.map_toArray, List.map_cons, List.map_nil]); first | done | rfl | (simp only [List.length_drop, List.length_take]; rfl)) ?_
                  with_reducible refine (poacherref05_Round.calls kj7 a3 a4 a1_2 t176 _ A18.out).mono ?_
                  rintro e w35 ⟨v177, rfl, ho0, hb⟩
                  refine ⟨_, rfl, ?_⟩
                  have n0_ := Aside0.mk (Kd.R_elder' (by (with_reducible repeat (first | apply Kd.R_alloc | apply Kd.R_drewN | apply Kd.R_drew)); exact HO168.out) (Kd.R_base ho0) hb)
                  have n1_ := Aside0.mk (Kd.R_elder' (by (with_reducible repeat (first | apply Kd.R_alloc | apply Kd.R_drewN | apply Kd.R_drew)); exact HO171.out) (Kd.R_base ho0) hb)
                  have n2_ := Aside0.mk (Kd.R_elder' (by (with_reducible repeat (first | apply Kd.R_alloc | apply Kd.R_drewN | apply Kd.R_drew)); exact HO175.out) (Kd.R_base ho0) hb)
                  have n3_ := Aside0.mk (Kd.R_lower (Kd.R_newB (Kd.R_new' (Kd.R_new' (Kd.R_new' ho0 (Kd.R_lt (by (with_reducible repeat (first | apply Kd.R_alloc | apply Kd.R_drewN | apply Kd.R_drew)); exact HO168.out))) (Kd.R_lt (by (with_reducible repeat (first | apply Kd.R_alloc | apply Kd.R_drewN | apply Kd.R_drew)); exact HO171.out))) (Kd.R_lt (by (with_reducible repeat (first | apply Kd.R_alloc | apply Kd.R_drewN | apply Kd.R_drew)); exact HO175.out))) (g := gb164) (o := .cells #[.int .i64 a1_0, .int .i64 a1_1, .int .u64 a1_2] 25 (0, 0)) (by (with_reducible repeat (first | refine blk_drewN ?_ _ | refine blk_drew ?_ | refine blk_alloc ?_ _)); exact BK164.out)) (below_size (by repeat (first | (with_reducible first | exact HB.out | apply below_alloc | apply pw_below_drewN | apply below_drew1 | refine below_set ?_ GE164.out) | exact HB.out))))
                  have n4_ := Aside0.mk (blk_below (g := gb164) (o := .cells #[.int .i64 a1_0, .int .i64 a1_1, .int .u64 a1_2] 25 (0, 0)) (by (with_reducible repeat (first | refine blk_drewN ?_ _ | refine blk_drew ?_ | refine blk_alloc ?_ _)); exact BK164.out) hb)
                  have n5_ := Aside0.mk (below_step (by repeat (first | (with_reducible first | exact HB.out | apply below_alloc | apply pw_below_drewN | apply below_drew1 | refine below_set ?_ GE164.out) | exact HB.out)) hb)
                  clear HO168
                  clear HO171
                  clear HO175
                  clear BK164
                  clear HB
                  have HO168 := n0_
                  have HO171 := n1_
                  have HO175 := n2_
                  have HO178 := n3_
                  have BK164 := n4_
                  have HB := n5_
                  clear n0_ n1_ n2_ n3_ n4_ n5_
                  (try clear hb)
                  (try clear hb2)
                  (try clear hk)
                  (try clear hi)
                  (try clear ho0)
                  obtain ⟨Ao36, co36, eo36⟩ := Kd.R_slice HO175.out
                  (first | subst eo36 | (injection eo36 with f1_ f2_ f3_; have f4_ := f1_.symm; have f5_ := f3_.symm; clear f1_ f2_ f3_; subst f4_; subst f5_))
                  obtain ⟨Ao37, co37, eo37⟩ := Kd.R_slice HO178.out
                  (first | subst eo37 | (injection eo37 with f1_ f2_ f3_; have f4_ := f1_.symm; have f5_ := f3_.symm; clear f1_ f2_ f3_; subst f4_; subst f5_))
                  refine hK.out _ _ ⟨(blk_cell BK164.out 0).trans rfl, (blk_cell BK164.out 1).trans rfl, (blk_cell BK164.out 2).trans rfl⟩ (fun hHeld => ?_)
                  clear hK K
                  refine norm_ (a' := ?_) ?_ ?_
                  rotate_left
                  · show Act.put _ (some 47) _ = _
                    simp only [Act.put, List.setIfInBounds_toArray, List.set_cons_zero, List.set_cons_succ, i64_w, i32_w]
                    rfl
                  refine one_ (i := 10) (N := some 48) #[true, true, true, true, true, true, true, true, true, true, true, false] rfl rfl (one_of HT_.out (by kernel_rfl)) (by decide) (fun K hK => ?_)
                  refine goes_ Try.func11 (by kernel_rfl) rfl #[.slice Ao36 t173.length co36, .slice Ao37 t176.length co37] (by rfl) rfl rfl (by (try simp only [List.map_toArray, List.map_cons, List.map_nil]); first | done | rfl | (simp only [List.length_drop, List.length_take]; rfl)) ?_
                  with_reducible refine (poacherref05_Picks.calls kj7 _ _ t173 _ _ t176 true _ ?side1 ?side2 ?side3 ?side4 A19.out).mono ?_
                  (case side1 => repeat (first | exact (Kd.R_reads' HO175.out).2.2 | (with_reducible refine Kd.C_alloc ?_ _) | (with_reducible refine Kd.C_drewN ?_ _) | (with_reducible refine Kd.C_drew ?_)))
                  (case side2 => exact (Kd.R_reads' HO175.out).2.1)
                  (case side3 => repeat (first | exact (Kd.R_reads' HO178.out).2.2 | (with_reducible refine Kd.C_alloc ?_ _) | (with_reducible refine Kd.C_drewN ?_ _) | (with_reducible refine Kd.C_drew ?_)))
                  (case side4 => exact (Kd.R_reads' HO178.out).2.1)
                  rintro e w' ⟨rfl, ⟨nd, rfl⟩⟩
                  refine ⟨_, rfl, ?_⟩
                  refine hK.out _ _ ⟨(blk_cell BK164.out 0).trans rfl, (blk_cell BK164.out 1).trans rfl, (blk_cell BK164.out 2).trans rfl⟩ (fun hHeld => ?_)
                  clear hK K
                  refine norm_ (a' := ?_) ?_ ?_
                  rotate_left
                  · show Act.put _ (some 48) _ = _
                    simp only [Act.put, List.setIfInBounds_toArray, List.set_cons_zero, List.set_cons_succ, i64_w, i32_w]
                    rfl
                  refine pure_ (i := 11) (N := some 15) (v := ?_) (a' := ?_) #[true, true, true, true, true, true, true, true, true, true, true, true] rfl rfl (any_of HT_.out (by kernel_rfl)) (fun _ _ _ h => h) (Or.inl ⟨by rfl, ?_⟩) ?_ ?_
                  rotate_left
                  · intro w'
                    go_simp
                    with_reducible rfl
                  rotate_left
                  · simp only [Act.put, List.setIfInBounds_toArray, List.set_cons_zero, List.set_cons_succ, i64_w, i32_w]
                    rfl
                  refine done_ (done_of HT_.out (by kernel_rfl)) ?_
                  have hcz38_0 : w35.cell? ⟨gb164, 0, none⟩ = some (.int .i64 a1_0) := (blk_cell BK164.out 0).trans rfl
                  have hcz38_1 : w35.cell? ⟨gb164, 1, none⟩ = some (.int .i64 a1_1) := (blk_cell BK164.out 1).trans rfl
                  have hcz38_2 : w35.cell? ⟨gb164, 2, none⟩ = some (.int .u64 a1_2) := (blk_cell BK164.out 2).trans rfl
                  have hfz38_0 := blk_frozen BK164.out 0
                  have hfz38_1 := blk_frozen BK164.out 1
                  have hfz38_2 := blk_frozen BK164.out 2
                  try go_wp2_with (first | ((with_reducible refine gate_callee (f := 16) rfl ?_); refine goesL_ (some 52) rfl rfl Try.func16 (by kernel_rfl) rfl #[.agg #[.int .i64 a1_0, .int .i64 a1_1, .int .u64 a1_2], .int .i64 a3, .int .i64 a4] rfl (by (try simp only [List.map_toArray, List.map_cons, List.map_nil]); first | done | rfl | (simp only [List.length_drop, List.length_take]; rfl)) ?_; (with_reducible refine (poacherref05_Fits.calls a1_0 a1_1 a1_2 a3 a4 t180 _ A20.out).mono ?_); (try clear A20); rintro e w39 ⟨rfl, hb⟩; refine ⟨_, rfl, ?_⟩; have n0_ := Aside0.mk (Kd.R_below (by (with_reducible repeat (first | apply Kd.R_alloc | apply Kd.R_drewN | apply Kd.R_drew)); exact HO168.out) hb); have n1_ := Aside0.mk (Kd.R_below (by (with_reducible repeat (first | apply Kd.R_alloc | apply Kd.R_drewN | apply Kd.R_drew)); exact HO171.out) hb); have n2_ := Aside0.mk (Kd.R_below (by (with_reducible repeat (first | apply Kd.R_alloc | apply Kd.R_drewN | apply Kd.R_drew)); exact HO175.out) hb); have n3_ := Aside0.mk (Kd.R_below (by (with_reducible repeat (first | apply Kd.R_alloc | apply Kd.R_drewN | apply Kd.R_drew)); exact HO178.out) hb); have n4_ := Aside0.mk (blk_below (g := gb164) (o := .cells #[.int .i64 a1_0, .int .i64 a1_1, .int .u64 a1_2] 25 (0, 0)) (by (with_reducible repeat (first | refine blk_drewN ?_ _ | refine blk_drew ?_ | refine blk_alloc ?_ _)); exact BK164.out) hb); have n5_ := Aside0.mk (below_step (by repeat (first | (with_reducible first | exact HB.out | apply below_alloc | apply pw_below_drewN | apply below_drew1 | refine below_set ?_ GE164.out) | exact HB.out)) hb); clear HO168; clear HO171; clear HO175; clear HO178; clear BK164; clear HB; have HO168 := n0_; have HO171 := n1_; have HO175 := n2_; have HO178 := n3_; have BK164 := n4_; have HB := n5_; clear n0_ n1_ n2_ n3_ n4_ n5_; (try clear hb); (try clear hb2); (try clear hk); (try clear hi)) | ((with_reducible refine gate_callee (f := 17) rfl ?_); refine goesL_ (some 57) rfl rfl Try.func17 (by kernel_rfl) rfl #[.slice A2 l2.length c2, .int .i64 a3, .int .i64 a4, .int .i64 a5] rfl (by (try simp only [List.map_toArray, List.map_cons, List.map_nil]); first | done | rfl | (simp only [List.length_drop, List.length_take]; rfl)) ?_; (with_reducible refine (poacherref05_Fair.calls kj7 _ _ l2 a3 a4 a5 t181 _ ?side1 ?side2 A21.out).mono ?_); (try clear A21); (case side1 => repeat (first | exact (Kd.C_below HR2.out HB.out) | (with_reducible refine Kd.C_alloc ?_ _) | (with_reducible refine Kd.C_drewN ?_ _) | (with_reducible refine Kd.C_drew ?_))); (case side2 => exact HC2.out); rintro e w' ⟨rfl, ⟨nd, rfl⟩⟩; refine ⟨_, rfl, ?_⟩))
                  (try (rw [drewN_self w39]; generalize hq_ : World.drewN w39 _ = w39; have n0_ : Aside0 (Kd.R k25 25 w39 w.heap.size (fun k_ => some k_ ≠ (.slice Ao32 t169.length co32 : Value).ownBlock ∧ some k_ ≠ (.slice Ao36 t173.length co36 : Value).ownBlock ∧ some k_ ≠ (.slice Ao37 t176.length co37 : Value).ownBlock ∧ k_ ≠ gb164) (.slice Ao31 t166.length co31) t166) := ⟨by rw [← hq_]; exact (by (with_reducible repeat (first | apply Kd.R_alloc | apply Kd.R_drewN | apply Kd.R_drew)); exact Kd.R_mono HO168.out (fun _ hk => (by refine ⟨?_, ?_, ?_, ?_⟩ <;> first | exact hk.2 | exact hk.1.2 | exact hk.1.1.2 | exact hk.1.1.1.2 | exact hk.1.1.1.1.2 | exact hk.1 | exact hk.1.1 | exact hk.1.1.1 | exact hk.1.1.1.1 | exact hk.1.1.1.1.1)))⟩; have n1_ : Aside0 (Kd.R k25 25 w39 w.heap.size (fun k_ => some k_ ≠ (.slice Ao31 t166.length co31 : Value).ownBlock ∧ some k_ ≠ (.slice Ao36 t173.length co36 : Value).ownBlock ∧ some k_ ≠ (.slice Ao37 t176.length co37 : Value).ownBlock ∧ k_ ≠ gb164) (.slice Ao32 t169.length co32) t169) := ⟨by rw [← hq_]; exact (by (with_reducible repeat (first | apply Kd.R_alloc | apply Kd.R_drewN | apply Kd.R_drew)); exact Kd.R_mono HO171.out (fun _ hk => (by refine ⟨?_, ?_, ?_, ?_⟩ <;> first | exact hk.2 | exact hk.1.2 | exact hk.1.1.2 | exact hk.1.1.1.2 | exact hk.1.1.1.1.2 | exact hk.1 | exact hk.1.1 | exact hk.1.1.1 | exact hk.1.1.1.1 | exact hk.1.1.1.1.1)))⟩; have n2_ : Aside0 (Kd.R k25 25 w39 w.heap.size (fun k_ => some k_ ≠ (.slice Ao31 t166.length co31 : Value).ownBlock ∧ some k_ ≠ (.slice Ao32 t169.length co32 : Value).ownBlock ∧ some k_ ≠ (.slice Ao37 t176.length co37 : Value).ownBlock ∧ k_ ≠ gb164) (.slice Ao36 t173.length co36) t173) := ⟨by rw [← hq_]; exact (by (with_reducible repeat (first | apply Kd.R_alloc | apply Kd.R_drewN | apply Kd.R_drew)); exact Kd.R_mono HO175.out (fun _ hk => (by refine ⟨?_, ?_, ?_, ?_⟩ <;> first | exact hk.2 | exact hk.1.2 | exact hk.1.1.2 | exact hk.1.1.1.2 | exact hk.1.1.1.1.2 | exact hk.1 | exact hk.1.1 | exact hk.1.1.1 | exact hk.1.1.1.1 | exact hk.1.1.1.1.1)))⟩; have n3_ : Aside0 (Kd.R k25 25 w39 w.heap.size (fun k_ => some k_ ≠ (.slice Ao31 t166.length co31 : Value).ownBlock ∧ some k_ ≠ (.slice Ao32 t169.length co32 : Value).ownBlock ∧ some k_ ≠ (.slice Ao36 t173.length co36 : Value).ownBlock ∧ k_ ≠ gb164) (.slice Ao37 t176.length co37) t176) := ⟨by rw [← hq_]; exact (by (with_reducible repeat (first | apply Kd.R_alloc | apply Kd.R_drewN | apply Kd.R_drew)); exact Kd.R_mono HO178.out (fun _ hk => (by refine ⟨?_, ?_, ?_, ?_⟩ <;> first | exact hk.2 | exact hk.1.2 | exact hk.1.1.2 | exact hk.1.1.1.2 | exact hk.1.1.1.1.2 | exact hk.1 | exact hk.1.1 | exact hk.1.1.1 | exact hk.1.1.1.1 | exact hk.1.1.1.1.1)))⟩; have n4_ : Aside0 (w39.heap[gb164]? = some (.cells #[.int .i64 a1_0, .int .i64 a1_1, .int .u64 a1_2] 25 (0, 0))) := ⟨by rw [← hq_]; exact (by (with_reducible repeat (first | refine blk_drewN ?_ _ | refine blk_drew ?_ | refine blk_alloc ?_ _)); exact BK164.out)⟩; have n5_ : Aside0 (Below w.heap.size w w39) := ⟨by rw [← hq_]; exact (by repeat (first | (with_reducible first | exact HB.out | apply below_alloc | apply pw_below_drewN | apply below_drew1 | refine below_set ?_ GE164.out) | exact HB.out))⟩; clear HO168 HO171 HO175 HO178 BK164 HB hq_; have HO168 := n0_; have HO171 := n1_; have HO175 := n2_; have HO178 := n3_; have BK164 := n4_; have HB := n5_; clear n0_ n1_ n2_ n3_ n4_ n5_))
                  have n0_ := Aside0.mk (Kd.R_drew HO168.out)
                  have n1_ := Aside0.mk (Kd.R_drew HO171.out)
                  have n2_ := Aside0.mk (Kd.R_drew HO175.out)
                  have n3_ := Aside0.mk (Kd.R_drew HO178.out)
                  have n4_ := Aside0.mk (blk_drew BK164.out)
                  have n5_ := Aside0.mk (below_drew1 HB.out)
                  clear HO168
                  clear HO171
                  clear HO175
                  clear HO178
                  clear BK164
                  clear HB
                  have HO168 := n0_
                  have HO171 := n1_
                  have HO175 := n2_
                  have HO178 := n3_
                  have BK164 := n4_
                  have HB := n5_
                  clear n0_ n1_ n2_ n3_ n4_ n5_
                  refine start_ (n := 18) (S := fun w' => True) (ds := []) #[false, false, false, false, false, false, false, false, false, false, false, false, false, false, false, false, false, false] (by kernel_rfl) rfl rfl trivial (fun hHeld => ?_); refine with_tabW poacherlaw05_DrawTells.tab8 poacherlaw05_DrawTells.bits8 (fun HT_ HW_ => ?_)
                  generalize w39.drew = w40 at HO168 HO171 HO175 HO178 BK164 HB hHeld ⊢
                  refine pure_ (i := 0) (N := some 58) (v := ?_) (a' := ?_) #[true, false, false, false, false, false, false, false, false, false, false, false, false, false, false, false, false, false] rfl rfl (any_of HT_.out (by kernel_rfl)) (fun _ _ _ h => h) (Or.inl ⟨by rfl, ?_⟩) ?_ ?_
                  rotate_left
                  · intro w'
                    go_simp
                    with_reducible rfl
                  rotate_left
                  · simp only [Act.put, List.setIfInBounds_toArray, List.set_cons_zero, List.set_cons_succ, i64_w, i32_w]
                    rfl
                  refine pure_ (i := 1) (N := some 59) (v := ?_) (a' := ?_) #[true, true, false, false, false, false, false, false, false, false, false, false, false, false, false, false, false, false] rfl rfl (any_of HT_.out (by kernel_rfl)) (fun _ _ _ h => h) (Or.inl ⟨by rfl, ?_⟩) ?_ ?_
                  rotate_left
                  · intro w'
                    go_simp
                    with_reducible rfl
                  rotate_left
                  · simp only [Act.put, List.setIfInBounds_toArray, List.set_cons_zero, List.set_cons_succ, i64_w, i32_w]
                    rfl
                  refine pure_ (i := 2) (N := some 60) (v := ?_) (a' := ?_) #[true, true, true, false, false, false, false, false, false, false, false, false, false, false, false, false, false, false] rfl rfl (any_of HT_.out (by kernel_rfl)) (fun _ _ _ h => h) (Or.inl ⟨by rfl, ?_⟩) ?_ ?_
                  rotate_left
                  · intro w'
                    go_simp
                    with_reducible rfl
                  rotate_left
                  · simp only [Act.put, List.setIfInBounds_toArray, List.set_cons_zero, List.set_cons_succ, i64_w, i32_w]
                    rfl
                  refine pure_ (i := 3) (N := some 61) (v := undef) (a' := ?_) #[true, true, true, true, false, false, false, false, false, false, false, false, false, false, false, false, false, false] rfl rfl (any_of HT_.out (by kernel_rfl)) (fun _ _ _ h => h) (Or.inr ⟨by rfl, rfl⟩) ?_ ?_
                  rotate_left
                  · simp only [Act.put, List.setIfInBounds_toArray, List.set_cons_zero, List.set_cons_succ, i64_w, i32_w]
                    rfl
                  refine pure_ (i := 4) (N := some 62) (v := undef) (a' := ?_) #[true, true, true, true, true, false, false, false, false, false, false, false, false, false, false, false, false, false] rfl rfl (any_of HT_.out (by kernel_rfl)) (fun _ _ _ h => h) (Or.inr ⟨by rfl, rfl⟩) ?_ ?_
                  rotate_left
                  · simp only [Act.put, List.setIfInBounds_toArray, List.set_cons_zero, List.set_cons_succ, i64_w, i32_w]
                    rfl
                  refine pure_ (i := 5) (N := some 63) (v := undef) (a' := ?_) #[true, true, true, true, true, true, false, false, false, false, false, false, false, false, false, false, false, false] rfl rfl (any_of HT_.out (by kernel_rfl)) (fun _ _ _ h => h) (Or.inr ⟨by rfl, rfl⟩) ?_ ?_
                  rotate_left
                  · simp only [Act.put, List.setIfInBounds_toArray, List.set_cons_zero, List.set_cons_succ, i64_w, i32_w]
                    rfl
                  refine pure_ (i := 6) (N := some 64) (v := undef) (a' := ?_) #[true, true, true, true, true, true, true, false, false, false, false, false, false, false, false, false, false, false] rfl rfl (any_of HT_.out (by kernel_rfl)) (fun _ _ _ h => h) (Or.inr ⟨by rfl, rfl⟩) ?_ ?_
                  rotate_left
                  · simp only [Act.put, List.setIfInBounds_toArray, List.set_cons_zero, List.set_cons_succ, i64_w, i32_w]
                    rfl
                  refine pure_ (i := 7) (N := some 65) (v := undef) (a' := ?_) #[true, true, true, true, true, true, true, true, false, false, false, false, false, false, false, false, false, false] rfl rfl (any_of HT_.out (by kernel_rfl)) (fun _ _ _ h => h) (Or.inr ⟨by rfl, rfl⟩) ?_ ?_
                  rotate_left
                  · simp only [Act.put, List.setIfInBounds_toArray, List.set_cons_zero, List.set_cons_succ, i64_w, i32_w]
                    rfl
                  refine pure_ (i := 8) (N := some 66) (v := undef) (a' := ?_) #[true, true, true, true, true, true, true, true, true, false, false, false, false, false, false, false, false, false] rfl rfl (any_of HT_.out (by kernel_rfl)) (fun _ _ _ h => h) (Or.inr ⟨by rfl, rfl⟩) ?_ ?_
                  rotate_left
                  · simp only [Act.put, List.setIfInBounds_toArray, List.set_cons_zero, List.set_cons_succ, i64_w, i32_w]
                    rfl
                  refine pure_ (i := 9) (N := some 67) (v := undef) (a' := ?_) #[true, true, true, true, true, true, true, true, true, true, false, false, false, false, false, false, false, false] rfl rfl (any_of HT_.out (by kernel_rfl)) (fun _ _ _ h => h) (Or.inr ⟨by rfl, rfl⟩) ?_ ?_
                  rotate_left
                  · simp only [Act.put, List.setIfInBounds_toArray, List.set_cons_zero, List.set_cons_succ, i64_w, i32_w]
                    rfl
                  refine pure_ (i := 10) (N := some 68) (v := undef) (a' := ?_) #[true, true, true, true, true, true, true, true, true, true, true, false, false, false, false, false, false, false] rfl rfl (any_of HT_.out (by kernel_rfl)) (fun _ _ _ h => h) (Or.inr ⟨by rfl, rfl⟩) ?_ ?_
                  rotate_left
                  · simp only [Act.put, List.setIfInBounds_toArray, List.set_cons_zero, List.set_cons_succ, i64_w, i32_w]
                    rfl
                  refine pure_ (i := 11) (N := some 69) (v := undef) (a' := ?_) #[true, true, true, true, true, true, true, true, true, true, true, true, false, false, false, false, false, false] rfl rfl (any_of HT_.out (by kernel_rfl)) (fun _ _ _ h => h) (Or.inr ⟨by rfl, rfl⟩) ?_ ?_
                  rotate_left
                  · simp only [Act.put, List.setIfInBounds_toArray, List.set_cons_zero, List.set_cons_succ, i64_w, i32_w]
                    rfl
                  refine pure_ (i := 12) (N := some 70) (v := undef) (a' := ?_) #[true, true, true, true, true, true, true, true, true, true, true, true, true, false, false, false, false, false] rfl rfl (any_of HT_.out (by kernel_rfl)) (fun _ _ _ h => h) (Or.inr ⟨by rfl, rfl⟩) ?_ ?_
                  rotate_left
                  · simp only [Act.put, List.setIfInBounds_toArray, List.set_cons_zero, List.set_cons_succ, i64_w, i32_w]
                    rfl
                  refine pure_ (i := 13) (N := some 71) (v := undef) (a' := ?_) #[true, true, true, true, true, true, true, true, true, true, true, true, true, true, false, false, false, false] rfl rfl (any_of HT_.out (by kernel_rfl)) (fun _ _ _ h => h) (Or.inr ⟨by rfl, rfl⟩) ?_ ?_
                  rotate_left
                  · simp only [Act.put, List.setIfInBounds_toArray, List.set_cons_zero, List.set_cons_succ, i64_w, i32_w]
                    rfl
                  refine pure_ (i := 14) (N := some 72) (v := undef) (a' := ?_) #[true, true, true, true, true, true, true, true, true, true, true, true, true, true, true, false, false, false] rfl rfl (any_of HT_.out (by kernel_rfl)) (fun _ _ _ h => h) (Or.inr ⟨by rfl, rfl⟩) ?_ ?_
                  rotate_left
                  · simp only [Act.put, List.setIfInBounds_toArray, List.set_cons_zero, List.set_cons_succ, i64_w, i32_w]
                    rfl
                  refine pure_ (i := 15) (N := some 73) (v := undef) (a' := ?_) #[true, true, true, true, true, true, true, true, true, true, true, true, true, true, true, true, false, false] rfl rfl (any_of HT_.out (by kernel_rfl)) (fun _ _ _ h => h) (Or.inr ⟨by rfl, rfl⟩) ?_ ?_
                  rotate_left
                  · simp only [Act.put, List.setIfInBounds_toArray, List.set_cons_zero, List.set_cons_succ, i64_w, i32_w]
                    rfl
                  refine pure_ (i := 16) (N := some 74) (v := ?_) (a' := ?_) #[true, true, true, true, true, true, true, true, true, true, true, true, true, true, true, true, true, false] rfl rfl (any_of HT_.out (by kernel_rfl)) (fun _ _ _ h => h) (Or.inl ⟨by rfl, ?_⟩) ?_ ?_
                  rotate_left
                  · intro w'
                    go_simp
                    with_reducible rfl
                  rotate_left
                  · simp only [Act.put, List.setIfInBounds_toArray, List.set_cons_zero, List.set_cons_succ, i64_w, i32_w]
                    rfl
                  refine pure_ (i := 17) (N := some 18) (v := ?_) (a' := ?_) #[true, true, true, true, true, true, true, true, true, true, true, true, true, true, true, true, true, true] rfl rfl (any_of HT_.out (by kernel_rfl)) (fun _ _ _ h => h) (Or.inl ⟨by rfl, ?_⟩) ?_ ?_
                  rotate_left
                  · intro w'
                    go_simp
                    with_reducible rfl
                  rotate_left
                  · simp only [Act.put, List.setIfInBounds_toArray, List.set_cons_zero, List.set_cons_succ, i64_w, i32_w]
                    rfl
                  refine done_ (done_of HT_.out (by kernel_rfl)) ?_
                  have hcz41_0 : w40.cell? ⟨gb164, 0, none⟩ = some (.int .i64 a1_0) := (blk_cell BK164.out 0).trans rfl
                  have hcz41_1 : w40.cell? ⟨gb164, 1, none⟩ = some (.int .i64 a1_1) := (blk_cell BK164.out 1).trans rfl
                  have hcz41_2 : w40.cell? ⟨gb164, 2, none⟩ = some (.int .u64 a1_2) := (blk_cell BK164.out 2).trans rfl
                  have hfz41_0 := blk_frozen BK164.out 0
                  have hfz41_1 := blk_frozen BK164.out 1
                  have hfz41_2 := blk_frozen BK164.out 2
                  try go_wp2_with (first | (go_at_call 20; (with_reducible refine (draw_Fits.calls a1_0 a1_1 a1_2 a3 a4 t182 _ A25.out).mono ?_); (try clear A25); rintro e w42 ⟨rfl, hb⟩; have n0_ := Aside0.mk (Kd.R_below (by (with_reducible repeat (first | apply Kd.R_alloc | apply Kd.R_drewN | apply Kd.R_drew)); exact HO168.out) hb); have n1_ := Aside0.mk (Kd.R_below (by (with_reducible repeat (first | apply Kd.R_alloc | apply Kd.R_drewN | apply Kd.R_drew)); exact HO171.out) hb); have n2_ := Aside0.mk (Kd.R_below (by (with_reducible repeat (first | apply Kd.R_alloc | apply Kd.R_drewN | apply Kd.R_drew)); exact HO175.out) hb); have n3_ := Aside0.mk (Kd.R_below (by (with_reducible repeat (first | apply Kd.R_alloc | apply Kd.R_drewN | apply Kd.R_drew)); exact HO178.out) hb); have n4_ := Aside0.mk (blk_below (g := gb164) (o := .cells #[.int .i64 a1_0, .int .i64 a1_1, .int .u64 a1_2] 25 (0, 0)) (by (with_reducible repeat (first | refine blk_drewN ?_ _ | refine blk_drew ?_ | refine blk_alloc ?_ _)); exact BK164.out) hb); have n5_ := Aside0.mk (below_step (by repeat (first | (with_reducible first | exact HB.out | apply below_alloc | apply pw_below_drewN | apply below_drew1 | refine below_set ?_ GE164.out) | exact HB.out)) hb); clear HO168; clear HO171; clear HO175; clear HO178; clear BK164; clear HB; have HO168 := n0_; have HO171 := n1_; have HO175 := n2_; have HO178 := n3_; have BK164 := n4_; have HB := n5_; clear n0_ n1_ n2_ n3_ n4_ n5_; (try clear hb); (try clear hb2); (try clear hk); (try clear hi)) | (go_at_call 21; (with_reducible refine (draw_Fair.calls _ _ l2 a3 a4 a5 t183 _ ?side1 ?side2 A27.out).mono ?_); (try clear A27); (case side1 => repeat (first | exact (Kd.C_below HR2.out HB.out) | (with_reducible refine Kd.C_alloc ?_ _) | (with_reducible refine Kd.C_drewN ?_ _) | (with_reducible refine Kd.C_drew ?_))); (case side2 => exact HC2.out); rintro e w43 ⟨rfl, hb⟩; have n0_ := Aside0.mk (Kd.R_below (by (with_reducible repeat (first | apply Kd.R_alloc | apply Kd.R_drewN | apply Kd.R_drew)); exact HO168.out) hb); have n1_ := Aside0.mk (Kd.R_below (by (with_reducible repeat (first | apply Kd.R_alloc | apply Kd.R_drewN | apply Kd.R_drew)); exact HO171.out) hb); have n2_ := Aside0.mk (Kd.R_below (by (with_reducible repeat (first | apply Kd.R_alloc | apply Kd.R_drewN | apply Kd.R_drew)); exact HO175.out) hb); have n3_ := Aside0.mk (Kd.R_below (by (with_reducible repeat (first | apply Kd.R_alloc | apply Kd.R_drewN | apply Kd.R_drew)); exact HO178.out) hb); have n4_ := Aside0.mk (blk_below (g := gb164) (o := .cells #[.int .i64 a1_0, .int .i64 a1_1, .int .u64 a1_2] 25 (0, 0)) (by (with_reducible repeat (first | refine blk_drewN ?_ _ | refine blk_drew ?_ | refine blk_alloc ?_ _)); exact BK164.out) hb); have n5_ := Aside0.mk (below_step (by repeat (first | (with_reducible first | exact HB.out | apply below_alloc | apply pw_below_drewN | apply below_drew1 | refine below_set ?_ GE164.out) | exact HB.out)) hb); clear HO168; clear HO171; clear HO175; clear HO178; clear BK164; clear HB; have HO168 := n0_; have HO171 := n1_; have HO175 := n2_; have HO178 := n3_; have BK164 := n4_; have HB := n5_; clear n0_ n1_ n2_ n3_ n4_ n5_; (try clear hb); (try clear hb2); (try clear hk); (try clear hi)))
                  go_ret
                  exact ⟨by first | rfl | (simp [errW_none, errW_some] <;> rfl) | (simp [*, errW_none, errW_some] <;> rfl), by repeat (first | (with_reducible first | exact HB.out | apply below_alloc | apply pw_below_drewN | apply below_drew1 | refine below_set ?_ GE164.out) | exact HB.out)⟩
                · rw [if_neg c28] at H
                  have c28b0 : (t183 == t181) = false := by simpa using c28
                  (try (have c28b1 : decide (t183 = t181) = false := by simpa using c28))
                  (try (have c28b2 : (t183 == t181) = false := by simpa using c28))
                  (try (have c28b3 : ¬ (t183 = t181) := by simpa using c28))
                  clear c28
                  exact absurd (H.trans (congrArg some hr_.out)) (by simp)
              · rw [if_neg c26] at H
                have c26b0 : (t182 == t180) = false := by simpa using c26
                (try (have c26b1 : decide (t182 = t180) = false := by simpa using c26))
                (try (have c26b2 : (t182 == t180) = false := by simpa using c26))
                (try (have c26b3 : ¬ (t182 = t180) := by simpa using c26))
                clear c26
                exact absurd (H.trans (congrArg some hr_.out)) (by simp)
            · replace c24 := Bool.eq_false_iff.mpr c24
              subst c24
              have H1 : (some false) = some r := by rw [if_neg (show ¬ (false = true) by decide)] at H; exact H
              clear H
              have H := H1
              clear H1
              exact absurd (H.trans (congrArg some hr_.out)) (by simp)
          · replace c23 := Bool.eq_false_iff.mpr c23
            subst c23
            have H1 : (some false) = some r := by rw [if_neg (show ¬ (false = true) by decide)] at H; exact H
            clear H
            have H := H1
            clear H1
            exact absurd (H.trans (congrArg some hr_.out)) (by simp)
        · rw [if_neg c22] at H
          have c22b0 : decide (64 < a3) = false := decide_eq_false c22
          clear c22
          replace H := Option.bind_eq_some_iff.mp H
          obtain ⟨t184, A440, H⟩ := H
          replace H : ((poacherref05_Victim.f kj7 a1_2 a1_1 a3).bind fun t185 => (if t172 = true then (if t179 = true then ((draw_Fits.f a1_0 a1_1 a1_2 a3 a4).bind fun t186 => (if (t186 == t180) = true then ((draw_Fair.f l2 a3 a4 a5).bind fun t187 => (if (t187 == t181) = true then (some (t184 == t185)) else (some false))) else (some false))) else (some false)) else (some false))) = some r := H
          have A44 := Aside0.mk A440
          clear A440
          replace H := Option.bind_eq_some_iff.mp H
          obtain ⟨t185, A450, H⟩ := H
          replace H : (if t172 = true then (if t179 = true then ((draw_Fits.f a1_0 a1_1 a1_2 a3 a4).bind fun t186 => (if (t186 == t180) = true then ((draw_Fair.f l2 a3 a4 a5).bind fun t187 => (if (t187 == t181) = true then (some (t184 == t185)) else (some false))) else (some false))) else (some false)) else (some false)) = some r := H
          have A45 := Aside0.mk A450
          clear A450
          by_cases c46 : t172 = true
          · subst c46
            have H1 : (if t179 = true then ((draw_Fits.f a1_0 a1_1 a1_2 a3 a4).bind fun t186 => (if (t186 == t180) = true then ((draw_Fair.f l2 a3 a4 a5).bind fun t187 => (if (t187 == t181) = true then (some (t184 == t185)) else (some false))) else (some false))) else (some false)) = some r := by rw [if_pos rfl] at H; exact H
            clear H
            have H := H1
            clear H1
            by_cases c47 : t179 = true
            · subst c47
              have H1 : ((draw_Fits.f a1_0 a1_1 a1_2 a3 a4).bind fun t186 => (if (t186 == t180) = true then ((draw_Fair.f l2 a3 a4 a5).bind fun t187 => (if (t187 == t181) = true then (some (t184 == t185)) else (some false))) else (some false))) = some r := by rw [if_pos rfl] at H; exact H
              clear H
              have H := H1
              clear H1
              replace H := Option.bind_eq_some_iff.mp H
              obtain ⟨t186, A480, H⟩ := H
              replace H : (if (t186 == t180) = true then ((draw_Fair.f l2 a3 a4 a5).bind fun t187 => (if (t187 == t181) = true then (some (t184 == t185)) else (some false))) else (some false)) = some r := H
              have A48 := Aside0.mk A480
              clear A480
              by_cases c49 : (t186 == t180) = true
              · rw [if_pos c49] at H
                have c49b0 : (t186 == t180) = true := c49
                (try (have c49b1 : decide (t186 = t180) = true := by simpa using c49))
                (try (have c49b2 : (t186 == t180) = true := by simpa using c49))
                clear c49
                replace H := Option.bind_eq_some_iff.mp H
                obtain ⟨t187, A500, H⟩ := H
                replace H : (if (t187 == t181) = true then (some (t184 == t185)) else (some false)) = some r := H
                have A50 := Aside0.mk A500
                clear A500
                by_cases c51 : (t187 == t181) = true
                · rw [if_pos c51] at H
                  have c51b0 : (t187 == t181) = true := c51
                  (try (have c51b1 : decide (t187 = t181) = true := by simpa using c51))
                  (try (have c51b2 : (t187 == t181) = true := by simpa using c51))
                  clear c51
                  obtain rfl := Option.some.inj H
                  clear hr_
                  try go_wp2_with (first | ((with_reducible refine gate_callee (f := 12) rfl ?_); refine goesL_ (some 34) rfl rfl Try.func12 (by kernel_rfl) rfl #[.slice A0 l0.length c0] rfl (by (try simp only [List.map_toArray, List.map_cons, List.map_nil]); first | done | rfl | (simp only [List.length_drop, List.length_take]; rfl)) ?_; (with_reducible refine (draw_Decode.calls _ _ l0 t166 _ ?side1 ?side2 A14.out).mono ?_); (try clear A14); (case side1 => repeat (first | exact (Kd.C_below HR0.out HB.out) | (with_reducible refine Kd.C_alloc ?_ _) | (with_reducible refine Kd.C_drewN ?_ _) | (with_reducible refine Kd.C_drew ?_))); (case side2 => exact HC0.out); rintro e w52 ⟨v167, rfl, ho0, hb⟩; refine ⟨_, rfl, ?_⟩; have n0_ := Aside0.mk (Kd.R_lower (Kd.R_newB ho0 (g := gb164) (o := .cells #[.int .i64 a1_0, .int .i64 a1_1, .int .u64 a1_2] 25 (0, 0)) (by (with_reducible repeat (first | refine blk_drewN ?_ _ | refine blk_drew ?_ | refine blk_alloc ?_ _)); exact BK164.out)) (below_size (by repeat (first | (with_reducible first | exact HB.out | apply below_alloc | apply pw_below_drewN | apply below_drew1 | refine below_set ?_ GE164.out) | exact HB.out)))); have n1_ := Aside0.mk (blk_below (g := gb164) (o := .cells #[.int .i64 a1_0, .int .i64 a1_1, .int .u64 a1_2] 25 (0, 0)) (by (with_reducible repeat (first | refine blk_drewN ?_ _ | refine blk_drew ?_ | refine blk_alloc ?_ _)); exact BK164.out) hb); have n2_ := Aside0.mk (below_step (by repeat (first | (with_reducible first | exact HB.out | apply below_alloc | apply pw_below_drewN | apply below_drew1 | refine below_set ?_ GE164.out) | exact HB.out)) hb); clear BK164; clear HB; have HO168 := n0_; have BK164 := n1_; have HB := n2_; clear n0_ n1_ n2_; (try clear hb); (try clear hb2); (try clear hk); (try clear hi); (try clear ho0)) | ((with_reducible refine gate_callee (f := 13) rfl ?_); refine goesL_ (some 36) rfl rfl Try.func13 (by kernel_rfl) rfl #[.slice A0 l0.length c0] rfl (by (try simp only [List.map_toArray, List.map_cons, List.map_nil]); first | done | rfl | (simp only [List.length_drop, List.length_take]; rfl)) ?_; (with_reducible refine (poacherref05_Decode.calls kj7 _ _ l0 t169 _ ?side1 ?side2 A15.out).mono ?_); (try clear A15); (case side1 => repeat (first | exact (Kd.C_below HR0.out HB.out) | (with_reducible refine Kd.C_alloc ?_ _) | (with_reducible refine Kd.C_drewN ?_ _) | (with_reducible refine Kd.C_drew ?_))); (case side2 => exact HC0.out); rintro e w53 ⟨v170, rfl, ho0, hb⟩; refine ⟨_, rfl, ?_⟩; have n0_ := Aside0.mk (Kd.R_elder' (by (with_reducible repeat (first | apply Kd.R_alloc | apply Kd.R_drewN | apply Kd.R_drew)); exact HO168.out) (Kd.R_base ho0) hb); have n1_ := Aside0.mk (Kd.R_lower (Kd.R_newB (Kd.R_new' ho0 (Kd.R_lt (by (with_reducible repeat (first | apply Kd.R_alloc | apply Kd.R_drewN | apply Kd.R_drew)); exact HO168.out))) (g := gb164) (o := .cells #[.int .i64 a1_0, .int .i64 a1_1, .int .u64 a1_2] 25 (0, 0)) (by (with_reducible repeat (first | refine blk_drewN ?_ _ | refine blk_drew ?_ | refine blk_alloc ?_ _)); exact BK164.out)) (below_size (by repeat (first | (with_reducible first | exact HB.out | apply below_alloc | apply pw_below_drewN | apply below_drew1 | refine below_set ?_ GE164.out) | exact HB.out)))); have n2_ := Aside0.mk (blk_below (g := gb164) (o := .cells #[.int .i64 a1_0, .int .i64 a1_1, .int .u64 a1_2] 25 (0, 0)) (by (with_reducible repeat (first | refine blk_drewN ?_ _ | refine blk_drew ?_ | refine blk_alloc ?_ _)); exact BK164.out) hb); have n3_ := Aside0.mk (below_step (by repeat (first | (with_reducible first | exact HB.out | apply below_alloc | apply pw_below_drewN | apply below_drew1 | refine below_set ?_ GE164.out) | exact HB.out)) hb); clear HO168; clear BK164; clear HB; have HO168 := n0_; have HO171 := n1_; have BK164 := n2_; have HB := n3_; clear n0_ n1_ n2_ n3_; (try clear hb); (try clear hb2); (try clear hk); (try clear hi); (try clear ho0); obtain ⟨Ao54, co54, eo54⟩ := Kd.R_slice HO168.out; subst eo54; obtain ⟨Ao55, co55, eo55⟩ := Kd.R_slice HO171.out; subst eo55) | ((with_reducible refine gate_callee (f := 11) rfl ?_); refine goesL_ (some 37) rfl rfl Try.func11 (by kernel_rfl) rfl #[.slice Ao54 t166.length co54, .slice Ao55 t169.length co55] rfl (by (try simp only [List.map_toArray, List.map_cons, List.map_nil]); first | done | rfl | (simp only [List.length_drop, List.length_take]; rfl)) ?_; (with_reducible refine (poacherref05_Picks.calls kj7 _ _ t166 _ _ t169 true _ ?side1 ?side2 ?side3 ?side4 A16.out).mono ?_); (try clear A16); (case side1 => repeat (first | exact (Kd.R_reads' HO168.out).2.2 | (with_reducible refine Kd.C_alloc ?_ _) | (with_reducible refine Kd.C_drewN ?_ _) | (with_reducible refine Kd.C_drew ?_))); (case side2 => exact (Kd.R_reads' HO168.out).2.1); (case side3 => repeat (first | exact (Kd.R_reads' HO171.out).2.2 | (with_reducible refine Kd.C_alloc ?_ _) | (with_reducible refine Kd.C_drewN ?_ _) | (with_reducible refine Kd.C_drew ?_))); (case side4 => exact (Kd.R_reads' HO171.out).2.1); rintro e w' ⟨rfl, ⟨nd, rfl⟩⟩; refine ⟨_, rfl, ?_⟩))
                  (try (rw [drewN_self w53]; generalize hq_ : World.drewN w53 _ = w53; have n0_ : Aside0 (Kd.R k25 25 w53 w.heap.size (fun k_ => some k_ ≠ (.slice Ao55 t169.length co55 : Value).ownBlock ∧ k_ ≠ gb164) (.slice Ao54 t166.length co54) t166) := ⟨by rw [← hq_]; exact (by (with_reducible repeat (first | apply Kd.R_alloc | apply Kd.R_drewN | apply Kd.R_drew)); exact Kd.R_mono HO168.out (fun _ hk => (by refine ⟨?_, ?_⟩ <;> first | exact hk.2 | exact hk.1.2 | exact hk.1.1.2 | exact hk.1.1.1.2 | exact hk.1.1.1.1.2 | exact hk.1 | exact hk.1.1 | exact hk.1.1.1 | exact hk.1.1.1.1 | exact hk.1.1.1.1.1)))⟩; have n1_ : Aside0 (Kd.R k25 25 w53 w.heap.size (fun k_ => some k_ ≠ (.slice Ao54 t166.length co54 : Value).ownBlock ∧ k_ ≠ gb164) (.slice Ao55 t169.length co55) t169) := ⟨by rw [← hq_]; exact (by (with_reducible repeat (first | apply Kd.R_alloc | apply Kd.R_drewN | apply Kd.R_drew)); exact Kd.R_mono HO171.out (fun _ hk => (by refine ⟨?_, ?_⟩ <;> first | exact hk.2 | exact hk.1.2 | exact hk.1.1.2 | exact hk.1.1.1.2 | exact hk.1.1.1.1.2 | exact hk.1 | exact hk.1.1 | exact hk.1.1.1 | exact hk.1.1.1.1 | exact hk.1.1.1.1.1)))⟩; have n2_ : Aside0 (w53.heap[gb164]? = some (.cells #[.int .i64 a1_0, .int .i64 a1_1, .int .u64 a1_2] 25 (0, 0))) := ⟨by rw [← hq_]; exact (by (with_reducible repeat (first | refine blk_drewN ?_ _ | refine blk_drew ?_ | refine blk_alloc ?_ _)); exact BK164.out)⟩; have n3_ : Aside0 (Below w.heap.size w w53) := ⟨by rw [← hq_]; exact (by repeat (first | (with_reducible first | exact HB.out | apply below_alloc | apply pw_below_drewN | apply below_drew1 | refine below_set ?_ GE164.out) | exact HB.out))⟩; clear HO168 HO171 BK164 HB hq_; have HO168 := n0_; have HO171 := n1_; have BK164 := n2_; have HB := n3_; clear n0_ n1_ n2_ n3_))
                  have n0_ := Aside0.mk (Kd.R_drew HO168.out)
                  have n1_ := Aside0.mk (Kd.R_drew HO171.out)
                  have n2_ := Aside0.mk (blk_drew BK164.out)
                  have n3_ := Aside0.mk (below_drew1 HB.out)
                  clear HO168
                  clear HO171
                  clear BK164
                  clear HB
                  have HO168 := n0_
                  have HO171 := n1_
                  have BK164 := n2_
                  have HB := n3_
                  clear n0_ n1_ n2_ n3_
                  refine start_ (n := 12) (S := fun w' => w'.cell? ⟨gb164, 0, none⟩ = some (.int .i64 a1_0) ∧ w'.cell? ⟨gb164, 1, none⟩ = some (.int .i64 a1_1) ∧ w'.cell? ⟨gb164, 2, none⟩ = some (.int .u64 a1_2)) (ds := []) #[false, false, false, false, false, false, false, false, false, false, false, false] (by kernel_rfl) rfl rfl ⟨(blk_cell BK164.out 0).trans rfl, (blk_cell BK164.out 1).trans rfl, (blk_cell BK164.out 2).trans rfl⟩ (fun hHeld => ?_); refine with_tabW poacherlaw05_DrawTells.tab5 poacherlaw05_DrawTells.bits5 (fun HT_ HW_ => ?_)
                  generalize w53.drew = w56 at HO168 HO171 BK164 HB hHeld ⊢
                  refine pure_ (i := 0) (N := some 38) (v := ?_) (a' := ?_) #[true, false, false, false, false, false, false, false, false, false, false, false] rfl rfl (any_of HT_.out (by kernel_rfl)) (fun _ _ _ h => h) (Or.inl ⟨by rfl, ?_⟩) ?_ ?_
                  rotate_left
                  · intro w'
                    go_simp
                    with_reducible rfl
                  rotate_left
                  · simp only [Act.put, List.setIfInBounds_toArray, List.set_cons_zero, List.set_cons_succ, i64_w, i32_w]
                    rfl
                  refine pure_ (i := 1) (N := some 39) (v := ?_) (a' := ?_) #[true, true, false, false, false, false, false, false, false, false, false, false] rfl rfl (any_of HT_.out (by kernel_rfl)) (fun _ _ _ h => h) (Or.inl ⟨by rfl, ?_⟩) ?_ ?_
                  rotate_left
                  · intro w'
                    go_simp
                    with_reducible rfl
                  rotate_left
                  · simp only [Act.put, List.setIfInBounds_toArray, List.set_cons_zero, List.set_cons_succ, i64_w, i32_w]
                    rfl
                  refine pure_ (i := 2) (N := some 40) (v := ?_) (a' := ?_) #[true, true, true, false, false, false, false, false, false, false, false, false] rfl rfl (any_of HT_.out (by kernel_rfl)) (fun _ _ _ h => h) (Or.inl ⟨by rfl, ?_⟩) ?_ ?_
                  rotate_left
                  · intro w'
                    go_simp
                    with_reducible rfl
                  rotate_left
                  · simp only [Act.put, List.setIfInBounds_toArray, List.set_cons_zero, List.set_cons_succ, i64_w, i32_w]
                    rfl
                  refine pure_ (i := 5) (N := some 43) (v := ?_) (a' := ?_) #[true, true, true, false, false, true, false, false, false, false, false, false] rfl rfl (any_of HT_.out (by kernel_rfl)) (fun _ _ _ h => h) (Or.inl ⟨by rfl, ?_⟩) ?_ ?_
                  rotate_left
                  · intro w'
                    go_simp
                    with_reducible rfl
                  rotate_left
                  · simp only [Act.put, List.setIfInBounds_toArray, List.set_cons_zero, List.set_cons_succ, i64_w, i32_w]
                    rfl
                  refine pure_ (i := 6) (N := some 44) (v := ?_) (a' := ?_) #[true, true, true, false, false, true, true, false, false, false, false, false] rfl rfl (any_of HT_.out (by kernel_rfl)) (fun _ _ _ h => h) (Or.inl ⟨by rfl, ?_⟩) ?_ ?_
                  rotate_left
                  · intro w'
                    go_simp
                    with_reducible rfl
                  rotate_left
                  · simp only [Act.put, List.setIfInBounds_toArray, List.set_cons_zero, List.set_cons_succ, i64_w, i32_w]
                    rfl
                  refine pure_ (i := 7) (N := some 45) (v := ?_) (a' := ?_) #[true, true, true, false, false, true, true, true, false, false, false, false] rfl rfl (any_of HT_.out (by kernel_rfl)) (fun _ _ _ h => h) (Or.inl ⟨by rfl, ?_⟩) ?_ ?_
                  rotate_left
                  · intro w'
                    go_simp
                    with_reducible rfl
                  rotate_left
                  · simp only [Act.put, List.setIfInBounds_toArray, List.set_cons_zero, List.set_cons_succ, i64_w, i32_w]
                    rfl
                  refine take_ (i := 3) (N := some 41) (v := ?_) (a' := ?_) #[true, true, true, true, false, true, true, true, false, false, false, false] rfl rfl (take_ofW HT_.out HW_.out (by kernel_rfl)) (fun _ _ _ h => h) (Or.inl ⟨by rfl, ?_⟩) hHeld ?_ ?_
                  rotate_left
                  · rintro w' ⟨s0, s1, s2⟩
                    go_simp
                    with_reducible rfl
                  rotate_left
                  · simp only [Act.put, List.setIfInBounds_toArray, List.set_cons_zero, List.set_cons_succ, i64_w, i32_w]
                    rfl
                  refine take_ (i := 8) (N := some 46) (v := ?_) (a' := ?_) #[true, true, true, true, false, true, true, true, true, false, false, false] rfl rfl (take_ofW HT_.out HW_.out (by kernel_rfl)) (fun _ _ _ h => h) (Or.inl ⟨by rfl, ?_⟩) hHeld ?_ ?_
                  rotate_left
                  · rintro w' ⟨s0, s1, s2⟩
                    go_simp
                    with_reducible rfl
                  rotate_left
                  · simp only [Act.put, List.setIfInBounds_toArray, List.set_cons_zero, List.set_cons_succ, i64_w, i32_w]
                    rfl
                  refine one_ (i := 4) (N := some 42) #[true, true, true, true, true, true, true, true, true, false, false, false] rfl rfl (one_of HT_.out (by kernel_rfl)) (by decide) (fun K hK => ?_)
                  refine goes_ Try.func14 (by kernel_rfl) rfl #[.int .i64 a3, .int .i64 a4, .int .u64 a1_2] (by rfl) rfl rfl (by (try simp only [List.map_toArray, List.map_cons, List.map_nil]); first | done | rfl | (simp only [List.length_drop, List.length_take]; rfl)) ?_
                  with_reducible refine (draw_Round.calls kj7 a3 a4 a1_2 t173 _ A17.out).mono ?_
                  rintro e w57 ⟨v174, rfl, ho0, hb⟩
                  refine ⟨_, rfl, ?_⟩
                  have n0_ := Aside0.mk (Kd.R_elder' (by (with_reducible repeat (first | apply Kd.R_alloc | apply Kd.R_drewN | apply Kd.R_drew)); exact HO168.out) (Kd.R_base ho0) hb)
                  have n1_ := Aside0.mk (Kd.R_elder' (by (with_reducible repeat (first | apply Kd.R_alloc | apply Kd.R_drewN | apply Kd.R_drew)); exact HO171.out) (Kd.R_base ho0) hb)
                  have n2_ := Aside0.mk (Kd.R_lower (Kd.R_newB (Kd.R_new' (Kd.R_new' ho0 (Kd.R_lt (by (with_reducible repeat (first | apply Kd.R_alloc | apply Kd.R_drewN | apply Kd.R_drew)); exact HO168.out))) (Kd.R_lt (by (with_reducible repeat (first | apply Kd.R_alloc | apply Kd.R_drewN | apply Kd.R_drew)); exact HO171.out))) (g := gb164) (o := .cells #[.int .i64 a1_0, .int .i64 a1_1, .int .u64 a1_2] 25 (0, 0)) (by (with_reducible repeat (first | refine blk_drewN ?_ _ | refine blk_drew ?_ | refine blk_alloc ?_ _)); exact BK164.out)) (below_size (by repeat (first | (with_reducible first | exact HB.out | apply below_alloc | apply pw_below_drewN | apply below_drew1 | refine below_set ?_ GE164.out) | exact HB.out))))
                  have n3_ := Aside0.mk (blk_below (g := gb164) (o := .cells #[.int .i64 a1_0, .int .i64 a1_1, .int .u64 a1_2] 25 (0, 0)) (by (with_reducible repeat (first | refine blk_drewN ?_ _ | refine blk_drew ?_ | refine blk_alloc ?_ _)); exact BK164.out) hb)
                  have n4_ := Aside0.mk (below_step (by repeat (first | (with_reducible first | exact HB.out | apply below_alloc | apply pw_below_drewN | apply below_drew1 | refine below_set ?_ GE164.out) | exact HB.out)) hb)
                  clear HO168
                  clear HO171
                  clear BK164
                  clear HB
                  have HO168 := n0_
                  have HO171 := n1_
                  have HO175 := n2_
                  have BK164 := n3_
                  have HB := n4_
                  clear n0_ n1_ n2_ n3_ n4_
                  (try clear hb)
                  (try clear hb2)
                  (try clear hk)
                  (try clear hi)
                  (try clear ho0)
                  refine hK.out _ _ ⟨(blk_cell BK164.out 0).trans rfl, (blk_cell BK164.out 1).trans rfl, (blk_cell BK164.out 2).trans rfl⟩ (fun hHeld => ?_)
                  clear hK K
                  refine norm_ (a' := ?_) ?_ ?_
                  rotate_left
                  · show Act.put _ (some 42) _ = _
                    simp only [Act.put, List.setIfInBounds_toArray, List.set_cons_zero, List.set_cons_succ, i64_w, i32_w]
                    rfl
                  refine one_ (i := 9) (N := some 47) #[true, true, true, true, true, true, true, true, true, true, false, false] rfl rfl (one_of HT_.out (by kernel_rfl)) (by decide) (fun K hK => ?_)
                  refine goes_ Try.func15 (by kernel_rfl) rfl #[.int .i64 a3, .int .i64 a4, .int .u64 a1_2] (by rfl) rfl rfl (by (try simp only [List.map_toArray, List.map_cons, List.map_nil]); first | done | rfl | (simp only [List.length_drop, List.length_take]; rfl)) ?_
                  with_reducible refine (poacherref05_Round.calls kj7 a3 a4 a1_2 t176 _ A18.out).mono ?_
                  rintro e w58 ⟨v177, rfl, ho0, hb⟩
                  refine ⟨_, rfl, ?_⟩
                  have n0_ := Aside0.mk (Kd.R_elder' (by (with_reducible repeat (first | apply Kd.R_alloc | apply Kd.R_drewN | apply Kd.R_drew)); exact HO168.out) (Kd.R_base ho0) hb)
                  have n1_ := Aside0.mk (Kd.R_elder' (by (with_reducible repeat (first | apply Kd.R_alloc | apply Kd.R_drewN | apply Kd.R_drew)); exact HO171.out) (Kd.R_base ho0) hb)
                  have n2_ := Aside0.mk (Kd.R_elder' (by (with_reducible repeat (first | apply Kd.R_alloc | apply Kd.R_drewN | apply Kd.R_drew)); exact HO175.out) (Kd.R_base ho0) hb)
                  have n3_ := Aside0.mk (Kd.R_lower (Kd.R_newB (Kd.R_new' (Kd.R_new' (Kd.R_new' ho0 (Kd.R_lt (by (with_reducible repeat (first | apply Kd.R_alloc | apply Kd.R_drewN | apply Kd.R_drew)); exact HO168.out))) (Kd.R_lt (by (with_reducible repeat (first | apply Kd.R_alloc | apply Kd.R_drewN | apply Kd.R_drew)); exact HO171.out))) (Kd.R_lt (by (with_reducible repeat (first | apply Kd.R_alloc | apply Kd.R_drewN | apply Kd.R_drew)); exact HO175.out))) (g := gb164) (o := .cells #[.int .i64 a1_0, .int .i64 a1_1, .int .u64 a1_2] 25 (0, 0)) (by (with_reducible repeat (first | refine blk_drewN ?_ _ | refine blk_drew ?_ | refine blk_alloc ?_ _)); exact BK164.out)) (below_size (by repeat (first | (with_reducible first | exact HB.out | apply below_alloc | apply pw_below_drewN | apply below_drew1 | refine below_set ?_ GE164.out) | exact HB.out))))
                  have n4_ := Aside0.mk (blk_below (g := gb164) (o := .cells #[.int .i64 a1_0, .int .i64 a1_1, .int .u64 a1_2] 25 (0, 0)) (by (with_reducible repeat (first | refine blk_drewN ?_ _ | refine blk_drew ?_ | refine blk_alloc ?_ _)); exact BK164.out) hb)
                  have n5_ := Aside0.mk (below_step (by repeat (first | (with_reducible first | exact HB.out | apply below_alloc | apply pw_below_drewN | apply below_drew1 | refine below_set ?_ GE164.out) | exact HB.out)) hb)
                  clear HO168
                  clear HO171
                  clear HO175
                  clear BK164
                  clear HB
                  have HO168 := n0_
                  have HO171 := n1_
                  have HO175 := n2_
                  have HO178 := n3_
                  have BK164 := n4_
                  have HB := n5_
                  clear n0_ n1_ n2_ n3_ n4_ n5_
                  (try clear hb)
                  (try clear hb2)
                  (try clear hk)
                  (try clear hi)
                  (try clear ho0)
                  obtain ⟨Ao59, co59, eo59⟩ := Kd.R_slice HO175.out
                  (first | subst eo59 | (injection eo59 with f1_ f2_ f3_; have f4_ := f1_.symm; have f5_ := f3_.symm; clear f1_ f2_ f3_; subst f4_; subst f5_))
                  obtain ⟨Ao60, co60, eo60⟩ := Kd.R_slice HO178.out
                  (first | subst eo60 | (injection eo60 with f1_ f2_ f3_; have f4_ := f1_.symm; have f5_ := f3_.symm; clear f1_ f2_ f3_; subst f4_; subst f5_))
                  refine hK.out _ _ ⟨(blk_cell BK164.out 0).trans rfl, (blk_cell BK164.out 1).trans rfl, (blk_cell BK164.out 2).trans rfl⟩ (fun hHeld => ?_)
                  clear hK K
                  refine norm_ (a' := ?_) ?_ ?_
                  rotate_left
                  · show Act.put _ (some 47) _ = _
                    simp only [Act.put, List.setIfInBounds_toArray, List.set_cons_zero, List.set_cons_succ, i64_w, i32_w]
                    rfl
                  refine one_ (i := 10) (N := some 48) #[true, true, true, true, true, true, true, true, true, true, true, false] rfl rfl (one_of HT_.out (by kernel_rfl)) (by decide) (fun K hK => ?_)
                  refine goes_ Try.func11 (by kernel_rfl) rfl #[.slice Ao59 t173.length co59, .slice Ao60 t176.length co60] (by rfl) rfl rfl (by (try simp only [List.map_toArray, List.map_cons, List.map_nil]); first | done | rfl | (simp only [List.length_drop, List.length_take]; rfl)) ?_
                  with_reducible refine (poacherref05_Picks.calls kj7 _ _ t173 _ _ t176 true _ ?side1 ?side2 ?side3 ?side4 A19.out).mono ?_
                  (case side1 => repeat (first | exact (Kd.R_reads' HO175.out).2.2 | (with_reducible refine Kd.C_alloc ?_ _) | (with_reducible refine Kd.C_drewN ?_ _) | (with_reducible refine Kd.C_drew ?_)))
                  (case side2 => exact (Kd.R_reads' HO175.out).2.1)
                  (case side3 => repeat (first | exact (Kd.R_reads' HO178.out).2.2 | (with_reducible refine Kd.C_alloc ?_ _) | (with_reducible refine Kd.C_drewN ?_ _) | (with_reducible refine Kd.C_drew ?_)))
                  (case side4 => exact (Kd.R_reads' HO178.out).2.1)
                  rintro e w' ⟨rfl, ⟨nd, rfl⟩⟩
                  refine ⟨_, rfl, ?_⟩
                  refine hK.out _ _ ⟨(blk_cell BK164.out 0).trans rfl, (blk_cell BK164.out 1).trans rfl, (blk_cell BK164.out 2).trans rfl⟩ (fun hHeld => ?_)
                  clear hK K
                  refine norm_ (a' := ?_) ?_ ?_
                  rotate_left
                  · show Act.put _ (some 48) _ = _
                    simp only [Act.put, List.setIfInBounds_toArray, List.set_cons_zero, List.set_cons_succ, i64_w, i32_w]
                    rfl
                  refine pure_ (i := 11) (N := some 15) (v := ?_) (a' := ?_) #[true, true, true, true, true, true, true, true, true, true, true, true] rfl rfl (any_of HT_.out (by kernel_rfl)) (fun _ _ _ h => h) (Or.inl ⟨by rfl, ?_⟩) ?_ ?_
                  rotate_left
                  · intro w'
                    go_simp
                    with_reducible rfl
                  rotate_left
                  · simp only [Act.put, List.setIfInBounds_toArray, List.set_cons_zero, List.set_cons_succ, i64_w, i32_w]
                    rfl
                  refine done_ (done_of HT_.out (by kernel_rfl)) ?_
                  have hcz61_0 : w58.cell? ⟨gb164, 0, none⟩ = some (.int .i64 a1_0) := (blk_cell BK164.out 0).trans rfl
                  have hcz61_1 : w58.cell? ⟨gb164, 1, none⟩ = some (.int .i64 a1_1) := (blk_cell BK164.out 1).trans rfl
                  have hcz61_2 : w58.cell? ⟨gb164, 2, none⟩ = some (.int .u64 a1_2) := (blk_cell BK164.out 2).trans rfl
                  have hfz61_0 := blk_frozen BK164.out 0
                  have hfz61_1 := blk_frozen BK164.out 1
                  have hfz61_2 := blk_frozen BK164.out 2
                  try go_wp2_with (first | ((with_reducible refine gate_callee (f := 16) rfl ?_); refine goesL_ (some 52) rfl rfl Try.func16 (by kernel_rfl) rfl #[.agg #[.int .i64 a1_0, .int .i64 a1_1, .int .u64 a1_2], .int .i64 a3, .int .i64 a4] rfl (by (try simp only [List.map_toArray, List.map_cons, List.map_nil]); first | done | rfl | (simp only [List.length_drop, List.length_take]; rfl)) ?_; (with_reducible refine (poacherref05_Fits.calls a1_0 a1_1 a1_2 a3 a4 t180 _ A20.out).mono ?_); (try clear A20); rintro e w62 ⟨rfl, hb⟩; refine ⟨_, rfl, ?_⟩; have n0_ := Aside0.mk (Kd.R_below (by (with_reducible repeat (first | apply Kd.R_alloc | apply Kd.R_drewN | apply Kd.R_drew)); exact HO168.out) hb); have n1_ := Aside0.mk (Kd.R_below (by (with_reducible repeat (first | apply Kd.R_alloc | apply Kd.R_drewN | apply Kd.R_drew)); exact HO171.out) hb); have n2_ := Aside0.mk (Kd.R_below (by (with_reducible repeat (first | apply Kd.R_alloc | apply Kd.R_drewN | apply Kd.R_drew)); exact HO175.out) hb); have n3_ := Aside0.mk (Kd.R_below (by (with_reducible repeat (first | apply Kd.R_alloc | apply Kd.R_drewN | apply Kd.R_drew)); exact HO178.out) hb); have n4_ := Aside0.mk (blk_below (g := gb164) (o := .cells #[.int .i64 a1_0, .int .i64 a1_1, .int .u64 a1_2] 25 (0, 0)) (by (with_reducible repeat (first | refine blk_drewN ?_ _ | refine blk_drew ?_ | refine blk_alloc ?_ _)); exact BK164.out) hb); have n5_ := Aside0.mk (below_step (by repeat (first | (with_reducible first | exact HB.out | apply below_alloc | apply pw_below_drewN | apply below_drew1 | refine below_set ?_ GE164.out) | exact HB.out)) hb); clear HO168; clear HO171; clear HO175; clear HO178; clear BK164; clear HB; have HO168 := n0_; have HO171 := n1_; have HO175 := n2_; have HO178 := n3_; have BK164 := n4_; have HB := n5_; clear n0_ n1_ n2_ n3_ n4_ n5_; (try clear hb); (try clear hb2); (try clear hk); (try clear hi)) | ((with_reducible refine gate_callee (f := 17) rfl ?_); refine goesL_ (some 57) rfl rfl Try.func17 (by kernel_rfl) rfl #[.slice A2 l2.length c2, .int .i64 a3, .int .i64 a4, .int .i64 a5] rfl (by (try simp only [List.map_toArray, List.map_cons, List.map_nil]); first | done | rfl | (simp only [List.length_drop, List.length_take]; rfl)) ?_; (with_reducible refine (poacherref05_Fair.calls kj7 _ _ l2 a3 a4 a5 t181 _ ?side1 ?side2 A21.out).mono ?_); (try clear A21); (case side1 => repeat (first | exact (Kd.C_below HR2.out HB.out) | (with_reducible refine Kd.C_alloc ?_ _) | (with_reducible refine Kd.C_drewN ?_ _) | (with_reducible refine Kd.C_drew ?_))); (case side2 => exact HC2.out); rintro e w' ⟨rfl, ⟨nd, rfl⟩⟩; refine ⟨_, rfl, ?_⟩))
                  (try (rw [drewN_self w62]; generalize hq_ : World.drewN w62 _ = w62; have n0_ : Aside0 (Kd.R k25 25 w62 w.heap.size (fun k_ => some k_ ≠ (.slice Ao55 t169.length co55 : Value).ownBlock ∧ some k_ ≠ (.slice Ao59 t173.length co59 : Value).ownBlock ∧ some k_ ≠ (.slice Ao60 t176.length co60 : Value).ownBlock ∧ k_ ≠ gb164) (.slice Ao54 t166.length co54) t166) := ⟨by rw [← hq_]; exact (by (with_reducible repeat (first | apply Kd.R_alloc | apply Kd.R_drewN | apply Kd.R_drew)); exact Kd.R_mono HO168.out (fun _ hk => (by refine ⟨?_, ?_, ?_, ?_⟩ <;> first | exact hk.2 | exact hk.1.2 | exact hk.1.1.2 | exact hk.1.1.1.2 | exact hk.1.1.1.1.2 | exact hk.1 | exact hk.1.1 | exact hk.1.1.1 | exact hk.1.1.1.1 | exact hk.1.1.1.1.1)))⟩; have n1_ : Aside0 (Kd.R k25 25 w62 w.heap.size (fun k_ => some k_ ≠ (.slice Ao54 t166.length co54 : Value).ownBlock ∧ some k_ ≠ (.slice Ao59 t173.length co59 : Value).ownBlock ∧ some k_ ≠ (.slice Ao60 t176.length co60 : Value).ownBlock ∧ k_ ≠ gb164) (.slice Ao55 t169.length co55) t169) := ⟨by rw [← hq_]; exact (by (with_reducible repeat (first | apply Kd.R_alloc | apply Kd.R_drewN | apply Kd.R_drew)); exact Kd.R_mono HO171.out (fun _ hk => (by refine ⟨?_, ?_, ?_, ?_⟩ <;> first | exact hk.2 | exact hk.1.2 | exact hk.1.1.2 | exact hk.1.1.1.2 | exact hk.1.1.1.1.2 | exact hk.1 | exact hk.1.1 | exact hk.1.1.1 | exact hk.1.1.1.1 | exact hk.1.1.1.1.1)))⟩; have n2_ : Aside0 (Kd.R k25 25 w62 w.heap.size (fun k_ => some k_ ≠ (.slice Ao54 t166.length co54 : Value).ownBlock ∧ some k_ ≠ (.slice Ao55 t169.length co55 : Value).ownBlock ∧ some k_ ≠ (.slice Ao60 t176.length co60 : Value).ownBlock ∧ k_ ≠ gb164) (.slice Ao59 t173.length co59) t173) := ⟨by rw [← hq_]; exact (by (with_reducible repeat (first | apply Kd.R_alloc | apply Kd.R_drewN | apply Kd.R_drew)); exact Kd.R_mono HO175.out (fun _ hk => (by refine ⟨?_, ?_, ?_, ?_⟩ <;> first | exact hk.2 | exact hk.1.2 | exact hk.1.1.2 | exact hk.1.1.1.2 | exact hk.1.1.1.1.2 | exact hk.1 | exact hk.1.1 | exact hk.1.1.1 | exact hk.1.1.1.1 | exact hk.1.1.1.1.1)))⟩; have n3_ : Aside0 (Kd.R k25 25 w62 w.heap.size (fun k_ => some k_ ≠ (.slice Ao54 t166.length co54 : Value).ownBlock ∧ some k_ ≠ (.slice Ao55 t169.length co55 : Value).ownBlock ∧ some k_ ≠ (.slice Ao59 t173.length co59 : Value).ownBlock ∧ k_ ≠ gb164) (.slice Ao60 t176.length co60) t176) := ⟨by rw [← hq_]; exact (by (with_reducible repeat (first | apply Kd.R_alloc | apply Kd.R_drewN | apply Kd.R_drew)); exact Kd.R_mono HO178.out (fun _ hk => (by refine ⟨?_, ?_, ?_, ?_⟩ <;> first | exact hk.2 | exact hk.1.2 | exact hk.1.1.2 | exact hk.1.1.1.2 | exact hk.1.1.1.1.2 | exact hk.1 | exact hk.1.1 | exact hk.1.1.1 | exact hk.1.1.1.1 | exact hk.1.1.1.1.1)))⟩; have n4_ : Aside0 (w62.heap[gb164]? = some (.cells #[.int .i64 a1_0, .int .i64 a1_1, .int .u64 a1_2] 25 (0, 0))) := ⟨by rw [← hq_]; exact (by (with_reducible repeat (first | refine blk_drewN ?_ _ | refine blk_drew ?_ | refine blk_alloc ?_ _)); exact BK164.out)⟩; have n5_ : Aside0 (Below w.heap.size w w62) := ⟨by rw [← hq_]; exact (by repeat (first | (with_reducible first | exact HB.out | apply below_alloc | apply pw_below_drewN | apply below_drew1 | refine below_set ?_ GE164.out) | exact HB.out))⟩; clear HO168 HO171 HO175 HO178 BK164 HB hq_; have HO168 := n0_; have HO171 := n1_; have HO175 := n2_; have HO178 := n3_; have BK164 := n4_; have HB := n5_; clear n0_ n1_ n2_ n3_ n4_ n5_))
                  have n0_ := Aside0.mk (Kd.R_drew HO168.out)
                  have n1_ := Aside0.mk (Kd.R_drew HO171.out)
                  have n2_ := Aside0.mk (Kd.R_drew HO175.out)
                  have n3_ := Aside0.mk (Kd.R_drew HO178.out)
                  have n4_ := Aside0.mk (blk_drew BK164.out)
                  have n5_ := Aside0.mk (below_drew1 HB.out)
                  clear HO168
                  clear HO171
                  clear HO175
                  clear HO178
                  clear BK164
                  clear HB
                  have HO168 := n0_
                  have HO171 := n1_
                  have HO175 := n2_
                  have HO178 := n3_
                  have BK164 := n4_
                  have HB := n5_
                  clear n0_ n1_ n2_ n3_ n4_ n5_
                  refine start_ (n := 18) (S := fun w' => w'.cell? ⟨gb164, 0, none⟩ = some (.int .i64 a1_0) ∧ w'.cell? ⟨gb164, 1, none⟩ = some (.int .i64 a1_1) ∧ w'.cell? ⟨gb164, 2, none⟩ = some (.int .u64 a1_2)) (ds := []) #[false, false, false, false, false, false, false, false, false, false, false, false, false, false, false, false, false, false] (by kernel_rfl) rfl rfl ⟨(blk_cell BK164.out 0).trans rfl, (blk_cell BK164.out 1).trans rfl, (blk_cell BK164.out 2).trans rfl⟩ (fun hHeld => ?_); refine with_tabW poacherlaw05_DrawTells.tab8 poacherlaw05_DrawTells.bits8 (fun HT_ HW_ => ?_)
                  generalize w62.drew = w63 at HO168 HO171 HO175 HO178 BK164 HB hHeld ⊢
                  refine pure_ (i := 0) (N := some 58) (v := ?_) (a' := ?_) #[true, false, false, false, false, false, false, false, false, false, false, false, false, false, false, false, false, false] rfl rfl (any_of HT_.out (by kernel_rfl)) (fun _ _ _ h => h) (Or.inl ⟨by rfl, ?_⟩) ?_ ?_
                  rotate_left
                  · intro w'
                    go_simp
                    with_reducible rfl
                  rotate_left
                  · simp only [Act.put, List.setIfInBounds_toArray, List.set_cons_zero, List.set_cons_succ, i64_w, i32_w]
                    rfl
                  refine pure_ (i := 1) (N := some 59) (v := ?_) (a' := ?_) #[true, true, false, false, false, false, false, false, false, false, false, false, false, false, false, false, false, false] rfl rfl (any_of HT_.out (by kernel_rfl)) (fun _ _ _ h => h) (Or.inl ⟨by rfl, ?_⟩) ?_ ?_
                  rotate_left
                  · intro w'
                    go_simp
                    with_reducible rfl
                  rotate_left
                  · simp only [Act.put, List.setIfInBounds_toArray, List.set_cons_zero, List.set_cons_succ, i64_w, i32_w]
                    rfl
                  refine pure_ (i := 2) (N := some 60) (v := ?_) (a' := ?_) #[true, true, true, false, false, false, false, false, false, false, false, false, false, false, false, false, false, false] rfl rfl (any_of HT_.out (by kernel_rfl)) (fun _ _ _ h => h) (Or.inl ⟨by rfl, ?_⟩) ?_ ?_
                  rotate_left
                  · intro w'
                    go_simp
                    with_reducible rfl
                  rotate_left
                  · simp only [Act.put, List.setIfInBounds_toArray, List.set_cons_zero, List.set_cons_succ, i64_w, i32_w]
                    rfl
                  refine pure_ (i := 3) (N := some 61) (v := ?_) (a' := ?_) #[true, true, true, true, false, false, false, false, false, false, false, false, false, false, false, false, false, false] rfl rfl (any_of HT_.out (by kernel_rfl)) (fun _ _ _ h => h) (Or.inl ⟨by rfl, ?_⟩) ?_ ?_
                  rotate_left
                  · intro w'
                    go_simp
                    with_reducible rfl
                  rotate_left
                  · simp only [Act.put, List.setIfInBounds_toArray, List.set_cons_zero, List.set_cons_succ, i64_w, i32_w]
                    rfl
                  refine pure_ (i := 5) (N := some 63) (v := ?_) (a' := ?_) #[true, true, true, true, false, true, false, false, false, false, false, false, false, false, false, false, false, false] rfl rfl (any_of HT_.out (by kernel_rfl)) (fun _ _ _ h => h) (Or.inl ⟨by rfl, ?_⟩) ?_ ?_
                  rotate_left
                  · intro w'
                    go_simp
                    with_reducible rfl
                  rotate_left
                  · simp only [Act.put, List.setIfInBounds_toArray, List.set_cons_zero, List.set_cons_succ, i64_w, i32_w]
                    rfl
                  refine pure_ (i := 7) (N := some 65) (v := ?_) (a' := ?_) #[true, true, true, true, false, true, false, true, false, false, false, false, false, false, false, false, false, false] rfl rfl (any_of HT_.out (by kernel_rfl)) (fun _ _ _ h => h) (Or.inl ⟨by rfl, ?_⟩) ?_ ?_
                  rotate_left
                  · intro w'
                    go_simp
                    with_reducible rfl
                  rotate_left
                  · simp only [Act.put, List.setIfInBounds_toArray, List.set_cons_zero, List.set_cons_succ, i64_w, i32_w]
                    rfl
                  refine pure_ (i := 9) (N := some 67) (v := ?_) (a' := ?_) #[true, true, true, true, false, true, false, true, false, true, false, false, false, false, false, false, false, false] rfl rfl (any_of HT_.out (by kernel_rfl)) (fun _ _ _ h => h) (Or.inl ⟨by rfl, ?_⟩) ?_ ?_
                  rotate_left
                  · intro w'
                    go_simp
                    with_reducible rfl
                  rotate_left
                  · simp only [Act.put, List.setIfInBounds_toArray, List.set_cons_zero, List.set_cons_succ, i64_w, i32_w]
                    rfl
                  refine pure_ (i := 11) (N := some 69) (v := ?_) (a' := ?_) #[true, true, true, true, false, true, false, true, false, true, false, true, false, false, false, false, false, false] rfl rfl (any_of HT_.out (by kernel_rfl)) (fun _ _ _ h => h) (Or.inl ⟨by rfl, ?_⟩) ?_ ?_
                  rotate_left
                  · intro w'
                    go_simp
                    with_reducible rfl
                  rotate_left
                  · simp only [Act.put, List.setIfInBounds_toArray, List.set_cons_zero, List.set_cons_succ, i64_w, i32_w]
                    rfl
                  refine pure_ (i := 13) (N := some 71) (v := ?_) (a' := ?_) #[true, true, true, true, false, true, false, true, false, true, false, true, false, true, false, false, false, false] rfl rfl (any_of HT_.out (by kernel_rfl)) (fun _ _ _ h => h) (Or.inl ⟨by rfl, ?_⟩) ?_ ?_
                  rotate_left
                  · intro w'
                    go_simp
                    with_reducible rfl
                  rotate_left
                  · simp only [Act.put, List.setIfInBounds_toArray, List.set_cons_zero, List.set_cons_succ, i64_w, i32_w]
                    rfl
                  refine take_ (i := 4) (N := some 62) (v := ?_) (a' := ?_) #[true, true, true, true, true, true, false, true, false, true, false, true, false, true, false, false, false, false] rfl rfl (take_ofW HT_.out HW_.out (by kernel_rfl)) (fun _ _ _ h => h) (Or.inl ⟨by rfl, ?_⟩) hHeld ?_ ?_
                  rotate_left
                  · rintro w' ⟨s0, s1, s2⟩
                    go_simp
                    with_reducible rfl
                  rotate_left
                  · simp only [Act.put, List.setIfInBounds_toArray, List.set_cons_zero, List.set_cons_succ, i64_w, i32_w]
                    rfl
                  refine take_ (i := 6) (N := some 64) (v := ?_) (a' := ?_) #[true, true, true, true, true, true, true, true, false, true, false, true, false, true, false, false, false, false] rfl rfl (take_ofW HT_.out HW_.out (by kernel_rfl)) (fun _ _ _ h => h) (Or.inl ⟨by rfl, ?_⟩) hHeld ?_ ?_
                  rotate_left
                  · rintro w' ⟨s0, s1, s2⟩
                    go_simp
                    with_reducible rfl
                  rotate_left
                  · simp only [Act.put, List.setIfInBounds_toArray, List.set_cons_zero, List.set_cons_succ, i64_w, i32_w]
                    rfl
                  refine take_ (i := 10) (N := some 68) (v := ?_) (a' := ?_) #[true, true, true, true, true, true, true, true, false, true, true, true, false, true, false, false, false, false] rfl rfl (take_ofW HT_.out HW_.out (by kernel_rfl)) (fun _ _ _ h => h) (Or.inl ⟨by rfl, ?_⟩) hHeld ?_ ?_
                  rotate_left
                  · rintro w' ⟨s0, s1, s2⟩
                    go_simp
                    with_reducible rfl
                  rotate_left
                  · simp only [Act.put, List.setIfInBounds_toArray, List.set_cons_zero, List.set_cons_succ, i64_w, i32_w]
                    rfl
                  refine take_ (i := 12) (N := some 70) (v := ?_) (a' := ?_) #[true, true, true, true, true, true, true, true, false, true, true, true, true, true, false, false, false, false] rfl rfl (take_ofW HT_.out HW_.out (by kernel_rfl)) (fun _ _ _ h => h) (Or.inl ⟨by rfl, ?_⟩) hHeld ?_ ?_
                  rotate_left
                  · rintro w' ⟨s0, s1, s2⟩
                    go_simp
                    with_reducible rfl
                  rotate_left
                  · simp only [Act.put, List.setIfInBounds_toArray, List.set_cons_zero, List.set_cons_succ, i64_w, i32_w]
                    rfl
                  refine one_ (i := 8) (N := some 66) #[true, true, true, true, true, true, true, true, true, true, true, true, true, true, false, false, false, false] rfl rfl (one_of HT_.out (by kernel_rfl)) (by decide) (fun K hK => ?_)
                  refine goes_ Try.func18 (by kernel_rfl) rfl #[.int .u64 a1_2, .int .i64 a1_1, .int .i64 a3] (by rfl) rfl rfl (by (try simp only [List.map_toArray, List.map_cons, List.map_nil]); first | done | rfl | (simp only [List.length_drop, List.length_take]; rfl)) ?_
                  with_reducible refine (draw_Victim.calls a1_2 a1_1 a3 t184 _ A44.out).mono ?_
                  rintro e w' ⟨rfl, ⟨nd, rfl⟩⟩
                  refine ⟨_, rfl, ?_⟩
                  refine hK.out _ _ ⟨(blk_cell BK164.out 0).trans rfl, (blk_cell BK164.out 1).trans rfl, (blk_cell BK164.out 2).trans rfl⟩ (fun hHeld => ?_)
                  clear hK K
                  refine norm_ (a' := ?_) ?_ ?_
                  rotate_left
                  · show Act.put _ (some 66) _ = _
                    simp only [Act.put, List.setIfInBounds_toArray, List.set_cons_zero, List.set_cons_succ, i64_w, i32_w]
                    rfl
                  refine one_ (i := 14) (N := some 72) #[true, true, true, true, true, true, true, true, true, true, true, true, true, true, true, false, false, false] rfl rfl (one_of HT_.out (by kernel_rfl)) (by decide) (fun K hK => ?_)
                  refine goes_ Try.func19 (by kernel_rfl) rfl #[.int .u64 a1_2, .int .i64 a1_1, .int .i64 a3] (by rfl) rfl rfl (by (try simp only [List.map_toArray, List.map_cons, List.map_nil]); first | done | rfl | (simp only [List.length_drop, List.length_take]; rfl)) ?_
                  with_reducible refine (poacherref05_Victim.calls kj7 a1_2 a1_1 a3 t185 _ A45.out).mono ?_
                  rintro e w' ⟨rfl, ⟨nd, rfl⟩⟩
                  refine ⟨_, rfl, ?_⟩
                  refine hK.out _ _ ⟨(blk_cell BK164.out 0).trans rfl, (blk_cell BK164.out 1).trans rfl, (blk_cell BK164.out 2).trans rfl⟩ (fun hHeld => ?_)
                  clear hK K
                  refine norm_ (a' := ?_) ?_ ?_
                  rotate_left
                  · show Act.put _ (some 72) _ = _
                    simp only [Act.put, List.setIfInBounds_toArray, List.set_cons_zero, List.set_cons_succ, i64_w, i32_w]
                    rfl
                  refine pure_ (i := 15) (N := some 73) (v := ?_) (a' := ?_) #[true, true, true, true, true, true, true, true, true, true, true, true, true, true, true, true, false, false] rfl rfl (any_of HT_.out (by kernel_rfl)) (fun _ _ _ h => h) (Or.inl ⟨by rfl, ?_⟩) ?_ ?_
                  rotate_left
                  · intro w'
                    go_simp
                    with_reducible rfl
                  rotate_left
                  · simp only [Act.put, List.setIfInBounds_toArray, List.set_cons_zero, List.set_cons_succ, i64_w, i32_w]
                    rfl
                  refine pure_ (i := 16) (N := some 74) (v := ?_) (a' := ?_) #[true, true, true, true, true, true, true, true, true, true, true, true, true, true, true, true, true, false] rfl rfl (any_of HT_.out (by kernel_rfl)) (fun _ _ _ h => h) (Or.inl ⟨by rfl, ?_⟩) ?_ ?_
                  rotate_left
                  · intro w'
                    go_simp
                    with_reducible rfl
                  rotate_left
                  · simp only [Act.put, List.setIfInBounds_toArray, List.set_cons_zero, List.set_cons_succ, i64_w, i32_w]
                    rfl
                  refine pure_ (i := 17) (N := some 18) (v := ?_) (a' := ?_) #[true, true, true, true, true, true, true, true, true, true, true, true, true, true, true, true, true, true] rfl rfl (any_of HT_.out (by kernel_rfl)) (fun _ _ _ h => h) (Or.inl ⟨by rfl, ?_⟩) ?_ ?_
                  rotate_left
                  · intro w'
                    go_simp
                    with_reducible rfl
                  rotate_left
                  · simp only [Act.put, List.setIfInBounds_toArray, List.set_cons_zero, List.set_cons_succ, i64_w, i32_w]
                    rfl
                  refine done_ (done_of HT_.out (by kernel_rfl)) ?_
                  have hcz64_0 : w63.cell? ⟨gb164, 0, none⟩ = some (.int .i64 a1_0) := (blk_cell BK164.out 0).trans rfl
                  have hcz64_1 : w63.cell? ⟨gb164, 1, none⟩ = some (.int .i64 a1_1) := (blk_cell BK164.out 1).trans rfl
                  have hcz64_2 : w63.cell? ⟨gb164, 2, none⟩ = some (.int .u64 a1_2) := (blk_cell BK164.out 2).trans rfl
                  have hfz64_0 := blk_frozen BK164.out 0
                  have hfz64_1 := blk_frozen BK164.out 1
                  have hfz64_2 := blk_frozen BK164.out 2
                  try go_wp2_with (first | (go_at_call 20; (with_reducible refine (draw_Fits.calls a1_0 a1_1 a1_2 a3 a4 t186 _ A48.out).mono ?_); (try clear A48); rintro e w65 ⟨rfl, hb⟩; have n0_ := Aside0.mk (Kd.R_below (by (with_reducible repeat (first | apply Kd.R_alloc | apply Kd.R_drewN | apply Kd.R_drew)); exact HO168.out) hb); have n1_ := Aside0.mk (Kd.R_below (by (with_reducible repeat (first | apply Kd.R_alloc | apply Kd.R_drewN | apply Kd.R_drew)); exact HO171.out) hb); have n2_ := Aside0.mk (Kd.R_below (by (with_reducible repeat (first | apply Kd.R_alloc | apply Kd.R_drewN | apply Kd.R_drew)); exact HO175.out) hb); have n3_ := Aside0.mk (Kd.R_below (by (with_reducible repeat (first | apply Kd.R_alloc | apply Kd.R_drewN | apply Kd.R_drew)); exact HO178.out) hb); have n4_ := Aside0.mk (blk_below (g := gb164) (o := .cells #[.int .i64 a1_0, .int .i64 a1_1, .int .u64 a1_2] 25 (0, 0)) (by (with_reducible repeat (first | refine blk_drewN ?_ _ | refine blk_drew ?_ | refine blk_alloc ?_ _)); exact BK164.out) hb); have n5_ := Aside0.mk (below_step (by repeat (first | (with_reducible first | exact HB.out | apply below_alloc | apply pw_below_drewN | apply below_drew1 | refine below_set ?_ GE164.out) | exact HB.out)) hb); clear HO168; clear HO171; clear HO175; clear HO178; clear BK164; clear HB; have HO168 := n0_; have HO171 := n1_; have HO175 := n2_; have HO178 := n3_; have BK164 := n4_; have HB := n5_; clear n0_ n1_ n2_ n3_ n4_ n5_; (try clear hb); (try clear hb2); (try clear hk); (try clear hi)) | (go_at_call 21; (with_reducible refine (draw_Fair.calls _ _ l2 a3 a4 a5 t187 _ ?side1 ?side2 A50.out).mono ?_); (try clear A50); (case side1 => repeat (first | exact (Kd.C_below HR2.out HB.out) | (with_reducible refine Kd.C_alloc ?_ _) | (with_reducible refine Kd.C_drewN ?_ _) | (with_reducible refine Kd.C_drew ?_))); (case side2 => exact HC2.out); rintro e w66 ⟨rfl, hb⟩; have n0_ := Aside0.mk (Kd.R_below (by (with_reducible repeat (first | apply Kd.R_alloc | apply Kd.R_drewN | apply Kd.R_drew)); exact HO168.out) hb); have n1_ := Aside0.mk (Kd.R_below (by (with_reducible repeat (first | apply Kd.R_alloc | apply Kd.R_drewN | apply Kd.R_drew)); exact HO171.out) hb); have n2_ := Aside0.mk (Kd.R_below (by (with_reducible repeat (first | apply Kd.R_alloc | apply Kd.R_drewN | apply Kd.R_drew)); exact HO175.out) hb); have n3_ := Aside0.mk (Kd.R_below (by (with_reducible repeat (first | apply Kd.R_alloc | apply Kd.R_drewN | apply Kd.R_drew)); exact HO178.out) hb); have n4_ := Aside0.mk (blk_below (g := gb164) (o := .cells #[.int .i64 a1_0, .int .i64 a1_1, .int .u64 a1_2] 25 (0, 0)) (by (with_reducible repeat (first | refine blk_drewN ?_ _ | refine blk_drew ?_ | refine blk_alloc ?_ _)); exact BK164.out) hb); have n5_ := Aside0.mk (below_step (by repeat (first | (with_reducible first | exact HB.out | apply below_alloc | apply pw_below_drewN | apply below_drew1 | refine below_set ?_ GE164.out) | exact HB.out)) hb); clear HO168; clear HO171; clear HO175; clear HO178; clear BK164; clear HB; have HO168 := n0_; have HO171 := n1_; have HO175 := n2_; have HO178 := n3_; have BK164 := n4_; have HB := n5_; clear n0_ n1_ n2_ n3_ n4_ n5_; (try clear hb); (try clear hb2); (try clear hk); (try clear hi)))
                  go_ret
                  exact ⟨by first | rfl | (simp [errW_none, errW_some] <;> rfl) | (simp [*, errW_none, errW_some] <;> rfl), by repeat (first | (with_reducible first | exact HB.out | apply below_alloc | apply pw_below_drewN | apply below_drew1 | refine below_set ?_ GE164.out) | exact HB.out)⟩
                · rw [if_neg c51] at H
                  have c51b0 : (t187 == t181) = false := by simpa using c51
                  (try (have c51b1 : decide (t187 = t181) = false := by simpa using c51))
                  (try (have c51b2 : (t187 == t181) = false := by simpa using c51))
                  (try (have c51b3 : ¬ (t187 = t181) := by simpa using c51))
                  clear c51
                  exact absurd (H.trans (congrArg some hr_.out)) (by simp)
              · rw [if_neg c49] at H
                have c49b0 : (t186 == t180) = false := by simpa using c49
                (try (have c49b1 : decide (t186 = t180) = false := by simpa using c49))
                (try (have c49b2 : (t186 == t180) = false := by simpa using c49))
                (try (have c49b3 : ¬ (t186 = t180) := by simpa using c49))
                clear c49
                exact absurd (H.trans (congrArg some hr_.out)) (by simp)
            · replace c47 := Bool.eq_false_iff.mpr c47
              subst c47
              have H1 : (some false) = some r := by rw [if_neg (show ¬ (false = true) by decide)] at H; exact H
              clear H
              have H := H1
              clear H1
              exact absurd (H.trans (congrArg some hr_.out)) (by simp)
          · replace c46 := Bool.eq_false_iff.mpr c46
            subst c46
            have H1 : (some false) = some r := by rw [if_neg (show ¬ (false = true) by decide)] at H; exact H
            clear H
            have H := H1
            clear H1
            exact absurd (H.trans (congrArg some hr_.out)) (by simp)

end Go.Proofs.Ytonhjnfhaelfkaa.QD
