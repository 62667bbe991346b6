-- Written by inj.py (a program of this session), by the kit's print with functions given by hand. Not trusted: Lean checks it.
import Derived.Test.YtonhjnfhaelfkaaQDx0
import Derived.Test.YtonhjnfhaelfkaaQDx1
import Derived.Test.YtonhjnfhaelfkaaQDx3
import Derived.Test.YtonhjnfhaelfkaaQDx12
namespace Go.Proofs.Ytonhjnfhaelfkaa.QD
open Go.RowKit Go.Proofs.YtonhjnfhaelfkaaW.PrintWords Go.Proofs.YtonhjnfhaelfkaaW.PrintLast Go.Proofs.YtonhjnfhaelfkaaW.PrintMore
attribute [local go_sem] max2_int min2_int max_two min_two max_three min_three max_four min_four   -- for this text's walks alone
set_option linter.unusedVariables false
set_option linter.unusedSimpArgs false

attribute [local go_sem high] eqA25
/-! ### poacherlaw05_DrawDecode: function 6 -/
mutual
def poacherlaw05_DrawDecode.j0 : Nat → List Int → List Int → Int → Bool → Bool → Option (Bool)
  | 0, _, _, _, _, _ => none
  | k + 1, x0, x1, x2, x7, x22 => if x22 = true then (some x7) else ((draw_Decode.f x0).bind fun t133 => (if ([] : List Int).length + x0.length < 140737488355328 then ((some (([] : List Int) ++ x0 : List Int)).bind fun y136 => (if y136.length + x1.length < 140737488355328 then ((draw_Decode.f (y136 ++ x1)).bind fun t142 => (if (t133.length : Int) = (wrap64 ((x0.length : Int) / 3)) then (poacherlaw05_DrawDecode.j1 k x0 x2 t133 t142 ((t142.length : Int) != (wrap64 (Int.tdiv (wrap64 ((x0.length : Int) + (x1.length : Int))) 3)))) else (poacherlaw05_DrawDecode.j1 k x0 x2 t133 t142 true))) else (none))) else (none)))
def poacherlaw05_DrawDecode.j1 : Nat → List Int → Int → List (S25) → List (S25) → Bool → Option (Bool)
  | 0, _, _, _, _, _ => none
  | k + 1, x0, x2, x8, x9, x47 => if x47 = true then (some false) else (if x2 < 0 then (some true) else (if x2 ≥ (x8.length : Int) then (some true) else (if 0 ≤ x2 then (if x2 < (x8.length : Int) then (if x2 < (x9.length : Int) then (if (((rd_T25 x8 x2).f0) == ((rd_T25 x9 x2).f0) && (((rd_T25 x8 x2).f1) == ((rd_T25 x9 x2).f1) && (((rd_T25 x8 x2).f2) == ((rd_T25 x9 x2).f2)))) = true then (if ((rd_T25 x8 x2).f0) ≥ 0 then (if ((rd_T25 x8 x2).f0) < 4 then (if 0 ≤ (wrap64 ((wrap64 (3 * x2)) + 1)) then (if (wrap64 ((wrap64 (3 * x2)) + 1)) < (x0.length : Int) then (if ((rd_T25 x8 x2).f1) = (wrap64 (rd x0 (wrap64 ((wrap64 (3 * x2)) + 1)))) then (if 0 ≤ (wrap64 ((wrap64 (3 * x2)) + 2)) then (if (wrap64 ((wrap64 (3 * x2)) + 2)) < (x0.length : Int) then (some (((rd_T25 x8 x2).f2) == (IntKind.u64.wrap (rd x0 (wrap64 ((wrap64 (3 * x2)) + 2)))))) else (none)) else (none)) else (some false)) else (none)) else (none)) else (some false)) else (some false)) else (some false)) else (none)) else (none)) else (none))))
end
def poacherlaw05_DrawDecode.f (k : Nat) (l0 : List Int) (l1 : List Int) (a2 : Int) : Option (Bool) := (poacherlaw05_awake.f k).bind fun t132 => (if t132 = true then (if (l0.length : Int) > 200 then (poacherlaw05_DrawDecode.j0 k l0 l1 a2 t132 true) else (poacherlaw05_DrawDecode.j0 k l0 l1 a2 t132 (decide ((l1.length : Int) > 200)))) else (poacherlaw05_DrawDecode.j0 k l0 l1 a2 t132 true))
theorem poacherlaw05_DrawDecode.mono_l : ∀ k, (∀ y0 y1 y2 y3 y4, LeO (poacherlaw05_DrawDecode.j0 k y0 y1 y2 y3 y4) (poacherlaw05_DrawDecode.j0 (k + 1) y0 y1 y2 y3 y4)) ∧ (∀ y0 y1 y2 y3 y4, LeO (poacherlaw05_DrawDecode.j1 k y0 y1 y2 y3 y4) (poacherlaw05_DrawDecode.j1 (k + 1) y0 y1 y2 y3 y4))
  | 0 => ⟨fun _ _ _ _ _ r h => by simp [poacherlaw05_DrawDecode.j0] at h, fun _ _ _ _ _ r h => by simp [poacherlaw05_DrawDecode.j1] at h⟩
  | k + 1 => by
    obtain ⟨ih0, ih1⟩ := poacherlaw05_DrawDecode.mono_l k
    refine ⟨?_, ?_⟩
    · intro y0 y1 y2 y3 y4
      unfold poacherlaw05_DrawDecode.j0
      repeat' first
      | (with_reducible exact ih0 _ _ _ _ _)
      | (with_reducible exact ih1 _ _ _ _ _)
      | (with_reducible exact poacherlaw05_awake.mono _)
      | (with_reducible exact LeO.refl _)
      | (with_reducible exact LeO.none _)
      | (with_reducible refine LeO.ite ?_ ?_)
      | (with_reducible refine LeO.bind ?_ (fun _ => ?_))
      | exact ih0 _ _ _ _ _
      | exact ih1 _ _ _ _ _
      | exact poacherlaw05_awake.mono _
      | exact LeO.none _
      | refine LeO.ite ?_ ?_
      | refine LeO.bind ?_ (fun _ => ?_)
    · intro y0 y1 y2 y3 y4
      unfold poacherlaw05_DrawDecode.j1
      repeat' first
      | (with_reducible exact ih0 _ _ _ _ _)
      | (with_reducible exact ih1 _ _ _ _ _)
      | (with_reducible exact poacherlaw05_awake.mono _)
      | (with_reducible exact LeO.refl _)
      | (with_reducible exact LeO.none _)
      | (with_reducible refine LeO.ite ?_ ?_)
      | (with_reducible refine LeO.bind ?_ (fun _ => ?_))
      | exact ih0 _ _ _ _ _
      | exact ih1 _ _ _ _ _
      | exact poacherlaw05_awake.mono _
      | exact LeO.none _
      | refine LeO.ite ?_ ?_
      | refine LeO.bind ?_ (fun _ => ?_)
theorem poacherlaw05_DrawDecode.mono : ∀ a0 a1 a2 k, LeO (poacherlaw05_DrawDecode.f k a0 a1 a2) (poacherlaw05_DrawDecode.f (k + 1) a0 a1 a2) := by
  intro a0 a1 a2 k
  obtain ⟨ih0, ih1⟩ := poacherlaw05_DrawDecode.mono_l k
  unfold poacherlaw05_DrawDecode.f
  repeat' first
      | (with_reducible exact ih0 _ _ _ _ _)
      | (with_reducible exact ih1 _ _ _ _ _)
      | (with_reducible exact poacherlaw05_awake.mono _)
      | (with_reducible exact LeO.refl _)
      | (with_reducible exact LeO.none _)
      | (with_reducible refine LeO.ite ?_ ?_)
      | (with_reducible refine LeO.bind ?_ (fun _ => ?_))
      | exact ih0 _ _ _ _ _
      | exact ih1 _ _ _ _ _
      | exact poacherlaw05_awake.mono _
      | exact LeO.none _
      | refine LeO.ite ?_ ?_
      | refine LeO.bind ?_ (fun _ => ?_)
set_option maxHeartbeats 8000000 in
set_option maxRecDepth 100000 in
theorem poacherlaw05_DrawDecode.calls (k : Nat) (A0 : Option Addr) (c0 : Nat) (l0 : List Int) (A1 : Option Addr) (c1 : Nat) (l1 : List Int) (a2 : Int) (r : Bool) (w : World) (hr0 : Kd.C (Kd.int .u8) w A0 l0.length l0) (hc0 : l0.length ≤ c0) (hr1 : Kd.C (Kd.int .u8) w A1 l1.length l1) (hc1 : l1.length ≤ c1) (hr_ : Aside0 (r = true)) (h : poacherlaw05_DrawDecode.f k l0 l1 a2 = some r) :
    Calls Try.prog 6 #[.slice A0 l0.length c0, .slice A1 l1.length c1, .int .i64 a2] w fun e w' => e = .returned (.bool r) ∧ Below w.heap.size w w' := by
  have hu25 := Try.underlying25
  have HR0 := Aside0.mk hr0
  have HC0 := Aside0.mk hc0
  clear hr0 hc0
  have HR1 := Aside0.mk hr1
  have HC1 := Aside0.mk hc1
  clear hr1 hc1
  have HB := Aside0.mk (Below.refl w.heap.size w)
  have H : ((poacherlaw05_awake.f k).bind fun t132 => (if t132 = true then (if (l0.length : Int) > 200 then (poacherlaw05_DrawDecode.j0 k l0 l1 a2 t132 true) else (poacherlaw05_DrawDecode.j0 k l0 l1 a2 t132 (decide ((l1.length : Int) > 200)))) else (poacherlaw05_DrawDecode.j0 k l0 l1 a2 t132 true))) = some r := h
  clear h
  replace H := Option.bind_eq_some_iff.mp H
  obtain ⟨t132, A40, H⟩ := H
  replace H : (if t132 = true then (if (l0.length : Int) > 200 then (poacherlaw05_DrawDecode.j0 k l0 l1 a2 t132 true) else (poacherlaw05_DrawDecode.j0 k l0 l1 a2 t132 (decide ((l1.length : Int) > 200)))) else (poacherlaw05_DrawDecode.j0 k l0 l1 a2 t132 true)) = some r := H
  have A4 := Aside0.mk A40
  clear A40
  have HC5 := Aside0.mk H
  clear H
  go_enter Try.func6, Try.ntmps6
  go_upto_region 2 with (first | (go_at_call 10; (with_reducible refine (poacherlaw05_awake.calls k  t132 _ A4.out).mono ?_); (try clear A4); rintro e w6 ⟨rfl, hb⟩; have n0_ := Aside0.mk (below_step (by repeat (first | (with_reducible first | exact HB.out | apply below_alloc | apply pw_below_drewN | apply below_drew1) | exact HB.out)) hb); clear HB; have HB := n0_; clear n0_; (try clear hb); (try clear hb2); (try clear hk); (try clear hi)))
  repeat (go_quiet (first | (go_at_call 10; (with_reducible refine (poacherlaw05_awake.calls k  t132 _ A4.out).mono ?_); (try clear A4); rintro e w6 ⟨rfl, hb⟩; have n0_ := Aside0.mk (below_step (by repeat (first | (with_reducible first | exact HB.out | apply below_alloc | apply pw_below_drewN | apply below_drew1) | exact HB.out)) hb); clear HB; have HB := n0_; clear n0_; (try clear hb); (try clear hb2); (try clear hk); (try clear hi))); go_upto_region 2 with (first | (go_at_call 10; (with_reducible refine (poacherlaw05_awake.calls k  t132 _ A4.out).mono ?_); (try clear A4); rintro e w6 ⟨rfl, hb⟩; have n0_ := Aside0.mk (below_step (by repeat (first | (with_reducible first | exact HB.out | apply below_alloc | apply pw_below_drewN | apply below_drew1) | exact HB.out)) hb); clear HB; have HB := n0_; clear n0_; (try clear hb); (try clear hb2); (try clear hk); (try clear hi))))
  (try simp only [Act.put, List.setIfInBounds_toArray, List.set_cons_zero, List.set_cons_succ])
  go_cut [22] (fun v22 wc => ∃ (kq : Nat) (x22_4 : Bool), v22 = .bool x22_4 ∧ Aside0 (poacherlaw05_DrawDecode.j0 kq l0 l1 a2 t132 x22_4 = some r) ∧ Aside0 (kq ≤ k) ∧ Aside0 (Below w.heap.size w wc))
  case first =>
    have H := HC5.out
    clear HC5
    by_cases c7 : t132 = true
    · subst c7
      have H1 : (if (l0.length : Int) > 200 then (poacherlaw05_DrawDecode.j0 k l0 l1 a2 true true) else (poacherlaw05_DrawDecode.j0 k l0 l1 a2 true (decide ((l1.length : Int) > 200)))) = some r := by rw [if_pos rfl] at H; exact H
      clear H
      have H := H1
      clear H1
      by_cases c8 : (l0.length : Int) > 200
      · rw [if_pos c8] at H
        have c8b0 : decide (200 < (l0.length : Int)) = true := decide_eq_true c8
        have c8b1 : decide (200 < l0.length) = true := decide_eq_true (by omega)
        clear c8
        (first | rw [c8b0] | (simp only [i64_w, i32_w]; rw [c8b0]) | skip)
        have H' := Aside0.mk H
        clear H
        go_wp2
        repeat (go_quiet (fail); try go_wp2)
        go_meet
        case rel => exact ⟨_, (true), (by first | rfl | (simp; done) | (simp [*]; done)), H', ⟨by first | omega | exact Nat.le_refl _⟩, ⟨by repeat (first | (with_reducible first | exact HB.out | apply below_alloc | apply pw_below_drewN | apply below_drew1) | exact HB.out)⟩⟩
      · rw [if_neg c8] at H
        have c8b0 : decide (200 < (l0.length : Int)) = false := decide_eq_false c8
        have c8b1 : decide (200 < l0.length) = false := decide_eq_false (by omega)
        clear c8
        (first | rw [c8b0] | (simp only [i64_w, i32_w]; rw [c8b0]) | skip)
        have H' := Aside0.mk H
        clear H
        go_wp2
        repeat (go_quiet (fail); try go_wp2)
        go_meet
        case rel => exact ⟨_, (decide ((l1.length : Int) > 200)), (by first | rfl | (simp; done) | (simp [*]; done)), H', ⟨by first | omega | exact Nat.le_refl _⟩, ⟨by repeat (first | (with_reducible first | exact HB.out | apply below_alloc | apply pw_below_drewN | apply below_drew1) | exact HB.out)⟩⟩
    · replace c7 := Bool.eq_false_iff.mpr c7
      subst c7
      have H1 : (poacherlaw05_DrawDecode.j0 k l0 l1 a2 false true) = some r := by rw [if_neg (show ¬ (false = true) by decide)] at H; exact H
      clear H
      have H := H1
      clear H1
      have H' := Aside0.mk H
      clear H
      go_wp2
      repeat (go_quiet (fail); try go_wp2)
      go_meet
      case rel => exact ⟨_, (true), (by first | rfl | (simp; done) | (simp [*]; done)), H', ⟨by first | omega | exact Nat.le_refl _⟩, ⟨by repeat (first | (with_reducible first | exact HB.out | apply below_alloc | apply pw_below_drewN | apply below_drew1) | exact HB.out)⟩⟩
  case rest =>
    clear HC5
    try clear c1
    try clear p2
    try clear c6
    try clear c7
    try clear c8
    try clear c8b0
    try clear c8b1
    obtain ⟨kq, x22_4, rfl, HA, HJ4, HB⟩ := hcut
    cases kq with
    | zero => exact absurd HA.out (by simp [poacherlaw05_DrawDecode.j0])
    | succ kj4 =>
      have H := HA.out
      clear HA
      simp only [poacherlaw05_DrawDecode.j0] at H
      by_cases c9 : x22_4 = true
      · subst c9
        have H1 : (some t132) = some r := by rw [if_pos rfl] at H; exact H
        clear H
        have H := H1
        clear H1
        obtain rfl := Option.some.inj H
        clear hr_
        go_wp2
        repeat (go_quiet (fail); try go_wp2)
        go_ret
        exact ⟨by first | rfl | (simp [errW_none, errW_some] <;> rfl) | (simp [*, errW_none, errW_some] <;> rfl), by repeat (first | (with_reducible first | exact HB.out | apply below_alloc | apply pw_below_drewN | apply below_drew1) | exact HB.out)⟩
      · replace c9 := Bool.eq_false_iff.mpr c9
        subst c9
        have H1 : ((draw_Decode.f l0).bind fun t133 => (if ([] : List Int).length + l0.length < 140737488355328 then ((some (([] : List Int) ++ l0 : List Int)).bind fun y136 => (if y136.length + l1.length < 140737488355328 then ((draw_Decode.f (y136 ++ l1)).bind fun t142 => (if (t133.length : Int) = (wrap64 ((l0.length : Int) / 3)) then (poacherlaw05_DrawDecode.j1 kj4 l0 a2 t133 t142 ((t142.length : Int) != (wrap64 (Int.tdiv (wrap64 ((l0.length : Int) + (l1.length : Int))) 3)))) else (poacherlaw05_DrawDecode.j1 kj4 l0 a2 t133 t142 true))) else (none))) else (none))) = some r := by rw [if_neg (show ¬ (false = true) by decide)] at H; exact H
        clear H
        have H := H1
        clear H1
        replace H := Option.bind_eq_some_iff.mp H
        obtain ⟨t133, A100, H⟩ := H
        replace H : (if ([] : List Int).length + l0.length < 140737488355328 then ((some (([] : List Int) ++ l0 : List Int)).bind fun y136 => (if y136.length + l1.length < 140737488355328 then ((draw_Decode.f (y136 ++ l1)).bind fun t142 => (if (t133.length : Int) = (wrap64 ((l0.length : Int) / 3)) then (poacherlaw05_DrawDecode.j1 kj4 l0 a2 t133 t142 ((t142.length : Int) != (wrap64 (Int.tdiv (wrap64 ((l0.length : Int) + (l1.length : Int))) 3)))) else (poacherlaw05_DrawDecode.j1 kj4 l0 a2 t133 t142 true))) else (none))) else (none)) = some r := H
        have A10 := Aside0.mk A100
        clear A100
        by_cases c11 : ([] : List Int).length + l0.length < 140737488355328
        · rw [if_pos c11] at H
          have LMc11 := Aside0.mk c11
          clear c11
          obtain ⟨y136, hy136⟩ : ∃ y_ : List Int, y_ = (([] : List Int) ++ l0) := ⟨_, rfl⟩
          replace H : (if y136.length + l1.length < 140737488355328 then ((draw_Decode.f (y136 ++ l1)).bind fun t142 => (if (t133.length : Int) = (wrap64 ((l0.length : Int) / 3)) then (poacherlaw05_DrawDecode.j1 kj4 l0 a2 t133 t142 ((t142.length : Int) != (wrap64 (Int.tdiv (wrap64 ((l0.length : Int) + (l1.length : Int))) 3)))) else (poacherlaw05_DrawDecode.j1 kj4 l0 a2 t133 t142 true))) else (none)) = some r := by first | (rw [hy136]; with_reducible exact H) | (have H2_ := (Option.bind_some _ _).symm.trans H; rw [hy136]; with_reducible exact H2_) | (have H2_ := (Option.bind_some _ _).symm.trans H; with_reducible exact H2_) | with_reducible exact H | (rw [hy136]; exact H) | exact H
          have Ny136 := Aside0.mk hy136
          clear hy136
          by_cases c12 : y136.length + l1.length < 140737488355328
          · rw [if_pos c12] at H
            have LMc12 := Aside0.mk c12
            clear c12
            obtain ⟨y139, hy139⟩ : ∃ y_ : List Int, y_ = (y136 ++ l1) := ⟨_, rfl⟩
            replace H : ((draw_Decode.f y139).bind fun t142 => (if (t133.length : Int) = (wrap64 ((l0.length : Int) / 3)) then (poacherlaw05_DrawDecode.j1 kj4 l0 a2 t133 t142 ((t142.length : Int) != (wrap64 (Int.tdiv (wrap64 ((l0.length : Int) + (l1.length : Int))) 3)))) else (poacherlaw05_DrawDecode.j1 kj4 l0 a2 t133 t142 true))) = some r := by first | (rw [hy139]; with_reducible exact H) | (have H2_ := (Option.bind_some _ _).symm.trans H; rw [hy139]; with_reducible exact H2_) | (have H2_ := (Option.bind_some _ _).symm.trans H; with_reducible exact H2_) | with_reducible exact H | (rw [hy139]; exact H) | exact H
            have Ny139 := Aside0.mk hy139
            clear hy139
            replace H := Option.bind_eq_some_iff.mp H
            obtain ⟨t142, A130, H⟩ := H
            replace H : (if (t133.length : Int) = (wrap64 ((l0.length : Int) / 3)) then (poacherlaw05_DrawDecode.j1 kj4 l0 a2 t133 t142 ((t142.length : Int) != (wrap64 (Int.tdiv (wrap64 ((l0.length : Int) + (l1.length : Int))) 3)))) else (poacherlaw05_DrawDecode.j1 kj4 l0 a2 t133 t142 true)) = some r := H
            have A13 := Aside0.mk A130
            clear A130
            have HC14 := Aside0.mk H
            clear H
            go_upto_region 6 with (first | (go_at_call 12; (with_reducible refine (draw_Decode.calls _ _ l0 t133 _ ?side1 ?side2 A10.out).mono ?_); (try clear A10); (case side1 => repeat (first | exact (Kd.C_below HR0.out HB.out) | (with_reducible refine Kd.C_alloc ?_ _) | (with_reducible refine Kd.C_drewN ?_ _) | (with_reducible refine Kd.C_drew ?_))); (case side2 => exact HC0.out); rintro e w15 ⟨v134, rfl, ho0, hb⟩; have n0_ := Aside0.mk (Kd.R_lower ho0 (below_size (by repeat (first | (with_reducible first | exact HB.out | apply below_alloc | apply pw_below_drewN | apply below_drew1) | exact HB.out)))); have n1_ := Aside0.mk (below_step (by repeat (first | (with_reducible first | exact HB.out | apply below_alloc | apply pw_below_drewN | apply below_drew1) | exact HB.out)) hb); clear HB; have HO135 := n0_; have HB := n1_; clear n0_ n1_; (try clear hb); (try clear hb2); (try clear hk); (try clear hi); (try clear ho0)) | ((with_reducible refine gate_builtin (b := .append) (xs := #[.const (.slice none 0 0), .tmp 26]) rfl ?_); (try (refine gate_guard (by rfl) ?_; dsimp only)); at_builtin; refine Kd.R_append_rows (Kd.int .u8) (w0 := w) w.heap.size rfl (.const (.slice none 0 0)) (.tmp 26) 22 5 (.int .u8 0) 1 rfl Try.underlying22 info5 rfl (by decide) (by omega) (.slice none 0 0) ([] : List Int) l0 _ _ _ (fun _ => True) (fun _ => False) rfl rfl ?aO ?aR (fun _ _ h => h) (fun _ h => h.elim) ?aF ?aB ?aS ?aL ?_; (case aR => repeat (first | exact (Kd.C_below HR0.out HB.out) | (with_reducible refine Kd.C_alloc ?_ _) | (with_reducible refine Kd.C_drewN ?_ _) | (with_reducible refine Kd.C_drew ?_))); (case aB => exact (by repeat (first | (with_reducible first | exact HB.out | apply below_alloc | apply pw_below_drewN | apply below_drew1) | exact HB.out))); (case aF => exact (fun _ _ => trivial)); (case aO => exact ((Kd.R_nil _ _ _ _ (fun _ => True)))); (case aS => exact (below_size (by repeat (first | (with_reducible first | exact HB.out | apply below_alloc | apply pw_below_drewN | apply below_drew1) | exact HB.out)))); (case aL => have := LMc11.out; omega); intro v137 w16 ho hb hg hat; rw [← Ny136.out] at ho; have n0_ := Aside0.mk (Kd.R_grown (by (with_reducible repeat (first | apply Kd.R_alloc | apply Kd.R_drewN | apply Kd.R_drew)); exact HO135.out) hg (fun _ _ => by simp [Value.ownBlock])); have n1_ := Aside0.mk (hb); have n2_ := Aside0.mk (ho); clear HO135; clear HB; have HO135 := n0_; have HB := n1_; have HO138 := n2_; clear n0_ n1_ n2_; clear ho hb hg hat) | ((with_reducible refine gate_builtin (b := .append) (xs := #[.tmp 27, .tmp 28]) rfl ?_); (try (refine gate_guard (by rfl) ?_; dsimp only)); at_builtin; refine Kd.R_append_rows (Kd.int .u8) (w0 := w) w.heap.size rfl (.tmp 27) (.tmp 28) 22 5 (.int .u8 0) 1 rfl Try.underlying22 info5 rfl (by decide) (by omega) v137 y136 l1 _ _ _ (fun _ => True) (fun _ => False) rfl rfl ?aO ?aR (fun _ _ h => h) (fun _ h => h.elim) ?aF ?aB ?aS ?aL ?_; (case aR => repeat (first | exact (Kd.C_below HR1.out HB.out) | (with_reducible refine Kd.C_alloc ?_ _) | (with_reducible refine Kd.C_drewN ?_ _) | (with_reducible refine Kd.C_drew ?_))); (case aB => exact (by repeat (first | (with_reducible first | exact HB.out | apply below_alloc | apply pw_below_drewN | apply below_drew1) | exact HB.out))); (case aF => exact (fun _ _ => trivial)); (case aO => exact (by (with_reducible repeat (first | apply Kd.R_alloc | apply Kd.R_drewN | apply Kd.R_drew)); exact HO138.out)); (case aS => exact (below_size (by repeat (first | (with_reducible first | exact HB.out | apply below_alloc | apply pw_below_drewN | apply below_drew1) | exact HB.out)))); (case aL => have := LMc12.out; omega); intro v140 w17 ho hb hg hat; rw [← Ny139.out] at ho; have n0_ := Aside0.mk (Kd.R_over' (by (with_reducible repeat (first | apply Kd.R_alloc | apply Kd.R_drewN | apply Kd.R_drew)); exact HO135.out) (Kd.R_typed (by (with_reducible repeat (first | apply Kd.R_alloc | apply Kd.R_drewN | apply Kd.R_drew)); exact HO138.out)) (by decide) hg); have n1_ := Aside0.mk (hb); have n2_ := Aside0.mk (ho); clear HO135; clear HB; clear HO138; have HO135 := n0_; have HB := n1_; have HO141 := n2_; clear n0_ n1_ n2_; clear ho hb hg hat; obtain ⟨Ao18, co18, eo18⟩ := Kd.R_slice HO141.out; subst eo18) | (go_at_call 12; (with_reducible refine (draw_Decode.calls _ _ y139 t142 _ ?side1 ?side2 A13.out).mono ?_); (try clear A13); (case side1 => repeat (first | exact (Kd.R_reads' HO141.out).2.2 | (with_reducible refine Kd.C_alloc ?_ _) | (with_reducible refine Kd.C_drewN ?_ _) | (with_reducible refine Kd.C_drew ?_))); (case side2 => exact (Kd.R_reads' HO141.out).2.1); rintro e w19 ⟨v143, rfl, ho0, hb⟩; have n0_ := Aside0.mk (Kd.R_elder' (by (with_reducible repeat (first | apply Kd.R_alloc | apply Kd.R_drewN | apply Kd.R_drew)); exact HO135.out) (Kd.R_base ho0) hb); have n1_ := Aside0.mk (Kd.R_below (by (with_reducible repeat (first | apply Kd.R_alloc | apply Kd.R_drewN | apply Kd.R_drew)); exact HO141.out) hb); have n2_ := Aside0.mk (Kd.R_lower (Kd.R_new' ho0 (Kd.R_lt (by (with_reducible repeat (first | apply Kd.R_alloc | apply Kd.R_drewN | apply Kd.R_drew)); exact HO135.out))) (below_size (by repeat (first | (with_reducible first | exact HB.out | apply below_alloc | apply pw_below_drewN | apply below_drew1) | exact HB.out)))); have n3_ := Aside0.mk (below_step (by repeat (first | (with_reducible first | exact HB.out | apply below_alloc | apply pw_below_drewN | apply below_drew1) | exact HB.out)) hb); clear HO135; clear HO141; clear HB; have HO135 := n0_; have HO141 := n1_; have HO144 := n2_; have HB := n3_; clear n0_ n1_ n2_ n3_; (try clear hb); (try clear hb2); (try clear hk); (try clear hi); (try clear ho0)))
            repeat (go_quiet (first | (go_at_call 12; (with_reducible refine (draw_Decode.calls _ _ l0 t133 _ ?side1 ?side2 A10.out).mono ?_); (try clear A10); (case side1 => repeat (first | exact (Kd.C_below HR0.out HB.out) | (with_reducible refine Kd.C_alloc ?_ _) | (with_reducible refine Kd.C_drewN ?_ _) | (with_reducible refine Kd.C_drew ?_))); (case side2 => exact HC0.out); rintro e w15 ⟨v134, rfl, ho0, hb⟩; have n0_ := Aside0.mk (Kd.R_lower ho0 (below_size (by repeat (first | (with_reducible first | exact HB.out | apply below_alloc | apply pw_below_drewN | apply below_drew1) | exact HB.out)))); have n1_ := Aside0.mk (below_step (by repeat (first | (with_reducible first | exact HB.out | apply below_alloc | apply pw_below_drewN | apply below_drew1) | exact HB.out)) hb); clear HB; have HO135 := n0_; have HB := n1_; clear n0_ n1_; (try clear hb); (try clear hb2); (try clear hk); (try clear hi); (try clear ho0)) | ((with_reducible refine gate_builtin (b := .append) (xs := #[.const (.slice none 0 0), .tmp 26]) rfl ?_); (try (refine gate_guard (by rfl) ?_; dsimp only)); at_builtin; refine Kd.R_append_rows (Kd.int .u8) (w0 := w) w.heap.size rfl (.const (.slice none 0 0)) (.tmp 26) 22 5 (.int .u8 0) 1 rfl Try.underlying22 info5 rfl (by decide) (by omega) (.slice none 0 0) ([] : List Int) l0 _ _ _ (fun _ => True) (fun _ => False) rfl rfl ?aO ?aR (fun _ _ h => h) (fun _ h => h.elim) ?aF ?aB ?aS ?aL ?_; (case aR => repeat (first | exact (Kd.C_below HR0.out HB.out) | (with_reducible refine Kd.C_alloc ?_ _) | (with_reducible refine Kd.C_drewN ?_ _) | (with_reducible refine Kd.C_drew ?_))); (case aB => exact (by repeat (first | (with_reducible first | exact HB.out | apply below_alloc | apply pw_below_drewN | apply below_drew1) | exact HB.out))); (case aF => exact (fun _ _ => trivial)); (case aO => exact ((Kd.R_nil _ _ _ _ (fun _ => True)))); (case aS => exact (below_size (by repeat (first | (with_reducible first | exact HB.out | apply below_alloc | apply pw_below_drewN | apply below_drew1) | exact HB.out)))); (case aL => have := LMc11.out; omega); intro v137 w16 ho hb hg hat; rw [← Ny136.out] at ho; have n0_ := Aside0.mk (Kd.R_grown (by (with_reducible repeat (first | apply Kd.R_alloc | apply Kd.R_drewN | apply Kd.R_drew)); exact HO135.out) hg (fun _ _ => by simp [Value.ownBlock])); have n1_ := Aside0.mk (hb); have n2_ := Aside0.mk (ho); clear HO135; clear HB; have HO135 := n0_; have HB := n1_; have HO138 := n2_; clear n0_ n1_ n2_; clear ho hb hg hat) | ((with_reducible refine gate_builtin (b := .append) (xs := #[.tmp 27, .tmp 28]) rfl ?_); (try (refine gate_guard (by rfl) ?_; dsimp only)); at_builtin; refine Kd.R_append_rows (Kd.int .u8) (w0 := w) w.heap.size rfl (.tmp 27) (.tmp 28) 22 5 (.int .u8 0) 1 rfl Try.underlying22 info5 rfl (by decide) (by omega) v137 y136 l1 _ _ _ (fun _ => True) (fun _ => False) rfl rfl ?aO ?aR (fun _ _ h => h) (fun _ h => h.elim) ?aF ?aB ?aS ?aL ?_; (case aR => repeat (first | exact (Kd.C_below HR1.out HB.out) | (with_reducible refine Kd.C_alloc ?_ _) | (with_reducible refine Kd.C_drewN ?_ _) | (with_reducible refine Kd.C_drew ?_))); (case aB => exact (by repeat (first | (with_reducible first | exact HB.out | apply below_alloc | apply pw_below_drewN | apply below_drew1) | exact HB.out))); (case aF => exact (fun _ _ => trivial)); (case aO => exact (by (with_reducible repeat (first | apply Kd.R_alloc | apply Kd.R_drewN | apply Kd.R_drew)); exact HO138.out)); (case aS => exact (below_size (by repeat (first | (with_reducible first | exact HB.out | apply below_alloc | apply pw_below_drewN | apply below_drew1) | exact HB.out)))); (case aL => have := LMc12.out; omega); intro v140 w17 ho hb hg hat; rw [← Ny139.out] at ho; have n0_ := Aside0.mk (Kd.R_over' (by (with_reducible repeat (first | apply Kd.R_alloc | apply Kd.R_drewN | apply Kd.R_drew)); exact HO135.out) (Kd.R_typed (by (with_reducible repeat (first | apply Kd.R_alloc | apply Kd.R_drewN | apply Kd.R_drew)); exact HO138.out)) (by decide) hg); have n1_ := Aside0.mk (hb); have n2_ := Aside0.mk (ho); clear HO135; clear HB; clear HO138; have HO135 := n0_; have HB := n1_; have HO141 := n2_; clear n0_ n1_ n2_; clear ho hb hg hat; obtain ⟨Ao18, co18, eo18⟩ := Kd.R_slice HO141.out; subst eo18) | (go_at_call 12; (with_reducible refine (draw_Decode.calls _ _ y139 t142 _ ?side1 ?side2 A13.out).mono ?_); (try clear A13); (case side1 => repeat (first | exact (Kd.R_reads' HO141.out).2.2 | (with_reducible refine Kd.C_alloc ?_ _) | (with_reducible refine Kd.C_drewN ?_ _) | (with_reducible refine Kd.C_drew ?_))); (case side2 => exact (Kd.R_reads' HO141.out).2.1); rintro e w19 ⟨v143, rfl, ho0, hb⟩; have n0_ := Aside0.mk (Kd.R_elder' (by (with_reducible repeat (first | apply Kd.R_alloc | apply Kd.R_drewN | apply Kd.R_drew)); exact HO135.out) (Kd.R_base ho0) hb); have n1_ := Aside0.mk (Kd.R_below (by (with_reducible repeat (first | apply Kd.R_alloc | apply Kd.R_drewN | apply Kd.R_drew)); exact HO141.out) hb); have n2_ := Aside0.mk (Kd.R_lower (Kd.R_new' ho0 (Kd.R_lt (by (with_reducible repeat (first | apply Kd.R_alloc | apply Kd.R_drewN | apply Kd.R_drew)); exact HO135.out))) (below_size (by repeat (first | (with_reducible first | exact HB.out | apply below_alloc | apply pw_below_drewN | apply below_drew1) | exact HB.out)))); have n3_ := Aside0.mk (below_step (by repeat (first | (with_reducible first | exact HB.out | apply below_alloc | apply pw_below_drewN | apply below_drew1) | exact HB.out)) hb); clear HO135; clear HO141; clear HB; have HO135 := n0_; have HO141 := n1_; have HO144 := n2_; have HB := n3_; clear n0_ n1_ n2_ n3_; (try clear hb); (try clear hb2); (try clear hk); (try clear hi); (try clear ho0))); go_upto_region 6 with (first | (go_at_call 12; (with_reducible refine (draw_Decode.calls _ _ l0 t133 _ ?side1 ?side2 A10.out).mono ?_); (try clear A10); (case side1 => repeat (first | exact (Kd.C_below HR0.out HB.out) | (with_reducible refine Kd.C_alloc ?_ _) | (with_reducible refine Kd.C_drewN ?_ _) | (with_reducible refine Kd.C_drew ?_))); (case side2 => exact HC0.out); rintro e w15 ⟨v134, rfl, ho0, hb⟩; have n0_ := Aside0.mk (Kd.R_lower ho0 (below_size (by repeat (first | (with_reducible first | exact HB.out | apply below_alloc | apply pw_below_drewN | apply below_drew1) | exact HB.out)))); have n1_ := Aside0.mk (below_step (by repeat (first | (with_reducible first | exact HB.out | apply below_alloc | apply pw_below_drewN | apply below_drew1) | exact HB.out)) hb); clear HB; have HO135 := n0_; have HB := n1_; clear n0_ n1_; (try clear hb); (try clear hb2); (try clear hk); (try clear hi); (try clear ho0)) | ((with_reducible refine gate_builtin (b := .append) (xs := #[.const (.slice none 0 0), .tmp 26]) rfl ?_); (try (refine gate_guard (by rfl) ?_; dsimp only)); at_builtin; refine Kd.R_append_rows (Kd.int .u8) (w0 := w) w.heap.size rfl (.const (.slice none 0 0)) (.tmp 26) 22 5 (.int .u8 0) 1 rfl Try.underlying22 info5 rfl (by decide) (by omega) (.slice none 0 0) ([] : List Int) l0 _ _ _ (fun _ => True) (fun _ => False) rfl rfl ?aO ?aR (fun _ _ h => h) (fun _ h => h.elim) ?aF ?aB ?aS ?aL ?_; (case aR => repeat (first | exact (Kd.C_below HR0.out HB.out) | (with_reducible refine Kd.C_alloc ?_ _) | (with_reducible refine Kd.C_drewN ?_ _) | (with_reducible refine Kd.C_drew ?_))); (case aB => exact (by repeat (first | (with_reducible first | exact HB.out | apply below_alloc | apply pw_below_drewN | apply below_drew1) | exact HB.out))); (case aF => exact (fun _ _ => trivial)); (case aO => exact ((Kd.R_nil _ _ _ _ (fun _ => True)))); (case aS => exact (below_size (by repeat (first | (with_reducible first | exact HB.out | apply below_alloc | apply pw_below_drewN | apply below_drew1) | exact HB.out)))); (case aL => have := LMc11.out; omega); intro v137 w16 ho hb hg hat; rw [← Ny136.out] at ho; have n0_ := Aside0.mk (Kd.R_grown (by (with_reducible repeat (first | apply Kd.R_alloc | apply Kd.R_drewN | apply Kd.R_drew)); exact HO135.out) hg (fun _ _ => by simp [Value.ownBlock])); have n1_ := Aside0.mk (hb); have n2_ := Aside0.mk (ho); clear HO135; clear HB; have HO135 := n0_; have HB := n1_; have HO138 := n2_; clear n0_ n1_ n2_; clear ho hb hg hat) | ((with_reducible refine gate_builtin (b := .append) (xs := #[.tmp 27, .tmp 28]) rfl ?_); (try (refine gate_guard (by rfl) ?_; dsimp only)); at_builtin; refine Kd.R_append_rows (Kd.int .u8) (w0 := w) w.heap.size rfl (.tmp 27) (.tmp 28) 22 5 (.int .u8 0) 1 rfl Try.underlying22 info5 rfl (by decide) (by omega) v137 y136 l1 _ _ _ (fun _ => True) (fun _ => False) rfl rfl ?aO ?aR (fun _ _ h => h) (fun _ h => h.elim) ?aF ?aB ?aS ?aL ?_; (case aR => repeat (first | exact (Kd.C_below HR1.out HB.out) | (with_reducible refine Kd.C_alloc ?_ _) | (with_reducible refine Kd.C_drewN ?_ _) | (with_reducible refine Kd.C_drew ?_))); (case aB => exact (by repeat (first | (with_reducible first | exact HB.out | apply below_alloc | apply pw_below_drewN | apply below_drew1) | exact HB.out))); (case aF => exact (fun _ _ => trivial)); (case aO => exact (by (with_reducible repeat (first | apply Kd.R_alloc | apply Kd.R_drewN | apply Kd.R_drew)); exact HO138.out)); (case aS => exact (below_size (by repeat (first | (with_reducible first | exact HB.out | apply below_alloc | apply pw_below_drewN | apply below_drew1) | exact HB.out)))); (case aL => have := LMc12.out; omega); intro v140 w17 ho hb hg hat; rw [← Ny139.out] at ho; have n0_ := Aside0.mk (Kd.R_over' (by (with_reducible repeat (first | apply Kd.R_alloc | apply Kd.R_drewN | apply Kd.R_drew)); exact HO135.out) (Kd.R_typed (by (with_reducible repeat (first | apply Kd.R_alloc | apply Kd.R_drewN | apply Kd.R_drew)); exact HO138.out)) (by decide) hg); have n1_ := Aside0.mk (hb); have n2_ := Aside0.mk (ho); clear HO135; clear HB; clear HO138; have HO135 := n0_; have HB := n1_; have HO141 := n2_; clear n0_ n1_ n2_; clear ho hb hg hat; obtain ⟨Ao18, co18, eo18⟩ := Kd.R_slice HO141.out; subst eo18) | (go_at_call 12; (with_reducible refine (draw_Decode.calls _ _ y139 t142 _ ?side1 ?side2 A13.out).mono ?_); (try clear A13); (case side1 => repeat (first | exact (Kd.R_reads' HO141.out).2.2 | (with_reducible refine Kd.C_alloc ?_ _) | (with_reducible refine Kd.C_drewN ?_ _) | (with_reducible refine Kd.C_drew ?_))); (case side2 => exact (Kd.R_reads' HO141.out).2.1); rintro e w19 ⟨v143, rfl, ho0, hb⟩; have n0_ := Aside0.mk (Kd.R_elder' (by (with_reducible repeat (first | apply Kd.R_alloc | apply Kd.R_drewN | apply Kd.R_drew)); exact HO135.out) (Kd.R_base ho0) hb); have n1_ := Aside0.mk (Kd.R_below (by (with_reducible repeat (first | apply Kd.R_alloc | apply Kd.R_drewN | apply Kd.R_drew)); exact HO141.out) hb); have n2_ := Aside0.mk (Kd.R_lower (Kd.R_new' ho0 (Kd.R_lt (by (with_reducible repeat (first | apply Kd.R_alloc | apply Kd.R_drewN | apply Kd.R_drew)); exact HO135.out))) (below_size (by repeat (first | (with_reducible first | exact HB.out | apply below_alloc | apply pw_below_drewN | apply below_drew1) | exact HB.out)))); have n3_ := Aside0.mk (below_step (by repeat (first | (with_reducible first | exact HB.out | apply below_alloc | apply pw_below_drewN | apply below_drew1) | exact HB.out)) hb); clear HO135; clear HO141; clear HB; have HO135 := n0_; have HO141 := n1_; have HO144 := n2_; have HB := n3_; clear n0_ n1_ n2_ n3_; (try clear hb); (try clear hb2); (try clear hk); (try clear hi); (try clear ho0))))
            (try simp only [Act.put, List.setIfInBounds_toArray, List.set_cons_zero, List.set_cons_succ])
            go_cut [47] (fun v47 wc => ∃ (kq : Nat) (x47_13 : Bool), v47 = .bool x47_13 ∧ Aside0 (poacherlaw05_DrawDecode.j1 kq l0 a2 t133 t142 x47_13 = some r) ∧ Aside0 (kq ≤ kj4) ∧ Aside0 (Kd.R k25 25 wc w.heap.size (fun k_ => some k_ ≠ (v143 : Value).ownBlock) v134 t133) ∧ Aside0 (Kd.R k25 25 wc w.heap.size (fun k_ => some k_ ≠ (v134 : Value).ownBlock) v143 t142) ∧ Aside0 (Below w.heap.size w wc))
            case first =>
              have H := HC14.out
              clear HC14
              by_cases c20 : (t133.length : Int) = (wrap64 ((l0.length : Int) / 3))
              · rw [if_pos c20] at H
                have c20b0 : ((t133.length : Int) == (wrap64 ((l0.length : Int) / 3))) = true := beq_iff_eq.mpr c20
                have c20b1 : ((t133.length : Int) != (wrap64 ((l0.length : Int) / 3))) = false := bne_eq_false_iff_eq.mpr c20
                clear c20
                (first | rw [c20b0] | (simp only [i64_w, i32_w]; rw [c20b0]) | skip)
                have H' := Aside0.mk H
                clear H
                obtain ⟨Ao21, co21, eo21⟩ := Kd.R_slice HO135.out
                subst eo21
                obtain ⟨Ao22, co22, eo22⟩ := Kd.R_slice HO144.out
                subst eo22
                go_wp2
                repeat (go_quiet (fail); try go_wp2)
                go_meet
                case rel => exact ⟨_, (((t142.length : Int) != (wrap64 (Int.tdiv (wrap64 ((l0.length : Int) + (l1.length : Int))) 3)))), (by first | rfl | (simp; done) | (simp [*]; done)), H', ⟨by have := HJ4.out; first | omega | exact Nat.le_refl _⟩, ⟨by (with_reducible repeat (first | apply Kd.R_alloc | apply Kd.R_drewN | apply Kd.R_drew)); exact Kd.R_mono HO135.out (fun _ hk => hk.2)⟩, ⟨by (with_reducible repeat (first | apply Kd.R_alloc | apply Kd.R_drewN | apply Kd.R_drew)); exact Kd.R_mono HO144.out (fun _ hk => hk.2)⟩, ⟨by repeat (first | (with_reducible first | exact HB.out | apply below_alloc | apply pw_below_drewN | apply below_drew1) | exact HB.out)⟩⟩
              · rw [if_neg c20] at H
                have c20b0 : ((t133.length : Int) == (wrap64 ((l0.length : Int) / 3))) = false := beq_eq_false_iff_ne.mpr c20
                have c20b1 : ((t133.length : Int) != (wrap64 ((l0.length : Int) / 3))) = true := bne_iff_ne.mpr c20
                (first | rw [c20b0] | (simp only [i64_w, i32_w]; rw [c20b0]) | skip)
                have H' := Aside0.mk H
                clear H
                obtain ⟨Ao23, co23, eo23⟩ := Kd.R_slice HO135.out
                subst eo23
                go_wp2
                repeat (go_quiet (fail); try go_wp2)
                go_meet
                case rel => exact ⟨_, (true), (by first | rfl | (simp; done) | (simp [*]; done)), H', ⟨by have := HJ4.out; first | omega | exact Nat.le_refl _⟩, ⟨by (with_reducible repeat (first | apply Kd.R_alloc | apply Kd.R_drewN | apply Kd.R_drew)); exact Kd.R_mono HO135.out (fun _ hk => hk.2)⟩, ⟨by (with_reducible repeat (first | apply Kd.R_alloc | apply Kd.R_drewN | apply Kd.R_drew)); exact Kd.R_mono HO144.out (fun _ hk => hk.2)⟩, ⟨by repeat (first | (with_reducible first | exact HB.out | apply below_alloc | apply pw_below_drewN | apply below_drew1) | exact HB.out)⟩⟩
            case rest =>
              clear HC14
              try clear c1
              try clear c2
              try clear p2
              try clear c6
              try clear p6
              try clear c7
              try clear c8
              try clear c8b0
              try clear c8b1
              try clear c9
              try clear c11
              try clear c12
              try clear c20
              try clear c20b0
              try clear c20b1
              try clear p2
              obtain ⟨kq, x47_13, rfl, HA, HJ13, HO_8, HO_9, HB⟩ := hcut
              cases kq with
              | zero => exact absurd HA.out (by simp [poacherlaw05_DrawDecode.j1])
              | succ kj13 =>
                have H := HA.out
                clear HA
                simp only [poacherlaw05_DrawDecode.j1] at H
                by_cases c24 : x47_13 = true
                · subst c24
                  have H1 : (some false) = some r := by rw [if_pos rfl] at H; exact H
                  clear H
                  have H := H1
                  clear H1
                  exact absurd (H.trans (congrArg some hr_.out)) (by simp)
                · replace c24 := Bool.eq_false_iff.mpr c24
                  subst c24
                  have H1 : (if a2 < 0 then (some true) else (if a2 ≥ (t133.length : Int) then (some true) else (if 0 ≤ a2 then (if a2 < (t133.length : Int) then (if a2 < (t142.length : Int) then (if (((rd_T25 t133 a2).f0) == ((rd_T25 t142 a2).f0) && (((rd_T25 t133 a2).f1) == ((rd_T25 t142 a2).f1) && (((rd_T25 t133 a2).f2) == ((rd_T25 t142 a2).f2)))) = true then (if ((rd_T25 t133 a2).f0) ≥ 0 then (if ((rd_T25 t133 a2).f0) < 4 then (if 0 ≤ (wrap64 ((wrap64 (3 * a2)) + 1)) then (if (wrap64 ((wrap64 (3 * a2)) + 1)) < (l0.length : Int) then (if ((rd_T25 t133 a2).f1) = (wrap64 (rd l0 (wrap64 ((wrap64 (3 * a2)) + 1)))) then (if 0 ≤ (wrap64 ((wrap64 (3 * a2)) + 2)) then (if (wrap64 ((wrap64 (3 * a2)) + 2)) < (l0.length : Int) then (some (((rd_T25 t133 a2).f2) == (IntKind.u64.wrap (rd l0 (wrap64 ((wrap64 (3 * a2)) + 2)))))) else (none)) else (none)) else (some false)) else (none)) else (none)) else (some false)) else (some false)) else (some false)) else (none)) else (none)) else (none)))) = some r := by rw [if_neg (show ¬ (false = true) by decide)] at H; exact H
                  clear H
                  have H := H1
                  clear H1
                  by_cases c25 : a2 < 0
                  · rw [if_pos c25] at H
                    have c25b0 : decide (a2 < 0) = true := decide_eq_true c25
                    clear c25
                    obtain rfl := Option.some.inj H
                    clear hr_
                    go_wp2
                    repeat (go_quiet (fail); try go_wp2)
                    go_ret
                    exact ⟨by first | rfl | (simp [errW_none, errW_some] <;> rfl) | (simp [*, errW_none, errW_some] <;> rfl), by repeat (first | (with_reducible first | exact HB.out | apply below_alloc | apply pw_below_drewN | apply below_drew1) | exact HB.out)⟩
                  · rw [if_neg c25] at H
                    have c25b0 : decide (a2 < 0) = false := decide_eq_false c25
                    clear c25
                    by_cases c26 : a2 ≥ (t133.length : Int)
                    · rw [if_pos c26] at H
                      have c26b0 : decide ((t133.length : Int) ≤ a2) = true := decide_eq_true c26
                      clear c26
                      obtain rfl := Option.some.inj H
                      clear hr_
                      obtain ⟨Ao27, co27, eo27⟩ := Kd.R_slice HO_8.out
                      subst eo27
                      go_wp2
                      repeat (go_quiet (fail); try go_wp2)
                      go_ret
                      exact ⟨by first | rfl | (simp [errW_none, errW_some] <;> rfl) | (simp [*, errW_none, errW_some] <;> rfl), by repeat (first | (with_reducible first | exact HB.out | apply below_alloc | apply pw_below_drewN | apply below_drew1) | exact HB.out)⟩
                    · rw [if_neg c26] at H
                      have c26b0 : decide ((t133.length : Int) ≤ a2) = false := decide_eq_false c26
                      clear c26
                      by_cases c28 : 0 ≤ a2
                      · rw [if_pos c28] at H
                        have c28b0 : decide (0 ≤ a2) = true := decide_eq_true c28
                        clear c28
                        by_cases c29 : a2 < (t133.length : Int)
                        · rw [if_pos c29] at H
                          have c29b0 : decide (a2 < (t133.length : Int)) = true := decide_eq_true c29
                          clear c29
                          by_cases c30 : a2 < (t142.length : Int)
                          · rw [if_pos c30] at H
                            have c30b0 : decide (a2 < (t142.length : Int)) = true := decide_eq_true c30
                            clear c30
                            by_cases c31 : (((rd_T25 t133 a2).f0) == ((rd_T25 t142 a2).f0) && (((rd_T25 t133 a2).f1) == ((rd_T25 t142 a2).f1) && (((rd_T25 t133 a2).f2) == ((rd_T25 t142 a2).f2)))) = true
                            · rw [if_pos c31] at H
                              have c31b0 : (((rd_T25 t133 a2).f0) == ((rd_T25 t142 a2).f0) && (((rd_T25 t133 a2).f1) == ((rd_T25 t142 a2).f1) && (((rd_T25 t133 a2).f2) == ((rd_T25 t142 a2).f2)))) = true := c31
                              (try (have c31b1 : decide (((rd_T25 t133 a2).f0) = ((rd_T25 t142 a2).f0) && (((rd_T25 t133 a2).f1) == ((rd_T25 t142 a2).f1) && (((rd_T25 t133 a2).f2) == ((rd_T25 t142 a2).f2)))) = true := by simpa using c31))
                              (try (have c31b2 : (((rd_T25 t133 a2).f0) == ((rd_T25 t142 a2).f0) && (((rd_T25 t133 a2).f1) == ((rd_T25 t142 a2).f1) && (((rd_T25 t133 a2).f2) == ((rd_T25 t142 a2).f2)))) = true := by simpa using c31))
                              clear c31
                              by_cases c32 : ((rd_T25 t133 a2).f0) ≥ 0
                              · rw [if_pos c32] at H
                                have c32b0 : decide (0 ≤ ((rd_T25 t133 a2).f0)) = true := decide_eq_true c32
                                clear c32
                                by_cases c33 : ((rd_T25 t133 a2).f0) < 4
                                · rw [if_pos c33] at H
                                  have c33b0 : decide (((rd_T25 t133 a2).f0) < 4) = true := decide_eq_true c33
                                  clear c33
                                  obtain ⟨ji34, hji34⟩ : ∃ j_ : Int, (wrap64 ((wrap64 (3 * a2)) + 1)) = j_ := ⟨_, rfl⟩
                                  replace H : (if 0 ≤ (ji34) then (if (ji34) < (l0.length : Int) then (if ((rd_T25 t133 a2).f1) = (wrap64 (rd l0 (ji34))) then (if 0 ≤ (wrap64 ((wrap64 (3 * a2)) + 2)) then (if (wrap64 ((wrap64 (3 * a2)) + 2)) < (l0.length : Int) then (some (((rd_T25 t133 a2).f2) == (IntKind.u64.wrap (rd l0 (wrap64 ((wrap64 (3 * a2)) + 2)))))) else (none)) else (none)) else (some false)) else (none)) else (none)) = some r := by first | (rw [hji34] at H; exact H) | (simp only [hji34] at H ⊢; exact H)
                                  have hji34w : (IntKind.i64.wrap ((wrap64 (3 * a2)) + 1)) = ji34 := (i64_w _).trans hji34
                                  by_cases c35 : 0 ≤ (ji34)
                                  · rw [if_pos c35] at H
                                    have c35b0 : decide (0 ≤ (ji34)) = true := decide_eq_true c35
                                    clear c35
                                    by_cases c36 : (ji34) < (l0.length : Int)
                                    · rw [if_pos c36] at H
                                      have c36b0 : decide ((ji34) < (l0.length : Int)) = true := decide_eq_true c36
                                      clear c36
                                      by_cases c37 : ((rd_T25 t133 a2).f1) = (wrap64 (rd l0 (ji34)))
                                      · rw [if_pos c37] at H
                                        have c37b0 : (((rd_T25 t133 a2).f1) == (wrap64 (rd l0 (ji34)))) = true := beq_iff_eq.mpr c37
                                        have c37b1 : (((rd_T25 t133 a2).f1) != (wrap64 (rd l0 (ji34)))) = false := bne_eq_false_iff_eq.mpr c37
                                        clear c37
                                        obtain ⟨ji38, hji38⟩ : ∃ j_ : Int, (wrap64 ((wrap64 (3 * a2)) + 2)) = j_ := ⟨_, rfl⟩
                                        replace H : (if 0 ≤ (ji38) then (if (ji38) < (l0.length : Int) then (some (((rd_T25 t133 a2).f2) == (IntKind.u64.wrap (rd l0 (ji38))))) else (none)) else (none)) = some r := by first | (rw [hji38] at H; exact H) | (simp only [hji38] at H ⊢; exact H)
                                        have hji38w : (IntKind.i64.wrap ((wrap64 (3 * a2)) + 2)) = ji38 := (i64_w _).trans hji38
                                        by_cases c39 : 0 ≤ (ji38)
                                        · rw [if_pos c39] at H
                                          have c39b0 : decide (0 ≤ (ji38)) = true := decide_eq_true c39
                                          clear c39
                                          by_cases c40 : (ji38) < (l0.length : Int)
                                          · rw [if_pos c40] at H
                                            have c40b0 : decide ((ji38) < (l0.length : Int)) = true := decide_eq_true c40
                                            clear c40
                                            obtain rfl := Option.some.inj H
                                            clear hr_
                                            obtain ⟨Ao41, co41, eo41⟩ := Kd.R_slice HO_8.out
                                            subst eo41
                                            have p145 : 0 ≤ (a2 : Int) := of_decide_eq_true (by first | (with_reducible assumption) | assumption)
                                            have q145 : a2 < (t133.length : Int) := of_decide_eq_true (by first | (with_reducible assumption) | assumption)
                                            obtain ⟨ad145, e145, hx145_0, hx145_1, hx145_2⟩ := at_T25 (Kd.R_reads' HO_8.out).2.2 a2 p145 q145
                                            cases e145
                                            replace p145 := eq_true p145
                                            replace q145 := eq_true q145
                                            obtain ⟨Ao42, co42, eo42⟩ := Kd.R_slice HO_9.out
                                            subst eo42
                                            have p146 : 0 ≤ (a2 : Int) := of_decide_eq_true (by first | (with_reducible assumption) | assumption)
                                            have q146 : a2 < (t142.length : Int) := of_decide_eq_true (by first | (with_reducible assumption) | assumption)
                                            obtain ⟨ad146, e146, hx146_0, hx146_1, hx146_2⟩ := at_T25 (Kd.R_reads' HO_9.out).2.2 a2 p146 q146
                                            cases e146
                                            replace p146 := eq_true p146
                                            replace q146 := eq_true q146
                                            have p147 : 0 ≤ (a2 : Int) := of_decide_eq_true (by first | (with_reducible assumption) | assumption)
                                            have q147 : a2 < (t133.length : Int) := of_decide_eq_true (by first | (with_reducible assumption) | assumption)
                                            obtain ⟨ad147, e147, hx147_0, hx147_1, hx147_2⟩ := at_T25 (Kd.R_reads' HO_8.out).2.2 a2 p147 q147
                                            obtain rfl : ad145 = ad147 := (by injection e147)
                                            replace p147 := eq_true p147
                                            replace q147 := eq_true q147
                                            have p148 : 0 ≤ (a2 : Int) := of_decide_eq_true (by first | (with_reducible assumption) | assumption)
                                            have q148 : a2 < (t133.length : Int) := of_decide_eq_true (by first | (with_reducible assumption) | assumption)
                                            obtain ⟨ad148, e148, hx148_0, hx148_1, hx148_2⟩ := at_T25 (Kd.R_reads' HO_8.out).2.2 a2 p148 q148
                                            obtain rfl : ad145 = ad148 := (by injection e148)
                                            replace p148 := eq_true p148
                                            replace q148 := eq_true q148
                                            have p149 : 0 ≤ (a2 : Int) := of_decide_eq_true (by first | (with_reducible assumption) | assumption)
                                            have q149 : a2 < (t133.length : Int) := of_decide_eq_true (by first | (with_reducible assumption) | assumption)
                                            obtain ⟨ad149, e149, hx149_0, hx149_1, hx149_2⟩ := at_T25 (Kd.R_reads' HO_8.out).2.2 a2 p149 q149
                                            obtain rfl : ad145 = ad149 := (by injection e149)
                                            replace p149 := eq_true p149
                                            replace q149 := eq_true q149
                                            have p150 : 0 ≤ ((ji34) : Int) := of_decide_eq_true (by first | (with_reducible assumption) | assumption)
                                            have q150 : (ji34) < (l0.length : Int) := of_decide_eq_true (by first | (with_reducible assumption) | assumption)
                                            obtain ⟨ad150, e150, hx150_0⟩ := Kd.at_int HR0.out (ji34) p150 q150
                                            cases e150
                                            replace hx150_0 := (HB.out.cell (World.block_lt_of_cell? w _ hx150_0)).trans hx150_0
                                            replace p150 := eq_true p150
                                            replace q150 := eq_true q150
                                            have p151 : 0 ≤ (a2 : Int) := of_decide_eq_true (by first | (with_reducible assumption) | assumption)
                                            have q151 : a2 < (t133.length : Int) := of_decide_eq_true (by first | (with_reducible assumption) | assumption)
                                            obtain ⟨ad151, e151, hx151_0, hx151_1, hx151_2⟩ := at_T25 (Kd.R_reads' HO_8.out).2.2 a2 p151 q151
                                            obtain rfl : ad145 = ad151 := (by injection e151)
                                            replace p151 := eq_true p151
                                            replace q151 := eq_true q151
                                            have p152 : 0 ≤ ((ji38) : Int) := of_decide_eq_true (by first | (with_reducible assumption) | assumption)
                                            have q152 : (ji38) < (l0.length : Int) := of_decide_eq_true (by first | (with_reducible assumption) | assumption)
                                            obtain ⟨ad152, e152, hx152_0⟩ := Kd.at_int HR0.out (ji38) p152 q152
                                            obtain rfl : ad150 = ad152 := (by injection e152)
                                            replace hx152_0 := (HB.out.cell (World.block_lt_of_cell? w _ hx152_0)).trans hx152_0
                                            replace p152 := eq_true p152
                                            replace q152 := eq_true q152
                                            go_wp2
                                            repeat (go_quiet (fail); try go_wp2)
                                            go_ret
                                            exact ⟨by first | rfl | (simp [errW_none, errW_some] <;> rfl) | (simp only [← hji34, ← hji38]; first | rfl | (simp [errW_none, errW_some] <;> rfl)) | (simp [*, errW_none, errW_some] <;> rfl), by repeat (first | (with_reducible first | exact HB.out | apply below_alloc | apply pw_below_drewN | apply below_drew1) | exact HB.out)⟩
                                          · rw [if_neg c40] at H
                                            exact absurd H (by simp)
                                        · rw [if_neg c39] at H
                                          exact absurd H (by simp)
                                      · rw [if_neg c37] at H
                                        have c37b0 : (((rd_T25 t133 a2).f1) == (wrap64 (rd l0 (ji34)))) = false := beq_eq_false_iff_ne.mpr c37
                                        have c37b1 : (((rd_T25 t133 a2).f1) != (wrap64 (rd l0 (ji34)))) = true := bne_iff_ne.mpr c37
                                        exact absurd (H.trans (congrArg some hr_.out)) (by simp)
                                    · rw [if_neg c36] at H
                                      exact absurd H (by simp)
                                  · rw [if_neg c35] at H
                                    exact absurd H (by simp)
                                · rw [if_neg c33] at H
                                  have c33b0 : decide (((rd_T25 t133 a2).f0) < 4) = false := decide_eq_false c33
                                  clear c33
                                  exact absurd (H.trans (congrArg some hr_.out)) (by simp)
                              · rw [if_neg c32] at H
                                have c32b0 : decide (0 ≤ ((rd_T25 t133 a2).f0)) = false := decide_eq_false c32
                                clear c32
                                exact absurd (H.trans (congrArg some hr_.out)) (by simp)
                            · rw [if_neg c31] at H
                              have c31b0 : (((rd_T25 t133 a2).f0) == ((rd_T25 t142 a2).f0) && (((rd_T25 t133 a2).f1) == ((rd_T25 t142 a2).f1) && (((rd_T25 t133 a2).f2) == ((rd_T25 t142 a2).f2)))) = false := by simpa using c31
                              (try (have c31b1 : decide (((rd_T25 t133 a2).f0) = ((rd_T25 t142 a2).f0) && (((rd_T25 t133 a2).f1) == ((rd_T25 t142 a2).f1) && (((rd_T25 t133 a2).f2) == ((rd_T25 t142 a2).f2)))) = false := by simpa using c31))
                              (try (have c31b2 : (((rd_T25 t133 a2).f0) == ((rd_T25 t142 a2).f0) && (((rd_T25 t133 a2).f1) == ((rd_T25 t142 a2).f1) && (((rd_T25 t133 a2).f2) == ((rd_T25 t142 a2).f2)))) = false := by simpa using c31))
                              (try (have c31b3 : ¬ (((rd_T25 t133 a2).f0) = ((rd_T25 t142 a2).f0) && (((rd_T25 t133 a2).f1) == ((rd_T25 t142 a2).f1) && (((rd_T25 t133 a2).f2) == ((rd_T25 t142 a2).f2)))) := by simpa using c31))
                              clear c31
                              exact absurd (H.trans (congrArg some hr_.out)) (by simp)
                          · rw [if_neg c30] at H
                            exact absurd H (by simp)
                        · rw [if_neg c29] at H
                          exact absurd H (by simp)
                      · rw [if_neg c28] at H
                        exact absurd H (by simp)
          · rw [if_neg c12] at H
            exact absurd H (by simp)
        · rw [if_neg c11] at H
          exact absurd H (by simp)

/-- THE ONE PURE STATEMENT of poacherlaw05_DrawDecode: yours. -/
def poacherlaw05_DrawDecode.Pure : Prop := ∀ (l0 : List Int) (l1 : List Int) (a2 : Int), l0.length ≤ maxLen → l0.length * 1 ≤ 140737488351232 → (∀ x ∈ l0, (Lit.int .u8 x).wf = true) → l1.length ≤ maxLen → l1.length * 1 ≤ 140737488351232 → (∀ x ∈ l1, (Lit.int .u8 x).wf = true) → (Lit.int .i64 a2).wf = true → ∃ k, poacherlaw05_DrawDecode.f k l0 l1 a2 = some true
theorem poacherlaw05_DrawDecode.walk (P : poacherlaw05_DrawDecode.Pure) (a0 : Option Addr) (len0 cap0 : Nat) (z0 : List Int) (a1 : Option Addr) (len1 cap1 : Nat) (z1 : List Int) (a2 : Int) (w : World) (w0 : (a0 = none ∧ len0 = 0 ∧ cap0 = 0 ∧ z0 = []) ∨ ∃ x, a0 = some x ∧ len0 ≤ cap0 ∧ cap0 ≤ maxLen ∧ z0.length = cap0 ∧ (∀ i, i < z0.length → w.cell? (x.add i) = some (.int .u8 (z0.getD i 0))) ∧ ∀ n ∈ z0, (Lit.int .u8 n).wf = true) (y0 : len0 * 1 ≤ 140737488351232) (w1 : (a1 = none ∧ len1 = 0 ∧ cap1 = 0 ∧ z1 = []) ∨ ∃ x, a1 = some x ∧ len1 ≤ cap1 ∧ cap1 ≤ maxLen ∧ z1.length = cap1 ∧ (∀ i, i < z1.length → w.cell? (x.add i) = some (.int .u8 (z1.getD i 0))) ∧ ∀ n ∈ z1, (Lit.int .u8 n).wf = true) (y1 : len1 * 1 ≤ 140737488351232) (w2 : (Lit.int .i64 a2).wf = true) :
    Calls Try.prog 6 #[.slice a0 len0 cap0, .slice a1 len1 cap1, .int .i64 a2] w fun e w' => e = .returned (.bool true) ∧ Below w.heap.size w w' := by
  obtain ⟨l0, rfl, hr0, hm0, hw0, hc0⟩ := ReadsInt.ofRowC w0
  obtain ⟨l1, rfl, hr1, hm1, hw1, hc1⟩ := ReadsInt.ofRowC w1
  obtain ⟨k, h⟩ := P l0 l1 a2 hm0 y0 hw0 hm1 y1 hw1 w2
  refine (poacherlaw05_DrawDecode.calls k _ _ l0 _ _ l1 a2 true w (Kd.C_of_reads (d := (0 : Int)) (h1 := fun _ => rfl) hr0) hc0 (Kd.C_of_reads (d := (0 : Int)) (h1 := fun _ => rfl) hr1) hc1 ⟨rfl⟩ h).mono ?_
  rintro e w' ⟨rfl, hd⟩
  exact ⟨rfl, hd⟩

end Go.Proofs.Ytonhjnfhaelfkaa.QD
