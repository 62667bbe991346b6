-- Written by inj.py (a program of this session), by the kit's print with functions given by hand. Not trusted: Lean checks it.
import Derived.Test.YtekacbglncnbhaaQWx0
import Derived.Test.YtekacbglncnbhaaQWx1
import Derived.Test.YtekacbglncnbhaaQWx2
import Derived.Test.YtekacbglncnbhaaQWx3
import Derived.Test.YtekacbglncnbhaaQWx6
import Derived.Test.YtekacbglncnbhaaQWx7
import Derived.Test.YtekacbglncnbhaaQWx10
namespace Go.Proofs.Ytekacbglncnbhaa.QW
open Go.RowKit Go.Proofs.YtekacbglncnbhaaW.PrintWords Go.Proofs.YtekacbglncnbhaaW.PrintLast Go.Proofs.YtekacbglncnbhaaW.PrintMore
attribute [local go_sem] max2_int min2_int max_two min_two max_three min_three max_four min_four   -- for this text's walks alone
set_option linter.unusedVariables false
set_option linter.unusedSimpArgs false

/-! ### poacherlaw02_WordBumps: function 5 -/
mutual
def poacherlaw02_WordBumps.l0 : Nat → Bool → Int → Int → Int → Option (Bool)
  | 0, _, _, _, _ => none
  | k + 1, x3, x4, x5, x6 => if x6 < 16 then ((word_Mask.f x5).bind fun t160 => (poacherlaw02_WordBumps.j1 k x3 x4 x5 x6 (t160 != 0))) else (poacherlaw02_WordBumps.j1 k x3 x4 x5 x6 false)
def poacherlaw02_WordBumps.j1 : Nat → Bool → Int → Int → Int → Bool → Option (Bool)
  | 0, _, _, _, _, _ => none
  | k + 1, x3, x4, x5, x6, x19 => if x19 = true then ((word_Bump.f x5).bind fun bt161 => (if bt161.2 ≤ x4 then (some false) else (if bt161.2 > 15 then (some false) else ((word_Set.f bt161.1 bt161.2).bind fun t163 => ((word_Epoch.f x5).bind fun t164 => ((word_Mask.f x5).bind fun t165 => ((word_Pack.f (IntKind.u64.wrap (t164 + 1)) t165).bind fun t166 => (if t163 = t166 then ((word_Mask.f bt161.1).bind fun t167 => ((word_Mask.f x5).bind fun t168 => (if t167 ≥ t168 then (some false) else (poacherlaw02_WordBumps.l0 k x3 bt161.2 bt161.1 (wrap64 (x6 + 1)))))) else (some false))))))))) else ((word_Bump.f x5).bind fun bt169 => (if x3 = true then ((word_Mask.f x5).bind fun t171 => (if t171 = 0 then (if bt169.2 = (-1) then ((word_Epoch.f bt169.1).bind fun t172 => ((word_Epoch.f x5).bind fun t173 => (if t172 = (Int.tmod (IntKind.u64.wrap (t173 + 1)) 281474976710656) then ((word_Mask.f bt169.1).bind fun t174 => (some (t174 == 0))) else (some false)))) else (some false)) else (some false))) else (some false)))
end
def poacherlaw02_WordBumps.f (k : Nat) (a0 : Int) : Option (Bool) := (poacherlaw02_awake.f).bind fun t159 => (poacherlaw02_WordBumps.l0 k t159 (-1) a0 0)
theorem poacherlaw02_WordBumps.mono_l : ∀ k, (∀ y0 y1 y2 y3, LeO (poacherlaw02_WordBumps.l0 k y0 y1 y2 y3) (poacherlaw02_WordBumps.l0 (k + 1) y0 y1 y2 y3)) ∧ (∀ y0 y1 y2 y3 y4, LeO (poacherlaw02_WordBumps.j1 k y0 y1 y2 y3 y4) (poacherlaw02_WordBumps.j1 (k + 1) y0 y1 y2 y3 y4))
  | 0 => ⟨fun _ _ _ _ r h => by simp [poacherlaw02_WordBumps.l0] at h, fun _ _ _ _ _ r h => by simp [poacherlaw02_WordBumps.j1] at h⟩
  | k + 1 => by
    obtain ⟨ih0, ih1⟩ := poacherlaw02_WordBumps.mono_l k
    refine ⟨?_, ?_⟩
    · intro y0 y1 y2 y3
      unfold poacherlaw02_WordBumps.l0
      repeat' first
      | (with_reducible exact ih0 _ _ _ _)
      | (with_reducible exact ih1 _ _ _ _ _)
      | (with_reducible exact LeO.refl _)
      | (with_reducible exact LeO.none _)
      | (with_reducible refine LeO.ite ?_ ?_)
      | (with_reducible refine LeO.bind ?_ (fun _ => ?_))
      | exact ih0 _ _ _ _
      | exact ih1 _ _ _ _ _
      | exact LeO.none _
      | refine LeO.ite ?_ ?_
      | refine LeO.bind ?_ (fun _ => ?_)
    · intro y0 y1 y2 y3 y4
      unfold poacherlaw02_WordBumps.j1
      repeat' first
      | (with_reducible exact ih0 _ _ _ _)
      | (with_reducible exact ih1 _ _ _ _ _)
      | (with_reducible exact LeO.refl _)
      | (with_reducible exact LeO.none _)
      | (with_reducible refine LeO.ite ?_ ?_)
      | (with_reducible refine LeO.bind ?_ (fun _ => ?_))
      | exact ih0 _ _ _ _
      | exact ih1 _ _ _ _ _
      | exact LeO.none _
      | refine LeO.ite ?_ ?_
      | refine LeO.bind ?_ (fun _ => ?_)
theorem poacherlaw02_WordBumps.mono : ∀ a0 k, LeO (poacherlaw02_WordBumps.f k a0) (poacherlaw02_WordBumps.f (k + 1) a0) := by
  intro a0 k
  obtain ⟨ih0, ih1⟩ := poacherlaw02_WordBumps.mono_l k
  unfold poacherlaw02_WordBumps.f
  repeat' first
      | (with_reducible exact ih0 _ _ _ _)
      | (with_reducible exact ih1 _ _ _ _ _)
      | (with_reducible exact LeO.refl _)
      | (with_reducible exact LeO.none _)
      | (with_reducible refine LeO.ite ?_ ?_)
      | (with_reducible refine LeO.bind ?_ (fun _ => ?_))
      | exact ih0 _ _ _ _
      | exact ih1 _ _ _ _ _
      | exact LeO.none _
      | refine LeO.ite ?_ ?_
      | refine LeO.bind ?_ (fun _ => ?_)
set_option maxHeartbeats 8000000 in
set_option maxRecDepth 100000 in
theorem poacherlaw02_WordBumps.calls (k : Nat) (a0 : Int) (r : Bool) (w : World) (h : poacherlaw02_WordBumps.f k a0 = some r) :
    Calls Try.prog 5 #[.int .u64 a0] w fun e w' => e = .returned (.bool r) ∧ Below w.heap.size w w' := by
  have HB := Aside0.mk (Below.refl w.heap.size w)
  have H : ((poacherlaw02_awake.f).bind fun t159 => (poacherlaw02_WordBumps.l0 k t159 (-1) a0 0)) = some r := h
  clear h
  replace H := Option.bind_eq_some_iff.mp H
  obtain ⟨t159, A20, H⟩ := H
  replace H : (poacherlaw02_WordBumps.l0 k t159 (-1) a0 0) = some r := H
  have A2 := Aside0.mk A20
  clear A20
  have H' := Aside0.mk H
  clear H
  go_enter Try.func5, Try.ntmps5
  go_wp2_with (first | ((with_reducible refine gate_callee (f := 10) rfl ?_); refine goesL_ (some 11) rfl rfl Try.func10 (by kernel_rfl) rfl #[] rfl (by (try simp only [List.map_toArray, List.map_cons, List.map_nil]); first | done | rfl | (simp only [List.length_drop, List.length_take]; rfl)) ?_; (with_reducible refine (poacherlaw02_awake.calls  t159 _ A2.out).mono ?_); (try clear A2); rintro e w3 ⟨rfl, hb⟩; refine ⟨_, rfl, ?_⟩; have n0_ := Aside0.mk (below_step (by repeat (first | (with_reducible first | exact HB.out | apply below_alloc | apply pw_below_drewN | apply below_drew1) | exact HB.out)) hb); clear HB; have HB := n0_; clear n0_; (try clear hb); (try clear hb2); (try clear hk); (try clear hi)))
  go_loopg [4, 5, 6] k (fun kq v4 v5 v6 w' => ∃ (x4_1 : Int) (x5_1 : Int) (x6_1 : Int), v4 = .int .i64 x4_1 ∧ v5 = .int .u64 x5_1 ∧ v6 = .int .i64 x6_1 ∧ Aside0 (poacherlaw02_WordBumps.l0 kq t159 x4_1 x5_1 x6_1 = some r) ∧ Aside0 (kq ≤ k) ∧ Aside0 (Below w.heap.size w w'))
  case atStart => exact ⟨((-1)), (a0), (0), (by first | rfl | (simp; done) | (simp [*]; done)), (by first | rfl | (simp; done) | (simp [*]; done)), (by first | rfl | (simp; done) | (simp [*]; done)), H', ⟨Nat.le_refl _⟩, ⟨by repeat (first | (with_reducible first | exact HB.out | apply below_alloc | apply pw_below_drewN | apply below_drew1) | exact HB.out)⟩⟩
  case round =>
    clear H'
    try clear c1
    try clear p2
    obtain ⟨x4_1, x5_1, x6_1, rfl, rfl, rfl, HA, HK1, HB⟩ := hrel
    cases gk with
    | zero => exact absurd HA.out (by simp [poacherlaw02_WordBumps.l0])
    | succ k1 =>
      have H := HA.out
      clear HA
      simp only [poacherlaw02_WordBumps.l0] at H
      have HC4 := Aside0.mk H
      clear H
      go_upto_region 5 with (fail)
      go_cut [19] (fun v19 wc => ∃ (kq : Nat) (x19_3 : Bool), v19 = .bool x19_3 ∧ Aside0 (poacherlaw02_WordBumps.j1 kq t159 x4_1 x5_1 x6_1 x19_3 = some r) ∧ Aside0 (kq ≤ k1) ∧ Aside0 (Below w.heap.size w wc))
      case first =>
        have H := HC4.out
        clear HC4
        by_cases c5 : x6_1 < 16
        · rw [if_pos c5] at H
          have c5b0 : decide (x6_1 < 16) = true := decide_eq_true c5
          clear c5
          (first | rw [c5b0] | (simp only [i64_w, i32_w]; rw [c5b0]) | skip)
          replace H := Option.bind_eq_some_iff.mp H
          obtain ⟨t160, A60, H⟩ := H
          replace H : (poacherlaw02_WordBumps.j1 k1 t159 x4_1 x5_1 x6_1 (t160 != 0)) = some r := H
          have A6 := Aside0.mk A60
          clear A60
          have H' := Aside0.mk H
          clear H
          go_wp2_with (first | (go_at_call 17; (with_reducible refine (word_Mask.calls x5_1 t160 _ A6.out).mono ?_); (try clear A6); rintro e w' ⟨rfl, ⟨nd, rfl⟩⟩))
          go_meet
          case rel => exact ⟨_, ((t160 != 0)), (by first | rfl | (simp; done) | (simp [*]; done)), H', ⟨by have := HK1.out; first | omega | exact Nat.le_refl _⟩, ⟨by repeat (first | (with_reducible first | exact HB.out | apply below_alloc | apply pw_below_drewN | apply below_drew1) | exact HB.out)⟩⟩
        · rw [if_neg c5] at H
          have c5b0 : decide (x6_1 < 16) = false := decide_eq_false c5
          clear c5
          (first | rw [c5b0] | (simp only [i64_w, i32_w]; rw [c5b0]) | skip)
          have H' := Aside0.mk H
          clear H
          go_wp2
          go_meet
          case rel => exact ⟨_, (false), (by first | rfl | (simp; done) | (simp [*]; done)), H', ⟨by have := HK1.out; first | omega | exact Nat.le_refl _⟩, ⟨by repeat (first | (with_reducible first | exact HB.out | apply below_alloc | apply pw_below_drewN | apply below_drew1) | exact HB.out)⟩⟩
      case rest =>
        clear HC4
        try clear c1
        try clear p2
        try clear c5
        try clear c5b0
        try clear p2
        obtain ⟨kq, x19_3, rfl, HA, HJ3, HB⟩ := hcut
        cases kq with
        | zero => exact absurd HA.out (by simp [poacherlaw02_WordBumps.j1])
        | succ kj3 =>
          have H := HA.out
          clear HA
          simp only [poacherlaw02_WordBumps.j1] at H
          by_cases c7 : x19_3 = true
          · subst c7
            have H1 : ((word_Bump.f x5_1).bind fun bt161 => (if bt161.2 ≤ x4_1 then (some false) else (if bt161.2 > 15 then (some false) else ((word_Set.f bt161.1 bt161.2).bind fun t163 => ((word_Epoch.f x5_1).bind fun t164 => ((word_Mask.f x5_1).bind fun t165 => ((word_Pack.f (IntKind.u64.wrap (t164 + 1)) t165).bind fun t166 => (if t163 = t166 then ((word_Mask.f bt161.1).bind fun t167 => ((word_Mask.f x5_1).bind fun t168 => (if t167 ≥ t168 then (some false) else (poacherlaw02_WordBumps.l0 kj3 t159 bt161.2 bt161.1 (wrap64 (x6_1 + 1)))))) else (some false))))))))) = some r := by rw [if_pos rfl] at H; exact H
            clear H
            have H := H1
            clear H1
            replace H := Option.bind_eq_some_iff.mp H
            obtain ⟨⟨t161, t162⟩, A80, H⟩ := H
            replace H : (if t162 ≤ x4_1 then (some false) else (if t162 > 15 then (some false) else ((word_Set.f t161 t162).bind fun t163 => ((word_Epoch.f x5_1).bind fun t164 => ((word_Mask.f x5_1).bind fun t165 => ((word_Pack.f (IntKind.u64.wrap (t164 + 1)) t165).bind fun t166 => (if t163 = t166 then ((word_Mask.f t161).bind fun t167 => ((word_Mask.f x5_1).bind fun t168 => (if t167 ≥ t168 then (some false) else (poacherlaw02_WordBumps.l0 kj3 t159 t162 t161 (wrap64 (x6_1 + 1)))))) else (some false)))))))) = some r := H
            have A8 := Aside0.mk A80
            clear A80
            by_cases c9 : t162 ≤ x4_1
            · rw [if_pos c9] at H
              have c9b0 : decide (t162 ≤ x4_1) = true := decide_eq_true c9
              clear c9
              obtain rfl := Option.some.inj H
              go_wp2_with (first | ((with_reducible refine gate_callee (f := 11) rfl ?_); refine goesL_ (some 24) rfl rfl Try.func11 (by kernel_rfl) rfl #[.int .u64 x5_1] rfl (by (try simp only [List.map_toArray, List.map_cons, List.map_nil]); first | done | rfl | (simp only [List.length_drop, List.length_take]; rfl)) ?_; (with_reducible refine (word_Bump.calls x5_1 t161 t162 _ A8.out).mono ?_); (try clear A8); rintro e w10 ⟨rfl, hb⟩; refine ⟨_, rfl, ?_⟩; have n0_ := Aside0.mk (below_step (by repeat (first | (with_reducible first | exact HB.out | apply below_alloc | apply pw_below_drewN | apply below_drew1) | exact HB.out)) hb); clear HB; have HB := n0_; clear n0_; (try clear hb); (try clear hb2); (try clear hk); (try clear hi)))
              go_ret
              exact ⟨by first | rfl | (simp [errW_none, errW_some] <;> rfl) | (simp [*, errW_none, errW_some] <;> rfl), by repeat (first | (with_reducible first | exact HB.out | apply below_alloc | apply pw_below_drewN | apply below_drew1) | exact HB.out)⟩
            · rw [if_neg c9] at H
              have c9b0 : decide (t162 ≤ x4_1) = false := decide_eq_false c9
              clear c9
              by_cases c11 : t162 > 15
              · rw [if_pos c11] at H
                have c11b0 : decide (15 < t162) = true := decide_eq_true c11
                clear c11
                obtain rfl := Option.some.inj H
                go_wp2_with (first | ((with_reducible refine gate_callee (f := 11) rfl ?_); refine goesL_ (some 24) rfl rfl Try.func11 (by kernel_rfl) rfl #[.int .u64 x5_1] rfl (by (try simp only [List.map_toArray, List.map_cons, List.map_nil]); first | done | rfl | (simp only [List.length_drop, List.length_take]; rfl)) ?_; (with_reducible refine (word_Bump.calls x5_1 t161 t162 _ A8.out).mono ?_); (try clear A8); rintro e w12 ⟨rfl, hb⟩; refine ⟨_, rfl, ?_⟩; have n0_ := Aside0.mk (below_step (by repeat (first | (with_reducible first | exact HB.out | apply below_alloc | apply pw_below_drewN | apply below_drew1) | exact HB.out)) hb); clear HB; have HB := n0_; clear n0_; (try clear hb); (try clear hb2); (try clear hk); (try clear hi)))
                go_ret
                exact ⟨by first | rfl | (simp [errW_none, errW_some] <;> rfl) | (simp [*, errW_none, errW_some] <;> rfl), by repeat (first | (with_reducible first | exact HB.out | apply below_alloc | apply pw_below_drewN | apply below_drew1) | exact HB.out)⟩
              · rw [if_neg c11] at H
                have c11b0 : decide (15 < t162) = false := decide_eq_false c11
                clear c11
                replace H := Option.bind_eq_some_iff.mp H
                obtain ⟨t163, A130, H⟩ := H
                replace H : ((word_Epoch.f x5_1).bind fun t164 => ((word_Mask.f x5_1).bind fun t165 => ((word_Pack.f (IntKind.u64.wrap (t164 + 1)) t165).bind fun t166 => (if t163 = t166 then ((word_Mask.f t161).bind fun t167 => ((word_Mask.f x5_1).bind fun t168 => (if t167 ≥ t168 then (some false) else (poacherlaw02_WordBumps.l0 kj3 t159 t162 t161 (wrap64 (x6_1 + 1)))))) else (some false))))) = some r := H
                have A13 := Aside0.mk A130
                clear A130
                replace H := Option.bind_eq_some_iff.mp H
                obtain ⟨t164, A140, H⟩ := H
                replace H : ((word_Mask.f x5_1).bind fun t165 => ((word_Pack.f (IntKind.u64.wrap (t164 + 1)) t165).bind fun t166 => (if t163 = t166 then ((word_Mask.f t161).bind fun t167 => ((word_Mask.f x5_1).bind fun t168 => (if t167 ≥ t168 then (some false) else (poacherlaw02_WordBumps.l0 kj3 t159 t162 t161 (wrap64 (x6_1 + 1)))))) else (some false)))) = some r := H
                have A14 := Aside0.mk A140
                clear A140
                replace H := Option.bind_eq_some_iff.mp H
                obtain ⟨t165, A150, H⟩ := H
                replace H : ((word_Pack.f (IntKind.u64.wrap (t164 + 1)) t165).bind fun t166 => (if t163 = t166 then ((word_Mask.f t161).bind fun t167 => ((word_Mask.f x5_1).bind fun t168 => (if t167 ≥ t168 then (some false) else (poacherlaw02_WordBumps.l0 kj3 t159 t162 t161 (wrap64 (x6_1 + 1)))))) else (some false))) = some r := H
                have A15 := Aside0.mk A150
                clear A150
                replace H := Option.bind_eq_some_iff.mp H
                obtain ⟨t166, A160, H⟩ := H
                replace H : (if t163 = t166 then ((word_Mask.f t161).bind fun t167 => ((word_Mask.f x5_1).bind fun t168 => (if t167 ≥ t168 then (some false) else (poacherlaw02_WordBumps.l0 kj3 t159 t162 t161 (wrap64 (x6_1 + 1)))))) else (some false)) = some r := H
                have A16 := Aside0.mk A160
                clear A160
                by_cases c17 : t163 = t166
                · rw [if_pos c17] at H
                  have c17b0 : (t163 == t166) = true := beq_iff_eq.mpr c17
                  have c17b1 : (t163 != t166) = false := bne_eq_false_iff_eq.mpr c17
                  clear c17
                  replace H := Option.bind_eq_some_iff.mp H
                  obtain ⟨t167, A180, H⟩ := H
                  replace H : ((word_Mask.f x5_1).bind fun t168 => (if t167 ≥ t168 then (some false) else (poacherlaw02_WordBumps.l0 kj3 t159 t162 t161 (wrap64 (x6_1 + 1))))) = some r := H
                  have A18 := Aside0.mk A180
                  clear A180
                  replace H := Option.bind_eq_some_iff.mp H
                  obtain ⟨t168, A190, H⟩ := H
                  replace H : (if t167 ≥ t168 then (some false) else (poacherlaw02_WordBumps.l0 kj3 t159 t162 t161 (wrap64 (x6_1 + 1)))) = some r := H
                  have A19 := Aside0.mk A190
                  clear A190
                  by_cases c20 : t167 ≥ t168
                  · rw [if_pos c20] at H
                    have c20b0 : decide (t168 ≤ t167) = true := decide_eq_true c20
                    clear c20
                    obtain rfl := Option.some.inj H
                    go_wp2_with (first | ((with_reducible refine gate_callee (f := 11) rfl ?_); refine goesL_ (some 24) rfl rfl Try.func11 (by kernel_rfl) rfl #[.int .u64 x5_1] rfl (by (try simp only [List.map_toArray, List.map_cons, List.map_nil]); first | done | rfl | (simp only [List.length_drop, List.length_take]; rfl)) ?_; (with_reducible refine (word_Bump.calls x5_1 t161 t162 _ A8.out).mono ?_); (try clear A8); rintro e w21 ⟨rfl, hb⟩; refine ⟨_, rfl, ?_⟩; have n0_ := Aside0.mk (below_step (by repeat (first | (with_reducible first | exact HB.out | apply below_alloc | apply pw_below_drewN | apply below_drew1) | exact HB.out)) hb); clear HB; have HB := n0_; clear n0_; (try clear hb); (try clear hb2); (try clear hk); (try clear hi)) | (go_at_call 19; (with_reducible refine (word_Set.calls t161 t162 t163 _ A13.out).mono ?_); (try clear A13); rintro e w' ⟨rfl, ⟨nd, rfl⟩⟩) | (go_at_call 15; (with_reducible refine (word_Epoch.calls x5_1 t164 _ A14.out).mono ?_); (try clear A14); rintro e w' ⟨rfl, ⟨nd, rfl⟩⟩) | (go_at_call 17; (with_reducible refine (word_Mask.calls x5_1 t165 _ A15.out).mono ?_); (try clear A15); rintro e w' ⟨rfl, ⟨nd, rfl⟩⟩) | (go_at_call 13; (with_reducible refine (word_Pack.calls (IntKind.u64.wrap (t164 + 1)) t165 t166 _ A16.out).mono ?_); (try clear A16); rintro e w' ⟨rfl, ⟨nd, rfl⟩⟩) | (go_at_call 17; (with_reducible refine (word_Mask.calls t161 t167 _ A18.out).mono ?_); (try clear A18); rintro e w' ⟨rfl, ⟨nd, rfl⟩⟩) | (go_at_call 17; (with_reducible refine (word_Mask.calls x5_1 t168 _ A19.out).mono ?_); (try clear A19); rintro e w' ⟨rfl, ⟨nd, rfl⟩⟩))
                    go_ret
                    exact ⟨by first | rfl | (simp [errW_none, errW_some] <;> rfl) | (simp [*, errW_none, errW_some] <;> rfl), by repeat (first | (with_reducible first | exact HB.out | apply below_alloc | apply pw_below_drewN | apply below_drew1) | exact HB.out)⟩
                  · rw [if_neg c20] at H
                    have c20b0 : decide (t168 ≤ t167) = false := decide_eq_false c20
                    clear c20
                    have H' := Aside0.mk H
                    clear H
                    go_wp2_with (first | ((with_reducible refine gate_callee (f := 11) rfl ?_); refine goesL_ (some 24) rfl rfl Try.func11 (by kernel_rfl) rfl #[.int .u64 x5_1] rfl (by (try simp only [List.map_toArray, List.map_cons, List.map_nil]); first | done | rfl | (simp only [List.length_drop, List.length_take]; rfl)) ?_; (with_reducible refine (word_Bump.calls x5_1 t161 t162 _ A8.out).mono ?_); (try clear A8); rintro e w22 ⟨rfl, hb⟩; refine ⟨_, rfl, ?_⟩; have n0_ := Aside0.mk (below_step (by repeat (first | (with_reducible first | exact HB.out | apply below_alloc | apply pw_below_drewN | apply below_drew1) | exact HB.out)) hb); clear HB; have HB := n0_; clear n0_; (try clear hb); (try clear hb2); (try clear hk); (try clear hi)) | (go_at_call 19; (with_reducible refine (word_Set.calls t161 t162 t163 _ A13.out).mono ?_); (try clear A13); rintro e w' ⟨rfl, ⟨nd, rfl⟩⟩) | (go_at_call 15; (with_reducible refine (word_Epoch.calls x5_1 t164 _ A14.out).mono ?_); (try clear A14); rintro e w' ⟨rfl, ⟨nd, rfl⟩⟩) | (go_at_call 17; (with_reducible refine (word_Mask.calls x5_1 t165 _ A15.out).mono ?_); (try clear A15); rintro e w' ⟨rfl, ⟨nd, rfl⟩⟩) | (go_at_call 13; (with_reducible refine (word_Pack.calls (IntKind.u64.wrap (t164 + 1)) t165 t166 _ A16.out).mono ?_); (try clear A16); rintro e w' ⟨rfl, ⟨nd, rfl⟩⟩) | (go_at_call 17; (with_reducible refine (word_Mask.calls t161 t167 _ A18.out).mono ?_); (try clear A18); rintro e w' ⟨rfl, ⟨nd, rfl⟩⟩) | (go_at_call 17; (with_reducible refine (word_Mask.calls x5_1 t168 _ A19.out).mono ?_); (try clear A19); rintro e w' ⟨rfl, ⟨nd, rfl⟩⟩))
                    go_roundg kj3
                    case measure => have := HK1.out; have := HJ3.out; omega
                    case rel => exact ⟨(t162), (t161), (wrap64 (x6_1 + 1)), (by first | rfl | (simp; done) | (simp [*]; done)), (by first | rfl | (simp; done) | (simp [*]; done)), (by first | rfl | (simp; done) | (simp [*]; done)), H', ⟨by have := HK1.out; have := HJ3.out; omega⟩, ⟨by repeat (first | (with_reducible first | exact HB.out | apply below_alloc | apply pw_below_drewN | apply below_drew1) | exact HB.out)⟩⟩
                · rw [if_neg c17] at H
                  have c17b0 : (t163 == t166) = false := beq_eq_false_iff_ne.mpr c17
                  have c17b1 : (t163 != t166) = true := bne_iff_ne.mpr c17
                  obtain rfl := Option.some.inj H
                  go_wp2_with (first | ((with_reducible refine gate_callee (f := 11) rfl ?_); refine goesL_ (some 24) rfl rfl Try.func11 (by kernel_rfl) rfl #[.int .u64 x5_1] rfl (by (try simp only [List.map_toArray, List.map_cons, List.map_nil]); first | done | rfl | (simp only [List.length_drop, List.length_take]; rfl)) ?_; (with_reducible refine (word_Bump.calls x5_1 t161 t162 _ A8.out).mono ?_); (try clear A8); rintro e w23 ⟨rfl, hb⟩; refine ⟨_, rfl, ?_⟩; have n0_ := Aside0.mk (below_step (by repeat (first | (with_reducible first | exact HB.out | apply below_alloc | apply pw_below_drewN | apply below_drew1) | exact HB.out)) hb); clear HB; have HB := n0_; clear n0_; (try clear hb); (try clear hb2); (try clear hk); (try clear hi)) | (go_at_call 19; (with_reducible refine (word_Set.calls t161 t162 t163 _ A13.out).mono ?_); (try clear A13); rintro e w' ⟨rfl, ⟨nd, rfl⟩⟩) | (go_at_call 15; (with_reducible refine (word_Epoch.calls x5_1 t164 _ A14.out).mono ?_); (try clear A14); rintro e w' ⟨rfl, ⟨nd, rfl⟩⟩) | (go_at_call 17; (with_reducible refine (word_Mask.calls x5_1 t165 _ A15.out).mono ?_); (try clear A15); rintro e w' ⟨rfl, ⟨nd, rfl⟩⟩) | (go_at_call 13; (with_reducible refine (word_Pack.calls (IntKind.u64.wrap (t164 + 1)) t165 t166 _ A16.out).mono ?_); (try clear A16); rintro e w' ⟨rfl, ⟨nd, rfl⟩⟩))
                  go_ret
                  exact ⟨by first | rfl | (simp [errW_none, errW_some] <;> rfl) | (simp [*, errW_none, errW_some] <;> rfl), by repeat (first | (with_reducible first | exact HB.out | apply below_alloc | apply pw_below_drewN | apply below_drew1) | exact HB.out)⟩
          · replace c7 := Bool.eq_false_iff.mpr c7
            subst c7
            have H1 : ((word_Bump.f x5_1).bind fun bt169 => (if t159 = true then ((word_Mask.f x5_1).bind fun t171 => (if t171 = 0 then (if bt169.2 = (-1) then ((word_Epoch.f bt169.1).bind fun t172 => ((word_Epoch.f x5_1).bind fun t173 => (if t172 = (Int.tmod (IntKind.u64.wrap (t173 + 1)) 281474976710656) then ((word_Mask.f bt169.1).bind fun t174 => (some (t174 == 0))) else (some false)))) else (some false)) else (some false))) else (some false))) = some r := by rw [if_neg (show ¬ (false = true) by decide)] at H; exact H
            clear H
            have H := H1
            clear H1
            replace H := Option.bind_eq_some_iff.mp H
            obtain ⟨⟨t169, t170⟩, A240, H⟩ := H
            replace H : (if t159 = true then ((word_Mask.f x5_1).bind fun t171 => (if t171 = 0 then (if t170 = (-1) then ((word_Epoch.f t169).bind fun t172 => ((word_Epoch.f x5_1).bind fun t173 => (if t172 = (Int.tmod (IntKind.u64.wrap (t173 + 1)) 281474976710656) then ((word_Mask.f t169).bind fun t174 => (some (t174 == 0))) else (some false)))) else (some false)) else (some false))) else (some false)) = some r := H
            have A24 := Aside0.mk A240
            clear A240
            by_cases c25 : t159 = true
            · subst c25
              have H1 : ((word_Mask.f x5_1).bind fun t171 => (if t171 = 0 then (if t170 = (-1) then ((word_Epoch.f t169).bind fun t172 => ((word_Epoch.f x5_1).bind fun t173 => (if t172 = (Int.tmod (IntKind.u64.wrap (t173 + 1)) 281474976710656) then ((word_Mask.f t169).bind fun t174 => (some (t174 == 0))) else (some false)))) else (some false)) else (some false))) = some r := by rw [if_pos rfl] at H; exact H
              clear H
              have H := H1
              clear H1
              replace H := Option.bind_eq_some_iff.mp H
              obtain ⟨t171, A260, H⟩ := H
              replace H : (if t171 = 0 then (if t170 = (-1) then ((word_Epoch.f t169).bind fun t172 => ((word_Epoch.f x5_1).bind fun t173 => (if t172 = (Int.tmod (IntKind.u64.wrap (t173 + 1)) 281474976710656) then ((word_Mask.f t169).bind fun t174 => (some (t174 == 0))) else (some false)))) else (some false)) else (some false)) = some r := H
              have A26 := Aside0.mk A260
              clear A260
              by_cases c27 : t171 = 0
              · rw [if_pos c27] at H
                have c27b0 : (t171 == 0) = true := beq_iff_eq.mpr c27
                have c27b1 : (t171 != 0) = false := bne_eq_false_iff_eq.mpr c27
                clear c27
                by_cases c28 : t170 = (-1)
                · rw [if_pos c28] at H
                  have c28b0 : (t170 == (-1)) = true := beq_iff_eq.mpr c28
                  have c28b1 : (t170 != (-1)) = false := bne_eq_false_iff_eq.mpr c28
                  clear c28
                  replace H := Option.bind_eq_some_iff.mp H
                  obtain ⟨t172, A290, H⟩ := H
                  replace H : ((word_Epoch.f x5_1).bind fun t173 => (if t172 = (Int.tmod (IntKind.u64.wrap (t173 + 1)) 281474976710656) then ((word_Mask.f t169).bind fun t174 => (some (t174 == 0))) else (some false))) = some r := H
                  have A29 := Aside0.mk A290
                  clear A290
                  replace H := Option.bind_eq_some_iff.mp H
                  obtain ⟨t173, A300, H⟩ := H
                  replace H : (if t172 = (Int.tmod (IntKind.u64.wrap (t173 + 1)) 281474976710656) then ((word_Mask.f t169).bind fun t174 => (some (t174 == 0))) else (some false)) = some r := H
                  have A30 := Aside0.mk A300
                  clear A300
                  by_cases c31 : t172 = (Int.tmod (IntKind.u64.wrap (t173 + 1)) 281474976710656)
                  · rw [if_pos c31] at H
                    have c31b0 : (t172 == (Int.tmod (IntKind.u64.wrap (t173 + 1)) 281474976710656)) = true := beq_iff_eq.mpr c31
                    have c31b1 : (t172 != (Int.tmod (IntKind.u64.wrap (t173 + 1)) 281474976710656)) = false := bne_eq_false_iff_eq.mpr c31
                    clear c31
                    replace H := Option.bind_eq_some_iff.mp H
                    obtain ⟨t174, A320, H⟩ := H
                    replace H : (some (t174 == 0)) = some r := H
                    have A32 := Aside0.mk A320
                    clear A320
                    obtain rfl := Option.some.inj H
                    go_wp2_with (first | ((with_reducible refine gate_callee (f := 11) rfl ?_); refine goesL_ (some 57) rfl rfl Try.func11 (by kernel_rfl) rfl #[.int .u64 x5_1] rfl (by (try simp only [List.map_toArray, List.map_cons, List.map_nil]); first | done | rfl | (simp only [List.length_drop, List.length_take]; rfl)) ?_; (with_reducible refine (word_Bump.calls x5_1 t169 t170 _ A24.out).mono ?_); (try clear A24); rintro e w33 ⟨rfl, hb⟩; refine ⟨_, rfl, ?_⟩; have n0_ := Aside0.mk (below_step (by repeat (first | (with_reducible first | exact HB.out | apply below_alloc | apply pw_below_drewN | apply below_drew1) | exact HB.out)) hb); clear HB; have HB := n0_; clear n0_; (try clear hb); (try clear hb2); (try clear hk); (try clear hi)) | (go_at_call 17; (with_reducible refine (word_Mask.calls x5_1 t171 _ A26.out).mono ?_); (try clear A26); rintro e w' ⟨rfl, ⟨nd, rfl⟩⟩) | (go_at_call 15; (with_reducible refine (word_Epoch.calls t169 t172 _ A29.out).mono ?_); (try clear A29); rintro e w' ⟨rfl, ⟨nd, rfl⟩⟩) | (go_at_call 15; (with_reducible refine (word_Epoch.calls x5_1 t173 _ A30.out).mono ?_); (try clear A30); rintro e w' ⟨rfl, ⟨nd, rfl⟩⟩) | (go_at_call 17; (with_reducible refine (word_Mask.calls t169 t174 _ A32.out).mono ?_); (try clear A32); rintro e w' ⟨rfl, ⟨nd, rfl⟩⟩))
                    go_ret
                    exact ⟨by first | rfl | (simp [errW_none, errW_some] <;> rfl) | (simp [*, errW_none, errW_some] <;> rfl), by repeat (first | (with_reducible first | exact HB.out | apply below_alloc | apply pw_below_drewN | apply below_drew1) | exact HB.out)⟩
                  · rw [if_neg c31] at H
                    have c31b0 : (t172 == (Int.tmod (IntKind.u64.wrap (t173 + 1)) 281474976710656)) = false := beq_eq_false_iff_ne.mpr c31
                    have c31b1 : (t172 != (Int.tmod (IntKind.u64.wrap (t173 + 1)) 281474976710656)) = true := bne_iff_ne.mpr c31
                    obtain rfl := Option.some.inj H
                    go_wp2_with (first | ((with_reducible refine gate_callee (f := 11) rfl ?_); refine goesL_ (some 57) rfl rfl Try.func11 (by kernel_rfl) rfl #[.int .u64 x5_1] rfl (by (try simp only [List.map_toArray, List.map_cons, List.map_nil]); first | done | rfl | (simp only [List.length_drop, List.length_take]; rfl)) ?_; (with_reducible refine (word_Bump.calls x5_1 t169 t170 _ A24.out).mono ?_); (try clear A24); rintro e w34 ⟨rfl, hb⟩; refine ⟨_, rfl, ?_⟩; have n0_ := Aside0.mk (below_step (by repeat (first | (with_reducible first | exact HB.out | apply below_alloc | apply pw_below_drewN | apply below_drew1) | exact HB.out)) hb); clear HB; have HB := n0_; clear n0_; (try clear hb); (try clear hb2); (try clear hk); (try clear hi)) | (go_at_call 17; (with_reducible refine (word_Mask.calls x5_1 t171 _ A26.out).mono ?_); (try clear A26); rintro e w' ⟨rfl, ⟨nd, rfl⟩⟩) | (go_at_call 15; (with_reducible refine (word_Epoch.calls t169 t172 _ A29.out).mono ?_); (try clear A29); rintro e w' ⟨rfl, ⟨nd, rfl⟩⟩) | (go_at_call 15; (with_reducible refine (word_Epoch.calls x5_1 t173 _ A30.out).mono ?_); (try clear A30); rintro e w' ⟨rfl, ⟨nd, rfl⟩⟩))
                    go_ret
                    exact ⟨by first | rfl | (simp [errW_none, errW_some] <;> rfl) | (simp [*, errW_none, errW_some] <;> rfl), by repeat (first | (with_reducible first | exact HB.out | apply below_alloc | apply pw_below_drewN | apply below_drew1) | exact HB.out)⟩
                · rw [if_neg c28] at H
                  have c28b0 : (t170 == (-1)) = false := beq_eq_false_iff_ne.mpr c28
                  have c28b1 : (t170 != (-1)) = true := bne_iff_ne.mpr c28
                  obtain rfl := Option.some.inj H
                  go_wp2_with (first | ((with_reducible refine gate_callee (f := 11) rfl ?_); refine goesL_ (some 57) rfl rfl Try.func11 (by kernel_rfl) rfl #[.int .u64 x5_1] rfl (by (try simp only [List.map_toArray, List.map_cons, List.map_nil]); first | done | rfl | (simp only [List.length_drop, List.length_take]; rfl)) ?_; (with_reducible refine (word_Bump.calls x5_1 t169 t170 _ A24.out).mono ?_); (try clear A24); rintro e w35 ⟨rfl, hb⟩; refine ⟨_, rfl, ?_⟩; have n0_ := Aside0.mk (below_step (by repeat (first | (with_reducible first | exact HB.out | apply below_alloc | apply pw_below_drewN | apply below_drew1) | exact HB.out)) hb); clear HB; have HB := n0_; clear n0_; (try clear hb); (try clear hb2); (try clear hk); (try clear hi)) | (go_at_call 17; (with_reducible refine (word_Mask.calls x5_1 t171 _ A26.out).mono ?_); (try clear A26); rintro e w' ⟨rfl, ⟨nd, rfl⟩⟩))
                  go_ret
                  exact ⟨by first | rfl | (simp [errW_none, errW_some] <;> rfl) | (simp [*, errW_none, errW_some] <;> rfl), by repeat (first | (with_reducible first | exact HB.out | apply below_alloc | apply pw_below_drewN | apply below_drew1) | exact HB.out)⟩
              · rw [if_neg c27] at H
                have c27b0 : (t171 == 0) = false := beq_eq_false_iff_ne.mpr c27
                have c27b1 : (t171 != 0) = true := bne_iff_ne.mpr c27
                obtain rfl := Option.some.inj H
                go_wp2_with (first | ((with_reducible refine gate_callee (f := 11) rfl ?_); refine goesL_ (some 57) rfl rfl Try.func11 (by kernel_rfl) rfl #[.int .u64 x5_1] rfl (by (try simp only [List.map_toArray, List.map_cons, List.map_nil]); first | done | rfl | (simp only [List.length_drop, List.length_take]; rfl)) ?_; (with_reducible refine (word_Bump.calls x5_1 t169 t170 _ A24.out).mono ?_); (try clear A24); rintro e w36 ⟨rfl, hb⟩; refine ⟨_, rfl, ?_⟩; have n0_ := Aside0.mk (below_step (by repeat (first | (with_reducible first | exact HB.out | apply below_alloc | apply pw_below_drewN | apply below_drew1) | exact HB.out)) hb); clear HB; have HB := n0_; clear n0_; (try clear hb); (try clear hb2); (try clear hk); (try clear hi)) | (go_at_call 17; (with_reducible refine (word_Mask.calls x5_1 t171 _ A26.out).mono ?_); (try clear A26); rintro e w' ⟨rfl, ⟨nd, rfl⟩⟩))
                go_ret
                exact ⟨by first | rfl | (simp [errW_none, errW_some] <;> rfl) | (simp [*, errW_none, errW_some] <;> rfl), by repeat (first | (with_reducible first | exact HB.out | apply below_alloc | apply pw_below_drewN | apply below_drew1) | exact HB.out)⟩
            · replace c25 := Bool.eq_false_iff.mpr c25
              subst c25
              have H1 : (some false) = some r := by rw [if_neg (show ¬ (false = true) by decide)] at H; exact H
              clear H
              have H := H1
              clear H1
              obtain rfl := Option.some.inj H
              go_wp2_with (first | ((with_reducible refine gate_callee (f := 11) rfl ?_); refine goesL_ (some 57) rfl rfl Try.func11 (by kernel_rfl) rfl #[.int .u64 x5_1] rfl (by (try simp only [List.map_toArray, List.map_cons, List.map_nil]); first | done | rfl | (simp only [List.length_drop, List.length_take]; rfl)) ?_; (with_reducible refine (word_Bump.calls x5_1 t169 t170 _ A24.out).mono ?_); (try clear A24); rintro e w37 ⟨rfl, hb⟩; refine ⟨_, rfl, ?_⟩; have n0_ := Aside0.mk (below_step (by repeat (first | (with_reducible first | exact HB.out | apply below_alloc | apply pw_below_drewN | apply below_drew1) | exact HB.out)) hb); clear HB; have HB := n0_; clear n0_; (try clear hb); (try clear hb2); (try clear hk); (try clear hi)))
              go_ret
              exact ⟨by first | rfl | (simp [errW_none, errW_some] <;> rfl) | (simp [*, errW_none, errW_some] <;> rfl), by repeat (first | (with_reducible first | exact HB.out | apply below_alloc | apply pw_below_drewN | apply below_drew1) | exact HB.out)⟩

/-- THE ONE PURE STATEMENT of poacherlaw02_WordBumps: yours. -/
def poacherlaw02_WordBumps.Pure : Prop := ∀ (a0 : Int), (Lit.int .u64 a0).wf = true → ∃ k, poacherlaw02_WordBumps.f k a0 = some true
theorem poacherlaw02_WordBumps.walk (P : poacherlaw02_WordBumps.Pure) (a0 : Int) (w : World) (w0 : (Lit.int .u64 a0).wf = true) :
    Calls Try.prog 5 #[.int .u64 a0] w fun e w' => e = .returned (.bool true) ∧ Below w.heap.size w w' := by
  obtain ⟨k, h⟩ := P a0 w0
  refine (poacherlaw02_WordBumps.calls k a0 true w h).mono ?_
  rintro e w' ⟨rfl, hd⟩
  exact ⟨rfl, hd⟩

end Go.Proofs.Ytekacbglncnbhaa.QW
