-- Written by inj.py (a program of this session), by the kit's print with functions given by hand. Not trusted: Lean checks it.
import Derived.Test.YtekacbglncnbhaaQWx0
import Derived.Test.YtekacbglncnbhaaQWx9
import Derived.Test.YtekacbglncnbhaaQWx10
namespace Go.Proofs.Ytekacbglncnbhaa.QW
open Go.RowKit Go.Proofs.YtekacbglncnbhaaW.PrintWords Go.Proofs.YtekacbglncnbhaaW.PrintLast Go.Proofs.YtekacbglncnbhaaW.PrintMore
attribute [local go_sem] max2_int min2_int max_two min_two max_three min_three max_four min_four   -- for this text's walks alone
set_option linter.unusedVariables false
set_option linter.unusedSimpArgs false

/-! ### poacherlaw02_WordFar: function 6 -/
def poacherlaw02_WordFar.f (a0 : Int) (a1 : Int) : Option (Bool) := (poacherlaw02_awake.f).bind fun t175 => ((word_Far.f a0 a1).bind fun t176 => (if t175 = true then (if ((t176 == 0) == (a0 == a1)) = true then ((word_Far.f a1 a0).bind fun t177 => (if t177 = (wrap64 (-t176)) then (if t176 = 9223372036854775807 then (some ((IntKind.u64.wrap (a1 + (IntKind.u64.wrap (t176)))) == a0)) else ((word_Far.f (IntKind.u64.wrap (a0 + 1)) a1).bind fun t178 => (if t178 = (wrap64 (t176 + 1)) then (some ((IntKind.u64.wrap (a1 + (IntKind.u64.wrap (t176)))) == a0)) else (some false)))) else (some false))) else (some false)) else (some false)))
set_option maxHeartbeats 8000000 in
set_option maxRecDepth 100000 in
theorem poacherlaw02_WordFar.calls (a0 : Int) (a1 : Int) (r : Bool) (w : World) (h : poacherlaw02_WordFar.f a0 a1 = some r) :
    Calls Try.prog 6 #[.int .u64 a0, .int .u64 a1] w fun e w' => e = .returned (.bool r) ∧ Below w.heap.size w w' := by
  have HB := Aside0.mk (Below.refl w.heap.size w)
  have H : ((poacherlaw02_awake.f).bind fun t175 => ((word_Far.f a0 a1).bind fun t176 => (if t175 = true then (if ((t176 == 0) == (a0 == a1)) = true then ((word_Far.f a1 a0).bind fun t177 => (if t177 = (wrap64 (-t176)) then (if t176 = 9223372036854775807 then (some ((IntKind.u64.wrap (a1 + (IntKind.u64.wrap (t176)))) == a0)) else ((word_Far.f (IntKind.u64.wrap (a0 + 1)) a1).bind fun t178 => (if t178 = (wrap64 (t176 + 1)) then (some ((IntKind.u64.wrap (a1 + (IntKind.u64.wrap (t176)))) == a0)) else (some false)))) else (some false))) else (some false)) else (some false)))) = some r := h
  clear h
  replace H := Option.bind_eq_some_iff.mp H
  obtain ⟨t175, A30, H⟩ := H
  replace H : ((word_Far.f a0 a1).bind fun t176 => (if t175 = true then (if ((t176 == 0) == (a0 == a1)) = true then ((word_Far.f a1 a0).bind fun t177 => (if t177 = (wrap64 (-t176)) then (if t176 = 9223372036854775807 then (some ((IntKind.u64.wrap (a1 + (IntKind.u64.wrap (t176)))) == a0)) else ((word_Far.f (IntKind.u64.wrap (a0 + 1)) a1).bind fun t178 => (if t178 = (wrap64 (t176 + 1)) then (some ((IntKind.u64.wrap (a1 + (IntKind.u64.wrap (t176)))) == a0)) else (some false)))) else (some false))) else (some false)) else (some false))) = some r := H
  have A3 := Aside0.mk A30
  clear A30
  replace H := Option.bind_eq_some_iff.mp H
  obtain ⟨t176, A40, H⟩ := H
  replace H : (if t175 = true then (if ((t176 == 0) == (a0 == a1)) = true then ((word_Far.f a1 a0).bind fun t177 => (if t177 = (wrap64 (-t176)) then (if t176 = 9223372036854775807 then (some ((IntKind.u64.wrap (a1 + (IntKind.u64.wrap (t176)))) == a0)) else ((word_Far.f (IntKind.u64.wrap (a0 + 1)) a1).bind fun t178 => (if t178 = (wrap64 (t176 + 1)) then (some ((IntKind.u64.wrap (a1 + (IntKind.u64.wrap (t176)))) == a0)) else (some false)))) else (some false))) else (some false)) else (some false)) = some r := H
  have A4 := Aside0.mk A40
  clear A40
  by_cases c5 : t175 = true
  · subst c5
    have H1 : (if ((t176 == 0) == (a0 == a1)) = true then ((word_Far.f a1 a0).bind fun t177 => (if t177 = (wrap64 (-t176)) then (if t176 = 9223372036854775807 then (some ((IntKind.u64.wrap (a1 + (IntKind.u64.wrap (t176)))) == a0)) else ((word_Far.f (IntKind.u64.wrap (a0 + 1)) a1).bind fun t178 => (if t178 = (wrap64 (t176 + 1)) then (some ((IntKind.u64.wrap (a1 + (IntKind.u64.wrap (t176)))) == a0)) else (some false)))) else (some false))) else (some false)) = some r := by rw [if_pos rfl] at H; exact H
    clear H
    have H := H1
    clear H1
    by_cases c6 : ((t176 == 0) == (a0 == a1)) = true
    · rw [if_pos c6] at H
      have c6b0 : ((t176 == 0) == (a0 == a1)) = true := c6
      (try (have c6b1 : decide ((t176 == 0) = (a0 == a1)) = true := by simpa using c6))
      (try (have c6b2 : ((t176 == 0) == (a0 == a1)) = true := by simpa using c6))
      clear c6
      replace H := Option.bind_eq_some_iff.mp H
      obtain ⟨t177, A70, H⟩ := H
      replace H : (if t177 = (wrap64 (-t176)) then (if t176 = 9223372036854775807 then (some ((IntKind.u64.wrap (a1 + (IntKind.u64.wrap (t176)))) == a0)) else ((word_Far.f (IntKind.u64.wrap (a0 + 1)) a1).bind fun t178 => (if t178 = (wrap64 (t176 + 1)) then (some ((IntKind.u64.wrap (a1 + (IntKind.u64.wrap (t176)))) == a0)) else (some false)))) else (some false)) = some r := H
      have A7 := Aside0.mk A70
      clear A70
      by_cases c8 : t177 = (wrap64 (-t176))
      · rw [if_pos c8] at H
        have c8b0 : (t177 == (wrap64 (-t176))) = true := beq_iff_eq.mpr c8
        have c8b1 : (t177 != (wrap64 (-t176))) = false := bne_eq_false_iff_eq.mpr c8
        clear c8
        by_cases c9 : t176 = 9223372036854775807
        · rw [if_pos c9] at H
          have c9b0 : (t176 == 9223372036854775807) = true := beq_iff_eq.mpr c9
          have c9b1 : (t176 != 9223372036854775807) = false := bne_eq_false_iff_eq.mpr c9
          clear c9
          obtain rfl := Option.some.inj H
          go_enter Try.func6, Try.ntmps6
          go_wp2_with (first | ((with_reducible refine gate_callee (f := 10) rfl ?_); refine goesL_ (some 7) rfl rfl Try.func10 (by kernel_rfl) rfl #[] rfl (by (try simp only [List.map_toArray, List.map_cons, List.map_nil]); first | done | rfl | (simp only [List.length_drop, List.length_take]; rfl)) ?_; (with_reducible refine (poacherlaw02_awake.calls  true _ A3.out).mono ?_); rintro e w10 ⟨rfl, hb⟩; refine ⟨_, rfl, ?_⟩; have n0_ := Aside0.mk (below_step (by repeat (first | (with_reducible first | exact HB.out | apply below_alloc | apply pw_below_drewN | apply below_drew1) | exact HB.out)) hb); clear HB; have HB := n0_; clear n0_; (try clear hb); (try clear hb2); (try clear hk); (try clear hi)) | ((with_reducible refine gate_callee (f := 25) rfl ?_); refine goesL_ (some 10) rfl rfl Try.func25 (by kernel_rfl) rfl #[.int .u64 a0, .int .u64 a1] rfl (by (try simp only [List.map_toArray, List.map_cons, List.map_nil]); first | done | rfl | (simp only [List.length_drop, List.length_take]; rfl)) ?_; (with_reducible refine (word_Far.calls a0 a1 t176 _ A4.out).mono ?_); rintro e w' ⟨rfl, ⟨nd, rfl⟩⟩; refine ⟨_, rfl, ?_⟩) | (go_at_call 25; (with_reducible refine (word_Far.calls a1 a0 t177 _ A7.out).mono ?_); rintro e w' ⟨rfl, ⟨nd, rfl⟩⟩))
          go_ret
          exact ⟨by first | rfl | (simp [errW_none, errW_some] <;> rfl) | (simp [*, errW_none, errW_some] <;> rfl), by repeat (first | (with_reducible first | exact HB.out | apply below_alloc | apply pw_below_drewN | apply below_drew1) | exact HB.out)⟩
        · rw [if_neg c9] at H
          have c9b0 : (t176 == 9223372036854775807) = false := beq_eq_false_iff_ne.mpr c9
          have c9b1 : (t176 != 9223372036854775807) = true := bne_iff_ne.mpr c9
          replace H := Option.bind_eq_some_iff.mp H
          obtain ⟨t178, A110, H⟩ := H
          replace H : (if t178 = (wrap64 (t176 + 1)) then (some ((IntKind.u64.wrap (a1 + (IntKind.u64.wrap (t176)))) == a0)) else (some false)) = some r := H
          have A11 := Aside0.mk A110
          clear A110
          by_cases c12 : t178 = (wrap64 (t176 + 1))
          · rw [if_pos c12] at H
            have c12b0 : (t178 == (wrap64 (t176 + 1))) = true := beq_iff_eq.mpr c12
            have c12b1 : (t178 != (wrap64 (t176 + 1))) = false := bne_eq_false_iff_eq.mpr c12
            clear c12
            obtain rfl := Option.some.inj H
            go_enter Try.func6, Try.ntmps6
            go_wp2_with (first | ((with_reducible refine gate_callee (f := 10) rfl ?_); refine goesL_ (some 7) rfl rfl Try.func10 (by kernel_rfl) rfl #[] rfl (by (try simp only [List.map_toArray, List.map_cons, List.map_nil]); first | done | rfl | (simp only [List.length_drop, List.length_take]; rfl)) ?_; (with_reducible refine (poacherlaw02_awake.calls  true _ A3.out).mono ?_); rintro e w13 ⟨rfl, hb⟩; refine ⟨_, rfl, ?_⟩; have n0_ := Aside0.mk (below_step (by repeat (first | (with_reducible first | exact HB.out | apply below_alloc | apply pw_below_drewN | apply below_drew1) | exact HB.out)) hb); clear HB; have HB := n0_; clear n0_; (try clear hb); (try clear hb2); (try clear hk); (try clear hi)) | ((with_reducible refine gate_callee (f := 25) rfl ?_); refine goesL_ (some 10) rfl rfl Try.func25 (by kernel_rfl) rfl #[.int .u64 a0, .int .u64 a1] rfl (by (try simp only [List.map_toArray, List.map_cons, List.map_nil]); first | done | rfl | (simp only [List.length_drop, List.length_take]; rfl)) ?_; (with_reducible refine (word_Far.calls a0 a1 t176 _ A4.out).mono ?_); rintro e w' ⟨rfl, ⟨nd, rfl⟩⟩; refine ⟨_, rfl, ?_⟩) | (go_at_call 25; (with_reducible refine (word_Far.calls a1 a0 t177 _ A7.out).mono ?_); rintro e w' ⟨rfl, ⟨nd, rfl⟩⟩) | (go_at_call 25; (with_reducible refine (word_Far.calls (IntKind.u64.wrap (a0 + 1)) a1 t178 _ A11.out).mono ?_); rintro e w' ⟨rfl, ⟨nd, rfl⟩⟩))
            go_ret
            exact ⟨by first | rfl | (simp [errW_none, errW_some] <;> rfl) | (simp [*, errW_none, errW_some] <;> rfl), by repeat (first | (with_reducible first | exact HB.out | apply below_alloc | apply pw_below_drewN | apply below_drew1) | exact HB.out)⟩
          · rw [if_neg c12] at H
            have c12b0 : (t178 == (wrap64 (t176 + 1))) = false := beq_eq_false_iff_ne.mpr c12
            have c12b1 : (t178 != (wrap64 (t176 + 1))) = true := bne_iff_ne.mpr c12
            obtain rfl := Option.some.inj H
            go_enter Try.func6, Try.ntmps6
            go_wp2_with (first | ((with_reducible refine gate_callee (f := 10) rfl ?_); refine goesL_ (some 7) rfl rfl Try.func10 (by kernel_rfl) rfl #[] rfl (by (try simp only [List.map_toArray, List.map_cons, List.map_nil]); first | done | rfl | (simp only [List.length_drop, List.length_take]; rfl)) ?_; (with_reducible refine (poacherlaw02_awake.calls  true _ A3.out).mono ?_); rintro e w14 ⟨rfl, hb⟩; refine ⟨_, rfl, ?_⟩; have n0_ := Aside0.mk (below_step (by repeat (first | (with_reducible first | exact HB.out | apply below_alloc | apply pw_below_drewN | apply below_drew1) | exact HB.out)) hb); clear HB; have HB := n0_; clear n0_; (try clear hb); (try clear hb2); (try clear hk); (try clear hi)) | ((with_reducible refine gate_callee (f := 25) rfl ?_); refine goesL_ (some 10) rfl rfl Try.func25 (by kernel_rfl) rfl #[.int .u64 a0, .int .u64 a1] rfl (by (try simp only [List.map_toArray, List.map_cons, List.map_nil]); first | done | rfl | (simp only [List.length_drop, List.length_take]; rfl)) ?_; (with_reducible refine (word_Far.calls a0 a1 t176 _ A4.out).mono ?_); rintro e w' ⟨rfl, ⟨nd, rfl⟩⟩; refine ⟨_, rfl, ?_⟩) | (go_at_call 25; (with_reducible refine (word_Far.calls a1 a0 t177 _ A7.out).mono ?_); rintro e w' ⟨rfl, ⟨nd, rfl⟩⟩) | (go_at_call 25; (with_reducible refine (word_Far.calls (IntKind.u64.wrap (a0 + 1)) a1 t178 _ A11.out).mono ?_); rintro e w' ⟨rfl, ⟨nd, rfl⟩⟩))
            go_ret
            exact ⟨by first | rfl | (simp [errW_none, errW_some] <;> rfl) | (simp [*, errW_none, errW_some] <;> rfl), by repeat (first | (with_reducible first | exact HB.out | apply below_alloc | apply pw_below_drewN | apply below_drew1) | exact HB.out)⟩
      · rw [if_neg c8] at H
        have c8b0 : (t177 == (wrap64 (-t176))) = false := beq_eq_false_iff_ne.mpr c8
        have c8b1 : (t177 != (wrap64 (-t176))) = true := bne_iff_ne.mpr c8
        obtain rfl := Option.some.inj H
        go_enter Try.func6, Try.ntmps6
        go_wp2_with (first | ((with_reducible refine gate_callee (f := 10) rfl ?_); refine goesL_ (some 7) rfl rfl Try.func10 (by kernel_rfl) rfl #[] rfl (by (try simp only [List.map_toArray, List.map_cons, List.map_nil]); first | done | rfl | (simp only [List.length_drop, List.length_take]; rfl)) ?_; (with_reducible refine (poacherlaw02_awake.calls  true _ A3.out).mono ?_); rintro e w15 ⟨rfl, hb⟩; refine ⟨_, rfl, ?_⟩; have n0_ := Aside0.mk (below_step (by repeat (first | (with_reducible first | exact HB.out | apply below_alloc | apply pw_below_drewN | apply below_drew1) | exact HB.out)) hb); clear HB; have HB := n0_; clear n0_; (try clear hb); (try clear hb2); (try clear hk); (try clear hi)) | ((with_reducible refine gate_callee (f := 25) rfl ?_); refine goesL_ (some 10) rfl rfl Try.func25 (by kernel_rfl) rfl #[.int .u64 a0, .int .u64 a1] rfl (by (try simp only [List.map_toArray, List.map_cons, List.map_nil]); first | done | rfl | (simp only [List.length_drop, List.length_take]; rfl)) ?_; (with_reducible refine (word_Far.calls a0 a1 t176 _ A4.out).mono ?_); rintro e w' ⟨rfl, ⟨nd, rfl⟩⟩; refine ⟨_, rfl, ?_⟩) | (go_at_call 25; (with_reducible refine (word_Far.calls a1 a0 t177 _ A7.out).mono ?_); rintro e w' ⟨rfl, ⟨nd, rfl⟩⟩))
        go_ret
        exact ⟨by first | rfl | (simp [errW_none, errW_some] <;> rfl) | (simp [*, errW_none, errW_some] <;> rfl), by repeat (first | (with_reducible first | exact HB.out | apply below_alloc | apply pw_below_drewN | apply below_drew1) | exact HB.out)⟩
    · rw [if_neg c6] at H
      have c6b0 : ((t176 == 0) == (a0 == a1)) = false := by simpa using c6
      (try (have c6b1 : decide ((t176 == 0) = (a0 == a1)) = false := by simpa using c6))
      (try (have c6b2 : ((t176 == 0) == (a0 == a1)) = false := by simpa using c6))
      (try (have c6b3 : ¬ ((t176 == 0) = (a0 == a1)) := by simpa using c6))
      clear c6
      obtain rfl := Option.some.inj H
      go_enter Try.func6, Try.ntmps6
      go_wp2_with (first | ((with_reducible refine gate_callee (f := 10) rfl ?_); refine goesL_ (some 7) rfl rfl Try.func10 (by kernel_rfl) rfl #[] rfl (by (try simp only [List.map_toArray, List.map_cons, List.map_nil]); first | done | rfl | (simp only [List.length_drop, List.length_take]; rfl)) ?_; (with_reducible refine (poacherlaw02_awake.calls  true _ A3.out).mono ?_); rintro e w16 ⟨rfl, hb⟩; refine ⟨_, rfl, ?_⟩; have n0_ := Aside0.mk (below_step (by repeat (first | (with_reducible first | exact HB.out | apply below_alloc | apply pw_below_drewN | apply below_drew1) | exact HB.out)) hb); clear HB; have HB := n0_; clear n0_; (try clear hb); (try clear hb2); (try clear hk); (try clear hi)) | ((with_reducible refine gate_callee (f := 25) rfl ?_); refine goesL_ (some 10) rfl rfl Try.func25 (by kernel_rfl) rfl #[.int .u64 a0, .int .u64 a1] rfl (by (try simp only [List.map_toArray, List.map_cons, List.map_nil]); first | done | rfl | (simp only [List.length_drop, List.length_take]; rfl)) ?_; (with_reducible refine (word_Far.calls a0 a1 t176 _ A4.out).mono ?_); rintro e w' ⟨rfl, ⟨nd, rfl⟩⟩; refine ⟨_, rfl, ?_⟩))
      go_ret
      exact ⟨by first | rfl | (simp [errW_none, errW_some] <;> rfl) | (simp [*, errW_none, errW_some] <;> rfl), by repeat (first | (with_reducible first | exact HB.out | apply below_alloc | apply pw_below_drewN | apply below_drew1) | exact HB.out)⟩
  · replace c5 := Bool.eq_false_iff.mpr c5
    subst c5
    have H1 : (some false) = some r := by rw [if_neg (show ¬ (false = true) by decide)] at H; exact H
    clear H
    have H := H1
    clear H1
    obtain rfl := Option.some.inj H
    go_enter Try.func6, Try.ntmps6
    go_wp2_with (first | ((with_reducible refine gate_callee (f := 10) rfl ?_); refine goesL_ (some 7) rfl rfl Try.func10 (by kernel_rfl) rfl #[] rfl (by (try simp only [List.map_toArray, List.map_cons, List.map_nil]); first | done | rfl | (simp only [List.length_drop, List.length_take]; rfl)) ?_; (with_reducible refine (poacherlaw02_awake.calls  false _ A3.out).mono ?_); rintro e w17 ⟨rfl, hb⟩; refine ⟨_, rfl, ?_⟩; have n0_ := Aside0.mk (below_step (by repeat (first | (with_reducible first | exact HB.out | apply below_alloc | apply pw_below_drewN | apply below_drew1) | exact HB.out)) hb); clear HB; have HB := n0_; clear n0_; (try clear hb); (try clear hb2); (try clear hk); (try clear hi)) | ((with_reducible refine gate_callee (f := 25) rfl ?_); refine goesL_ (some 10) rfl rfl Try.func25 (by kernel_rfl) rfl #[.int .u64 a0, .int .u64 a1] rfl (by (try simp only [List.map_toArray, List.map_cons, List.map_nil]); first | done | rfl | (simp only [List.length_drop, List.length_take]; rfl)) ?_; (with_reducible refine (word_Far.calls a0 a1 t176 _ A4.out).mono ?_); rintro e w' ⟨rfl, ⟨nd, rfl⟩⟩; refine ⟨_, rfl, ?_⟩))
    go_ret
    exact ⟨by first | rfl | (simp [errW_none, errW_some] <;> rfl) | (simp [*, errW_none, errW_some] <;> rfl), by repeat (first | (with_reducible first | exact HB.out | apply below_alloc | apply pw_below_drewN | apply below_drew1) | exact HB.out)⟩

/-- THE ONE PURE STATEMENT of poacherlaw02_WordFar: yours. -/
def poacherlaw02_WordFar.Pure : Prop := ∀ (a0 : Int) (a1 : Int), (Lit.int .u64 a0).wf = true → (Lit.int .u64 a1).wf = true → poacherlaw02_WordFar.f a0 a1 = some true
theorem poacherlaw02_WordFar.walk (P : poacherlaw02_WordFar.Pure) (a0 : Int) (a1 : Int) (w : World) (w0 : (Lit.int .u64 a0).wf = true) (w1 : (Lit.int .u64 a1).wf = true) :
    Calls Try.prog 6 #[.int .u64 a0, .int .u64 a1] w fun e w' => e = .returned (.bool true) ∧ Below w.heap.size w w' := by
  have h := P a0 a1 w0 w1
  refine (poacherlaw02_WordFar.calls a0 a1 true w h).mono ?_
  rintro e w' ⟨rfl, hd⟩
  exact ⟨rfl, hd⟩

end Go.Proofs.Ytekacbglncnbhaa.QW
