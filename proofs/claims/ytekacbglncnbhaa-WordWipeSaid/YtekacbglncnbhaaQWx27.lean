-- Written by inj.py (a program of this session), by the kit's print with functions given by hand. Not trusted: Lean checks it.
import Derived.Test.YtekacbglncnbhaaQWx0
import Derived.Test.YtekacbglncnbhaaQWx2
import Derived.Test.YtekacbglncnbhaaQWx3
import Derived.Test.YtekacbglncnbhaaQWx6
import Derived.Test.YtekacbglncnbhaaQWx8
import Derived.Test.YtekacbglncnbhaaQWx10
namespace Go.Proofs.Ytekacbglncnbhaa.QW
open Go.RowKit Go.Proofs.YtekacbglncnbhaaW.PrintWords Go.Proofs.YtekacbglncnbhaaW.PrintLast Go.Proofs.YtekacbglncnbhaaW.PrintMore
attribute [local go_sem] max2_int min2_int max_two min_two max_three min_three max_four min_four   -- for this text's walks alone
set_option linter.unusedVariables false
set_option linter.unusedSimpArgs false

/-! ### poacherlaw02_WordWipe: function 9 -/
def poacherlaw02_WordWipe.f (a0 : Int) : Option (Bool) := (poacherlaw02_awake.f).bind fun t189 => ((word_Wipe.f a0).bind fun t190 => ((word_Bump.f a0).bind fun bt191 => (if t189 = true then ((word_Mask.f t190).bind fun t193 => (if t193 = 0 then ((word_Epoch.f t190).bind fun t194 => ((word_Epoch.f bt191.1).bind fun t195 => (if t194 = t195 then ((word_Epoch.f t190).bind fun t196 => ((word_Epoch.f a0).bind fun t197 => (if t196 = (Int.tmod (IntKind.u64.wrap (t197 + 1)) 281474976710656) then ((word_Mask.f bt191.1).bind fun t198 => ((word_Mask.f a0).bind fun t199 => ((word_Mask.f bt191.1).bind fun t200 => (some ((Go.bits .and .u64 t198 t199) == t200))))) else (some false)))) else (some false)))) else (some false))) else (some false))))
set_option maxHeartbeats 8000000 in
set_option maxRecDepth 100000 in
theorem poacherlaw02_WordWipe.calls (a0 : Int) (r : Bool) (w : World) (h : poacherlaw02_WordWipe.f a0 = some r) :
    Calls Try.prog 9 #[.int .u64 a0] w fun e w' => e = .returned (.bool r) ∧ Below w.heap.size w w' := by
  have HB := Aside0.mk (Below.refl w.heap.size w)
  have H : ((poacherlaw02_awake.f).bind fun t189 => ((word_Wipe.f a0).bind fun t190 => ((word_Bump.f a0).bind fun bt191 => (if t189 = true then ((word_Mask.f t190).bind fun t193 => (if t193 = 0 then ((word_Epoch.f t190).bind fun t194 => ((word_Epoch.f bt191.1).bind fun t195 => (if t194 = t195 then ((word_Epoch.f t190).bind fun t196 => ((word_Epoch.f a0).bind fun t197 => (if t196 = (Int.tmod (IntKind.u64.wrap (t197 + 1)) 281474976710656) then ((word_Mask.f bt191.1).bind fun t198 => ((word_Mask.f a0).bind fun t199 => ((word_Mask.f bt191.1).bind fun t200 => (some ((Go.bits .and .u64 t198 t199) == t200))))) else (some false)))) else (some false)))) else (some false))) else (some false))))) = some r := h
  clear h
  replace H := Option.bind_eq_some_iff.mp H
  obtain ⟨t189, A20, H⟩ := H
  replace H : ((word_Wipe.f a0).bind fun t190 => ((word_Bump.f a0).bind fun bt191 => (if t189 = true then ((word_Mask.f t190).bind fun t193 => (if t193 = 0 then ((word_Epoch.f t190).bind fun t194 => ((word_Epoch.f bt191.1).bind fun t195 => (if t194 = t195 then ((word_Epoch.f t190).bind fun t196 => ((word_Epoch.f a0).bind fun t197 => (if t196 = (Int.tmod (IntKind.u64.wrap (t197 + 1)) 281474976710656) then ((word_Mask.f bt191.1).bind fun t198 => ((word_Mask.f a0).bind fun t199 => ((word_Mask.f bt191.1).bind fun t200 => (some ((Go.bits .and .u64 t198 t199) == t200))))) else (some false)))) else (some false)))) else (some false))) else (some false)))) = some r := H
  have A2 := Aside0.mk A20
  clear A20
  replace H := Option.bind_eq_some_iff.mp H
  obtain ⟨t190, A30, H⟩ := H
  replace H : ((word_Bump.f a0).bind fun bt191 => (if t189 = true then ((word_Mask.f t190).bind fun t193 => (if t193 = 0 then ((word_Epoch.f t190).bind fun t194 => ((word_Epoch.f bt191.1).bind fun t195 => (if t194 = t195 then ((word_Epoch.f t190).bind fun t196 => ((word_Epoch.f a0).bind fun t197 => (if t196 = (Int.tmod (IntKind.u64.wrap (t197 + 1)) 281474976710656) then ((word_Mask.f bt191.1).bind fun t198 => ((word_Mask.f a0).bind fun t199 => ((word_Mask.f bt191.1).bind fun t200 => (some ((Go.bits .and .u64 t198 t199) == t200))))) else (some false)))) else (some false)))) else (some false))) else (some false))) = some r := H
  have A3 := Aside0.mk A30
  clear A30
  replace H := Option.bind_eq_some_iff.mp H
  obtain ⟨⟨t191, t192⟩, A40, H⟩ := H
  replace H : (if t189 = true then ((word_Mask.f t190).bind fun t193 => (if t193 = 0 then ((word_Epoch.f t190).bind fun t194 => ((word_Epoch.f t191).bind fun t195 => (if t194 = t195 then ((word_Epoch.f t190).bind fun t196 => ((word_Epoch.f a0).bind fun t197 => (if t196 = (Int.tmod (IntKind.u64.wrap (t197 + 1)) 281474976710656) then ((word_Mask.f t191).bind fun t198 => ((word_Mask.f a0).bind fun t199 => ((word_Mask.f t191).bind fun t200 => (some ((Go.bits .and .u64 t198 t199) == t200))))) else (some false)))) else (some false)))) else (some false))) else (some false)) = some r := H
  have A4 := Aside0.mk A40
  clear A40
  by_cases c5 : t189 = true
  · subst c5
    have H1 : ((word_Mask.f t190).bind fun t193 => (if t193 = 0 then ((word_Epoch.f t190).bind fun t194 => ((word_Epoch.f t191).bind fun t195 => (if t194 = t195 then ((word_Epoch.f t190).bind fun t196 => ((word_Epoch.f a0).bind fun t197 => (if t196 = (Int.tmod (IntKind.u64.wrap (t197 + 1)) 281474976710656) then ((word_Mask.f t191).bind fun t198 => ((word_Mask.f a0).bind fun t199 => ((word_Mask.f t191).bind fun t200 => (some ((Go.bits .and .u64 t198 t199) == t200))))) else (some false)))) else (some false)))) else (some false))) = some r := by rw [if_pos rfl] at H; exact H
    clear H
    have H := H1
    clear H1
    replace H := Option.bind_eq_some_iff.mp H
    obtain ⟨t193, A60, H⟩ := H
    replace H : (if t193 = 0 then ((word_Epoch.f t190).bind fun t194 => ((word_Epoch.f t191).bind fun t195 => (if t194 = t195 then ((word_Epoch.f t190).bind fun t196 => ((word_Epoch.f a0).bind fun t197 => (if t196 = (Int.tmod (IntKind.u64.wrap (t197 + 1)) 281474976710656) then ((word_Mask.f t191).bind fun t198 => ((word_Mask.f a0).bind fun t199 => ((word_Mask.f t191).bind fun t200 => (some ((Go.bits .and .u64 t198 t199) == t200))))) else (some false)))) else (some false)))) else (some false)) = some r := H
    have A6 := Aside0.mk A60
    clear A60
    by_cases c7 : t193 = 0
    · rw [if_pos c7] at H
      have c7b0 : (t193 == 0) = true := beq_iff_eq.mpr c7
      have c7b1 : (t193 != 0) = false := bne_eq_false_iff_eq.mpr c7
      clear c7
      replace H := Option.bind_eq_some_iff.mp H
      obtain ⟨t194, A80, H⟩ := H
      replace H : ((word_Epoch.f t191).bind fun t195 => (if t194 = t195 then ((word_Epoch.f t190).bind fun t196 => ((word_Epoch.f a0).bind fun t197 => (if t196 = (Int.tmod (IntKind.u64.wrap (t197 + 1)) 281474976710656) then ((word_Mask.f t191).bind fun t198 => ((word_Mask.f a0).bind fun t199 => ((word_Mask.f t191).bind fun t200 => (some ((Go.bits .and .u64 t198 t199) == t200))))) else (some false)))) else (some false))) = some r := H
      have A8 := Aside0.mk A80
      clear A80
      replace H := Option.bind_eq_some_iff.mp H
      obtain ⟨t195, A90, H⟩ := H
      replace H : (if t194 = t195 then ((word_Epoch.f t190).bind fun t196 => ((word_Epoch.f a0).bind fun t197 => (if t196 = (Int.tmod (IntKind.u64.wrap (t197 + 1)) 281474976710656) then ((word_Mask.f t191).bind fun t198 => ((word_Mask.f a0).bind fun t199 => ((word_Mask.f t191).bind fun t200 => (some ((Go.bits .and .u64 t198 t199) == t200))))) else (some false)))) else (some false)) = some r := H
      have A9 := Aside0.mk A90
      clear A90
      by_cases c10 : t194 = t195
      · rw [if_pos c10] at H
        have c10b0 : (t194 == t195) = true := beq_iff_eq.mpr c10
        have c10b1 : (t194 != t195) = false := bne_eq_false_iff_eq.mpr c10
        clear c10
        replace H := Option.bind_eq_some_iff.mp H
        obtain ⟨t196, A110, H⟩ := H
        replace H : ((word_Epoch.f a0).bind fun t197 => (if t196 = (Int.tmod (IntKind.u64.wrap (t197 + 1)) 281474976710656) then ((word_Mask.f t191).bind fun t198 => ((word_Mask.f a0).bind fun t199 => ((word_Mask.f t191).bind fun t200 => (some ((Go.bits .and .u64 t198 t199) == t200))))) else (some false))) = some r := H
        have A11 := Aside0.mk A110
        clear A110
        replace H := Option.bind_eq_some_iff.mp H
        obtain ⟨t197, A120, H⟩ := H
        replace H : (if t196 = (Int.tmod (IntKind.u64.wrap (t197 + 1)) 281474976710656) then ((word_Mask.f t191).bind fun t198 => ((word_Mask.f a0).bind fun t199 => ((word_Mask.f t191).bind fun t200 => (some ((Go.bits .and .u64 t198 t199) == t200))))) else (some false)) = some r := H
        have A12 := Aside0.mk A120
        clear A120
        by_cases c13 : t196 = (Int.tmod (IntKind.u64.wrap (t197 + 1)) 281474976710656)
        · rw [if_pos c13] at H
          have c13b0 : (t196 == (Int.tmod (IntKind.u64.wrap (t197 + 1)) 281474976710656)) = true := beq_iff_eq.mpr c13
          have c13b1 : (t196 != (Int.tmod (IntKind.u64.wrap (t197 + 1)) 281474976710656)) = false := bne_eq_false_iff_eq.mpr c13
          clear c13
          replace H := Option.bind_eq_some_iff.mp H
          obtain ⟨t198, A140, H⟩ := H
          replace H : ((word_Mask.f a0).bind fun t199 => ((word_Mask.f t191).bind fun t200 => (some ((Go.bits .and .u64 t198 t199) == t200)))) = some r := H
          have A14 := Aside0.mk A140
          clear A140
          replace H := Option.bind_eq_some_iff.mp H
          obtain ⟨t199, A150, H⟩ := H
          replace H : ((word_Mask.f t191).bind fun t200 => (some ((Go.bits .and .u64 t198 t199) == t200))) = some r := H
          have A15 := Aside0.mk A150
          clear A150
          replace H := Option.bind_eq_some_iff.mp H
          obtain ⟨t200, A160, H⟩ := H
          replace H : (some ((Go.bits .and .u64 t198 t199) == t200)) = some r := H
          have A16 := Aside0.mk A160
          clear A160
          obtain rfl := Option.some.inj H
          go_enter Try.func9, Try.ntmps9
          go_wp2_with (first | ((with_reducible refine gate_callee (f := 10) rfl ?_); refine goesL_ (some 7) rfl rfl Try.func10 (by kernel_rfl) rfl #[] rfl (by (try simp only [List.map_toArray, List.map_cons, List.map_nil]); first | done | rfl | (simp only [List.length_drop, List.length_take]; rfl)) ?_; (with_reducible refine (poacherlaw02_awake.calls  true _ A2.out).mono ?_); (try clear A2); rintro e w17 ⟨rfl, hb⟩; refine ⟨_, rfl, ?_⟩; have n0_ := Aside0.mk (below_step (by repeat (first | (with_reducible first | exact HB.out | apply below_alloc | apply pw_below_drewN | apply below_drew1) | exact HB.out)) hb); clear HB; have HB := n0_; clear n0_; (try clear hb); (try clear hb2); (try clear hk); (try clear hi)) | ((with_reducible refine gate_callee (f := 23) rfl ?_); refine goesL_ (some 9) rfl rfl Try.func23 (by kernel_rfl) rfl #[.int .u64 a0] rfl (by (try simp only [List.map_toArray, List.map_cons, List.map_nil]); first | done | rfl | (simp only [List.length_drop, List.length_take]; rfl)) ?_; (with_reducible refine (word_Wipe.calls a0 t190 _ A3.out).mono ?_); (try clear A3); rintro e w' ⟨rfl, ⟨nd, rfl⟩⟩; refine ⟨_, rfl, ?_⟩) | ((with_reducible refine gate_callee (f := 11) rfl ?_); refine goesL_ (some 12) rfl rfl Try.func11 (by kernel_rfl) rfl #[.int .u64 a0] rfl (by (try simp only [List.map_toArray, List.map_cons, List.map_nil]); first | done | rfl | (simp only [List.length_drop, List.length_take]; rfl)) ?_; (with_reducible refine (word_Bump.calls a0 t191 t192 _ A4.out).mono ?_); (try clear A4); rintro e w18 ⟨rfl, hb⟩; refine ⟨_, rfl, ?_⟩; have n0_ := Aside0.mk (below_step (by repeat (first | (with_reducible first | exact HB.out | apply below_alloc | apply pw_below_drewN | apply below_drew1) | exact HB.out)) hb); clear HB; have HB := n0_; clear n0_; (try clear hb); (try clear hb2); (try clear hk); (try clear hi)) | (go_at_call 17; (with_reducible refine (word_Mask.calls t190 t193 _ A6.out).mono ?_); (try clear A6); rintro e w' ⟨rfl, ⟨nd, rfl⟩⟩) | (go_at_call 15; (with_reducible refine (word_Epoch.calls t190 t194 _ A8.out).mono ?_); (try clear A8); rintro e w' ⟨rfl, ⟨nd, rfl⟩⟩) | (go_at_call 15; (with_reducible refine (word_Epoch.calls t191 t195 _ A9.out).mono ?_); (try clear A9); rintro e w' ⟨rfl, ⟨nd, rfl⟩⟩) | (go_at_call 15; (with_reducible refine (word_Epoch.calls t190 t196 _ A11.out).mono ?_); (try clear A11); rintro e w' ⟨rfl, ⟨nd, rfl⟩⟩) | (go_at_call 15; (with_reducible refine (word_Epoch.calls a0 t197 _ A12.out).mono ?_); (try clear A12); rintro e w' ⟨rfl, ⟨nd, rfl⟩⟩) | (go_at_call 17; (with_reducible refine (word_Mask.calls t191 t198 _ A14.out).mono ?_); (try clear A14); rintro e w' ⟨rfl, ⟨nd, rfl⟩⟩) | (go_at_call 17; (with_reducible refine (word_Mask.calls a0 t199 _ A15.out).mono ?_); (try clear A15); rintro e w' ⟨rfl, ⟨nd, rfl⟩⟩) | (go_at_call 17; (with_reducible refine (word_Mask.calls t191 t200 _ A16.out).mono ?_); (try clear A16); rintro e w' ⟨rfl, ⟨nd, rfl⟩⟩))
          go_ret
          exact ⟨by first | rfl | (simp [errW_none, errW_some] <;> rfl) | (simp [*, errW_none, errW_some] <;> rfl), by repeat (first | (with_reducible first | exact HB.out | apply below_alloc | apply pw_below_drewN | apply below_drew1) | exact HB.out)⟩
        · rw [if_neg c13] at H
          have c13b0 : (t196 == (Int.tmod (IntKind.u64.wrap (t197 + 1)) 281474976710656)) = false := beq_eq_false_iff_ne.mpr c13
          have c13b1 : (t196 != (Int.tmod (IntKind.u64.wrap (t197 + 1)) 281474976710656)) = true := bne_iff_ne.mpr c13
          obtain rfl := Option.some.inj H
          go_enter Try.func9, Try.ntmps9
          go_wp2_with (first | ((with_reducible refine gate_callee (f := 10) rfl ?_); refine goesL_ (some 7) rfl rfl Try.func10 (by kernel_rfl) rfl #[] rfl (by (try simp only [List.map_toArray, List.map_cons, List.map_nil]); first | done | rfl | (simp only [List.length_drop, List.length_take]; rfl)) ?_; (with_reducible refine (poacherlaw02_awake.calls  true _ A2.out).mono ?_); (try clear A2); rintro e w19 ⟨rfl, hb⟩; refine ⟨_, rfl, ?_⟩; have n0_ := Aside0.mk (below_step (by repeat (first | (with_reducible first | exact HB.out | apply below_alloc | apply pw_below_drewN | apply below_drew1) | exact HB.out)) hb); clear HB; have HB := n0_; clear n0_; (try clear hb); (try clear hb2); (try clear hk); (try clear hi)) | ((with_reducible refine gate_callee (f := 23) rfl ?_); refine goesL_ (some 9) rfl rfl Try.func23 (by kernel_rfl) rfl #[.int .u64 a0] rfl (by (try simp only [List.map_toArray, List.map_cons, List.map_nil]); first | done | rfl | (simp only [List.length_drop, List.length_take]; rfl)) ?_; (with_reducible refine (word_Wipe.calls a0 t190 _ A3.out).mono ?_); (try clear A3); rintro e w' ⟨rfl, ⟨nd, rfl⟩⟩; refine ⟨_, rfl, ?_⟩) | ((with_reducible refine gate_callee (f := 11) rfl ?_); refine goesL_ (some 12) rfl rfl Try.func11 (by kernel_rfl) rfl #[.int .u64 a0] rfl (by (try simp only [List.map_toArray, List.map_cons, List.map_nil]); first | done | rfl | (simp only [List.length_drop, List.length_take]; rfl)) ?_; (with_reducible refine (word_Bump.calls a0 t191 t192 _ A4.out).mono ?_); (try clear A4); rintro e w20 ⟨rfl, hb⟩; refine ⟨_, rfl, ?_⟩; have n0_ := Aside0.mk (below_step (by repeat (first | (with_reducible first | exact HB.out | apply below_alloc | apply pw_below_drewN | apply below_drew1) | exact HB.out)) hb); clear HB; have HB := n0_; clear n0_; (try clear hb); (try clear hb2); (try clear hk); (try clear hi)) | (go_at_call 17; (with_reducible refine (word_Mask.calls t190 t193 _ A6.out).mono ?_); (try clear A6); rintro e w' ⟨rfl, ⟨nd, rfl⟩⟩) | (go_at_call 15; (with_reducible refine (word_Epoch.calls t190 t194 _ A8.out).mono ?_); (try clear A8); rintro e w' ⟨rfl, ⟨nd, rfl⟩⟩) | (go_at_call 15; (with_reducible refine (word_Epoch.calls t191 t195 _ A9.out).mono ?_); (try clear A9); rintro e w' ⟨rfl, ⟨nd, rfl⟩⟩) | (go_at_call 15; (with_reducible refine (word_Epoch.calls t190 t196 _ A11.out).mono ?_); (try clear A11); rintro e w' ⟨rfl, ⟨nd, rfl⟩⟩) | (go_at_call 15; (with_reducible refine (word_Epoch.calls a0 t197 _ A12.out).mono ?_); (try clear A12); rintro e w' ⟨rfl, ⟨nd, rfl⟩⟩))
          go_ret
          exact ⟨by first | rfl | (simp [errW_none, errW_some] <;> rfl) | (simp [*, errW_none, errW_some] <;> rfl), by repeat (first | (with_reducible first | exact HB.out | apply below_alloc | apply pw_below_drewN | apply below_drew1) | exact HB.out)⟩
      · rw [if_neg c10] at H
        have c10b0 : (t194 == t195) = false := beq_eq_false_iff_ne.mpr c10
        have c10b1 : (t194 != t195) = true := bne_iff_ne.mpr c10
        obtain rfl := Option.some.inj H
        go_enter Try.func9, Try.ntmps9
        go_wp2_with (first | ((with_reducible refine gate_callee (f := 10) rfl ?_); refine goesL_ (some 7) rfl rfl Try.func10 (by kernel_rfl) rfl #[] rfl (by (try simp only [List.map_toArray, List.map_cons, List.map_nil]); first | done | rfl | (simp only [List.length_drop, List.length_take]; rfl)) ?_; (with_reducible refine (poacherlaw02_awake.calls  true _ A2.out).mono ?_); (try clear A2); rintro e w21 ⟨rfl, hb⟩; refine ⟨_, rfl, ?_⟩; have n0_ := Aside0.mk (below_step (by repeat (first | (with_reducible first | exact HB.out | apply below_alloc | apply pw_below_drewN | apply below_drew1) | exact HB.out)) hb); clear HB; have HB := n0_; clear n0_; (try clear hb); (try clear hb2); (try clear hk); (try clear hi)) | ((with_reducible refine gate_callee (f := 23) rfl ?_); refine goesL_ (some 9) rfl rfl Try.func23 (by kernel_rfl) rfl #[.int .u64 a0] rfl (by (try simp only [List.map_toArray, List.map_cons, List.map_nil]); first | done | rfl | (simp only [List.length_drop, List.length_take]; rfl)) ?_; (with_reducible refine (word_Wipe.calls a0 t190 _ A3.out).mono ?_); (try clear A3); rintro e w' ⟨rfl, ⟨nd, rfl⟩⟩; refine ⟨_, rfl, ?_⟩) | ((with_reducible refine gate_callee (f := 11) rfl ?_); refine goesL_ (some 12) rfl rfl Try.func11 (by kernel_rfl) rfl #[.int .u64 a0] rfl (by (try simp only [List.map_toArray, List.map_cons, List.map_nil]); first | done | rfl | (simp only [List.length_drop, List.length_take]; rfl)) ?_; (with_reducible refine (word_Bump.calls a0 t191 t192 _ A4.out).mono ?_); (try clear A4); rintro e w22 ⟨rfl, hb⟩; refine ⟨_, rfl, ?_⟩; have n0_ := Aside0.mk (below_step (by repeat (first | (with_reducible first | exact HB.out | apply below_alloc | apply pw_below_drewN | apply below_drew1) | exact HB.out)) hb); clear HB; have HB := n0_; clear n0_; (try clear hb); (try clear hb2); (try clear hk); (try clear hi)) | (go_at_call 17; (with_reducible refine (word_Mask.calls t190 t193 _ A6.out).mono ?_); (try clear A6); rintro e w' ⟨rfl, ⟨nd, rfl⟩⟩) | (go_at_call 15; (with_reducible refine (word_Epoch.calls t190 t194 _ A8.out).mono ?_); (try clear A8); rintro e w' ⟨rfl, ⟨nd, rfl⟩⟩) | (go_at_call 15; (with_reducible refine (word_Epoch.calls t191 t195 _ A9.out).mono ?_); (try clear A9); rintro e w' ⟨rfl, ⟨nd, rfl⟩⟩))
        go_ret
        exact ⟨by first | rfl | (simp [errW_none, errW_some] <;> rfl) | (simp [*, errW_none, errW_some] <;> rfl), by repeat (first | (with_reducible first | exact HB.out | apply below_alloc | apply pw_below_drewN | apply below_drew1) | exact HB.out)⟩
    · rw [if_neg c7] at H
      have c7b0 : (t193 == 0) = false := beq_eq_false_iff_ne.mpr c7
      have c7b1 : (t193 != 0) = true := bne_iff_ne.mpr c7
      obtain rfl := Option.some.inj H
      go_enter Try.func9, Try.ntmps9
      go_wp2_with (first | ((with_reducible refine gate_callee (f := 10) rfl ?_); refine goesL_ (some 7) rfl rfl Try.func10 (by kernel_rfl) rfl #[] rfl (by (try simp only [List.map_toArray, List.map_cons, List.map_nil]); first | done | rfl | (simp only [List.length_drop, List.length_take]; rfl)) ?_; (with_reducible refine (poacherlaw02_awake.calls  true _ A2.out).mono ?_); (try clear A2); rintro e w23 ⟨rfl, hb⟩; refine ⟨_, rfl, ?_⟩; have n0_ := Aside0.mk (below_step (by repeat (first | (with_reducible first | exact HB.out | apply below_alloc | apply pw_below_drewN | apply below_drew1) | exact HB.out)) hb); clear HB; have HB := n0_; clear n0_; (try clear hb); (try clear hb2); (try clear hk); (try clear hi)) | ((with_reducible refine gate_callee (f := 23) rfl ?_); refine goesL_ (some 9) rfl rfl Try.func23 (by kernel_rfl) rfl #[.int .u64 a0] rfl (by (try simp only [List.map_toArray, List.map_cons, List.map_nil]); first | done | rfl | (simp only [List.length_drop, List.length_take]; rfl)) ?_; (with_reducible refine (word_Wipe.calls a0 t190 _ A3.out).mono ?_); (try clear A3); rintro e w' ⟨rfl, ⟨nd, rfl⟩⟩; refine ⟨_, rfl, ?_⟩) | ((with_reducible refine gate_callee (f := 11) rfl ?_); refine goesL_ (some 12) rfl rfl Try.func11 (by kernel_rfl) rfl #[.int .u64 a0] rfl (by (try simp only [List.map_toArray, List.map_cons, List.map_nil]); first | done | rfl | (simp only [List.length_drop, List.length_take]; rfl)) ?_; (with_reducible refine (word_Bump.calls a0 t191 t192 _ A4.out).mono ?_); (try clear A4); rintro e w24 ⟨rfl, hb⟩; refine ⟨_, rfl, ?_⟩; have n0_ := Aside0.mk (below_step (by repeat (first | (with_reducible first | exact HB.out | apply below_alloc | apply pw_below_drewN | apply below_drew1) | exact HB.out)) hb); clear HB; have HB := n0_; clear n0_; (try clear hb); (try clear hb2); (try clear hk); (try clear hi)) | (go_at_call 17; (with_reducible refine (word_Mask.calls t190 t193 _ A6.out).mono ?_); (try clear A6); rintro e w' ⟨rfl, ⟨nd, rfl⟩⟩))
      go_ret
      exact ⟨by first | rfl | (simp [errW_none, errW_some] <;> rfl) | (simp [*, errW_none, errW_some] <;> rfl), by repeat (first | (with_reducible first | exact HB.out | apply below_alloc | apply pw_below_drewN | apply below_drew1) | exact HB.out)⟩
  · replace c5 := Bool.eq_false_iff.mpr c5
    subst c5
    have H1 : (some false) = some r := by rw [if_neg (show ¬ (false = true) by decide)] at H; exact H
    clear H
    have H := H1
    clear H1
    obtain rfl := Option.some.inj H
    go_enter Try.func9, Try.ntmps9
    go_wp2_with (first | ((with_reducible refine gate_callee (f := 10) rfl ?_); refine goesL_ (some 7) rfl rfl Try.func10 (by kernel_rfl) rfl #[] rfl (by (try simp only [List.map_toArray, List.map_cons, List.map_nil]); first | done | rfl | (simp only [List.length_drop, List.length_take]; rfl)) ?_; (with_reducible refine (poacherlaw02_awake.calls  false _ A2.out).mono ?_); (try clear A2); rintro e w25 ⟨rfl, hb⟩; refine ⟨_, rfl, ?_⟩; have n0_ := Aside0.mk (below_step (by repeat (first | (with_reducible first | exact HB.out | apply below_alloc | apply pw_below_drewN | apply below_drew1) | exact HB.out)) hb); clear HB; have HB := n0_; clear n0_; (try clear hb); (try clear hb2); (try clear hk); (try clear hi)) | ((with_reducible refine gate_callee (f := 23) rfl ?_); refine goesL_ (some 9) rfl rfl Try.func23 (by kernel_rfl) rfl #[.int .u64 a0] rfl (by (try simp only [List.map_toArray, List.map_cons, List.map_nil]); first | done | rfl | (simp only [List.length_drop, List.length_take]; rfl)) ?_; (with_reducible refine (word_Wipe.calls a0 t190 _ A3.out).mono ?_); (try clear A3); rintro e w' ⟨rfl, ⟨nd, rfl⟩⟩; refine ⟨_, rfl, ?_⟩) | ((with_reducible refine gate_callee (f := 11) rfl ?_); refine goesL_ (some 12) rfl rfl Try.func11 (by kernel_rfl) rfl #[.int .u64 a0] rfl (by (try simp only [List.map_toArray, List.map_cons, List.map_nil]); first | done | rfl | (simp only [List.length_drop, List.length_take]; rfl)) ?_; (with_reducible refine (word_Bump.calls a0 t191 t192 _ A4.out).mono ?_); (try clear A4); rintro e w26 ⟨rfl, hb⟩; refine ⟨_, rfl, ?_⟩; have n0_ := Aside0.mk (below_step (by repeat (first | (with_reducible first | exact HB.out | apply below_alloc | apply pw_below_drewN | apply below_drew1) | exact HB.out)) hb); clear HB; have HB := n0_; clear n0_; (try clear hb); (try clear hb2); (try clear hk); (try clear hi)))
    go_ret
    exact ⟨by first | rfl | (simp [errW_none, errW_some] <;> rfl) | (simp [*, errW_none, errW_some] <;> rfl), by repeat (first | (with_reducible first | exact HB.out | apply below_alloc | apply pw_below_drewN | apply below_drew1) | exact HB.out)⟩

/-- THE ONE PURE STATEMENT of poacherlaw02_WordWipe: yours. -/
def poacherlaw02_WordWipe.Pure : Prop := ∀ (a0 : Int), (Lit.int .u64 a0).wf = true → poacherlaw02_WordWipe.f a0 = some true
theorem poacherlaw02_WordWipe.walk (P : poacherlaw02_WordWipe.Pure) (a0 : Int) (w : World) (w0 : (Lit.int .u64 a0).wf = true) :
    Calls Try.prog 9 #[.int .u64 a0] w fun e w' => e = .returned (.bool true) ∧ Below w.heap.size w w' := by
  have h := P a0 w0
  refine (poacherlaw02_WordWipe.calls a0 true w h).mono ?_
  rintro e w' ⟨rfl, hd⟩
  exact ⟨rfl, hd⟩

end Go.Proofs.Ytekacbglncnbhaa.QW
