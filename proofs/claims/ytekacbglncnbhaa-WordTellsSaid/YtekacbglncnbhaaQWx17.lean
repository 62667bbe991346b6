-- Written by inj.py (a program of this session), by the kit's print with functions given by hand. Not trusted: Lean checks it.
import Derived.Test.YtekacbglncnbhaaQWx0
import Derived.Test.YtekacbglncnbhaaQWx11
import Derived.Test.YtekacbglncnbhaaQWx12
import Derived.Test.YtekacbglncnbhaaQWx13
import Derived.Test.YtekacbglncnbhaaQWx14
import Derived.Test.YtekacbglncnbhaaQWx16
namespace Go.Proofs.Ytekacbglncnbhaa.QW
open Go.RowKit Go.Proofs.YtekacbglncnbhaaW.PrintWords Go.Proofs.YtekacbglncnbhaaW.PrintLast Go.Proofs.YtekacbglncnbhaaW.PrintMore
attribute [local go_sem] max2_int min2_int max_two min_two max_three min_three max_four min_four   -- for this text's walks alone
set_option linter.unusedVariables false
set_option linter.unusedSimpArgs false

/-! ### poacherref02_Bump: function 12 -/
def poacherref02_Bump.f (k : Nat) (a0 : Int) : Option (Int × Int) := (poacherref02_Mask.f a0).bind fun t121 => ((poacherref02_Lowest.f k t121).bind fun t122 => (if t122 < 0 then ((poacherref02_Epoch.f a0).bind fun t123 => ((poacherref02_Pack.f (IntKind.u64.wrap (t123 + 1)) 0).bind fun t124 => (some (t124, (-1))))) else ((poacherref02_Epoch.f a0).bind fun t125 => ((poacherref02_Mask.f a0).bind fun t126 => ((poacherref02_bit.f k t122).bind fun t127 => ((poacherref02_Pack.f (IntKind.u64.wrap (t125 + 1)) (IntKind.u64.wrap (t126 - t127))).bind fun t128 => (some (t128, t122))))))))
theorem poacherref02_Bump.mono : ∀ a0 k, LeO (poacherref02_Bump.f k a0) (poacherref02_Bump.f (k + 1) a0) := by
  intro a0 k
  unfold poacherref02_Bump.f
  repeat' first
      | (with_reducible exact poacherref02_Lowest.mono _ _)
      | (with_reducible exact poacherref02_bit.mono _ _)
      | (with_reducible exact LeO.refl _)
      | (with_reducible exact LeO.none _)
      | (with_reducible refine LeO.ite ?_ ?_)
      | (with_reducible refine LeO.bind ?_ (fun _ => ?_))
      | exact poacherref02_Lowest.mono _ _
      | exact poacherref02_bit.mono _ _
      | exact LeO.none _
      | refine LeO.ite ?_ ?_
      | refine LeO.bind ?_ (fun _ => ?_)
set_option maxHeartbeats 8000000 in
set_option maxRecDepth 100000 in
theorem poacherref02_Bump.calls (k : Nat) (a0 : Int) (r1 : Int) (r2 : Int) (w : World) (h : poacherref02_Bump.f k a0 = some (r1, r2)) :
    Calls Try.prog 12 #[.int .u64 a0] w fun e w' => e = .returned (.tuple #[.int .u64 r1, .int .i64 r2]) ∧ Drawn0 w w' := by
  have H : ((poacherref02_Mask.f a0).bind fun t121 => ((poacherref02_Lowest.f k t121).bind fun t122 => (if t122 < 0 then ((poacherref02_Epoch.f a0).bind fun t123 => ((poacherref02_Pack.f (IntKind.u64.wrap (t123 + 1)) 0).bind fun t124 => (some (t124, (-1))))) else ((poacherref02_Epoch.f a0).bind fun t125 => ((poacherref02_Mask.f a0).bind fun t126 => ((poacherref02_bit.f k t122).bind fun t127 => ((poacherref02_Pack.f (IntKind.u64.wrap (t125 + 1)) (IntKind.u64.wrap (t126 - t127))).bind fun t128 => (some (t128, t122))))))))) = some (r1, r2) := h
  clear h
  replace H := Option.bind_eq_some_iff.mp H
  obtain ⟨t121, A20, H⟩ := H
  replace H : ((poacherref02_Lowest.f k t121).bind fun t122 => (if t122 < 0 then ((poacherref02_Epoch.f a0).bind fun t123 => ((poacherref02_Pack.f (IntKind.u64.wrap (t123 + 1)) 0).bind fun t124 => (some (t124, (-1))))) else ((poacherref02_Epoch.f a0).bind fun t125 => ((poacherref02_Mask.f a0).bind fun t126 => ((poacherref02_bit.f k t122).bind fun t127 => ((poacherref02_Pack.f (IntKind.u64.wrap (t125 + 1)) (IntKind.u64.wrap (t126 - t127))).bind fun t128 => (some (t128, t122)))))))) = some (r1, r2) := H
  have A2 := Aside0.mk A20
  clear A20
  replace H := Option.bind_eq_some_iff.mp H
  obtain ⟨t122, A30, H⟩ := H
  replace H : (if t122 < 0 then ((poacherref02_Epoch.f a0).bind fun t123 => ((poacherref02_Pack.f (IntKind.u64.wrap (t123 + 1)) 0).bind fun t124 => (some (t124, (-1))))) else ((poacherref02_Epoch.f a0).bind fun t125 => ((poacherref02_Mask.f a0).bind fun t126 => ((poacherref02_bit.f k t122).bind fun t127 => ((poacherref02_Pack.f (IntKind.u64.wrap (t125 + 1)) (IntKind.u64.wrap (t126 - t127))).bind fun t128 => (some (t128, t122))))))) = some (r1, r2) := H
  have A3 := Aside0.mk A30
  clear A30
  by_cases c4 : t122 < 0
  · rw [if_pos c4] at H
    have c4b0 : decide (t122 < 0) = true := decide_eq_true c4
    clear c4
    replace H := Option.bind_eq_some_iff.mp H
    obtain ⟨t123, A50, H⟩ := H
    replace H : ((poacherref02_Pack.f (IntKind.u64.wrap (t123 + 1)) 0).bind fun t124 => (some (t124, (-1)))) = some (r1, r2) := H
    have A5 := Aside0.mk A50
    clear A50
    replace H := Option.bind_eq_some_iff.mp H
    obtain ⟨t124, A60, H⟩ := H
    replace H : (some (t124, (-1))) = some (r1, r2) := H
    have A6 := Aside0.mk A60
    clear A60
    simp only [Option.some.injEq, Prod.mk.injEq] at H
    obtain ⟨rfl, rfl⟩ := H
    go_enter Try.func12, Try.ntmps12
    go_wp2_with (first | ((with_reducible refine gate_callee (f := 18) rfl ?_); refine goesL_ (some 6) rfl rfl Try.func18 (by kernel_rfl) rfl #[.int .u64 a0] rfl (by (try simp only [List.map_toArray, List.map_cons, List.map_nil]); first | done | rfl | (simp only [List.length_drop, List.length_take]; rfl)) ?_; (with_reducible refine (poacherref02_Mask.calls a0 t121 _ A2.out).mono ?_); rintro e w' ⟨rfl, ⟨nd, rfl⟩⟩; refine ⟨_, rfl, ?_⟩) | ((with_reducible refine gate_callee (f := 22) rfl ?_); refine goesL_ (some 7) rfl rfl Try.func22 (by kernel_rfl) rfl #[.int .u64 t121] rfl (by (try simp only [List.map_toArray, List.map_cons, List.map_nil]); first | done | rfl | (simp only [List.length_drop, List.length_take]; rfl)) ?_; (with_reducible refine (poacherref02_Lowest.calls k t121 t122 _ A3.out).mono ?_); rintro e w' ⟨rfl, ⟨nd, rfl⟩⟩; refine ⟨_, rfl, ?_⟩) | ((with_reducible refine gate_callee (f := 16) rfl ?_); refine goesL_ (some 11) rfl rfl Try.func16 (by kernel_rfl) rfl #[.int .u64 a0] rfl (by (try simp only [List.map_toArray, List.map_cons, List.map_nil]); first | done | rfl | (simp only [List.length_drop, List.length_take]; rfl)) ?_; (with_reducible refine (poacherref02_Epoch.calls a0 t123 _ A5.out).mono ?_); rintro e w' ⟨rfl, ⟨nd, rfl⟩⟩; refine ⟨_, rfl, ?_⟩) | ((with_reducible refine gate_callee (f := 14) rfl ?_); refine goesL_ (some 13) rfl rfl Try.func14 (by kernel_rfl) rfl #[.int .u64 (IntKind.u64.wrap (t123 + 1)), .int .u64 0] rfl (by (try simp only [List.map_toArray, List.map_cons, List.map_nil]); first | done | rfl | (simp only [List.length_drop, List.length_take]; rfl)) ?_; (with_reducible refine (poacherref02_Pack.calls (IntKind.u64.wrap (t123 + 1)) 0 t124 _ A6.out).mono ?_); rintro e w' ⟨rfl, ⟨nd, rfl⟩⟩; refine ⟨_, rfl, ?_⟩))
    go_ret2
    exact ⟨by first | rfl | (simp; done) | (simp [*]; done), by repeat (first | exact Drawn0.refl _ | apply Drawn0.step)⟩
  · rw [if_neg c4] at H
    have c4b0 : decide (t122 < 0) = false := decide_eq_false c4
    clear c4
    replace H := Option.bind_eq_some_iff.mp H
    obtain ⟨t125, A70, H⟩ := H
    replace H : ((poacherref02_Mask.f a0).bind fun t126 => ((poacherref02_bit.f k t122).bind fun t127 => ((poacherref02_Pack.f (IntKind.u64.wrap (t125 + 1)) (IntKind.u64.wrap (t126 - t127))).bind fun t128 => (some (t128, t122))))) = some (r1, r2) := H
    have A7 := Aside0.mk A70
    clear A70
    replace H := Option.bind_eq_some_iff.mp H
    obtain ⟨t126, A80, H⟩ := H
    replace H : ((poacherref02_bit.f k t122).bind fun t127 => ((poacherref02_Pack.f (IntKind.u64.wrap (t125 + 1)) (IntKind.u64.wrap (t126 - t127))).bind fun t128 => (some (t128, t122)))) = some (r1, r2) := H
    have A8 := Aside0.mk A80
    clear A80
    replace H := Option.bind_eq_some_iff.mp H
    obtain ⟨t127, A90, H⟩ := H
    replace H : ((poacherref02_Pack.f (IntKind.u64.wrap (t125 + 1)) (IntKind.u64.wrap (t126 - t127))).bind fun t128 => (some (t128, t122))) = some (r1, r2) := H
    have A9 := Aside0.mk A90
    clear A90
    replace H := Option.bind_eq_some_iff.mp H
    obtain ⟨t128, A100, H⟩ := H
    replace H : (some (t128, t122)) = some (r1, r2) := H
    have A10 := Aside0.mk A100
    clear A100
    simp only [Option.some.injEq, Prod.mk.injEq] at H
    obtain ⟨rfl, rfl⟩ := H
    go_enter Try.func12, Try.ntmps12
    go_wp2_with (first | ((with_reducible refine gate_callee (f := 18) rfl ?_); refine goesL_ (some 6) rfl rfl Try.func18 (by kernel_rfl) rfl #[.int .u64 a0] rfl (by (try simp only [List.map_toArray, List.map_cons, List.map_nil]); first | done | rfl | (simp only [List.length_drop, List.length_take]; rfl)) ?_; (with_reducible refine (poacherref02_Mask.calls a0 t121 _ A2.out).mono ?_); rintro e w' ⟨rfl, ⟨nd, rfl⟩⟩; refine ⟨_, rfl, ?_⟩) | ((with_reducible refine gate_callee (f := 22) rfl ?_); refine goesL_ (some 7) rfl rfl Try.func22 (by kernel_rfl) rfl #[.int .u64 t121] rfl (by (try simp only [List.map_toArray, List.map_cons, List.map_nil]); first | done | rfl | (simp only [List.length_drop, List.length_take]; rfl)) ?_; (with_reducible refine (poacherref02_Lowest.calls k t121 t122 _ A3.out).mono ?_); rintro e w' ⟨rfl, ⟨nd, rfl⟩⟩; refine ⟨_, rfl, ?_⟩) | ((with_reducible refine gate_callee (f := 16) rfl ?_); refine goesL_ (some 15) rfl rfl Try.func16 (by kernel_rfl) rfl #[.int .u64 a0] rfl (by (try simp only [List.map_toArray, List.map_cons, List.map_nil]); first | done | rfl | (simp only [List.length_drop, List.length_take]; rfl)) ?_; (with_reducible refine (poacherref02_Epoch.calls a0 t125 _ A7.out).mono ?_); rintro e w' ⟨rfl, ⟨nd, rfl⟩⟩; refine ⟨_, rfl, ?_⟩) | ((with_reducible refine gate_callee (f := 18) rfl ?_); refine goesL_ (some 18) rfl rfl Try.func18 (by kernel_rfl) rfl #[.int .u64 a0] rfl (by (try simp only [List.map_toArray, List.map_cons, List.map_nil]); first | done | rfl | (simp only [List.length_drop, List.length_take]; rfl)) ?_; (with_reducible refine (poacherref02_Mask.calls a0 t126 _ A8.out).mono ?_); rintro e w' ⟨rfl, ⟨nd, rfl⟩⟩; refine ⟨_, rfl, ?_⟩) | ((with_reducible refine gate_callee (f := 27) rfl ?_); refine goesL_ (some 20) rfl rfl Try.func27 (by kernel_rfl) rfl #[.int .i64 t122] rfl (by (try simp only [List.map_toArray, List.map_cons, List.map_nil]); first | done | rfl | (simp only [List.length_drop, List.length_take]; rfl)) ?_; (with_reducible refine (poacherref02_bit.calls k t122 t127 _ A9.out).mono ?_); rintro e w' ⟨rfl, ⟨nd, rfl⟩⟩; refine ⟨_, rfl, ?_⟩) | ((with_reducible refine gate_callee (f := 14) rfl ?_); refine goesL_ (some 22) rfl rfl Try.func14 (by kernel_rfl) rfl #[.int .u64 (IntKind.u64.wrap (t125 + 1)), .int .u64 (IntKind.u64.wrap (t126 - t127))] rfl (by (try simp only [List.map_toArray, List.map_cons, List.map_nil]); first | done | rfl | (simp only [List.length_drop, List.length_take]; rfl)) ?_; (with_reducible refine (poacherref02_Pack.calls (IntKind.u64.wrap (t125 + 1)) (IntKind.u64.wrap (t126 - t127)) t128 _ A10.out).mono ?_); rintro e w' ⟨rfl, ⟨nd, rfl⟩⟩; refine ⟨_, rfl, ?_⟩))
    go_ret2
    exact ⟨by first | rfl | (simp; done) | (simp [*]; done), by repeat (first | exact Drawn0.refl _ | apply Drawn0.step)⟩

end Go.Proofs.Ytekacbglncnbhaa.QW
