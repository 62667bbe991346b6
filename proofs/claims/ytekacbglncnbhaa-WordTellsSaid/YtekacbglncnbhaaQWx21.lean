-- Written by inj.py (a program of this session), by the kit's print with functions given by hand. Not trusted: Lean checks it.
import Derived.Test.YtekacbglncnbhaaQWx0
import Derived.Test.YtekacbglncnbhaaQWx1
import Derived.Test.YtekacbglncnbhaaQWx2
import Derived.Test.YtekacbglncnbhaaQWx3
import Derived.Test.YtekacbglncnbhaaQWx5
import Derived.Test.YtekacbglncnbhaaQWx6
import Derived.Test.YtekacbglncnbhaaQWx7
import Derived.Test.YtekacbglncnbhaaQWx8
import Derived.Test.YtekacbglncnbhaaQWx9
import Derived.Test.YtekacbglncnbhaaQWx10
import Derived.Test.YtekacbglncnbhaaQWx11
import Derived.Test.YtekacbglncnbhaaQWx12
import Derived.Test.YtekacbglncnbhaaQWx13
import Derived.Test.YtekacbglncnbhaaQWx16
import Derived.Test.YtekacbglncnbhaaQWx17
import Derived.Test.YtekacbglncnbhaaQWx18
import Derived.Test.YtekacbglncnbhaaQWx19
import Derived.Test.YtekacbglncnbhaaQWx20
namespace Go.Proofs.Ytekacbglncnbhaa.QW
open Go.RowKit Go.Proofs.YtekacbglncnbhaaW.PrintWords Go.Proofs.YtekacbglncnbhaaW.PrintLast Go.Proofs.YtekacbglncnbhaaW.PrintMore
attribute [local go_sem] max2_int min2_int max_two min_two max_three min_three max_four min_four   -- for this text's walks alone
set_option linter.unusedVariables false
set_option linter.unusedSimpArgs false

/-! ### poacherlaw02_WordTells: function 3 -/
def poacherlaw02_WordTells.f (k : Nat) (a0 : Int) (a1 : Int) (a2 : Int) : Option (Bool) := (poacherlaw02_awake.f).bind fun t133 => ((word_Bump.f a0).bind fun bt134 => ((poacherref02_Bump.f k a0).bind fun bt136 => (if t133 = true then ((word_Pack.f a0 a1).bind fun t138 => ((poacherref02_Pack.f a0 a1).bind fun t139 => (if t138 = t139 then ((word_Epoch.f a0).bind fun t140 => ((poacherref02_Epoch.f a0).bind fun t141 => (if t140 = t141 then ((word_Mask.f a0).bind fun t142 => ((poacherref02_Mask.f a0).bind fun t143 => (if t142 = t143 then ((word_Set.f a0 a2).bind fun t144 => ((poacherref02_Set.f k a0 a2).bind fun t145 => (if t144 = t145 then ((word_Lowest.f a0).bind fun t146 => ((poacherref02_Lowest.f k a0).bind fun t147 => (if t146 = t147 then (if bt134.1 = bt136.1 then (if bt134.2 = bt136.2 then ((word_Wipe.f a0).bind fun t148 => ((poacherref02_Wipe.f a0).bind fun t149 => (if t148 = t149 then ((word_Far.f a0 a1).bind fun t150 => ((poacherref02_Far.f a0 a1).bind fun t151 => (some (t150 == t151)))) else (some false)))) else (some false)) else (some false)) else (some false)))) else (some false)))) else (some false)))) else (some false)))) else (some false)))) else (some false))))
theorem poacherlaw02_WordTells.mono : ∀ a0 a1 a2 k, LeO (poacherlaw02_WordTells.f k a0 a1 a2) (poacherlaw02_WordTells.f (k + 1) a0 a1 a2) := by
  intro a0 a1 a2 k
  unfold poacherlaw02_WordTells.f
  repeat' first
      | (with_reducible exact poacherref02_Bump.mono _ _)
      | (with_reducible exact poacherref02_Lowest.mono _ _)
      | (with_reducible exact poacherref02_Set.mono _ _ _)
      | (with_reducible exact LeO.refl _)
      | (with_reducible exact LeO.none _)
      | (with_reducible refine LeO.ite ?_ ?_)
      | (with_reducible refine LeO.bind ?_ (fun _ => ?_))
      | exact poacherref02_Bump.mono _ _
      | exact poacherref02_Lowest.mono _ _
      | exact poacherref02_Set.mono _ _ _
      | exact LeO.none _
      | refine LeO.ite ?_ ?_
      | refine LeO.bind ?_ (fun _ => ?_)
set_option maxHeartbeats 8000000 in
set_option maxRecDepth 100000 in
theorem poacherlaw02_WordTells.calls (k : Nat) (a0 : Int) (a1 : Int) (a2 : Int) (r : Bool) (w : World) (hr_ : Aside0 (r = true)) (h : poacherlaw02_WordTells.f k a0 a1 a2 = some r) :
    Calls Try.prog 3 #[.int .u64 a0, .int .u64 a1, .int .i64 a2] w fun e w' => e = .returned (.bool r) ∧ Below w.heap.size w w' := by
  have HB := Aside0.mk (Below.refl w.heap.size w)
  have H : ((poacherlaw02_awake.f).bind fun t133 => ((word_Bump.f a0).bind fun bt134 => ((poacherref02_Bump.f k a0).bind fun bt136 => (if t133 = true then ((word_Pack.f a0 a1).bind fun t138 => ((poacherref02_Pack.f a0 a1).bind fun t139 => (if t138 = t139 then ((word_Epoch.f a0).bind fun t140 => ((poacherref02_Epoch.f a0).bind fun t141 => (if t140 = t141 then ((word_Mask.f a0).bind fun t142 => ((poacherref02_Mask.f a0).bind fun t143 => (if t142 = t143 then ((word_Set.f a0 a2).bind fun t144 => ((poacherref02_Set.f k a0 a2).bind fun t145 => (if t144 = t145 then ((word_Lowest.f a0).bind fun t146 => ((poacherref02_Lowest.f k a0).bind fun t147 => (if t146 = t147 then (if bt134.1 = bt136.1 then (if bt134.2 = bt136.2 then ((word_Wipe.f a0).bind fun t148 => ((poacherref02_Wipe.f a0).bind fun t149 => (if t148 = t149 then ((word_Far.f a0 a1).bind fun t150 => ((poacherref02_Far.f a0 a1).bind fun t151 => (some (t150 == t151)))) else (some false)))) else (some false)) else (some false)) else (some false)))) else (some false)))) else (some false)))) else (some false)))) else (some false)))) else (some false))))) = some r := h
  clear h
  replace H := Option.bind_eq_some_iff.mp H
  obtain ⟨t133, A40, H⟩ := H
  replace H : ((word_Bump.f a0).bind fun bt134 => ((poacherref02_Bump.f k a0).bind fun bt136 => (if t133 = true then ((word_Pack.f a0 a1).bind fun t138 => ((poacherref02_Pack.f a0 a1).bind fun t139 => (if t138 = t139 then ((word_Epoch.f a0).bind fun t140 => ((poacherref02_Epoch.f a0).bind fun t141 => (if t140 = t141 then ((word_Mask.f a0).bind fun t142 => ((poacherref02_Mask.f a0).bind fun t143 => (if t142 = t143 then ((word_Set.f a0 a2).bind fun t144 => ((poacherref02_Set.f k a0 a2).bind fun t145 => (if t144 = t145 then ((word_Lowest.f a0).bind fun t146 => ((poacherref02_Lowest.f k a0).bind fun t147 => (if t146 = t147 then (if bt134.1 = bt136.1 then (if bt134.2 = bt136.2 then ((word_Wipe.f a0).bind fun t148 => ((poacherref02_Wipe.f a0).bind fun t149 => (if t148 = t149 then ((word_Far.f a0 a1).bind fun t150 => ((poacherref02_Far.f a0 a1).bind fun t151 => (some (t150 == t151)))) else (some false)))) else (some false)) else (some false)) else (some false)))) else (some false)))) else (some false)))) else (some false)))) else (some false)))) else (some false)))) = some r := H
  have A4 := Aside0.mk A40
  clear A40
  replace H := Option.bind_eq_some_iff.mp H
  obtain ⟨⟨t134, t135⟩, A50, H⟩ := H
  replace H : ((poacherref02_Bump.f k a0).bind fun bt136 => (if t133 = true then ((word_Pack.f a0 a1).bind fun t138 => ((poacherref02_Pack.f a0 a1).bind fun t139 => (if t138 = t139 then ((word_Epoch.f a0).bind fun t140 => ((poacherref02_Epoch.f a0).bind fun t141 => (if t140 = t141 then ((word_Mask.f a0).bind fun t142 => ((poacherref02_Mask.f a0).bind fun t143 => (if t142 = t143 then ((word_Set.f a0 a2).bind fun t144 => ((poacherref02_Set.f k a0 a2).bind fun t145 => (if t144 = t145 then ((word_Lowest.f a0).bind fun t146 => ((poacherref02_Lowest.f k a0).bind fun t147 => (if t146 = t147 then (if t134 = bt136.1 then (if t135 = bt136.2 then ((word_Wipe.f a0).bind fun t148 => ((poacherref02_Wipe.f a0).bind fun t149 => (if t148 = t149 then ((word_Far.f a0 a1).bind fun t150 => ((poacherref02_Far.f a0 a1).bind fun t151 => (some (t150 == t151)))) else (some false)))) else (some false)) else (some false)) else (some false)))) else (some false)))) else (some false)))) else (some false)))) else (some false)))) else (some false))) = some r := H
  have A5 := Aside0.mk A50
  clear A50
  replace H := Option.bind_eq_some_iff.mp H
  obtain ⟨⟨t136, t137⟩, A60, H⟩ := H
  replace H : (if t133 = true then ((word_Pack.f a0 a1).bind fun t138 => ((poacherref02_Pack.f a0 a1).bind fun t139 => (if t138 = t139 then ((word_Epoch.f a0).bind fun t140 => ((poacherref02_Epoch.f a0).bind fun t141 => (if t140 = t141 then ((word_Mask.f a0).bind fun t142 => ((poacherref02_Mask.f a0).bind fun t143 => (if t142 = t143 then ((word_Set.f a0 a2).bind fun t144 => ((poacherref02_Set.f k a0 a2).bind fun t145 => (if t144 = t145 then ((word_Lowest.f a0).bind fun t146 => ((poacherref02_Lowest.f k a0).bind fun t147 => (if t146 = t147 then (if t134 = t136 then (if t135 = t137 then ((word_Wipe.f a0).bind fun t148 => ((poacherref02_Wipe.f a0).bind fun t149 => (if t148 = t149 then ((word_Far.f a0 a1).bind fun t150 => ((poacherref02_Far.f a0 a1).bind fun t151 => (some (t150 == t151)))) else (some false)))) else (some false)) else (some false)) else (some false)))) else (some false)))) else (some false)))) else (some false)))) else (some false)))) else (some false)) = some r := H
  have A6 := Aside0.mk A60
  clear A60
  by_cases c7 : t133 = true
  · subst c7
    have H1 : ((word_Pack.f a0 a1).bind fun t138 => ((poacherref02_Pack.f a0 a1).bind fun t139 => (if t138 = t139 then ((word_Epoch.f a0).bind fun t140 => ((poacherref02_Epoch.f a0).bind fun t141 => (if t140 = t141 then ((word_Mask.f a0).bind fun t142 => ((poacherref02_Mask.f a0).bind fun t143 => (if t142 = t143 then ((word_Set.f a0 a2).bind fun t144 => ((poacherref02_Set.f k a0 a2).bind fun t145 => (if t144 = t145 then ((word_Lowest.f a0).bind fun t146 => ((poacherref02_Lowest.f k a0).bind fun t147 => (if t146 = t147 then (if t134 = t136 then (if t135 = t137 then ((word_Wipe.f a0).bind fun t148 => ((poacherref02_Wipe.f a0).bind fun t149 => (if t148 = t149 then ((word_Far.f a0 a1).bind fun t150 => ((poacherref02_Far.f a0 a1).bind fun t151 => (some (t150 == t151)))) else (some false)))) else (some false)) else (some false)) else (some false)))) else (some false)))) else (some false)))) else (some false)))) else (some false)))) = some r := by rw [if_pos rfl] at H; exact H
    clear H
    have H := H1
    clear H1
    replace H := Option.bind_eq_some_iff.mp H
    obtain ⟨t138, A80, H⟩ := H
    replace H : ((poacherref02_Pack.f a0 a1).bind fun t139 => (if t138 = t139 then ((word_Epoch.f a0).bind fun t140 => ((poacherref02_Epoch.f a0).bind fun t141 => (if t140 = t141 then ((word_Mask.f a0).bind fun t142 => ((poacherref02_Mask.f a0).bind fun t143 => (if t142 = t143 then ((word_Set.f a0 a2).bind fun t144 => ((poacherref02_Set.f k a0 a2).bind fun t145 => (if t144 = t145 then ((word_Lowest.f a0).bind fun t146 => ((poacherref02_Lowest.f k a0).bind fun t147 => (if t146 = t147 then (if t134 = t136 then (if t135 = t137 then ((word_Wipe.f a0).bind fun t148 => ((poacherref02_Wipe.f a0).bind fun t149 => (if t148 = t149 then ((word_Far.f a0 a1).bind fun t150 => ((poacherref02_Far.f a0 a1).bind fun t151 => (some (t150 == t151)))) else (some false)))) else (some false)) else (some false)) else (some false)))) else (some false)))) else (some false)))) else (some false)))) else (some false))) = some r := H
    have A8 := Aside0.mk A80
    clear A80
    replace H := Option.bind_eq_some_iff.mp H
    obtain ⟨t139, A90, H⟩ := H
    replace H : (if t138 = t139 then ((word_Epoch.f a0).bind fun t140 => ((poacherref02_Epoch.f a0).bind fun t141 => (if t140 = t141 then ((word_Mask.f a0).bind fun t142 => ((poacherref02_Mask.f a0).bind fun t143 => (if t142 = t143 then ((word_Set.f a0 a2).bind fun t144 => ((poacherref02_Set.f k a0 a2).bind fun t145 => (if t144 = t145 then ((word_Lowest.f a0).bind fun t146 => ((poacherref02_Lowest.f k a0).bind fun t147 => (if t146 = t147 then (if t134 = t136 then (if t135 = t137 then ((word_Wipe.f a0).bind fun t148 => ((poacherref02_Wipe.f a0).bind fun t149 => (if t148 = t149 then ((word_Far.f a0 a1).bind fun t150 => ((poacherref02_Far.f a0 a1).bind fun t151 => (some (t150 == t151)))) else (some false)))) else (some false)) else (some false)) else (some false)))) else (some false)))) else (some false)))) else (some false)))) else (some false)) = some r := H
    have A9 := Aside0.mk A90
    clear A90
    by_cases c10 : t138 = t139
    · rw [if_pos c10] at H
      have c10b0 : (t138 == t139) = true := beq_iff_eq.mpr c10
      have c10b1 : (t138 != t139) = false := bne_eq_false_iff_eq.mpr c10
      clear c10
      replace H := Option.bind_eq_some_iff.mp H
      obtain ⟨t140, A110, H⟩ := H
      replace H : ((poacherref02_Epoch.f a0).bind fun t141 => (if t140 = t141 then ((word_Mask.f a0).bind fun t142 => ((poacherref02_Mask.f a0).bind fun t143 => (if t142 = t143 then ((word_Set.f a0 a2).bind fun t144 => ((poacherref02_Set.f k a0 a2).bind fun t145 => (if t144 = t145 then ((word_Lowest.f a0).bind fun t146 => ((poacherref02_Lowest.f k a0).bind fun t147 => (if t146 = t147 then (if t134 = t136 then (if t135 = t137 then ((word_Wipe.f a0).bind fun t148 => ((poacherref02_Wipe.f a0).bind fun t149 => (if t148 = t149 then ((word_Far.f a0 a1).bind fun t150 => ((poacherref02_Far.f a0 a1).bind fun t151 => (some (t150 == t151)))) else (some false)))) else (some false)) else (some false)) else (some false)))) else (some false)))) else (some false)))) else (some false))) = some r := H
      have A11 := Aside0.mk A110
      clear A110
      replace H := Option.bind_eq_some_iff.mp H
      obtain ⟨t141, A120, H⟩ := H
      replace H : (if t140 = t141 then ((word_Mask.f a0).bind fun t142 => ((poacherref02_Mask.f a0).bind fun t143 => (if t142 = t143 then ((word_Set.f a0 a2).bind fun t144 => ((poacherref02_Set.f k a0 a2).bind fun t145 => (if t144 = t145 then ((word_Lowest.f a0).bind fun t146 => ((poacherref02_Lowest.f k a0).bind fun t147 => (if t146 = t147 then (if t134 = t136 then (if t135 = t137 then ((word_Wipe.f a0).bind fun t148 => ((poacherref02_Wipe.f a0).bind fun t149 => (if t148 = t149 then ((word_Far.f a0 a1).bind fun t150 => ((poacherref02_Far.f a0 a1).bind fun t151 => (some (t150 == t151)))) else (some false)))) else (some false)) else (some false)) else (some false)))) else (some false)))) else (some false)))) else (some false)) = some r := H
      have A12 := Aside0.mk A120
      clear A120
      by_cases c13 : t140 = t141
      · rw [if_pos c13] at H
        have c13b0 : (t140 == t141) = true := beq_iff_eq.mpr c13
        have c13b1 : (t140 != t141) = false := bne_eq_false_iff_eq.mpr c13
        clear c13
        replace H := Option.bind_eq_some_iff.mp H
        obtain ⟨t142, A140, H⟩ := H
        replace H : ((poacherref02_Mask.f a0).bind fun t143 => (if t142 = t143 then ((word_Set.f a0 a2).bind fun t144 => ((poacherref02_Set.f k a0 a2).bind fun t145 => (if t144 = t145 then ((word_Lowest.f a0).bind fun t146 => ((poacherref02_Lowest.f k a0).bind fun t147 => (if t146 = t147 then (if t134 = t136 then (if t135 = t137 then ((word_Wipe.f a0).bind fun t148 => ((poacherref02_Wipe.f a0).bind fun t149 => (if t148 = t149 then ((word_Far.f a0 a1).bind fun t150 => ((poacherref02_Far.f a0 a1).bind fun t151 => (some (t150 == t151)))) else (some false)))) else (some false)) else (some false)) else (some false)))) else (some false)))) else (some false))) = some r := H
        have A14 := Aside0.mk A140
        clear A140
        replace H := Option.bind_eq_some_iff.mp H
        obtain ⟨t143, A150, H⟩ := H
        replace H : (if t142 = t143 then ((word_Set.f a0 a2).bind fun t144 => ((poacherref02_Set.f k a0 a2).bind fun t145 => (if t144 = t145 then ((word_Lowest.f a0).bind fun t146 => ((poacherref02_Lowest.f k a0).bind fun t147 => (if t146 = t147 then (if t134 = t136 then (if t135 = t137 then ((word_Wipe.f a0).bind fun t148 => ((poacherref02_Wipe.f a0).bind fun t149 => (if t148 = t149 then ((word_Far.f a0 a1).bind fun t150 => ((poacherref02_Far.f a0 a1).bind fun t151 => (some (t150 == t151)))) else (some false)))) else (some false)) else (some false)) else (some false)))) else (some false)))) else (some false)) = some r := H
        have A15 := Aside0.mk A150
        clear A150
        by_cases c16 : t142 = t143
        · rw [if_pos c16] at H
          have c16b0 : (t142 == t143) = true := beq_iff_eq.mpr c16
          have c16b1 : (t142 != t143) = false := bne_eq_false_iff_eq.mpr c16
          clear c16
          replace H := Option.bind_eq_some_iff.mp H
          obtain ⟨t144, A170, H⟩ := H
          replace H : ((poacherref02_Set.f k a0 a2).bind fun t145 => (if t144 = t145 then ((word_Lowest.f a0).bind fun t146 => ((poacherref02_Lowest.f k a0).bind fun t147 => (if t146 = t147 then (if t134 = t136 then (if t135 = t137 then ((word_Wipe.f a0).bind fun t148 => ((poacherref02_Wipe.f a0).bind fun t149 => (if t148 = t149 then ((word_Far.f a0 a1).bind fun t150 => ((poacherref02_Far.f a0 a1).bind fun t151 => (some (t150 == t151)))) else (some false)))) else (some false)) else (some false)) else (some false)))) else (some false))) = some r := H
          have A17 := Aside0.mk A170
          clear A170
          replace H := Option.bind_eq_some_iff.mp H
          obtain ⟨t145, A180, H⟩ := H
          replace H : (if t144 = t145 then ((word_Lowest.f a0).bind fun t146 => ((poacherref02_Lowest.f k a0).bind fun t147 => (if t146 = t147 then (if t134 = t136 then (if t135 = t137 then ((word_Wipe.f a0).bind fun t148 => ((poacherref02_Wipe.f a0).bind fun t149 => (if t148 = t149 then ((word_Far.f a0 a1).bind fun t150 => ((poacherref02_Far.f a0 a1).bind fun t151 => (some (t150 == t151)))) else (some false)))) else (some false)) else (some false)) else (some false)))) else (some false)) = some r := H
          have A18 := Aside0.mk A180
          clear A180
          by_cases c19 : t144 = t145
          · rw [if_pos c19] at H
            have c19b0 : (t144 == t145) = true := beq_iff_eq.mpr c19
            have c19b1 : (t144 != t145) = false := bne_eq_false_iff_eq.mpr c19
            clear c19
            replace H := Option.bind_eq_some_iff.mp H
            obtain ⟨t146, A200, H⟩ := H
            replace H : ((poacherref02_Lowest.f k a0).bind fun t147 => (if t146 = t147 then (if t134 = t136 then (if t135 = t137 then ((word_Wipe.f a0).bind fun t148 => ((poacherref02_Wipe.f a0).bind fun t149 => (if t148 = t149 then ((word_Far.f a0 a1).bind fun t150 => ((poacherref02_Far.f a0 a1).bind fun t151 => (some (t150 == t151)))) else (some false)))) else (some false)) else (some false)) else (some false))) = some r := H
            have A20 := Aside0.mk A200
            clear A200
            replace H := Option.bind_eq_some_iff.mp H
            obtain ⟨t147, A210, H⟩ := H
            replace H : (if t146 = t147 then (if t134 = t136 then (if t135 = t137 then ((word_Wipe.f a0).bind fun t148 => ((poacherref02_Wipe.f a0).bind fun t149 => (if t148 = t149 then ((word_Far.f a0 a1).bind fun t150 => ((poacherref02_Far.f a0 a1).bind fun t151 => (some (t150 == t151)))) else (some false)))) else (some false)) else (some false)) else (some false)) = some r := H
            have A21 := Aside0.mk A210
            clear A210
            by_cases c22 : t146 = t147
            · rw [if_pos c22] at H
              have c22b0 : (t146 == t147) = true := beq_iff_eq.mpr c22
              have c22b1 : (t146 != t147) = false := bne_eq_false_iff_eq.mpr c22
              clear c22
              by_cases c23 : t134 = t136
              · rw [if_pos c23] at H
                have c23b0 : (t134 == t136) = true := beq_iff_eq.mpr c23
                have c23b1 : (t134 != t136) = false := bne_eq_false_iff_eq.mpr c23
                clear c23
                by_cases c24 : t135 = t137
                · rw [if_pos c24] at H
                  have c24b0 : (t135 == t137) = true := beq_iff_eq.mpr c24
                  have c24b1 : (t135 != t137) = false := bne_eq_false_iff_eq.mpr c24
                  clear c24
                  replace H := Option.bind_eq_some_iff.mp H
                  obtain ⟨t148, A250, H⟩ := H
                  replace H : ((poacherref02_Wipe.f a0).bind fun t149 => (if t148 = t149 then ((word_Far.f a0 a1).bind fun t150 => ((poacherref02_Far.f a0 a1).bind fun t151 => (some (t150 == t151)))) else (some false))) = some r := H
                  have A25 := Aside0.mk A250
                  clear A250
                  replace H := Option.bind_eq_some_iff.mp H
                  obtain ⟨t149, A260, H⟩ := H
                  replace H : (if t148 = t149 then ((word_Far.f a0 a1).bind fun t150 => ((poacherref02_Far.f a0 a1).bind fun t151 => (some (t150 == t151)))) else (some false)) = some r := H
                  have A26 := Aside0.mk A260
                  clear A260
                  by_cases c27 : t148 = t149
                  · rw [if_pos c27] at H
                    have c27b0 : (t148 == t149) = true := beq_iff_eq.mpr c27
                    have c27b1 : (t148 != t149) = false := bne_eq_false_iff_eq.mpr c27
                    clear c27
                    replace H := Option.bind_eq_some_iff.mp H
                    obtain ⟨t150, A280, H⟩ := H
                    replace H : ((poacherref02_Far.f a0 a1).bind fun t151 => (some (t150 == t151))) = some r := H
                    have A28 := Aside0.mk A280
                    clear A280
                    replace H := Option.bind_eq_some_iff.mp H
                    obtain ⟨t151, A290, H⟩ := H
                    replace H : (some (t150 == t151)) = some r := H
                    have A29 := Aside0.mk A290
                    clear A290
                    obtain rfl := Option.some.inj H
                    clear hr_
                    go_enter Try.func3, Try.ntmps3
                    go_wp2_with (first | ((with_reducible refine gate_callee (f := 10) rfl ?_); refine goesL_ (some 12) rfl rfl Try.func10 (by kernel_rfl) rfl #[] rfl (by (try simp only [List.map_toArray, List.map_cons, List.map_nil]); first | done | rfl | (simp only [List.length_drop, List.length_take]; rfl)) ?_; (with_reducible refine (poacherlaw02_awake.calls  true _ A4.out).mono ?_); (try clear A4); rintro e w30 ⟨rfl, hb⟩; refine ⟨_, rfl, ?_⟩; have n0_ := Aside0.mk (below_step (by repeat (first | (with_reducible first | exact HB.out | apply below_alloc | apply pw_below_drewN | apply below_drew1) | exact HB.out)) hb); clear HB; have HB := n0_; clear n0_; (try clear hb); (try clear hb2); (try clear hk); (try clear hi)) | ((with_reducible refine gate_callee (f := 11) rfl ?_); refine goesL_ (some 15) rfl rfl Try.func11 (by kernel_rfl) rfl #[.int .u64 a0] rfl (by (try simp only [List.map_toArray, List.map_cons, List.map_nil]); first | done | rfl | (simp only [List.length_drop, List.length_take]; rfl)) ?_; (with_reducible refine (word_Bump.calls a0 t134 t135 _ A5.out).mono ?_); (try clear A5); rintro e w31 ⟨rfl, hb⟩; refine ⟨_, rfl, ?_⟩; have n0_ := Aside0.mk (below_step (by repeat (first | (with_reducible first | exact HB.out | apply below_alloc | apply pw_below_drewN | apply below_drew1) | exact HB.out)) hb); clear HB; have HB := n0_; clear n0_; (try clear hb); (try clear hb2); (try clear hk); (try clear hi)) | ((with_reducible refine gate_callee (f := 12) rfl ?_); refine goesL_ (some 20) rfl rfl Try.func12 (by kernel_rfl) rfl #[.int .u64 a0] rfl (by (try simp only [List.map_toArray, List.map_cons, List.map_nil]); first | done | rfl | (simp only [List.length_drop, List.length_take]; rfl)) ?_; (with_reducible refine (poacherref02_Bump.calls k a0 t136 t137 _ A6.out).mono ?_); (try clear A6); rintro e w' ⟨rfl, ⟨nd, rfl⟩⟩; refine ⟨_, rfl, ?_⟩) | (go_at_call 13; (with_reducible refine (word_Pack.calls a0 a1 t138 _ A8.out).mono ?_); (try clear A8); rintro e w' ⟨rfl, ⟨nd, rfl⟩⟩) | (go_at_call 14; (with_reducible refine (poacherref02_Pack.calls a0 a1 t139 _ A9.out).mono ?_); (try clear A9); rintro e w' ⟨rfl, ⟨nd, rfl⟩⟩) | (go_at_call 15; (with_reducible refine (word_Epoch.calls a0 t140 _ A11.out).mono ?_); (try clear A11); rintro e w' ⟨rfl, ⟨nd, rfl⟩⟩) | (go_at_call 16; (with_reducible refine (poacherref02_Epoch.calls a0 t141 _ A12.out).mono ?_); (try clear A12); rintro e w' ⟨rfl, ⟨nd, rfl⟩⟩) | (go_at_call 17; (with_reducible refine (word_Mask.calls a0 t142 _ A14.out).mono ?_); (try clear A14); rintro e w' ⟨rfl, ⟨nd, rfl⟩⟩) | (go_at_call 18; (with_reducible refine (poacherref02_Mask.calls a0 t143 _ A15.out).mono ?_); (try clear A15); rintro e w' ⟨rfl, ⟨nd, rfl⟩⟩) | (go_at_call 19; (with_reducible refine (word_Set.calls a0 a2 t144 _ A17.out).mono ?_); (try clear A17); rintro e w' ⟨rfl, ⟨nd, rfl⟩⟩) | (go_at_call 20; (with_reducible refine (poacherref02_Set.calls k a0 a2 t145 _ A18.out).mono ?_); (try clear A18); rintro e w' ⟨rfl, ⟨nd, rfl⟩⟩) | (go_at_call 21; (with_reducible refine (word_Lowest.calls a0 t146 _ A20.out).mono ?_); (try clear A20); rintro e w32 ⟨rfl, hb⟩; have n0_ := Aside0.mk (below_step (by repeat (first | (with_reducible first | exact HB.out | apply below_alloc | apply pw_below_drewN | apply below_drew1) | exact HB.out)) hb); clear HB; have HB := n0_; clear n0_; (try clear hb); (try clear hb2); (try clear hk); (try clear hi)) | (go_at_call 22; (with_reducible refine (poacherref02_Lowest.calls k a0 t147 _ A21.out).mono ?_); (try clear A21); rintro e w' ⟨rfl, ⟨nd, rfl⟩⟩) | (go_at_call 23; (with_reducible refine (word_Wipe.calls a0 t148 _ A25.out).mono ?_); (try clear A25); rintro e w' ⟨rfl, ⟨nd, rfl⟩⟩) | (go_at_call 24; (with_reducible refine (poacherref02_Wipe.calls a0 t149 _ A26.out).mono ?_); (try clear A26); rintro e w' ⟨rfl, ⟨nd, rfl⟩⟩) | (go_at_call 25; (with_reducible refine (word_Far.calls a0 a1 t150 _ A28.out).mono ?_); (try clear A28); rintro e w' ⟨rfl, ⟨nd, rfl⟩⟩) | (go_at_call 26; (with_reducible refine (poacherref02_Far.calls a0 a1 t151 _ A29.out).mono ?_); (try clear A29); rintro e w' ⟨rfl, ⟨nd, rfl⟩⟩))
                    go_ret
                    exact ⟨by first | rfl | (simp [errW_none, errW_some] <;> rfl) | (simp [*, errW_none, errW_some] <;> rfl), by repeat (first | (with_reducible first | exact HB.out | apply below_alloc | apply pw_below_drewN | apply below_drew1) | exact HB.out)⟩
                  · rw [if_neg c27] at H
                    have c27b0 : (t148 == t149) = false := beq_eq_false_iff_ne.mpr c27
                    have c27b1 : (t148 != t149) = true := bne_iff_ne.mpr c27
                    exact absurd (H.trans (congrArg some hr_.out)) (by simp)
                · rw [if_neg c24] at H
                  have c24b0 : (t135 == t137) = false := beq_eq_false_iff_ne.mpr c24
                  have c24b1 : (t135 != t137) = true := bne_iff_ne.mpr c24
                  exact absurd (H.trans (congrArg some hr_.out)) (by simp)
              · rw [if_neg c23] at H
                have c23b0 : (t134 == t136) = false := beq_eq_false_iff_ne.mpr c23
                have c23b1 : (t134 != t136) = true := bne_iff_ne.mpr c23
                exact absurd (H.trans (congrArg some hr_.out)) (by simp)
            · rw [if_neg c22] at H
              have c22b0 : (t146 == t147) = false := beq_eq_false_iff_ne.mpr c22
              have c22b1 : (t146 != t147) = true := bne_iff_ne.mpr c22
              exact absurd (H.trans (congrArg some hr_.out)) (by simp)
          · rw [if_neg c19] at H
            have c19b0 : (t144 == t145) = false := beq_eq_false_iff_ne.mpr c19
            have c19b1 : (t144 != t145) = true := bne_iff_ne.mpr c19
            exact absurd (H.trans (congrArg some hr_.out)) (by simp)
        · rw [if_neg c16] at H
          have c16b0 : (t142 == t143) = false := beq_eq_false_iff_ne.mpr c16
          have c16b1 : (t142 != t143) = true := bne_iff_ne.mpr c16
          exact absurd (H.trans (congrArg some hr_.out)) (by simp)
      · rw [if_neg c13] at H
        have c13b0 : (t140 == t141) = false := beq_eq_false_iff_ne.mpr c13
        have c13b1 : (t140 != t141) = true := bne_iff_ne.mpr c13
        exact absurd (H.trans (congrArg some hr_.out)) (by simp)
    · rw [if_neg c10] at H
      have c10b0 : (t138 == t139) = false := beq_eq_false_iff_ne.mpr c10
      have c10b1 : (t138 != t139) = true := bne_iff_ne.mpr c10
      exact absurd (H.trans (congrArg some hr_.out)) (by simp)
  · replace c7 := Bool.eq_false_iff.mpr c7
    subst c7
    have H1 : (some false) = some r := by rw [if_neg (show ¬ (false = true) by decide)] at H; exact H
    clear H
    have H := H1
    clear H1
    exact absurd (H.trans (congrArg some hr_.out)) (by simp)

/-- THE ONE PURE STATEMENT of poacherlaw02_WordTells: yours. -/
def poacherlaw02_WordTells.Pure : Prop := ∀ (a0 : Int) (a1 : Int) (a2 : Int), (Lit.int .u64 a0).wf = true → (Lit.int .u64 a1).wf = true → (Lit.int .i64 a2).wf = true → ∃ k, poacherlaw02_WordTells.f k a0 a1 a2 = some true
theorem poacherlaw02_WordTells.walk (P : poacherlaw02_WordTells.Pure) (a0 : Int) (a1 : Int) (a2 : Int) (w : World) (w0 : (Lit.int .u64 a0).wf = true) (w1 : (Lit.int .u64 a1).wf = true) (w2 : (Lit.int .i64 a2).wf = true) :
    Calls Try.prog 3 #[.int .u64 a0, .int .u64 a1, .int .i64 a2] w fun e w' => e = .returned (.bool true) ∧ Below w.heap.size w w' := by
  obtain ⟨k, h⟩ := P a0 a1 a2 w0 w1 w2
  refine (poacherlaw02_WordTells.calls k a0 a1 a2 true w ⟨rfl⟩ h).mono ?_
  rintro e w' ⟨rfl, hd⟩
  exact ⟨rfl, hd⟩

end Go.Proofs.Ytekacbglncnbhaa.QW
