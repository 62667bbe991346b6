-- Written by inj.py (a program of this session), by the kit's print with functions given by hand. Not trusted: Lean checks it.
import Derived.Test.YtonhjnfhaelfkaaQDx0
import Derived.Test.YtonhjnfhaelfkaaQDx17
namespace Go.Proofs.Ytonhjnfhaelfkaa.QD
open Go.RowKit Go.Proofs.YtonhjnfhaelfkaaW.PrintWords Go.Proofs.YtonhjnfhaelfkaaW.PrintLast Go.Proofs.YtonhjnfhaelfkaaW.PrintMore
attribute [local go_sem] max2_int min2_int max_two min_two max_three min_three max_four min_four   -- for this text's walks alone
set_option linter.unusedVariables false
set_option linter.unusedSimpArgs false

/-! ### poacherref05_Fair: function 17 -/
mutual
def poacherref05_Fair.j0 : Nat → List (S25) → Int → Int → Int → Bool → Option (Bool)
  | 0, _, _, _, _, _ => none
  | k + 1, x0, x1, x2, x3, x29 => if x29 = true then (some false) else (poacherref05_Fair.l0 k x0 x1 x2 x3 0)
def poacherref05_Fair.l0 : Nat → List (S25) → Int → Int → Int → Int → Option (Bool)
  | 0, _, _, _, _, _ => none
  | k + 1, x0, x1, x2, x3, x9 => if x9 < (x0.length : Int) then (poacherref05_Fair.j2 k x0 x1 x2 x3 x9 (decide (x3 ≤ (wrap64 ((x0.length : Int) - x9))))) else (poacherref05_Fair.j2 k x0 x1 x2 x3 x9 false)
def poacherref05_Fair.j2 : Nat → List (S25) → Int → Int → Int → Int → Bool → Option (Bool)
  | 0, _, _, _, _, _, _ => none
  | k + 1, x0, x1, x2, x3, x9, x41 => if x41 = true then (poacherref05_Fair.l1 k x0 x1 x2 x3 x9 0) else (some true)
def poacherref05_Fair.l1 : Nat → List (S25) → Int → Int → Int → Int → Int → Option (Bool)
  | 0, _, _, _, _, _, _ => none
  | k + 1, x0, x1, x2, x3, x9, x10 => if x10 < (wrap64 (x1 + x2)) then (if x10 < x1 then (if 0 ≤ x9 then (if x9 ≤ (wrap64 (x9 + x3)) then (if (wrap64 (x9 + x3)) ≤ (x0.length : Int) then ((poacherref05_named.f k ((x0.take ((wrap64 (x9 + x3)) : Int).toNat).drop (x9 : Int).toNat) 0 x10).bind fun t153 => (if t153 = true then (poacherref05_Fair.l1 k x0 x1 x2 x3 x9 (wrap64 (x10 + 1))) else (if x10 ≥ x1 then ((poacherref05_named.f k ((x0.take ((wrap64 (x9 + x3)) : Int).toNat).drop (x9 : Int).toNat) 1 (wrap64 (x10 - x1))).bind fun t158 => (if t158 = true then (poacherref05_Fair.l1 k x0 x1 x2 x3 x9 (wrap64 (x10 + 1))) else (some false))) else (some false)))) else (none)) else (none)) else (none)) else (if x10 ≥ x1 then (if 0 ≤ x9 then (if x9 ≤ (wrap64 (x9 + x3)) then (if (wrap64 (x9 + x3)) ≤ (x0.length : Int) then ((poacherref05_named.f k ((x0.take ((wrap64 (x9 + x3)) : Int).toNat).drop (x9 : Int).toNat) 1 (wrap64 (x10 - x1))).bind fun t163 => (if t163 = true then (poacherref05_Fair.l1 k x0 x1 x2 x3 x9 (wrap64 (x10 + 1))) else (some false))) else (none)) else (none)) else (none)) else (some false))) else (poacherref05_Fair.l0 k x0 x1 x2 x3 (wrap64 (x9 + 1)))
end
def poacherref05_Fair.f (k : Nat) (l0 : List (S25)) (a1 : Int) (a2 : Int) (a3 : Int) : Option (Bool) := if a1 < 0 then (poacherref05_Fair.j0 k l0 a1 a2 a3 true) else (if a2 < 0 then (poacherref05_Fair.j0 k l0 a1 a2 a3 true) else (if a1 > 20 then (poacherref05_Fair.j0 k l0 a1 a2 a3 true) else (if a2 > 20 then (poacherref05_Fair.j0 k l0 a1 a2 a3 true) else (poacherref05_Fair.j0 k l0 a1 a2 a3 (decide (a3 < 1))))))
theorem poacherref05_Fair.mono_l : ∀ k, (∀ y0 y1 y2 y3 y4, LeO (poacherref05_Fair.j0 k y0 y1 y2 y3 y4) (poacherref05_Fair.j0 (k + 1) y0 y1 y2 y3 y4)) ∧ (∀ y0 y1 y2 y3 y4, LeO (poacherref05_Fair.l0 k y0 y1 y2 y3 y4) (poacherref05_Fair.l0 (k + 1) y0 y1 y2 y3 y4)) ∧ (∀ y0 y1 y2 y3 y4 y5, LeO (poacherref05_Fair.j2 k y0 y1 y2 y3 y4 y5) (poacherref05_Fair.j2 (k + 1) y0 y1 y2 y3 y4 y5)) ∧ (∀ y0 y1 y2 y3 y4 y5, LeO (poacherref05_Fair.l1 k y0 y1 y2 y3 y4 y5) (poacherref05_Fair.l1 (k + 1) y0 y1 y2 y3 y4 y5))
  | 0 => ⟨fun _ _ _ _ _ r h => by simp [poacherref05_Fair.j0] at h, fun _ _ _ _ _ r h => by simp [poacherref05_Fair.l0] at h, fun _ _ _ _ _ _ r h => by simp [poacherref05_Fair.j2] at h, fun _ _ _ _ _ _ r h => by simp [poacherref05_Fair.l1] at h⟩
  | k + 1 => by
    obtain ⟨ih0, ih1, ih2, ih3⟩ := poacherref05_Fair.mono_l k
    refine ⟨?_, ?_, ?_, ?_⟩
    · intro y0 y1 y2 y3 y4
      unfold poacherref05_Fair.j0
      repeat' first
      | (with_reducible exact ih0 _ _ _ _ _)
      | (with_reducible exact ih1 _ _ _ _ _)
      | (with_reducible exact ih2 _ _ _ _ _ _)
      | (with_reducible exact ih3 _ _ _ _ _ _)
      | (with_reducible exact poacherref05_named.mono _ _ _ _)
      | (with_reducible exact LeO.refl _)
      | (with_reducible exact LeO.none _)
      | (with_reducible refine LeO.ite ?_ ?_)
      | (with_reducible refine LeO.bind ?_ (fun _ => ?_))
      | exact ih0 _ _ _ _ _
      | exact ih1 _ _ _ _ _
      | exact ih2 _ _ _ _ _ _
      | exact ih3 _ _ _ _ _ _
      | exact poacherref05_named.mono _ _ _ _
      | exact LeO.none _
      | refine LeO.ite ?_ ?_
      | refine LeO.bind ?_ (fun _ => ?_)
    · intro y0 y1 y2 y3 y4
      unfold poacherref05_Fair.l0
      repeat' first
      | (with_reducible exact ih0 _ _ _ _ _)
      | (with_reducible exact ih1 _ _ _ _ _)
      | (with_reducible exact ih2 _ _ _ _ _ _)
      | (with_reducible exact ih3 _ _ _ _ _ _)
      | (with_reducible exact poacherref05_named.mono _ _ _ _)
      | (with_reducible exact LeO.refl _)
      | (with_reducible exact LeO.none _)
      | (with_reducible refine LeO.ite ?_ ?_)
      | (with_reducible refine LeO.bind ?_ (fun _ => ?_))
      | exact ih0 _ _ _ _ _
      | exact ih1 _ _ _ _ _
      | exact ih2 _ _ _ _ _ _
      | exact ih3 _ _ _ _ _ _
      | exact poacherref05_named.mono _ _ _ _
      | exact LeO.none _
      | refine LeO.ite ?_ ?_
      | refine LeO.bind ?_ (fun _ => ?_)
    · intro y0 y1 y2 y3 y4 y5
      unfold poacherref05_Fair.j2
      repeat' first
      | (with_reducible exact ih0 _ _ _ _ _)
      | (with_reducible exact ih1 _ _ _ _ _)
      | (with_reducible exact ih2 _ _ _ _ _ _)
      | (with_reducible exact ih3 _ _ _ _ _ _)
      | (with_reducible exact poacherref05_named.mono _ _ _ _)
      | (with_reducible exact LeO.refl _)
      | (with_reducible exact LeO.none _)
      | (with_reducible refine LeO.ite ?_ ?_)
      | (with_reducible refine LeO.bind ?_ (fun _ => ?_))
      | exact ih0 _ _ _ _ _
      | exact ih1 _ _ _ _ _
      | exact ih2 _ _ _ _ _ _
      | exact ih3 _ _ _ _ _ _
      | exact poacherref05_named.mono _ _ _ _
      | exact LeO.none _
      | refine LeO.ite ?_ ?_
      | refine LeO.bind ?_ (fun _ => ?_)
    · intro y0 y1 y2 y3 y4 y5
      unfold poacherref05_Fair.l1
      repeat' first
      | (with_reducible exact ih0 _ _ _ _ _)
      | (with_reducible exact ih1 _ _ _ _ _)
      | (with_reducible exact ih2 _ _ _ _ _ _)
      | (with_reducible exact ih3 _ _ _ _ _ _)
      | (with_reducible exact poacherref05_named.mono _ _ _ _)
      | (with_reducible exact LeO.refl _)
      | (with_reducible exact LeO.none _)
      | (with_reducible refine LeO.ite ?_ ?_)
      | (with_reducible refine LeO.bind ?_ (fun _ => ?_))
      | exact ih0 _ _ _ _ _
      | exact ih1 _ _ _ _ _
      | exact ih2 _ _ _ _ _ _
      | exact ih3 _ _ _ _ _ _
      | exact poacherref05_named.mono _ _ _ _
      | exact LeO.none _
      | refine LeO.ite ?_ ?_
      | refine LeO.bind ?_ (fun _ => ?_)
theorem poacherref05_Fair.mono : ∀ a0 a1 a2 a3 k, LeO (poacherref05_Fair.f k a0 a1 a2 a3) (poacherref05_Fair.f (k + 1) a0 a1 a2 a3) := by
  intro a0 a1 a2 a3 k
  obtain ⟨ih0, ih1, ih2, ih3⟩ := poacherref05_Fair.mono_l k
  unfold poacherref05_Fair.f
  repeat' first
      | (with_reducible exact ih0 _ _ _ _ _)
      | (with_reducible exact ih1 _ _ _ _ _)
      | (with_reducible exact ih2 _ _ _ _ _ _)
      | (with_reducible exact ih3 _ _ _ _ _ _)
      | (with_reducible exact poacherref05_named.mono _ _ _ _)
      | (with_reducible exact LeO.refl _)
      | (with_reducible exact LeO.none _)
      | (with_reducible refine LeO.ite ?_ ?_)
      | (with_reducible refine LeO.bind ?_ (fun _ => ?_))
      | exact ih0 _ _ _ _ _
      | exact ih1 _ _ _ _ _
      | exact ih2 _ _ _ _ _ _
      | exact ih3 _ _ _ _ _ _
      | exact poacherref05_named.mono _ _ _ _
      | exact LeO.none _
      | refine LeO.ite ?_ ?_
      | refine LeO.bind ?_ (fun _ => ?_)
set_option maxHeartbeats 8000000 in
set_option maxRecDepth 100000 in
theorem poacherref05_Fair.calls (k : Nat) (A0 : Option Addr) (c0 : Nat) (l0 : List (S25)) (a1 : Int) (a2 : Int) (a3 : Int) (r : Bool) (w : World) (hr0 : Kd.C k25 w A0 l0.length l0) (hc0 : l0.length ≤ c0) (h : poacherref05_Fair.f k l0 a1 a2 a3 = some r) :
    Calls Try.prog 17 #[.slice A0 l0.length c0, .int .i64 a1, .int .i64 a2, .int .i64 a3] w fun e w' => e = .returned (.bool r) ∧ Drawn0 w w' := by
  have HR0 := Aside0.mk hr0
  have HC0 := Aside0.mk hc0
  clear hr0 hc0
  have H : (if a1 < 0 then (poacherref05_Fair.j0 k l0 a1 a2 a3 true) else (if a2 < 0 then (poacherref05_Fair.j0 k l0 a1 a2 a3 true) else (if a1 > 20 then (poacherref05_Fair.j0 k l0 a1 a2 a3 true) else (if a2 > 20 then (poacherref05_Fair.j0 k l0 a1 a2 a3 true) else (poacherref05_Fair.j0 k l0 a1 a2 a3 (decide (a3 < 1))))))) = some r := h
  clear h
  have HC5 := Aside0.mk H
  clear H
  go_enter Try.func17, Try.ntmps17
  go_upto_region 1 with (fail)
  go_cut [29] (fun v29 wc => ∃ (kq : Nat) (x29_4 : Bool), v29 = .bool x29_4 ∧ Aside0 (poacherref05_Fair.j0 kq l0 a1 a2 a3 x29_4 = some r) ∧ Aside0 (kq ≤ k) ∧ Drawn0 w wc)
  case first =>
    have H := HC5.out
    clear HC5
    by_cases c6 : a1 < 0
    · rw [if_pos c6] at H
      have c6b0 : decide (a1 < 0) = true := decide_eq_true c6
      clear c6
      (first | rw [c6b0] | (simp only [i64_w, i32_w]; rw [c6b0]) | skip)
      have H' := Aside0.mk H
      clear H
      go_wp2
      go_meet
      case rel => exact ⟨_, (true), (by first | rfl | (simp; done) | (simp [*]; done)), H', ⟨by first | omega | exact Nat.le_refl _⟩, by repeat (first | exact Drawn0.refl _ | apply Drawn0.step)⟩
    · rw [if_neg c6] at H
      have c6b0 : decide (a1 < 0) = false := decide_eq_false c6
      clear c6
      (first | rw [c6b0] | (simp only [i64_w, i32_w]; rw [c6b0]) | skip)
      by_cases c7 : a2 < 0
      · rw [if_pos c7] at H
        have c7b0 : decide (a2 < 0) = true := decide_eq_true c7
        clear c7
        have H' := Aside0.mk H
        clear H
        go_wp2
        go_meet
        case rel => exact ⟨_, (true), (by first | rfl | (simp; done) | (simp [*]; done)), H', ⟨by first | omega | exact Nat.le_refl _⟩, by repeat (first | exact Drawn0.refl _ | apply Drawn0.step)⟩
      · rw [if_neg c7] at H
        have c7b0 : decide (a2 < 0) = false := decide_eq_false c7
        clear c7
        by_cases c8 : a1 > 20
        · rw [if_pos c8] at H
          have c8b0 : decide (20 < a1) = true := decide_eq_true c8
          clear c8
          have H' := Aside0.mk H
          clear H
          go_wp2
          go_meet
          case rel => exact ⟨_, (true), (by first | rfl | (simp; done) | (simp [*]; done)), H', ⟨by first | omega | exact Nat.le_refl _⟩, by repeat (first | exact Drawn0.refl _ | apply Drawn0.step)⟩
        · rw [if_neg c8] at H
          have c8b0 : decide (20 < a1) = false := decide_eq_false c8
          clear c8
          by_cases c9 : a2 > 20
          · rw [if_pos c9] at H
            have c9b0 : decide (20 < a2) = true := decide_eq_true c9
            clear c9
            have H' := Aside0.mk H
            clear H
            go_wp2
            go_meet
            case rel => exact ⟨_, (true), (by first | rfl | (simp; done) | (simp [*]; done)), H', ⟨by first | omega | exact Nat.le_refl _⟩, by repeat (first | exact Drawn0.refl _ | apply Drawn0.step)⟩
          · rw [if_neg c9] at H
            have c9b0 : decide (20 < a2) = false := decide_eq_false c9
            clear c9
            have H' := Aside0.mk H
            clear H
            go_wp2
            go_meet
            case rel => exact ⟨_, (decide (a3 < 1)), (by first | rfl | (simp; done) | (simp [*]; done)), H', ⟨by first | omega | exact Nat.le_refl _⟩, by repeat (first | exact Drawn0.refl _ | apply Drawn0.step)⟩
  case rest =>
    clear HC5
    try clear c1
    try clear p2
    try clear c6
    try clear c6b0
    try clear c7
    try clear c7b0
    try clear c8
    try clear c8b0
    try clear c9
    try clear c9b0
    obtain ⟨kq, x29_4, rfl, HA, HJ4, ⟨mc4, rfl⟩⟩ := hcut
    cases kq with
    | zero => exact absurd HA.out (by simp [poacherref05_Fair.j0])
    | succ kj4 =>
      have H := HA.out
      clear HA
      simp only [poacherref05_Fair.j0] at H
      by_cases c10 : x29_4 = true
      · subst c10
        have H1 : (some false) = some r := by rw [if_pos rfl] at H; exact H
        clear H
        have H := H1
        clear H1
        obtain rfl := Option.some.inj H
        simp only [Option.some.injEq, Prod.mk.injEq] at H
        obtain ⟨rfl⟩ := H
        go_wp2
        go_ret
        exact ⟨by first | rfl | (simp; done) | (simp [*]; done), by repeat (first | exact Drawn0.refl _ | apply Drawn0.step)⟩
      · replace c10 := Bool.eq_false_iff.mpr c10
        subst c10
        have H1 : (poacherref05_Fair.l0 kj4 l0 a1 a2 a3 0) = some r := by rw [if_neg (show ¬ (false = true) by decide)] at H; exact H
        clear H
        have H := H1
        clear H1
        have H' := Aside0.mk H
        clear H
        go_wp2
        go_loopg [9] kj4 (fun kq v9 w' => ∃ (x9_2 : Int), v9 = .int .i64 x9_2 ∧ Aside0 (poacherref05_Fair.l0 kq l0 a1 a2 a3 x9_2 = some r) ∧ Aside0 (kq ≤ kj4) ∧ Drawn0 w w')
        case atStart => exact ⟨(0), (by first | rfl | (simp; done) | (simp [*]; done)), H', ⟨Nat.le_refl _⟩, by repeat (first | exact Drawn0.refl _ | apply Drawn0.step)⟩
        case round =>
          clear H'
          try clear c1
          try clear p2
          try clear c4
          try clear c6
          try clear c6b0
          try clear c7
          try clear c7b0
          try clear c8
          try clear c8b0
          try clear c9
          try clear c9b0
          try clear c10
          try clear p2
          obtain ⟨x9_2, rfl, HA, HK2, ⟨m2, rfl⟩⟩ := hrel
          cases gk with
          | zero => exact absurd HA.out (by simp [poacherref05_Fair.l0])
          | succ k2 =>
            have H := HA.out
            clear HA
            simp only [poacherref05_Fair.l0] at H
            have HC11 := Aside0.mk H
            clear H
            go_upto_region 4 with (fail)
            go_cut [41] (fun v41 wc => ∃ (kq : Nat) (x41_10 : Bool), v41 = .bool x41_10 ∧ Aside0 (poacherref05_Fair.j2 kq l0 a1 a2 a3 x9_2 x41_10 = some r) ∧ Aside0 (kq ≤ k2) ∧ Drawn0 w wc)
            case first =>
              have H := HC11.out
              clear HC11
              by_cases c12 : x9_2 < (l0.length : Int)
              · rw [if_pos c12] at H
                have c12b0 : decide (x9_2 < (l0.length : Int)) = true := decide_eq_true c12
                clear c12
                (first | rw [c12b0] | (simp only [i64_w, i32_w]; rw [c12b0]) | skip)
                have H' := Aside0.mk H
                clear H
                go_wp2
                go_meet
                case rel => exact ⟨_, (decide (a3 ≤ (wrap64 ((l0.length : Int) - x9_2)))), (by first | rfl | (simp; done) | (simp [*]; done)), H', ⟨by have := HJ4.out; have := HK2.out; first | omega | exact Nat.le_refl _⟩, by repeat (first | exact Drawn0.refl _ | apply Drawn0.step)⟩
              · rw [if_neg c12] at H
                have c12b0 : decide (x9_2 < (l0.length : Int)) = false := decide_eq_false c12
                clear c12
                (first | rw [c12b0] | (simp only [i64_w, i32_w]; rw [c12b0]) | skip)
                have H' := Aside0.mk H
                clear H
                go_wp2
                go_meet
                case rel => exact ⟨_, (false), (by first | rfl | (simp; done) | (simp [*]; done)), H', ⟨by have := HJ4.out; have := HK2.out; first | omega | exact Nat.le_refl _⟩, by repeat (first | exact Drawn0.refl _ | apply Drawn0.step)⟩
            case rest =>
              clear HC11
              try clear c1
              try clear p2
              try clear c4
              try clear c6
              try clear c6b0
              try clear p6
              try clear c7
              try clear c7b0
              try clear c8
              try clear c8b0
              try clear c9
              try clear c9b0
              try clear c10
              try clear c12
              try clear c12b0
              try clear p2
              obtain ⟨kq, x41_10, rfl, HA, HJ10, ⟨mc10, rfl⟩⟩ := hcut
              cases kq with
              | zero => exact absurd HA.out (by simp [poacherref05_Fair.j2])
              | succ kj10 =>
                have H := HA.out
                clear HA
                simp only [poacherref05_Fair.j2] at H
                by_cases c13 : x41_10 = true
                · subst c13
                  have H1 : (poacherref05_Fair.l1 kj10 l0 a1 a2 a3 x9_2 0) = some r := by rw [if_pos rfl] at H; exact H
                  clear H
                  have H := H1
                  clear H1
                  have H' := Aside0.mk H
                  clear H
                  go_wp2
                  go_loopg [10] kj10 (fun kq v10 w' => ∃ (x10_4 : Int), v10 = .int .i64 x10_4 ∧ Aside0 (poacherref05_Fair.l1 kq l0 a1 a2 a3 x9_2 x10_4 = some r) ∧ Aside0 (kq ≤ kj10) ∧ Drawn0 w w')
                  case atStart => exact ⟨(0), (by first | rfl | (simp; done) | (simp [*]; done)), H', ⟨Nat.le_refl _⟩, by repeat (first | exact Drawn0.refl _ | apply Drawn0.step)⟩
                  case round =>
                    clear H'
                    try clear c1
                    try clear p2
                    try clear c4
                    try clear c6
                    try clear c6b0
                    try clear p6
                    try clear c7
                    try clear c7b0
                    try clear c8
                    try clear c8b0
                    try clear c9
                    try clear c9b0
                    try clear c10
                    try clear c12
                    try clear c12b0
                    try clear c13
                    try clear p2
                    try clear p6
                    obtain ⟨x10_4, rfl, HA, HK4, ⟨m4, rfl⟩⟩ := hrel
                    cases gk with
                    | zero => exact absurd HA.out (by simp [poacherref05_Fair.l1])
                    | succ k4 =>
                      have H := HA.out
                      clear HA
                      simp only [poacherref05_Fair.l1] at H
                      by_cases c14 : x10_4 < (wrap64 (a1 + a2))
                      · rw [if_pos c14] at H
                        have c14b0 : decide (x10_4 < (wrap64 (a1 + a2))) = true := decide_eq_true c14
                        clear c14
                        by_cases c15 : x10_4 < a1
                        · rw [if_pos c15] at H
                          have c15b0 : decide (x10_4 < a1) = true := decide_eq_true c15
                          clear c15
                          by_cases c16 : 0 ≤ x9_2
                          · rw [if_pos c16] at H
                            have c16b0 := eq_true c16
                            have c16b1 : decide (0 ≤ x9_2) = true := decide_eq_true c16
                            clear c16
                            by_cases c17 : x9_2 ≤ (wrap64 (x9_2 + a3))
                            · rw [if_pos c17] at H
                              have c17b0 := eq_true c17
                              have c17b1 : decide (x9_2 ≤ (wrap64 (x9_2 + a3))) = true := decide_eq_true c17
                              by_cases c18 : (wrap64 (x9_2 + a3)) ≤ (l0.length : Int)
                              · rw [if_pos c18] at H
                                have c18b0 := eq_true c18
                                have c18b1 : decide ((wrap64 (x9_2 + a3)) ≤ (l0.length : Int)) = true := decide_eq_true c18
                                obtain ⟨y149, hy149⟩ : ∃ y_ : List (S25), y_ = ((l0.take ((wrap64 (x9_2 + a3)) : Int).toNat).drop (x9_2 : Int).toNat) := ⟨_, rfl⟩
                                replace H : ((poacherref05_named.f k4 y149 0 x10_4).bind fun t153 => (if t153 = true then (poacherref05_Fair.l1 k4 l0 a1 a2 a3 x9_2 (wrap64 (x10_4 + 1))) else (if x10_4 ≥ a1 then ((poacherref05_named.f k4 ((l0.take ((wrap64 (x9_2 + a3)) : Int).toNat).drop (x9_2 : Int).toNat) 1 (wrap64 (x10_4 - a1))).bind fun t158 => (if t158 = true then (poacherref05_Fair.l1 k4 l0 a1 a2 a3 x9_2 (wrap64 (x10_4 + 1))) else (some false))) else (some false)))) = some r := by first | (rw [hy149]; with_reducible exact H) | (have H2_ := (Option.bind_some _ _).symm.trans H; rw [hy149]; with_reducible exact H2_) | (have H2_ := (Option.bind_some _ _).symm.trans H; with_reducible exact H2_) | with_reducible exact H | (rw [hy149]; exact H) | exact H
                                have Ny149 := Aside0.mk hy149
                                clear hy149
                                replace H := Option.bind_eq_some_iff.mp H
                                obtain ⟨t153, A190, H⟩ := H
                                replace H : (if t153 = true then (poacherref05_Fair.l1 k4 l0 a1 a2 a3 x9_2 (wrap64 (x10_4 + 1))) else (if x10_4 ≥ a1 then ((poacherref05_named.f k4 ((l0.take ((wrap64 (x9_2 + a3)) : Int).toNat).drop (x9_2 : Int).toNat) 1 (wrap64 (x10_4 - a1))).bind fun t158 => (if t158 = true then (poacherref05_Fair.l1 k4 l0 a1 a2 a3 x9_2 (wrap64 (x10_4 + 1))) else (some false))) else (some false))) = some r := H
                                have A19 := Aside0.mk A190
                                clear A190
                                by_cases c20 : t153 = true
                                · subst c20
                                  have H1 : (poacherref05_Fair.l1 k4 l0 a1 a2 a3 x9_2 (wrap64 (x10_4 + 1))) = some r := by rw [if_pos rfl] at H; exact H
                                  clear H
                                  have H := H1
                                  clear H1
                                  have H' := Aside0.mk H
                                  clear H
                                  have q21 : ((wrap64 (x9_2 + a3)) : Int) ≤ ((l0.length : Int) : Int) := of_decide_eq_true (by first | (with_reducible assumption) | assumption)
                                  obtain ⟨i021, hi021, _, hsz21, _⟩ := info_parts info25
                                  have hroom21 : l0.length ≤ c0 := HC0.out
                                  have hC21 : Kd.C k25 _ A0 l0.length l0 := HR0.out
                                  have ql21 : (x9_2 : Int) ≤ ((wrap64 (x9_2 + a3)) : Int) := of_decide_eq_true (by first | (with_reducible assumption) | assumption)
                                  have q021 : (0 : Int) ≤ (x9_2 : Int) := of_decide_eq_true (by first | (with_reducible assumption) | assumption)
                                  have hcut21 := cut_mid (P := Try.prog) 26 25 .i64 .i64 Try.underlying26 hi021 3 hsz21 A0 l0.length c0 x9_2 (wrap64 (x9_2 + a3)) q021 ql21 q21 hroom21
                                  have hr21 := Kd.C_mid (lo := (x9_2 : Int).toNat) (hi := ((wrap64 (x9_2 + a3)) : Int).toNat) (c := c0) hC21 (by omega) (by omega) hroom21
                                  obtain ⟨A21, hA21⟩ : ∃ A1, A1 = (if c0 = (x9_2 : Int).toNat then A0 else (A0 : Option Addr).map (·.add ((x9_2 : Int).toNat * 3))) := ⟨_, rfl⟩
                                  obtain ⟨c21, hc21⟩ : ∃ c1, c1 = c0 - (x9_2 : Int).toNat := ⟨_, rfl⟩
                                  have hy21 : y149.length = ((wrap64 (x9_2 + a3)) : Int).toNat - (x9_2 : Int).toNat := (by rw [Ny149.out, List.length_drop, List.length_take] <;> omega)
                                  rw [show ((l0).take ((wrap64 (x9_2 + a3)) : Int).toNat).drop (x9_2 : Int).toNat = y149 from Ny149.out.symm] at hr21
                                  replace hr21 : Kd.C k25 _ A21 y149.length y149 := (by rw [hA21]; exact hr21)
                                  rw [← hy21, ← hA21, ← hc21] at hcut21
                                  have HR152 := Aside0.mk hr21
                                  have HC152 := Aside0.mk (show y149.length ≤ c21 from by rw [hy21, hc21]; exact Nat.sub_le_sub_right (Nat.le_trans (by omega) hroom21) _)
                                  clear hr21 hC21 hroom21 hi021 hsz21 hc21
                                  have KY21 := Aside0.mk hy21
                                  have KA21 := Aside0.mk hA21
                                  clear hy21 hA21
                                  replace q21 := eq_true q21
                                  go_wp2_with (first | (go_at_call 24; (with_reducible refine (poacherref05_named.calls k4 _ _ y149 0 x10_4 true _ ?side1 ?side2 A19.out).mono ?_); (try clear A19); (case side1 => repeat (first | exact HR152.out | (with_reducible refine Kd.C_alloc ?_ _) | (with_reducible refine Kd.C_drewN ?_ _) | (with_reducible refine Kd.C_drew ?_))); (case side2 => exact HC152.out); rintro e w' ⟨rfl, ⟨nd, rfl⟩⟩))
                                  go_roundg k4
                                  case measure => have := HJ4.out; have := HK2.out; have := HJ10.out; have := HK4.out; omega
                                  case rel => exact ⟨(wrap64 (x10_4 + 1)), (by first | rfl | (simp; done) | (simp [*]; done)), H', ⟨by have := HJ4.out; have := HK2.out; have := HJ10.out; have := HK4.out; omega⟩, by repeat (first | exact Drawn0.refl _ | apply Drawn0.step)⟩
                                · replace c20 := Bool.eq_false_iff.mpr c20
                                  subst c20
                                  have H1 : (if x10_4 ≥ a1 then ((poacherref05_named.f k4 ((l0.take ((wrap64 (x9_2 + a3)) : Int).toNat).drop (x9_2 : Int).toNat) 1 (wrap64 (x10_4 - a1))).bind fun t158 => (if t158 = true then (poacherref05_Fair.l1 k4 l0 a1 a2 a3 x9_2 (wrap64 (x10_4 + 1))) else (some false))) else (some false)) = some r := by rw [if_neg (show ¬ (false = true) by decide)] at H; exact H
                                  clear H
                                  have H := H1
                                  clear H1
                                  by_cases c22 : x10_4 ≥ a1
                                  · exfalso
                                    first | omega | (simp only [decide_eq_true_eq] at *; omega)
                                  · rw [if_neg c22] at H
                                    have c22b0 : decide (a1 ≤ x10_4) = false := decide_eq_false c22
                                    clear c22
                                    obtain rfl := Option.some.inj H
                                    simp only [Option.some.injEq, Prod.mk.injEq] at H
                                    obtain ⟨rfl⟩ := H
                                    have q32 : ((wrap64 (x9_2 + a3)) : Int) ≤ ((l0.length : Int) : Int) := of_decide_eq_true (by first | (with_reducible assumption) | assumption)
                                    obtain ⟨i032, hi032, _, hsz32, _⟩ := info_parts info25
                                    have hroom32 : l0.length ≤ c0 := HC0.out
                                    have hC32 : Kd.C k25 _ A0 l0.length l0 := HR0.out
                                    have ql32 : (x9_2 : Int) ≤ ((wrap64 (x9_2 + a3)) : Int) := of_decide_eq_true (by first | (with_reducible assumption) | assumption)
                                    have q032 : (0 : Int) ≤ (x9_2 : Int) := of_decide_eq_true (by first | (with_reducible assumption) | assumption)
                                    have hcut32 := cut_mid (P := Try.prog) 26 25 .i64 .i64 Try.underlying26 hi032 3 hsz32 A0 l0.length c0 x9_2 (wrap64 (x9_2 + a3)) q032 ql32 q32 hroom32
                                    have hr32 := Kd.C_mid (lo := (x9_2 : Int).toNat) (hi := ((wrap64 (x9_2 + a3)) : Int).toNat) (c := c0) hC32 (by omega) (by omega) hroom32
                                    obtain ⟨A32, hA32⟩ : ∃ A1, A1 = (if c0 = (x9_2 : Int).toNat then A0 else (A0 : Option Addr).map (·.add ((x9_2 : Int).toNat * 3))) := ⟨_, rfl⟩
                                    obtain ⟨c32, hc32⟩ : ∃ c1, c1 = c0 - (x9_2 : Int).toNat := ⟨_, rfl⟩
                                    have hy32 : y149.length = ((wrap64 (x9_2 + a3)) : Int).toNat - (x9_2 : Int).toNat := (by rw [Ny149.out, List.length_drop, List.length_take] <;> omega)
                                    rw [show ((l0).take ((wrap64 (x9_2 + a3)) : Int).toNat).drop (x9_2 : Int).toNat = y149 from Ny149.out.symm] at hr32
                                    replace hr32 : Kd.C k25 _ A32 y149.length y149 := (by rw [hA32]; exact hr32)
                                    rw [← hy32, ← hA32, ← hc32] at hcut32
                                    have HR152 := Aside0.mk hr32
                                    have HC152 := Aside0.mk (show y149.length ≤ c32 from by rw [hy32, hc32]; exact Nat.sub_le_sub_right (Nat.le_trans (by omega) hroom32) _)
                                    clear hr32 hC32 hroom32 hi032 hsz32 hc32
                                    have KY32 := Aside0.mk hy32
                                    have KA32 := Aside0.mk hA32
                                    clear hy32 hA32
                                    replace q32 := eq_true q32
                                    go_wp2_with (first | (go_at_call 24; (with_reducible refine (poacherref05_named.calls k4 _ _ y149 0 x10_4 false _ ?side1 ?side2 A19.out).mono ?_); (try clear A19); (case side1 => repeat (first | exact HR152.out | (with_reducible refine Kd.C_alloc ?_ _) | (with_reducible refine Kd.C_drewN ?_ _) | (with_reducible refine Kd.C_drew ?_))); (case side2 => exact HC152.out); rintro e w' ⟨rfl, ⟨nd, rfl⟩⟩))
                                    go_ret
                                    exact ⟨by first | rfl | (simp; done) | (simp [*]; done), by repeat (first | exact Drawn0.refl _ | apply Drawn0.step)⟩
                              · rw [if_neg c18] at H
                                exact absurd H (by simp)
                            · rw [if_neg c17] at H
                              exact absurd H (by simp)
                          · rw [if_neg c16] at H
                            exact absurd H (by simp)
                        · rw [if_neg c15] at H
                          have c15b0 : decide (x10_4 < a1) = false := decide_eq_false c15
                          clear c15
                          by_cases c33 : x10_4 ≥ a1
                          · rw [if_pos c33] at H
                            have c33b0 : decide (a1 ≤ x10_4) = true := decide_eq_true c33
                            clear c33
                            by_cases c34 : 0 ≤ x9_2
                            · rw [if_pos c34] at H
                              have c34b0 := eq_true c34
                              have c34b1 : decide (0 ≤ x9_2) = true := decide_eq_true c34
                              clear c34
                              by_cases c35 : x9_2 ≤ (wrap64 (x9_2 + a3))
                              · rw [if_pos c35] at H
                                have c35b0 := eq_true c35
                                have c35b1 : decide (x9_2 ≤ (wrap64 (x9_2 + a3))) = true := decide_eq_true c35
                                by_cases c36 : (wrap64 (x9_2 + a3)) ≤ (l0.length : Int)
                                · rw [if_pos c36] at H
                                  have c36b0 := eq_true c36
                                  have c36b1 : decide ((wrap64 (x9_2 + a3)) ≤ (l0.length : Int)) = true := decide_eq_true c36
                                  obtain ⟨y159, hy159⟩ : ∃ y_ : List (S25), y_ = ((l0.take ((wrap64 (x9_2 + a3)) : Int).toNat).drop (x9_2 : Int).toNat) := ⟨_, rfl⟩
                                  replace H : ((poacherref05_named.f k4 y159 1 (wrap64 (x10_4 - a1))).bind fun t163 => (if t163 = true then (poacherref05_Fair.l1 k4 l0 a1 a2 a3 x9_2 (wrap64 (x10_4 + 1))) else (some false))) = some r := by first | (rw [hy159]; with_reducible exact H) | (have H2_ := (Option.bind_some _ _).symm.trans H; rw [hy159]; with_reducible exact H2_) | (have H2_ := (Option.bind_some _ _).symm.trans H; with_reducible exact H2_) | with_reducible exact H | (rw [hy159]; exact H) | exact H
                                  have Ny159 := Aside0.mk hy159
                                  clear hy159
                                  replace H := Option.bind_eq_some_iff.mp H
                                  obtain ⟨t163, A370, H⟩ := H
                                  replace H : (if t163 = true then (poacherref05_Fair.l1 k4 l0 a1 a2 a3 x9_2 (wrap64 (x10_4 + 1))) else (some false)) = some r := H
                                  have A37 := Aside0.mk A370
                                  clear A370
                                  by_cases c38 : t163 = true
                                  · subst c38
                                    have H1 : (poacherref05_Fair.l1 k4 l0 a1 a2 a3 x9_2 (wrap64 (x10_4 + 1))) = some r := by rw [if_pos rfl] at H; exact H
                                    clear H
                                    have H := H1
                                    clear H1
                                    have H' := Aside0.mk H
                                    clear H
                                    have q39 : ((wrap64 (x9_2 + a3)) : Int) ≤ ((l0.length : Int) : Int) := of_decide_eq_true (by first | (with_reducible assumption) | assumption)
                                    obtain ⟨i039, hi039, _, hsz39, _⟩ := info_parts info25
                                    have hroom39 : l0.length ≤ c0 := HC0.out
                                    have hC39 : Kd.C k25 _ A0 l0.length l0 := HR0.out
                                    have ql39 : (x9_2 : Int) ≤ ((wrap64 (x9_2 + a3)) : Int) := of_decide_eq_true (by first | (with_reducible assumption) | assumption)
                                    have q039 : (0 : Int) ≤ (x9_2 : Int) := of_decide_eq_true (by first | (with_reducible assumption) | assumption)
                                    have hcut39 := cut_mid (P := Try.prog) 26 25 .i64 .i64 Try.underlying26 hi039 3 hsz39 A0 l0.length c0 x9_2 (wrap64 (x9_2 + a3)) q039 ql39 q39 hroom39
                                    have hr39 := Kd.C_mid (lo := (x9_2 : Int).toNat) (hi := ((wrap64 (x9_2 + a3)) : Int).toNat) (c := c0) hC39 (by omega) (by omega) hroom39
                                    obtain ⟨A39, hA39⟩ : ∃ A1, A1 = (if c0 = (x9_2 : Int).toNat then A0 else (A0 : Option Addr).map (·.add ((x9_2 : Int).toNat * 3))) := ⟨_, rfl⟩
                                    obtain ⟨c39, hc39⟩ : ∃ c1, c1 = c0 - (x9_2 : Int).toNat := ⟨_, rfl⟩
                                    have hy39 : y159.length = ((wrap64 (x9_2 + a3)) : Int).toNat - (x9_2 : Int).toNat := (by rw [Ny159.out, List.length_drop, List.length_take] <;> omega)
                                    rw [show ((l0).take ((wrap64 (x9_2 + a3)) : Int).toNat).drop (x9_2 : Int).toNat = y159 from Ny159.out.symm] at hr39
                                    replace hr39 : Kd.C k25 _ A39 y159.length y159 := (by rw [hA39]; exact hr39)
                                    rw [← hy39, ← hA39, ← hc39] at hcut39
                                    have HR162 := Aside0.mk hr39
                                    have HC162 := Aside0.mk (show y159.length ≤ c39 from by rw [hy39, hc39]; exact Nat.sub_le_sub_right (Nat.le_trans (by omega) hroom39) _)
                                    clear hr39 hC39 hroom39 hi039 hsz39 hc39
                                    have KY39 := Aside0.mk hy39
                                    have KA39 := Aside0.mk hA39
                                    clear hy39 hA39
                                    replace q39 := eq_true q39
                                    go_wp2_with (first | (go_at_call 24; (with_reducible refine (poacherref05_named.calls k4 _ _ y159 1 (wrap64 (x10_4 - a1)) true _ ?side1 ?side2 A37.out).mono ?_); (try clear A37); (case side1 => repeat (first | exact HR162.out | (with_reducible refine Kd.C_alloc ?_ _) | (with_reducible refine Kd.C_drewN ?_ _) | (with_reducible refine Kd.C_drew ?_))); (case side2 => exact HC162.out); rintro e w' ⟨rfl, ⟨nd, rfl⟩⟩))
                                    go_roundg k4
                                    case measure => have := HJ4.out; have := HK2.out; have := HJ10.out; have := HK4.out; omega
                                    case rel => exact ⟨(wrap64 (x10_4 + 1)), (by first | rfl | (simp; done) | (simp [*]; done)), H', ⟨by have := HJ4.out; have := HK2.out; have := HJ10.out; have := HK4.out; omega⟩, by repeat (first | exact Drawn0.refl _ | apply Drawn0.step)⟩
                                  · replace c38 := Bool.eq_false_iff.mpr c38
                                    subst c38
                                    have H1 : (some false) = some r := by rw [if_neg (show ¬ (false = true) by decide)] at H; exact H
                                    clear H
                                    have H := H1
                                    clear H1
                                    obtain rfl := Option.some.inj H
                                    simp only [Option.some.injEq, Prod.mk.injEq] at H
                                    obtain ⟨rfl⟩ := H
                                    have q40 : ((wrap64 (x9_2 + a3)) : Int) ≤ ((l0.length : Int) : Int) := of_decide_eq_true (by first | (with_reducible assumption) | assumption)
                                    obtain ⟨i040, hi040, _, hsz40, _⟩ := info_parts info25
                                    have hroom40 : l0.length ≤ c0 := HC0.out
                                    have hC40 : Kd.C k25 _ A0 l0.length l0 := HR0.out
                                    have ql40 : (x9_2 : Int) ≤ ((wrap64 (x9_2 + a3)) : Int) := of_decide_eq_true (by first | (with_reducible assumption) | assumption)
                                    have q040 : (0 : Int) ≤ (x9_2 : Int) := of_decide_eq_true (by first | (with_reducible assumption) | assumption)
                                    have hcut40 := cut_mid (P := Try.prog) 26 25 .i64 .i64 Try.underlying26 hi040 3 hsz40 A0 l0.length c0 x9_2 (wrap64 (x9_2 + a3)) q040 ql40 q40 hroom40
                                    have hr40 := Kd.C_mid (lo := (x9_2 : Int).toNat) (hi := ((wrap64 (x9_2 + a3)) : Int).toNat) (c := c0) hC40 (by omega) (by omega) hroom40
                                    obtain ⟨A40, hA40⟩ : ∃ A1, A1 = (if c0 = (x9_2 : Int).toNat then A0 else (A0 : Option Addr).map (·.add ((x9_2 : Int).toNat * 3))) := ⟨_, rfl⟩
                                    obtain ⟨c40, hc40⟩ : ∃ c1, c1 = c0 - (x9_2 : Int).toNat := ⟨_, rfl⟩
                                    have hy40 : y159.length = ((wrap64 (x9_2 + a3)) : Int).toNat - (x9_2 : Int).toNat := (by rw [Ny159.out, List.length_drop, List.length_take] <;> omega)
                                    rw [show ((l0).take ((wrap64 (x9_2 + a3)) : Int).toNat).drop (x9_2 : Int).toNat = y159 from Ny159.out.symm] at hr40
                                    replace hr40 : Kd.C k25 _ A40 y159.length y159 := (by rw [hA40]; exact hr40)
                                    rw [← hy40, ← hA40, ← hc40] at hcut40
                                    have HR162 := Aside0.mk hr40
                                    have HC162 := Aside0.mk (show y159.length ≤ c40 from by rw [hy40, hc40]; exact Nat.sub_le_sub_right (Nat.le_trans (by omega) hroom40) _)
                                    clear hr40 hC40 hroom40 hi040 hsz40 hc40
                                    have KY40 := Aside0.mk hy40
                                    have KA40 := Aside0.mk hA40
                                    clear hy40 hA40
                                    replace q40 := eq_true q40
                                    go_wp2_with (first | (go_at_call 24; (with_reducible refine (poacherref05_named.calls k4 _ _ y159 1 (wrap64 (x10_4 - a1)) false _ ?side1 ?side2 A37.out).mono ?_); (try clear A37); (case side1 => repeat (first | exact HR162.out | (with_reducible refine Kd.C_alloc ?_ _) | (with_reducible refine Kd.C_drewN ?_ _) | (with_reducible refine Kd.C_drew ?_))); (case side2 => exact HC162.out); rintro e w' ⟨rfl, ⟨nd, rfl⟩⟩))
                                    go_ret
                                    exact ⟨by first | rfl | (simp; done) | (simp [*]; done), by repeat (first | exact Drawn0.refl _ | apply Drawn0.step)⟩
                                · rw [if_neg c36] at H
                                  exact absurd H (by simp)
                              · rw [if_neg c35] at H
                                exact absurd H (by simp)
                            · rw [if_neg c34] at H
                              exact absurd H (by simp)
                          · rw [if_neg c33] at H
                            have c33b0 : decide (a1 ≤ x10_4) = false := decide_eq_false c33
                            clear c33
                            obtain rfl := Option.some.inj H
                            simp only [Option.some.injEq, Prod.mk.injEq] at H
                            obtain ⟨rfl⟩ := H
                            go_wp2
                            go_ret
                            exact ⟨by first | rfl | (simp; done) | (simp [*]; done), by repeat (first | exact Drawn0.refl _ | apply Drawn0.step)⟩
                      · rw [if_neg c14] at H
                        have c14b0 : decide (x10_4 < (wrap64 (a1 + a2))) = false := decide_eq_false c14
                        clear c14
                        have H' := Aside0.mk H
                        clear H
                        go_wp2
                        go_roundg k4
                        case measure => have := HJ4.out; have := HK2.out; have := HJ10.out; have := HK4.out; omega
                        case rel => exact ⟨(wrap64 (x9_2 + 1)), (by first | rfl | (simp; done) | (simp [*]; done)), H', ⟨by have := HJ4.out; have := HK2.out; have := HJ10.out; have := HK4.out; omega⟩, by repeat (first | exact Drawn0.refl _ | apply Drawn0.step)⟩
                · replace c13 := Bool.eq_false_iff.mpr c13
                  subst c13
                  have H1 : (some true) = some r := by rw [if_neg (show ¬ (false = true) by decide)] at H; exact H
                  clear H
                  have H := H1
                  clear H1
                  obtain rfl := Option.some.inj H
                  simp only [Option.some.injEq, Prod.mk.injEq] at H
                  obtain ⟨rfl⟩ := H
                  go_wp2
                  go_ret
                  exact ⟨by first | rfl | (simp; done) | (simp [*]; done), by repeat (first | exact Drawn0.refl _ | apply Drawn0.step)⟩

end Go.Proofs.Ytonhjnfhaelfkaa.QD
