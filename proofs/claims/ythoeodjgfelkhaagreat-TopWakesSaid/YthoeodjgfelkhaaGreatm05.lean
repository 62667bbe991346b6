/- Part 5 of the claim on TopWakes: printed contracts; rows handed in; slices.IndexFunc, ContainsFunc. No condition. -/
import Derived.Deep.Slices
import Derived.Deep.Strs
import Derived.OpenShut
import Derived.ChangeSame
import Derived.Test.YthoeodjgfelkhaaGreatm04
set_option linter.unusedVariables false
set_option linter.unusedSimpArgs false
set_option maxRecDepth 100000
set_option maxHeartbeats 8000000
namespace Go.Proofs.YthoeodjgfelkhaaGreat.QT
open Go.RowKit Go.Proofs.YthoeodjgfelkhaaGreatW.PrintWords Go.Proofs.YthoeodjgfelkhaaGreatW.PrintLast Go.Proofs.YthoeodjgfelkhaaGreatW.PrintMore
attribute [local go_sem] max2_int min2_int max_two min_two
mutual
def poacherlaw04_Few.l0 : Nat → List (S45) → Int → Option (Bool)
 | 0, _, _ => none
 | k + 1, x0, x3 => if x3 < (x0.length : Int) then (poacherlaw04_Few.j1 k x0 x3 (decide (x3 ≤ 40))) else (poacherlaw04_Few.j1 k x0 x3 false)
def poacherlaw04_Few.j1 : Nat → List (S45) → Int → Bool → Option (Bool)
 | 0, _, _, _ => none
 | k + 1, x0, x3, x11 => if x11 = true then (if 0 ≤ x3 then (if x3 < (x0.length : Int) then (if (((rd_T45 x0 x3).f1).length : Int) > 40 then (some false) else (poacherlaw04_Few.l0 k x0 (wrap64 (x3 + 1)))) else (none)) else (none)) else (some (decide ((x0.length : Int) ≤ 40)))
end
def poacherlaw04_Few.f (k : Nat) (l0 : List (S45)) : Option (Bool) := poacherlaw04_Few.l0 k l0 0
theorem poacherlaw04_Few.calls (k : Nat) (A0 : Option Addr) (c0 : Nat) (l0 : List (S45)) (r : Bool) (w : World) (hr0 : Kd.C k45 w A0 l0.length l0) (hc0 : l0.length ≤ c0) (h : poacherlaw04_Few.f k l0 = some r) :
  Calls Tryz.prog 11 #[.slice A0 l0.length c0] w fun e w' => e = .returned (.bool r) ∧ Drawn0 w w' := by
 have HR0 := qQ hr0
 have HC0 := qQ hc0
 clear hr0 hc0
 have H : (poacherlaw04_Few.l0 k l0 0) = some r := h
 clear h
 have H' := qQ H
 clear H
 go_enter Tryz.func11, Tryz.ntmps11
 go_wp2
 go_loopg [3] k (fun kq v3 w' => ∃ (x3_1 : Int), v3 = .int .i64 x3_1 ∧ Aside0 (poacherlaw04_Few.l0 kq l0 x3_1 = some r) ∧ Aside0 (kq ≤ k) ∧ Drawn0 w w')
 case atStart => exact ⟨(0), (by first | rfl | (simp; done) | (simp [*]; done)), H', ⟨Nat.le_refl _⟩, by repeat (first | exact Drawn0.refl _ | apply Drawn0.step)⟩
 case round =>
  clear H'
  try clear c1
  obtain ⟨x3_1, rfl, HA, HK1, ⟨m1, rfl⟩⟩ := hrel
  cases gk with
  | zero => exact absurd HA.o (by simp [poacherlaw04_Few.l0])
  | succ k1 =>
   have H := HA.o
   clear HA
   simp only [poacherlaw04_Few.l0] at H
   have HC2 := qQ H
   clear H
   go_upto_region 2 with (fail)
   go_cut [11] (fun v11 wc => ∃ (kq : Nat) (x11_1 : Bool), v11 = .bool x11_1 ∧ Aside0 (poacherlaw04_Few.j1 kq l0 x3_1 x11_1 = some r) ∧ Aside0 (kq ≤ k1) ∧ Drawn0 w wc)
   case first =>
    have H := HC2.o
    clear HC2
    by_cases c3 : x3_1 < (l0.length : Int)
    ·rw [if_pos c3] at H
     have c3b0 : decide (x3_1 < (l0.length : Int)) = true := decide_eq_true c3
     clear c3
     (first | rw [c3b0] | (simp only [i64_w, i32_w]; rw [c3b0]) | skip)
     have H' := qQ H
     clear H
     go_wp2
     go_meet
     case rel => exact ⟨_, (decide (x3_1 ≤ 40)), (by first | rfl | (simp; done) | (simp [*]; done)), H', ⟨by have := HK1.o; first | omega | exact Nat.le_refl _⟩, by repeat (first | exact Drawn0.refl _ | apply Drawn0.step)⟩
    ·rw [if_neg c3] at H
     have c3b0 : decide (x3_1 < (l0.length : Int)) = false := decide_eq_false c3
     clear c3
     (first | rw [c3b0] | (simp only [i64_w, i32_w]; rw [c3b0]) | skip)
     have H' := qQ H
     clear H
     go_wp2
     go_meet
     case rel => exact ⟨_, (false), (by first | rfl | (simp; done) | (simp [*]; done)), H', ⟨by have := HK1.o; first | omega | exact Nat.le_refl _⟩, by repeat (first | exact Drawn0.refl _ | apply Drawn0.step)⟩
   case rest =>
    clear HC2
    try clear c1
    try clear p2
    try clear c3
    try clear c3b0
    obtain ⟨kq, x11_1, rfl, HA, HJ1, ⟨mc1, rfl⟩⟩ := hcut
    cases kq with
    | zero => exact absurd HA.o (by simp [poacherlaw04_Few.j1])
    | succ kj1 =>
     have H := HA.o
     clear HA
     simp only [poacherlaw04_Few.j1] at H
     by_cases c4 : x11_1 = true
     ·subst c4
      have H1 : (if 0 ≤ x3_1 then (if x3_1 < (l0.length : Int) then (if (((rd_T45 l0 x3_1).f1).length : Int) > 40 then (some false) else (poacherlaw04_Few.l0 kj1 l0 (wrap64 (x3_1 + 1)))) else (none)) else (none)) = some r := by rw [if_pos rfl] at H; exact H
      clear H
      have H := H1
      clear H1
      by_cases c5 : 0 ≤ x3_1
      ·rw [if_pos c5] at H
       have c5b0 : decide (0 ≤ x3_1) = true := decide_eq_true c5
       clear c5
       by_cases c6 : x3_1 < (l0.length : Int)
       ·rw [if_pos c6] at H
        have c6b0 : decide (x3_1 < (l0.length : Int)) = true := decide_eq_true c6
        clear c6
        by_cases c7 : (((rd_T45 l0 x3_1).f1).length : Int) > 40
        ·rw [if_pos c7] at H
         have c7b0 : decide (40 < (((rd_T45 l0 x3_1).f1).length : Int)) = true := decide_eq_true c7
         have c7b1 : decide (40 < ((rd_T45 l0 x3_1).f1).length) = true := decide_eq_true (by omega)
         clear c7
         obtain rfl := Option.some.inj H
         have p272 : 0 ≤ (x3_1 : Int) := of_decide_eq_true (by first | (with_reducible assumption) | assumption)
         have q272 : x3_1 < (l0.length : Int) := of_decide_eq_true (by first | (with_reducible assumption) | assumption)
         obtain ⟨ad272, A272_1, c272_1, e272, hx272_0, hx272_1, hl272_1, hi272_1⟩ := at_T45 HR0.o x3_1 p272 q272
         cases e272
         have HR272_1 := qQ hi272_1
         have HC272_1 := qQ hl272_1
         clear hi272_1 hl272_1
         replace p272 := eq_true p272
         replace q272 := eq_true q272
         go_wp2
         go_ret
         exact ⟨by first | rfl | (simp; done) | (simp [*]; done), by repeat (first | exact Drawn0.refl _ | apply Drawn0.step)⟩
        ·rw [if_neg c7] at H
         have c7b0 : decide (40 < (((rd_T45 l0 x3_1).f1).length : Int)) = false := decide_eq_false c7
         have c7b1 : decide (40 < ((rd_T45 l0 x3_1).f1).length) = false := decide_eq_false (by omega)
         clear c7
         have H' := qQ H
         clear H
         have p272 : 0 ≤ (x3_1 : Int) := of_decide_eq_true (by first | (with_reducible assumption) | assumption)
         have q272 : x3_1 < (l0.length : Int) := of_decide_eq_true (by first | (with_reducible assumption) | assumption)
         obtain ⟨ad272, A272_1, c272_1, e272, hx272_0, hx272_1, hl272_1, hi272_1⟩ := at_T45 HR0.o x3_1 p272 q272
         cases e272
         have HR272_1 := qQ hi272_1
         have HC272_1 := qQ hl272_1
         clear hi272_1 hl272_1
         replace p272 := eq_true p272
         replace q272 := eq_true q272
         go_wp2
         go_roundg kj1
         case measure => have := HK1.o; have := HJ1.o; omega
         case rel => exact ⟨(wrap64 (x3_1 + 1)), (by first | rfl | (simp; done) | (simp [*]; done)), H', ⟨by have := HK1.o; have := HJ1.o; omega⟩, by repeat (first | exact Drawn0.refl _ | apply Drawn0.step)⟩
       ·rw [if_neg c6] at H
        exact absurd H (by simp)
      ·rw [if_neg c5] at H
       exact absurd H (by simp)
     ·replace c4 := Bool.eq_false_iff.mpr c4
      subst c4
      have H1 : (some (decide ((l0.length : Int) ≤ 40))) = some r := by rw [if_neg (show ¬ (false = true) by decide)] at H; exact H
      clear H
      have H := H1
      clear H1
      obtain rfl := Option.some.inj H
      go_wp2
      go_ret
      exact ⟨by first | rfl | (simp; done) | (simp [*]; done), by repeat (first | exact Drawn0.refl _ | apply Drawn0.step)⟩
mutual
def poacherlaw20_FewRoots.l0 : Nat → List (List Int) → Int → Option (Bool)
 | 0, _, _ => none
 | k + 1, x0, x3 => if x3 < (x0.length : Int) then (poacherlaw20_FewRoots.j1 k x0 x3 (decide (x3 ≤ 10))) else (poacherlaw20_FewRoots.j1 k x0 x3 false)
def poacherlaw20_FewRoots.j1 : Nat → List (List Int) → Int → Bool → Option (Bool)
 | 0, _, _, _ => none
 | k + 1, x0, x3, x11 => if x11 = true then (if 0 ≤ x3 then (if x3 < (x0.length : Int) then (if ((rd_L1 x0 x3).length : Int) > 60 then (some false) else (poacherlaw20_FewRoots.l0 k x0 (wrap64 (x3 + 1)))) else (none)) else (none)) else (some (decide ((x0.length : Int) ≤ 10)))
end
def poacherlaw20_FewRoots.f (k : Nat) (l0 : List (List Int)) : Option (Bool) := poacherlaw20_FewRoots.l0 k l0 0
theorem poacherlaw20_FewRoots.calls (k : Nat) (A0 : Option Addr) (c0 : Nat) (l0 : List (List Int)) (r : Bool) (w : World) (hr0 : Kd.C (Kd.slice 3 (Kd.int .i64)) w A0 l0.length l0) (hc0 : l0.length ≤ c0) (h : poacherlaw20_FewRoots.f k l0 = some r) :
  Calls Tryz.prog 12 #[.slice A0 l0.length c0] w fun e w' => e = .returned (.bool r) ∧ Drawn0 w w' := by
 have HR0 := qQ hr0
 have HC0 := qQ hc0
 clear hr0 hc0
 have H : (poacherlaw20_FewRoots.l0 k l0 0) = some r := h
 clear h
 have H' := qQ H
 clear H
 go_enter Tryz.func12, Tryz.ntmps12
 go_wp2
 go_loopg [3] k (fun kq v3 w' => ∃ (x3_1 : Int), v3 = .int .i64 x3_1 ∧ Aside0 (poacherlaw20_FewRoots.l0 kq l0 x3_1 = some r) ∧ Aside0 (kq ≤ k) ∧ Drawn0 w w')
 case atStart => exact ⟨(0), (by first | rfl | (simp; done) | (simp [*]; done)), H', ⟨Nat.le_refl _⟩, by repeat (first | exact Drawn0.refl _ | apply Drawn0.step)⟩
 case round =>
  clear H'
  try clear c1
  obtain ⟨x3_1, rfl, HA, HK1, ⟨m1, rfl⟩⟩ := hrel
  cases gk with
  | zero => exact absurd HA.o (by simp [poacherlaw20_FewRoots.l0])
  | succ k1 =>
   have H := HA.o
   clear HA
   simp only [poacherlaw20_FewRoots.l0] at H
   have HC2 := qQ H
   clear H
   go_upto_region 2 with (fail)
   go_cut [11] (fun v11 wc => ∃ (kq : Nat) (x11_1 : Bool), v11 = .bool x11_1 ∧ Aside0 (poacherlaw20_FewRoots.j1 kq l0 x3_1 x11_1 = some r) ∧ Aside0 (kq ≤ k1) ∧ Drawn0 w wc)
   case first =>
    have H := HC2.o
    clear HC2
    by_cases c3 : x3_1 < (l0.length : Int)
    ·rw [if_pos c3] at H
     have c3b0 : decide (x3_1 < (l0.length : Int)) = true := decide_eq_true c3
     clear c3
     (first | rw [c3b0] | (simp only [i64_w, i32_w]; rw [c3b0]) | skip)
     have H' := qQ H
     clear H
     go_wp2
     go_meet
     case rel => exact ⟨_, (decide (x3_1 ≤ 10)), (by first | rfl | (simp; done) | (simp [*]; done)), H', ⟨by have := HK1.o; first | omega | exact Nat.le_refl _⟩, by repeat (first | exact Drawn0.refl _ | apply Drawn0.step)⟩
    ·rw [if_neg c3] at H
     have c3b0 : decide (x3_1 < (l0.length : Int)) = false := decide_eq_false c3
     clear c3
     (first | rw [c3b0] | (simp only [i64_w, i32_w]; rw [c3b0]) | skip)
     have H' := qQ H
     clear H
     go_wp2
     go_meet
     case rel => exact ⟨_, (false), (by first | rfl | (simp; done) | (simp [*]; done)), H', ⟨by have := HK1.o; first | omega | exact Nat.le_refl _⟩, by repeat (first | exact Drawn0.refl _ | apply Drawn0.step)⟩
   case rest =>
    clear HC2
    try clear c1
    try clear p2
    try clear c3
    try clear c3b0
    obtain ⟨kq, x11_1, rfl, HA, HJ1, ⟨mc1, rfl⟩⟩ := hcut
    cases kq with
    | zero => exact absurd HA.o (by simp [poacherlaw20_FewRoots.j1])
    | succ kj1 =>
     have H := HA.o
     clear HA
     simp only [poacherlaw20_FewRoots.j1] at H
     by_cases c4 : x11_1 = true
     ·subst c4
      have H1 : (if 0 ≤ x3_1 then (if x3_1 < (l0.length : Int) then (if ((rd_L1 l0 x3_1).length : Int) > 60 then (some false) else (poacherlaw20_FewRoots.l0 kj1 l0 (wrap64 (x3_1 + 1)))) else (none)) else (none)) = some r := by rw [if_pos rfl] at H; exact H
      clear H
      have H := H1
      clear H1
      by_cases c5 : 0 ≤ x3_1
      ·rw [if_pos c5] at H
       have c5b0 : decide (0 ≤ x3_1) = true := decide_eq_true c5
       clear c5
       by_cases c6 : x3_1 < (l0.length : Int)
       ·rw [if_pos c6] at H
        have c6b0 : decide (x3_1 < (l0.length : Int)) = true := decide_eq_true c6
        clear c6
        by_cases c7 : ((rd_L1 l0 x3_1).length : Int) > 60
        ·rw [if_pos c7] at H
         have c7b0 : decide (60 < ((rd_L1 l0 x3_1).length : Int)) = true := decide_eq_true c7
         have c7b1 : decide (60 < (rd_L1 l0 x3_1).length) = true := decide_eq_true (by omega)
         clear c7
         obtain rfl := Option.some.inj H
         have p273 : 0 ≤ (x3_1 : Int) := of_decide_eq_true (by first | (with_reducible assumption) | assumption)
         have q273 : x3_1 < (l0.length : Int) := of_decide_eq_true (by first | (with_reducible assumption) | assumption)
         obtain ⟨ad273, A273_0, c273_0, e273, hx273_0, hl273_0, hi273_0⟩ := at_L1 HR0.o x3_1 p273 q273
         cases e273
         have HR273_0 := qQ hi273_0
         have HC273_0 := qQ hl273_0
         clear hi273_0 hl273_0
         replace p273 := eq_true p273
         replace q273 := eq_true q273
         go_wp2
         go_ret
         exact ⟨by first | rfl | (simp; done) | (simp [*]; done), by repeat (first | exact Drawn0.refl _ | apply Drawn0.step)⟩
        ·rw [if_neg c7] at H
         have c7b0 : decide (60 < ((rd_L1 l0 x3_1).length : Int)) = false := decide_eq_false c7
         have c7b1 : decide (60 < (rd_L1 l0 x3_1).length) = false := decide_eq_false (by omega)
         clear c7
         have H' := qQ H
         clear H
         have p273 : 0 ≤ (x3_1 : Int) := of_decide_eq_true (by first | (with_reducible assumption) | assumption)
         have q273 : x3_1 < (l0.length : Int) := of_decide_eq_true (by first | (with_reducible assumption) | assumption)
         obtain ⟨ad273, A273_0, c273_0, e273, hx273_0, hl273_0, hi273_0⟩ := at_L1 HR0.o x3_1 p273 q273
         cases e273
         have HR273_0 := qQ hi273_0
         have HC273_0 := qQ hl273_0
         clear hi273_0 hl273_0
         replace p273 := eq_true p273
         replace q273 := eq_true q273
         go_wp2
         go_roundg kj1
         case measure => have := HK1.o; have := HJ1.o; omega
         case rel => exact ⟨(wrap64 (x3_1 + 1)), (by first | rfl | (simp; done) | (simp [*]; done)), H', ⟨by have := HK1.o; have := HJ1.o; omega⟩, by repeat (first | exact Drawn0.refl _ | apply Drawn0.step)⟩
       ·rw [if_neg c6] at H
        exact absurd H (by simp)
      ·rw [if_neg c5] at H
       exact absurd H (by simp)
     ·replace c4 := Bool.eq_false_iff.mpr c4
      subst c4
      have H1 : (some (decide ((l0.length : Int) ≤ 10))) = some r := by rw [if_neg (show ¬ (false = true) by decide)] at H; exact H
      clear H
      have H := H1
      clear H1
      obtain rfl := Option.some.inj H
      go_wp2
      go_ret
      exact ⟨by first | rfl | (simp; done) | (simp [*]; done), by repeat (first | exact Drawn0.refl _ | apply Drawn0.step)⟩
section
variable {H : Type} {enc : TypeId × Value → H} {W : World} {d : DataW H} {p : List MemPlace}
theorem read_ints {k : IntKind} {T e : TypeId} (hT : Tryz.prog.underlying T = some (.slice e)) (he : Tryz.prog.underlying e = some (.int k)) (hc : Tryz.prog.cellsOf e = 1) {fuel : Nat} {cs : List Value} (h : DataW.trod enc Tryz.prog W 0 (fun _ => true) true fuel T cs = some (d, p)) :
  ∃ A len cap, ∃ l : List Int, cs = [.slice A len cap] ∧ len = l.length ∧ Kd.C (Kd.int k) W A len l ∧ len ≤ cap := by
 rcases Go.Deep.open_slice1 hT hc h with ⟨hcs, _⟩ | ⟨a, len, cap, m, n, V, D, Pl, hcs, _, hl, hm, hmm, _, hx⟩
 ·exact ⟨none, 0, 0, [], hcs, rfl, ⟨rfl, by omega, fun h => absurd h (by omega)⟩, Nat.le_refl _⟩
 ·have hlm : len ≤ m := by rw [hmm]; simpa using hl
  obtain ⟨U, hU⟩ := Go.Deep.choose_lt (α := Int) (n := len) (p := fun i s => W.cell? (a.add i) = some (.int k s)) (fun i hi => by
   obtain ⟨h1, h2⟩ := hx i (by omega)
   obtain ⟨b0, e0, _, w0⟩ := DataW.trod_int he h2
   simp only [List.cons.injEq, and_true] at e0
   exact ⟨b0, by rw [h1, e0]⟩)
  have hll : ((List.range len).map U).length = len := by simp
  refine ⟨some a, len, cap, (List.range len).map U, hcs, hll.symm, ⟨hll, by simp only [maxLen] at hm; omega, fun _ => ⟨a, rfl, fun j q hq => ?_⟩⟩, hl⟩
  have hj : j < len := by have := (List.getElem?_eq_some_iff.1 hq).1; omega
  obtain rfl : U j = q := by simpa [List.getElem?_range hj] using hq
  refine ⟨[.int k (U j)], rfl, rfl, fun i u hu => ?_⟩
  match i, hu with
  | 0, hu =>
   obtain rfl := Option.some.inj hu
   have e1 : j * (Kd.int k).sz + 0 = j := by show j * 1 + 0 = j; omega
   rw [e1]
   exact hU j hj
  | i + 1, hu => simp at hu
theorem read_rows {fuel : Nat} {A : Option Addr} {len cap : Nat} (h : DataW.trod enc Tryz.prog W 0 (fun _ => true) true fuel 25 (Value.slice A len cap).cells.toList = some (d, p)) :
  ∃ l : List (List Int), len = l.length ∧ Kd.C (Kd.slice 3 (Kd.int .i64)) W A len l ∧ len ≤ cap := by
 have c43 : Tryz.prog.cellsOf 43 = 1 := by kernel_rfl
 rcases Go.Deep.open_slice1 Tryz.underlying25 c43 h with ⟨hcs, _⟩ | ⟨a, ln, c, m, n, V, D, Pl, hcs, _, hl, hm, hmm, _, hx⟩
 ·simp [Value.cells] at hcs
  obtain ⟨rfl, rfl, rfl⟩ := hcs
  exact ⟨[], rfl, ⟨rfl, by omega, fun h => absurd h (by omega)⟩, Nat.le_refl _⟩
 ·simp [Value.cells] at hcs
  obtain ⟨rfl, rfl, rfl⟩ := hcs
  have hlm : len ≤ m := by rw [hmm]; simpa using hl
  obtain ⟨U, hU⟩ := Go.Deep.choose_lt (α := List Int) (n := len) (p := fun i s => ∃ A2 c2, W.cell? (a.add i) = some (.slice A2 s.length c2) ∧ s.length ≤ c2 ∧ Kd.C (Kd.int .i64) W A2 s.length s) (fun i hi => by
   obtain ⟨h1, h2⟩ := hx i (by omega)
   obtain ⟨A2, len2, c2, l, e0, rfl, hC, hle⟩ := read_ints Tryz.underlying43 Tryz.underlying3 (by kernel_rfl) h2
   simp only [List.cons.injEq, and_true] at e0
   exact ⟨l, A2, c2, by rw [h1, e0], hle, hC⟩)
  have hll : ((List.range len).map U).length = len := by simp
  refine ⟨(List.range len).map U, hll.symm, ⟨hll, by simp only [maxLen] at hm; omega, fun _ => ⟨a, rfl, fun j q hq => ?_⟩⟩, hl⟩
  have hj : j < len := by have := (List.getElem?_eq_some_iff.1 hq).1; omega
  obtain rfl : U j = q := by simpa [List.getElem?_range hj] using hq
  obtain ⟨A2, c2, g1, g2, g3⟩ := hU j hj
  refine ⟨[.slice A2 (U j).length c2], rfl, ⟨A2, c2, rfl, g2, g3⟩, fun i u hu => ?_⟩
  match i, hu with
  | 0, hu =>
   obtain rfl := Option.some.inj hu
   have e1 : j * (Kd.slice 3 (Kd.int .i64)).sz + 0 = j := by show j * 1 + 0 = j; omega
   rw [e1]
   exact g1
  | i + 1, hu => simp at hu
theorem read_tasks {fuel : Nat} {A : Option Addr} {len cap : Nat} (h : DataW.trod enc Tryz.prog W 0 (fun _ => true) true fuel 24 (Value.slice A len cap).cells.toList = some (d, p)) :
  ∃ l : List S45, len = l.length ∧ Kd.C k45 W A len l ∧ len ≤ cap := by
 rcases Go.Deep.open_slice Tryz.underlying24 h with ⟨hcs, _⟩ | ⟨a, ln, c, m, n, D, Pl, hcs, _, hl, hm, hmm, _, hx⟩
 ·simp [Value.cells] at hcs
  obtain ⟨rfl, rfl, rfl⟩ := hcs
  exact ⟨[], rfl, ⟨rfl, by omega, fun h => absurd h (by omega)⟩, Nat.le_refl _⟩
 ·simp [Value.cells] at hcs
  obtain ⟨rfl, rfl, rfl⟩ := hcs
  have hlm : len ≤ m := by rw [hmm]; simpa using hl
  have e2 : Tryz.prog.cellsOf 45 = 2 := by kernel_rfl
  have c3 : Tryz.prog.cellsOf 3 = 1 := by kernel_rfl
  have c43 : Tryz.prog.cellsOf 43 = 1 := by kernel_rfl
  rw [e2] at hx
  haveI : Inhabited S45 := ⟨⟨0, []⟩⟩
  obtain ⟨U, hU⟩ := Go.Deep.choose_lt (α := S45) (n := len) (p := fun i s => W.cell? (a.add (i * 2 + 0)) = some (.int .i64 s.f0) ∧ ∃ A2 c2, W.cell? (a.add (i * 2 + 1)) = some (.slice A2 s.f1.length c2) ∧ s.f1.length ≤ c2 ∧ Kd.C (Kd.int .i64) W A2 s.f1.length s.f1) (fun i hi => by
   obtain ⟨cs', h1, h2⟩ := hx i (by omega)
   obtain ⟨_, hlen, hc⟩ := World.cells?_some h1
   obtain ⟨y0, y1, n', _, _, t0, t1⟩ := Go.ChangeShapes.trod_struct2 Tryz.underlying45 h2
   dsimp only at t0 t1
   rw [c3] at t0
   rw [c43] at t1
   match cs', hlen with
   | [u0, u1], _ =>
    simp only [List.drop_zero, List.drop_succ_cons, List.take_succ_cons, List.take_zero] at t0 t1
    obtain ⟨b0, e0, _, _⟩ := DataW.trod_int Tryz.underlying3 t0
    obtain ⟨A2, len2, c2, l, e1, rfl, hC, hle⟩ := read_ints Tryz.underlying43 Tryz.underlying3 c3 t1
    simp only [List.cons.injEq, and_true] at e0 e1
    subst e0 e1
    have hh : ∀ j, (a.add (i * 2)).add j = a.add (i * 2 + j) := fun j => by unfold Addr.add; by_cases hx : i * 2 = 0 <;> by_cases hj : j = 0 <;> simp [hx, hj, Nat.add_assoc]
    have g0 := hc 0 (by omega)
    have g1 := hc 1 (by omega)
    rw [hh] at g0 g1
    exact ⟨⟨b0, l⟩, g0, A2, c2, g1, hle, hC⟩)
  have hll : ((List.range len).map U).length = len := by simp
  refine ⟨(List.range len).map U, hll.symm, ⟨hll, by simp only [maxLen] at hm; omega, fun _ => ⟨a, rfl, fun j q hq => ?_⟩⟩, hl⟩
  have hj : j < len := by have := (List.getElem?_eq_some_iff.1 hq).1; omega
  obtain rfl : U j = q := by simpa [List.getElem?_range hj] using hq
  obtain ⟨v0, A2, c2, g1, g2, g3⟩ := hU j hj
  refine ⟨_, rfl, k45_mk W (U j) g2 g3, fun i u hu => ?_⟩
  match i, hu with
  | 0, hu => obtain rfl := Option.some.inj hu; exact v0
  | 1, hu => obtain rfl := Option.some.inj hu; exact g1
  | i + 2, hu => simp at hu
end
def lay_May.f (a0_0 : Int) (a0_1 : Int) (a0_2 : Int) (a0_3 : Int) : Option (Bool) := (lay_in.f a0_0 1 8).bind fun t102 => (if t102 = true then ((lay_in.f a0_1 1 16).bind fun t103 => (if t103 = true then (if (Go.bits .and .i64 a0_1 (wrap64 (a0_1 - 1))) = 0 then ((lay_in.f a0_2 1 16).bind fun t104 => (if t104 = true then ((lay_in.f a0_3 0 4).bind fun t105 => (some t105)) else (some false))) else (some false)) else (some false))) else (some false))
theorem lay_May.calls (a0_0 : Int) (a0_1 : Int) (a0_2 : Int) (a0_3 : Int) (r : Bool) (w : World) (h : lay_May.f a0_0 a0_1 a0_2 a0_3 = some r) :
  Calls Tryz.prog 22 #[.agg #[.int .i64 a0_0, .int .i64 a0_1, .int .i64 a0_2, .int .i64 a0_3]] w fun e w' => e = .returned (.bool r) ∧ Below w.heap.size w w' := by
 have hu23 := Tryz.underlying23
 have HB := qQ (Below.refl w.heap.size w)
 unfold lay_May.f at h
 have H := h
 clear h
 replace H := Option.bind_eq_some_iff.mp H
 obtain ⟨t102, A20, H⟩ := H
 have A2 := qQ A20
 clear A20
 by_cases c3 : t102 = true
 rotate_left
 case' neg =>
  replace c3 := Bool.eq_false_iff.mpr c3
  subst c3
  rw [if_neg (show ¬ (false = true) by decide)] at H
  obtain rfl := Option.some.inj H
 rotate_right
 case' pos =>
  subst c3
  rw [if_pos rfl] at H
  replace H := Option.bind_eq_some_iff.mp H
  obtain ⟨t103, A40, H⟩ := H
  have A4 := qQ A40
  clear A40
  by_cases c5 : t103 = true
  rotate_left
  case' neg =>
   replace c5 := Bool.eq_false_iff.mpr c5
   subst c5
   rw [if_neg (show ¬ (false = true) by decide)] at H
   obtain rfl := Option.some.inj H
  rotate_right
  case' pos =>
   subst c5
   rw [if_pos rfl] at H
   by_cases c6 : (Go.bits .and .i64 a0_1 (wrap64 (a0_1 - 1))) = 0
   rotate_left
   case' neg =>
    rw [if_neg c6] at H
    have c6b0 : ((Go.bits .and .i64 a0_1 (wrap64 (a0_1 - 1))) == 0) = false := beq_eq_false_iff_ne.mpr c6
    have c6b1 : ((Go.bits .and .i64 a0_1 (wrap64 (a0_1 - 1))) != 0) = true := bne_iff_ne.mpr c6
    obtain rfl := Option.some.inj H
   rotate_right
   case' pos =>
    rw [if_pos c6] at H
    have c6b0 : ((Go.bits .and .i64 a0_1 (wrap64 (a0_1 - 1))) == 0) = true := beq_iff_eq.mpr c6
    have c6b1 : ((Go.bits .and .i64 a0_1 (wrap64 (a0_1 - 1))) != 0) = false := bne_eq_false_iff_eq.mpr c6
    clear c6
    replace H := Option.bind_eq_some_iff.mp H
    obtain ⟨t104, A70, H⟩ := H
    have A7 := qQ A70
    clear A70
    by_cases c8 : t104 = true
    rotate_left
    case' neg =>
     replace c8 := Bool.eq_false_iff.mpr c8
     subst c8
     rw [if_neg (show ¬ (false = true) by decide)] at H
     obtain rfl := Option.some.inj H
    rotate_right
    case' pos =>
     subst c8
     rw [if_pos rfl] at H
     replace H := Option.bind_eq_some_iff.mp H
     obtain ⟨t105, A90, H⟩ := H
     replace H : (some t105) = some r := H
     have A9 := qQ A90
     clear A90
     obtain rfl := Option.some.inj H
 all_goals
  go_enter Tryz.func22, Tryz.ntmps22
  go_wp2_with (first | ((with_reducible refine gate_dst (N := 1) rfl ?_); refine box_event ?hg (N := 1) ?hd (cs := #[.int .i64 a0_0, .int .i64 a0_1, .int .i64 a0_2, .int .i64 a0_3]) (t := 23) ?hr ?_; (case hd => rfl); (case hg => rfl); (case hr => first | (go_simp; done) | (go_simp; rfl)); intro gb101 hg w1 hbox hb; have BK101 := qQ (hbox); have GW101 := qQ ((by rw [hg]; exact (below_size zB) : w.heap.size ≤ gb101)); have GE101 := qQ ((by rw [hg]; exact (below_size zB) : w.heap.size ≤ gb101)); replace HB := qQ (below_step zB hb); clear hb hbox hg; have hcz1 := blk_cell BK101.o; have hfz1 := blk_frozen BK101.o) | ((with_reducible refine gate_callee (f := 45) rfl ?_); refine goesL_ (some 5) rfl rfl Tryz.func45 (by kernel_rfl) rfl #[.int .i64 a0_0, .int .i64 1, .int .i64 8] rfl (by (try simp only [List.map_toArray, List.map_cons, List.map_nil]); first | done | rfl | (simp only [List.length_drop, List.length_take]; rfl)) ?_; (with_reducible refine (lay_in.calls a0_0 1 8 true _ A2.o).mono ?_); (try clear A2); rintro e w' ⟨rfl, ⟨nd, rfl⟩⟩; refine ⟨_, rfl, ?_⟩) | (go_at_call 45; (with_reducible refine (lay_in.calls a0_1 1 16 true _ A4.o).mono ?_); (try clear A4); rintro e w' ⟨rfl, ⟨nd, rfl⟩⟩) | (go_at_call 45; (with_reducible refine (lay_in.calls a0_2 1 16 true _ A7.o).mono ?_); (try clear A7); rintro e w' ⟨rfl, ⟨nd, rfl⟩⟩) | (go_at_call 45; (with_reducible refine (lay_in.calls a0_3 0 4 t105 _ A9.o).mono ?_); (try clear A9); rintro e w' ⟨rfl, ⟨nd, rfl⟩⟩) | (go_at_call 45; (with_reducible refine (lay_in.calls a0_2 1 16 false _ A7.o).mono ?_); (try clear A7); rintro e w' ⟨rfl, ⟨nd, rfl⟩⟩) | (go_at_call 45; (with_reducible refine (lay_in.calls a0_1 1 16 false _ A4.o).mono ?_); (try clear A4); rintro e w' ⟨rfl, ⟨nd, rfl⟩⟩) | ((with_reducible refine gate_callee (f := 45) rfl ?_); refine goesL_ (some 5) rfl rfl Tryz.func45 (by kernel_rfl) rfl #[.int .i64 a0_0, .int .i64 1, .int .i64 8] rfl (by (try simp only [List.map_toArray, List.map_cons, List.map_nil]); first | done | rfl | (simp only [List.length_drop, List.length_take]; rfl)) ?_; (with_reducible refine (lay_in.calls a0_0 1 8 false _ A2.o).mono ?_); (try clear A2); rintro e w' ⟨rfl, ⟨nd, rfl⟩⟩; refine ⟨_, rfl, ?_⟩))
  go_ret
  exact ⟨by first | rfl | (simp [errW_none, errW_some] <;> rfl) | (simp [*, errW_none, errW_some] <;> rfl), zB⟩
def work_New.f (a0 : Int) : Option (Int × (List (S116)) × Int × Int × Int × Int × Int × Int × Int × Int × Int) := (frame_Begin.f 1 a0 0).bind fun bt130 => (some (0, ([] : List (S116)), bt130.1, bt130.2.1, bt130.2.2.1, bt130.2.2.2.1, bt130.2.2.2.2.1, bt130.2.2.2.2.2.1, bt130.2.2.2.2.2.2, 0, 0))
theorem work_New.calls (a0 : Int) (r1 : Int) (r2 : List (S116)) (r3 : Int) (r4 : Int) (r5 : Int) (r6 : Int) (r7 : Int) (r8 : Int) (r9 : Int) (r10 : Int) (r11 : Int) (w : World) (h : work_New.f a0 = some (r1, r2, r3, r4, r5, r6, r7, r8, r9, r10, r11)) :
  Calls Tryz.prog 27 #[.int .i64 a0] w fun e w' => ∃ v1_ : Value, e = .returned (.agg #[.int .i64 r1, v1_, .int .i64 r3, .int .i64 r4, .int .i64 r5, .int .u64 r6, .int .u64 r7, .int .u64 r8, .int .i64 r9, .int .i64 r10, .int .i64 r11]) ∧ Kd.R k116 116 w' w.heap.size (fun _ => True) v1_ r2 ∧ Below w.heap.size w w' := by
 have hu76 := Tryz.underlying76
 have HB := qQ (Below.refl w.heap.size w)
 unfold work_New.f at h
 have H := h
 clear h
 replace H := Option.bind_eq_some_iff.mp H
 obtain ⟨⟨t130, t131, t132, t133, t134, t135, t136⟩, A20, H⟩ := H
 have A2 := qQ A20
 clear A20
 simp only [Option.some.injEq, Prod.mk.injEq] at H
 obtain ⟨rfl, rfl, rfl, rfl, rfl, rfl, rfl, rfl, rfl, rfl, rfl⟩ := H
 go_enter Tryz.func27, Tryz.ntmps27
 go_wp2_with (first | ((with_reducible refine gate_dst (N := 2) rfl ?_); refine box_event ?hg (N := 2) ?hd (cs := #[.int .i64 0, .slice none 0 0, .int .i64 0, .int .i64 0, .int .i64 0, .int .u64 0, .int .u64 0, .int .u64 0, .int .i64 0, .int .i64 0, .int .i64 0]) (t := 76) ?hr ?_; (case hd => rfl); (case hg => rfl); (case hr => first | (go_simp; done) | (go_simp; rfl)); intro gb129 hg w3 hbox hb; have BK129 := qQ (hbox); have GW129 := qQ ((by rw [hg]; exact (below_size zB) : w.heap.size ≤ gb129)); have GE129 := qQ ((by rw [hg]; exact (below_size zB) : w.heap.size ≤ gb129)); replace HB := qQ (below_step zB hb); clear hb hbox hg) | ((with_reducible refine gate_callee (f := 53) rfl ?_); refine goesL_ (some 4) rfl rfl Tryz.func53 (by kernel_rfl) rfl #[.int .i64 1, .int .i64 a0, .int .u64 0] rfl (by (try simp only [List.map_toArray, List.map_cons, List.map_nil]); first | done | rfl | (simp only [List.length_drop, List.length_take]; rfl)) ?_; (with_reducible refine (frame_Begin.calls 1 a0 0 t130 t131 t132 t133 t134 t135 t136 _ A2.o).mono ?_); (try clear A2); rintro e w4 ⟨rfl, hb⟩; refine ⟨_, rfl, ?_⟩; replace BK129 := qQ (blk_below (g := gb129) (o := .cells #[.int .i64 0, .slice none 0 0, .int .i64 0, .int .i64 0, .int .i64 0, .int .u64 0, .int .u64 0, .int .u64 0, .int .i64 0, .int .i64 0, .int .i64 0] 76 (0, 0)) (zK BK129.o) hb); replace HB := qQ (below_step zB hb); (try clear hb); (try clear hb2); (try clear hk); (try clear hi); have hcz5 := blk_cell BK129.o; have hfz5 := blk_frozen BK129.o))
 refine bodyPost_ret (results_cell_row rfl _ _ gb129 76 #[.int .i64 0, .slice none 0 0, .int .i64 t130, .int .i64 t131, .int .i64 t132, .int .u64 t133, .int .u64 t134, .int .u64 t135, .int .i64 t136, .int .i64 0, .int .i64 0] (0, 0) _ rfl (by (with_reducible repeat (first | refine blk_drewN ?_ _ | refine blk_drew ?_ | refine blk_alloc ?_ _)); refine blk_put (cs := #[.int .i64 0, .slice none 0 0, .int .i64 t130, .int .i64 t131, .int .i64 t132, .int .u64 t133, .int .u64 t134, .int .u64 t135, .int .i64 t136, .int .i64 0, .int .i64 0]) ?_ 10 _ rfl; (with_reducible repeat (first | refine blk_drewN ?_ _ | refine blk_drew ?_ | refine blk_alloc ?_ _)); refine blk_put (cs := #[.int .i64 0, .slice none 0 0, .int .i64 t130, .int .i64 t131, .int .i64 t132, .int .u64 t133, .int .u64 t134, .int .u64 t135, .int .i64 t136, .int .i64 0, .int .i64 0]) ?_ 9 _ rfl; (with_reducible repeat (first | refine blk_drewN ?_ _ | refine blk_drew ?_ | refine blk_alloc ?_ _)); refine blk_put (cs := #[.int .i64 0, .slice none 0 0, .int .i64 t130, .int .i64 t131, .int .i64 t132, .int .u64 t133, .int .u64 t134, .int .u64 t135, .int .i64 0, .int .i64 0, .int .i64 0]) ?_ 8 _ rfl; (with_reducible repeat (first | refine blk_drewN ?_ _ | refine blk_drew ?_ | refine blk_alloc ?_ _)); refine blk_put (cs := #[.int .i64 0, .slice none 0 0, .int .i64 t130, .int .i64 t131, .int .i64 t132, .int .u64 t133, .int .u64 t134, .int .u64 0, .int .i64 0, .int .i64 0, .int .i64 0]) ?_ 7 _ rfl; (with_reducible repeat (first | refine blk_drewN ?_ _ | refine blk_drew ?_ | refine blk_alloc ?_ _)); refine blk_put (cs := #[.int .i64 0, .slice none 0 0, .int .i64 t130, .int .i64 t131, .int .i64 t132, .int .u64 t133, .int .u64 0, .int .u64 0, .int .i64 0, .int .i64 0, .int .i64 0]) ?_ 6 _ rfl; (with_reducible repeat (first | refine blk_drewN ?_ _ | refine blk_drew ?_ | refine blk_alloc ?_ _)); refine blk_put (cs := #[.int .i64 0, .slice none 0 0, .int .i64 t130, .int .i64 t131, .int .i64 t132, .int .u64 0, .int .u64 0, .int .u64 0, .int .i64 0, .int .i64 0, .int .i64 0]) ?_ 5 _ rfl; (with_reducible repeat (first | refine blk_drewN ?_ _ | refine blk_drew ?_ | refine blk_alloc ?_ _)); refine blk_put (cs := #[.int .i64 0, .slice none 0 0, .int .i64 t130, .int .i64 t131, .int .i64 0, .int .u64 0, .int .u64 0, .int .u64 0, .int .i64 0, .int .i64 0, .int .i64 0]) ?_ 4 _ rfl; (with_reducible repeat (first | refine blk_drewN ?_ _ | refine blk_drew ?_ | refine blk_alloc ?_ _)); refine blk_put (cs := #[.int .i64 0, .slice none 0 0, .int .i64 t130, .int .i64 0, .int .i64 0, .int .u64 0, .int .u64 0, .int .u64 0, .int .i64 0, .int .i64 0, .int .i64 0]) ?_ 3 _ rfl; (with_reducible repeat (first | refine blk_drewN ?_ _ | refine blk_drew ?_ | refine blk_alloc ?_ _)); refine blk_put (cs := #[.int .i64 0, .slice none 0 0, .int .i64 0, .int .i64 0, .int .i64 0, .int .u64 0, .int .u64 0, .int .u64 0, .int .i64 0, .int .i64 0, .int .i64 0]) ?_ 2 _ rfl; (with_reducible repeat (first | refine blk_drewN ?_ _ | refine blk_drew ?_ | refine blk_alloc ?_ _)); refine blk_put (cs := #[.int .i64 0, .slice none 0 0, .int .i64 0, .int .i64 0, .int .i64 0, .int .u64 0, .int .u64 0, .int .u64 0, .int .i64 0, .int .i64 0, .int .i64 0]) ?_ 1 _ rfl; (with_reducible repeat (first | refine blk_drewN ?_ _ | refine blk_drew ?_ | refine blk_alloc ?_ _)); refine blk_put (cs := #[.int .i64 0, .slice none 0 0, .int .i64 0, .int .i64 0, .int .i64 0, .int .u64 0, .int .u64 0, .int .u64 0, .int .i64 0, .int .i64 0, .int .i64 0]) ?_ 0 _ rfl; (with_reducible repeat (first | refine blk_drewN ?_ _ | refine blk_drew ?_ | refine blk_alloc ?_ _)); exact BK129.o) Tryz.underlying76 rfl (by kernel_rfl)) rfl ?_
 exact ⟨_, by first | rfl | (simp [errW_none, errW_some] <;> rfl) | (simp [*, errW_none, errW_some] <;> rfl), by first | exact Kd.R_nil _ _ _ _ _ | exact Kd.N_nil _ _ _ _ _ | exact Kd.V_nil _ _ _ _ _ | exact Kd.Q_nil _ _ _ _ _ | exact Kd.S_nil _ _ _ _ _, zB⟩
def slices_Clone_int_int.f (l0 : List Int) : Option (List Int) := if l0.length ≤ 1000000 then some l0 else none
theorem slices_Clone_int_int.calls (A0 : Option Addr) (c0 : Nat) (l0 : List Int) (r : List Int) (w : World) (hr0 : Kd.C (Kd.int .i64) w A0 l0.length l0) (hc0 : l0.length ≤ c0) (h : slices_Clone_int_int.f l0 = some r) :
  Calls Tryz.prog 51 #[.slice A0 l0.length c0] w fun e w' => ∃ v0_ : Value, e = .returned (v0_) ∧ Kd.R (Kd.int .i64) 3 w' w.heap.size (fun _ => True) v0_ r ∧ Below w.heap.size w w' := by
 unfold slices_Clone_int_int.f at h
 split at h
 ·obtain rfl := Option.some.inj h
  refine (clone51 A0 c0 l0 w hr0 (by assumption)).mono ?_
  rintro e w' ⟨v, he, hr, hb⟩
  exact ⟨v, he, Kd.R_imp rfl (fun _ _ _ _ _ h => h) hr, hb⟩
 ·cases h
theorem cell_below {w w1 : World} {p : Addr} {v : Value} (h : w.cell? p = some v) (hb : Below w.heap.size w w1) : w1.cell? p = some v := by
 obtain ⟨o, ho, _⟩ := cells_of_cell h
 exact (hb.cell (Array.getElem?_eq_some_iff.1 ho).1).trans h
theorem index_116c (A : Option Addr) (cap : Nat) (l : List S116) (fid : FuncId) (pv : Value) (p : S116 → Bool) (w : World) (hC : Kd.C k116 w A l.length l) (hn : l.length ≤ 1000000) (hen : Enters Tryz.prog fid)
  (hf : ∀ x, x ∈ l → ∀ (W : World), Below w.heap.size w W → Calls Tryz.prog fid #[.agg #[.int .i64 x.f0, .int .i64 x.f1, .int .i64 x.f2], pv] W fun e W' => e = .returned (.bool (p x)) ∧ Below W.heap.size W W') :
  Calls Tryz.prog 155 #[.slice A l.length cap, .func (.func fid) #[] #[pv]] w fun e w' => (∃ i : Int, e = .returned (.int .i64 i) ∧ (0 ≤ i ↔ l.any p = true)) ∧ Below w.heap.size w w' := by
 have HF := qQ hf
 have HCC := qQ hC
 clear hf hC
 have een := fun args W => hen args W
 clear hen
 go_enter Tryz.func155, Tryz.ntmps155
 go_wp2
 go_loopw [8] (fun i wr => ∃ k : Nat, k ≤ l.length ∧ i = .int .i64 (k : Int) ∧ Aside0 (Below w.heap.size w wr) ∧ Aside0 (∀ q ∈ l.take k, p q = false))
  (fun i _ => l.length - (intOf i).toNat)
 case atStart => exact ⟨0, by omega, rfl, ⟨Below.refl _ _⟩, ⟨by simp⟩⟩
 case round =>
  obtain ⟨k, hk, rfl, HB, HNO⟩ := hrel
  by_cases hlt : k < l.length
  ·obtain ⟨q, hq⟩ : ∃ q, l[k]? = some q := ⟨_, List.getElem?_eq_getElem hlt⟩
   have hrd : rd_T116 l (k : Int) = q := by simp [rd_T116, List.getD, hq]
   have hC := HCC.o
   have hbw := HB.o
   obtain ⟨ad, e0, x0, x1, x2⟩ := at_T116 (Kd.C_below hC hbw) (k : Int) (by omega) (by omega)
   clear hC hbw
   cases e0
   simp only [hrd, Int.toNat_natCast] at x0 x1 x2
   have HT := qQ (show l.take (k + 1) = l.take k ++ [q] by rw [List.take_add_one, hq]; rfl)
   have HM := qQ (List.mem_of_getElem? hq)
   skip
   have kk : ((k : Int) < (l.length : Int)) = True := eq_true (by omega)
   clear hq hrd
   go_wp2
   refine (HF.o q HM.o _ HB.o).mono ?_
   rintro e w' ⟨rfl, hb⟩
   have HB2 := qQ (HB.o.trans (hb.mono HB.o.size))
   clear hb
   by_cases hs : p q = true
   ·rw [hs]
    go_wp2
    go_ret
    exact ⟨⟨k, rfl, fun _ => List.any_eq_true.2 ⟨q, HM.o, hs⟩, fun _ => by omega⟩, HB2.o⟩
   ·have hs := Bool.eq_false_iff.2 hs
    rw [hs]
    go_wp2
    go_roundw
    case rel =>
     refine ⟨k + 1, by omega, by simp, HB2, ⟨fun q' hq' => ?_⟩⟩
     rw [HT.o, List.mem_append, List.mem_singleton] at hq'
     rcases hq' with hq' | rfl
     ·exact HNO.o q' hq'
     ·exact hs
    case measure => simp [intOf]; omega
  ·obtain rfl : k = l.length := by omega
   go_wp2
   go_ret
   refine ⟨⟨-1, rfl, fun h => absurd h (by decide), fun h => ?_⟩, HB.o⟩
   obtain ⟨q, hq, hs⟩ := List.any_eq_true.1 h
   have hno := HNO.o
   rw [List.take_length] at hno
   rw [hno q hq] at hs
   cases hs
theorem contains_116c (A : Option Addr) (cap : Nat) (l : List S116) (fid : FuncId) (pv : Value) (p : S116 → Bool) (w : World) (hC : Kd.C k116 w A l.length l) (hn : l.length ≤ 1000000) (hen : Enters Tryz.prog fid)
  (hf : ∀ x, x ∈ l → ∀ (W : World), Below w.heap.size w W → Calls Tryz.prog fid #[.agg #[.int .i64 x.f0, .int .i64 x.f1, .int .i64 x.f2], pv] W fun e W' => e = .returned (.bool (p x)) ∧ Below W.heap.size W W') :
  Calls Tryz.prog 124 #[.slice A l.length cap, .func (.func fid) #[] #[pv]] w fun e w' => e = .returned (.bool (l.any p)) ∧ Below w.heap.size w w' := by
 have HI := qQ (index_116c A cap l fid pv p w hC hn hen hf)
 clear hC hen hf
 go_enter Tryz.func124, Tryz.ntmps124
 go_wp2_with (go_at_call 155; (with_reducible refine HI.o.mono ?_); rintro e w' ⟨⟨i, rfl, hi⟩, hb⟩; have HI2 := qQ hi; have HB := qQ hb; clear hi hb)
 go_ret
 refine ⟨?_, HB.o⟩
 congr 2
 have hi := HI2.o
 by_cases h : 0 ≤ i
 ·simp [h, hi.1 h]
 ·have : l.any p = false := Bool.eq_false_iff.2 (fun hh => h (hi.2 hh))
  simp [h, this]
theorem index_45 (A : Option Addr) (cap : Nat) (l : List S45) (fid : FuncId) (p : S45 → Bool) (w : World) (hC : Kd.C k45 w A l.length l) (hn : l.length ≤ 1000000) (hen : Enters Tryz.prog fid)
  (hf : ∀ x, x ∈ l → ∀ (W : World) (A1 : Option Addr) (c1 : Nat), Below w.heap.size w W → x.f1.length ≤ c1 → Kd.C (Kd.int .i64) W A1 x.f1.length x.f1 → Calls Tryz.prog fid #[.agg #[.int .i64 x.f0, .slice A1 x.f1.length c1]] W fun e W' => e = .returned (.bool (p x)) ∧ Below W.heap.size W W') :
  Calls Tryz.prog 74 #[.slice A l.length cap, .func (.func fid) #[] #[]] w fun e w' => (∃ i : Int, e = .returned (.int .i64 i) ∧ (0 ≤ i ↔ l.any p = true)) ∧ Below w.heap.size w w' := by
 have HF := qQ hf
 have HCC := qQ hC
 clear hf hC
 have een := fun args W => hen args W
 clear hen
 go_enter Tryz.func74, Tryz.ntmps74
 go_wp2
 go_loopw [8] (fun i wr => ∃ k : Nat, k ≤ l.length ∧ i = .int .i64 (k : Int) ∧ Aside0 (Below w.heap.size w wr) ∧ Aside0 (∀ q ∈ l.take k, p q = false))
  (fun i _ => l.length - (intOf i).toNat)
 case atStart => exact ⟨0, by omega, rfl, ⟨Below.refl _ _⟩, ⟨by simp⟩⟩
 case round =>
  obtain ⟨k, hk, rfl, HB, HNO⟩ := hrel
  by_cases hlt : k < l.length
  ·obtain ⟨q, hq⟩ : ∃ q, l[k]? = some q := ⟨_, List.getElem?_eq_getElem hlt⟩
   have hrd : rd_T45 l (k : Int) = q := by simp [rd_T45, List.getD, hq]
   have hC := HCC.o
   have hbw := HB.o
   obtain ⟨ad, A1, c1, e0, x0, x1, hl1, hc1⟩ := at_T45 (Kd.C_below hC hbw) (k : Int) (by omega) (by omega)
   clear hC hbw
   cases e0
   simp only [hrd, Int.toNat_natCast] at x0 x1 hl1 hc1
   have HT := qQ (show l.take (k + 1) = l.take k ++ [q] by rw [List.take_add_one, hq]; rfl)
   have HM := qQ (List.mem_of_getElem? hq)
   have HL := qQ hl1; have HC1 := qQ hc1; clear hl1 hc1
   have kk : ((k : Int) < (l.length : Int)) = True := eq_true (by omega)
   clear hq hrd
   go_wp2
   refine (HF.o q HM.o _ A1 c1 HB.o HL.o HC1.o).mono ?_
   rintro e w' ⟨rfl, hb⟩
   have HB2 := qQ (HB.o.trans (hb.mono HB.o.size))
   clear hb
   by_cases hs : p q = true
   ·rw [hs]
    go_wp2
    go_ret
    exact ⟨⟨k, rfl, fun _ => List.any_eq_true.2 ⟨q, HM.o, hs⟩, fun _ => by omega⟩, HB2.o⟩
   ·have hs := Bool.eq_false_iff.2 hs
    rw [hs]
    go_wp2
    go_roundw
    case rel =>
     refine ⟨k + 1, by omega, by simp, HB2, ⟨fun q' hq' => ?_⟩⟩
     rw [HT.o, List.mem_append, List.mem_singleton] at hq'
     rcases hq' with hq' | rfl
     ·exact HNO.o q' hq'
     ·exact hs
    case measure => simp [intOf]; omega
  ·obtain rfl : k = l.length := by omega
   go_wp2
   go_ret
   refine ⟨⟨-1, rfl, fun h => absurd h (by decide), fun h => ?_⟩, HB.o⟩
   obtain ⟨q, hq, hs⟩ := List.any_eq_true.1 h
   have hno := HNO.o
   rw [List.take_length] at hno
   rw [hno q hq] at hs
   cases hs
theorem contains_45 (A : Option Addr) (cap : Nat) (l : List S45) (fid : FuncId) (p : S45 → Bool) (w : World) (hC : Kd.C k45 w A l.length l) (hn : l.length ≤ 1000000) (hen : Enters Tryz.prog fid)
  (hf : ∀ x, x ∈ l → ∀ (W : World) (A1 : Option Addr) (c1 : Nat), Below w.heap.size w W → x.f1.length ≤ c1 → Kd.C (Kd.int .i64) W A1 x.f1.length x.f1 → Calls Tryz.prog fid #[.agg #[.int .i64 x.f0, .slice A1 x.f1.length c1]] W fun e W' => e = .returned (.bool (p x)) ∧ Below W.heap.size W W') :
  Calls Tryz.prog 46 #[.slice A l.length cap, .func (.func fid) #[] #[]] w fun e w' => e = .returned (.bool (l.any p)) ∧ Below w.heap.size w w' := by
 have HI := qQ (index_45 A cap l fid p w hC hn hen hf)
 clear hC hen hf
 go_enter Tryz.func46, Tryz.ntmps46
 go_wp2_with (go_at_call 74; (with_reducible refine HI.o.mono ?_); rintro e w' ⟨⟨i, rfl, hi⟩, hb⟩; have HI2 := qQ hi; have HB := qQ hb; clear hi hb)
 go_ret
 refine ⟨?_, HB.o⟩
 congr 2
 have hi := HI2.o
 by_cases h : 0 ≤ i
 ·simp [h, hi.1 h]
 ·have : l.any p = false := Bool.eq_false_iff.2 (fun hh => h (hi.2 hh))
  simp [h, this]
theorem index_68c (A : Option Addr) (cap : Nat) (l : List S68) (fid : FuncId) (pv : Value) (p : S68 → Bool) (w : World) (hC : Kd.C k68 w A l.length l) (hn : l.length ≤ 1000000) (hen : Enters Tryz.prog fid)
  (hf : ∀ x, x ∈ l → ∀ (W : World) (A1 : Option Addr) (c1 : Nat), Below w.heap.size w W → x.f1.length ≤ c1 → Kd.C (Kd.int .i64) W A1 x.f1.length x.f1 → Calls Tryz.prog fid #[.agg #[.int .i64 x.f0, .slice A1 x.f1.length c1, .int .i64 x.f2.f0, .int .i64 x.f2.f1, .int .i64 x.f2.f2, .int .u64 x.f2.f3, .int .u64 x.f2.f4, .int .u64 x.f2.f5, .int .i64 x.f2.f6], pv] W fun e W' => e = .returned (.bool (p x)) ∧ Below W.heap.size W W') :
  Calls Tryz.prog 44 #[.slice A l.length cap, .func (.func fid) #[] #[pv]] w fun e w' => (∃ i : Int, e = .returned (.int .i64 i) ∧ (0 ≤ i ↔ l.any p = true)) ∧ Below w.heap.size w w' := by
 have HF := qQ hf
 have HCC := qQ hC
 clear hf hC
 have een := fun args W => hen args W
 clear hen
 go_enter Tryz.func44, Tryz.ntmps44
 go_wp2
 go_loopw [8] (fun i wr => ∃ k : Nat, k ≤ l.length ∧ i = .int .i64 (k : Int) ∧ Aside0 (Below w.heap.size w wr) ∧ Aside0 (∀ q ∈ l.take k, p q = false))
  (fun i _ => l.length - (intOf i).toNat)
 case atStart => exact ⟨0, by omega, rfl, ⟨Below.refl _ _⟩, ⟨by simp⟩⟩
 case round =>
  obtain ⟨k, hk, rfl, HB, HNO⟩ := hrel
  by_cases hlt : k < l.length
  ·obtain ⟨q, hq⟩ : ∃ q, l[k]? = some q := ⟨_, List.getElem?_eq_getElem hlt⟩
   have hrd : rd_T68 l (k : Int) = q := by simp [rd_T68, List.getD, hq]
   have hC := HCC.o
   have hbw := HB.o
   obtain ⟨ad, A1, c1, e0, x0, x1, x2, x3, x4, x5, x6, x7, x8, hl1, hc1⟩ := at_T68 (Kd.C_below hC hbw) (k : Int) (by omega) (by omega)
   clear hC hbw
   cases e0
   simp only [hrd, Int.toNat_natCast] at x0 x1 x2 x3 x4 x5 x6 x7 x8 hl1 hc1
   have HT := qQ (show l.take (k + 1) = l.take k ++ [q] by rw [List.take_add_one, hq]; rfl)
   have HM := qQ (List.mem_of_getElem? hq)
   have HL := qQ hl1; have HC1 := qQ hc1; clear hl1 hc1
   have kk : ((k : Int) < (l.length : Int)) = True := eq_true (by omega)
   clear hq hrd
   go_wp2
   refine (HF.o q HM.o _ A1 c1 HB.o HL.o HC1.o).mono ?_
   rintro e w' ⟨rfl, hb⟩
   have HB2 := qQ (HB.o.trans (hb.mono HB.o.size))
   clear hb
   by_cases hs : p q = true
   ·rw [hs]
    go_wp2
    go_ret
    exact ⟨⟨k, rfl, fun _ => List.any_eq_true.2 ⟨q, HM.o, hs⟩, fun _ => by omega⟩, HB2.o⟩
   ·have hs := Bool.eq_false_iff.2 hs
    rw [hs]
    go_wp2
    go_roundw
    case rel =>
     refine ⟨k + 1, by omega, by simp, HB2, ⟨fun q' hq' => ?_⟩⟩
     rw [HT.o, List.mem_append, List.mem_singleton] at hq'
     rcases hq' with hq' | rfl
     ·exact HNO.o q' hq'
     ·exact hs
    case measure => simp [intOf]; omega
  ·obtain rfl : k = l.length := by omega
   go_wp2
   go_ret
   refine ⟨⟨-1, rfl, fun h => absurd h (by decide), fun h => ?_⟩, HB.o⟩
   obtain ⟨q, hq, hs⟩ := List.any_eq_true.1 h
   have hno := HNO.o
   rw [List.take_length] at hno
   rw [hno q hq] at hs
   cases hs
theorem contains_68c (A : Option Addr) (cap : Nat) (l : List S68) (fid : FuncId) (pv : Value) (p : S68 → Bool) (w : World) (hC : Kd.C k68 w A l.length l) (hn : l.length ≤ 1000000) (hen : Enters Tryz.prog fid)
  (hf : ∀ x, x ∈ l → ∀ (W : World) (A1 : Option Addr) (c1 : Nat), Below w.heap.size w W → x.f1.length ≤ c1 → Kd.C (Kd.int .i64) W A1 x.f1.length x.f1 → Calls Tryz.prog fid #[.agg #[.int .i64 x.f0, .slice A1 x.f1.length c1, .int .i64 x.f2.f0, .int .i64 x.f2.f1, .int .i64 x.f2.f2, .int .u64 x.f2.f3, .int .u64 x.f2.f4, .int .u64 x.f2.f5, .int .i64 x.f2.f6], pv] W fun e W' => e = .returned (.bool (p x)) ∧ Below W.heap.size W W') :
  Calls Tryz.prog 20 #[.slice A l.length cap, .func (.func fid) #[] #[pv]] w fun e w' => e = .returned (.bool (l.any p)) ∧ Below w.heap.size w w' := by
 have HI := qQ (index_68c A cap l fid pv p w hC hn hen hf)
 clear hC hen hf
 go_enter Tryz.func20, Tryz.ntmps20
 go_wp2_with (go_at_call 44; (with_reducible refine HI.o.mono ?_); rintro e w' ⟨⟨i, rfl, hi⟩, hb⟩; have HI2 := qQ hi; have HB := qQ hb; clear hi hb)
 go_ret
 refine ⟨?_, HB.o⟩
 congr 2
 have hi := HI2.o
 by_cases h : 0 ≤ i
 ·simp [h, hi.1 h]
 ·have : l.any p = false := Bool.eq_false_iff.2 (fun hh => h (hi.2 hh))
  simp [h, this]
theorem index_68 (A : Option Addr) (cap : Nat) (l : List S68) (fid : FuncId) (p : S68 → Bool) (w : World) (hC : Kd.C k68 w A l.length l) (hn : l.length ≤ 1000000) (hen : Enters Tryz.prog fid)
  (hf : ∀ x, x ∈ l → ∀ (W : World) (A1 : Option Addr) (c1 : Nat), Below w.heap.size w W → x.f1.length ≤ c1 → Kd.C (Kd.int .i64) W A1 x.f1.length x.f1 → Calls Tryz.prog fid #[.agg #[.int .i64 x.f0, .slice A1 x.f1.length c1, .int .i64 x.f2.f0, .int .i64 x.f2.f1, .int .i64 x.f2.f2, .int .u64 x.f2.f3, .int .u64 x.f2.f4, .int .u64 x.f2.f5, .int .i64 x.f2.f6]] W fun e W' => e = .returned (.bool (p x)) ∧ Below W.heap.size W W') :
  Calls Tryz.prog 44 #[.slice A l.length cap, .func (.func fid) #[] #[]] w fun e w' => (∃ i : Int, e = .returned (.int .i64 i) ∧ (0 ≤ i ↔ l.any p = true)) ∧ Below w.heap.size w w' := by
 have HF := qQ hf
 have HCC := qQ hC
 clear hf hC
 have een := fun args W => hen args W
 clear hen
 go_enter Tryz.func44, Tryz.ntmps44
 go_wp2
 go_loopw [8] (fun i wr => ∃ k : Nat, k ≤ l.length ∧ i = .int .i64 (k : Int) ∧ Aside0 (Below w.heap.size w wr) ∧ Aside0 (∀ q ∈ l.take k, p q = false))
  (fun i _ => l.length - (intOf i).toNat)
 case atStart => exact ⟨0, by omega, rfl, ⟨Below.refl _ _⟩, ⟨by simp⟩⟩
 case round =>
  obtain ⟨k, hk, rfl, HB, HNO⟩ := hrel
  by_cases hlt : k < l.length
  ·obtain ⟨q, hq⟩ : ∃ q, l[k]? = some q := ⟨_, List.getElem?_eq_getElem hlt⟩
   have hrd : rd_T68 l (k : Int) = q := by simp [rd_T68, List.getD, hq]
   have hC := HCC.o
   have hbw := HB.o
   obtain ⟨ad, A1, c1, e0, x0, x1, x2, x3, x4, x5, x6, x7, x8, hl1, hc1⟩ := at_T68 (Kd.C_below hC hbw) (k : Int) (by omega) (by omega)
   clear hC hbw
   cases e0
   simp only [hrd, Int.toNat_natCast] at x0 x1 x2 x3 x4 x5 x6 x7 x8 hl1 hc1
   have HT := qQ (show l.take (k + 1) = l.take k ++ [q] by rw [List.take_add_one, hq]; rfl)
   have HM := qQ (List.mem_of_getElem? hq)
   have HL := qQ hl1; have HC1 := qQ hc1; clear hl1 hc1
   have kk : ((k : Int) < (l.length : Int)) = True := eq_true (by omega)
   clear hq hrd
   go_wp2
   refine (HF.o q HM.o _ A1 c1 HB.o HL.o HC1.o).mono ?_
   rintro e w' ⟨rfl, hb⟩
   have HB2 := qQ (HB.o.trans (hb.mono HB.o.size))
   clear hb
   by_cases hs : p q = true
   ·rw [hs]
    go_wp2
    go_ret
    exact ⟨⟨k, rfl, fun _ => List.any_eq_true.2 ⟨q, HM.o, hs⟩, fun _ => by omega⟩, HB2.o⟩
   ·have hs := Bool.eq_false_iff.2 hs
    rw [hs]
    go_wp2
    go_roundw
    case rel =>
     refine ⟨k + 1, by omega, by simp, HB2, ⟨fun q' hq' => ?_⟩⟩
     rw [HT.o, List.mem_append, List.mem_singleton] at hq'
     rcases hq' with hq' | rfl
     ·exact HNO.o q' hq'
     ·exact hs
    case measure => simp [intOf]; omega
  ·obtain rfl : k = l.length := by omega
   go_wp2
   go_ret
   refine ⟨⟨-1, rfl, fun h => absurd h (by decide), fun h => ?_⟩, HB.o⟩
   obtain ⟨q, hq, hs⟩ := List.any_eq_true.1 h
   have hno := HNO.o
   rw [List.take_length] at hno
   rw [hno q hq] at hs
   cases hs
theorem contains_68 (A : Option Addr) (cap : Nat) (l : List S68) (fid : FuncId) (p : S68 → Bool) (w : World) (hC : Kd.C k68 w A l.length l) (hn : l.length ≤ 1000000) (hen : Enters Tryz.prog fid)
  (hf : ∀ x, x ∈ l → ∀ (W : World) (A1 : Option Addr) (c1 : Nat), Below w.heap.size w W → x.f1.length ≤ c1 → Kd.C (Kd.int .i64) W A1 x.f1.length x.f1 → Calls Tryz.prog fid #[.agg #[.int .i64 x.f0, .slice A1 x.f1.length c1, .int .i64 x.f2.f0, .int .i64 x.f2.f1, .int .i64 x.f2.f2, .int .u64 x.f2.f3, .int .u64 x.f2.f4, .int .u64 x.f2.f5, .int .i64 x.f2.f6]] W fun e W' => e = .returned (.bool (p x)) ∧ Below W.heap.size W W') :
  Calls Tryz.prog 20 #[.slice A l.length cap, .func (.func fid) #[] #[]] w fun e w' => e = .returned (.bool (l.any p)) ∧ Below w.heap.size w w' := by
 have HI := qQ (index_68 A cap l fid p w hC hn hen hf)
 clear hC hen hf
 go_enter Tryz.func20, Tryz.ntmps20
 go_wp2_with (go_at_call 44; (with_reducible refine HI.o.mono ?_); rintro e w' ⟨⟨i, rfl, hi⟩, hb⟩; have HI2 := qQ hi; have HB := qQ hb; clear hi hb)
 go_ret
 refine ⟨?_, HB.o⟩
 congr 2
 have hi := HI2.o
 by_cases h : 0 ≤ i
 ·simp [h, hi.1 h]
 ·have : l.any p = false := Bool.eq_false_iff.2 (fun hh => h (hi.2 hh))
  simp [h, this]
end Go.Proofs.YthoeodjgfelkhaaGreat.QT
