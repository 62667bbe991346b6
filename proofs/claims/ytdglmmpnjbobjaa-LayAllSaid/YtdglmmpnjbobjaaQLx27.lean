-- Written by inj.py (a program of this session), by the kit's print with functions given by hand. Not trusted: Lean checks it.
import Derived.Test.YtdglmmpnjbobjaaQLx0
import Derived.Test.YtdglmmpnjbobjaaQLx2
import Derived.Test.YtdglmmpnjbobjaaQLx4
import Derived.Test.YtdglmmpnjbobjaaQLx5
import Derived.Test.YtdglmmpnjbobjaaQLx7
import Derived.Test.YtdglmmpnjbobjaaQLx8
import Derived.Test.YtdglmmpnjbobjaaQLx9
import Derived.Test.YtdglmmpnjbobjaaQLx10
import Derived.Test.YtdglmmpnjbobjaaQLx11
import Derived.Test.YtdglmmpnjbobjaaQLx12
import Derived.Test.YtdglmmpnjbobjaaQLx13
namespace Go.Proofs.Ytdglmmpnjbobjaa.QL
open Go.RowKit Go.Proofs.YtdglmmpnjbobjaaW.PrintWords Go.Proofs.YtdglmmpnjbobjaaW.PrintLast Go.Proofs.YtdglmmpnjbobjaaW.PrintMore
attribute [local go_sem] max2_int min2_int max_two min_two max_three min_three max_four min_four   -- for this text's walks alone
set_option linter.unusedVariables false
set_option linter.unusedSimpArgs false

/-! ### poacherlaw03_LayAll: function 5 -/
mutual
def poacherlaw03_LayAll.j0 : Nat → Int → Bool → Int → Bool → Int → Int → Int → Int → Option (Bool)
  | 0, _, _, _, _, _, _, _, _ => none
  | k + 1, x1, x5, x6, x19, x203000, x203001, x203002, x203003 => if x19 = true then (if x5 = true then (if x6 = 0 then ((lay_New.f k x203000 x203001 x203002 x203003).bind fun t206 => (if (t206.length : Int) = 0 then ((lay_Seq.f x203000 x203001 x203002 x203003 0).bind fun t209 => (if t209 = (-1) then ((lay_Top.f x203000 x203001 x203002 x203003 0).bind fun t210 => (if t210 = (-1) then ((lay_Slot.f x203000 x203001 x203002 x203003 0 0).bind fun t211 => (some (t211 == (-1)))) else (some false))) else (some false))) else (some false))) else (some false)) else (some false)) else (if x1 < 6 then (poacherlaw03_LayAll.j1 k x1 x6 true x203000 x203001 x203002 x203003) else (poacherlaw03_LayAll.j1 k x1 x6 (decide (x1 ≥ x6)) x203000 x203001 x203002 x203003))
def poacherlaw03_LayAll.j1 : Nat → Int → Int → Bool → Int → Int → Int → Int → Option (Bool)
  | 0, _, _, _, _, _, _, _ => none
  | k + 1, x1, x6, x52, x203000, x203001, x203002, x203003 => if x52 = true then (some (decide (x6 ≤ 400))) else (poacherlaw03_LayAll.l0 k x1 false 0 x203000 x203001 x203002 x203003)
def poacherlaw03_LayAll.l0 : Nat → Int → Bool → Int → Int → Int → Int → Int → Option (Bool)
  | 0, _, _, _, _, _, _, _ => none
  | k + 1, x1, x7, x8, x203000, x203001, x203002, x203003 => if x8 < 16 then (if x7 = true then (poacherlaw03_LayAll.j3 k x1 true x8 x203000 x203001 x203002 x203003) else ((lay_Seq.f x203000 x203001 x203002 x203003 x8).bind fun t212 => (if t212 = x1 then (poacherlaw03_LayAll.j3 k x1 true x8 x203000 x203001 x203002 x203003) else ((lay_Val.f x203000 x203001 x203002 x203003 x8).bind fun t213 => (poacherlaw03_LayAll.j3 k x1 (t213 == x1) x8 x203000 x203001 x203002 x203003))))) else (some x7)
def poacherlaw03_LayAll.j3 : Nat → Int → Bool → Int → Int → Int → Int → Int → Option (Bool)
  | 0, _, _, _, _, _, _, _ => none
  | k + 1, x1, x7, x8, x203000, x203001, x203002, x203003 => poacherlaw03_LayAll.l1 k x1 x7 x8 0 x203000 x203001 x203002 x203003
def poacherlaw03_LayAll.l1 : Nat → Int → Bool → Int → Int → Int → Int → Int → Int → Option (Bool)
  | 0, _, _, _, _, _, _, _, _ => none
  | k + 1, x1, x7, x8, x9, x203000, x203001, x203002, x203003 => if x9 < x203000 then (poacherlaw03_LayAll.j5 k x1 x7 x8 x9 (decide (x9 < 8)) x203000 x203001 x203002 x203003) else (poacherlaw03_LayAll.j5 k x1 x7 x8 x9 false x203000 x203001 x203002 x203003)
def poacherlaw03_LayAll.j5 : Nat → Int → Bool → Int → Int → Bool → Int → Int → Int → Int → Option (Bool)
  | 0, _, _, _, _, _, _, _, _, _ => none
  | k + 1, x1, x7, x8, x9, x81, x203000, x203001, x203002, x203003 => if x81 = true then (if x7 = true then (poacherlaw03_LayAll.l1 k x1 true x8 (wrap64 (x9 + 1)) x203000 x203001 x203002 x203003) else ((lay_Top.f x203000 x203001 x203002 x203003 x9).bind fun t214 => (if t214 = x1 then (poacherlaw03_LayAll.l1 k x1 true x8 (wrap64 (x9 + 1)) x203000 x203001 x203002 x203003) else ((lay_Bottom.f x203000 x203001 x203002 x203003 x9).bind fun t215 => (if t215 = x1 then (poacherlaw03_LayAll.l1 k x1 true x8 (wrap64 (x9 + 1)) x203000 x203001 x203002 x203003) else ((lay_Park.f x203000 x203001 x203002 x203003 x9).bind fun t216 => (if t216 = x1 then (poacherlaw03_LayAll.l1 k x1 true x8 (wrap64 (x9 + 1)) x203000 x203001 x203002 x203003) else ((lay_Slot.f x203000 x203001 x203002 x203003 x9 x8).bind fun t217 => (poacherlaw03_LayAll.l1 k x1 (t217 == x1) x8 (wrap64 (x9 + 1)) x203000 x203001 x203002 x203003))))))))) else (poacherlaw03_LayAll.l0 k x1 x7 (IntKind.u64.wrap (x8 + 1)) x203000 x203001 x203002 x203003)
end
def poacherlaw03_LayAll.f (k : Nat) (a0_0 : Int) (a0_1 : Int) (a0_2 : Int) (a0_3 : Int) (a1 : Int) : Option (Bool) := (poacherlaw03_awake.f k).bind fun t203 => ((lay_Size.f a0_0 a0_1 a0_2 a0_3).bind fun t204 => (if t203 = true then ((lay_May.f a0_0 a0_1 a0_2 a0_3).bind fun t205 => (poacherlaw03_LayAll.j0 k a1 t203 t204 (!t205) a0_0 a0_1 a0_2 a0_3)) else (poacherlaw03_LayAll.j0 k a1 t203 t204 true a0_0 a0_1 a0_2 a0_3)))
theorem poacherlaw03_LayAll.mono_l : ∀ k, (∀ y0 y1 y2 y3 y4 y5 y6 y7, LeO (poacherlaw03_LayAll.j0 k y0 y1 y2 y3 y4 y5 y6 y7) (poacherlaw03_LayAll.j0 (k + 1) y0 y1 y2 y3 y4 y5 y6 y7)) ∧ (∀ y0 y1 y2 y3 y4 y5 y6, LeO (poacherlaw03_LayAll.j1 k y0 y1 y2 y3 y4 y5 y6) (poacherlaw03_LayAll.j1 (k + 1) y0 y1 y2 y3 y4 y5 y6)) ∧ (∀ y0 y1 y2 y3 y4 y5 y6, LeO (poacherlaw03_LayAll.l0 k y0 y1 y2 y3 y4 y5 y6) (poacherlaw03_LayAll.l0 (k + 1) y0 y1 y2 y3 y4 y5 y6)) ∧ (∀ y0 y1 y2 y3 y4 y5 y6, LeO (poacherlaw03_LayAll.j3 k y0 y1 y2 y3 y4 y5 y6) (poacherlaw03_LayAll.j3 (k + 1) y0 y1 y2 y3 y4 y5 y6)) ∧ (∀ y0 y1 y2 y3 y4 y5 y6 y7, LeO (poacherlaw03_LayAll.l1 k y0 y1 y2 y3 y4 y5 y6 y7) (poacherlaw03_LayAll.l1 (k + 1) y0 y1 y2 y3 y4 y5 y6 y7)) ∧ (∀ y0 y1 y2 y3 y4 y5 y6 y7 y8, LeO (poacherlaw03_LayAll.j5 k y0 y1 y2 y3 y4 y5 y6 y7 y8) (poacherlaw03_LayAll.j5 (k + 1) y0 y1 y2 y3 y4 y5 y6 y7 y8))
  | 0 => ⟨fun _ _ _ _ _ _ _ _ r h => by simp [poacherlaw03_LayAll.j0] at h, fun _ _ _ _ _ _ _ r h => by simp [poacherlaw03_LayAll.j1] at h, fun _ _ _ _ _ _ _ r h => by simp [poacherlaw03_LayAll.l0] at h, fun _ _ _ _ _ _ _ r h => by simp [poacherlaw03_LayAll.j3] at h, fun _ _ _ _ _ _ _ _ r h => by simp [poacherlaw03_LayAll.l1] at h, fun _ _ _ _ _ _ _ _ _ r h => by simp [poacherlaw03_LayAll.j5] at h⟩
  | k + 1 => by
    obtain ⟨ih0, ih1, ih2, ih3, ih4, ih5⟩ := poacherlaw03_LayAll.mono_l k
    refine ⟨?_, ?_, ?_, ?_, ?_, ?_⟩
    · intro y0 y1 y2 y3 y4 y5 y6 y7
      unfold poacherlaw03_LayAll.j0
      repeat' first
      | (with_reducible exact ih0 _ _ _ _ _ _ _ _)
      | (with_reducible exact ih1 _ _ _ _ _ _ _)
      | (with_reducible exact ih2 _ _ _ _ _ _ _)
      | (with_reducible exact ih3 _ _ _ _ _ _ _)
      | (with_reducible exact ih4 _ _ _ _ _ _ _ _)
      | (with_reducible exact ih5 _ _ _ _ _ _ _ _ _)
      | (with_reducible exact lay_New.mono _ _ _ _ _)
      | (with_reducible exact poacherlaw03_awake.mono _)
      | (with_reducible exact LeO.refl _)
      | (with_reducible exact LeO.none _)
      | (with_reducible refine LeO.ite ?_ ?_)
      | (with_reducible refine LeO.bind ?_ (fun _ => ?_))
      | exact ih0 _ _ _ _ _ _ _ _
      | exact ih1 _ _ _ _ _ _ _
      | exact ih2 _ _ _ _ _ _ _
      | exact ih3 _ _ _ _ _ _ _
      | exact ih4 _ _ _ _ _ _ _ _
      | exact ih5 _ _ _ _ _ _ _ _ _
      | exact lay_New.mono _ _ _ _ _
      | exact poacherlaw03_awake.mono _
      | exact LeO.none _
      | refine LeO.ite ?_ ?_
      | refine LeO.bind ?_ (fun _ => ?_)
    · intro y0 y1 y2 y3 y4 y5 y6
      unfold poacherlaw03_LayAll.j1
      repeat' first
      | (with_reducible exact ih0 _ _ _ _ _ _ _ _)
      | (with_reducible exact ih1 _ _ _ _ _ _ _)
      | (with_reducible exact ih2 _ _ _ _ _ _ _)
      | (with_reducible exact ih3 _ _ _ _ _ _ _)
      | (with_reducible exact ih4 _ _ _ _ _ _ _ _)
      | (with_reducible exact ih5 _ _ _ _ _ _ _ _ _)
      | (with_reducible exact lay_New.mono _ _ _ _ _)
      | (with_reducible exact poacherlaw03_awake.mono _)
      | (with_reducible exact LeO.refl _)
      | (with_reducible exact LeO.none _)
      | (with_reducible refine LeO.ite ?_ ?_)
      | (with_reducible refine LeO.bind ?_ (fun _ => ?_))
      | exact ih0 _ _ _ _ _ _ _ _
      | exact ih1 _ _ _ _ _ _ _
      | exact ih2 _ _ _ _ _ _ _
      | exact ih3 _ _ _ _ _ _ _
      | exact ih4 _ _ _ _ _ _ _ _
      | exact ih5 _ _ _ _ _ _ _ _ _
      | exact lay_New.mono _ _ _ _ _
      | exact poacherlaw03_awake.mono _
      | exact LeO.none _
      | refine LeO.ite ?_ ?_
      | refine LeO.bind ?_ (fun _ => ?_)
    · intro y0 y1 y2 y3 y4 y5 y6
      unfold poacherlaw03_LayAll.l0
      repeat' first
      | (with_reducible exact ih0 _ _ _ _ _ _ _ _)
      | (with_reducible exact ih1 _ _ _ _ _ _ _)
      | (with_reducible exact ih2 _ _ _ _ _ _ _)
      | (with_reducible exact ih3 _ _ _ _ _ _ _)
      | (with_reducible exact ih4 _ _ _ _ _ _ _ _)
      | (with_reducible exact ih5 _ _ _ _ _ _ _ _ _)
      | (with_reducible exact lay_New.mono _ _ _ _ _)
      | (with_reducible exact poacherlaw03_awake.mono _)
      | (with_reducible exact LeO.refl _)
      | (with_reducible exact LeO.none _)
      | (with_reducible refine LeO.ite ?_ ?_)
      | (with_reducible refine LeO.bind ?_ (fun _ => ?_))
      | exact ih0 _ _ _ _ _ _ _ _
      | exact ih1 _ _ _ _ _ _ _
      | exact ih2 _ _ _ _ _ _ _
      | exact ih3 _ _ _ _ _ _ _
      | exact ih4 _ _ _ _ _ _ _ _
      | exact ih5 _ _ _ _ _ _ _ _ _
      | exact lay_New.mono _ _ _ _ _
      | exact poacherlaw03_awake.mono _
      | exact LeO.none _
      | refine LeO.ite ?_ ?_
      | refine LeO.bind ?_ (fun _ => ?_)
    · intro y0 y1 y2 y3 y4 y5 y6
      unfold poacherlaw03_LayAll.j3
      repeat' first
      | (with_reducible exact ih0 _ _ _ _ _ _ _ _)
      | (with_reducible exact ih1 _ _ _ _ _ _ _)
      | (with_reducible exact ih2 _ _ _ _ _ _ _)
      | (with_reducible exact ih3 _ _ _ _ _ _ _)
      | (with_reducible exact ih4 _ _ _ _ _ _ _ _)
      | (with_reducible exact ih5 _ _ _ _ _ _ _ _ _)
      | (with_reducible exact lay_New.mono _ _ _ _ _)
      | (with_reducible exact poacherlaw03_awake.mono _)
      | (with_reducible exact LeO.refl _)
      | (with_reducible exact LeO.none _)
      | (with_reducible refine LeO.ite ?_ ?_)
      | (with_reducible refine LeO.bind ?_ (fun _ => ?_))
      | exact ih0 _ _ _ _ _ _ _ _
      | exact ih1 _ _ _ _ _ _ _
      | exact ih2 _ _ _ _ _ _ _
      | exact ih3 _ _ _ _ _ _ _
      | exact ih4 _ _ _ _ _ _ _ _
      | exact ih5 _ _ _ _ _ _ _ _ _
      | exact lay_New.mono _ _ _ _ _
      | exact poacherlaw03_awake.mono _
      | exact LeO.none _
      | refine LeO.ite ?_ ?_
      | refine LeO.bind ?_ (fun _ => ?_)
    · intro y0 y1 y2 y3 y4 y5 y6 y7
      unfold poacherlaw03_LayAll.l1
      repeat' first
      | (with_reducible exact ih0 _ _ _ _ _ _ _ _)
      | (with_reducible exact ih1 _ _ _ _ _ _ _)
      | (with_reducible exact ih2 _ _ _ _ _ _ _)
      | (with_reducible exact ih3 _ _ _ _ _ _ _)
      | (with_reducible exact ih4 _ _ _ _ _ _ _ _)
      | (with_reducible exact ih5 _ _ _ _ _ _ _ _ _)
      | (with_reducible exact lay_New.mono _ _ _ _ _)
      | (with_reducible exact poacherlaw03_awake.mono _)
      | (with_reducible exact LeO.refl _)
      | (with_reducible exact LeO.none _)
      | (with_reducible refine LeO.ite ?_ ?_)
      | (with_reducible refine LeO.bind ?_ (fun _ => ?_))
      | exact ih0 _ _ _ _ _ _ _ _
      | exact ih1 _ _ _ _ _ _ _
      | exact ih2 _ _ _ _ _ _ _
      | exact ih3 _ _ _ _ _ _ _
      | exact ih4 _ _ _ _ _ _ _ _
      | exact ih5 _ _ _ _ _ _ _ _ _
      | exact lay_New.mono _ _ _ _ _
      | exact poacherlaw03_awake.mono _
      | exact LeO.none _
      | refine LeO.ite ?_ ?_
      | refine LeO.bind ?_ (fun _ => ?_)
    · intro y0 y1 y2 y3 y4 y5 y6 y7 y8
      unfold poacherlaw03_LayAll.j5
      repeat' first
      | (with_reducible exact ih0 _ _ _ _ _ _ _ _)
      | (with_reducible exact ih1 _ _ _ _ _ _ _)
      | (with_reducible exact ih2 _ _ _ _ _ _ _)
      | (with_reducible exact ih3 _ _ _ _ _ _ _)
      | (with_reducible exact ih4 _ _ _ _ _ _ _ _)
      | (with_reducible exact ih5 _ _ _ _ _ _ _ _ _)
      | (with_reducible exact lay_New.mono _ _ _ _ _)
      | (with_reducible exact poacherlaw03_awake.mono _)
      | (with_reducible exact LeO.refl _)
      | (with_reducible exact LeO.none _)
      | (with_reducible refine LeO.ite ?_ ?_)
      | (with_reducible refine LeO.bind ?_ (fun _ => ?_))
      | exact ih0 _ _ _ _ _ _ _ _
      | exact ih1 _ _ _ _ _ _ _
      | exact ih2 _ _ _ _ _ _ _
      | exact ih3 _ _ _ _ _ _ _
      | exact ih4 _ _ _ _ _ _ _ _
      | exact ih5 _ _ _ _ _ _ _ _ _
      | exact lay_New.mono _ _ _ _ _
      | exact poacherlaw03_awake.mono _
      | exact LeO.none _
      | refine LeO.ite ?_ ?_
      | refine LeO.bind ?_ (fun _ => ?_)
theorem poacherlaw03_LayAll.mono : ∀ a0 a1 a2 a3 a4 k, LeO (poacherlaw03_LayAll.f k a0 a1 a2 a3 a4) (poacherlaw03_LayAll.f (k + 1) a0 a1 a2 a3 a4) := by
  intro a0 a1 a2 a3 a4 k
  obtain ⟨ih0, ih1, ih2, ih3, ih4, ih5⟩ := poacherlaw03_LayAll.mono_l k
  unfold poacherlaw03_LayAll.f
  repeat' first
      | (with_reducible exact ih0 _ _ _ _ _ _ _ _)
      | (with_reducible exact ih1 _ _ _ _ _ _ _)
      | (with_reducible exact ih2 _ _ _ _ _ _ _)
      | (with_reducible exact ih3 _ _ _ _ _ _ _)
      | (with_reducible exact ih4 _ _ _ _ _ _ _ _)
      | (with_reducible exact ih5 _ _ _ _ _ _ _ _ _)
      | (with_reducible exact lay_New.mono _ _ _ _ _)
      | (with_reducible exact poacherlaw03_awake.mono _)
      | (with_reducible exact LeO.refl _)
      | (with_reducible exact LeO.none _)
      | (with_reducible refine LeO.ite ?_ ?_)
      | (with_reducible refine LeO.bind ?_ (fun _ => ?_))
      | exact ih0 _ _ _ _ _ _ _ _
      | exact ih1 _ _ _ _ _ _ _
      | exact ih2 _ _ _ _ _ _ _
      | exact ih3 _ _ _ _ _ _ _
      | exact ih4 _ _ _ _ _ _ _ _
      | exact ih5 _ _ _ _ _ _ _ _ _
      | exact lay_New.mono _ _ _ _ _
      | exact poacherlaw03_awake.mono _
      | exact LeO.none _
      | refine LeO.ite ?_ ?_
      | refine LeO.bind ?_ (fun _ => ?_)
set_option maxHeartbeats 8000000 in
set_option maxRecDepth 100000 in
theorem poacherlaw03_LayAll.calls (k : Nat) (a0_0 : Int) (a0_1 : Int) (a0_2 : Int) (a0_3 : Int) (a1 : Int) (r : Bool) (w : World) (hr_ : Aside0 (r = true)) (h : poacherlaw03_LayAll.f k a0_0 a0_1 a0_2 a0_3 a1 = some r) :
    Calls Try.prog 5 #[.agg #[.int .i64 a0_0, .int .i64 a0_1, .int .i64 a0_2, .int .i64 a0_3], .int .i64 a1] w fun e w' => e = .returned (.bool r) ∧ Below w.heap.size w w' := by
  have hu23 := Try.underlying23
  have HB := Aside0.mk (Below.refl w.heap.size w)
  have H : ((poacherlaw03_awake.f k).bind fun t203 => ((lay_Size.f a0_0 a0_1 a0_2 a0_3).bind fun t204 => (if t203 = true then ((lay_May.f a0_0 a0_1 a0_2 a0_3).bind fun t205 => (poacherlaw03_LayAll.j0 k a1 t203 t204 (!t205) a0_0 a0_1 a0_2 a0_3)) else (poacherlaw03_LayAll.j0 k a1 t203 t204 true a0_0 a0_1 a0_2 a0_3)))) = some r := h
  clear h
  replace H := Option.bind_eq_some_iff.mp H
  obtain ⟨t203, A30, H⟩ := H
  replace H : ((lay_Size.f a0_0 a0_1 a0_2 a0_3).bind fun t204 => (if t203 = true then ((lay_May.f a0_0 a0_1 a0_2 a0_3).bind fun t205 => (poacherlaw03_LayAll.j0 k a1 t203 t204 (!t205) a0_0 a0_1 a0_2 a0_3)) else (poacherlaw03_LayAll.j0 k a1 t203 t204 true a0_0 a0_1 a0_2 a0_3))) = some r := H
  have A3 := Aside0.mk A30
  clear A30
  replace H := Option.bind_eq_some_iff.mp H
  obtain ⟨t204, A40, H⟩ := H
  replace H : (if t203 = true then ((lay_May.f a0_0 a0_1 a0_2 a0_3).bind fun t205 => (poacherlaw03_LayAll.j0 k a1 t203 t204 (!t205) a0_0 a0_1 a0_2 a0_3)) else (poacherlaw03_LayAll.j0 k a1 t203 t204 true a0_0 a0_1 a0_2 a0_3)) = some r := H
  have A4 := Aside0.mk A40
  clear A40
  have HC5 := Aside0.mk H
  clear H
  go_enter Try.func5, Try.ntmps5
  go_upto_region 3 with (first | ((with_reducible refine gate_dst (N := 2) rfl ?_); (try (refine gate_guard (by rfl) ?_; dsimp only)); refine box_event ?hg (N := 2) ?hd (cs := #[.int .i64 a0_0, .int .i64 a0_1, .int .i64 a0_2, .int .i64 a0_3]) (t := 23) ?hr ?_; (case hd => rfl); (case hg => rfl); (case hr => first | (go_simp; done) | (go_simp; rfl)); intro gb202 hg w6 hbox hb; have n0_ := Aside0.mk (below_step (by repeat (first | (with_reducible first | exact HB.out | apply below_alloc | apply pw_below_drewN | apply below_drew1) | exact HB.out)) hb); have n1_ := Aside0.mk (hbox); have n2_ := Aside0.mk ((by rw [hg]; exact (below_size (by repeat (first | (with_reducible first | exact HB.out | apply below_alloc | apply pw_below_drewN | apply below_drew1) | exact HB.out))) : w.heap.size ≤ gb202)); have n3_ := Aside0.mk ((by rw [hg]; exact (below_size (by repeat (first | (with_reducible first | exact HB.out | apply below_alloc | apply pw_below_drewN | apply below_drew1) | exact HB.out))) : w.heap.size ≤ gb202)); clear HB; have HB := n0_; have BK202 := n1_; have GW202 := n2_; have GE202 := n3_; clear n0_ n1_ n2_ n3_; clear hb hbox hg) | ((with_reducible refine gate_callee (f := 9) rfl ?_); refine goesL_ (some 10) rfl rfl Try.func9 (by kernel_rfl) rfl #[] rfl (by (try simp only [List.map_toArray, List.map_cons, List.map_nil]); first | done | rfl | (simp only [List.length_drop, List.length_take]; rfl)) ?_; (with_reducible refine (poacherlaw03_awake.calls k  t203 _ A3.out).mono ?_); (try clear A3); rintro e w7 ⟨rfl, hb⟩; refine ⟨_, rfl, ?_⟩; have n0_ := Aside0.mk (blk_below (g := gb202) (o := .cells #[.int .i64 a0_0, .int .i64 a0_1, .int .i64 a0_2, .int .i64 a0_3] 23 (0, 0)) (by (with_reducible repeat (first | refine blk_drewN ?_ _ | refine blk_drew ?_ | refine blk_alloc ?_ _)); exact BK202.out) hb); have n1_ := Aside0.mk (below_step (by repeat (first | (with_reducible first | exact HB.out | apply below_alloc | apply pw_below_drewN | apply below_drew1 | refine below_set ?_ GE202.out) | exact HB.out)) hb); clear BK202; clear HB; have BK202 := n0_; have HB := n1_; clear n0_ n1_; (try clear hb); (try clear hb2); (try clear hk); (try clear hi); have hcz8_0 : w7.cell? ⟨gb202, 0, none⟩ = some (.int .i64 a0_0) := (blk_cell BK202.out 0).trans rfl; have hcz8_1 : w7.cell? ⟨gb202, 1, none⟩ = some (.int .i64 a0_1) := (blk_cell BK202.out 1).trans rfl; have hcz8_2 : w7.cell? ⟨gb202, 2, none⟩ = some (.int .i64 a0_2) := (blk_cell BK202.out 2).trans rfl; have hcz8_3 : w7.cell? ⟨gb202, 3, none⟩ = some (.int .i64 a0_3) := (blk_cell BK202.out 3).trans rfl; have hfz8_0 := blk_frozen BK202.out 0; have hfz8_1 := blk_frozen BK202.out 1; have hfz8_2 := blk_frozen BK202.out 2; have hfz8_3 := blk_frozen BK202.out 3) | ((with_reducible refine gate_callee (f := 15) rfl ?_); refine goesL_ (some 12) rfl rfl Try.func15 (by kernel_rfl) rfl #[.agg #[.int .i64 a0_0, .int .i64 a0_1, .int .i64 a0_2, .int .i64 a0_3]] rfl (by (try simp only [List.map_toArray, List.map_cons, List.map_nil]); first | done | rfl | (simp only [List.length_drop, List.length_take]; rfl)) ?_; (with_reducible refine (lay_Size.calls a0_0 a0_1 a0_2 a0_3 t204 _ A4.out).mono ?_); (try clear A4); rintro e w9 ⟨rfl, hb⟩; refine ⟨_, rfl, ?_⟩; have n0_ := Aside0.mk (blk_below (g := gb202) (o := .cells #[.int .i64 a0_0, .int .i64 a0_1, .int .i64 a0_2, .int .i64 a0_3] 23 (0, 0)) (by (with_reducible repeat (first | refine blk_drewN ?_ _ | refine blk_drew ?_ | refine blk_alloc ?_ _)); exact BK202.out) hb); have n1_ := Aside0.mk (below_step (by repeat (first | (with_reducible first | exact HB.out | apply below_alloc | apply pw_below_drewN | apply below_drew1 | refine below_set ?_ GE202.out) | exact HB.out)) hb); clear BK202; clear HB; have BK202 := n0_; have HB := n1_; clear n0_ n1_; (try clear hb); (try clear hb2); (try clear hk); (try clear hi)))
  (try simp only [Act.put, List.setIfInBounds_toArray, List.set_cons_zero, List.set_cons_succ])
  go_cut [19] (fun v19 wc => ∃ (kq : Nat) (x19_4 : Bool), v19 = .bool x19_4 ∧ Aside0 (poacherlaw03_LayAll.j0 kq a1 t203 t204 x19_4 a0_0 a0_1 a0_2 a0_3 = some r) ∧ Aside0 (kq ≤ k) ∧ Aside0 (wc.heap[gb202]? = some (.cells #[.int .i64 a0_0, .int .i64 a0_1, .int .i64 a0_2, .int .i64 a0_3] 23 (0, 0))) ∧ Aside0 (Below w.heap.size w wc))
  case first =>
    have H := HC5.out
    clear HC5
    by_cases c10 : t203 = true
    · subst c10
      have H1 : ((lay_May.f a0_0 a0_1 a0_2 a0_3).bind fun t205 => (poacherlaw03_LayAll.j0 k a1 true t204 (!t205) a0_0 a0_1 a0_2 a0_3)) = some r := by rw [if_pos rfl] at H; exact H
      clear H
      have H := H1
      clear H1
      replace H := Option.bind_eq_some_iff.mp H
      obtain ⟨t205, A110, H⟩ := H
      replace H : (poacherlaw03_LayAll.j0 k a1 true t204 (!t205) a0_0 a0_1 a0_2 a0_3) = some r := H
      have A11 := Aside0.mk A110
      clear A110
      have H' := Aside0.mk H
      clear H
      have hcz12_0 : w9.cell? ⟨gb202, 0, none⟩ = some (.int .i64 a0_0) := (blk_cell BK202.out 0).trans rfl
      have hcz12_1 : w9.cell? ⟨gb202, 1, none⟩ = some (.int .i64 a0_1) := (blk_cell BK202.out 1).trans rfl
      have hcz12_2 : w9.cell? ⟨gb202, 2, none⟩ = some (.int .i64 a0_2) := (blk_cell BK202.out 2).trans rfl
      have hcz12_3 : w9.cell? ⟨gb202, 3, none⟩ = some (.int .i64 a0_3) := (blk_cell BK202.out 3).trans rfl
      have hfz12_0 := blk_frozen BK202.out 0
      have hfz12_1 := blk_frozen BK202.out 1
      have hfz12_2 := blk_frozen BK202.out 2
      have hfz12_3 := blk_frozen BK202.out 3
      go_wp2_with (first | (go_at_call 14; (with_reducible refine (lay_May.calls a0_0 a0_1 a0_2 a0_3 t205 _ A11.out).mono ?_); (try clear A11); rintro e w13 ⟨rfl, hb⟩; have n0_ := Aside0.mk (blk_below (g := gb202) (o := .cells #[.int .i64 a0_0, .int .i64 a0_1, .int .i64 a0_2, .int .i64 a0_3] 23 (0, 0)) (by (with_reducible repeat (first | refine blk_drewN ?_ _ | refine blk_drew ?_ | refine blk_alloc ?_ _)); exact BK202.out) hb); have n1_ := Aside0.mk (below_step (by repeat (first | (with_reducible first | exact HB.out | apply below_alloc | apply pw_below_drewN | apply below_drew1 | refine below_set ?_ GE202.out) | exact HB.out)) hb); clear BK202; clear HB; have BK202 := n0_; have HB := n1_; clear n0_ n1_; (try clear hb); (try clear hb2); (try clear hk); (try clear hi)))
      go_meet
      case rel => exact ⟨_, (!t205), (by first | rfl | (simp; done) | (simp [*]; done)), H', ⟨by first | omega | exact Nat.le_refl _⟩, ⟨by (with_reducible repeat (first | refine blk_drewN ?_ _ | refine blk_drew ?_ | refine blk_alloc ?_ _)); exact BK202.out⟩, ⟨by repeat (first | (with_reducible first | exact HB.out | apply below_alloc | apply pw_below_drewN | apply below_drew1 | refine below_set ?_ GE202.out) | exact HB.out)⟩⟩
    · replace c10 := Bool.eq_false_iff.mpr c10
      subst c10
      have H1 : (poacherlaw03_LayAll.j0 k a1 false t204 true a0_0 a0_1 a0_2 a0_3) = some r := by rw [if_neg (show ¬ (false = true) by decide)] at H; exact H
      clear H
      have H := H1
      clear H1
      have H' := Aside0.mk H
      clear H
      go_wp2
      go_meet
      case rel => exact ⟨_, (true), (by first | rfl | (simp; done) | (simp [*]; done)), H', ⟨by first | omega | exact Nat.le_refl _⟩, ⟨by (with_reducible repeat (first | refine blk_drewN ?_ _ | refine blk_drew ?_ | refine blk_alloc ?_ _)); exact BK202.out⟩, ⟨by repeat (first | (with_reducible first | exact HB.out | apply below_alloc | apply pw_below_drewN | apply below_drew1 | refine below_set ?_ GE202.out) | exact HB.out)⟩⟩
  case rest =>
    clear HC5
    try clear c1
    try clear p2
    try clear c5
    try clear c9
    try clear c10
    try clear hcz12_0
    try clear hcz12_1
    try clear hcz12_2
    try clear hcz12_3
    try clear hcz8_0
    try clear hcz8_1
    try clear hcz8_2
    try clear hcz8_3
    try clear hfz12_0
    try clear hfz12_1
    try clear hfz12_2
    try clear hfz12_3
    try clear hfz8_0
    try clear hfz8_1
    try clear hfz8_2
    try clear hfz8_3
    obtain ⟨kq, x19_4, rfl, HA, HJ4, BK202, HB⟩ := hcut
    cases kq with
    | zero => exact absurd HA.out (by simp [poacherlaw03_LayAll.j0])
    | succ kj4 =>
      have H := HA.out
      clear HA
      simp only [poacherlaw03_LayAll.j0] at H
      by_cases c14 : x19_4 = true
      · subst c14
        have H1 : (if t203 = true then (if t204 = 0 then ((lay_New.f kj4 a0_0 a0_1 a0_2 a0_3).bind fun t206 => (if (t206.length : Int) = 0 then ((lay_Seq.f a0_0 a0_1 a0_2 a0_3 0).bind fun t209 => (if t209 = (-1) then ((lay_Top.f a0_0 a0_1 a0_2 a0_3 0).bind fun t210 => (if t210 = (-1) then ((lay_Slot.f a0_0 a0_1 a0_2 a0_3 0 0).bind fun t211 => (some (t211 == (-1)))) else (some false))) else (some false))) else (some false))) else (some false)) else (some false)) = some r := by rw [if_pos rfl] at H; exact H
        clear H
        have H := H1
        clear H1
        by_cases c15 : t203 = true
        · subst c15
          have H1 : (if t204 = 0 then ((lay_New.f kj4 a0_0 a0_1 a0_2 a0_3).bind fun t206 => (if (t206.length : Int) = 0 then ((lay_Seq.f a0_0 a0_1 a0_2 a0_3 0).bind fun t209 => (if t209 = (-1) then ((lay_Top.f a0_0 a0_1 a0_2 a0_3 0).bind fun t210 => (if t210 = (-1) then ((lay_Slot.f a0_0 a0_1 a0_2 a0_3 0 0).bind fun t211 => (some (t211 == (-1)))) else (some false))) else (some false))) else (some false))) else (some false)) = some r := by rw [if_pos rfl] at H; exact H
          clear H
          have H := H1
          clear H1
          by_cases c16 : t204 = 0
          · rw [if_pos c16] at H
            have c16b0 : (t204 == 0) = true := beq_iff_eq.mpr c16
            have c16b1 : (t204 != 0) = false := bne_eq_false_iff_eq.mpr c16
            clear c16
            replace H := Option.bind_eq_some_iff.mp H
            obtain ⟨t206, A170, H⟩ := H
            replace H : (if (t206.length : Int) = 0 then ((lay_Seq.f a0_0 a0_1 a0_2 a0_3 0).bind fun t209 => (if t209 = (-1) then ((lay_Top.f a0_0 a0_1 a0_2 a0_3 0).bind fun t210 => (if t210 = (-1) then ((lay_Slot.f a0_0 a0_1 a0_2 a0_3 0 0).bind fun t211 => (some (t211 == (-1)))) else (some false))) else (some false))) else (some false)) = some r := H
            have A17 := Aside0.mk A170
            clear A170
            by_cases c18 : (t206.length : Int) = 0
            · rw [if_pos c18] at H
              have c18b0 : ((t206.length : Int) == 0) = true := beq_iff_eq.mpr c18
              have c18b1 : ((t206.length : Int) != 0) = false := bne_eq_false_iff_eq.mpr c18
              clear c18
              replace H := Option.bind_eq_some_iff.mp H
              obtain ⟨t209, A190, H⟩ := H
              replace H : (if t209 = (-1) then ((lay_Top.f a0_0 a0_1 a0_2 a0_3 0).bind fun t210 => (if t210 = (-1) then ((lay_Slot.f a0_0 a0_1 a0_2 a0_3 0 0).bind fun t211 => (some (t211 == (-1)))) else (some false))) else (some false)) = some r := H
              have A19 := Aside0.mk A190
              clear A190
              by_cases c20 : t209 = (-1)
              · rw [if_pos c20] at H
                have c20b0 : (t209 == (-1)) = true := beq_iff_eq.mpr c20
                have c20b1 : (t209 != (-1)) = false := bne_eq_false_iff_eq.mpr c20
                clear c20
                replace H := Option.bind_eq_some_iff.mp H
                obtain ⟨t210, A210, H⟩ := H
                replace H : (if t210 = (-1) then ((lay_Slot.f a0_0 a0_1 a0_2 a0_3 0 0).bind fun t211 => (some (t211 == (-1)))) else (some false)) = some r := H
                have A21 := Aside0.mk A210
                clear A210
                by_cases c22 : t210 = (-1)
                · rw [if_pos c22] at H
                  have c22b0 : (t210 == (-1)) = true := beq_iff_eq.mpr c22
                  have c22b1 : (t210 != (-1)) = false := bne_eq_false_iff_eq.mpr c22
                  clear c22
                  replace H := Option.bind_eq_some_iff.mp H
                  obtain ⟨t211, A230, H⟩ := H
                  replace H : (some (t211 == (-1))) = some r := H
                  have A23 := Aside0.mk A230
                  clear A230
                  obtain rfl := Option.some.inj H
                  clear hr_
                  have hcz24_0 : wc.cell? ⟨gb202, 0, none⟩ = some (.int .i64 a0_0) := (blk_cell BK202.out 0).trans rfl
                  have hcz24_1 : wc.cell? ⟨gb202, 1, none⟩ = some (.int .i64 a0_1) := (blk_cell BK202.out 1).trans rfl
                  have hcz24_2 : wc.cell? ⟨gb202, 2, none⟩ = some (.int .i64 a0_2) := (blk_cell BK202.out 2).trans rfl
                  have hcz24_3 : wc.cell? ⟨gb202, 3, none⟩ = some (.int .i64 a0_3) := (blk_cell BK202.out 3).trans rfl
                  have hfz24_0 := blk_frozen BK202.out 0
                  have hfz24_1 := blk_frozen BK202.out 1
                  have hfz24_2 := blk_frozen BK202.out 2
                  have hfz24_3 := blk_frozen BK202.out 3
                  go_wp2_with (first | (go_at_call 12; (with_reducible refine (lay_New.calls kj4 a0_0 a0_1 a0_2 a0_3 t206 _ A17.out).mono ?_); (try clear A17); rintro e w25 ⟨v207, rfl, ho0, hb⟩; have n0_ := Aside0.mk (Kd.R_lower ho0 (below_size (by repeat (first | (with_reducible first | exact HB.out | apply below_alloc | apply pw_below_drewN | apply below_drew1 | refine below_set ?_ GE202.out) | exact HB.out)))); have n1_ := Aside0.mk (blk_below (g := gb202) (o := .cells #[.int .i64 a0_0, .int .i64 a0_1, .int .i64 a0_2, .int .i64 a0_3] 23 (0, 0)) (by (with_reducible repeat (first | refine blk_drewN ?_ _ | refine blk_drew ?_ | refine blk_alloc ?_ _)); exact BK202.out) hb); have n2_ := Aside0.mk (below_step (by repeat (first | (with_reducible first | exact HB.out | apply below_alloc | apply pw_below_drewN | apply below_drew1 | refine below_set ?_ GE202.out) | exact HB.out)) hb); clear BK202; clear HB; have HO208 := n0_; have BK202 := n1_; have HB := n2_; clear n0_ n1_ n2_; (try clear hb); (try clear hb2); (try clear hk); (try clear hi); (try clear ho0); obtain ⟨Ao26, co26, eo26⟩ := Kd.R_slice HO208.out; subst eo26; have hcz27_0 : w25.cell? ⟨gb202, 0, none⟩ = some (.int .i64 a0_0) := (blk_cell BK202.out 0).trans rfl; have hcz27_1 : w25.cell? ⟨gb202, 1, none⟩ = some (.int .i64 a0_1) := (blk_cell BK202.out 1).trans rfl; have hcz27_2 : w25.cell? ⟨gb202, 2, none⟩ = some (.int .i64 a0_2) := (blk_cell BK202.out 2).trans rfl; have hcz27_3 : w25.cell? ⟨gb202, 3, none⟩ = some (.int .i64 a0_3) := (blk_cell BK202.out 3).trans rfl; have hfz27_0 := blk_frozen BK202.out 0; have hfz27_1 := blk_frozen BK202.out 1; have hfz27_2 := blk_frozen BK202.out 2; have hfz27_3 := blk_frozen BK202.out 3) | (go_at_call 17; (with_reducible refine (lay_Seq.calls a0_0 a0_1 a0_2 a0_3 0 t209 _ A19.out).mono ?_); (try clear A19); rintro e w28 ⟨rfl, hb⟩; have n0_ := Aside0.mk (Kd.R_below (by (with_reducible repeat (first | apply Kd.R_alloc | apply Kd.R_drewN | apply Kd.R_drew)); exact HO208.out) hb); have n1_ := Aside0.mk (blk_below (g := gb202) (o := .cells #[.int .i64 a0_0, .int .i64 a0_1, .int .i64 a0_2, .int .i64 a0_3] 23 (0, 0)) (by (with_reducible repeat (first | refine blk_drewN ?_ _ | refine blk_drew ?_ | refine blk_alloc ?_ _)); exact BK202.out) hb); have n2_ := Aside0.mk (below_step (by repeat (first | (with_reducible first | exact HB.out | apply below_alloc | apply pw_below_drewN | apply below_drew1 | refine below_set ?_ GE202.out) | exact HB.out)) hb); clear HO208; clear BK202; clear HB; have HO208 := n0_; have BK202 := n1_; have HB := n2_; clear n0_ n1_ n2_; (try clear hb); (try clear hb2); (try clear hk); (try clear hi); have hcz29_0 : w28.cell? ⟨gb202, 0, none⟩ = some (.int .i64 a0_0) := (blk_cell BK202.out 0).trans rfl; have hcz29_1 : w28.cell? ⟨gb202, 1, none⟩ = some (.int .i64 a0_1) := (blk_cell BK202.out 1).trans rfl; have hcz29_2 : w28.cell? ⟨gb202, 2, none⟩ = some (.int .i64 a0_2) := (blk_cell BK202.out 2).trans rfl; have hcz29_3 : w28.cell? ⟨gb202, 3, none⟩ = some (.int .i64 a0_3) := (blk_cell BK202.out 3).trans rfl; have hfz29_0 := blk_frozen BK202.out 0; have hfz29_1 := blk_frozen BK202.out 1; have hfz29_2 := blk_frozen BK202.out 2; have hfz29_3 := blk_frozen BK202.out 3) | (go_at_call 21; (with_reducible refine (lay_Top.calls a0_0 a0_1 a0_2 a0_3 0 t210 _ A21.out).mono ?_); (try clear A21); rintro e w30 ⟨rfl, hb⟩; have n0_ := Aside0.mk (Kd.R_below (by (with_reducible repeat (first | apply Kd.R_alloc | apply Kd.R_drewN | apply Kd.R_drew)); exact HO208.out) hb); have n1_ := Aside0.mk (blk_below (g := gb202) (o := .cells #[.int .i64 a0_0, .int .i64 a0_1, .int .i64 a0_2, .int .i64 a0_3] 23 (0, 0)) (by (with_reducible repeat (first | refine blk_drewN ?_ _ | refine blk_drew ?_ | refine blk_alloc ?_ _)); exact BK202.out) hb); have n2_ := Aside0.mk (below_step (by repeat (first | (with_reducible first | exact HB.out | apply below_alloc | apply pw_below_drewN | apply below_drew1 | refine below_set ?_ GE202.out) | exact HB.out)) hb); clear HO208; clear BK202; clear HB; have HO208 := n0_; have BK202 := n1_; have HB := n2_; clear n0_ n1_ n2_; (try clear hb); (try clear hb2); (try clear hk); (try clear hi); have hcz31_0 : w30.cell? ⟨gb202, 0, none⟩ = some (.int .i64 a0_0) := (blk_cell BK202.out 0).trans rfl; have hcz31_1 : w30.cell? ⟨gb202, 1, none⟩ = some (.int .i64 a0_1) := (blk_cell BK202.out 1).trans rfl; have hcz31_2 : w30.cell? ⟨gb202, 2, none⟩ = some (.int .i64 a0_2) := (blk_cell BK202.out 2).trans rfl; have hcz31_3 : w30.cell? ⟨gb202, 3, none⟩ = some (.int .i64 a0_3) := (blk_cell BK202.out 3).trans rfl; have hfz31_0 := blk_frozen BK202.out 0; have hfz31_1 := blk_frozen BK202.out 1; have hfz31_2 := blk_frozen BK202.out 2; have hfz31_3 := blk_frozen BK202.out 3) | (go_at_call 27; (with_reducible refine (lay_Slot.calls a0_0 a0_1 a0_2 a0_3 0 0 t211 _ A23.out).mono ?_); (try clear A23); rintro e w32 ⟨rfl, hb⟩; have n0_ := Aside0.mk (Kd.R_below (by (with_reducible repeat (first | apply Kd.R_alloc | apply Kd.R_drewN | apply Kd.R_drew)); exact HO208.out) hb); have n1_ := Aside0.mk (blk_below (g := gb202) (o := .cells #[.int .i64 a0_0, .int .i64 a0_1, .int .i64 a0_2, .int .i64 a0_3] 23 (0, 0)) (by (with_reducible repeat (first | refine blk_drewN ?_ _ | refine blk_drew ?_ | refine blk_alloc ?_ _)); exact BK202.out) hb); have n2_ := Aside0.mk (below_step (by repeat (first | (with_reducible first | exact HB.out | apply below_alloc | apply pw_below_drewN | apply below_drew1 | refine below_set ?_ GE202.out) | exact HB.out)) hb); clear HO208; clear BK202; clear HB; have HO208 := n0_; have BK202 := n1_; have HB := n2_; clear n0_ n1_ n2_; (try clear hb); (try clear hb2); (try clear hk); (try clear hi)))
                  go_ret
                  exact ⟨by first | rfl | (simp [errW_none, errW_some] <;> rfl) | (simp [*, errW_none, errW_some] <;> rfl), by repeat (first | (with_reducible first | exact HB.out | apply below_alloc | apply pw_below_drewN | apply below_drew1 | refine below_set ?_ GE202.out) | exact HB.out)⟩
                · rw [if_neg c22] at H
                  have c22b0 : (t210 == (-1)) = false := beq_eq_false_iff_ne.mpr c22
                  have c22b1 : (t210 != (-1)) = true := bne_iff_ne.mpr c22
                  exact absurd (H.trans (congrArg some hr_.out)) (by simp)
              · rw [if_neg c20] at H
                have c20b0 : (t209 == (-1)) = false := beq_eq_false_iff_ne.mpr c20
                have c20b1 : (t209 != (-1)) = true := bne_iff_ne.mpr c20
                exact absurd (H.trans (congrArg some hr_.out)) (by simp)
            · rw [if_neg c18] at H
              have c18b0 : ((t206.length : Int) == 0) = false := beq_eq_false_iff_ne.mpr c18
              have c18b1 : ((t206.length : Int) != 0) = true := bne_iff_ne.mpr c18
              have c18b2 : ¬ (t206 = []) := fun h_ => c18 (by rw [h_]; rfl)
              exact absurd (H.trans (congrArg some hr_.out)) (by simp)
          · rw [if_neg c16] at H
            have c16b0 : (t204 == 0) = false := beq_eq_false_iff_ne.mpr c16
            have c16b1 : (t204 != 0) = true := bne_iff_ne.mpr c16
            exact absurd (H.trans (congrArg some hr_.out)) (by simp)
        · replace c15 := Bool.eq_false_iff.mpr c15
          subst c15
          have H1 : (some false) = some r := by rw [if_neg (show ¬ (false = true) by decide)] at H; exact H
          clear H
          have H := H1
          clear H1
          exact absurd (H.trans (congrArg some hr_.out)) (by simp)
      · replace c14 := Bool.eq_false_iff.mpr c14
        subst c14
        have H1 : (if a1 < 6 then (poacherlaw03_LayAll.j1 kj4 a1 t204 true a0_0 a0_1 a0_2 a0_3) else (poacherlaw03_LayAll.j1 kj4 a1 t204 (decide (a1 ≥ t204)) a0_0 a0_1 a0_2 a0_3)) = some r := by rw [if_neg (show ¬ (false = true) by decide)] at H; exact H
        clear H
        have H := H1
        clear H1
        have HC33 := Aside0.mk H
        clear H
        go_upto_region 5 with (fail)
        go_cut [52] (fun v52 wc => ∃ (kq : Nat) (x52_32 : Bool), v52 = .bool x52_32 ∧ Aside0 (poacherlaw03_LayAll.j1 kq a1 t204 x52_32 a0_0 a0_1 a0_2 a0_3 = some r) ∧ Aside0 (kq ≤ kj4) ∧ Aside0 (wc.heap[gb202]? = some (.cells #[.int .i64 a0_0, .int .i64 a0_1, .int .i64 a0_2, .int .i64 a0_3] 23 (0, 0))) ∧ Aside0 (Below w.heap.size w wc))
        case first =>
          have H := HC33.out
          clear HC33
          by_cases c34 : a1 < 6
          · rw [if_pos c34] at H
            have c34b0 : decide (a1 < 6) = true := decide_eq_true c34
            clear c34
            (first | rw [c34b0] | (simp only [i64_w, i32_w]; rw [c34b0]) | skip)
            have H' := Aside0.mk H
            clear H
            go_wp2
            go_meet
            case rel => exact ⟨_, (true), (by first | rfl | (simp; done) | (simp [*]; done)), H', ⟨by have := HJ4.out; first | omega | exact Nat.le_refl _⟩, ⟨by (with_reducible repeat (first | refine blk_drewN ?_ _ | refine blk_drew ?_ | refine blk_alloc ?_ _)); exact BK202.out⟩, ⟨by repeat (first | (with_reducible first | exact HB.out | apply below_alloc | apply pw_below_drewN | apply below_drew1 | refine below_set ?_ GE202.out) | exact HB.out)⟩⟩
          · rw [if_neg c34] at H
            have c34b0 : decide (a1 < 6) = false := decide_eq_false c34
            clear c34
            (first | rw [c34b0] | (simp only [i64_w, i32_w]; rw [c34b0]) | skip)
            have H' := Aside0.mk H
            clear H
            go_wp2
            go_meet
            case rel => exact ⟨_, (decide (a1 ≥ t204)), (by first | rfl | (simp; done) | (simp [*]; done)), H', ⟨by have := HJ4.out; first | omega | exact Nat.le_refl _⟩, ⟨by (with_reducible repeat (first | refine blk_drewN ?_ _ | refine blk_drew ?_ | refine blk_alloc ?_ _)); exact BK202.out⟩, ⟨by repeat (first | (with_reducible first | exact HB.out | apply below_alloc | apply pw_below_drewN | apply below_drew1 | refine below_set ?_ GE202.out) | exact HB.out)⟩⟩
        case rest =>
          clear HC33
          try clear c1
          try clear c2
          try clear p2
          try clear c3
          try clear c5
          try clear c9
          try clear c10
          try clear c14
          try clear c15
          try clear c16
          try clear c16b0
          try clear c16b1
          try clear c18
          try clear c18b0
          try clear c18b1
          try clear c18b2
          try clear c20
          try clear c20b0
          try clear c20b1
          try clear c22
          try clear c22b0
          try clear c22b1
          try clear c34
          try clear c34b0
          try clear hcz12_0
          try clear hcz12_1
          try clear hcz12_2
          try clear hcz12_3
          try clear hcz24_0
          try clear hcz24_1
          try clear hcz24_2
          try clear hcz24_3
          try clear hcz27_0
          try clear hcz27_1
          try clear hcz27_2
          try clear hcz27_3
          try clear hcz29_0
          try clear hcz29_1
          try clear hcz29_2
          try clear hcz29_3
          try clear hcz31_0
          try clear hcz31_1
          try clear hcz31_2
          try clear hcz31_3
          try clear hcz8_0
          try clear hcz8_1
          try clear hcz8_2
          try clear hcz8_3
          try clear hfz12_0
          try clear hfz12_1
          try clear hfz12_2
          try clear hfz12_3
          try clear hfz24_0
          try clear hfz24_1
          try clear hfz24_2
          try clear hfz24_3
          try clear hfz27_0
          try clear hfz27_1
          try clear hfz27_2
          try clear hfz27_3
          try clear hfz29_0
          try clear hfz29_1
          try clear hfz29_2
          try clear hfz29_3
          try clear hfz31_0
          try clear hfz31_1
          try clear hfz31_2
          try clear hfz31_3
          try clear hfz8_0
          try clear hfz8_1
          try clear hfz8_2
          try clear hfz8_3
          try clear p2
          obtain ⟨kq, x52_32, rfl, HA, HJ32, BK202, HB⟩ := hcut
          cases kq with
          | zero => exact absurd HA.out (by simp [poacherlaw03_LayAll.j1])
          | succ kj32 =>
            have H := HA.out
            clear HA
            simp only [poacherlaw03_LayAll.j1] at H
            by_cases c35 : x52_32 = true
            · subst c35
              have H1 : (some (decide (t204 ≤ 400))) = some r := by rw [if_pos rfl] at H; exact H
              clear H
              have H := H1
              clear H1
              obtain rfl := Option.some.inj H
              clear hr_
              go_wp2
              go_ret
              exact ⟨by first | rfl | (simp [errW_none, errW_some] <;> rfl) | (simp [*, errW_none, errW_some] <;> rfl), by repeat (first | (with_reducible first | exact HB.out | apply below_alloc | apply pw_below_drewN | apply below_drew1 | refine below_set ?_ GE202.out) | exact HB.out)⟩
            · replace c35 := Bool.eq_false_iff.mpr c35
              subst c35
              have H1 : (poacherlaw03_LayAll.l0 kj32 a1 false 0 a0_0 a0_1 a0_2 a0_3) = some r := by rw [if_neg (show ¬ (false = true) by decide)] at H; exact H
              clear H
              have H := H1
              clear H1
              have H' := Aside0.mk H
              clear H
              go_wp2
              go_loopg [7, 8] kj32 (fun kq v7 v8 w' => ∃ (x7_3 : Bool) (x8_3 : Int), v7 = .bool x7_3 ∧ v8 = .int .u64 x8_3 ∧ Aside0 (poacherlaw03_LayAll.l0 kq a1 x7_3 x8_3 a0_0 a0_1 a0_2 a0_3 = some r) ∧ Aside0 (kq ≤ kj32) ∧ Aside0 (w'.heap[gb202]? = some (.cells #[.int .i64 a0_0, .int .i64 a0_1, .int .i64 a0_2, .int .i64 a0_3] 23 (0, 0))) ∧ Aside0 (Below w.heap.size w w'))
              case atStart => exact ⟨(false), (0), (by first | rfl | (simp; done) | (simp [*]; done)), (by first | rfl | (simp; done) | (simp [*]; done)), H', ⟨Nat.le_refl _⟩, ⟨by (with_reducible repeat (first | refine blk_drewN ?_ _ | refine blk_drew ?_ | refine blk_alloc ?_ _)); exact BK202.out⟩, ⟨by repeat (first | (with_reducible first | exact HB.out | apply below_alloc | apply pw_below_drewN | apply below_drew1 | refine below_set ?_ GE202.out) | exact HB.out)⟩⟩
              case round =>
                clear H'
                try clear c1
                try clear c2
                try clear p2
                try clear c3
                try clear c5
                try clear c9
                try clear c10
                try clear c14
                try clear c15
                try clear c16
                try clear c16b0
                try clear c16b1
                try clear c18
                try clear c18b0
                try clear c18b1
                try clear c18b2
                try clear c20
                try clear c20b0
                try clear c20b1
                try clear c22
                try clear c22b0
                try clear c22b1
                try clear c34
                try clear c34b0
                try clear c35
                try clear hcz12_0
                try clear hcz12_1
                try clear hcz12_2
                try clear hcz12_3
                try clear hcz24_0
                try clear hcz24_1
                try clear hcz24_2
                try clear hcz24_3
                try clear hcz27_0
                try clear hcz27_1
                try clear hcz27_2
                try clear hcz27_3
                try clear hcz29_0
                try clear hcz29_1
                try clear hcz29_2
                try clear hcz29_3
                try clear hcz31_0
                try clear hcz31_1
                try clear hcz31_2
                try clear hcz31_3
                try clear hcz8_0
                try clear hcz8_1
                try clear hcz8_2
                try clear hcz8_3
                try clear hfz12_0
                try clear hfz12_1
                try clear hfz12_2
                try clear hfz12_3
                try clear hfz24_0
                try clear hfz24_1
                try clear hfz24_2
                try clear hfz24_3
                try clear hfz27_0
                try clear hfz27_1
                try clear hfz27_2
                try clear hfz27_3
                try clear hfz29_0
                try clear hfz29_1
                try clear hfz29_2
                try clear hfz29_3
                try clear hfz31_0
                try clear hfz31_1
                try clear hfz31_2
                try clear hfz31_3
                try clear hfz8_0
                try clear hfz8_1
                try clear hfz8_2
                try clear hfz8_3
                try clear p2
                obtain ⟨x7_3, x8_3, rfl, rfl, HA, HK3, BK202, HB⟩ := hrel
                cases gk with
                | zero => exact absurd HA.out (by simp [poacherlaw03_LayAll.l0])
                | succ k3 =>
                  have H := HA.out
                  clear HA
                  simp only [poacherlaw03_LayAll.l0] at H
                  by_cases c36 : x8_3 < 16
                  · rw [if_pos c36] at H
                    have c36b0 : decide (x8_3 < 16) = true := decide_eq_true c36
                    clear c36
                    have HC37 := Aside0.mk H
                    clear H
                    go_upto_region 11 with (fail)
                    go_cut [7] (fun v7 wc => ∃ (kq : Nat) (x7_36 : Bool), v7 = .bool x7_36 ∧ Aside0 (poacherlaw03_LayAll.j3 kq a1 x7_36 x8_3 a0_0 a0_1 a0_2 a0_3 = some r) ∧ Aside0 (kq ≤ k3) ∧ Aside0 (wc.heap[gb202]? = some (.cells #[.int .i64 a0_0, .int .i64 a0_1, .int .i64 a0_2, .int .i64 a0_3] 23 (0, 0))) ∧ Aside0 (Below w.heap.size w wc))
                    case first =>
                      have H := HC37.out
                      clear HC37
                      by_cases c38 : x7_3 = true
                      · subst c38
                        have H1 : (poacherlaw03_LayAll.j3 k3 a1 true x8_3 a0_0 a0_1 a0_2 a0_3) = some r := by rw [if_pos rfl] at H; exact H
                        clear H
                        have H := H1
                        clear H1
                        have H' := Aside0.mk H
                        clear H
                        go_wp2
                        go_meet
                        case rel => exact ⟨_, (true), (by first | rfl | (simp; done) | (simp [*]; done)), H', ⟨by have := HJ4.out; have := HJ32.out; have := HK3.out; first | omega | exact Nat.le_refl _⟩, ⟨by (with_reducible repeat (first | refine blk_drewN ?_ _ | refine blk_drew ?_ | refine blk_alloc ?_ _)); exact BK202.out⟩, ⟨by repeat (first | (with_reducible first | exact HB.out | apply below_alloc | apply pw_below_drewN | apply below_drew1 | refine below_set ?_ GE202.out) | exact HB.out)⟩⟩
                      · replace c38 := Bool.eq_false_iff.mpr c38
                        subst c38
                        have H1 : ((lay_Seq.f a0_0 a0_1 a0_2 a0_3 x8_3).bind fun t212 => (if t212 = a1 then (poacherlaw03_LayAll.j3 k3 a1 true x8_3 a0_0 a0_1 a0_2 a0_3) else ((lay_Val.f a0_0 a0_1 a0_2 a0_3 x8_3).bind fun t213 => (poacherlaw03_LayAll.j3 k3 a1 (t213 == a1) x8_3 a0_0 a0_1 a0_2 a0_3)))) = some r := by rw [if_neg (show ¬ (false = true) by decide)] at H; exact H
                        clear H
                        have H := H1
                        clear H1
                        replace H := Option.bind_eq_some_iff.mp H
                        obtain ⟨t212, A390, H⟩ := H
                        replace H : (if t212 = a1 then (poacherlaw03_LayAll.j3 k3 a1 true x8_3 a0_0 a0_1 a0_2 a0_3) else ((lay_Val.f a0_0 a0_1 a0_2 a0_3 x8_3).bind fun t213 => (poacherlaw03_LayAll.j3 k3 a1 (t213 == a1) x8_3 a0_0 a0_1 a0_2 a0_3))) = some r := H
                        have A39 := Aside0.mk A390
                        clear A390
                        by_cases c40 : t212 = a1
                        · rw [if_pos c40] at H
                          have c40b0 : (t212 == a1) = true := beq_iff_eq.mpr c40
                          have c40b1 : (t212 != a1) = false := bne_eq_false_iff_eq.mpr c40
                          clear c40
                          (first | rw [c40b0] | (simp only [i64_w, i32_w]; rw [c40b0]) | skip)
                          have H' := Aside0.mk H
                          clear H
                          have hcz41_0 : wr.cell? ⟨gb202, 0, none⟩ = some (.int .i64 a0_0) := (blk_cell BK202.out 0).trans rfl
                          have hcz41_1 : wr.cell? ⟨gb202, 1, none⟩ = some (.int .i64 a0_1) := (blk_cell BK202.out 1).trans rfl
                          have hcz41_2 : wr.cell? ⟨gb202, 2, none⟩ = some (.int .i64 a0_2) := (blk_cell BK202.out 2).trans rfl
                          have hcz41_3 : wr.cell? ⟨gb202, 3, none⟩ = some (.int .i64 a0_3) := (blk_cell BK202.out 3).trans rfl
                          have hfz41_0 := blk_frozen BK202.out 0
                          have hfz41_1 := blk_frozen BK202.out 1
                          have hfz41_2 := blk_frozen BK202.out 2
                          have hfz41_3 := blk_frozen BK202.out 3
                          go_wp2_with (first | (go_at_call 17; (with_reducible refine (lay_Seq.calls a0_0 a0_1 a0_2 a0_3 x8_3 t212 _ A39.out).mono ?_); (try clear A39); rintro e w42 ⟨rfl, hb⟩; have n0_ := Aside0.mk (blk_below (g := gb202) (o := .cells #[.int .i64 a0_0, .int .i64 a0_1, .int .i64 a0_2, .int .i64 a0_3] 23 (0, 0)) (by (with_reducible repeat (first | refine blk_drewN ?_ _ | refine blk_drew ?_ | refine blk_alloc ?_ _)); exact BK202.out) hb); have n1_ := Aside0.mk (below_step (by repeat (first | (with_reducible first | exact HB.out | apply below_alloc | apply pw_below_drewN | apply below_drew1 | refine below_set ?_ GE202.out) | exact HB.out)) hb); clear BK202; clear HB; have BK202 := n0_; have HB := n1_; clear n0_ n1_; (try clear hb); (try clear hb2); (try clear hk); (try clear hi)))
                          go_meet
                          case rel => exact ⟨_, (true), (by first | rfl | (simp; done) | (simp [*]; done)), H', ⟨by have := HJ4.out; have := HJ32.out; have := HK3.out; first | omega | exact Nat.le_refl _⟩, ⟨by (with_reducible repeat (first | refine blk_drewN ?_ _ | refine blk_drew ?_ | refine blk_alloc ?_ _)); exact BK202.out⟩, ⟨by repeat (first | (with_reducible first | exact HB.out | apply below_alloc | apply pw_below_drewN | apply below_drew1 | refine below_set ?_ GE202.out) | exact HB.out)⟩⟩
                        · rw [if_neg c40] at H
                          have c40b0 : (t212 == a1) = false := beq_eq_false_iff_ne.mpr c40
                          have c40b1 : (t212 != a1) = true := bne_iff_ne.mpr c40
                          (first | rw [c40b0] | (simp only [i64_w, i32_w]; rw [c40b0]) | skip)
                          replace H := Option.bind_eq_some_iff.mp H
                          obtain ⟨t213, A430, H⟩ := H
                          replace H : (poacherlaw03_LayAll.j3 k3 a1 (t213 == a1) x8_3 a0_0 a0_1 a0_2 a0_3) = some r := H
                          have A43 := Aside0.mk A430
                          clear A430
                          have H' := Aside0.mk H
                          clear H
                          have hcz44_0 : wr.cell? ⟨gb202, 0, none⟩ = some (.int .i64 a0_0) := (blk_cell BK202.out 0).trans rfl
                          have hcz44_1 : wr.cell? ⟨gb202, 1, none⟩ = some (.int .i64 a0_1) := (blk_cell BK202.out 1).trans rfl
                          have hcz44_2 : wr.cell? ⟨gb202, 2, none⟩ = some (.int .i64 a0_2) := (blk_cell BK202.out 2).trans rfl
                          have hcz44_3 : wr.cell? ⟨gb202, 3, none⟩ = some (.int .i64 a0_3) := (blk_cell BK202.out 3).trans rfl
                          have hfz44_0 := blk_frozen BK202.out 0
                          have hfz44_1 := blk_frozen BK202.out 1
                          have hfz44_2 := blk_frozen BK202.out 2
                          have hfz44_3 := blk_frozen BK202.out 3
                          go_wp2_with (first | (go_at_call 17; (with_reducible refine (lay_Seq.calls a0_0 a0_1 a0_2 a0_3 x8_3 t212 _ A39.out).mono ?_); (try clear A39); rintro e w45 ⟨rfl, hb⟩; have n0_ := Aside0.mk (blk_below (g := gb202) (o := .cells #[.int .i64 a0_0, .int .i64 a0_1, .int .i64 a0_2, .int .i64 a0_3] 23 (0, 0)) (by (with_reducible repeat (first | refine blk_drewN ?_ _ | refine blk_drew ?_ | refine blk_alloc ?_ _)); exact BK202.out) hb); have n1_ := Aside0.mk (below_step (by repeat (first | (with_reducible first | exact HB.out | apply below_alloc | apply pw_below_drewN | apply below_drew1 | refine below_set ?_ GE202.out) | exact HB.out)) hb); clear BK202; clear HB; have BK202 := n0_; have HB := n1_; clear n0_ n1_; (try clear hb); (try clear hb2); (try clear hk); (try clear hi); have hcz46_0 : w45.cell? ⟨gb202, 0, none⟩ = some (.int .i64 a0_0) := (blk_cell BK202.out 0).trans rfl; have hcz46_1 : w45.cell? ⟨gb202, 1, none⟩ = some (.int .i64 a0_1) := (blk_cell BK202.out 1).trans rfl; have hcz46_2 : w45.cell? ⟨gb202, 2, none⟩ = some (.int .i64 a0_2) := (blk_cell BK202.out 2).trans rfl; have hcz46_3 : w45.cell? ⟨gb202, 3, none⟩ = some (.int .i64 a0_3) := (blk_cell BK202.out 3).trans rfl; have hfz46_0 := blk_frozen BK202.out 0; have hfz46_1 := blk_frozen BK202.out 1; have hfz46_2 := blk_frozen BK202.out 2; have hfz46_3 := blk_frozen BK202.out 3) | (go_at_call 19; (with_reducible refine (lay_Val.calls a0_0 a0_1 a0_2 a0_3 x8_3 t213 _ A43.out).mono ?_); (try clear A43); rintro e w47 ⟨rfl, hb⟩; have n0_ := Aside0.mk (blk_below (g := gb202) (o := .cells #[.int .i64 a0_0, .int .i64 a0_1, .int .i64 a0_2, .int .i64 a0_3] 23 (0, 0)) (by (with_reducible repeat (first | refine blk_drewN ?_ _ | refine blk_drew ?_ | refine blk_alloc ?_ _)); exact BK202.out) hb); have n1_ := Aside0.mk (below_step (by repeat (first | (with_reducible first | exact HB.out | apply below_alloc | apply pw_below_drewN | apply below_drew1 | refine below_set ?_ GE202.out) | exact HB.out)) hb); clear BK202; clear HB; have BK202 := n0_; have HB := n1_; clear n0_ n1_; (try clear hb); (try clear hb2); (try clear hk); (try clear hi)))
                          go_meet
                          case rel => exact ⟨_, ((t213 == a1)), (by first | rfl | (simp; done) | (simp [*]; done)), H', ⟨by have := HJ4.out; have := HJ32.out; have := HK3.out; first | omega | exact Nat.le_refl _⟩, ⟨by (with_reducible repeat (first | refine blk_drewN ?_ _ | refine blk_drew ?_ | refine blk_alloc ?_ _)); exact BK202.out⟩, ⟨by repeat (first | (with_reducible first | exact HB.out | apply below_alloc | apply pw_below_drewN | apply below_drew1 | refine below_set ?_ GE202.out) | exact HB.out)⟩⟩
                    case rest =>
                      clear HC37
                      try clear c1
                      try clear c2
                      try clear p2
                      try clear c3
                      try clear c4
                      try clear c5
                      try clear c9
                      try clear c10
                      try clear c14
                      try clear c15
                      try clear c16
                      try clear c16b0
                      try clear c16b1
                      try clear c18
                      try clear c18b0
                      try clear c18b1
                      try clear c18b2
                      try clear c20
                      try clear c20b0
                      try clear c20b1
                      try clear c22
                      try clear c22b0
                      try clear c22b1
                      try clear c34
                      try clear c34b0
                      try clear c35
                      try clear c36
                      try clear c36b0
                      try clear c38
                      try clear c40
                      try clear c40b0
                      try clear c40b1
                      try clear hcz12_0
                      try clear hcz12_1
                      try clear hcz12_2
                      try clear hcz12_3
                      try clear hcz24_0
                      try clear hcz24_1
                      try clear hcz24_2
                      try clear hcz24_3
                      try clear hcz27_0
                      try clear hcz27_1
                      try clear hcz27_2
                      try clear hcz27_3
                      try clear hcz29_0
                      try clear hcz29_1
                      try clear hcz29_2
                      try clear hcz29_3
                      try clear hcz31_0
                      try clear hcz31_1
                      try clear hcz31_2
                      try clear hcz31_3
                      try clear hcz41_0
                      try clear hcz41_1
                      try clear hcz41_2
                      try clear hcz41_3
                      try clear hcz44_0
                      try clear hcz44_1
                      try clear hcz44_2
                      try clear hcz44_3
                      try clear hcz46_0
                      try clear hcz46_1
                      try clear hcz46_2
                      try clear hcz46_3
                      try clear hcz8_0
                      try clear hcz8_1
                      try clear hcz8_2
                      try clear hcz8_3
                      try clear hfz12_0
                      try clear hfz12_1
                      try clear hfz12_2
                      try clear hfz12_3
                      try clear hfz24_0
                      try clear hfz24_1
                      try clear hfz24_2
                      try clear hfz24_3
                      try clear hfz27_0
                      try clear hfz27_1
                      try clear hfz27_2
                      try clear hfz27_3
                      try clear hfz29_0
                      try clear hfz29_1
                      try clear hfz29_2
                      try clear hfz29_3
                      try clear hfz31_0
                      try clear hfz31_1
                      try clear hfz31_2
                      try clear hfz31_3
                      try clear hfz41_0
                      try clear hfz41_1
                      try clear hfz41_2
                      try clear hfz41_3
                      try clear hfz44_0
                      try clear hfz44_1
                      try clear hfz44_2
                      try clear hfz44_3
                      try clear hfz46_0
                      try clear hfz46_1
                      try clear hfz46_2
                      try clear hfz46_3
                      try clear hfz8_0
                      try clear hfz8_1
                      try clear hfz8_2
                      try clear hfz8_3
                      try clear p2
                      obtain ⟨kq, x7_36, rfl, HA, HJ36, BK202, HB⟩ := hcut
                      cases kq with
                      | zero => exact absurd HA.out (by simp [poacherlaw03_LayAll.j3])
                      | succ kj36 =>
                        have H := HA.out
                        clear HA
                        simp only [poacherlaw03_LayAll.j3] at H
                        have H' := Aside0.mk H
                        clear H
                        go_wp2
                        go_loopg [7, 9] kj36 (fun kq v7 v9 w' => ∃ (x7_5 : Bool) (x9_5 : Int), v7 = .bool x7_5 ∧ v9 = .int .i64 x9_5 ∧ Aside0 (poacherlaw03_LayAll.l1 kq a1 x7_5 x8_3 x9_5 a0_0 a0_1 a0_2 a0_3 = some r) ∧ Aside0 (kq ≤ kj36) ∧ Aside0 (w'.heap[gb202]? = some (.cells #[.int .i64 a0_0, .int .i64 a0_1, .int .i64 a0_2, .int .i64 a0_3] 23 (0, 0))) ∧ Aside0 (Below w.heap.size w w'))
                        case atStart => exact ⟨(x7_36), (0), (by first | rfl | (simp; done) | (simp [*]; done)), (by first | rfl | (simp; done) | (simp [*]; done)), H', ⟨Nat.le_refl _⟩, ⟨by (with_reducible repeat (first | refine blk_drewN ?_ _ | refine blk_drew ?_ | refine blk_alloc ?_ _)); exact BK202.out⟩, ⟨by repeat (first | (with_reducible first | exact HB.out | apply below_alloc | apply pw_below_drewN | apply below_drew1 | refine below_set ?_ GE202.out) | exact HB.out)⟩⟩
                        case round =>
                          clear H'
                          try clear c1
                          try clear c2
                          try clear p2
                          try clear c3
                          try clear c4
                          try clear c5
                          try clear c9
                          try clear c10
                          try clear c14
                          try clear c15
                          try clear c16
                          try clear c16b0
                          try clear c16b1
                          try clear c18
                          try clear c18b0
                          try clear c18b1
                          try clear c18b2
                          try clear c20
                          try clear c20b0
                          try clear c20b1
                          try clear c22
                          try clear c22b0
                          try clear c22b1
                          try clear c34
                          try clear c34b0
                          try clear c35
                          try clear c36
                          try clear c36b0
                          try clear c38
                          try clear c40
                          try clear c40b0
                          try clear c40b1
                          try clear hcz12_0
                          try clear hcz12_1
                          try clear hcz12_2
                          try clear hcz12_3
                          try clear hcz24_0
                          try clear hcz24_1
                          try clear hcz24_2
                          try clear hcz24_3
                          try clear hcz27_0
                          try clear hcz27_1
                          try clear hcz27_2
                          try clear hcz27_3
                          try clear hcz29_0
                          try clear hcz29_1
                          try clear hcz29_2
                          try clear hcz29_3
                          try clear hcz31_0
                          try clear hcz31_1
                          try clear hcz31_2
                          try clear hcz31_3
                          try clear hcz41_0
                          try clear hcz41_1
                          try clear hcz41_2
                          try clear hcz41_3
                          try clear hcz44_0
                          try clear hcz44_1
                          try clear hcz44_2
                          try clear hcz44_3
                          try clear hcz46_0
                          try clear hcz46_1
                          try clear hcz46_2
                          try clear hcz46_3
                          try clear hcz8_0
                          try clear hcz8_1
                          try clear hcz8_2
                          try clear hcz8_3
                          try clear hfz12_0
                          try clear hfz12_1
                          try clear hfz12_2
                          try clear hfz12_3
                          try clear hfz24_0
                          try clear hfz24_1
                          try clear hfz24_2
                          try clear hfz24_3
                          try clear hfz27_0
                          try clear hfz27_1
                          try clear hfz27_2
                          try clear hfz27_3
                          try clear hfz29_0
                          try clear hfz29_1
                          try clear hfz29_2
                          try clear hfz29_3
                          try clear hfz31_0
                          try clear hfz31_1
                          try clear hfz31_2
                          try clear hfz31_3
                          try clear hfz41_0
                          try clear hfz41_1
                          try clear hfz41_2
                          try clear hfz41_3
                          try clear hfz44_0
                          try clear hfz44_1
                          try clear hfz44_2
                          try clear hfz44_3
                          try clear hfz46_0
                          try clear hfz46_1
                          try clear hfz46_2
                          try clear hfz46_3
                          try clear hfz8_0
                          try clear hfz8_1
                          try clear hfz8_2
                          try clear hfz8_3
                          try clear p2
                          obtain ⟨x7_5, x9_5, rfl, rfl, HA, HK5, BK202, HB⟩ := hrel
                          cases gk with
                          | zero => exact absurd HA.out (by simp [poacherlaw03_LayAll.l1])
                          | succ k5 =>
                            have H := HA.out
                            clear HA
                            simp only [poacherlaw03_LayAll.l1] at H
                            have HC48 := Aside0.mk H
                            clear H
                            go_upto_region 13 with (fail)
                            go_cut [81] (fun v81 wc => ∃ (kq : Nat) (x81_47 : Bool), v81 = .bool x81_47 ∧ Aside0 (poacherlaw03_LayAll.j5 kq a1 x7_5 x8_3 x9_5 x81_47 a0_0 a0_1 a0_2 a0_3 = some r) ∧ Aside0 (kq ≤ k5) ∧ Aside0 (wc.heap[gb202]? = some (.cells #[.int .i64 a0_0, .int .i64 a0_1, .int .i64 a0_2, .int .i64 a0_3] 23 (0, 0))) ∧ Aside0 (Below w.heap.size w wc))
                            case first =>
                              have H := HC48.out
                              clear HC48
                              by_cases c49 : x9_5 < a0_0
                              · rw [if_pos c49] at H
                                have c49b0 : decide (x9_5 < a0_0) = true := decide_eq_true c49
                                clear c49
                                (first | rw [c49b0] | (simp only [i64_w, i32_w]; rw [c49b0]) | skip)
                                have H' := Aside0.mk H
                                clear H
                                have hcz50_0 : wr.cell? ⟨gb202, 0, none⟩ = some (.int .i64 a0_0) := (blk_cell BK202.out 0).trans rfl
                                have hcz50_1 : wr.cell? ⟨gb202, 1, none⟩ = some (.int .i64 a0_1) := (blk_cell BK202.out 1).trans rfl
                                have hcz50_2 : wr.cell? ⟨gb202, 2, none⟩ = some (.int .i64 a0_2) := (blk_cell BK202.out 2).trans rfl
                                have hcz50_3 : wr.cell? ⟨gb202, 3, none⟩ = some (.int .i64 a0_3) := (blk_cell BK202.out 3).trans rfl
                                have hfz50_0 := blk_frozen BK202.out 0
                                have hfz50_1 := blk_frozen BK202.out 1
                                have hfz50_2 := blk_frozen BK202.out 2
                                have hfz50_3 := blk_frozen BK202.out 3
                                go_wp2
                                go_meet
                                case rel => exact ⟨_, (decide (x9_5 < 8)), (by first | rfl | (simp; done) | (simp [*]; done)), H', ⟨by have := HJ4.out; have := HJ32.out; have := HK3.out; have := HJ36.out; have := HK5.out; first | omega | exact Nat.le_refl _⟩, ⟨by (with_reducible repeat (first | refine blk_drewN ?_ _ | refine blk_drew ?_ | refine blk_alloc ?_ _)); exact BK202.out⟩, ⟨by repeat (first | (with_reducible first | exact HB.out | apply below_alloc | apply pw_below_drewN | apply below_drew1 | refine below_set ?_ GE202.out) | exact HB.out)⟩⟩
                              · rw [if_neg c49] at H
                                have c49b0 : decide (x9_5 < a0_0) = false := decide_eq_false c49
                                clear c49
                                (first | rw [c49b0] | (simp only [i64_w, i32_w]; rw [c49b0]) | skip)
                                have H' := Aside0.mk H
                                clear H
                                have hcz51_0 : wr.cell? ⟨gb202, 0, none⟩ = some (.int .i64 a0_0) := (blk_cell BK202.out 0).trans rfl
                                have hcz51_1 : wr.cell? ⟨gb202, 1, none⟩ = some (.int .i64 a0_1) := (blk_cell BK202.out 1).trans rfl
                                have hcz51_2 : wr.cell? ⟨gb202, 2, none⟩ = some (.int .i64 a0_2) := (blk_cell BK202.out 2).trans rfl
                                have hcz51_3 : wr.cell? ⟨gb202, 3, none⟩ = some (.int .i64 a0_3) := (blk_cell BK202.out 3).trans rfl
                                have hfz51_0 := blk_frozen BK202.out 0
                                have hfz51_1 := blk_frozen BK202.out 1
                                have hfz51_2 := blk_frozen BK202.out 2
                                have hfz51_3 := blk_frozen BK202.out 3
                                go_wp2
                                go_meet
                                case rel => exact ⟨_, (false), (by first | rfl | (simp; done) | (simp [*]; done)), H', ⟨by have := HJ4.out; have := HJ32.out; have := HK3.out; have := HJ36.out; have := HK5.out; first | omega | exact Nat.le_refl _⟩, ⟨by (with_reducible repeat (first | refine blk_drewN ?_ _ | refine blk_drew ?_ | refine blk_alloc ?_ _)); exact BK202.out⟩, ⟨by repeat (first | (with_reducible first | exact HB.out | apply below_alloc | apply pw_below_drewN | apply below_drew1 | refine below_set ?_ GE202.out) | exact HB.out)⟩⟩
                            case rest =>
                              clear HC48
                              try clear c1
                              try clear c2
                              try clear p2
                              try clear c3
                              try clear c4
                              try clear c5
                              try clear c9
                              try clear c10
                              try clear c14
                              try clear c15
                              try clear c16
                              try clear c16b0
                              try clear c16b1
                              try clear c18
                              try clear c18b0
                              try clear c18b1
                              try clear c18b2
                              try clear c20
                              try clear c20b0
                              try clear c20b1
                              try clear c22
                              try clear c22b0
                              try clear c22b1
                              try clear c34
                              try clear c34b0
                              try clear c35
                              try clear c36
                              try clear c36b0
                              try clear c38
                              try clear c40
                              try clear c40b0
                              try clear c40b1
                              try clear c49
                              try clear c49b0
                              try clear hcz12_0
                              try clear hcz12_1
                              try clear hcz12_2
                              try clear hcz12_3
                              try clear hcz24_0
                              try clear hcz24_1
                              try clear hcz24_2
                              try clear hcz24_3
                              try clear hcz27_0
                              try clear hcz27_1
                              try clear hcz27_2
                              try clear hcz27_3
                              try clear hcz29_0
                              try clear hcz29_1
                              try clear hcz29_2
                              try clear hcz29_3
                              try clear hcz31_0
                              try clear hcz31_1
                              try clear hcz31_2
                              try clear hcz31_3
                              try clear hcz41_0
                              try clear hcz41_1
                              try clear hcz41_2
                              try clear hcz41_3
                              try clear hcz44_0
                              try clear hcz44_1
                              try clear hcz44_2
                              try clear hcz44_3
                              try clear hcz46_0
                              try clear hcz46_1
                              try clear hcz46_2
                              try clear hcz46_3
                              try clear hcz50_0
                              try clear hcz50_1
                              try clear hcz50_2
                              try clear hcz50_3
                              try clear hcz51_0
                              try clear hcz51_1
                              try clear hcz51_2
                              try clear hcz51_3
                              try clear hcz8_0
                              try clear hcz8_1
                              try clear hcz8_2
                              try clear hcz8_3
                              try clear hfz12_0
                              try clear hfz12_1
                              try clear hfz12_2
                              try clear hfz12_3
                              try clear hfz24_0
                              try clear hfz24_1
                              try clear hfz24_2
                              try clear hfz24_3
                              try clear hfz27_0
                              try clear hfz27_1
                              try clear hfz27_2
                              try clear hfz27_3
                              try clear hfz29_0
                              try clear hfz29_1
                              try clear hfz29_2
                              try clear hfz29_3
                              try clear hfz31_0
                              try clear hfz31_1
                              try clear hfz31_2
                              try clear hfz31_3
                              try clear hfz41_0
                              try clear hfz41_1
                              try clear hfz41_2
                              try clear hfz41_3
                              try clear hfz44_0
                              try clear hfz44_1
                              try clear hfz44_2
                              try clear hfz44_3
                              try clear hfz46_0
                              try clear hfz46_1
                              try clear hfz46_2
                              try clear hfz46_3
                              try clear hfz50_0
                              try clear hfz50_1
                              try clear hfz50_2
                              try clear hfz50_3
                              try clear hfz51_0
                              try clear hfz51_1
                              try clear hfz51_2
                              try clear hfz51_3
                              try clear hfz8_0
                              try clear hfz8_1
                              try clear hfz8_2
                              try clear hfz8_3
                              try clear p2
                              obtain ⟨kq, x81_47, rfl, HA, HJ47, BK202, HB⟩ := hcut
                              cases kq with
                              | zero => exact absurd HA.out (by simp [poacherlaw03_LayAll.j5])
                              | succ kj47 =>
                                have H := HA.out
                                clear HA
                                simp only [poacherlaw03_LayAll.j5] at H
                                by_cases c52 : x81_47 = true
                                · subst c52
                                  have H1 : (if x7_5 = true then (poacherlaw03_LayAll.l1 kj47 a1 true x8_3 (wrap64 (x9_5 + 1)) a0_0 a0_1 a0_2 a0_3) else ((lay_Top.f a0_0 a0_1 a0_2 a0_3 x9_5).bind fun t214 => (if t214 = a1 then (poacherlaw03_LayAll.l1 kj47 a1 true x8_3 (wrap64 (x9_5 + 1)) a0_0 a0_1 a0_2 a0_3) else ((lay_Bottom.f a0_0 a0_1 a0_2 a0_3 x9_5).bind fun t215 => (if t215 = a1 then (poacherlaw03_LayAll.l1 kj47 a1 true x8_3 (wrap64 (x9_5 + 1)) a0_0 a0_1 a0_2 a0_3) else ((lay_Park.f a0_0 a0_1 a0_2 a0_3 x9_5).bind fun t216 => (if t216 = a1 then (poacherlaw03_LayAll.l1 kj47 a1 true x8_3 (wrap64 (x9_5 + 1)) a0_0 a0_1 a0_2 a0_3) else ((lay_Slot.f a0_0 a0_1 a0_2 a0_3 x9_5 x8_3).bind fun t217 => (poacherlaw03_LayAll.l1 kj47 a1 (t217 == a1) x8_3 (wrap64 (x9_5 + 1)) a0_0 a0_1 a0_2 a0_3))))))))) = some r := by rw [if_pos rfl] at H; exact H
                                  clear H
                                  have H := H1
                                  clear H1
                                  by_cases c53 : x7_5 = true
                                  · subst c53
                                    have H1 : (poacherlaw03_LayAll.l1 kj47 a1 true x8_3 (wrap64 (x9_5 + 1)) a0_0 a0_1 a0_2 a0_3) = some r := by rw [if_pos rfl] at H; exact H
                                    clear H
                                    have H := H1
                                    clear H1
                                    have H' := Aside0.mk H
                                    clear H
                                    go_wp2
                                    go_roundg kj47
                                    case measure => have := HJ4.out; have := HJ32.out; have := HK3.out; have := HJ36.out; have := HK5.out; have := HJ47.out; omega
                                    case rel => exact ⟨(true), (wrap64 (x9_5 + 1)), (by first | rfl | (simp; done) | (simp [*]; done)), (by first | rfl | (simp; done) | (simp [*]; done)), H', ⟨by have := HJ4.out; have := HJ32.out; have := HK3.out; have := HJ36.out; have := HK5.out; have := HJ47.out; omega⟩, ⟨by (with_reducible repeat (first | refine blk_drewN ?_ _ | refine blk_drew ?_ | refine blk_alloc ?_ _)); exact BK202.out⟩, ⟨by repeat (first | (with_reducible first | exact HB.out | apply below_alloc | apply pw_below_drewN | apply below_drew1 | refine below_set ?_ GE202.out) | exact HB.out)⟩⟩
                                  · replace c53 := Bool.eq_false_iff.mpr c53
                                    subst c53
                                    have H1 : ((lay_Top.f a0_0 a0_1 a0_2 a0_3 x9_5).bind fun t214 => (if t214 = a1 then (poacherlaw03_LayAll.l1 kj47 a1 true x8_3 (wrap64 (x9_5 + 1)) a0_0 a0_1 a0_2 a0_3) else ((lay_Bottom.f a0_0 a0_1 a0_2 a0_3 x9_5).bind fun t215 => (if t215 = a1 then (poacherlaw03_LayAll.l1 kj47 a1 true x8_3 (wrap64 (x9_5 + 1)) a0_0 a0_1 a0_2 a0_3) else ((lay_Park.f a0_0 a0_1 a0_2 a0_3 x9_5).bind fun t216 => (if t216 = a1 then (poacherlaw03_LayAll.l1 kj47 a1 true x8_3 (wrap64 (x9_5 + 1)) a0_0 a0_1 a0_2 a0_3) else ((lay_Slot.f a0_0 a0_1 a0_2 a0_3 x9_5 x8_3).bind fun t217 => (poacherlaw03_LayAll.l1 kj47 a1 (t217 == a1) x8_3 (wrap64 (x9_5 + 1)) a0_0 a0_1 a0_2 a0_3)))))))) = some r := by rw [if_neg (show ¬ (false = true) by decide)] at H; exact H
                                    clear H
                                    have H := H1
                                    clear H1
                                    replace H := Option.bind_eq_some_iff.mp H
                                    obtain ⟨t214, A540, H⟩ := H
                                    replace H : (if t214 = a1 then (poacherlaw03_LayAll.l1 kj47 a1 true x8_3 (wrap64 (x9_5 + 1)) a0_0 a0_1 a0_2 a0_3) else ((lay_Bottom.f a0_0 a0_1 a0_2 a0_3 x9_5).bind fun t215 => (if t215 = a1 then (poacherlaw03_LayAll.l1 kj47 a1 true x8_3 (wrap64 (x9_5 + 1)) a0_0 a0_1 a0_2 a0_3) else ((lay_Park.f a0_0 a0_1 a0_2 a0_3 x9_5).bind fun t216 => (if t216 = a1 then (poacherlaw03_LayAll.l1 kj47 a1 true x8_3 (wrap64 (x9_5 + 1)) a0_0 a0_1 a0_2 a0_3) else ((lay_Slot.f a0_0 a0_1 a0_2 a0_3 x9_5 x8_3).bind fun t217 => (poacherlaw03_LayAll.l1 kj47 a1 (t217 == a1) x8_3 (wrap64 (x9_5 + 1)) a0_0 a0_1 a0_2 a0_3))))))) = some r := H
                                    have A54 := Aside0.mk A540
                                    clear A540
                                    by_cases c55 : t214 = a1
                                    · rw [if_pos c55] at H
                                      have c55b0 : (t214 == a1) = true := beq_iff_eq.mpr c55
                                      have c55b1 : (t214 != a1) = false := bne_eq_false_iff_eq.mpr c55
                                      clear c55
                                      have H' := Aside0.mk H
                                      clear H
                                      have hcz56_0 : wc.cell? ⟨gb202, 0, none⟩ = some (.int .i64 a0_0) := (blk_cell BK202.out 0).trans rfl
                                      have hcz56_1 : wc.cell? ⟨gb202, 1, none⟩ = some (.int .i64 a0_1) := (blk_cell BK202.out 1).trans rfl
                                      have hcz56_2 : wc.cell? ⟨gb202, 2, none⟩ = some (.int .i64 a0_2) := (blk_cell BK202.out 2).trans rfl
                                      have hcz56_3 : wc.cell? ⟨gb202, 3, none⟩ = some (.int .i64 a0_3) := (blk_cell BK202.out 3).trans rfl
                                      have hfz56_0 := blk_frozen BK202.out 0
                                      have hfz56_1 := blk_frozen BK202.out 1
                                      have hfz56_2 := blk_frozen BK202.out 2
                                      have hfz56_3 := blk_frozen BK202.out 3
                                      go_wp2_with (first | (go_at_call 21; (with_reducible refine (lay_Top.calls a0_0 a0_1 a0_2 a0_3 x9_5 t214 _ A54.out).mono ?_); (try clear A54); rintro e w57 ⟨rfl, hb⟩; have n0_ := Aside0.mk (blk_below (g := gb202) (o := .cells #[.int .i64 a0_0, .int .i64 a0_1, .int .i64 a0_2, .int .i64 a0_3] 23 (0, 0)) (by (with_reducible repeat (first | refine blk_drewN ?_ _ | refine blk_drew ?_ | refine blk_alloc ?_ _)); exact BK202.out) hb); have n1_ := Aside0.mk (below_step (by repeat (first | (with_reducible first | exact HB.out | apply below_alloc | apply pw_below_drewN | apply below_drew1 | refine below_set ?_ GE202.out) | exact HB.out)) hb); clear BK202; clear HB; have BK202 := n0_; have HB := n1_; clear n0_ n1_; (try clear hb); (try clear hb2); (try clear hk); (try clear hi)))
                                      go_roundg kj47
                                      case measure => have := HJ4.out; have := HJ32.out; have := HK3.out; have := HJ36.out; have := HK5.out; have := HJ47.out; omega
                                      case rel => exact ⟨(true), (wrap64 (x9_5 + 1)), (by first | rfl | (simp; done) | (simp [*]; done)), (by first | rfl | (simp; done) | (simp [*]; done)), H', ⟨by have := HJ4.out; have := HJ32.out; have := HK3.out; have := HJ36.out; have := HK5.out; have := HJ47.out; omega⟩, ⟨by (with_reducible repeat (first | refine blk_drewN ?_ _ | refine blk_drew ?_ | refine blk_alloc ?_ _)); exact BK202.out⟩, ⟨by repeat (first | (with_reducible first | exact HB.out | apply below_alloc | apply pw_below_drewN | apply below_drew1 | refine below_set ?_ GE202.out) | exact HB.out)⟩⟩
                                    · rw [if_neg c55] at H
                                      have c55b0 : (t214 == a1) = false := beq_eq_false_iff_ne.mpr c55
                                      have c55b1 : (t214 != a1) = true := bne_iff_ne.mpr c55
                                      replace H := Option.bind_eq_some_iff.mp H
                                      obtain ⟨t215, A580, H⟩ := H
                                      replace H : (if t215 = a1 then (poacherlaw03_LayAll.l1 kj47 a1 true x8_3 (wrap64 (x9_5 + 1)) a0_0 a0_1 a0_2 a0_3) else ((lay_Park.f a0_0 a0_1 a0_2 a0_3 x9_5).bind fun t216 => (if t216 = a1 then (poacherlaw03_LayAll.l1 kj47 a1 true x8_3 (wrap64 (x9_5 + 1)) a0_0 a0_1 a0_2 a0_3) else ((lay_Slot.f a0_0 a0_1 a0_2 a0_3 x9_5 x8_3).bind fun t217 => (poacherlaw03_LayAll.l1 kj47 a1 (t217 == a1) x8_3 (wrap64 (x9_5 + 1)) a0_0 a0_1 a0_2 a0_3))))) = some r := H
                                      have A58 := Aside0.mk A580
                                      clear A580
                                      by_cases c59 : t215 = a1
                                      · rw [if_pos c59] at H
                                        have c59b0 : (t215 == a1) = true := beq_iff_eq.mpr c59
                                        have c59b1 : (t215 != a1) = false := bne_eq_false_iff_eq.mpr c59
                                        clear c59
                                        have H' := Aside0.mk H
                                        clear H
                                        have hcz60_0 : wc.cell? ⟨gb202, 0, none⟩ = some (.int .i64 a0_0) := (blk_cell BK202.out 0).trans rfl
                                        have hcz60_1 : wc.cell? ⟨gb202, 1, none⟩ = some (.int .i64 a0_1) := (blk_cell BK202.out 1).trans rfl
                                        have hcz60_2 : wc.cell? ⟨gb202, 2, none⟩ = some (.int .i64 a0_2) := (blk_cell BK202.out 2).trans rfl
                                        have hcz60_3 : wc.cell? ⟨gb202, 3, none⟩ = some (.int .i64 a0_3) := (blk_cell BK202.out 3).trans rfl
                                        have hfz60_0 := blk_frozen BK202.out 0
                                        have hfz60_1 := blk_frozen BK202.out 1
                                        have hfz60_2 := blk_frozen BK202.out 2
                                        have hfz60_3 := blk_frozen BK202.out 3
                                        go_wp2_with (first | (go_at_call 21; (with_reducible refine (lay_Top.calls a0_0 a0_1 a0_2 a0_3 x9_5 t214 _ A54.out).mono ?_); (try clear A54); rintro e w61 ⟨rfl, hb⟩; have n0_ := Aside0.mk (blk_below (g := gb202) (o := .cells #[.int .i64 a0_0, .int .i64 a0_1, .int .i64 a0_2, .int .i64 a0_3] 23 (0, 0)) (by (with_reducible repeat (first | refine blk_drewN ?_ _ | refine blk_drew ?_ | refine blk_alloc ?_ _)); exact BK202.out) hb); have n1_ := Aside0.mk (below_step (by repeat (first | (with_reducible first | exact HB.out | apply below_alloc | apply pw_below_drewN | apply below_drew1 | refine below_set ?_ GE202.out) | exact HB.out)) hb); clear BK202; clear HB; have BK202 := n0_; have HB := n1_; clear n0_ n1_; (try clear hb); (try clear hb2); (try clear hk); (try clear hi); have hcz62_0 : w61.cell? ⟨gb202, 0, none⟩ = some (.int .i64 a0_0) := (blk_cell BK202.out 0).trans rfl; have hcz62_1 : w61.cell? ⟨gb202, 1, none⟩ = some (.int .i64 a0_1) := (blk_cell BK202.out 1).trans rfl; have hcz62_2 : w61.cell? ⟨gb202, 2, none⟩ = some (.int .i64 a0_2) := (blk_cell BK202.out 2).trans rfl; have hcz62_3 : w61.cell? ⟨gb202, 3, none⟩ = some (.int .i64 a0_3) := (blk_cell BK202.out 3).trans rfl; have hfz62_0 := blk_frozen BK202.out 0; have hfz62_1 := blk_frozen BK202.out 1; have hfz62_2 := blk_frozen BK202.out 2; have hfz62_3 := blk_frozen BK202.out 3) | (go_at_call 23; (with_reducible refine (lay_Bottom.calls a0_0 a0_1 a0_2 a0_3 x9_5 t215 _ A58.out).mono ?_); (try clear A58); rintro e w63 ⟨rfl, hb⟩; have n0_ := Aside0.mk (blk_below (g := gb202) (o := .cells #[.int .i64 a0_0, .int .i64 a0_1, .int .i64 a0_2, .int .i64 a0_3] 23 (0, 0)) (by (with_reducible repeat (first | refine blk_drewN ?_ _ | refine blk_drew ?_ | refine blk_alloc ?_ _)); exact BK202.out) hb); have n1_ := Aside0.mk (below_step (by repeat (first | (with_reducible first | exact HB.out | apply below_alloc | apply pw_below_drewN | apply below_drew1 | refine below_set ?_ GE202.out) | exact HB.out)) hb); clear BK202; clear HB; have BK202 := n0_; have HB := n1_; clear n0_ n1_; (try clear hb); (try clear hb2); (try clear hk); (try clear hi)))
                                        go_roundg kj47
                                        case measure => have := HJ4.out; have := HJ32.out; have := HK3.out; have := HJ36.out; have := HK5.out; have := HJ47.out; omega
                                        case rel => exact ⟨(true), (wrap64 (x9_5 + 1)), (by first | rfl | (simp; done) | (simp [*]; done)), (by first | rfl | (simp; done) | (simp [*]; done)), H', ⟨by have := HJ4.out; have := HJ32.out; have := HK3.out; have := HJ36.out; have := HK5.out; have := HJ47.out; omega⟩, ⟨by (with_reducible repeat (first | refine blk_drewN ?_ _ | refine blk_drew ?_ | refine blk_alloc ?_ _)); exact BK202.out⟩, ⟨by repeat (first | (with_reducible first | exact HB.out | apply below_alloc | apply pw_below_drewN | apply below_drew1 | refine below_set ?_ GE202.out) | exact HB.out)⟩⟩
                                      · rw [if_neg c59] at H
                                        have c59b0 : (t215 == a1) = false := beq_eq_false_iff_ne.mpr c59
                                        have c59b1 : (t215 != a1) = true := bne_iff_ne.mpr c59
                                        replace H := Option.bind_eq_some_iff.mp H
                                        obtain ⟨t216, A640, H⟩ := H
                                        replace H : (if t216 = a1 then (poacherlaw03_LayAll.l1 kj47 a1 true x8_3 (wrap64 (x9_5 + 1)) a0_0 a0_1 a0_2 a0_3) else ((lay_Slot.f a0_0 a0_1 a0_2 a0_3 x9_5 x8_3).bind fun t217 => (poacherlaw03_LayAll.l1 kj47 a1 (t217 == a1) x8_3 (wrap64 (x9_5 + 1)) a0_0 a0_1 a0_2 a0_3))) = some r := H
                                        have A64 := Aside0.mk A640
                                        clear A640
                                        by_cases c65 : t216 = a1
                                        · rw [if_pos c65] at H
                                          have c65b0 : (t216 == a1) = true := beq_iff_eq.mpr c65
                                          have c65b1 : (t216 != a1) = false := bne_eq_false_iff_eq.mpr c65
                                          clear c65
                                          have H' := Aside0.mk H
                                          clear H
                                          have hcz66_0 : wc.cell? ⟨gb202, 0, none⟩ = some (.int .i64 a0_0) := (blk_cell BK202.out 0).trans rfl
                                          have hcz66_1 : wc.cell? ⟨gb202, 1, none⟩ = some (.int .i64 a0_1) := (blk_cell BK202.out 1).trans rfl
                                          have hcz66_2 : wc.cell? ⟨gb202, 2, none⟩ = some (.int .i64 a0_2) := (blk_cell BK202.out 2).trans rfl
                                          have hcz66_3 : wc.cell? ⟨gb202, 3, none⟩ = some (.int .i64 a0_3) := (blk_cell BK202.out 3).trans rfl
                                          have hfz66_0 := blk_frozen BK202.out 0
                                          have hfz66_1 := blk_frozen BK202.out 1
                                          have hfz66_2 := blk_frozen BK202.out 2
                                          have hfz66_3 := blk_frozen BK202.out 3
                                          go_wp2_with (first | (go_at_call 21; (with_reducible refine (lay_Top.calls a0_0 a0_1 a0_2 a0_3 x9_5 t214 _ A54.out).mono ?_); (try clear A54); rintro e w67 ⟨rfl, hb⟩; have n0_ := Aside0.mk (blk_below (g := gb202) (o := .cells #[.int .i64 a0_0, .int .i64 a0_1, .int .i64 a0_2, .int .i64 a0_3] 23 (0, 0)) (by (with_reducible repeat (first | refine blk_drewN ?_ _ | refine blk_drew ?_ | refine blk_alloc ?_ _)); exact BK202.out) hb); have n1_ := Aside0.mk (below_step (by repeat (first | (with_reducible first | exact HB.out | apply below_alloc | apply pw_below_drewN | apply below_drew1 | refine below_set ?_ GE202.out) | exact HB.out)) hb); clear BK202; clear HB; have BK202 := n0_; have HB := n1_; clear n0_ n1_; (try clear hb); (try clear hb2); (try clear hk); (try clear hi); have hcz68_0 : w67.cell? ⟨gb202, 0, none⟩ = some (.int .i64 a0_0) := (blk_cell BK202.out 0).trans rfl; have hcz68_1 : w67.cell? ⟨gb202, 1, none⟩ = some (.int .i64 a0_1) := (blk_cell BK202.out 1).trans rfl; have hcz68_2 : w67.cell? ⟨gb202, 2, none⟩ = some (.int .i64 a0_2) := (blk_cell BK202.out 2).trans rfl; have hcz68_3 : w67.cell? ⟨gb202, 3, none⟩ = some (.int .i64 a0_3) := (blk_cell BK202.out 3).trans rfl; have hfz68_0 := blk_frozen BK202.out 0; have hfz68_1 := blk_frozen BK202.out 1; have hfz68_2 := blk_frozen BK202.out 2; have hfz68_3 := blk_frozen BK202.out 3) | (go_at_call 23; (with_reducible refine (lay_Bottom.calls a0_0 a0_1 a0_2 a0_3 x9_5 t215 _ A58.out).mono ?_); (try clear A58); rintro e w69 ⟨rfl, hb⟩; have n0_ := Aside0.mk (blk_below (g := gb202) (o := .cells #[.int .i64 a0_0, .int .i64 a0_1, .int .i64 a0_2, .int .i64 a0_3] 23 (0, 0)) (by (with_reducible repeat (first | refine blk_drewN ?_ _ | refine blk_drew ?_ | refine blk_alloc ?_ _)); exact BK202.out) hb); have n1_ := Aside0.mk (below_step (by repeat (first | (with_reducible first | exact HB.out | apply below_alloc | apply pw_below_drewN | apply below_drew1 | refine below_set ?_ GE202.out) | exact HB.out)) hb); clear BK202; clear HB; have BK202 := n0_; have HB := n1_; clear n0_ n1_; (try clear hb); (try clear hb2); (try clear hk); (try clear hi); have hcz70_0 : w69.cell? ⟨gb202, 0, none⟩ = some (.int .i64 a0_0) := (blk_cell BK202.out 0).trans rfl; have hcz70_1 : w69.cell? ⟨gb202, 1, none⟩ = some (.int .i64 a0_1) := (blk_cell BK202.out 1).trans rfl; have hcz70_2 : w69.cell? ⟨gb202, 2, none⟩ = some (.int .i64 a0_2) := (blk_cell BK202.out 2).trans rfl; have hcz70_3 : w69.cell? ⟨gb202, 3, none⟩ = some (.int .i64 a0_3) := (blk_cell BK202.out 3).trans rfl; have hfz70_0 := blk_frozen BK202.out 0; have hfz70_1 := blk_frozen BK202.out 1; have hfz70_2 := blk_frozen BK202.out 2; have hfz70_3 := blk_frozen BK202.out 3) | (go_at_call 25; (with_reducible refine (lay_Park.calls a0_0 a0_1 a0_2 a0_3 x9_5 t216 _ A64.out).mono ?_); (try clear A64); rintro e w71 ⟨rfl, hb⟩; have n0_ := Aside0.mk (blk_below (g := gb202) (o := .cells #[.int .i64 a0_0, .int .i64 a0_1, .int .i64 a0_2, .int .i64 a0_3] 23 (0, 0)) (by (with_reducible repeat (first | refine blk_drewN ?_ _ | refine blk_drew ?_ | refine blk_alloc ?_ _)); exact BK202.out) hb); have n1_ := Aside0.mk (below_step (by repeat (first | (with_reducible first | exact HB.out | apply below_alloc | apply pw_below_drewN | apply below_drew1 | refine below_set ?_ GE202.out) | exact HB.out)) hb); clear BK202; clear HB; have BK202 := n0_; have HB := n1_; clear n0_ n1_; (try clear hb); (try clear hb2); (try clear hk); (try clear hi)))
                                          go_roundg kj47
                                          case measure => have := HJ4.out; have := HJ32.out; have := HK3.out; have := HJ36.out; have := HK5.out; have := HJ47.out; omega
                                          case rel => exact ⟨(true), (wrap64 (x9_5 + 1)), (by first | rfl | (simp; done) | (simp [*]; done)), (by first | rfl | (simp; done) | (simp [*]; done)), H', ⟨by have := HJ4.out; have := HJ32.out; have := HK3.out; have := HJ36.out; have := HK5.out; have := HJ47.out; omega⟩, ⟨by (with_reducible repeat (first | refine blk_drewN ?_ _ | refine blk_drew ?_ | refine blk_alloc ?_ _)); exact BK202.out⟩, ⟨by repeat (first | (with_reducible first | exact HB.out | apply below_alloc | apply pw_below_drewN | apply below_drew1 | refine below_set ?_ GE202.out) | exact HB.out)⟩⟩
                                        · rw [if_neg c65] at H
                                          have c65b0 : (t216 == a1) = false := beq_eq_false_iff_ne.mpr c65
                                          have c65b1 : (t216 != a1) = true := bne_iff_ne.mpr c65
                                          replace H := Option.bind_eq_some_iff.mp H
                                          obtain ⟨t217, A720, H⟩ := H
                                          replace H : (poacherlaw03_LayAll.l1 kj47 a1 (t217 == a1) x8_3 (wrap64 (x9_5 + 1)) a0_0 a0_1 a0_2 a0_3) = some r := H
                                          have A72 := Aside0.mk A720
                                          clear A720
                                          have H' := Aside0.mk H
                                          clear H
                                          have hcz73_0 : wc.cell? ⟨gb202, 0, none⟩ = some (.int .i64 a0_0) := (blk_cell BK202.out 0).trans rfl
                                          have hcz73_1 : wc.cell? ⟨gb202, 1, none⟩ = some (.int .i64 a0_1) := (blk_cell BK202.out 1).trans rfl
                                          have hcz73_2 : wc.cell? ⟨gb202, 2, none⟩ = some (.int .i64 a0_2) := (blk_cell BK202.out 2).trans rfl
                                          have hcz73_3 : wc.cell? ⟨gb202, 3, none⟩ = some (.int .i64 a0_3) := (blk_cell BK202.out 3).trans rfl
                                          have hfz73_0 := blk_frozen BK202.out 0
                                          have hfz73_1 := blk_frozen BK202.out 1
                                          have hfz73_2 := blk_frozen BK202.out 2
                                          have hfz73_3 := blk_frozen BK202.out 3
                                          go_wp2_with (first | (go_at_call 21; (with_reducible refine (lay_Top.calls a0_0 a0_1 a0_2 a0_3 x9_5 t214 _ A54.out).mono ?_); (try clear A54); rintro e w74 ⟨rfl, hb⟩; have n0_ := Aside0.mk (blk_below (g := gb202) (o := .cells #[.int .i64 a0_0, .int .i64 a0_1, .int .i64 a0_2, .int .i64 a0_3] 23 (0, 0)) (by (with_reducible repeat (first | refine blk_drewN ?_ _ | refine blk_drew ?_ | refine blk_alloc ?_ _)); exact BK202.out) hb); have n1_ := Aside0.mk (below_step (by repeat (first | (with_reducible first | exact HB.out | apply below_alloc | apply pw_below_drewN | apply below_drew1 | refine below_set ?_ GE202.out) | exact HB.out)) hb); clear BK202; clear HB; have BK202 := n0_; have HB := n1_; clear n0_ n1_; (try clear hb); (try clear hb2); (try clear hk); (try clear hi); have hcz75_0 : w74.cell? ⟨gb202, 0, none⟩ = some (.int .i64 a0_0) := (blk_cell BK202.out 0).trans rfl; have hcz75_1 : w74.cell? ⟨gb202, 1, none⟩ = some (.int .i64 a0_1) := (blk_cell BK202.out 1).trans rfl; have hcz75_2 : w74.cell? ⟨gb202, 2, none⟩ = some (.int .i64 a0_2) := (blk_cell BK202.out 2).trans rfl; have hcz75_3 : w74.cell? ⟨gb202, 3, none⟩ = some (.int .i64 a0_3) := (blk_cell BK202.out 3).trans rfl; have hfz75_0 := blk_frozen BK202.out 0; have hfz75_1 := blk_frozen BK202.out 1; have hfz75_2 := blk_frozen BK202.out 2; have hfz75_3 := blk_frozen BK202.out 3) | (go_at_call 23; (with_reducible refine (lay_Bottom.calls a0_0 a0_1 a0_2 a0_3 x9_5 t215 _ A58.out).mono ?_); (try clear A58); rintro e w76 ⟨rfl, hb⟩; have n0_ := Aside0.mk (blk_below (g := gb202) (o := .cells #[.int .i64 a0_0, .int .i64 a0_1, .int .i64 a0_2, .int .i64 a0_3] 23 (0, 0)) (by (with_reducible repeat (first | refine blk_drewN ?_ _ | refine blk_drew ?_ | refine blk_alloc ?_ _)); exact BK202.out) hb); have n1_ := Aside0.mk (below_step (by repeat (first | (with_reducible first | exact HB.out | apply below_alloc | apply pw_below_drewN | apply below_drew1 | refine below_set ?_ GE202.out) | exact HB.out)) hb); clear BK202; clear HB; have BK202 := n0_; have HB := n1_; clear n0_ n1_; (try clear hb); (try clear hb2); (try clear hk); (try clear hi); have hcz77_0 : w76.cell? ⟨gb202, 0, none⟩ = some (.int .i64 a0_0) := (blk_cell BK202.out 0).trans rfl; have hcz77_1 : w76.cell? ⟨gb202, 1, none⟩ = some (.int .i64 a0_1) := (blk_cell BK202.out 1).trans rfl; have hcz77_2 : w76.cell? ⟨gb202, 2, none⟩ = some (.int .i64 a0_2) := (blk_cell BK202.out 2).trans rfl; have hcz77_3 : w76.cell? ⟨gb202, 3, none⟩ = some (.int .i64 a0_3) := (blk_cell BK202.out 3).trans rfl; have hfz77_0 := blk_frozen BK202.out 0; have hfz77_1 := blk_frozen BK202.out 1; have hfz77_2 := blk_frozen BK202.out 2; have hfz77_3 := blk_frozen BK202.out 3) | (go_at_call 25; (with_reducible refine (lay_Park.calls a0_0 a0_1 a0_2 a0_3 x9_5 t216 _ A64.out).mono ?_); (try clear A64); rintro e w78 ⟨rfl, hb⟩; have n0_ := Aside0.mk (blk_below (g := gb202) (o := .cells #[.int .i64 a0_0, .int .i64 a0_1, .int .i64 a0_2, .int .i64 a0_3] 23 (0, 0)) (by (with_reducible repeat (first | refine blk_drewN ?_ _ | refine blk_drew ?_ | refine blk_alloc ?_ _)); exact BK202.out) hb); have n1_ := Aside0.mk (below_step (by repeat (first | (with_reducible first | exact HB.out | apply below_alloc | apply pw_below_drewN | apply below_drew1 | refine below_set ?_ GE202.out) | exact HB.out)) hb); clear BK202; clear HB; have BK202 := n0_; have HB := n1_; clear n0_ n1_; (try clear hb); (try clear hb2); (try clear hk); (try clear hi); have hcz79_0 : w78.cell? ⟨gb202, 0, none⟩ = some (.int .i64 a0_0) := (blk_cell BK202.out 0).trans rfl; have hcz79_1 : w78.cell? ⟨gb202, 1, none⟩ = some (.int .i64 a0_1) := (blk_cell BK202.out 1).trans rfl; have hcz79_2 : w78.cell? ⟨gb202, 2, none⟩ = some (.int .i64 a0_2) := (blk_cell BK202.out 2).trans rfl; have hcz79_3 : w78.cell? ⟨gb202, 3, none⟩ = some (.int .i64 a0_3) := (blk_cell BK202.out 3).trans rfl; have hfz79_0 := blk_frozen BK202.out 0; have hfz79_1 := blk_frozen BK202.out 1; have hfz79_2 := blk_frozen BK202.out 2; have hfz79_3 := blk_frozen BK202.out 3) | (go_at_call 27; (with_reducible refine (lay_Slot.calls a0_0 a0_1 a0_2 a0_3 x9_5 x8_3 t217 _ A72.out).mono ?_); (try clear A72); rintro e w80 ⟨rfl, hb⟩; have n0_ := Aside0.mk (blk_below (g := gb202) (o := .cells #[.int .i64 a0_0, .int .i64 a0_1, .int .i64 a0_2, .int .i64 a0_3] 23 (0, 0)) (by (with_reducible repeat (first | refine blk_drewN ?_ _ | refine blk_drew ?_ | refine blk_alloc ?_ _)); exact BK202.out) hb); have n1_ := Aside0.mk (below_step (by repeat (first | (with_reducible first | exact HB.out | apply below_alloc | apply pw_below_drewN | apply below_drew1 | refine below_set ?_ GE202.out) | exact HB.out)) hb); clear BK202; clear HB; have BK202 := n0_; have HB := n1_; clear n0_ n1_; (try clear hb); (try clear hb2); (try clear hk); (try clear hi)))
                                          go_roundg kj47
                                          case measure => have := HJ4.out; have := HJ32.out; have := HK3.out; have := HJ36.out; have := HK5.out; have := HJ47.out; omega
                                          case rel => exact ⟨((t217 == a1)), (wrap64 (x9_5 + 1)), (by first | rfl | (simp; done) | (simp [*]; done)), (by first | rfl | (simp; done) | (simp [*]; done)), H', ⟨by have := HJ4.out; have := HJ32.out; have := HK3.out; have := HJ36.out; have := HK5.out; have := HJ47.out; omega⟩, ⟨by (with_reducible repeat (first | refine blk_drewN ?_ _ | refine blk_drew ?_ | refine blk_alloc ?_ _)); exact BK202.out⟩, ⟨by repeat (first | (with_reducible first | exact HB.out | apply below_alloc | apply pw_below_drewN | apply below_drew1 | refine below_set ?_ GE202.out) | exact HB.out)⟩⟩
                                · replace c52 := Bool.eq_false_iff.mpr c52
                                  subst c52
                                  have H1 : (poacherlaw03_LayAll.l0 kj47 a1 x7_5 (IntKind.u64.wrap (x8_3 + 1)) a0_0 a0_1 a0_2 a0_3) = some r := by rw [if_neg (show ¬ (false = true) by decide)] at H; exact H
                                  clear H
                                  have H := H1
                                  clear H1
                                  have H' := Aside0.mk H
                                  clear H
                                  go_wp2
                                  go_roundg kj47
                                  case measure => have := HJ4.out; have := HJ32.out; have := HK3.out; have := HJ36.out; have := HK5.out; have := HJ47.out; omega
                                  case rel => exact ⟨(x7_5), (IntKind.u64.wrap (x8_3 + 1)), (by first | rfl | (simp; done) | (simp [*]; done)), (by first | rfl | (simp; done) | (simp [*]; done)), H', ⟨by have := HJ4.out; have := HJ32.out; have := HK3.out; have := HJ36.out; have := HK5.out; have := HJ47.out; omega⟩, ⟨by (with_reducible repeat (first | refine blk_drewN ?_ _ | refine blk_drew ?_ | refine blk_alloc ?_ _)); exact BK202.out⟩, ⟨by repeat (first | (with_reducible first | exact HB.out | apply below_alloc | apply pw_below_drewN | apply below_drew1 | refine below_set ?_ GE202.out) | exact HB.out)⟩⟩
                  · rw [if_neg c36] at H
                    have c36b0 : decide (x8_3 < 16) = false := decide_eq_false c36
                    clear c36
                    obtain rfl := Option.some.inj H
                    clear hr_
                    go_wp2
                    go_ret
                    exact ⟨by first | rfl | (simp [errW_none, errW_some] <;> rfl) | (simp [*, errW_none, errW_some] <;> rfl), by repeat (first | (with_reducible first | exact HB.out | apply below_alloc | apply pw_below_drewN | apply below_drew1 | refine below_set ?_ GE202.out) | exact HB.out)⟩

end Go.Proofs.Ytdglmmpnjbobjaa.QL
