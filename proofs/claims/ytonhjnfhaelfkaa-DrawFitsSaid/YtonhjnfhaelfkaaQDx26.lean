-- Written by inj.py (a program of this session), by the kit's print with functions given by hand. Not trusted: Lean checks it.
import Derived.Test.YtonhjnfhaelfkaaQDx0
import Derived.Test.YtonhjnfhaelfkaaQDx7
import Derived.Test.YtonhjnfhaelfkaaQDx12
namespace Go.Proofs.Ytonhjnfhaelfkaa.QD
open Go.RowKit Go.Proofs.YtonhjnfhaelfkaaW.PrintWords Go.Proofs.YtonhjnfhaelfkaaW.PrintLast Go.Proofs.YtonhjnfhaelfkaaW.PrintMore
attribute [local go_sem] max2_int min2_int max_two min_two max_three min_three max_four min_four   -- for this text's walks alone
set_option linter.unusedVariables false
set_option linter.unusedSimpArgs false

/-! ### poacherlaw05_DrawFits: function 9 -/
def poacherlaw05_DrawFits.f (k : Nat) (a0_0 : Int) (a0_1 : Int) (a0_2 : Int) (a1 : Int) (a2 : Int) : Option (Bool) := (poacherlaw05_awake.f k).bind fun t247 => ((draw_Fits.f a0_0 a0_1 a0_2 a1 a2).bind fun t248 => (if a0_0 = 0 then (if a0_1 ≥ 0 then (if a0_0 = 1 then (if a0_0 = 2 then (if t247 = true then (if a0_1 < a1 then (if (t248 == true) = true then ((draw_Fits.f a0_0 a0_1 (IntKind.u64.wrap (a0_2 + 1)) a1 a2).bind fun t249 => (some (t249 == t248))) else (some false)) else (if a0_1 < a2 then (if (t248 == true) = true then ((draw_Fits.f a0_0 a0_1 (IntKind.u64.wrap (a0_2 + 1)) a1 a2).bind fun t250 => (some (t250 == t248))) else (some false)) else (if (t248 == true) = true then ((draw_Fits.f a0_0 a0_1 (IntKind.u64.wrap (a0_2 + 1)) a1 a2).bind fun t251 => (some (t251 == t248))) else (some false)))) else (some false)) else (if t247 = true then (if a0_1 < a1 then (if (t248 == true) = true then ((draw_Fits.f a0_0 a0_1 (IntKind.u64.wrap (a0_2 + 1)) a1 a2).bind fun t252 => (some (t252 == t248))) else (some false)) else (if a0_1 < a2 then (if (t248 == true) = true then ((draw_Fits.f a0_0 a0_1 (IntKind.u64.wrap (a0_2 + 1)) a1 a2).bind fun t253 => (some (t253 == t248))) else (some false)) else (if (t248 == (a0_0 == 3)) = true then ((draw_Fits.f a0_0 a0_1 (IntKind.u64.wrap (a0_2 + 1)) a1 a2).bind fun t254 => (some (t254 == t248))) else (some false)))) else (some false))) else (if a0_0 = 2 then (if t247 = true then (if a0_1 < a1 then (if (t248 == true) = true then ((draw_Fits.f a0_0 a0_1 (IntKind.u64.wrap (a0_2 + 1)) a1 a2).bind fun t255 => (some (t255 == t248))) else (some false)) else (if (t248 == true) = true then ((draw_Fits.f a0_0 a0_1 (IntKind.u64.wrap (a0_2 + 1)) a1 a2).bind fun t256 => (some (t256 == t248))) else (some false))) else (some false)) else (if t247 = true then (if a0_1 < a1 then (if (t248 == true) = true then ((draw_Fits.f a0_0 a0_1 (IntKind.u64.wrap (a0_2 + 1)) a1 a2).bind fun t257 => (some (t257 == t248))) else (some false)) else (if (t248 == (a0_0 == 3)) = true then ((draw_Fits.f a0_0 a0_1 (IntKind.u64.wrap (a0_2 + 1)) a1 a2).bind fun t258 => (some (t258 == t248))) else (some false))) else (some false)))) else (if a0_0 = 1 then (if a0_0 = 2 then (if t247 = true then (if (t248 == true) = true then ((draw_Fits.f a0_0 a0_1 (IntKind.u64.wrap (a0_2 + 1)) a1 a2).bind fun t259 => (some (t259 == t248))) else (some false)) else (some false)) else (if t247 = true then (if (t248 == (a0_0 == 3)) = true then ((draw_Fits.f a0_0 a0_1 (IntKind.u64.wrap (a0_2 + 1)) a1 a2).bind fun t260 => (some (t260 == t248))) else (some false)) else (some false))) else (if a0_0 = 2 then (if t247 = true then (if (t248 == true) = true then ((draw_Fits.f a0_0 a0_1 (IntKind.u64.wrap (a0_2 + 1)) a1 a2).bind fun t261 => (some (t261 == t248))) else (some false)) else (some false)) else (if t247 = true then (if (t248 == (a0_0 == 3)) = true then ((draw_Fits.f a0_0 a0_1 (IntKind.u64.wrap (a0_2 + 1)) a1 a2).bind fun t262 => (some (t262 == t248))) else (some false)) else (some false))))) else (if a0_0 = 1 then (if a0_1 ≥ 0 then (if a0_0 = 2 then (if t247 = true then (if a0_1 < a2 then (if (t248 == true) = true then ((draw_Fits.f a0_0 a0_1 (IntKind.u64.wrap (a0_2 + 1)) a1 a2).bind fun t263 => (some (t263 == t248))) else (some false)) else (if (t248 == true) = true then ((draw_Fits.f a0_0 a0_1 (IntKind.u64.wrap (a0_2 + 1)) a1 a2).bind fun t264 => (some (t264 == t248))) else (some false))) else (some false)) else (if t247 = true then (if a0_1 < a2 then (if (t248 == true) = true then ((draw_Fits.f a0_0 a0_1 (IntKind.u64.wrap (a0_2 + 1)) a1 a2).bind fun t265 => (some (t265 == t248))) else (some false)) else (if (t248 == (a0_0 == 3)) = true then ((draw_Fits.f a0_0 a0_1 (IntKind.u64.wrap (a0_2 + 1)) a1 a2).bind fun t266 => (some (t266 == t248))) else (some false))) else (some false))) else (if a0_0 = 2 then (if t247 = true then (if (t248 == true) = true then ((draw_Fits.f a0_0 a0_1 (IntKind.u64.wrap (a0_2 + 1)) a1 a2).bind fun t267 => (some (t267 == t248))) else (some false)) else (some false)) else (if t247 = true then (if (t248 == (a0_0 == 3)) = true then ((draw_Fits.f a0_0 a0_1 (IntKind.u64.wrap (a0_2 + 1)) a1 a2).bind fun t268 => (some (t268 == t248))) else (some false)) else (some false)))) else (if a0_0 = 2 then (if t247 = true then (if (t248 == true) = true then ((draw_Fits.f a0_0 a0_1 (IntKind.u64.wrap (a0_2 + 1)) a1 a2).bind fun t269 => (some (t269 == t248))) else (some false)) else (some false)) else (if t247 = true then (if (t248 == (a0_0 == 3)) = true then ((draw_Fits.f a0_0 a0_1 (IntKind.u64.wrap (a0_2 + 1)) a1 a2).bind fun t270 => (some (t270 == t248))) else (some false)) else (some false))))))
theorem poacherlaw05_DrawFits.mono : ∀ a0 a1 a2 a3 a4 k, LeO (poacherlaw05_DrawFits.f k a0 a1 a2 a3 a4) (poacherlaw05_DrawFits.f (k + 1) a0 a1 a2 a3 a4) := by
  intro a0 a1 a2 a3 a4 k
  unfold poacherlaw05_DrawFits.f
  repeat' first
      | (with_reducible exact poacherlaw05_awake.mono _)
      | (with_reducible exact LeO.refl _)
      | (with_reducible exact LeO.none _)
      | (with_reducible refine LeO.ite ?_ ?_)
      | (with_reducible refine LeO.bind ?_ (fun _ => ?_))
      | exact poacherlaw05_awake.mono _
      | exact LeO.none _
      | refine LeO.ite ?_ ?_
      | refine LeO.bind ?_ (fun _ => ?_)
set_option maxHeartbeats 8000000 in
set_option maxRecDepth 100000 in
theorem poacherlaw05_DrawFits.calls (k : Nat) (a0_0 : Int) (a0_1 : Int) (a0_2 : Int) (a1 : Int) (a2 : Int) (r : Bool) (w : World) (hr_ : Aside0 (r = true)) (h : poacherlaw05_DrawFits.f k a0_0 a0_1 a0_2 a1 a2 = some r) :
    Calls Try.prog 9 #[.agg #[.int .i64 a0_0, .int .i64 a0_1, .int .u64 a0_2], .int .i64 a1, .int .i64 a2] w fun e w' => e = .returned (.bool r) ∧ Below w.heap.size w w' := by
  have hu25 := Try.underlying25
  have HB := Aside0.mk (Below.refl w.heap.size w)
  have H : ((poacherlaw05_awake.f k).bind fun t247 => ((draw_Fits.f a0_0 a0_1 a0_2 a1 a2).bind fun t248 => (if a0_0 = 0 then (if a0_1 ≥ 0 then (if a0_0 = 1 then (if a0_0 = 2 then (if t247 = true then (if a0_1 < a1 then (if (t248 == true) = true then ((draw_Fits.f a0_0 a0_1 (IntKind.u64.wrap (a0_2 + 1)) a1 a2).bind fun t249 => (some (t249 == t248))) else (some false)) else (if a0_1 < a2 then (if (t248 == true) = true then ((draw_Fits.f a0_0 a0_1 (IntKind.u64.wrap (a0_2 + 1)) a1 a2).bind fun t250 => (some (t250 == t248))) else (some false)) else (if (t248 == true) = true then ((draw_Fits.f a0_0 a0_1 (IntKind.u64.wrap (a0_2 + 1)) a1 a2).bind fun t251 => (some (t251 == t248))) else (some false)))) else (some false)) else (if t247 = true then (if a0_1 < a1 then (if (t248 == true) = true then ((draw_Fits.f a0_0 a0_1 (IntKind.u64.wrap (a0_2 + 1)) a1 a2).bind fun t252 => (some (t252 == t248))) else (some false)) else (if a0_1 < a2 then (if (t248 == true) = true then ((draw_Fits.f a0_0 a0_1 (IntKind.u64.wrap (a0_2 + 1)) a1 a2).bind fun t253 => (some (t253 == t248))) else (some false)) else (if (t248 == (a0_0 == 3)) = true then ((draw_Fits.f a0_0 a0_1 (IntKind.u64.wrap (a0_2 + 1)) a1 a2).bind fun t254 => (some (t254 == t248))) else (some false)))) else (some false))) else (if a0_0 = 2 then (if t247 = true then (if a0_1 < a1 then (if (t248 == true) = true then ((draw_Fits.f a0_0 a0_1 (IntKind.u64.wrap (a0_2 + 1)) a1 a2).bind fun t255 => (some (t255 == t248))) else (some false)) else (if (t248 == true) = true then ((draw_Fits.f a0_0 a0_1 (IntKind.u64.wrap (a0_2 + 1)) a1 a2).bind fun t256 => (some (t256 == t248))) else (some false))) else (some false)) else (if t247 = true then (if a0_1 < a1 then (if (t248 == true) = true then ((draw_Fits.f a0_0 a0_1 (IntKind.u64.wrap (a0_2 + 1)) a1 a2).bind fun t257 => (some (t257 == t248))) else (some false)) else (if (t248 == (a0_0 == 3)) = true then ((draw_Fits.f a0_0 a0_1 (IntKind.u64.wrap (a0_2 + 1)) a1 a2).bind fun t258 => (some (t258 == t248))) else (some false))) else (some false)))) else (if a0_0 = 1 then (if a0_0 = 2 then (if t247 = true then (if (t248 == true) = true then ((draw_Fits.f a0_0 a0_1 (IntKind.u64.wrap (a0_2 + 1)) a1 a2).bind fun t259 => (some (t259 == t248))) else (some false)) else (some false)) else (if t247 = true then (if (t248 == (a0_0 == 3)) = true then ((draw_Fits.f a0_0 a0_1 (IntKind.u64.wrap (a0_2 + 1)) a1 a2).bind fun t260 => (some (t260 == t248))) else (some false)) else (some false))) else (if a0_0 = 2 then (if t247 = true then (if (t248 == true) = true then ((draw_Fits.f a0_0 a0_1 (IntKind.u64.wrap (a0_2 + 1)) a1 a2).bind fun t261 => (some (t261 == t248))) else (some false)) else (some false)) else (if t247 = true then (if (t248 == (a0_0 == 3)) = true then ((draw_Fits.f a0_0 a0_1 (IntKind.u64.wrap (a0_2 + 1)) a1 a2).bind fun t262 => (some (t262 == t248))) else (some false)) else (some false))))) else (if a0_0 = 1 then (if a0_1 ≥ 0 then (if a0_0 = 2 then (if t247 = true then (if a0_1 < a2 then (if (t248 == true) = true then ((draw_Fits.f a0_0 a0_1 (IntKind.u64.wrap (a0_2 + 1)) a1 a2).bind fun t263 => (some (t263 == t248))) else (some false)) else (if (t248 == true) = true then ((draw_Fits.f a0_0 a0_1 (IntKind.u64.wrap (a0_2 + 1)) a1 a2).bind fun t264 => (some (t264 == t248))) else (some false))) else (some false)) else (if t247 = true then (if a0_1 < a2 then (if (t248 == true) = true then ((draw_Fits.f a0_0 a0_1 (IntKind.u64.wrap (a0_2 + 1)) a1 a2).bind fun t265 => (some (t265 == t248))) else (some false)) else (if (t248 == (a0_0 == 3)) = true then ((draw_Fits.f a0_0 a0_1 (IntKind.u64.wrap (a0_2 + 1)) a1 a2).bind fun t266 => (some (t266 == t248))) else (some false))) else (some false))) else (if a0_0 = 2 then (if t247 = true then (if (t248 == true) = true then ((draw_Fits.f a0_0 a0_1 (IntKind.u64.wrap (a0_2 + 1)) a1 a2).bind fun t267 => (some (t267 == t248))) else (some false)) else (some false)) else (if t247 = true then (if (t248 == (a0_0 == 3)) = true then ((draw_Fits.f a0_0 a0_1 (IntKind.u64.wrap (a0_2 + 1)) a1 a2).bind fun t268 => (some (t268 == t248))) else (some false)) else (some false)))) else (if a0_0 = 2 then (if t247 = true then (if (t248 == true) = true then ((draw_Fits.f a0_0 a0_1 (IntKind.u64.wrap (a0_2 + 1)) a1 a2).bind fun t269 => (some (t269 == t248))) else (some false)) else (some false)) else (if t247 = true then (if (t248 == (a0_0 == 3)) = true then ((draw_Fits.f a0_0 a0_1 (IntKind.u64.wrap (a0_2 + 1)) a1 a2).bind fun t270 => (some (t270 == t248))) else (some false)) else (some false))))))) = some r := h
  clear h
  replace H := Option.bind_eq_some_iff.mp H
  obtain ⟨t247, A40, H⟩ := H
  replace H : ((draw_Fits.f a0_0 a0_1 a0_2 a1 a2).bind fun t248 => (if a0_0 = 0 then (if a0_1 ≥ 0 then (if a0_0 = 1 then (if a0_0 = 2 then (if t247 = true then (if a0_1 < a1 then (if (t248 == true) = true then ((draw_Fits.f a0_0 a0_1 (IntKind.u64.wrap (a0_2 + 1)) a1 a2).bind fun t249 => (some (t249 == t248))) else (some false)) else (if a0_1 < a2 then (if (t248 == true) = true then ((draw_Fits.f a0_0 a0_1 (IntKind.u64.wrap (a0_2 + 1)) a1 a2).bind fun t250 => (some (t250 == t248))) else (some false)) else (if (t248 == true) = true then ((draw_Fits.f a0_0 a0_1 (IntKind.u64.wrap (a0_2 + 1)) a1 a2).bind fun t251 => (some (t251 == t248))) else (some false)))) else (some false)) else (if t247 = true then (if a0_1 < a1 then (if (t248 == true) = true then ((draw_Fits.f a0_0 a0_1 (IntKind.u64.wrap (a0_2 + 1)) a1 a2).bind fun t252 => (some (t252 == t248))) else (some false)) else (if a0_1 < a2 then (if (t248 == true) = true then ((draw_Fits.f a0_0 a0_1 (IntKind.u64.wrap (a0_2 + 1)) a1 a2).bind fun t253 => (some (t253 == t248))) else (some false)) else (if (t248 == (a0_0 == 3)) = true then ((draw_Fits.f a0_0 a0_1 (IntKind.u64.wrap (a0_2 + 1)) a1 a2).bind fun t254 => (some (t254 == t248))) else (some false)))) else (some false))) else (if a0_0 = 2 then (if t247 = true then (if a0_1 < a1 then (if (t248 == true) = true then ((draw_Fits.f a0_0 a0_1 (IntKind.u64.wrap (a0_2 + 1)) a1 a2).bind fun t255 => (some (t255 == t248))) else (some false)) else (if (t248 == true) = true then ((draw_Fits.f a0_0 a0_1 (IntKind.u64.wrap (a0_2 + 1)) a1 a2).bind fun t256 => (some (t256 == t248))) else (some false))) else (some false)) else (if t247 = true then (if a0_1 < a1 then (if (t248 == true) = true then ((draw_Fits.f a0_0 a0_1 (IntKind.u64.wrap (a0_2 + 1)) a1 a2).bind fun t257 => (some (t257 == t248))) else (some false)) else (if (t248 == (a0_0 == 3)) = true then ((draw_Fits.f a0_0 a0_1 (IntKind.u64.wrap (a0_2 + 1)) a1 a2).bind fun t258 => (some (t258 == t248))) else (some false))) else (some false)))) else (if a0_0 = 1 then (if a0_0 = 2 then (if t247 = true then (if (t248 == true) = true then ((draw_Fits.f a0_0 a0_1 (IntKind.u64.wrap (a0_2 + 1)) a1 a2).bind fun t259 => (some (t259 == t248))) else (some false)) else (some false)) else (if t247 = true then (if (t248 == (a0_0 == 3)) = true then ((draw_Fits.f a0_0 a0_1 (IntKind.u64.wrap (a0_2 + 1)) a1 a2).bind fun t260 => (some (t260 == t248))) else (some false)) else (some false))) else (if a0_0 = 2 then (if t247 = true then (if (t248 == true) = true then ((draw_Fits.f a0_0 a0_1 (IntKind.u64.wrap (a0_2 + 1)) a1 a2).bind fun t261 => (some (t261 == t248))) else (some false)) else (some false)) else (if t247 = true then (if (t248 == (a0_0 == 3)) = true then ((draw_Fits.f a0_0 a0_1 (IntKind.u64.wrap (a0_2 + 1)) a1 a2).bind fun t262 => (some (t262 == t248))) else (some false)) else (some false))))) else (if a0_0 = 1 then (if a0_1 ≥ 0 then (if a0_0 = 2 then (if t247 = true then (if a0_1 < a2 then (if (t248 == true) = true then ((draw_Fits.f a0_0 a0_1 (IntKind.u64.wrap (a0_2 + 1)) a1 a2).bind fun t263 => (some (t263 == t248))) else (some false)) else (if (t248 == true) = true then ((draw_Fits.f a0_0 a0_1 (IntKind.u64.wrap (a0_2 + 1)) a1 a2).bind fun t264 => (some (t264 == t248))) else (some false))) else (some false)) else (if t247 = true then (if a0_1 < a2 then (if (t248 == true) = true then ((draw_Fits.f a0_0 a0_1 (IntKind.u64.wrap (a0_2 + 1)) a1 a2).bind fun t265 => (some (t265 == t248))) else (some false)) else (if (t248 == (a0_0 == 3)) = true then ((draw_Fits.f a0_0 a0_1 (IntKind.u64.wrap (a0_2 + 1)) a1 a2).bind fun t266 => (some (t266 == t248))) else (some false))) else (some false))) else (if a0_0 = 2 then (if t247 = true then (if (t248 == true) = true then ((draw_Fits.f a0_0 a0_1 (IntKind.u64.wrap (a0_2 + 1)) a1 a2).bind fun t267 => (some (t267 == t248))) else (some false)) else (some false)) else (if t247 = true then (if (t248 == (a0_0 == 3)) = true then ((draw_Fits.f a0_0 a0_1 (IntKind.u64.wrap (a0_2 + 1)) a1 a2).bind fun t268 => (some (t268 == t248))) else (some false)) else (some false)))) else (if a0_0 = 2 then (if t247 = true then (if (t248 == true) = true then ((draw_Fits.f a0_0 a0_1 (IntKind.u64.wrap (a0_2 + 1)) a1 a2).bind fun t269 => (some (t269 == t248))) else (some false)) else (some false)) else (if t247 = true then (if (t248 == (a0_0 == 3)) = true then ((draw_Fits.f a0_0 a0_1 (IntKind.u64.wrap (a0_2 + 1)) a1 a2).bind fun t270 => (some (t270 == t248))) else (some false)) else (some false)))))) = some r := H
  have A4 := Aside0.mk A40
  clear A40
  replace H := Option.bind_eq_some_iff.mp H
  obtain ⟨t248, A50, H⟩ := H
  replace H : (if a0_0 = 0 then (if a0_1 ≥ 0 then (if a0_0 = 1 then (if a0_0 = 2 then (if t247 = true then (if a0_1 < a1 then (if (t248 == true) = true then ((draw_Fits.f a0_0 a0_1 (IntKind.u64.wrap (a0_2 + 1)) a1 a2).bind fun t249 => (some (t249 == t248))) else (some false)) else (if a0_1 < a2 then (if (t248 == true) = true then ((draw_Fits.f a0_0 a0_1 (IntKind.u64.wrap (a0_2 + 1)) a1 a2).bind fun t250 => (some (t250 == t248))) else (some false)) else (if (t248 == true) = true then ((draw_Fits.f a0_0 a0_1 (IntKind.u64.wrap (a0_2 + 1)) a1 a2).bind fun t251 => (some (t251 == t248))) else (some false)))) else (some false)) else (if t247 = true then (if a0_1 < a1 then (if (t248 == true) = true then ((draw_Fits.f a0_0 a0_1 (IntKind.u64.wrap (a0_2 + 1)) a1 a2).bind fun t252 => (some (t252 == t248))) else (some false)) else (if a0_1 < a2 then (if (t248 == true) = true then ((draw_Fits.f a0_0 a0_1 (IntKind.u64.wrap (a0_2 + 1)) a1 a2).bind fun t253 => (some (t253 == t248))) else (some false)) else (if (t248 == (a0_0 == 3)) = true then ((draw_Fits.f a0_0 a0_1 (IntKind.u64.wrap (a0_2 + 1)) a1 a2).bind fun t254 => (some (t254 == t248))) else (some false)))) else (some false))) else (if a0_0 = 2 then (if t247 = true then (if a0_1 < a1 then (if (t248 == true) = true then ((draw_Fits.f a0_0 a0_1 (IntKind.u64.wrap (a0_2 + 1)) a1 a2).bind fun t255 => (some (t255 == t248))) else (some false)) else (if (t248 == true) = true then ((draw_Fits.f a0_0 a0_1 (IntKind.u64.wrap (a0_2 + 1)) a1 a2).bind fun t256 => (some (t256 == t248))) else (some false))) else (some false)) else (if t247 = true then (if a0_1 < a1 then (if (t248 == true) = true then ((draw_Fits.f a0_0 a0_1 (IntKind.u64.wrap (a0_2 + 1)) a1 a2).bind fun t257 => (some (t257 == t248))) else (some false)) else (if (t248 == (a0_0 == 3)) = true then ((draw_Fits.f a0_0 a0_1 (IntKind.u64.wrap (a0_2 + 1)) a1 a2).bind fun t258 => (some (t258 == t248))) else (some false))) else (some false)))) else (if a0_0 = 1 then (if a0_0 = 2 then (if t247 = true then (if (t248 == true) = true then ((draw_Fits.f a0_0 a0_1 (IntKind.u64.wrap (a0_2 + 1)) a1 a2).bind fun t259 => (some (t259 == t248))) else (some false)) else (some false)) else (if t247 = true then (if (t248 == (a0_0 == 3)) = true then ((draw_Fits.f a0_0 a0_1 (IntKind.u64.wrap (a0_2 + 1)) a1 a2).bind fun t260 => (some (t260 == t248))) else (some false)) else (some false))) else (if a0_0 = 2 then (if t247 = true then (if (t248 == true) = true then ((draw_Fits.f a0_0 a0_1 (IntKind.u64.wrap (a0_2 + 1)) a1 a2).bind fun t261 => (some (t261 == t248))) else (some false)) else (some false)) else (if t247 = true then (if (t248 == (a0_0 == 3)) = true then ((draw_Fits.f a0_0 a0_1 (IntKind.u64.wrap (a0_2 + 1)) a1 a2).bind fun t262 => (some (t262 == t248))) else (some false)) else (some false))))) else (if a0_0 = 1 then (if a0_1 ≥ 0 then (if a0_0 = 2 then (if t247 = true then (if a0_1 < a2 then (if (t248 == true) = true then ((draw_Fits.f a0_0 a0_1 (IntKind.u64.wrap (a0_2 + 1)) a1 a2).bind fun t263 => (some (t263 == t248))) else (some false)) else (if (t248 == true) = true then ((draw_Fits.f a0_0 a0_1 (IntKind.u64.wrap (a0_2 + 1)) a1 a2).bind fun t264 => (some (t264 == t248))) else (some false))) else (some false)) else (if t247 = true then (if a0_1 < a2 then (if (t248 == true) = true then ((draw_Fits.f a0_0 a0_1 (IntKind.u64.wrap (a0_2 + 1)) a1 a2).bind fun t265 => (some (t265 == t248))) else (some false)) else (if (t248 == (a0_0 == 3)) = true then ((draw_Fits.f a0_0 a0_1 (IntKind.u64.wrap (a0_2 + 1)) a1 a2).bind fun t266 => (some (t266 == t248))) else (some false))) else (some false))) else (if a0_0 = 2 then (if t247 = true then (if (t248 == true) = true then ((draw_Fits.f a0_0 a0_1 (IntKind.u64.wrap (a0_2 + 1)) a1 a2).bind fun t267 => (some (t267 == t248))) else (some false)) else (some false)) else (if t247 = true then (if (t248 == (a0_0 == 3)) = true then ((draw_Fits.f a0_0 a0_1 (IntKind.u64.wrap (a0_2 + 1)) a1 a2).bind fun t268 => (some (t268 == t248))) else (some false)) else (some false)))) else (if a0_0 = 2 then (if t247 = true then (if (t248 == true) = true then ((draw_Fits.f a0_0 a0_1 (IntKind.u64.wrap (a0_2 + 1)) a1 a2).bind fun t269 => (some (t269 == t248))) else (some false)) else (some false)) else (if t247 = true then (if (t248 == (a0_0 == 3)) = true then ((draw_Fits.f a0_0 a0_1 (IntKind.u64.wrap (a0_2 + 1)) a1 a2).bind fun t270 => (some (t270 == t248))) else (some false)) else (some false))))) = some r := H
  have A5 := Aside0.mk A50
  clear A50
  by_cases c6 : a0_0 = 0
  · rw [if_pos c6] at H
    have c6b0 : (a0_0 == 0) = true := beq_iff_eq.mpr c6
    have c6b1 : (a0_0 != 0) = false := bne_eq_false_iff_eq.mpr c6
    clear c6
    by_cases c7 : a0_1 ≥ 0
    · rw [if_pos c7] at H
      have c7b0 : decide (0 ≤ a0_1) = true := decide_eq_true c7
      clear c7
      by_cases c8 : a0_0 = 1
      · rw [if_pos c8] at H
        have c8b0 : (a0_0 == 1) = true := beq_iff_eq.mpr c8
        have c8b1 : (a0_0 != 1) = false := bne_eq_false_iff_eq.mpr c8
        clear c8
        by_cases c9 : a0_0 = 2
        · rw [if_pos c9] at H
          have c9b0 : (a0_0 == 2) = true := beq_iff_eq.mpr c9
          have c9b1 : (a0_0 != 2) = false := bne_eq_false_iff_eq.mpr c9
          clear c9
          by_cases c10 : t247 = true
          · subst c10
            have H1 : (if a0_1 < a1 then (if (t248 == true) = true then ((draw_Fits.f a0_0 a0_1 (IntKind.u64.wrap (a0_2 + 1)) a1 a2).bind fun t249 => (some (t249 == t248))) else (some false)) else (if a0_1 < a2 then (if (t248 == true) = true then ((draw_Fits.f a0_0 a0_1 (IntKind.u64.wrap (a0_2 + 1)) a1 a2).bind fun t250 => (some (t250 == t248))) else (some false)) else (if (t248 == true) = true then ((draw_Fits.f a0_0 a0_1 (IntKind.u64.wrap (a0_2 + 1)) a1 a2).bind fun t251 => (some (t251 == t248))) else (some false)))) = some r := by rw [if_pos rfl] at H; exact H
            clear H
            have H := H1
            clear H1
            by_cases c11 : a0_1 < a1
            · rw [if_pos c11] at H
              have c11b0 : decide (a0_1 < a1) = true := decide_eq_true c11
              clear c11
              by_cases c12 : (t248 == true) = true
              · rw [if_pos c12] at H
                have c12b0 : (t248 == true) = true := c12
                (try (have c12b1 : decide (t248 = true) = true := by simpa using c12))
                (try (have c12b2 : (t248 == true) = true := by simpa using c12))
                clear c12
                replace H := Option.bind_eq_some_iff.mp H
                obtain ⟨t249, A130, H⟩ := H
                replace H : (some (t249 == t248)) = some r := H
                have A13 := Aside0.mk A130
                clear A130
                obtain rfl := Option.some.inj H
                clear hr_
                go_enter Try.func9, Try.ntmps9
                go_wp2_with (first | ((with_reducible refine gate_dst (N := 3) rfl ?_); refine box_event ?hg (N := 3) ?hd (cs := #[.int .i64 a0_0, .int .i64 a0_1, .int .u64 a0_2]) (t := 25) ?hr ?_; (case hd => rfl); (case hg => rfl); (case hr => first | (go_simp; done) | (go_simp; rfl)); intro gb246 hg w14 hbox hb; have n0_ := Aside0.mk (below_step (by repeat (first | (with_reducible first | exact HB.out | apply below_alloc | apply pw_below_drewN | apply below_drew1) | exact HB.out)) hb); have n1_ := Aside0.mk (hbox); have n2_ := Aside0.mk ((by rw [hg]; exact (below_size (by repeat (first | (with_reducible first | exact HB.out | apply below_alloc | apply pw_below_drewN | apply below_drew1) | exact HB.out))) : w.heap.size ≤ gb246)); have n3_ := Aside0.mk ((by rw [hg]; exact (below_size (by repeat (first | (with_reducible first | exact HB.out | apply below_alloc | apply pw_below_drewN | apply below_drew1) | exact HB.out))) : w.heap.size ≤ gb246)); clear HB; have HB := n0_; have BK246 := n1_; have GW246 := n2_; have GE246 := n3_; clear n0_ n1_ n2_ n3_; clear hb hbox hg) | ((with_reducible refine gate_callee (f := 10) rfl ?_); refine goesL_ (some 12) rfl rfl Try.func10 (by kernel_rfl) rfl #[] rfl (by (try simp only [List.map_toArray, List.map_cons, List.map_nil]); first | done | rfl | (simp only [List.length_drop, List.length_take]; rfl)) ?_; (with_reducible refine (poacherlaw05_awake.calls k  true _ A4.out).mono ?_); (try clear A4); rintro e w15 ⟨rfl, hb⟩; refine ⟨_, rfl, ?_⟩; have n0_ := Aside0.mk (blk_below (g := gb246) (o := .cells #[.int .i64 a0_0, .int .i64 a0_1, .int .u64 a0_2] 25 (0, 0)) (by (with_reducible repeat (first | refine blk_drewN ?_ _ | refine blk_drew ?_ | refine blk_alloc ?_ _)); exact BK246.out) hb); have n1_ := Aside0.mk (below_step (by repeat (first | (with_reducible first | exact HB.out | apply below_alloc | apply pw_below_drewN | apply below_drew1 | refine below_set ?_ GE246.out) | exact HB.out)) hb); clear BK246; clear HB; have BK246 := n0_; have HB := n1_; clear n0_ n1_; (try clear hb); (try clear hb2); (try clear hk); (try clear hi); have hcz16_0 : w15.cell? ⟨gb246, 0, none⟩ = some (.int .i64 a0_0) := (blk_cell BK246.out 0).trans rfl; have hcz16_1 : w15.cell? ⟨gb246, 1, none⟩ = some (.int .i64 a0_1) := (blk_cell BK246.out 1).trans rfl; have hcz16_2 : w15.cell? ⟨gb246, 2, none⟩ = some (.int .u64 a0_2) := (blk_cell BK246.out 2).trans rfl; have hfz16_0 := blk_frozen BK246.out 0; have hfz16_1 := blk_frozen BK246.out 1; have hfz16_2 := blk_frozen BK246.out 2) | ((with_reducible refine gate_callee (f := 20) rfl ?_); refine goesL_ (some 16) rfl rfl Try.func20 (by kernel_rfl) rfl #[.agg #[.int .i64 a0_0, .int .i64 a0_1, .int .u64 a0_2], .int .i64 a1, .int .i64 a2] rfl (by (try simp only [List.map_toArray, List.map_cons, List.map_nil]); first | done | rfl | (simp only [List.length_drop, List.length_take]; rfl)) ?_; (with_reducible refine (draw_Fits.calls a0_0 a0_1 a0_2 a1 a2 t248 _ A5.out).mono ?_); (try clear A5); rintro e w17 ⟨rfl, hb⟩; refine ⟨_, rfl, ?_⟩; have n0_ := Aside0.mk (blk_below (g := gb246) (o := .cells #[.int .i64 a0_0, .int .i64 a0_1, .int .u64 a0_2] 25 (0, 0)) (by (with_reducible repeat (first | refine blk_drewN ?_ _ | refine blk_drew ?_ | refine blk_alloc ?_ _)); exact BK246.out) hb); have n1_ := Aside0.mk (below_step (by repeat (first | (with_reducible first | exact HB.out | apply below_alloc | apply pw_below_drewN | apply below_drew1 | refine below_set ?_ GE246.out) | exact HB.out)) hb); clear BK246; clear HB; have BK246 := n0_; have HB := n1_; clear n0_ n1_; (try clear hb); (try clear hb2); (try clear hk); (try clear hi); have hcz18_0 : w17.cell? ⟨gb246, 0, none⟩ = some (.int .i64 a0_0) := (blk_cell BK246.out 0).trans rfl; have hcz18_1 : w17.cell? ⟨gb246, 1, none⟩ = some (.int .i64 a0_1) := (blk_cell BK246.out 1).trans rfl; have hcz18_2 : w17.cell? ⟨gb246, 2, none⟩ = some (.int .u64 a0_2) := (blk_cell BK246.out 2).trans rfl; have hfz18_0 := blk_frozen BK246.out 0; have hfz18_1 := blk_frozen BK246.out 1; have hfz18_2 := blk_frozen BK246.out 2) | (go_at_call 20; (with_reducible refine (draw_Fits.calls a0_0 a0_1 (IntKind.u64.wrap (a0_2 + 1)) a1 a2 t249 _ A13.out).mono ?_); (try clear A13); rintro e w19 ⟨rfl, hb⟩; have n0_ := Aside0.mk (blk_below (g := gb246) (o := .cells #[.int .i64 a0_0, .int .i64 a0_1, .int .u64 (IntKind.u64.wrap (a0_2 + 1))] 25 (0, 0)) (by (with_reducible repeat (first | refine blk_drewN ?_ _ | refine blk_drew ?_ | refine blk_alloc ?_ _)); refine blk_put (cs := #[.int .i64 a0_0, .int .i64 a0_1, .int .u64 a0_2]) ?_ 2 _ rfl; (with_reducible repeat (first | refine blk_drewN ?_ _ | refine blk_drew ?_ | refine blk_alloc ?_ _)); exact BK246.out) hb); have n1_ := Aside0.mk (below_step (by repeat (first | (with_reducible first | exact HB.out | apply below_alloc | apply pw_below_drewN | apply below_drew1 | refine below_set ?_ GE246.out) | exact HB.out)) hb); clear BK246; clear HB; have BK246 := n0_; have HB := n1_; clear n0_ n1_; (try clear hb); (try clear hb2); (try clear hk); (try clear hi)))
                go_ret
                exact ⟨by first | rfl | (simp [errW_none, errW_some] <;> rfl) | (simp [*, errW_none, errW_some] <;> rfl), by repeat (first | (with_reducible first | exact HB.out | apply below_alloc | apply pw_below_drewN | apply below_drew1 | refine below_set ?_ GE246.out) | exact HB.out)⟩
              · rw [if_neg c12] at H
                have c12b0 : (t248 == true) = false := by simpa using c12
                (try (have c12b1 : decide (t248 = true) = false := by simpa using c12))
                (try (have c12b2 : (t248 == true) = false := by simpa using c12))
                (try (have c12b3 : ¬ (t248 = true) := by simpa using c12))
                clear c12
                exact absurd (H.trans (congrArg some hr_.out)) (by simp)
            · rw [if_neg c11] at H
              have c11b0 : decide (a0_1 < a1) = false := decide_eq_false c11
              clear c11
              by_cases c20 : a0_1 < a2
              · rw [if_pos c20] at H
                have c20b0 : decide (a0_1 < a2) = true := decide_eq_true c20
                clear c20
                by_cases c21 : (t248 == true) = true
                · rw [if_pos c21] at H
                  have c21b0 : (t248 == true) = true := c21
                  (try (have c21b1 : decide (t248 = true) = true := by simpa using c21))
                  (try (have c21b2 : (t248 == true) = true := by simpa using c21))
                  clear c21
                  replace H := Option.bind_eq_some_iff.mp H
                  obtain ⟨t250, A220, H⟩ := H
                  replace H : (some (t250 == t248)) = some r := H
                  have A22 := Aside0.mk A220
                  clear A220
                  obtain rfl := Option.some.inj H
                  clear hr_
                  go_enter Try.func9, Try.ntmps9
                  go_wp2_with (first | ((with_reducible refine gate_dst (N := 3) rfl ?_); refine box_event ?hg (N := 3) ?hd (cs := #[.int .i64 a0_0, .int .i64 a0_1, .int .u64 a0_2]) (t := 25) ?hr ?_; (case hd => rfl); (case hg => rfl); (case hr => first | (go_simp; done) | (go_simp; rfl)); intro gb246 hg w23 hbox hb; have n0_ := Aside0.mk (below_step (by repeat (first | (with_reducible first | exact HB.out | apply below_alloc | apply pw_below_drewN | apply below_drew1) | exact HB.out)) hb); have n1_ := Aside0.mk (hbox); have n2_ := Aside0.mk ((by rw [hg]; exact (below_size (by repeat (first | (with_reducible first | exact HB.out | apply below_alloc | apply pw_below_drewN | apply below_drew1) | exact HB.out))) : w.heap.size ≤ gb246)); have n3_ := Aside0.mk ((by rw [hg]; exact (below_size (by repeat (first | (with_reducible first | exact HB.out | apply below_alloc | apply pw_below_drewN | apply below_drew1) | exact HB.out))) : w.heap.size ≤ gb246)); clear HB; have HB := n0_; have BK246 := n1_; have GW246 := n2_; have GE246 := n3_; clear n0_ n1_ n2_ n3_; clear hb hbox hg) | ((with_reducible refine gate_callee (f := 10) rfl ?_); refine goesL_ (some 12) rfl rfl Try.func10 (by kernel_rfl) rfl #[] rfl (by (try simp only [List.map_toArray, List.map_cons, List.map_nil]); first | done | rfl | (simp only [List.length_drop, List.length_take]; rfl)) ?_; (with_reducible refine (poacherlaw05_awake.calls k  true _ A4.out).mono ?_); (try clear A4); rintro e w24 ⟨rfl, hb⟩; refine ⟨_, rfl, ?_⟩; have n0_ := Aside0.mk (blk_below (g := gb246) (o := .cells #[.int .i64 a0_0, .int .i64 a0_1, .int .u64 a0_2] 25 (0, 0)) (by (with_reducible repeat (first | refine blk_drewN ?_ _ | refine blk_drew ?_ | refine blk_alloc ?_ _)); exact BK246.out) hb); have n1_ := Aside0.mk (below_step (by repeat (first | (with_reducible first | exact HB.out | apply below_alloc | apply pw_below_drewN | apply below_drew1 | refine below_set ?_ GE246.out) | exact HB.out)) hb); clear BK246; clear HB; have BK246 := n0_; have HB := n1_; clear n0_ n1_; (try clear hb); (try clear hb2); (try clear hk); (try clear hi); have hcz25_0 : w24.cell? ⟨gb246, 0, none⟩ = some (.int .i64 a0_0) := (blk_cell BK246.out 0).trans rfl; have hcz25_1 : w24.cell? ⟨gb246, 1, none⟩ = some (.int .i64 a0_1) := (blk_cell BK246.out 1).trans rfl; have hcz25_2 : w24.cell? ⟨gb246, 2, none⟩ = some (.int .u64 a0_2) := (blk_cell BK246.out 2).trans rfl; have hfz25_0 := blk_frozen BK246.out 0; have hfz25_1 := blk_frozen BK246.out 1; have hfz25_2 := blk_frozen BK246.out 2) | ((with_reducible refine gate_callee (f := 20) rfl ?_); refine goesL_ (some 16) rfl rfl Try.func20 (by kernel_rfl) rfl #[.agg #[.int .i64 a0_0, .int .i64 a0_1, .int .u64 a0_2], .int .i64 a1, .int .i64 a2] rfl (by (try simp only [List.map_toArray, List.map_cons, List.map_nil]); first | done | rfl | (simp only [List.length_drop, List.length_take]; rfl)) ?_; (with_reducible refine (draw_Fits.calls a0_0 a0_1 a0_2 a1 a2 t248 _ A5.out).mono ?_); (try clear A5); rintro e w26 ⟨rfl, hb⟩; refine ⟨_, rfl, ?_⟩; have n0_ := Aside0.mk (blk_below (g := gb246) (o := .cells #[.int .i64 a0_0, .int .i64 a0_1, .int .u64 a0_2] 25 (0, 0)) (by (with_reducible repeat (first | refine blk_drewN ?_ _ | refine blk_drew ?_ | refine blk_alloc ?_ _)); exact BK246.out) hb); have n1_ := Aside0.mk (below_step (by repeat (first | (with_reducible first | exact HB.out | apply below_alloc | apply pw_below_drewN | apply below_drew1 | refine below_set ?_ GE246.out) | exact HB.out)) hb); clear BK246; clear HB; have BK246 := n0_; have HB := n1_; clear n0_ n1_; (try clear hb); (try clear hb2); (try clear hk); (try clear hi); have hcz27_0 : w26.cell? ⟨gb246, 0, none⟩ = some (.int .i64 a0_0) := (blk_cell BK246.out 0).trans rfl; have hcz27_1 : w26.cell? ⟨gb246, 1, none⟩ = some (.int .i64 a0_1) := (blk_cell BK246.out 1).trans rfl; have hcz27_2 : w26.cell? ⟨gb246, 2, none⟩ = some (.int .u64 a0_2) := (blk_cell BK246.out 2).trans rfl; have hfz27_0 := blk_frozen BK246.out 0; have hfz27_1 := blk_frozen BK246.out 1; have hfz27_2 := blk_frozen BK246.out 2) | (go_at_call 20; (with_reducible refine (draw_Fits.calls a0_0 a0_1 (IntKind.u64.wrap (a0_2 + 1)) a1 a2 t250 _ A22.out).mono ?_); (try clear A22); rintro e w28 ⟨rfl, hb⟩; have n0_ := Aside0.mk (blk_below (g := gb246) (o := .cells #[.int .i64 a0_0, .int .i64 a0_1, .int .u64 (IntKind.u64.wrap (a0_2 + 1))] 25 (0, 0)) (by (with_reducible repeat (first | refine blk_drewN ?_ _ | refine blk_drew ?_ | refine blk_alloc ?_ _)); refine blk_put (cs := #[.int .i64 a0_0, .int .i64 a0_1, .int .u64 a0_2]) ?_ 2 _ rfl; (with_reducible repeat (first | refine blk_drewN ?_ _ | refine blk_drew ?_ | refine blk_alloc ?_ _)); exact BK246.out) hb); have n1_ := Aside0.mk (below_step (by repeat (first | (with_reducible first | exact HB.out | apply below_alloc | apply pw_below_drewN | apply below_drew1 | refine below_set ?_ GE246.out) | exact HB.out)) hb); clear BK246; clear HB; have BK246 := n0_; have HB := n1_; clear n0_ n1_; (try clear hb); (try clear hb2); (try clear hk); (try clear hi)))
                  go_ret
                  exact ⟨by first | rfl | (simp [errW_none, errW_some] <;> rfl) | (simp [*, errW_none, errW_some] <;> rfl), by repeat (first | (with_reducible first | exact HB.out | apply below_alloc | apply pw_below_drewN | apply below_drew1 | refine below_set ?_ GE246.out) | exact HB.out)⟩
                · rw [if_neg c21] at H
                  have c21b0 : (t248 == true) = false := by simpa using c21
                  (try (have c21b1 : decide (t248 = true) = false := by simpa using c21))
                  (try (have c21b2 : (t248 == true) = false := by simpa using c21))
                  (try (have c21b3 : ¬ (t248 = true) := by simpa using c21))
                  clear c21
                  exact absurd (H.trans (congrArg some hr_.out)) (by simp)
              · rw [if_neg c20] at H
                have c20b0 : decide (a0_1 < a2) = false := decide_eq_false c20
                clear c20
                by_cases c29 : (t248 == true) = true
                · rw [if_pos c29] at H
                  have c29b0 : (t248 == true) = true := c29
                  (try (have c29b1 : decide (t248 = true) = true := by simpa using c29))
                  (try (have c29b2 : (t248 == true) = true := by simpa using c29))
                  clear c29
                  replace H := Option.bind_eq_some_iff.mp H
                  obtain ⟨t251, A300, H⟩ := H
                  replace H : (some (t251 == t248)) = some r := H
                  have A30 := Aside0.mk A300
                  clear A300
                  obtain rfl := Option.some.inj H
                  clear hr_
                  go_enter Try.func9, Try.ntmps9
                  go_wp2_with (first | ((with_reducible refine gate_dst (N := 3) rfl ?_); refine box_event ?hg (N := 3) ?hd (cs := #[.int .i64 a0_0, .int .i64 a0_1, .int .u64 a0_2]) (t := 25) ?hr ?_; (case hd => rfl); (case hg => rfl); (case hr => first | (go_simp; done) | (go_simp; rfl)); intro gb246 hg w31 hbox hb; have n0_ := Aside0.mk (below_step (by repeat (first | (with_reducible first | exact HB.out | apply below_alloc | apply pw_below_drewN | apply below_drew1) | exact HB.out)) hb); have n1_ := Aside0.mk (hbox); have n2_ := Aside0.mk ((by rw [hg]; exact (below_size (by repeat (first | (with_reducible first | exact HB.out | apply below_alloc | apply pw_below_drewN | apply below_drew1) | exact HB.out))) : w.heap.size ≤ gb246)); have n3_ := Aside0.mk ((by rw [hg]; exact (below_size (by repeat (first | (with_reducible first | exact HB.out | apply below_alloc | apply pw_below_drewN | apply below_drew1) | exact HB.out))) : w.heap.size ≤ gb246)); clear HB; have HB := n0_; have BK246 := n1_; have GW246 := n2_; have GE246 := n3_; clear n0_ n1_ n2_ n3_; clear hb hbox hg) | ((with_reducible refine gate_callee (f := 10) rfl ?_); refine goesL_ (some 12) rfl rfl Try.func10 (by kernel_rfl) rfl #[] rfl (by (try simp only [List.map_toArray, List.map_cons, List.map_nil]); first | done | rfl | (simp only [List.length_drop, List.length_take]; rfl)) ?_; (with_reducible refine (poacherlaw05_awake.calls k  true _ A4.out).mono ?_); (try clear A4); rintro e w32 ⟨rfl, hb⟩; refine ⟨_, rfl, ?_⟩; have n0_ := Aside0.mk (blk_below (g := gb246) (o := .cells #[.int .i64 a0_0, .int .i64 a0_1, .int .u64 a0_2] 25 (0, 0)) (by (with_reducible repeat (first | refine blk_drewN ?_ _ | refine blk_drew ?_ | refine blk_alloc ?_ _)); exact BK246.out) hb); have n1_ := Aside0.mk (below_step (by repeat (first | (with_reducible first | exact HB.out | apply below_alloc | apply pw_below_drewN | apply below_drew1 | refine below_set ?_ GE246.out) | exact HB.out)) hb); clear BK246; clear HB; have BK246 := n0_; have HB := n1_; clear n0_ n1_; (try clear hb); (try clear hb2); (try clear hk); (try clear hi); have hcz33_0 : w32.cell? ⟨gb246, 0, none⟩ = some (.int .i64 a0_0) := (blk_cell BK246.out 0).trans rfl; have hcz33_1 : w32.cell? ⟨gb246, 1, none⟩ = some (.int .i64 a0_1) := (blk_cell BK246.out 1).trans rfl; have hcz33_2 : w32.cell? ⟨gb246, 2, none⟩ = some (.int .u64 a0_2) := (blk_cell BK246.out 2).trans rfl; have hfz33_0 := blk_frozen BK246.out 0; have hfz33_1 := blk_frozen BK246.out 1; have hfz33_2 := blk_frozen BK246.out 2) | ((with_reducible refine gate_callee (f := 20) rfl ?_); refine goesL_ (some 16) rfl rfl Try.func20 (by kernel_rfl) rfl #[.agg #[.int .i64 a0_0, .int .i64 a0_1, .int .u64 a0_2], .int .i64 a1, .int .i64 a2] rfl (by (try simp only [List.map_toArray, List.map_cons, List.map_nil]); first | done | rfl | (simp only [List.length_drop, List.length_take]; rfl)) ?_; (with_reducible refine (draw_Fits.calls a0_0 a0_1 a0_2 a1 a2 t248 _ A5.out).mono ?_); (try clear A5); rintro e w34 ⟨rfl, hb⟩; refine ⟨_, rfl, ?_⟩; have n0_ := Aside0.mk (blk_below (g := gb246) (o := .cells #[.int .i64 a0_0, .int .i64 a0_1, .int .u64 a0_2] 25 (0, 0)) (by (with_reducible repeat (first | refine blk_drewN ?_ _ | refine blk_drew ?_ | refine blk_alloc ?_ _)); exact BK246.out) hb); have n1_ := Aside0.mk (below_step (by repeat (first | (with_reducible first | exact HB.out | apply below_alloc | apply pw_below_drewN | apply below_drew1 | refine below_set ?_ GE246.out) | exact HB.out)) hb); clear BK246; clear HB; have BK246 := n0_; have HB := n1_; clear n0_ n1_; (try clear hb); (try clear hb2); (try clear hk); (try clear hi); have hcz35_0 : w34.cell? ⟨gb246, 0, none⟩ = some (.int .i64 a0_0) := (blk_cell BK246.out 0).trans rfl; have hcz35_1 : w34.cell? ⟨gb246, 1, none⟩ = some (.int .i64 a0_1) := (blk_cell BK246.out 1).trans rfl; have hcz35_2 : w34.cell? ⟨gb246, 2, none⟩ = some (.int .u64 a0_2) := (blk_cell BK246.out 2).trans rfl; have hfz35_0 := blk_frozen BK246.out 0; have hfz35_1 := blk_frozen BK246.out 1; have hfz35_2 := blk_frozen BK246.out 2) | (go_at_call 20; (with_reducible refine (draw_Fits.calls a0_0 a0_1 (IntKind.u64.wrap (a0_2 + 1)) a1 a2 t251 _ A30.out).mono ?_); (try clear A30); rintro e w36 ⟨rfl, hb⟩; have n0_ := Aside0.mk (blk_below (g := gb246) (o := .cells #[.int .i64 a0_0, .int .i64 a0_1, .int .u64 (IntKind.u64.wrap (a0_2 + 1))] 25 (0, 0)) (by (with_reducible repeat (first | refine blk_drewN ?_ _ | refine blk_drew ?_ | refine blk_alloc ?_ _)); refine blk_put (cs := #[.int .i64 a0_0, .int .i64 a0_1, .int .u64 a0_2]) ?_ 2 _ rfl; (with_reducible repeat (first | refine blk_drewN ?_ _ | refine blk_drew ?_ | refine blk_alloc ?_ _)); exact BK246.out) hb); have n1_ := Aside0.mk (below_step (by repeat (first | (with_reducible first | exact HB.out | apply below_alloc | apply pw_below_drewN | apply below_drew1 | refine below_set ?_ GE246.out) | exact HB.out)) hb); clear BK246; clear HB; have BK246 := n0_; have HB := n1_; clear n0_ n1_; (try clear hb); (try clear hb2); (try clear hk); (try clear hi)))
                  go_ret
                  exact ⟨by first | rfl | (simp [errW_none, errW_some] <;> rfl) | (simp [*, errW_none, errW_some] <;> rfl), by repeat (first | (with_reducible first | exact HB.out | apply below_alloc | apply pw_below_drewN | apply below_drew1 | refine below_set ?_ GE246.out) | exact HB.out)⟩
                · rw [if_neg c29] at H
                  have c29b0 : (t248 == true) = false := by simpa using c29
                  (try (have c29b1 : decide (t248 = true) = false := by simpa using c29))
                  (try (have c29b2 : (t248 == true) = false := by simpa using c29))
                  (try (have c29b3 : ¬ (t248 = true) := by simpa using c29))
                  clear c29
                  exact absurd (H.trans (congrArg some hr_.out)) (by simp)
          · replace c10 := Bool.eq_false_iff.mpr c10
            subst c10
            have H1 : (some false) = some r := by rw [if_neg (show ¬ (false = true) by decide)] at H; exact H
            clear H
            have H := H1
            clear H1
            exact absurd (H.trans (congrArg some hr_.out)) (by simp)
        · rw [if_neg c9] at H
          have c9b0 : (a0_0 == 2) = false := beq_eq_false_iff_ne.mpr c9
          have c9b1 : (a0_0 != 2) = true := bne_iff_ne.mpr c9
          by_cases c37 : t247 = true
          · subst c37
            have H1 : (if a0_1 < a1 then (if (t248 == true) = true then ((draw_Fits.f a0_0 a0_1 (IntKind.u64.wrap (a0_2 + 1)) a1 a2).bind fun t252 => (some (t252 == t248))) else (some false)) else (if a0_1 < a2 then (if (t248 == true) = true then ((draw_Fits.f a0_0 a0_1 (IntKind.u64.wrap (a0_2 + 1)) a1 a2).bind fun t253 => (some (t253 == t248))) else (some false)) else (if (t248 == (a0_0 == 3)) = true then ((draw_Fits.f a0_0 a0_1 (IntKind.u64.wrap (a0_2 + 1)) a1 a2).bind fun t254 => (some (t254 == t248))) else (some false)))) = some r := by rw [if_pos rfl] at H; exact H
            clear H
            have H := H1
            clear H1
            by_cases c38 : a0_1 < a1
            · rw [if_pos c38] at H
              have c38b0 : decide (a0_1 < a1) = true := decide_eq_true c38
              clear c38
              by_cases c39 : (t248 == true) = true
              · rw [if_pos c39] at H
                have c39b0 : (t248 == true) = true := c39
                (try (have c39b1 : decide (t248 = true) = true := by simpa using c39))
                (try (have c39b2 : (t248 == true) = true := by simpa using c39))
                clear c39
                replace H := Option.bind_eq_some_iff.mp H
                obtain ⟨t252, A400, H⟩ := H
                replace H : (some (t252 == t248)) = some r := H
                have A40 := Aside0.mk A400
                clear A400
                obtain rfl := Option.some.inj H
                clear hr_
                go_enter Try.func9, Try.ntmps9
                go_wp2_with (first | ((with_reducible refine gate_dst (N := 3) rfl ?_); refine box_event ?hg (N := 3) ?hd (cs := #[.int .i64 a0_0, .int .i64 a0_1, .int .u64 a0_2]) (t := 25) ?hr ?_; (case hd => rfl); (case hg => rfl); (case hr => first | (go_simp; done) | (go_simp; rfl)); intro gb246 hg w41 hbox hb; have n0_ := Aside0.mk (below_step (by repeat (first | (with_reducible first | exact HB.out | apply below_alloc | apply pw_below_drewN | apply below_drew1) | exact HB.out)) hb); have n1_ := Aside0.mk (hbox); have n2_ := Aside0.mk ((by rw [hg]; exact (below_size (by repeat (first | (with_reducible first | exact HB.out | apply below_alloc | apply pw_below_drewN | apply below_drew1) | exact HB.out))) : w.heap.size ≤ gb246)); have n3_ := Aside0.mk ((by rw [hg]; exact (below_size (by repeat (first | (with_reducible first | exact HB.out | apply below_alloc | apply pw_below_drewN | apply below_drew1) | exact HB.out))) : w.heap.size ≤ gb246)); clear HB; have HB := n0_; have BK246 := n1_; have GW246 := n2_; have GE246 := n3_; clear n0_ n1_ n2_ n3_; clear hb hbox hg) | ((with_reducible refine gate_callee (f := 10) rfl ?_); refine goesL_ (some 12) rfl rfl Try.func10 (by kernel_rfl) rfl #[] rfl (by (try simp only [List.map_toArray, List.map_cons, List.map_nil]); first | done | rfl | (simp only [List.length_drop, List.length_take]; rfl)) ?_; (with_reducible refine (poacherlaw05_awake.calls k  true _ A4.out).mono ?_); (try clear A4); rintro e w42 ⟨rfl, hb⟩; refine ⟨_, rfl, ?_⟩; have n0_ := Aside0.mk (blk_below (g := gb246) (o := .cells #[.int .i64 a0_0, .int .i64 a0_1, .int .u64 a0_2] 25 (0, 0)) (by (with_reducible repeat (first | refine blk_drewN ?_ _ | refine blk_drew ?_ | refine blk_alloc ?_ _)); exact BK246.out) hb); have n1_ := Aside0.mk (below_step (by repeat (first | (with_reducible first | exact HB.out | apply below_alloc | apply pw_below_drewN | apply below_drew1 | refine below_set ?_ GE246.out) | exact HB.out)) hb); clear BK246; clear HB; have BK246 := n0_; have HB := n1_; clear n0_ n1_; (try clear hb); (try clear hb2); (try clear hk); (try clear hi); have hcz43_0 : w42.cell? ⟨gb246, 0, none⟩ = some (.int .i64 a0_0) := (blk_cell BK246.out 0).trans rfl; have hcz43_1 : w42.cell? ⟨gb246, 1, none⟩ = some (.int .i64 a0_1) := (blk_cell BK246.out 1).trans rfl; have hcz43_2 : w42.cell? ⟨gb246, 2, none⟩ = some (.int .u64 a0_2) := (blk_cell BK246.out 2).trans rfl; have hfz43_0 := blk_frozen BK246.out 0; have hfz43_1 := blk_frozen BK246.out 1; have hfz43_2 := blk_frozen BK246.out 2) | ((with_reducible refine gate_callee (f := 20) rfl ?_); refine goesL_ (some 16) rfl rfl Try.func20 (by kernel_rfl) rfl #[.agg #[.int .i64 a0_0, .int .i64 a0_1, .int .u64 a0_2], .int .i64 a1, .int .i64 a2] rfl (by (try simp only [List.map_toArray, List.map_cons, List.map_nil]); first | done | rfl | (simp only [List.length_drop, List.length_take]; rfl)) ?_; (with_reducible refine (draw_Fits.calls a0_0 a0_1 a0_2 a1 a2 t248 _ A5.out).mono ?_); (try clear A5); rintro e w44 ⟨rfl, hb⟩; refine ⟨_, rfl, ?_⟩; have n0_ := Aside0.mk (blk_below (g := gb246) (o := .cells #[.int .i64 a0_0, .int .i64 a0_1, .int .u64 a0_2] 25 (0, 0)) (by (with_reducible repeat (first | refine blk_drewN ?_ _ | refine blk_drew ?_ | refine blk_alloc ?_ _)); exact BK246.out) hb); have n1_ := Aside0.mk (below_step (by repeat (first | (with_reducible first | exact HB.out | apply below_alloc | apply pw_below_drewN | apply below_drew1 | refine below_set ?_ GE246.out) | exact HB.out)) hb); clear BK246; clear HB; have BK246 := n0_; have HB := n1_; clear n0_ n1_; (try clear hb); (try clear hb2); (try clear hk); (try clear hi); have hcz45_0 : w44.cell? ⟨gb246, 0, none⟩ = some (.int .i64 a0_0) := (blk_cell BK246.out 0).trans rfl; have hcz45_1 : w44.cell? ⟨gb246, 1, none⟩ = some (.int .i64 a0_1) := (blk_cell BK246.out 1).trans rfl; have hcz45_2 : w44.cell? ⟨gb246, 2, none⟩ = some (.int .u64 a0_2) := (blk_cell BK246.out 2).trans rfl; have hfz45_0 := blk_frozen BK246.out 0; have hfz45_1 := blk_frozen BK246.out 1; have hfz45_2 := blk_frozen BK246.out 2) | (go_at_call 20; (with_reducible refine (draw_Fits.calls a0_0 a0_1 (IntKind.u64.wrap (a0_2 + 1)) a1 a2 t252 _ A40.out).mono ?_); (try clear A40); rintro e w46 ⟨rfl, hb⟩; have n0_ := Aside0.mk (blk_below (g := gb246) (o := .cells #[.int .i64 a0_0, .int .i64 a0_1, .int .u64 (IntKind.u64.wrap (a0_2 + 1))] 25 (0, 0)) (by (with_reducible repeat (first | refine blk_drewN ?_ _ | refine blk_drew ?_ | refine blk_alloc ?_ _)); refine blk_put (cs := #[.int .i64 a0_0, .int .i64 a0_1, .int .u64 a0_2]) ?_ 2 _ rfl; (with_reducible repeat (first | refine blk_drewN ?_ _ | refine blk_drew ?_ | refine blk_alloc ?_ _)); exact BK246.out) hb); have n1_ := Aside0.mk (below_step (by repeat (first | (with_reducible first | exact HB.out | apply below_alloc | apply pw_below_drewN | apply below_drew1 | refine below_set ?_ GE246.out) | exact HB.out)) hb); clear BK246; clear HB; have BK246 := n0_; have HB := n1_; clear n0_ n1_; (try clear hb); (try clear hb2); (try clear hk); (try clear hi)))
                go_ret
                exact ⟨by first | rfl | (simp [errW_none, errW_some] <;> rfl) | (simp [*, errW_none, errW_some] <;> rfl), by repeat (first | (with_reducible first | exact HB.out | apply below_alloc | apply pw_below_drewN | apply below_drew1 | refine below_set ?_ GE246.out) | exact HB.out)⟩
              · rw [if_neg c39] at H
                have c39b0 : (t248 == true) = false := by simpa using c39
                (try (have c39b1 : decide (t248 = true) = false := by simpa using c39))
                (try (have c39b2 : (t248 == true) = false := by simpa using c39))
                (try (have c39b3 : ¬ (t248 = true) := by simpa using c39))
                clear c39
                exact absurd (H.trans (congrArg some hr_.out)) (by simp)
            · rw [if_neg c38] at H
              have c38b0 : decide (a0_1 < a1) = false := decide_eq_false c38
              clear c38
              by_cases c47 : a0_1 < a2
              · rw [if_pos c47] at H
                have c47b0 : decide (a0_1 < a2) = true := decide_eq_true c47
                clear c47
                by_cases c48 : (t248 == true) = true
                · rw [if_pos c48] at H
                  have c48b0 : (t248 == true) = true := c48
                  (try (have c48b1 : decide (t248 = true) = true := by simpa using c48))
                  (try (have c48b2 : (t248 == true) = true := by simpa using c48))
                  clear c48
                  replace H := Option.bind_eq_some_iff.mp H
                  obtain ⟨t253, A490, H⟩ := H
                  replace H : (some (t253 == t248)) = some r := H
                  have A49 := Aside0.mk A490
                  clear A490
                  obtain rfl := Option.some.inj H
                  clear hr_
                  go_enter Try.func9, Try.ntmps9
                  go_wp2_with (first | ((with_reducible refine gate_dst (N := 3) rfl ?_); refine box_event ?hg (N := 3) ?hd (cs := #[.int .i64 a0_0, .int .i64 a0_1, .int .u64 a0_2]) (t := 25) ?hr ?_; (case hd => rfl); (case hg => rfl); (case hr => first | (go_simp; done) | (go_simp; rfl)); intro gb246 hg w50 hbox hb; have n0_ := Aside0.mk (below_step (by repeat (first | (with_reducible first | exact HB.out | apply below_alloc | apply pw_below_drewN | apply below_drew1) | exact HB.out)) hb); have n1_ := Aside0.mk (hbox); have n2_ := Aside0.mk ((by rw [hg]; exact (below_size (by repeat (first | (with_reducible first | exact HB.out | apply below_alloc | apply pw_below_drewN | apply below_drew1) | exact HB.out))) : w.heap.size ≤ gb246)); have n3_ := Aside0.mk ((by rw [hg]; exact (below_size (by repeat (first | (with_reducible first | exact HB.out | apply below_alloc | apply pw_below_drewN | apply below_drew1) | exact HB.out))) : w.heap.size ≤ gb246)); clear HB; have HB := n0_; have BK246 := n1_; have GW246 := n2_; have GE246 := n3_; clear n0_ n1_ n2_ n3_; clear hb hbox hg) | ((with_reducible refine gate_callee (f := 10) rfl ?_); refine goesL_ (some 12) rfl rfl Try.func10 (by kernel_rfl) rfl #[] rfl (by (try simp only [List.map_toArray, List.map_cons, List.map_nil]); first | done | rfl | (simp only [List.length_drop, List.length_take]; rfl)) ?_; (with_reducible refine (poacherlaw05_awake.calls k  true _ A4.out).mono ?_); (try clear A4); rintro e w51 ⟨rfl, hb⟩; refine ⟨_, rfl, ?_⟩; have n0_ := Aside0.mk (blk_below (g := gb246) (o := .cells #[.int .i64 a0_0, .int .i64 a0_1, .int .u64 a0_2] 25 (0, 0)) (by (with_reducible repeat (first | refine blk_drewN ?_ _ | refine blk_drew ?_ | refine blk_alloc ?_ _)); exact BK246.out) hb); have n1_ := Aside0.mk (below_step (by repeat (first | (with_reducible first | exact HB.out | apply below_alloc | apply pw_below_drewN | apply below_drew1 | refine below_set ?_ GE246.out) | exact HB.out)) hb); clear BK246; clear HB; have BK246 := n0_; have HB := n1_; clear n0_ n1_; (try clear hb); (try clear hb2); (try clear hk); (try clear hi); have hcz52_0 : w51.cell? ⟨gb246, 0, none⟩ = some (.int .i64 a0_0) := (blk_cell BK246.out 0).trans rfl; have hcz52_1 : w51.cell? ⟨gb246, 1, none⟩ = some (.int .i64 a0_1) := (blk_cell BK246.out 1).trans rfl; have hcz52_2 : w51.cell? ⟨gb246, 2, none⟩ = some (.int .u64 a0_2) := (blk_cell BK246.out 2).trans rfl; have hfz52_0 := blk_frozen BK246.out 0; have hfz52_1 := blk_frozen BK246.out 1; have hfz52_2 := blk_frozen BK246.out 2) | ((with_reducible refine gate_callee (f := 20) rfl ?_); refine goesL_ (some 16) rfl rfl Try.func20 (by kernel_rfl) rfl #[.agg #[.int .i64 a0_0, .int .i64 a0_1, .int .u64 a0_2], .int .i64 a1, .int .i64 a2] rfl (by (try simp only [List.map_toArray, List.map_cons, List.map_nil]); first | done | rfl | (simp only [List.length_drop, List.length_take]; rfl)) ?_; (with_reducible refine (draw_Fits.calls a0_0 a0_1 a0_2 a1 a2 t248 _ A5.out).mono ?_); (try clear A5); rintro e w53 ⟨rfl, hb⟩; refine ⟨_, rfl, ?_⟩; have n0_ := Aside0.mk (blk_below (g := gb246) (o := .cells #[.int .i64 a0_0, .int .i64 a0_1, .int .u64 a0_2] 25 (0, 0)) (by (with_reducible repeat (first | refine blk_drewN ?_ _ | refine blk_drew ?_ | refine blk_alloc ?_ _)); exact BK246.out) hb); have n1_ := Aside0.mk (below_step (by repeat (first | (with_reducible first | exact HB.out | apply below_alloc | apply pw_below_drewN | apply below_drew1 | refine below_set ?_ GE246.out) | exact HB.out)) hb); clear BK246; clear HB; have BK246 := n0_; have HB := n1_; clear n0_ n1_; (try clear hb); (try clear hb2); (try clear hk); (try clear hi); have hcz54_0 : w53.cell? ⟨gb246, 0, none⟩ = some (.int .i64 a0_0) := (blk_cell BK246.out 0).trans rfl; have hcz54_1 : w53.cell? ⟨gb246, 1, none⟩ = some (.int .i64 a0_1) := (blk_cell BK246.out 1).trans rfl; have hcz54_2 : w53.cell? ⟨gb246, 2, none⟩ = some (.int .u64 a0_2) := (blk_cell BK246.out 2).trans rfl; have hfz54_0 := blk_frozen BK246.out 0; have hfz54_1 := blk_frozen BK246.out 1; have hfz54_2 := blk_frozen BK246.out 2) | (go_at_call 20; (with_reducible refine (draw_Fits.calls a0_0 a0_1 (IntKind.u64.wrap (a0_2 + 1)) a1 a2 t253 _ A49.out).mono ?_); (try clear A49); rintro e w55 ⟨rfl, hb⟩; have n0_ := Aside0.mk (blk_below (g := gb246) (o := .cells #[.int .i64 a0_0, .int .i64 a0_1, .int .u64 (IntKind.u64.wrap (a0_2 + 1))] 25 (0, 0)) (by (with_reducible repeat (first | refine blk_drewN ?_ _ | refine blk_drew ?_ | refine blk_alloc ?_ _)); refine blk_put (cs := #[.int .i64 a0_0, .int .i64 a0_1, .int .u64 a0_2]) ?_ 2 _ rfl; (with_reducible repeat (first | refine blk_drewN ?_ _ | refine blk_drew ?_ | refine blk_alloc ?_ _)); exact BK246.out) hb); have n1_ := Aside0.mk (below_step (by repeat (first | (with_reducible first | exact HB.out | apply below_alloc | apply pw_below_drewN | apply below_drew1 | refine below_set ?_ GE246.out) | exact HB.out)) hb); clear BK246; clear HB; have BK246 := n0_; have HB := n1_; clear n0_ n1_; (try clear hb); (try clear hb2); (try clear hk); (try clear hi)))
                  go_ret
                  exact ⟨by first | rfl | (simp [errW_none, errW_some] <;> rfl) | (simp [*, errW_none, errW_some] <;> rfl), by repeat (first | (with_reducible first | exact HB.out | apply below_alloc | apply pw_below_drewN | apply below_drew1 | refine below_set ?_ GE246.out) | exact HB.out)⟩
                · rw [if_neg c48] at H
                  have c48b0 : (t248 == true) = false := by simpa using c48
                  (try (have c48b1 : decide (t248 = true) = false := by simpa using c48))
                  (try (have c48b2 : (t248 == true) = false := by simpa using c48))
                  (try (have c48b3 : ¬ (t248 = true) := by simpa using c48))
                  clear c48
                  exact absurd (H.trans (congrArg some hr_.out)) (by simp)
              · rw [if_neg c47] at H
                have c47b0 : decide (a0_1 < a2) = false := decide_eq_false c47
                clear c47
                by_cases c56 : (t248 == (a0_0 == 3)) = true
                · rw [if_pos c56] at H
                  have c56b0 : (t248 == (a0_0 == 3)) = true := c56
                  (try (have c56b1 : decide (t248 = (a0_0 == 3)) = true := by simpa using c56))
                  (try (have c56b2 : (t248 == (a0_0 == 3)) = true := by simpa using c56))
                  clear c56
                  replace H := Option.bind_eq_some_iff.mp H
                  obtain ⟨t254, A570, H⟩ := H
                  replace H : (some (t254 == t248)) = some r := H
                  have A57 := Aside0.mk A570
                  clear A570
                  obtain rfl := Option.some.inj H
                  clear hr_
                  go_enter Try.func9, Try.ntmps9
                  go_wp2_with (first | ((with_reducible refine gate_dst (N := 3) rfl ?_); refine box_event ?hg (N := 3) ?hd (cs := #[.int .i64 a0_0, .int .i64 a0_1, .int .u64 a0_2]) (t := 25) ?hr ?_; (case hd => rfl); (case hg => rfl); (case hr => first | (go_simp; done) | (go_simp; rfl)); intro gb246 hg w58 hbox hb; have n0_ := Aside0.mk (below_step (by repeat (first | (with_reducible first | exact HB.out | apply below_alloc | apply pw_below_drewN | apply below_drew1) | exact HB.out)) hb); have n1_ := Aside0.mk (hbox); have n2_ := Aside0.mk ((by rw [hg]; exact (below_size (by repeat (first | (with_reducible first | exact HB.out | apply below_alloc | apply pw_below_drewN | apply below_drew1) | exact HB.out))) : w.heap.size ≤ gb246)); have n3_ := Aside0.mk ((by rw [hg]; exact (below_size (by repeat (first | (with_reducible first | exact HB.out | apply below_alloc | apply pw_below_drewN | apply below_drew1) | exact HB.out))) : w.heap.size ≤ gb246)); clear HB; have HB := n0_; have BK246 := n1_; have GW246 := n2_; have GE246 := n3_; clear n0_ n1_ n2_ n3_; clear hb hbox hg) | ((with_reducible refine gate_callee (f := 10) rfl ?_); refine goesL_ (some 12) rfl rfl Try.func10 (by kernel_rfl) rfl #[] rfl (by (try simp only [List.map_toArray, List.map_cons, List.map_nil]); first | done | rfl | (simp only [List.length_drop, List.length_take]; rfl)) ?_; (with_reducible refine (poacherlaw05_awake.calls k  true _ A4.out).mono ?_); (try clear A4); rintro e w59 ⟨rfl, hb⟩; refine ⟨_, rfl, ?_⟩; have n0_ := Aside0.mk (blk_below (g := gb246) (o := .cells #[.int .i64 a0_0, .int .i64 a0_1, .int .u64 a0_2] 25 (0, 0)) (by (with_reducible repeat (first | refine blk_drewN ?_ _ | refine blk_drew ?_ | refine blk_alloc ?_ _)); exact BK246.out) hb); have n1_ := Aside0.mk (below_step (by repeat (first | (with_reducible first | exact HB.out | apply below_alloc | apply pw_below_drewN | apply below_drew1 | refine below_set ?_ GE246.out) | exact HB.out)) hb); clear BK246; clear HB; have BK246 := n0_; have HB := n1_; clear n0_ n1_; (try clear hb); (try clear hb2); (try clear hk); (try clear hi); have hcz60_0 : w59.cell? ⟨gb246, 0, none⟩ = some (.int .i64 a0_0) := (blk_cell BK246.out 0).trans rfl; have hcz60_1 : w59.cell? ⟨gb246, 1, none⟩ = some (.int .i64 a0_1) := (blk_cell BK246.out 1).trans rfl; have hcz60_2 : w59.cell? ⟨gb246, 2, none⟩ = some (.int .u64 a0_2) := (blk_cell BK246.out 2).trans rfl; have hfz60_0 := blk_frozen BK246.out 0; have hfz60_1 := blk_frozen BK246.out 1; have hfz60_2 := blk_frozen BK246.out 2) | ((with_reducible refine gate_callee (f := 20) rfl ?_); refine goesL_ (some 16) rfl rfl Try.func20 (by kernel_rfl) rfl #[.agg #[.int .i64 a0_0, .int .i64 a0_1, .int .u64 a0_2], .int .i64 a1, .int .i64 a2] rfl (by (try simp only [List.map_toArray, List.map_cons, List.map_nil]); first | done | rfl | (simp only [List.length_drop, List.length_take]; rfl)) ?_; (with_reducible refine (draw_Fits.calls a0_0 a0_1 a0_2 a1 a2 t248 _ A5.out).mono ?_); (try clear A5); rintro e w61 ⟨rfl, hb⟩; refine ⟨_, rfl, ?_⟩; have n0_ := Aside0.mk (blk_below (g := gb246) (o := .cells #[.int .i64 a0_0, .int .i64 a0_1, .int .u64 a0_2] 25 (0, 0)) (by (with_reducible repeat (first | refine blk_drewN ?_ _ | refine blk_drew ?_ | refine blk_alloc ?_ _)); exact BK246.out) hb); have n1_ := Aside0.mk (below_step (by repeat (first | (with_reducible first | exact HB.out | apply below_alloc | apply pw_below_drewN | apply below_drew1 | refine below_set ?_ GE246.out) | exact HB.out)) hb); clear BK246; clear HB; have BK246 := n0_; have HB := n1_; clear n0_ n1_; (try clear hb); (try clear hb2); (try clear hk); (try clear hi); have hcz62_0 : w61.cell? ⟨gb246, 0, none⟩ = some (.int .i64 a0_0) := (blk_cell BK246.out 0).trans rfl; have hcz62_1 : w61.cell? ⟨gb246, 1, none⟩ = some (.int .i64 a0_1) := (blk_cell BK246.out 1).trans rfl; have hcz62_2 : w61.cell? ⟨gb246, 2, none⟩ = some (.int .u64 a0_2) := (blk_cell BK246.out 2).trans rfl; have hfz62_0 := blk_frozen BK246.out 0; have hfz62_1 := blk_frozen BK246.out 1; have hfz62_2 := blk_frozen BK246.out 2) | (go_at_call 20; (with_reducible refine (draw_Fits.calls a0_0 a0_1 (IntKind.u64.wrap (a0_2 + 1)) a1 a2 t254 _ A57.out).mono ?_); (try clear A57); rintro e w63 ⟨rfl, hb⟩; have n0_ := Aside0.mk (blk_below (g := gb246) (o := .cells #[.int .i64 a0_0, .int .i64 a0_1, .int .u64 (IntKind.u64.wrap (a0_2 + 1))] 25 (0, 0)) (by (with_reducible repeat (first | refine blk_drewN ?_ _ | refine blk_drew ?_ | refine blk_alloc ?_ _)); refine blk_put (cs := #[.int .i64 a0_0, .int .i64 a0_1, .int .u64 a0_2]) ?_ 2 _ rfl; (with_reducible repeat (first | refine blk_drewN ?_ _ | refine blk_drew ?_ | refine blk_alloc ?_ _)); exact BK246.out) hb); have n1_ := Aside0.mk (below_step (by repeat (first | (with_reducible first | exact HB.out | apply below_alloc | apply pw_below_drewN | apply below_drew1 | refine below_set ?_ GE246.out) | exact HB.out)) hb); clear BK246; clear HB; have BK246 := n0_; have HB := n1_; clear n0_ n1_; (try clear hb); (try clear hb2); (try clear hk); (try clear hi)))
                  go_ret
                  exact ⟨by first | rfl | (simp [errW_none, errW_some] <;> rfl) | (simp [*, errW_none, errW_some] <;> rfl), by repeat (first | (with_reducible first | exact HB.out | apply below_alloc | apply pw_below_drewN | apply below_drew1 | refine below_set ?_ GE246.out) | exact HB.out)⟩
                · rw [if_neg c56] at H
                  have c56b0 : (t248 == (a0_0 == 3)) = false := by simpa using c56
                  (try (have c56b1 : decide (t248 = (a0_0 == 3)) = false := by simpa using c56))
                  (try (have c56b2 : (t248 == (a0_0 == 3)) = false := by simpa using c56))
                  (try (have c56b3 : ¬ (t248 = (a0_0 == 3)) := by simpa using c56))
                  clear c56
                  exact absurd (H.trans (congrArg some hr_.out)) (by simp)
          · replace c37 := Bool.eq_false_iff.mpr c37
            subst c37
            have H1 : (some false) = some r := by rw [if_neg (show ¬ (false = true) by decide)] at H; exact H
            clear H
            have H := H1
            clear H1
            exact absurd (H.trans (congrArg some hr_.out)) (by simp)
      · rw [if_neg c8] at H
        have c8b0 : (a0_0 == 1) = false := beq_eq_false_iff_ne.mpr c8
        have c8b1 : (a0_0 != 1) = true := bne_iff_ne.mpr c8
        by_cases c64 : a0_0 = 2
        · rw [if_pos c64] at H
          have c64b0 : (a0_0 == 2) = true := beq_iff_eq.mpr c64
          have c64b1 : (a0_0 != 2) = false := bne_eq_false_iff_eq.mpr c64
          clear c64
          by_cases c65 : t247 = true
          · subst c65
            have H1 : (if a0_1 < a1 then (if (t248 == true) = true then ((draw_Fits.f a0_0 a0_1 (IntKind.u64.wrap (a0_2 + 1)) a1 a2).bind fun t255 => (some (t255 == t248))) else (some false)) else (if (t248 == true) = true then ((draw_Fits.f a0_0 a0_1 (IntKind.u64.wrap (a0_2 + 1)) a1 a2).bind fun t256 => (some (t256 == t248))) else (some false))) = some r := by rw [if_pos rfl] at H; exact H
            clear H
            have H := H1
            clear H1
            by_cases c66 : a0_1 < a1
            · rw [if_pos c66] at H
              have c66b0 : decide (a0_1 < a1) = true := decide_eq_true c66
              clear c66
              by_cases c67 : (t248 == true) = true
              · rw [if_pos c67] at H
                have c67b0 : (t248 == true) = true := c67
                (try (have c67b1 : decide (t248 = true) = true := by simpa using c67))
                (try (have c67b2 : (t248 == true) = true := by simpa using c67))
                clear c67
                replace H := Option.bind_eq_some_iff.mp H
                obtain ⟨t255, A680, H⟩ := H
                replace H : (some (t255 == t248)) = some r := H
                have A68 := Aside0.mk A680
                clear A680
                obtain rfl := Option.some.inj H
                clear hr_
                go_enter Try.func9, Try.ntmps9
                go_wp2_with (first | ((with_reducible refine gate_dst (N := 3) rfl ?_); refine box_event ?hg (N := 3) ?hd (cs := #[.int .i64 a0_0, .int .i64 a0_1, .int .u64 a0_2]) (t := 25) ?hr ?_; (case hd => rfl); (case hg => rfl); (case hr => first | (go_simp; done) | (go_simp; rfl)); intro gb246 hg w69 hbox hb; have n0_ := Aside0.mk (below_step (by repeat (first | (with_reducible first | exact HB.out | apply below_alloc | apply pw_below_drewN | apply below_drew1) | exact HB.out)) hb); have n1_ := Aside0.mk (hbox); have n2_ := Aside0.mk ((by rw [hg]; exact (below_size (by repeat (first | (with_reducible first | exact HB.out | apply below_alloc | apply pw_below_drewN | apply below_drew1) | exact HB.out))) : w.heap.size ≤ gb246)); have n3_ := Aside0.mk ((by rw [hg]; exact (below_size (by repeat (first | (with_reducible first | exact HB.out | apply below_alloc | apply pw_below_drewN | apply below_drew1) | exact HB.out))) : w.heap.size ≤ gb246)); clear HB; have HB := n0_; have BK246 := n1_; have GW246 := n2_; have GE246 := n3_; clear n0_ n1_ n2_ n3_; clear hb hbox hg) | ((with_reducible refine gate_callee (f := 10) rfl ?_); refine goesL_ (some 12) rfl rfl Try.func10 (by kernel_rfl) rfl #[] rfl (by (try simp only [List.map_toArray, List.map_cons, List.map_nil]); first | done | rfl | (simp only [List.length_drop, List.length_take]; rfl)) ?_; (with_reducible refine (poacherlaw05_awake.calls k  true _ A4.out).mono ?_); (try clear A4); rintro e w70 ⟨rfl, hb⟩; refine ⟨_, rfl, ?_⟩; have n0_ := Aside0.mk (blk_below (g := gb246) (o := .cells #[.int .i64 a0_0, .int .i64 a0_1, .int .u64 a0_2] 25 (0, 0)) (by (with_reducible repeat (first | refine blk_drewN ?_ _ | refine blk_drew ?_ | refine blk_alloc ?_ _)); exact BK246.out) hb); have n1_ := Aside0.mk (below_step (by repeat (first | (with_reducible first | exact HB.out | apply below_alloc | apply pw_below_drewN | apply below_drew1 | refine below_set ?_ GE246.out) | exact HB.out)) hb); clear BK246; clear HB; have BK246 := n0_; have HB := n1_; clear n0_ n1_; (try clear hb); (try clear hb2); (try clear hk); (try clear hi); have hcz71_0 : w70.cell? ⟨gb246, 0, none⟩ = some (.int .i64 a0_0) := (blk_cell BK246.out 0).trans rfl; have hcz71_1 : w70.cell? ⟨gb246, 1, none⟩ = some (.int .i64 a0_1) := (blk_cell BK246.out 1).trans rfl; have hcz71_2 : w70.cell? ⟨gb246, 2, none⟩ = some (.int .u64 a0_2) := (blk_cell BK246.out 2).trans rfl; have hfz71_0 := blk_frozen BK246.out 0; have hfz71_1 := blk_frozen BK246.out 1; have hfz71_2 := blk_frozen BK246.out 2) | ((with_reducible refine gate_callee (f := 20) rfl ?_); refine goesL_ (some 16) rfl rfl Try.func20 (by kernel_rfl) rfl #[.agg #[.int .i64 a0_0, .int .i64 a0_1, .int .u64 a0_2], .int .i64 a1, .int .i64 a2] rfl (by (try simp only [List.map_toArray, List.map_cons, List.map_nil]); first | done | rfl | (simp only [List.length_drop, List.length_take]; rfl)) ?_; (with_reducible refine (draw_Fits.calls a0_0 a0_1 a0_2 a1 a2 t248 _ A5.out).mono ?_); (try clear A5); rintro e w72 ⟨rfl, hb⟩; refine ⟨_, rfl, ?_⟩; have n0_ := Aside0.mk (blk_below (g := gb246) (o := .cells #[.int .i64 a0_0, .int .i64 a0_1, .int .u64 a0_2] 25 (0, 0)) (by (with_reducible repeat (first | refine blk_drewN ?_ _ | refine blk_drew ?_ | refine blk_alloc ?_ _)); exact BK246.out) hb); have n1_ := Aside0.mk (below_step (by repeat (first | (with_reducible first | exact HB.out | apply below_alloc | apply pw_below_drewN | apply below_drew1 | refine below_set ?_ GE246.out) | exact HB.out)) hb); clear BK246; clear HB; have BK246 := n0_; have HB := n1_; clear n0_ n1_; (try clear hb); (try clear hb2); (try clear hk); (try clear hi); have hcz73_0 : w72.cell? ⟨gb246, 0, none⟩ = some (.int .i64 a0_0) := (blk_cell BK246.out 0).trans rfl; have hcz73_1 : w72.cell? ⟨gb246, 1, none⟩ = some (.int .i64 a0_1) := (blk_cell BK246.out 1).trans rfl; have hcz73_2 : w72.cell? ⟨gb246, 2, none⟩ = some (.int .u64 a0_2) := (blk_cell BK246.out 2).trans rfl; have hfz73_0 := blk_frozen BK246.out 0; have hfz73_1 := blk_frozen BK246.out 1; have hfz73_2 := blk_frozen BK246.out 2) | (go_at_call 20; (with_reducible refine (draw_Fits.calls a0_0 a0_1 (IntKind.u64.wrap (a0_2 + 1)) a1 a2 t255 _ A68.out).mono ?_); (try clear A68); rintro e w74 ⟨rfl, hb⟩; have n0_ := Aside0.mk (blk_below (g := gb246) (o := .cells #[.int .i64 a0_0, .int .i64 a0_1, .int .u64 (IntKind.u64.wrap (a0_2 + 1))] 25 (0, 0)) (by (with_reducible repeat (first | refine blk_drewN ?_ _ | refine blk_drew ?_ | refine blk_alloc ?_ _)); refine blk_put (cs := #[.int .i64 a0_0, .int .i64 a0_1, .int .u64 a0_2]) ?_ 2 _ rfl; (with_reducible repeat (first | refine blk_drewN ?_ _ | refine blk_drew ?_ | refine blk_alloc ?_ _)); exact BK246.out) hb); have n1_ := Aside0.mk (below_step (by repeat (first | (with_reducible first | exact HB.out | apply below_alloc | apply pw_below_drewN | apply below_drew1 | refine below_set ?_ GE246.out) | exact HB.out)) hb); clear BK246; clear HB; have BK246 := n0_; have HB := n1_; clear n0_ n1_; (try clear hb); (try clear hb2); (try clear hk); (try clear hi)))
                go_ret
                exact ⟨by first | rfl | (simp [errW_none, errW_some] <;> rfl) | (simp [*, errW_none, errW_some] <;> rfl), by repeat (first | (with_reducible first | exact HB.out | apply below_alloc | apply pw_below_drewN | apply below_drew1 | refine below_set ?_ GE246.out) | exact HB.out)⟩
              · rw [if_neg c67] at H
                have c67b0 : (t248 == true) = false := by simpa using c67
                (try (have c67b1 : decide (t248 = true) = false := by simpa using c67))
                (try (have c67b2 : (t248 == true) = false := by simpa using c67))
                (try (have c67b3 : ¬ (t248 = true) := by simpa using c67))
                clear c67
                exact absurd (H.trans (congrArg some hr_.out)) (by simp)
            · rw [if_neg c66] at H
              have c66b0 : decide (a0_1 < a1) = false := decide_eq_false c66
              clear c66
              by_cases c75 : (t248 == true) = true
              · rw [if_pos c75] at H
                have c75b0 : (t248 == true) = true := c75
                (try (have c75b1 : decide (t248 = true) = true := by simpa using c75))
                (try (have c75b2 : (t248 == true) = true := by simpa using c75))
                clear c75
                replace H := Option.bind_eq_some_iff.mp H
                obtain ⟨t256, A760, H⟩ := H
                replace H : (some (t256 == t248)) = some r := H
                have A76 := Aside0.mk A760
                clear A760
                obtain rfl := Option.some.inj H
                clear hr_
                go_enter Try.func9, Try.ntmps9
                go_wp2_with (first | ((with_reducible refine gate_dst (N := 3) rfl ?_); refine box_event ?hg (N := 3) ?hd (cs := #[.int .i64 a0_0, .int .i64 a0_1, .int .u64 a0_2]) (t := 25) ?hr ?_; (case hd => rfl); (case hg => rfl); (case hr => first | (go_simp; done) | (go_simp; rfl)); intro gb246 hg w77 hbox hb; have n0_ := Aside0.mk (below_step (by repeat (first | (with_reducible first | exact HB.out | apply below_alloc | apply pw_below_drewN | apply below_drew1) | exact HB.out)) hb); have n1_ := Aside0.mk (hbox); have n2_ := Aside0.mk ((by rw [hg]; exact (below_size (by repeat (first | (with_reducible first | exact HB.out | apply below_alloc | apply pw_below_drewN | apply below_drew1) | exact HB.out))) : w.heap.size ≤ gb246)); have n3_ := Aside0.mk ((by rw [hg]; exact (below_size (by repeat (first | (with_reducible first | exact HB.out | apply below_alloc | apply pw_below_drewN | apply below_drew1) | exact HB.out))) : w.heap.size ≤ gb246)); clear HB; have HB := n0_; have BK246 := n1_; have GW246 := n2_; have GE246 := n3_; clear n0_ n1_ n2_ n3_; clear hb hbox hg) | ((with_reducible refine gate_callee (f := 10) rfl ?_); refine goesL_ (some 12) rfl rfl Try.func10 (by kernel_rfl) rfl #[] rfl (by (try simp only [List.map_toArray, List.map_cons, List.map_nil]); first | done | rfl | (simp only [List.length_drop, List.length_take]; rfl)) ?_; (with_reducible refine (poacherlaw05_awake.calls k  true _ A4.out).mono ?_); (try clear A4); rintro e w78 ⟨rfl, hb⟩; refine ⟨_, rfl, ?_⟩; have n0_ := Aside0.mk (blk_below (g := gb246) (o := .cells #[.int .i64 a0_0, .int .i64 a0_1, .int .u64 a0_2] 25 (0, 0)) (by (with_reducible repeat (first | refine blk_drewN ?_ _ | refine blk_drew ?_ | refine blk_alloc ?_ _)); exact BK246.out) hb); have n1_ := Aside0.mk (below_step (by repeat (first | (with_reducible first | exact HB.out | apply below_alloc | apply pw_below_drewN | apply below_drew1 | refine below_set ?_ GE246.out) | exact HB.out)) hb); clear BK246; clear HB; have BK246 := n0_; have HB := n1_; clear n0_ n1_; (try clear hb); (try clear hb2); (try clear hk); (try clear hi); have hcz79_0 : w78.cell? ⟨gb246, 0, none⟩ = some (.int .i64 a0_0) := (blk_cell BK246.out 0).trans rfl; have hcz79_1 : w78.cell? ⟨gb246, 1, none⟩ = some (.int .i64 a0_1) := (blk_cell BK246.out 1).trans rfl; have hcz79_2 : w78.cell? ⟨gb246, 2, none⟩ = some (.int .u64 a0_2) := (blk_cell BK246.out 2).trans rfl; have hfz79_0 := blk_frozen BK246.out 0; have hfz79_1 := blk_frozen BK246.out 1; have hfz79_2 := blk_frozen BK246.out 2) | ((with_reducible refine gate_callee (f := 20) rfl ?_); refine goesL_ (some 16) rfl rfl Try.func20 (by kernel_rfl) rfl #[.agg #[.int .i64 a0_0, .int .i64 a0_1, .int .u64 a0_2], .int .i64 a1, .int .i64 a2] rfl (by (try simp only [List.map_toArray, List.map_cons, List.map_nil]); first | done | rfl | (simp only [List.length_drop, List.length_take]; rfl)) ?_; (with_reducible refine (draw_Fits.calls a0_0 a0_1 a0_2 a1 a2 t248 _ A5.out).mono ?_); (try clear A5); rintro e w80 ⟨rfl, hb⟩; refine ⟨_, rfl, ?_⟩; have n0_ := Aside0.mk (blk_below (g := gb246) (o := .cells #[.int .i64 a0_0, .int .i64 a0_1, .int .u64 a0_2] 25 (0, 0)) (by (with_reducible repeat (first | refine blk_drewN ?_ _ | refine blk_drew ?_ | refine blk_alloc ?_ _)); exact BK246.out) hb); have n1_ := Aside0.mk (below_step (by repeat (first | (with_reducible first | exact HB.out | apply below_alloc | apply pw_below_drewN | apply below_drew1 | refine below_set ?_ GE246.out) | exact HB.out)) hb); clear BK246; clear HB; have BK246 := n0_; have HB := n1_; clear n0_ n1_; (try clear hb); (try clear hb2); (try clear hk); (try clear hi); have hcz81_0 : w80.cell? ⟨gb246, 0, none⟩ = some (.int .i64 a0_0) := (blk_cell BK246.out 0).trans rfl; have hcz81_1 : w80.cell? ⟨gb246, 1, none⟩ = some (.int .i64 a0_1) := (blk_cell BK246.out 1).trans rfl; have hcz81_2 : w80.cell? ⟨gb246, 2, none⟩ = some (.int .u64 a0_2) := (blk_cell BK246.out 2).trans rfl; have hfz81_0 := blk_frozen BK246.out 0; have hfz81_1 := blk_frozen BK246.out 1; have hfz81_2 := blk_frozen BK246.out 2) | (go_at_call 20; (with_reducible refine (draw_Fits.calls a0_0 a0_1 (IntKind.u64.wrap (a0_2 + 1)) a1 a2 t256 _ A76.out).mono ?_); (try clear A76); rintro e w82 ⟨rfl, hb⟩; have n0_ := Aside0.mk (blk_below (g := gb246) (o := .cells #[.int .i64 a0_0, .int .i64 a0_1, .int .u64 (IntKind.u64.wrap (a0_2 + 1))] 25 (0, 0)) (by (with_reducible repeat (first | refine blk_drewN ?_ _ | refine blk_drew ?_ | refine blk_alloc ?_ _)); refine blk_put (cs := #[.int .i64 a0_0, .int .i64 a0_1, .int .u64 a0_2]) ?_ 2 _ rfl; (with_reducible repeat (first | refine blk_drewN ?_ _ | refine blk_drew ?_ | refine blk_alloc ?_ _)); exact BK246.out) hb); have n1_ := Aside0.mk (below_step (by repeat (first | (with_reducible first | exact HB.out | apply below_alloc | apply pw_below_drewN | apply below_drew1 | refine below_set ?_ GE246.out) | exact HB.out)) hb); clear BK246; clear HB; have BK246 := n0_; have HB := n1_; clear n0_ n1_; (try clear hb); (try clear hb2); (try clear hk); (try clear hi)))
                go_ret
                exact ⟨by first | rfl | (simp [errW_none, errW_some] <;> rfl) | (simp [*, errW_none, errW_some] <;> rfl), by repeat (first | (with_reducible first | exact HB.out | apply below_alloc | apply pw_below_drewN | apply below_drew1 | refine below_set ?_ GE246.out) | exact HB.out)⟩
              · rw [if_neg c75] at H
                have c75b0 : (t248 == true) = false := by simpa using c75
                (try (have c75b1 : decide (t248 = true) = false := by simpa using c75))
                (try (have c75b2 : (t248 == true) = false := by simpa using c75))
                (try (have c75b3 : ¬ (t248 = true) := by simpa using c75))
                clear c75
                exact absurd (H.trans (congrArg some hr_.out)) (by simp)
          · replace c65 := Bool.eq_false_iff.mpr c65
            subst c65
            have H1 : (some false) = some r := by rw [if_neg (show ¬ (false = true) by decide)] at H; exact H
            clear H
            have H := H1
            clear H1
            exact absurd (H.trans (congrArg some hr_.out)) (by simp)
        · rw [if_neg c64] at H
          have c64b0 : (a0_0 == 2) = false := beq_eq_false_iff_ne.mpr c64
          have c64b1 : (a0_0 != 2) = true := bne_iff_ne.mpr c64
          by_cases c83 : t247 = true
          · subst c83
            have H1 : (if a0_1 < a1 then (if (t248 == true) = true then ((draw_Fits.f a0_0 a0_1 (IntKind.u64.wrap (a0_2 + 1)) a1 a2).bind fun t257 => (some (t257 == t248))) else (some false)) else (if (t248 == (a0_0 == 3)) = true then ((draw_Fits.f a0_0 a0_1 (IntKind.u64.wrap (a0_2 + 1)) a1 a2).bind fun t258 => (some (t258 == t248))) else (some false))) = some r := by rw [if_pos rfl] at H; exact H
            clear H
            have H := H1
            clear H1
            by_cases c84 : a0_1 < a1
            · rw [if_pos c84] at H
              have c84b0 : decide (a0_1 < a1) = true := decide_eq_true c84
              clear c84
              by_cases c85 : (t248 == true) = true
              · rw [if_pos c85] at H
                have c85b0 : (t248 == true) = true := c85
                (try (have c85b1 : decide (t248 = true) = true := by simpa using c85))
                (try (have c85b2 : (t248 == true) = true := by simpa using c85))
                clear c85
                replace H := Option.bind_eq_some_iff.mp H
                obtain ⟨t257, A860, H⟩ := H
                replace H : (some (t257 == t248)) = some r := H
                have A86 := Aside0.mk A860
                clear A860
                obtain rfl := Option.some.inj H
                clear hr_
                go_enter Try.func9, Try.ntmps9
                go_wp2_with (first | ((with_reducible refine gate_dst (N := 3) rfl ?_); refine box_event ?hg (N := 3) ?hd (cs := #[.int .i64 a0_0, .int .i64 a0_1, .int .u64 a0_2]) (t := 25) ?hr ?_; (case hd => rfl); (case hg => rfl); (case hr => first | (go_simp; done) | (go_simp; rfl)); intro gb246 hg w87 hbox hb; have n0_ := Aside0.mk (below_step (by repeat (first | (with_reducible first | exact HB.out | apply below_alloc | apply pw_below_drewN | apply below_drew1) | exact HB.out)) hb); have n1_ := Aside0.mk (hbox); have n2_ := Aside0.mk ((by rw [hg]; exact (below_size (by repeat (first | (with_reducible first | exact HB.out | apply below_alloc | apply pw_below_drewN | apply below_drew1) | exact HB.out))) : w.heap.size ≤ gb246)); have n3_ := Aside0.mk ((by rw [hg]; exact (below_size (by repeat (first | (with_reducible first | exact HB.out | apply below_alloc | apply pw_below_drewN | apply below_drew1) | exact HB.out))) : w.heap.size ≤ gb246)); clear HB; have HB := n0_; have BK246 := n1_; have GW246 := n2_; have GE246 := n3_; clear n0_ n1_ n2_ n3_; clear hb hbox hg) | ((with_reducible refine gate_callee (f := 10) rfl ?_); refine goesL_ (some 12) rfl rfl Try.func10 (by kernel_rfl) rfl #[] rfl (by (try simp only [List.map_toArray, List.map_cons, List.map_nil]); first | done | rfl | (simp only [List.length_drop, List.length_take]; rfl)) ?_; (with_reducible refine (poacherlaw05_awake.calls k  true _ A4.out).mono ?_); (try clear A4); rintro e w88 ⟨rfl, hb⟩; refine ⟨_, rfl, ?_⟩; have n0_ := Aside0.mk (blk_below (g := gb246) (o := .cells #[.int .i64 a0_0, .int .i64 a0_1, .int .u64 a0_2] 25 (0, 0)) (by (with_reducible repeat (first | refine blk_drewN ?_ _ | refine blk_drew ?_ | refine blk_alloc ?_ _)); exact BK246.out) hb); have n1_ := Aside0.mk (below_step (by repeat (first | (with_reducible first | exact HB.out | apply below_alloc | apply pw_below_drewN | apply below_drew1 | refine below_set ?_ GE246.out) | exact HB.out)) hb); clear BK246; clear HB; have BK246 := n0_; have HB := n1_; clear n0_ n1_; (try clear hb); (try clear hb2); (try clear hk); (try clear hi); have hcz89_0 : w88.cell? ⟨gb246, 0, none⟩ = some (.int .i64 a0_0) := (blk_cell BK246.out 0).trans rfl; have hcz89_1 : w88.cell? ⟨gb246, 1, none⟩ = some (.int .i64 a0_1) := (blk_cell BK246.out 1).trans rfl; have hcz89_2 : w88.cell? ⟨gb246, 2, none⟩ = some (.int .u64 a0_2) := (blk_cell BK246.out 2).trans rfl; have hfz89_0 := blk_frozen BK246.out 0; have hfz89_1 := blk_frozen BK246.out 1; have hfz89_2 := blk_frozen BK246.out 2) | ((with_reducible refine gate_callee (f := 20) rfl ?_); refine goesL_ (some 16) rfl rfl Try.func20 (by kernel_rfl) rfl #[.agg #[.int .i64 a0_0, .int .i64 a0_1, .int .u64 a0_2], .int .i64 a1, .int .i64 a2] rfl (by (try simp only [List.map_toArray, List.map_cons, List.map_nil]); first | done | rfl | (simp only [List.length_drop, List.length_take]; rfl)) ?_; (with_reducible refine (draw_Fits.calls a0_0 a0_1 a0_2 a1 a2 t248 _ A5.out).mono ?_); (try clear A5); rintro e w90 ⟨rfl, hb⟩; refine ⟨_, rfl, ?_⟩; have n0_ := Aside0.mk (blk_below (g := gb246) (o := .cells #[.int .i64 a0_0, .int .i64 a0_1, .int .u64 a0_2] 25 (0, 0)) (by (with_reducible repeat (first | refine blk_drewN ?_ _ | refine blk_drew ?_ | refine blk_alloc ?_ _)); exact BK246.out) hb); have n1_ := Aside0.mk (below_step (by repeat (first | (with_reducible first | exact HB.out | apply below_alloc | apply pw_below_drewN | apply below_drew1 | refine below_set ?_ GE246.out) | exact HB.out)) hb); clear BK246; clear HB; have BK246 := n0_; have HB := n1_; clear n0_ n1_; (try clear hb); (try clear hb2); (try clear hk); (try clear hi); have hcz91_0 : w90.cell? ⟨gb246, 0, none⟩ = some (.int .i64 a0_0) := (blk_cell BK246.out 0).trans rfl; have hcz91_1 : w90.cell? ⟨gb246, 1, none⟩ = some (.int .i64 a0_1) := (blk_cell BK246.out 1).trans rfl; have hcz91_2 : w90.cell? ⟨gb246, 2, none⟩ = some (.int .u64 a0_2) := (blk_cell BK246.out 2).trans rfl; have hfz91_0 := blk_frozen BK246.out 0; have hfz91_1 := blk_frozen BK246.out 1; have hfz91_2 := blk_frozen BK246.out 2) | (go_at_call 20; (with_reducible refine (draw_Fits.calls a0_0 a0_1 (IntKind.u64.wrap (a0_2 + 1)) a1 a2 t257 _ A86.out).mono ?_); (try clear A86); rintro e w92 ⟨rfl, hb⟩; have n0_ := Aside0.mk (blk_below (g := gb246) (o := .cells #[.int .i64 a0_0, .int .i64 a0_1, .int .u64 (IntKind.u64.wrap (a0_2 + 1))] 25 (0, 0)) (by (with_reducible repeat (first | refine blk_drewN ?_ _ | refine blk_drew ?_ | refine blk_alloc ?_ _)); refine blk_put (cs := #[.int .i64 a0_0, .int .i64 a0_1, .int .u64 a0_2]) ?_ 2 _ rfl; (with_reducible repeat (first | refine blk_drewN ?_ _ | refine blk_drew ?_ | refine blk_alloc ?_ _)); exact BK246.out) hb); have n1_ := Aside0.mk (below_step (by repeat (first | (with_reducible first | exact HB.out | apply below_alloc | apply pw_below_drewN | apply below_drew1 | refine below_set ?_ GE246.out) | exact HB.out)) hb); clear BK246; clear HB; have BK246 := n0_; have HB := n1_; clear n0_ n1_; (try clear hb); (try clear hb2); (try clear hk); (try clear hi)))
                go_ret
                exact ⟨by first | rfl | (simp [errW_none, errW_some] <;> rfl) | (simp [*, errW_none, errW_some] <;> rfl), by repeat (first | (with_reducible first | exact HB.out | apply below_alloc | apply pw_below_drewN | apply below_drew1 | refine below_set ?_ GE246.out) | exact HB.out)⟩
              · rw [if_neg c85] at H
                have c85b0 : (t248 == true) = false := by simpa using c85
                (try (have c85b1 : decide (t248 = true) = false := by simpa using c85))
                (try (have c85b2 : (t248 == true) = false := by simpa using c85))
                (try (have c85b3 : ¬ (t248 = true) := by simpa using c85))
                clear c85
                exact absurd (H.trans (congrArg some hr_.out)) (by simp)
            · rw [if_neg c84] at H
              have c84b0 : decide (a0_1 < a1) = false := decide_eq_false c84
              clear c84
              by_cases c93 : (t248 == (a0_0 == 3)) = true
              · rw [if_pos c93] at H
                have c93b0 : (t248 == (a0_0 == 3)) = true := c93
                (try (have c93b1 : decide (t248 = (a0_0 == 3)) = true := by simpa using c93))
                (try (have c93b2 : (t248 == (a0_0 == 3)) = true := by simpa using c93))
                clear c93
                replace H := Option.bind_eq_some_iff.mp H
                obtain ⟨t258, A940, H⟩ := H
                replace H : (some (t258 == t248)) = some r := H
                have A94 := Aside0.mk A940
                clear A940
                obtain rfl := Option.some.inj H
                clear hr_
                go_enter Try.func9, Try.ntmps9
                go_wp2_with (first | ((with_reducible refine gate_dst (N := 3) rfl ?_); refine box_event ?hg (N := 3) ?hd (cs := #[.int .i64 a0_0, .int .i64 a0_1, .int .u64 a0_2]) (t := 25) ?hr ?_; (case hd => rfl); (case hg => rfl); (case hr => first | (go_simp; done) | (go_simp; rfl)); intro gb246 hg w95 hbox hb; have n0_ := Aside0.mk (below_step (by repeat (first | (with_reducible first | exact HB.out | apply below_alloc | apply pw_below_drewN | apply below_drew1) | exact HB.out)) hb); have n1_ := Aside0.mk (hbox); have n2_ := Aside0.mk ((by rw [hg]; exact (below_size (by repeat (first | (with_reducible first | exact HB.out | apply below_alloc | apply pw_below_drewN | apply below_drew1) | exact HB.out))) : w.heap.size ≤ gb246)); have n3_ := Aside0.mk ((by rw [hg]; exact (below_size (by repeat (first | (with_reducible first | exact HB.out | apply below_alloc | apply pw_below_drewN | apply below_drew1) | exact HB.out))) : w.heap.size ≤ gb246)); clear HB; have HB := n0_; have BK246 := n1_; have GW246 := n2_; have GE246 := n3_; clear n0_ n1_ n2_ n3_; clear hb hbox hg) | ((with_reducible refine gate_callee (f := 10) rfl ?_); refine goesL_ (some 12) rfl rfl Try.func10 (by kernel_rfl) rfl #[] rfl (by (try simp only [List.map_toArray, List.map_cons, List.map_nil]); first | done | rfl | (simp only [List.length_drop, List.length_take]; rfl)) ?_; (with_reducible refine (poacherlaw05_awake.calls k  true _ A4.out).mono ?_); (try clear A4); rintro e w96 ⟨rfl, hb⟩; refine ⟨_, rfl, ?_⟩; have n0_ := Aside0.mk (blk_below (g := gb246) (o := .cells #[.int .i64 a0_0, .int .i64 a0_1, .int .u64 a0_2] 25 (0, 0)) (by (with_reducible repeat (first | refine blk_drewN ?_ _ | refine blk_drew ?_ | refine blk_alloc ?_ _)); exact BK246.out) hb); have n1_ := Aside0.mk (below_step (by repeat (first | (with_reducible first | exact HB.out | apply below_alloc | apply pw_below_drewN | apply below_drew1 | refine below_set ?_ GE246.out) | exact HB.out)) hb); clear BK246; clear HB; have BK246 := n0_; have HB := n1_; clear n0_ n1_; (try clear hb); (try clear hb2); (try clear hk); (try clear hi); have hcz97_0 : w96.cell? ⟨gb246, 0, none⟩ = some (.int .i64 a0_0) := (blk_cell BK246.out 0).trans rfl; have hcz97_1 : w96.cell? ⟨gb246, 1, none⟩ = some (.int .i64 a0_1) := (blk_cell BK246.out 1).trans rfl; have hcz97_2 : w96.cell? ⟨gb246, 2, none⟩ = some (.int .u64 a0_2) := (blk_cell BK246.out 2).trans rfl; have hfz97_0 := blk_frozen BK246.out 0; have hfz97_1 := blk_frozen BK246.out 1; have hfz97_2 := blk_frozen BK246.out 2) | ((with_reducible refine gate_callee (f := 20) rfl ?_); refine goesL_ (some 16) rfl rfl Try.func20 (by kernel_rfl) rfl #[.agg #[.int .i64 a0_0, .int .i64 a0_1, .int .u64 a0_2], .int .i64 a1, .int .i64 a2] rfl (by (try simp only [List.map_toArray, List.map_cons, List.map_nil]); first | done | rfl | (simp only [List.length_drop, List.length_take]; rfl)) ?_; (with_reducible refine (draw_Fits.calls a0_0 a0_1 a0_2 a1 a2 t248 _ A5.out).mono ?_); (try clear A5); rintro e w98 ⟨rfl, hb⟩; refine ⟨_, rfl, ?_⟩; have n0_ := Aside0.mk (blk_below (g := gb246) (o := .cells #[.int .i64 a0_0, .int .i64 a0_1, .int .u64 a0_2] 25 (0, 0)) (by (with_reducible repeat (first | refine blk_drewN ?_ _ | refine blk_drew ?_ | refine blk_alloc ?_ _)); exact BK246.out) hb); have n1_ := Aside0.mk (below_step (by repeat (first | (with_reducible first | exact HB.out | apply below_alloc | apply pw_below_drewN | apply below_drew1 | refine below_set ?_ GE246.out) | exact HB.out)) hb); clear BK246; clear HB; have BK246 := n0_; have HB := n1_; clear n0_ n1_; (try clear hb); (try clear hb2); (try clear hk); (try clear hi); have hcz99_0 : w98.cell? ⟨gb246, 0, none⟩ = some (.int .i64 a0_0) := (blk_cell BK246.out 0).trans rfl; have hcz99_1 : w98.cell? ⟨gb246, 1, none⟩ = some (.int .i64 a0_1) := (blk_cell BK246.out 1).trans rfl; have hcz99_2 : w98.cell? ⟨gb246, 2, none⟩ = some (.int .u64 a0_2) := (blk_cell BK246.out 2).trans rfl; have hfz99_0 := blk_frozen BK246.out 0; have hfz99_1 := blk_frozen BK246.out 1; have hfz99_2 := blk_frozen BK246.out 2) | (go_at_call 20; (with_reducible refine (draw_Fits.calls a0_0 a0_1 (IntKind.u64.wrap (a0_2 + 1)) a1 a2 t258 _ A94.out).mono ?_); (try clear A94); rintro e w100 ⟨rfl, hb⟩; have n0_ := Aside0.mk (blk_below (g := gb246) (o := .cells #[.int .i64 a0_0, .int .i64 a0_1, .int .u64 (IntKind.u64.wrap (a0_2 + 1))] 25 (0, 0)) (by (with_reducible repeat (first | refine blk_drewN ?_ _ | refine blk_drew ?_ | refine blk_alloc ?_ _)); refine blk_put (cs := #[.int .i64 a0_0, .int .i64 a0_1, .int .u64 a0_2]) ?_ 2 _ rfl; (with_reducible repeat (first | refine blk_drewN ?_ _ | refine blk_drew ?_ | refine blk_alloc ?_ _)); exact BK246.out) hb); have n1_ := Aside0.mk (below_step (by repeat (first | (with_reducible first | exact HB.out | apply below_alloc | apply pw_below_drewN | apply below_drew1 | refine below_set ?_ GE246.out) | exact HB.out)) hb); clear BK246; clear HB; have BK246 := n0_; have HB := n1_; clear n0_ n1_; (try clear hb); (try clear hb2); (try clear hk); (try clear hi)))
                go_ret
                exact ⟨by first | rfl | (simp [errW_none, errW_some] <;> rfl) | (simp [*, errW_none, errW_some] <;> rfl), by repeat (first | (with_reducible first | exact HB.out | apply below_alloc | apply pw_below_drewN | apply below_drew1 | refine below_set ?_ GE246.out) | exact HB.out)⟩
              · rw [if_neg c93] at H
                have c93b0 : (t248 == (a0_0 == 3)) = false := by simpa using c93
                (try (have c93b1 : decide (t248 = (a0_0 == 3)) = false := by simpa using c93))
                (try (have c93b2 : (t248 == (a0_0 == 3)) = false := by simpa using c93))
                (try (have c93b3 : ¬ (t248 = (a0_0 == 3)) := by simpa using c93))
                clear c93
                exact absurd (H.trans (congrArg some hr_.out)) (by simp)
          · replace c83 := Bool.eq_false_iff.mpr c83
            subst c83
            have H1 : (some false) = some r := by rw [if_neg (show ¬ (false = true) by decide)] at H; exact H
            clear H
            have H := H1
            clear H1
            exact absurd (H.trans (congrArg some hr_.out)) (by simp)
    · rw [if_neg c7] at H
      have c7b0 : decide (0 ≤ a0_1) = false := decide_eq_false c7
      clear c7
      by_cases c101 : a0_0 = 1
      · rw [if_pos c101] at H
        have c101b0 : (a0_0 == 1) = true := beq_iff_eq.mpr c101
        have c101b1 : (a0_0 != 1) = false := bne_eq_false_iff_eq.mpr c101
        clear c101
        by_cases c102 : a0_0 = 2
        · rw [if_pos c102] at H
          have c102b0 : (a0_0 == 2) = true := beq_iff_eq.mpr c102
          have c102b1 : (a0_0 != 2) = false := bne_eq_false_iff_eq.mpr c102
          clear c102
          by_cases c103 : t247 = true
          · subst c103
            have H1 : (if (t248 == true) = true then ((draw_Fits.f a0_0 a0_1 (IntKind.u64.wrap (a0_2 + 1)) a1 a2).bind fun t259 => (some (t259 == t248))) else (some false)) = some r := by rw [if_pos rfl] at H; exact H
            clear H
            have H := H1
            clear H1
            by_cases c104 : (t248 == true) = true
            · rw [if_pos c104] at H
              have c104b0 : (t248 == true) = true := c104
              (try (have c104b1 : decide (t248 = true) = true := by simpa using c104))
              (try (have c104b2 : (t248 == true) = true := by simpa using c104))
              clear c104
              replace H := Option.bind_eq_some_iff.mp H
              obtain ⟨t259, A1050, H⟩ := H
              replace H : (some (t259 == t248)) = some r := H
              have A105 := Aside0.mk A1050
              clear A1050
              obtain rfl := Option.some.inj H
              clear hr_
              go_enter Try.func9, Try.ntmps9
              go_wp2_with (first | ((with_reducible refine gate_dst (N := 3) rfl ?_); refine box_event ?hg (N := 3) ?hd (cs := #[.int .i64 a0_0, .int .i64 a0_1, .int .u64 a0_2]) (t := 25) ?hr ?_; (case hd => rfl); (case hg => rfl); (case hr => first | (go_simp; done) | (go_simp; rfl)); intro gb246 hg w106 hbox hb; have n0_ := Aside0.mk (below_step (by repeat (first | (with_reducible first | exact HB.out | apply below_alloc | apply pw_below_drewN | apply below_drew1) | exact HB.out)) hb); have n1_ := Aside0.mk (hbox); have n2_ := Aside0.mk ((by rw [hg]; exact (below_size (by repeat (first | (with_reducible first | exact HB.out | apply below_alloc | apply pw_below_drewN | apply below_drew1) | exact HB.out))) : w.heap.size ≤ gb246)); have n3_ := Aside0.mk ((by rw [hg]; exact (below_size (by repeat (first | (with_reducible first | exact HB.out | apply below_alloc | apply pw_below_drewN | apply below_drew1) | exact HB.out))) : w.heap.size ≤ gb246)); clear HB; have HB := n0_; have BK246 := n1_; have GW246 := n2_; have GE246 := n3_; clear n0_ n1_ n2_ n3_; clear hb hbox hg) | ((with_reducible refine gate_callee (f := 10) rfl ?_); refine goesL_ (some 12) rfl rfl Try.func10 (by kernel_rfl) rfl #[] rfl (by (try simp only [List.map_toArray, List.map_cons, List.map_nil]); first | done | rfl | (simp only [List.length_drop, List.length_take]; rfl)) ?_; (with_reducible refine (poacherlaw05_awake.calls k  true _ A4.out).mono ?_); (try clear A4); rintro e w107 ⟨rfl, hb⟩; refine ⟨_, rfl, ?_⟩; have n0_ := Aside0.mk (blk_below (g := gb246) (o := .cells #[.int .i64 a0_0, .int .i64 a0_1, .int .u64 a0_2] 25 (0, 0)) (by (with_reducible repeat (first | refine blk_drewN ?_ _ | refine blk_drew ?_ | refine blk_alloc ?_ _)); exact BK246.out) hb); have n1_ := Aside0.mk (below_step (by repeat (first | (with_reducible first | exact HB.out | apply below_alloc | apply pw_below_drewN | apply below_drew1 | refine below_set ?_ GE246.out) | exact HB.out)) hb); clear BK246; clear HB; have BK246 := n0_; have HB := n1_; clear n0_ n1_; (try clear hb); (try clear hb2); (try clear hk); (try clear hi); have hcz108_0 : w107.cell? ⟨gb246, 0, none⟩ = some (.int .i64 a0_0) := (blk_cell BK246.out 0).trans rfl; have hcz108_1 : w107.cell? ⟨gb246, 1, none⟩ = some (.int .i64 a0_1) := (blk_cell BK246.out 1).trans rfl; have hcz108_2 : w107.cell? ⟨gb246, 2, none⟩ = some (.int .u64 a0_2) := (blk_cell BK246.out 2).trans rfl; have hfz108_0 := blk_frozen BK246.out 0; have hfz108_1 := blk_frozen BK246.out 1; have hfz108_2 := blk_frozen BK246.out 2) | ((with_reducible refine gate_callee (f := 20) rfl ?_); refine goesL_ (some 16) rfl rfl Try.func20 (by kernel_rfl) rfl #[.agg #[.int .i64 a0_0, .int .i64 a0_1, .int .u64 a0_2], .int .i64 a1, .int .i64 a2] rfl (by (try simp only [List.map_toArray, List.map_cons, List.map_nil]); first | done | rfl | (simp only [List.length_drop, List.length_take]; rfl)) ?_; (with_reducible refine (draw_Fits.calls a0_0 a0_1 a0_2 a1 a2 t248 _ A5.out).mono ?_); (try clear A5); rintro e w109 ⟨rfl, hb⟩; refine ⟨_, rfl, ?_⟩; have n0_ := Aside0.mk (blk_below (g := gb246) (o := .cells #[.int .i64 a0_0, .int .i64 a0_1, .int .u64 a0_2] 25 (0, 0)) (by (with_reducible repeat (first | refine blk_drewN ?_ _ | refine blk_drew ?_ | refine blk_alloc ?_ _)); exact BK246.out) hb); have n1_ := Aside0.mk (below_step (by repeat (first | (with_reducible first | exact HB.out | apply below_alloc | apply pw_below_drewN | apply below_drew1 | refine below_set ?_ GE246.out) | exact HB.out)) hb); clear BK246; clear HB; have BK246 := n0_; have HB := n1_; clear n0_ n1_; (try clear hb); (try clear hb2); (try clear hk); (try clear hi); have hcz110_0 : w109.cell? ⟨gb246, 0, none⟩ = some (.int .i64 a0_0) := (blk_cell BK246.out 0).trans rfl; have hcz110_1 : w109.cell? ⟨gb246, 1, none⟩ = some (.int .i64 a0_1) := (blk_cell BK246.out 1).trans rfl; have hcz110_2 : w109.cell? ⟨gb246, 2, none⟩ = some (.int .u64 a0_2) := (blk_cell BK246.out 2).trans rfl; have hfz110_0 := blk_frozen BK246.out 0; have hfz110_1 := blk_frozen BK246.out 1; have hfz110_2 := blk_frozen BK246.out 2) | (go_at_call 20; (with_reducible refine (draw_Fits.calls a0_0 a0_1 (IntKind.u64.wrap (a0_2 + 1)) a1 a2 t259 _ A105.out).mono ?_); (try clear A105); rintro e w111 ⟨rfl, hb⟩; have n0_ := Aside0.mk (blk_below (g := gb246) (o := .cells #[.int .i64 a0_0, .int .i64 a0_1, .int .u64 (IntKind.u64.wrap (a0_2 + 1))] 25 (0, 0)) (by (with_reducible repeat (first | refine blk_drewN ?_ _ | refine blk_drew ?_ | refine blk_alloc ?_ _)); refine blk_put (cs := #[.int .i64 a0_0, .int .i64 a0_1, .int .u64 a0_2]) ?_ 2 _ rfl; (with_reducible repeat (first | refine blk_drewN ?_ _ | refine blk_drew ?_ | refine blk_alloc ?_ _)); exact BK246.out) hb); have n1_ := Aside0.mk (below_step (by repeat (first | (with_reducible first | exact HB.out | apply below_alloc | apply pw_below_drewN | apply below_drew1 | refine below_set ?_ GE246.out) | exact HB.out)) hb); clear BK246; clear HB; have BK246 := n0_; have HB := n1_; clear n0_ n1_; (try clear hb); (try clear hb2); (try clear hk); (try clear hi)))
              go_ret
              exact ⟨by first | rfl | (simp [errW_none, errW_some] <;> rfl) | (simp [*, errW_none, errW_some] <;> rfl), by repeat (first | (with_reducible first | exact HB.out | apply below_alloc | apply pw_below_drewN | apply below_drew1 | refine below_set ?_ GE246.out) | exact HB.out)⟩
            · rw [if_neg c104] at H
              have c104b0 : (t248 == true) = false := by simpa using c104
              (try (have c104b1 : decide (t248 = true) = false := by simpa using c104))
              (try (have c104b2 : (t248 == true) = false := by simpa using c104))
              (try (have c104b3 : ¬ (t248 = true) := by simpa using c104))
              clear c104
              exact absurd (H.trans (congrArg some hr_.out)) (by simp)
          · replace c103 := Bool.eq_false_iff.mpr c103
            subst c103
            have H1 : (some false) = some r := by rw [if_neg (show ¬ (false = true) by decide)] at H; exact H
            clear H
            have H := H1
            clear H1
            exact absurd (H.trans (congrArg some hr_.out)) (by simp)
        · rw [if_neg c102] at H
          have c102b0 : (a0_0 == 2) = false := beq_eq_false_iff_ne.mpr c102
          have c102b1 : (a0_0 != 2) = true := bne_iff_ne.mpr c102
          by_cases c112 : t247 = true
          · subst c112
            have H1 : (if (t248 == (a0_0 == 3)) = true then ((draw_Fits.f a0_0 a0_1 (IntKind.u64.wrap (a0_2 + 1)) a1 a2).bind fun t260 => (some (t260 == t248))) else (some false)) = some r := by rw [if_pos rfl] at H; exact H
            clear H
            have H := H1
            clear H1
            by_cases c113 : (t248 == (a0_0 == 3)) = true
            · rw [if_pos c113] at H
              have c113b0 : (t248 == (a0_0 == 3)) = true := c113
              (try (have c113b1 : decide (t248 = (a0_0 == 3)) = true := by simpa using c113))
              (try (have c113b2 : (t248 == (a0_0 == 3)) = true := by simpa using c113))
              clear c113
              replace H := Option.bind_eq_some_iff.mp H
              obtain ⟨t260, A1140, H⟩ := H
              replace H : (some (t260 == t248)) = some r := H
              have A114 := Aside0.mk A1140
              clear A1140
              obtain rfl := Option.some.inj H
              clear hr_
              go_enter Try.func9, Try.ntmps9
              go_wp2_with (first | ((with_reducible refine gate_dst (N := 3) rfl ?_); refine box_event ?hg (N := 3) ?hd (cs := #[.int .i64 a0_0, .int .i64 a0_1, .int .u64 a0_2]) (t := 25) ?hr ?_; (case hd => rfl); (case hg => rfl); (case hr => first | (go_simp; done) | (go_simp; rfl)); intro gb246 hg w115 hbox hb; have n0_ := Aside0.mk (below_step (by repeat (first | (with_reducible first | exact HB.out | apply below_alloc | apply pw_below_drewN | apply below_drew1) | exact HB.out)) hb); have n1_ := Aside0.mk (hbox); have n2_ := Aside0.mk ((by rw [hg]; exact (below_size (by repeat (first | (with_reducible first | exact HB.out | apply below_alloc | apply pw_below_drewN | apply below_drew1) | exact HB.out))) : w.heap.size ≤ gb246)); have n3_ := Aside0.mk ((by rw [hg]; exact (below_size (by repeat (first | (with_reducible first | exact HB.out | apply below_alloc | apply pw_below_drewN | apply below_drew1) | exact HB.out))) : w.heap.size ≤ gb246)); clear HB; have HB := n0_; have BK246 := n1_; have GW246 := n2_; have GE246 := n3_; clear n0_ n1_ n2_ n3_; clear hb hbox hg) | ((with_reducible refine gate_callee (f := 10) rfl ?_); refine goesL_ (some 12) rfl rfl Try.func10 (by kernel_rfl) rfl #[] rfl (by (try simp only [List.map_toArray, List.map_cons, List.map_nil]); first | done | rfl | (simp only [List.length_drop, List.length_take]; rfl)) ?_; (with_reducible refine (poacherlaw05_awake.calls k  true _ A4.out).mono ?_); (try clear A4); rintro e w116 ⟨rfl, hb⟩; refine ⟨_, rfl, ?_⟩; have n0_ := Aside0.mk (blk_below (g := gb246) (o := .cells #[.int .i64 a0_0, .int .i64 a0_1, .int .u64 a0_2] 25 (0, 0)) (by (with_reducible repeat (first | refine blk_drewN ?_ _ | refine blk_drew ?_ | refine blk_alloc ?_ _)); exact BK246.out) hb); have n1_ := Aside0.mk (below_step (by repeat (first | (with_reducible first | exact HB.out | apply below_alloc | apply pw_below_drewN | apply below_drew1 | refine below_set ?_ GE246.out) | exact HB.out)) hb); clear BK246; clear HB; have BK246 := n0_; have HB := n1_; clear n0_ n1_; (try clear hb); (try clear hb2); (try clear hk); (try clear hi); have hcz117_0 : w116.cell? ⟨gb246, 0, none⟩ = some (.int .i64 a0_0) := (blk_cell BK246.out 0).trans rfl; have hcz117_1 : w116.cell? ⟨gb246, 1, none⟩ = some (.int .i64 a0_1) := (blk_cell BK246.out 1).trans rfl; have hcz117_2 : w116.cell? ⟨gb246, 2, none⟩ = some (.int .u64 a0_2) := (blk_cell BK246.out 2).trans rfl; have hfz117_0 := blk_frozen BK246.out 0; have hfz117_1 := blk_frozen BK246.out 1; have hfz117_2 := blk_frozen BK246.out 2) | ((with_reducible refine gate_callee (f := 20) rfl ?_); refine goesL_ (some 16) rfl rfl Try.func20 (by kernel_rfl) rfl #[.agg #[.int .i64 a0_0, .int .i64 a0_1, .int .u64 a0_2], .int .i64 a1, .int .i64 a2] rfl (by (try simp only [List.map_toArray, List.map_cons, List.map_nil]); first | done | rfl | (simp only [List.length_drop, List.length_take]; rfl)) ?_; (with_reducible refine (draw_Fits.calls a0_0 a0_1 a0_2 a1 a2 t248 _ A5.out).mono ?_); (try clear A5); rintro e w118 ⟨rfl, hb⟩; refine ⟨_, rfl, ?_⟩; have n0_ := Aside0.mk (blk_below (g := gb246) (o := .cells #[.int .i64 a0_0, .int .i64 a0_1, .int .u64 a0_2] 25 (0, 0)) (by (with_reducible repeat (first | refine blk_drewN ?_ _ | refine blk_drew ?_ | refine blk_alloc ?_ _)); exact BK246.out) hb); have n1_ := Aside0.mk (below_step (by repeat (first | (with_reducible first | exact HB.out | apply below_alloc | apply pw_below_drewN | apply below_drew1 | refine below_set ?_ GE246.out) | exact HB.out)) hb); clear BK246; clear HB; have BK246 := n0_; have HB := n1_; clear n0_ n1_; (try clear hb); (try clear hb2); (try clear hk); (try clear hi); have hcz119_0 : w118.cell? ⟨gb246, 0, none⟩ = some (.int .i64 a0_0) := (blk_cell BK246.out 0).trans rfl; have hcz119_1 : w118.cell? ⟨gb246, 1, none⟩ = some (.int .i64 a0_1) := (blk_cell BK246.out 1).trans rfl; have hcz119_2 : w118.cell? ⟨gb246, 2, none⟩ = some (.int .u64 a0_2) := (blk_cell BK246.out 2).trans rfl; have hfz119_0 := blk_frozen BK246.out 0; have hfz119_1 := blk_frozen BK246.out 1; have hfz119_2 := blk_frozen BK246.out 2) | (go_at_call 20; (with_reducible refine (draw_Fits.calls a0_0 a0_1 (IntKind.u64.wrap (a0_2 + 1)) a1 a2 t260 _ A114.out).mono ?_); (try clear A114); rintro e w120 ⟨rfl, hb⟩; have n0_ := Aside0.mk (blk_below (g := gb246) (o := .cells #[.int .i64 a0_0, .int .i64 a0_1, .int .u64 (IntKind.u64.wrap (a0_2 + 1))] 25 (0, 0)) (by (with_reducible repeat (first | refine blk_drewN ?_ _ | refine blk_drew ?_ | refine blk_alloc ?_ _)); refine blk_put (cs := #[.int .i64 a0_0, .int .i64 a0_1, .int .u64 a0_2]) ?_ 2 _ rfl; (with_reducible repeat (first | refine blk_drewN ?_ _ | refine blk_drew ?_ | refine blk_alloc ?_ _)); exact BK246.out) hb); have n1_ := Aside0.mk (below_step (by repeat (first | (with_reducible first | exact HB.out | apply below_alloc | apply pw_below_drewN | apply below_drew1 | refine below_set ?_ GE246.out) | exact HB.out)) hb); clear BK246; clear HB; have BK246 := n0_; have HB := n1_; clear n0_ n1_; (try clear hb); (try clear hb2); (try clear hk); (try clear hi)))
              go_ret
              exact ⟨by first | rfl | (simp [errW_none, errW_some] <;> rfl) | (simp [*, errW_none, errW_some] <;> rfl), by repeat (first | (with_reducible first | exact HB.out | apply below_alloc | apply pw_below_drewN | apply below_drew1 | refine below_set ?_ GE246.out) | exact HB.out)⟩
            · rw [if_neg c113] at H
              have c113b0 : (t248 == (a0_0 == 3)) = false := by simpa using c113
              (try (have c113b1 : decide (t248 = (a0_0 == 3)) = false := by simpa using c113))
              (try (have c113b2 : (t248 == (a0_0 == 3)) = false := by simpa using c113))
              (try (have c113b3 : ¬ (t248 = (a0_0 == 3)) := by simpa using c113))
              clear c113
              exact absurd (H.trans (congrArg some hr_.out)) (by simp)
          · replace c112 := Bool.eq_false_iff.mpr c112
            subst c112
            have H1 : (some false) = some r := by rw [if_neg (show ¬ (false = true) by decide)] at H; exact H
            clear H
            have H := H1
            clear H1
            exact absurd (H.trans (congrArg some hr_.out)) (by simp)
      · rw [if_neg c101] at H
        have c101b0 : (a0_0 == 1) = false := beq_eq_false_iff_ne.mpr c101
        have c101b1 : (a0_0 != 1) = true := bne_iff_ne.mpr c101
        by_cases c121 : a0_0 = 2
        · rw [if_pos c121] at H
          have c121b0 : (a0_0 == 2) = true := beq_iff_eq.mpr c121
          have c121b1 : (a0_0 != 2) = false := bne_eq_false_iff_eq.mpr c121
          clear c121
          by_cases c122 : t247 = true
          · subst c122
            have H1 : (if (t248 == true) = true then ((draw_Fits.f a0_0 a0_1 (IntKind.u64.wrap (a0_2 + 1)) a1 a2).bind fun t261 => (some (t261 == t248))) else (some false)) = some r := by rw [if_pos rfl] at H; exact H
            clear H
            have H := H1
            clear H1
            by_cases c123 : (t248 == true) = true
            · rw [if_pos c123] at H
              have c123b0 : (t248 == true) = true := c123
              (try (have c123b1 : decide (t248 = true) = true := by simpa using c123))
              (try (have c123b2 : (t248 == true) = true := by simpa using c123))
              clear c123
              replace H := Option.bind_eq_some_iff.mp H
              obtain ⟨t261, A1240, H⟩ := H
              replace H : (some (t261 == t248)) = some r := H
              have A124 := Aside0.mk A1240
              clear A1240
              obtain rfl := Option.some.inj H
              clear hr_
              go_enter Try.func9, Try.ntmps9
              go_wp2_with (first | ((with_reducible refine gate_dst (N := 3) rfl ?_); refine box_event ?hg (N := 3) ?hd (cs := #[.int .i64 a0_0, .int .i64 a0_1, .int .u64 a0_2]) (t := 25) ?hr ?_; (case hd => rfl); (case hg => rfl); (case hr => first | (go_simp; done) | (go_simp; rfl)); intro gb246 hg w125 hbox hb; have n0_ := Aside0.mk (below_step (by repeat (first | (with_reducible first | exact HB.out | apply below_alloc | apply pw_below_drewN | apply below_drew1) | exact HB.out)) hb); have n1_ := Aside0.mk (hbox); have n2_ := Aside0.mk ((by rw [hg]; exact (below_size (by repeat (first | (with_reducible first | exact HB.out | apply below_alloc | apply pw_below_drewN | apply below_drew1) | exact HB.out))) : w.heap.size ≤ gb246)); have n3_ := Aside0.mk ((by rw [hg]; exact (below_size (by repeat (first | (with_reducible first | exact HB.out | apply below_alloc | apply pw_below_drewN | apply below_drew1) | exact HB.out))) : w.heap.size ≤ gb246)); clear HB; have HB := n0_; have BK246 := n1_; have GW246 := n2_; have GE246 := n3_; clear n0_ n1_ n2_ n3_; clear hb hbox hg) | ((with_reducible refine gate_callee (f := 10) rfl ?_); refine goesL_ (some 12) rfl rfl Try.func10 (by kernel_rfl) rfl #[] rfl (by (try simp only [List.map_toArray, List.map_cons, List.map_nil]); first | done | rfl | (simp only [List.length_drop, List.length_take]; rfl)) ?_; (with_reducible refine (poacherlaw05_awake.calls k  true _ A4.out).mono ?_); (try clear A4); rintro e w126 ⟨rfl, hb⟩; refine ⟨_, rfl, ?_⟩; have n0_ := Aside0.mk (blk_below (g := gb246) (o := .cells #[.int .i64 a0_0, .int .i64 a0_1, .int .u64 a0_2] 25 (0, 0)) (by (with_reducible repeat (first | refine blk_drewN ?_ _ | refine blk_drew ?_ | refine blk_alloc ?_ _)); exact BK246.out) hb); have n1_ := Aside0.mk (below_step (by repeat (first | (with_reducible first | exact HB.out | apply below_alloc | apply pw_below_drewN | apply below_drew1 | refine below_set ?_ GE246.out) | exact HB.out)) hb); clear BK246; clear HB; have BK246 := n0_; have HB := n1_; clear n0_ n1_; (try clear hb); (try clear hb2); (try clear hk); (try clear hi); have hcz127_0 : w126.cell? ⟨gb246, 0, none⟩ = some (.int .i64 a0_0) := (blk_cell BK246.out 0).trans rfl; have hcz127_1 : w126.cell? ⟨gb246, 1, none⟩ = some (.int .i64 a0_1) := (blk_cell BK246.out 1).trans rfl; have hcz127_2 : w126.cell? ⟨gb246, 2, none⟩ = some (.int .u64 a0_2) := (blk_cell BK246.out 2).trans rfl; have hfz127_0 := blk_frozen BK246.out 0; have hfz127_1 := blk_frozen BK246.out 1; have hfz127_2 := blk_frozen BK246.out 2) | ((with_reducible refine gate_callee (f := 20) rfl ?_); refine goesL_ (some 16) rfl rfl Try.func20 (by kernel_rfl) rfl #[.agg #[.int .i64 a0_0, .int .i64 a0_1, .int .u64 a0_2], .int .i64 a1, .int .i64 a2] rfl (by (try simp only [List.map_toArray, List.map_cons, List.map_nil]); first | done | rfl | (simp only [List.length_drop, List.length_take]; rfl)) ?_; (with_reducible refine (draw_Fits.calls a0_0 a0_1 a0_2 a1 a2 t248 _ A5.out).mono ?_); (try clear A5); rintro e w128 ⟨rfl, hb⟩; refine ⟨_, rfl, ?_⟩; have n0_ := Aside0.mk (blk_below (g := gb246) (o := .cells #[.int .i64 a0_0, .int .i64 a0_1, .int .u64 a0_2] 25 (0, 0)) (by (with_reducible repeat (first | refine blk_drewN ?_ _ | refine blk_drew ?_ | refine blk_alloc ?_ _)); exact BK246.out) hb); have n1_ := Aside0.mk (below_step (by repeat (first | (with_reducible first | exact HB.out | apply below_alloc | apply pw_below_drewN | apply below_drew1 | refine below_set ?_ GE246.out) | exact HB.out)) hb); clear BK246; clear HB; have BK246 := n0_; have HB := n1_; clear n0_ n1_; (try clear hb); (try clear hb2); (try clear hk); (try clear hi); have hcz129_0 : w128.cell? ⟨gb246, 0, none⟩ = some (.int .i64 a0_0) := (blk_cell BK246.out 0).trans rfl; have hcz129_1 : w128.cell? ⟨gb246, 1, none⟩ = some (.int .i64 a0_1) := (blk_cell BK246.out 1).trans rfl; have hcz129_2 : w128.cell? ⟨gb246, 2, none⟩ = some (.int .u64 a0_2) := (blk_cell BK246.out 2).trans rfl; have hfz129_0 := blk_frozen BK246.out 0; have hfz129_1 := blk_frozen BK246.out 1; have hfz129_2 := blk_frozen BK246.out 2) | (go_at_call 20; (with_reducible refine (draw_Fits.calls a0_0 a0_1 (IntKind.u64.wrap (a0_2 + 1)) a1 a2 t261 _ A124.out).mono ?_); (try clear A124); rintro e w130 ⟨rfl, hb⟩; have n0_ := Aside0.mk (blk_below (g := gb246) (o := .cells #[.int .i64 a0_0, .int .i64 a0_1, .int .u64 (IntKind.u64.wrap (a0_2 + 1))] 25 (0, 0)) (by (with_reducible repeat (first | refine blk_drewN ?_ _ | refine blk_drew ?_ | refine blk_alloc ?_ _)); refine blk_put (cs := #[.int .i64 a0_0, .int .i64 a0_1, .int .u64 a0_2]) ?_ 2 _ rfl; (with_reducible repeat (first | refine blk_drewN ?_ _ | refine blk_drew ?_ | refine blk_alloc ?_ _)); exact BK246.out) hb); have n1_ := Aside0.mk (below_step (by repeat (first | (with_reducible first | exact HB.out | apply below_alloc | apply pw_below_drewN | apply below_drew1 | refine below_set ?_ GE246.out) | exact HB.out)) hb); clear BK246; clear HB; have BK246 := n0_; have HB := n1_; clear n0_ n1_; (try clear hb); (try clear hb2); (try clear hk); (try clear hi)))
              go_ret
              exact ⟨by first | rfl | (simp [errW_none, errW_some] <;> rfl) | (simp [*, errW_none, errW_some] <;> rfl), by repeat (first | (with_reducible first | exact HB.out | apply below_alloc | apply pw_below_drewN | apply below_drew1 | refine below_set ?_ GE246.out) | exact HB.out)⟩
            · rw [if_neg c123] at H
              have c123b0 : (t248 == true) = false := by simpa using c123
              (try (have c123b1 : decide (t248 = true) = false := by simpa using c123))
              (try (have c123b2 : (t248 == true) = false := by simpa using c123))
              (try (have c123b3 : ¬ (t248 = true) := by simpa using c123))
              clear c123
              exact absurd (H.trans (congrArg some hr_.out)) (by simp)
          · replace c122 := Bool.eq_false_iff.mpr c122
            subst c122
            have H1 : (some false) = some r := by rw [if_neg (show ¬ (false = true) by decide)] at H; exact H
            clear H
            have H := H1
            clear H1
            exact absurd (H.trans (congrArg some hr_.out)) (by simp)
        · rw [if_neg c121] at H
          have c121b0 : (a0_0 == 2) = false := beq_eq_false_iff_ne.mpr c121
          have c121b1 : (a0_0 != 2) = true := bne_iff_ne.mpr c121
          by_cases c131 : t247 = true
          · subst c131
            have H1 : (if (t248 == (a0_0 == 3)) = true then ((draw_Fits.f a0_0 a0_1 (IntKind.u64.wrap (a0_2 + 1)) a1 a2).bind fun t262 => (some (t262 == t248))) else (some false)) = some r := by rw [if_pos rfl] at H; exact H
            clear H
            have H := H1
            clear H1
            by_cases c132 : (t248 == (a0_0 == 3)) = true
            · rw [if_pos c132] at H
              have c132b0 : (t248 == (a0_0 == 3)) = true := c132
              (try (have c132b1 : decide (t248 = (a0_0 == 3)) = true := by simpa using c132))
              (try (have c132b2 : (t248 == (a0_0 == 3)) = true := by simpa using c132))
              clear c132
              replace H := Option.bind_eq_some_iff.mp H
              obtain ⟨t262, A1330, H⟩ := H
              replace H : (some (t262 == t248)) = some r := H
              have A133 := Aside0.mk A1330
              clear A1330
              obtain rfl := Option.some.inj H
              clear hr_
              go_enter Try.func9, Try.ntmps9
              go_wp2_with (first | ((with_reducible refine gate_dst (N := 3) rfl ?_); refine box_event ?hg (N := 3) ?hd (cs := #[.int .i64 a0_0, .int .i64 a0_1, .int .u64 a0_2]) (t := 25) ?hr ?_; (case hd => rfl); (case hg => rfl); (case hr => first | (go_simp; done) | (go_simp; rfl)); intro gb246 hg w134 hbox hb; have n0_ := Aside0.mk (below_step (by repeat (first | (with_reducible first | exact HB.out | apply below_alloc | apply pw_below_drewN | apply below_drew1) | exact HB.out)) hb); have n1_ := Aside0.mk (hbox); have n2_ := Aside0.mk ((by rw [hg]; exact (below_size (by repeat (first | (with_reducible first | exact HB.out | apply below_alloc | apply pw_below_drewN | apply below_drew1) | exact HB.out))) : w.heap.size ≤ gb246)); have n3_ := Aside0.mk ((by rw [hg]; exact (below_size (by repeat (first | (with_reducible first | exact HB.out | apply below_alloc | apply pw_below_drewN | apply below_drew1) | exact HB.out))) : w.heap.size ≤ gb246)); clear HB; have HB := n0_; have BK246 := n1_; have GW246 := n2_; have GE246 := n3_; clear n0_ n1_ n2_ n3_; clear hb hbox hg) | ((with_reducible refine gate_callee (f := 10) rfl ?_); refine goesL_ (some 12) rfl rfl Try.func10 (by kernel_rfl) rfl #[] rfl (by (try simp only [List.map_toArray, List.map_cons, List.map_nil]); first | done | rfl | (simp only [List.length_drop, List.length_take]; rfl)) ?_; (with_reducible refine (poacherlaw05_awake.calls k  true _ A4.out).mono ?_); (try clear A4); rintro e w135 ⟨rfl, hb⟩; refine ⟨_, rfl, ?_⟩; have n0_ := Aside0.mk (blk_below (g := gb246) (o := .cells #[.int .i64 a0_0, .int .i64 a0_1, .int .u64 a0_2] 25 (0, 0)) (by (with_reducible repeat (first | refine blk_drewN ?_ _ | refine blk_drew ?_ | refine blk_alloc ?_ _)); exact BK246.out) hb); have n1_ := Aside0.mk (below_step (by repeat (first | (with_reducible first | exact HB.out | apply below_alloc | apply pw_below_drewN | apply below_drew1 | refine below_set ?_ GE246.out) | exact HB.out)) hb); clear BK246; clear HB; have BK246 := n0_; have HB := n1_; clear n0_ n1_; (try clear hb); (try clear hb2); (try clear hk); (try clear hi); have hcz136_0 : w135.cell? ⟨gb246, 0, none⟩ = some (.int .i64 a0_0) := (blk_cell BK246.out 0).trans rfl; have hcz136_1 : w135.cell? ⟨gb246, 1, none⟩ = some (.int .i64 a0_1) := (blk_cell BK246.out 1).trans rfl; have hcz136_2 : w135.cell? ⟨gb246, 2, none⟩ = some (.int .u64 a0_2) := (blk_cell BK246.out 2).trans rfl; have hfz136_0 := blk_frozen BK246.out 0; have hfz136_1 := blk_frozen BK246.out 1; have hfz136_2 := blk_frozen BK246.out 2) | ((with_reducible refine gate_callee (f := 20) rfl ?_); refine goesL_ (some 16) rfl rfl Try.func20 (by kernel_rfl) rfl #[.agg #[.int .i64 a0_0, .int .i64 a0_1, .int .u64 a0_2], .int .i64 a1, .int .i64 a2] rfl (by (try simp only [List.map_toArray, List.map_cons, List.map_nil]); first | done | rfl | (simp only [List.length_drop, List.length_take]; rfl)) ?_; (with_reducible refine (draw_Fits.calls a0_0 a0_1 a0_2 a1 a2 t248 _ A5.out).mono ?_); (try clear A5); rintro e w137 ⟨rfl, hb⟩; refine ⟨_, rfl, ?_⟩; have n0_ := Aside0.mk (blk_below (g := gb246) (o := .cells #[.int .i64 a0_0, .int .i64 a0_1, .int .u64 a0_2] 25 (0, 0)) (by (with_reducible repeat (first | refine blk_drewN ?_ _ | refine blk_drew ?_ | refine blk_alloc ?_ _)); exact BK246.out) hb); have n1_ := Aside0.mk (below_step (by repeat (first | (with_reducible first | exact HB.out | apply below_alloc | apply pw_below_drewN | apply below_drew1 | refine below_set ?_ GE246.out) | exact HB.out)) hb); clear BK246; clear HB; have BK246 := n0_; have HB := n1_; clear n0_ n1_; (try clear hb); (try clear hb2); (try clear hk); (try clear hi); have hcz138_0 : w137.cell? ⟨gb246, 0, none⟩ = some (.int .i64 a0_0) := (blk_cell BK246.out 0).trans rfl; have hcz138_1 : w137.cell? ⟨gb246, 1, none⟩ = some (.int .i64 a0_1) := (blk_cell BK246.out 1).trans rfl; have hcz138_2 : w137.cell? ⟨gb246, 2, none⟩ = some (.int .u64 a0_2) := (blk_cell BK246.out 2).trans rfl; have hfz138_0 := blk_frozen BK246.out 0; have hfz138_1 := blk_frozen BK246.out 1; have hfz138_2 := blk_frozen BK246.out 2) | (go_at_call 20; (with_reducible refine (draw_Fits.calls a0_0 a0_1 (IntKind.u64.wrap (a0_2 + 1)) a1 a2 t262 _ A133.out).mono ?_); (try clear A133); rintro e w139 ⟨rfl, hb⟩; have n0_ := Aside0.mk (blk_below (g := gb246) (o := .cells #[.int .i64 a0_0, .int .i64 a0_1, .int .u64 (IntKind.u64.wrap (a0_2 + 1))] 25 (0, 0)) (by (with_reducible repeat (first | refine blk_drewN ?_ _ | refine blk_drew ?_ | refine blk_alloc ?_ _)); refine blk_put (cs := #[.int .i64 a0_0, .int .i64 a0_1, .int .u64 a0_2]) ?_ 2 _ rfl; (with_reducible repeat (first | refine blk_drewN ?_ _ | refine blk_drew ?_ | refine blk_alloc ?_ _)); exact BK246.out) hb); have n1_ := Aside0.mk (below_step (by repeat (first | (with_reducible first | exact HB.out | apply below_alloc | apply pw_below_drewN | apply below_drew1 | refine below_set ?_ GE246.out) | exact HB.out)) hb); clear BK246; clear HB; have BK246 := n0_; have HB := n1_; clear n0_ n1_; (try clear hb); (try clear hb2); (try clear hk); (try clear hi)))
              go_ret
              exact ⟨by first | rfl | (simp [errW_none, errW_some] <;> rfl) | (simp [*, errW_none, errW_some] <;> rfl), by repeat (first | (with_reducible first | exact HB.out | apply below_alloc | apply pw_below_drewN | apply below_drew1 | refine below_set ?_ GE246.out) | exact HB.out)⟩
            · rw [if_neg c132] at H
              have c132b0 : (t248 == (a0_0 == 3)) = false := by simpa using c132
              (try (have c132b1 : decide (t248 = (a0_0 == 3)) = false := by simpa using c132))
              (try (have c132b2 : (t248 == (a0_0 == 3)) = false := by simpa using c132))
              (try (have c132b3 : ¬ (t248 = (a0_0 == 3)) := by simpa using c132))
              clear c132
              exact absurd (H.trans (congrArg some hr_.out)) (by simp)
          · replace c131 := Bool.eq_false_iff.mpr c131
            subst c131
            have H1 : (some false) = some r := by rw [if_neg (show ¬ (false = true) by decide)] at H; exact H
            clear H
            have H := H1
            clear H1
            exact absurd (H.trans (congrArg some hr_.out)) (by simp)
  · rw [if_neg c6] at H
    have c6b0 : (a0_0 == 0) = false := beq_eq_false_iff_ne.mpr c6
    have c6b1 : (a0_0 != 0) = true := bne_iff_ne.mpr c6
    by_cases c140 : a0_0 = 1
    · rw [if_pos c140] at H
      have c140b0 : (a0_0 == 1) = true := beq_iff_eq.mpr c140
      have c140b1 : (a0_0 != 1) = false := bne_eq_false_iff_eq.mpr c140
      clear c140
      by_cases c141 : a0_1 ≥ 0
      · rw [if_pos c141] at H
        have c141b0 : decide (0 ≤ a0_1) = true := decide_eq_true c141
        clear c141
        by_cases c142 : a0_0 = 2
        · rw [if_pos c142] at H
          have c142b0 : (a0_0 == 2) = true := beq_iff_eq.mpr c142
          have c142b1 : (a0_0 != 2) = false := bne_eq_false_iff_eq.mpr c142
          clear c142
          by_cases c143 : t247 = true
          · subst c143
            have H1 : (if a0_1 < a2 then (if (t248 == true) = true then ((draw_Fits.f a0_0 a0_1 (IntKind.u64.wrap (a0_2 + 1)) a1 a2).bind fun t263 => (some (t263 == t248))) else (some false)) else (if (t248 == true) = true then ((draw_Fits.f a0_0 a0_1 (IntKind.u64.wrap (a0_2 + 1)) a1 a2).bind fun t264 => (some (t264 == t248))) else (some false))) = some r := by rw [if_pos rfl] at H; exact H
            clear H
            have H := H1
            clear H1
            by_cases c144 : a0_1 < a2
            · rw [if_pos c144] at H
              have c144b0 : decide (a0_1 < a2) = true := decide_eq_true c144
              clear c144
              by_cases c145 : (t248 == true) = true
              · rw [if_pos c145] at H
                have c145b0 : (t248 == true) = true := c145
                (try (have c145b1 : decide (t248 = true) = true := by simpa using c145))
                (try (have c145b2 : (t248 == true) = true := by simpa using c145))
                clear c145
                replace H := Option.bind_eq_some_iff.mp H
                obtain ⟨t263, A1460, H⟩ := H
                replace H : (some (t263 == t248)) = some r := H
                have A146 := Aside0.mk A1460
                clear A1460
                obtain rfl := Option.some.inj H
                clear hr_
                go_enter Try.func9, Try.ntmps9
                go_wp2_with (first | ((with_reducible refine gate_dst (N := 3) rfl ?_); refine box_event ?hg (N := 3) ?hd (cs := #[.int .i64 a0_0, .int .i64 a0_1, .int .u64 a0_2]) (t := 25) ?hr ?_; (case hd => rfl); (case hg => rfl); (case hr => first | (go_simp; done) | (go_simp; rfl)); intro gb246 hg w147 hbox hb; have n0_ := Aside0.mk (below_step (by repeat (first | (with_reducible first | exact HB.out | apply below_alloc | apply pw_below_drewN | apply below_drew1) | exact HB.out)) hb); have n1_ := Aside0.mk (hbox); have n2_ := Aside0.mk ((by rw [hg]; exact (below_size (by repeat (first | (with_reducible first | exact HB.out | apply below_alloc | apply pw_below_drewN | apply below_drew1) | exact HB.out))) : w.heap.size ≤ gb246)); have n3_ := Aside0.mk ((by rw [hg]; exact (below_size (by repeat (first | (with_reducible first | exact HB.out | apply below_alloc | apply pw_below_drewN | apply below_drew1) | exact HB.out))) : w.heap.size ≤ gb246)); clear HB; have HB := n0_; have BK246 := n1_; have GW246 := n2_; have GE246 := n3_; clear n0_ n1_ n2_ n3_; clear hb hbox hg) | ((with_reducible refine gate_callee (f := 10) rfl ?_); refine goesL_ (some 12) rfl rfl Try.func10 (by kernel_rfl) rfl #[] rfl (by (try simp only [List.map_toArray, List.map_cons, List.map_nil]); first | done | rfl | (simp only [List.length_drop, List.length_take]; rfl)) ?_; (with_reducible refine (poacherlaw05_awake.calls k  true _ A4.out).mono ?_); (try clear A4); rintro e w148 ⟨rfl, hb⟩; refine ⟨_, rfl, ?_⟩; have n0_ := Aside0.mk (blk_below (g := gb246) (o := .cells #[.int .i64 a0_0, .int .i64 a0_1, .int .u64 a0_2] 25 (0, 0)) (by (with_reducible repeat (first | refine blk_drewN ?_ _ | refine blk_drew ?_ | refine blk_alloc ?_ _)); exact BK246.out) hb); have n1_ := Aside0.mk (below_step (by repeat (first | (with_reducible first | exact HB.out | apply below_alloc | apply pw_below_drewN | apply below_drew1 | refine below_set ?_ GE246.out) | exact HB.out)) hb); clear BK246; clear HB; have BK246 := n0_; have HB := n1_; clear n0_ n1_; (try clear hb); (try clear hb2); (try clear hk); (try clear hi); have hcz149_0 : w148.cell? ⟨gb246, 0, none⟩ = some (.int .i64 a0_0) := (blk_cell BK246.out 0).trans rfl; have hcz149_1 : w148.cell? ⟨gb246, 1, none⟩ = some (.int .i64 a0_1) := (blk_cell BK246.out 1).trans rfl; have hcz149_2 : w148.cell? ⟨gb246, 2, none⟩ = some (.int .u64 a0_2) := (blk_cell BK246.out 2).trans rfl; have hfz149_0 := blk_frozen BK246.out 0; have hfz149_1 := blk_frozen BK246.out 1; have hfz149_2 := blk_frozen BK246.out 2) | ((with_reducible refine gate_callee (f := 20) rfl ?_); refine goesL_ (some 16) rfl rfl Try.func20 (by kernel_rfl) rfl #[.agg #[.int .i64 a0_0, .int .i64 a0_1, .int .u64 a0_2], .int .i64 a1, .int .i64 a2] rfl (by (try simp only [List.map_toArray, List.map_cons, List.map_nil]); first | done | rfl | (simp only [List.length_drop, List.length_take]; rfl)) ?_; (with_reducible refine (draw_Fits.calls a0_0 a0_1 a0_2 a1 a2 t248 _ A5.out).mono ?_); (try clear A5); rintro e w150 ⟨rfl, hb⟩; refine ⟨_, rfl, ?_⟩; have n0_ := Aside0.mk (blk_below (g := gb246) (o := .cells #[.int .i64 a0_0, .int .i64 a0_1, .int .u64 a0_2] 25 (0, 0)) (by (with_reducible repeat (first | refine blk_drewN ?_ _ | refine blk_drew ?_ | refine blk_alloc ?_ _)); exact BK246.out) hb); have n1_ := Aside0.mk (below_step (by repeat (first | (with_reducible first | exact HB.out | apply below_alloc | apply pw_below_drewN | apply below_drew1 | refine below_set ?_ GE246.out) | exact HB.out)) hb); clear BK246; clear HB; have BK246 := n0_; have HB := n1_; clear n0_ n1_; (try clear hb); (try clear hb2); (try clear hk); (try clear hi); have hcz151_0 : w150.cell? ⟨gb246, 0, none⟩ = some (.int .i64 a0_0) := (blk_cell BK246.out 0).trans rfl; have hcz151_1 : w150.cell? ⟨gb246, 1, none⟩ = some (.int .i64 a0_1) := (blk_cell BK246.out 1).trans rfl; have hcz151_2 : w150.cell? ⟨gb246, 2, none⟩ = some (.int .u64 a0_2) := (blk_cell BK246.out 2).trans rfl; have hfz151_0 := blk_frozen BK246.out 0; have hfz151_1 := blk_frozen BK246.out 1; have hfz151_2 := blk_frozen BK246.out 2) | (go_at_call 20; (with_reducible refine (draw_Fits.calls a0_0 a0_1 (IntKind.u64.wrap (a0_2 + 1)) a1 a2 t263 _ A146.out).mono ?_); (try clear A146); rintro e w152 ⟨rfl, hb⟩; have n0_ := Aside0.mk (blk_below (g := gb246) (o := .cells #[.int .i64 a0_0, .int .i64 a0_1, .int .u64 (IntKind.u64.wrap (a0_2 + 1))] 25 (0, 0)) (by (with_reducible repeat (first | refine blk_drewN ?_ _ | refine blk_drew ?_ | refine blk_alloc ?_ _)); refine blk_put (cs := #[.int .i64 a0_0, .int .i64 a0_1, .int .u64 a0_2]) ?_ 2 _ rfl; (with_reducible repeat (first | refine blk_drewN ?_ _ | refine blk_drew ?_ | refine blk_alloc ?_ _)); exact BK246.out) hb); have n1_ := Aside0.mk (below_step (by repeat (first | (with_reducible first | exact HB.out | apply below_alloc | apply pw_below_drewN | apply below_drew1 | refine below_set ?_ GE246.out) | exact HB.out)) hb); clear BK246; clear HB; have BK246 := n0_; have HB := n1_; clear n0_ n1_; (try clear hb); (try clear hb2); (try clear hk); (try clear hi)))
                go_ret
                exact ⟨by first | rfl | (simp [errW_none, errW_some] <;> rfl) | (simp [*, errW_none, errW_some] <;> rfl), by repeat (first | (with_reducible first | exact HB.out | apply below_alloc | apply pw_below_drewN | apply below_drew1 | refine below_set ?_ GE246.out) | exact HB.out)⟩
              · rw [if_neg c145] at H
                have c145b0 : (t248 == true) = false := by simpa using c145
                (try (have c145b1 : decide (t248 = true) = false := by simpa using c145))
                (try (have c145b2 : (t248 == true) = false := by simpa using c145))
                (try (have c145b3 : ¬ (t248 = true) := by simpa using c145))
                clear c145
                exact absurd (H.trans (congrArg some hr_.out)) (by simp)
            · rw [if_neg c144] at H
              have c144b0 : decide (a0_1 < a2) = false := decide_eq_false c144
              clear c144
              by_cases c153 : (t248 == true) = true
              · rw [if_pos c153] at H
                have c153b0 : (t248 == true) = true := c153
                (try (have c153b1 : decide (t248 = true) = true := by simpa using c153))
                (try (have c153b2 : (t248 == true) = true := by simpa using c153))
                clear c153
                replace H := Option.bind_eq_some_iff.mp H
                obtain ⟨t264, A1540, H⟩ := H
                replace H : (some (t264 == t248)) = some r := H
                have A154 := Aside0.mk A1540
                clear A1540
                obtain rfl := Option.some.inj H
                clear hr_
                go_enter Try.func9, Try.ntmps9
                go_wp2_with (first | ((with_reducible refine gate_dst (N := 3) rfl ?_); refine box_event ?hg (N := 3) ?hd (cs := #[.int .i64 a0_0, .int .i64 a0_1, .int .u64 a0_2]) (t := 25) ?hr ?_; (case hd => rfl); (case hg => rfl); (case hr => first | (go_simp; done) | (go_simp; rfl)); intro gb246 hg w155 hbox hb; have n0_ := Aside0.mk (below_step (by repeat (first | (with_reducible first | exact HB.out | apply below_alloc | apply pw_below_drewN | apply below_drew1) | exact HB.out)) hb); have n1_ := Aside0.mk (hbox); have n2_ := Aside0.mk ((by rw [hg]; exact (below_size (by repeat (first | (with_reducible first | exact HB.out | apply below_alloc | apply pw_below_drewN | apply below_drew1) | exact HB.out))) : w.heap.size ≤ gb246)); have n3_ := Aside0.mk ((by rw [hg]; exact (below_size (by repeat (first | (with_reducible first | exact HB.out | apply below_alloc | apply pw_below_drewN | apply below_drew1) | exact HB.out))) : w.heap.size ≤ gb246)); clear HB; have HB := n0_; have BK246 := n1_; have GW246 := n2_; have GE246 := n3_; clear n0_ n1_ n2_ n3_; clear hb hbox hg) | ((with_reducible refine gate_callee (f := 10) rfl ?_); refine goesL_ (some 12) rfl rfl Try.func10 (by kernel_rfl) rfl #[] rfl (by (try simp only [List.map_toArray, List.map_cons, List.map_nil]); first | done | rfl | (simp only [List.length_drop, List.length_take]; rfl)) ?_; (with_reducible refine (poacherlaw05_awake.calls k  true _ A4.out).mono ?_); (try clear A4); rintro e w156 ⟨rfl, hb⟩; refine ⟨_, rfl, ?_⟩; have n0_ := Aside0.mk (blk_below (g := gb246) (o := .cells #[.int .i64 a0_0, .int .i64 a0_1, .int .u64 a0_2] 25 (0, 0)) (by (with_reducible repeat (first | refine blk_drewN ?_ _ | refine blk_drew ?_ | refine blk_alloc ?_ _)); exact BK246.out) hb); have n1_ := Aside0.mk (below_step (by repeat (first | (with_reducible first | exact HB.out | apply below_alloc | apply pw_below_drewN | apply below_drew1 | refine below_set ?_ GE246.out) | exact HB.out)) hb); clear BK246; clear HB; have BK246 := n0_; have HB := n1_; clear n0_ n1_; (try clear hb); (try clear hb2); (try clear hk); (try clear hi); have hcz157_0 : w156.cell? ⟨gb246, 0, none⟩ = some (.int .i64 a0_0) := (blk_cell BK246.out 0).trans rfl; have hcz157_1 : w156.cell? ⟨gb246, 1, none⟩ = some (.int .i64 a0_1) := (blk_cell BK246.out 1).trans rfl; have hcz157_2 : w156.cell? ⟨gb246, 2, none⟩ = some (.int .u64 a0_2) := (blk_cell BK246.out 2).trans rfl; have hfz157_0 := blk_frozen BK246.out 0; have hfz157_1 := blk_frozen BK246.out 1; have hfz157_2 := blk_frozen BK246.out 2) | ((with_reducible refine gate_callee (f := 20) rfl ?_); refine goesL_ (some 16) rfl rfl Try.func20 (by kernel_rfl) rfl #[.agg #[.int .i64 a0_0, .int .i64 a0_1, .int .u64 a0_2], .int .i64 a1, .int .i64 a2] rfl (by (try simp only [List.map_toArray, List.map_cons, List.map_nil]); first | done | rfl | (simp only [List.length_drop, List.length_take]; rfl)) ?_; (with_reducible refine (draw_Fits.calls a0_0 a0_1 a0_2 a1 a2 t248 _ A5.out).mono ?_); (try clear A5); rintro e w158 ⟨rfl, hb⟩; refine ⟨_, rfl, ?_⟩; have n0_ := Aside0.mk (blk_below (g := gb246) (o := .cells #[.int .i64 a0_0, .int .i64 a0_1, .int .u64 a0_2] 25 (0, 0)) (by (with_reducible repeat (first | refine blk_drewN ?_ _ | refine blk_drew ?_ | refine blk_alloc ?_ _)); exact BK246.out) hb); have n1_ := Aside0.mk (below_step (by repeat (first | (with_reducible first | exact HB.out | apply below_alloc | apply pw_below_drewN | apply below_drew1 | refine below_set ?_ GE246.out) | exact HB.out)) hb); clear BK246; clear HB; have BK246 := n0_; have HB := n1_; clear n0_ n1_; (try clear hb); (try clear hb2); (try clear hk); (try clear hi); have hcz159_0 : w158.cell? ⟨gb246, 0, none⟩ = some (.int .i64 a0_0) := (blk_cell BK246.out 0).trans rfl; have hcz159_1 : w158.cell? ⟨gb246, 1, none⟩ = some (.int .i64 a0_1) := (blk_cell BK246.out 1).trans rfl; have hcz159_2 : w158.cell? ⟨gb246, 2, none⟩ = some (.int .u64 a0_2) := (blk_cell BK246.out 2).trans rfl; have hfz159_0 := blk_frozen BK246.out 0; have hfz159_1 := blk_frozen BK246.out 1; have hfz159_2 := blk_frozen BK246.out 2) | (go_at_call 20; (with_reducible refine (draw_Fits.calls a0_0 a0_1 (IntKind.u64.wrap (a0_2 + 1)) a1 a2 t264 _ A154.out).mono ?_); (try clear A154); rintro e w160 ⟨rfl, hb⟩; have n0_ := Aside0.mk (blk_below (g := gb246) (o := .cells #[.int .i64 a0_0, .int .i64 a0_1, .int .u64 (IntKind.u64.wrap (a0_2 + 1))] 25 (0, 0)) (by (with_reducible repeat (first | refine blk_drewN ?_ _ | refine blk_drew ?_ | refine blk_alloc ?_ _)); refine blk_put (cs := #[.int .i64 a0_0, .int .i64 a0_1, .int .u64 a0_2]) ?_ 2 _ rfl; (with_reducible repeat (first | refine blk_drewN ?_ _ | refine blk_drew ?_ | refine blk_alloc ?_ _)); exact BK246.out) hb); have n1_ := Aside0.mk (below_step (by repeat (first | (with_reducible first | exact HB.out | apply below_alloc | apply pw_below_drewN | apply below_drew1 | refine below_set ?_ GE246.out) | exact HB.out)) hb); clear BK246; clear HB; have BK246 := n0_; have HB := n1_; clear n0_ n1_; (try clear hb); (try clear hb2); (try clear hk); (try clear hi)))
                go_ret
                exact ⟨by first | rfl | (simp [errW_none, errW_some] <;> rfl) | (simp [*, errW_none, errW_some] <;> rfl), by repeat (first | (with_reducible first | exact HB.out | apply below_alloc | apply pw_below_drewN | apply below_drew1 | refine below_set ?_ GE246.out) | exact HB.out)⟩
              · rw [if_neg c153] at H
                have c153b0 : (t248 == true) = false := by simpa using c153
                (try (have c153b1 : decide (t248 = true) = false := by simpa using c153))
                (try (have c153b2 : (t248 == true) = false := by simpa using c153))
                (try (have c153b3 : ¬ (t248 = true) := by simpa using c153))
                clear c153
                exact absurd (H.trans (congrArg some hr_.out)) (by simp)
          · replace c143 := Bool.eq_false_iff.mpr c143
            subst c143
            have H1 : (some false) = some r := by rw [if_neg (show ¬ (false = true) by decide)] at H; exact H
            clear H
            have H := H1
            clear H1
            exact absurd (H.trans (congrArg some hr_.out)) (by simp)
        · rw [if_neg c142] at H
          have c142b0 : (a0_0 == 2) = false := beq_eq_false_iff_ne.mpr c142
          have c142b1 : (a0_0 != 2) = true := bne_iff_ne.mpr c142
          by_cases c161 : t247 = true
          · subst c161
            have H1 : (if a0_1 < a2 then (if (t248 == true) = true then ((draw_Fits.f a0_0 a0_1 (IntKind.u64.wrap (a0_2 + 1)) a1 a2).bind fun t265 => (some (t265 == t248))) else (some false)) else (if (t248 == (a0_0 == 3)) = true then ((draw_Fits.f a0_0 a0_1 (IntKind.u64.wrap (a0_2 + 1)) a1 a2).bind fun t266 => (some (t266 == t248))) else (some false))) = some r := by rw [if_pos rfl] at H; exact H
            clear H
            have H := H1
            clear H1
            by_cases c162 : a0_1 < a2
            · rw [if_pos c162] at H
              have c162b0 : decide (a0_1 < a2) = true := decide_eq_true c162
              clear c162
              by_cases c163 : (t248 == true) = true
              · rw [if_pos c163] at H
                have c163b0 : (t248 == true) = true := c163
                (try (have c163b1 : decide (t248 = true) = true := by simpa using c163))
                (try (have c163b2 : (t248 == true) = true := by simpa using c163))
                clear c163
                replace H := Option.bind_eq_some_iff.mp H
                obtain ⟨t265, A1640, H⟩ := H
                replace H : (some (t265 == t248)) = some r := H
                have A164 := Aside0.mk A1640
                clear A1640
                obtain rfl := Option.some.inj H
                clear hr_
                go_enter Try.func9, Try.ntmps9
                go_wp2_with (first | ((with_reducible refine gate_dst (N := 3) rfl ?_); refine box_event ?hg (N := 3) ?hd (cs := #[.int .i64 a0_0, .int .i64 a0_1, .int .u64 a0_2]) (t := 25) ?hr ?_; (case hd => rfl); (case hg => rfl); (case hr => first | (go_simp; done) | (go_simp; rfl)); intro gb246 hg w165 hbox hb; have n0_ := Aside0.mk (below_step (by repeat (first | (with_reducible first | exact HB.out | apply below_alloc | apply pw_below_drewN | apply below_drew1) | exact HB.out)) hb); have n1_ := Aside0.mk (hbox); have n2_ := Aside0.mk ((by rw [hg]; exact (below_size (by repeat (first | (with_reducible first | exact HB.out | apply below_alloc | apply pw_below_drewN | apply below_drew1) | exact HB.out))) : w.heap.size ≤ gb246)); have n3_ := Aside0.mk ((by rw [hg]; exact (below_size (by repeat (first | (with_reducible first | exact HB.out | apply below_alloc | apply pw_below_drewN | apply below_drew1) | exact HB.out))) : w.heap.size ≤ gb246)); clear HB; have HB := n0_; have BK246 := n1_; have GW246 := n2_; have GE246 := n3_; clear n0_ n1_ n2_ n3_; clear hb hbox hg) | ((with_reducible refine gate_callee (f := 10) rfl ?_); refine goesL_ (some 12) rfl rfl Try.func10 (by kernel_rfl) rfl #[] rfl (by (try simp only [List.map_toArray, List.map_cons, List.map_nil]); first | done | rfl | (simp only [List.length_drop, List.length_take]; rfl)) ?_; (with_reducible refine (poacherlaw05_awake.calls k  true _ A4.out).mono ?_); (try clear A4); rintro e w166 ⟨rfl, hb⟩; refine ⟨_, rfl, ?_⟩; have n0_ := Aside0.mk (blk_below (g := gb246) (o := .cells #[.int .i64 a0_0, .int .i64 a0_1, .int .u64 a0_2] 25 (0, 0)) (by (with_reducible repeat (first | refine blk_drewN ?_ _ | refine blk_drew ?_ | refine blk_alloc ?_ _)); exact BK246.out) hb); have n1_ := Aside0.mk (below_step (by repeat (first | (with_reducible first | exact HB.out | apply below_alloc | apply pw_below_drewN | apply below_drew1 | refine below_set ?_ GE246.out) | exact HB.out)) hb); clear BK246; clear HB; have BK246 := n0_; have HB := n1_; clear n0_ n1_; (try clear hb); (try clear hb2); (try clear hk); (try clear hi); have hcz167_0 : w166.cell? ⟨gb246, 0, none⟩ = some (.int .i64 a0_0) := (blk_cell BK246.out 0).trans rfl; have hcz167_1 : w166.cell? ⟨gb246, 1, none⟩ = some (.int .i64 a0_1) := (blk_cell BK246.out 1).trans rfl; have hcz167_2 : w166.cell? ⟨gb246, 2, none⟩ = some (.int .u64 a0_2) := (blk_cell BK246.out 2).trans rfl; have hfz167_0 := blk_frozen BK246.out 0; have hfz167_1 := blk_frozen BK246.out 1; have hfz167_2 := blk_frozen BK246.out 2) | ((with_reducible refine gate_callee (f := 20) rfl ?_); refine goesL_ (some 16) rfl rfl Try.func20 (by kernel_rfl) rfl #[.agg #[.int .i64 a0_0, .int .i64 a0_1, .int .u64 a0_2], .int .i64 a1, .int .i64 a2] rfl (by (try simp only [List.map_toArray, List.map_cons, List.map_nil]); first | done | rfl | (simp only [List.length_drop, List.length_take]; rfl)) ?_; (with_reducible refine (draw_Fits.calls a0_0 a0_1 a0_2 a1 a2 t248 _ A5.out).mono ?_); (try clear A5); rintro e w168 ⟨rfl, hb⟩; refine ⟨_, rfl, ?_⟩; have n0_ := Aside0.mk (blk_below (g := gb246) (o := .cells #[.int .i64 a0_0, .int .i64 a0_1, .int .u64 a0_2] 25 (0, 0)) (by (with_reducible repeat (first | refine blk_drewN ?_ _ | refine blk_drew ?_ | refine blk_alloc ?_ _)); exact BK246.out) hb); have n1_ := Aside0.mk (below_step (by repeat (first | (with_reducible first | exact HB.out | apply below_alloc | apply pw_below_drewN | apply below_drew1 | refine below_set ?_ GE246.out) | exact HB.out)) hb); clear BK246; clear HB; have BK246 := n0_; have HB := n1_; clear n0_ n1_; (try clear hb); (try clear hb2); (try clear hk); (try clear hi); have hcz169_0 : w168.cell? ⟨gb246, 0, none⟩ = some (.int .i64 a0_0) := (blk_cell BK246.out 0).trans rfl; have hcz169_1 : w168.cell? ⟨gb246, 1, none⟩ = some (.int .i64 a0_1) := (blk_cell BK246.out 1).trans rfl; have hcz169_2 : w168.cell? ⟨gb246, 2, none⟩ = some (.int .u64 a0_2) := (blk_cell BK246.out 2).trans rfl; have hfz169_0 := blk_frozen BK246.out 0; have hfz169_1 := blk_frozen BK246.out 1; have hfz169_2 := blk_frozen BK246.out 2) | (go_at_call 20; (with_reducible refine (draw_Fits.calls a0_0 a0_1 (IntKind.u64.wrap (a0_2 + 1)) a1 a2 t265 _ A164.out).mono ?_); (try clear A164); rintro e w170 ⟨rfl, hb⟩; have n0_ := Aside0.mk (blk_below (g := gb246) (o := .cells #[.int .i64 a0_0, .int .i64 a0_1, .int .u64 (IntKind.u64.wrap (a0_2 + 1))] 25 (0, 0)) (by (with_reducible repeat (first | refine blk_drewN ?_ _ | refine blk_drew ?_ | refine blk_alloc ?_ _)); refine blk_put (cs := #[.int .i64 a0_0, .int .i64 a0_1, .int .u64 a0_2]) ?_ 2 _ rfl; (with_reducible repeat (first | refine blk_drewN ?_ _ | refine blk_drew ?_ | refine blk_alloc ?_ _)); exact BK246.out) hb); have n1_ := Aside0.mk (below_step (by repeat (first | (with_reducible first | exact HB.out | apply below_alloc | apply pw_below_drewN | apply below_drew1 | refine below_set ?_ GE246.out) | exact HB.out)) hb); clear BK246; clear HB; have BK246 := n0_; have HB := n1_; clear n0_ n1_; (try clear hb); (try clear hb2); (try clear hk); (try clear hi)))
                go_ret
                exact ⟨by first | rfl | (simp [errW_none, errW_some] <;> rfl) | (simp [*, errW_none, errW_some] <;> rfl), by repeat (first | (with_reducible first | exact HB.out | apply below_alloc | apply pw_below_drewN | apply below_drew1 | refine below_set ?_ GE246.out) | exact HB.out)⟩
              · rw [if_neg c163] at H
                have c163b0 : (t248 == true) = false := by simpa using c163
                (try (have c163b1 : decide (t248 = true) = false := by simpa using c163))
                (try (have c163b2 : (t248 == true) = false := by simpa using c163))
                (try (have c163b3 : ¬ (t248 = true) := by simpa using c163))
                clear c163
                exact absurd (H.trans (congrArg some hr_.out)) (by simp)
            · rw [if_neg c162] at H
              have c162b0 : decide (a0_1 < a2) = false := decide_eq_false c162
              clear c162
              by_cases c171 : (t248 == (a0_0 == 3)) = true
              · rw [if_pos c171] at H
                have c171b0 : (t248 == (a0_0 == 3)) = true := c171
                (try (have c171b1 : decide (t248 = (a0_0 == 3)) = true := by simpa using c171))
                (try (have c171b2 : (t248 == (a0_0 == 3)) = true := by simpa using c171))
                clear c171
                replace H := Option.bind_eq_some_iff.mp H
                obtain ⟨t266, A1720, H⟩ := H
                replace H : (some (t266 == t248)) = some r := H
                have A172 := Aside0.mk A1720
                clear A1720
                obtain rfl := Option.some.inj H
                clear hr_
                go_enter Try.func9, Try.ntmps9
                go_wp2_with (first | ((with_reducible refine gate_dst (N := 3) rfl ?_); refine box_event ?hg (N := 3) ?hd (cs := #[.int .i64 a0_0, .int .i64 a0_1, .int .u64 a0_2]) (t := 25) ?hr ?_; (case hd => rfl); (case hg => rfl); (case hr => first | (go_simp; done) | (go_simp; rfl)); intro gb246 hg w173 hbox hb; have n0_ := Aside0.mk (below_step (by repeat (first | (with_reducible first | exact HB.out | apply below_alloc | apply pw_below_drewN | apply below_drew1) | exact HB.out)) hb); have n1_ := Aside0.mk (hbox); have n2_ := Aside0.mk ((by rw [hg]; exact (below_size (by repeat (first | (with_reducible first | exact HB.out | apply below_alloc | apply pw_below_drewN | apply below_drew1) | exact HB.out))) : w.heap.size ≤ gb246)); have n3_ := Aside0.mk ((by rw [hg]; exact (below_size (by repeat (first | (with_reducible first | exact HB.out | apply below_alloc | apply pw_below_drewN | apply below_drew1) | exact HB.out))) : w.heap.size ≤ gb246)); clear HB; have HB := n0_; have BK246 := n1_; have GW246 := n2_; have GE246 := n3_; clear n0_ n1_ n2_ n3_; clear hb hbox hg) | ((with_reducible refine gate_callee (f := 10) rfl ?_); refine goesL_ (some 12) rfl rfl Try.func10 (by kernel_rfl) rfl #[] rfl (by (try simp only [List.map_toArray, List.map_cons, List.map_nil]); first | done | rfl | (simp only [List.length_drop, List.length_take]; rfl)) ?_; (with_reducible refine (poacherlaw05_awake.calls k  true _ A4.out).mono ?_); (try clear A4); rintro e w174 ⟨rfl, hb⟩; refine ⟨_, rfl, ?_⟩; have n0_ := Aside0.mk (blk_below (g := gb246) (o := .cells #[.int .i64 a0_0, .int .i64 a0_1, .int .u64 a0_2] 25 (0, 0)) (by (with_reducible repeat (first | refine blk_drewN ?_ _ | refine blk_drew ?_ | refine blk_alloc ?_ _)); exact BK246.out) hb); have n1_ := Aside0.mk (below_step (by repeat (first | (with_reducible first | exact HB.out | apply below_alloc | apply pw_below_drewN | apply below_drew1 | refine below_set ?_ GE246.out) | exact HB.out)) hb); clear BK246; clear HB; have BK246 := n0_; have HB := n1_; clear n0_ n1_; (try clear hb); (try clear hb2); (try clear hk); (try clear hi); have hcz175_0 : w174.cell? ⟨gb246, 0, none⟩ = some (.int .i64 a0_0) := (blk_cell BK246.out 0).trans rfl; have hcz175_1 : w174.cell? ⟨gb246, 1, none⟩ = some (.int .i64 a0_1) := (blk_cell BK246.out 1).trans rfl; have hcz175_2 : w174.cell? ⟨gb246, 2, none⟩ = some (.int .u64 a0_2) := (blk_cell BK246.out 2).trans rfl; have hfz175_0 := blk_frozen BK246.out 0; have hfz175_1 := blk_frozen BK246.out 1; have hfz175_2 := blk_frozen BK246.out 2) | ((with_reducible refine gate_callee (f := 20) rfl ?_); refine goesL_ (some 16) rfl rfl Try.func20 (by kernel_rfl) rfl #[.agg #[.int .i64 a0_0, .int .i64 a0_1, .int .u64 a0_2], .int .i64 a1, .int .i64 a2] rfl (by (try simp only [List.map_toArray, List.map_cons, List.map_nil]); first | done | rfl | (simp only [List.length_drop, List.length_take]; rfl)) ?_; (with_reducible refine (draw_Fits.calls a0_0 a0_1 a0_2 a1 a2 t248 _ A5.out).mono ?_); (try clear A5); rintro e w176 ⟨rfl, hb⟩; refine ⟨_, rfl, ?_⟩; have n0_ := Aside0.mk (blk_below (g := gb246) (o := .cells #[.int .i64 a0_0, .int .i64 a0_1, .int .u64 a0_2] 25 (0, 0)) (by (with_reducible repeat (first | refine blk_drewN ?_ _ | refine blk_drew ?_ | refine blk_alloc ?_ _)); exact BK246.out) hb); have n1_ := Aside0.mk (below_step (by repeat (first | (with_reducible first | exact HB.out | apply below_alloc | apply pw_below_drewN | apply below_drew1 | refine below_set ?_ GE246.out) | exact HB.out)) hb); clear BK246; clear HB; have BK246 := n0_; have HB := n1_; clear n0_ n1_; (try clear hb); (try clear hb2); (try clear hk); (try clear hi); have hcz177_0 : w176.cell? ⟨gb246, 0, none⟩ = some (.int .i64 a0_0) := (blk_cell BK246.out 0).trans rfl; have hcz177_1 : w176.cell? ⟨gb246, 1, none⟩ = some (.int .i64 a0_1) := (blk_cell BK246.out 1).trans rfl; have hcz177_2 : w176.cell? ⟨gb246, 2, none⟩ = some (.int .u64 a0_2) := (blk_cell BK246.out 2).trans rfl; have hfz177_0 := blk_frozen BK246.out 0; have hfz177_1 := blk_frozen BK246.out 1; have hfz177_2 := blk_frozen BK246.out 2) | (go_at_call 20; (with_reducible refine (draw_Fits.calls a0_0 a0_1 (IntKind.u64.wrap (a0_2 + 1)) a1 a2 t266 _ A172.out).mono ?_); (try clear A172); rintro e w178 ⟨rfl, hb⟩; have n0_ := Aside0.mk (blk_below (g := gb246) (o := .cells #[.int .i64 a0_0, .int .i64 a0_1, .int .u64 (IntKind.u64.wrap (a0_2 + 1))] 25 (0, 0)) (by (with_reducible repeat (first | refine blk_drewN ?_ _ | refine blk_drew ?_ | refine blk_alloc ?_ _)); refine blk_put (cs := #[.int .i64 a0_0, .int .i64 a0_1, .int .u64 a0_2]) ?_ 2 _ rfl; (with_reducible repeat (first | refine blk_drewN ?_ _ | refine blk_drew ?_ | refine blk_alloc ?_ _)); exact BK246.out) hb); have n1_ := Aside0.mk (below_step (by repeat (first | (with_reducible first | exact HB.out | apply below_alloc | apply pw_below_drewN | apply below_drew1 | refine below_set ?_ GE246.out) | exact HB.out)) hb); clear BK246; clear HB; have BK246 := n0_; have HB := n1_; clear n0_ n1_; (try clear hb); (try clear hb2); (try clear hk); (try clear hi)))
                go_ret
                exact ⟨by first | rfl | (simp [errW_none, errW_some] <;> rfl) | (simp [*, errW_none, errW_some] <;> rfl), by repeat (first | (with_reducible first | exact HB.out | apply below_alloc | apply pw_below_drewN | apply below_drew1 | refine below_set ?_ GE246.out) | exact HB.out)⟩
              · rw [if_neg c171] at H
                have c171b0 : (t248 == (a0_0 == 3)) = false := by simpa using c171
                (try (have c171b1 : decide (t248 = (a0_0 == 3)) = false := by simpa using c171))
                (try (have c171b2 : (t248 == (a0_0 == 3)) = false := by simpa using c171))
                (try (have c171b3 : ¬ (t248 = (a0_0 == 3)) := by simpa using c171))
                clear c171
                exact absurd (H.trans (congrArg some hr_.out)) (by simp)
          · replace c161 := Bool.eq_false_iff.mpr c161
            subst c161
            have H1 : (some false) = some r := by rw [if_neg (show ¬ (false = true) by decide)] at H; exact H
            clear H
            have H := H1
            clear H1
            exact absurd (H.trans (congrArg some hr_.out)) (by simp)
      · rw [if_neg c141] at H
        have c141b0 : decide (0 ≤ a0_1) = false := decide_eq_false c141
        clear c141
        by_cases c179 : a0_0 = 2
        · rw [if_pos c179] at H
          have c179b0 : (a0_0 == 2) = true := beq_iff_eq.mpr c179
          have c179b1 : (a0_0 != 2) = false := bne_eq_false_iff_eq.mpr c179
          clear c179
          by_cases c180 : t247 = true
          · subst c180
            have H1 : (if (t248 == true) = true then ((draw_Fits.f a0_0 a0_1 (IntKind.u64.wrap (a0_2 + 1)) a1 a2).bind fun t267 => (some (t267 == t248))) else (some false)) = some r := by rw [if_pos rfl] at H; exact H
            clear H
            have H := H1
            clear H1
            by_cases c181 : (t248 == true) = true
            · rw [if_pos c181] at H
              have c181b0 : (t248 == true) = true := c181
              (try (have c181b1 : decide (t248 = true) = true := by simpa using c181))
              (try (have c181b2 : (t248 == true) = true := by simpa using c181))
              clear c181
              replace H := Option.bind_eq_some_iff.mp H
              obtain ⟨t267, A1820, H⟩ := H
              replace H : (some (t267 == t248)) = some r := H
              have A182 := Aside0.mk A1820
              clear A1820
              obtain rfl := Option.some.inj H
              clear hr_
              go_enter Try.func9, Try.ntmps9
              go_wp2_with (first | ((with_reducible refine gate_dst (N := 3) rfl ?_); refine box_event ?hg (N := 3) ?hd (cs := #[.int .i64 a0_0, .int .i64 a0_1, .int .u64 a0_2]) (t := 25) ?hr ?_; (case hd => rfl); (case hg => rfl); (case hr => first | (go_simp; done) | (go_simp; rfl)); intro gb246 hg w183 hbox hb; have n0_ := Aside0.mk (below_step (by repeat (first | (with_reducible first | exact HB.out | apply below_alloc | apply pw_below_drewN | apply below_drew1) | exact HB.out)) hb); have n1_ := Aside0.mk (hbox); have n2_ := Aside0.mk ((by rw [hg]; exact (below_size (by repeat (first | (with_reducible first | exact HB.out | apply below_alloc | apply pw_below_drewN | apply below_drew1) | exact HB.out))) : w.heap.size ≤ gb246)); have n3_ := Aside0.mk ((by rw [hg]; exact (below_size (by repeat (first | (with_reducible first | exact HB.out | apply below_alloc | apply pw_below_drewN | apply below_drew1) | exact HB.out))) : w.heap.size ≤ gb246)); clear HB; have HB := n0_; have BK246 := n1_; have GW246 := n2_; have GE246 := n3_; clear n0_ n1_ n2_ n3_; clear hb hbox hg) | ((with_reducible refine gate_callee (f := 10) rfl ?_); refine goesL_ (some 12) rfl rfl Try.func10 (by kernel_rfl) rfl #[] rfl (by (try simp only [List.map_toArray, List.map_cons, List.map_nil]); first | done | rfl | (simp only [List.length_drop, List.length_take]; rfl)) ?_; (with_reducible refine (poacherlaw05_awake.calls k  true _ A4.out).mono ?_); (try clear A4); rintro e w184 ⟨rfl, hb⟩; refine ⟨_, rfl, ?_⟩; have n0_ := Aside0.mk (blk_below (g := gb246) (o := .cells #[.int .i64 a0_0, .int .i64 a0_1, .int .u64 a0_2] 25 (0, 0)) (by (with_reducible repeat (first | refine blk_drewN ?_ _ | refine blk_drew ?_ | refine blk_alloc ?_ _)); exact BK246.out) hb); have n1_ := Aside0.mk (below_step (by repeat (first | (with_reducible first | exact HB.out | apply below_alloc | apply pw_below_drewN | apply below_drew1 | refine below_set ?_ GE246.out) | exact HB.out)) hb); clear BK246; clear HB; have BK246 := n0_; have HB := n1_; clear n0_ n1_; (try clear hb); (try clear hb2); (try clear hk); (try clear hi); have hcz185_0 : w184.cell? ⟨gb246, 0, none⟩ = some (.int .i64 a0_0) := (blk_cell BK246.out 0).trans rfl; have hcz185_1 : w184.cell? ⟨gb246, 1, none⟩ = some (.int .i64 a0_1) := (blk_cell BK246.out 1).trans rfl; have hcz185_2 : w184.cell? ⟨gb246, 2, none⟩ = some (.int .u64 a0_2) := (blk_cell BK246.out 2).trans rfl; have hfz185_0 := blk_frozen BK246.out 0; have hfz185_1 := blk_frozen BK246.out 1; have hfz185_2 := blk_frozen BK246.out 2) | ((with_reducible refine gate_callee (f := 20) rfl ?_); refine goesL_ (some 16) rfl rfl Try.func20 (by kernel_rfl) rfl #[.agg #[.int .i64 a0_0, .int .i64 a0_1, .int .u64 a0_2], .int .i64 a1, .int .i64 a2] rfl (by (try simp only [List.map_toArray, List.map_cons, List.map_nil]); first | done | rfl | (simp only [List.length_drop, List.length_take]; rfl)) ?_; (with_reducible refine (draw_Fits.calls a0_0 a0_1 a0_2 a1 a2 t248 _ A5.out).mono ?_); (try clear A5); rintro e w186 ⟨rfl, hb⟩; refine ⟨_, rfl, ?_⟩; have n0_ := Aside0.mk (blk_below (g := gb246) (o := .cells #[.int .i64 a0_0, .int .i64 a0_1, .int .u64 a0_2] 25 (0, 0)) (by (with_reducible repeat (first | refine blk_drewN ?_ _ | refine blk_drew ?_ | refine blk_alloc ?_ _)); exact BK246.out) hb); have n1_ := Aside0.mk (below_step (by repeat (first | (with_reducible first | exact HB.out | apply below_alloc | apply pw_below_drewN | apply below_drew1 | refine below_set ?_ GE246.out) | exact HB.out)) hb); clear BK246; clear HB; have BK246 := n0_; have HB := n1_; clear n0_ n1_; (try clear hb); (try clear hb2); (try clear hk); (try clear hi); have hcz187_0 : w186.cell? ⟨gb246, 0, none⟩ = some (.int .i64 a0_0) := (blk_cell BK246.out 0).trans rfl; have hcz187_1 : w186.cell? ⟨gb246, 1, none⟩ = some (.int .i64 a0_1) := (blk_cell BK246.out 1).trans rfl; have hcz187_2 : w186.cell? ⟨gb246, 2, none⟩ = some (.int .u64 a0_2) := (blk_cell BK246.out 2).trans rfl; have hfz187_0 := blk_frozen BK246.out 0; have hfz187_1 := blk_frozen BK246.out 1; have hfz187_2 := blk_frozen BK246.out 2) | (go_at_call 20; (with_reducible refine (draw_Fits.calls a0_0 a0_1 (IntKind.u64.wrap (a0_2 + 1)) a1 a2 t267 _ A182.out).mono ?_); (try clear A182); rintro e w188 ⟨rfl, hb⟩; have n0_ := Aside0.mk (blk_below (g := gb246) (o := .cells #[.int .i64 a0_0, .int .i64 a0_1, .int .u64 (IntKind.u64.wrap (a0_2 + 1))] 25 (0, 0)) (by (with_reducible repeat (first | refine blk_drewN ?_ _ | refine blk_drew ?_ | refine blk_alloc ?_ _)); refine blk_put (cs := #[.int .i64 a0_0, .int .i64 a0_1, .int .u64 a0_2]) ?_ 2 _ rfl; (with_reducible repeat (first | refine blk_drewN ?_ _ | refine blk_drew ?_ | refine blk_alloc ?_ _)); exact BK246.out) hb); have n1_ := Aside0.mk (below_step (by repeat (first | (with_reducible first | exact HB.out | apply below_alloc | apply pw_below_drewN | apply below_drew1 | refine below_set ?_ GE246.out) | exact HB.out)) hb); clear BK246; clear HB; have BK246 := n0_; have HB := n1_; clear n0_ n1_; (try clear hb); (try clear hb2); (try clear hk); (try clear hi)))
              go_ret
              exact ⟨by first | rfl | (simp [errW_none, errW_some] <;> rfl) | (simp [*, errW_none, errW_some] <;> rfl), by repeat (first | (with_reducible first | exact HB.out | apply below_alloc | apply pw_below_drewN | apply below_drew1 | refine below_set ?_ GE246.out) | exact HB.out)⟩
            · rw [if_neg c181] at H
              have c181b0 : (t248 == true) = false := by simpa using c181
              (try (have c181b1 : decide (t248 = true) = false := by simpa using c181))
              (try (have c181b2 : (t248 == true) = false := by simpa using c181))
              (try (have c181b3 : ¬ (t248 = true) := by simpa using c181))
              clear c181
              exact absurd (H.trans (congrArg some hr_.out)) (by simp)
          · replace c180 := Bool.eq_false_iff.mpr c180
            subst c180
            have H1 : (some false) = some r := by rw [if_neg (show ¬ (false = true) by decide)] at H; exact H
            clear H
            have H := H1
            clear H1
            exact absurd (H.trans (congrArg some hr_.out)) (by simp)
        · rw [if_neg c179] at H
          have c179b0 : (a0_0 == 2) = false := beq_eq_false_iff_ne.mpr c179
          have c179b1 : (a0_0 != 2) = true := bne_iff_ne.mpr c179
          by_cases c189 : t247 = true
          · subst c189
            have H1 : (if (t248 == (a0_0 == 3)) = true then ((draw_Fits.f a0_0 a0_1 (IntKind.u64.wrap (a0_2 + 1)) a1 a2).bind fun t268 => (some (t268 == t248))) else (some false)) = some r := by rw [if_pos rfl] at H; exact H
            clear H
            have H := H1
            clear H1
            by_cases c190 : (t248 == (a0_0 == 3)) = true
            · rw [if_pos c190] at H
              have c190b0 : (t248 == (a0_0 == 3)) = true := c190
              (try (have c190b1 : decide (t248 = (a0_0 == 3)) = true := by simpa using c190))
              (try (have c190b2 : (t248 == (a0_0 == 3)) = true := by simpa using c190))
              clear c190
              replace H := Option.bind_eq_some_iff.mp H
              obtain ⟨t268, A1910, H⟩ := H
              replace H : (some (t268 == t248)) = some r := H
              have A191 := Aside0.mk A1910
              clear A1910
              obtain rfl := Option.some.inj H
              clear hr_
              go_enter Try.func9, Try.ntmps9
              go_wp2_with (first | ((with_reducible refine gate_dst (N := 3) rfl ?_); refine box_event ?hg (N := 3) ?hd (cs := #[.int .i64 a0_0, .int .i64 a0_1, .int .u64 a0_2]) (t := 25) ?hr ?_; (case hd => rfl); (case hg => rfl); (case hr => first | (go_simp; done) | (go_simp; rfl)); intro gb246 hg w192 hbox hb; have n0_ := Aside0.mk (below_step (by repeat (first | (with_reducible first | exact HB.out | apply below_alloc | apply pw_below_drewN | apply below_drew1) | exact HB.out)) hb); have n1_ := Aside0.mk (hbox); have n2_ := Aside0.mk ((by rw [hg]; exact (below_size (by repeat (first | (with_reducible first | exact HB.out | apply below_alloc | apply pw_below_drewN | apply below_drew1) | exact HB.out))) : w.heap.size ≤ gb246)); have n3_ := Aside0.mk ((by rw [hg]; exact (below_size (by repeat (first | (with_reducible first | exact HB.out | apply below_alloc | apply pw_below_drewN | apply below_drew1) | exact HB.out))) : w.heap.size ≤ gb246)); clear HB; have HB := n0_; have BK246 := n1_; have GW246 := n2_; have GE246 := n3_; clear n0_ n1_ n2_ n3_; clear hb hbox hg) | ((with_reducible refine gate_callee (f := 10) rfl ?_); refine goesL_ (some 12) rfl rfl Try.func10 (by kernel_rfl) rfl #[] rfl (by (try simp only [List.map_toArray, List.map_cons, List.map_nil]); first | done | rfl | (simp only [List.length_drop, List.length_take]; rfl)) ?_; (with_reducible refine (poacherlaw05_awake.calls k  true _ A4.out).mono ?_); (try clear A4); rintro e w193 ⟨rfl, hb⟩; refine ⟨_, rfl, ?_⟩; have n0_ := Aside0.mk (blk_below (g := gb246) (o := .cells #[.int .i64 a0_0, .int .i64 a0_1, .int .u64 a0_2] 25 (0, 0)) (by (with_reducible repeat (first | refine blk_drewN ?_ _ | refine blk_drew ?_ | refine blk_alloc ?_ _)); exact BK246.out) hb); have n1_ := Aside0.mk (below_step (by repeat (first | (with_reducible first | exact HB.out | apply below_alloc | apply pw_below_drewN | apply below_drew1 | refine below_set ?_ GE246.out) | exact HB.out)) hb); clear BK246; clear HB; have BK246 := n0_; have HB := n1_; clear n0_ n1_; (try clear hb); (try clear hb2); (try clear hk); (try clear hi); have hcz194_0 : w193.cell? ⟨gb246, 0, none⟩ = some (.int .i64 a0_0) := (blk_cell BK246.out 0).trans rfl; have hcz194_1 : w193.cell? ⟨gb246, 1, none⟩ = some (.int .i64 a0_1) := (blk_cell BK246.out 1).trans rfl; have hcz194_2 : w193.cell? ⟨gb246, 2, none⟩ = some (.int .u64 a0_2) := (blk_cell BK246.out 2).trans rfl; have hfz194_0 := blk_frozen BK246.out 0; have hfz194_1 := blk_frozen BK246.out 1; have hfz194_2 := blk_frozen BK246.out 2) | ((with_reducible refine gate_callee (f := 20) rfl ?_); refine goesL_ (some 16) rfl rfl Try.func20 (by kernel_rfl) rfl #[.agg #[.int .i64 a0_0, .int .i64 a0_1, .int .u64 a0_2], .int .i64 a1, .int .i64 a2] rfl (by (try simp only [List.map_toArray, List.map_cons, List.map_nil]); first | done | rfl | (simp only [List.length_drop, List.length_take]; rfl)) ?_; (with_reducible refine (draw_Fits.calls a0_0 a0_1 a0_2 a1 a2 t248 _ A5.out).mono ?_); (try clear A5); rintro e w195 ⟨rfl, hb⟩; refine ⟨_, rfl, ?_⟩; have n0_ := Aside0.mk (blk_below (g := gb246) (o := .cells #[.int .i64 a0_0, .int .i64 a0_1, .int .u64 a0_2] 25 (0, 0)) (by (with_reducible repeat (first | refine blk_drewN ?_ _ | refine blk_drew ?_ | refine blk_alloc ?_ _)); exact BK246.out) hb); have n1_ := Aside0.mk (below_step (by repeat (first | (with_reducible first | exact HB.out | apply below_alloc | apply pw_below_drewN | apply below_drew1 | refine below_set ?_ GE246.out) | exact HB.out)) hb); clear BK246; clear HB; have BK246 := n0_; have HB := n1_; clear n0_ n1_; (try clear hb); (try clear hb2); (try clear hk); (try clear hi); have hcz196_0 : w195.cell? ⟨gb246, 0, none⟩ = some (.int .i64 a0_0) := (blk_cell BK246.out 0).trans rfl; have hcz196_1 : w195.cell? ⟨gb246, 1, none⟩ = some (.int .i64 a0_1) := (blk_cell BK246.out 1).trans rfl; have hcz196_2 : w195.cell? ⟨gb246, 2, none⟩ = some (.int .u64 a0_2) := (blk_cell BK246.out 2).trans rfl; have hfz196_0 := blk_frozen BK246.out 0; have hfz196_1 := blk_frozen BK246.out 1; have hfz196_2 := blk_frozen BK246.out 2) | (go_at_call 20; (with_reducible refine (draw_Fits.calls a0_0 a0_1 (IntKind.u64.wrap (a0_2 + 1)) a1 a2 t268 _ A191.out).mono ?_); (try clear A191); rintro e w197 ⟨rfl, hb⟩; have n0_ := Aside0.mk (blk_below (g := gb246) (o := .cells #[.int .i64 a0_0, .int .i64 a0_1, .int .u64 (IntKind.u64.wrap (a0_2 + 1))] 25 (0, 0)) (by (with_reducible repeat (first | refine blk_drewN ?_ _ | refine blk_drew ?_ | refine blk_alloc ?_ _)); refine blk_put (cs := #[.int .i64 a0_0, .int .i64 a0_1, .int .u64 a0_2]) ?_ 2 _ rfl; (with_reducible repeat (first | refine blk_drewN ?_ _ | refine blk_drew ?_ | refine blk_alloc ?_ _)); exact BK246.out) hb); have n1_ := Aside0.mk (below_step (by repeat (first | (with_reducible first | exact HB.out | apply below_alloc | apply pw_below_drewN | apply below_drew1 | refine below_set ?_ GE246.out) | exact HB.out)) hb); clear BK246; clear HB; have BK246 := n0_; have HB := n1_; clear n0_ n1_; (try clear hb); (try clear hb2); (try clear hk); (try clear hi)))
              go_ret
              exact ⟨by first | rfl | (simp [errW_none, errW_some] <;> rfl) | (simp [*, errW_none, errW_some] <;> rfl), by repeat (first | (with_reducible first | exact HB.out | apply below_alloc | apply pw_below_drewN | apply below_drew1 | refine below_set ?_ GE246.out) | exact HB.out)⟩
            · rw [if_neg c190] at H
              have c190b0 : (t248 == (a0_0 == 3)) = false := by simpa using c190
              (try (have c190b1 : decide (t248 = (a0_0 == 3)) = false := by simpa using c190))
              (try (have c190b2 : (t248 == (a0_0 == 3)) = false := by simpa using c190))
              (try (have c190b3 : ¬ (t248 = (a0_0 == 3)) := by simpa using c190))
              clear c190
              exact absurd (H.trans (congrArg some hr_.out)) (by simp)
          · replace c189 := Bool.eq_false_iff.mpr c189
            subst c189
            have H1 : (some false) = some r := by rw [if_neg (show ¬ (false = true) by decide)] at H; exact H
            clear H
            have H := H1
            clear H1
            exact absurd (H.trans (congrArg some hr_.out)) (by simp)
    · rw [if_neg c140] at H
      have c140b0 : (a0_0 == 1) = false := beq_eq_false_iff_ne.mpr c140
      have c140b1 : (a0_0 != 1) = true := bne_iff_ne.mpr c140
      by_cases c198 : a0_0 = 2
      · rw [if_pos c198] at H
        have c198b0 : (a0_0 == 2) = true := beq_iff_eq.mpr c198
        have c198b1 : (a0_0 != 2) = false := bne_eq_false_iff_eq.mpr c198
        clear c198
        by_cases c199 : t247 = true
        · subst c199
          have H1 : (if (t248 == true) = true then ((draw_Fits.f a0_0 a0_1 (IntKind.u64.wrap (a0_2 + 1)) a1 a2).bind fun t269 => (some (t269 == t248))) else (some false)) = some r := by rw [if_pos rfl] at H; exact H
          clear H
          have H := H1
          clear H1
          by_cases c200 : (t248 == true) = true
          · rw [if_pos c200] at H
            have c200b0 : (t248 == true) = true := c200
            (try (have c200b1 : decide (t248 = true) = true := by simpa using c200))
            (try (have c200b2 : (t248 == true) = true := by simpa using c200))
            clear c200
            replace H := Option.bind_eq_some_iff.mp H
            obtain ⟨t269, A2010, H⟩ := H
            replace H : (some (t269 == t248)) = some r := H
            have A201 := Aside0.mk A2010
            clear A2010
            obtain rfl := Option.some.inj H
            clear hr_
            go_enter Try.func9, Try.ntmps9
            go_wp2_with (first | ((with_reducible refine gate_dst (N := 3) rfl ?_); refine box_event ?hg (N := 3) ?hd (cs := #[.int .i64 a0_0, .int .i64 a0_1, .int .u64 a0_2]) (t := 25) ?hr ?_; (case hd => rfl); (case hg => rfl); (case hr => first | (go_simp; done) | (go_simp; rfl)); intro gb246 hg w202 hbox hb; have n0_ := Aside0.mk (below_step (by repeat (first | (with_reducible first | exact HB.out | apply below_alloc | apply pw_below_drewN | apply below_drew1) | exact HB.out)) hb); have n1_ := Aside0.mk (hbox); have n2_ := Aside0.mk ((by rw [hg]; exact (below_size (by repeat (first | (with_reducible first | exact HB.out | apply below_alloc | apply pw_below_drewN | apply below_drew1) | exact HB.out))) : w.heap.size ≤ gb246)); have n3_ := Aside0.mk ((by rw [hg]; exact (below_size (by repeat (first | (with_reducible first | exact HB.out | apply below_alloc | apply pw_below_drewN | apply below_drew1) | exact HB.out))) : w.heap.size ≤ gb246)); clear HB; have HB := n0_; have BK246 := n1_; have GW246 := n2_; have GE246 := n3_; clear n0_ n1_ n2_ n3_; clear hb hbox hg) | ((with_reducible refine gate_callee (f := 10) rfl ?_); refine goesL_ (some 12) rfl rfl Try.func10 (by kernel_rfl) rfl #[] rfl (by (try simp only [List.map_toArray, List.map_cons, List.map_nil]); first | done | rfl | (simp only [List.length_drop, List.length_take]; rfl)) ?_; (with_reducible refine (poacherlaw05_awake.calls k  true _ A4.out).mono ?_); (try clear A4); rintro e w203 ⟨rfl, hb⟩; refine ⟨_, rfl, ?_⟩; have n0_ := Aside0.mk (blk_below (g := gb246) (o := .cells #[.int .i64 a0_0, .int .i64 a0_1, .int .u64 a0_2] 25 (0, 0)) (by (with_reducible repeat (first | refine blk_drewN ?_ _ | refine blk_drew ?_ | refine blk_alloc ?_ _)); exact BK246.out) hb); have n1_ := Aside0.mk (below_step (by repeat (first | (with_reducible first | exact HB.out | apply below_alloc | apply pw_below_drewN | apply below_drew1 | refine below_set ?_ GE246.out) | exact HB.out)) hb); clear BK246; clear HB; have BK246 := n0_; have HB := n1_; clear n0_ n1_; (try clear hb); (try clear hb2); (try clear hk); (try clear hi); have hcz204_0 : w203.cell? ⟨gb246, 0, none⟩ = some (.int .i64 a0_0) := (blk_cell BK246.out 0).trans rfl; have hcz204_1 : w203.cell? ⟨gb246, 1, none⟩ = some (.int .i64 a0_1) := (blk_cell BK246.out 1).trans rfl; have hcz204_2 : w203.cell? ⟨gb246, 2, none⟩ = some (.int .u64 a0_2) := (blk_cell BK246.out 2).trans rfl; have hfz204_0 := blk_frozen BK246.out 0; have hfz204_1 := blk_frozen BK246.out 1; have hfz204_2 := blk_frozen BK246.out 2) | ((with_reducible refine gate_callee (f := 20) rfl ?_); refine goesL_ (some 16) rfl rfl Try.func20 (by kernel_rfl) rfl #[.agg #[.int .i64 a0_0, .int .i64 a0_1, .int .u64 a0_2], .int .i64 a1, .int .i64 a2] rfl (by (try simp only [List.map_toArray, List.map_cons, List.map_nil]); first | done | rfl | (simp only [List.length_drop, List.length_take]; rfl)) ?_; (with_reducible refine (draw_Fits.calls a0_0 a0_1 a0_2 a1 a2 t248 _ A5.out).mono ?_); (try clear A5); rintro e w205 ⟨rfl, hb⟩; refine ⟨_, rfl, ?_⟩; have n0_ := Aside0.mk (blk_below (g := gb246) (o := .cells #[.int .i64 a0_0, .int .i64 a0_1, .int .u64 a0_2] 25 (0, 0)) (by (with_reducible repeat (first | refine blk_drewN ?_ _ | refine blk_drew ?_ | refine blk_alloc ?_ _)); exact BK246.out) hb); have n1_ := Aside0.mk (below_step (by repeat (first | (with_reducible first | exact HB.out | apply below_alloc | apply pw_below_drewN | apply below_drew1 | refine below_set ?_ GE246.out) | exact HB.out)) hb); clear BK246; clear HB; have BK246 := n0_; have HB := n1_; clear n0_ n1_; (try clear hb); (try clear hb2); (try clear hk); (try clear hi); have hcz206_0 : w205.cell? ⟨gb246, 0, none⟩ = some (.int .i64 a0_0) := (blk_cell BK246.out 0).trans rfl; have hcz206_1 : w205.cell? ⟨gb246, 1, none⟩ = some (.int .i64 a0_1) := (blk_cell BK246.out 1).trans rfl; have hcz206_2 : w205.cell? ⟨gb246, 2, none⟩ = some (.int .u64 a0_2) := (blk_cell BK246.out 2).trans rfl; have hfz206_0 := blk_frozen BK246.out 0; have hfz206_1 := blk_frozen BK246.out 1; have hfz206_2 := blk_frozen BK246.out 2) | (go_at_call 20; (with_reducible refine (draw_Fits.calls a0_0 a0_1 (IntKind.u64.wrap (a0_2 + 1)) a1 a2 t269 _ A201.out).mono ?_); (try clear A201); rintro e w207 ⟨rfl, hb⟩; have n0_ := Aside0.mk (blk_below (g := gb246) (o := .cells #[.int .i64 a0_0, .int .i64 a0_1, .int .u64 (IntKind.u64.wrap (a0_2 + 1))] 25 (0, 0)) (by (with_reducible repeat (first | refine blk_drewN ?_ _ | refine blk_drew ?_ | refine blk_alloc ?_ _)); refine blk_put (cs := #[.int .i64 a0_0, .int .i64 a0_1, .int .u64 a0_2]) ?_ 2 _ rfl; (with_reducible repeat (first | refine blk_drewN ?_ _ | refine blk_drew ?_ | refine blk_alloc ?_ _)); exact BK246.out) hb); have n1_ := Aside0.mk (below_step (by repeat (first | (with_reducible first | exact HB.out | apply below_alloc | apply pw_below_drewN | apply below_drew1 | refine below_set ?_ GE246.out) | exact HB.out)) hb); clear BK246; clear HB; have BK246 := n0_; have HB := n1_; clear n0_ n1_; (try clear hb); (try clear hb2); (try clear hk); (try clear hi)))
            go_ret
            exact ⟨by first | rfl | (simp [errW_none, errW_some] <;> rfl) | (simp [*, errW_none, errW_some] <;> rfl), by repeat (first | (with_reducible first | exact HB.out | apply below_alloc | apply pw_below_drewN | apply below_drew1 | refine below_set ?_ GE246.out) | exact HB.out)⟩
          · rw [if_neg c200] at H
            have c200b0 : (t248 == true) = false := by simpa using c200
            (try (have c200b1 : decide (t248 = true) = false := by simpa using c200))
            (try (have c200b2 : (t248 == true) = false := by simpa using c200))
            (try (have c200b3 : ¬ (t248 = true) := by simpa using c200))
            clear c200
            exact absurd (H.trans (congrArg some hr_.out)) (by simp)
        · replace c199 := Bool.eq_false_iff.mpr c199
          subst c199
          have H1 : (some false) = some r := by rw [if_neg (show ¬ (false = true) by decide)] at H; exact H
          clear H
          have H := H1
          clear H1
          exact absurd (H.trans (congrArg some hr_.out)) (by simp)
      · rw [if_neg c198] at H
        have c198b0 : (a0_0 == 2) = false := beq_eq_false_iff_ne.mpr c198
        have c198b1 : (a0_0 != 2) = true := bne_iff_ne.mpr c198
        by_cases c208 : t247 = true
        · subst c208
          have H1 : (if (t248 == (a0_0 == 3)) = true then ((draw_Fits.f a0_0 a0_1 (IntKind.u64.wrap (a0_2 + 1)) a1 a2).bind fun t270 => (some (t270 == t248))) else (some false)) = some r := by rw [if_pos rfl] at H; exact H
          clear H
          have H := H1
          clear H1
          by_cases c209 : (t248 == (a0_0 == 3)) = true
          · rw [if_pos c209] at H
            have c209b0 : (t248 == (a0_0 == 3)) = true := c209
            (try (have c209b1 : decide (t248 = (a0_0 == 3)) = true := by simpa using c209))
            (try (have c209b2 : (t248 == (a0_0 == 3)) = true := by simpa using c209))
            clear c209
            replace H := Option.bind_eq_some_iff.mp H
            obtain ⟨t270, A2100, H⟩ := H
            replace H : (some (t270 == t248)) = some r := H
            have A210 := Aside0.mk A2100
            clear A2100
            obtain rfl := Option.some.inj H
            clear hr_
            go_enter Try.func9, Try.ntmps9
            go_wp2_with (first | ((with_reducible refine gate_dst (N := 3) rfl ?_); refine box_event ?hg (N := 3) ?hd (cs := #[.int .i64 a0_0, .int .i64 a0_1, .int .u64 a0_2]) (t := 25) ?hr ?_; (case hd => rfl); (case hg => rfl); (case hr => first | (go_simp; done) | (go_simp; rfl)); intro gb246 hg w211 hbox hb; have n0_ := Aside0.mk (below_step (by repeat (first | (with_reducible first | exact HB.out | apply below_alloc | apply pw_below_drewN | apply below_drew1) | exact HB.out)) hb); have n1_ := Aside0.mk (hbox); have n2_ := Aside0.mk ((by rw [hg]; exact (below_size (by repeat (first | (with_reducible first | exact HB.out | apply below_alloc | apply pw_below_drewN | apply below_drew1) | exact HB.out))) : w.heap.size ≤ gb246)); have n3_ := Aside0.mk ((by rw [hg]; exact (below_size (by repeat (first | (with_reducible first | exact HB.out | apply below_alloc | apply pw_below_drewN | apply below_drew1) | exact HB.out))) : w.heap.size ≤ gb246)); clear HB; have HB := n0_; have BK246 := n1_; have GW246 := n2_; have GE246 := n3_; clear n0_ n1_ n2_ n3_; clear hb hbox hg) | ((with_reducible refine gate_callee (f := 10) rfl ?_); refine goesL_ (some 12) rfl rfl Try.func10 (by kernel_rfl) rfl #[] rfl (by (try simp only [List.map_toArray, List.map_cons, List.map_nil]); first | done | rfl | (simp only [List.length_drop, List.length_take]; rfl)) ?_; (with_reducible refine (poacherlaw05_awake.calls k  true _ A4.out).mono ?_); (try clear A4); rintro e w212 ⟨rfl, hb⟩; refine ⟨_, rfl, ?_⟩; have n0_ := Aside0.mk (blk_below (g := gb246) (o := .cells #[.int .i64 a0_0, .int .i64 a0_1, .int .u64 a0_2] 25 (0, 0)) (by (with_reducible repeat (first | refine blk_drewN ?_ _ | refine blk_drew ?_ | refine blk_alloc ?_ _)); exact BK246.out) hb); have n1_ := Aside0.mk (below_step (by repeat (first | (with_reducible first | exact HB.out | apply below_alloc | apply pw_below_drewN | apply below_drew1 | refine below_set ?_ GE246.out) | exact HB.out)) hb); clear BK246; clear HB; have BK246 := n0_; have HB := n1_; clear n0_ n1_; (try clear hb); (try clear hb2); (try clear hk); (try clear hi); have hcz213_0 : w212.cell? ⟨gb246, 0, none⟩ = some (.int .i64 a0_0) := (blk_cell BK246.out 0).trans rfl; have hcz213_1 : w212.cell? ⟨gb246, 1, none⟩ = some (.int .i64 a0_1) := (blk_cell BK246.out 1).trans rfl; have hcz213_2 : w212.cell? ⟨gb246, 2, none⟩ = some (.int .u64 a0_2) := (blk_cell BK246.out 2).trans rfl; have hfz213_0 := blk_frozen BK246.out 0; have hfz213_1 := blk_frozen BK246.out 1; have hfz213_2 := blk_frozen BK246.out 2) | ((with_reducible refine gate_callee (f := 20) rfl ?_); refine goesL_ (some 16) rfl rfl Try.func20 (by kernel_rfl) rfl #[.agg #[.int .i64 a0_0, .int .i64 a0_1, .int .u64 a0_2], .int .i64 a1, .int .i64 a2] rfl (by (try simp only [List.map_toArray, List.map_cons, List.map_nil]); first | done | rfl | (simp only [List.length_drop, List.length_take]; rfl)) ?_; (with_reducible refine (draw_Fits.calls a0_0 a0_1 a0_2 a1 a2 t248 _ A5.out).mono ?_); (try clear A5); rintro e w214 ⟨rfl, hb⟩; refine ⟨_, rfl, ?_⟩; have n0_ := Aside0.mk (blk_below (g := gb246) (o := .cells #[.int .i64 a0_0, .int .i64 a0_1, .int .u64 a0_2] 25 (0, 0)) (by (with_reducible repeat (first | refine blk_drewN ?_ _ | refine blk_drew ?_ | refine blk_alloc ?_ _)); exact BK246.out) hb); have n1_ := Aside0.mk (below_step (by repeat (first | (with_reducible first | exact HB.out | apply below_alloc | apply pw_below_drewN | apply below_drew1 | refine below_set ?_ GE246.out) | exact HB.out)) hb); clear BK246; clear HB; have BK246 := n0_; have HB := n1_; clear n0_ n1_; (try clear hb); (try clear hb2); (try clear hk); (try clear hi); have hcz215_0 : w214.cell? ⟨gb246, 0, none⟩ = some (.int .i64 a0_0) := (blk_cell BK246.out 0).trans rfl; have hcz215_1 : w214.cell? ⟨gb246, 1, none⟩ = some (.int .i64 a0_1) := (blk_cell BK246.out 1).trans rfl; have hcz215_2 : w214.cell? ⟨gb246, 2, none⟩ = some (.int .u64 a0_2) := (blk_cell BK246.out 2).trans rfl; have hfz215_0 := blk_frozen BK246.out 0; have hfz215_1 := blk_frozen BK246.out 1; have hfz215_2 := blk_frozen BK246.out 2) | (go_at_call 20; (with_reducible refine (draw_Fits.calls a0_0 a0_1 (IntKind.u64.wrap (a0_2 + 1)) a1 a2 t270 _ A210.out).mono ?_); (try clear A210); rintro e w216 ⟨rfl, hb⟩; have n0_ := Aside0.mk (blk_below (g := gb246) (o := .cells #[.int .i64 a0_0, .int .i64 a0_1, .int .u64 (IntKind.u64.wrap (a0_2 + 1))] 25 (0, 0)) (by (with_reducible repeat (first | refine blk_drewN ?_ _ | refine blk_drew ?_ | refine blk_alloc ?_ _)); refine blk_put (cs := #[.int .i64 a0_0, .int .i64 a0_1, .int .u64 a0_2]) ?_ 2 _ rfl; (with_reducible repeat (first | refine blk_drewN ?_ _ | refine blk_drew ?_ | refine blk_alloc ?_ _)); exact BK246.out) hb); have n1_ := Aside0.mk (below_step (by repeat (first | (with_reducible first | exact HB.out | apply below_alloc | apply pw_below_drewN | apply below_drew1 | refine below_set ?_ GE246.out) | exact HB.out)) hb); clear BK246; clear HB; have BK246 := n0_; have HB := n1_; clear n0_ n1_; (try clear hb); (try clear hb2); (try clear hk); (try clear hi)))
            go_ret
            exact ⟨by first | rfl | (simp [errW_none, errW_some] <;> rfl) | (simp [*, errW_none, errW_some] <;> rfl), by repeat (first | (with_reducible first | exact HB.out | apply below_alloc | apply pw_below_drewN | apply below_drew1 | refine below_set ?_ GE246.out) | exact HB.out)⟩
          · rw [if_neg c209] at H
            have c209b0 : (t248 == (a0_0 == 3)) = false := by simpa using c209
            (try (have c209b1 : decide (t248 = (a0_0 == 3)) = false := by simpa using c209))
            (try (have c209b2 : (t248 == (a0_0 == 3)) = false := by simpa using c209))
            (try (have c209b3 : ¬ (t248 = (a0_0 == 3)) := by simpa using c209))
            clear c209
            exact absurd (H.trans (congrArg some hr_.out)) (by simp)
        · replace c208 := Bool.eq_false_iff.mpr c208
          subst c208
          have H1 : (some false) = some r := by rw [if_neg (show ¬ (false = true) by decide)] at H; exact H
          clear H
          have H := H1
          clear H1
          exact absurd (H.trans (congrArg some hr_.out)) (by simp)

end Go.Proofs.Ytonhjnfhaelfkaa.QD
