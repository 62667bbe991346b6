-- Written by inj.py (a program of this session), by the kit's print with functions given by hand. Not trusted: Lean checks it.
import Derived.Test.YtdglmmpnjbobjaaQLx0
import Derived.Test.YtdglmmpnjbobjaaQLx3
import Derived.Test.YtdglmmpnjbobjaaQLx6
namespace Go.Proofs.Ytdglmmpnjbobjaa.QL
open Go.RowKit Go.Proofs.YtdglmmpnjbobjaaW.PrintWords Go.Proofs.YtdglmmpnjbobjaaW.PrintLast Go.Proofs.YtdglmmpnjbobjaaW.PrintMore
attribute [local go_sem] max2_int min2_int max_two min_two max_three min_three max_four min_four   -- for this text's walks alone
set_option linter.unusedVariables false
set_option linter.unusedSimpArgs false

/-! ### lay_Bottom: function 23 -/
def lay_Bottom.f (a0_0 a0_1 a0_2 a0_3 : Int) (a1 : Int) : Option (Int) := lay_at.f a0_0 a0_1 a0_2 a0_3 a1 ((lay_base.f a0_0 a0_1 a0_2 a0_3 a1).bind fun b => some (wrap64 (b + 1)))
theorem lay_Bottom.calls (a0_0 a0_1 a0_2 a0_3 : Int) (a1 : Int) (r : Int) (w : World) (h : lay_Bottom.f a0_0 a0_1 a0_2 a0_3 a1 = some r) :
    Calls Try.prog 23 #[.agg #[.int .i64 a0_0, .int .i64 a0_1, .int .i64 a0_2, .int .i64 a0_3], .int .i64 a1] w fun e w' => e = .returned (.int .i64 r) ∧ Below w.heap.size w w' := by
  have hu23 := Try.underlying23
  unfold lay_Bottom.f at h
  have HB0 : Hid (Below w.heap.size w ((w.alloc (.cells #[.int .i64 a0_0, .int .i64 a0_1, .int .i64 a0_2, .int .i64 a0_3] 23)).alloc (.cells #[.int .i64 a1] 3))) := Lib.hid (((Below.refl w.heap.size w).alloc (Nat.le_refl _) (.cells #[.int .i64 a0_0, .int .i64 a0_1, .int .i64 a0_2, .int .i64 a0_3] 23)).alloc (by simp; try omega) (.cells #[.int .i64 a1] 3))
  have hcl : Hid (∀ v W, ((lay_base.f a0_0 a0_1 a0_2 a0_3 a1).bind fun b => some (wrap64 (b + 1))) = some v → Below ((w.alloc (.cells #[.int .i64 a0_0, .int .i64 a0_1, .int .i64 a0_2, .int .i64 a0_3] 23)).alloc (.cells #[.int .i64 a1] 3)).heap.size ((w.alloc (.cells #[.int .i64 a0_0, .int .i64 a0_1, .int .i64 a0_2, .int .i64 a0_3] 23)).alloc (.cells #[.int .i64 a1] 3)) W → Calls Try.prog 36 #[.pointer (some ⟨w.heap.size, 0, none⟩), .pointer (some ⟨w.heap.size + 1, 0, none⟩)] W fun e W' => e = .returned (.int .i64 v) ∧ Below W.heap.size W W') := by
    apply Lib.hid
    intro v W hv hb
    have k0 : W.cell? ⟨w.heap.size, 0, none⟩ = some (.int .i64 a0_0) := (hb.cell (p := ⟨w.heap.size, 0, none⟩) (by simp; try omega)).trans (lay_at.old _ (by simp))
    have k1 : W.cell? ⟨w.heap.size, 1, none⟩ = some (.int .i64 a0_1) := (hb.cell (p := ⟨w.heap.size, 1, none⟩) (by simp; try omega)).trans (lay_at.old _ (by simp))
    have k2 : W.cell? ⟨w.heap.size, 2, none⟩ = some (.int .i64 a0_2) := (hb.cell (p := ⟨w.heap.size, 2, none⟩) (by simp; try omega)).trans (lay_at.old _ (by simp))
    have k3 : W.cell? ⟨w.heap.size, 3, none⟩ = some (.int .i64 a0_3) := (hb.cell (p := ⟨w.heap.size, 3, none⟩) (by simp; try omega)).trans (lay_at.old _ (by simp))
    have cw : W.cell? ⟨w.heap.size + 1, 0, none⟩ = some (.int .i64 a1) := (hb.cell (p := ⟨w.heap.size + 1, 0, none⟩) (by simp; try omega)).trans (by have h_ := lay_at.fresh (w.alloc (.cells #[.int .i64 a0_0, .int .i64 a0_1, .int .i64 a0_2, .int .i64 a0_3] 23)) #[.int .i64 a1] 3 0 (v := .int .i64 a1) rfl; simpa only [World.size_alloc] using h_)
    have HB := Lib.hid hb
    clear hb
    obtain ⟨b, hb1, hv⟩ := Option.bind_eq_some_iff.mp hv
    obtain rfl := Option.some.inj hv
    have B := Lib.hid hb1
    clear hb1
    go_enter Try.func36, Try.ntmps36
    go_wp2_with (go_at_call 31; (with_reducible refine (lay_base.calls a0_0 a0_1 a0_2 a0_3 a1 b _ B.out).mono ?_); rintro e w1 ⟨rfl, hb⟩; have HB1 := Lib.hid hb; clear hb)
    go_ret
    exact ⟨rfl, HB1.out⟩
  have A := Lib.hid h
  clear h
  have e36 := fun args W => enters_of Try.func36 (by kernel_rfl) rfl args W
  go_enter Try.func23, Try.ntmps23
  go_wp2_with fail
  refine (lay_at.calls a0_0 a0_1 a0_2 a0_3 a1 36 _ _ r _ e36 hcl A.out).mono ?_
  rintro e w1 ⟨rfl, hb⟩
  go_wp2
  go_ret
  exact ⟨rfl, HB0.out.trans (hb.mono (by simp; try omega))⟩


end Go.Proofs.Ytdglmmpnjbobjaa.QL
