-- Written by inj.py (a program of this session), by the kit's print with functions given by hand. Not trusted: Lean checks it.
import Derived.Test.YtdglmmpnjbobjaaQLx0
import Derived.Test.YtdglmmpnjbobjaaQLx6
namespace Go.Proofs.Ytdglmmpnjbobjaa.QL
open Go.RowKit Go.Proofs.YtdglmmpnjbobjaaW.PrintWords Go.Proofs.YtdglmmpnjbobjaaW.PrintLast Go.Proofs.YtdglmmpnjbobjaaW.PrintMore
attribute [local go_sem] max2_int min2_int max_two min_two max_three min_three max_four min_four   -- for this text's walks alone
set_option linter.unusedVariables false
set_option linter.unusedSimpArgs false

/-! ### lay_Seq: function 17 -/
def lay_Seq.f (a0_0 a0_1 a0_2 a0_3 : Int) (a1 : Int) : Option (Int) := lay_at.f a0_0 a0_1 a0_2 a0_3 0 (if IntKind.u64.wrap a0_2 = 0 then none else some (wrap64 (6 + wrap64 (Int.tmod a1 (IntKind.u64.wrap a0_2)))))
theorem lay_Seq.calls (a0_0 a0_1 a0_2 a0_3 : Int) (a1 : Int) (r : Int) (w : World) (h : lay_Seq.f a0_0 a0_1 a0_2 a0_3 a1 = some r) :
    Calls Try.prog 17 #[.agg #[.int .i64 a0_0, .int .i64 a0_1, .int .i64 a0_2, .int .i64 a0_3], .int .u64 a1] w fun e w' => e = .returned (.int .i64 r) ∧ Below w.heap.size w w' := by
  have hu23 := Try.underlying23
  unfold lay_Seq.f at h
  have HB0 : Hid (Below w.heap.size w ((w.alloc (.cells #[.int .i64 a0_0, .int .i64 a0_1, .int .i64 a0_2, .int .i64 a0_3] 23)).alloc (.cells #[.int .u64 a1] 24))) := Lib.hid (((Below.refl w.heap.size w).alloc (Nat.le_refl _) (.cells #[.int .i64 a0_0, .int .i64 a0_1, .int .i64 a0_2, .int .i64 a0_3] 23)).alloc (by simp; try omega) (.cells #[.int .u64 a1] 24))
  have hcl : Hid (∀ v W, (if IntKind.u64.wrap a0_2 = 0 then none else some (wrap64 (6 + wrap64 (Int.tmod a1 (IntKind.u64.wrap a0_2))))) = some v → Below ((w.alloc (.cells #[.int .i64 a0_0, .int .i64 a0_1, .int .i64 a0_2, .int .i64 a0_3] 23)).alloc (.cells #[.int .u64 a1] 24)).heap.size ((w.alloc (.cells #[.int .i64 a0_0, .int .i64 a0_1, .int .i64 a0_2, .int .i64 a0_3] 23)).alloc (.cells #[.int .u64 a1] 24)) W → Calls Try.prog 33 #[.pointer (some ⟨w.heap.size + 1, 0, none⟩), .pointer (some ⟨w.heap.size, 0, none⟩)] W fun e W' => e = .returned (.int .i64 v) ∧ Below W.heap.size W W') := by
    apply Lib.hid
    intro v W hv hb
    have c2 : W.cell? ⟨w.heap.size, 2, none⟩ = some (.int .i64 a0_2) := (hb.cell (p := ⟨w.heap.size, 2, none⟩) (by simp; try omega)).trans (lay_at.old _ (by simp))
    have cx : W.cell? ⟨w.heap.size + 1, 0, none⟩ = some (.int .u64 a1) := (hb.cell (p := ⟨w.heap.size + 1, 0, none⟩) (by simp; try omega)).trans (by have h_ := lay_at.fresh (w.alloc (.cells #[.int .i64 a0_0, .int .i64 a0_1, .int .i64 a0_2, .int .i64 a0_3] 23)) #[.int .u64 a1] 24 0 (v := .int .u64 a1) rfl; simpa only [World.size_alloc] using h_)
    have HB := Lib.hid hb
    clear hb
    by_cases hz : IntKind.u64.wrap a0_2 = 0
    · rw [if_pos hz] at hv; cases hv
    rw [if_neg hz] at hv
    obtain rfl := Option.some.inj hv
    go_enter Try.func33, Try.ntmps33
    go_wp2
    go_ret
    exact ⟨rfl, Below.refl _ _⟩
  have A := Lib.hid h
  clear h
  have e33 := fun args W => enters_of Try.func33 (by kernel_rfl) rfl args W
  go_enter Try.func17, Try.ntmps17
  go_wp2_with fail
  refine (lay_at.calls a0_0 a0_1 a0_2 a0_3 0 33 _ _ r _ e33 hcl A.out).mono ?_
  rintro e w1 ⟨rfl, hb⟩
  go_wp2
  go_ret
  exact ⟨rfl, HB0.out.trans (hb.mono (by simp; try omega))⟩


end Go.Proofs.Ytdglmmpnjbobjaa.QL
