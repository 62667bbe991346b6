/- Part 8 of the claim on TopWakes: printed contracts; think.Do; wait's first steps. No condition. -/
import Derived.Test.YthoeodjgfelkhaaGreatm07
set_option linter.unusedVariables false
set_option linter.unusedSimpArgs false
set_option maxRecDepth 100000
set_option maxHeartbeats 8000000
namespace Go.Proofs.YthoeodjgfelkhaaGreat.QT
open Go.RowKit Go.Proofs.YthoeodjgfelkhaaGreatW.PrintWords Go.Proofs.YthoeodjgfelkhaaGreatW.PrintLast Go.Proofs.YthoeodjgfelkhaaGreatW.PrintMore
attribute [local go_sem] max2_int min2_int max_two min_two
def lay_Park.f (a0_0 a0_1 a0_2 a0_3 : Int) (a1 : Int) : Option (Int) := lay_at.f a0_0 a0_1 a0_2 a0_3 a1 ((lay_base.f a0_0 a0_1 a0_2 a0_3 a1).bind fun b => some (wrap64 (b + 2)))
theorem lay_Park.calls (a0_0 a0_1 a0_2 a0_3 : Int) (a1 : Int) (r : Int) (w : World) (h : lay_Park.f a0_0 a0_1 a0_2 a0_3 a1 = some r) :
  Calls Tryz.prog 43 #[.agg #[.int .i64 a0_0, .int .i64 a0_1, .int .i64 a0_2, .int .i64 a0_3], .int .i64 a1] w fun e w' => e = .returned (.int .i64 r) ∧ Below w.heap.size w w' := by
 have hu23 := Tryz.underlying23
 unfold lay_Park.f at h
 have HB0 : Hid (Below w.heap.size w ((w.alloc (.cells #[.int .i64 a0_0, .int .i64 a0_1, .int .i64 a0_2, .int .i64 a0_3] 23)).alloc (.cells #[.int .i64 a1] 3))) := Lib.hid (((Below.refl w.heap.size w).alloc (Nat.le_refl _) (.cells #[.int .i64 a0_0, .int .i64 a0_1, .int .i64 a0_2, .int .i64 a0_3] 23)).alloc (by simp; try omega) (.cells #[.int .i64 a1] 3))
 have hcl : Hid (∀ v W, ((lay_base.f a0_0 a0_1 a0_2 a0_3 a1).bind fun b => some (wrap64 (b + 2))) = some v → Below ((w.alloc (.cells #[.int .i64 a0_0, .int .i64 a0_1, .int .i64 a0_2, .int .i64 a0_3] 23)).alloc (.cells #[.int .i64 a1] 3)).heap.size ((w.alloc (.cells #[.int .i64 a0_0, .int .i64 a0_1, .int .i64 a0_2, .int .i64 a0_3] 23)).alloc (.cells #[.int .i64 a1] 3)) W → Calls Tryz.prog 72 #[.pointer (some ⟨w.heap.size, 0, none⟩), .pointer (some ⟨w.heap.size + 1, 0, none⟩)] W fun e W' => e = .returned (.int .i64 v) ∧ Below W.heap.size W W') := by
  apply Lib.hid
  intro v W hv hb
  have k0 : W.cell? ⟨w.heap.size, 0, none⟩ = some (.int .i64 a0_0) := (hb.cell (p := ⟨w.heap.size, 0, none⟩) (by simp; try omega)).trans (lay_at.old _ (by simp))
  have k1 : W.cell? ⟨w.heap.size, 1, none⟩ = some (.int .i64 a0_1) := (hb.cell (p := ⟨w.heap.size, 1, none⟩) (by simp; try omega)).trans (lay_at.old _ (by simp))
  have k2 : W.cell? ⟨w.heap.size, 2, none⟩ = some (.int .i64 a0_2) := (hb.cell (p := ⟨w.heap.size, 2, none⟩) (by simp; try omega)).trans (lay_at.old _ (by simp))
  have k3 : W.cell? ⟨w.heap.size, 3, none⟩ = some (.int .i64 a0_3) := (hb.cell (p := ⟨w.heap.size, 3, none⟩) (by simp; try omega)).trans (lay_at.old _ (by simp))
  have cw : W.cell? ⟨w.heap.size + 1, 0, none⟩ = some (.int .i64 a1) := (hb.cell (p := ⟨w.heap.size + 1, 0, none⟩) (by simp; try omega)).trans (by have h_ := lay_at.fresh (w.alloc (.cells #[.int .i64 a0_0, .int .i64 a0_1, .int .i64 a0_2, .int .i64 a0_3] 23)) #[.int .i64 a1] 3 0 (v := .int .i64 a1) rfl; simpa only [World.size_alloc] using h_)
  have HB := Lib.hid hb
  clear hb
  obtain ⟨b, hb1, hv⟩ := Option.bind_eq_some_iff.mp hv
  obtain rfl := Option.some.inj hv
  have B := Lib.hid hb1
  clear hb1
  go_enter Tryz.func72, Tryz.ntmps72
  go_wp2_with (go_at_call 73; (with_reducible refine (lay_base.calls a0_0 a0_1 a0_2 a0_3 a1 b _ B.out).mono ?_); rintro e w1 ⟨rfl, hb⟩; have HB1 := Lib.hid hb; clear hb)
  go_ret
  exact ⟨rfl, HB1.out⟩
 have A := Lib.hid h
 clear h
 have e72 := fun args W => enters_of Tryz.func72 (by kernel_rfl) rfl args W
 go_enter Tryz.func43, Tryz.ntmps43
 go_wp2_with fail
 refine (lay_at.calls a0_0 a0_1 a0_2 a0_3 a1 72 _ _ r _ e72 hcl A.out).mono ?_
 rintro e w1 ⟨rfl, hb⟩
 go_wp2
 go_ret
 exact ⟨rfl, HB0.out.trans (hb.mono (by simp; try omega))⟩
def lay_Top.f (a0_0 a0_1 a0_2 a0_3 : Int) (a1 : Int) : Option (Int) := lay_at.f a0_0 a0_1 a0_2 a0_3 a1 (lay_base.f a0_0 a0_1 a0_2 a0_3 a1)
theorem lay_Top.calls (a0_0 a0_1 a0_2 a0_3 : Int) (a1 : Int) (r : Int) (w : World) (h : lay_Top.f a0_0 a0_1 a0_2 a0_3 a1 = some r) :
  Calls Tryz.prog 113 #[.agg #[.int .i64 a0_0, .int .i64 a0_1, .int .i64 a0_2, .int .i64 a0_3], .int .i64 a1] w fun e w' => e = .returned (.int .i64 r) ∧ Below w.heap.size w w' := by
 have hu23 := Tryz.underlying23
 unfold lay_Top.f at h
 have HB0 : Hid (Below w.heap.size w ((w.alloc (.cells #[.int .i64 a0_0, .int .i64 a0_1, .int .i64 a0_2, .int .i64 a0_3] 23)).alloc (.cells #[.int .i64 a1] 3))) := Lib.hid (((Below.refl w.heap.size w).alloc (Nat.le_refl _) (.cells #[.int .i64 a0_0, .int .i64 a0_1, .int .i64 a0_2, .int .i64 a0_3] 23)).alloc (by simp; try omega) (.cells #[.int .i64 a1] 3))
 have hcl : Hid (∀ v W, (lay_base.f a0_0 a0_1 a0_2 a0_3 a1) = some v → Below ((w.alloc (.cells #[.int .i64 a0_0, .int .i64 a0_1, .int .i64 a0_2, .int .i64 a0_3] 23)).alloc (.cells #[.int .i64 a1] 3)).heap.size ((w.alloc (.cells #[.int .i64 a0_0, .int .i64 a0_1, .int .i64 a0_2, .int .i64 a0_3] 23)).alloc (.cells #[.int .i64 a1] 3)) W → Calls Tryz.prog 129 #[.pointer (some ⟨w.heap.size, 0, none⟩), .pointer (some ⟨w.heap.size + 1, 0, none⟩)] W fun e W' => e = .returned (.int .i64 v) ∧ Below W.heap.size W W') := by
  apply Lib.hid
  intro v W hv hb
  have k0 : W.cell? ⟨w.heap.size, 0, none⟩ = some (.int .i64 a0_0) := (hb.cell (p := ⟨w.heap.size, 0, none⟩) (by simp; try omega)).trans (lay_at.old _ (by simp))
  have k1 : W.cell? ⟨w.heap.size, 1, none⟩ = some (.int .i64 a0_1) := (hb.cell (p := ⟨w.heap.size, 1, none⟩) (by simp; try omega)).trans (lay_at.old _ (by simp))
  have k2 : W.cell? ⟨w.heap.size, 2, none⟩ = some (.int .i64 a0_2) := (hb.cell (p := ⟨w.heap.size, 2, none⟩) (by simp; try omega)).trans (lay_at.old _ (by simp))
  have k3 : W.cell? ⟨w.heap.size, 3, none⟩ = some (.int .i64 a0_3) := (hb.cell (p := ⟨w.heap.size, 3, none⟩) (by simp; try omega)).trans (lay_at.old _ (by simp))
  have cw : W.cell? ⟨w.heap.size + 1, 0, none⟩ = some (.int .i64 a1) := (hb.cell (p := ⟨w.heap.size + 1, 0, none⟩) (by simp; try omega)).trans (by have h_ := lay_at.fresh (w.alloc (.cells #[.int .i64 a0_0, .int .i64 a0_1, .int .i64 a0_2, .int .i64 a0_3] 23)) #[.int .i64 a1] 3 0 (v := .int .i64 a1) rfl; simpa only [World.size_alloc] using h_)
  have HB := Lib.hid hb
  clear hb
  obtain ⟨b, rfl⟩ : ∃ b, v = b := ⟨_, rfl⟩
  have B := Lib.hid hv
  clear hv
  go_enter Tryz.func129, Tryz.ntmps129
  go_wp2_with (go_at_call 73; (with_reducible refine (lay_base.calls a0_0 a0_1 a0_2 a0_3 a1 v _ B.out).mono ?_); rintro e w1 ⟨rfl, hb⟩; have HB1 := Lib.hid hb; clear hb)
  go_ret
  exact ⟨rfl, HB1.out⟩
 have A := Lib.hid h
 clear h
 have e129 := fun args W => enters_of Tryz.func129 (by kernel_rfl) rfl args W
 go_enter Tryz.func113, Tryz.ntmps113
 go_wp2_with fail
 refine (lay_at.calls a0_0 a0_1 a0_2 a0_3 a1 129 _ _ r _ e129 hcl A.out).mono ?_
 rintro e w1 ⟨rfl, hb⟩
 go_wp2
 go_ret
 exact ⟨rfl, HB0.out.trans (hb.mono (by simp; try omega))⟩
def lay_Bottom.f (a0_0 a0_1 a0_2 a0_3 : Int) (a1 : Int) : Option (Int) := lay_at.f a0_0 a0_1 a0_2 a0_3 a1 ((lay_base.f a0_0 a0_1 a0_2 a0_3 a1).bind fun b => some (wrap64 (b + 1)))
theorem lay_Bottom.calls (a0_0 a0_1 a0_2 a0_3 : Int) (a1 : Int) (r : Int) (w : World) (h : lay_Bottom.f a0_0 a0_1 a0_2 a0_3 a1 = some r) :
  Calls Tryz.prog 115 #[.agg #[.int .i64 a0_0, .int .i64 a0_1, .int .i64 a0_2, .int .i64 a0_3], .int .i64 a1] w fun e w' => e = .returned (.int .i64 r) ∧ Below w.heap.size w w' := by
 have hu23 := Tryz.underlying23
 unfold lay_Bottom.f at h
 have HB0 : Hid (Below w.heap.size w ((w.alloc (.cells #[.int .i64 a0_0, .int .i64 a0_1, .int .i64 a0_2, .int .i64 a0_3] 23)).alloc (.cells #[.int .i64 a1] 3))) := Lib.hid (((Below.refl w.heap.size w).alloc (Nat.le_refl _) (.cells #[.int .i64 a0_0, .int .i64 a0_1, .int .i64 a0_2, .int .i64 a0_3] 23)).alloc (by simp; try omega) (.cells #[.int .i64 a1] 3))
 have hcl : Hid (∀ v W, ((lay_base.f a0_0 a0_1 a0_2 a0_3 a1).bind fun b => some (wrap64 (b + 1))) = some v → Below ((w.alloc (.cells #[.int .i64 a0_0, .int .i64 a0_1, .int .i64 a0_2, .int .i64 a0_3] 23)).alloc (.cells #[.int .i64 a1] 3)).heap.size ((w.alloc (.cells #[.int .i64 a0_0, .int .i64 a0_1, .int .i64 a0_2, .int .i64 a0_3] 23)).alloc (.cells #[.int .i64 a1] 3)) W → Calls Tryz.prog 130 #[.pointer (some ⟨w.heap.size, 0, none⟩), .pointer (some ⟨w.heap.size + 1, 0, none⟩)] W fun e W' => e = .returned (.int .i64 v) ∧ Below W.heap.size W W') := by
  apply Lib.hid
  intro v W hv hb
  have k0 : W.cell? ⟨w.heap.size, 0, none⟩ = some (.int .i64 a0_0) := (hb.cell (p := ⟨w.heap.size, 0, none⟩) (by simp; try omega)).trans (lay_at.old _ (by simp))
  have k1 : W.cell? ⟨w.heap.size, 1, none⟩ = some (.int .i64 a0_1) := (hb.cell (p := ⟨w.heap.size, 1, none⟩) (by simp; try omega)).trans (lay_at.old _ (by simp))
  have k2 : W.cell? ⟨w.heap.size, 2, none⟩ = some (.int .i64 a0_2) := (hb.cell (p := ⟨w.heap.size, 2, none⟩) (by simp; try omega)).trans (lay_at.old _ (by simp))
  have k3 : W.cell? ⟨w.heap.size, 3, none⟩ = some (.int .i64 a0_3) := (hb.cell (p := ⟨w.heap.size, 3, none⟩) (by simp; try omega)).trans (lay_at.old _ (by simp))
  have cw : W.cell? ⟨w.heap.size + 1, 0, none⟩ = some (.int .i64 a1) := (hb.cell (p := ⟨w.heap.size + 1, 0, none⟩) (by simp; try omega)).trans (by have h_ := lay_at.fresh (w.alloc (.cells #[.int .i64 a0_0, .int .i64 a0_1, .int .i64 a0_2, .int .i64 a0_3] 23)) #[.int .i64 a1] 3 0 (v := .int .i64 a1) rfl; simpa only [World.size_alloc] using h_)
  have HB := Lib.hid hb
  clear hb
  obtain ⟨b, hb1, hv⟩ := Option.bind_eq_some_iff.mp hv
  obtain rfl := Option.some.inj hv
  have B := Lib.hid hb1
  clear hb1
  go_enter Tryz.func130, Tryz.ntmps130
  go_wp2_with (go_at_call 73; (with_reducible refine (lay_base.calls a0_0 a0_1 a0_2 a0_3 a1 b _ B.out).mono ?_); rintro e w1 ⟨rfl, hb⟩; have HB1 := Lib.hid hb; clear hb)
  go_ret
  exact ⟨rfl, HB1.out⟩
 have A := Lib.hid h
 clear h
 have e130 := fun args W => enters_of Tryz.func130 (by kernel_rfl) rfl args W
 go_enter Tryz.func115, Tryz.ntmps115
 go_wp2_with fail
 refine (lay_at.calls a0_0 a0_1 a0_2 a0_3 a1 130 _ _ r _ e130 hcl A.out).mono ?_
 rintro e w1 ⟨rfl, hb⟩
 go_wp2
 go_ret
 exact ⟨rfl, HB0.out.trans (hb.mono (by simp; try omega))⟩
def lay_Slot.f (a0_0 a0_1 a0_2 a0_3 : Int) (a1 : Int) (a2 : Int) : Option (Int) := lay_at.f a0_0 a0_1 a0_2 a0_3 a1 ((lay_base.f a0_0 a0_1 a0_2 a0_3 a1).bind fun b => some (wrap64 (wrap64 (b + 3) + wrap64 (Go.bits .and .u64 a2 (IntKind.u64.wrap (wrap64 (a0_1 - 1)))))))
theorem lay_Slot.calls (a0_0 a0_1 a0_2 a0_3 : Int) (a1 : Int) (a2 : Int) (r : Int) (w : World) (h : lay_Slot.f a0_0 a0_1 a0_2 a0_3 a1 a2 = some r) :
  Calls Tryz.prog 179 #[.agg #[.int .i64 a0_0, .int .i64 a0_1, .int .i64 a0_2, .int .i64 a0_3], .int .i64 a1, .int .u64 a2] w fun e w' => e = .returned (.int .i64 r) ∧ Below w.heap.size w w' := by
 have hu23 := Tryz.underlying23
 unfold lay_Slot.f at h
 have HB0 : Hid (Below w.heap.size w (((w.alloc (.cells #[.int .i64 a0_0, .int .i64 a0_1, .int .i64 a0_2, .int .i64 a0_3] 23)).alloc (.cells #[.int .i64 a1] 3)).alloc (.cells #[.int .u64 a2] 38))) := Lib.hid ((((Below.refl w.heap.size w).alloc (Nat.le_refl _) (.cells #[.int .i64 a0_0, .int .i64 a0_1, .int .i64 a0_2, .int .i64 a0_3] 23)).alloc (by simp; try omega) (.cells #[.int .i64 a1] 3)).alloc (by simp; try omega) (.cells #[.int .u64 a2] 38))
 have hcl : Hid (∀ v W, ((lay_base.f a0_0 a0_1 a0_2 a0_3 a1).bind fun b => some (wrap64 (wrap64 (b + 3) + wrap64 (Go.bits .and .u64 a2 (IntKind.u64.wrap (wrap64 (a0_1 - 1))))))) = some v → Below (((w.alloc (.cells #[.int .i64 a0_0, .int .i64 a0_1, .int .i64 a0_2, .int .i64 a0_3] 23)).alloc (.cells #[.int .i64 a1] 3)).alloc (.cells #[.int .u64 a2] 38)).heap.size (((w.alloc (.cells #[.int .i64 a0_0, .int .i64 a0_1, .int .i64 a0_2, .int .i64 a0_3] 23)).alloc (.cells #[.int .i64 a1] 3)).alloc (.cells #[.int .u64 a2] 38)) W → Calls Tryz.prog 186 #[.pointer (some ⟨w.heap.size, 0, none⟩), .pointer (some ⟨w.heap.size + 1, 0, none⟩), .pointer (some ⟨w.heap.size + 1 + 1, 0, none⟩)] W fun e W' => e = .returned (.int .i64 v) ∧ Below W.heap.size W W') := by
  apply Lib.hid
  intro v W hv hb
  have k0 : W.cell? ⟨w.heap.size, 0, none⟩ = some (.int .i64 a0_0) := (hb.cell (p := ⟨w.heap.size, 0, none⟩) (by simp; try omega)).trans (lay_at.old _ (lay_at.old _ (by simp)))
  have k1 : W.cell? ⟨w.heap.size, 1, none⟩ = some (.int .i64 a0_1) := (hb.cell (p := ⟨w.heap.size, 1, none⟩) (by simp; try omega)).trans (lay_at.old _ (lay_at.old _ (by simp)))
  have k2 : W.cell? ⟨w.heap.size, 2, none⟩ = some (.int .i64 a0_2) := (hb.cell (p := ⟨w.heap.size, 2, none⟩) (by simp; try omega)).trans (lay_at.old _ (lay_at.old _ (by simp)))
  have k3 : W.cell? ⟨w.heap.size, 3, none⟩ = some (.int .i64 a0_3) := (hb.cell (p := ⟨w.heap.size, 3, none⟩) (by simp; try omega)).trans (lay_at.old _ (lay_at.old _ (by simp)))
  have cw : W.cell? ⟨w.heap.size + 1, 0, none⟩ = some (.int .i64 a1) := (hb.cell (p := ⟨w.heap.size + 1, 0, none⟩) (by simp; try omega)).trans (lay_at.old _ (by have h_ := lay_at.fresh (w.alloc (.cells #[.int .i64 a0_0, .int .i64 a0_1, .int .i64 a0_2, .int .i64 a0_3] 23)) #[.int .i64 a1] 3 0 (v := .int .i64 a1) rfl; simpa only [World.size_alloc] using h_))
  have cx : W.cell? ⟨w.heap.size + 1 + 1, 0, none⟩ = some (.int .u64 a2) := (hb.cell (p := ⟨w.heap.size + 1 + 1, 0, none⟩) (by simp; try omega)).trans (by have h_ := lay_at.fresh ((w.alloc (.cells #[.int .i64 a0_0, .int .i64 a0_1, .int .i64 a0_2, .int .i64 a0_3] 23)).alloc (.cells #[.int .i64 a1] 3)) #[.int .u64 a2] 38 0 (v := .int .u64 a2) rfl; simpa only [World.size_alloc] using h_)
  have HB := Lib.hid hb
  clear hb
  obtain ⟨b, hb1, hv⟩ := Option.bind_eq_some_iff.mp hv
  obtain rfl := Option.some.inj hv
  have B := Lib.hid hb1
  clear hb1
  have HL : Hid (w.heap.size + 1 + 1 < W.heap.size) := Lib.hid (by have := HB.out.size; simp at this; omega)
  go_enter Tryz.func186, Tryz.ntmps186
  go_wp2_with fail
  go_region_held3 (fun W' => W'.cell? ⟨w.heap.size, 0, none⟩ = some (.int .i64 a0_0) ∧ W'.cell? ⟨w.heap.size, 1, none⟩ = some (.int .i64 a0_1) ∧ W'.cell? ⟨w.heap.size, 2, none⟩ = some (.int .i64 a0_2) ∧ W'.cell? ⟨w.heap.size, 3, none⟩ = some (.int .i64 a0_3) ∧ W'.cell? ⟨w.heap.size + 1, 0, none⟩ = some (.int .i64 a1) ∧ W'.cell? ⟨w.heap.size + 1 + 1, 0, none⟩ = some (.int .u64 a2))
   (first | go_keep | (refine ⟨?_, ?_, ?_, ?_, ?_, ?_⟩ <;> (first | (rw [hb.cell (by have := HL.out; simp; omega)]; simpa using by assumption))))
   (first | (go_at_call 73; refine (lay_base.calls a0_0 a0_1 a0_2 a0_3 a1 b _ B.out).mono ?_; rintro e w1 ⟨rfl, hb⟩))
  have HB1 : Below W.heap.size W w1 := ((Below.refl W.heap.size W).drew).trans hb
  go_wp2
  go_ret
  exact ⟨by simp only [i64_w]; rfl, HB1⟩
 have A := Lib.hid h
 clear h
 have e186 := fun args W => enters_of Tryz.func186 (by kernel_rfl) rfl args W
 go_enter Tryz.func179, Tryz.ntmps179
 go_wp2_with fail
 refine (lay_at.calls a0_0 a0_1 a0_2 a0_3 a1 186 _ _ r _ e186 hcl A.out).mono ?_
 rintro e w1 ⟨rfl, hb⟩
 go_wp2
 go_ret
 exact ⟨rfl, HB0.out.trans (hb.mono (by simp; try omega))⟩
def lay_Seq.f (a0_0 a0_1 a0_2 a0_3 : Int) (a1 : Int) : Option (Int) := lay_at.f a0_0 a0_1 a0_2 a0_3 0 (if IntKind.u64.wrap a0_2 = 0 then none else some (wrap64 (6 + wrap64 (Int.tmod a1 (IntKind.u64.wrap a0_2)))))
theorem lay_Seq.calls (a0_0 a0_1 a0_2 a0_3 : Int) (a1 : Int) (r : Int) (w : World) (h : lay_Seq.f a0_0 a0_1 a0_2 a0_3 a1 = some r) :
  Calls Tryz.prog 152 #[.agg #[.int .i64 a0_0, .int .i64 a0_1, .int .i64 a0_2, .int .i64 a0_3], .int .u64 a1] w fun e w' => e = .returned (.int .i64 r) ∧ Below w.heap.size w w' := by
 have hu23 := Tryz.underlying23
 unfold lay_Seq.f at h
 have HB0 : Hid (Below w.heap.size w ((w.alloc (.cells #[.int .i64 a0_0, .int .i64 a0_1, .int .i64 a0_2, .int .i64 a0_3] 23)).alloc (.cells #[.int .u64 a1] 38))) := Lib.hid (((Below.refl w.heap.size w).alloc (Nat.le_refl _) (.cells #[.int .i64 a0_0, .int .i64 a0_1, .int .i64 a0_2, .int .i64 a0_3] 23)).alloc (by simp; try omega) (.cells #[.int .u64 a1] 38))
 have hcl : Hid (∀ v W, (if IntKind.u64.wrap a0_2 = 0 then none else some (wrap64 (6 + wrap64 (Int.tmod a1 (IntKind.u64.wrap a0_2))))) = some v → Below ((w.alloc (.cells #[.int .i64 a0_0, .int .i64 a0_1, .int .i64 a0_2, .int .i64 a0_3] 23)).alloc (.cells #[.int .u64 a1] 38)).heap.size ((w.alloc (.cells #[.int .i64 a0_0, .int .i64 a0_1, .int .i64 a0_2, .int .i64 a0_3] 23)).alloc (.cells #[.int .u64 a1] 38)) W → Calls Tryz.prog 172 #[.pointer (some ⟨w.heap.size + 1, 0, none⟩), .pointer (some ⟨w.heap.size, 0, none⟩)] W fun e W' => e = .returned (.int .i64 v) ∧ Below W.heap.size W W') := by
  apply Lib.hid
  intro v W hv hb
  have c2 : W.cell? ⟨w.heap.size, 2, none⟩ = some (.int .i64 a0_2) := (hb.cell (p := ⟨w.heap.size, 2, none⟩) (by simp; try omega)).trans (lay_at.old _ (by simp))
  have cx : W.cell? ⟨w.heap.size + 1, 0, none⟩ = some (.int .u64 a1) := (hb.cell (p := ⟨w.heap.size + 1, 0, none⟩) (by simp; try omega)).trans (by have h_ := lay_at.fresh (w.alloc (.cells #[.int .i64 a0_0, .int .i64 a0_1, .int .i64 a0_2, .int .i64 a0_3] 23)) #[.int .u64 a1] 38 0 (v := .int .u64 a1) rfl; simpa only [World.size_alloc] using h_)
  have HB := Lib.hid hb
  clear hb
  by_cases hz : IntKind.u64.wrap a0_2 = 0
  ·rw [if_pos hz] at hv; cases hv
  rw [if_neg hz] at hv
  obtain rfl := Option.some.inj hv
  go_enter Tryz.func172, Tryz.ntmps172
  go_wp2
  go_ret
  exact ⟨rfl, Below.refl _ _⟩
 have A := Lib.hid h
 clear h
 have e172 := fun args W => enters_of Tryz.func172 (by kernel_rfl) rfl args W
 go_enter Tryz.func152, Tryz.ntmps152
 go_wp2_with fail
 refine (lay_at.calls a0_0 a0_1 a0_2 a0_3 0 172 _ _ r _ e172 hcl A.out).mono ?_
 rintro e w1 ⟨rfl, hb⟩
 go_wp2
 go_ret
 exact ⟨rfl, HB0.out.trans (hb.mono (by simp; try omega))⟩
def lay_Val.f (a0_0 a0_1 a0_2 a0_3 : Int) (a1 : Int) : Option (Int) := lay_at.f a0_0 a0_1 a0_2 a0_3 0 (if IntKind.u64.wrap a0_2 = 0 then none else some (wrap64 (wrap64 (6 + a0_2) + wrap64 (Int.tmod a1 (IntKind.u64.wrap a0_2)))))
theorem lay_Val.calls (a0_0 a0_1 a0_2 a0_3 : Int) (a1 : Int) (r : Int) (w : World) (h : lay_Val.f a0_0 a0_1 a0_2 a0_3 a1 = some r) :
  Calls Tryz.prog 154 #[.agg #[.int .i64 a0_0, .int .i64 a0_1, .int .i64 a0_2, .int .i64 a0_3], .int .u64 a1] w fun e w' => e = .returned (.int .i64 r) ∧ Below w.heap.size w w' := by
 have hu23 := Tryz.underlying23
 unfold lay_Val.f at h
 have HB0 : Hid (Below w.heap.size w ((w.alloc (.cells #[.int .i64 a0_0, .int .i64 a0_1, .int .i64 a0_2, .int .i64 a0_3] 23)).alloc (.cells #[.int .u64 a1] 38))) := Lib.hid (((Below.refl w.heap.size w).alloc (Nat.le_refl _) (.cells #[.int .i64 a0_0, .int .i64 a0_1, .int .i64 a0_2, .int .i64 a0_3] 23)).alloc (by simp; try omega) (.cells #[.int .u64 a1] 38))
 have hcl : Hid (∀ v W, (if IntKind.u64.wrap a0_2 = 0 then none else some (wrap64 (wrap64 (6 + a0_2) + wrap64 (Int.tmod a1 (IntKind.u64.wrap a0_2))))) = some v → Below ((w.alloc (.cells #[.int .i64 a0_0, .int .i64 a0_1, .int .i64 a0_2, .int .i64 a0_3] 23)).alloc (.cells #[.int .u64 a1] 38)).heap.size ((w.alloc (.cells #[.int .i64 a0_0, .int .i64 a0_1, .int .i64 a0_2, .int .i64 a0_3] 23)).alloc (.cells #[.int .u64 a1] 38)) W → Calls Tryz.prog 173 #[.pointer (some ⟨w.heap.size, 0, none⟩), .pointer (some ⟨w.heap.size + 1, 0, none⟩)] W fun e W' => e = .returned (.int .i64 v) ∧ Below W.heap.size W W') := by
  apply Lib.hid
  intro v W hv hb
  have c2 : W.cell? ⟨w.heap.size, 2, none⟩ = some (.int .i64 a0_2) := (hb.cell (p := ⟨w.heap.size, 2, none⟩) (by simp; try omega)).trans (lay_at.old _ (by simp))
  have cx : W.cell? ⟨w.heap.size + 1, 0, none⟩ = some (.int .u64 a1) := (hb.cell (p := ⟨w.heap.size + 1, 0, none⟩) (by simp; try omega)).trans (by have h_ := lay_at.fresh (w.alloc (.cells #[.int .i64 a0_0, .int .i64 a0_1, .int .i64 a0_2, .int .i64 a0_3] 23)) #[.int .u64 a1] 38 0 (v := .int .u64 a1) rfl; simpa only [World.size_alloc] using h_)
  have HB := Lib.hid hb
  clear hb
  by_cases hz : IntKind.u64.wrap a0_2 = 0
  ·rw [if_pos hz] at hv; cases hv
  rw [if_neg hz] at hv
  obtain rfl := Option.some.inj hv
  go_enter Tryz.func173, Tryz.ntmps173
  go_wp2
  go_quiet (fail)
  go_wp2
  go_ret
  exact ⟨rfl, by first | exact Below.refl _ _ | exact below_drewN (Below.refl _ _) _⟩
 have A := Lib.hid h
 clear h
 have e173 := fun args W => enters_of Tryz.func173 (by kernel_rfl) rfl args W
 go_enter Tryz.func154, Tryz.ntmps154
 go_wp2_with fail
 refine (lay_at.calls a0_0 a0_1 a0_2 a0_3 0 173 _ _ r _ e173 hcl A.out).mono ?_
 rintro e w1 ⟨rfl, hb⟩
 go_wp2
 go_ret
 exact ⟨rfl, HB0.out.trans (hb.mono (by simp; try omega))⟩
def tickF (s : List S116) : List S116 := s.set (s.length - 1) { rd_T116 s ((s.length : Int) - 1) with f1 := wrap64 ((rd_T116 s ((s.length : Int) - 1)).f1 + 1) }
theorem way_159 (g cap base : Nat) (s : List S116) (W : World) (h : k116.R 116 W base (fun _ => True) (.slice (some ⟨g, 0, none⟩) s.length cap) s) (hp : 0 < s.length) (hn : s.length ≤ 1000000) :
  Calls Tryz.prog 159 #[.slice (some ⟨g, 0, none⟩) s.length cap] W fun e W' => e = .returned (.slice (some ⟨g, 0, none⟩) s.length cap) ∧ k116.R 116 W' base (fun _ => True) (.slice (some ⟨g, 0, none⟩) s.length cap) (tickF s) ∧ W.grownBy W' (some g) := by
 obtain ⟨c, hcl, hM, hcc, hfz⟩ := Kd.R_elem h z116 ((s.length : Int) - 1) (by omega) (by omega)
 have hu116 := Tryz.underlying116
 obtain rfl := k116_openM hM
 have c1 := hcc 1 _ rfl
 have z1 := hfz 1
 have hput := fun v => Kd.R_seg (j := 1) (seg := [.int .i64 v]) h ((s.length : Int) - 1) (by omega) (by omega) hcl hcc (by show 1 + 1 ≤ 3; omega) (x' := { rd_T116 s ((s.length : Int) - 1) with f1 := v }) (okp := fun k => True ∧ k ≠ g) (k116_mkM _ _ _ _) (fun _ hk => hk)
 have e0 : ((s.length : Int) - 1).toNat = s.length - 1 := by omega
 rw [e0, show k116.sz = 3 from rfl] at c1 z1
 replace c1 : W.cell? ⟨g, (s.length - 1) * 3 + 1, none⟩ = some (.int .i64 (rd_T116 s ((s.length : Int) - 1)).f1) := by unfold rd_T116; rw [e0]; exact c1
 rw [show ((s.length : Int) - 1).toNat = s.length - 1 from e0] at hput
 have HP := qQ hput
 have q0 : ((0 : Int) ≤ (s.length : Int) - 1) = True := eq_true (by omega)
 have q1 : ((s.length : Int) - 1 < (s.length : Int)) = True := eq_true (by omega)
 clear hM hcc hfz hcl hput
 go_enter Tryz.func159, Tryz.ntmps159
 go_wp2
 go_ret
 exact ⟨rfl, HP.o _⟩
def kidF (s : List S116) : List S116 := s.set (s.length - 1) { rd_T116 s ((s.length : Int) - 1) with f2 := wrap64 ((rd_T116 s ((s.length : Int) - 1)).f2 + 1) }
theorem way_160 (g cap base : Nat) (s : List S116) (W : World) (h : k116.R 116 W base (fun _ => True) (.slice (some ⟨g, 0, none⟩) s.length cap) s) (hp : 0 < s.length) (hn : s.length ≤ 1000000) :
  Calls Tryz.prog 160 #[.slice (some ⟨g, 0, none⟩) s.length cap] W fun e W' => e = .returned (.slice (some ⟨g, 0, none⟩) s.length cap) ∧ k116.R 116 W' base (fun _ => True) (.slice (some ⟨g, 0, none⟩) s.length cap) (kidF s) ∧ W.grownBy W' (some g) := by
 obtain ⟨c, hcl, hM, hcc, hfz⟩ := Kd.R_elem h z116 ((s.length : Int) - 1) (by omega) (by omega)
 have hu116 := Tryz.underlying116
 obtain rfl := k116_openM hM
 have c1 := hcc 2 _ rfl
 have z1 := hfz 2
 have hput := fun v => Kd.R_seg (j := 2) (seg := [.int .i64 v]) h ((s.length : Int) - 1) (by omega) (by omega) hcl hcc (by show 2 + 1 ≤ 3; omega) (x' := { rd_T116 s ((s.length : Int) - 1) with f2 := v }) (okp := fun k => True ∧ k ≠ g) (k116_mkM _ _ _ _) (fun _ hk => hk)
 have e0 : ((s.length : Int) - 1).toNat = s.length - 1 := by omega
 rw [e0, show k116.sz = 3 from rfl] at c1 z1
 replace c1 : W.cell? ⟨g, (s.length - 1) * 3 + 2, none⟩ = some (.int .i64 (rd_T116 s ((s.length : Int) - 1)).f2) := by unfold rd_T116; rw [e0]; exact c1
 rw [show ((s.length : Int) - 1).toNat = s.length - 1 from e0] at hput
 have HP := qQ hput
 have q0 : ((0 : Int) ≤ (s.length : Int) - 1) = True := eq_true (by omega)
 have q1 : ((s.length : Int) - 1 < (s.length : Int)) = True := eq_true (by omega)
 clear hM hcc hfz hcl hput
 go_enter Tryz.func160, Tryz.ntmps160
 go_wp2
 go_ret
 exact ⟨rfl, HP.o _⟩
theorem way_161 (g cap base : Nat) (s : List S116) (W : World) (h : k116.R 116 W base (fun _ => True) (.slice (some ⟨g, 0, none⟩) s.length cap) s) (hp : 0 < s.length) (hn : s.length ≤ 1000000) :
  Calls Tryz.prog 161 #[.slice (some ⟨g, 0, none⟩) s.length cap] W fun e W' => e = .returned (.slice (some ⟨g, 0, none⟩) s.dropLast.length cap) ∧ k116.R 116 W' base (fun _ => True) (.slice (some ⟨g, 0, none⟩) s.dropLast.length cap) s.dropLast ∧ W.grownBy W' (some g) := by
 have h2 := qQ (Kd.R_take h (show s.length - 1 ≤ s.length by omega))
 have hc := (Kd.R_reads' h).2.1
 have q0 : ((0 : Int) ≤ (s.length : Int) - 1) = True := eq_true (by omega)
 have q1 : ((s.length : Int) - 1 < (s.length : Int)) = True := eq_true (by omega)
 go_enter Tryz.func161, Tryz.ntmps161
 go_wp2
 go_ret
 rw [show s.dropLast.length = s.length - 1 by simp, List.dropLast_eq_take]
 exact ⟨rfl, h2.o, World.grownBy.refl _ _⟩
theorem R_ge {α : Type} {d : Kd α} {e base g n cap : Nat} {ok : Nat → Prop} {w : World} {xs : List α} (h : d.R e w base ok (.slice (some ⟨g, 0, none⟩) n cap) xs) : base ≤ g := by
 obtain ⟨_, inner, ho, _⟩ := h
 rcases ho.2 with ⟨hv, _⟩ | ⟨g', cap', cur, hv, hb, _⟩
 ·cases hv
 ·injection hv with ha _ _; injection ha with ha; injection ha with hg; omega
theorem R_some {α : Type} {d : Kd α} {e base : Nat} {ok : Nat → Prop} {w : World} {v : Value} {xs : List α} (h : d.R e w base ok v xs) (hp : 0 < xs.length) : ∃ g c, v = .slice (some ⟨g, 0, none⟩) xs.length c ∧ base ≤ g := by
 obtain ⟨ad, c, rfl⟩ := Kd.R_slice1 h hp
 obtain ⟨g, rfl⟩ := Kd.R_head h
 exact ⟨g, c, rfl, R_ge h⟩
theorem below_grown {N g : Nat} {w W W' : World} (h : Below N w W) (hg : W.grownBy W' (some g)) (hn : N ≤ g) (hs : N ≤ W.heap.size) : Below N w W' :=
 ⟨hg.os.trans h.os, hg.tape.trans h.tape, hg.output.trans h.output, Nat.le_trans h.size hg.size, fun i hi => (hg.block i (by omega) (by simp only [ne_eq, Option.some.injEq]; omega)).trans (h.block i hi)⟩
def doF (kd : Int) (s : List S116) : List S116 := if kd = 1 then tickF s else if kd = 2 then kidF s else if kd = 3 then s.dropLast else s
theorem clone57d (A : Option Addr) (c : Nat) (l : List S116) (w : World) (hc : Kd.C k116 w A l.length l) (hn : l.length ≤ 1000000) :
  Calls Tryz.prog 57 #[.slice A l.length c] w fun e w' => ∃ v, e = .returned v ∧ k116.R 116 w' w.heap.size (fun _ => True) v l ∧ Below w.heap.size w w' :=
 (clone57 A c l w hc hn).mono fun _ _ ⟨v, he, hr, hb⟩ => ⟨v, he, Kd.R_imp rfl (fun _ _ _ x cs h => by rw [k116_open (w := w) h]; exact k116_mkM _ _ _ x) hr, hb⟩
theorem do_117 (A : Option Addr) (ct : Nat) (t : List S45) (As : Option Addr) (cs_ : Nat) (s : List S116) (kd tk : Int) (w : World) (hs : Kd.C k116 w As s.length s) (hsn : s.length ≤ 1000000) (hk : s = [] → ¬ kd = 1 ∧ ¬ kd = 2 ∧ ¬ kd = 3)
  (hnx : ∀ W, Below w.heap.size w W → Calls Tryz.prog 116 #[.slice A t.length ct, .slice As s.length cs_] W fun e W' => e = .returned (.agg #[.int .i64 kd, .int .i64 tk]) ∧ Below W.heap.size W W') :
  Calls Tryz.prog 117 #[.slice A t.length ct, .slice As s.length cs_] w fun e w' => ∃ v, e = .returned v ∧ k116.R 116 w' w.heap.size (fun _ => True) v (doF kd s) ∧ Below w.heap.size w w' := by
 have HS := qQ hs
 have HK := qQ hk
 have HNX := qQ hnx
 clear hs hk hnx
 have e159 := fun args W => enters_of Tryz.func159 (by kernel_rfl) rfl args W
 have e160 := fun args W => enters_of Tryz.func160 (by kernel_rfl) rfl args W
 have e161 := fun args W => enters_of Tryz.func161 (by kernel_rfl) rfl args W
 have FLD : ∀ w : World, (Instr.field 153 (.agg #[.int .i64 kd, .int .i64 tk]) 0).run Tryz.prog w = .ok (.int .i64 kd) w := fun w => by
  simp [Instr.field, run_underlying Tryz.underlying153, go_sem, asAgg]
 by_cases k1 : kd = 1
 ·subst k1
  have hp : 0 < s.length := by cases s with | nil => exact absurd rfl (HK.o rfl).1 | cons => simp
  have HL := qQ (fun (W : World) (r : Nat) (hb : W.heap[r]? = some waysM) => @run_look_some Tryz.prog 160 _ _ _ 3 Tryz.underlying160 Tryz.underlying3 r 1 _ _ W hb rfl true)
  go_enter Tryz.func117, Tryz.ntmps117
  go_wp2_with (first | (go_at_call 57; (with_reducible refine (clone57d As cs_ s _ HS.o hsn).mono ?_); rintro e w1 ⟨v, rfl, hr, hb⟩; obtain ⟨g, c1, eo, hg⟩ := R_some hr hp; subst eo; have HG := qQ hg; clear hg; have HR := qQ hr; have HB := qQ hb; clear hr hb) | (go_at_call 131; (with_reducible refine (ways_131 _).mono ?_); rintro e w2 ⟨rfl, hm, hb⟩; have HM := qQ hm; have HR2 := qQ (Kd.R_below HR.o hb); have HB2 := qQ (HB.o.trans (hb.mono HB.o.size)); clear hm hb) | (go_at_call 116; (with_reducible refine (HNX.o _ HB2.o).mono ?_); rintro e w3 ⟨rfl, hb⟩; have hm := HL.o w3 _ (blk_below HM.o hb); have HR3 := qQ (Kd.R_below HR2.o hb); have HB3 := qQ (HB2.o.trans (hb.mono HB2.o.size)); clear hb))
  (with_reducible refine (way_159 g c1 w.heap.size s _ HR3.o hp hsn).mono ?_)
  rintro e w4 ⟨rfl, hr, hg⟩
  have HR4 := qQ hr
  have HG4 := qQ hg
  clear hr hg
  go_wp2
  go_ret
  exact ⟨_, rfl, by simpa [doF] using HR4.o, below_grown HB3.o HG4.o HG.o HB3.o.size⟩
 by_cases k2 : kd = 2
 ·subst k2
  have hp : 0 < s.length := by cases s with | nil => exact absurd rfl (HK.o rfl).2.1 | cons => simp
  have HL := qQ (fun (W : World) (r : Nat) (hb : W.heap[r]? = some waysM) => @run_look_some Tryz.prog 160 _ _ _ 3 Tryz.underlying160 Tryz.underlying3 r 2 _ _ W hb rfl true)
  go_enter Tryz.func117, Tryz.ntmps117
  go_wp2_with (first | (go_at_call 57; (with_reducible refine (clone57d As cs_ s _ HS.o hsn).mono ?_); rintro e w1 ⟨v, rfl, hr, hb⟩; obtain ⟨g, c1, eo, hg⟩ := R_some hr hp; subst eo; have HG := qQ hg; clear hg; have HR := qQ hr; have HB := qQ hb; clear hr hb) | (go_at_call 131; (with_reducible refine (ways_131 _).mono ?_); rintro e w2 ⟨rfl, hm, hb⟩; have HM := qQ hm; have HR2 := qQ (Kd.R_below HR.o hb); have HB2 := qQ (HB.o.trans (hb.mono HB.o.size)); clear hm hb) | (go_at_call 116; (with_reducible refine (HNX.o _ HB2.o).mono ?_); rintro e w3 ⟨rfl, hb⟩; have hm := HL.o w3 _ (blk_below HM.o hb); have HR3 := qQ (Kd.R_below HR2.o hb); have HB3 := qQ (HB2.o.trans (hb.mono HB2.o.size)); clear hb))
  (with_reducible refine (way_160 g c1 w.heap.size s _ HR3.o hp hsn).mono ?_)
  rintro e w4 ⟨rfl, hr, hg⟩
  have HR4 := qQ hr
  have HG4 := qQ hg
  clear hr hg
  go_wp2
  go_ret
  exact ⟨_, rfl, by simpa [doF] using HR4.o, below_grown HB3.o HG4.o HG.o HB3.o.size⟩
 by_cases k3 : kd = 3
 ·subst k3
  have hp : 0 < s.length := by cases s with | nil => exact absurd rfl (HK.o rfl).2.2 | cons => simp
  have HL := qQ (fun (W : World) (r : Nat) (hb : W.heap[r]? = some waysM) => @run_look_some Tryz.prog 160 _ _ _ 3 Tryz.underlying160 Tryz.underlying3 r 3 _ _ W hb rfl true)
  go_enter Tryz.func117, Tryz.ntmps117
  go_wp2_with (first | (go_at_call 57; (with_reducible refine (clone57d As cs_ s _ HS.o hsn).mono ?_); rintro e w1 ⟨v, rfl, hr, hb⟩; obtain ⟨g, c1, eo, hg⟩ := R_some hr hp; subst eo; have HG := qQ hg; clear hg; have HR := qQ hr; have HB := qQ hb; clear hr hb) | (go_at_call 131; (with_reducible refine (ways_131 _).mono ?_); rintro e w2 ⟨rfl, hm, hb⟩; have HM := qQ hm; have HR2 := qQ (Kd.R_below HR.o hb); have HB2 := qQ (HB.o.trans (hb.mono HB.o.size)); clear hm hb) | (go_at_call 116; (with_reducible refine (HNX.o _ HB2.o).mono ?_); rintro e w3 ⟨rfl, hb⟩; have hm := HL.o w3 _ (blk_below HM.o hb); have HR3 := qQ (Kd.R_below HR2.o hb); have HB3 := qQ (HB2.o.trans (hb.mono HB2.o.size)); clear hb))
  (with_reducible refine (way_161 g c1 w.heap.size s _ HR3.o hp hsn).mono ?_)
  rintro e w4 ⟨rfl, hr, hg⟩
  have HR4 := qQ hr
  have HG4 := qQ hg
  clear hr hg
  go_wp2
  go_ret
  exact ⟨_, rfl, by simpa [doF] using HR4.o, below_grown HB3.o HG4.o HG.o HB3.o.size⟩
 have hf : Instr.findNow (.int .i64) (.int .i64 kd) #[fnE 1 159 0, fnE 2 160 1, fnE 3 161 2].toList 0 = some none := by
  simp [Instr.findNow, Instr.sameNow, show (kd == 1) = false by simpa using k1, show (kd == 2) = false by simpa using k2, show (kd == 3) = false by simpa using k3]
 have hz : ∀ W : World, (zeroValue 114).run Tryz.prog W = .ok .nilFunc W := fun W => by rfl
 have HL := qQ (fun (W : World) (r : Nat) (hb : W.heap[r]? = some waysM) => @run_look_none Tryz.prog 160 _ _ _ 3 Tryz.underlying160 Tryz.underlying3 r kd _ W hb hf (hz W) true)
 go_enter Tryz.func117, Tryz.ntmps117
 go_wp2_with (first | (go_at_call 57; (with_reducible refine (clone57d As cs_ s _ HS.o hsn).mono ?_); rintro e w1 ⟨v, rfl, hr, hb⟩; obtain ⟨A1, c1, eo⟩ := Kd.R_slice hr; subst eo; have HR := qQ hr; have HB := qQ hb; clear hr hb) | (go_at_call 131; (with_reducible refine (ways_131 _).mono ?_); rintro e w2 ⟨rfl, hm, hb⟩; have HM := qQ hm; have HR2 := qQ (Kd.R_below HR.o hb); have HB2 := qQ (HB.o.trans (hb.mono HB.o.size)); clear hm hb) | (go_at_call 116; (with_reducible refine (HNX.o _ HB2.o).mono ?_); rintro e w3 ⟨rfl, hb⟩; have hm := HL.o w3 _ (blk_below HM.o hb); have HR3 := qQ (Kd.R_below HR2.o hb); have HB3 := qQ (HB2.o.trans (hb.mono HB2.o.size)); clear hb))
 go_ret
 exact ⟨_, rfl, by simpa [doF, k1, k2, k3] using HR3.o, HB3.o⟩
structure Cf where
 w : Int
 d : Int
 i : Int
 s : Int
 deriving DecidableEq, Repr
abbrev cfV (c : Cf) : Value := .agg #[.int .i64 c.w, .int .i64 c.d, .int .i64 c.i, .int .i64 c.s]
abbrev frV (f : S66) : Value := .agg #[.int .i64 f.f0, .int .i64 f.f1, .int .i64 f.f2, .int .u64 f.f3, .int .u64 f.f4, .int .u64 f.f5, .int .i64 f.f6]
abbrev boxO (f : S66) (c : Cf) (v : Value) (t : Nat) : Obj := .cells #[.int .i64 f.f0, .int .i64 f.f1, .int .i64 f.f2, .int .u64 f.f3, .int .u64 f.f4, .int .u64 f.f5, .int .i64 f.f6, .int .i64 c.w, .int .i64 c.d, .int .i64 c.i, .int .i64 c.s, v] t (0, 0)
def loadF (l : List Int) (i : Int) : Int := if 0 ≤ i ∧ i < l.length then rd l i else 0
theorem load_some (l : List Int) (i : Int) : cell_Load.f l i = some (loadF l i) := by
 unfold cell_Load.f cell_is.f loadF
 by_cases h0 : 0 ≤ i
 ·by_cases h1 : i < l.length
  ·simp [h0, h1]
  ·simp [h0, h1]
 ·simp [h0]
theorem Load_calls (A : Option Addr) (c : Nat) (l : List Int) (i : Int) (w : World) (hc : Kd.C (Kd.int .u64) w A l.length l) (hcc : l.length ≤ c) :
  Calls Tryz.prog 7 #[.slice A l.length c, .int .i64 i] w fun e w' => e = .returned (.int .u64 (loadF l i)) ∧ Drawn0 w w' := cell_Load.calls A c l i _ w hc hcc (load_some l i)
theorem boxCells {W : World} {g : Nat} {f : S66} {c : Cf} {v : Value} {t : Nat} (h : W.heap[g]? = some (boxO f c v t)) :
  W.cell? ⟨g, 0, none⟩ = some (.int .i64 f.f0) ∧ W.cell? ⟨g, 1, none⟩ = some (.int .i64 f.f1) ∧ W.cell? ⟨g, 2, none⟩ = some (.int .i64 f.f2) ∧ W.cell? ⟨g, 3, none⟩ = some (.int .u64 f.f3) ∧ W.cell? ⟨g, 4, none⟩ = some (.int .u64 f.f4) ∧ W.cell? ⟨g, 5, none⟩ = some (.int .u64 f.f5) ∧ W.cell? ⟨g, 6, none⟩ = some (.int .i64 f.f6) ∧
  W.cell? ⟨g, 7, none⟩ = some (.int .i64 c.w) ∧ W.cell? ⟨g, 8, none⟩ = some (.int .i64 c.d) ∧ W.cell? ⟨g, 9, none⟩ = some (.int .i64 c.i) ∧ W.cell? ⟨g, 10, none⟩ = some (.int .i64 c.s) ∧ W.cell? ⟨g, 11, none⟩ = some v :=
 ⟨(blk_cell h 0).trans rfl, (blk_cell h 1).trans rfl, (blk_cell h 2).trans rfl, (blk_cell h 3).trans rfl, (blk_cell h 4).trans rfl, (blk_cell h 5).trans rfl, (blk_cell h 6).trans rfl, (blk_cell h 7).trans rfl, (blk_cell h 8).trans rfl, (blk_cell h 9).trans rfl, (blk_cell h 10).trans rfl, (blk_cell h 11).trans rfl⟩
theorem boxFrozen {W : World} {g : Nat} {f : S66} {c : Cf} {v : Value} {t : Nat} (h : W.heap[g]? = some (boxO f c v t)) :
  W.frozen? ⟨g, 0, none⟩ = false ∧ W.frozen? ⟨g, 1, none⟩ = false ∧ W.frozen? ⟨g, 2, none⟩ = false ∧ W.frozen? ⟨g, 3, none⟩ = false ∧ W.frozen? ⟨g, 4, none⟩ = false ∧ W.frozen? ⟨g, 5, none⟩ = false ∧ W.frozen? ⟨g, 6, none⟩ = false ∧ W.frozen? ⟨g, 11, none⟩ = false :=
 ⟨blk_frozen h 0, blk_frozen h 1, blk_frozen h 2, blk_frozen h 3, blk_frozen h 4, blk_frozen h 5, blk_frozen h 6, blk_frozen h 11⟩
theorem gb_set {W W' : World} {g : Nat} (h : W.grownBy W' (some g)) (i : Nat) (u : Value) : W.grownBy (W'.setCell ⟨g, i, none⟩ u) (some g) :=
 ⟨h.os, h.tape, h.output, by simpa using h.size, fun k hk hr => by rw [Below.heap_setCell _ _ _ _ (fun e => hr (by rw [e]))]; exact h.block k hk hr⟩
theorem gb_drewN {W W' : World} {r : Option Nat} (h : W.grownBy W' r) (n : Nat) : W.grownBy (W'.drewN n) r := ⟨h.os, h.tape, h.output, h.size, h.block⟩
theorem gb_drew {W W' : World} {r : Option Nat} (h : W.grownBy W' r) : W.grownBy W'.drew r := ⟨h.os, h.tape, h.output, h.size, h.block⟩
theorem gb_below {W W1 W2 : World} {r : Option Nat} (h : W.grownBy W1 r) (hb : Below W1.heap.size W1 W2) : W.grownBy W2 r :=
 ⟨hb.os.trans h.os, hb.tape.trans h.tape, hb.output.trans h.output, Nat.le_trans h.size hb.size, fun k hk hr => (hb.block k (Nat.lt_of_lt_of_le hk h.size)).trans (h.block k hk hr)⟩
structure St (t : Nat) (W0 : World) (g base : Nat) (f : S66) (c : Cf) (v : Value) (l : List Int) (W : World) : Prop where
 gb : W0.grownBy W (some g)
 hb : W.heap[g]? = some (boxO f c v t)
 hr : (Kd.int .u64).R 38 W base (fun _ => True) v l
 ht : t ≠ 38
 le : base ≤ W0.heap.size
namespace St
variable {t : Nat} {W0 W : World} {g base : Nat} {f : S66} {c : Cf} {v : Value} {l : List Int}
theorem drewN (h : St t W0 g base f c v l W) (n : Nat) : St t W0 g base f c v l (W.drewN n) := ⟨gb_drewN h.gb n, h.hb, Kd.R_drewN h.hr n, h.ht, h.le⟩
theorem drew (h : St t W0 g base f c v l W) : St t W0 g base f c v l W.drew := ⟨gb_drew h.gb, h.hb, Kd.R_drew h.hr, h.ht, h.le⟩
theorem below (h : St t W0 g base f c v l W) {W1 : World} (hb : Below W.heap.size W W1) : St t W0 g base f c v l W1 := ⟨gb_below h.gb hb, blk_below h.hb hb, Kd.R_below h.hr hb, h.ht, h.le⟩
theorem setR (h : St t W0 g base f c v l W) (j : Nat) (u : Value) : (Kd.int .u64).R 38 (W.setCell ⟨g, j, none⟩ u) base (fun _ => True) v l :=
 Kd.R_set h.hr h.hb (fun q hq => by rcases List.mem_cons.1 hq with rfl | hq; exact h.ht.symm; cases hq) j u
theorem set1 (h : St t W0 g base f c v l W) (x : Int) : St t W0 g base { f with f1 := x } c v l (W.setCell ⟨g, 1, none⟩ (.int .i64 x)) := ⟨gb_set h.gb _ _, by simpa using blk_set h.hb 1 (.int .i64 x), h.setR _ _, h.ht, h.le⟩
theorem set3 (h : St t W0 g base f c v l W) (x : Int) : St t W0 g base { f with f3 := x } c v l (W.setCell ⟨g, 3, none⟩ (.int .u64 x)) := ⟨gb_set h.gb _ _, by simpa using blk_set h.hb 3 (.int .u64 x), h.setR _ _, h.ht, h.le⟩
theorem set4 (h : St t W0 g base f c v l W) (x : Int) : St t W0 g base { f with f4 := x } c v l (W.setCell ⟨g, 4, none⟩ (.int .u64 x)) := ⟨gb_set h.gb _ _, by simpa using blk_set h.hb 4 (.int .u64 x), h.setR _ _, h.ht, h.le⟩
theorem set5 (h : St t W0 g base f c v l W) (x : Int) : St t W0 g base { f with f5 := x } c v l (W.setCell ⟨g, 5, none⟩ (.int .u64 x)) := ⟨gb_set h.gb _ _, by simpa using blk_set h.hb 5 (.int .u64 x), h.setR _ _, h.ht, h.le⟩
theorem setF (h : St t W0 g base f c v l W) (f' : S66) : St t W0 g base f' c v l (((((((W.setCell ⟨g, 0, none⟩ (.int .i64 f'.f0)).setCell ⟨g, 1, none⟩ (.int .i64 f'.f1)).setCell ⟨g, 2, none⟩ (.int .i64 f'.f2)).setCell ⟨g, 3, none⟩ (.int .u64 f'.f3)).setCell ⟨g, 4, none⟩ (.int .u64 f'.f4)).setCell ⟨g, 5, none⟩ (.int .u64 f'.f5)).setCell ⟨g, 6, none⟩ (.int .i64 f'.f6)) := by
 have a0 : St t W0 g base { f with f0 := f'.f0 } c v l (W.setCell ⟨g, 0, none⟩ (.int .i64 f'.f0)) := ⟨gb_set h.gb _ _, by simpa using blk_set h.hb 0 (.int .i64 f'.f0), h.setR _ _, h.ht, h.le⟩
 have a1 := a0.set1 f'.f1
 have a2 : St t W0 g base { f with f0 := f'.f0, f1 := f'.f1, f2 := f'.f2 } c v l ((((W.setCell ⟨g, 0, none⟩ (.int .i64 f'.f0)).setCell ⟨g, 1, none⟩ (.int .i64 f'.f1)).setCell ⟨g, 2, none⟩ (.int .i64 f'.f2))) := ⟨gb_set a1.gb _ _, by simpa using blk_set a1.hb 2 (.int .i64 f'.f2), a1.setR _ _, h.ht, h.le⟩
 have a5 := ((a2.set3 f'.f3).set4 f'.f4).set5 f'.f5
 exact ⟨gb_set a5.gb _ _, by simpa using blk_set a5.hb 6 (.int .i64 f'.f6), a5.setR _ _, h.ht, h.le⟩
theorem setM (h : St t W0 g base f c v l W) {v' : Value} {l' : List Int} (hr : (Kd.int .u64).R 38 W base (fun _ => True) v' l') : St t W0 g base f c v' l' (W.setCell ⟨g, 11, none⟩ v') :=
 ⟨gb_set h.gb _ _, by simpa using blk_set h.hb 11 v', Kd.R_set hr h.hb (fun q hq => by rcases List.mem_cons.1 hq with rfl | hq; exact h.ht.symm; cases hq) _ _, h.ht, h.le⟩
end St
def Does (t fid : Nat) (c : Cf) (f : S66) (l : List Int) (f' : S66) (l' : List Int) : Prop :=
 ∀ (W : World) (g base : Nat) (v : Value), St t W g base f c v l W → Calls Tryz.prog fid #[.pointer (some ⟨g, 0, none⟩)] W fun e W' => (∃ u, e = .returned u) ∧ ∃ v', St t W g base f' c v' l' W'
theorem wait_prepare (f : S66) (c : Cf) (l : List Int) : Does 164 132 c f l { f with f4 := loadF l 2, f1 := 1 } l := by
 intro W g base v h
 obtain ⟨A, cp, rfl, hcp, hC⟩ := Kd.R_reads h.hr
 have HC := qQ hC
 have HCP := qQ hcp
 have HS := qQ h
 have q0 := boxCells h.hb
 have z0 := boxFrozen h.hb
 clear hC hcp h
 go_enter Tryz.func132, Tryz.ntmps132
 go_wp2_with (go_at_call 7; (with_reducible refine (Load_calls A cp l 2 _ HC.o HCP.o).mono ?_); rintro e w1 ⟨rfl, ⟨nd, rfl⟩⟩)
 go_end0
 exact ⟨⟨_, rfl⟩, _, ((HS.o.drewN nd).set4 (loadF l 2)).set1 1⟩
theorem wait_look (f : S66) (c : Cf) (l : List Int) : Does 164 133 c f l (if loadF l 2 / 65536 = f.f4 / 65536 then { f with f5 := loadF l 2, f1 := 2 } else ⟨f.f0, 0, f.f2, 0, 0, 0, 4⟩) l := by
 intro W g base v h
 obtain ⟨A, cp, rfl, hcp, hC⟩ := Kd.R_reads h.hr
 have HC := qQ hC
 have HCP := qQ hcp
 have HS := qQ h
 obtain ⟨q0, q1, q2, q3, q4, q5, q6, q7, q8, q9, q10, q11⟩ := boxCells h.hb
 have z0 := boxFrozen h.hb
 clear hC hcp h
 by_cases hx : loadF l 2 / 65536 = f.f4 / 65536
 ·rw [if_pos hx]
  go_enter Tryz.func133, Tryz.ntmps133
  go_wp2_with (go_at_call 7; (with_reducible refine (Load_calls A cp l 2 _ HC.o HCP.o).mono ?_); rintro e w1 ⟨rfl, ⟨nd, rfl⟩⟩)
  have HS1 := ((HS.o.drewN nd).set5 (loadF l 2)).set1 2
  generalize ((W.drewN nd).setCell ⟨g, 5, none⟩ (.int .u64 (loadF l 2))).setCell ⟨g, 1, none⟩ (.int .i64 2) = W1 at HS1 ⊢
  have k4 : W1.cell? ⟨g, 4, none⟩ = some (.int .u64 f.f4) := (boxCells HS1.hb).2.2.2.2.1
  have k5 : W1.cell? ⟨g, 5, none⟩ = some (.int .u64 (loadF l 2)) := (boxCells HS1.hb).2.2.2.2.2.1
  have HS1 := qQ HS1
  clear q0 q1 q2 q3 q4 q5 q6 q7 q8 q9 q10 q11 z0
  go_region_held3 (fun W' => W'.cell? ⟨g, 4, none⟩ = some (.int .u64 f.f4) ∧ W'.cell? ⟨g, 5, none⟩ = some (.int .u64 (loadF l 2))) (first | exact ⟨k4, k5⟩ | go_keep)
   (first | (go_at_call 162; (with_reducible refine (word_Epoch.calls (loadF l 2) _ _ rfl).mono ?_); rintro e w1 ⟨rfl, ⟨nd1, rfl⟩⟩) | (go_at_call 162; (with_reducible refine (word_Epoch.calls f.f4 _ _ rfl).mono ?_); rintro e w1 ⟨rfl, ⟨nd2, rfl⟩⟩))
  go_wp2
  go_end0
  exact ⟨⟨_, rfl⟩, _, HS1.o.drewN _⟩
 ·rw [if_neg hx]
  go_enter Tryz.func133, Tryz.ntmps133
  go_wp2_with (go_at_call 7; (with_reducible refine (Load_calls A cp l 2 _ HC.o HCP.o).mono ?_); rintro e w1 ⟨rfl, ⟨nd, rfl⟩⟩)
  have HS1 := ((HS.o.drewN nd).set5 (loadF l 2)).set1 2
  generalize ((W.drewN nd).setCell ⟨g, 5, none⟩ (.int .u64 (loadF l 2))).setCell ⟨g, 1, none⟩ (.int .i64 2) = W1 at HS1 ⊢
  clear q0 q1 q2 q3 q4 q5 q6 q7 q8 q9 q10 q11 z0
  obtain ⟨q0, q1, q2, q3, q4, q5, q6, q7, q8, q9, q10, q11⟩ := boxCells HS1.hb
  have z0 := boxFrozen HS1.hb
  have k45 := And.intro q4 q5
  have HS1 := qQ HS1
  go_region_held3 (fun W' => W'.cell? ⟨g, 4, none⟩ = some (.int .u64 f.f4) ∧ W'.cell? ⟨g, 5, none⟩ = some (.int .u64 (loadF l 2))) (first | exact k45 | go_keep)
   (first | (go_at_call 162; (with_reducible refine (word_Epoch.calls (loadF l 2) _ _ rfl).mono ?_); rintro e w1 ⟨rfl, ⟨nd1, rfl⟩⟩) | (go_at_call 162; (with_reducible refine (word_Epoch.calls f.f4 _ _ rfl).mono ?_); rintro e w1 ⟨rfl, ⟨nd2, rfl⟩⟩))
  go_wp2_with (go_at_call 142; (with_reducible refine (frame_End.calls _ _ _ _ _ _ _ 4 0 _ _ _ _ _ _ _ _ rfl).mono ?_); rintro e w2 ⟨rfl, hb2⟩; have HS2 := (HS1.o.drewN _).below hb2; clear q0 q1 q2 q3 q4 q5 q6 q7 q8 q9 q10 q11 z0 hb2; obtain ⟨q0, q1, q2, q3, q4, q5, q6, q7, q8, q9, q10, q11⟩ := boxCells HS2.hb; have z0 := boxFrozen HS2.hb; have HS2 := qQ HS2)
  go_end0
  exact ⟨⟨_, rfl⟩, _, HS2.o.setF ⟨f.f0, 0, f.f2, 0, 0, 0, 4⟩⟩
theorem wait_commit (f : S66) (c : Cf) (l l' : List Int) (y : Int) (b : Bool) (hy : word_Set.f f.f5 f.f2 = some y) (hn : l.length ≤ 1000000) (hcas : casF l 2 f.f5 y = (l', b)) : Does 164 134 c f l { f with f1 := if b = true then 3 else 1 } l' := by
 intro W g base v h
 obtain ⟨A, cp, rfl, hcp, hC⟩ := Kd.R_reads h.hr
 have HCP := qQ hcp
 have HS := qQ h
 have HY := qQ hy
 have HN := qQ hn
 have HQ := qQ hcas
 obtain ⟨q0, q1, q2, q3, q4, q5, q6, q7, q8, q9, q10, q11⟩ := boxCells h.hb
 obtain ⟨z0, z1, z2, z3, z4, z5, z6, z11⟩ := boxFrozen h.hb
 clear hC hcp h hy hn hcas
 go_enter Tryz.func134, Tryz.ntmps134
 go_wp2
 have HS1 := HS.o.set1 1
 generalize W.setCell ⟨g, 1, none⟩ (.int .i64 1) = W1 at HS1 ⊢
 clear q0 q1 q2 q3 q4 q5 q6 q7 q8 q9 q10 q11 z0 z1 z2 z3 z4 z5 z6 z11
 obtain ⟨q0, q1, q2, q3, q4, q5, q6, q7, q8, q9, q10, q11⟩ := boxCells HS1.hb
 have HS1 := qQ HS1
 refine zS 29 [27] (fun W' => W'.cell? ⟨g, 2, none⟩ = some (.int .i64 f.f2) ∧ W'.cell? ⟨g, 5, none⟩ = some (.int .u64 f.f5) ∧ W'.cell? ⟨g, 11, none⟩ = some (.slice A l.length cp)) ⟨q2, q5, q11⟩ fun hHeld => ?_
 refine zY 0 1 8 ?_
 refine zY 1 3 9 ?_
 refine zY 2 7 10 ?_
 refine zY 3 15 11 ?_
 refine zT 4 31 12 ?_ (hy := zy18)
 refine zY 5 63 13 ?_
 refine zY 6 127 14 ?_
 refine zY 7 255 15 ?_
 refine zY 8 511 16 ?_
 refine zT 9 1023 17 ?_ (hy := zy18)
 refine zY 10 2047 18 ?_
 refine zY 11 4095 19 ?_
 refine zY 12 8191 20 ?_
 refine zY 13 16383 21 ?_
 refine zT 14 32767 22 ?_ (hy := zy18)
 refine zY 15 65535 23 ?_
 refine zY 16 131071 24 ?_
 refine zY 17 262143 25 ?_
 refine zY 18 524287 26 ?_
 refine zT 19 1048575 27 ?_ (hy := zy18)
 refine zO 20 2097151 28 fun K hK => ?_
 go_simp
 refine (word_Set.calls f.f5 f.f2 y _ HY.o).mono ?_
 rintro e w1 ⟨rfl, ⟨nd1, rfl⟩⟩
 refine hK.out _ _ hHeld (fun hHeld => ?_)
 refine zO 21 4194303 29 fun K hK => ?_
 go_simp
 have CC := cas140 A cp l 2 f.f5 y (W1.drewN (1 + nd1)) (Kd.R_reads' (HS1.o.drewN (1 + nd1)).hr).2.2 HCP.o HN.o
 rw [HQ.o] at CC
 refine CC.mono ?_
 clear CC
 rintro e w2 ⟨u, rfl, ho, hb⟩
 obtain ⟨A3, c3, rfl⟩ := Kd.R_slice ho
 have HS2 := (HS1.o.drewN (1 + nd1)).below hb
 have HO := Kd.R_lower ho (Nat.le_trans HS2.le (HS1.o.drewN (1 + nd1)).gb.size)
 clear ho hb q0 q1 q2 q3 q4 q5 q6 q7 q8 q9 q10 q11
 obtain ⟨q0, q1, q2, q3, q4, q5, q6, q7, q8, q9, q10, q11⟩ := boxCells HS2.hb
 have z11 := (boxFrozen HS2.hb).2.2.2.2.2.2.2
 refine hK.out _ _ ⟨q2, q5, q11⟩ (fun hHeld => ?_)
 have HS3 := qQ (HS2.setM HO)
 clear HO HS2
 refine zY 22 8388607 7 ?_
 refine zY 23 16777215 30 ?_
 refine zY 24 33554431 31 ?_
 refine zY 25 67108863 32 ?_
 refine zY 26 134217727 33 ?_
 refine zL 27 268435455 fun K hK => ?_
 go_simp
 refine hK.out _ _ ?_
 refine zY 28 536870911 2 ?_
 refine zD ?_
 have HS4 := HS3.o
 generalize w2.setCell ⟨g, 11, none⟩ (.slice A3 l'.length c3) = w3 at HS4 ⊢
 have z1 := (boxFrozen HS4.hb).2.1
 have q1 := (boxCells HS4.hb).2.1
 have HS4 := qQ HS4
 cases b with
 | true =>
  go_wp2
  go_end0
  exact ⟨⟨_, rfl⟩, _, HS4.o.set1 3⟩
 | false =>
  go_wp2
  go_end0
  exact ⟨⟨_, rfl⟩, _, HS4.o⟩
end Go.Proofs.YthoeodjgfelkhaaGreat.QT
