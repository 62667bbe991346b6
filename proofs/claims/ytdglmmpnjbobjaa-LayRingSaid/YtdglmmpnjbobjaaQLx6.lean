-- Written by inj.py (a program of this session), by the kit's print with functions given by hand. Not trusted: Lean checks it.
import Derived.Test.YtdglmmpnjbobjaaQLx0
import Derived.Test.YtdglmmpnjbobjaaQLx1
import Derived.Test.YtdglmmpnjbobjaaQLx2
namespace Go.Proofs.Ytdglmmpnjbobjaa.QL
open Go.RowKit Go.Proofs.YtdglmmpnjbobjaaW.PrintWords Go.Proofs.YtdglmmpnjbobjaaW.PrintLast Go.Proofs.YtdglmmpnjbobjaaW.PrintMore
attribute [local go_sem] max2_int min2_int max_two min_two max_three min_three max_four min_four   -- for this text's walks alone
set_option linter.unusedVariables false
set_option linter.unusedSimpArgs false

/-! ### lay_at: function 32 -/
def lay_at.f (a0_0 a0_1 a0_2 a0_3 wi : Int) (ro : Option Int) : Option Int := (lay_May.f a0_0 a0_1 a0_2 a0_3).bind fun t => if t = true then ((lay_in.f wi 0 (wrap64 (a0_0 - 1))).bind fun u => if u = true then ro else some (-1)) else some (-1)
theorem lay_at.bcell {W w1 : World} (hb : Below W.heap.size W w1) : ∀ b o, b < W.heap.size → w1.cell? ⟨b, o, none⟩ = W.cell? ⟨b, o, none⟩ := fun b o h => hb.cell (p := ⟨b, o, none⟩) h
theorem lay_at.old {W : World} {a : Addr} {v : Value} (o : Obj) (h : W.cell? a = some v) : (W.alloc o).cell? a = some v := Lib.cell?_alloc_some o h
theorem lay_at.fresh (W : World) (cs : Array Value) (t : TypeId) (j : Nat) {v : Value} (h : cs[j]? = some v) : (W.alloc (.cells cs t)).cell? ⟨W.heap.size, j, none⟩ = some v := by simp [h]
set_option maxHeartbeats 8000000 in
set_option maxRecDepth 100000 in
theorem lay_at.calls (a0_0 a0_1 a0_2 a0_3 wi : Int) (g : Nat) (caps : Array Value) (ro : Option Int) (r : Int) (w : World)
    (eg : ∀ args W, (callFunc g args).run Try.prog W = .ok (.enter g args) W)
    (hcl : Hid (∀ v W, ro = some v → Below w.heap.size w W → Calls Try.prog g caps W fun e W' => e = .returned (.int .i64 v) ∧ Below W.heap.size W W'))
    (h : lay_at.f a0_0 a0_1 a0_2 a0_3 wi ro = some r) :
    Calls Try.prog 32 #[.agg #[.int .i64 a0_0, .int .i64 a0_1, .int .i64 a0_2, .int .i64 a0_3], .int .i64 wi, .func (.func g) #[] caps] w fun e w' => e = .returned (.int .i64 r) ∧ Below w.heap.size w w' := by
  have hu23 := Try.underlying23
  have HB0 := Lib.hid ((Below.refl w.heap.size w).alloc (Nat.le_refl _) (.cells #[.int .i64 a0_0, .int .i64 a0_1, .int .i64 a0_2, .int .i64 a0_3] 23))
  unfold lay_at.f at h
  obtain ⟨t, A1, h⟩ := Option.bind_eq_some_iff.mp h
  have A := Lib.hid A1
  clear A1
  cases t with
  | false =>
    rw [if_neg (by decide)] at h
    obtain rfl := Option.some.inj h
    go_enter Try.func32, Try.ntmps32
    go_wp2_with (go_at_call 14; (with_reducible refine (lay_May.calls a0_0 a0_1 a0_2 a0_3 false _ A.out).mono ?_); rintro e w1 ⟨rfl, hb⟩)
    go_ret
    exact ⟨rfl, HB0.out.trans (hb.mono (by simp))⟩
  | true =>
    rw [if_pos rfl] at h
    obtain ⟨u, B1, h⟩ := Option.bind_eq_some_iff.mp h
    have B := Lib.hid B1
    clear B1
    have HW : ∀ w1, Below (w.heap.size + 1) (w.alloc (.cells #[.int .i64 a0_0, .int .i64 a0_1, .int .i64 a0_2, .int .i64 a0_3] 23)) w1 → w1.cell? ⟨w.heap.size, 0, none⟩ = some (.int .i64 a0_0) := fun w1 hb => (hb.cell (p := ⟨w.heap.size, 0, none⟩) (Nat.lt_succ_self _)).trans (by simp)
    cases u with
    | false =>
      rw [if_neg (by decide)] at h
      obtain rfl := Option.some.inj h
      go_enter Try.func32, Try.ntmps32
      go_wp2_with (first | (go_at_call 14; (with_reducible refine (lay_May.calls a0_0 a0_1 a0_2 a0_3 true _ A.out).mono ?_); rintro e w1 ⟨rfl, hb⟩; have hc := HW w1 (by simpa using hb); have HB := Lib.hid hb; clear hb) | (go_at_call 30; (with_reducible refine (lay_in.calls wi 0 (wrap64 (a0_0 - 1)) false _ B.out).mono ?_); rintro e w' ⟨rfl, ⟨nd, rfl⟩⟩))
      go_ret
      exact ⟨rfl, by apply pw_below_drewN; exact HB0.out.trans (HB.out.mono (by simp))⟩
    | true =>
      rw [if_pos rfl] at h
      have H := Lib.hid h
      clear h
      go_enter Try.func32, Try.ntmps32
      go_wp2_with (first | (go_at_call 14; (with_reducible refine (lay_May.calls a0_0 a0_1 a0_2 a0_3 true _ A.out).mono ?_); rintro e w1 ⟨rfl, hb⟩; have hc := HW w1 (by simpa using hb); have HB := Lib.hid hb; clear hb) | (go_at_call 30; (with_reducible refine (lay_in.calls wi 0 (wrap64 (a0_0 - 1)) true _ B.out).mono ?_); rintro e w' ⟨rfl, ⟨nd, rfl⟩⟩))
      have HB2 : Below w.heap.size w (w1.drewN nd) := by apply pw_below_drewN; exact HB0.out.trans (HB.out.mono (by simp))
      refine (hcl.out r _ H.out HB2).mono ?_
      rintro e w3 ⟨rfl, hb3⟩
      go_wp2
      go_ret
      exact ⟨rfl, HB2.trans (hb3.mono HB2.size)⟩


end Go.Proofs.Ytdglmmpnjbobjaa.QL
