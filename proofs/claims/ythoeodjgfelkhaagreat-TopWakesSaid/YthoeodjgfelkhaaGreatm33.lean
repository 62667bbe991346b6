/- Part 33 of the claim on TopWakes: asleep; rested; a new pool told. No condition. -/
import Derived.Test.YthoeodjgfelkhaaGreatm32
set_option linter.unusedVariables false
set_option linter.unusedSimpArgs false
set_option maxRecDepth 100000
set_option maxHeartbeats 8000000
namespace Go.Proofs.YthoeodjgfelkhaaGreat.QT
open Go.RowKit Go.Proofs.YthoeodjgfelkhaaGreatW.PrintWords Go.Proofs.YthoeodjgfelkhaaGreatW.PrintLast Go.Proofs.YthoeodjgfelkhaaGreatW.PrintMore
attribute [local go_sem] max2_int min2_int max_two min_two
def parkF (c : Cf) (k : Int) : Int := (lay_Park.f c.w c.d c.i c.s k).getD 0
theorem park_some (c : Cf) (k : Int) : lay_Park.f c.w c.d c.i c.s k = some (parkF c k) := by
 have h : ∃ r, lay_Park.f c.w c.d c.i c.s k = some r := by
  unfold lay_Park.f lay_at.f
  rw [may_some]
  simp only [Option.bind_some, lay_in.f, lay_base.f]
  repeat' split
  all_goals first | exact ⟨_, rfl⟩ | simp
  all_goals first | done | (split <;> exact ⟨_, rfl⟩)
 obtain ⟨r, h⟩ := h
 unfold parkF
 rw [h]; rfl
def parkedB (x : S76) : Bool := decide (x.f0 = 8) && (decide (x.f2.f0 = 5) && (!(x.f2.f6 != 0) && (x.f2.f1 == 3)))
theorem parked_some (x : S76) : work_Parked.f x.f0 x.f1 x.f2.f0 x.f2.f1 x.f2.f2 x.f2.f3 x.f2.f4 x.f2.f5 x.f2.f6 x.f3 x.f4 = some (parkedB x) := by
 unfold work_Parked.f wait_Parked.f frame_Over.f parkedB
 by_cases h1 : x.f0 = 8
 ·by_cases h2 : x.f2.f0 = 5
  ·by_cases h3 : (x.f2.f6 != 0) = true
   ·simp [h1, h2, h3]
   ·simp [h1, h2, h3]
  ·simp [h1, h2]
 ·simp [h1]
def awB (c : Cf) (m : List Int) (k : Nat) (x : S76) : Bool := parkedB x && (loadF m (parkF c k) == 0)
def asleepB (c : Cf) (m : List Int) (ws : List S76) (ss : List S68) : Bool := !(ss.any fun s => s.f0 != 0) && (List.range ws.length).all fun k => awB c m k (rd_T76 ws k)
theorem below_all {w wr W : World} (h : Aside0 (Below w.heap.size w wr)) (k : Aside0 (Below wr.heap.size wr W)) : Aside0 (Below w.heap.size w W) := ⟨below_then h.o h.o.size k.o⟩
theorem asleep_bad {c : Cf} {m : List Int} {ws : List S76} {ss : List S68} {k : Nat} (hk : k < ws.length) (h : awB c m k (rd_T76 ws k) = false) : asleepB c m ws ss = false := by
 unfold asleepB
 rw [Bool.and_eq_false_iff]
 right
 rw [List.all_eq_false]
 exact ⟨k, List.mem_range.2 hk, by simp [h]⟩
theorem busy_41 (x : S68) (W : World) (A1 : Option Addr) (c1 : Nat) (h1 : x.f1.length ≤ c1) (h2 : Kd.C (Kd.int .i64) W A1 x.f1.length x.f1) : Calls Tryz.prog 41 #[.agg #[.int .i64 x.f0, .slice A1 x.f1.length c1, .int .i64 x.f2.f0, .int .i64 x.f2.f1, .int .i64 x.f2.f2, .int .u64 x.f2.f3, .int .u64 x.f2.f4, .int .u64 x.f2.f5, .int .i64 x.f2.f6]] W fun e W' => e = .returned (.bool (x.f0 != 0)) ∧ Below W.heap.size W W' :=
 submit_Busy.calls x.f0 A1 c1 x.f1 x.f2.f0 x.f2.f1 x.f2.f2 x.f2.f3 x.f2.f4 x.f2.f5 x.f2.f6 _ W h2 h1 rfl
theorem left_21 (x : S68) (W : World) (A1 : Option Addr) (c1 : Nat) : Calls Tryz.prog 21 #[.agg #[.int .i64 x.f0, .slice A1 x.f1.length c1, .int .i64 x.f2.f0, .int .i64 x.f2.f1, .int .i64 x.f2.f2, .int .u64 x.f2.f3, .int .u64 x.f2.f4, .int .u64 x.f2.f5, .int .i64 x.f2.f6]] W fun e W' => e = .returned (.bool (decide (0 < x.f1.length))) ∧ Below W.heap.size W W' := by
 go_enter Tryz.func21, Tryz.ntmps21
 go_wp2
 go_ret
 first | exact ⟨by simp, below_alloc (Below.refl _ _) _⟩
theorem asleep_19 (c : Cf) (t : List S45) (At : Option Addr) (ct : Nat) (m : List Int) (Am : Option Addr) (cm : Nat) (ws : List S76) (Aw : Option Addr) (cw : Nat) (ss : List S68) (As : Option Addr) (cs_ : Nat) (w : World)
  (h : PRd c t At ct m Am cm ws Aw cw ss As cs_ w) (hp : PMay c t m ws ss) (hwn : ws.length ≤ 1000000) :
  Calls Tryz.prog 19 #[.agg (pC c (.slice At t.length ct) (.slice Am m.length cm) (.slice Aw ws.length cw) (.slice As ss.length cs_))] w fun e w' => e = .returned (.bool (asleepB c m ws ss)) ∧ Below w.heap.size w w' := by
 have HH := qQ h
 have HPM := qQ hp
 have hsl := qQ hp.sl
 have B1 := qQ (below_alloc (Below.refl w.heap.size w) (.cells (pC c (.slice At t.length ct) (.slice Am m.length cm) (.slice Aw ws.length cw) (.slice As ss.length cs_)) 34))
 have X0 := qQ (blk_new w (.cells (pC c (.slice At t.length ct) (.slice Am m.length cm) (.slice Aw ws.length cw) (.slice As ss.length cs_)) 34))
 have x := X0.o
 have x0 := fun j => blk_cell x j
 clear h hp x
 go_enter Tryz.func19, Tryz.ntmps19
 go_wp2_with (first | (go_at_call 17; (with_reducible refine (may_17 c t At ct m Am cm ws Aw cw ss As cs_ _ HPM.o (HH.o.below B1.o) hwn).mono ?_); rintro e w3 ⟨rfl, hb⟩; have B3 := qQ (below_then B1.o B1.o.size hb); have X3 := qQ (blk_below X0.o hb); clear x0; have x0 := fun j => blk_cell X3.o j; clear hb) | (go_at_call 20; (with_reducible refine (contains_68 As cs_ ss 41 (fun s => s.f0 != 0) _ (HH.o.below B3.o).hS (by have := hsl.o; omega) (enters_of Tryz.func41 (by kernel_rfl) rfl) (fun s hs V A1 c1 hV hl hC => busy_41 s V A1 c1 hl hC)).mono ?_); rintro e w4 ⟨rfl, hb⟩; have B4 := qQ (below_then B3.o B3.o.size hb); have X4 := qQ (blk_below X3.o hb); clear x0; have x0 := fun j => blk_cell X4.o j; clear hb; generalize hany : (ss.any fun s => s.f0 != 0) = any_; have HANY := qQ hany; clear hany; cases any_))
 ·go_loopw [16] (fun i wr => ∃ k : Nat, k ≤ ws.length ∧ i = .int .i64 (k : Int) ∧ Aside0 (Below w.heap.size w wr) ∧ Aside0 (wr.heap[w.heap.size]? = some (.cells (pC c (.slice At t.length ct) (.slice Am m.length cm) (.slice Aw ws.length cw) (.slice As ss.length cs_)) 34 (0, 0))) ∧ Aside0 (∀ j, j < k → awB c m j (rd_T76 ws j) = true))
   (fun i _ => ws.length - (intOf i).toNat)
  case atStart => exact ⟨0, by omega, rfl, B4, X4, ⟨fun j hj => by omega⟩⟩
  case round =>
   obtain ⟨k, hk, rfl, HBr, HX0, HAW⟩ := hrel
   clear x0 B4 X4 B3 X3 B1 X0
   by_cases hlt : k < ws.length
   ·have kk : ((k : Int) < (ws.length : Int)) = True := eq_true (by omega)
    have k0 : (0 ≤ (k : Int)) = True := eq_true (by omega)
    have hq := at_T76 (HH.o.below HBr.o).hW (k : Int) (by omega) (by omega)
    obtain ⟨ad, A1, c1, rfl, q0, q1, q2, q3, q4, q5, q6, q7, q8, q9, q10, hl1, hc1⟩ := hq
    have HA := qQ (below_alloc (Below.refl wr.heap.size wr) (.cells #[.int .i64 (rd_T76 ws (k : Int)).f0, (.slice A1 (rd_T76 ws (k : Int)).f1.length c1), .int .i64 (rd_T76 ws (k : Int)).f2.f0, .int .i64 (rd_T76 ws (k : Int)).f2.f1, .int .i64 (rd_T76 ws (k : Int)).f2.f2, .int .u64 (rd_T76 ws (k : Int)).f2.f3, .int .u64 (rd_T76 ws (k : Int)).f2.f4, .int .u64 (rd_T76 ws (k : Int)).f2.f5, .int .i64 (rd_T76 ws (k : Int)).f2.f6, .int .i64 (rd_T76 ws (k : Int)).f3, .int .i64 (rd_T76 ws (k : Int)).f4] 76))
    have HY := qQ (blk_new wr (.cells #[.int .i64 (rd_T76 ws (k : Int)).f0, (.slice A1 (rd_T76 ws (k : Int)).f1.length c1), .int .i64 (rd_T76 ws (k : Int)).f2.f0, .int .i64 (rd_T76 ws (k : Int)).f2.f1, .int .i64 (rd_T76 ws (k : Int)).f2.f2, .int .u64 (rd_T76 ws (k : Int)).f2.f3, .int .u64 (rd_T76 ws (k : Int)).f2.f4, .int .u64 (rd_T76 ws (k : Int)).f2.f5, .int .i64 (rd_T76 ws (k : Int)).f2.f6, .int .i64 (rd_T76 ws (k : Int)).f3, .int .i64 (rd_T76 ws (k : Int)).f4] 76))
    have HC1 := qQ (Kd.C_below (Kd.C_below hc1 HA.o) (below_drew (Below.refl _ _)))
    have HL1 := qQ hl1
    simp only [Int.toNat_natCast] at q0 q1 q2 q3 q4 q5 q6 q7 q8 q9 q10
    have x0 := fun j => blk_cell HX0.o j
    clear hc1 hl1
    go_wp2_with fail
    clear q0 q1 q2 q3 q4 q5 q6 q7 q8 q9 q10 x0
    cases hpb : parkedB (rd_T76 ws (k : Int))
    ·have hps := parked_some (rd_T76 ws (k : Int))
     rw [hpb] at hps
     refine zS 13 [] (fun W' => W'.heap[wr.heap.size]? = some (.cells #[.int .i64 (rd_T76 ws (k : Int)).f0, (.slice A1 (rd_T76 ws (k : Int)).f1.length c1), .int .i64 (rd_T76 ws (k : Int)).f2.f0, .int .i64 (rd_T76 ws (k : Int)).f2.f1, .int .i64 (rd_T76 ws (k : Int)).f2.f2, .int .u64 (rd_T76 ws (k : Int)).f2.f3, .int .u64 (rd_T76 ws (k : Int)).f2.f4, .int .u64 (rd_T76 ws (k : Int)).f2.f5, .int .i64 (rd_T76 ws (k : Int)).f2.f6, .int .i64 (rd_T76 ws (k : Int)).f3, .int .i64 (rd_T76 ws (k : Int)).f4] 76 (0, 0)) ∧ W'.heap[w.heap.size]? = some (.cells (pC c (.slice At t.length ct) (.slice Am m.length cm) (.slice (some ad) ws.length cw) (.slice As ss.length cs_)) 34 (0, 0))) ⟨blk_drew HY.o, blk_drew (blk_below HX0.o HA.o)⟩ fun hHeld => ?_
     refine zT 0 1 21 ?_ (hy := zy9)
     refine zO 1 3 22 fun K hK => ?_
     go_simp
     (with_reducible refine (work_Parked.calls (rd_T76 ws (k : Int)).f0 A1 c1 (rd_T76 ws (k : Int)).f1 (rd_T76 ws (k : Int)).f2.f0 (rd_T76 ws (k : Int)).f2.f1 (rd_T76 ws (k : Int)).f2.f2 (rd_T76 ws (k : Int)).f2.f3 (rd_T76 ws (k : Int)).f2.f4 (rd_T76 ws (k : Int)).f2.f5 (rd_T76 ws (k : Int)).f2.f6 (rd_T76 ws (k : Int)).f3 (rd_T76 ws (k : Int)).f4 _ _ HC1.o HL1.o hps).mono ?_)
     rintro e w5 ⟨rfl, hb⟩
     have Ba := qQ (show Below wr.heap.size wr w5 from below_then (below_drew (below_alloc (Below.refl _ _) _)) (by simp) hb)
     have Y5 := qQ (blk_below (blk_drew HY.o) hb)
     have X5 := qQ (blk_below (blk_drew (blk_below HX0.o HA.o)) hb)
     clear hb
     refine hK.out _ _ ⟨Y5.o, X5.o⟩ (fun hHeld => ?_)
     refine zY 2 7 23 ?_
     refine zY 3 15 24 ?_
     refine pure_ (i := 4) (N := (some 25)) (v := undef) (a' := ?_) (zM 13 31) rfl rfl (by kernel_rfl) (fun _ _ _ h => h) (Or.inr ⟨by rfl, rfl⟩) ?_ ?_
     rotate_left; · simp only [Act.put, List.setIfInBounds_toArray, List.set_cons_zero, List.set_cons_succ, i64_w]; rfl
     refine pure_ (i := 5) (N := (some 26)) (v := undef) (a' := ?_) (zM 13 63) rfl rfl (by kernel_rfl) (fun _ _ _ h => h) (Or.inr ⟨by rfl, rfl⟩) ?_ ?_
     rotate_left; · simp only [Act.put, List.setIfInBounds_toArray, List.set_cons_zero, List.set_cons_succ, i64_w]; rfl
     refine pure_ (i := 6) (N := (some 27)) (v := undef) (a' := ?_) (zM 13 127) rfl rfl (by kernel_rfl) (fun _ _ _ h => h) (Or.inr ⟨by rfl, rfl⟩) ?_ ?_
     rotate_left; · simp only [Act.put, List.setIfInBounds_toArray, List.set_cons_zero, List.set_cons_succ, i64_w]; rfl
     refine pure_ (i := 7) (N := (some 28)) (v := undef) (a' := ?_) (zM 13 255) rfl rfl (by kernel_rfl) (fun _ _ _ h => h) (Or.inr ⟨by rfl, rfl⟩) ?_ ?_
     rotate_left; · simp only [Act.put, List.setIfInBounds_toArray, List.set_cons_zero, List.set_cons_succ, i64_w]; rfl
     refine pure_ (i := 8) (N := (some 29)) (v := undef) (a' := ?_) (zM 13 511) rfl rfl (by kernel_rfl) (fun _ _ _ h => h) (Or.inr ⟨by rfl, rfl⟩) ?_ ?_
     rotate_left; · simp only [Act.put, List.setIfInBounds_toArray, List.set_cons_zero, List.set_cons_succ, i64_w]; rfl
     refine pure_ (i := 9) (N := (some 30)) (v := undef) (a' := ?_) (zM 13 1023) rfl rfl (by kernel_rfl) (fun _ _ _ h => h) (Or.inr ⟨by rfl, rfl⟩) ?_ ?_
     rotate_left; · simp only [Act.put, List.setIfInBounds_toArray, List.set_cons_zero, List.set_cons_succ, i64_w]; rfl
     refine pure_ (i := 10) (N := (some 31)) (v := undef) (a' := ?_) (zM 13 2047) rfl rfl (by kernel_rfl) (fun _ _ _ h => h) (Or.inr ⟨by rfl, rfl⟩) ?_ ?_
     rotate_left; · simp only [Act.put, List.setIfInBounds_toArray, List.set_cons_zero, List.set_cons_succ, i64_w]; rfl
     refine pure_ (i := 11) (N := (some 32)) (v := undef) (a' := ?_) (zM 13 4095) rfl rfl (by kernel_rfl) (fun _ _ _ h => h) (Or.inr ⟨by rfl, rfl⟩) ?_ ?_
     rotate_left; · simp only [Act.put, List.setIfInBounds_toArray, List.set_cons_zero, List.set_cons_succ, i64_w]; rfl
     refine zY 12 8191 33 ?_
     refine zD ?_
     go_wp2
     go_ret
     refine ⟨?_, (below_all HBr Ba).out⟩
     rw [show asleepB c m ws ss = false from asleep_bad hlt (by unfold awB; rw [hpb]; rfl)]
     first | done | rfl
    ·have hps := parked_some (rd_T76 ws (k : Int))
     rw [hpb] at hps
     by_cases hv : loadF m (parkF c k) = 0
     ·have HV := qQ hv
      clear hv
      refine zS 13 [] (fun W' => W'.heap[wr.heap.size]? = some (.cells #[.int .i64 (rd_T76 ws (k : Int)).f0, (.slice A1 (rd_T76 ws (k : Int)).f1.length c1), .int .i64 (rd_T76 ws (k : Int)).f2.f0, .int .i64 (rd_T76 ws (k : Int)).f2.f1, .int .i64 (rd_T76 ws (k : Int)).f2.f2, .int .u64 (rd_T76 ws (k : Int)).f2.f3, .int .u64 (rd_T76 ws (k : Int)).f2.f4, .int .u64 (rd_T76 ws (k : Int)).f2.f5, .int .i64 (rd_T76 ws (k : Int)).f2.f6, .int .i64 (rd_T76 ws (k : Int)).f3, .int .i64 (rd_T76 ws (k : Int)).f4] 76 (0, 0)) ∧ W'.heap[w.heap.size]? = some (.cells (pC c (.slice At t.length ct) (.slice Am m.length cm) (.slice (some ad) ws.length cw) (.slice As ss.length cs_)) 34 (0, 0))) ⟨blk_drew HY.o, blk_drew (blk_below HX0.o HA.o)⟩ fun hHeld => ?_
      refine zT 0 1 21 ?_ (hy := zy9)
      refine zO 1 3 22 fun K hK => ?_
      go_simp
      (with_reducible refine (work_Parked.calls (rd_T76 ws (k : Int)).f0 A1 c1 (rd_T76 ws (k : Int)).f1 (rd_T76 ws (k : Int)).f2.f0 (rd_T76 ws (k : Int)).f2.f1 (rd_T76 ws (k : Int)).f2.f2 (rd_T76 ws (k : Int)).f2.f3 (rd_T76 ws (k : Int)).f2.f4 (rd_T76 ws (k : Int)).f2.f5 (rd_T76 ws (k : Int)).f2.f6 (rd_T76 ws (k : Int)).f3 (rd_T76 ws (k : Int)).f4 _ _ HC1.o HL1.o hps).mono ?_)
      rintro e w5 ⟨rfl, hb⟩
      have Ba := qQ (show Below wr.heap.size wr w5 from below_then (below_drew (below_alloc (Below.refl _ _) _)) (by simp) hb)
      have Y5 := qQ (blk_below (blk_drew HY.o) hb)
      have X5 := qQ (blk_below (blk_drew (blk_below HX0.o HA.o)) hb)
      clear hb
      refine hK.out _ _ ⟨Y5.o, X5.o⟩ (fun hHeld => ?_)
      refine zY 2 7 23 ?_
      refine zY 3 15 24 ?_
      refine zY 4 31 25 ?_
      refine zT 5 63 26 ?_ (hy := zy9)
      refine zY 6 127 27 ?_
      refine zT 7 255 28 ?_ (hy := zy9)
      refine zY 8 511 29 ?_
      refine zO 9 1023 30 fun K hK => ?_
      go_simp
      (with_reducible refine (lay_Park.calls c.w c.d c.i c.s (k : Int) _ _ (park_some c k)).mono ?_)
      rintro e w6 ⟨rfl, hb⟩
      have Bb := qQ (below_then Ba.o Ba.o.size hb)
      have Y6 := qQ (blk_below Y5.o hb)
      have X6 := qQ (blk_below X5.o hb)
      clear hb
      refine hK.out _ _ ⟨Y6.o, X6.o⟩ (fun hHeld => ?_)
      refine zO 10 2047 31 fun K hK => ?_
      go_simp
      (with_reducible refine (Load_calls Am cm m (parkF c k) _ (HH.o.below (below_then HBr.o HBr.o.size Bb.o)).hM HH.o.cM).mono ?_)
      rintro e w7 ⟨rfl, hb⟩
      have hb := hb.below
      have Bc := qQ (below_then Bb.o Bb.o.size hb)
      have Y7 := qQ (blk_below Y6.o hb)
      have X7 := qQ (blk_below X6.o hb)
      clear hb
      refine hK.out _ _ ⟨Y7.o, X7.o⟩ (fun hHeld => ?_)
      have hv := HV.o
      refine zY 11 4095 32 ?_
      refine zY 12 8191 33 ?_
      refine zD ?_
      go_wp2
      clear hv
      go_roundw
      case rel => exact ⟨k + 1, by omega, by simp, below_all HBr Bc, X7, ⟨fun j hj => by
       rcases Nat.lt_or_eq_of_le (Nat.le_of_lt_succ hj) with h1 | h1
       ·exact HAW.o j h1
       ·subst h1; unfold awB; rw [hpb, HV.o]; rfl⟩⟩
      case measure => simp [intOf]; omega
     ·have HV := qQ hv
      clear hv
      refine zS 13 [] (fun W' => W'.heap[wr.heap.size]? = some (.cells #[.int .i64 (rd_T76 ws (k : Int)).f0, (.slice A1 (rd_T76 ws (k : Int)).f1.length c1), .int .i64 (rd_T76 ws (k : Int)).f2.f0, .int .i64 (rd_T76 ws (k : Int)).f2.f1, .int .i64 (rd_T76 ws (k : Int)).f2.f2, .int .u64 (rd_T76 ws (k : Int)).f2.f3, .int .u64 (rd_T76 ws (k : Int)).f2.f4, .int .u64 (rd_T76 ws (k : Int)).f2.f5, .int .i64 (rd_T76 ws (k : Int)).f2.f6, .int .i64 (rd_T76 ws (k : Int)).f3, .int .i64 (rd_T76 ws (k : Int)).f4] 76 (0, 0)) ∧ W'.heap[w.heap.size]? = some (.cells (pC c (.slice At t.length ct) (.slice Am m.length cm) (.slice (some ad) ws.length cw) (.slice As ss.length cs_)) 34 (0, 0))) ⟨blk_drew HY.o, blk_drew (blk_below HX0.o HA.o)⟩ fun hHeld => ?_
      refine zT 0 1 21 ?_ (hy := zy9)
      refine zO 1 3 22 fun K hK => ?_
      go_simp
      (with_reducible refine (work_Parked.calls (rd_T76 ws (k : Int)).f0 A1 c1 (rd_T76 ws (k : Int)).f1 (rd_T76 ws (k : Int)).f2.f0 (rd_T76 ws (k : Int)).f2.f1 (rd_T76 ws (k : Int)).f2.f2 (rd_T76 ws (k : Int)).f2.f3 (rd_T76 ws (k : Int)).f2.f4 (rd_T76 ws (k : Int)).f2.f5 (rd_T76 ws (k : Int)).f2.f6 (rd_T76 ws (k : Int)).f3 (rd_T76 ws (k : Int)).f4 _ _ HC1.o HL1.o hps).mono ?_)
      rintro e w5 ⟨rfl, hb⟩
      have Ba := qQ (show Below wr.heap.size wr w5 from below_then (below_drew (below_alloc (Below.refl _ _) _)) (by simp) hb)
      have Y5 := qQ (blk_below (blk_drew HY.o) hb)
      have X5 := qQ (blk_below (blk_drew (blk_below HX0.o HA.o)) hb)
      clear hb
      refine hK.out _ _ ⟨Y5.o, X5.o⟩ (fun hHeld => ?_)
      refine zY 2 7 23 ?_
      refine zY 3 15 24 ?_
      refine zY 4 31 25 ?_
      refine zT 5 63 26 ?_ (hy := zy9)
      refine zY 6 127 27 ?_
      refine zT 7 255 28 ?_ (hy := zy9)
      refine zY 8 511 29 ?_
      refine zO 9 1023 30 fun K hK => ?_
      go_simp
      (with_reducible refine (lay_Park.calls c.w c.d c.i c.s (k : Int) _ _ (park_some c k)).mono ?_)
      rintro e w6 ⟨rfl, hb⟩
      have Bb := qQ (below_then Ba.o Ba.o.size hb)
      have Y6 := qQ (blk_below Y5.o hb)
      have X6 := qQ (blk_below X5.o hb)
      clear hb
      refine hK.out _ _ ⟨Y6.o, X6.o⟩ (fun hHeld => ?_)
      refine zO 10 2047 31 fun K hK => ?_
      go_simp
      (with_reducible refine (Load_calls Am cm m (parkF c k) _ (HH.o.below (below_then HBr.o HBr.o.size Bb.o)).hM HH.o.cM).mono ?_)
      rintro e w7 ⟨rfl, hb⟩
      have hb := hb.below
      have Bc := qQ (below_then Bb.o Bb.o.size hb)
      have Y7 := qQ (blk_below Y6.o hb)
      have X7 := qQ (blk_below X6.o hb)
      clear hb
      refine hK.out _ _ ⟨Y7.o, X7.o⟩ (fun hHeld => ?_)
      have hv := HV.o
      refine zY 11 4095 32 ?_
      refine zY 12 8191 33 ?_
      refine zD ?_
      go_wp2
      go_ret
      refine ⟨?_, (below_all HBr Bc).out⟩
      rw [show asleepB c m ws ss = false from asleep_bad hlt (by unfold awB; rw [hpb]; simpa using HV.o)]
      first | done | rfl
   ·have kk : ((k : Int) < (ws.length : Int)) = False := eq_false (by omega)
    go_wp2
    go_ret
    refine ⟨?_, HBr.o⟩
    rw [show asleepB c m ws ss = true from by
     unfold asleepB
     rw [HANY.o]
     simp only [Bool.not_false, Bool.true_and, List.all_eq_true, List.mem_range]
     exact fun j hj => HAW.o j (by omega)]
    rfl
 ·go_ret
  refine ⟨?_, B4.o⟩
  rw [show asleepB c m ws ss = false from by unfold asleepB; rw [HANY.o]; rfl]
  rfl
def restedB (c : Cf) (m : List Int) (ws : List S76) (ss : List S68) : Bool := asleepB c m ws ss && ((loadF m 0 == 0) && !(ss.any fun s => decide (0 < s.f1.length)))
theorem rested_10 (c : Cf) (t : List S45) (At : Option Addr) (ct : Nat) (m : List Int) (Am : Option Addr) (cm : Nat) (ws : List S76) (Aw : Option Addr) (cw : Nat) (ss : List S68) (As : Option Addr) (cs_ : Nat) (w : World)
  (h : PRd c t At ct m Am cm ws Aw cw ss As cs_ w) (hp : PMay c t m ws ss) (hwn : ws.length ≤ 1000000) :
  Calls Tryz.prog 10 #[.agg (pC c (.slice At t.length ct) (.slice Am m.length cm) (.slice Aw ws.length cw) (.slice As ss.length cs_))] w fun e w' => e = .returned (.bool (restedB c m ws ss)) ∧ Below w.heap.size w w' := by
 have HH := qQ h
 have HPM := qQ hp
 have hsl := qQ hp.sl
 have B1 := qQ (below_alloc (Below.refl w.heap.size w) (.cells (pC c (.slice At t.length ct) (.slice Am m.length cm) (.slice Aw ws.length cw) (.slice As ss.length cs_)) 34))
 have X0 := qQ (blk_new w (.cells (pC c (.slice At t.length ct) (.slice Am m.length cm) (.slice Aw ws.length cw) (.slice As ss.length cs_)) 34))
 have x := X0.o
 have x0 := fun j => blk_cell x j
 clear h hp x
 go_enter Tryz.func10, Tryz.ntmps10
 go_wp2_with (first | (go_at_call 19; (with_reducible refine (asleep_19 c t At ct m Am cm ws Aw cw ss As cs_ _ (HH.o.below B1.o) HPM.o hwn).mono ?_); rintro e w3 ⟨rfl, hb⟩; have B3 := below_all B1 ⟨hb⟩; have X3 := qQ (blk_below X0.o hb); clear x0; have x0 := fun j => blk_cell X3.o j; clear hb; generalize hA : asleepB c m ws ss = av; have HA := qQ hA; clear hA; cases av) | (go_at_call 7; (with_reducible refine (Load_calls Am cm m 0 _ (HH.o.below B3.o).hM HH.o.cM).mono ?_); rintro e w4 ⟨rfl, hb⟩; have hb := hb.below; have B4 := below_all B3 ⟨hb⟩; have X4 := qQ (blk_below X3.o hb); clear x0; have x0 := fun j => blk_cell X4.o j; clear hb; by_cases hv : loadF m 0 = 0) | (go_at_call 20; (with_reducible refine (contains_68 As cs_ ss 21 (fun s => decide (0 < s.f1.length)) _ (HH.o.below B4.o).hS (by have := hsl.o; omega) (enters_of Tryz.func21 (by kernel_rfl) rfl) (fun s hs V A1 c1 hV hl hC => left_21 s V A1 c1)).mono ?_); rintro e w5 ⟨rfl, hb⟩; have B5 := below_all B4 ⟨hb⟩; clear x0 hb))
 ·go_ret
  refine ⟨?_, B3.o⟩
  rw [show restedB c m ws ss = false from by unfold restedB; rw [HA.o]; rfl]
  rfl
 ·go_ret
  refine ⟨?_, B5.o⟩
  rw [show restedB c m ws ss = !(ss.any fun s => decide (0 < s.f1.length)) from by unfold restedB; rw [HA.o, hv]; rfl]
  first | rfl | simp
 ·go_ret
  refine ⟨?_, B4.o⟩
  rw [show restedB c m ws ss = false from by unfold restedB; rw [HA.o]; simp [hv]]
  first | rfl | simp
def idxG (r : Int) : List Int → Nat → Int
 | [], _ => -1
 | x :: l, i => if r = x then (i : Int) else idxG r l (i + 1)
def idxF (l : List Int) (r : Int) : Int := idxG r l 0
theorem w64_succ (i : Nat) (h : i ≤ 100000000) : wrap64 ((i : Int) + 1) = ((i + 1 : Nat) : Int) := by
 unfold wrap64; omega
theorem rd_drop {l : List Int} {i : Nat} (h : i < l.length) : l.drop i = rd l (i : Int) :: l.drop (i + 1) := by
 rw [List.drop_eq_getElem_cons h]
 congr 1
 simp [rd, List.getD_eq_getElem?_getD, List.getElem?_eq_getElem h]
theorem index_l0 (l : List Int) (r : Int) (hn : l.length ≤ 1000000) : ∀ (n i : Nat), l.length - i = n → i ≤ l.length → slices_Index_int_int.l0 (n + 1) l r (l.length : Int) (i : Int) = some (idxG r (l.drop i) i)
 | 0, i, h, hi => by
  have : i = l.length := by omega
  subst this
  simp [slices_Index_int_int.l0, idxG]
 | n + 1, i, h, hi => by
  have hlt : i < l.length := by omega
  rw [slices_Index_int_int.l0, if_pos (by omega), if_pos (by omega), if_pos (by omega), rd_drop hlt, idxG]
  split
  ·rfl
  ·rw [w64_succ i (by omega)]
   exact index_l0 l r hn n (i + 1) (by omega) (by omega)
theorem index_some (l : List Int) (r : Int) (hn : l.length ≤ 1000000) : slices_Index_int_int.f (l.length + 1) l r = some (idxF l r) := by
 have := index_l0 l r hn l.length 0 (by omega) (by omega)
 simpa [slices_Index_int_int.f, idxF] using this
theorem idxG_ge (r : Int) : ∀ (l : List Int) (i : Nat), idxG r l i = -1 ∨ ∃ k : Nat, idxG r l i = (k : Int) ∧ i ≤ k ∧ k < i + l.length
 | [], _ => Or.inl rfl
 | x :: l, i => by
  rw [idxG]
  split
  ·exact Or.inr ⟨i, rfl, Nat.le_refl _, by simp⟩
  ·rcases idxG_ge r l (i + 1) with h | ⟨k, h, h1, h2⟩
   ·exact Or.inl h
   ·exact Or.inr ⟨k, h, by omega, by simp; omega⟩
theorem idx_or (l : List Int) (r : Int) : idxF l r = -1 ∨ ∃ k : Nat, idxF l r = (k : Int) ∧ k < l.length := by
 rcases idxG_ge r l 0 with h | ⟨k, h, _, h2⟩
 ·exact Or.inl h
 ·exact Or.inr ⟨k, h, by omega⟩
def zerosF (c : Cf) : List Int := List.replicate (sizeF c).toNat 0
theorem zeros_l0 (N : Nat) (hN : N ≤ 100000) : ∀ (n i : Nat), N - i = n → i ≤ N → lay_New.l0 (n + 1) (List.replicate i 0) (N : Int) (i : Int) = some (List.replicate N 0)
 | 0, i, h, hi => by
  have : i = N := by omega
  subst this
  simp [lay_New.l0]
 | n + 1, i, h, hi => by
  rw [lay_New.l0, if_pos (by omega), if_pos (by simp; omega), w64_succ i (by omega), show List.replicate i (0 : Int) ++ [0] = List.replicate (i + 1) 0 by rw [List.replicate_succ']]
  exact zeros_l0 N hN n (i + 1) (by omega) (by omega)
theorem zeros_some (c : Cf) (h0 : 0 ≤ sizeF c) (h1 : sizeF c ≤ 100000) : lay_New.f ((sizeF c).toNat + 1) c.w c.d c.i c.s = some (zerosF c) := by
 unfold lay_New.f
 rw [size_some, Option.bind_some]
 have := zeros_l0 (sizeF c).toNat (by omega) (sizeF c).toNat 0 (by omega) (by omega)
 rw [show (((sizeF c).toNat : Nat) : Int) = sizeF c by omega] at this
 simpa [zerosF] using this
def rootsG (t : List S45) : Nat → Nat → List Int
 | 0, _ => []
 | n + 1, i => (if parentF t (i : Int) = -1 then [(i : Int)] else []) ++ rootsG t n (i + 1)
def rootsF (t : List S45) : List Int := rootsG t t.length 0
theorem roots_l0 (t : List S45) (hn : t.length ≤ 1000000) : ∀ (n i : Nat) (acc : List Int), t.length - i = n → i ≤ t.length → acc.length ≤ i → forest_Roots.l0 (n + 1) t acc (t.length : Int) (i : Int) = some (acc ++ rootsG t n i)
 | 0, i, acc, h, hi, ha => by
  have : i = t.length := by omega
  subst this
  simp [forest_Roots.l0, rootsG]
 | n + 1, i, acc, h, hi, ha => by
  rw [forest_Roots.l0, if_pos (by omega), forest_Parent.f, if_pos hn, Option.bind_some, w64_succ i (by omega), rootsG]
  by_cases hp : parentF t (i : Int) = -1
  ·rw [if_pos hp, if_pos (by omega), if_pos hp, roots_l0 t hn n (i + 1) (acc ++ [(i : Int)]) (by omega) (by omega) (by simp; omega), List.append_assoc]
  ·rw [if_neg hp, if_neg hp, roots_l0 t hn n (i + 1) acc (by omega) (by omega) (by omega), List.nil_append]
theorem roots_some (t : List S45) (hn : t.length ≤ 1000000) (hf : forestB t = true) : forest_Roots.f (t.length + 1) t = some (rootsF t) := by
 unfold forest_Roots.f
 rw [show forest_May.f t = some true by unfold forest_May.f; simp [hf, hn], Option.bind_some, if_pos rfl]
 have := roots_l0 t hn t.length 0 [] (by omega) (by omega) (by simp)
 simpa [rootsF] using this
theorem rootsG_lt (t : List S45) : ∀ (n i : Nat), (∀ r ∈ rootsG t n i, (i : Int) ≤ r ∧ r < ((i + n : Nat) : Int)) ∧ (rootsG t n i).length ≤ n
 | 0, i => by simp [rootsG]
 | n + 1, i => by
  obtain ⟨h1, h2⟩ := rootsG_lt t n (i + 1)
  rw [rootsG]
  split
  ·refine ⟨fun r hr => ?_, by simp; omega⟩
   rcases List.mem_append.1 hr with hr | hr
   ·rw [List.mem_singleton.1 hr]; omega
   ·have := h1 r hr; omega
  ·refine ⟨fun r hr => ?_, by simp; omega⟩
   have := h1 r (by simpa using hr); omega
def newW (i : Int) : S76 := ⟨0, [], ⟨1, 0, i, 0, 0, 0, 0⟩, 0, 0⟩
def newS (l : List Int) : S68 := ⟨0, l, ⟨0, 0, 0, 0, 0, 0, 0⟩⟩
theorem newW_some (i : Int) : work_New.f i = some (0, [], 1, 0, i, 0, 0, 0, 0, 0, 0) := rfl
theorem newS_some (l : List Int) (h : l.length ≤ 1000000) : submit_New.f l = some (0, l, 0, 0, 0, 0, 0, 0, 0) := by
 unfold submit_New.f slices_Clone_int_int.f
 simp [h]
def takeR : List Int → List Int → Option (List Int)
 | left, [] => some left
 | left, r :: l => if idxF left r < 0 then none else takeR (left.eraseIdx (idxF left r).toNat) l
def takeAll : List Int → List (List Int) → Option (List Int)
 | left, [] => some left
 | left, l :: r => (takeR left l).bind fun left' => takeAll left' r
def newF (c : Cf) (t : List S45) (roots : List (List Int)) : Option (List Int × List S76 × List S68) :=
 if mayB c = true ∧ forestB t = true ∧ roots.length ≤ 3 then (takeAll (rootsF t) roots).map fun _ => (zerosF c, (List.range c.w.toNat).map (fun i : Nat => newW (i : Int)), roots.map newS) else none
end Go.Proofs.YthoeodjgfelkhaaGreat.QT
