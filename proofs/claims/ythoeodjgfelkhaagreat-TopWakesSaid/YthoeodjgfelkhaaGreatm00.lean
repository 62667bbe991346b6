/- Part 0 of the claim on TopWakes: word.Lowest. No condition. -/
import Derived.RangeFuncNested
import Derived.RangeFuncBound
import Derived.RangeFuncCalls
import Derived.RangeFuncLeaves
import Derived.Shelf.Abstract
import Derived.Shelf.RegionOpen
import Derived.WalkKit
import Derived.OwnWalkIn
import Derived.TacticsInMore
import Derived.LoopNIn
import Derived.LoopIn
import Derived.Lib.Hide
import Derived.Test.YthoeodjgfelkhaaGreatProg
set_option linter.unusedVariables false
set_option linter.unusedSimpArgs false
set_option maxRecDepth 100000
set_option maxHeartbeats 8000000
namespace Go.Proofs
open Go.RowKit Go.Shelf
attribute [local go_sem] Oper.semAt_some
theorem Tryz.cell_new_l (W : World) (v : Value) (t : TypeId) : (W.alloc (.cells #[v] t)).cell? ⟨W.heap.size, 0, none⟩ = some v ∧ (W.alloc (.cells #[v] t)).frozen? ⟨W.heap.size, 0, none⟩ = false := by simp
theorem Tryz.cell_alloc_l {W : World} {a : Addr} {v : Value} (o : Obj) (h : W.cell? a = some v) : (W.alloc o).cell? a = some v := cell_kept h (World.grownBy_alloc W o none) (fun r e => by cases e)
theorem Tryz.frozen_alloc_l {W : World} {a : Addr} {v : Value} (o : Obj) (h : W.cell? a = some v) (hf : W.frozen? a = false) : (W.alloc o).frozen? a = false := (frozen_kept h (World.grownBy_alloc W o none) (fun r e => by cases e)).trans hf
def Tryz.bitAt (m : Int) (k : Nat) : Bool := Go.bits .and .u64 (m / 2 ^ k) 1 == 1
def Tryz.bitsTo (m : Int) (k : Nat) : List Nat := (List.range k).filter (Tryz.bitAt m)
theorem Tryz.bitsTo_succ (m : Int) (k : Nat) : Tryz.bitsTo m (k + 1) = if Go.bits .and .u64 (m / 2 ^ k) 1 = 1 then Tryz.bitsTo m k ++ [k] else Tryz.bitsTo m k := by
 unfold Tryz.bitsTo
 rw [List.range_succ, List.filter_append]
 by_cases h : Go.bits .and .u64 (m / 2 ^ k) 1 = 1
 ·have : Tryz.bitAt m k = true := by unfold Tryz.bitAt; rw [h]; rfl
  simp [h, this]
 ·have : Tryz.bitAt m k = false := by unfold Tryz.bitAt; exact beq_eq_false_iff_ne.2 h
  simp [h, this]
theorem Tryz.bitsTo_len (m : Int) (k : Nat) : (Tryz.bitsTo m k).length ≤ k := by
 have := List.length_filter_le (Tryz.bitAt m) (List.range k)
 simpa [Tryz.bitsTo] using this
theorem Tryz.bits1_in (F : Fence) (n : Nat) (h30 : F.fn 185) (hro : F.round = none) (hn : 1 ≤ n) (l Bm n₀ : Nat) (hb : Bm < n₀) (m : Int) (J Jx : List Nat → World → Prop)
  (hY : ∀ pre x W, J pre W → pre.length < 16 → YieldAt F (n - 1) Tryz.prog l #[.int .i64 (x : Nat)] W fun e W' =>
   (e = .returned (.bool true) ∧ J (pre ++ [x]) W' ∧ Below n₀ W W') ∨ (e = .returned (.bool false) ∧ Jx (pre ++ [x]) W'))
  (W : World) (hBm : W.cell? ⟨Bm, 0, none⟩ = some (.int .u64 m)) (h0 : J [] W) :
  CallsIn F n Tryz.prog 185 #[.func (.yield l) #[] #[], .pointer (some ⟨Bm, 0, none⟩)] W fun e W' => (∃ v, e = .returned v) ∧
   ((∃ ys, ys = Tryz.bitsTo m 16 ∧ J ys W') ∨ (∃ pre, (∃ k, k ≤ 16 ∧ pre = Tryz.bitsTo m k) ∧ Jx pre W')) := by
 refine callsIn_of_wp Tryz.func185 rfl h30 ?_ hro
 simp only [Tryz.ntmps185, List.size_toArray, List.length_cons, List.length_nil, Nat.reduceAdd, Nat.reduceSub, Array.replicate_succ, Array.replicate_zero, List.push_toArray, List.append_toArray, List.nil_append, List.cons_append]
 gi_wp2
 gi_loopw [4] (fun i wr => ∃ k : Nat, k ≤ 16 ∧ i = .int .i64 k ∧ J (Tryz.bitsTo m k) wr ∧ Below n₀ W wr)
  (fun i _ => 16 - (intOf i).toNat)
 case atStart => exact ⟨0, Nat.zero_le _, rfl, h0, Below.refl _ _⟩
 case round =>
  obtain ⟨k, hk, rfl, hJs, hnx⟩ := hrel
  have hcx : wr.cell? ⟨Bm, 0, none⟩ = some (.int .u64 m) := (hnx.cell (p := ⟨Bm, 0, none⟩) hb).trans hBm
  by_cases hlt : k < 16
  ·obtain ⟨fn, tmps, assign, body, hy, hR⟩ := hY _ k wr hJs (Nat.lt_of_le_of_lt (Tryz.bitsTo_len m k) hlt)
   try dsimp only at hy
   have hsucc := Tryz.bitsTo_succ m k
   by_cases hbit : Go.bits .and .u64 (m / 2 ^ k) 1 = 1
   ·rw [if_pos hbit] at hsucc
    have HS := Lib.hid hsucc
    clear hsucc
    gi_wp2
    refine hR.mono ?_
    rintro e W3 (⟨rfl, hJ3, hk3⟩ | ⟨rfl, hJx3⟩)
    ·gi_wp2
     go_roundw
     case rel => exact ⟨k + 1, by omega, by simp, by rw [HS.out]; exact hJ3, hnx.trans hk3⟩
     case measure => simp [intOf]; omega
    ·gi_wp2
     refine bodyPost_ret (results_none rfl _ _ _) rfl ?_
     exact ⟨⟨_, rfl⟩, .inr ⟨_, ⟨k + 1, by omega, HS.out.symm⟩, hJx3⟩⟩
   ·rw [if_neg hbit] at hsucc
    have HS := Lib.hid hsucc
    clear hsucc
    gi_wp2
    refine ⟨fun _ h => (by cases h), ?_⟩
    gi_wp2
    go_roundw
    case rel => exact ⟨k + 1, by omega, by simp, by rw [HS.out]; exact hJs, hnx⟩
    case measure => simp [intOf]; omega
  ·obtain rfl : k = 16 := by omega
   gi_wp2
   go_end0
   exact ⟨⟨_, rfl⟩, .inl ⟨_, rfl, hJs⟩⟩
theorem Tryz.bits_in (F : Fence) (n : Nat) (h29 : F.fn 169) (hro : F.round = none) (m : Int) (w : World) :
  CallsIn F n Tryz.prog 169 #[.int .u64 m] w fun e w' => e = .returned (.func (.func 185) #[] #[.pointer (some ⟨w.heap.size, 0, none⟩)]) ∧ w' = w.alloc (.cells #[.int .u64 m] 38) := by
 refine callsIn_of_wp Tryz.func169 rfl h29 ?_ hro
 simp only [Tryz.ntmps169, List.size_toArray, List.length_cons, List.length_nil, Nat.reduceAdd, Nat.reduceSub, Array.replicate_succ, Array.replicate_zero, List.push_toArray, List.append_toArray, List.nil_append, List.cons_append]
 gi_wp2
 go_ret
 exact ⟨rfl, rfl⟩
theorem Tryz.bits_stops (F : Fence) (n : Nat) (h30 : F.fn 185) (hro : F.round = none) (hn : 1 ≤ n) (Bm n₀ : Nat) (hb : Bm < n₀) (m : Int) (w : World) (hn₀ : n₀ ≤ w.heap.size) (hBm : w.cell? ⟨Bm, 0, none⟩ = some (.int .u64 m)) :
  SeqStopsK F n Tryz.prog 185 #[.pointer (some ⟨Bm, 0, none⟩)] (fun x : Nat => #[Value.int .i64 (x : Nat)]) (Below n₀) (fun ys => ys = Tryz.bitsTo m 16) (fun pre => ∃ k, k ≤ 16 ∧ pre = Tryz.bitsTo m k) 16 w := fun l J Jx W hW _ _ hY h0 =>
 Tryz.bits1_in F n h30 hro hn l Bm n₀ hb m J Jx hY W ((hW.cell (p := ⟨Bm, 0, none⟩) (by simp; omega)).trans hBm) h0
def Tryz.lowest (m : Int) : Int := match Tryz.bitsTo m 16 with | [] => -1 | x :: _ => x
theorem Tryz.bitsTo_mono (m : Int) (j : Nat) : ∀ k, ∃ r, Tryz.bitsTo m (k + j) = Tryz.bitsTo m k ++ r := by
 intro k
 induction j with
 | zero => exact ⟨[], by simp⟩
 | succ j ih =>
  obtain ⟨r, hr⟩ := ih
  rw [← Nat.add_assoc, Tryz.bitsTo_succ]
  by_cases h : Go.bits .and .u64 (m / 2 ^ (k + j)) 1 = 1
  ·rw [if_pos h, hr]; exact ⟨r ++ [k + j], by simp⟩
  ·rw [if_neg h, hr]; exact ⟨r, rfl⟩
theorem Tryz.lowest_of (m : Int) (k x : Nat) (hk : k ≤ 16) (h : Tryz.bitsTo m k = [x]) : Tryz.lowest m = x := by
 obtain ⟨r, hr⟩ := Tryz.bitsTo_mono m (16 - k) k
 rw [show k + (16 - k) = 16 from by omega, h] at hr
 rw [Tryz.lowest, hr]; rfl
theorem Tryz.Lowest_in (F : Fence) (n : Nat) (h21 : F.fn 144) (h29 : F.fn 169) (h30 : F.fn 185) (hro : F.round = none) (hn : 3 ≤ n) (m : Int) (w : World) :
  CallsIn F n Tryz.prog 144 #[.int .u64 m] w fun e W' => e = .returned (.int .i64 (Tryz.lowest m)) ∧ Below w.heap.size w W' := by
 have h1 : 1 ≤ n := by omega
 refine callsIn_of_wp_marks Tryz.func144 rfl h21 ?_ hro
 simp only [Tryz.ntmps144, List.size_toArray, List.length_cons, List.length_nil, Nat.reduceAdd, Nat.reduceSub, Array.replicate_succ, Array.replicate_zero, List.push_toArray, List.append_toArray, List.nil_append, List.cons_append]
 gi_wp2_with (gi_at_call 169; refine (Tryz.bits_in F (n - 1) h29 hro _ _).mono ?_; rintro e w' ⟨rfl, rfl⟩)
 have c0 := Tryz.cell_new_l w (.int .i64 0) 3
 have c1 := Tryz.cell_new_l (w.alloc (.cells #[.int .i64 0] 3)) (.int .u64 m) 38
 rw [World.size_alloc] at c1
 have hB0 : Below w.heap.size w ((w.alloc (.cells #[.int .i64 0] 3)).alloc (.cells #[.int .u64 m] 38)) := ((Below.refl _ w).alloc (Nat.le_refl _) _).alloc (by simp) _
 refine wpIn_rangeFunc_ownF hro h1 (gf := 185) (lb := #[.pointer (some ⟨w.heap.size + 1, 0, none⟩)]) rfl h30 (enters_of Tryz.func185 (by kernel_rfl) rfl)
  (Tryz.bits_stops F (n - 1) h30 hro (by omega) (w.heap.size + 1) (w.heap.size + 2) (by omega) m _ (by simp) c1.1) belowK_t (belowK_b (by simp)) (Below.refl _ _) (fun _ => rfl)
  (fun pre W => (pre = [] ∧ W.cell? ⟨w.heap.size, 0, none⟩ = some (.int .i64 0) ∧ W.frozen? ⟨w.heap.size, 0, none⟩ = false) ∧ Below w.heap.size w W)
  (fun c pre W => (c = .ret ∧ ∃ x : Nat, pre = [x] ∧ W.cell? ⟨w.heap.size, 0, none⟩ = some (.int .i64 x)) ∧ Below w.heap.size w W)
  (OwnFrom.and (Own.from (fun s A B row hs hg hr => ⟨hs.1, cell_kept hs.2.1 hg hr, (frozen_kept hs.2.1 hg hr).trans hs.2.2⟩) _) (ownFrom_below (Nat.le_refl _) (by simp; omega)))
  (fun c => OwnFrom.and (Own.from (fun s A B row hs hg hr => by obtain ⟨e, x, hx, hc⟩ := hs; exact ⟨e, x, hx, cell_kept hc hg hr⟩) _) (ownFrom_below (Nat.le_refl _) (by simp; omega)))
  ⟨⟨rfl, Tryz.cell_alloc_l _ c0.1, Tryz.frozen_alloc_l _ c0.1 c0.2⟩, hB0⟩
  (fun x => { tmps := #[.int .u64 m, undef, .pointer (some ⟨w.heap.size, 0, none⟩), .int .i64 (x : Nat), .int .u64 m, .func (.func 185) #[] #[.pointer (some ⟨w.heap.size + 1, 0, none⟩)], .int .i64 (x : Nat), undef], defers := [] }) ?assign ?body ?done ?stop
 case assign =>
  intro l x W K hK
  gi_wp2
  exact hK
 case body =>
  rintro l pre x W ⟨⟨rfl, hc, hf⟩, hB⟩ _
  gi_wp2
  exact ⟨KeepsOthers.setCell _ _ _, ⟨rfl, x, rfl, World.cell?_setCell_same' _ _ _ (by rw [hc]; rfl)⟩, hB.setCell (p := ⟨w.heap.size, 0, none⟩) (Nat.le_refl _) _⟩
 case done =>
  rintro D ys W hD hys ⟨⟨rfl, hc, hf⟩, hB⟩ hK
  gi_wp2
  have hK' := (KeepsOthers.setCell W ⟨w.heap.size, 0, none⟩ (.int .i64 (-1))).same D _ hK rfl
  refine ⟨by simp, .inl ⟨_, _, rfl, run_takeDeferred hK', ?_⟩⟩
  have hc5 := cell_kept (World.cell?_setCell_same' W ⟨w.heap.size, 0, none⟩ (.int .i64 (-1)) (by rw [hc]; rfl)) (grownBy_putObj' _ D (.deferred none)) (fun r e => by cases e; exact ⟨_, hK', rfl⟩)
  refine ⟨.int .i64 (-1), ?_, by rw [Tryz.lowest, ← hys], (hB.setCell (p := ⟨w.heap.size, 0, none⟩) (Nat.le_refl _) _).trans (belowK_b (w := w) (Nat.le_refl _) _ D _ _ (by simp at hD; omega) hK' rfl rfl)⟩
  simp [results, Tryz.f144, go_sem, hc5]
 case stop =>
  rintro D c pre W hD ⟨k, hk, hpre⟩ ⟨⟨rfl, x, rfl, hc⟩, hB⟩ hK
  gi_wp2
  refine ⟨by simp, .inl ⟨_, _, rfl, run_takeDeferred hK, ?_⟩⟩
  have hc5 := cell_kept hc (grownBy_putObj' _ D (.deferred none)) (fun r e => by cases e; exact ⟨_, hK, rfl⟩)
  refine ⟨.int .i64 (x : Nat), ?_, by rw [Tryz.lowest_of m k x hk hpre.symm], hB.trans (belowK_b (w := w) (Nat.le_refl _) W D _ _ (by simp at hD; omega) hK rfl rfl)⟩
  simp [results, Tryz.f144, go_sem, hc5]
theorem Tryz.Lowest_calls (m : Int) (w : World) :
  Calls Tryz.prog 144 #[.int .u64 m] w fun e W' => e = .returned (.int .i64 (Tryz.lowest m)) ∧ Below w.heap.size w W' :=
 callsIn_wide.1 (Tryz.Lowest_in Fence.wide 3 (by trivial) (by trivial) (by trivial) rfl (by omega) m w)
end Go.Proofs
