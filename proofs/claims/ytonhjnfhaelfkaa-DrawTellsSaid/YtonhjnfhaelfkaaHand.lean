/- What slices.Chunk hands on, three at a time, at bytes. Condition: at most 100000 bytes. -/
import Derived.RangeFuncNested
import Derived.RangeFuncBound
import Derived.RangeFuncCalls
import Derived.RangeFuncLeaves
import Derived.RangeFuncBox
import Derived.Shelf.Abstract
import Derived.Shelf.RegionOpen
import Derived.WalkKit
import Derived.OwnWalkIn
import Derived.TacticsInMore
import Derived.LoopNIn
import Derived.LoopIn
import Derived.Lib.Hide
import Derived.WalkSpells
import Derived.WalkLawsBesides
import Derived.Test.YtonhjnfhaelfkaaProg
import Derived.Test.YtonhjnfhaelfkaaBridge
import Derived.Test.YtonhjnfhaelfkaaWMore
set_option linter.unusedVariables false
set_option linter.unusedSimpArgs false
namespace Go.Proofs.YtonhjnfhaelfkaaHand
open Go Go.Proofs Go.RowKit Go.Proofs.YtonhjnfhaelfkaaBridge Go.Shelf Go.Proofs.YtonhjnfhaelfkaaW.PrintWords Go.Proofs.YtonhjnfhaelfkaaW.PrintLast Go.Proofs.YtonhjnfhaelfkaaW.PrintMore
attribute [local go_sem] Oper.semAt_some max2_int min2_int max_two min_two max_three min_three max_four min_four

theorem cell_new_l (W : World) (v : Value) (t : TypeId) : (W.alloc (.cells #[v] t)).cell? ⟨W.heap.size, 0, none⟩ = some v ∧ (W.alloc (.cells #[v] t)).frozen? ⟨W.heap.size, 0, none⟩ = false := by simp
theorem cell_alloc_l {W : World} {a : Addr} {v : Value} (o : Obj) (h : W.cell? a = some v) : (W.alloc o).cell? a = some v := cell_kept h (World.grownBy_alloc W o none) (fun r e => by cases e)
theorem frozen_alloc_l {W : World} {a : Addr} {v : Value} (o : Obj) (h : W.cell? a = some v) (hf : W.frozen? a = false) : (W.alloc o).frozen? a = false := (frozen_kept h (World.grownBy_alloc W o none) (fun r e => by cases e)).trans hf

theorem block_lt {W : World} {a : Addr} {v : Value} (h : W.cell? a = some v) : a.block < W.heap.size := by
  obtain ⟨o, ho, _⟩ := cells_of_cell h
  exact (Array.getElem?_eq_some_iff.1 ho).1

/-- A chunk's number, in a slice of so many bytes. -/
abbrev Ch (len : Nat) := { x : Nat // 3 * x < len }
def chunksTo (len k : Nat) : List (Ch len) := (List.range k).filterMap fun x => if h : 3 * x < len then some ⟨x, h⟩ else none
theorem chunksTo_succ {len k : Nat} (h : 3 * k < len) : chunksTo len (k + 1) = chunksTo len k ++ [⟨k, h⟩] := by
  simp [chunksTo, List.range_succ, List.filterMap_append, h]
theorem chunksTo_len (len k : Nat) : (chunksTo len k).length ≤ k := by
  have := List.length_filterMap_le (fun x => if h : 3 * x < len then some (⟨x, h⟩ : Ch len) else none) (List.range k)
  simpa [chunksTo] using this
/-- The chunk as a value. -/
def chunkV (ad : Addr) (len x : Nat) : Value := .slice (some (ad.add (3 * x))) (min 3 (len - 3 * x)) (min 3 (len - 3 * x))

theorem run_from (ad : Addr) (len cap k : Nat) (i : Int) (hi : i = (k : Int)) (h1 : k ≤ len) (h2 : k < cap) (w : World) :
    (Instr.slice 22 (.slice (some ad) len cap) (some (.int .i64 i)) none none).run Try.prog w = .ok (.slice (some (ad.add k)) (len - k) (cap - k)) w := by
  subst hi
  have hz : ¬ cap = k := by omega
  have hs : (sizeOf 5).run Try.prog w = .ok 1 w := by kernel_rfl
  simp [Instr.slice, Instr.sliceBounds, run_underlying Try.underlying22, go_sem, h1, hz, hs]
theorem run_cut (ad : Addr) (len cap k m : Nat) (i j : Int) (hi : i = (k : Int)) (hj : j = ((k + m : Nat) : Int)) (h2 : k + m ≤ cap) (h3 : 0 < m) (w : World) :
    (Instr.slice 22 (.slice (some ad) len cap) (some (.int .i64 i)) (some (.int .i64 j)) (some (.int .i64 j))).run Try.prog w = .ok (.slice (some (ad.add k)) m m) w := by
  have hz : ¬ k + m = k := by omega
  have hs : (sizeOf 5).run Try.prog w = .ok 1 w := by kernel_rfl
  have h0 : 0 ≤ j := by omega
  have h1 : j ≤ (cap : Int) := by omega
  have h4 : j ≤ max j 0 := Int.le_max_left _ _
  have h5 : j.toNat = k + m := by omega
  have h6 : (k : Int) ≤ max j 0 := by omega
  have h7 : j ≤ (k : Int) + (m : Int) := by omega
  have h8 : ¬ m = 0 := by omega
  subst hi
  clear hj
  simp [Instr.slice, Instr.sliceBounds, run_underlying Try.underlying22, go_sem, h0, h1, h4, h5, h6, h7, h8, hz, hs]

/-- Two boxes hold what they held. -/
def Keep2 (Bs Bn : Nat) (W W' : World) : Prop := W'.cell? ⟨Bs, 0, none⟩ = W.cell? ⟨Bs, 0, none⟩ ∧ W'.cell? ⟨Bn, 0, none⟩ = W.cell? ⟨Bn, 0, none⟩
theorem Keep2.trans {Bs Bn : Nat} {A B C : World} (h : Keep2 Bs Bn A B) (k : Keep2 Bs Bn B C) : Keep2 Bs Bn A C := ⟨k.1.trans h.1, k.2.trans h.2⟩
theorem Keep2.drew {Bs Bn : Nat} {A B : World} (h : Keep2 Bs Bn A B) : Keep2 Bs Bn A B.drew := h
theorem Keep2.put {Bs Bn : Nat} {w W : World} (h1 : Bs < w.heap.size) (h2 : Bn < w.heap.size) {l : Nat} {o : Obj} (o' : Obj) (hl : w.heap.size ≤ l) (hW : W.heap[l]? = some o) : Keep2 Bs Bn W (W.putObj l o') := by
  have hlt : l < W.heap.size := (Array.getElem?_eq_some_iff.1 hW).1
  constructor <;> simp only [World.cell?] <;> rw [World.putObj_heap_other (by omega)]

set_option maxRecDepth 100000 in
set_option maxHeartbeats 2000000 in
theorem chunk1_in (n : Nat) (l Bs Bn : Nat) (A : Option Addr) (ad : Addr) (len cap : Nat) (hA : 0 < len → A = some ad) (hlen : len ≤ 100000) (hcap : len ≤ cap) (J Jx : List (Ch len) → World → Prop) (hJ : ∀ s W, J s W → J s W.drew)
    (hY : ∀ pre x W, J pre W → pre.length < len → YieldAt (wideAt none) (n - 1) Try.prog l #[chunkV ad len x.1] W fun e W' =>
      (e = .returned (.bool true) ∧ J (pre ++ [x]) W' ∧ Keep2 Bs Bn W W') ∨ (e = .returned (.bool false) ∧ Jx (pre ++ [x]) W'))
    (W : World) (hBs : W.cell? ⟨Bs, 0, none⟩ = some (.slice A len cap)) (hBn : W.cell? ⟨Bn, 0, none⟩ = some (.int .i64 3)) (h0 : J [] W) :
    CallsIn (wideAt none) n Try.prog 28 #[.func (.yield l) #[] #[], .pointer (some ⟨Bs, 0, none⟩), .pointer (some ⟨Bn, 0, none⟩)] W fun e W' => (∃ v, e = .returned v) ∧
      ((∃ ys, (∃ k, len ≤ 3 * k ∧ ys = chunksTo len k) ∧ J ys W') ∨ (∃ pre, (∃ k, pre = chunksTo len k) ∧ Jx pre W')) := by
  refine callsIn_of_wp Try.func28 rfl trivial ?_ rfl
  simp only [Try.ntmps28, List.size_toArray, List.length_cons, List.length_nil, Nat.reduceAdd, Nat.reduceSub, Array.replicate_succ, Array.replicate_zero, List.push_toArray, List.append_toArray, List.nil_append, List.cons_append]
  gi_wp2
  gi_loopw [4] (fun i wr => ∃ k : Nat, 3 * k < len + 3 ∧ i = .int .i64 ((3 * k : Nat) : Int) ∧ J (chunksTo len k) wr ∧ Keep2 Bs Bn W wr)
    (fun i _ => len + 3 - (intOf i).toNat)
  case atStart => exact ⟨0, by omega, rfl, h0, rfl, rfl⟩
  case round =>
    obtain ⟨k, hk, rfl, hJs, hnx⟩ := hrel
    have hcs : wr.cell? ⟨Bs, 0, none⟩ = some (.slice A len cap) := hnx.1.trans hBs
    have hcn : wr.cell? ⟨Bn, 0, none⟩ = some (.int .i64 3) := hnx.2.trans hBn
    by_cases hlt : 3 * k < len
    · rw [hA (by omega)] at hcs
      obtain ⟨fn, tmps, assign, body, hy, hR⟩ := hY _ ⟨k, hlt⟩ wr.drew (hJ _ _ hJs) (Nat.lt_of_le_of_lt (chunksTo_len len k) (by omega))
      unfold chunkV at hy
      have hsl := fun wx => run_from ad len cap (3 * k) (3 * (k : Int)) (by omega) (by omega) (by omega) wx
      obtain ⟨m, hm, hm0, hm3⟩ : ∃ m : Nat, min 3 (len - 3 * k) = m ∧ 0 < m ∧ 3 * k + m ≤ len := ⟨_, rfl, by omega, by omega⟩
      have hsl2 := fun wx => run_cut ad len cap (3 * k) m (3 * (k : Int)) (3 * (k : Int) + (m : Int)) (by omega) (by omega) (by omega) hm0 wx
      have hmi : (if ((len - 3 * k : Nat) : Int) < 3 then ((len - 3 * k : Nat) : Int) else 3) = (m : Int) := by split <;> omega
      dsimp only at hy
      rw [hm] at hy
      have HM := Lib.hid hm
      clear hm
      gi_wp2_with fail
      refine wpIn_region_still (by kernel_rfl) ?out (by kernel_rfl) (by kernel_rfl) ?_
      case out =>
        rintro ⟨a', w', ⟨v, hv⟩, _⟩
        cases hv
      repeat still_step
      refine wpStill_nil ?_
      gi_wp2
      refine ⟨fun h => (by cases h), hR.mono ?_⟩
      rintro e W3 (⟨rfl, hJ3, hk3⟩ | ⟨rfl, hJx3⟩)
      · have hk4 : Keep2 Bs Bn W W3 := (hnx.drew).trans hk3
        have hcn3 : W3.cell? ⟨Bn, 0, none⟩ = some (.int .i64 3) := hk4.2.trans hBn
        gi_wp2
        go_roundw
        case rel => exact ⟨k + 1, by omega, by congr 1 <;> omega, by rw [chunksTo_succ hlt]; exact hJ3, hk4⟩
        case measure => simp [intOf]; omega
      · gi_wp2
        refine bodyPost_ret (results_none rfl _ _ _) rfl ?_
        exact ⟨⟨_, rfl⟩, .inr ⟨_, ⟨k + 1, (chunksTo_succ hlt).symm⟩, hJx3⟩⟩
    · gi_wp2
      go_end0
      exact ⟨⟨_, rfl⟩, .inl ⟨_, ⟨k, by omega, rfl⟩, hJs⟩⟩

set_option maxHeartbeats 1000000 in
theorem chunk_in (n : Nat) (A : Option Addr) (len cap : Nat) (w : World) :
    CallsIn (wideAt none) n Try.prog 22 #[.slice A len cap, .int .i64 3] w fun e w' => e = .returned (.func (.func 28) #[] #[.pointer (some ⟨w.heap.size, 0, none⟩), .pointer (some ⟨w.heap.size + 1, 0, none⟩)]) ∧ w' = (w.alloc (.cells #[.slice A len cap] 22)).alloc (.cells #[.int .i64 3] 3) := by
  have c0 := cell_new_l w (.slice A len cap) 22
  have c1 := cell_new_l (w.alloc (.cells #[.slice A len cap] 22)) (.int .i64 3) 3
  rw [World.size_alloc] at c1
  refine callsIn_of_wp Try.func22 rfl trivial ?_ rfl
  simp only [Try.ntmps22, List.size_toArray, List.length_cons, List.length_nil, Nat.reduceAdd, Nat.reduceSub, Array.replicate_succ, Array.replicate_zero, List.push_toArray, List.append_toArray, List.nil_append, List.cons_append]
  gi_wp2
  go_ret
  exact ⟨rfl, rfl⟩

theorem chunk_stops (n : Nat) (Bs Bn : Nat) (A : Option Addr) (ad : Addr) (len cap : Nat) (hA : 0 < len → A = some ad) (hlen : len ≤ 100000) (hcap : len ≤ cap) (w : World)
    (hBs : w.cell? ⟨Bs, 0, none⟩ = some (.slice A len cap)) (hBn : w.cell? ⟨Bn, 0, none⟩ = some (.int .i64 3)) :
    SeqStopsK (wideAt none) n Try.prog 28 #[.pointer (some ⟨Bs, 0, none⟩), .pointer (some ⟨Bn, 0, none⟩)] (fun x : Ch len => #[chunkV ad len x.1]) (Keep2 Bs Bn) (fun ys => ∃ k, len ≤ 3 * k ∧ ys = chunksTo len k) (fun pre => ∃ k, pre = chunksTo len k) len w := fun l J Jx W hW hJ _ hY h0 =>
  chunk1_in n l Bs Bn A ad len cap hA hlen hcap J Jx (fun s W hs => hJ s W W.drew none hs ⟨rfl, rfl, rfl, Nat.le_refl _, fun _ _ _ => rfl⟩ (fun r e => by cases e)) hY W
    ((hW.cell (p := ⟨Bs, 0, none⟩) (block_lt hBs)).trans hBs) ((hW.cell (p := ⟨Bn, 0, none⟩) (block_lt hBn)).trans hBn) h0
end Go.Proofs.YtonhjnfhaelfkaaHand
