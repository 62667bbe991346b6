/- Part 9 of the claim on TopWakes: forest.kids, May; push.Goes, enq.Goes, fits; wait.park, end; printed contracts; parent. No condition. -/
import Derived.Test.YthoeodjgfelkhaaGreatm08
set_option linter.unusedVariables false
set_option linter.unusedSimpArgs false
set_option maxRecDepth 100000
set_option maxHeartbeats 8000000
namespace Go.Proofs.YthoeodjgfelkhaaGreat.QT
open Go.RowKit Go.Proofs.YthoeodjgfelkhaaGreatW.PrintWords Go.Proofs.YthoeodjgfelkhaaGreatW.PrintLast Go.Proofs.YthoeodjgfelkhaaGreatW.PrintMore
attribute [local go_sem] max2_int min2_int max_two min_two
section
attribute [local go_sem] Oper.semAt_some
def kidsTo (t : List S45) (k : Nat) : List (Int × Nat) := (List.range k).flatMap fun o => (t.getD o z45).f1.map fun x => (x, o)
def pairs (t : List S45) : List (Int × Nat) := kidsTo t t.length
theorem kidsTo_succ (t : List S45) (k : Nat) : kidsTo t (k + 1) = kidsTo t k ++ (t.getD k z45).f1.map fun x => (x, k) := by simp [kidsTo, List.range_succ, List.flatMap_append]
theorem kidsTo_le (t : List S45) {k n : Nat} (h : k ≤ n) : ∃ r, kidsTo t n = kidsTo t k ++ r := by
 obtain ⟨d, rfl⟩ := Nat.exists_eq_add_of_le h
 clear h
 induction d with
 | zero => exact ⟨[], by simp⟩
 | succ d ih => obtain ⟨r, hr⟩ := ih; exact ⟨_, by rw [← Nat.add_assoc, kidsTo_succ, hr, List.append_assoc]⟩
theorem kids_in (n : Nat) (hn : 1 ≤ n) (l Bt : Nat) (A : Option Addr) (ct : Nat) (t : List S45) (ht : t.length ≤ 1000000) (J Jx : List (Int × Nat) → World → Prop) (w0 W : World) (habJ : AbidesFrom W.heap.size J)
  (hY : ∀ pre x W1, J pre W1 → pre.length < (pairs t).length → YieldAt Fence.wide (n - 1) Tryz.prog l #[.int .i64 x.1, .int .i64 (x.2 : Nat)] W1 fun e W' =>
   (e = .returned (.bool true) ∧ J (pre ++ [x]) W' ∧ Below w0.heap.size W1 W') ∨ (e = .returned (.bool false) ∧ Jx (pre ++ [x]) W'))
  (hB : W.cell? ⟨Bt, 0, none⟩ = some (.slice A t.length ct)) (hC : Kd.C k45 w0 A t.length t) (hb0 : Below w0.heap.size w0 W) (h0 : J [] W) :
  CallsIn Fence.wide n Tryz.prog 75 #[.func (.yield l) #[] #[], .pointer (some ⟨Bt, 0, none⟩)] W fun e W' => (∃ v, e = .returned v) ∧
   ((∃ ys, ys = pairs t ∧ J ys W') ∨ (∃ pre, (∃ r, pairs t = pre ++ r) ∧ Jx pre W')) := by
 refine callsIn_of_wp Tryz.func75 rfl trivial ?_ rfl
 simp only [Tryz.ntmps75, List.size_toArray, List.length_cons, List.length_nil, Nat.reduceAdd, Nat.reduceSub, Array.replicate_succ, Array.replicate_zero, List.push_toArray, List.append_toArray, List.nil_append, List.cons_append]
 have HAB := qQ habJ
 have HY := qQ hY
 have HC0 := qQ hC
 have HB0 := qQ hb0
 clear habJ hY hC hb0
 gi_wp2
 gi_loopw [9] (fun i wr => ∃ k : Nat, k ≤ t.length ∧ i = .int .i64 k ∧ Aside0 (J (kidsTo t k) wr) ∧ Aside0 (Below w0.heap.size w0 wr))
  (fun i _ => t.length - (intOf i).toNat)
 case atStart => exact ⟨0, Nat.zero_le _, rfl, ⟨h0⟩, HB0⟩
 case round =>
  obtain ⟨k, hk, rfl, HJ, HB⟩ := hrel
  by_cases hlt : k < t.length
  ·have hC := HC0.o
   obtain ⟨ad, A1, c1, e0, x0, x1, hl1, hc1⟩ := at_T45 hC (k : Int) (by omega) (by omega)
   cases e0
   obtain ⟨q, hq⟩ : ∃ q, rd_T45 t (k : Int) = q := ⟨_, rfl⟩
   have HQ := qQ (show t.getD k z45 = q by rw [← hq]; simp [rd_T45])
   rw [hq] at x0 x1 hl1 hc1
   clear hq hC
   simp only [Int.toNat_natCast] at x0 x1
   replace x0 := cell_below x0 HB.o
   replace x1 := cell_below x1 HB.o
   have HL1 := qQ hl1
   have HC1 := qQ hc1
   have hlen : q.f1.length ≤ 9223372036854775807 := hc1.2.1
   clear hl1 hc1
   have kk : ((k : Int) < (t.length : Int)) = True := eq_true (by omega)
   have y1 : (wr.alloc (.cells #[.int .i64 q.f0, .slice A1 q.f1.length c1] 45)).cell? ⟨wr.heap.size, 1, none⟩ = some (.slice A1 q.f1.length c1) := by simp
   have HJ1 := qQ (HAB.o _ _ _ none HJ.o (World.grownBy_alloc wr (.cells #[.int .i64 q.f0, .slice A1 q.f1.length c1] 45) none) (fun r e => by cases e))
   have HB1 := qQ (HB.o.alloc HB.o.size (.cells #[.int .i64 q.f0, .slice A1 q.f1.length c1] 45))
   gi_wp2
   gi_loopw [17] (fun i wq => ∃ j : Nat, j ≤ q.f1.length ∧ i = .int .i64 j ∧ Aside0 (J (kidsTo t k ++ (q.f1.take j).map fun x => (x, k)) wq) ∧ Aside0 (Below w0.heap.size w0 wq))
    (fun i _ => q.f1.length - (intOf i).toNat)
   case atStart => exact ⟨0, Nat.zero_le _, rfl, ⟨by simpa using HJ1.o⟩, HB1⟩
   case round =>
    obtain ⟨j, hj, rfl, HJ2, HB2⟩ := hrel
    by_cases hlj : j < q.f1.length
    ·obtain ⟨ad1, e1, z0⟩ := Kd.at_int HC1.o (j : Int) (by omega) (by omega)
     cases e1
     simp only [Int.toNat_natCast] at z0
     replace z0 := cell_below z0 HB2.o
     have hpre : (kidsTo t k ++ (q.f1.take j).map fun x => (x, k)).length < (pairs t).length := by
      obtain ⟨r, hr⟩ := kidsTo_le t (show k + 1 ≤ t.length by omega)
      rw [pairs, hr, kidsTo_succ, HQ.o]
      simp only [List.length_append, List.length_map, List.length_take]
      omega
     have hsn : kidsTo t k ++ ((q.f1.take (j + 1)).map fun x => (x, k)) = (kidsTo t k ++ (q.f1.take j).map fun x => (x, k)) ++ [(rd q.f1 (j : Int), k)] := by
      rw [List.append_assoc]
      congr 1
      rw [List.take_add_one, List.map_append]
      congr 1
      simp [rd, List.getElem?_eq_getElem hlj]
     have HSN := qQ hsn
     clear hsn
     obtain ⟨fn, tmps, assign, body, hy, hR⟩ := HY.o _ (rd q.f1 (j : Int), k) wr HJ2.o hpre
     try dsimp only at hy
     have jj : ((j : Int) < (q.f1.length : Int)) = True := eq_true (by omega)
     clear hpre
     gi_wp2
     refine hR.mono ?_
     rintro e W3 (⟨rfl, hJ3, hk3⟩ | ⟨rfl, hJx3⟩)
     ·gi_wp2
      go_roundw
      case rel => exact ⟨j + 1, by omega, by simp, ⟨by rw [HSN.o]; exact hJ3⟩, ⟨HB2.o.trans hk3⟩⟩
      case measure => simp [intOf]; omega
     ·gi_wp2
      refine bodyPost_ret (results_none rfl _ _ _) rfl ?_
      refine ⟨⟨_, rfl⟩, .inr ⟨_, ?_, hJx3⟩⟩
      obtain ⟨r, hr⟩ := kidsTo_le t (show k + 1 ≤ t.length by omega)
      rw [← HSN.o, pairs, hr, kidsTo_succ, HQ.o]
      exact ⟨(q.f1.drop (j + 1)).map (fun x => (x, k)) ++ r, by rw [List.append_assoc, List.append_assoc, ← List.append_assoc (List.map _ (List.take _ _)), ← List.map_append, List.take_append_drop]⟩
    ·obtain rfl : j = q.f1.length := by omega
     gi_wp2
     go_roundw
     case rel => exact ⟨k + 1, by omega, by simp, ⟨by rw [kidsTo_succ, HQ.o]; simpa using HJ2.o⟩, HB2⟩
     case measure => simp [intOf]; omega
  ·obtain rfl : k = t.length := by omega
   gi_wp2
   go_end0
   exact ⟨⟨_, rfl⟩, .inl ⟨_, rfl, HJ.o⟩⟩
theorem kids_48 (n : Nat) (A : Option Addr) (k ct : Nat) (w : World) :
  CallsIn Fence.wide n Tryz.prog 48 #[.slice A k ct] w fun e w' => e = .returned (.func (.func 75) #[] #[.pointer (some ⟨w.heap.size, 0, none⟩)]) ∧ w' = w.alloc (.cells #[.slice A k ct] 24) := by
 refine callsIn_of_wp Tryz.func48 rfl trivial ?_ rfl
 simp only [Tryz.ntmps48, List.size_toArray, List.length_cons, List.length_nil, Nat.reduceAdd, Nat.reduceSub, Array.replicate_succ, Array.replicate_zero, List.push_toArray, List.append_toArray, List.nil_append, List.cons_append]
 gi_wp2
 go_ret
 exact ⟨rfl, rfl⟩
def badT (x : S45) : Bool := decide (x.f0 < 0) || decide (20 < x.f0)
theorem bad_47 (x : S45) (A1 : Option Addr) (c1 : Nat) (w : World) : Calls Tryz.prog 47 #[.agg #[.int .i64 x.f0, .slice A1 x.f1.length c1]] w fun e w' => e = .returned (.bool (badT x)) ∧ Below w.heap.size w w' := by
 have x0 : (w.alloc (.cells #[.int .i64 x.f0, .slice A1 x.f1.length c1] 45)).cell? ⟨w.heap.size, 0, none⟩ = some (.int .i64 x.f0) := by simp
 have HB := qQ (below_alloc (Below.refl w.heap.size w) (.cells #[.int .i64 x.f0, .slice A1 x.f1.length c1] 45))
 by_cases h : x.f0 < 0
 ·have b0 : decide (x.f0 < 0) = true := decide_eq_true h
  clear h
  go_enter Tryz.func47, Tryz.ntmps47
  go_wp2
  go_ret
  exact ⟨by simp [badT, b0], HB.o⟩
 ·have b0 : decide (x.f0 < 0) = false := decide_eq_false h
  clear h
  go_enter Tryz.func47, Tryz.ntmps47
  go_wp2
  go_ret
  exact ⟨by simp only [badT, b0]; simp, HB.o⟩
def good (n : Nat) (l : List (Int × Nat)) : Prop := (∀ x ∈ l, (x.2 : Int) < x.1 ∧ x.1 < (n : Int)) ∧ (l.map (·.1)).Nodup
instance (n : Nat) (l : List (Int × Nat)) : Decidable (good n l) := inferInstanceAs (Decidable (_ ∧ _))
def forestB (t : List S45) : Bool := decide (t.length ≤ 30) && !(t.any badT) && decide (good t.length (pairs t))
def falses (n : Nat) : Array Value := Array.replicate n (.bool false)
theorem kids_stops (n : Nat) (hn : 1 ≤ n) (Bt : Nat) (A : Option Addr) (ct : Nat) (t : List S45) (ht : t.length ≤ 1000000) (w0 Wc : World) (hC : Kd.C k45 w0 A t.length t) (hb0 : Below w0.heap.size w0 Wc) (hB : Wc.cell? ⟨Bt, 0, none⟩ = some (.slice A t.length ct)) :
  SeqStopsK Fence.wide n Tryz.prog 75 #[.pointer (some ⟨Bt, 0, none⟩)] (fun x : Int × Nat => #[Value.int .i64 x.1, .int .i64 (x.2 : Nat)]) (Below w0.heap.size) (fun ys => ys = pairs t) (fun pre => ∃ r, pairs t = pre ++ r) (pairs t).length Wc := fun l J Jx W hW habJ _ hY h0 =>
 kids_in n hn l Bt A ct t ht J Jx w0 W habJ hY (cell_below hB hW) hC (below_then hb0 hb0.size hW) h0
def hadA (n : Nat) (l : List (Int × Nat)) : Array Value := ((List.range n).map fun (i : Nat) => Value.bool (decide ((i : Int) ∈ l.map (·.1)))).toArray
theorem hadA_nil (n : Nat) : hadA n [] = falses n := by
 apply Array.ext
 ·simp [hadA, falses]
 ·intro j h1 h2; simp [hadA, falses]
theorem hadA_get (n : Nat) (l : List (Int × Nat)) (x : Int) (h0 : 0 ≤ x) (h1 : x < n) : (hadA n l)[x.toNat]? = some (.bool (decide (x ∈ l.map (·.1)))) := by
 have hx : x.toNat < n := by omega
 simp [hadA, hx, Int.toNat_of_nonneg h0]
theorem hadA_set (n : Nat) (l : List (Int × Nat)) (x : Int) (o : Nat) (h0 : 0 ≤ x) (h1 : x < n) : (hadA n l).setIfInBounds x.toNat (.bool true) = hadA n (l ++ [(x, o)]) := by
 apply Array.ext
 ·simp [hadA]
 ·intro j h2 h3
  have hj : j < n := by simpa [hadA] using h3
  rw [Array.getElem_setIfInBounds (by simpa [hadA] using hj)]
  by_cases h : x.toNat = j
  ·subst h
   simp [hadA, Int.toNat_of_nonneg h0]
  ·have hne : ¬ (j : Int) = x := by omega
   simp [hadA, h, hne]
theorem good_snoc (n : Nat) (l : List (Int × Nat)) (x : Int × Nat) (h : good n l) : good n (l ++ [x]) ↔ ((x.2 : Int) < x.1 ∧ x.1 < (n : Int)) ∧ ¬ x.1 ∈ l.map (·.1) := by
 unfold good at *
 simp only [List.map_append, List.map_cons, List.map_nil, List.mem_append, List.mem_singleton]
 rw [List.nodup_append]
 constructor
 ·rintro ⟨h1, h2⟩
  exact ⟨h1 x (Or.inr rfl), fun hm => h2.2.2 _ hm x.1 (by simp) rfl⟩
 ·rintro ⟨h1, h2⟩
  refine ⟨fun y hy => ?_, h.2, by simp, fun a ha b hb e => ?_⟩
  ·rcases hy with hy | rfl
   ·exact h.1 y hy
   ·exact h1
  ·simp only [List.mem_singleton] at hb
   subst hb; subst e
   exact h2 ha
theorem good_pre (n : Nat) (l r : List (Int × Nat)) (h : good n (l ++ r)) : good n l := by
 unfold good at *
 rw [List.map_append, List.nodup_append] at h
 exact ⟨fun x hx => h.1 x (List.mem_append_left _ hx), h.2.1⟩
structure MB (w : World) (A : Option Addr) (ct : Nat) (t : List S45) (g : Nat) (pre : List (Int × Nat)) (W : World) : Prop where
 gd : good t.length pre
 bel : Below w.heap.size w W
 h0 : W.heap[w.heap.size]? = some (.cells #[.slice A t.length ct] 24 (0, 0))
 h1 : W.heap[w.heap.size + 1]? = some (.cells #[.bool false] 4 (0, 0))
 hg : W.heap[g]? = some (.cells (hadA t.length pre) 4 (0, 0))
 hb : W.heap[g + 1]? = some (.cells #[.slice (some ⟨g, 0, none⟩) t.length t.length] 103 (0, 0))
theorem mb_own (w : World) (A : Option Addr) (ct : Nat) (t : List S45) (g B : Nat) (hB : g + 1 < B) (hw : w.heap.size + 1 < B) : OwnFrom B (MB w A ct t g) := fun pre W W' row h hgr hr => by
 have blk : ∀ {b : Nat} {o : Obj}, W.heap[b]? = some o → b < B → W'.heap[b]? = some o := fun {b o} hb hlt => (hgr.block b (Array.getElem?_eq_some_iff.1 hb).1 (fun e => by have := (hr b e.symm).1; omega)).trans hb
 exact ⟨h.gd, h.bel.grown hgr (by have := (Array.getElem?_eq_some_iff.1 h.h1).1; omega) (fun k e => by have := (hr k e).1; omega), blk h.h0 (by omega), blk h.h1 hw, blk h.hg (by omega), blk h.hb hB⟩
theorem May_in (n : Nat) (hn : 3 ≤ n) (A : Option Addr) (ct : Nat) (t : List S45) (w : World) (hC : Kd.C k45 w A t.length t) (ht : t.length ≤ 1000000) :
  CallsIn Fence.wide n Tryz.prog 23 #[.slice A t.length ct] w fun e W' => e = .returned (.bool (forestB t)) ∧ Below w.heap.size w W' := by
 have h1 : 1 ≤ n := by omega
 have HC := qQ hC
 have HB0 := qQ ((((Below.refl w.heap.size w).alloc (Nat.le_refl _) (.cells #[.slice A t.length ct] 24)).alloc (by simp) (.cells #[.bool false] 4)))
 have b0 : ((w.alloc (.cells #[.slice A t.length ct] 24)).alloc (.cells #[.bool false] 4)).cell? ⟨w.heap.size, 0, none⟩ = some (.slice A t.length ct) := Tryz.cell_alloc_l _ (Tryz.cell_new_l w _ 24).1
 have r0 : ((w.alloc (.cells #[.slice A t.length ct] 24)).alloc (.cells #[.bool false] 4)).cell? ⟨w.heap.size + 1, 0, none⟩ = some (.bool false) := by simp
 have r1 : ((w.alloc (.cells #[.slice A t.length ct] 24)).alloc (.cells #[.bool false] 4)).frozen? ⟨w.heap.size + 1, 0, none⟩ = false := by simp
 clear hC
 refine callsIn_of_wp_marks Tryz.func23 rfl trivial ?_ rfl
 simp only [Tryz.ntmps23, List.size_toArray, List.length_cons, List.length_nil, Nat.reduceAdd, Nat.reduceSub, Array.replicate_succ, Array.replicate_zero, List.push_toArray, List.append_toArray, List.nil_append, List.cons_append]
 by_cases hl : (t.length : Int) > 30
 ·have l0 : decide ((t.length : Int) > 30) = true := decide_eq_true hl
  have HL := qQ hl
  clear hl
  gi_wp2_with (refine ⟨trivial, ?_⟩)
  refine ⟨.bool false, by simp [results, Tryz.f23, go_sem, r0], by have := HL.o; simp only [forestB]; rw [show decide (t.length ≤ 30) = false from decide_eq_false (by omega)]; rfl, HB0.o⟩
 ·have l0 : decide ((t.length : Int) > 30) = false := decide_eq_false hl
  have HL := qQ hl
  clear hl
  cases hbad : t.any badT
  ·have HBAD := qQ hbad
   clear hbad
   have mk : ∀ W : World, (Instr.makeSlice 103 (.int .i64 (t.length : Int)) (.int .i64 (t.length : Int))).run Tryz.prog W = .ok (.slice (some ⟨W.heap.size, 0, none⟩) t.length t.length) (W.alloc (.cells (falses t.length) 4)) := fun W => by
    have hi : (Tryz.prog.info? 4).map (fun i => (i.zero, i.size, i.bytes)) = some (some (.bool false), 1, 1) := by kernel_rfl
    obtain ⟨i, hi1, hi2⟩ := Option.map_eq_some_iff.1 hi
    simp only [Prod.mk.injEq] at hi2
    obtain ⟨z1, z2, z3⟩ := hi2
    have h := run_makeSlice (w := W) 103 4 i _ Tryz.underlying103 hi1 z1 .i64 .i64 (t.length : Int) (t.length : Int) (by omega) (by omega) (by have := HL.o; rw [z2]; simp; omega) (by have := HL.o; rw [z3]; omega) (by omega)
    rw [h, z2]
    simp only [Int.toNat_natCast, Nat.mul_one]
    rw [show madeCells (Value.bool false).cells t.length = falses t.length from by
     apply Array.ext
     ·simp [madeCells, falses]
     ·intro j h1 h2; simp [madeCells, falses, Value.cells, Nat.mod_one]]
   gi_wp2_with (first | (refine ⟨trivial, (callsIn_wide.2 (contains_45 A ct t 47 badT _ (Kd.C_below HC.o HB0.o) ht (enters_of Tryz.func47 (by kernel_rfl) rfl) (fun x _ W A1 c1 _ _ _ => bad_47 x A1 c1 W))).mono ?_⟩; rintro e w1 ⟨rfl, hd⟩; rw [HBAD.o]; have HB1 := qQ (below_then HB0.o HB0.o.size hd); have hh := blk_below (blk_new (w.alloc (.cells #[.slice A t.length ct] 24)) (.cells #[.bool false] 4)) hd; rw [World.size_alloc] at hh; have HBH := qQ (And.intro (blk_below (blk_alloc (blk_new w (.cells #[.slice A t.length ct] 24)) (.cells #[.bool false] 4)) hd) hh); clear hh; replace b0 := cell_below b0 hd; clear hd r0 r1; have b1 := Tryz.cell_alloc_l (.cells (falses t.length) 4) b0; have b2 := Tryz.cell_alloc_l (.cells #[.slice (some ⟨w1.heap.size, 0, none⟩) t.length t.length] 103) b1) | (refine ⟨trivial, (kids_48 (n - 1) A t.length ct _).mono ?_⟩; rintro e w' ⟨rfl, rfl⟩))
   have HG := qQ (blk_alloc (blk_alloc (blk_new w1 (.cells (falses t.length) 4)) (.cells #[.slice (some ⟨w1.heap.size, 0, none⟩) t.length t.length] 103)) (.cells #[.slice A t.length ct] 24))
   have HT := qQ (blk_alloc (blk_alloc (blk_alloc HBH.o.1 (.cells (falses t.length) 4)) (.cells #[.slice (some ⟨w1.heap.size, 0, none⟩) t.length t.length] 103)) (.cells #[.slice A t.length ct] 24))
   have HD0 := qQ (show MB w A ct t w1.heap.size [] _ from ⟨⟨by simp, by simp⟩, ((HB1.o.alloc HB1.o.size (.cells (falses t.length) 4)).alloc (by have := HB1.o.size; simp; omega) (.cells #[.slice (some ⟨w1.heap.size, 0, none⟩) t.length t.length] 103)).alloc (by have := HB1.o.size; simp; omega) (.cells #[.slice A t.length ct] 24), HT.o, blk_alloc (blk_alloc (blk_alloc HBH.o.2 (.cells (falses t.length) 4)) (.cells #[.slice (some ⟨w1.heap.size, 0, none⟩) t.length t.length] 103)) (.cells #[.slice A t.length ct] 24), by rw [hadA_nil]; exact HG.o, by
    have h := blk_alloc (blk_new (w1.alloc (.cells (falses t.length) 4)) (.cells #[.slice (some ⟨w1.heap.size, 0, none⟩) t.length t.length] 103)) (.cells #[.slice A t.length ct] 24)
    rwa [World.size_alloc] at h⟩)
   have hkb : (((w1.alloc (.cells (falses t.length) 4)).alloc (.cells #[.slice (some ⟨w1.heap.size, 0, none⟩) t.length t.length] 103)).alloc (.cells #[.slice A t.length ct] 24)).cell? ⟨w1.heap.size + 1 + 1, 0, none⟩ = some (.slice A t.length ct) := by
    have h := (Tryz.cell_new_l ((w1.alloc (.cells (falses t.length) 4)).alloc (.cells #[.slice (some ⟨w1.heap.size, 0, none⟩) t.length t.length] 103)) (.slice A t.length ct) 24).1
    rwa [World.size_alloc, World.size_alloc] at h
   have hsz : (((w1.alloc (.cells (falses t.length) 4)).alloc (.cells #[.slice (some ⟨w1.heap.size, 0, none⟩) t.length t.length] 103)).alloc (.cells #[.slice A t.length ct] 24)).heap.size = w1.heap.size + 3 := by simp
   have hw1 := blk_lt HBH.o.2
   generalize ((w1.alloc (.cells (falses t.length) 4)).alloc (.cells #[.slice (some ⟨w1.heap.size, 0, none⟩) t.length t.length] 103)).alloc (.cells #[.slice A t.length ct] 24) = Wc at HD0 hkb hsz ⊢
   generalize w1.heap.size = g at HD0 hkb hsz hw1 ⊢
   clear HG HT HBH HB1 b0 b1 b2
   refine wpIn_rangeFunc_ownF rfl h1 (gf := 75) (lb := #[.pointer (some ⟨g + 1 + 1, 0, none⟩)]) rfl trivial (enters_of Tryz.func75 (by kernel_rfl) rfl)
    (kids_stops (n - 1) (by omega) (g + 1 + 1) A ct t ht w Wc HC.o HD0.o.bel hkb) belowK_t (belowK_b HD0.o.bel.size) (Below.refl _ _) (fun _ => rfl)
    (MB w A ct t g) (fun c pre W => c = .ret ∧ ¬ good t.length pre ∧ Below w.heap.size w W ∧ W.heap[w.heap.size + 1]? = some (.cells #[.bool false] 4 (0, 0)))
    (mb_own w A ct t g _ (by omega) (by omega)) ?hIx HD0.o (fun x => { tmps := #[.slice A t.length ct, .pointer (some ⟨w.heap.size, 0, none⟩), .pointer (some ⟨w.heap.size + 1, 0, none⟩), .pointer (some ⟨g + 1, 0, none⟩), .int .i64 x.1, .int .i64 (x.2 : Nat), .slice A t.length ct, .int .i64 (t.length : Int), .bool false, .bool false, .slice A t.length ct, .bool false, .bool false, .slice A t.length ct, .int .i64 (t.length : Int), .slice (some ⟨g, 0, none⟩) t.length t.length, .slice A t.length ct, .func (.func 75) #[] #[.pointer (some ⟨g + 1 + 1, 0, none⟩)], .int .i64 x.1, .int .i64 (x.2 : Nat), undef, undef, undef, undef, undef, undef, undef, undef, undef, undef, undef, undef, undef, undef, undef, undef, undef, undef], defers := [] }) ?assign ?body ?done ?stop
   case hIx => exact fun c pre W W' row h hgr hr => ⟨h.1, h.2.1, h.2.2.1.grown hgr (by have := (Array.getElem?_eq_some_iff.1 h.2.2.2).1; omega) (fun k e => by have := (hr k e).1; have := HD0.o.bel.size; omega), (hgr.block _ (Array.getElem?_eq_some_iff.1 h.2.2.2).1 (fun e => by have := (hr _ e.symm).1; omega)).trans h.2.2.2⟩
   case assign =>
    intro l x W K hK
    gi_wp2
    exact hK
   case body =>
    rintro l pre ⟨x, o⟩ W hM _
    have HM := qQ hM
    have c0 := (blk_cell hM.h0 0).trans rfl
    have c1 := (blk_cell hM.h1 0).trans rfl
    have c1' := blk_frozen hM.h1 0
    have c2 := (blk_cell hM.hb 0).trans rfl
    have c3' := fun i => blk_frozen hM.hg i
    clear hM hkb hsz
    dsimp only
    by_cases hx1 : x ≤ (o : Int)
    ·have d1 : decide (x ≤ (o : Int)) = true := decide_eq_true hx1
     have HX := qQ hx1
     clear hx1
     gi_wp2
     exact ⟨KeepsOthers.setCell _ _ _, rfl, fun hg => by
       have h := (good_snoc _ _ _ HM.o.gd).1 hg
       have h2 := HX.o
       have h3 := h.1.1
       dsimp only at h3
       omega, HM.o.bel.setCell (p := ⟨w.heap.size + 1, 0, none⟩) (by show w.heap.size ≤ w.heap.size + 1; omega) _, by simpa using blk_set HM.o.h1 0 (.bool false)⟩
    ·have d1 : decide (x ≤ (o : Int)) = false := decide_eq_false hx1
     have HX := qQ hx1
     clear hx1
     by_cases hx2 : x ≥ (t.length : Int)
     ·have d2 : decide (x ≥ (t.length : Int)) = true := decide_eq_true hx2
      have HX2 := qQ hx2
      clear hx2
      gi_wp2
      exact ⟨KeepsOthers.setCell _ _ _, rfl, fun hg => by
        have h := (good_snoc _ _ _ HM.o.gd).1 hg
        have h2 := HX2.o
        have h3 := h.1.2
        dsimp only at h3
        omega, HM.o.bel.setCell (p := ⟨w.heap.size + 1, 0, none⟩) (by show w.heap.size ≤ w.heap.size + 1; omega) _, by simpa using blk_set HM.o.h1 0 (.bool false)⟩
     ·have d2 : decide (x ≥ (t.length : Int)) = false := decide_eq_false hx2
      have q0 : (0 ≤ x) = True := eq_true (by have := HX.o; omega)
      have q1 : (x < (t.length : Int)) = True := eq_true (by omega)
      have HX2 := qQ hx2
      clear hx2
      have c3 := (blk_cell HM.o.hg x.toNat).trans (hadA_get t.length pre x (by have := HX.o; omega) (by have := HX2.o; omega))
      by_cases hx3 : x ∈ pre.map (·.1)
      ·rw [decide_eq_true hx3] at c3
       have HX3 := qQ hx3
       clear hx3
       gi_wp2
       exact ⟨KeepsOthers.setCell _ _ _, rfl, fun hg => by
         exact ((good_snoc _ _ _ HM.o.gd).1 hg).2 HX3.o, HM.o.bel.setCell (p := ⟨w.heap.size + 1, 0, none⟩) (by show w.heap.size ≤ w.heap.size + 1; omega) _, by simpa using blk_set HM.o.h1 0 (.bool false)⟩
      ·rw [decide_eq_false hx3] at c3
       have HX3 := qQ hx3
       clear hx3
       gi_wp2
       have lo : 0 ≤ x := by have := HX.o; omega
       have hi : x < (t.length : Int) := by have := HX2.o; omega
       have hge : w.heap.size ≤ g := by have := HD0.o.bel.size; omega
       exact ⟨KeepsOthers.setCell _ _ _, (Below.refl _ _).setCell (p := ⟨g, x.toNat, none⟩) hge _, (good_snoc _ _ _ HM.o.gd).2 ⟨⟨by have := HX.o; show (o : Int) < x; omega, hi⟩, HX3.o⟩, HM.o.bel.setCell (p := ⟨g, x.toNat, none⟩) hge _, blk_far HM.o.h0 (by show w.heap.size ≠ g; omega) _, blk_far HM.o.h1 (by show w.heap.size + 1 ≠ g; omega) _, by rw [← hadA_set _ _ _ _ lo hi]; exact blk_set HM.o.hg x.toNat (.bool true), blk_far HM.o.hb (by show g + 1 ≠ g; omega) _⟩
   case done =>
    rintro D ys W hD hys hM hK
    have hc := (blk_cell hM.h1 0).trans rfl
    have hf := blk_frozen hM.h1 0
    have HM := qQ hM
    have HYS := qQ hys
    clear hM hys hkb
    gi_wp2
    have hK' := (KeepsOthers.setCell W ⟨w.heap.size + 1, 0, none⟩ (.bool true)).same D _ hK rfl
    refine ⟨by simp, .inl ⟨_, _, rfl, run_takeDeferred hK', ?_⟩⟩
    have hc5 := cell_kept (World.cell?_setCell_same' W ⟨w.heap.size + 1, 0, none⟩ (.bool true) (by rw [hc]; rfl)) (grownBy_putObj' _ D (.deferred none)) (fun r e => by cases e; exact ⟨_, hK', rfl⟩)
    refine ⟨.bool true, ?_, ?_, (HM.o.bel.setCell (p := ⟨w.heap.size + 1, 0, none⟩) (by show w.heap.size ≤ w.heap.size + 1; omega) _).trans (belowK_b (w := w) (Nat.le_refl _) _ D _ _ (by have := HD0.o.bel.size; omega) hK' rfl rfl)⟩
    ·simp [results, Tryz.f23, go_sem, hc5]
    ·have hg := HM.o.gd
     rw [HYS.o] at hg
     rw [forestB, HBAD.o, decide_eq_true (show t.length ≤ 30 by have := HL.o; omega), decide_eq_true hg]
     rfl
   case stop =>
    rintro D c pre W hD ⟨r, hr⟩ ⟨rfl, hng, hB, hh⟩ hK
    have hc := (blk_cell hh 0).trans rfl
    clear hkb
    gi_wp2
    refine ⟨by simp, .inl ⟨_, _, rfl, run_takeDeferred hK, ?_⟩⟩
    have hc5 := cell_kept hc (grownBy_putObj' _ D (.deferred none)) (fun r e => by cases e; exact ⟨_, hK, rfl⟩)
    refine ⟨.bool false, ?_, ?_, hB.trans (belowK_b (w := w) (Nat.le_refl _) W D _ _ (by have := HD0.o.bel.size; omega) hK rfl rfl)⟩
    ·simp [results, Tryz.f23, go_sem, hc5]
    ·have hg : ¬ good t.length (pairs t) := fun hg => hng (good_pre _ _ r (hr ▸ hg))
     rw [forestB, decide_eq_false hg, Bool.and_false]
  ·have HBAD := qQ hbad
   clear hbad
   gi_wp2_with (refine ⟨trivial, (callsIn_wide.2 (contains_45 A ct t 47 badT _ (Kd.C_below HC.o HB0.o) ht (enters_of Tryz.func47 (by kernel_rfl) rfl) (fun x _ W A1 c1 _ _ _ => bad_47 x A1 c1 W))).mono ?_⟩; rintro e w1 ⟨rfl, hd⟩; rw [HBAD.o]; have HB1 := qQ (below_then HB0.o HB0.o.size hd); have HD := qQ hd; replace b0 := cell_below b0 hd; have hh := blk_below (blk_new (w.alloc (.cells #[.slice A t.length ct] 24)) (.cells #[.bool false] 4)) hd; rw [World.size_alloc] at hh; have r0 := (blk_cell hh 0).trans rfl; have r1 := blk_frozen hh 0; have HH := qQ hh; clear hd hh)
   have hc9 := (blk_cell (blk_set HH.o 0 (.bool false)) 0).trans rfl
   refine ⟨.bool false, by simp [results, Tryz.f23, go_sem, hc9], by simp [forestB, HBAD.o], HB1.o.setCell (p := ⟨w.heap.size + 1, 0, none⟩) (by show w.heap.size ≤ w.heap.size + 1; omega) _⟩
theorem forest_23 (A : Option Addr) (ct : Nat) (t : List S45) (w : World) (hC : Kd.C k45 w A t.length t) (ht : t.length ≤ 1000000) :
  Calls Tryz.prog 23 #[.slice A t.length ct] w fun e W' => e = .returned (.bool (forestB t)) ∧ Below w.heap.size w W' :=
 callsIn_wide.1 (May_in 3 (by omega) A ct t w hC ht)
end
def mayB (c : Cf) : Bool := (lay_May.f c.w c.d c.i c.s).getD false
theorem may_some (c : Cf) : lay_May.f c.w c.d c.i c.s = some (mayB c) := by
 have hin : ∀ a b d, lay_in.f a b d = some (decide (a ≥ b) && decide (a ≤ d)) := by
  intro a b d
  unfold lay_in.f
  split <;> simp [*]
 have : (lay_May.f c.w c.d c.i c.s).isSome = true := by
  unfold lay_May.f
  simp only [hin, Option.bind_some]
  repeat' (first | rfl | split)
 unfold mayB
 cases h : lay_May.f c.w c.d c.i c.s with
 | none => rw [h] at this; cases this
 | some b => rfl
def sizeF (c : Cf) : Int := (lay_Size.f c.w c.d c.i c.s).getD 0
theorem size_some (c : Cf) : lay_Size.f c.w c.d c.i c.s = some (sizeF c) := by
 unfold sizeF lay_Size.f
 rw [may_some]
 cases mayB c <;> simp [lay_base.f]
structure Two (w : World) (c : Cf) (f : S66) (W : World) : Prop where
 hb : Below w.heap.size w W
 h0 : W.heap[w.heap.size]? = some (.cells #[.int .i64 c.w, .int .i64 c.d, .int .i64 c.i, .int .i64 c.s] 23 (0, 0))
 h1 : W.heap[w.heap.size + 1]? = some (.cells #[.int .i64 f.f0, .int .i64 f.f1, .int .i64 f.f2, .int .u64 f.f3, .int .u64 f.f4, .int .u64 f.f5, .int .i64 f.f6] 66 (0, 0))
theorem two_allocs (w : World) (o1 o2 : Obj) : ((w.alloc o1).alloc o2).heap[w.heap.size]? = some o1 ∧ ((w.alloc o1).alloc o2).heap[w.heap.size + 1]? = some o2 := by
 refine ⟨blk_alloc (blk_new w o1) o2, ?_⟩
 have h := blk_new (w.alloc o1) o2
 rwa [World.size_alloc] at h
theorem Two.start (w : World) (c : Cf) (f : S66) : Two w c f ((w.alloc (.cells #[.int .i64 c.w, .int .i64 c.d, .int .i64 c.i, .int .i64 c.s] 23)).alloc (.cells #[.int .i64 f.f0, .int .i64 f.f1, .int .i64 f.f2, .int .u64 f.f3, .int .u64 f.f4, .int .u64 f.f5, .int .i64 f.f6] 66)) :=
 ⟨below_alloc (below_alloc (Below.refl _ _) _) _, (two_allocs w _ _).1, (two_allocs w _ _).2⟩
theorem Two.below {w : World} {c : Cf} {f : S66} {W W1 : World} (h : Two w c f W) (hb : Below W.heap.size W W1) : Two w c f W1 :=
 ⟨below_then h.hb h.hb.size hb, blk_below h.h0 hb, blk_below h.h1 hb⟩
theorem Two.drew {w : World} {c : Cf} {f : S66} {W : World} (h : Two w c f W) : Two w c f W.drew := ⟨below_drew h.hb, h.h0, h.h1⟩
theorem Two.alloc {w : World} {c : Cf} {f : S66} {W : World} (h : Two w c f W) (o : Obj) : Two w c f (W.alloc o) := ⟨below_alloc h.hb o, blk_alloc h.h0 o, blk_alloc h.h1 o⟩
theorem twoCells {w : World} {c : Cf} {f : S66} {W : World} (h : Two w c f W) :
  W.cell? ⟨w.heap.size, 0, none⟩ = some (.int .i64 c.w) ∧ W.cell? ⟨w.heap.size, 1, none⟩ = some (.int .i64 c.d) ∧ W.cell? ⟨w.heap.size, 2, none⟩ = some (.int .i64 c.i) ∧ W.cell? ⟨w.heap.size, 3, none⟩ = some (.int .i64 c.s) ∧
  W.cell? ⟨w.heap.size + 1, 0, none⟩ = some (.int .i64 f.f0) ∧ W.cell? ⟨w.heap.size + 1, 1, none⟩ = some (.int .i64 f.f1) ∧ W.cell? ⟨w.heap.size + 1, 2, none⟩ = some (.int .i64 f.f2) ∧ W.cell? ⟨w.heap.size + 1, 3, none⟩ = some (.int .u64 f.f3) ∧ W.cell? ⟨w.heap.size + 1, 4, none⟩ = some (.int .u64 f.f4) ∧ W.cell? ⟨w.heap.size + 1, 5, none⟩ = some (.int .u64 f.f5) ∧ W.cell? ⟨w.heap.size + 1, 6, none⟩ = some (.int .i64 f.f6) :=
 ⟨(blk_cell h.h0 0).trans rfl, (blk_cell h.h0 1).trans rfl, (blk_cell h.h0 2).trans rfl, (blk_cell h.h0 3).trans rfl, (blk_cell h.h1 0).trans rfl, (blk_cell h.h1 1).trans rfl, (blk_cell h.h1 2).trans rfl, (blk_cell h.h1 3).trans rfl, (blk_cell h.h1 4).trans rfl, (blk_cell h.h1 5).trans rfl, (blk_cell h.h1 6).trans rfl⟩
def goesB (c : Cf) (n : Nat) (f : S66) (op pcs : Int) : Bool := mayB c && decide ((n : Int) = sizeF c) && decide (f.f6 = 0) && decide (0 ≤ f.f2) && decide (f.f2 < c.w) && decide (f.f0 = op) && decide (0 ≤ f.f1) && decide (f.f1 < pcs)
theorem goes_cases (m : Bool) (c : Cf) (n : Nat) (f : S66) (s op pcs : Int) : m = false ∨ (m = true ∧ decide ((n : Int) = s) = false) ∨ (m = true ∧ decide ((n : Int) = s) = true ∧ decide (f.f6 = 0) = false) ∨ (m = true ∧ decide ((n : Int) = s) = true ∧ decide (f.f6 = 0) = true ∧ decide (0 ≤ f.f2) = false) ∨ (m = true ∧ decide ((n : Int) = s) = true ∧ decide (f.f6 = 0) = true ∧ decide (0 ≤ f.f2) = true ∧ decide (f.f2 < c.w) = false) ∨ (m = true ∧ decide ((n : Int) = s) = true ∧ decide (f.f6 = 0) = true ∧ decide (0 ≤ f.f2) = true ∧ decide (f.f2 < c.w) = true ∧ decide (f.f0 = op) = false) ∨ (m = true ∧ decide ((n : Int) = s) = true ∧ decide (f.f6 = 0) = true ∧ decide (0 ≤ f.f2) = true ∧ decide (f.f2 < c.w) = true ∧ decide (f.f0 = op) = true ∧ decide (0 ≤ f.f1) = false) ∨ (m = true ∧ decide ((n : Int) = s) = true ∧ decide (f.f6 = 0) = true ∧ decide (0 ≤ f.f2) = true ∧ decide (f.f2 < c.w) = true ∧ decide (f.f0 = op) = true ∧ decide (0 ≤ f.f1) = true ∧ decide (f.f1 < pcs) = false) ∨ (m = true ∧ decide ((n : Int) = s) = true ∧ decide (f.f6 = 0) = true ∧ decide (0 ≤ f.f2) = true ∧ decide (f.f2 < c.w) = true ∧ decide (f.f0 = op) = true ∧ decide (0 ≤ f.f1) = true ∧ decide (f.f1 < pcs) = true) := by
 cases m
 ·exact .inl rfl
 refine .inr ?_
 cases h0 : decide ((n : Int) = s)
 ·exact .inl ⟨rfl, rfl⟩
 refine .inr ?_
 cases h1 : decide (f.f6 = 0)
 ·exact .inl ⟨rfl, rfl, rfl⟩
 refine .inr ?_
 cases h2 : decide (0 ≤ f.f2)
 ·exact .inl ⟨rfl, rfl, rfl, rfl⟩
 refine .inr ?_
 cases h3 : decide (f.f2 < c.w)
 ·exact .inl ⟨rfl, rfl, rfl, rfl, rfl⟩
 refine .inr ?_
 cases h4 : decide (f.f0 = op)
 ·exact .inl ⟨rfl, rfl, rfl, rfl, rfl, rfl⟩
 refine .inr ?_
 cases h5 : decide (0 ≤ f.f1)
 ·exact .inl ⟨rfl, rfl, rfl, rfl, rfl, rfl, rfl⟩
 refine .inr ?_
 cases h6 : decide (f.f1 < pcs)
 ·exact .inl ⟨rfl, rfl, rfl, rfl, rfl, rfl, rfl, rfl⟩
 exact .inr ⟨rfl, rfl, rfl, rfl, rfl, rfl, rfl, rfl⟩
theorem push_goes (A : Option Addr) (cp n : Nat) (c : Cf) (f : S66) (op pcs : Int) (w : World) :
  Calls Tryz.prog 137 #[cfV c, .slice A n cp, frV f, .int .i64 op, .int .i64 pcs] w fun e w' => e = .returned (.bool (goesB c n f op pcs)) ∧ Below w.heap.size w w' := by
 have HT0 := qQ (Two.start w c f)
 have M := may_some c
 have Z := size_some c
 have HM := qQ M
 have HZ := qQ Z
 clear M Z
 unfold goesB
 generalize mayB c = m at HM ⊢
 generalize sizeF c = s at HZ ⊢
 have key := goes_cases m c n f s op pcs
 have E1 : ∀ a b : Int, (a == b) = decide (a = b) := fun a b => by by_cases h : a = b <;> simp [h]
 have E2 : ∀ a b : Int, (a != b) = !decide (a = b) := fun a b => by by_cases h : a = b <;> simp [h]
 rcases key with h1 | ⟨h1, h2⟩ | ⟨h1, h2, h3⟩ | ⟨h1, h2, h3, h4⟩ | ⟨h1, h2, h3, h4, h5⟩ | ⟨h1, h2, h3, h4, h5, h6⟩ | ⟨h1, h2, h3, h4, h5, h6, h7⟩ | ⟨h1, h2, h3, h4, h5, h6, h7, h8⟩ | ⟨h1, h2, h3, h4, h5, h6, h7, h8⟩
 all_goals
  subst h1
  simp only [*, Bool.false_and, Bool.true_and, Bool.and_false, Bool.and_true]
  go_enter Tryz.func137, Tryz.ntmps137
  go_wp2_with (first | (go_at_call 22; (with_reducible refine (lay_May.calls c.w c.d c.i c.s _ _ HM.o).mono ?_); rintro e w1 ⟨rfl, hb⟩; have HT1 := HT0.o.below hb; clear hb; have q0 := twoCells HT1; have HT1 := qQ HT1) | (go_at_call 52; (with_reducible refine (lay_Size.calls c.w c.d c.i c.s _ _ HZ.o).mono ?_); rintro e w2 ⟨rfl, hb⟩; have HT2 := HT1.o.below hb; clear hb q0; have q0 := twoCells HT2; have HT2 := qQ HT2) | (go_at_call 96; (with_reducible refine (frame_Over.calls _ _ _ _ _ _ _ _ _ rfl).mono ?_); rintro e w3 ⟨rfl, hb⟩; have HT3 := HT2.o.below hb; clear hb q0; have q0 := twoCells HT3; have HT3 := qQ HT3))
  go_ret
  exact ⟨by first | rfl | simp [*], by first | exact HT3.o.hb | exact HT2.o.hb | exact HT1.o.hb⟩
def fitsB (c : Cf) (n : Nat) : Bool := mayB c && decide ((n : Int) = sizeF c)
structure One (w : World) (c : Cf) (W : World) : Prop where
 hb : Below w.heap.size w W
 h0 : W.heap[w.heap.size]? = some (.cells #[.int .i64 c.w, .int .i64 c.d, .int .i64 c.i, .int .i64 c.s] 23 (0, 0))
theorem One.below {w : World} {c : Cf} {W W1 : World} (h : One w c W) (hb : Below W.heap.size W W1) : One w c W1 := ⟨below_then h.hb h.hb.size hb, blk_below h.h0 hb⟩
theorem oneCells {w : World} {c : Cf} {W : World} (h : One w c W) :
  W.cell? ⟨w.heap.size, 0, none⟩ = some (.int .i64 c.w) ∧ W.cell? ⟨w.heap.size, 1, none⟩ = some (.int .i64 c.d) ∧ W.cell? ⟨w.heap.size, 2, none⟩ = some (.int .i64 c.i) ∧ W.cell? ⟨w.heap.size, 3, none⟩ = some (.int .i64 c.s) :=
 ⟨(blk_cell h.h0 0).trans rfl, (blk_cell h.h0 1).trans rfl, (blk_cell h.h0 2).trans rfl, (blk_cell h.h0 3).trans rfl⟩
theorem fits_cases (m : Bool) (n : Nat) (s : Int) : m = false ∨ (m = true ∧ decide ((n : Int) = s) = false) ∨ (m = true ∧ decide ((n : Int) = s) = true) := by
 cases m
 ·exact .inl rfl
 refine .inr ?_
 cases h0 : decide ((n : Int) = s)
 ·exact .inl ⟨rfl, rfl⟩
 exact .inr ⟨rfl, rfl⟩
theorem enq_fits (A : Option Addr) (cp n : Nat) (c : Cf) (w : World) :
  Calls Tryz.prog 170 #[cfV c, .slice A n cp] w fun e w' => e = .returned (.bool (fitsB c n)) ∧ Below w.heap.size w w' := by
 have HT0 : Aside0 (One w c (w.alloc (.cells #[.int .i64 c.w, .int .i64 c.d, .int .i64 c.i, .int .i64 c.s] 23))) := ⟨⟨below_alloc (Below.refl _ _) _, blk_new w _⟩⟩
 have HM := qQ (may_some c)
 have HZ := qQ (size_some c)
 unfold fitsB
 generalize mayB c = m at HM ⊢
 generalize sizeF c = s at HZ ⊢
 have key := fits_cases m n s
 have E1 : ∀ a b : Int, (a == b) = decide (a = b) := fun a b => by by_cases h : a = b <;> simp [h]
 have E2 : ∀ a b : Int, (a != b) = !decide (a = b) := fun a b => by by_cases h : a = b <;> simp [h]
 rcases key with h1 | ⟨h1, h2⟩ | ⟨h1, h2⟩
 all_goals
  subst h1
  simp only [*, Bool.false_and, Bool.true_and, Bool.and_false, Bool.and_true]
  go_enter Tryz.func170, Tryz.ntmps170
  go_wp2_with (first | (go_at_call 22; (with_reducible refine (lay_May.calls c.w c.d c.i c.s _ _ HM.o).mono ?_); rintro e w1 ⟨rfl, hb⟩; have HT1 := HT0.o.below hb; clear hb; have q0 := oneCells HT1; have HT1 := qQ HT1) | (go_at_call 52; (with_reducible refine (lay_Size.calls c.w c.d c.i c.s _ _ HZ.o).mono ?_); rintro e w2 ⟨rfl, hb⟩; have HT2 := HT1.o.below hb; clear hb q0; have HT2 := qQ HT2))
  go_ret
  exact ⟨by first | rfl | simp [*], by first | exact HT2.o.hb | exact HT1.o.hb⟩
def goesE (c : Cf) (n : Nat) (f : S66) (op : Int) : Bool := fitsB c n && decide (f.f6 = 0) && decide (f.f0 = op) && decide (0 ≤ f.f1) && decide (f.f1 < 5)
theorem goesE_cases (m : Bool) (f : S66) (op : Int) : m = false ∨ (m = true ∧ decide (f.f6 = 0) = false) ∨ (m = true ∧ decide (f.f6 = 0) = true ∧ decide (f.f0 = op) = false) ∨ (m = true ∧ decide (f.f6 = 0) = true ∧ decide (f.f0 = op) = true ∧ decide (0 ≤ f.f1) = false) ∨ (m = true ∧ decide (f.f6 = 0) = true ∧ decide (f.f0 = op) = true ∧ decide (0 ≤ f.f1) = true ∧ decide (f.f1 < 5) = false) ∨ (m = true ∧ decide (f.f6 = 0) = true ∧ decide (f.f0 = op) = true ∧ decide (0 ≤ f.f1) = true ∧ decide (f.f1 < 5) = true) := by
 cases m
 ·exact .inl rfl
 refine .inr ?_
 cases h0 : decide (f.f6 = 0)
 ·exact .inl ⟨rfl, rfl⟩
 refine .inr ?_
 cases h1 : decide (f.f0 = op)
 ·exact .inl ⟨rfl, rfl, rfl⟩
 refine .inr ?_
 cases h2 : decide (0 ≤ f.f1)
 ·exact .inl ⟨rfl, rfl, rfl, rfl⟩
 refine .inr ?_
 cases h3 : decide (f.f1 < 5)
 ·exact .inl ⟨rfl, rfl, rfl, rfl, rfl⟩
 exact .inr ⟨rfl, rfl, rfl, rfl, rfl⟩
theorem enq_goes (A : Option Addr) (cp n : Nat) (c : Cf) (f : S66) (op : Int) (w : World) :
  Calls Tryz.prog 145 #[cfV c, .slice A n cp, frV f, .int .i64 op] w fun e w' => e = .returned (.bool (goesE c n f op)) ∧ Below w.heap.size w w' := by
 have HT0 := qQ (Two.start w c f)
 have HM := qQ (fun W => enq_fits A cp n c W)
 unfold goesE
 generalize fitsB c n = m at HM ⊢
 have key := goesE_cases m f op
 have E1 : ∀ a b : Int, (a == b) = decide (a = b) := fun a b => by by_cases h : a = b <;> simp [h]
 have E2 : ∀ a b : Int, (a != b) = !decide (a = b) := fun a b => by by_cases h : a = b <;> simp [h]
 rcases key with h1 | ⟨h1, h2⟩ | ⟨h1, h2, h3⟩ | ⟨h1, h2, h3, h4⟩ | ⟨h1, h2, h3, h4, h5⟩ | ⟨h1, h2, h3, h4, h5⟩
 all_goals
  subst h1
  simp only [*, Bool.false_and, Bool.true_and, Bool.and_false, Bool.and_true]
  go_enter Tryz.func145, Tryz.ntmps145
  go_wp2_with (first | (go_at_call 170; refine (HM.o _).mono ?_; rintro e w1 ⟨rfl, hb⟩; have HT1 := HT0.o.below hb; clear hb; have q0 := twoCells HT1; have HT1 := qQ HT1) | (go_at_call 96; (with_reducible refine (frame_Over.calls _ _ _ _ _ _ _ _ _ rfl).mono ?_); rintro e w3 ⟨rfl, hb⟩; have HT3 := HT1.o.below hb; clear hb q0; have q0 := twoCells HT3; have HT3 := qQ HT3))
  go_ret
  exact ⟨by first | rfl | simp [*], by first | exact HT3.o.hb | exact HT1.o.hb⟩
theorem wait_park (f : S66) (c : Cf) (l : List Int) (p r : Int) (hp : lay_Park.f c.w c.d c.i c.s f.f2 = some p) (hrr : (if loadF l p = 0 then f.f1 else 4) = r) : Does 164 135 c f l ({ f with f5 := loadF l p, f1 := r }) (l) := by
 intro W g base v h
 obtain ⟨A, cp, rfl, hcp, hC⟩ := Kd.R_reads h.hr
 have HC := qQ hC
 have HCP := qQ hcp
 have HS := qQ h
 have HHP := qQ hp
 have HHRR := qQ hrr
 have q0 := boxCells h.hb
 have z0 := boxFrozen h.hb
 clear hC hcp h hp hrr
 go_enter Tryz.func135, Tryz.ntmps135
 go_wp2
 refine zS 20 [19] (fun W' => W'.heap[g]? = some (boxO f c (.slice A l.length cp) 164)) HS.o.drew.hb fun hHeld => ?_
 refine zY 0 1 2 ?_
 refine zY 1 3 3 ?_
 refine zY 2 7 4 ?_
 refine zY 3 15 5 ?_
 refine zT 4 31 6 ?_ (hy := zy4)
 refine zY 5 63 7 ?_
 refine zY 6 127 8 ?_
 refine zY 7 255 9 ?_
 refine zT 8 511 10 ?_ (hy := zy4)
 refine zY 9 1023 11 ?_
 refine zY 10 2047 12 ?_
 refine zY 11 4095 13 ?_
 refine zY 12 8191 14 ?_
 refine zT 13 16383 15 ?_ (hy := zy4)
 refine zO 14 32767 16 fun K hK => ?_
 go_simp
 refine (lay_Park.calls c.w c.d c.i c.s f.f2 p _ HHP.o).mono ?_
 rintro e w2 ⟨rfl, hb⟩
 have HS2 := (HS.o.drew).below hb
 refine hK.out _ _ HS2.hb (fun hHeld => ?_)
 refine zO 15 65535 17 fun K hK => ?_
 go_simp
 refine (Load_calls A cp l p _ (Kd.R_reads' HS2.hr).2.2 HCP.o).mono ?_
 rintro e w3 ⟨rfl, ⟨nd3, rfl⟩⟩
 refine hK.out _ _ hHeld (fun hHeld => ?_)
 clear q0 z0
 have HS3 := HS2.drewN nd3
 have q0 := boxCells HS3.hb
 have z0 := boxFrozen HS3.hb
 refine zY 16 131071 18 ?_
 refine zY 17 262143 19 ?_
 refine zY 18 524287 20 ?_
 refine zL 19 1048575 fun K hK => ?_
 go_simp
 refine hK.out _ _ ?_
 refine zD ?_
 have HS4 := HS3.set5 (loadF l p)
 generalize (w2.drewN nd3).setCell ⟨g, 5, none⟩ (.int .u64 (loadF l p)) = w4 at HS4 ⊢
 clear q0 z0
 have q0 := boxCells HS4.hb
 have z0 := boxFrozen HS4.hb
 have HS4 := qQ HS4
 clear HS2 HS3 hHeld
 by_cases hx : loadF l p = 0
 ·have hr2 := HHRR.o
  rw [if_pos hx] at hr2
  subst hr2
  have HS5 := HS4.o
  rw [hx] at HS5
  have HS5 := qQ HS5
  go_wp2
  go_end0
  exact ⟨⟨_, rfl⟩, _, HS5.o⟩
 ·have hr2 := HHRR.o
  rw [if_neg hx] at hr2
  subst hr2
  go_wp2
  go_end0
  exact ⟨⟨_, rfl⟩, _, HS4.o.set1 4⟩
theorem wait_end (f : S66) (c : Cf) (l : List Int) (p : Int) (hp : lay_Park.f c.w c.d c.i c.s f.f2 = some p) (hn : l.length ≤ 1000000) : Does 164 136 c f l (⟨f.f0, 0, f.f2, 0, 0, 0, 1⟩) (storeF l p 0) := by
 intro W g base v h
 obtain ⟨A, cp, rfl, hcp, hC⟩ := Kd.R_reads h.hr
 have HC := qQ hC
 have HCP := qQ hcp
 have HS := qQ h
 have HHP := qQ hp
 have HHN := qQ hn
 have q0 := boxCells h.hb
 have z0 := boxFrozen h.hb
 clear hC hcp h hp hn
 go_enter Tryz.func136, Tryz.ntmps136
 go_wp2
 refine zS 19 [18] (fun W' => W'.heap[g]? = some (boxO f c (.slice A l.length cp) 164)) HS.o.drew.hb fun hHeld => ?_
 refine zY 0 1 2 ?_
 refine zY 1 3 3 ?_
 refine zY 2 7 4 ?_
 refine zY 3 15 5 ?_
 refine zT 4 31 6 ?_ (hy := zy4)
 refine zY 5 63 7 ?_
 refine zY 6 127 8 ?_
 refine zY 7 255 9 ?_
 refine zT 8 511 10 ?_ (hy := zy4)
 refine zY 9 1023 11 ?_
 refine zY 10 2047 12 ?_
 refine zY 11 4095 13 ?_
 refine zY 12 8191 14 ?_
 refine zT 13 16383 15 ?_ (hy := zy4)
 refine zO 14 32767 16 fun K hK => ?_
 go_simp
 refine (lay_Park.calls c.w c.d c.i c.s f.f2 p _ HHP.o).mono ?_
 rintro e w2 ⟨rfl, hb⟩
 have HS2 := (HS.o.drew).below hb
 refine hK.out _ _ HS2.hb (fun hHeld => ?_)
 refine zO 15 65535 17 fun K hK => ?_
 go_simp
 refine (store65 A cp l p 0 _ (Kd.R_reads' HS2.hr).2.2 HCP.o HHN.o).mono ?_
 rintro e w3 ⟨u, rfl, ho, hb⟩
 obtain ⟨A3, c3, rfl⟩ := Kd.R_slice ho
 have HS3 := HS2.below hb
 have HO := Kd.R_lower ho (Nat.le_trans HS3.le HS2.gb.size)
 refine hK.out _ _ HS3.hb (fun hHeld => ?_)
 have HS4 := qQ (HS3.setM HO)
 clear q0 z0
 have q0 := boxCells HS3.hb
 have z0 := boxFrozen HS3.hb
 clear HO HS3 HS2 ho hb
 refine zY 16 131071 18 ?_
 refine zY 17 262143 19 ?_
 refine zL 18 524287 fun K hK => ?_
 go_simp
 refine hK.out _ _ ?_
 refine zD ?_
 have HS5 := HS4.o
 generalize w3.setCell ⟨g, 11, none⟩ (.slice A3 (storeF l p 0).length c3) = w4 at HS5 ⊢
 clear q0 z0
 have q0 := boxCells HS5.hb
 have z0 := boxFrozen HS5.hb
 have HS5 := qQ HS5
 clear hHeld HS4
 go_wp2_with (go_at_call 142; (with_reducible refine (frame_End.calls _ _ _ _ _ _ _ 1 0 _ _ _ _ _ _ _ _ rfl).mono ?_); rintro e w5 ⟨rfl, hb2⟩; have HS6 := HS5.o.below hb2; clear hb2 q0 z0; have q0 := boxCells HS6.hb; have z0 := boxFrozen HS6.hb; have HS6 := qQ HS6)
 go_end0
 exact ⟨⟨_, rfl⟩, _, HS6.o.setF ⟨f.f0, 0, f.f2, 0, 0, 0, 1⟩⟩
def forest_May.f (l0 : List S45) : Option Bool := if l0.length ≤ 1000000 then some (forestB l0) else none
theorem forest_May.calls (A0 : Option Addr) (c0 : Nat) (l0 : List S45) (r : Bool) (w : World) (hr0 : Kd.C k45 w A0 l0.length l0) (hc0 : l0.length ≤ c0) (h : forest_May.f l0 = some r) :
  Calls Tryz.prog 23 #[.slice A0 l0.length c0] w fun e w' => e = .returned (.bool r) ∧ Below w.heap.size w w' := by
 unfold forest_May.f at h
 split at h
 ·obtain rfl := Option.some.inj h
  exact forest_23 A0 c0 l0 w hr0 (by assumption)
 ·cases h
section
attribute [local go_sem] Oper.semAt_some
def parentF (t : List S45) (k : Int) : Int := if forestB t = true then (match (pairs t).find? fun x => x.1 == k with | some x => (x.2 : Int) | none => -1) else -1
structure PB_ (w : World) (k : Int) (pre : List (Int × Nat)) (W : World) : Prop where
 no : ∀ x ∈ pre, ¬ x.1 = k
 bel : Below w.heap.size w W
 h0 : W.heap[w.heap.size]? = some (.cells #[.int .i64 k] 3 (0, 0))
 h1 : W.heap[w.heap.size + 1]? = some (.cells #[.int .i64 0] 3 (0, 0))
theorem pb_own (w : World) (k : Int) (B : Nat) (hw : w.heap.size + 1 < B) : OwnFrom B (PB_ w k) := fun pre W W' row h hgr hr => by
 have blk : ∀ {b : Nat} {o : Obj}, W.heap[b]? = some o → b < B → W'.heap[b]? = some o := fun {b o} hb hlt => (hgr.block b (Array.getElem?_eq_some_iff.1 hb).1 (fun e => by have := (hr b e.symm).1; omega)).trans hb
 exact ⟨h.no, h.bel.grown hgr (by have := (Array.getElem?_eq_some_iff.1 h.h1).1; omega) (fun k e => by have := (hr k e).1; omega), blk h.h0 (by omega), blk h.h1 hw⟩
theorem Parent_in (n : Nat) (hn : 3 ≤ n) (A : Option Addr) (ct : Nat) (t : List S45) (k : Int) (w : World) (hC : Kd.C k45 w A t.length t) (ht : t.length ≤ 1000000) :
  CallsIn Fence.wide n Tryz.prog 49 #[.slice A t.length ct, .int .i64 k] w fun e W' => e = .returned (.int .i64 (parentF t k)) ∧ Below w.heap.size w W' := by
 have h1 : 1 ≤ n := by omega
 have HC := qQ hC
 have HB0 := qQ ((((Below.refl w.heap.size w).alloc (Nat.le_refl _) (.cells #[.int .i64 k] 3)).alloc (by simp) (.cells #[.int .i64 0] 3)))
 have hh0 := blk_alloc (blk_new w (.cells #[.int .i64 k] 3)) (.cells #[.int .i64 0] 3)
 have hh1 := blk_new (w.alloc (.cells #[.int .i64 k] 3)) (.cells #[.int .i64 0] 3)
 rw [World.size_alloc] at hh1
 have HH := qQ (And.intro hh0 hh1)
 clear hC hh0 hh1
 refine callsIn_of_wp_marks Tryz.func49 rfl trivial ?_ rfl
 simp only [Tryz.ntmps49, List.size_toArray, List.length_cons, List.length_nil, Nat.reduceAdd, Nat.reduceSub, Array.replicate_succ, Array.replicate_zero, List.push_toArray, List.append_toArray, List.nil_append, List.cons_append]
 cases hf : forestB t
 ·have HF := qQ hf
  clear hf
  gi_wp2_with (refine ⟨trivial, (callsIn_wide.2 (forest_23 A ct t _ (Kd.C_below HC.o HB0.o) ht)).mono ?_⟩; rintro e w1 ⟨rfl, hd⟩; rw [HF.o]; have HB1 := qQ (below_then HB0.o HB0.o.size hd); have HH1 := qQ (blk_below HH.o.2 hd); have r0 := (blk_cell HH1.o 0).trans rfl; have r1 := blk_frozen HH1.o 0; clear hd)
  have hc9 := (blk_cell (blk_set HH1.o 0 (.int .i64 (-1))) 0).trans rfl
  refine ⟨.int .i64 (-1), by simp [results, Tryz.f49, go_sem, hc9], by simp [parentF, HF.o], HB1.o.setCell (p := ⟨w.heap.size + 1, 0, none⟩) (by show w.heap.size ≤ w.heap.size + 1; omega) _⟩
 ·have HF := qQ hf
  clear hf
  gi_wp2_with (first | (refine ⟨trivial, (callsIn_wide.2 (forest_23 A ct t _ (Kd.C_below HC.o HB0.o) ht)).mono ?_⟩; rintro e w1 ⟨rfl, hd⟩; rw [HF.o]; have HB1 := qQ (below_then HB0.o HB0.o.size hd); have HH1 := qQ (And.intro (blk_below HH.o.1 hd) (blk_below HH.o.2 hd)); clear hd) | (refine ⟨trivial, (kids_48 (n - 1) A t.length ct _).mono ?_⟩; rintro e w' ⟨rfl, rfl⟩))
  have HD0 := qQ (show PB_ w k [] _ from ⟨by simp, HB1.o.alloc HB1.o.size (.cells #[.slice A t.length ct] 24), blk_alloc HH1.o.1 _, blk_alloc HH1.o.2 _⟩)
  have hkb : (w1.alloc (.cells #[.slice A t.length ct] 24)).cell? ⟨w1.heap.size, 0, none⟩ = some (.slice A t.length ct) := (Tryz.cell_new_l w1 (.slice A t.length ct) 24).1
  have hsz : (w1.alloc (.cells #[.slice A t.length ct] 24)).heap.size = w1.heap.size + 1 := by simp
  have hw1 := blk_lt HH1.o.2
  generalize w1.alloc (.cells #[.slice A t.length ct] 24) = Wc at HD0 hkb hsz ⊢
  generalize w1.heap.size = g at hkb hsz hw1 ⊢
  clear HH HH1 HB1
  refine wpIn_rangeFunc_ownF rfl h1 (gf := 75) (lb := #[.pointer (some ⟨g, 0, none⟩)]) rfl trivial (enters_of Tryz.func75 (by kernel_rfl) rfl)
   (kids_stops (n - 1) (by omega) g A ct t ht w Wc HC.o HD0.o.bel hkb) belowK_t (belowK_b HD0.o.bel.size) (Below.refl _ _) (fun _ => rfl)
   (PB_ w k) (fun c pre W => c = .ret ∧ ∃ pr x, pre = pr ++ [x] ∧ (∀ y ∈ pr, ¬ y.1 = k) ∧ x.1 = k ∧ Below w.heap.size w W ∧ W.heap[w.heap.size + 1]? = some (.cells #[.int .i64 (x.2 : Nat)] 3 (0, 0)))
   (pb_own w k _ (by omega)) ?hIx HD0.o (fun x => { tmps := #[.slice A t.length ct, .int .i64 k, undef, .pointer (some ⟨w.heap.size, 0, none⟩), .pointer (some ⟨w.heap.size + 1, 0, none⟩), .int .i64 x.1, .int .i64 (x.2 : Nat), .slice A t.length ct, .bool true, .slice A t.length ct, .func (.func 75) #[] #[.pointer (some ⟨g, 0, none⟩)], .int .i64 x.1, .int .i64 (x.2 : Nat), undef, undef, undef, undef], defers := [] }) ?assign ?body ?done ?stop
  case hIx =>
   rintro c pre W W' row ⟨hc, pr, x, h2, h3, h4, h5, h6⟩ hgr hr
   exact ⟨hc, pr, x, h2, h3, h4, h5.grown hgr (by have := (Array.getElem?_eq_some_iff.1 h6).1; omega) (fun k e => by have := (hr k e).1; have := HD0.o.bel.size; omega), (hgr.block _ (Array.getElem?_eq_some_iff.1 h6).1 (fun e => by have := (hr _ e.symm).1; omega)).trans h6⟩
  case assign =>
   intro l x W K hK
   gi_wp2
   exact hK
  case body =>
   rintro l pre ⟨x, o⟩ W hM _
   have HM := qQ hM
   have c0 := (blk_cell hM.h0 0).trans rfl
   have c1 := (blk_cell hM.h1 0).trans rfl
   have c1' := blk_frozen hM.h1 0
   clear hM hkb hsz
   dsimp only
   by_cases hx : x = k
   ·have d1 : (x == k) = true := by simp [hx]
    have HX := qQ hx
    clear hx
    gi_wp2
    exact ⟨KeepsOthers.setCell _ _ _, rfl, pre, (x, o), rfl, HM.o.no, HX.o, HM.o.bel.setCell (p := ⟨w.heap.size + 1, 0, none⟩) (by show w.heap.size ≤ w.heap.size + 1; omega) _, by simpa using blk_set HM.o.h1 0 (.int .i64 (o : Nat))⟩
   ·have d1 : (x == k) = false := by simp [hx]
    have HX := qQ hx
    clear hx
    gi_wp2
    refine ⟨KeepsOthers.refl _, Below.refl _ _, ⟨fun y hy => ?_, HM.o.bel, HM.o.h0, HM.o.h1⟩⟩
    rcases List.mem_append.1 hy with hy | hy
    ·exact HM.o.no y hy
    ·rw [List.mem_singleton.1 hy]; exact HX.o
  case done =>
   rintro D ys W hD hys hM hK
   have hc := (blk_cell hM.h1 0).trans rfl
   have hf := blk_frozen hM.h1 0
   have HM := qQ hM
   have HYS := qQ hys
   clear hM hys hkb
   gi_wp2
   have hK' := (KeepsOthers.setCell W ⟨w.heap.size + 1, 0, none⟩ (.int .i64 (-1))).same D _ hK rfl
   refine ⟨by simp, .inl ⟨_, _, rfl, run_takeDeferred hK', ?_⟩⟩
   have hc5 := cell_kept (World.cell?_setCell_same' W ⟨w.heap.size + 1, 0, none⟩ (.int .i64 (-1)) (by rw [hc]; rfl)) (grownBy_putObj' _ D (.deferred none)) (fun r e => by cases e; exact ⟨_, hK', rfl⟩)
   refine ⟨.int .i64 (-1), ?_, ?_, (HM.o.bel.setCell (p := ⟨w.heap.size + 1, 0, none⟩) (by show w.heap.size ≤ w.heap.size + 1; omega) _).trans (belowK_b (w := w) (Nat.le_refl _) _ D _ _ (by have := HD0.o.bel.size; omega) hK' rfl rfl)⟩
   ·simp [results, Tryz.f49, go_sem, hc5]
   ·have hno := HM.o.no
    rw [HYS.o] at hno
    rw [parentF, if_pos HF.o, List.find?_eq_none.2 (fun y hy => by simpa using hno y hy)]
  case stop =>
   rintro D c pre W hD ⟨r, hr⟩ ⟨rfl, pr, x, rfl, h3, h4, hB, hh⟩ hK
   have hc := (blk_cell hh 0).trans rfl
   clear hkb
   gi_wp2
   refine ⟨by simp, .inl ⟨_, _, rfl, run_takeDeferred hK, ?_⟩⟩
   have hc5 := cell_kept hc (grownBy_putObj' _ D (.deferred none)) (fun r e => by cases e; exact ⟨_, hK, rfl⟩)
   refine ⟨.int .i64 (x.2 : Nat), ?_, ?_, hB.trans (belowK_b (w := w) (Nat.le_refl _) W D _ _ (by have := HD0.o.bel.size; omega) hK rfl rfl)⟩
   ·simp [results, Tryz.f49, go_sem, hc5]
   ·rw [parentF, if_pos HF.o, hr, List.append_assoc, List.find?_append, List.find?_eq_none.2 (fun y hy => by simpa using h3 y hy)]
    simp [h4]
theorem parent_49 (A : Option Addr) (ct : Nat) (t : List S45) (k : Int) (w : World) (hC : Kd.C k45 w A t.length t) (ht : t.length ≤ 1000000) :
  Calls Tryz.prog 49 #[.slice A t.length ct, .int .i64 k] w fun e W' => e = .returned (.int .i64 (parentF t k)) ∧ Below w.heap.size w W' :=
 callsIn_wide.1 (Parent_in 3 (by omega) A ct t k w hC ht)
end
end Go.Proofs.YthoeodjgfelkhaaGreat.QT
