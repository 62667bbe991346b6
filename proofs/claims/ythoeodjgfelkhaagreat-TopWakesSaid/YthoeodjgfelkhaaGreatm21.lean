/- Part 21 of the claim on TopWakes: play.Tells. No condition. -/
import Derived.Test.YthoeodjgfelkhaaGreatm17
set_option linter.unusedVariables false
set_option linter.unusedSimpArgs false
set_option maxRecDepth 100000
set_option maxHeartbeats 8000000
namespace Go.Proofs.YthoeodjgfelkhaaGreat.QT
open Go.RowKit Go.Proofs.YthoeodjgfelkhaaGreatW.PrintWords Go.Proofs.YthoeodjgfelkhaaGreatW.PrintLast Go.Proofs.YthoeodjgfelkhaaGreatW.PrintMore
attribute [local go_sem] max2_int min2_int max_two min_two
def cntE (l : List S40) (j : Nat) : Nat := (l.filter fun e => decide (e.f0 = (j : Int))).length
def cntA (l : List S40) : Array Value := #[.int .i64 (cntE l 0), .int .i64 (cntE l 1), .int .i64 (cntE l 2), .int .i64 (cntE l 3), .int .i64 (cntE l 4), .int .i64 (cntE l 5)]
theorem cntE_le (l : List S40) (j : Nat) : cntE l j ≤ l.length := List.length_filter_le _ _
theorem cntE_snoc (l : List S40) (q : S40) (j : Nat) : cntE (l ++ [q]) j = cntE l j + (if q.f0 = (j : Int) then 1 else 0) := by
 unfold cntE
 rw [List.filter_append, List.length_append]
 by_cases h : q.f0 = (j : Int) <;> simp [h]
theorem cntA_get (l : List S40) (j : Nat) (h : j < 6) : (cntA l)[j]? = some (.int .i64 (cntE l j)) := by
 match j, h with
 | 0, _ => rfl
 | 1, _ => rfl
 | 2, _ => rfl
 | 3, _ => rfl
 | 4, _ => rfl
 | 5, _ => rfl
theorem cntA_set (l : List S40) (q : S40) (j : Nat) (h : j < 6) (hq : q.f0 = (j : Int)) : (cntA l).setIfInBounds j (.int .i64 ((cntE l j : Int) + 1)) = cntA (l ++ [q]) := by
 match j, h, hq with
 | 0, _, hq => simp [cntA, cntE_snoc, hq]
 | 1, _, hq => simp [cntA, cntE_snoc, hq]
 | 2, _, hq => simp [cntA, cntE_snoc, hq]
 | 3, _, hq => simp [cntA, cntE_snoc, hq]
 | 4, _, hq => simp [cntA, cntE_snoc, hq]
 | 5, _, hq => simp [cntA, cntE_snoc, hq]
theorem cntA_other (l : List S40) (q : S40) (h : q.f0 < 0 ∨ 6 ≤ q.f0) : cntA (l ++ [q]) = cntA l := by
 simp only [cntA, cntE_snoc]
 rw [if_neg (by omega), if_neg (by omega), if_neg (by omega), if_neg (by omega), if_neg (by omega), if_neg (by omega)]
 rfl
theorem k40_open {w : World} {x : S40} {cs : List Value} (h : k40.K w x cs) : cs = [.int .i64 x.f0, .int .i64 x.f1, .int .i64 x.f2] := by
 obtain ⟨_, _, rfl, rfl, ⟨_, _, rfl, rfl, rfl⟩⟩ := h
 rfl
theorem at_T40 {w : World} {A : Option Addr} {n : Nat} {xs : List S40} (h : Kd.C k40 w A n xs) (i : Nat) (hi : i < n) {q : S40} (hq : xs[i]? = some q) : ∃ ad, A = some ad ∧ w.cell? (ad.add (i * 3)) = some (.int .i64 q.f0) ∧ w.cell? ⟨(ad.add (i * 3)).block, (ad.add (i * 3)).off + 1, none⟩ = some (.int .i64 q.f1) ∧ w.cell? ⟨(ad.add (i * 3)).block, (ad.add (i * 3)).off + 2, none⟩ = some (.int .i64 q.f2) := by
 obtain ⟨ad, c, e, _, hK, hc0⟩ := Kd.C_get h ⟨0, 0, 0⟩ (i : Int) (by omega) (by omega)
 simp only [Int.toNat_natCast] at hK hc0
 have hd : xs.getD i ⟨0, 0, 0⟩ = q := by simp [List.getD, hq]
 rw [hd] at hK
 have hc : ∀ j u, c[j]? = some u → w.cell? (ad.add (i * 3 + j)) = some u := hc0
 obtain rfl := k40_open hK
 exact ⟨ad, e, hc 0 _ rfl, by rw [← add_field _ _ 1 (by omega)]; exact hc 1 _ rfl, by rw [← add_field _ _ 2 (by omega)]; exact hc 2 _ rfl⟩
theorem tells_9 (tv : Value) (A : Option Addr) (cap : Nat) (l : List S40) (w : World) (hC : Kd.C k40 w A l.length l) (hn : l.length ≤ 1000000) :
  Calls Tryz.prog 9 #[tv, .slice A l.length cap] w fun e w' => e = .returned (.tuple #[.int .i64 (cntE l 0), .int .i64 (cntE l 1), .int .i64 (cntE l 4)]) ∧ Below w.heap.size w w' := by
 have HC := qQ hC
 have HH := qQ (blk_new w (.cells #[.int .i64 0, .int .i64 0, .int .i64 0, .int .i64 0, .int .i64 0, .int .i64 0] 63))
 have HB := qQ (below_alloc (Below.refl w.heap.size w) (.cells #[.int .i64 0, .int .i64 0, .int .i64 0, .int .i64 0, .int .i64 0, .int .i64 0] 63))
 clear hC
 go_enter Tryz.func9, Tryz.ntmps9
 go_wp2
 refine wp_scope_fwd ?_
 go_wp2
 refine wp_label ?_
 go_wp2
 go_loopw [12] (fun i wr => ∃ k : Nat, k ≤ l.length ∧ i = .int .i64 (k : Int) ∧ Aside0 (Below w.heap.size w wr) ∧ Aside0 (wr.heap[w.heap.size]? = some (.cells (cntA (l.take k)) 63 (0, 0))))
  (fun i _ => l.length - (intOf i).toNat)
 case atStart => exact ⟨0, by omega, rfl, HB, HH⟩
 case round =>
  obtain ⟨k, hk, rfl, HBr, HHr⟩ := hrel
  clear HB HH
  by_cases hlt : k < l.length
  ·obtain ⟨q, hq⟩ : ∃ q, l[k]? = some q := ⟨_, List.getElem?_eq_getElem hlt⟩
   obtain ⟨ad, e0, x0, x1, x2⟩ := at_T40 (Kd.C_below HC.o HBr.o) k hlt hq
   cases e0
   have HT := qQ (show l.take (k + 1) = l.take k ++ [q] by rw [List.take_add_one, hq]; rfl)
   have kk : ((k : Int) < (l.length : Int)) = True := eq_true (by omega)
   clear hq
   have HB1 := qQ (HBr.o.alloc HBr.o.size (.cells #[.int .i64 q.f0, .int .i64 q.f1, .int .i64 q.f2] 40))
   have HH1 := qQ (blk_alloc HHr.o (.cells #[.int .i64 q.f0, .int .i64 q.f1, .int .i64 q.f2] 40))
   have y0 : (wr.alloc (.cells #[.int .i64 q.f0, .int .i64 q.f1, .int .i64 q.f2] 40)).cell? ⟨wr.heap.size, 0, none⟩ = some (.int .i64 q.f0) := by simp
   by_cases h1 : q.f0 < 0
   ·have d1 : decide (q.f0 < 0) = true := decide_eq_true h1
    have HX := qQ h1
    clear h1
    go_wp2
    go_roundw
    case rel => exact ⟨k + 1, by omega, by simp, HB1, ⟨by rw [HT.o, cntA_other _ _ (Or.inl HX.o)]; exact HH1.o⟩⟩
    case measure => simp [intOf]; omega
   ·have d1 : decide (q.f0 < 0) = false := decide_eq_false h1
    have HX := qQ h1
    clear h1
    by_cases h2 : q.f0 ≥ 6
    ·have d2 : decide (q.f0 ≥ 6) = true := decide_eq_true h2
     have HX2 := qQ h2
     clear h2
     go_wp2
     go_roundw
     case rel => exact ⟨k + 1, by omega, by simp, HB1, ⟨by rw [HT.o, cntA_other _ _ (Or.inr HX2.o)]; exact HH1.o⟩⟩
     case measure => simp [intOf]; omega
    ·have d2 : decide (q.f0 ≥ 6) = false := decide_eq_false h2
     have HX2 := qQ h2
     clear h2
     obtain ⟨j, hj⟩ : ∃ j : Nat, q.f0 = (j : Int) := ⟨q.f0.toNat, by have := HX.o; omega⟩
     have hj6 : j < 6 := by have := HX2.o; omega
     have HJ := qQ hj
     obtain ⟨qa, qb, qc⟩ := q
     dsimp only at hj x0 x1 x2 d1 d2 y0 HB1 HH1 HX HX2
     subst hj
     have a0 := (blk_cell HH1.o j).trans (cntA_get (l.take k) j hj6)
     have a1 := blk_frozen HH1.o j
     have hcl := cntE_le (l.take k) j
     have hcl2 : (l.take k).length ≤ l.length := by simp [List.length_take]; omega
     have q0 : (0 ≤ (j : Int)) = True := eq_true (by omega)
     have q1 : ((j : Int) < 6) = True := eq_true (by omega)
     go_wp2
     go_roundw
     case rel =>
      refine ⟨k + 1, by omega, by simp, ⟨HB1.o.setCell (p := ⟨w.heap.size, j, none⟩) (Nat.le_refl _) _⟩, ⟨?_⟩⟩
      rw [HT.o, ← cntA_set _ _ j hj6 rfl]
      exact blk_set HH1.o j _
     case measure => simp [intOf]; omega
  ·obtain rfl : k = l.length := by omega
   have c0 := (blk_cell HHr.o 0).trans (cntA_get _ 0 (by omega))
   have c1 := (blk_cell HHr.o 1).trans (cntA_get _ 1 (by omega))
   have c4 := (blk_cell HHr.o 4).trans (cntA_get _ 4 (by omega))
   rw [List.take_length] at c0 c1 c4
   go_wp2
   have hS := HHr.o
   rw [List.take_length] at hS
   have HS := qQ hS
   clear hS
   refine zS 9 [] (fun W' => W'.heap[w.heap.size]? = some (.cells (cntA l) 63 (0, 0))) HS.o fun hHeld => ?_
   refine zY 0 1 31 ?_
   refine zT 1 3 32 ?_ (hy := zy8)
   refine zY 2 7 33 ?_
   refine zT 3 15 34 ?_ (hy := zy8)
   refine zY 4 31 35 ?_
   refine zT 5 63 36 ?_ (hy := zy8)
   refine zY 6 127 4 ?_
   refine zY 7 255 5 ?_
   refine zY 8 511 6 ?_
   refine zD ?_
   go_wp2
   simp only [fwd]
   refine bodyPost_ret (results_list (rs := [.tmp 4, .tmp 5, .tmp 6]) rfl (by simp) (.tmp (.tmp (.tmp .nil)))) rfl ?_
   exact ⟨rfl, below_drew HBr.o⟩
end Go.Proofs.YthoeodjgfelkhaaGreat.QT
