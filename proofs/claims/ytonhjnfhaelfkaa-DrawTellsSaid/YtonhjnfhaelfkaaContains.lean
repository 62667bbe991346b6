/- slices.ContainsFunc at picks, with Fair's closure. -/
import Derived.Test.YtonhjnfhaelfkaaHand
set_option linter.unusedVariables false
set_option linter.unusedSimpArgs false
namespace Go.Proofs.YtonhjnfhaelfkaaHand
open Go Go.Proofs Go.RowKit Go.Proofs.YtonhjnfhaelfkaaBridge Go.Shelf Go.Proofs.YtonhjnfhaelfkaaW.PrintWords Go.Proofs.YtonhjnfhaelfkaaW.PrintLast Go.Proofs.YtonhjnfhaelfkaaW.PrintMore
attribute [local go_sem] Oper.semAt_some max2_int min2_int max_two min_two max_three min_three max_four min_four

/-- The row of picks lies at an address. -/
def PR (w : World) (ad : Addr) (ps : List (Int × Int × Int)) : Prop := ∀ j p, ps[j]? = some p → w.cell? (ad.add (j * 3)) = some (.int .i64 p.1) ∧ w.cell? ⟨(ad.add (j * 3)).block, (ad.add (j * 3)).off + 1, none⟩ = some (.int .i64 p.2.1) ∧ w.cell? ⟨(ad.add (j * 3)).block, (ad.add (j * 3)).off + 2, none⟩ = some (.int .u64 p.2.2)
theorem PR.below {w w' : World} {n₀ : Nat} {ad : Addr} {ps : List (Int × Int × Int)} (h : PR w ad ps) (hn : w.heap.size ≤ n₀) (hb : Below n₀ w w') : PR w' ad ps := fun j p hj => by
  obtain ⟨h1, h2, h3⟩ := h j p hj
  have k1 := block_lt h1
  have k2 := block_lt h2
  have k3 := block_lt h3
  exact ⟨(hb.cell (by omega)).trans h1, (hb.cell (by omega)).trans h2, (hb.cell (by omega)).trans h3⟩
def same (p0 p1 : Int) (q : Int × Int × Int) : Bool := q.1 == p0 && q.2.1 == p1

set_option maxRecDepth 100000 in
set_option maxHeartbeats 2000000 in
theorem fair1_in (n : Nat) (q0 q1 q2 p0 p1 : Int) (Bp : Nat) (w : World) (h0 : w.cell? ⟨Bp, 0, none⟩ = some (.int .i64 p0)) (h1 : w.cell? ⟨Bp, 1, none⟩ = some (.int .i64 p1)) :
    CallsIn (wideAt none) n Try.prog 27 #[.agg #[.int .i64 q0, .int .i64 q1, .int .u64 q2], .pointer (some ⟨Bp, 0, none⟩)] w fun e w' => e = .returned (.bool (same p0 p1 (q0, q1, q2))) ∧ Below w.heap.size w w' := by
  have hB : Below w.heap.size w (w.alloc (.cells #[.int .i64 q0, .int .i64 q1, .int .u64 q2] 25)) := (Below.refl _ w).alloc (Nat.le_refl _) _
  have g0 := cell_alloc_l (.cells #[.int .i64 q0, .int .i64 q1, .int .u64 q2] 25) h0
  have g1 := cell_alloc_l (.cells #[.int .i64 q0, .int .i64 q1, .int .u64 q2] 25) h1
  have z0 : (w.alloc (.cells #[.int .i64 q0, .int .i64 q1, .int .u64 q2] 25)).cell? ⟨w.heap.size, 0, none⟩ = some (.int .i64 q0) := by simp
  have z1 : (w.alloc (.cells #[.int .i64 q0, .int .i64 q1, .int .u64 q2] 25)).cell? ⟨w.heap.size, 1, none⟩ = some (.int .i64 q1) := by simp
  refine callsIn_of_wp Try.func27 rfl trivial ?_ rfl
  simp only [Try.ntmps27, List.size_toArray, List.length_cons, List.length_nil, Nat.reduceAdd, Nat.reduceSub, Array.replicate_succ, Array.replicate_zero, List.push_toArray, List.append_toArray, List.nil_append, List.cons_append]
  by_cases he : q0 = p0
  · subst he
    gi_wp2
    go_ret
    refine ⟨?_, hB⟩
    simp [same]
  · gi_wp2
    go_ret
    refine ⟨?_, hB⟩
    simp [same, he]

set_option maxRecDepth 100000 in
set_option maxHeartbeats 2000000 in
theorem index_in (n : Nat) (ad : Addr) (cap : Nat) (ps : List (Int × Int × Int)) (p0 p1 : Int) (Bp : Nat) (hlen : ps.length ≤ 1000000) (w : World) (hr : PR w ad ps) (h0 : w.cell? ⟨Bp, 0, none⟩ = some (.int .i64 p0)) (h1 : w.cell? ⟨Bp, 1, none⟩ = some (.int .i64 p1)) :
    CallsIn (wideAt none) n Try.prog 30 #[.slice (some ad) ps.length cap, .func (.func 27) #[] #[.pointer (some ⟨Bp, 0, none⟩)]] w fun e w' => (∃ i : Int, e = .returned (.int .i64 i) ∧ (0 ≤ i ↔ ps.any (same p0 p1) = true)) ∧ Below w.heap.size w w' := by
  refine callsIn_of_wp Try.func30 rfl trivial ?_ rfl
  simp only [Try.ntmps30, List.size_toArray, List.length_cons, List.length_nil, Nat.reduceAdd, Nat.reduceSub, Array.replicate_succ, Array.replicate_zero, List.push_toArray, List.append_toArray, List.nil_append, List.cons_append]
  gi_wp2
  gi_loopw [8] (fun i wr => ∃ k : Nat, k ≤ ps.length ∧ i = .int .i64 (k : Int) ∧ Below w.heap.size w wr ∧ ∀ q ∈ ps.take k, same p0 p1 q = false)
    (fun i _ => ps.length - (intOf i).toNat)
  case atStart => exact ⟨0, by omega, rfl, Below.refl _ _, by simp⟩
  case round =>
    obtain ⟨k, hk, rfl, hbw, hno⟩ := hrel
    by_cases hlt : k < ps.length
    · obtain ⟨q, hq⟩ : ∃ q, ps[k]? = some q := ⟨_, List.getElem?_eq_getElem hlt⟩
      obtain ⟨c0, c1, c2⟩ := (hr.below (Nat.le_refl _) hbw) k q hq
      have g0 := (hbw.cell (p := ⟨Bp, 0, none⟩) (block_lt h0)).trans h0
      have g1 := (hbw.cell (p := ⟨Bp, 1, none⟩) (block_lt h1)).trans h1
      have ht : ps.take (k + 1) = ps.take k ++ [q] := by rw [List.take_add_one, hq]; rfl
      have HT := Lib.hid ht
      have HN := Lib.hid hno
      have HR := Lib.hid hr
      clear ht hno hr
      by_cases hs : same p0 p1 q = true
      · gi_wp2_with (refine ⟨trivial, fun h => (by cases h), (fair1_in (n - 1) q.1 q.2.1 q.2.2 p0 p1 Bp _ g0 g1).mono ?_⟩; rintro e w' ⟨rfl, hbq⟩)
        go_ret
        exact ⟨⟨k, rfl, fun _ => List.any_eq_true.2 ⟨q, List.mem_of_getElem? hq, hs⟩, fun _ => by omega⟩, hbw.trans (hbq.mono hbw.size)⟩
      · gi_wp2_with (refine ⟨trivial, fun h => (by cases h), (fair1_in (n - 1) q.1 q.2.1 q.2.2 p0 p1 Bp _ g0 g1).mono ?_⟩; rintro e w' ⟨rfl, hbq⟩)
        go_roundw
        case rel =>
          refine ⟨k + 1, by omega, by simp, hbw.trans (hbq.mono hbw.size), fun q' hq' => ?_⟩
          rw [HT.out, List.mem_append, List.mem_singleton] at hq'
          rcases hq' with hq' | rfl
          · exact HN.out q' hq'
          · simpa using hs
        case measure => simp [intOf]; omega
    · obtain rfl : k = ps.length := by omega
      gi_wp2
      go_ret
      refine ⟨⟨-1, rfl, fun h => absurd h (by decide), fun h => ?_⟩, hbw⟩
      obtain ⟨q, hq, hs⟩ := List.any_eq_true.1 h
      rw [List.take_length] at hno
      rw [hno q hq] at hs
      cases hs

set_option maxHeartbeats 1000000 in
theorem contains_in (n : Nat) (ad : Addr) (cap : Nat) (ps : List (Int × Int × Int)) (p0 p1 : Int) (Bp : Nat) (hlen : ps.length ≤ 1000000) (w : World) (hr : PR w ad ps) (h0 : w.cell? ⟨Bp, 0, none⟩ = some (.int .i64 p0)) (h1 : w.cell? ⟨Bp, 1, none⟩ = some (.int .i64 p1)) :
    CallsIn (wideAt none) n Try.prog 26 #[.slice (some ad) ps.length cap, .func (.func 27) #[] #[.pointer (some ⟨Bp, 0, none⟩)]] w fun e w' => e = .returned (.bool (ps.any (same p0 p1))) ∧ Below w.heap.size w w' := by
  refine callsIn_of_wp Try.func26 rfl trivial ?_ rfl
  simp only [Try.ntmps26, List.size_toArray, List.length_cons, List.length_nil, Nat.reduceAdd, Nat.reduceSub, Array.replicate_succ, Array.replicate_zero, List.push_toArray, List.append_toArray, List.nil_append, List.cons_append]
  gi_wp2_with (refine ⟨trivial, fun h => (by cases h), (index_in (n - 1) ad cap ps p0 p1 Bp hlen _ hr h0 h1).mono ?_⟩; rintro e w' ⟨⟨i, rfl, hi⟩, hb⟩)
  go_ret
  refine ⟨?_, hb⟩
  congr 2
  by_cases h : 0 ≤ i
  · simp [h, hi.1 h]
  · have : ps.any (same p0 p1) = false := by simpa using (fun hh => h (hi.2 hh))
    simp [h, this]

end Go.Proofs.YtonhjnfhaelfkaaHand
