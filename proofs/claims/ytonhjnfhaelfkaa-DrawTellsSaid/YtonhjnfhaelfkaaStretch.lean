/- draw.stretches: what it hands on. Condition: at most 100000 picks, stretches of at least one. -/
import Derived.Test.YtonhjnfhaelfkaaHand
set_option linter.unusedVariables false
set_option linter.unusedSimpArgs false
namespace Go.Proofs.YtonhjnfhaelfkaaHand
open Go Go.Proofs Go.RowKit Go.Proofs.YtonhjnfhaelfkaaBridge Go.Shelf Go.Proofs.YtonhjnfhaelfkaaW.PrintWords Go.Proofs.YtonhjnfhaelfkaaW.PrintLast Go.Proofs.YtonhjnfhaelfkaaW.PrintMore
attribute [local go_sem] Oper.semAt_some max2_int min2_int max_two min_two max_three min_three max_four min_four

theorem i64_wrap {x : Int} (h1 : -9223372036854775808 ≤ x) (h2 : x ≤ 9223372036854775807) : IntKind.i64.wrap x = x := by rw [IntKind.wrap_i64]; omega

/-- Where a stretch of so many begins. -/
abbrev St (len f : Nat) := { x : Nat // x + f ≤ len }
def strTo (len f k : Nat) : List (St len f) := (List.range k).filterMap fun x => if h : x + f ≤ len then some ⟨x, h⟩ else none
theorem strTo_succ {len f k : Nat} (h : k + f ≤ len) : strTo len f (k + 1) = strTo len f k ++ [⟨k, h⟩] := by
  simp [strTo, List.range_succ, List.filterMap_append, h]
theorem strTo_len (len f k : Nat) : (strTo len f k).length ≤ k := by
  have := List.length_filterMap_le (fun x => if h : x + f ≤ len then some (⟨x, h⟩ : St len f) else none) (List.range k)
  simpa [strTo] using this
/-- The stretch as a value. -/
def strV (ad : Addr) (f cap x : Nat) : Value := .slice (some (ad.add (x * 3))) f (cap - x)

theorem run_part (ad : Addr) (len cap k m : Nat) (i j : Int) (hi : i = (k : Int)) (hj : j = ((k + m : Nat) : Int)) (h2 : k + m ≤ cap) (h3 : 0 < m) (w : World) :
    (Instr.slice 26 (.slice (some ad) len cap) (some (.int .i64 i)) (some (.int .i64 j)) none).run Try.prog w = .ok (.slice (some (ad.add (k * 3))) m (cap - k)) w := by
  have hz : ¬ cap = k := by omega
  have hs : (sizeOf 25).run Try.prog w = .ok 3 w := by kernel_rfl
  have h0 : 0 ≤ j := by omega
  have h1 : j ≤ (cap : Int) := by omega
  have h4 : j ≤ max j 0 := Int.le_max_left _ _
  have h5 : j.toNat = k + m := by omega
  have h6 : (k : Int) ≤ max j 0 := by omega
  have h7 : j ≤ (k : Int) + (m : Int) := by omega
  have h8 : ¬ m = 0 := by omega
  have h9 : (k : Int) ≤ (cap : Int) := by omega
  have h10 : (k : Int) ≤ j := by omega
  subst hi
  clear hj
  simp [Instr.slice, Instr.sliceBounds, run_underlying Try.underlying26, go_sem, h0, h1, h4, h5, h6, h7, h8, h9, h10, hz, hs]

set_option maxRecDepth 100000 in
set_option maxHeartbeats 2000000 in
theorem str1_in (n : Nat) (l Bl Bf : Nat) (A : Option Addr) (ad : Addr) (len cap f : Nat) (hA : 0 < len → A = some ad) (hlen : len ≤ 100000) (hcap : len ≤ cap) (hf : 1 ≤ f) (hf2 : f ≤ 9223372036854775807) (J Jx : List (St len f) → World → Prop)
    (hY : ∀ pre x W, J pre W → pre.length < len → YieldAt (wideAt none) (n - 1) Try.prog l #[strV ad f cap x.1] W fun e W' =>
      (e = .returned (.bool true) ∧ J (pre ++ [x]) W' ∧ Keep2 Bl Bf W W') ∨ (e = .returned (.bool false) ∧ Jx (pre ++ [x]) W'))
    (W : World) (hBl : W.cell? ⟨Bl, 0, none⟩ = some (.slice A len cap)) (hBf : W.cell? ⟨Bf, 0, none⟩ = some (.int .i64 (f : Int))) (h0 : J [] W) :
    CallsIn (wideAt none) n Try.prog 29 #[.func (.yield l) #[] #[], .pointer (some ⟨Bf, 0, none⟩), .pointer (some ⟨Bl, 0, none⟩)] W fun e W' => (∃ v, e = .returned v) ∧
      ((∃ ys, (∃ k, len < k + f ∧ ys = strTo len f k) ∧ J ys W') ∨ (∃ pre, (∃ k, pre = strTo len f k) ∧ Jx pre W')) := by
  refine callsIn_of_wp Try.func29 rfl trivial ?_ rfl
  simp only [Try.ntmps29, List.size_toArray, List.length_cons, List.length_nil, Nat.reduceAdd, Nat.reduceSub, Array.replicate_succ, Array.replicate_zero, List.push_toArray, List.append_toArray, List.nil_append, List.cons_append]
  gi_wp2
  gi_loopw [4] (fun i wr => ∃ k : Nat, k ≤ len + 1 ∧ i = .int .i64 (k : Int) ∧ J (strTo len f k) wr ∧ Keep2 Bl Bf W wr)
    (fun i _ => len + 1 - (intOf i).toNat)
  case atStart => exact ⟨0, by omega, rfl, h0, rfl, rfl⟩
  case round =>
    obtain ⟨k, hk, rfl, hJs, hnx⟩ := hrel
    have hcl : wr.cell? ⟨Bl, 0, none⟩ = some (.slice A len cap) := hnx.1.trans hBl
    have hcf : wr.cell? ⟨Bf, 0, none⟩ = some (.int .i64 (f : Int)) := hnx.2.trans hBf
    have hw1 : IntKind.i64.wrap ((len : Int) - (k : Int)) = (len : Int) - (k : Int) := i64_wrap (by omega) (by omega)
    by_cases hlt : k + f ≤ len
    · rw [hA (by omega)] at hcl
      obtain ⟨fn, tmps, assign, body, hy, hR⟩ := hY _ ⟨k, hlt⟩ wr hJs (Nat.lt_of_le_of_lt (strTo_len len f k) (by omega))
      unfold strV at hy
      dsimp only at hy
      have hw2 : IntKind.i64.wrap ((k : Int) + (f : Int)) = (k : Int) + (f : Int) := i64_wrap (by omega) (by omega)
      have hsl := fun wx => run_part ad len cap k f (k : Int) ((k : Int) + (f : Int)) rfl (by omega) (by omega) (by omega) wx
      have hle : (f : Int) ≤ (len : Int) - (k : Int) := by omega
      gi_wp2
      refine ⟨fun h => (by cases h), hR.mono ?_⟩
      rintro e W3 (⟨rfl, hJ3, hk3⟩ | ⟨rfl, hJx3⟩)
      · gi_wp2
        go_roundw
        case rel => exact ⟨k + 1, by omega, by simp, by rw [strTo_succ hlt]; exact hJ3, hnx.trans hk3⟩
        case measure => simp [intOf]; omega
      · gi_wp2
        refine bodyPost_ret (results_none rfl _ _ _) rfl ?_
        exact ⟨⟨_, rfl⟩, .inr ⟨_, ⟨k + 1, (strTo_succ hlt).symm⟩, hJx3⟩⟩
    · have hle : ¬ (f : Int) ≤ (len : Int) - (k : Int) := by omega
      gi_wp2
      go_end0
      exact ⟨⟨_, rfl⟩, .inl ⟨_, ⟨k, by omega, rfl⟩, hJs⟩⟩

set_option maxHeartbeats 1000000 in
theorem str_in (n : Nat) (A : Option Addr) (len cap : Nat) (f : Int) (w : World) :
    CallsIn (wideAt none) n Try.prog 25 #[.slice A len cap, .int .i64 f] w fun e w' => e = .returned (.func (.func 29) #[] #[.pointer (some ⟨w.heap.size + 1, 0, none⟩), .pointer (some ⟨w.heap.size, 0, none⟩)]) ∧ w' = (w.alloc (.cells #[.slice A len cap] 26)).alloc (.cells #[.int .i64 f] 3) := by
  refine callsIn_of_wp Try.func25 rfl trivial ?_ rfl
  simp only [Try.ntmps25, List.size_toArray, List.length_cons, List.length_nil, Nat.reduceAdd, Nat.reduceSub, Array.replicate_succ, Array.replicate_zero, List.push_toArray, List.append_toArray, List.nil_append, List.cons_append]
  gi_wp2
  go_ret
  exact ⟨rfl, rfl⟩

theorem str_stops (n : Nat) (Bl Bf : Nat) (A : Option Addr) (ad : Addr) (len cap f : Nat) (hA : 0 < len → A = some ad) (hlen : len ≤ 100000) (hcap : len ≤ cap) (hf : 1 ≤ f) (hf2 : f ≤ 9223372036854775807) (w : World)
    (hBl : w.cell? ⟨Bl, 0, none⟩ = some (.slice A len cap)) (hBf : w.cell? ⟨Bf, 0, none⟩ = some (.int .i64 (f : Int))) :
    SeqStopsK (wideAt none) n Try.prog 29 #[.pointer (some ⟨Bf, 0, none⟩), .pointer (some ⟨Bl, 0, none⟩)] (fun x : St len f => #[strV ad f cap x.1]) (Keep2 Bl Bf) (fun ys => ∃ k, len < k + f ∧ ys = strTo len f k) (fun pre => ∃ k, pre = strTo len f k) len w := fun l J Jx W hW _ _ hY h0 =>
  str1_in n l Bl Bf A ad len cap f hA hlen hcap hf hf2 J Jx hY W
    ((hW.cell (p := ⟨Bl, 0, none⟩) (block_lt hBl)).trans hBl) ((hW.cell (p := ⟨Bf, 0, none⟩) (block_lt hBf)).trans hBf) h0
end Go.Proofs.YtonhjnfhaelfkaaHand
