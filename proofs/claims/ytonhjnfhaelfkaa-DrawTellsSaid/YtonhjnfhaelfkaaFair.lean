/- draw.Fair: its contract, given what draw.Round answers. Condition: at most 100000 picks. -/
import Derived.Test.YtonhjnfhaelfkaaStretch
import Derived.Test.YtonhjnfhaelfkaaContains
import Derived.Test.YtonhjnfhaelfkaaDecode
import Derived.Scope
set_option linter.unusedVariables false
set_option linter.unusedSimpArgs false
namespace Go.Proofs.YtonhjnfhaelfkaaHand
open Go Go.Proofs Go.RowKit Go.Proofs.YtonhjnfhaelfkaaBridge Go.Shelf Go.Proofs.YtonhjnfhaelfkaaW.PrintWords Go.Proofs.YtonhjnfhaelfkaaW.PrintLast Go.Proofs.YtonhjnfhaelfkaaW.PrintMore
attribute [local go_sem] Oper.semAt_some max2_int min2_int max_two min_two max_three min_three max_four min_four

theorem below_in (n : Nat) (a b : Int) (w : World) : CallsIn (wideAt none) n Try.prog 23 #[.int .i64 a, .int .i64 b] w fun e w' => e = .returned (.bool (decide (0 ≤ a) && decide (a < b))) ∧ w' = w := by
  refine callsIn_of_wp Try.func23 rfl trivial ?_ rfl
  simp only [Try.ntmps23, List.size_toArray, List.length_cons, List.length_nil, Nat.reduceAdd, Nat.reduceSub, Array.replicate_succ, Array.replicate_zero, List.push_toArray, List.append_toArray, List.nil_append, List.cons_append]
  by_cases h : 0 ≤ a
  · have h1 : decide (0 ≤ a) = true := by simpa using h
    gi_wp2
    go_ret
    exact ⟨by simp [h], rfl⟩
  · have h1 : decide (0 ≤ a) = false := by simpa using h
    gi_wp2
    go_ret
    exact ⟨by simp [h], rfl⟩

theorem pcells_get : ∀ (ps : List (Int × Int × Int)) (j : Nat) (p : Int × Int × Int), ps[j]? = some p → (pcells ps)[j * 3]? = some (.int .i64 p.1) ∧ (pcells ps)[j * 3 + 1]? = some (.int .i64 p.2.1) ∧ (pcells ps)[j * 3 + 2]? = some (.int .u64 p.2.2)
  | [], j, p, h => by simp at h
  | q :: ps, 0, p, h => by
    obtain rfl : q = p := by simpa using h
    simp [pcells]
  | q :: ps, j + 1, p, h => by
    obtain ⟨h1, h2, h3⟩ := pcells_get ps j p (by simpa using h)
    have e : pcells (q :: ps) = .int .i64 q.1 :: .int .i64 q.2.1 :: .int .u64 q.2.2 :: pcells ps := by simp [pcells]
    rw [e, show (j + 1) * 3 = j * 3 + 1 + 1 + 1 from by omega]
    refine ⟨by simpa using h1, ?_, ?_⟩
    · rw [show j * 3 + 1 + 1 + 1 + 1 = (j * 3 + 1) + 1 + 1 + 1 from rfl]; simpa using h2
    · rw [show j * 3 + 1 + 1 + 1 + 2 = (j * 3 + 2) + 1 + 1 + 1 from rfl]; simpa using h3

theorem own_PR {w : World} {b : Nat} {v : Value} {ps : List (Int × Int × Int)} (h : w.ownsRow b 25 3 v ps.length (pcells ps)) : ∃ A c, v = .slice A ps.length c ∧ ps.length ≤ c ∧ (0 < ps.length → ∃ ad, A = some ad ∧ PR w ad ps) := by
  rcases h.2 with ⟨rfl, h0⟩ | ⟨g, cap, cur, rfl, hb, hgb, hnc, _⟩
  · exact ⟨none, 0, by rw [h0], by omega, fun hp => by omega⟩
  · refine ⟨_, cap, rfl, hnc, fun _ => ⟨_, rfl, fun j p hj => ?_⟩⟩
    obtain ⟨h1, h2, h3⟩ := pcells_get ps j p hj
    have k1 := h.cells (g := g) rfl _ _ h1
    have k2 := h.cells (g := g) rfl _ _ h2
    have k3 := h.cells (g := g) rfl _ _ h3
    exact ⟨k1, by rw [← add_field _ _ 1 (by omega)]; exact k2, by rw [← add_field _ _ 2 (by omega)]; exact k3⟩

/-- A stretch names everybody. -/
def names (ps0 : List (Int × Int × Int)) (l : List (Int × Int × Int)) (f x : Nat) : Bool := ps0.all fun p => ((l.drop x).take f).any (same p.1 p.2.1)

theorem PR_part {w : World} {ad : Addr} {l : List (Int × Int × Int)} (h : PR w ad l) (x f : Nat) : PR w (ad.add (x * 3)) ((l.drop x).take f) := fun j p hj => by
  have hj' : l[x + j]? = some p := by
    rw [List.getElem?_take] at hj
    split at hj
    · rwa [List.getElem?_drop] at hj
    · cases hj
  obtain ⟨h1, h2, h3⟩ := h _ _ hj'
  have e : (ad.add (x * 3)).add (j * 3) = ad.add ((x + j) * 3) := by rw [Nat.add_mul]; unfold Addr.add; by_cases hx : x * 3 = 0 <;> by_cases hjj : j * 3 = 0 <;> simp [hx, hjj, Nat.add_assoc]
  rw [e]
  exact ⟨h1, h2, h3⟩

theorem box_below {W W' : World} {n₀ B : Nat} {t : TypeId} {v : Value} (h : Boxed W B t v) (hb : Below n₀ W W') (hn : W.heap.size ≤ n₀) : Boxed W' B t v := (hb.block B (Nat.lt_of_lt_of_le h.lt hn)).trans h

theorem KeepsOthers.of_below' {W W' : World} (h : Below W.heap.size W W') : KeepsOthers W W' := ⟨h.size, fun k o hk _ => (h.block k (Array.getElem?_eq_some_iff.1 hk).1).trans hk⟩

set_option maxRecDepth 100000 in
set_option maxHeartbeats 4000000 in
theorem Fair_no (n : Nat) (hn : 1 ≤ n) (A : Option Addr) (len cap : Nat) (a b f : Int) (h : ¬ ((0 ≤ a ∧ a < 21) ∧ (0 ≤ b ∧ b < 21) ∧ 1 ≤ f)) (w : World) :
    CallsIn (wideAt none) n Try.prog 21 #[.slice A len cap, .int .i64 a, .int .i64 b, .int .i64 f] w fun e W' => e = .returned (.bool false) ∧ Below w.heap.size w W' := by
  have hB0 : Below w.heap.size w ((w.alloc (.cells #[.int .i64 a] 3)).alloc (.cells #[.int .i64 b] 3)) := ((Below.refl _ w).alloc (Nat.le_refl _) _).alloc (by simp) _
  have ca : ((w.alloc (.cells #[.int .i64 a] 3)).alloc (.cells #[.int .i64 b] 3)).cell? ⟨w.heap.size, 0, none⟩ = some (.int .i64 a) := cell_alloc_l _ (cell_new_l w (.int .i64 a) 3).1
  have cb : ((w.alloc (.cells #[.int .i64 a] 3)).alloc (.cells #[.int .i64 b] 3)).cell? ⟨w.heap.size + 1, 0, none⟩ = some (.int .i64 b) := by
    have := (cell_new_l (w.alloc (.cells #[.int .i64 a] 3)) (.int .i64 b) 3).1
    rwa [World.size_alloc] at this
  refine callsIn_of_wp Try.func21 rfl trivial ?_ rfl
  simp only [Try.ntmps21, List.size_toArray, List.length_cons, List.length_nil, Nat.reduceAdd, Nat.reduceSub, Array.replicate_succ, Array.replicate_zero, List.push_toArray, List.append_toArray, List.nil_append, List.cons_append]
  have hba : (decide (0 ≤ a) && decide (a < 21)) = decide (0 ≤ a ∧ a < 21) := by by_cases h1 : 0 ≤ a <;> by_cases h2 : a < 21 <;> simp [h1, h2]
  have hbb : (decide (0 ≤ b) && decide (b < 21)) = decide (0 ≤ b ∧ b < 21) := by by_cases h1 : 0 ≤ b <;> by_cases h2 : b < 21 <;> simp [h1, h2]
  by_cases ha : 0 ≤ a ∧ a < 21
  · have ha1 : (decide (0 ≤ a) && decide (a < 21)) = true := by rw [hba]; simpa using ha
    by_cases hb : 0 ≤ b ∧ b < 21
    · have hb1 : (decide (0 ≤ b) && decide (b < 21)) = true := by rw [hbb]; simpa using hb
      have hf : f < 1 := by
        rcases Int.lt_or_le f 1 with hf | hf
        · exact hf
        · exact absurd ⟨ha, hb, hf⟩ h
      clear hba hbb ha hb h
      gi_wp2
      refine wpIn_wide.2 (wp_scope_straight ((wpIn_wide (n := n)).1 ?_))
      gi_wp2_with (first | (refine ⟨trivial, (below_in (n - 1) _ _ _).mono ?_⟩; rintro e w' ⟨rfl, rfl⟩; simp only [ha1, hb1]))
      simp only [Exit.noGoto]
      go_ret
      exact ⟨rfl, hB0⟩
    · have hb1 : (decide (0 ≤ b) && decide (b < 21)) = false := by rw [hbb]; simpa using hb
      clear hba hbb ha hb h
      gi_wp2
      refine wpIn_wide.2 (wp_scope_straight ((wpIn_wide (n := n)).1 ?_))
      gi_wp2_with (first | (refine ⟨trivial, (below_in (n - 1) _ _ _).mono ?_⟩; rintro e w' ⟨rfl, rfl⟩; simp only [ha1, hb1]))
      simp only [Exit.noGoto]
      go_ret
      exact ⟨rfl, hB0⟩
  · have ha1 : (decide (0 ≤ a) && decide (a < 21)) = false := by rw [hba]; simpa using ha
    clear hba hbb ha h
    gi_wp2
    refine wpIn_wide.2 (wp_scope_straight ((wpIn_wide (n := n)).1 ?_))
    gi_wp2_with (first | (refine ⟨trivial, (below_in (n - 1) _ _ _).mono ?_⟩; rintro e w' ⟨rfl, rfl⟩; simp only [ha1]))
    refine ⟨trivial, ?_⟩
    gi_wp2
    simp only [Exit.noGoto]
    go_ret
    exact ⟨rfl, hB0⟩

set_option maxRecDepth 100000 in
set_option maxHeartbeats 8000000 in
theorem Fair_in (n : Nat) (hn : 5 ≤ n) (A : Option Addr) (ad : Addr) (cap : Nat) (l ps0 : List (Int × Int × Int)) (a b : Int) (f : Nat) (ha : 0 ≤ a ∧ a < 21) (hb : 0 ≤ b ∧ b < 21) (hf : 1 ≤ f) (hf2 : f ≤ 9223372036854775807)
    (hA : 0 < l.length → A = some ad) (hlen : l.length ≤ 100000) (hcap : l.length ≤ cap) (hps0 : ps0.length ≤ 100000) (w : World) (hr : PR w ad l)
    (hR : ∀ W, Calls Try.prog 14 #[.int .i64 a, .int .i64 b, .int .u64 0] W fun e w' => ∃ v, e = .returned v ∧ w'.ownsRow W.heap.size 25 3 v ps0.length (pcells ps0) ∧ Below W.heap.size W w') :
    CallsIn (wideAt none) n Try.prog 21 #[.slice A l.length cap, .int .i64 a, .int .i64 b, .int .i64 (f : Int)] w fun e W' => (∃ r, e = .returned (.bool r) ∧ (r = true ↔ ∀ x, x + f ≤ l.length → names ps0 l f x = true)) ∧ Below w.heap.size w W' := by
  have h1 : 1 ≤ n := by omega
  have ba : Boxed ((w.alloc (.cells #[.int .i64 a] 3)).alloc (.cells #[.int .i64 b] 3)) w.heap.size 3 (.int .i64 a) := (Boxed.new w 3 (.int .i64 a)).alloc _
  have bb : Boxed ((w.alloc (.cells #[.int .i64 a] 3)).alloc (.cells #[.int .i64 b] 3)) (w.heap.size + 1) 3 (.int .i64 b) := by simpa using Boxed.new (w.alloc (.cells #[.int .i64 a] 3)) 3 (.int .i64 b)
  have hB0 : Below w.heap.size w ((w.alloc (.cells #[.int .i64 a] 3)).alloc (.cells #[.int .i64 b] 3)) := ((Below.refl _ w).alloc (Nat.le_refl _) _).alloc (by simp) _
  have ca := ba.cell
  have cb := bb.cell
  have ha1 : (decide (0 ≤ a) && decide (a < 21)) = true := by simp [ha.1, ha.2]
  have hb1 : (decide (0 ≤ b) && decide (b < 21)) = true := by simp [hb.1, hb.2]
  have hf1 : ¬ (f : Int) < 1 := by omega
  refine callsIn_of_wp_marks Try.func21 rfl trivial ?_ rfl
  simp only [Try.ntmps21, List.size_toArray, List.length_cons, List.length_nil, Nat.reduceAdd, Nat.reduceSub, Array.replicate_succ, Array.replicate_zero, List.push_toArray, List.append_toArray, List.nil_append, List.cons_append]
  gi_wp2
  refine wpIn_wide.2 (wp_scope_straight ((wpIn_wide (n := n)).1 ?_))
  gi_wp2_with (first | (refine ⟨trivial, (below_in (n - 1) _ _ _).mono ?_⟩; rintro e w' ⟨rfl, rfl⟩; simp only [ha1, hb1]))
  refine wpIn_label ?_
  gi_wp2_with (refine ⟨trivial, (str_in (n - 1) A l.length cap f _).mono ?_⟩; rintro e w' ⟨rfl, rfl⟩)
  obtain ⟨w5, hw5⟩ : ∃ w5, ((((w.alloc (.cells #[.int .i64 a] 3)).alloc (.cells #[.int .i64 b] 3)).alloc (.cells #[.bool true] 4)).alloc (.cells #[.slice A l.length cap] 26)).alloc (.cells #[.int .i64 (f : Int)] 3) = w5 := ⟨_, rfl⟩
  have s5 : w5.heap.size = w.heap.size + 5 := by rw [← hw5]; simp
  have hB5 : Below w.heap.size w w5 := by rw [← hw5]; exact (((hB0.alloc (by simp; omega) _).alloc (by simp; omega) _).alloc (by simp; omega) _)
  have ba5 : Boxed w5 w.heap.size 3 (.int .i64 a) := by rw [← hw5]; exact (((ba.alloc _).alloc _).alloc _)
  have bb5 : Boxed w5 (w.heap.size + 1) 3 (.int .i64 b) := by rw [← hw5]; exact (((bb.alloc _).alloc _).alloc _)
  have bt5 : Boxed w5 (w.heap.size + 2) 4 (.bool true) := by rw [← hw5]; have := Boxed.new ((w.alloc (.cells #[.int .i64 a] 3)).alloc (.cells #[.int .i64 b] 3)) 4 (.bool true); rw [World.size_alloc, World.size_alloc] at this; exact (this.alloc _).alloc _
  have bl5 : Boxed w5 (w.heap.size + 3) 26 (.slice A l.length cap) := by rw [← hw5]; have := Boxed.new (((w.alloc (.cells #[.int .i64 a] 3)).alloc (.cells #[.int .i64 b] 3)).alloc (.cells #[.bool true] 4)) 26 (.slice A l.length cap); rw [World.size_alloc, World.size_alloc, World.size_alloc] at this; exact this.alloc _
  have bf5 : Boxed w5 (w.heap.size + 4) 3 (.int .i64 (f : Int)) := by rw [← hw5]; have := Boxed.new ((((w.alloc (.cells #[.int .i64 a] 3)).alloc (.cells #[.int .i64 b] 3)).alloc (.cells #[.bool true] 4)).alloc (.cells #[.slice A l.length cap] 26)) 3 (.int .i64 (f : Int)); rw [World.size_alloc, World.size_alloc, World.size_alloc, World.size_alloc] at this; exact this
  try simp only [World.size_alloc]
  rw [hw5]
  refine wpIn_rangeFunc_ownF rfl h1 (gf := 29) (lb := #[.pointer (some ⟨w.heap.size + 1 + 1 + 1 + 1, 0, none⟩), .pointer (some ⟨w.heap.size + 1 + 1 + 1, 0, none⟩)]) rfl trivial (enters_of Try.func29 (by kernel_rfl) rfl)
    (str_stops (n - 1) (w.heap.size + 3) (w.heap.size + 4) A ad l.length cap f hA hlen hcap hf hf2 w5 bl5.cell bf5.cell) Keep2.trans (fun W l o o' hl hW _ _ => Keep2.put (by omega) (by omega) o' hl hW) (Below.refl _ _) (fun _ => rfl)
    (fun pre W => ((∀ x ∈ pre, names ps0 l f x.1 = true) ∧ Boxed W w.heap.size 3 (.int .i64 a) ∧ Boxed W (w.heap.size + 1) 3 (.int .i64 b) ∧ Boxed W (w.heap.size + 2) 4 (.bool true) ∧ Boxed W (w.heap.size + 3) 26 (.slice A l.length cap) ∧ Boxed W (w.heap.size + 4) 3 (.int .i64 (f : Int))) ∧ Below w.heap.size w W)
    (fun c pre W => (((c = .exit 0) ∧ ∃ x ∈ pre, names ps0 l f x.1 = false) ∧ Boxed W (w.heap.size + 2) 4 (.bool false)) ∧ Below w.heap.size w W)
    (OwnFrom.and ((ownFrom_pure _ _).and (((boxed_own _ _ (fun _ => _)).from _).and (((boxed_own _ _ (fun _ => _)).from _).and (((boxed_own _ _ (fun _ => _)).from _).and (((boxed_own _ _ (fun _ => _)).from _).and ((boxed_own _ _ (fun _ => _)).from _)))))) (ownFrom_below (Nat.le_refl _) (by omega)))
    (fun c => OwnFrom.and ((ownFrom_pure _ _).and ((boxed_own _ _ (fun _ => _)).from _)) (ownFrom_below (Nat.le_refl _) (by omega)))
    ⟨⟨by simp, ba5, bb5, bt5, bl5, bf5⟩, hB5⟩
    (fun x => { tmps := #[.slice A l.length cap, .int .i64 a, .int .i64 b, .int .i64 (f : Int), undef, .pointer (some ⟨w.heap.size, 0, none⟩), .pointer (some ⟨w.heap.size + 1, 0, none⟩), undef, .bool false, .pointer (some ⟨w.heap.size + 1 + 1, 0, none⟩), strV ad f cap x.1, undef, undef, .int .i64 a, .bool true, .bool false, .bool false, .int .i64 b, .bool true, .bool false, .bool false, .bool false, .int .i64 (f : Int), .bool (decide ((f : Int) < 1)), .bool (decide ((f : Int) < 1)), .slice A l.length cap, .int .i64 (f : Int), .func (.func 29) #[] #[.pointer (some ⟨w.heap.size + 1 + 1 + 1 + 1, 0, none⟩), .pointer (some ⟨w.heap.size + 1 + 1 + 1, 0, none⟩)], strV ad f cap x.1, undef, undef, undef, undef, undef, undef, undef, undef, undef, undef, undef, undef, undef, undef], defers := [] }) ?assign ?body ?done ?stop
  case assign =>
    intro l' x W K hK
    gi_wp2
    exact hK
  case body =>
    rintro l' pre x W ⟨⟨hpre, xa, xb, xt, xl, xf⟩, hB⟩ hpl
    obtain ⟨x, hx⟩ := x
    unfold strV
    dsimp only
    have ka := xa.cell
    have kb := xb.cell
    gi_wp2_with (refine ⟨trivial, fun h => (by cases h), (callsIn_wideAt (ro := some l') (hR _)).mono ?_⟩; rintro e W1 ⟨v, rfl, hown, hbr⟩; obtain ⟨A0, c0, rfl, hc0, hPR⟩ := own_PR hown)
    gi_loopw [33] (fun i wr => ∃ k : Nat, k ≤ ps0.length ∧ i = .int .i64 (k : Int) ∧ Below W1.heap.size W1 wr ∧ ∀ q ∈ ps0.take k, ((l.drop x).take f).any (same q.1 q.2.1) = true)
      (fun i _ => ps0.length - (intOf i).toNat)
    case atStart => exact ⟨0, by omega, rfl, Below.refl _ _, by simp⟩
    case round =>
      obtain ⟨k, hk, rfl, hbw, hno⟩ := hrel
      by_cases hlt : k < ps0.length
      · obtain ⟨q, hq⟩ : ∃ q, ps0[k]? = some q := ⟨_, List.getElem?_eq_getElem hlt⟩
        obtain ⟨ad0, rfl, hPR0⟩ := hPR (by omega)
        obtain ⟨e0, e1, e2⟩ := (hPR0.below (Nat.le_refl _) hbw) k q hq
        have hW : Below W.heap.size W (wr.alloc (.cells #[.int .i64 q.1, .int .i64 q.2.1, .int .u64 q.2.2] 25)) := ((hbr.trans (hbw.mono hbr.size)).alloc (Nat.le_trans hbr.size hbw.size) _)
        have hlp : ((l.drop x).take f).length = f := by simp; omega
        have hprl : PR (wr.alloc (.cells #[.int .i64 q.1, .int .i64 q.2.1, .int .u64 q.2.2] 25)) (ad.add (x * 3)) ((l.drop x).take f) := ((PR_part hr x f).below (Nat.le_refl _) hB).below (Nat.le_refl _) hW
        have hcon := callsIn_wide.1 (contains_in 5 (ad.add (x * 3)) (cap - x) ((l.drop x).take f) q.1 q.2.1 wr.heap.size (by omega) _ hprl (by simp) (by simp))
        rw [hlp] at hcon
        have ht : ps0.take (k + 1) = ps0.take k ++ [q] := by rw [List.take_add_one, hq]; rfl
        have HT := Lib.hid ht
        have HN := Lib.hid hno
        clear ht hno
        by_cases hs : ((l.drop x).take f).any (same q.1 q.2.1) = true
        · rw [hs] at hcon
          gi_wp2_with (refine ⟨trivial, fun h => (by cases h), (callsIn_wideAt (ro := some l') hcon).mono ?_⟩; rintro e w2 ⟨rfl, hb2⟩)
          go_roundw
          case rel =>
            refine ⟨k + 1, by omega, by simp, (hbw.alloc hbw.size _).trans (hb2.mono (by simp; exact Nat.le_succ_of_le hbw.size)), fun q' hq' => ?_⟩
            rw [HT.out, List.mem_append, List.mem_singleton] at hq'
            rcases hq' with hq' | rfl
            · exact HN.out q' hq'
            · exact hs
          case measure => simp [intOf]; omega
        · have hs' : ((l.drop x).take f).any (same q.1 q.2.1) = false := by simpa using hs
          rw [hs'] at hcon
          gi_wp2_with fail
          refine ⟨trivial, fun h => (by cases h), (callsIn_wideAt (ro := some l') hcon).mono ?_⟩; rintro e w2 ⟨rfl, hb2⟩; (have hWW2 := hW.trans (hb2.mono hW.size); have xt2 := box_below xt hWW2 (Nat.le_refl _); have xt2c := xt2.cell; have xt2f := xt2.frozen)
          gi_wp2
          refine ⟨(KeepsOthers.of_below' hWW2).trans (KeepsOthers.setCell _ _ _), ⟨⟨rfl, ⟨x, hx⟩, by simp, ?_⟩, xt2.set _⟩, (hB.trans (hWW2.mono hB.size)).setCell (p := ⟨w.heap.size + 2, 0, none⟩) (by simp) _⟩
          simp only [names, List.all_eq_false]
          exact ⟨q, List.mem_of_getElem? hq, by simp [hs']⟩
      · obtain rfl : k = ps0.length := by omega
        rw [List.take_length] at hno
        have HN := Lib.hid hno
        clear hno
        gi_wp2
        have hWW := hbr.trans (hbw.mono hbr.size)
        refine ⟨KeepsOthers.of_below' hWW, ⟨((box_below xl hWW (Nat.le_refl _)).cell).trans xl.cell.symm, ((box_below xf hWW (Nat.le_refl _)).cell).trans xf.cell.symm⟩, ⟨fun y hy => ?_, box_below xa hWW (Nat.le_refl _), box_below xb hWW (Nat.le_refl _), box_below xt hWW (Nat.le_refl _), box_below xl hWW (Nat.le_refl _), box_below xf hWW (Nat.le_refl _)⟩, hB.trans (hWW.mono hB.size)⟩
        rw [List.mem_append, List.mem_singleton] at hy
        rcases hy with hy | rfl
        · exact hpre y hy
        · simp only [names, List.all_eq_true]
          exact HN.out
  case done =>
    rintro D ys W hD ⟨k, hk, rfl⟩ ⟨⟨hpre, xa, xb, xt, xl, xf⟩, hB⟩ hK
    have hc := xt.cell
    have HN := Lib.hid hpre
    clear hpre
    gi_wp2
    simp only [Exit.noGoto]
    refine ⟨by simp, .inl ⟨_, _, rfl, run_takeDeferred hK, ?_⟩⟩
    refine ⟨.bool true, ?_, ⟨true, rfl, fun _ x hx => ?_, fun _ => rfl⟩, hB.trans (belowK_b (w := w) (Nat.le_refl _) W D _ _ (by omega) hK rfl rfl)⟩
    · simp [results, Try.f21, go_sem]
    · refine HN.out ⟨x, hx⟩ ?_
      simp only [strTo, List.mem_filterMap, List.mem_range]
      exact ⟨x, by omega, by simp [hx]⟩
  case stop =>
    rintro D c pre W hD hS ⟨⟨⟨rfl, x, hx, hno⟩, xt⟩, hB⟩ hK
    have hc := xt.cell
    gi_wp2
    simp only [Exit.noGoto]
    refine ⟨by simp, .inl ⟨_, _, rfl, run_takeDeferred hK, ?_⟩⟩
    refine ⟨.bool false, ?_, ⟨false, rfl, fun h => (by cases h), fun h => ?_⟩, hB.trans (belowK_b (w := w) (Nat.le_refl _) W D _ _ (by omega) hK rfl rfl)⟩
    · simp [results, Try.f21, go_sem]
    · have := h x.1 x.2
      rw [hno] at this
      cases this
end Go.Proofs.YtonhjnfhaelfkaaHand
