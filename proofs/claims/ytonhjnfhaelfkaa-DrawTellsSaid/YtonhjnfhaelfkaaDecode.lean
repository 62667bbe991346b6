/- draw.Decode: its contract. Condition: at most 100000 bytes. -/
import Derived.Test.YtonhjnfhaelfkaaHand
import Derived.Maps.AppendAt
import Derived.OrdersHeld
import Derived.Deep.Draws
set_option linter.unusedVariables false
set_option linter.unusedSimpArgs false
namespace Go.Proofs.YtonhjnfhaelfkaaHand
open Go Go.Proofs Go.RowKit Go.Proofs.YtonhjnfhaelfkaaBridge Go.Shelf Go.Proofs.YtonhjnfhaelfkaaW.PrintWords Go.Proofs.YtonhjnfhaelfkaaW.PrintLast Go.Proofs.YtonhjnfhaelfkaaW.PrintMore
attribute [local go_sem] Oper.semAt_some max2_int min2_int max_two min_two max_three min_three max_four min_four

/-- A pick of three bytes. -/
def pickOf (a b c : Int) : Int × Int × Int := (IntKind.i64.wrap (a.tmod 4), IntKind.i64.wrap b, IntKind.u64.wrap c)
def pickAt (l : List Int) (x : Nat) : Option (Int × Int × Int) := if 3 * x + 2 < l.length then some (pickOf (l.getD (3 * x) 0) (l.getD (3 * x + 1) 0) (l.getD (3 * x + 2) 0)) else none
def pks (l : List Int) {len : Nat} (pre : List (Ch len)) : List (Int × Int × Int) := pre.filterMap fun x => pickAt l x.1
def pcells (ps : List (Int × Int × Int)) : List Value := ps.flatMap fun p => [.int .i64 p.1, .int .i64 p.2.1, .int .u64 p.2.2]
theorem info25 : (Try.prog.info? 25).map (fun i => (i.zero, i.size, i.bytes)) = some (some (.agg #[(.int .i64 0), (.int .i64 0), (.int .u64 0)]), 3, 24) := by kernel_rfl

theorem pks_some {l : List Int} {len : Nat} (pre : List (Ch len)) (x : Ch len) (h : 3 * x.1 + 2 < l.length) : pks l (pre ++ [x]) = pks l pre ++ [pickOf (l.getD (3 * x.1) 0) (l.getD (3 * x.1 + 1) 0) (l.getD (3 * x.1 + 2) 0)] := by
  simp [pks, List.filterMap_append, pickAt, h]
theorem pks_none {l : List Int} {len : Nat} (pre : List (Ch len)) (x : Ch len) (h : ¬ 3 * x.1 + 2 < l.length) : pks l (pre ++ [x]) = pks l pre := by
  simp [pks, List.filterMap_append, pickAt, h]
theorem pcells_snoc (ps : List (Int × Int × Int)) (p : Int × Int × Int) : pcells (ps ++ [p]) = pcells ps ++ [.int .i64 p.1, .int .i64 p.2.1, .int .u64 p.2.2] := by simp [pcells]
theorem pks_len {l : List Int} {len : Nat} (pre : List (Ch len)) : (pks l pre).length ≤ pre.length := List.length_filterMap_le _ _

set_option maxRecDepth 100000 in
set_option maxHeartbeats 4000000 in
theorem Decode_in (n : Nat) (hn : 3 ≤ n) (A : Option Addr) (ad : Addr) (cap : Nat) (l : List Int) (hA : 0 < l.length → A = some ad) (hlen : l.length ≤ 100000) (hcap : l.length ≤ cap) (w : World)
    (hr : ∀ (j : Nat) (u : Int), l[j]? = some u → w.cell? (ad.add j) = some (.int .u8 u)) :
    CallsIn (wideAt none) n Try.prog 12 #[.slice A l.length cap] w fun e W' => ∃ v k, e = .returned v ∧ l.length ≤ 3 * k ∧ W'.ownsRow w.heap.size 25 3 v (pks l (chunksTo l.length k)).length (pcells (pks l (chunksTo l.length k))) ∧ Below w.heap.size w W' := by
  have h1 : 1 ≤ n := by omega
  refine callsIn_of_wp_marks Try.func12 rfl trivial ?_ rfl
  simp only [Try.ntmps12, List.size_toArray, List.length_cons, List.length_nil, Nat.reduceAdd, Nat.reduceSub, Array.replicate_succ, Array.replicate_zero, List.push_toArray, List.append_toArray, List.nil_append, List.cons_append]
  gi_wp2_with (refine ⟨trivial, (chunk_in (n - 1) A l.length cap _).mono ?_⟩; rintro e w' ⟨rfl, rfl⟩)
  have c0 := cell_new_l w (.slice none 0 0) 26
  have hB0 : Below w.heap.size w (((w.alloc (.cells #[.slice none 0 0] 26)).alloc (.cells #[.slice A l.length cap] 22)).alloc (.cells #[.int .i64 3] 3)) := (((Below.refl _ w).alloc (Nat.le_refl _) _).alloc (by simp) _).alloc (by simp; omega) _
  have hb1 : Boxed ((w.alloc (.cells #[.slice none 0 0] 26)).alloc (.cells #[.slice A l.length cap] 22)) (w.heap.size + 1) 22 (.slice A l.length cap) := by simpa using Boxed.new (w.alloc (.cells #[.slice none 0 0] 26)) 22 (.slice A l.length cap)
  have hb2 : Boxed (((w.alloc (.cells #[.slice none 0 0] 26)).alloc (.cells #[.slice A l.length cap] 22)).alloc (.cells #[.int .i64 3] 3)) (w.heap.size + 2) 3 (.int .i64 3) := by simpa using Boxed.new ((w.alloc (.cells #[.slice none 0 0] 26)).alloc (.cells #[.slice A l.length cap] 22)) 3 (.int .i64 3)
  have hb1' := hb1.alloc (.cells #[.int .i64 3] 3)
  have hb0' : Boxed (((w.alloc (.cells #[.slice none 0 0] 26)).alloc (.cells #[.slice A l.length cap] 22)).alloc (.cells #[.int .i64 3] 3)) w.heap.size 26 (.slice none 0 0) := ((Boxed.new w 26 (.slice none 0 0)).alloc _).alloc _
  refine wpIn_rangeFunc_ownF rfl h1 (gf := 28) (lb := #[.pointer (some ⟨w.heap.size + 1, 0, none⟩), .pointer (some ⟨w.heap.size + 2, 0, none⟩)]) rfl trivial (enters_of Try.func28 (by kernel_rfl) rfl)
    (chunk_stops (n - 1) (w.heap.size + 1) (w.heap.size + 2) A ad l.length cap hA hlen hcap _ hb1'.cell hb2.cell) Keep2.trans (fun W l o o' hl hW _ _ => Keep2.put (by simp) (by simp) o' hl hW) (Below.refl _ _) (fun _ => rfl)
    (fun pre W => ((∃ v, Boxed W w.heap.size 26 v ∧ W.ownsRow w.heap.size 25 3 v (pks l pre).length (pcells (pks l pre)) ∧ True) ∧ Boxed W (w.heap.size + 1) 22 (.slice A l.length cap) ∧ Boxed W (w.heap.size + 2) 3 (.int .i64 3)) ∧ Below w.heap.size w W)
    (fun c pre W => False)
    (OwnFrom.and ((Own.from (holdsRow_own w.heap.size w.heap.size 26 25 3 (fun pre => (pks l pre).length) (fun pre => pcells (pks l pre)) (fun _ _ => True)) _).and (((boxed_own (w.heap.size + 1) 22 (fun _ => .slice A l.length cap)).from _).and ((boxed_own (w.heap.size + 2) 3 (fun _ => .int .i64 3)).from _))) (ownFrom_below (Nat.le_refl _) (by simp; omega)))
    (fun c s W W' row hs _ _ => hs)
    ⟨⟨⟨_, hb0', ⟨rfl, .inl ⟨rfl, rfl⟩⟩, trivial⟩, hb1', hb2⟩, hB0⟩
    (fun x => { tmps := #[.slice A l.length cap, undef, .slice none 0 0, .pointer (some ⟨w.heap.size, 0, none⟩), chunkV ad l.length x.1, .slice A l.length cap, .func (.func 28) #[] #[.pointer (some ⟨w.heap.size + 1, 0, none⟩), .pointer (some ⟨w.heap.size + 2, 0, none⟩)], chunkV ad l.length x.1, undef, undef, undef, undef, undef, undef, undef, undef, undef, undef, undef, undef, undef, undef, undef, undef, undef, undef, undef, undef, undef], defers := [] }) ?assign ?body ?done ?stop
  case assign =>
    intro l' x W K hK
    gi_wp2
    exact hK
  case body =>
    rintro l' pre x W ⟨⟨⟨v, hbx, hrow, _⟩, hbs, hbn⟩, hB⟩ hpre
    obtain ⟨x, hx⟩ := x
    unfold chunkV
    obtain ⟨m, hm, hm0, hm3⟩ : ∃ m : Nat, min 3 (l.length - 3 * x) = m ∧ 0 < m ∧ m ≤ 3 := ⟨_, rfl, by omega, by omega⟩
    dsimp only
    rw [hm]
    by_cases h3 : m = 3
    · subst h3
      have hlt : 3 * x + 2 < l.length := by omega
      have hpk := Lib.hid (pks_some pre ⟨x, hx⟩ hlt)
      have hpl : (pks l pre).length ≤ pre.length := pks_len pre
      obtain ⟨b0, hb0⟩ : ∃ b0, l[3 * x]? = some b0 := ⟨_, List.getElem?_eq_getElem (by omega)⟩
      obtain ⟨b1, hb1⟩ : ∃ b1, l[3 * x + 1]? = some b1 := ⟨_, List.getElem?_eq_getElem (by omega)⟩
      obtain ⟨b2, hb2⟩ : ∃ b2, l[3 * x + 2]? = some b2 := ⟨_, List.getElem?_eq_getElem (by omega)⟩
      have r0 := hr _ _ hb0
      have r1 := hr _ _ hb1
      have r2 := hr _ _ hb2
      have hpk2 : pickOf (l.getD (3 * x) 0) (l.getD (3 * x + 1) 0) (l.getD (3 * x + 2) 0) = pickOf b0 b1 b2 := by simp only [List.getD_eq_getElem?_getD, hb0, hb1, hb2, Option.getD_some]
      have HP2 := Lib.hid hpk2
      clear hpk2
      clear hm hm0 hm3 hb0 hb1 hb2 hr
      have q0 := (hB.cell (block_lt r0)).trans r0
      have q1 := (hB.cell (block_lt r1)).trans r1
      have q2 := (hB.cell (block_lt r2)).trans r2
      gi_wp2_with fail
      have hS : (fun W' : World => W'.cell? ⟨w.heap.size, 0, none⟩ = some v ∧ W'.cell? (ad.add (3 * x)) = some (.int .u8 b0) ∧ W'.cell? ⟨(ad.add (3 * x)).block, (ad.add (3 * x)).off + 1, none⟩ = some (.int .u8 b1) ∧ W'.cell? ⟨(ad.add (3 * x)).block, (ad.add (3 * x)).off + 2, none⟩ = some (.int .u8 b2)) { W with drawn := W.drawn + 1 } := ⟨hbx.cell, q0, by rw [← add_field _ _ 1 (by omega)]; exact q1, by rw [← add_field _ _ 2 (by omega)]; exact q2⟩
      refine wpIn_region_E (fun W' : World => W'.cell? ⟨w.heap.size, 0, none⟩ = some v ∧ W'.cell? (ad.add (3 * x)) = some (.int .u8 b0) ∧ W'.cell? ⟨(ad.add (3 * x)).block, (ad.add (3 * x)).off + 1, none⟩ = some (.int .u8 b1) ∧ W'.cell? ⟨(ad.add (3 * x)).block, (ad.add (3 * x)).off + 2, none⟩ = some (.int .u8 b2)) 17 (by kernel_rfl) ?out (by kernel_rfl) ?_
      case out =>
        rintro ⟨a', w', h⟩
        exact h
      refine wpAnyE_take (i := 0) (v := ?v0) rfl (by kernel_rfl) (by kernel_rfl) (by kernel_rfl) (fun _ _ _ h => h) (by kernel_rfl) (by decide) hS (Or.inl ⟨by rfl, ?y0⟩) ?_
      case y0 => (intro w' hSw; (try dsimp only at hSw); first | (go_simp; with_reducible rfl) | (go_simp; done))
      try simp only [Act.put, List.setIfInBounds_toArray, List.set_cons_zero, List.set_cons_succ]
      refine wpAnyE_take (i := 1) (v := ?v1) rfl (by kernel_rfl) (by kernel_rfl) (by kernel_rfl) (fun _ _ _ h => h) (by kernel_rfl) (by decide) hS (Or.inl ⟨by rfl, ?y1⟩) ?_
      case y1 => (intro w' hSw; (try dsimp only at hSw); first | (go_simp; with_reducible rfl) | (go_simp; done))
      try simp only [Act.put, List.setIfInBounds_toArray, List.set_cons_zero, List.set_cons_succ]
      refine wpAnyE_take (i := 2) (v := ?v2) rfl (by kernel_rfl) (by kernel_rfl) (by kernel_rfl) (fun _ _ _ h => h) (by kernel_rfl) (by decide) hS (Or.inl ⟨by rfl, ?y2⟩) ?_
      case y2 => (intro w' hSw; (try dsimp only at hSw); first | (go_simp; with_reducible rfl) | (go_simp; done))
      try simp only [Act.put, List.setIfInBounds_toArray, List.set_cons_zero, List.set_cons_succ]
      refine wpAnyE_take (i := 3) (v := ?v3) rfl (by kernel_rfl) (by kernel_rfl) (by kernel_rfl) (fun _ _ _ h => h) (by kernel_rfl) (by decide) hS (Or.inl ⟨by rfl, ?y3⟩) ?_
      case y3 => (intro w' hSw; (try dsimp only at hSw); first | (go_simp; with_reducible rfl) | (go_simp; done))
      try simp only [Act.put, List.setIfInBounds_toArray, List.set_cons_zero, List.set_cons_succ]
      refine wpAnyE_take (i := 4) (v := ?v4) rfl (by kernel_rfl) (by kernel_rfl) (by kernel_rfl) (fun _ _ _ h => h) (by kernel_rfl) (by decide) hS (Or.inl ⟨by rfl, ?y4⟩) ?_
      case y4 => (intro w' hSw; (try dsimp only at hSw); first | (go_simp; with_reducible rfl) | (go_simp; done))
      try simp only [Act.put, List.setIfInBounds_toArray, List.set_cons_zero, List.set_cons_succ]
      refine wpAnyE_take (i := 5) (v := ?v5) rfl (by kernel_rfl) (by kernel_rfl) (by kernel_rfl) (fun _ _ _ h => h) (by kernel_rfl) (by decide) hS (Or.inl ⟨by rfl, ?y5⟩) ?_
      case y5 => (intro w' hSw; (try dsimp only at hSw); first | (go_simp; with_reducible rfl) | (go_simp; done))
      try simp only [Act.put, List.setIfInBounds_toArray, List.set_cons_zero, List.set_cons_succ]
      refine wpAnyE_take (i := 6) (v := ?v6) rfl (by kernel_rfl) (by kernel_rfl) (by kernel_rfl) (fun _ _ _ h => h) (by kernel_rfl) (by decide) hS (Or.inl ⟨by rfl, ?y6⟩) ?_
      case y6 => (intro w' hSw; (try dsimp only at hSw); first | (go_simp; with_reducible rfl) | (go_simp; done))
      try simp only [Act.put, List.setIfInBounds_toArray, List.set_cons_zero, List.set_cons_succ]
      refine wpAnyE_take (i := 7) (v := ?v7) rfl (by kernel_rfl) (by kernel_rfl) (by kernel_rfl) (fun _ _ _ h => h) (by kernel_rfl) (by decide) hS (Or.inl ⟨by rfl, ?y7⟩) ?_
      case y7 => (intro w' hSw; (try dsimp only at hSw); first | (go_simp; with_reducible rfl) | (go_simp; done))
      try simp only [Act.put, List.setIfInBounds_toArray, List.set_cons_zero, List.set_cons_succ]
      refine wpAnyE_take (i := 8) (v := ?v8) rfl (by kernel_rfl) (by kernel_rfl) (by kernel_rfl) (fun _ _ _ h => h) (by kernel_rfl) (by decide) hS (Or.inl ⟨by rfl, ?y8⟩) ?_
      case y8 => (intro w' hSw; (try dsimp only at hSw); first | (go_simp; with_reducible rfl) | (go_simp; done))
      try simp only [Act.put, List.setIfInBounds_toArray, List.set_cons_zero, List.set_cons_succ]
      refine wpAnyE_take (i := 9) (v := ?v9) rfl (by kernel_rfl) (by kernel_rfl) (by kernel_rfl) (fun _ _ _ h => h) (by kernel_rfl) (by decide) hS (Or.inl ⟨by rfl, ?y9⟩) ?_
      case y9 => (intro w' hSw; (try dsimp only at hSw); first | (go_simp; with_reducible rfl) | (go_simp; done))
      try simp only [Act.put, List.setIfInBounds_toArray, List.set_cons_zero, List.set_cons_succ]
      refine wpAnyE_take (i := 10) (v := ?v10) rfl (by kernel_rfl) (by kernel_rfl) (by kernel_rfl) (fun _ _ _ h => h) (by kernel_rfl) (by decide) hS (Or.inl ⟨by rfl, ?y10⟩) ?_
      case y10 => (intro w' hSw; (try dsimp only at hSw); first | (go_simp; with_reducible rfl) | (go_simp; done))
      try simp only [Act.put, List.setIfInBounds_toArray, List.set_cons_zero, List.set_cons_succ]
      refine wpAnyE_take (i := 11) (v := ?v11) rfl (by kernel_rfl) (by kernel_rfl) (by kernel_rfl) (fun _ _ _ h => h) (by kernel_rfl) (by decide) hS (Or.inl ⟨by rfl, ?y11⟩) ?_
      case y11 => (intro w' hSw; (try dsimp only at hSw); first | (go_simp; with_reducible rfl) | (go_simp; done))
      try simp only [Act.put, List.setIfInBounds_toArray, List.set_cons_zero, List.set_cons_succ]
      refine wpAnyE_take (i := 12) (v := ?v12) rfl (by kernel_rfl) (by kernel_rfl) (by kernel_rfl) (fun _ _ _ h => h) (by kernel_rfl) (by decide) hS (Or.inl ⟨by rfl, ?y12⟩) ?_
      case y12 => (intro w' hSw; (try dsimp only at hSw); first | (go_simp; with_reducible rfl) | (go_simp; done))
      try simp only [Act.put, List.setIfInBounds_toArray, List.set_cons_zero, List.set_cons_succ]
      refine wpAnyE_take (i := 13) (v := ?v13) rfl (by kernel_rfl) (by kernel_rfl) (by kernel_rfl) (fun _ _ _ h => h) (by kernel_rfl) (by decide) hS (Or.inl ⟨by rfl, ?y13⟩) ?_
      case y13 => (intro w' hSw; (try dsimp only at hSw); first | (go_simp; with_reducible rfl) | (go_simp; done))
      try simp only [Act.put, List.setIfInBounds_toArray, List.set_cons_zero, List.set_cons_succ]
      refine wpAnyE_take (i := 14) (v := ?v14) rfl (by kernel_rfl) (by kernel_rfl) (by kernel_rfl) (fun _ _ _ h => h) (by kernel_rfl) (by decide) hS (Or.inl ⟨by rfl, ?y14⟩) ?_
      case y14 => (intro w' hSw; (try dsimp only at hSw); first | (go_simp; with_reducible rfl) | (go_simp; done))
      try simp only [Act.put, List.setIfInBounds_toArray, List.set_cons_zero, List.set_cons_succ]
      refine wpAnyE_one (i := 15) (by kernel_rfl) rfl (fun K hK => ?_)
      go_simp
      refine hK _ _ (fun _ => ⟨cell_alloc_l _ hS.1, cell_alloc_l _ hS.2.1, cell_alloc_l _ hS.2.2.1, cell_alloc_l _ hS.2.2.2⟩) ?_
      clear hK K
      refine wpAnyE_one (i := 16) (by kernel_rfl) rfl (fun K hK => ?_)
      refine step_append_cells (w0 := w) (W := W.drew) w.heap.size (by rfl) (.tmp 11) (.tmp 26) 26 25 _ 3 24 rfl (by kernel_rfl) info25 rfl (by decide) (by decide) v (pks l pre).length (pcells (pks l pre)) _ (by rfl) (by rfl) (by rfl) ?one hrow hB.drew hB.size ?fit ?_
      case one => (intro u hu; simp only [List.mem_cons, List.not_mem_nil, or_false] at hu; rcases hu with rfl | rfl | rfl <;> rfl)
      case fit => omega
      intro v1 w1 hown hbel hg _
      have hgW : W.grownBy w1 v.ownBlock := ⟨hg.os, hg.tape, hg.output, hg.size, hg.block⟩
      have hx1 : Boxed w1 w.heap.size 26 v := hbx.kept hgW (hbx.not_row (by decide) hrow)
      have hs1 : Boxed w1 (w.heap.size + 1) 22 (.slice A l.length cap) := hbs.kept hgW (hbs.not_row (by decide) hrow)
      have hn1 : Boxed w1 (w.heap.size + 2) 3 (.int .i64 3) := hbn.kept hgW (hbn.not_row (by decide) hrow)
      refine hK _ _ (fun _ => ⟨hx1.cell, (hbel.cell (block_lt r0)).trans r0, by rw [← add_field _ _ 1 (by omega)]; exact (hbel.cell (block_lt r1)).trans r1, by rw [← add_field _ _ 2 (by omega)]; exact (hbel.cell (block_lt r2)).trans r2⟩) ?_
      clear hK K
      refine wpAnyE_one (i := 17) (by kernel_rfl) rfl (fun K hK => ?_)
      obtain ⟨g1, cap1, rfl⟩ := ownsRow_succ hown
      have hx1c := hx1.cell
      have hx1f := hx1.frozen
      go_simp
      refine hK _ _ (fun h => absurd rfl h) (wpAnyE_done (by kernel_rfl) ?_)
      clear hK K
      have hO := HP2.out
      refine ⟨(KeepsOthers.of_grownBy hgW fun j o ej hj => ?_).trans (KeepsOthers.setCell _ _ _), ⟨((hs1.other (by omega) _).cell).trans hbs.cell.symm, ((hn1.other (by omega) _).cell).trans hbn.cell.symm⟩, ⟨⟨_, hx1.set _, ?_, trivial⟩, hs1.other (by omega) _, hn1.other (by omega) _⟩, hbel.setCell (p := ⟨w.heap.size, 0, none⟩) (Nat.le_refl _) _⟩
      · rcases hrow.2 with ⟨rfl, _⟩ | ⟨g, cap', cur, rfl, _, hgb, _⟩
        · simp [Value.ownBlock] at ej
        · obtain rfl : g = j := by simpa [Value.ownBlock] using ej
          rw [hgb] at hj; cases hj; rfl
      · rw [hpk.out, hO, pcells_snoc, List.length_append, List.length_singleton]
        exact hown.kept (grownBy_setCell' w1 w.heap.size _) (.inr (hx1.not_row (by decide) hown).symm)
    · have hpk := Lib.hid (pks_none (l := l) pre ⟨x, hx⟩ (by show ¬ 3 * x + 2 < l.length; omega))
      clear hm hr
      have hm3' : ¬ ((m : Int) = 3) := by omega
      gi_wp2
      refine ⟨KeepsOthers.refl _, ⟨rfl, rfl⟩, ⟨⟨v, hbx, ?_, trivial⟩, hbs, hbn⟩, hB⟩
      rw [hpk.out]
      exact hrow
  case done =>
    rintro D ys W hD ⟨k, hk, rfl⟩ ⟨⟨⟨v, hbx, hrow, _⟩, hbs, hbn⟩, hB⟩ hK
    have hc := hbx.cell
    gi_wp2
    refine ⟨by simp, .inl ⟨_, _, rfl, run_takeDeferred hK, ?_⟩⟩
    refine ⟨v, ?_, v, k, rfl, hk, ownsRow_putObj hrow _ hK rfl, hB.trans (belowK_b (w := w) (Nat.le_refl _) W D _ _ (by simp at hD; omega) hK rfl rfl)⟩
    simp [results, Try.f12, go_sem]
  case stop =>
    rintro D c pre W hD hS hf hK
    exact hf.elim
end Go.Proofs.YtonhjnfhaelfkaaHand
