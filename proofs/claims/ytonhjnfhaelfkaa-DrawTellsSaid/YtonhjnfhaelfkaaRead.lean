/- A row of picks that the caller hands in, opened. No condition. -/
import Derived.Test.YtonhjnfhaelfkaaQDx0
import Derived.Deep.Slices
import Derived.Deep.Strs
import Derived.OpenShut
set_option linter.unusedVariables false
set_option linter.unusedSimpArgs false
namespace Go.Proofs.Ytonhjnfhaelfkaa.QD
open Go.RowKit Go.Proofs.YtonhjnfhaelfkaaW.PrintWords Go.Proofs.YtonhjnfhaelfkaaW.PrintLast Go.Proofs.YtonhjnfhaelfkaaW.PrintMore

theorem open_picks {H : Type} {enc : TypeId × Value → H} {W : World} {A : Option Addr} {len cap : Nat} {d : DataW H} {p : List MemPlace} (h : ∃ fuel, DataW.trod enc Try.prog W 0 (fun _ => true) true fuel 26 (Value.slice A len cap).cells.toList = some (d, p)) :
    ∃ l : List S25, len = l.length ∧ Kd.C k25 W A len l ∧ len ≤ cap := by
  obtain ⟨fuel, hf⟩ := h
  rcases Go.Deep.open_slice Try.underlying26 hf with ⟨hcs, _⟩ | ⟨a, ln, c, m, n, D, Pl, hcs, _, hl, hm, hmm, _, hx⟩
  · simp [Value.cells] at hcs
    obtain ⟨rfl, rfl, rfl⟩ := hcs
    exact ⟨[], rfl, ⟨rfl, by omega, fun h => absurd h (by omega)⟩, Nat.le_refl _⟩
  · simp [Value.cells] at hcs
    obtain ⟨rfl, rfl, rfl⟩ := hcs
    have hlm : len ≤ m := by rw [hmm]; simpa using hl
    have e3 : Try.prog.cellsOf 25 = 3 := by kernel_rfl
    have c3 : Try.prog.cellsOf 3 = 1 := by kernel_rfl
    have c23 : Try.prog.cellsOf 23 = 1 := by kernel_rfl
    rw [e3] at hx
    haveI : Inhabited S25 := ⟨z25⟩
    obtain ⟨V, hV⟩ := Go.Deep.choose_lt (α := S25) (n := len) (p := fun i s => W.cell? (a.add (i * 3 + 0)) = some (.int .i64 s.f0) ∧ W.cell? (a.add (i * 3 + 1)) = some (.int .i64 s.f1) ∧ W.cell? (a.add (i * 3 + 2)) = some (.int .u64 s.f2)) (fun i hi => by
      obtain ⟨cs', h1, h2⟩ := hx i (by omega)
      obtain ⟨_, hlen, hc⟩ := World.cells?_some h1
      obtain ⟨y0, y1, y2, n', _, _, t0, t1, t2⟩ := Go.Deep.trod_struct3 Try.underlying25 h2
      dsimp only at t0 t1 t2
      rw [c3] at t0 t1
      rw [c23] at t2
      match cs', hlen with
      | [u0, u1, u2], _ =>
        simp only [List.drop_zero, List.drop_succ_cons, List.take_succ_cons, List.take_zero] at t0 t1 t2
        obtain ⟨b0, e0, _, _⟩ := DataW.trod_int Try.underlying3 t0
        obtain ⟨b1, e1, _, _⟩ := DataW.trod_int Try.underlying3 t1
        obtain ⟨b2, e2, _, _⟩ := DataW.trod_int Try.underlying23 t2
        simp only [List.cons.injEq, and_true] at e0 e1 e2
        subst e0 e1 e2
        have hh : ∀ j, (a.add (i * 3)).add j = a.add (i * 3 + j) := fun j => by unfold Addr.add; by_cases hx : i * 3 = 0 <;> by_cases hj : j = 0 <;> simp [hx, hj, Nat.add_assoc]
        have g0 := hc 0 (by omega)
        have g1 := hc 1 (by omega)
        have g2 := hc 2 (by omega)
        rw [hh] at g0 g1 g2
        exact ⟨⟨b0, b1, b2⟩, g0, g1, g2⟩)
    have hll : ((List.range len).map V).length = len := by simp
    refine ⟨(List.range len).map V, hll.symm, ⟨hll, by simp only [maxLen] at hm; omega, fun _ => ⟨a, rfl, fun j q hq => ?_⟩⟩, hl⟩
    have hj : j < len := by have := (List.getElem?_eq_some_iff.1 hq).1; omega
    obtain rfl : V j = q := by simpa [List.getElem?_range hj] using hq
    refine ⟨_, rfl, k25_mk W (V j), fun i u hu => ?_⟩
    obtain ⟨v0, v1, v2⟩ := hV j hj
    match i, hu with
    | 0, hu => obtain rfl := Option.some.inj hu; exact v0
    | 1, hu => obtain rfl := Option.some.inj hu; exact v1
    | 2, hu => obtain rfl := Option.some.inj hu; exact v2

theorem open_bytes {H : Type} {enc : TypeId × Value → H} {W : World} {A : Option Addr} {len cap : Nat} {d : DataW H} {p : List MemPlace} (h : ∃ fuel, DataW.trod enc Try.prog W 0 (fun _ => true) true fuel 22 (Value.slice A len cap).cells.toList = some (d, p)) :
    ∃ l : List Int, len = l.length ∧ Kd.C (Kd.int .u8) W A len l ∧ len ≤ cap ∧ ∀ x ∈ l, (Lit.int .u8 x).wf = true := by
  obtain ⟨fuel, hf⟩ := h
  rcases Go.Deep.open_slice1 Try.underlying22 (by kernel_rfl) hf with ⟨hcs, _⟩ | ⟨a, ln, c, m, n, V, D, Pl, hcs, _, hl, hm, hmm, _, hx⟩
  · simp [Value.cells] at hcs
    obtain ⟨rfl, rfl, rfl⟩ := hcs
    exact ⟨[], rfl, ⟨rfl, by omega, fun h => absurd h (by omega)⟩, Nat.le_refl _, fun x hx => by cases hx⟩
  · simp [Value.cells] at hcs
    obtain ⟨rfl, rfl, rfl⟩ := hcs
    have hlm : len ≤ m := by rw [hmm]; simpa using hl
    obtain ⟨U, hU⟩ := Go.Deep.choose_lt (α := Int) (n := len) (p := fun i s => W.cell? (a.add i) = some (.int .u8 s) ∧ (Lit.int .u8 s).wf = true) (fun i hi => by
      obtain ⟨h1, h2⟩ := hx i (by omega)
      obtain ⟨b0, e0, _, w0⟩ := DataW.trod_int Try.underlying5 h2
      simp only [List.cons.injEq, and_true] at e0
      exact ⟨b0, by rw [h1, e0], w0⟩)
    have hll : ((List.range len).map U).length = len := by simp
    refine ⟨(List.range len).map U, hll.symm, ⟨hll, by simp only [maxLen] at hm; omega, fun _ => ⟨a, rfl, fun j q hq => ?_⟩⟩, hl, fun x hx => ?_⟩
    · have hj : j < len := by have := (List.getElem?_eq_some_iff.1 hq).1; omega
      obtain rfl : U j = q := by simpa [List.getElem?_range hj] using hq
      refine ⟨[.int .u8 (U j)], rfl, rfl, fun i u hu => ?_⟩
      match i, hu with
      | 0, hu =>
        obtain rfl := Option.some.inj hu
        have e1 : j * (Kd.int .u8).sz + 0 = j := by show j * 1 + 0 = j; omega
        rw [e1]
        exact (hU j hj).1
    · obtain ⟨j, hj, rfl⟩ := List.mem_map.1 hx
      exact (hU j (List.mem_range.1 hj)).2
end Go.Proofs.Ytonhjnfhaelfkaa.QD
