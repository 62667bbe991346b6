/- Two cells are one just if they are of one kind, of one worker, and of numbers that are the same modulo how many there are. No condition. -/
import Derived.Test.YtdglmmpnjbobjaaQLx26
import Derived.Test.YtdglmmpnjbobjaaMath
namespace Go.Proofs.Ytdglmmpnjbobjaa.Pure
open Go.RowKit Go.Proofs.Ytdglmmpnjbobjaa.QL Go.Proofs.YtdglmmpnjbobjaaW.PrintWords Go.Proofs.YtdglmmpnjbobjaaW.PrintLast Go.Proofs.YtdglmmpnjbobjaaW.PrintMore

/-- A cell of a layout, by its kind; r: the number modulo the injector's room; s: modulo a deque's. -/
def cell (D I a w r s : Int) : Int := if a = 0 then 6 + r else if a = 1 then 6 + I + r else if a = 2 then base D I w else if a = 3 then base D I w + 1 else if a = 4 then base D I w + 2 else base D I w + 3 + s

theorem spot_eq {W D I S w a : Int} (h : Ok W D I S) (hw : 0 ≤ w ∧ w < W) (x : Nat) (hx : x < 18446744073709551616) : poacherlaw03_spot.f W D I S a w (x : Int) = some (cell D I a w ((x : Int) % I) ((x : Int) % D)) := by
  unfold poacherlaw03_spot.f cell
  simp only [seq_eq, val_eq, top_eq, bottom_eq, park_eq, slot_eq _ _ _ _ _ x hx, Option.bind_some]
  have g : Ok W D I S ∧ 0 ≤ w ∧ w < W := ⟨h, hw⟩
  simp only [if_pos h, if_pos g]
  repeat' split
  all_goals rfl

theorem kinds {a : Int} (h0 : 0 ≤ a) (h5 : a ≤ 5) : a = 0 ∨ a = 1 ∨ a = 2 ∨ a = 3 ∨ a = 4 ∨ a = 5 := by omega

theorem cell_in {W D I S w a r s : Int} (h : Ok W D I S) (hw : 0 ≤ w ∧ w < W) (hr : 0 ≤ r ∧ r < I) (hs : 0 ≤ s ∧ s < D) : 6 ≤ cell D I a w r s ∧ cell D I a w r s < base D I W := by
  obtain ⟨hW, hD, hI, _⟩ := h
  have hl : base D I W = base D I w + (W - w) * (3 + D) := by unfold base; rw [Int.sub_mul]; omega
  have hm : 3 + D ≤ (W - w) * (3 + D) := by
    have := Int.mul_le_mul_of_nonneg_right (show 1 ≤ W - w by omega) (show 0 ≤ 3 + D by omega)
    omega
  have hb : 6 + 2 * I ≤ base D I w := by
    have := Int.mul_nonneg hw.1 (show 0 ≤ 3 + D by omega)
    unfold base; omega
  rw [hl]
  unfold cell
  generalize (W - w) * (3 + D) = z at *
  generalize base D I w = y at *
  repeat' split
  all_goals omega

theorem base_apart {D I w v : Int} (hD : D = 1 ∨ D = 2 ∨ D = 4 ∨ D = 8 ∨ D = 16) : (w = v → base D I w = base D I v) ∧ (w < v → base D I w + 3 + D ≤ base D I v) ∧ (v < w → base D I v + 3 + D ≤ base D I w) := by
  unfold base
  rcases hD with rfl | rfl | rfl | rfl | rfl <;> omega

theorem cell_one {D I a b w v r s r' s' : Int} (hD : D = 1 ∨ D = 2 ∨ D = 4 ∨ D = 8 ∨ D = 16) (_hI : 1 ≤ I) (hw : 0 ≤ w) (hv : 0 ≤ v) (ha : 0 ≤ a ∧ a ≤ 5) (hb : 0 ≤ b ∧ b ≤ 5) (hr : 0 ≤ r ∧ r < I) (hs : 0 ≤ s ∧ s < D) (hr' : 0 ≤ r' ∧ r' < I) (hs' : 0 ≤ s' ∧ s' < D) :
    cell D I a w r s = cell D I b v r' s' ↔ a = b ∧ ((a < 2 ∧ r = r') ∨ (2 ≤ a ∧ w = v ∧ (a = 5 → s = s'))) := by
  obtain ⟨p1, p2, p3⟩ := base_apart (D := D) (I := I) (w := w) (v := v) hD
  have q1 : 6 + 2 * I ≤ base D I w := by
    have := Int.mul_nonneg hw (show 0 ≤ 3 + D by omega)
    unfold base; omega
  have q2 : 6 + 2 * I ≤ base D I v := by
    have := Int.mul_nonneg hv (show 0 ≤ 3 + D by omega)
    unfold base; omega
  simp only [cell]
  generalize base D I w = y at *
  generalize base D I v = z at *
  rcases kinds ha.1 ha.2 with rfl | rfl | rfl | rfl | rfl | rfl <;> rcases kinds hb.1 hb.2 with rfl | rfl | rfl | rfl | rfl | rfl <;>
    simp only [Int.reduceEq, Int.reduceLT, Int.reduceLE, if_true, if_false, false_and, true_and, and_false, and_true, false_or, or_false, true_implies, false_implies, iff_false] <;> omega

theorem beq_of_iff {p q u v : Int} (h : p = q ↔ u = v) : ((p == q) == (u == v)) = true := by
  by_cases e : p = q
  · rw [beq_iff_eq.2 e, beq_iff_eq.2 (h.1 e)]; rfl
  · rw [beq_eq_false_iff_ne.2 e, beq_eq_false_iff_ne.2 (fun e' => e (h.2 e'))]; rfl
theorem beq_of_not {p q : Int} (h : ¬ p = q) : ((p == q) == false) = true := by
  rw [beq_eq_false_iff_ne.2 h]; rfl

/-- The end of the law: both are in the layout. -/
theorem tail {W D I S p q : Int} {c : Bool} (h : Ok W D I S) (h1 : ((p == q) == c) = true) (hp : 6 ≤ p ∧ p < base D I W) (hq : 6 ≤ q ∧ q < base D I W) :
    (if ((p == q) == c) = true then (if p ≥ 6 then ((lay_Size.f W D I S).bind fun t => (if p < t then (if q ≥ 6 then ((lay_Size.f W D I S).bind fun u => (some (decide (q < u)))) else (some false)) else (some false))) else (some false)) else (some false)) = some true := by
  rw [if_pos h1, if_pos hp.1, size_eq, if_pos h]
  simp only [Option.bind_some]
  rw [if_pos hp.2, if_pos hq.1, decide_eq_true hq.2]

theorem LayApart (W D I S a w x b v y : Int) (_w0 : (Lit.int .i64 W).wf = true) (_w1 : (Lit.int .i64 D).wf = true) (_w2 : (Lit.int .i64 I).wf = true) (_w3 : (Lit.int .i64 S).wf = true) (_w4 : (Lit.int .i64 a).wf = true) (_w5 : (Lit.int .i64 w).wf = true) (w6 : (Lit.int .u64 x).wf = true)
    (_w7 : (Lit.int .i64 b).wf = true) (_w8 : (Lit.int .i64 v).wf = true) (w9 : (Lit.int .u64 y).wf = true) : ∃ k, poacherlaw03_LayApart.f k W D I S a w x b v y = some true := by
  obtain ⟨x, rfl, hx⟩ := nat_of_u64 w6
  obtain ⟨y, rfl, hy⟩ := nat_of_u64 w9
  refine ⟨400, ?_⟩
  unfold poacherlaw03_LayApart.f
  rw [awake_true]
  simp only [Option.bind_some, if_true, may_eq]
  have out : ∀ (x1 x2 x3 x4 x5 x6 y0 y1 y2 y3 : Int), poacherlaw03_LayApart.j0 400 x1 x2 x3 x4 x5 x6 true true y0 y1 y2 y3 = some true := fun x1 x2 x3 x4 x5 x6 y0 y1 y2 y3 => by
    simp only [poacherlaw03_LayApart.j0, if_true]
  by_cases h : Ok W D I S
  · rw [if_pos (decide_eq_true h)]
    by_cases c1 : a < 0
    · rw [if_pos c1]; exact out _ _ _ _ _ _ _ _ _ _
    rw [if_neg c1]
    by_cases c2 : a > 5
    · rw [if_pos c2]; exact out _ _ _ _ _ _ _ _ _ _
    rw [if_neg c2]
    by_cases c3 : b < 0
    · rw [if_pos c3]; exact out _ _ _ _ _ _ _ _ _ _
    rw [if_neg c3]
    by_cases c4 : b > 5
    · rw [if_pos c4]; exact out _ _ _ _ _ _ _ _ _ _
    rw [if_neg c4]
    by_cases c5 : w < 0
    · rw [if_pos c5]; exact out _ _ _ _ _ _ _ _ _ _
    rw [if_neg c5]
    by_cases c6 : v < 0
    · rw [if_pos c6]; exact out _ _ _ _ _ _ _ _ _ _
    rw [if_neg c6]
    by_cases c7 : w ≥ W
    · rw [if_pos c7]; exact out _ _ _ _ _ _ _ _ _ _
    rw [if_neg c7]
    by_cases c8 : v ≥ W
    · rw [decide_eq_true c8]; exact out _ _ _ _ _ _ _ _ _ _
    rw [decide_eq_false c8]
    have hI := h.2.2.1
    have hD := h.2.1
    obtain ⟨mi1, mi2, mi3, mi4⟩ := mod_small x I hI.1 hI.2
    obtain ⟨_, mj2, mj3, mj4⟩ := mod_small y I hI.1 hI.2
    obtain ⟨md1, md2, md3, md4⟩ := mod_small x D (by omega) (by omega)
    obtain ⟨_, me2, me3, me4⟩ := mod_small y D (by omega) (by omega)
    have hp := cell_in (a := a) h (w := w) ⟨by omega, by omega⟩ ⟨mi3, mi4⟩ ⟨md3, md4⟩
    have hq := cell_in (a := b) h (w := v) ⟨by omega, by omega⟩ ⟨mj3, mj4⟩ ⟨me3, me4⟩
    have one := cell_one (a := a) (b := b) hD hI.1 (show 0 ≤ w by omega) (show 0 ≤ v by omega) ⟨by omega, by omega⟩ ⟨by omega, by omega⟩ ⟨mi3, mi4⟩ ⟨md3, md4⟩ ⟨mj3, mj4⟩ ⟨me3, me4⟩
    have eI : IntKind.u64.wrap I = I := by rw [IntKind.wrap_u64]; omega
    have eD : IntKind.u64.wrap D = D := by rw [IntKind.wrap_u64]; omega
    have tI : ∀ z : Nat, Int.tmod (z : Int) I = (z : Int) % I := fun z => Int.tmod_eq_emod_of_nonneg (by omega)
    have tD : ∀ z : Nat, Int.tmod (z : Int) D = (z : Int) % D := fun z => Int.tmod_eq_emod_of_nonneg (by omega)
    simp only [poacherlaw03_LayApart.j0, Bool.false_eq_true, if_false]
    rw [spot_eq h ⟨by omega, by omega⟩ x hx, spot_eq h ⟨by omega, by omega⟩ y hy]
    simp only [Option.bind_some, eI]
    have hI0 : ¬ I = 0 := by omega
    have hD0 : ¬ D = 0 := by omega
    by_cases d1 : a < 2
    · rw [if_pos d1]
      simp only [poacherlaw03_LayApart.j1, eD, tI, tD]
      rw [if_neg (show ¬ a = 5 by omega)]
      by_cases d2 : a = b
      · rw [if_pos d2, if_pos d1, if_neg hI0]
        refine tail h (beq_of_iff (one.trans ?_)) hp hq
        constructor
        · rintro ⟨_, h1 | h1⟩
          · exact h1.2
          · omega
        · intro e; exact ⟨d2, .inl ⟨d1, e⟩⟩
      · rw [if_neg d2]
        exact tail h (beq_of_not (fun e => d2 (one.1 e).1)) hp hq
    · rw [if_neg d1]
      simp only [poacherlaw03_LayApart.j1, eD, tI, tD, Int.tmod_one]
      by_cases d5 : a = 5
      · rw [if_pos d5]
        by_cases d2 : a = b
        · rw [if_pos d2, if_neg d1]
          by_cases d3 : w = v
          · rw [if_pos d3, if_neg hD0]
            refine tail h (beq_of_iff (one.trans ?_)) hp hq
            constructor
            · rintro ⟨_, h1 | h1⟩
              · omega
              · exact h1.2.2 d5
            · intro e; exact ⟨d2, .inr ⟨by omega, d3, fun _ => e⟩⟩
          · rw [if_neg d3]
            refine tail h (beq_of_not (fun e => ?_)) hp hq
            rcases (one.1 e).2 with h1 | h1
            · omega
            · exact d3 h1.2.1
        · rw [if_neg d2]
          exact tail h (beq_of_not (fun e => d2 (one.1 e).1)) hp hq
      · rw [if_neg d5]
        by_cases d2 : a = b
        · rw [if_pos d2, if_neg d1]
          by_cases d3 : w = v
          · rw [if_pos d3, if_neg (by decide)]
            refine tail h (beq_of_iff (one.trans ?_)) hp hq
            constructor
            · intro _; rfl
            · intro _; exact ⟨d2, .inr ⟨by omega, d3, fun e => absurd e d5⟩⟩
          · rw [if_neg d3]
            refine tail h (beq_of_not (fun e => ?_)) hp hq
            rcases (one.1 e).2 with h1 | h1
            · omega
            · exact d3 h1.2.1
        · rw [if_neg d2]
          exact tail h (beq_of_not (fun e => d2 (one.1 e).1)) hp hq
  · rw [if_neg (by rw [decide_eq_true_eq]; exact h)]; exact out _ _ _ _ _ _ _ _ _ _

end Go.Proofs.Ytdglmmpnjbobjaa.Pure
