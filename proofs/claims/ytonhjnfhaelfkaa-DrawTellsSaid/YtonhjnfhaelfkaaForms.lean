/- The contracts of draw.Decode and draw.Fair in closed form. -/
import Derived.Test.YtonhjnfhaelfkaaFair
set_option linter.unusedVariables false
set_option linter.unusedSimpArgs false
namespace Go.Proofs.YtonhjnfhaelfkaaHand
open Go Go.Proofs Go.RowKit Go.Proofs.YtonhjnfhaelfkaaBridge Go.Shelf Go.Proofs.YtonhjnfhaelfkaaW.PrintWords Go.Proofs.YtonhjnfhaelfkaaW.PrintLast Go.Proofs.YtonhjnfhaelfkaaW.PrintMore

theorem pcells_seg : ∀ (ps : List (Int × Int × Int)) (j : Nat) (p : Int × Int × Int), ps[j]? = some p → ((pcells ps).drop (j * 3)).take 3 = [.int .i64 p.1, .int .i64 p.2.1, .int .u64 p.2.2]
  | [], j, p, h => by simp at h
  | q :: ps, 0, p, h => by
    obtain rfl : q = p := by simpa using h
    simp [pcells]
  | q :: ps, j + 1, p, h => by
    have h1 := pcells_seg ps j p (by simpa using h)
    have e : pcells (q :: ps) = .int .i64 q.1 :: .int .i64 q.2.1 :: .int .u64 q.2.2 :: pcells ps := by simp [pcells]
    rw [e, show (j + 1) * 3 = j * 3 + 1 + 1 + 1 from by omega]
    simpa using h1
theorem pcells_of : ∀ (ps : List (Int × Int × Int)) (cs : List Value), cs.length = ps.length * 3 → (∀ j p, ps[j]? = some p → (cs.drop (j * 3)).take 3 = [.int .i64 p.1, .int .i64 p.2.1, .int .u64 p.2.2]) → cs = pcells ps
  | [], cs, hl, _ => by simpa [pcells] using hl
  | q :: ps, cs, hl, h => by
    have h0 := h 0 q rfl
    rw [Nat.zero_mul, List.drop_zero] at h0
    have ih := pcells_of ps (cs.drop 3) (by simp at hl ⊢; omega) (fun j p hj => by
      have := h (j + 1) p (by simpa using hj)
      rw [List.drop_drop, show 3 + j * 3 = (j + 1) * 3 from by omega]
      exact this)
    have e : pcells (q :: ps) = [.int .i64 q.1, .int .i64 q.2.1, .int .u64 q.2.2] ++ pcells ps := by simp [pcells]
    rw [e, ← ih, ← h0, List.take_append_drop]
theorem pcells_length (ps : List (Int × Int × Int)) : (pcells ps).length = ps.length * 3 := by
  induction ps with
  | nil => rfl
  | cons q ps ih => rw [show pcells (q :: ps) = .int .i64 q.1 :: .int .i64 q.2.1 :: .int .u64 q.2.2 :: pcells ps from by simp [pcells]]; simp [ih]; omega

/-- The picks of so many bytes. -/
def decoded (l : List Int) : List (Int × Int × Int) := (List.range (l.length / 3)).map fun x => pickOf (l.getD (3 * x) 0) (l.getD (3 * x + 1) 0) (l.getD (3 * x + 2) 0)
theorem picks_all (l : List Int) : ∀ m, m ≤ l.length / 3 → (List.range m).filterMap (pickAt l) = (List.range m).map fun x => pickOf (l.getD (3 * x) 0) (l.getD (3 * x + 1) 0) (l.getD (3 * x + 2) 0) := by
  intro m
  induction m with
  | zero => intro _; rfl
  | succ m ih =>
    intro h
    rw [List.range_succ, List.filterMap_append, List.map_append, ih (by omega)]
    simp [pickAt, show 3 * m + 2 < l.length from by omega]
theorem picks_more (l : List Int) (j : Nat) : (List.range (l.length / 3 + j)).filterMap (pickAt l) = decoded l := by
  induction j with
  | zero => exact picks_all l _ (Nat.le_refl _)
  | succ j ih =>
    rw [← Nat.add_assoc, List.range_succ, List.filterMap_append, ih]
    simp [pickAt, show ¬ 3 * (l.length / 3 + j) + 2 < l.length from by omega]
theorem pks_decoded (l : List Int) (k : Nat) (h : l.length ≤ 3 * k) : pks l (chunksTo l.length k) = decoded l := by
  rw [← picks_more l (k - l.length / 3), show l.length / 3 + (k - l.length / 3) = k from by omega, pks, chunksTo, List.filterMap_filterMap]
  congr 1
  funext x
  by_cases hx : 3 * x < l.length
  · simp [hx]
  · simp [hx, pickAt, show ¬ 3 * x + 2 < l.length from by omega]

theorem Decode_calls (A : Option Addr) (ad : Addr) (cap : Nat) (l : List Int) (hA : 0 < l.length → A = some ad) (hlen : l.length ≤ 100000) (hcap : l.length ≤ cap) (w : World)
    (hr : ∀ (j : Nat) (u : Int), l[j]? = some u → w.cell? (ad.add j) = some (.int .u8 u)) :
    Calls Try.prog 12 #[.slice A l.length cap] w fun e W' => ∃ v, e = .returned v ∧ W'.ownsRow w.heap.size 25 3 v (decoded l).length (pcells (decoded l)) ∧ Below w.heap.size w W' :=
  (callsIn_wide.1 (Decode_in 3 (Nat.le_refl _) A ad cap l hA hlen hcap w hr)).mono fun e W' ⟨v, k, he, hk, ho, hb⟩ => ⟨v, he, by rw [pks_decoded l k hk] at ho; exact ho, hb⟩

/-- What Fair answers, of stretches of f, of a round ps0. -/
def fairOf (ps0 l : List (Int × Int × Int)) (f : Nat) : Bool := (List.range (l.length + 1)).all fun x => !decide (x + f ≤ l.length) || names ps0 l f x
theorem fairOf_iff (ps0 l : List (Int × Int × Int)) (f : Nat) (hf : 1 ≤ f) : fairOf ps0 l f = true ↔ ∀ x, x + f ≤ l.length → names ps0 l f x = true := by
  unfold fairOf
  simp only [List.all_eq_true, List.mem_range, Bool.or_eq_true, Bool.not_eq_true', decide_eq_false_iff_not]
  constructor
  · intro h x hx
    exact (h x (by omega)).resolve_left (fun hh => hh hx)
  · intro h x _
    by_cases hx : x + f ≤ l.length
    · exact .inr (h x hx)
    · exact .inl hx
theorem Fair_calls (A : Option Addr) (ad : Addr) (cap : Nat) (l ps0 : List (Int × Int × Int)) (a b f : Int) (ha : 0 ≤ a ∧ a < 21) (hb : 0 ≤ b ∧ b < 21) (hf : 1 ≤ f) (hf2 : f ≤ 9223372036854775807)
    (hA : 0 < l.length → A = some ad) (hlen : l.length ≤ 100000) (hcap : l.length ≤ cap) (hps0 : ps0.length ≤ 100000) (w : World) (hr : PR w ad l)
    (hR : ∀ W, Calls Try.prog 14 #[.int .i64 a, .int .i64 b, .int .u64 0] W fun e w' => ∃ v, e = .returned v ∧ w'.ownsRow W.heap.size 25 3 v ps0.length (pcells ps0) ∧ Below W.heap.size W w') :
    Calls Try.prog 21 #[.slice A l.length cap, .int .i64 a, .int .i64 b, .int .i64 f] w fun e W' => e = .returned (.bool (fairOf ps0 l f.toNat)) ∧ Below w.heap.size w W' := by
  have h := callsIn_wide.1 (Fair_in 5 (Nat.le_refl _) A ad cap l ps0 a b f.toNat ha hb (by omega) (by omega) hA hlen hcap hps0 w hr hR)
  rw [show ((f.toNat : Nat) : Int) = f from by omega] at h
  refine h.mono ?_
  rintro e W' ⟨⟨r, rfl, hr⟩, hB⟩
  refine ⟨?_, hB⟩
  have := fairOf_iff ps0 l f.toNat (by omega)
  congr 2
  cases r
  · cases hx : fairOf ps0 l f.toNat
    · rfl
    · exact absurd (hr.2 (this.1 hx)) (by simp)
  · exact (this.2 (hr.1 rfl)).symm
theorem Fair_no_calls (A : Option Addr) (len cap : Nat) (a b f : Int) (h : ¬ ((0 ≤ a ∧ a < 21) ∧ (0 ≤ b ∧ b < 21) ∧ 1 ≤ f)) (w : World) :
    Calls Try.prog 21 #[.slice A len cap, .int .i64 a, .int .i64 b, .int .i64 f] w fun e W' => e = .returned (.bool false) ∧ Below w.heap.size w W' := callsIn_wide.1 (Fair_no 3 (by omega) A len cap a b f h w)
/-- A round of all. -/
def roundOf (a b d : Int) : List (Int × Int × Int) := (List.range a.toNat).map (fun i : Nat => (0, (i : Int), d)) ++ (List.range b.toNat).map (fun i : Nat => (1, (i : Int), d))
end Go.Proofs.YtonhjnfhaelfkaaHand
