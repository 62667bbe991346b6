-- Written by inj.py (a program of this session), by the kit's print with functions given by hand. Not trusted: Lean checks it.
import Derived.Test.YtonhjnfhaelfkaaQDx0
namespace Go.Proofs.Ytonhjnfhaelfkaa.QD
open Go.RowKit Go.Proofs.YtonhjnfhaelfkaaW.PrintWords Go.Proofs.YtonhjnfhaelfkaaW.PrintLast Go.Proofs.YtonhjnfhaelfkaaW.PrintMore
attribute [local go_sem] max2_int min2_int max_two min_two max_three min_three max_four min_four   -- for this text's walks alone
set_option linter.unusedVariables false
set_option linter.unusedSimpArgs false

/-! ### draw_Decode: function 12 -/
def tr25 (x : S25) : Int × Int × Int := (x.f0, x.f1, x.f2)
def s25 (p : Int × Int × Int) : S25 := ⟨p.1, p.2.1, p.2.2⟩
theorem tr_s25 (ps : List (Int × Int × Int)) : (ps.map s25).map tr25 = ps := by rw [List.map_map]; exact List.map_id ps
theorem s_tr25 (xs : List S25) : (xs.map tr25).map s25 = xs := by rw [List.map_map]; exact List.map_id xs
theorem R25_of {w : World} {base : Nat} {v : Value} (ps : List (Int × Int × Int)) (h : w.ownsRow base 25 3 v ps.length (Go.Proofs.YtonhjnfhaelfkaaHand.pcells ps)) : Kd.R k25 25 w base (fun _ => True) v (ps.map s25) := by
  refine ⟨fun _ _ => trivial, Go.Proofs.YtonhjnfhaelfkaaHand.pcells ps, by rw [List.length_map]; exact h, by rw [List.length_map]; exact Go.Proofs.YtonhjnfhaelfkaaHand.pcells_length ps, fun j p hj => ?_⟩
  rw [List.getElem?_map, Option.map_eq_some_iff] at hj
  obtain ⟨q, hq, rfl⟩ := hj
  have e : ((Go.Proofs.YtonhjnfhaelfkaaHand.pcells ps).drop (j * k25.sz)).take k25.sz = _ := Go.Proofs.YtonhjnfhaelfkaaHand.pcells_seg ps j q hq
  rw [e]
  exact k25_mkM _ _ _ (s25 q)
theorem R25_own {w : World} {base : Nat} {ok : Nat → Prop} {v : Value} {r : List S25} (h : Kd.R k25 25 w base ok v r) : w.ownsRow base 25 3 v (r.map tr25).length (Go.Proofs.YtonhjnfhaelfkaaHand.pcells (r.map tr25)) := by
  obtain ⟨_, inner, hown, hr⟩ := h
  have e : inner = Go.Proofs.YtonhjnfhaelfkaaHand.pcells (r.map tr25) := Go.Proofs.YtonhjnfhaelfkaaHand.pcells_of _ _ (by rw [List.length_map]; exact hr.1) (fun j p hj => by
    rw [List.getElem?_map, Option.map_eq_some_iff] at hj
    obtain ⟨q, hq, rfl⟩ := hj
    exact k25_openM (hr.2 j q hq))
  rw [List.length_map, ← e]
  exact hown
theorem C25_PR {w : World} {A : Option Addr} {n : Nat} {l : List S25} (h : Kd.C k25 w A n l) : ∃ ad, (0 < l.length → A = some ad) ∧ Go.Proofs.YtonhjnfhaelfkaaHand.PR w ad (l.map tr25) := by
  by_cases hn : 0 < n
  · obtain ⟨ad, e, hc⟩ := h.2.2 hn
    refine ⟨ad, fun _ => e, fun j p hj => ?_⟩
    rw [List.getElem?_map, Option.map_eq_some_iff] at hj
    obtain ⟨q, hq, rfl⟩ := hj
    obtain ⟨c, hcl, hK, hcell0⟩ := hc j q hq
    have hcell : ∀ i u, c[i]? = some u → w.cell? (ad.add (j * 3 + i)) = some u := hcell0
    obtain rfl := k25_open hK
    exact ⟨hcell 0 _ rfl, by rw [← add_field _ _ 1 (by omega)]; exact hcell 1 _ rfl, by rw [← add_field _ _ 2 (by omega)]; exact hcell 2 _ rfl⟩
  · have h0 : l = [] := List.eq_nil_of_length_eq_zero (by have := h.1; omega)
    subst h0
    exact ⟨⟨0, 0, none⟩, fun hh => absurd hh (by simp), fun j p hj => by simp at hj⟩
def draw_Decode.f (l0 : List Int) : Option (List (S25)) := if l0.length ≤ 100000 then some ((Go.Proofs.YtonhjnfhaelfkaaHand.decoded l0).map s25) else none
theorem draw_Decode.calls (A0 : Option Addr) (c0 : Nat) (l0 : List Int) (r : List (S25)) (w : World) (hr0 : Kd.C (Kd.int .u8) w A0 l0.length l0) (hc0 : l0.length ≤ c0) (h : draw_Decode.f l0 = some r) :
    Calls Try.prog 12 #[.slice A0 l0.length c0] w fun e w' => ∃ v0_ : Value, e = .returned (v0_) ∧ Kd.R k25 25 w' w.heap.size (fun _ => True) v0_ r ∧ Below w.heap.size w w' := by
  unfold draw_Decode.f at h
  by_cases hl : l0.length ≤ 100000
  · rw [if_pos hl] at h
    obtain rfl := Option.some.inj h
    have hA : ∃ ad, (0 < l0.length → A0 = some ad) ∧ ∀ (j : Nat) (u : Int), l0[j]? = some u → w.cell? (ad.add j) = some (.int .u8 u) := by
      by_cases h0 : 0 < l0.length
      · obtain ⟨ad, e, hc⟩ := hr0.2.2 h0
        refine ⟨ad, fun _ => e, fun j u hj => ?_⟩
        obtain ⟨c, hcl, hK, hcell⟩ := hc j u hj
        obtain rfl : c = [.int .u8 u] := hK
        have := hcell 0 _ rfl
        have e1 : j * (Kd.int .u8).sz + 0 = j := by show j * 1 + 0 = j; omega
        rwa [e1] at this
      · exact ⟨⟨0, 0, none⟩, fun hh => absurd hh h0, fun j u hj => absurd (List.getElem?_eq_some_iff.1 hj).1 (by omega)⟩
    obtain ⟨ad, hA1, hA2⟩ := hA
    exact (Go.Proofs.YtonhjnfhaelfkaaHand.Decode_calls A0 ad c0 l0 hA1 hl hc0 w hA2).mono fun e w' ⟨v, he, ho, hb⟩ => ⟨v, he, R25_of _ ho, hb⟩
  · rw [if_neg hl] at h
    cases h

end Go.Proofs.Ytonhjnfhaelfkaa.QD
