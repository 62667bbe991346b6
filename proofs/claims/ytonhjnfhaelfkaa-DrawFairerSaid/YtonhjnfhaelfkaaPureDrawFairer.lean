import Derived.Test.YtonhjnfhaelfkaaQDx24
import Derived.Test.YtonhjnfhaelfkaaMath
set_option linter.unusedVariables false
set_option linter.unusedSimpArgs false
namespace Go.Proofs.Ytonhjnfhaelfkaa.Pure
open Go.RowKit Go.Proofs.Ytonhjnfhaelfkaa.QD Go.Proofs.YtonhjnfhaelfkaaW.PrintWords Go.Proofs.YtonhjnfhaelfkaaW.PrintLast Go.Proofs.YtonhjnfhaelfkaaHand

theorem fair_yes (l : List S25) (a b f : Int) (ha : 0 ≤ a ∧ a < 21) (hb : 0 ≤ b ∧ b < 21) (hf : 1 ≤ f) (hl : l.length ≤ 100000) (hf2 : f ≤ 9223372036854775807) : draw_Fair.f l a b f = some (fairOf (roundOf a b 0) (l.map tr25) f.toNat) := by
  unfold draw_Fair.f
  rw [if_pos ⟨hl, hf2⟩, if_pos ⟨ha, hb, hf⟩]

/-- A stretch that holds a stretch that names everybody names everybody. -/
theorem names_wider (ps0 l l' : List (Int × Int × Int)) (f f' x x' : Nat) (h : ∀ q ∈ (l.drop x).take f, q ∈ (l'.drop x').take f') (hn : names ps0 l f x = true) : names ps0 l' f' x' = true := by
  simp only [names, List.all_eq_true, List.any_eq_true] at hn ⊢
  intro p hp
  obtain ⟨q, hq, hs⟩ := hn p hp
  exact ⟨q, h q hq, hs⟩
theorem fairOf_more (ps0 l : List (Int × Int × Int)) (f : Nat) (hf : 1 ≤ f) (h : fairOf ps0 l f = true) : fairOf ps0 l (f + 1) = true := by
  rw [fairOf_iff _ _ _ (by omega)] at h ⊢
  intro x hx
  refine names_wider ps0 l l f (f + 1) x x (fun q hq => ?_) (h x (by omega))
  rw [List.take_add_one]
  exact List.mem_append_left _ hq
theorem fairOf_part (ps0 l : List (Int × Int × Int)) (f i k : Nat) (hf : 1 ≤ f) (h : fairOf ps0 l f = true) : fairOf ps0 ((l.take k).drop i) f = true := by
  rw [fairOf_iff _ _ _ hf] at h ⊢
  intro x hx
  simp only [List.length_drop, List.length_take] at hx
  refine names_wider ps0 l _ f f (i + x) x (fun q hq => ?_) (h (i + x) (by omega))
  have e : ((List.take k l).drop i).drop x = (l.drop (i + x)).take (k - (i + x)) := by rw [List.drop_drop, List.drop_take]
  rw [e, List.take_take]
  rwa [Nat.min_eq_left (by omega)]
theorem fairOf_nobody (l : List (Int × Int × Int)) (f : Nat) : fairOf (roundOf 0 0 0) l f = true := by
  have : roundOf 0 0 0 = [] := by decide
  rw [this]
  simp [fairOf, names]
theorem fairOf_nil (ps0 : List (Int × Int × Int)) (f : Nat) (hf : 1 ≤ f) : fairOf ps0 [] f = true := by
  rw [fairOf_iff _ _ _ hf]
  intro x hx
  simp at hx
  omega

theorem DrawFairer (l : List S25) (a1 a2 a3 a4 a5 : Int) (w1 : (Lit.int .i64 a1).wf = true) (w2 : (Lit.int .i64 a2).wf = true) (w3 : (Lit.int .i64 a3).wf = true) (w4 : (Lit.int .i64 a4).wf = true) (w5 : (Lit.int .i64 a5).wf = true) :
    ∃ k, poacherlaw05_DrawFairer.f k l a1 a2 a3 a4 a5 = some true := by
  obtain ⟨k, hk⟩ : ∃ k : Nat, 50 ≤ k := ⟨50, Nat.le_refl _⟩
  refine ⟨k + 1, ?_⟩
  unfold poacherlaw05_DrawFairer.f
  rw [awake_k (by omega)]
  simp only [Option.bind_some, if_true]
  have stop : poacherlaw05_DrawFairer.j0 (k + 1) l a1 a2 a3 a4 a5 true true = some true := by rw [poacherlaw05_DrawFairer.j0, if_pos rfl]
  split
  · exact stop
  split
  · exact stop
  split
  · exact stop
  split
  · exact stop
  split
  · exact stop
  split
  · exact stop
  split
  · exact stop
  split
  · exact stop
  split
  · exact stop
  by_cases h9 : a2 > 20
  · rw [decide_eq_true h9]; exact stop
  rw [decide_eq_false h9, poacherlaw05_DrawFairer.j0, if_neg (by simp)]
  rename_i h0 h1 h2 h3 h4 h5 h6 h7 h8
  have hl : l.length ≤ 60 := by omega
  have e1 : wrap64 (a3 + 1) = a3 + 1 := by unfold wrap64; omega
  rw [e1, if_pos (by omega), if_pos (by omega), if_pos (by omega)]
  have hlp : ((l.take a5.toNat).drop a4.toNat).length ≤ 100000 := by simp; omega
  rw [fair_yes l a1 a2 a3 (by omega) (by omega) (by omega) (by omega) (by omega), fair_yes l a1 a2 (a3 + 1) (by omega) (by omega) (by omega) (by omega) (by omega), fair_yes _ a1 a2 a3 (by omega) (by omega) (by omega) hlp (by omega), fair_yes l 0 0 a3 (by omega) (by omega) (by omega) (by omega) (by omega), fair_yes [] a1 a2 a3 (by omega) (by omega) (by omega) (by simp) (by omega), fairOf_nobody, List.map_nil, fairOf_nil _ _ (by omega)]
  simp only [Option.bind_some, if_true]
  by_cases hfair : fairOf (roundOf a1 a2 0) (l.map tr25) a3.toNat = true
  · rw [if_pos hfair, show (a3 + 1).toNat = a3.toNat + 1 from by omega, fairOf_more _ _ _ (by omega) hfair, if_pos rfl, List.map_drop, List.map_take, fairOf_part _ _ _ _ _ (by omega) hfair, if_pos rfl]
  · rw [if_neg hfair]

end Go.Proofs.Ytonhjnfhaelfkaa.Pure
