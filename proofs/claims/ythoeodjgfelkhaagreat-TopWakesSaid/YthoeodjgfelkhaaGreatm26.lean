/- Part 26 of the claim on TopWakes: the hand's over, found; pool.tasks; the hand's pend. No condition. -/
import Derived.Test.YthoeodjgfelkhaaGreatm24
import Derived.Test.YthoeodjgfelkhaaGreatm25
set_option linter.unusedVariables false
set_option linter.unusedSimpArgs false
set_option maxRecDepth 100000
set_option maxHeartbeats 8000000
namespace Go.Proofs.YthoeodjgfelkhaaGreat.QT
open Go.RowKit Go.Proofs.YthoeodjgfelkhaaGreatW.PrintWords Go.Proofs.YthoeodjgfelkhaaGreatW.PrintLast Go.Proofs.YthoeodjgfelkhaaGreatW.PrintMore
attribute [local go_sem] max2_int min2_int max_two min_two
theorem hand_over (k : HK) (x : Hd) (f' : S66) (m' : List Int) (hs : STEP (whoF x.f) k.c x.f x.m f' m') (x' : Hd) (hT : Kd.C k45 k.wb k.At k.t.length k.t) (hct : k.t.length ≤ k.ct) (s' : List S116) (he : x.ev.length ≤ 1000000) (hst : STARTP k.t x.st (wrap64 f'.f3) s') (hx : x' = if f'.f6 = 0 then { x with f := f', m := m' } else if f'.f6 = 2 then { x with m := m', pc := 9, f := ⟨0, 0, 0, 0, 0, 0, 0⟩, st := s', ev := x.ev ++ [⟨2, wrap64 f'.f3, k.wn⟩] } else { x with m := m', pc := 13, f := ⟨0, 0, 0, 0, 0, 0, 0⟩ }) : HDoes 87 [] k x (x') := by
 intro W g v1 vm ve h
 obtain ⟨A1, c1, rfl⟩ := Kd.R_slice h.rs
 obtain ⟨Am, cm, rfl⟩ := Kd.R_slice h.rm
 obtain ⟨Ae, ce, rfl⟩ := Kd.R_slice h.re
 have HS0 := qQ h
 have HHS := qQ hs
 have HHT := qQ hT
 have HHCT := qQ hct
 have HHST := qQ hst
 have HHE := qQ he
 clear h hs hT hct hst he
 show Calls Tryz.prog 87 #[.pointer (some ⟨g, 0, none⟩)] W _
 go_enter Tryz.func87, Tryz.ntmps87
 have h0 := handCells HS0.o.hb; have hz := HSt.frozen HS0.o
 by_cases n0 : f'.f6 = 0
 ·rw [if_pos n0] at hx
  subst hx
  go_wp2_with (first | (go_at_call 107; with_reducible refine (hand_call k x f' m' HHS.o _ g _ _ _ HS0.o.self).mono ?_; rintro e w1 ⟨rfl, va, vb, vc, hs⟩; obtain ⟨A1_1, c1_1, e1⟩ := Kd.R_slice hs.rs; subst e1; obtain ⟨Am_1, cm_1, e2⟩ := Kd.R_slice hs.rm; subst e2; obtain ⟨Ae_1, ce_1, e3⟩ := Kd.R_slice hs.re; subst e3; have HS1 := qQ (HS0.o.tr hs); clear hs; clear h0 hz; have h0 := handCells HS1.o.hb; have hz := HSt.frozen HS1.o))
  first | go_end0 | ((try simp only [Exit.inBlock, Exit.then]); refine bodyPost_ret (results_none rfl _ _ _) rfl ?_)
  exact ⟨⟨_, rfl⟩, _, _, _, HS1.o⟩
 by_cases n2 : f'.f6 = 2
 ·rw [if_neg n0, if_pos n2] at hx
  subst hx
  have nb : (f'.f6 != 0) = true := by simpa using n0
  go_wp2_with (first | (go_at_call 107; with_reducible refine (hand_call k x f' m' HHS.o _ g _ _ _ HS0.o.self).mono ?_; rintro e w2 ⟨rfl, va, vb, vc, hs⟩; obtain ⟨A1_2, c1_2, e1⟩ := Kd.R_slice hs.rs; subst e1; obtain ⟨Am_2, cm_2, e2⟩ := Kd.R_slice hs.rm; subst e2; obtain ⟨Ae_2, ce_2, e3⟩ := Kd.R_slice hs.re; subst e3; have HS2 := qQ (HS0.o.tr hs); clear hs; clear h0 hz; have h0 := handCells HS2.o.hb; have hz := HSt.frozen HS2.o) | (go_at_call 108; with_reducible refine (hand_to k { x with f := f', m := m' } 9 _ g _ _ _ HS2.o.self).mono ?_; rintro e w3 ⟨⟨u_, rfl⟩, va, vb, vc, hs⟩; obtain ⟨A1_3, c1_3, e1⟩ := Kd.R_slice hs.rs; subst e1; obtain ⟨Am_3, cm_3, e2⟩ := Kd.R_slice hs.rm; subst e2; obtain ⟨Ae_3, ce_3, e3⟩ := Kd.R_slice hs.re; subst e3; have HS3 := qQ (HS2.o.tr hs); clear hs; clear h0 hz; have h0 := handCells HS3.o.hb; have hz := HSt.frozen HS3.o) | (go_at_call 109; with_reducible refine (hand_start k { x with m := m', pc := 9, f := ⟨0, 0, 0, 0, 0, 0, 0⟩ } (f'.f3) s' HHT.o HHCT.o HHST.o HHE.o _ g _ _ _ HS3.o.self).mono ?_; rintro e w4 ⟨⟨u_, rfl⟩, va, vb, vc, hs⟩; obtain ⟨A1_4, c1_4, e1⟩ := Kd.R_slice hs.rs; subst e1; obtain ⟨Am_4, cm_4, e2⟩ := Kd.R_slice hs.rm; subst e2; obtain ⟨Ae_4, ce_4, e3⟩ := Kd.R_slice hs.re; subst e3; have HS4 := qQ (HS3.o.tr hs); clear hs; clear h0 hz; have h0 := handCells HS4.o.hb; have hz := HSt.frozen HS4.o))
  first | go_end0 | ((try simp only [Exit.inBlock, Exit.then]); refine bodyPost_ret (results_none rfl _ _ _) rfl ?_)
  exact ⟨⟨_, rfl⟩, _, _, _, HS4.o⟩
 ·rw [if_neg n0, if_neg n2] at hx
  subst hx
  have nb : (f'.f6 != 0) = true := by simpa using n0
  go_wp2_with (first | (go_at_call 107; with_reducible refine (hand_call k x f' m' HHS.o _ g _ _ _ HS0.o.self).mono ?_; rintro e w5 ⟨rfl, va, vb, vc, hs⟩; obtain ⟨A1_5, c1_5, e1⟩ := Kd.R_slice hs.rs; subst e1; obtain ⟨Am_5, cm_5, e2⟩ := Kd.R_slice hs.rm; subst e2; obtain ⟨Ae_5, ce_5, e3⟩ := Kd.R_slice hs.re; subst e3; have HS5 := qQ (HS0.o.tr hs); clear hs; clear h0 hz; have h0 := handCells HS5.o.hb; have hz := HSt.frozen HS5.o) | (go_at_call 108; with_reducible refine (hand_to k { x with f := f', m := m' } 13 _ g _ _ _ HS5.o.self).mono ?_; rintro e w6 ⟨⟨u_, rfl⟩, va, vb, vc, hs⟩; obtain ⟨A1_6, c1_6, e1⟩ := Kd.R_slice hs.rs; subst e1; obtain ⟨Am_6, cm_6, e2⟩ := Kd.R_slice hs.rm; subst e2; obtain ⟨Ae_6, ce_6, e3⟩ := Kd.R_slice hs.re; subst e3; have HS6 := qQ (HS5.o.tr hs); clear hs; clear h0 hz; have h0 := handCells HS6.o.hb; have hz := HSt.frozen HS6.o))
  first | go_end0 | ((try simp only [Exit.inBlock, Exit.then]); refine bodyPost_ret (results_none rfl _ _ _) rfl ?_)
  exact ⟨⟨_, rfl⟩, _, _, _, HS6.o⟩
theorem hand_found (k : HK) (x : Hd) (r : Int) (m' : List Int) (x' : Hd) (hT : Kd.C k45 k.wb k.At k.t.length k.t) (hct : k.t.length ≤ k.ct) (s' : List S116) (he : x.ev.length ≤ 1000000) (hn : x.m.length ≤ 1000000) (hq : addF x.m 1 18446744073709551615 = (m', r)) (hst : STARTP k.t x.st (wrap64 x.f.f3) s') (hx : x' = if r = 1 then { x with m := m', pc := 14, f := ⟨6, 0, k.wn, 0, 0, 0, 0⟩, st := s', ev := x.ev ++ [⟨2, wrap64 x.f.f3, k.wn⟩] } else { x with m := m', pc := 9, f := ⟨0, 0, 0, 0, 0, 0, 0⟩, st := s', ev := x.ev ++ [⟨2, wrap64 x.f.f3, k.wn⟩] }) : HDoes 79 [] k x (x') := by
 intro W g v1 vm ve h
 obtain ⟨A1, c1, rfl⟩ := Kd.R_slice h.rs
 obtain ⟨Am, cm, rfl⟩ := Kd.R_slice h.rm
 obtain ⟨Ae, ce, rfl⟩ := Kd.R_slice h.re
 have HS0 := qQ h
 have HHN := qQ hn
 have HHQ := qQ hq
 have HHT := qQ hT
 have HHCT := qQ hct
 have HHST := qQ hst
 have HHE := qQ he
 clear h hn hq hT hct hst he
 show Calls Tryz.prog 79 #[.pointer (some ⟨g, 0, none⟩)] W _
 go_enter Tryz.func79, Tryz.ntmps79
 have h0 := handCells HS0.o.hb; have hz := HSt.frozen HS0.o
 by_cases n0 : r = 1
 ·rw [if_pos n0] at hx
  subst hx
  go_wp2_with (first | (go_at_call 110; with_reducible refine (hand_add k x 1 18446744073709551615 r m' HHN.o HHQ.o _ g _ _ _ HS0.o.self).mono ?_; rintro e w1 ⟨rfl, va, vb, vc, hs⟩; obtain ⟨A1_1, c1_1, e1⟩ := Kd.R_slice hs.rs; subst e1; obtain ⟨Am_1, cm_1, e2⟩ := Kd.R_slice hs.rm; subst e2; obtain ⟨Ae_1, ce_1, e3⟩ := Kd.R_slice hs.re; subst e3; have HS1 := qQ (HS0.o.tr hs); clear hs; clear h0 hz; have h0 := handCells HS1.o.hb; have hz := HSt.frozen HS1.o) | (go_at_call 111; with_reducible refine (hand_with k { x with m := m' } 14 6 k.wn 0 _ g _ _ _ HS1.o.self).mono ?_; rintro e w2 ⟨⟨u_, rfl⟩, va, vb, vc, hs⟩; obtain ⟨A1_2, c1_2, e1⟩ := Kd.R_slice hs.rs; subst e1; obtain ⟨Am_2, cm_2, e2⟩ := Kd.R_slice hs.rm; subst e2; obtain ⟨Ae_2, ce_2, e3⟩ := Kd.R_slice hs.re; subst e3; have HS2 := qQ (HS1.o.tr hs); clear hs; clear h0 hz; have h0 := handCells HS2.o.hb; have hz := HSt.frozen HS2.o) | (go_at_call 109; with_reducible refine (hand_start k { x with m := m', pc := 14, f := ⟨6, 0, k.wn, 0, 0, 0, 0⟩ } (x.f.f3) s' HHT.o HHCT.o HHST.o HHE.o _ g _ _ _ HS2.o.self).mono ?_; rintro e w3 ⟨⟨u_, rfl⟩, va, vb, vc, hs⟩; obtain ⟨A1_3, c1_3, e1⟩ := Kd.R_slice hs.rs; subst e1; obtain ⟨Am_3, cm_3, e2⟩ := Kd.R_slice hs.rm; subst e2; obtain ⟨Ae_3, ce_3, e3⟩ := Kd.R_slice hs.re; subst e3; have HS3 := qQ (HS2.o.tr hs); clear hs; clear h0 hz; have h0 := handCells HS3.o.hb; have hz := HSt.frozen HS3.o))
  first | go_end0 | ((try simp only [Exit.inBlock, Exit.then]); refine bodyPost_ret (results_none rfl _ _ _) rfl ?_)
  exact ⟨⟨_, rfl⟩, _, _, _, HS3.o⟩
 ·rw [if_neg n0] at hx
  subst hx
  go_wp2_with (first | (go_at_call 110; with_reducible refine (hand_add k x 1 18446744073709551615 r m' HHN.o HHQ.o _ g _ _ _ HS0.o.self).mono ?_; rintro e w4 ⟨rfl, va, vb, vc, hs⟩; obtain ⟨A1_4, c1_4, e1⟩ := Kd.R_slice hs.rs; subst e1; obtain ⟨Am_4, cm_4, e2⟩ := Kd.R_slice hs.rm; subst e2; obtain ⟨Ae_4, ce_4, e3⟩ := Kd.R_slice hs.re; subst e3; have HS4 := qQ (HS0.o.tr hs); clear hs; clear h0 hz; have h0 := handCells HS4.o.hb; have hz := HSt.frozen HS4.o) | (go_at_call 108; with_reducible refine (hand_to k { x with m := m' } 9 _ g _ _ _ HS4.o.self).mono ?_; rintro e w5 ⟨⟨u_, rfl⟩, va, vb, vc, hs⟩; obtain ⟨A1_5, c1_5, e1⟩ := Kd.R_slice hs.rs; subst e1; obtain ⟨Am_5, cm_5, e2⟩ := Kd.R_slice hs.rm; subst e2; obtain ⟨Ae_5, ce_5, e3⟩ := Kd.R_slice hs.re; subst e3; have HS5 := qQ (HS4.o.tr hs); clear hs; clear h0 hz; have h0 := handCells HS5.o.hb; have hz := HSt.frozen HS5.o) | (go_at_call 109; with_reducible refine (hand_start k { x with m := m', pc := 9, f := ⟨0, 0, 0, 0, 0, 0, 0⟩ } (x.f.f3) s' HHT.o HHCT.o HHST.o HHE.o _ g _ _ _ HS5.o.self).mono ?_; rintro e w6 ⟨⟨u_, rfl⟩, va, vb, vc, hs⟩; obtain ⟨A1_6, c1_6, e1⟩ := Kd.R_slice hs.rs; subst e1; obtain ⟨Am_6, cm_6, e2⟩ := Kd.R_slice hs.rm; subst e2; obtain ⟨Ae_6, ce_6, e3⟩ := Kd.R_slice hs.re; subst e3; have HS6 := qQ (HS5.o.tr hs); clear hs; clear h0 hz; have h0 := handCells HS6.o.hb; have hz := HSt.frozen HS6.o))
  first | go_end0 | ((try simp only [Exit.inBlock, Exit.then]); refine bodyPost_ret (results_none rfl _ _ _) rfl ?_)
  exact ⟨⟨_, rfl⟩, _, _, _, HS6.o⟩
def flag {α : Type} (d : Kd α) (w0 : World) : Kd (α × Bool) where
 sz := d.sz
 E := d.E
 K := fun w x cs => match x with | (a, true) => d.K w a cs | (a, false) => d.K w0 a cs
 M := fun w base ok x cs => match x with | (a, true) => d.M w base ok a cs | (a, false) => d.K w0 a cs
 K_len := by
  rintro w ⟨a, b⟩ cs h
  cases b <;> exact d.K_len h
 K_one := by
  rintro w ⟨a, b⟩ cs h
  cases b <;> exact d.K_one h
 K_below := by
  rintro w w1 ⟨a, b⟩ cs hb h
  cases b
  ·exact h
  ·exact d.K_below hb h
 K_of_M := by
  rintro w base ok ⟨a, b⟩ cs h
  cases b
  ·exact h
  ·exact d.K_of_M h
 M_mono := by
  rintro w base ok ok' ⟨a, b⟩ cs hk h
  cases b
  ·exact h
  ·exact d.M_mono hk h
 M_bound := by
  rintro w base ok ⟨a, b⟩ cs h
  cases b
  ·exact h
  ·exact d.M_bound h
 M_move := by
  rintro w w1 base ok ⟨a, b⟩ cs hk h
  cases b
  ·exact h
  ·exact d.M_move hk h
 M_lower := by
  rintro w base base' ok ⟨a, b⟩ cs hk h
  cases b
  ·exact h
  ·exact d.M_lower hk h
def fl {α : Type} (t : List α) (i : Nat) : List (α × Bool) := t.zipIdx.map fun p => (p.1, decide (p.2 < i))
theorem fl_len {α : Type} (t : List α) (i : Nat) : (fl t i).length = t.length := by simp [fl]
theorem fl_get {α : Type} (t : List α) (i j : Nat) : (fl t i)[j]? = t[j]?.map fun x => (x, decide (j < i)) := by
 simp only [fl, List.getElem?_map, List.getElem?_zipIdx]
 cases t[j]? <;> simp
theorem fl_set {α : Type} (t : List α) (i : Nat) (x : α) (h : t[i]? = some x) : (fl t i).set i (x, true) = fl t (i + 1) := by
 have hi : i < t.length := (List.getElem?_eq_some_iff.1 h).1
 refine List.ext_getElem? fun j => ?_
 rw [List.getElem?_set, fl_len, fl_get, fl_get]
 by_cases hj : i = j
 ·subst hj
  rw [if_pos rfl, if_pos hi, h]
  simp
 ·rw [if_neg hj]
  have : decide (j < i) = decide (j < i + 1) := by
   apply decide_eq_decide.2
   omega
  rw [this]
theorem R_as {α β : Type} {d : Kd α} {d' : Kd β} (hs : d.sz = d'.sz) {xs : List α} {ys : List β} (hl : xs.length = ys.length) (hd : ∀ (j : Nat) (y : β), ys[j]? = some y → ∃ x, xs[j]? = some x ∧ ∀ w base ok cs, d.M w base ok x cs → d'.M w base ok y cs) {e : Nat} {w : World} {base : Nat} {ok : Nat → Prop} {v : Value} (hr : d.R e w base ok v xs) : d'.R e w base ok v ys := by
 obtain ⟨h0, inner, ho, h1, h2⟩ := hr
 refine ⟨h0, inner, ?_, ?_, fun j y hy => ?_⟩
 ·rw [← hs, ← hl]; exact ho
 ·rw [← hs, ← hl]; exact h1
 ·obtain ⟨x, hx, h⟩ := hd j y hy
  rw [← hs]
  exact h _ _ _ _ (h2 j x hx)
theorem fl_start {α : Type} {d : Kd α} {w0 : World} {t : List α} {e : Nat} {w : World} {base : Nat} {v : Value} (hr : (Kd.fixed d w0).R e w base (fun _ => True) v t) : (flag d w0).R e w base (fun k => base ≤ k) v (fl t 0) :=
 R_as (d := Kd.fixed d w0) (d' := flag d w0) (xs := t) (ys := fl t 0) rfl (fl_len t 0).symm (fun j y hy => by
  rw [fl_get] at hy
  cases hx : t[j]? with
  | none => rw [hx] at hy; cases hy
  | some x => rw [hx] at hy; cases hy; exact ⟨x, rfl, fun _ _ _ _ h => h⟩) (Kd.R_mono (Kd.R_bound hr) (fun _ h => h.2.1))
theorem fl_stop {α : Type} {d : Kd α} {w0 : World} {t : List α} {e n : Nat} {w : World} {base : Nat} {v : Value} {ok : Nat → Prop} (hr : (flag d w0).R e w base ok v (fl t n)) (hn : t.length ≤ n) : d.R e w base ok v t :=
 R_as (d := flag d w0) (d' := d) (xs := fl t n) (ys := t) rfl (fl_len t n) (fun j y hy => ⟨(y, true), by
  rw [fl_get, hy]
  have : decide (j < n) = true := decide_eq_true (by have := (List.getElem?_eq_some_iff.1 hy).1; omega)
  simp [this], fun _ _ _ _ h => h⟩) hr
theorem R_lt {α : Type} {d : Kd α} {e base g n cap : Nat} {ok : Nat → Prop} {w : World} {xs : List α} (h : d.R e w base ok (.slice (some ⟨g, 0, none⟩) n cap) xs) : g < w.heap.size := by
 obtain ⟨inner, ho⟩ := Kd.R_own h
 obtain ⟨cells, hc⟩ := own_typed ho g (by simp [Value.ownBlock])
 exact blk_lt hc
theorem get45 {W w : World} {base g n cp k : Nat} {ok : Nat → Prop} {t : List S45} {x : S45} (h : (flag k45 w).R 45 W base ok (.slice (some ⟨g, 0, none⟩) n cp) (fl t k)) (hx : t[k]? = some x) (hk : k < n) :
  ∃ A1 c1, W.cell? ⟨g, k * 2 + 1, none⟩ = some (.slice A1 x.f1.length c1) ∧ W.frozen? ⟨g, k * 2 + 1, none⟩ = false ∧ x.f1.length ≤ c1 ∧ (Kd.int .i64).C w A1 x.f1.length x.f1 := by
 obtain ⟨c, hcl, hM, hcc, hf⟩ := Kd.R_elem h (x, true) (k : Int) (by omega) (by omega)
 simp only [Int.toNat_natCast] at hM hcc hf
 have hd : (fl t k).getD k (x, true) = (x, false) := by rw [List.getD_eq_getElem?_getD, fl_get, hx]; simp
 rw [hd] at hM
 obtain ⟨A1, c1, rfl, l1, g1⟩ := k45_open (show k45.K w x c from hM)
 exact ⟨A1, c1, hcc 1 _ rfl, hf 1, l1, g1⟩
theorem put45 {W w : World} {base g n cp k b : Nat} {ok : Nat → Prop} {t : List S45} {x : S45} (h : (flag k45 w).R 45 W base ok (.slice (some ⟨g, 0, none⟩) n cp) (fl t k)) (hx : t[k]? = some x) (hk : k < n) {v2 : Value} (hr : (Kd.int .i64).R 3 W b (fun _ => True) v2 x.f1) (hb : base ≤ b) (hg : g < b) (hok : ∀ j, b ≤ j → ok j) :
  (flag k45 w).R 45 (W.setCell ⟨g, k * 2 + 1, none⟩ v2) base ok (.slice (some ⟨g, 0, none⟩) n cp) (fl t (k + 1)) ∧ W.grownBy (W.setCell ⟨g, k * 2 + 1, none⟩ v2) (some g) := by
 obtain ⟨c, hcl, hM, hcc, hf⟩ := Kd.R_elem h (x, true) (k : Int) (by omega) (by omega)
 have hd : (fl t k).getD ((k : Int)).toNat (x, true) = (x, false) := by rw [Int.toNat_natCast, List.getD_eq_getElem?_getD, fl_get, hx]; simp
 rw [hd] at hM
 obtain ⟨A1, c1, rfl, l1, g1⟩ := k45_open (show k45.K w x c from hM)
 have := Kd.R_seg (j := 1) (seg := [v2]) h (k : Int) (by omega) (by omega) hcl hcc (by show 1 + 1 ≤ 2; omega) (x' := (x, true)) (okp := fun j => ok j ∧ j ≠ g)
  (k45_mkM W base _ x (Kd.R_mono (Kd.R_lower (Kd.R_bound hr) hb) (fun j h => ⟨hok j h.2.1, by have := h.2.1; omega⟩))) (fun _ h => h)
 rw [Int.toNat_natCast, fl_set t k x hx] at this
 exact this
theorem get76 {W w : World} {base g n cp k : Nat} {ok : Nat → Prop} {t : List S76} {x : S76} (h : (flag k76 w).R 76 W base ok (.slice (some ⟨g, 0, none⟩) n cp) (fl t k)) (hx : t[k]? = some x) (hk : k < n) :
  ∃ A1 c1, W.cell? ⟨g, k * 11 + 1, none⟩ = some (.slice A1 x.f1.length c1) ∧ W.frozen? ⟨g, k * 11 + 1, none⟩ = false ∧ x.f1.length ≤ c1 ∧ k116.C w A1 x.f1.length x.f1 := by
 obtain ⟨c, hcl, hM, hcc, hf⟩ := Kd.R_elem h (x, true) (k : Int) (by omega) (by omega)
 simp only [Int.toNat_natCast] at hM hcc hf
 have hd : (fl t k).getD k (x, true) = (x, false) := by rw [List.getD_eq_getElem?_getD, fl_get, hx]; simp
 rw [hd] at hM
 obtain ⟨A1, c1, rfl, l1, g1⟩ := k76_open (show k76.K w x c from hM)
 exact ⟨A1, c1, hcc 1 _ rfl, hf 1, l1, g1⟩
theorem put76 {W w : World} {base g n cp k b : Nat} {ok : Nat → Prop} {t : List S76} {x : S76} (h : (flag k76 w).R 76 W base ok (.slice (some ⟨g, 0, none⟩) n cp) (fl t k)) (hx : t[k]? = some x) (hk : k < n) {v2 : Value} (hr : k116.R 116 W b (fun _ => True) v2 x.f1) (hb : base ≤ b) (hg : g < b) (hok : ∀ j, b ≤ j → ok j) :
  (flag k76 w).R 76 (W.setCell ⟨g, k * 11 + 1, none⟩ v2) base ok (.slice (some ⟨g, 0, none⟩) n cp) (fl t (k + 1)) ∧ W.grownBy (W.setCell ⟨g, k * 11 + 1, none⟩ v2) (some g) := by
 obtain ⟨c, hcl, hM, hcc, hf⟩ := Kd.R_elem h (x, true) (k : Int) (by omega) (by omega)
 have hd : (fl t k).getD ((k : Int)).toNat (x, true) = (x, false) := by rw [Int.toNat_natCast, List.getD_eq_getElem?_getD, fl_get, hx]; simp
 rw [hd] at hM
 obtain ⟨A1, c1, rfl, l1, g1⟩ := k76_open (show k76.K w x c from hM)
 have := Kd.R_seg (j := 1) (seg := [v2]) h (k : Int) (by omega) (by omega) hcl hcc (by show 1 + 1 ≤ 11; omega) (x' := (x, true)) (okp := fun j => ok j ∧ j ≠ g)
  (k76_mkM W base _ x (Kd.R_mono (Kd.R_lower (Kd.R_bound hr) hb) (fun j h => ⟨hok j h.2.1, by have := h.2.1; omega⟩))) (fun _ h => h)
 rw [Int.toNat_natCast, fl_set t k x hx] at this
 exact this
theorem get68 {W w : World} {base g n cp k : Nat} {ok : Nat → Prop} {t : List S68} {x : S68} (h : (flag k68 w).R 68 W base ok (.slice (some ⟨g, 0, none⟩) n cp) (fl t k)) (hx : t[k]? = some x) (hk : k < n) :
  ∃ A1 c1, W.cell? ⟨g, k * 9 + 1, none⟩ = some (.slice A1 x.f1.length c1) ∧ W.frozen? ⟨g, k * 9 + 1, none⟩ = false ∧ x.f1.length ≤ c1 ∧ (Kd.int .i64).C w A1 x.f1.length x.f1 := by
 obtain ⟨c, hcl, hM, hcc, hf⟩ := Kd.R_elem h (x, true) (k : Int) (by omega) (by omega)
 simp only [Int.toNat_natCast] at hM hcc hf
 have hd : (fl t k).getD k (x, true) = (x, false) := by rw [List.getD_eq_getElem?_getD, fl_get, hx]; simp
 rw [hd] at hM
 obtain ⟨A1, c1, rfl, l1, g1⟩ := k68_open (show k68.K w x c from hM)
 exact ⟨A1, c1, hcc 1 _ rfl, hf 1, l1, g1⟩
theorem put68 {W w : World} {base g n cp k b : Nat} {ok : Nat → Prop} {t : List S68} {x : S68} (h : (flag k68 w).R 68 W base ok (.slice (some ⟨g, 0, none⟩) n cp) (fl t k)) (hx : t[k]? = some x) (hk : k < n) {v2 : Value} (hr : (Kd.int .i64).R 3 W b (fun _ => True) v2 x.f1) (hb : base ≤ b) (hg : g < b) (hok : ∀ j, b ≤ j → ok j) :
  (flag k68 w).R 68 (W.setCell ⟨g, k * 9 + 1, none⟩ v2) base ok (.slice (some ⟨g, 0, none⟩) n cp) (fl t (k + 1)) ∧ W.grownBy (W.setCell ⟨g, k * 9 + 1, none⟩ v2) (some g) := by
 obtain ⟨c, hcl, hM, hcc, hf⟩ := Kd.R_elem h (x, true) (k : Int) (by omega) (by omega)
 have hd : (fl t k).getD ((k : Int)).toNat (x, true) = (x, false) := by rw [Int.toNat_natCast, List.getD_eq_getElem?_getD, fl_get, hx]; simp
 rw [hd] at hM
 obtain ⟨A1, c1, rfl, l1, g1⟩ := k68_open (show k68.K w x c from hM)
 have := Kd.R_seg (j := 1) (seg := [v2]) h (k : Int) (by omega) (by omega) hcl hcc (by show 1 + 1 ≤ 9; omega) (x' := (x, true)) (okp := fun j => ok j ∧ j ≠ g)
  (k68_mkM W base _ x (Kd.R_mono (Kd.R_lower (Kd.R_bound hr) hb) (fun j h => ⟨hok j h.2.1, by have := h.2.1; omega⟩))) (fun _ h => h)
 rw [Int.toNat_natCast, fl_set t k x hx] at this
 exact this
theorem tasks_25 (A : Option Addr) (c : Nat) (t : List S45) (w : World) (hc : Kd.C k45 w A t.length t) (hn : t.length ≤ 1000000) (hk : ∀ x ∈ t, x.f1.length ≤ 1000000) :
  Calls Tryz.prog 25 #[.slice A t.length c] w fun e w' => ∃ v, e = .returned v ∧ k45.R 45 w' w.heap.size (fun k => w.heap.size ≤ k) v t ∧ Below w.heap.size w w' := by
 have HC := qQ hc
 have HK := qQ hk
 clear hc hk
 rcases Nat.eq_zero_or_pos t.length with h0 | hp
 ·obtain rfl := List.length_eq_zero_iff.1 h0
  go_enter Tryz.func25, Tryz.ntmps25
  go_wp2_with (first | (go_at_call 50; (refine (clone50 A c ([] : List S45) _ HC.o hn).mono ?_); rintro e w1 ⟨v, rfl, hr, hb⟩; obtain ⟨A1, c1, eo⟩ := Kd.R_slice hr; subst eo; simp only [List.length_nil]; have HR := qQ hr; have HB := qQ hb; clear hr hb))
  go_loopw [9] (fun i wr => i = .int .i64 0 ∧ wr = w1)
   (fun i _ => 0)
  case atStart => exact ⟨rfl, rfl⟩
  case round =>
   obtain ⟨rfl, rfl⟩ := hrel
   go_wp2
   go_ret
   exact ⟨_, rfl, fl_stop (n := 0) (fl_start HR.o) (Nat.le_refl _), HB.o⟩
 ·go_enter Tryz.func25, Tryz.ntmps25
  go_wp2_with (first | (go_at_call 50; (with_reducible refine (clone50 A c t _ HC.o hn).mono ?_); rintro e w1 ⟨v, rfl, hr, hb⟩; obtain ⟨g, c1, eo, hg⟩ := R_some hr hp; subst eo; have HG := qQ hg; clear hg; have HR := qQ (fl_start hr); have HB := qQ hb; clear hr hb))
  go_loopw [9] (fun i wr => ∃ k : Nat, k ≤ t.length ∧ i = .int .i64 (k : Int) ∧ Aside0 (Below w.heap.size w wr) ∧ Aside0 ((flag k45 w).R 45 wr w.heap.size (fun k => w.heap.size ≤ k) (.slice (some ⟨g, 0, none⟩) t.length c1) (fl t k)))
   (fun i _ => t.length - (intOf i).toNat)
  case atStart => exact ⟨0, by omega, rfl, HB, HR⟩
  case round =>
   obtain ⟨k, hk, rfl, HBr, HRr⟩ := hrel
   clear HB HR
   by_cases hlt : k < t.length
   ·obtain ⟨x, hx⟩ : ∃ x, t[k]? = some x := ⟨_, List.getElem?_eq_getElem hlt⟩
    have HX := qQ hx
    have hxn := HK.o x (List.mem_of_getElem? hx)
    have HGr := qQ (R_lt HRr.o)
    obtain ⟨A1, c2, x1, x2, _, g1⟩ := get45 HRr.o hx hlt
    have HG1 := qQ (Kd.C_below g1 HBr.o)
    clear hx g1
    have kk : ((k : Int) < (t.length : Int)) = True := eq_true (by omega)
    have k0 : (0 ≤ (k : Int)) = True := eq_true (by omega)
    go_wp2_with (first | (go_at_call 51; (with_reducible refine (clone51' A1 c2 x.f1 _ HG1.o hxn).mono ?_); rintro e w2 ⟨v2, rfl, hr, hb⟩; obtain ⟨A3, c3, eo⟩ := Kd.R_slice hr; subst eo; have HP := qQ (put45 (Kd.R_below HRr.o hb) HX.o hlt hr HBr.o.size HGr.o (fun j hj => Nat.le_trans HBr.o.size hj)); have HB2 := qQ (below_then HBr.o HBr.o.size hb); obtain ⟨_, _, y1, y2, _, _⟩ := get45 (Kd.R_below HRr.o hb) HX.o hlt; clear hr hb))
    go_roundw
    case rel => exact ⟨k + 1, by omega, by simp, ⟨below_grown HB2.o HP.o.2 HG.o HB2.o.size⟩, ⟨HP.o.1⟩⟩
    case measure => simp [intOf]; omega
   ·have kk : ((k : Int) < (t.length : Int)) = False := eq_false (by omega)
    go_wp2
    go_ret
    exact ⟨_, rfl, fl_stop HRr.o (by omega), HBr.o⟩
theorem HSt.far {k : HK} {W0 W : World} {ve0 : Value} {g : Nat} {x : Hd} {v1 vm ve : Value} (h : HSt k W0 ve0 g x v1 vm ve W) {b t : Nat} {cs : Array Value} (hb : W.heap[b]? = some (.cells cs t (0, 0))) (h0 : W0.heap.size ≤ b) (h1 : k.w0.heap.size ≤ b) (hg : b ≠ g) (ht : t ≠ 116 ∧ t ≠ 38 ∧ t ≠ 40) (i : Nat) (u : Value) : HSt k W0 ve0 g x v1 vm ve (W.setCell ⟨b, i, none⟩ u) :=
 ⟨by simpa using h.sz, fun j hj h2 h3 => (Below.heap_setCell _ _ _ _ (by show j ≠ b; omega)).trans (h.kb j hj h2 h3), h.evn,
  ⟨h.gb.os, h.gb.tape, h.gb.output, by simpa using h.gb.size, fun j hj hr => (Below.heap_setCell _ _ _ _ (by show j ≠ b; omega)).trans (h.gb.block j hj hr)⟩, h.le, h.lt, h.bel.setCell (p := ⟨b, i, none⟩) (Nat.le_trans h.le h1) u, h.ge, blk_far h.hb (Ne.symm hg) u,
  Kd.R_set h.rs hb (fun q hq => by rcases List.mem_cons.1 hq with rfl | hq; exact ht.1.symm; cases hq) i u, Kd.R_set h.rm hb (fun q hq => by rcases List.mem_cons.1 hq with rfl | hq; exact ht.2.1.symm; cases hq) i u, Kd.R_set h.re hb (fun q hq => by rcases List.mem_cons.1 hq with rfl | hq; exact ht.2.2.symm; cases hq) i u⟩
def NEXTP (t : List S45) (s : List S116) (kd tk : Int) : Prop :=
 ∀ (A0 : Option Addr) (c0 : Nat) (A1 : Option Addr) (c1 : Nat) (W : World), Kd.C k45 W A0 t.length t → t.length ≤ c0 → Kd.C k116 W A1 s.length s → s.length ≤ c1 → Calls Tryz.prog 116 #[.slice A0 t.length c0, .slice A1 s.length c1] W fun e w' => e = .returned (.agg #[.int .i64 kd, .int .i64 tk]) ∧ Below W.heap.size W w'
def DOP (t : List S45) (s : List S116) (s' : List S116) : Prop :=
 ∀ (A0 : Option Addr) (c0 : Nat) (A1 : Option Addr) (c1 : Nat) (W : World), Kd.C k45 W A0 t.length t → t.length ≤ c0 → Kd.C k116 W A1 s.length s → s.length ≤ c1 → Calls Tryz.prog 117 #[.slice A0 t.length c0, .slice A1 s.length c1] W fun e w' => ∃ v, e = .returned v ∧ k116.R 116 w' W.heap.size (fun _ => True) v s' ∧ Below W.heap.size W w'
theorem hand_pend (k : HK) (x : Hd) (kd tk : Int) (x' : Hd) (hT : Kd.C k45 k.wb k.At k.t.length k.t) (hct : k.t.length ≤ k.ct) (hnx : NEXTP k.t x.st kd tk) (hx : (¬ kd = 2 ∧ x' = { x with pc := 9, f := ⟨0, 0, 0, 0, 0, 0, 0⟩ }) ∨ (kd = 2 ∧ ∃ s' m' r, addF x.m 0 1 = (m', r) ∧ DOP k.t x.st s' ∧ x.m.length ≤ 1000000 ∧ x.ev.length ≤ 1000000 ∧ x' = { x with m := m', ev := x.ev ++ [⟨3, tk, k.wn⟩], st := s', pc := 11, f := ⟨0, 0, k.wn, IntKind.u64.wrap tk, 0, 0, 0⟩ })) : HDoes 85 [] k x (x') := by
 intro W g v1 vm ve h
 obtain ⟨A1, c1, rfl⟩ := Kd.R_slice h.rs
 obtain ⟨Am, cm, rfl⟩ := Kd.R_slice h.rm
 obtain ⟨Ae, ce, rfl⟩ := Kd.R_slice h.re
 have HS0 := qQ h
 have HHT := qQ hT
 have HHCT := qQ hct
 have HHNX := qQ hnx
 have HHX := qQ hx
 clear h hT hct hnx hx
 show Calls Tryz.prog 85 #[.pointer (some ⟨g, 0, none⟩)] W _
 go_enter Tryz.func85, Tryz.ntmps85
 have h0 := handCells HS0.o.hb; have hz := HSt.frozen HS0.o
 have u_ := HHNX.o
 unfold NEXTP at u_
 have HNX := qQ u_
 clear u_ HHNX
 go_wp2
 refine zS 12 [11] (fun W' => W'.heap[g]? = some (handO k x (.slice A1 x.st.length c1) (.slice Am x.m.length cm) (.slice Ae x.ev.length ce))) HS0.o.drew.hb fun hHeld => ?_
 refine zY 0 1 3 ?_
 refine zY 1 3 4 ?_
 refine zY 2 7 5 ?_
 refine zT 3 15 6 ?_ (hy := zy5)
 refine zY 4 31 7 ?_
 refine zY 5 63 8 ?_
 refine zY 6 127 9 ?_
 refine zY 7 255 10 ?_
 refine zT 8 511 11 ?_ (hy := zy5)
 refine join_ (σ := Nat) 1 (zM 12 2047) (fun nb => [(12, .agg #[.int .i64 kd, .int .i64 tk]), (2, .pointer (some ⟨nb, 0, none⟩))]) (fun nb w' => HSt k W (.slice Ae x.ev.length ce) g x (.slice A1 x.st.length c1) (.slice Am x.m.length cm) (.slice Ae x.ev.length ce) w' ∧ w'.heap[nb]? = some (.cells #[.int .i64 0, .int .i64 0] 153 (0, 0)) ∧ W.heap.size ≤ nb) ?_ ?_
 rotate_left
 ·intro hcont
  refine two_ (i := 9) (j := 10) (Ni := some 12) (Nj := some 2) (zM 12 1023) (zM 12 1535) rfl rfl rfl rfl (by kernel_rfl) (by decide) (by decide) (fun K hK => ?_) (fun K hK => ?_)
  ·go_simp
   refine (HNX.o k.At k.ct A1 c1 W.drew (Kd.C_below HHT.o HS0.o.drew.bel) HHCT.o (Kd.R_reads' HS0.o.drew.rs).2.2 (Kd.R_reads' HS0.o.drew.rs).2.1).mono ?_
   rintro e w1 ⟨rfl, hd⟩
   have hs1 := HS0.o.drew.below hd
   refine hK.out _ _ hs1.hb (fun hHeld => ?_)
   refine zO 10 2047 2 fun K hK => ?_
   go_simp
   refine hK.out _ _ (blk_alloc hs1.hb _) (fun _ => ?_)
   exact norm_ rfl (hcont w1.heap.size _ ⟨hs1.below (below_alloc (Below.refl _ _) _), blk_new _ _, hs1.sz⟩)
  ·go_simp
   refine hK.out _ _ (blk_alloc HS0.o.drew.hb _) (fun hHeld => ?_)
   refine zO 9 2047 12 fun K hK => ?_
   go_simp
   have hs1 := (HS0.o.below (below_alloc (Below.refl _ _) (.cells #[.int .i64 0, .int .i64 0] 153))).drew
   refine (HNX.o k.At k.ct A1 c1 _ (Kd.C_below HHT.o hs1.bel) HHCT.o (Kd.R_reads' hs1.rs).2.2 (Kd.R_reads' hs1.rs).2.1).mono ?_
   rintro e w1 ⟨rfl, hd⟩
   have hs2 := hs1.below hd
   refine hK.out _ _ hs2.hb (fun _ => ?_)
   exact norm_ rfl (hcont W.heap.size _ ⟨hs2, blk_below (blk_drew (blk_new W (.cells #[.int .i64 0, .int .i64 0] 153))) hd, Nat.le_refl _⟩)
 rintro nb w1 ⟨hs1, hnb, hsz⟩
 simp only [putAll, Act.put, List.setIfInBounds_toArray, List.set_cons_zero, List.set_cons_succ]
 have HS1 := qQ hs1
 have HNB := qQ hnb
 have HSZ := qQ hsz
 have HNG : Aside0 (nb ≠ g) := ⟨by have := HS0.o.lt; have := HS0.o.gb.size; omega⟩
 clear hs1 hnb hsz
 refine zL 11 4095 fun K hK => ?_
 obtain ⟨b0, b1⟩ : w1.cell? ⟨nb, 0, none⟩ = some (.int .i64 0) ∧ w1.cell? ⟨nb, 1, none⟩ = some (.int .i64 0) := ⟨(blk_cell HNB.o 0).trans rfl, (blk_cell HNB.o 1).trans rfl⟩
 have bz := fun i => blk_frozen HNB.o i
 go_simp
 refine hK.out _ _ ?_
 refine zD ?_
 have hs2 := HS1.o.far HNB.o HSZ.o (Nat.le_trans HS0.o.gb.size HSZ.o) HNG.o (by decide) 0 (.int .i64 kd)
 have hb2 : (w1.setCell ⟨nb, 0, none⟩ (.int .i64 kd)).heap[nb]? = some (.cells #[.int .i64 kd, .int .i64 0] 153 (0, 0)) := by simpa using blk_set HNB.o 0 (.int .i64 kd)
 have hs3 := hs2.far hb2 HSZ.o (Nat.le_trans HS0.o.gb.size HSZ.o) HNG.o (by decide) 1 (.int .i64 tk)
 have hb3 : ((w1.setCell ⟨nb, 0, none⟩ (.int .i64 kd)).setCell ⟨nb, 1, none⟩ (.int .i64 tk)).heap[nb]? = some (.cells #[.int .i64 kd, .int .i64 tk] 153 (0, 0)) := by simpa using blk_set hb2 1 (.int .i64 tk)
 generalize (w1.setCell ⟨nb, 0, none⟩ (.int .i64 kd)).setCell ⟨nb, 1, none⟩ (.int .i64 tk) = w2 at hs3 hb3 ⊢
 have HS2 := qQ hs3
 have HB2 := qQ hb3
 clear hs2 hs3 hb2 hb3 b0 b1 bz hHeld
 clear h0 hz
 have h0 := handCells HS2.o.hb
 have hz := HSt.frozen HS2.o
 obtain ⟨b0, b1⟩ : w2.cell? ⟨nb, 0, none⟩ = some (.int .i64 kd) ∧ w2.cell? ⟨nb, 1, none⟩ = some (.int .i64 tk) := ⟨(blk_cell HB2.o 0).trans rfl, (blk_cell HB2.o 1).trans rfl⟩
 rcases HHX.o with ⟨hkd, rfl⟩ | ⟨hkd, s', m', r, hq, hdo, hn, he, rfl⟩
 ·
  clear HHX
  go_wp2_with (first | (go_at_call 108; with_reducible refine (hand_to k x 9 _ g _ _ _ HS2.o.self).mono ?_; rintro e w3 ⟨⟨u_, rfl⟩, va, vb, vc, hs⟩; obtain ⟨A1_3, c1_3, e1⟩ := Kd.R_slice hs.rs; subst e1; obtain ⟨Am_3, cm_3, e2⟩ := Kd.R_slice hs.rm; subst e2; obtain ⟨Ae_3, ce_3, e3⟩ := Kd.R_slice hs.re; subst e3; have HS3 := qQ (HS2.o.tr hs); clear hs; clear h0 hz; have h0 := handCells HS3.o.hb; have hz := HSt.frozen HS3.o))
  first | go_end0 | ((try simp only [Exit.inBlock, Exit.then]); refine bodyPost_ret (results_none rfl _ _ _) rfl ?_)
  exact ⟨⟨_, rfl⟩, _, _, _, HS3.o⟩
 ·clear HHX
  have HQ := qQ hq
  have HN := qQ hn
  have HE := qQ he
  unfold DOP at hdo
  have HDO := qQ hdo
  clear hq hn he hdo
  go_wp2_with (first | (go_at_call 110; with_reducible refine (hand_add k x 0 1 r m' HN.o HQ.o _ g _ _ _ HS2.o.self).mono ?_; rintro e w4 ⟨rfl, va, vb, vc, hs⟩; obtain ⟨A1_4, c1_4, e1⟩ := Kd.R_slice hs.rs; subst e1; obtain ⟨Am_4, cm_4, e2⟩ := Kd.R_slice hs.rm; subst e2; obtain ⟨Ae_4, ce_4, e3⟩ := Kd.R_slice hs.re; subst e3; have hbk := hs.blk HB2.o HNG.o (Kd.R_ne HS2.o.re HB2.o (by decide)); have HB4 := qQ hbk; clear hbk b0 b1; have b0 := (blk_cell HB4.o 0).trans rfl; have b1 := (blk_cell HB4.o 1).trans rfl; have HS4 := qQ (HS2.o.tr hs); clear hs; clear h0 hz; have h0 := handCells HS4.o.hb; have hz := HSt.frozen HS4.o) | (go_at_call 118; with_reducible refine (hand_tell k { x with m := m' } 3 tk HE.o _ g _ _ _ HS4.o.self).mono ?_; rintro e w5 ⟨⟨u_, rfl⟩, va, vb, vc, hs⟩; obtain ⟨A1_5, c1_5, e1⟩ := Kd.R_slice hs.rs; subst e1; obtain ⟨Am_5, cm_5, e2⟩ := Kd.R_slice hs.rm; subst e2; obtain ⟨Ae_5, ce_5, e3⟩ := Kd.R_slice hs.re; subst e3; have hbk := hs.blk HB4.o HNG.o (Kd.R_ne HS4.o.re HB4.o (by decide)); have HB5 := qQ hbk; clear hbk b0 b1; have b0 := (blk_cell HB5.o 0).trans rfl; have b1 := (blk_cell HB5.o 1).trans rfl; have HS5 := qQ (HS4.o.tr hs); clear hs; clear h0 hz; have h0 := handCells HS5.o.hb; have hz := HSt.frozen HS5.o))
  clear hkd
  refine zS 15 [14] (fun W' => W'.heap[g]? = some (handO k { x with m := m', ev := x.ev ++ [⟨3, tk, k.wn⟩] } (.slice A1_5 x.st.length c1_5) (.slice Am_5 m'.length cm_5) (.slice Ae_5 (x.ev ++ [(⟨3, tk, k.wn⟩ : S40)]).length ce_5))) HS5.o.drew.hb fun hHeld => ?_
  refine zY 0 1 24 ?_
  refine zY 1 3 25 ?_
  refine zY 2 7 26 ?_
  refine zY 3 15 27 ?_
  refine zT 4 31 28 ?_ (hy := zy5)
  refine zY 5 63 29 ?_
  refine zY 6 127 30 ?_
  refine zY 7 255 31 ?_
  refine zY 8 511 32 ?_
  refine zT 9 1023 33 ?_ (hy := zy5)
  refine zO 10 2047 34 fun K hK => ?_
  go_simp
  refine (HDO.o k.At k.ct A1_5 c1_5 _ (Kd.C_below HHT.o HS5.o.drew.bel) HHCT.o (Kd.R_reads' HS5.o.drew.rs).2.2 (Kd.R_reads' HS5.o.drew.rs).2.1).mono ?_
  rintro e w6 ⟨u, rfl, hr, hd⟩
  obtain ⟨A5, c5, eo⟩ := Kd.R_slice hr
  subst eo
  have HS6 := qQ (HS5.o.drew.below hd)
  have HM6 := qQ (Kd.R_lower hr HS5.o.drew.bel.size)
  have HB6 := qQ (blk_below (blk_drew HB5.o) hd)
  clear hd hr
  refine hK.out _ _ HS6.o.hb (fun hHeld => ?_)
  refine zY 11 4095 35 ?_
  refine zY 12 8191 36 ?_
  refine zY 13 16383 37 ?_
  refine zL 14 32767 fun K hK => ?_
  clear h0 hz
  have h0 := handCells HS6.o.hb
  have hz := HSt.frozen HS6.o
  go_simp
  refine hK.out _ _ ?_
  refine zD ?_
  have hs7 := HS6.o.setS HM6.o
  have hb7 := blk_far HB6.o (p := ⟨g, 1, none⟩) HNG.o (.slice A5 s'.length c5)
  generalize w6.setCell ⟨g, 1, none⟩ (.slice A5 s'.length c5) = w7 at hs7 hb7 ⊢
  have HS7 := qQ hs7
  have HB7 := qQ hb7
  clear hb7 b0 b1
  have b0 := (blk_cell HB7.o 0).trans rfl
  have b1 := (blk_cell HB7.o 1).trans rfl
  clear hs7 hHeld
  clear h0 hz
  have h0 := handCells HS7.o.hb
  have hz := HSt.frozen HS7.o
  try go_wp2
  refine zS 9 [8] (fun W' => W'.heap[g]? = some (handO k { x with m := m', ev := x.ev ++ [⟨3, tk, k.wn⟩], st := s' } (.slice A5 s'.length c5) (.slice Am_5 m'.length cm_5) (.slice Ae_5 (x.ev ++ [(⟨3, tk, k.wn⟩ : S40)]).length ce_5)) ∧ W'.heap[nb]? = some (.cells #[.int .i64 kd, .int .i64 tk] 153 (0, 0))) ⟨HS7.o.drew.hb, HB7.o⟩ fun hHeld => ?_
  refine zY 0 1 38 ?_
  refine zY 1 3 39 ?_
  refine zY 2 7 40 ?_
  refine zY 3 15 41 ?_
  refine zT 4 31 42 ?_ (hy := by intro w' hSw; have h0 := handCells hSw.1; have q0 := blk_cell hSw.2; go_simp; with_reducible rfl)
  refine zY 5 63 43 ?_
  refine zT 6 127 44 ?_ (hy := by intro w' hSw; have h0 := handCells hSw.1; have q0 := blk_cell hSw.2; go_simp; with_reducible rfl)
  refine zY 7 255 45 ?_
  refine last_ (i := 8) (N := (some 46)) (zM 9 511) rfl rfl (by kernel_rfl) (by decide) (fun K hK => ?_)
  go_simp
  refine (hand_with k { x with m := m', ev := x.ev ++ [⟨3, tk, k.wn⟩], st := s' } 11 0 k.wn (IntKind.u64.wrap tk) _ g _ _ _ HS7.o.drew.self).mono ?_
  rintro e w90 ⟨⟨u_, rfl⟩, va, vb, vc, hs⟩
  have HS90 := qQ (HS7.o.drew.tr hs)
  clear hs
  refine hK.out _ _ ?_
  refine zD ?_
  clear hHeld
  try go_wp2
  first | go_end0 | ((try simp only [Exit.inBlock, Exit.then]); refine bodyPost_ret (results_none rfl _ _ _) rfl ?_)
  exact ⟨⟨_, rfl⟩, _, _, _, HS90.o⟩
end Go.Proofs.YthoeodjgfelkhaaGreat.QT
