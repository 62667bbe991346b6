/- Part 27 of the claim on TopWakes: pool.own; the hand's done; the hand's run. No condition. -/
import Derived.Test.YthoeodjgfelkhaaGreatm26
set_option linter.unusedVariables false
set_option linter.unusedSimpArgs false
set_option maxRecDepth 100000
set_option maxHeartbeats 8000000
namespace Go.Proofs.YthoeodjgfelkhaaGreat.QT
open Go.RowKit Go.Proofs.YthoeodjgfelkhaaGreatW.PrintWords Go.Proofs.YthoeodjgfelkhaaGreatW.PrintLast Go.Proofs.YthoeodjgfelkhaaGreatW.PrintMore
attribute [local go_sem] max2_int min2_int max_two min_two
abbrev pC (c : Cf) (vT vM vW vS : Value) : Array Value := #[.int .i64 c.w, .int .i64 c.d, .int .i64 c.i, .int .i64 c.s, vT, vM, vW, vS]
structure PB (w : World) (a : Array Value) (W : World) : Prop where
 bel : Below w.heap.size w W
 h0 : W.heap[w.heap.size]? = some (.cells a 34 (0, 0))
 h1 : W.heap[w.heap.size + 1]? = some (.cells #[.int .i64 0, .int .i64 0, .int .i64 0, .int .i64 0, .slice none 0 0, .slice none 0 0, .slice none 0 0, .slice none 0 0] 34 (0, 0))
section
variable {w : World} {a : Array Value} {W W1 : World}
theorem PB.below (h : PB w a W) (hb : Below W.heap.size W W1) : PB w a W1 := ⟨below_then h.bel h.bel.size hb, blk_below h.h0 hb, blk_below h.h1 hb⟩
theorem PB.drew (h : PB w a W) : PB w a W.drew := h.below (below_drew (Below.refl _ _))
theorem PB.start (w : World) (a : Array Value) : PB w a ((w.alloc (.cells a 34)).alloc (.cells #[.int .i64 0, .int .i64 0, .int .i64 0, .int .i64 0, .slice none 0 0, .slice none 0 0, .slice none 0 0, .slice none 0 0] 34)) :=
 ⟨below_alloc (below_alloc (Below.refl _ _) _) _, (two_allocs w _ _).1, (two_allocs w _ _).2⟩
theorem PB.put (h : PB w a W) (i : Nat) (v : Value) : PB w (a.setIfInBounds i v) (W.setCell ⟨w.heap.size, i, none⟩ v) :=
 ⟨h.bel.setCell (p := ⟨w.heap.size, i, none⟩) (Nat.le_refl _) v, blk_set h.h0 i v, blk_far h.h1 (by show w.heap.size + 1 ≠ w.heap.size; omega) v⟩
theorem PB.far (h : PB w a W) {g t i : Nat} {cs : Array Value} (hc : W.heap[g]? = some (.cells cs t (0, 0))) (hg : w.heap.size ≤ g) (ht : t ≠ 34) (u : Value) : PB w a (W.setCell ⟨g, i, none⟩ u) :=
 ⟨h.bel.setCell (p := ⟨g, i, none⟩) hg u, blk_far h.h0 (fun e => ht (by have := h.h0; rw [e, hc] at this; simp at this; exact this.2)) u, blk_far h.h1 (fun e => ht (by have := h.h1; rw [e, hc] at this; simp at this; exact this.2)) u⟩
end
theorem E45 : k45.E = [3] := rfl
theorem E76 (w : World) : (flag k76 w).E = [116] := rfl
theorem E68 (w : World) : (flag k68 w).E = [3] := rfl
theorem R_block {α : Type} {d : Kd α} {e base g n cap : Nat} {ok : Nat → Prop} {w : World} {xs : List α} (h : d.R e w base ok (.slice (some ⟨g, 0, none⟩) n cap) xs) : ∃ cells, w.heap[g]? = some (.cells cells e (0, 0)) := by
 obtain ⟨inner, ho⟩ := Kd.R_own h
 exact own_typed ho g (by simp [Value.ownBlock])
structure OW (w : World) (a : Array Value) (vT vM vW vS : Value) (t : List S45) (m : List Int) (fw : List (S76 × Bool)) (fs : List (S68 × Bool)) (W : World) : Prop where
 pb : PB w a W
 hT : k45.R 45 W w.heap.size (fun _ => True) vT t
 hM : (Kd.int .u64).R 38 W w.heap.size (fun _ => True) vM m
 hW : (flag k76 w).R 76 W w.heap.size (fun _ => True) vW fw
 hS : (flag k68 w).R 68 W w.heap.size (fun _ => True) vS fs
section
variable {w : World} {a : Array Value} {vT vM vW vS : Value} {t : List S45} {m : List Int} {fw : List (S76 × Bool)} {fs : List (S68 × Bool)} {W W1 : World}
theorem OW.below (h : OW w a vT vM vW vS t m fw fs W) (hb : Below W.heap.size W W1) : OW w a vT vM vW vS t m fw fs W1 := ⟨h.pb.below hb, Kd.R_below h.hT hb, Kd.R_below h.hM hb, Kd.R_below h.hW hb, Kd.R_below h.hS hb⟩
theorem OW.drew (h : OW w a vT vM vW vS t m fw fs W) : OW w a vT vM vW vS t m fw fs W.drew := h.below (below_drew (Below.refl _ _))
theorem OW.putW {g n cp k b : Nat} {l : List S76} {x : S76} (h : OW w a vT vM (.slice (some ⟨g, 0, none⟩) n cp) vS t m (fl l k) fs W) (hx : l[k]? = some x) (hk : k < n) {v2 : Value} (hr : k116.R 116 W b (fun _ => True) v2 x.f1) (hb : w.heap.size ≤ b) (hg : g < b) : OW w a vT vM (.slice (some ⟨g, 0, none⟩) n cp) vS t m (fl l (k + 1)) fs (W.setCell ⟨g, k * 11 + 1, none⟩ v2) := by
 obtain ⟨cells, hc⟩ := R_block h.hW
 exact ⟨h.pb.far hc (R_ge h.hW) (by decide) v2, Kd.R_set h.hT hc (by rw [E45]; decide) _ _, Kd.R_set h.hM hc (T1 (by decide)) _ _, (put76 h.hW hx hk hr hb hg (fun _ _ => trivial)).1, Kd.R_set h.hS hc (by rw [E68]; decide) _ _⟩
theorem OW.putS {g n cp k b : Nat} {l : List S68} {x : S68} (h : OW w a vT vM vW (.slice (some ⟨g, 0, none⟩) n cp) t m fw (fl l k) W) (hx : l[k]? = some x) (hk : k < n) {v2 : Value} (hr : (Kd.int .i64).R 3 W b (fun _ => True) v2 x.f1) (hb : w.heap.size ≤ b) (hg : g < b) : OW w a vT vM vW (.slice (some ⟨g, 0, none⟩) n cp) t m fw (fl l (k + 1)) (W.setCell ⟨g, k * 9 + 1, none⟩ v2) := by
 obtain ⟨cells, hc⟩ := R_block h.hS
 exact ⟨h.pb.far hc (R_ge h.hS) (by decide) v2, Kd.R_set h.hT hc (by rw [E45]; decide) _ _, Kd.R_set h.hM hc (T1 (by decide)) _ _, Kd.R_set h.hW hc (by rw [E76]; decide) _ _, (put68 h.hS hx hk hr hb hg (fun _ _ => trivial)).1⟩
end
theorem OW.eight {w : World} {a : Array Value} {vT vM vW vS : Value} {t : List S45} {m : List Int} {fw : List (S76 × Bool)} {fs : List (S68 × Bool)} {W : World} (h : OW w a vT vM vW vS t m fw fs W) (v0 v1 v2 v3 v4 v5 v6 v7 : Value) :
  ∃ V, V = (((((((W.setCell ⟨w.heap.size + 1, 0, none⟩ v0).setCell ⟨w.heap.size + 1, 1, none⟩ v1).setCell ⟨w.heap.size + 1, 2, none⟩ v2).setCell ⟨w.heap.size + 1, 3, none⟩ v3).setCell ⟨w.heap.size + 1, 4, none⟩ v4).setCell ⟨w.heap.size + 1, 5, none⟩ v5).setCell ⟨w.heap.size + 1, 6, none⟩ v6).setCell ⟨w.heap.size + 1, 7, none⟩ v7 ∧
   V.heap[w.heap.size + 1]? = some (.cells #[v0, v1, v2, v3, v4, v5, v6, v7] 34 (0, 0)) ∧ Below w.heap.size w V ∧ k45.R 45 V w.heap.size (fun _ => True) vT t ∧ (Kd.int .u64).R 38 V w.heap.size (fun _ => True) vM m ∧ (flag k76 w).R 76 V w.heap.size (fun _ => True) vW fw ∧ (flag k68 w).R 68 V w.heap.size (fun _ => True) vS fs := by
 have far : ∀ b, b ≠ w.heap.size + 1 → ((((((((W.setCell ⟨w.heap.size + 1, 0, none⟩ v0).setCell ⟨w.heap.size + 1, 1, none⟩ v1).setCell ⟨w.heap.size + 1, 2, none⟩ v2).setCell ⟨w.heap.size + 1, 3, none⟩ v3).setCell ⟨w.heap.size + 1, 4, none⟩ v4).setCell ⟨w.heap.size + 1, 5, none⟩ v5).setCell ⟨w.heap.size + 1, 6, none⟩ v6).setCell ⟨w.heap.size + 1, 7, none⟩ v7).heap[b]? = W.heap[b]? := by
  intro b hb
  have f : ∀ (V : World) (i : Nat) (u : Value), (V.setCell ⟨w.heap.size + 1, i, none⟩ u).heap[b]? = V.heap[b]? := fun V i u => Below.heap_setCell V _ u b hb
  simp only [f]
 have st : ∀ (V : World) (i : Nat) (u : Value), Below w.heap.size w V → Below w.heap.size w (V.setCell ⟨w.heap.size + 1, i, none⟩ u) := fun V i u hV => hV.setCell (p := ⟨w.heap.size + 1, i, none⟩) (Nat.le_succ _) u
 exact ⟨_, rfl, by simpa using blk_set (blk_set (blk_set (blk_set (blk_set (blk_set (blk_set (blk_set h.pb.h1 0 v0) 1 v1) 2 v2) 3 v3) 4 v4) 5 v5) 6 v6) 7 v7, st _ _ _ (st _ _ _ (st _ _ _ (st _ _ _ (st _ _ _ (st _ _ _ (st _ _ _ (st _ _ _ h.pb.bel))))))),
  R_but h.hT h.pb.h1 (by rw [E45]; decide) far, R_but h.hM h.pb.h1 (T1 (by decide)) far, R_but h.hW h.pb.h1 (by rw [E76]; decide) far, R_but h.hS h.pb.h1 (by rw [E68]; decide) far⟩
theorem clone55f (w0 : World) (A : Option Addr) (c : Nat) (l : List S76) (w : World) (hc : Kd.C (Kd.fixed k76 w0) w A l.length l) (hn : l.length ≤ 1000000) :
  Calls Tryz.prog 55 #[.slice A l.length c] w fun e w' => ∃ v, e = .returned v ∧ (Kd.fixed (Kd.fixed k76 w0) w).R 76 w' w.heap.size (fun _ => True) v l ∧ Below w.heap.size w w' := by
 have HC := qQ hc
 clear hc
 cases A with
 | none =>
  have h0 : l = [] := by
   rcases Nat.eq_zero_or_pos l.length with h | h
   ·exact List.length_eq_zero_iff.1 h
   ·obtain ⟨ad, e, _⟩ := HC.o.2.2 h; cases e
  subst h0
  have E := fun wx => Lib.run_eql_slice_nil (P := Tryz.prog) wx 31 76 none ([] : List S76).length c 0 0 Tryz.underlying31
  simp only [List.length_nil] at E ⊢
  go_enter Tryz.func55, Tryz.ntmps55
  go_wp2
  go_ret
  exact ⟨_, rfl, Kd.R_nil _ _ _ _ _, Below.refl _ _⟩
 | some ad =>
  have E := fun wx => Lib.run_eql_slice_nil (P := Tryz.prog) wx 31 76 (some ad) l.length c 0 0 Tryz.underlying31
  go_enter Tryz.func55, Tryz.ntmps55
  go_wp2_with (first | ((with_reducible refine gate_dst (N := 5) rfl ?_); refine Kd.R_lit (Kd.fixed (Kd.fixed k76 w0) w) _ 76 ?hg (N := 5) ?hd (xs := ([] : List S76)) (inner := []) (ok := fun _ => True) (okp := fun _ => True) ?hr ?hp (fun _ hk => hk) trivial (Below.refl _ _) (Nat.le_refl _) (by simp) ?_; (case hd => rfl); (case hg => rfl); (case hr => first | (go_simp; done) | (go_simp; rfl)); (case hp => exact Reps.none _ _); intro v1 w1 ho1 hb1 hg1 hn1; clear hg1 hn1; have HO1 := qQ ho1; have HB1 := qQ hb1; clear ho1 hb1; obtain ⟨A1, c1, eo1⟩ := Kd.R_slice HO1.o; subst eo1) | ((with_reducible refine gate_builtin (b := .append) (xs := #[.tmp 5, .tmp 6]) rfl ?_); at_builtin; refine Kd.R_append_rows (Kd.fixed (Kd.fixed k76 w0) w) (Rr := Kd.K (Kd.fixed k76 w0) w) (w0 := w) w.heap.size rfl (.tmp 5) (.tmp 6) 31 76 (.agg #[.int .i64 0, .slice none 0 0, .int .i64 0, .int .i64 0, .int .i64 0, .int .u64 0, .int .u64 0, .int .u64 0, .int .i64 0, .int .i64 0, .int .i64 0]) 104 rfl Tryz.underlying31 cinfo76 rfl (by show 0 < 11; decide) (by omega) _ ([] : List S76) l _ _ _ (fun _ => True) (fun _ => False) rfl rfl HO1.o (ReadsRow.imp_ HC.o HB1.o (fun _ _ hp => hp)) (fun _ _ h => h) (fun _ h => h.elim) (fun _ _ => trivial) HB1.o HB1.o.size (by simp; omega) ?_; intro v2 w2 ho2 hb2 hg2 hn2; clear hg2 hn2; rw [List.nil_append] at ho2; have HO2 := qQ ho2; have HB2 := qQ hb2; clear ho2 hb2))
  go_ret
  exact ⟨_, rfl, HO2.o, HB2.o⟩
theorem clone56f (w0 : World) (A : Option Addr) (c : Nat) (l : List S68) (w : World) (hc : Kd.C (Kd.fixed k68 w0) w A l.length l) (hn : l.length ≤ 1000000) :
  Calls Tryz.prog 56 #[.slice A l.length c] w fun e w' => ∃ v, e = .returned v ∧ (Kd.fixed (Kd.fixed k68 w0) w).R 68 w' w.heap.size (fun _ => True) v l ∧ Below w.heap.size w w' := by
 have HC := qQ hc
 clear hc
 cases A with
 | none =>
  have h0 : l = [] := by
   rcases Nat.eq_zero_or_pos l.length with h | h
   ·exact List.length_eq_zero_iff.1 h
   ·obtain ⟨ad, e, _⟩ := HC.o.2.2 h; cases e
  subst h0
  have E := fun wx => Lib.run_eql_slice_nil (P := Tryz.prog) wx 32 68 none ([] : List S68).length c 0 0 Tryz.underlying32
  simp only [List.length_nil] at E ⊢
  go_enter Tryz.func56, Tryz.ntmps56
  go_wp2
  go_ret
  exact ⟨_, rfl, Kd.R_nil _ _ _ _ _, Below.refl _ _⟩
 | some ad =>
  have E := fun wx => Lib.run_eql_slice_nil (P := Tryz.prog) wx 32 68 (some ad) l.length c 0 0 Tryz.underlying32
  go_enter Tryz.func56, Tryz.ntmps56
  go_wp2_with (first | ((with_reducible refine gate_dst (N := 5) rfl ?_); refine Kd.R_lit (Kd.fixed (Kd.fixed k68 w0) w) _ 68 ?hg (N := 5) ?hd (xs := ([] : List S68)) (inner := []) (ok := fun _ => True) (okp := fun _ => True) ?hr ?hp (fun _ hk => hk) trivial (Below.refl _ _) (Nat.le_refl _) (by simp) ?_; (case hd => rfl); (case hg => rfl); (case hr => first | (go_simp; done) | (go_simp; rfl)); (case hp => exact Reps.none _ _); intro v1 w1 ho1 hb1 hg1 hn1; clear hg1 hn1; have HO1 := qQ ho1; have HB1 := qQ hb1; clear ho1 hb1; obtain ⟨A1, c1, eo1⟩ := Kd.R_slice HO1.o; subst eo1) | ((with_reducible refine gate_builtin (b := .append) (xs := #[.tmp 5, .tmp 6]) rfl ?_); at_builtin; refine Kd.R_append_rows (Kd.fixed (Kd.fixed k68 w0) w) (Rr := Kd.K (Kd.fixed k68 w0) w) (w0 := w) w.heap.size rfl (.tmp 5) (.tmp 6) 32 68 (.agg #[.int .i64 0, .slice none 0 0, .int .i64 0, .int .i64 0, .int .i64 0, .int .u64 0, .int .u64 0, .int .u64 0, .int .i64 0]) 88 rfl Tryz.underlying32 cinfo68 rfl (by show 0 < 9; decide) (by omega) _ ([] : List S68) l _ _ _ (fun _ => True) (fun _ => False) rfl rfl HO1.o (ReadsRow.imp_ HC.o HB1.o (fun _ _ hp => hp)) (fun _ _ h => h) (fun _ h => h.elim) (fun _ _ => trivial) HB1.o HB1.o.size (by simp; omega) ?_; intro v2 w2 ho2 hb2 hg2 hn2; clear hg2 hn2; rw [List.nil_append] at ho2; have HO2 := qQ ho2; have HB2 := qQ hb2; clear ho2 hb2))
  go_ret
  exact ⟨_, rfl, HO2.o, HB2.o⟩
theorem own_31 (c : Cf) (t : List S45) (At : Option Addr) (ct : Nat) (m : List Int) (Am : Option Addr) (cm : Nat) (ws : List S76) (Aw : Option Addr) (cw : Nat) (ss : List S68) (As : Option Addr) (cs_ : Nat) (w : World) (h : PRd c t At ct m Am cm ws Aw cw ss As cs_ w)
  (hn : t.length ≤ 1000000) (hk : ∀ x ∈ t, x.f1.length ≤ 1000000) (hmn : m.length ≤ 1000000) (hwn : ws.length ≤ 1000000) (hwk : ∀ x ∈ ws, x.f1.length ≤ 1000000) (hsn : ss.length ≤ 1000000) (hsk : ∀ x ∈ ss, x.f1.length ≤ 1000000) :
  Calls Tryz.prog 31 #[.agg (pC c (.slice At t.length ct) (.slice Am m.length cm) (.slice Aw ws.length cw) (.slice As ss.length cs_))] w fun e w' => ∃ vT vM vW vS, e = .returned (.agg (pC c vT vM vW vS)) ∧
   k45.R 45 w' w.heap.size (fun _ => True) vT t ∧ (Kd.int .u64).R 38 w' w.heap.size (fun _ => True) vM m ∧ k76.R 76 w' w.heap.size (fun _ => True) vW ws ∧ k68.R 68 w' w.heap.size (fun _ => True) vS ss ∧ Below w.heap.size w w' := by
 have HT := qQ h.hT
 have HM := qQ h.hM
 have HWr := qQ h.hW
 have HSr := qQ h.hS
 have HTN := qQ hn
 have HTK := qQ hk
 have HMN := qQ hmn
 have HWN := qQ hwn
 have HWK := qQ hwk
 have HSN := qQ hsn
 have HSK := qQ hsk
 have HB0 := qQ (PB.start w (pC c (.slice At t.length ct) (.slice Am m.length cm) (.slice Aw ws.length cw) (.slice As ss.length cs_)))
 clear h hn hk hmn hwk hsk
 go_enter Tryz.func31, Tryz.ntmps31
 go_wp2
 refine zS 10 [7, 9] (fun W' => PB w (pC c (.slice At t.length ct) (.slice Am m.length cm) (.slice Aw ws.length cw) (.slice As ss.length cs_)) W') HB0.o.drew fun hHeld => ?_
 refine zY 0 1 5 ?_
 refine zT 1 3 6 ?_ (hy := zy17)
 refine zY 3 11 8 ?_
 refine zT 4 27 9 ?_ (hy := zy17)
 refine zO 2 31 7 fun K hK => ?_
 go_simp
 refine (tasks_25 At ct t _ (Kd.C_below HT.o HB0.o.drew.bel) HTN.o HTK.o).mono ?_
 rintro e w2 ⟨v, rfl, hr, hb⟩
 obtain ⟨A5, c5, eo⟩ := Kd.R_slice hr
 subst eo
 have HB2 := qQ (HB0.o.drew.below hb)
 have HT2 := qQ (Kd.R_mono (Kd.R_lower hr HB0.o.drew.bel.size) (fun _ _ => trivial))
 clear hr hb
 refine hK.out _ _ HB2.o (fun hHeld => ?_)
 refine zY 6 95 11 ?_
 refine zO 5 127 10 fun K hK => ?_
 go_simp
 refine (clone54' Am cm m _ (Kd.C_below HM.o HB2.o.bel) HMN.o).mono ?_
 rintro e w3 ⟨v, rfl, hr, hb⟩
 obtain ⟨A6, c6, eo⟩ := Kd.R_slice hr
 subst eo
 have HB3 := qQ (HB2.o.below hb)
 have HT3 := qQ (Kd.R_below HT2.o hb)
 have HM3 := qQ (Kd.R_lower hr HB2.o.bel.size)
 clear hr hb
 refine hK.out _ _ HB3.o (fun hHeld => ?_)
 refine zL 7 255 fun K hK => ?_
 have y0 := fun j => blk_cell HB3.o.h0 j
 have y1 := fun j => blk_frozen HB3.o.h0 j
 go_simp
 refine hK.out _ _ ?_
 clear y0 y1
 refine zY 8 511 12 ?_
 refine zL 9 1023 fun K hK => ?_
 have y0 := fun j => blk_cell (HB3.o.put 4 (.slice A5 t.length c5)).h0 j
 have y1 := fun j => blk_frozen (HB3.o.put 4 (.slice A5 t.length c5)).h0 j
 go_simp
 refine hK.out _ _ ?_
 clear y0 y1
 refine zD ?_
 have HB4 := qQ (show PB w (pC c (.slice A5 t.length c5) (.slice A6 m.length c6) (.slice Aw ws.length cw) (.slice As ss.length cs_)) ((w3.setCell ⟨w.heap.size, 4, none⟩ (.slice A5 t.length c5)).setCell ⟨w.heap.size, 5, none⟩ (.slice A6 m.length c6)) from (HB3.o.put 4 (.slice A5 t.length c5)).put 5 (.slice A6 m.length c6))
 have HT4 := qQ (Kd.R_set (Kd.R_set HT3.o HB3.o.h0 (by rw [E45]; decide) 4 (.slice A5 t.length c5)) (HB3.o.put 4 (.slice A5 t.length c5)).h0 (by rw [E45]; decide) 5 (.slice A6 m.length c6))
 have HM4 := qQ (Kd.R_set (Kd.R_set HM3.o HB3.o.h0 (T1 (by decide)) 4 (.slice A5 t.length c5)) (HB3.o.put 4 (.slice A5 t.length c5)).h0 (T1 (by decide)) 5 (.slice A6 m.length c6))
 generalize ((w3.setCell ⟨w.heap.size, 4, none⟩ (.slice A5 t.length c5)).setCell ⟨w.heap.size, 5, none⟩ (.slice A6 m.length c6)) = w4 at HB4 HT4 HM4 ⊢
 clear hHeld HB3 HT3 HM3 HB2 HT2 HB0
 go_wp2
 refine zS 10 [7, 9] (fun W' => PB w (pC c (.slice A5 t.length c5) (.slice A6 m.length c6) (.slice Aw ws.length cw) (.slice As ss.length cs_)) W') HB4.o.drew fun hHeld => ?_
 refine zY 0 1 13 ?_
 refine zT 1 3 14 ?_ (hy := zy17)
 refine zY 3 11 16 ?_
 refine zT 4 27 17 ?_ (hy := zy17)
 refine zO 2 31 15 fun K hK => ?_
 go_simp
 refine (clone55f w Aw cw ws _ (ReadsRow.imp_ HWr.o HB4.o.drew.bel (fun _ _ hp => hp)) HWN.o).mono ?_
 rintro e w5 ⟨v, rfl, hr, hb⟩
 obtain ⟨A8, c8, eo⟩ := Kd.R_slice hr
 subst eo
 have HB5 := qQ (HB4.o.drew.below hb)
 have HT5 := qQ (Kd.R_below (Kd.R_drew HT4.o) hb)
 have HM5 := qQ (Kd.R_below (Kd.R_drew HM4.o) hb)
 have HW5 := qQ (Kd.R_mono (Kd.R_lower (fl_start (d := k76) (w0 := w) (Kd.R_imp (d := Kd.fixed (Kd.fixed k76 w) w4.drew) (d' := Kd.fixed k76 w) rfl (fun _ _ _ _ _ h => h) hr)) HB4.o.drew.bel.size) (fun _ _ => trivial))
 clear hr hb
 refine hK.out _ _ HB5.o (fun hHeld => ?_)
 refine zY 6 95 19 ?_
 refine zO 5 127 18 fun K hK => ?_
 go_simp
 refine (clone56f w As cs_ ss _ (ReadsRow.imp_ HSr.o HB5.o.bel (fun _ _ hp => hp)) HSN.o).mono ?_
 rintro e w6 ⟨v, rfl, hr, hb⟩
 obtain ⟨A9, c9, eo⟩ := Kd.R_slice hr
 subst eo
 have HB6 := qQ (HB5.o.below hb)
 have HT6 := qQ (Kd.R_below HT5.o hb)
 have HM6 := qQ (Kd.R_below HM5.o hb)
 have HW6 := qQ (Kd.R_below HW5.o hb)
 have HS6 := qQ (Kd.R_mono (Kd.R_lower (fl_start (d := k68) (w0 := w) (Kd.R_imp (d := Kd.fixed (Kd.fixed k68 w) w5) (d' := Kd.fixed k68 w) rfl (fun _ _ _ _ _ h => h) hr)) HB5.o.bel.size) (fun _ _ => trivial))
 clear hr hb
 refine hK.out _ _ HB6.o (fun hHeld => ?_)
 refine zL 7 255 fun K hK => ?_
 have y0 := fun j => blk_cell HB6.o.h0 j
 have y1 := fun j => blk_frozen HB6.o.h0 j
 go_simp
 refine hK.out _ _ ?_
 clear y0 y1
 refine zY 8 511 20 ?_
 refine zL 9 1023 fun K hK => ?_
 have y0 := fun j => blk_cell (HB6.o.put 6 (.slice A8 ws.length c8)).h0 j
 have y1 := fun j => blk_frozen (HB6.o.put 6 (.slice A8 ws.length c8)).h0 j
 go_simp
 refine hK.out _ _ ?_
 clear y0 y1
 refine zD ?_
 have HO7 := qQ (show OW w (pC c (.slice A5 t.length c5) (.slice A6 m.length c6) (.slice A8 ws.length c8) (.slice A9 ss.length c9)) (.slice A5 t.length c5) (.slice A6 m.length c6) (.slice A8 ws.length c8) (.slice A9 ss.length c9) t m (fl ws 0) (fl ss 0) ((w6.setCell ⟨w.heap.size, 6, none⟩ (.slice A8 ws.length c8)).setCell ⟨w.heap.size, 7, none⟩ (.slice A9 ss.length c9)) from ⟨(HB6.o.put 6 (.slice A8 ws.length c8)).put 7 (.slice A9 ss.length c9), (Kd.R_set (Kd.R_set HT6.o HB6.o.h0 (by rw [E45]; decide) 6 (.slice A8 ws.length c8)) (HB6.o.put 6 (.slice A8 ws.length c8)).h0 (by rw [E45]; decide) 7 (.slice A9 ss.length c9)), (Kd.R_set (Kd.R_set HM6.o HB6.o.h0 (T1 (by decide)) 6 (.slice A8 ws.length c8)) (HB6.o.put 6 (.slice A8 ws.length c8)).h0 (T1 (by decide)) 7 (.slice A9 ss.length c9)), (Kd.R_set (Kd.R_set HW6.o HB6.o.h0 (by rw [E76]; decide) 6 (.slice A8 ws.length c8)) (HB6.o.put 6 (.slice A8 ws.length c8)).h0 (by rw [E76]; decide) 7 (.slice A9 ss.length c9)), (Kd.R_set (Kd.R_set HS6.o HB6.o.h0 (by rw [E68]; decide) 6 (.slice A8 ws.length c8)) (HB6.o.put 6 (.slice A8 ws.length c8)).h0 (by rw [E68]; decide) 7 (.slice A9 ss.length c9))⟩)
 generalize ((w6.setCell ⟨w.heap.size, 6, none⟩ (.slice A8 ws.length c8)).setCell ⟨w.heap.size, 7, none⟩ (.slice A9 ss.length c9)) = w7 at HO7 ⊢
 clear hHeld HB6 HT6 HM6 HW6 HS6 HB5 HT5 HM5 HW5 HB4 HT4 HM4
 have z0 := (blk_cell HO7.o.pb.h0 0).trans rfl
 have z1 := (blk_cell HO7.o.pb.h0 1).trans rfl
 have z2 := (blk_cell HO7.o.pb.h0 2).trans rfl
 have z3 := (blk_cell HO7.o.pb.h0 3).trans rfl
 have z4 := (blk_cell HO7.o.pb.h0 4).trans rfl
 have z5 := (blk_cell HO7.o.pb.h0 5).trans rfl
 have z6 := (blk_cell HO7.o.pb.h0 6).trans rfl
 have z7 := (blk_cell HO7.o.pb.h0 7).trans rfl
 go_wp2
 clear z0 z1 z2 z3 z4 z5 z6 z7
 go_loopw [24] (fun i wr => ∃ k : Nat, k ≤ ws.length ∧ i = .int .i64 (k : Int) ∧ Aside0 (OW w (pC c (.slice A5 t.length c5) (.slice A6 m.length c6) (.slice A8 ws.length c8) (.slice A9 ss.length c9)) (.slice A5 t.length c5) (.slice A6 m.length c6) (.slice A8 ws.length c8) (.slice A9 ss.length c9) t m (fl ws k) (fl ss 0) wr))
  (fun i _ => ws.length - (intOf i).toNat)
 case atStart => exact ⟨0, by omega, rfl, HO7⟩
 case round =>
  obtain ⟨k, hk, rfl, HOr⟩ := hrel
  clear HO7
  by_cases hlt : k < ws.length
  ·obtain ⟨x, hx⟩ : ∃ x, ws[k]? = some x := ⟨_, List.getElem?_eq_getElem hlt⟩
   have HX := qQ hx
   have hxn := HWK.o x (List.mem_of_getElem? hx)
   obtain ⟨g, c', eo, hg⟩ := R_some HOr.o.hW (by rw [fl_len]; omega)
   injection eo with e1 e2 e3
   subst e1
   subst e3
   have HGl := qQ (R_lt HOr.o.hW)
   obtain ⟨A1, c2, x1, x2, _, g1⟩ := get76 HOr.o.hW hx hlt
   have HG1 := qQ g1
   clear hx g1 hg e2
   have kk : ((k : Int) < (ws.length : Int)) = True := eq_true (by omega)
   have k0 : (0 ≤ (k : Int)) = True := eq_true (by omega)
   have z0 := (blk_cell HOr.o.pb.h0 0).trans rfl
   have z1 := (blk_cell HOr.o.pb.h0 1).trans rfl
   have z2 := (blk_cell HOr.o.pb.h0 2).trans rfl
   have z3 := (blk_cell HOr.o.pb.h0 3).trans rfl
   have z4 := (blk_cell HOr.o.pb.h0 4).trans rfl
   have z5 := (blk_cell HOr.o.pb.h0 5).trans rfl
   have z6 := (blk_cell HOr.o.pb.h0 6).trans rfl
   have z7 := (blk_cell HOr.o.pb.h0 7).trans rfl
   go_wp2
   refine zS 13 [12] (fun W' => PB w (pC c (.slice A5 t.length c5) (.slice A6 m.length c6) (.slice (some ⟨g, 0, none⟩) ws.length c8) (.slice A9 ss.length c9)) W' ∧ W'.cell? ⟨g, k * 11 + 1, none⟩ = some (.slice A1 x.f1.length c2)) ⟨HOr.o.drew.pb, x1⟩ fun hHeld => ?_
   refine zY 0 1 27 ?_
   refine zT 1 3 28 ?_ (hy := zy11)
   refine zY 2 7 29 ?_
   refine zY 3 15 30 ?_
   refine zT 4 31 31 ?_ (hy := zy11)
   refine zY 5 63 32 ?_
   refine zY 6 127 33 ?_
   refine zY 7 255 34 ?_
   refine zT 8 511 35 ?_ (hy := zy11)
   refine zO 9 1023 36 fun K hK => ?_
   go_simp
   refine (clone57d A1 c2 x.f1 _ (Kd.C_below HG1.o HOr.o.drew.pb.bel) hxn).mono ?_
   rintro e w8 ⟨v2, rfl, hr, hb⟩
   obtain ⟨A3, c3, eo⟩ := Kd.R_slice hr
   subst eo
   have HO8 := qQ (HOr.o.drew.below hb)
   have HR8 := qQ hr
   have HS9 := qQ HOr.o.drew.pb.bel.size
   have q1 := (pw_cell_below hb x1)
   clear hr hb
   refine hK.out _ _ ⟨HO8.o.pb, q1⟩ (fun hHeld => ?_)
   refine zY 10 2047 37 ?_
   refine zY 11 4095 38 ?_
   refine zL 12 8191 fun K hK => ?_
   obtain ⟨B1, d2, y1, y2, _, _⟩ := get76 HO8.o.hW HX.o hlt
   go_simp
   refine hK.out _ _ ?_
   refine zD ?_
   go_wp2
   go_roundw
   case rel => exact ⟨k + 1, by omega, by simp, ⟨HO8.o.putW HX.o hlt HR8.o HS9.o HGl.o⟩⟩
   case measure => simp [intOf]; omega
  ·have kk : ((k : Int) < (ws.length : Int)) = False := eq_false (by omega)
   obtain rfl : k = ws.length := by omega
   have z0 := (blk_cell HOr.o.pb.h0 0).trans rfl
   have z1 := (blk_cell HOr.o.pb.h0 1).trans rfl
   have z2 := (blk_cell HOr.o.pb.h0 2).trans rfl
   have z3 := (blk_cell HOr.o.pb.h0 3).trans rfl
   have z4 := (blk_cell HOr.o.pb.h0 4).trans rfl
   have z5 := (blk_cell HOr.o.pb.h0 5).trans rfl
   have z6 := (blk_cell HOr.o.pb.h0 6).trans rfl
   have z7 := (blk_cell HOr.o.pb.h0 7).trans rfl
   go_wp2
   clear z0 z1 z2 z3 z4 z5 z6 z7
   go_loopw [43] (fun i wr => ∃ k : Nat, k ≤ ss.length ∧ i = .int .i64 (k : Int) ∧ Aside0 (OW w (pC c (.slice A5 t.length c5) (.slice A6 m.length c6) (.slice A8 ws.length c8) (.slice A9 ss.length c9)) (.slice A5 t.length c5) (.slice A6 m.length c6) (.slice A8 ws.length c8) (.slice A9 ss.length c9) t m (fl ws ws.length) (fl ss k) wr))
    (fun i _ => ss.length - (intOf i).toNat)
   case atStart => exact ⟨0, by omega, rfl, HOr⟩
   case round =>
    obtain ⟨k, hk, rfl, HOq⟩ := hrel
    clear HOr
    by_cases hlt : k < ss.length
    ·obtain ⟨x, hx⟩ : ∃ x, ss[k]? = some x := ⟨_, List.getElem?_eq_getElem hlt⟩
     have HX := qQ hx
     have hxn := HSK.o x (List.mem_of_getElem? hx)
     obtain ⟨g, c', eo, hg⟩ := R_some HOq.o.hS (by rw [fl_len]; omega)
     injection eo with e1 e2 e3
     subst e1
     subst e3
     have HGl := qQ (R_lt HOq.o.hS)
     obtain ⟨A1, c2, x1, x2, _, g1⟩ := get68 HOq.o.hS hx hlt
     have HG1 := qQ g1
     clear hx g1 hg e2
     have kk : ((k : Int) < (ss.length : Int)) = True := eq_true (by omega)
     have k0 : (0 ≤ (k : Int)) = True := eq_true (by omega)
     have z0 := (blk_cell HOq.o.pb.h0 0).trans rfl
     have z1 := (blk_cell HOq.o.pb.h0 1).trans rfl
     have z2 := (blk_cell HOq.o.pb.h0 2).trans rfl
     have z3 := (blk_cell HOq.o.pb.h0 3).trans rfl
     have z4 := (blk_cell HOq.o.pb.h0 4).trans rfl
     have z5 := (blk_cell HOq.o.pb.h0 5).trans rfl
     have z6 := (blk_cell HOq.o.pb.h0 6).trans rfl
     have z7 := (blk_cell HOq.o.pb.h0 7).trans rfl
     go_wp2
     refine zS 13 [12] (fun W' => PB w (pC c (.slice A5 t.length c5) (.slice A6 m.length c6) (.slice A8 ws.length c8) (.slice (some ⟨g, 0, none⟩) ss.length c9)) W' ∧ W'.cell? ⟨g, k * 9 + 1, none⟩ = some (.slice A1 x.f1.length c2)) ⟨HOq.o.drew.pb, x1⟩ fun hHeld => ?_
     refine zY 0 1 46 ?_
     refine zT 1 3 47 ?_ (hy := zy11)
     refine zY 2 7 48 ?_
     refine zY 3 15 49 ?_
     refine zT 4 31 50 ?_ (hy := zy11)
     refine zY 5 63 51 ?_
     refine zY 6 127 52 ?_
     refine zY 7 255 53 ?_
     refine zT 8 511 54 ?_ (hy := zy11)
     refine zO 9 1023 55 fun K hK => ?_
     go_simp
     refine (clone51' A1 c2 x.f1 _ (Kd.C_below HG1.o HOq.o.drew.pb.bel) hxn).mono ?_
     rintro e w8 ⟨v2, rfl, hr, hb⟩
     obtain ⟨A3, c3, eo⟩ := Kd.R_slice hr
     subst eo
     have HO8 := qQ (HOq.o.drew.below hb)
     have HR8 := qQ hr
     have HS9 := qQ HOq.o.drew.pb.bel.size
     have q1 := (pw_cell_below hb x1)
     clear hr hb
     refine hK.out _ _ ⟨HO8.o.pb, q1⟩ (fun hHeld => ?_)
     refine zY 10 2047 56 ?_
     refine zY 11 4095 57 ?_
     refine zL 12 8191 fun K hK => ?_
     obtain ⟨B1, d2, y1, y2, _, _⟩ := get68 HO8.o.hS HX.o hlt
     go_simp
     refine hK.out _ _ ?_
     refine zD ?_
     go_wp2
     go_roundw
     case rel => exact ⟨k + 1, by omega, by simp, ⟨HO8.o.putS HX.o hlt HR8.o HS9.o HGl.o⟩⟩
     case measure => simp [intOf]; omega
    ·have kk : ((k : Int) < (ss.length : Int)) = False := eq_false (by omega)
     obtain rfl : k = ss.length := by omega
     have z0 := (blk_cell HOq.o.pb.h0 0).trans rfl
     have z1 := (blk_cell HOq.o.pb.h0 1).trans rfl
     have z2 := (blk_cell HOq.o.pb.h0 2).trans rfl
     have z3 := (blk_cell HOq.o.pb.h0 3).trans rfl
     have z4 := (blk_cell HOq.o.pb.h0 4).trans rfl
     have z5 := (blk_cell HOq.o.pb.h0 5).trans rfl
     have z6 := (blk_cell HOq.o.pb.h0 6).trans rfl
     have z7 := (blk_cell HOq.o.pb.h0 7).trans rfl
     have u0 := fun j => blk_cell HOq.o.pb.h1 j
     have u1 := fun j => blk_frozen HOq.o.pb.h1 j
     go_wp2
     obtain ⟨V, eV, v0, v1, v2, v3, v4, v5⟩ := HOq.o.eight (.int .i64 c.w) (.int .i64 c.d) (.int .i64 c.i) (.int .i64 c.s) (.slice A5 t.length c5) (.slice A6 m.length c6) (.slice A8 ws.length c8) (.slice A9 ss.length c9)
     rw [← eV]
     refine bodyPost_ret (results_cell_row rfl _ _ (w.heap.size + 1) 34 (pC c (.slice A5 t.length c5) (.slice A6 m.length c6) (.slice A8 ws.length c8) (.slice A9 ss.length c9)) (0, 0) _ rfl v0 Tryz.underlying34 rfl (by kernel_rfl)) rfl ?_
     exact ⟨_, _, _, _, rfl, v2, v3, fl_stop v4 (Nat.le_refl _), fl_stop v5 (Nat.le_refl _), v1⟩
theorem hand_done (k : HK) (x : Hd) (kd tk : Int) (x' : Hd) (hT : Kd.C k45 k.wb k.At k.t.length k.t) (hct : k.t.length ≤ k.ct) (hnx : NEXTP k.t x.st kd tk) (hx : (¬ kd = 3 ∧ x' = { x with pc := 9, f := ⟨0, 0, 0, 0, 0, 0, 0⟩ }) ∨ (kd = 3 ∧ ∃ s' m' r, addF x.m 0 18446744073709551615 = (m', r) ∧ DOP k.t x.st s' ∧ x.m.length ≤ 1000000 ∧ x.ev.length ≤ 900000 ∧ x' = { x with m := m', ev := if r = 1 then x.ev ++ [⟨4, tk, k.wn⟩] ++ [⟨5, 0, k.wn⟩] else x.ev ++ [⟨4, tk, k.wn⟩], st := s', pc := if s'.length = 0 then 0 else 9, f := if s'.length = 0 then ⟨1, 0, k.wn, 0, 0, 0, 0⟩ else ⟨0, 0, 0, 0, 0, 0, 0⟩ })) : HDoes 90 [] k x (x') := by
 intro W g v1 vm ve h
 obtain ⟨A1, c1, rfl⟩ := Kd.R_slice h.rs
 obtain ⟨Am, cm, rfl⟩ := Kd.R_slice h.rm
 obtain ⟨Ae, ce, rfl⟩ := Kd.R_slice h.re
 have HS0 := qQ h
 have HHT := qQ hT
 have HHCT := qQ hct
 have HHNX := qQ hnx
 have HHX := qQ hx
 clear h hT hct hnx hx
 show Calls Tryz.prog 90 #[.pointer (some ⟨g, 0, none⟩)] W _
 go_enter Tryz.func90, Tryz.ntmps90
 have h0 := handCells HS0.o.hb; have hz := HSt.frozen HS0.o
 have u_ := HHNX.o
 unfold NEXTP at u_
 have HNX := qQ u_
 clear u_ HHNX
 go_wp2
 refine zS 12 [11] (fun W' => W'.heap[g]? = some (handO k x (.slice A1 x.st.length c1) (.slice Am x.m.length cm) (.slice Ae x.ev.length ce))) HS0.o.drew.hb fun hHeld => ?_
 refine zY 0 1 4 ?_
 refine zY 1 3 5 ?_
 refine zY 2 7 6 ?_
 refine zT 3 15 7 ?_ (hy := zy5)
 refine zY 4 31 8 ?_
 refine zY 5 63 9 ?_
 refine zY 6 127 10 ?_
 refine zY 7 255 11 ?_
 refine zT 8 511 12 ?_ (hy := zy5)
 refine join_ (σ := Nat) 1 (zM 12 2047) (fun nb => [(13, .agg #[.int .i64 kd, .int .i64 tk]), (2, .pointer (some ⟨nb, 0, none⟩))]) (fun nb w' => HSt k W (.slice Ae x.ev.length ce) g x (.slice A1 x.st.length c1) (.slice Am x.m.length cm) (.slice Ae x.ev.length ce) w' ∧ w'.heap[nb]? = some (.cells #[.int .i64 0, .int .i64 0] 153 (0, 0)) ∧ W.heap.size ≤ nb) ?_ ?_
 rotate_left
 ·intro hcont
  refine two_ (i := 9) (j := 10) (Ni := some 13) (Nj := some 2) (zM 12 1023) (zM 12 1535) rfl rfl rfl rfl (by kernel_rfl) (by decide) (by decide) (fun K hK => ?_) (fun K hK => ?_)
  ·go_simp
   refine (HNX.o k.At k.ct A1 c1 W.drew (Kd.C_below HHT.o HS0.o.drew.bel) HHCT.o (Kd.R_reads' HS0.o.drew.rs).2.2 (Kd.R_reads' HS0.o.drew.rs).2.1).mono ?_
   rintro e w1 ⟨rfl, hd⟩
   have hs1 := HS0.o.drew.below hd
   refine hK.out _ _ hs1.hb (fun hHeld => ?_)
   refine zO 10 2047 2 fun K hK => ?_
   go_simp
   refine hK.out _ _ (blk_alloc hs1.hb _) (fun _ => ?_)
   exact norm_ rfl (hcont w1.heap.size _ ⟨hs1.below (below_alloc (Below.refl _ _) _), blk_new _ _, hs1.sz⟩)
  ·go_simp
   refine hK.out _ _ (blk_alloc HS0.o.drew.hb _) (fun hHeld => ?_)
   refine zO 9 2047 13 fun K hK => ?_
   go_simp
   have hs1 := (HS0.o.below (below_alloc (Below.refl _ _) (.cells #[.int .i64 0, .int .i64 0] 153))).drew
   refine (HNX.o k.At k.ct A1 c1 _ (Kd.C_below HHT.o hs1.bel) HHCT.o (Kd.R_reads' hs1.rs).2.2 (Kd.R_reads' hs1.rs).2.1).mono ?_
   rintro e w1 ⟨rfl, hd⟩
   have hs2 := hs1.below hd
   refine hK.out _ _ hs2.hb (fun _ => ?_)
   exact norm_ rfl (hcont W.heap.size _ ⟨hs2, blk_below (blk_drew (blk_new W (.cells #[.int .i64 0, .int .i64 0] 153))) hd, Nat.le_refl _⟩)
 rintro nb w1 ⟨hs1, hnb, hsz⟩
 simp only [putAll, Act.put, List.setIfInBounds_toArray, List.set_cons_zero, List.set_cons_succ]
 have HS1 := qQ hs1
 have HNB := qQ hnb
 have HSZ := qQ hsz
 have HNG : Aside0 (nb ≠ g) := ⟨by have := HS0.o.lt; have := HS0.o.gb.size; omega⟩
 clear hs1 hnb hsz
 refine zL 11 4095 fun K hK => ?_
 obtain ⟨b0, b1⟩ : w1.cell? ⟨nb, 0, none⟩ = some (.int .i64 0) ∧ w1.cell? ⟨nb, 1, none⟩ = some (.int .i64 0) := ⟨(blk_cell HNB.o 0).trans rfl, (blk_cell HNB.o 1).trans rfl⟩
 have bz := fun i => blk_frozen HNB.o i
 go_simp
 refine hK.out _ _ ?_
 refine zD ?_
 have hs2 := HS1.o.far HNB.o HSZ.o (Nat.le_trans HS0.o.gb.size HSZ.o) HNG.o (by decide) 0 (.int .i64 kd)
 have hb2 : (w1.setCell ⟨nb, 0, none⟩ (.int .i64 kd)).heap[nb]? = some (.cells #[.int .i64 kd, .int .i64 0] 153 (0, 0)) := by simpa using blk_set HNB.o 0 (.int .i64 kd)
 have hs3 := hs2.far hb2 HSZ.o (Nat.le_trans HS0.o.gb.size HSZ.o) HNG.o (by decide) 1 (.int .i64 tk)
 have hb3 : ((w1.setCell ⟨nb, 0, none⟩ (.int .i64 kd)).setCell ⟨nb, 1, none⟩ (.int .i64 tk)).heap[nb]? = some (.cells #[.int .i64 kd, .int .i64 tk] 153 (0, 0)) := by simpa using blk_set hb2 1 (.int .i64 tk)
 generalize (w1.setCell ⟨nb, 0, none⟩ (.int .i64 kd)).setCell ⟨nb, 1, none⟩ (.int .i64 tk) = w2 at hs3 hb3 ⊢
 have HS2 := qQ hs3
 have HB2 := qQ hb3
 clear hs2 hs3 hb2 hb3 b0 b1 bz hHeld
 clear h0 hz
 have h0 := handCells HS2.o.hb
 have hz := HSt.frozen HS2.o
 obtain ⟨b0, b1⟩ : w2.cell? ⟨nb, 0, none⟩ = some (.int .i64 kd) ∧ w2.cell? ⟨nb, 1, none⟩ = some (.int .i64 tk) := ⟨(blk_cell HB2.o 0).trans rfl, (blk_cell HB2.o 1).trans rfl⟩
 rcases HHX.o with ⟨hkd, rfl⟩ | ⟨hkd, s', m', r, hq, hdo, hn, he, hxe⟩
 ·
  clear HHX
  go_wp2_with (first | (go_at_call 108; with_reducible refine (hand_to k x 9 _ g _ _ _ HS2.o.self).mono ?_; rintro e w3 ⟨⟨u_, rfl⟩, va, vb, vc, hs⟩; obtain ⟨A1_3, c1_3, e1⟩ := Kd.R_slice hs.rs; subst e1; obtain ⟨Am_3, cm_3, e2⟩ := Kd.R_slice hs.rm; subst e2; obtain ⟨Ae_3, ce_3, e3⟩ := Kd.R_slice hs.re; subst e3; have HS3 := qQ (HS2.o.tr hs); clear hs; clear h0 hz; have h0 := handCells HS3.o.hb; have hz := HSt.frozen HS3.o))
  first | go_end0 | ((try simp only [Exit.inBlock, Exit.then]); refine bodyPost_ret (results_none rfl _ _ _) rfl ?_)
  exact ⟨⟨_, rfl⟩, _, _, _, HS3.o⟩
 ·clear HHX
  have HQ := qQ hq
  have HN := qQ hn
  have HXE := qQ hxe
  have HE : Aside0 (x.ev.length ≤ 1000000) := ⟨by omega⟩
  have HE2 : Aside0 ((x.ev ++ [(⟨4, tk, k.wn⟩ : S40)]).length ≤ 1000000) := ⟨by simp; omega⟩
  unfold DOP at hdo
  have HDO := qQ hdo
  clear hq hn he hdo hxe
  by_cases n1 : r = 1
  ·have hx1 := HXE.o
   simp only [if_pos n1] at hx1
   have HX1 := qQ hx1
   clear hx1
   go_wp2_with (first | (go_at_call 110; with_reducible refine (hand_add k x 0 18446744073709551615 r m' HN.o HQ.o _ g _ _ _ HS2.o.self).mono ?_; rintro e w4 ⟨rfl, va, vb, vc, hs⟩; obtain ⟨A1_4, c1_4, e1⟩ := Kd.R_slice hs.rs; subst e1; obtain ⟨Am_4, cm_4, e2⟩ := Kd.R_slice hs.rm; subst e2; obtain ⟨Ae_4, ce_4, e3⟩ := Kd.R_slice hs.re; subst e3; have hbk := hs.blk HB2.o HNG.o (Kd.R_ne HS2.o.re HB2.o (by decide)); have HB4 := qQ hbk; clear hbk b0 b1; have b0 := (blk_cell HB4.o 0).trans rfl; have b1 := (blk_cell HB4.o 1).trans rfl; have HS4 := qQ (HS2.o.tr hs); clear hs; clear h0 hz; have h0 := handCells HS4.o.hb; have hz := HSt.frozen HS4.o) | (go_at_call 118; with_reducible refine (hand_tell k { x with m := m' } 4 tk HE.o _ g _ _ _ HS4.o.self).mono ?_; rintro e w5 ⟨⟨u_, rfl⟩, va, vb, vc, hs⟩; obtain ⟨A1_5, c1_5, e1⟩ := Kd.R_slice hs.rs; subst e1; obtain ⟨Am_5, cm_5, e2⟩ := Kd.R_slice hs.rm; subst e2; obtain ⟨Ae_5, ce_5, e3⟩ := Kd.R_slice hs.re; subst e3; have hbk := hs.blk HB4.o HNG.o (Kd.R_ne HS4.o.re HB4.o (by decide)); have HB5 := qQ hbk; clear hbk b0 b1; have b0 := (blk_cell HB5.o 0).trans rfl; have b1 := (blk_cell HB5.o 1).trans rfl; have HS5 := qQ (HS4.o.tr hs); clear hs; clear h0 hz; have h0 := handCells HS5.o.hb; have hz := HSt.frozen HS5.o) | (go_at_call 118; with_reducible refine (hand_tell k { x with m := m', ev := x.ev ++ [⟨4, tk, k.wn⟩] } 5 0 HE2.o _ g _ _ _ HS5.o.self).mono ?_; rintro e w6 ⟨⟨u_, rfl⟩, va, vb, vc, hs⟩; obtain ⟨A1_6, c1_6, e1⟩ := Kd.R_slice hs.rs; subst e1; obtain ⟨Am_6, cm_6, e2⟩ := Kd.R_slice hs.rm; subst e2; obtain ⟨Ae_6, ce_6, e3⟩ := Kd.R_slice hs.re; subst e3; have HS6 := qQ (HS5.o.tr hs); clear hs; clear h0 hz; have h0 := handCells HS6.o.hb; have hz := HSt.frozen HS6.o))
   clear hkd n1
   refine zS 15 [14] (fun W' => W'.heap[g]? = some (handO k { x with m := m', ev := x.ev ++ [⟨4, tk, k.wn⟩] ++ [⟨5, 0, k.wn⟩] } (.slice A1_6 x.st.length c1_6) (.slice Am_6 m'.length cm_6) (.slice Ae_6 (x.ev ++ [(⟨4, tk, k.wn⟩ : S40)] ++ [(⟨5, 0, k.wn⟩ : S40)]).length ce_6))) HS6.o.drew.hb fun hHeld => ?_
   refine zY 0 1 29 ?_
   refine zY 1 3 30 ?_
   refine zY 2 7 31 ?_
   refine zY 3 15 32 ?_
   refine zT 4 31 33 ?_ (hy := zy5)
   refine zY 5 63 34 ?_
   refine zY 6 127 35 ?_
   refine zY 7 255 36 ?_
   refine zY 8 511 37 ?_
   refine zT 9 1023 38 ?_ (hy := zy5)
   refine zO 10 2047 39 fun K hK => ?_
   go_simp
   refine (HDO.o k.At k.ct A1_6 c1_6 _ (Kd.C_below HHT.o HS6.o.drew.bel) HHCT.o (Kd.R_reads' HS6.o.drew.rs).2.2 (Kd.R_reads' HS6.o.drew.rs).2.1).mono ?_
   rintro e w7 ⟨u, rfl, hr, hd⟩
   obtain ⟨A5, c5, eo⟩ := Kd.R_slice hr
   subst eo
   have HS7 := qQ (HS6.o.drew.below hd)
   have HM7 := qQ (Kd.R_lower hr HS6.o.drew.bel.size)
   clear hd hr
   refine hK.out _ _ HS7.o.hb (fun hHeld => ?_)
   refine zY 11 4095 40 ?_
   refine zY 12 8191 41 ?_
   refine zY 13 16383 42 ?_
   refine zL 14 32767 fun K hK => ?_
   clear h0 hz
   have h0 := handCells HS7.o.hb
   have hz := HSt.frozen HS7.o
   go_simp
   refine hK.out _ _ ?_
   refine zD ?_
   have hs8 := HS7.o.setS HM7.o
   generalize w7.setCell ⟨g, 1, none⟩ (.slice A5 s'.length c5) = w8 at hs8 ⊢
   have HS8 := qQ hs8
   clear hs8 hHeld
   clear h0 hz
   have h0 := handCells HS8.o.hb
   have hz := HSt.frozen HS8.o
   by_cases n2 : s'.length = 0
   ·have hx2 := HX1.o
    simp only [if_pos n2] at hx2
    subst hx2
    have n3 : ((s'.length : Nat) : Int) = 0 := by omega
    go_wp2_with (first | (go_at_call 111; with_reducible refine (hand_with k { x with m := m', ev := x.ev ++ [⟨4, tk, k.wn⟩] ++ [⟨5, 0, k.wn⟩], st := s' } 0 1 k.wn 0 _ g _ _ _ HS8.o.self).mono ?_; rintro e w9 ⟨⟨u_, rfl⟩, va, vb, vc, hs⟩; obtain ⟨A1_9, c1_9, e1⟩ := Kd.R_slice hs.rs; subst e1; obtain ⟨Am_9, cm_9, e2⟩ := Kd.R_slice hs.rm; subst e2; obtain ⟨Ae_9, ce_9, e3⟩ := Kd.R_slice hs.re; subst e3; have HS9 := qQ (HS8.o.tr hs); clear hs; clear h0 hz; have h0 := handCells HS9.o.hb; have hz := HSt.frozen HS9.o))
    first | go_end0 | ((try simp only [Exit.inBlock, Exit.then]); refine bodyPost_ret (results_none rfl _ _ _) rfl ?_)
    exact ⟨⟨_, rfl⟩, _, _, _, HS9.o⟩
   ·have hx2 := HX1.o
    simp only [if_neg n2] at hx2
    subst hx2
    have n3 : ¬ ((s'.length : Nat) : Int) = 0 := by omega
    go_wp2_with (first | (go_at_call 108; with_reducible refine (hand_to k { x with m := m', ev := x.ev ++ [⟨4, tk, k.wn⟩] ++ [⟨5, 0, k.wn⟩], st := s' } 9 _ g _ _ _ HS8.o.self).mono ?_; rintro e w10 ⟨⟨u_, rfl⟩, va, vb, vc, hs⟩; obtain ⟨A1_10, c1_10, e1⟩ := Kd.R_slice hs.rs; subst e1; obtain ⟨Am_10, cm_10, e2⟩ := Kd.R_slice hs.rm; subst e2; obtain ⟨Ae_10, ce_10, e3⟩ := Kd.R_slice hs.re; subst e3; have HS10 := qQ (HS8.o.tr hs); clear hs; clear h0 hz; have h0 := handCells HS10.o.hb; have hz := HSt.frozen HS10.o))
    first | go_end0 | ((try simp only [Exit.inBlock, Exit.then]); refine bodyPost_ret (results_none rfl _ _ _) rfl ?_)
    exact ⟨⟨_, rfl⟩, _, _, _, HS10.o⟩
  ·have hx1 := HXE.o
   simp only [if_neg n1] at hx1
   have HX1 := qQ hx1
   clear hx1
   go_wp2_with (first | (go_at_call 110; with_reducible refine (hand_add k x 0 18446744073709551615 r m' HN.o HQ.o _ g _ _ _ HS2.o.self).mono ?_; rintro e w11 ⟨rfl, va, vb, vc, hs⟩; obtain ⟨A1_11, c1_11, e1⟩ := Kd.R_slice hs.rs; subst e1; obtain ⟨Am_11, cm_11, e2⟩ := Kd.R_slice hs.rm; subst e2; obtain ⟨Ae_11, ce_11, e3⟩ := Kd.R_slice hs.re; subst e3; have hbk := hs.blk HB2.o HNG.o (Kd.R_ne HS2.o.re HB2.o (by decide)); have HB11 := qQ hbk; clear hbk b0 b1; have b0 := (blk_cell HB11.o 0).trans rfl; have b1 := (blk_cell HB11.o 1).trans rfl; have HS11 := qQ (HS2.o.tr hs); clear hs; clear h0 hz; have h0 := handCells HS11.o.hb; have hz := HSt.frozen HS11.o) | (go_at_call 118; with_reducible refine (hand_tell k { x with m := m' } 4 tk HE.o _ g _ _ _ HS11.o.self).mono ?_; rintro e w12 ⟨⟨u_, rfl⟩, va, vb, vc, hs⟩; obtain ⟨A1_12, c1_12, e1⟩ := Kd.R_slice hs.rs; subst e1; obtain ⟨Am_12, cm_12, e2⟩ := Kd.R_slice hs.rm; subst e2; obtain ⟨Ae_12, ce_12, e3⟩ := Kd.R_slice hs.re; subst e3; have hbk := hs.blk HB11.o HNG.o (Kd.R_ne HS11.o.re HB11.o (by decide)); have HB12 := qQ hbk; clear hbk b0 b1; have b0 := (blk_cell HB12.o 0).trans rfl; have b1 := (blk_cell HB12.o 1).trans rfl; have HS12 := qQ (HS11.o.tr hs); clear hs; clear h0 hz; have h0 := handCells HS12.o.hb; have hz := HSt.frozen HS12.o))
   clear hkd n1
   refine zS 15 [14] (fun W' => W'.heap[g]? = some (handO k { x with m := m', ev := x.ev ++ [⟨4, tk, k.wn⟩] } (.slice A1_12 x.st.length c1_12) (.slice Am_12 m'.length cm_12) (.slice Ae_12 (x.ev ++ [(⟨4, tk, k.wn⟩ : S40)]).length ce_12))) HS12.o.drew.hb fun hHeld => ?_
   refine zY 0 1 29 ?_
   refine zY 1 3 30 ?_
   refine zY 2 7 31 ?_
   refine zY 3 15 32 ?_
   refine zT 4 31 33 ?_ (hy := zy5)
   refine zY 5 63 34 ?_
   refine zY 6 127 35 ?_
   refine zY 7 255 36 ?_
   refine zY 8 511 37 ?_
   refine zT 9 1023 38 ?_ (hy := zy5)
   refine zO 10 2047 39 fun K hK => ?_
   go_simp
   refine (HDO.o k.At k.ct A1_12 c1_12 _ (Kd.C_below HHT.o HS12.o.drew.bel) HHCT.o (Kd.R_reads' HS12.o.drew.rs).2.2 (Kd.R_reads' HS12.o.drew.rs).2.1).mono ?_
   rintro e w13 ⟨u, rfl, hr, hd⟩
   obtain ⟨A5, c5, eo⟩ := Kd.R_slice hr
   subst eo
   have HS13 := qQ (HS12.o.drew.below hd)
   have HM13 := qQ (Kd.R_lower hr HS12.o.drew.bel.size)
   clear hd hr
   refine hK.out _ _ HS13.o.hb (fun hHeld => ?_)
   refine zY 11 4095 40 ?_
   refine zY 12 8191 41 ?_
   refine zY 13 16383 42 ?_
   refine zL 14 32767 fun K hK => ?_
   clear h0 hz
   have h0 := handCells HS13.o.hb
   have hz := HSt.frozen HS13.o
   go_simp
   refine hK.out _ _ ?_
   refine zD ?_
   have hs14 := HS13.o.setS HM13.o
   generalize w13.setCell ⟨g, 1, none⟩ (.slice A5 s'.length c5) = w14 at hs14 ⊢
   have HS14 := qQ hs14
   clear hs14 hHeld
   clear h0 hz
   have h0 := handCells HS14.o.hb
   have hz := HSt.frozen HS14.o
   by_cases n2 : s'.length = 0
   ·have hx2 := HX1.o
    simp only [if_pos n2] at hx2
    subst hx2
    have n3 : ((s'.length : Nat) : Int) = 0 := by omega
    go_wp2_with (first | (go_at_call 111; with_reducible refine (hand_with k { x with m := m', ev := x.ev ++ [⟨4, tk, k.wn⟩], st := s' } 0 1 k.wn 0 _ g _ _ _ HS14.o.self).mono ?_; rintro e w15 ⟨⟨u_, rfl⟩, va, vb, vc, hs⟩; obtain ⟨A1_15, c1_15, e1⟩ := Kd.R_slice hs.rs; subst e1; obtain ⟨Am_15, cm_15, e2⟩ := Kd.R_slice hs.rm; subst e2; obtain ⟨Ae_15, ce_15, e3⟩ := Kd.R_slice hs.re; subst e3; have HS15 := qQ (HS14.o.tr hs); clear hs; clear h0 hz; have h0 := handCells HS15.o.hb; have hz := HSt.frozen HS15.o))
    first | go_end0 | ((try simp only [Exit.inBlock, Exit.then]); refine bodyPost_ret (results_none rfl _ _ _) rfl ?_)
    exact ⟨⟨_, rfl⟩, _, _, _, HS15.o⟩
   ·have hx2 := HX1.o
    simp only [if_neg n2] at hx2
    subst hx2
    have n3 : ¬ ((s'.length : Nat) : Int) = 0 := by omega
    go_wp2_with (first | (go_at_call 108; with_reducible refine (hand_to k { x with m := m', ev := x.ev ++ [⟨4, tk, k.wn⟩], st := s' } 9 _ g _ _ _ HS14.o.self).mono ?_; rintro e w16 ⟨⟨u_, rfl⟩, va, vb, vc, hs⟩; obtain ⟨A1_16, c1_16, e1⟩ := Kd.R_slice hs.rs; subst e1; obtain ⟨Am_16, cm_16, e2⟩ := Kd.R_slice hs.rm; subst e2; obtain ⟨Ae_16, ce_16, e3⟩ := Kd.R_slice hs.re; subst e3; have HS16 := qQ (HS14.o.tr hs); clear hs; clear h0 hz; have h0 := handCells HS16.o.hb; have hz := HSt.frozen HS16.o))
    first | go_end0 | ((try simp only [Exit.inBlock, Exit.then]); refine bodyPost_ret (results_none rfl _ _ _) rfl ?_)
    exact ⟨⟨_, rfl⟩, _, _, _, HS16.o⟩
theorem hand_run (k : HK) (x : Hd) (kd tk : Int) (x' : Hd) (hT : Kd.C k45 k.wb k.At k.t.length k.t) (hct : k.t.length ≤ k.ct) (hnx : NEXTP k.t x.st kd tk) (hx : (kd = 1 ∧ ∃ s', DOP k.t x.st s' ∧ x' = { x with st := s' }) ∨ (kd = 2 ∧ x' = { x with pc := 10 }) ∨ (kd = 3 ∧ x' = { x with pc := 15 }) ∨ (¬ kd = 1 ∧ ¬ kd = 2 ∧ ¬ kd = 3 ∧ x' = { x with pc := 0, f := ⟨1, 0, k.wn, 0, 0, 0, 0⟩ })) : HDoes 84 [] k x (x') := by
 intro W g v1 vm ve h
 obtain ⟨A1, c1, rfl⟩ := Kd.R_slice h.rs
 obtain ⟨Am, cm, rfl⟩ := Kd.R_slice h.rm
 obtain ⟨Ae, ce, rfl⟩ := Kd.R_slice h.re
 have HS0 := qQ h
 have HHT := qQ hT
 have HHCT := qQ hct
 have HHNX := qQ hnx
 have HHX := qQ hx
 clear h hT hct hnx hx
 show Calls Tryz.prog 84 #[.pointer (some ⟨g, 0, none⟩)] W _
 go_enter Tryz.func84, Tryz.ntmps84
 have h0 := handCells HS0.o.hb; have hz := HSt.frozen HS0.o
 have u_ := HHNX.o
 unfold NEXTP at u_
 have HNX := qQ u_
 clear u_ HHNX
 go_wp2
 have FLD : ∀ w : World, (Instr.field 153 (.agg #[.int .i64 kd, .int .i64 tk]) 0).run Tryz.prog w = .ok (.int .i64 kd) w := fun w => by
  simp [Instr.field, run_underlying Tryz.underlying153, go_sem, asAgg]
 refine zS 11 [] (fun W' => W'.heap[g]? = some (handO k x (.slice A1 x.st.length c1) (.slice Am x.m.length cm) (.slice Ae x.ev.length ce))) HS0.o.drew.hb fun hHeld => ?_
 refine zY 0 1 2 ?_
 refine zY 1 3 3 ?_
 refine zY 2 7 4 ?_
 refine zT 3 15 5 ?_ (hy := zy5)
 refine zY 4 31 6 ?_
 refine zY 5 63 7 ?_
 refine zY 6 127 8 ?_
 refine zY 7 255 9 ?_
 refine zT 8 511 10 ?_ (hy := zy5)
 refine zO 9 1023 11 fun K hK => ?_
 go_simp
 refine (HNX.o k.At k.ct A1 c1 W.drew (Kd.C_below HHT.o HS0.o.drew.bel) HHCT.o (Kd.R_reads' HS0.o.drew.rs).2.2 (Kd.R_reads' HS0.o.drew.rs).2.1).mono ?_
 rintro e w1 ⟨rfl, hd⟩
 have HS1 := qQ (HS0.o.drew.below hd)
 clear hd
 refine hK.out _ _ HS1.o.hb (fun hHeld => ?_)
 refine zY 10 2047 12 ?_
 refine zD ?_
 clear hHeld
 clear h0 hz
 have h0 := handCells HS1.o.hb
 have hz := HSt.frozen HS1.o
 rcases HHX.o with ⟨rfl, s', hdo, rfl⟩ | ⟨rfl, rfl⟩ | ⟨rfl, rfl⟩ | ⟨n1, n2, n3, rfl⟩
 ·clear HHX
  unfold DOP at hdo
  have HDO := qQ hdo
  clear hdo
  go_wp2
  refine zS 15 [14] (fun W' => W'.heap[g]? = some (handO k x (.slice A1 x.st.length c1) (.slice Am x.m.length cm) (.slice Ae x.ev.length ce))) HS1.o.drew.hb fun hHeld => ?_
  refine zY 0 1 21 ?_
  refine zY 1 3 22 ?_
  refine zY 2 7 23 ?_
  refine zY 3 15 24 ?_
  refine zT 4 31 25 ?_ (hy := zy5)
  refine zY 5 63 26 ?_
  refine zY 6 127 27 ?_
  refine zY 7 255 28 ?_
  refine zY 8 511 29 ?_
  refine zT 9 1023 30 ?_ (hy := zy5)
  refine zO 10 2047 31 fun K hK => ?_
  go_simp
  refine (HDO.o k.At k.ct A1 c1 _ (Kd.C_below HHT.o HS1.o.drew.bel) HHCT.o (Kd.R_reads' HS1.o.drew.rs).2.2 (Kd.R_reads' HS1.o.drew.rs).2.1).mono ?_
  rintro e w2 ⟨u, rfl, hr, hd⟩
  obtain ⟨A5, c5, eo⟩ := Kd.R_slice hr
  subst eo
  have HS2 := qQ (HS1.o.drew.below hd)
  have HM2 := qQ (Kd.R_lower hr HS1.o.drew.bel.size)
  clear hd hr
  refine hK.out _ _ HS2.o.hb (fun hHeld => ?_)
  refine zY 11 4095 32 ?_
  refine zY 12 8191 33 ?_
  refine zY 13 16383 34 ?_
  refine zL 14 32767 fun K hK => ?_
  clear h0 hz
  have h0 := handCells HS2.o.hb
  have hz := HSt.frozen HS2.o
  go_simp
  refine hK.out _ _ ?_
  refine zD ?_
  have hs3 := HS2.o.setS HM2.o
  generalize w2.setCell ⟨g, 1, none⟩ (.slice A5 s'.length c5) = w3 at hs3 ⊢
  have HS3 := qQ hs3
  clear hs3 hHeld
  clear h0 hz
  have h0 := handCells HS3.o.hb
  have hz := HSt.frozen HS3.o
  try go_wp2
  first | go_end0 | ((try simp only [Exit.inBlock, Exit.then]); refine bodyPost_ret (results_none rfl _ _ _) rfl ?_)
  exact ⟨⟨_, rfl⟩, _, _, _, HS3.o⟩
 ·clear HHX
  go_wp2
  first | go_end0 | ((try simp only [Exit.inBlock, Exit.then]); refine bodyPost_ret (results_none rfl _ _ _) rfl ?_)
  exact ⟨⟨_, rfl⟩, _, _, _, (HS1.o.set0 10)⟩
 ·clear HHX
  go_wp2
  first | go_end0 | ((try simp only [Exit.inBlock, Exit.then]); refine bodyPost_ret (results_none rfl _ _ _) rfl ?_)
  exact ⟨⟨_, rfl⟩, _, _, _, (HS1.o.set0 15)⟩
 ·clear HHX
  go_wp2_with (first | (go_at_call 111; with_reducible refine (hand_with k x 0 1 k.wn 0 _ g _ _ _ HS1.o.self).mono ?_; rintro e w4 ⟨⟨u_, rfl⟩, va, vb, vc, hs⟩; obtain ⟨A1_4, c1_4, e1⟩ := Kd.R_slice hs.rs; subst e1; obtain ⟨Am_4, cm_4, e2⟩ := Kd.R_slice hs.rm; subst e2; obtain ⟨Ae_4, ce_4, e3⟩ := Kd.R_slice hs.re; subst e3; have HS4 := qQ (HS1.o.tr hs); clear hs; clear h0 hz; have h0 := handCells HS4.o.hb; have hz := HSt.frozen HS4.o))
  first | go_end0 | ((try simp only [Exit.inBlock, Exit.then]); refine bodyPost_ret (results_none rfl _ _ _) rfl ?_)
  exact ⟨⟨_, rfl⟩, _, _, _, HS4.o⟩
end Go.Proofs.YthoeodjgfelkhaaGreat.QT
