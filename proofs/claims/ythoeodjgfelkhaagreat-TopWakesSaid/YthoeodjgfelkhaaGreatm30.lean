/- Part 30 of the claim on TopWakes: the worker's turn. No condition. -/
import Derived.Test.YthoeodjgfelkhaaGreatm28
set_option linter.unusedVariables false
set_option linter.unusedSimpArgs false
set_option maxRecDepth 100000
set_option maxHeartbeats 8000000
namespace Go.Proofs.YthoeodjgfelkhaaGreat.QT
open Go.RowKit Go.Proofs.YthoeodjgfelkhaaGreatW.PrintWords Go.Proofs.YthoeodjgfelkhaaGreatW.PrintLast Go.Proofs.YthoeodjgfelkhaaGreatW.PrintMore
attribute [local go_sem] max2_int min2_int max_two min_two
abbrev wkL (x : S76) (v : Value) : List Value := [.int .i64 x.f0, v, .int .i64 x.f2.f0, .int .i64 x.f2.f1, .int .i64 x.f2.f2, .int .u64 x.f2.f3, .int .u64 x.f2.f4, .int .u64 x.f2.f5, .int .i64 x.f2.f6, .int .i64 x.f3, .int .i64 x.f4]
abbrev w11 (W : World) (g k : Nat) (x' : S76) (v2 : Value) : World := (((((((((((W.setCell ⟨g, k * 11, none⟩ (.int .i64 x'.f0)).setCell ⟨g, k * 11 + 1, none⟩ v2).setCell ⟨g, k * 11 + 2, none⟩ (.int .i64 x'.f2.f0)).setCell ⟨g, k * 11 + 3, none⟩ (.int .i64 x'.f2.f1)).setCell ⟨g, k * 11 + 4, none⟩ (.int .i64 x'.f2.f2)).setCell ⟨g, k * 11 + 5, none⟩ (.int .u64 x'.f2.f3)).setCell ⟨g, k * 11 + 6, none⟩ (.int .u64 x'.f2.f4)).setCell ⟨g, k * 11 + 7, none⟩ (.int .u64 x'.f2.f5)).setCell ⟨g, k * 11 + 8, none⟩ (.int .i64 x'.f2.f6)).setCell ⟨g, k * 11 + 9, none⟩ (.int .i64 x'.f3)).setCell ⟨g, k * 11 + 10, none⟩ (.int .i64 x'.f4))
theorem el76 {W : World} {base g n cp k : Nat} {ok : Nat → Prop} {ws : List S76} {x : S76} (h : k76.R 76 W base ok (.slice (some ⟨g, 0, none⟩) n cp) ws) (hx : ws[k]? = some x) (hk : k < n) :
  ∃ v1, k116.R 116 W base (fun _ => True) v1 x.f1 ∧ (∀ j u, (wkL x v1)[j]? = some u → W.cell? ⟨g, k * 11 + j, none⟩ = some u) ∧ ∀ j, W.frozen? ⟨g, k * 11 + j, none⟩ = false := by
 obtain ⟨c, hcl, hM, hcc, hf⟩ := Kd.R_elem h x (k : Int) (by omega) (by omega)
 simp only [Int.toNat_natCast] at hM hcc hf
 have hd : ws.getD k x = x := by rw [List.getD_eq_getElem?_getD, hx]; rfl
 rw [hd] at hM
 obtain ⟨v1, rfl, g1⟩ := k76_openM hM
 exact ⟨v1, Kd.R_mono g1 (fun _ _ => trivial), hcc, hf⟩
theorem put11 {W : World} {base g n cp k b : Nat} {ws : List S76} {x x' : S76} (h : k76.R 76 W base (fun _ => True) (.slice (some ⟨g, 0, none⟩) n cp) ws) (hx : ws[k]? = some x) (hk : k < n) {v2 : Value} (hr : k116.R 116 W b (fun _ => True) v2 x'.f1) (hb : base ≤ b) (hg : g < b) :
  k76.R 76 (w11 W g k x' v2) base (fun _ => True) (.slice (some ⟨g, 0, none⟩) n cp) (ws.set k x') ∧ W.grownBy (w11 W g k x' v2) (some g) ∧ ∀ q, q ≠ g → (w11 W g k x' v2).heap[q]? = W.heap[q]? := by
 obtain ⟨c, hcl, hM, hcc, hf⟩ := Kd.R_elem h x (k : Int) (by omega) (by omega)
 have hd : ws.getD ((k : Int)).toNat x = x := by rw [Int.toNat_natCast, List.getD_eq_getElem?_getD, hx]; rfl
 rw [hd] at hM
 obtain ⟨v1, rfl, g1⟩ := k76_openM hM
 have := Kd.R_seg (j := 0) (seg := wkL x' v2) h (k : Int) (by omega) (by omega) hcl hcc (by show 0 + 11 ≤ 11; omega) (x' := x') (okp := fun j => True ∧ j ≠ g)
  (k76_mkM W base _ x' (Kd.R_mono (Kd.R_lower (Kd.R_bound hr) hb) (fun j h => ⟨trivial, by have := h.2.1; omega⟩))) (fun _ h => h)
 rw [Int.toNat_natCast] at this
 refine ⟨this.1, this.2, fun q hq => ?_⟩
 have f : ∀ (V : World) (i : Nat) (u : Value), (V.setCell ⟨g, i, none⟩ u).heap[q]? = V.heap[q]? := fun V i u => Below.heap_setCell V _ u q hq
 simp only [w11, f]
section
variable {w : World} {b : Nat} {c : Cf} {vT vM vS : Value} {t : List S45} {m : List Int} {ws : List S76} {ss : List S68} {W W1 : World}
theorem PL.putW {g n cp k nb : Nat} {x x' : S76} (h : PL w b c vT vM (.slice (some ⟨g, 0, none⟩) n cp) vS t m ws ss W) (hx : ws[k]? = some x) (hk : k < n) {v2 : Value} (hr : k116.R 116 W nb (fun _ => True) v2 x'.f1) (hb : w.heap.size ≤ nb) (hg : g < nb) :
  PL w b c vT vM (.slice (some ⟨g, 0, none⟩) n cp) vS t m (ws.set k x') ss (w11 W g k x' v2) := by
 obtain ⟨p1, p2, p3⟩ := put11 h.hW hx hk hr hb hg
 obtain ⟨cells, hc⟩ := R_block h.hW
 have hbg : b ≠ g := fun e => by have h1 := h.hb; rw [e, hc] at h1; simp at h1
 exact ⟨below_grown h.bel p2 (R_ge h.hW) h.bel.size, (p3 b hbg).trans h.hb, h.hg, R_but h.hT hc (by rw [E45]; decide) p3, R_but h.hM hc (T1 (by decide)) p3, p1, R_but h.hS hc (by rw [EE68]; decide) p3⟩
theorem Keeps.but {o g q : Nat} {cells : Array Value} {W2 : World} (h : Keeps o W W1) (hc : W1.heap[g]? = some (.cells cells q (0, 0))) (hq : q = 34 ∨ q = 76 ∨ q = 68) (hs : W1.heap.size ≤ W2.heap.size) (hf : ∀ k, k ≠ g → W2.heap[k]? = W1.heap[k]?) : Keeps o W W2 :=
 ⟨Nat.le_trans h.1 hs, fun k cs t hk h1 h2 h3 h4 => by
  have h5 := h.2 k cs t hk h1 h2 h3 h4
  by_cases hkg : k = g
  ·subst hkg
   rw [hk, hc] at h5
   simp at h5
   obtain ⟨-, rfl⟩ := h5
   rcases hq with e | e | e
   ·exact absurd e h2
   ·exact absurd e h3
   ·exact absurd e h4
  ·exact (hf k hkg).trans h5⟩
end
theorem Keeps.own {o : Nat} {W W1 : World} (h : Keeps o W W1) (i : Nat) (u : Value) : Keeps o W (W1.setCell ⟨o, i, none⟩ u) :=
 ⟨by simpa using h.1, fun k cs t hk h1 h2 h3 h4 => (Below.heap_setCell W1 ⟨o, i, none⟩ u k h1).trans (h.2 k cs t hk h1 h2 h3 h4)⟩
theorem PL.far {w : World} {b : Nat} {c : Cf} {vT vM vW vS : Value} {t : List S45} {m : List Int} {ws : List S76} {ss : List S68} {W : World} (h : PL w b c vT vM vW vS t m ws ss W) {o i : Nat} {cells : Array Value} (hc : W.heap[o]? = some (.cells cells 35 (0, 0))) (ho : w.heap.size ≤ o) (u : Value) : PL w b c vT vM vW vS t m ws ss (W.setCell ⟨o, i, none⟩ u) :=
 ⟨h.bel.setCell (p := ⟨o, i, none⟩) ho u, blk_far h.hb (fun e => by have h1 := h.hb; rw [show b = o from e, hc] at h1; simp at h1) u, h.hg, Kd.R_set h.hT hc (by rw [E45]; decide) _ _, Kd.R_set h.hM hc (T1 (by decide)) _ _, Kd.R_set h.hW hc (by rw [EE76]; decide) _ _, Kd.R_set h.hS hc (by rw [EE68]; decide) _ _⟩
def WStep (c : Cf) (t : List S45) (m : List Int) (k d : Int) (x x' : S76) (m' : List Int) (ev : List S40) : Prop :=
 ∀ (At : Option Addr) (ct : Nat) (Am : Option Addr) (cm : Nat) (As : Option Addr) (cs_ : Nat) (W : World), Kd.C k45 W At t.length t → t.length ≤ ct → Kd.C (Kd.int .u64) W Am m.length m → m.length ≤ cm → Kd.C k116 W As x.f1.length x.f1 → x.f1.length ≤ cs_ →
  Calls Tryz.prog 60 #[cfV c, .slice At t.length ct, .slice Am m.length cm, .int .i64 k, .agg #[.int .i64 x.f0, (.slice As x.f1.length cs_), .int .i64 x.f2.f0, .int .i64 x.f2.f1, .int .i64 x.f2.f2, .int .u64 x.f2.f3, .int .u64 x.f2.f4, .int .u64 x.f2.f5, .int .i64 x.f2.f6, .int .i64 x.f3, .int .i64 x.f4], .int .u64 d] W fun e w' => ∃ vm vs ve, e = .returned (.tuple #[vm, .agg #[.int .i64 x'.f0, vs, .int .i64 x'.f2.f0, .int .i64 x'.f2.f1, .int .i64 x'.f2.f2, .int .u64 x'.f2.f3, .int .u64 x'.f2.f4, .int .u64 x'.f2.f5, .int .i64 x'.f2.f6, .int .i64 x'.f3, .int .i64 x'.f4], ve]) ∧
   (Kd.int .u64).R 38 w' W.heap.size (fun _ => True) vm m' ∧ k116.R 116 w' W.heap.size (fun _ => True) vs x'.f1 ∧ k40.R 40 w' W.heap.size (fun _ => True) ve ev ∧ Below W.heap.size W w'
theorem work_59 {w : World} {b x2 x3 o k : Nat} {kd d : Int} {v0 : Value} {c : Cf} {vT vM vW vS : Value} {t : List S45} {m m' : List Int} {ws : List S76} {ss : List S68} {x x' : S76} {ev : List S40} {W : World} (h : PL w b c vT vM vW vS t m ws ss W) (h2 : W.heap[x2]? = some (.cells #[.pointer (some ⟨b, 0, none⟩)] 86 (0, 0)))
  (h3 : W.heap[x3]? = some (.cells #[.int .i64 kd, .int .i64 (k : Int), .int .u64 d] 83 (0, 0))) (ho : W.heap[o]? = some (.cells #[v0] 35 (0, 0))) (hwo : w.heap.size ≤ o) (hx : ws[k]? = some x) (hk : k < ws.length) (hs : WStep c t m k d x x' m' ev) :
  Calls Tryz.prog 59 #[.pointer (some ⟨x2, 0, none⟩), .pointer (some ⟨x3, 0, none⟩), .pointer (some ⟨o, 0, none⟩)] W fun e W' => (∃ v, e = .returned v) ∧ ∃ vM' ve, PL w b c vT vM' vW vS t m' (ws.set k x') ss W' ∧ W'.heap[o]? = some (.cells #[ve] 35 (0, 0)) ∧ k40.R 40 W' w.heap.size (fun _ => True) ve ev ∧ Keeps o W W' := by
 obtain ⟨At, ct, rfl⟩ := Kd.R_slice h.hT
 obtain ⟨Am, cm, rfl⟩ := Kd.R_slice h.hM
 obtain ⟨g, cw, rfl, hg⟩ := R_some h.hW (by omega)
 have HG := qQ (R_lt h.hW)
 obtain ⟨v1, g1, q0, q1⟩ := el76 h.hW hx hk
 obtain ⟨As, cs_, rfl⟩ := Kd.R_slice g1
 have HQ := qQ q0
 have HS1 := qQ g1
 have HP := qQ h
 have H2 := qQ h2
 have H3 := qQ h3
 have HO := qQ ho
 have HX := qQ hx
 have HST := qQ hs
 clear h h2 h3 ho hx hs q0 q1 g1 hg
 have kk : ((k : Int) < (ws.length : Int)) = True := eq_true (by omega)
 have k0 : (0 ≤ (k : Int)) = True := eq_true (by omega)
 go_enter Tryz.func59, Tryz.ntmps59
 go_wp2
 refine zS 42 [40, 41] (fun W' => W'.heap[x2]? = some (.cells #[.pointer (some ⟨b, 0, none⟩)] 86 (0, 0)) ∧ W'.heap[x3]? = some (.cells #[.int .i64 kd, .int .i64 (k : Int), .int .u64 d] 83 (0, 0)) ∧ (∀ j u, j ≠ 5 → (pC c (.slice At t.length ct) (.slice Am m.length cm) (.slice (some ⟨g, 0, none⟩) ws.length cw) vS)[j]? = some u → W'.cell? ⟨b, j, none⟩ = some u) ∧ ∀ j u, (wkL x (.slice As x.f1.length cs_))[j]? = some u → W'.cell? ⟨g, k * 11 + j, none⟩ = some u) ⟨blk_drew H2.o, blk_drew H3.o, fun j u _ hj => (blk_cell HP.o.drew.hb j).trans hj, HQ.o⟩ fun hHeld => ?_
 refine zT 0 1 4 ?_ (hy := zy0)
 refine zT 1 3 5 ?_ (hy := zy0)
 refine zY 2 7 6 ?_
 refine zY 3 15 7 ?_
 refine zT 4 31 8 ?_ (hy := zy0)
 refine zY 5 63 9 ?_
 refine zT 6 127 10 ?_ (hy := zy0)
 refine zT 7 255 11 ?_ (hy := zy0)
 refine zY 8 511 12 ?_
 refine zY 9 1023 13 ?_
 refine zT 10 2047 14 ?_ (hy := zy0)
 refine zT 11 4095 15 ?_ (hy := zy0)
 refine zY 12 8191 16 ?_
 refine zY 13 16383 17 ?_
 refine zT 14 32767 18 ?_ (hy := zy0)
 refine zT 15 65535 19 ?_ (hy := zy0)
 refine zY 16 131071 20 ?_
 refine zY 17 262143 21 ?_
 refine zY 19 786431 23 ?_
 refine zT 20 1835007 24 ?_ (hy := zy0)
 refine zT 21 3932159 25 ?_ (hy := zy0)
 refine zY 22 8126463 26 ?_
 refine zY 23 16515071 27 ?_
 refine zT 24 33292287 28 ?_ (hy := zy0)
 refine zY 25 66846719 29 ?_
 refine zT 26 133955583 30 ?_ (hy := zy0)
 refine zY 27 268173311 31 ?_
 refine zT 28 536608767 32 ?_ (hy := zy0)
 refine zY 29 1073479679 33 ?_
 refine zT 30 2147221503 34 ?_ (hy := zy0)
 refine zO 18 2147483647 22 fun K hK => ?_
 have s5 := (blk_cell HP.o.drew.hb 5).trans rfl
 go_simp
 refine hK.out _ _ ⟨blk_drew H2.o, blk_drew H3.o, fun j u _ hj => (blk_cell HP.o.drew.hb j).trans hj, HQ.o⟩ (fun hHeld => ?_)
 clear s5
 refine zO 31 4294967295 35 fun K hK => ?_
 go_simp
 have HCC := HST.o At ct Am cm As cs_ W.drew (Kd.R_reads' HP.o.drew.hT).2.2 (Kd.R_reads' HP.o.drew.hT).2.1 (Kd.R_reads' HP.o.drew.hM).2.2 (Kd.R_reads' HP.o.drew.hM).2.1 (Kd.R_reads' (Kd.R_drew HS1.o)).2.2 (Kd.R_reads' (Kd.R_drew HS1.o)).2.1
 with_reducible refine HCC.mono ?_
 clear HCC
 rintro e w1 ⟨vm, vs, ve, rfl, hr1, hr2, hr3, hd⟩
 obtain ⟨A1, c1, eo⟩ := Kd.R_slice hr1
 subst eo
 obtain ⟨A2, c2, eo⟩ := Kd.R_slice hr3
 subst eo
 obtain ⟨A3, c3, eo⟩ := Kd.R_slice hr2
 subst eo
 have HP1 := qQ (HP.o.drew.below hd)
 have HR1 := qQ hr1
 have HR2 := qQ hr2
 have HR3 := qQ (Kd.R_lower hr3 HP.o.drew.bel.size)
 have HZ1 := qQ HP.o.drew.bel.size
 have HK1 := qQ (((Keeps.refl o W).below (below_drew (Below.refl _ _))).below hd)
 have HO1 := qQ (blk_below (blk_drew HO.o) hd)
 have H21 := qQ (blk_below (blk_drew H2.o) hd)
 have H31 := qQ (blk_below (blk_drew H3.o) hd)
 have HQ1 := qQ (fun j u (hj : (wkL x (.slice As x.f1.length cs_))[j]? = some u) => pw_cell_below hd (show W.drew.cell? ⟨g, k * 11 + j, none⟩ = some u from HQ.o j u hj))
 clear hr1 hr2 hr3 hd
 refine hK.out _ _ ⟨H21.o, H31.o, fun j u _ hj => (blk_cell HP1.o.hb j).trans hj, HQ1.o⟩ (fun hHeld => ?_)
 refine zY 32 8589934591 3 ?_
 refine zY 33 17179869183 36 ?_
 refine zY 34 34359738367 37 ?_
 refine zY 35 68719476735 38 ?_
 refine zY 36 137438953471 39 ?_
 refine zY 37 274877906943 40 ?_
 refine one_ (i := 38) (N := none) (zM 42 549755813887) rfl rfl (by kernel_rfl) (by decide) (fun K hK => ?_)
 have y0 := fun j => blk_cell HP1.o.hb j
 have y1 := fun j => blk_frozen HP1.o.hb j
 go_simp
 clear y0 y1
 have HP2 := qQ (HP1.o.putM HR1.o HZ1.o)
 have fb : ∀ {z t cs}, w1.heap[z]? = some (.cells cs t (0, 0)) → t ≠ 34 → z ≠ b := fun hz ht e => by have h1 := HP1.o.hb; rw [← e, hz] at h1; simp at h1; exact ht h1.2
 have HO2 := qQ (blk_far HO1.o (p := ⟨b, 5, none⟩) (fb HO1.o (by decide)) (.slice A1 m'.length c1))
 have H22 := qQ (blk_far H21.o (p := ⟨b, 5, none⟩) (fb H21.o (by decide)) (.slice A1 m'.length c1))
 have H32 := qQ (blk_far H31.o (p := ⟨b, 5, none⟩) (fb H31.o (by decide)) (.slice A1 m'.length c1))
 have hgb : g ≠ b := by
  obtain ⟨cells, hc⟩ := R_block HP1.o.hW
  exact fb hc (by decide)
 have HQ2 := qQ (fun j u (hj : (wkL x (.slice As x.f1.length cs_))[j]? = some u) => (show (w1.setCell ⟨b, 5, none⟩ (.slice A1 m'.length c1)).cell? ⟨g, k * 11 + j, none⟩ = w1.cell? ⟨g, k * 11 + j, none⟩ from by simp only [World.cell?, Below.heap_setCell w1 ⟨b, 5, none⟩ (.slice A1 m'.length c1) g hgb]).trans (HQ1.o j u hj))
 have HK2 := qQ (HK1.o.set (i := 5) (u := (.slice A1 m'.length c1)) HP1.o.hb (Or.inl rfl))
 have HR22 := qQ (Kd.R_set HR2.o HP1.o.hb (T1 (by decide)) 5 (.slice A1 m'.length c1))
 have HR32 := qQ (Kd.R_set HR3.o HP1.o.hb (T1 (by decide)) 5 (.slice A1 m'.length c1))
 refine hK.out _ _ ⟨H22.o, H32.o, fun j u h5 hj => (blk_cell (blk_set HP1.o.hb 5 (.slice A1 m'.length c1)) j).trans ((Array.getElem?_setIfInBounds_ne (Ne.symm h5)).trans hj), HQ2.o⟩ (fun hHeld => ?_)
 refine zY 39 1099511627775 41 ?_
 refine zL 40 2199023255551 fun K hK => ?_
 obtain ⟨v9, _, q0, q1⟩ := el76 HP2.o.hW HX.o hk
 have r0 := q0 0 _ rfl
 have r1 := q0 1 _ rfl
 have r2 := q0 2 _ rfl
 have r3 := q0 3 _ rfl
 have r4 := q0 4 _ rfl
 have r5 := q0 5 _ rfl
 have r6 := q0 6 _ rfl
 have r7 := q0 7 _ rfl
 have r8 := q0 8 _ rfl
 have r9 := q0 9 _ rfl
 have r10 := q0 10 _ rfl
 simp only [Nat.add_zero] at r0
 have q10 := q1 0
 simp only [Nat.add_zero] at q10
 go_simp
 refine hK.out _ _ ?_
 clear r0 r1 r2 r3 r4 r5 r6 r7 r8 r9 r10 q0 q1 q10
 obtain ⟨_, p2, p3⟩ := put11 HP2.o.hW HX.o hk HR22.o HZ1.o HG.o
 obtain ⟨cells, hc⟩ := R_block HP2.o.hW
 have hog : o ≠ g := fun e => by have h1 := HO2.o; rw [e, hc] at h1; simp at h1
 have HP3 := qQ (HP2.o.putW HX.o hk HR22.o HZ1.o HG.o)
 have HO3 := qQ ((p3 o hog).trans HO2.o)
 have HK3 := qQ (HK2.o.but hc (Or.inr (Or.inl rfl)) p2.size p3)
 have HR33 := qQ (R_but HR32.o hc (T1 (by decide)) p3)
 unfold w11 at HP3 HO3 HK3 HR33
 generalize ((((((((((((w1.setCell ⟨b, 5, none⟩ (.slice A1 m'.length c1)).setCell ⟨g, k * 11, none⟩ (.int .i64 x'.f0)).setCell ⟨g, k * 11 + 1, none⟩ (.slice A3 x'.f1.length c3)).setCell ⟨g, k * 11 + 2, none⟩ (.int .i64 x'.f2.f0)).setCell ⟨g, k * 11 + 3, none⟩ (.int .i64 x'.f2.f1)).setCell ⟨g, k * 11 + 4, none⟩ (.int .i64 x'.f2.f2)).setCell ⟨g, k * 11 + 5, none⟩ (.int .u64 x'.f2.f3)).setCell ⟨g, k * 11 + 6, none⟩ (.int .u64 x'.f2.f4)).setCell ⟨g, k * 11 + 7, none⟩ (.int .u64 x'.f2.f5)).setCell ⟨g, k * 11 + 8, none⟩ (.int .i64 x'.f2.f6)).setCell ⟨g, k * 11 + 9, none⟩ (.int .i64 x'.f3)).setCell ⟨g, k * 11 + 10, none⟩ (.int .i64 x'.f4)) = w3 at HP3 HO3 HK3 HR33 ⊢
 clear p2 p3 hc hog
 refine zL 41 4398046511103 fun K hK => ?_
 have y0 := fun j => blk_cell HO3.o j
 have y1 := fun j => blk_frozen HO3.o j
 go_simp
 refine hK.out _ _ ?_
 clear y0 y1
 refine zD ?_
 go_wp2
 first | go_end0 | refine bodyPost_ret (results_none rfl _ _ _) rfl ?_
 exact ⟨⟨_, rfl⟩, _, _, HP3.o.far HO3.o hwo (.slice A2 ev.length c2), (by simpa using blk_set HO3.o 0 (.slice A2 ev.length c2)), Kd.R_set HR33.o HO3.o (T1 (by decide)) 0 (.slice A2 ev.length c2), HK3.o.own 0 (.slice A2 ev.length c2)⟩
end Go.Proofs.YthoeodjgfelkhaaGreat.QT
