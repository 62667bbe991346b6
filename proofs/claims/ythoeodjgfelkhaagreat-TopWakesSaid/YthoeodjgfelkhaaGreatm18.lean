/- Part 18 of the claim on TopWakes: pop.Step. No condition. -/
import Derived.Test.YthoeodjgfelkhaaGreatm14
set_option linter.unusedVariables false
set_option linter.unusedSimpArgs false
set_option maxRecDepth 100000
set_option maxHeartbeats 8000000
namespace Go.Proofs.YthoeodjgfelkhaaGreat.QT
open Go.RowKit Go.Proofs.YthoeodjgfelkhaaGreatW.PrintWords Go.Proofs.YthoeodjgfelkhaaGreatW.PrintLast Go.Proofs.YthoeodjgfelkhaaGreatW.PrintMore
attribute [local go_sem] max2_int min2_int max_two min_two
structure PS (w : World) (c : Cf) (f z : S66) (ob : Nat) (bo : Option (Nat × Int)) (v : Value) (l : List Int) (W : World) : Prop where
 ds : DS w c f z v l W
 ho : W.heap[ob]? = some (.cells #[v] 30 (0, 0))
 lo : w.heap.size + 1 + 1 < ob
 hb : ∀ x, bo = some x → W.heap[x.1]? = some (.cells #[.int .i64 x.2] 3 (0, 0)) ∧ ob < x.1
def PS0 (w : World) (c : Cf) (f : S66) (ob : Nat) (v : Value) (W : World) : Prop := Two w c f W ∧ W.heap[ob]? = some (.cells #[v] 30 (0, 0))
section
variable {w : World} {c : Cf} {f z : S66} {ob : Nat} {bo : Option (Nat × Int)} {v : Value} {l : List Int} {W W1 : World}
theorem PS.thr (h : PS w c f z ob bo v l W) : Thr w c f z W := h.ds.thr
theorem PS.hr (h : PS w c f z ob bo v l W) : (Kd.int .u64).R 38 W w.heap.size (fun _ => True) v l := h.ds.hr
theorem PS.s0 (h : PS w c f z ob bo v l W) : PS0 w c f ob v W := ⟨h.thr.two, h.ho⟩
theorem PS.bel (h : PS w c f z ob bo v l W) : Below w.heap.size w W := h.thr.two.hb
theorem PS.below (h : PS w c f z ob bo v l W) (hb : Below W.heap.size W W1) : PS w c f z ob bo v l W1 := ⟨h.ds.below hb, blk_below h.ho hb, h.lo, fun x hx => ⟨blk_below (h.hb x hx).1 hb, (h.hb x hx).2⟩⟩
theorem PS.drew (h : PS w c f z ob bo v l W) : PS w c f z ob bo v l W.drew := ⟨h.ds.drew, h.ho, h.lo, h.hb⟩
theorem PS.start (h : DS w c f z v l W) : PS w c f z W.heap.size none v l (W.alloc (.cells #[v] 30)) := ⟨h.below (below_alloc (Below.refl _ _) _), blk_new _ _, h.thr.lt, fun x hx => by cases hx⟩
theorem PS.fr1 (h : PS w c f z ob bo v l W) {f' : S66} {i : Nat} {u : Value} (hd : DS w c f' z v l (W.setCell ⟨w.heap.size + 1, i, none⟩ u)) : PS w c f' z ob bo v l (W.setCell ⟨w.heap.size + 1, i, none⟩ u) :=
 ⟨hd, blk_far h.ho (by have := h.lo; show ob ≠ w.heap.size + 1; omega) u, h.lo, fun x hx => ⟨blk_far (h.hb x hx).1 (by have := h.lo; have := (h.hb x hx).2; show x.1 ≠ w.heap.size + 1; omega) u, (h.hb x hx).2⟩⟩
theorem PS.f1 (h : PS w c f z ob bo v l W) (x : Int) : PS w c { f with f1 := x } z ob bo v l (W.setCell ⟨w.heap.size + 1, 1, none⟩ (.int .i64 x)) := h.fr1 (h.ds.f1 x)
theorem PS.f3 (h : PS w c f z ob bo v l W) (x : Int) : PS w c { f with f3 := x } z ob bo v l (W.setCell ⟨w.heap.size + 1, 3, none⟩ (.int .u64 x)) := h.fr1 (h.ds.f3 x)
theorem PS.f4 (h : PS w c f z ob bo v l W) (x : Int) : PS w c { f with f4 := x } z ob bo v l (W.setCell ⟨w.heap.size + 1, 4, none⟩ (.int .u64 x)) := h.fr1 (h.ds.f4 x)
theorem PS.f5 (h : PS w c f z ob bo v l W) (x : Int) : PS w c { f with f5 := x } z ob bo v l (W.setCell ⟨w.heap.size + 1, 5, none⟩ (.int .u64 x)) := h.fr1 (h.ds.f5 x)
theorem PS.own (h : PS w c f z ob bo v l W) {v' : Value} {l' : List Int} {b : Nat} (hr : (Kd.int .u64).R 38 W b (fun _ => True) v' l') (hb : w.heap.size ≤ b) : PS w c f z ob bo v' l' (W.setCell ⟨ob, 0, none⟩ v') := by
 have lo := h.lo
 refine ⟨⟨⟨⟨h.bel.setCell (p := ⟨ob, 0, none⟩) (by show w.heap.size ≤ ob; omega) _, blk_far h.thr.two.h0 (by show w.heap.size ≠ ob; omega) _, blk_far h.thr.two.h1 (by show w.heap.size + 1 ≠ ob; omega) _⟩, blk_far h.thr.h2 (by show w.heap.size + 1 + 1 ≠ ob; omega) _⟩, ?_⟩, by simpa using blk_set h.ho 0 v', h.lo, fun x hx => ⟨blk_far (h.hb x hx).1 (by have := (h.hb x hx).2; show x.1 ≠ ob; omega) _, (h.hb x hx).2⟩⟩
 exact Kd.R_lower (Kd.R_set hr h.ho (fun q hq => by rcases List.mem_cons.1 hq with rfl | hq; decide; cases hq) 0 v') hb
theorem PS.boxSet (h : PS w c f z ob none v l W) {bb : Nat} {p0 : Int} (hb : W.heap[bb]? = some (.cells #[.int .i64 p0] 3 (0, 0))) (hlt : ob < bb) (p : Int) : PS w c f z ob (some (bb, p)) v l (W.setCell ⟨bb, 0, none⟩ (.int .i64 p)) := by
 have lo := h.lo
 refine ⟨⟨⟨⟨h.bel.setCell (p := ⟨bb, 0, none⟩) (by show w.heap.size ≤ bb; omega) _, blk_far h.thr.two.h0 (by show w.heap.size ≠ bb; omega) _, blk_far h.thr.two.h1 (by show w.heap.size + 1 ≠ bb; omega) _⟩, blk_far h.thr.h2 (by show w.heap.size + 1 + 1 ≠ bb; omega) _⟩, ?_⟩, blk_far h.ho (by show ob ≠ bb; omega) _, h.lo, fun x hx => by cases hx; exact ⟨by simpa using blk_set hb 0 (.int .i64 p), hlt⟩⟩
 exact Kd.R_set h.hr hb (fun q hq => by rcases List.mem_cons.1 hq with rfl | hq; decide; cases hq) 0 _
theorem psCells (h : PS w c f z ob bo v l W) : W.cell? ⟨ob, 0, none⟩ = some v ∧ (∀ i, W.frozen? ⟨ob, i, none⟩ = false) := ⟨(blk_cell h.ho 0).trans rfl, fun i => blk_frozen h.ho i⟩
theorem psBox {bb : Nat} {p : Int} (h : PS w c f z ob (some (bb, p)) v l W) : W.cell? ⟨bb, 0, none⟩ = some (.int .i64 p) := (blk_cell (h.hb _ rfl).1 0).trans rfl
end
theorem frame_put {N g base : Nat} {w W : World} {z : S66} {v : Value} {l : List Int} (hb : Below N w W) (hN : N ≤ g) (h : W.heap[g]? = some (.cells #[.int .i64 z.f0, .int .i64 z.f1, .int .i64 z.f2, .int .u64 z.f3, .int .u64 z.f4, .int .u64 z.f5, .int .i64 z.f6] 66 (0, 0))) (hr : (Kd.int .u64).R 38 W base (fun _ => True) v l) (f' : S66) :
  Below N w (((((((W.setCell ⟨g, 0, none⟩ (.int .i64 f'.f0)).setCell ⟨g, 1, none⟩ (.int .i64 f'.f1)).setCell ⟨g, 2, none⟩ (.int .i64 f'.f2)).setCell ⟨g, 3, none⟩ (.int .u64 f'.f3)).setCell ⟨g, 4, none⟩ (.int .u64 f'.f4)).setCell ⟨g, 5, none⟩ (.int .u64 f'.f5)).setCell ⟨g, 6, none⟩ (.int .i64 f'.f6)) ∧ (((((((W.setCell ⟨g, 0, none⟩ (.int .i64 f'.f0)).setCell ⟨g, 1, none⟩ (.int .i64 f'.f1)).setCell ⟨g, 2, none⟩ (.int .i64 f'.f2)).setCell ⟨g, 3, none⟩ (.int .u64 f'.f3)).setCell ⟨g, 4, none⟩ (.int .u64 f'.f4)).setCell ⟨g, 5, none⟩ (.int .u64 f'.f5)).setCell ⟨g, 6, none⟩ (.int .i64 f'.f6)).heap[g]? = some (.cells #[.int .i64 f'.f0, .int .i64 f'.f1, .int .i64 f'.f2, .int .u64 f'.f3, .int .u64 f'.f4, .int .u64 f'.f5, .int .i64 f'.f6] 66 (0, 0)) ∧ (Kd.int .u64).R 38 (((((((W.setCell ⟨g, 0, none⟩ (.int .i64 f'.f0)).setCell ⟨g, 1, none⟩ (.int .i64 f'.f1)).setCell ⟨g, 2, none⟩ (.int .i64 f'.f2)).setCell ⟨g, 3, none⟩ (.int .u64 f'.f3)).setCell ⟨g, 4, none⟩ (.int .u64 f'.f4)).setCell ⟨g, 5, none⟩ (.int .u64 f'.f5)).setCell ⟨g, 6, none⟩ (.int .i64 f'.f6)) base (fun _ => True) v l := by
 have hN' : ∀ i, N ≤ (⟨g, i, none⟩ : Addr).block := fun _ => hN
 refine ⟨((((((hb.setCell (hN' 0) _).setCell (hN' 1) _).setCell (hN' 2) _).setCell (hN' 3) _).setCell (hN' 4) _).setCell (hN' 5) _).setCell (hN' 6) _, ?_, ?_⟩
 ·simpa using blk_set (blk_set (blk_set (blk_set (blk_set (blk_set (blk_set h 0 (.int .i64 f'.f0)) 1 (.int .i64 f'.f1)) 2 (.int .i64 f'.f2)) 3 (.int .u64 f'.f3)) 4 (.int .u64 f'.f4)) 5 (.int .u64 f'.f5)) 6 (.int .i64 f'.f6)
 ·have h0 := Kd.R_types hr h (fun q hq => by rcases List.mem_cons.1 hq with rfl | hq; decide; cases hq)
  have far : ∀ (V : World) (i : Nat) (u : Value), (Kd.int .u64).R 38 V base (fun k => True ∧ k ≠ g) v l → (Kd.int .u64).R 38 (V.setCell ⟨g, i, none⟩ u) base (fun k => True ∧ k ≠ g) v l := fun V i u hv => Kd.R_far hv (fun k hk => hk.2) u
  exact Kd.R_mono (far _ _ _ (far _ _ _ (far _ _ _ (far _ _ _ (far _ _ _ (far _ _ _ (far _ _ _ h0))))))) (fun _ _ => trivial)
theorem pop_back (w : World) (c : Cf) (f0 f1 f2 f3 f4 f5 f6 : Int) (z : S66) (ob bb : Nat) (p : Int) (v : Value) (l : List Int) (res val : Int) (W : World) (hn : l.length ≤ 1000000) (h : PS w c ⟨f0, f1, f2, f3, f4, f5, f6⟩ z ob (some (bb, p)) v l W) :
  Calls Tryz.prog 178 #[.int .i64 res, .int .u64 val, .pointer (some ⟨ob, 0, none⟩), .pointer (some ⟨bb, 0, none⟩), .pointer (some ⟨w.heap.size + 1, 0, none⟩)] W fun e W' => ∃ u, e = .returned (.tuple #[u, frV ⟨f0, 0, f2, val, 0, 0, res⟩]) ∧ (Kd.int .u64).R 38 W' W.heap.size (fun _ => True) u (storeF l p (IntKind.u64.wrap (f4 + 1))) ∧ Below W.heap.size W W' := by
 obtain ⟨A, cp, rfl, hcp, hC⟩ := Kd.R_reads h.hr
 have HCP := qQ hcp
 have HN := qQ hn
 have HD0 := qQ (h.below (below_alloc (Below.refl _ _) (.cells #[.int .i64 0, .int .i64 0, .int .i64 0, .int .u64 0, .int .u64 0, .int .u64 0, .int .i64 0] 66)))
 have HB0 := qQ (below_alloc (Below.refl W.heap.size W) (.cells #[.int .i64 0, .int .i64 0, .int .i64 0, .int .u64 0, .int .u64 0, .int .u64 0, .int .i64 0] 66))
 have HH0 := qQ (blk_new W (.cells #[.int .i64 0, .int .i64 0, .int .i64 0, .int .u64 0, .int .u64 0, .int .u64 0, .int .i64 0] 66))
 clear h hcp hn hC
 have r0 := twoCells HD0.o.thr.two; have x0 := dsFrozen HD0.o.ds; have o0 := psCells HD0.o; have b0 := psBox HD0.o
 go_enter Tryz.func178, Tryz.ntmps178
 go_wp2
 refine zS 12 [11] (fun W' => PS w c ⟨f0, f1, f2, f3, f4, f5, f6⟩ z ob (some (bb, p)) (.slice A l.length cp) l W') HD0.o.drew fun hHeld => ?_
 refine zT 0 1 9 ?_ (hy := zy12)
 refine zT 1 3 10 ?_ (hy := zy12)
 refine zY 2 7 11 ?_
 refine zT 3 15 12 ?_ (hy := zy12)
 refine zY 4 31 13 ?_
 refine zT 6 95 15 ?_ (hy := zy12)
 refine zY 7 223 16 ?_
 refine zY 8 479 17 ?_
 refine zO 5 511 14 fun K hK => ?_
 go_simp
 refine (store65 _ _ l p (IntKind.u64.wrap (f4 + 1)) _ (Kd.R_reads' HD0.o.drew.hr).2.2 HCP.o HN.o).mono ?_
 rintro e w1 ⟨u, rfl, hr, hd⟩
 obtain ⟨A1, c1, eo⟩ := Kd.R_slice hr
 subst eo
 have HD1 := qQ (HD0.o.drew.below hd)
 have HB1 := qQ (below_then (below_drew HB0.o) (below_drew HB0.o).size hd)
 have HR1 := qQ (Kd.R_lower hr (below_drew HB0.o).size)
 have HH1 := qQ (blk_below (blk_drew HH0.o) hd)
 clear hr hd
 refine hK.out _ _ HD1.o (fun hHeld => ?_)
 refine zO 9 1023 18 fun K hK => ?_
 go_simp
 refine (frame_End.calls f0 f1 f2 f3 f4 f5 f6 res val _ _ _ _ _ _ _ _ rfl).mono ?_
 rintro e w2 ⟨rfl, hd⟩
 have HD2 := qQ (HD1.o.below hd)
 have HB2 := qQ (below_then HB1.o HB1.o.size hd)
 have HR2 := qQ (Kd.R_below HR1.o hd)
 have HH2 := qQ (blk_below HH1.o hd)
 clear hd
 refine hK.out _ _ HD2.o (fun hHeld => ?_)
 refine zY 10 2047 7 ?_
 refine zL 11 4095 fun K hK => ?_
 have y0 := fun i => blk_cell HH2.o i
 have y1 := fun i => blk_frozen HH2.o i
 go_simp
 refine hK.out _ _ ?_
 refine zD ?_
 obtain ⟨hb3, hh3, hr3⟩ := frame_put (z := ⟨0, 0, 0, 0, 0, 0, 0⟩) HB2.o (Nat.le_refl _) HH2.o HR2.o ⟨f0, 0, f2, val, 0, 0, res⟩
 have HB3 := qQ hb3
 have HH3 := qQ hh3
 have HR3 := qQ hr3
 clear hb3 hh3 hr3 y0 y1 hHeld
 go_wp2
 refine bodyPost_ret (results_tc rfl _ _ W.heap.size 66 _ (0, 0) _ rfl HH3.o Tryz.underlying66 rfl (by kernel_rfl)) rfl ?_
 exact ⟨_, rfl, HR3.o, HB3.o⟩
theorem pop_step (A : Option Addr) (cp : Nat) (c : Cf) (f f' : S66) (l l' : List Int) (w : World) (hC : Kd.C (Kd.int .u64) w A l.length l) (hcp : l.length ≤ cp) (hn : l.length ≤ 1000000)
  (hk : (goesB c l.length f 1 7 = false ∧ l = l' ∧ f = f') ∨ (goesB c l.length f 1 7 = true ∧ ∃ pt pb, lay_Top.f c.w c.d c.i c.s f.f2 = some pt ∧ lay_Bottom.f c.w c.d c.i c.s f.f2 = some pb ∧ ((f.f1 = 0 ∧ l = l' ∧ f' = { f with f4 := IntKind.u64.wrap (loadF l pb - 1), f1 := 1 }) ∨ (f.f1 = 1 ∧ storeF l pb f.f4 = l' ∧ f' = { f with f1 := 2 }) ∨ (f.f1 = 2 ∧ l = l' ∧ f' = (if wrap64 (IntKind.u64.wrap (f.f4 - loadF l pt)) < 0 then { f with f5 := loadF l pt, f1 := 6 } else { f with f5 := loadF l pt, f1 := 3 })) ∨ (f.f1 = 3 ∧ l = l' ∧ ∃ ps, lay_Slot.f c.w c.d c.i c.s f.f2 f.f4 = some ps ∧ f' = (if f.f4 = f.f5 then { f with f3 := loadF l ps, f1 := 4 } else (⟨f.f0, 0, f.f2, loadF l ps, 0, 0, 1⟩ : S66))) ∨ (f.f1 = 4 ∧ ∃ b, casF l pt f.f5 (IntKind.u64.wrap (f.f5 + 1)) = (l', b) ∧ f' = (if b = true then { f with f1 := 5 } else { f with f1 := 6 })) ∨ (f.f1 = 5 ∧ storeF l pb (IntKind.u64.wrap (f.f4 + 1)) = l' ∧ f' = (⟨f.f0, 0, f.f2, f.f3, 0, 0, 1⟩ : S66)) ∨ (f.f1 = 6 ∧ storeF l pb (IntKind.u64.wrap (f.f4 + 1)) = l' ∧ f' = (⟨f.f0, 0, f.f2, 0, 0, 0, 3⟩ : S66))))) :
  Calls Tryz.prog 157 #[cfV c, .slice A l.length cp, frV f] w fun e w' => ∃ v, e = .returned (.tuple #[v, frV f']) ∧ (Kd.int .u64).R 38 w' w.heap.size (fun _ => True) v l' ∧ Below w.heap.size w w' := by
 obtain ⟨f0, f1, f2, f3, f4, f5, f6⟩ := f
 have HD0 := qQ (DS.start w c ⟨f0, f1, f2, f3, f4, f5, f6⟩)
 dsimp only at HD0
 have HC := qQ (Kd.C_below hC HD0.o.thr.two.hb)
 have HCP := qQ hcp
 have HN := qQ hn
 clear hC hcp hn
 dsimp only at hk
 have e178 := fun args W => enters_of Tryz.func178 (by kernel_rfl) rfl args W
 rcases hk with ⟨hg, rfl, rfl⟩ | ⟨hg, pt, pb, hpt, hpb, hx⟩
 ·
  have r0 := twoCells HD0.o.thr.two; have x0 := dsFrozen HD0.o
  go_enter Tryz.func157, Tryz.ntmps157
  go_wp2
  refine wp_scope_fwd ?_
  go_wp2_with (first | (go_at_call 54; with_reducible refine (clone54' A cp l _ HC.o HN.o).mono ?_; rintro e w1 ⟨u1, rfl, hr, hd⟩; obtain ⟨A1, c1, eo⟩ := Kd.R_slice hr; subst eo; have HCP1 := qQ (Kd.R_reads' hr).2.1; have HD1 := qQ (PS.start (HD0.o.new hd hr)); clear hr hd r0 x0; have r0 := twoCells HD1.o.thr.two; have x0 := dsFrozen HD1.o.ds; obtain ⟨o0, o1⟩ := psCells HD1.o) | (go_at_call 137; with_reducible refine (push_goes A cp l.length c ⟨f0, f1, f2, f3, f4, f5, f6⟩ 1 7 _).mono ?_; rintro e w2 ⟨rfl, hd⟩; rw [hg]; have HD2 := qQ (HD1.o.below hd); clear hd; clear r0 x0 o0 o1; have r0 := twoCells HD2.o.thr.two; have x0 := dsFrozen HD2.o.ds; obtain ⟨o0, o1⟩ := psCells HD2.o))
  refine zS 4 [3] (fun W' => PS0 w c ⟨f0, f1, f2, f3, f4, f5, f6⟩ w1.heap.size (.slice A1 l.length c1) W') HD2.o.drew.s0 fun hHeld => ?_
  refine zT 0 1 21 ?_ (hy := zy3)
  refine zT 1 3 22 ?_ (hy := zy3)
  refine zY 2 7 6 ?_
  refine zL 3 15 fun K hK => ?_
  have y0 := thrCells HD2.o.thr
  go_simp
  refine hK.out _ _ ?_
  refine zD ?_
  have HT9 := qQ (HD2.o.thr.ans ⟨f0, f1, f2, f3, f4, f5, f6⟩).drew
  have HR9 := qQ (Kd.R_drew (R_ans HD2.o.hr HD2.o.thr ⟨f0, f1, f2, f3, f4, f5, f6⟩))
  clear hHeld y0
  go_wp2
  simp only [fwd]
  refine bodyPost_ret (results_tc rfl _ _ (w.heap.size + 1 + 1) 66 _ (0, 0) _ rfl HT9.o.h2 Tryz.underlying66 rfl (by kernel_rfl)) rfl ?_
  exact ⟨_, rfl, HR9.o, HT9.o.two.hb⟩
 ·have HX := qQ hx
  have HPT := qQ hpt
  have HPB := qQ hpb
  clear hx hpt hpb
  have r0 := twoCells HD0.o.thr.two; have x0 := dsFrozen HD0.o
  go_enter Tryz.func157, Tryz.ntmps157
  go_wp2
  refine wp_scope_fwd ?_
  go_wp2_with (first | (go_at_call 54; with_reducible refine (clone54' A cp l _ HC.o HN.o).mono ?_; rintro e w1 ⟨u1, rfl, hr, hd⟩; obtain ⟨A1, c1, eo⟩ := Kd.R_slice hr; subst eo; have HCP1 := qQ (Kd.R_reads' hr).2.1; have HD1 := qQ (PS.start (HD0.o.new hd hr)); clear hr hd r0 x0; have r0 := twoCells HD1.o.thr.two; have x0 := dsFrozen HD1.o.ds; obtain ⟨o0, o1⟩ := psCells HD1.o) | (go_at_call 137; with_reducible refine (push_goes A cp l.length c ⟨f0, f1, f2, f3, f4, f5, f6⟩ 1 7 _).mono ?_; rintro e w2 ⟨rfl, hd⟩; rw [hg]; have HD2 := qQ (HD1.o.below hd); clear hd; clear r0 x0 o0 o1; have r0 := twoCells HD2.o.thr.two; have x0 := dsFrozen HD2.o.ds; obtain ⟨o0, o1⟩ := psCells HD2.o))
  refine zS 11 [10] (fun W' => PS0 w c ⟨f0, f1, f2, f3, f4, f5, f6⟩ w1.heap.size (.slice A1 l.length c1) W') HD2.o.drew.s0 fun hHeld => ?_
  refine zT 0 1 23 ?_ (hy := zy3)
  refine zY 1 3 24 ?_
  refine zT 2 7 25 ?_ (hy := zy3)
  refine zT 4 23 27 ?_ (hy := zy3)
  refine zY 5 55 28 ?_
  refine zT 6 119 29 ?_ (hy := zy3)
  refine join_ (σ := Nat) 2 (zM 11 511) (fun nb => [(26, .int .i64 pt), (30, .int .i64 pb), (10, .pointer (some ⟨nb, 0, none⟩))]) (fun nb w' => PS w c ⟨f0, f1, f2, f3, f4, f5, f6⟩ ⟨0, 0, 0, 0, 0, 0, 0⟩ w1.heap.size none (.slice A1 l.length c1) l w' ∧ w'.heap[nb]? = some (.cells #[.int .i64 0] 3 (0, 0)) ∧ w1.heap.size < nb) ?_ ?_
  rotate_left
  ·intro hcont
   refine two_ (i := 3) (j := 8) (Ni := some 26) (Nj := some 10) (zM 11 127) (zM 11 375) rfl rfl rfl rfl (by kernel_rfl) (by decide) (by decide) (fun K hK => ?_) (fun K hK => ?_)
   ·go_simp
    refine (lay_Top.calls c.w c.d c.i c.s f2 pt _ HPT.o).mono ?_
    rintro e w3 ⟨rfl, hdw3⟩
    have hw3 := (HD2.o.drew).below hdw3
    refine hK.out _ _ (hw3).s0 (fun hHeld => ?_)
    refine two_ (i := 7) (j := 8) (Ni := some 30) (Nj := some 10) (zM 11 255) (zM 11 383) rfl rfl rfl rfl (by kernel_rfl) (by decide) (by decide) (fun K hK => ?_) (fun K hK => ?_)
    ·go_simp
     refine (lay_Bottom.calls c.w c.d c.i c.s f2 pb _ HPB.o).mono ?_
     rintro e w4 ⟨rfl, hdw4⟩
     have hw4 := (hw3).below hdw4
     refine hK.out _ _ (hw4).s0 (fun hHeld => ?_)
     refine zO 8 511 10 fun K hK => ?_
     go_simp
     have hw5 := hw4.below (below_alloc (Below.refl _ _) (.cells #[.int .i64 0] 3))
     refine hK.out _ _ hw5.s0 (fun _ => ?_)
     exact norm_ rfl (hcont w4.heap.size _ ⟨hw5, blk_new _ _, blk_lt hw4.ho⟩)
    ·go_simp
     have hw4 := hw3.below (below_alloc (Below.refl _ _) (.cells #[.int .i64 0] 3))
     refine hK.out _ _ (hw4).s0 (fun hHeld => ?_)
     refine zO 7 511 30 fun K hK => ?_
     go_simp
     refine (lay_Bottom.calls c.w c.d c.i c.s f2 pb _ HPB.o).mono ?_
     rintro e w5 ⟨rfl, hdw5⟩
     have hw5 := (hw4).below hdw5
     refine hK.out _ _ hw5.s0 (fun _ => ?_)
     exact norm_ rfl (hcont w3.heap.size _ ⟨hw5, blk_below (blk_new w3 _) hdw5, blk_lt hw3.ho⟩)
   ·go_simp
    have hw3 := (HD2.o.below (below_alloc (Below.refl _ _) (.cells #[.int .i64 0] 3))).drew
    refine hK.out _ _ (hw3).s0 (fun hHeld => ?_)
    refine zO 3 383 26 fun K hK => ?_
    go_simp
    refine (lay_Top.calls c.w c.d c.i c.s f2 pt _ HPT.o).mono ?_
    rintro e w4 ⟨rfl, hdw4⟩
    have hw4 := (hw3).below hdw4
    refine hK.out _ _ (hw4).s0 (fun hHeld => ?_)
    refine zO 7 511 30 fun K hK => ?_
    go_simp
    refine (lay_Bottom.calls c.w c.d c.i c.s f2 pb _ HPB.o).mono ?_
    rintro e w5 ⟨rfl, hdw5⟩
    have hw5 := (hw4).below hdw5
    refine hK.out _ _ hw5.s0 (fun _ => ?_)
    exact norm_ rfl (hcont w2.heap.size _ ⟨hw5, blk_below (blk_below (blk_drew (blk_new w2 _)) hdw4) hdw5, blk_lt HD2.o.ho⟩)
  rintro nb w3 ⟨hs3, hnb, hlt⟩
  simp only [putAll, Act.put, List.setIfInBounds_toArray, List.set_cons_zero, List.set_cons_succ]
  have HD3 := qQ hs3
  have HNB := qQ hnb
  have HLT := qQ hlt
  clear hs3 hnb hlt
  refine zY 9 1023 9 ?_
  refine zL 10 2047 fun K hK => ?_
  have n0 := (blk_cell HNB.o 0).trans rfl
  have n1 := fun i => blk_frozen HNB.o i
  go_simp
  refine hK.out _ _ ?_
  refine zD ?_
  have hs4 := HD3.o.boxSet HNB.o HLT.o pb
  generalize w3.setCell ⟨nb, 0, none⟩ (.int .i64 pb) = w4 at hs4 ⊢
  have HD4 := qQ hs4
  clear hs4 hHeld n0 n1 HNB HLT HD1 HD2 HD3 r0 x0 o0 o1
  have r0 := twoCells HD4.o.thr.two; have x0 := dsFrozen HD4.o.ds; obtain ⟨o0, o1⟩ := psCells HD4.o; have b0 := psBox HD4.o
  rcases HX.o with ⟨rfl, rfl, rfl⟩ | ⟨rfl, rfl, rfl⟩ | ⟨rfl, rfl, hf⟩ | ⟨rfl, rfl, ps, hps, hf⟩ | ⟨rfl, b, hq, hf⟩ | ⟨rfl, rfl, rfl⟩ | ⟨rfl, rfl, rfl⟩
  ·clear HX
   go_wp2_with (first | (go_at_call 7; with_reducible refine (Load_calls _ _ l pb _ (Kd.R_reads' HD4.o.hr).2.2 HCP1.o).mono ?_; rintro e w11 ⟨rfl, hd⟩; have HD11 := qQ (HD4.o.below (hd.below)); clear hd; clear r0 x0 o0 o1; have r0 := twoCells HD11.o.thr.two; have x0 := dsFrozen HD11.o.ds; obtain ⟨o0, o1⟩ := psCells HD11.o; have b0 := psBox HD11.o))
   refine wp_goto ?_
   refine Exists.intro _ (And.intro rfl ?_)
   go_wp2
   have hs12 := (HD11.o.f4 (IntKind.u64.wrap (loadF l pb - 1))).f1 (1)
   generalize ((w11).setCell ⟨w.heap.size + 1, 4, none⟩ (.int .u64 (IntKind.u64.wrap (loadF l pb - 1)))).setCell ⟨w.heap.size + 1, 1, none⟩ (.int .i64 (1)) = w12 at hs12 ⊢
   have HD12 := qQ hs12
   clear hs12
   clear r0 x0 o0 o1 b0
   have r0 := twoCells HD12.o.thr.two; have x0 := dsFrozen HD12.o.ds; obtain ⟨o0, o1⟩ := psCells HD12.o; have b0 := psBox HD12.o
   refine zS 4 [3] (fun W' => PS0 w c ⟨f0, 1, f2, f3, (IntKind.u64.wrap (loadF l pb - 1)), f5, f6⟩ w1.heap.size (.slice A1 l.length c1) W') HD12.o.drew.s0 fun hHeld => ?_
   refine zT 0 1 113 ?_ (hy := zy3)
   refine zT 1 3 114 ?_ (hy := zy3)
   refine zY 2 7 6 ?_
   refine zL 3 15 fun K hK => ?_
   have y0 := thrCells HD12.o.thr
   go_simp
   refine hK.out _ _ ?_
   refine zD ?_
   have HT9 := qQ (HD12.o.thr.ans ⟨f0, 1, f2, f3, (IntKind.u64.wrap (loadF l pb - 1)), f5, f6⟩).drew
   have HR9 := qQ (Kd.R_drew (R_ans HD12.o.hr HD12.o.thr ⟨f0, 1, f2, f3, (IntKind.u64.wrap (loadF l pb - 1)), f5, f6⟩))
   clear hHeld y0
   go_wp2
   try simp only [Exit.noGoto]
   refine bodyPost_ret (results_tc rfl _ _ (w.heap.size + 1 + 1) 66 _ (0, 0) _ rfl HT9.o.h2 Tryz.underlying66 rfl (by kernel_rfl)) rfl ?_
   exact ⟨_, rfl, HR9.o, HT9.o.two.hb⟩
  ·clear HX
   go_wp2_with (first | (go_at_call 65; with_reducible refine (store65 _ _ l pb f4 _ (Kd.R_reads' HD4.o.hr).2.2 HCP1.o HN.o).mono ?_; rintro e w13 ⟨u13, rfl, hr, hd⟩; obtain ⟨A13, c13, eo⟩ := Kd.R_slice hr; subst eo; have HR13 := qQ hr; have HD13 := qQ (HD4.o.below hd); clear hr hd; clear r0 x0 o0 o1; have r0 := twoCells HD13.o.thr.two; have x0 := dsFrozen HD13.o.ds; obtain ⟨o0, o1⟩ := psCells HD13.o; have b0 := psBox HD13.o))
   refine wp_goto ?_
   refine Exists.intro _ (And.intro rfl ?_)
   go_wp2
   have hs14 := (HD13.o.own HR13.o HD4.o.bel.size).f1 (2)
   generalize ((w13).setCell ⟨w1.heap.size, 0, none⟩ (.slice A13 (storeF l pb f4).length c13)).setCell ⟨w.heap.size + 1, 1, none⟩ (.int .i64 (2)) = w14 at hs14 ⊢
   have HD14 := qQ hs14
   clear hs14
   clear r0 x0 o0 o1 b0
   have r0 := twoCells HD14.o.thr.two; have x0 := dsFrozen HD14.o.ds; obtain ⟨o0, o1⟩ := psCells HD14.o; have b0 := psBox HD14.o
   refine zS 4 [3] (fun W' => PS0 w c ⟨f0, 2, f2, f3, f4, f5, f6⟩ w1.heap.size (.slice A13 (storeF l pb f4).length c13) W') HD14.o.drew.s0 fun hHeld => ?_
   refine zT 0 1 113 ?_ (hy := zy3)
   refine zT 1 3 114 ?_ (hy := zy3)
   refine zY 2 7 6 ?_
   refine zL 3 15 fun K hK => ?_
   have y0 := thrCells HD14.o.thr
   go_simp
   refine hK.out _ _ ?_
   refine zD ?_
   have HT9 := qQ (HD14.o.thr.ans ⟨f0, 2, f2, f3, f4, f5, f6⟩).drew
   have HR9 := qQ (Kd.R_drew (R_ans HD14.o.hr HD14.o.thr ⟨f0, 2, f2, f3, f4, f5, f6⟩))
   clear hHeld y0
   go_wp2
   try simp only [Exit.noGoto]
   refine bodyPost_ret (results_tc rfl _ _ (w.heap.size + 1 + 1) 66 _ (0, 0) _ rfl HT9.o.h2 Tryz.underlying66 rfl (by kernel_rfl)) rfl ?_
   exact ⟨_, rfl, HR9.o, HT9.o.two.hb⟩
  ·clear HX
   go_wp2_with (first | (go_at_call 7; with_reducible refine (Load_calls _ _ l pt _ (Kd.R_reads' HD4.o.hr).2.2 HCP1.o).mono ?_; rintro e w15 ⟨rfl, hd⟩; have HD15 := qQ (HD4.o.below (hd.below)); clear hd; clear r0 x0 o0 o1; have r0 := twoCells HD15.o.thr.two; have x0 := dsFrozen HD15.o.ds; obtain ⟨o0, o1⟩ := psCells HD15.o; have b0 := psBox HD15.o))
   have hs16 := HD15.o.f5 ((loadF l pt))
   generalize (w15).setCell ⟨w.heap.size + 1, 5, none⟩ (.int .u64 ((loadF l pt))) = w16 at hs16 ⊢
   have HD16 := qQ hs16
   clear hs16
   clear r0 x0 o0 o1 b0
   have r0 := twoCells HD16.o.thr.two; have x0 := dsFrozen HD16.o.ds; obtain ⟨o0, o1⟩ := psCells HD16.o; have b0 := psBox HD16.o
   refine (word_Far.calls f4 (loadF l pt) _ _ rfl).mono ?_
   rintro e w17 ⟨rfl, hd⟩
   have HD17 := qQ (HD16.o.below hd.below)
   clear hd
   clear r0 x0 o0 o1 b0
   have r0 := twoCells HD17.o.thr.two; have x0 := dsFrozen HD17.o.ds; obtain ⟨o0, o1⟩ := psCells HD17.o; have b0 := psBox HD17.o
   by_cases hc : wrap64 (IntKind.u64.wrap (f4 - loadF l pt)) < 0
   ·rw [if_pos hc] at hf
    subst hf
    go_wp2
    refine wp_goto ?_
    refine Exists.intro _ (And.intro rfl ?_)
    go_wp2
    have hs18 := HD17.o.f1 (6)
    generalize (w17).setCell ⟨w.heap.size + 1, 1, none⟩ (.int .i64 (6)) = w18 at hs18 ⊢
    have HD18 := qQ hs18
    clear hs18
    clear r0 x0 o0 o1 b0
    have r0 := twoCells HD18.o.thr.two; have x0 := dsFrozen HD18.o.ds; obtain ⟨o0, o1⟩ := psCells HD18.o; have b0 := psBox HD18.o
    refine zS 4 [3] (fun W' => PS0 w c ⟨f0, 6, f2, f3, f4, (loadF l pt), f6⟩ w1.heap.size (.slice A1 l.length c1) W') HD18.o.drew.s0 fun hHeld => ?_
    refine zT 0 1 113 ?_ (hy := zy3)
    refine zT 1 3 114 ?_ (hy := zy3)
    refine zY 2 7 6 ?_
    refine zL 3 15 fun K hK => ?_
    have y0 := thrCells HD18.o.thr
    go_simp
    refine hK.out _ _ ?_
    refine zD ?_
    have HT9 := qQ (HD18.o.thr.ans ⟨f0, 6, f2, f3, f4, (loadF l pt), f6⟩).drew
    have HR9 := qQ (Kd.R_drew (R_ans HD18.o.hr HD18.o.thr ⟨f0, 6, f2, f3, f4, (loadF l pt), f6⟩))
    clear hHeld y0
    go_wp2
    try simp only [Exit.noGoto]
    refine bodyPost_ret (results_tc rfl _ _ (w.heap.size + 1 + 1) 66 _ (0, 0) _ rfl HT9.o.h2 Tryz.underlying66 rfl (by kernel_rfl)) rfl ?_
    exact ⟨_, rfl, HR9.o, HT9.o.two.hb⟩
   ·rw [if_neg hc] at hf
    subst hf
    go_wp2
    refine wp_goto ?_
    refine Exists.intro _ (And.intro rfl ?_)
    go_wp2
    have hs19 := HD17.o.f1 (3)
    generalize (w17).setCell ⟨w.heap.size + 1, 1, none⟩ (.int .i64 (3)) = w19 at hs19 ⊢
    have HD19 := qQ hs19
    clear hs19
    clear r0 x0 o0 o1 b0
    have r0 := twoCells HD19.o.thr.two; have x0 := dsFrozen HD19.o.ds; obtain ⟨o0, o1⟩ := psCells HD19.o; have b0 := psBox HD19.o
    refine zS 4 [3] (fun W' => PS0 w c ⟨f0, 3, f2, f3, f4, (loadF l pt), f6⟩ w1.heap.size (.slice A1 l.length c1) W') HD19.o.drew.s0 fun hHeld => ?_
    refine zT 0 1 113 ?_ (hy := zy3)
    refine zT 1 3 114 ?_ (hy := zy3)
    refine zY 2 7 6 ?_
    refine zL 3 15 fun K hK => ?_
    have y0 := thrCells HD19.o.thr
    go_simp
    refine hK.out _ _ ?_
    refine zD ?_
    have HT9 := qQ (HD19.o.thr.ans ⟨f0, 3, f2, f3, f4, (loadF l pt), f6⟩).drew
    have HR9 := qQ (Kd.R_drew (R_ans HD19.o.hr HD19.o.thr ⟨f0, 3, f2, f3, f4, (loadF l pt), f6⟩))
    clear hHeld y0
    go_wp2
    try simp only [Exit.noGoto]
    refine bodyPost_ret (results_tc rfl _ _ (w.heap.size + 1 + 1) 66 _ (0, 0) _ rfl HT9.o.h2 Tryz.underlying66 rfl (by kernel_rfl)) rfl ?_
    exact ⟨_, rfl, HR9.o, HT9.o.two.hb⟩
  ·clear HX
   have HPS := qQ hps
   have HF := qQ hf
   clear hps hf
   go_wp2
   refine zS 10 [9] (fun W' => PS0 w c ⟨f0, 3, f2, f3, f4, f5, f6⟩ w1.heap.size (.slice A1 l.length c1) W') HD4.o.drew.s0 fun hHeld => ?_
   refine zT 0 1 65 ?_ (hy := zy3)
   refine zT 1 3 66 ?_ (hy := zy3)
   refine zY 2 7 67 ?_
   refine zT 3 15 68 ?_ (hy := zy3)
   refine zY 4 31 69 ?_
   refine zT 5 63 70 ?_ (hy := zy3)
   refine zO 6 127 71 fun K hK => ?_
   go_simp
   refine (lay_Slot.calls c.w c.d c.i c.s f2 f4 ps _ HPS.o).mono ?_
   rintro e w20 ⟨rfl, hd⟩
   have HD20 := qQ ((HD4.o.drew).below (hd))
   clear hd
   refine hK.out _ _ HD20.o.s0 (fun hHeld => ?_)
   refine zO 7 255 72 fun K hK => ?_
   go_simp
   refine (Load_calls _ _ l ps _ (Kd.R_reads' HD20.o.hr).2.2 HCP1.o).mono ?_
   rintro e w21 ⟨rfl, hd⟩
   have HD21 := qQ (HD20.o.below (hd.below))
   clear hd
   refine hK.out _ _ HD21.o.s0 (fun hHeld => ?_)
   refine zY 8 511 73 ?_
   refine zL 9 1023 fun K hK => ?_
   clear r0 x0 o0 o1 b0
   have r0 := twoCells HD21.o.thr.two
   have x0 := dsFrozen HD21.o.ds
   obtain ⟨o0, o1⟩ := psCells HD21.o
   have b0 := psBox HD21.o
   go_simp
   refine hK.out _ _ ?_
   refine zD ?_
   clear hHeld
   have hs22 := HD21.o.f3 ((loadF l ps))
   generalize (w21).setCell ⟨w.heap.size + 1, 3, none⟩ (.int .u64 ((loadF l ps))) = w22 at hs22 ⊢
   have HD22 := qQ hs22
   clear hs22
   clear r0 x0 o0 o1 b0
   have r0 := twoCells HD22.o.thr.two; have x0 := dsFrozen HD22.o.ds; obtain ⟨o0, o1⟩ := psCells HD22.o; have b0 := psBox HD22.o
   have hf2 := HF.o
   by_cases hc : f4 = f5
   ·rw [if_pos hc] at hf2
    have hb : (f4 != f5) = false := by simp [hc]
    clear hc
    subst hf2
    go_wp2
    refine wp_goto ?_
    refine Exists.intro _ (And.intro rfl ?_)
    go_wp2
    have hs23 := HD22.o.f1 (4)
    generalize (w22).setCell ⟨w.heap.size + 1, 1, none⟩ (.int .i64 (4)) = w23 at hs23 ⊢
    have HD23 := qQ hs23
    clear hs23
    clear r0 x0 o0 o1 b0
    have r0 := twoCells HD23.o.thr.two; have x0 := dsFrozen HD23.o.ds; obtain ⟨o0, o1⟩ := psCells HD23.o; have b0 := psBox HD23.o
    refine zS 4 [3] (fun W' => PS0 w c ⟨f0, 4, f2, (loadF l ps), f4, f5, f6⟩ w1.heap.size (.slice A1 l.length c1) W') HD23.o.drew.s0 fun hHeld => ?_
    refine zT 0 1 113 ?_ (hy := zy3)
    refine zT 1 3 114 ?_ (hy := zy3)
    refine zY 2 7 6 ?_
    refine zL 3 15 fun K hK => ?_
    have y0 := thrCells HD23.o.thr
    go_simp
    refine hK.out _ _ ?_
    refine zD ?_
    have HT9 := qQ (HD23.o.thr.ans ⟨f0, 4, f2, (loadF l ps), f4, f5, f6⟩).drew
    have HR9 := qQ (Kd.R_drew (R_ans HD23.o.hr HD23.o.thr ⟨f0, 4, f2, (loadF l ps), f4, f5, f6⟩))
    clear hHeld y0
    go_wp2
    try simp only [Exit.noGoto]
    refine bodyPost_ret (results_tc rfl _ _ (w.heap.size + 1 + 1) 66 _ (0, 0) _ rfl HT9.o.h2 Tryz.underlying66 rfl (by kernel_rfl)) rfl ?_
    exact ⟨_, rfl, HR9.o, HT9.o.two.hb⟩
   ·rw [if_neg hc] at hf2
    have hb : (f4 != f5) = true := by simp [hc]
    clear hc
    subst hf2
    go_wp2
    refine zS 7 [6] (fun W' => PS0 w c ⟨f0, 3, f2, (loadF l ps), f4, f5, f6⟩ w1.heap.size (.slice A1 l.length c1) W') HD22.o.drew.s0 fun hHeld => ?_
    refine zT 0 1 79 ?_ (hy := zy3)
    refine zT 1 3 80 ?_ (hy := zy3)
    refine zY 2 7 81 ?_
    refine zT 3 15 82 ?_ (hy := zy3)
    refine zO 4 31 83 fun K hK => ?_
    go_simp
    refine (frame_End.calls f0 3 f2 (loadF l ps) f4 f5 f6 1 (loadF l ps) _ _ _ _ _ _ _ _ rfl).mono ?_
    rintro e w24 ⟨rfl, hd⟩
    have HD24 := qQ ((HD22.o.drew).below (hd))
    clear hd
    refine hK.out _ _ HD24.o.s0 (fun hHeld => ?_)
    refine zY 5 63 6 ?_
    refine zL 6 127 fun K hK => ?_
    have y0 := thrCells HD24.o.thr
    go_simp
    refine hK.out _ _ ?_
    refine zD ?_
    have HT9 := qQ (HD24.o.thr.ans ⟨f0, 0, f2, loadF l ps, 0, 0, 1⟩)
    have HR9 := qQ (R_ans HD24.o.hr HD24.o.thr ⟨f0, 0, f2, loadF l ps, 0, 0, 1⟩)
    clear hHeld y0
    go_wp2
    simp only [fwd]
    refine bodyPost_ret (results_tc rfl _ _ (w.heap.size + 1 + 1) 66 _ (0, 0) _ rfl HT9.o.h2 Tryz.underlying66 rfl (by kernel_rfl)) rfl ?_
    exact ⟨_, rfl, HR9.o, HT9.o.two.hb⟩
  ·clear HX
   have CAS : ∀ (A : Option Addr) (cp : Nat) (W : World), Kd.C (Kd.int .u64) W A l.length l → l.length ≤ cp → Calls Tryz.prog 140 #[.slice A l.length cp, .int .i64 pt, .int .u64 f5, .int .u64 (IntKind.u64.wrap (f5 + 1))] W fun e w' => ∃ u, e = .returned (.tuple #[u, .bool b]) ∧ (Kd.int .u64).R 38 w' W.heap.size (fun _ => True) u l' ∧ Below W.heap.size W w' := fun A cp W h1 h2 => by
    have h := cas140 A cp l pt f5 (IntKind.u64.wrap (f5 + 1)) W h1 h2 HN.o
    rw [hq] at h
    exact h
   have HCAS := qQ CAS
   clear CAS hq
   cases b with
   | true =>
    simp only [if_true] at hf
    subst hf
    go_wp2_with (first | (go_at_call 140; with_reducible refine (HCAS.o _ _ _ (Kd.R_reads' HD4.o.hr).2.2 HCP1.o).mono ?_; rintro e w25 ⟨u25, rfl, hr, hd⟩; obtain ⟨A25, c25, eo⟩ := Kd.R_slice hr; subst eo; have HR25 := qQ hr; have HD25 := qQ (HD4.o.below hd); clear hr hd; clear r0 x0 o0 o1; have r0 := twoCells HD25.o.thr.two; have x0 := dsFrozen HD25.o.ds; obtain ⟨o0, o1⟩ := psCells HD25.o; have b0 := psBox HD25.o))
    refine wp_goto ?_
    refine Exists.intro _ (And.intro rfl ?_)
    go_wp2
    have hs26 := (HD25.o.own HR25.o HD4.o.bel.size).f1 (5)
    generalize ((w25).setCell ⟨w1.heap.size, 0, none⟩ (.slice A25 l'.length c25)).setCell ⟨w.heap.size + 1, 1, none⟩ (.int .i64 (5)) = w26 at hs26 ⊢
    have HD26 := qQ hs26
    clear hs26
    clear r0 x0 o0 o1 b0
    have r0 := twoCells HD26.o.thr.two; have x0 := dsFrozen HD26.o.ds; obtain ⟨o0, o1⟩ := psCells HD26.o; have b0 := psBox HD26.o
    refine zS 4 [3] (fun W' => PS0 w c ⟨f0, 5, f2, f3, f4, f5, f6⟩ w1.heap.size (.slice A25 l'.length c25) W') HD26.o.drew.s0 fun hHeld => ?_
    refine zT 0 1 113 ?_ (hy := zy3)
    refine zT 1 3 114 ?_ (hy := zy3)
    refine zY 2 7 6 ?_
    refine zL 3 15 fun K hK => ?_
    have y0 := thrCells HD26.o.thr
    go_simp
    refine hK.out _ _ ?_
    refine zD ?_
    have HT9 := qQ (HD26.o.thr.ans ⟨f0, 5, f2, f3, f4, f5, f6⟩).drew
    have HR9 := qQ (Kd.R_drew (R_ans HD26.o.hr HD26.o.thr ⟨f0, 5, f2, f3, f4, f5, f6⟩))
    clear hHeld y0
    go_wp2
    try simp only [Exit.noGoto]
    refine bodyPost_ret (results_tc rfl _ _ (w.heap.size + 1 + 1) 66 _ (0, 0) _ rfl HT9.o.h2 Tryz.underlying66 rfl (by kernel_rfl)) rfl ?_
    exact ⟨_, rfl, HR9.o, HT9.o.two.hb⟩
   | false =>
    simp only [Bool.false_eq_true, if_false] at hf
    subst hf
    go_wp2_with (first | (go_at_call 140; with_reducible refine (HCAS.o _ _ _ (Kd.R_reads' HD4.o.hr).2.2 HCP1.o).mono ?_; rintro e w27 ⟨u27, rfl, hr, hd⟩; obtain ⟨A27, c27, eo⟩ := Kd.R_slice hr; subst eo; have HR27 := qQ hr; have HD27 := qQ (HD4.o.below hd); clear hr hd; clear r0 x0 o0 o1; have r0 := twoCells HD27.o.thr.two; have x0 := dsFrozen HD27.o.ds; obtain ⟨o0, o1⟩ := psCells HD27.o; have b0 := psBox HD27.o))
    refine wp_goto ?_
    refine Exists.intro _ (And.intro rfl ?_)
    go_wp2
    have hs28 := (HD27.o.own HR27.o HD4.o.bel.size).f1 (6)
    generalize ((w27).setCell ⟨w1.heap.size, 0, none⟩ (.slice A27 l'.length c27)).setCell ⟨w.heap.size + 1, 1, none⟩ (.int .i64 (6)) = w28 at hs28 ⊢
    have HD28 := qQ hs28
    clear hs28
    clear r0 x0 o0 o1 b0
    have r0 := twoCells HD28.o.thr.two; have x0 := dsFrozen HD28.o.ds; obtain ⟨o0, o1⟩ := psCells HD28.o; have b0 := psBox HD28.o
    refine zS 4 [3] (fun W' => PS0 w c ⟨f0, 6, f2, f3, f4, f5, f6⟩ w1.heap.size (.slice A27 l'.length c27) W') HD28.o.drew.s0 fun hHeld => ?_
    refine zT 0 1 113 ?_ (hy := zy3)
    refine zT 1 3 114 ?_ (hy := zy3)
    refine zY 2 7 6 ?_
    refine zL 3 15 fun K hK => ?_
    have y0 := thrCells HD28.o.thr
    go_simp
    refine hK.out _ _ ?_
    refine zD ?_
    have HT9 := qQ (HD28.o.thr.ans ⟨f0, 6, f2, f3, f4, f5, f6⟩).drew
    have HR9 := qQ (Kd.R_drew (R_ans HD28.o.hr HD28.o.thr ⟨f0, 6, f2, f3, f4, f5, f6⟩))
    clear hHeld y0
    go_wp2
    try simp only [Exit.noGoto]
    refine bodyPost_ret (results_tc rfl _ _ (w.heap.size + 1 + 1) 66 _ (0, 0) _ rfl HT9.o.h2 Tryz.underlying66 rfl (by kernel_rfl)) rfl ?_
    exact ⟨_, rfl, HR9.o, HT9.o.two.hb⟩
  ·clear HX
   go_wp2_with (fail)
   refine (pop_back w c f0 5 f2 f3 f4 f5 f6 _ _ nb pb _ l 1 f3 _ HN.o HD4.o).mono ?_
   rintro e w29 ⟨u29, rfl, hr, hd⟩
   obtain ⟨A29, c29, eo⟩ := Kd.R_slice hr
   subst eo
   have HR29 := qQ (Kd.R_lower hr HD4.o.bel.size)
   have HD29 := qQ (HD4.o.below hd)
   clear hr hd
   clear r0 x0 o0 o1 b0
   have r0 := twoCells HD29.o.thr.two; have x0 := dsFrozen HD29.o.ds; obtain ⟨o0, o1⟩ := psCells HD29.o; have b0 := psBox HD29.o
   have y0 := thrCells HD29.o.thr
   go_wp2
   have HT9 := qQ (HD29.o.thr.ans ⟨f0, 0, f2, f3, 0, 0, 1⟩)
   have HR9 := qQ (R_ans HR29.o HD29.o.thr ⟨f0, 0, f2, f3, 0, 0, 1⟩)
   simp only [fwd]
   refine bodyPost_ret (results_tc rfl _ _ (w.heap.size + 1 + 1) 66 _ (0, 0) _ rfl HT9.o.h2 Tryz.underlying66 rfl (by kernel_rfl)) rfl ?_
   exact ⟨_, rfl, HR9.o, HT9.o.two.hb⟩
  ·clear HX
   go_wp2_with (fail)
   refine (pop_back w c f0 6 f2 f3 f4 f5 f6 _ _ nb pb _ l 3 0 _ HN.o HD4.o).mono ?_
   rintro e w30 ⟨u30, rfl, hr, hd⟩
   obtain ⟨A30, c30, eo⟩ := Kd.R_slice hr
   subst eo
   have HR30 := qQ (Kd.R_lower hr HD4.o.bel.size)
   have HD30 := qQ (HD4.o.below hd)
   clear hr hd
   clear r0 x0 o0 o1 b0
   have r0 := twoCells HD30.o.thr.two; have x0 := dsFrozen HD30.o.ds; obtain ⟨o0, o1⟩ := psCells HD30.o; have b0 := psBox HD30.o
   have y0 := thrCells HD30.o.thr
   go_wp2
   have HT9 := qQ (HD30.o.thr.ans ⟨f0, 0, f2, 0, 0, 0, 3⟩)
   have HR9 := qQ (R_ans HR30.o HD30.o.thr ⟨f0, 0, f2, 0, 0, 0, 3⟩)
   simp only [fwd]
   refine bodyPost_ret (results_tc rfl _ _ (w.heap.size + 1 + 1) 66 _ (0, 0) _ rfl HT9.o.h2 Tryz.underlying66 rfl (by kernel_rfl)) rfl ?_
   exact ⟨_, rfl, HR9.o, HT9.o.two.hb⟩
end Go.Proofs.YthoeodjgfelkhaaGreat.QT
