/- Part 14 of the claim on TopWakes: deq.Step; event, inject, deque's Step. No condition. -/
import Derived.Test.YthoeodjgfelkhaaGreatm13
set_option linter.unusedVariables false
set_option linter.unusedSimpArgs false
set_option maxRecDepth 100000
set_option maxHeartbeats 8000000
namespace Go.Proofs.YthoeodjgfelkhaaGreat.QT
open Go.RowKit Go.Proofs.YthoeodjgfelkhaaGreatW.PrintWords Go.Proofs.YthoeodjgfelkhaaGreatW.PrintLast Go.Proofs.YthoeodjgfelkhaaGreatW.PrintMore
attribute [local go_sem] max2_int min2_int max_two min_two
theorem clone54' (A : Option Addr) (c : Nat) (l : List Int) (w : World) (hc : Kd.C (Kd.int .u64) w A l.length l) (hn : l.length ≤ 1000000) :
  Calls Tryz.prog 54 #[.slice A l.length c] w fun e w' => ∃ v, e = .returned v ∧ (Kd.int .u64).R 38 w' w.heap.size (fun _ => True) v l ∧ Below w.heap.size w w' :=
 (clone54 A c l w hc hn).mono fun _ _ ⟨v, he, hr, hb⟩ => ⟨v, he, Kd.R_imp rfl (fun _ _ _ _ _ h => h) hr, hb⟩
structure DS (w : World) (c : Cf) (f z : S66) (v : Value) (l : List Int) (W : World) : Prop where
 thr : Thr w c f z W
 hr : (Kd.int .u64).R 38 W w.heap.size (fun _ => True) v l
section
variable {w : World} {c : Cf} {f z : S66} {v : Value} {l : List Int} {W W1 : World}
theorem DS.below (h : DS w c f z v l W) (hb : Below W.heap.size W W1) : DS w c f z v l W1 := ⟨h.thr.below hb, Kd.R_below h.hr hb⟩
theorem DS.drew (h : DS w c f z v l W) : DS w c f z v l W.drew := ⟨h.thr.drew, Kd.R_drew h.hr⟩
theorem DS.new (h : DS w c f z v l W) {v' : Value} {l' : List Int} (hb : Below W.heap.size W W1) (hr : (Kd.int .u64).R 38 W1 W.heap.size (fun _ => True) v' l') : DS w c f z v' l' W1 := ⟨h.thr.below hb, Kd.R_lower hr h.thr.two.hb.size⟩
theorem DS.setR (h : DS w c f z v l W) (i : Nat) (u : Value) : (Kd.int .u64).R 38 (W.setCell ⟨w.heap.size + 1, i, none⟩ u) w.heap.size (fun _ => True) v l :=
 Kd.R_set h.hr h.thr.two.h1 (fun q hq => by rcases List.mem_cons.1 hq with rfl | hq; decide; cases hq) i u
theorem Thr.put (h : Thr w c f z W) (i : Nat) (u : Value) (f' : S66) (hf : (W.setCell ⟨w.heap.size + 1, i, none⟩ u).heap[w.heap.size + 1]? = some (.cells #[.int .i64 f'.f0, .int .i64 f'.f1, .int .i64 f'.f2, .int .u64 f'.f3, .int .u64 f'.f4, .int .u64 f'.f5, .int .i64 f'.f6] 66 (0, 0))) : Thr w c f' z (W.setCell ⟨w.heap.size + 1, i, none⟩ u) :=
 ⟨⟨h.two.hb.setCell (p := ⟨w.heap.size + 1, i, none⟩) (by show w.heap.size ≤ w.heap.size + 1; omega) u, blk_far h.two.h0 (by show w.heap.size ≠ w.heap.size + 1; omega) u, hf⟩, blk_far h.h2 (by show w.heap.size + 1 + 1 ≠ w.heap.size + 1; omega) u⟩
theorem DS.f0 (h : DS w c f z v l W) (x : Int) : DS w c { f with f0 := x } z v l (W.setCell ⟨w.heap.size + 1, 0, none⟩ (.int .i64 x)) := ⟨h.thr.put 0 _ _ (by simpa using blk_set h.thr.two.h1 0 (.int .i64 x)), h.setR _ _⟩
theorem DS.f1 (h : DS w c f z v l W) (x : Int) : DS w c { f with f1 := x } z v l (W.setCell ⟨w.heap.size + 1, 1, none⟩ (.int .i64 x)) := ⟨h.thr.put 1 _ _ (by simpa using blk_set h.thr.two.h1 1 (.int .i64 x)), h.setR _ _⟩
theorem DS.f2 (h : DS w c f z v l W) (x : Int) : DS w c { f with f2 := x } z v l (W.setCell ⟨w.heap.size + 1, 2, none⟩ (.int .i64 x)) := ⟨h.thr.put 2 _ _ (by simpa using blk_set h.thr.two.h1 2 (.int .i64 x)), h.setR _ _⟩
theorem DS.f3 (h : DS w c f z v l W) (x : Int) : DS w c { f with f3 := x } z v l (W.setCell ⟨w.heap.size + 1, 3, none⟩ (.int .u64 x)) := ⟨h.thr.put 3 _ _ (by simpa using blk_set h.thr.two.h1 3 (.int .u64 x)), h.setR _ _⟩
theorem DS.f4 (h : DS w c f z v l W) (x : Int) : DS w c { f with f4 := x } z v l (W.setCell ⟨w.heap.size + 1, 4, none⟩ (.int .u64 x)) := ⟨h.thr.put 4 _ _ (by simpa using blk_set h.thr.two.h1 4 (.int .u64 x)), h.setR _ _⟩
theorem DS.f5 (h : DS w c f z v l W) (x : Int) : DS w c { f with f5 := x } z v l (W.setCell ⟨w.heap.size + 1, 5, none⟩ (.int .u64 x)) := ⟨h.thr.put 5 _ _ (by simpa using blk_set h.thr.two.h1 5 (.int .u64 x)), h.setR _ _⟩
theorem DS.f6 (h : DS w c f z v l W) (x : Int) : DS w c { f with f6 := x } z v l (W.setCell ⟨w.heap.size + 1, 6, none⟩ (.int .i64 x)) := ⟨h.thr.put 6 _ _ (by simpa using blk_set h.thr.two.h1 6 (.int .i64 x)), h.setR _ _⟩
theorem DS.fr (h : DS w c f z v l W) (f' : S66) : DS w c f' z v l (((((((W.setCell ⟨w.heap.size + 1, 0, none⟩ (.int .i64 f'.f0)).setCell ⟨w.heap.size + 1, 1, none⟩ (.int .i64 f'.f1)).setCell ⟨w.heap.size + 1, 2, none⟩ (.int .i64 f'.f2)).setCell ⟨w.heap.size + 1, 3, none⟩ (.int .u64 f'.f3)).setCell ⟨w.heap.size + 1, 4, none⟩ (.int .u64 f'.f4)).setCell ⟨w.heap.size + 1, 5, none⟩ (.int .u64 f'.f5)).setCell ⟨w.heap.size + 1, 6, none⟩ (.int .i64 f'.f6)) :=
 ((((((h.f0 f'.f0).f1 f'.f1).f2 f'.f2).f3 f'.f3).f4 f'.f4).f5 f'.f5).f6 f'.f6
theorem dsFrozen (h : DS w c f z v l W) : (∀ i, W.frozen? ⟨w.heap.size + 1, i, none⟩ = false) := fun i => blk_frozen h.thr.two.h1 i
theorem DS.start (w : World) (c : Cf) (f : S66) : DS w c f ⟨0, 0, 0, 0, 0, 0, 0⟩ (.slice none 0 0) [] (((w.alloc (.cells #[.int .i64 c.w, .int .i64 c.d, .int .i64 c.i, .int .i64 c.s] 23)).alloc (.cells #[.int .i64 f.f0, .int .i64 f.f1, .int .i64 f.f2, .int .u64 f.f3, .int .u64 f.f4, .int .u64 f.f5, .int .i64 f.f6] 66)).alloc (.cells #[.int .i64 0, .int .i64 0, .int .i64 0, .int .u64 0, .int .u64 0, .int .u64 0, .int .i64 0] 66)) := ⟨Thr.start w c f, Kd.R_nil _ _ _ _ _⟩
end
def fullF (c : Cf) (x : Int) : Int := IntKind.u64.wrap (freeF c x + 1)
theorem full_some (c : Cf) (x : Int) (hz : ¬ IntKind.u64.wrap c.i = 0) : deq_full.f c.w c.d c.i c.s x = some (fullF c x) := by
 unfold deq_full.f fullF freeF
 rw [if_neg hz]
theorem deq_step (A : Option Addr) (cp : Nat) (c : Cf) (f f' : S66) (l l' : List Int) (w : World) (hC : Kd.C (Kd.int .u64) w A l.length l) (hcp : l.length ≤ cp) (hn : l.length ≤ 1000000)
  (hk : (goesE c l.length f 4 = false ∧ l = l' ∧ f = f') ∨ (goesE c l.length f 4 = true ∧ ((f.f1 = 0 ∧ l = l' ∧ f' = { f with f4 := loadF l 4, f1 := 1 }) ∨ (f.f1 = 1 ∧ ∃ p, lay_Seq.f c.w c.d c.i c.s f.f4 = some p ∧ ¬ IntKind.u64.wrap c.i = 0 ∧ l = l' ∧ f' = (if wrap64 (IntKind.u64.wrap (loadF l p - fullF c f.f4)) = 0 then { f with f5 := loadF l p, f1 := 2 } else if wrap64 (IntKind.u64.wrap (loadF l p - fullF c f.f4)) < 0 then (⟨f.f0, 0, f.f2, 0, 0, 0, 3⟩ : S66) else { f with f5 := loadF l p, f1 := 0 })) ∨ (f.f1 = 2 ∧ ∃ b, casF l 4 f.f4 (IntKind.u64.wrap (f.f4 + 1)) = (l', b) ∧ f' = { f with f1 := if b = true then 3 else 0 }) ∨ (f.f1 = 3 ∧ ∃ p, lay_Val.f c.w c.d c.i c.s f.f4 = some p ∧ l = l' ∧ f' = { f with f3 := loadF l p, f1 := 4 }) ∨ (f.f1 = 4 ∧ ∃ p, lay_Seq.f c.w c.d c.i c.s f.f4 = some p ∧ ¬ IntKind.u64.wrap c.i = 0 ∧ l' = storeF l p (IntKind.u64.wrap (fullF c f.f4 + 1)) ∧ f' = ⟨f.f0, 0, f.f2, f.f3, 0, 0, 1⟩)))) :
  Calls Tryz.prog 122 #[cfV c, .slice A l.length cp, frV f] w fun e w' => ∃ v, e = .returned (.tuple #[v, frV f']) ∧ (Kd.int .u64).R 38 w' w.heap.size (fun _ => True) v l' ∧ Below w.heap.size w w' := by
 obtain ⟨f0, f1, f2, f3, f4, f5, f6⟩ := f
 have HD0 := qQ (DS.start w c ⟨f0, f1, f2, f3, f4, f5, f6⟩)
 dsimp only at HD0
 have HC := qQ (Kd.C_below hC HD0.o.thr.two.hb)
 have HCP := qQ hcp
 have HN := qQ hn
 clear hC hcp hn
 dsimp only at hk
 rcases hk with ⟨hg, rfl, rfl⟩ | ⟨hg, ⟨rfl, rfl, rfl⟩ | ⟨rfl, p, hp, hz, rfl, hf⟩ | ⟨rfl, b, hq, hf⟩ | ⟨rfl, p, hp, rfl, rfl⟩ | ⟨rfl, p, hp, hz, rfl, rfl⟩⟩
 ·
  go_enter Tryz.func122, Tryz.ntmps122
  have r0 := twoCells HD0.o.thr.two; have x0 := dsFrozen HD0.o
  go_wp2_with (first | (go_at_call 54; with_reducible refine (clone54' A cp l _ HC.o HN.o).mono ?_; rintro e w1 ⟨u1, rfl, hr, hd⟩; obtain ⟨A1, c1, eo⟩ := Kd.R_slice hr; subst eo; have HCP1 := qQ (Kd.R_reads' hr).2.1; have HD1 := qQ (HD0.o.new hd hr); clear hr hd; clear r0 x0; have r0 := twoCells HD1.o.thr.two; have x0 := dsFrozen HD1.o) | (go_at_call 145; with_reducible refine (enq_goes A cp l.length c ⟨f0, _, f2, f3, f4, f5, f6⟩ 4 _).mono ?_; rintro e w2 ⟨rfl, hd⟩; have HD2 := qQ (HD1.o.below (hd)); clear hd; clear r0 x0; have r0 := twoCells HD2.o.thr.two; have x0 := dsFrozen HD2.o))
  refine zS 4 [3] (fun W' => Two w c ⟨f0, f1, f2, f3, f4, f5, f6⟩ W') HD2.o.drew.thr.two fun hHeld => ?_
  refine zY 0 1 18 ?_
  refine zT 1 3 19 ?_ (hy := zy6)
  refine zY 2 7 6 ?_
  refine zL 3 15 fun K hK => ?_
  have y0 := thrCells HD2.o.thr
  go_simp
  refine hK.out _ _ ?_
  refine zD ?_
  have HT9 := qQ (HD2.o.thr.ans ⟨f0, f1, f2, f3, f4, f5, f6⟩).drew
  have HR9 := qQ (Kd.R_drew (R_ans HD2.o.hr HD2.o.thr ⟨f0, f1, f2, f3, f4, f5, f6⟩))
  clear hHeld y0
  go_wp2
  refine bodyPost_ret (results_tc rfl _ _ (w.heap.size + 1 + 1) 66 _ (0, 0) _ rfl HT9.o.h2 Tryz.underlying66 rfl (by kernel_rfl)) rfl ?_
  exact ⟨_, rfl, HR9.o, HT9.o.two.hb⟩
 ·
  go_enter Tryz.func122, Tryz.ntmps122
  have r0 := twoCells HD0.o.thr.two; have x0 := dsFrozen HD0.o
  go_wp2_with (first | (go_at_call 54; with_reducible refine (clone54' A cp l _ HC.o HN.o).mono ?_; rintro e w3 ⟨u3, rfl, hr, hd⟩; obtain ⟨A3, c3, eo⟩ := Kd.R_slice hr; subst eo; have HCP3 := qQ (Kd.R_reads' hr).2.1; have HD3 := qQ (HD0.o.new hd hr); clear hr hd; clear r0 x0; have r0 := twoCells HD3.o.thr.two; have x0 := dsFrozen HD3.o) | (go_at_call 145; with_reducible refine (enq_goes A cp l.length c ⟨f0, _, f2, f3, f4, f5, f6⟩ 4 _).mono ?_; rintro e w4 ⟨rfl, hd⟩; have HD4 := qQ (HD3.o.below (hd)); clear hd; clear r0 x0; have r0 := twoCells HD4.o.thr.two; have x0 := dsFrozen HD4.o) | (go_at_call 7; with_reducible refine (Load_calls _ _ l 4 _ (Kd.R_reads' HD4.o.hr).2.2 HCP3.o).mono ?_; rintro e w5 ⟨rfl, hd⟩; have HD5 := qQ (HD4.o.below (hd.below)); clear hd; clear r0 x0; have r0 := twoCells HD5.o.thr.two; have x0 := dsFrozen HD5.o))
  have hs6 := (HD5.o.f4 (loadF l 4)).f1 (1)
  generalize ((w5).setCell ⟨w.heap.size + 1, 4, none⟩ (.int .u64 (loadF l 4))).setCell ⟨w.heap.size + 1, 1, none⟩ (.int .i64 (1)) = w6 at hs6 ⊢
  have HD6 := qQ hs6
  clear hs6
  clear r0 x0
  have r0 := twoCells HD6.o.thr.two; have x0 := dsFrozen HD6.o
  refine zS 4 [3] (fun W' => Two w c ⟨f0, 1, f2, f3, loadF l 4, f5, f6⟩ W') HD6.o.drew.thr.two fun hHeld => ?_
  refine zY 0 1 92 ?_
  refine zT 1 3 93 ?_ (hy := zy6)
  refine zY 2 7 6 ?_
  refine zL 3 15 fun K hK => ?_
  have y0 := thrCells HD6.o.thr
  go_simp
  refine hK.out _ _ ?_
  refine zD ?_
  have HT9 := qQ (HD6.o.thr.ans ⟨f0, 1, f2, f3, loadF l 4, f5, f6⟩).drew
  have HR9 := qQ (Kd.R_drew (R_ans HD6.o.hr HD6.o.thr ⟨f0, 1, f2, f3, loadF l 4, f5, f6⟩))
  clear hHeld y0
  go_wp2
  refine bodyPost_ret (results_tc rfl _ _ (w.heap.size + 1 + 1) 66 _ (0, 0) _ rfl HT9.o.h2 Tryz.underlying66 rfl (by kernel_rfl)) rfl ?_
  exact ⟨_, rfl, HR9.o, HT9.o.two.hb⟩
 ·have HP := qQ hp
  have HZ := qQ hz
  have HF := qQ hf
  clear hp hz hf
  go_enter Tryz.func122, Tryz.ntmps122
  have r0 := twoCells HD0.o.thr.two; have x0 := dsFrozen HD0.o
  go_wp2_with (first | (go_at_call 54; with_reducible refine (clone54' A cp l _ HC.o HN.o).mono ?_; rintro e w7 ⟨u7, rfl, hr, hd⟩; obtain ⟨A7, c7, eo⟩ := Kd.R_slice hr; subst eo; have HCP7 := qQ (Kd.R_reads' hr).2.1; have HD7 := qQ (HD0.o.new hd hr); clear hr hd; clear r0 x0; have r0 := twoCells HD7.o.thr.two; have x0 := dsFrozen HD7.o) | (go_at_call 145; with_reducible refine (enq_goes A cp l.length c ⟨f0, _, f2, f3, f4, f5, f6⟩ 4 _).mono ?_; rintro e w8 ⟨rfl, hd⟩; have HD8 := qQ (HD7.o.below (hd)); clear hd; clear r0 x0; have r0 := twoCells HD8.o.thr.two; have x0 := dsFrozen HD8.o) | (go_at_call 152; with_reducible refine (lay_Seq.calls c.w c.d c.i c.s f4 p _ HP.o).mono ?_; rintro e w9 ⟨rfl, hd⟩; have HD9 := qQ (HD8.o.below (hd)); clear hd; clear r0 x0; have r0 := twoCells HD9.o.thr.two; have x0 := dsFrozen HD9.o) | (go_at_call 7; with_reducible refine (Load_calls _ _ l p _ (Kd.R_reads' HD9.o.hr).2.2 HCP7.o).mono ?_; rintro e w10 ⟨rfl, hd⟩; have HD10 := qQ (HD9.o.below (hd.below)); clear hd; clear r0 x0; have r0 := twoCells HD10.o.thr.two; have x0 := dsFrozen HD10.o))
  have hs11 := (HD10.o.f5 (loadF l p)).f1 (0)
  generalize ((w10).setCell ⟨w.heap.size + 1, 5, none⟩ (.int .u64 (loadF l p))).setCell ⟨w.heap.size + 1, 1, none⟩ (.int .i64 (0)) = w11 at hs11 ⊢
  have HD11 := qQ hs11
  clear hs11
  clear r0 x0
  have r0 := twoCells HD11.o.thr.two; have x0 := dsFrozen HD11.o
  refine zS 8 [] (fun W' => Two w c ⟨f0, 0, f2, f3, f4, loadF l p, f6⟩ W') HD11.o.drew.thr.two fun hHeld => ?_
  refine zY 0 1 53 ?_
  refine zT 1 3 54 ?_ (hy := zy6)
  refine zT 2 7 55 ?_ (hy := zy6)
  refine zY 3 15 56 ?_
  refine zT 4 31 57 ?_ (hy := zy6)
  refine zO 5 63 58 fun K hK => ?_
  go_simp
  refine (deq_full.calls c.w c.d c.i c.s f4 _ _ (full_some c f4 HZ.o)).mono ?_
  rintro e w12 ⟨rfl, hd⟩
  have HD12 := qQ ((HD11.o.drew).below (hd))
  clear hd
  refine hK.out _ _ HD12.o.thr.two (fun hHeld => ?_)
  refine zO 6 127 59 fun K hK => ?_
  go_simp
  refine (word_Far.calls (loadF l p) (fullF c f4) _ _ rfl).mono ?_
  rintro e w13 ⟨rfl, hd⟩
  have HD13 := qQ (HD12.o.below (hd.below))
  clear hd
  refine hK.out _ _ HD13.o.thr.two (fun hHeld => ?_)
  refine zY 7 255 9 ?_
  refine zD ?_
  clear r0 x0
  have r0 := twoCells HD13.o.thr.two; have x0 := dsFrozen HD13.o
  have hf2 := HF.o
  by_cases hc : wrap64 (IntKind.u64.wrap (loadF l p - fullF c f4)) = 0
  ·rw [if_pos hc] at hf2
   subst hf2
   go_wp2
   have hs14 := HD13.o.f1 (2)
   generalize (w13).setCell ⟨w.heap.size + 1, 1, none⟩ (.int .i64 (2)) = w14 at hs14 ⊢
   have HD14 := qQ hs14
   clear hs14
   clear r0 x0
   have r0 := twoCells HD14.o.thr.two; have x0 := dsFrozen HD14.o
   refine zS 4 [3] (fun W' => Two w c ⟨f0, 2, f2, f3, f4, loadF l p, f6⟩ W') HD14.o.drew.thr.two fun hHeld => ?_
   refine zY 0 1 92 ?_
   refine zT 1 3 93 ?_ (hy := zy6)
   refine zY 2 7 6 ?_
   refine zL 3 15 fun K hK => ?_
   have y0 := thrCells HD14.o.thr
   go_simp
   refine hK.out _ _ ?_
   refine zD ?_
   have HT9 := qQ (HD14.o.thr.ans ⟨f0, 2, f2, f3, f4, loadF l p, f6⟩).drew
   have HR9 := qQ (Kd.R_drew (R_ans HD14.o.hr HD14.o.thr ⟨f0, 2, f2, f3, f4, loadF l p, f6⟩))
   clear hHeld y0
   go_wp2
   refine bodyPost_ret (results_tc rfl _ _ (w.heap.size + 1 + 1) 66 _ (0, 0) _ rfl HT9.o.h2 Tryz.underlying66 rfl (by kernel_rfl)) rfl ?_
   exact ⟨_, rfl, HR9.o, HT9.o.two.hb⟩
  ·rw [if_neg hc] at hf2
   by_cases hc2 : wrap64 (IntKind.u64.wrap (loadF l p - fullF c f4)) < 0
   ·rw [if_pos hc2] at hf2
    subst hf2
    go_wp2_with (first | (go_at_call 142; with_reducible refine (frame_End.calls f0 0 f2 f3 f4 (loadF l p) f6 3 0 _ _ _ _ _ _ _ _ rfl).mono ?_; rintro e w15 ⟨rfl, hd⟩; have HD15 := qQ (HD13.o.below (hd)); clear hd; clear r0 x0; have r0 := twoCells HD15.o.thr.two; have x0 := dsFrozen HD15.o))
    have HD16 := qQ (HD15.o.fr ⟨f0, 0, f2, 0, 0, 0, 3⟩)
    have hs17 := HD16.o
    generalize (((((((w15).setCell ⟨w.heap.size + 1, 0, none⟩ (.int .i64 (f0))).setCell ⟨w.heap.size + 1, 1, none⟩ (.int .i64 (0))).setCell ⟨w.heap.size + 1, 2, none⟩ (.int .i64 (f2))).setCell ⟨w.heap.size + 1, 3, none⟩ (.int .u64 (0))).setCell ⟨w.heap.size + 1, 4, none⟩ (.int .u64 (0))).setCell ⟨w.heap.size + 1, 5, none⟩ (.int .u64 (0))).setCell ⟨w.heap.size + 1, 6, none⟩ (.int .i64 (3)) = w17 at hs17 ⊢
    have HD17 := qQ hs17
    clear hs17
    clear r0 x0
    have r0 := twoCells HD17.o.thr.two; have x0 := dsFrozen HD17.o
    refine zS 4 [3] (fun W' => Two w c ⟨f0, 0, f2, 0, 0, 0, 3⟩ W') HD17.o.drew.thr.two fun hHeld => ?_
    refine zY 0 1 92 ?_
    refine zT 1 3 93 ?_ (hy := zy6)
    refine zY 2 7 6 ?_
    refine zL 3 15 fun K hK => ?_
    have y0 := thrCells HD17.o.thr
    go_simp
    refine hK.out _ _ ?_
    refine zD ?_
    have HT9 := qQ (HD17.o.thr.ans ⟨f0, 0, f2, 0, 0, 0, 3⟩).drew
    have HR9 := qQ (Kd.R_drew (R_ans HD17.o.hr HD17.o.thr ⟨f0, 0, f2, 0, 0, 0, 3⟩))
    clear hHeld y0
    go_wp2
    refine bodyPost_ret (results_tc rfl _ _ (w.heap.size + 1 + 1) 66 _ (0, 0) _ rfl HT9.o.h2 Tryz.underlying66 rfl (by kernel_rfl)) rfl ?_
    exact ⟨_, rfl, HR9.o, HT9.o.two.hb⟩
   ·rw [if_neg hc2] at hf2
    subst hf2
    go_wp2
    refine zS 4 [3] (fun W' => Two w c ⟨f0, 0, f2, f3, f4, loadF l p, f6⟩ W') HD13.o.drew.thr.two fun hHeld => ?_
    refine zY 0 1 92 ?_
    refine zT 1 3 93 ?_ (hy := zy6)
    refine zY 2 7 6 ?_
    refine zL 3 15 fun K hK => ?_
    have y0 := thrCells HD13.o.thr
    go_simp
    refine hK.out _ _ ?_
    refine zD ?_
    have HT9 := qQ (HD13.o.thr.ans ⟨f0, 0, f2, f3, f4, loadF l p, f6⟩).drew
    have HR9 := qQ (Kd.R_drew (R_ans HD13.o.hr HD13.o.thr ⟨f0, 0, f2, f3, f4, loadF l p, f6⟩))
    clear hHeld y0
    go_wp2
    refine bodyPost_ret (results_tc rfl _ _ (w.heap.size + 1 + 1) 66 _ (0, 0) _ rfl HT9.o.h2 Tryz.underlying66 rfl (by kernel_rfl)) rfl ?_
    exact ⟨_, rfl, HR9.o, HT9.o.two.hb⟩
 ·have HQ := qQ hq
  have HF := qQ hf
  clear hq hf
  have CAS : ∀ (A : Option Addr) (cp : Nat) (W : World), Kd.C (Kd.int .u64) W A l.length l → l.length ≤ cp → Calls Tryz.prog 140 #[.slice A l.length cp, .int .i64 4, .int .u64 f4, .int .u64 (IntKind.u64.wrap (f4 + 1))] W fun e w' => ∃ u, e = .returned (.tuple #[u, .bool b]) ∧ (Kd.int .u64).R 38 w' W.heap.size (fun _ => True) u l' ∧ Below W.heap.size W w' := fun A cp W h1 h2 => by
   have h := cas140 A cp l 4 f4 (IntKind.u64.wrap (f4 + 1)) W h1 h2 HN.o
   rw [HQ.o] at h
   exact h
  have HCAS := qQ CAS
  clear CAS
  go_enter Tryz.func122, Tryz.ntmps122
  have r0 := twoCells HD0.o.thr.two; have x0 := dsFrozen HD0.o
  go_wp2_with (first | (go_at_call 54; with_reducible refine (clone54' A cp l _ HC.o HN.o).mono ?_; rintro e w18 ⟨u18, rfl, hr, hd⟩; obtain ⟨A18, c18, eo⟩ := Kd.R_slice hr; subst eo; have HCP18 := qQ (Kd.R_reads' hr).2.1; have HD18 := qQ (HD0.o.new hd hr); clear hr hd; clear r0 x0; have r0 := twoCells HD18.o.thr.two; have x0 := dsFrozen HD18.o) | (go_at_call 145; with_reducible refine (enq_goes A cp l.length c ⟨f0, _, f2, f3, f4, f5, f6⟩ 4 _).mono ?_; rintro e w19 ⟨rfl, hd⟩; have HD19 := qQ (HD18.o.below (hd)); clear hd; clear r0 x0; have r0 := twoCells HD19.o.thr.two; have x0 := dsFrozen HD19.o))
  have HDS := qQ (HD19.o.f1 0)
  refine (HCAS.o _ _ _ (Kd.R_reads' HDS.o.hr).2.2 HCP18.o).mono ?_
  rintro e w20 ⟨u20, rfl, hr, hd⟩
  obtain ⟨A20, c20, eo⟩ := Kd.R_slice hr
  subst eo
  have HD20 := qQ (HDS.o.new hd hr)
  clear hr hd
  clear r0 x0
  have r0 := twoCells HD20.o.thr.two; have x0 := dsFrozen HD20.o
  have hf2 := HF.o
  cases b with
  | true =>
   simp only [if_true] at hf2
   subst hf2
   go_wp2
   have hs21 := HD20.o.f1 (3)
   generalize (w20).setCell ⟨w.heap.size + 1, 1, none⟩ (.int .i64 (3)) = w21 at hs21 ⊢
   have HD21 := qQ hs21
   clear hs21
   clear r0 x0
   have r0 := twoCells HD21.o.thr.two; have x0 := dsFrozen HD21.o
   refine zS 4 [3] (fun W' => Two w c ⟨f0, 3, f2, f3, f4, f5, f6⟩ W') HD21.o.drew.thr.two fun hHeld => ?_
   refine zY 0 1 92 ?_
   refine zT 1 3 93 ?_ (hy := zy6)
   refine zY 2 7 6 ?_
   refine zL 3 15 fun K hK => ?_
   have y0 := thrCells HD21.o.thr
   go_simp
   refine hK.out _ _ ?_
   refine zD ?_
   have HT9 := qQ (HD21.o.thr.ans ⟨f0, 3, f2, f3, f4, f5, f6⟩).drew
   have HR9 := qQ (Kd.R_drew (R_ans HD21.o.hr HD21.o.thr ⟨f0, 3, f2, f3, f4, f5, f6⟩))
   clear hHeld y0
   go_wp2
   refine bodyPost_ret (results_tc rfl _ _ (w.heap.size + 1 + 1) 66 _ (0, 0) _ rfl HT9.o.h2 Tryz.underlying66 rfl (by kernel_rfl)) rfl ?_
   exact ⟨_, rfl, HR9.o, HT9.o.two.hb⟩
  | false =>
   simp only [Bool.false_eq_true, if_false] at hf2
   subst hf2
   go_wp2
   refine zS 4 [3] (fun W' => Two w c ⟨f0, 0, f2, f3, f4, f5, f6⟩ W') HD20.o.drew.thr.two fun hHeld => ?_
   refine zY 0 1 92 ?_
   refine zT 1 3 93 ?_ (hy := zy6)
   refine zY 2 7 6 ?_
   refine zL 3 15 fun K hK => ?_
   have y0 := thrCells HD20.o.thr
   go_simp
   refine hK.out _ _ ?_
   refine zD ?_
   have HT9 := qQ (HD20.o.thr.ans ⟨f0, 0, f2, f3, f4, f5, f6⟩).drew
   have HR9 := qQ (Kd.R_drew (R_ans HD20.o.hr HD20.o.thr ⟨f0, 0, f2, f3, f4, f5, f6⟩))
   clear hHeld y0
   go_wp2
   refine bodyPost_ret (results_tc rfl _ _ (w.heap.size + 1 + 1) 66 _ (0, 0) _ rfl HT9.o.h2 Tryz.underlying66 rfl (by kernel_rfl)) rfl ?_
   exact ⟨_, rfl, HR9.o, HT9.o.two.hb⟩
 ·have HP := qQ hp
  clear hp
  go_enter Tryz.func122, Tryz.ntmps122
  have r0 := twoCells HD0.o.thr.two; have x0 := dsFrozen HD0.o
  go_wp2_with (first | (go_at_call 54; with_reducible refine (clone54' A cp l _ HC.o HN.o).mono ?_; rintro e w22 ⟨u22, rfl, hr, hd⟩; obtain ⟨A22, c22, eo⟩ := Kd.R_slice hr; subst eo; have HCP22 := qQ (Kd.R_reads' hr).2.1; have HD22 := qQ (HD0.o.new hd hr); clear hr hd; clear r0 x0; have r0 := twoCells HD22.o.thr.two; have x0 := dsFrozen HD22.o) | (go_at_call 145; with_reducible refine (enq_goes A cp l.length c ⟨f0, _, f2, f3, f4, f5, f6⟩ 4 _).mono ?_; rintro e w23 ⟨rfl, hd⟩; have HD23 := qQ (HD22.o.below (hd)); clear hd; clear r0 x0; have r0 := twoCells HD23.o.thr.two; have x0 := dsFrozen HD23.o) | (go_at_call 154; with_reducible refine (lay_Val.calls c.w c.d c.i c.s f4 p _ HP.o).mono ?_; rintro e w24 ⟨rfl, hd⟩; have HD24 := qQ (HD23.o.below (hd)); clear hd; clear r0 x0; have r0 := twoCells HD24.o.thr.two; have x0 := dsFrozen HD24.o) | (go_at_call 7; with_reducible refine (Load_calls _ _ l p _ (Kd.R_reads' HD24.o.hr).2.2 HCP22.o).mono ?_; rintro e w25 ⟨rfl, hd⟩; have HD25 := qQ (HD24.o.below (hd.below)); clear hd; clear r0 x0; have r0 := twoCells HD25.o.thr.two; have x0 := dsFrozen HD25.o))
  have hs26 := (HD25.o.f3 (loadF l p)).f1 (4)
  generalize ((w25).setCell ⟨w.heap.size + 1, 3, none⟩ (.int .u64 (loadF l p))).setCell ⟨w.heap.size + 1, 1, none⟩ (.int .i64 (4)) = w26 at hs26 ⊢
  have HD26 := qQ hs26
  clear hs26
  clear r0 x0
  have r0 := twoCells HD26.o.thr.two; have x0 := dsFrozen HD26.o
  refine zS 4 [3] (fun W' => Two w c ⟨f0, 4, f2, loadF l p, f4, f5, f6⟩ W') HD26.o.drew.thr.two fun hHeld => ?_
  refine zY 0 1 92 ?_
  refine zT 1 3 93 ?_ (hy := zy6)
  refine zY 2 7 6 ?_
  refine zL 3 15 fun K hK => ?_
  have y0 := thrCells HD26.o.thr
  go_simp
  refine hK.out _ _ ?_
  refine zD ?_
  have HT9 := qQ (HD26.o.thr.ans ⟨f0, 4, f2, loadF l p, f4, f5, f6⟩).drew
  have HR9 := qQ (Kd.R_drew (R_ans HD26.o.hr HD26.o.thr ⟨f0, 4, f2, loadF l p, f4, f5, f6⟩))
  clear hHeld y0
  go_wp2
  refine bodyPost_ret (results_tc rfl _ _ (w.heap.size + 1 + 1) 66 _ (0, 0) _ rfl HT9.o.h2 Tryz.underlying66 rfl (by kernel_rfl)) rfl ?_
  exact ⟨_, rfl, HR9.o, HT9.o.two.hb⟩
 ·have HP := qQ hp
  have HZ := qQ hz
  clear hp hz
  go_enter Tryz.func122, Tryz.ntmps122
  have r0 := twoCells HD0.o.thr.two; have x0 := dsFrozen HD0.o
  go_wp2_with (first | (go_at_call 54; with_reducible refine (clone54' A cp l _ HC.o HN.o).mono ?_; rintro e w27 ⟨u27, rfl, hr, hd⟩; obtain ⟨A27, c27, eo⟩ := Kd.R_slice hr; subst eo; have HCP27 := qQ (Kd.R_reads' hr).2.1; have HD27 := qQ (HD0.o.new hd hr); clear hr hd; clear r0 x0; have r0 := twoCells HD27.o.thr.two; have x0 := dsFrozen HD27.o) | (go_at_call 145; with_reducible refine (enq_goes A cp l.length c ⟨f0, _, f2, f3, f4, f5, f6⟩ 4 _).mono ?_; rintro e w28 ⟨rfl, hd⟩; have HD28 := qQ (HD27.o.below (hd)); clear hd; clear r0 x0; have r0 := twoCells HD28.o.thr.two; have x0 := dsFrozen HD28.o))
  refine zS 12 [] (fun W' => Two w c ⟨f0, 4, f2, f3, f4, f5, f6⟩ W') HD28.o.drew.thr.two fun hHeld => ?_
  refine zY 0 1 22 ?_
  refine zT 1 3 23 ?_ (hy := zy6)
  refine zY 2 7 24 ?_
  refine zT 3 15 25 ?_ (hy := zy6)
  refine zT 5 47 27 ?_ (hy := zy6)
  refine zY 6 111 28 ?_
  refine zT 7 239 29 ?_ (hy := zy6)
  refine zO 4 255 26 fun K hK => ?_
  go_simp
  refine (lay_Seq.calls c.w c.d c.i c.s f4 p _ HP.o).mono ?_
  rintro e w29 ⟨rfl, hd⟩
  have HD29 := qQ ((HD28.o.drew).below (hd))
  clear hd
  refine hK.out _ _ HD29.o.thr.two (fun hHeld => ?_)
  refine zO 8 511 30 fun K hK => ?_
  go_simp
  refine (deq_full.calls c.w c.d c.i c.s f4 _ _ (full_some c f4 HZ.o)).mono ?_
  rintro e w30 ⟨rfl, hd⟩
  have HD30 := qQ (HD29.o.below (hd))
  clear hd
  refine hK.out _ _ HD30.o.thr.two (fun hHeld => ?_)
  refine zY 9 1023 31 ?_
  refine zO 10 2047 32 fun K hK => ?_
  go_simp
  refine (store65 _ _ l p (IntKind.u64.wrap (fullF c f4 + 1)) _ (Kd.R_reads' HD30.o.hr).2.2 HCP27.o HN.o).mono ?_
  rintro e w31 ⟨u31, rfl, hr, hd⟩
  obtain ⟨A31, c31, eo⟩ := Kd.R_slice hr
  subst eo
  have HCP31 := qQ (Kd.R_reads' hr).2.1
  have HD31 := qQ (HD30.o.new hd hr)
  clear hr hd
  refine hK.out _ _ HD31.o.thr.two (fun hHeld => ?_)
  refine zY 11 4095 8 ?_
  refine zD ?_
  clear r0 x0
  have r0 := twoCells HD31.o.thr.two; have x0 := dsFrozen HD31.o
  go_wp2_with (first | (go_at_call 142; with_reducible refine (frame_End.calls f0 4 f2 f3 f4 f5 f6 1 f3 _ _ _ _ _ _ _ _ rfl).mono ?_; rintro e w32 ⟨rfl, hd⟩; have HD32 := qQ (HD31.o.below (hd)); clear hd; clear r0 x0; have r0 := twoCells HD32.o.thr.two; have x0 := dsFrozen HD32.o))
  have HD33 := qQ (HD32.o.fr ⟨f0, 0, f2, f3, 0, 0, 1⟩)
  have hs34 := HD33.o
  generalize (((((((w32).setCell ⟨w.heap.size + 1, 0, none⟩ (.int .i64 (f0))).setCell ⟨w.heap.size + 1, 1, none⟩ (.int .i64 (0))).setCell ⟨w.heap.size + 1, 2, none⟩ (.int .i64 (f2))).setCell ⟨w.heap.size + 1, 3, none⟩ (.int .u64 (f3))).setCell ⟨w.heap.size + 1, 4, none⟩ (.int .u64 (0))).setCell ⟨w.heap.size + 1, 5, none⟩ (.int .u64 (0))).setCell ⟨w.heap.size + 1, 6, none⟩ (.int .i64 (1)) = w34 at hs34 ⊢
  have HD34 := qQ hs34
  clear hs34
  clear r0 x0
  have r0 := twoCells HD34.o.thr.two; have x0 := dsFrozen HD34.o
  refine zS 4 [3] (fun W' => Two w c ⟨f0, 0, f2, f3, 0, 0, 1⟩ W') HD34.o.drew.thr.two fun hHeld => ?_
  refine zY 0 1 92 ?_
  refine zT 1 3 93 ?_ (hy := zy6)
  refine zY 2 7 6 ?_
  refine zL 3 15 fun K hK => ?_
  have y0 := thrCells HD34.o.thr
  go_simp
  refine hK.out _ _ ?_
  refine zD ?_
  have HT9 := qQ (HD34.o.thr.ans ⟨f0, 0, f2, f3, 0, 0, 1⟩).drew
  have HR9 := qQ (Kd.R_drew (R_ans HD34.o.hr HD34.o.thr ⟨f0, 0, f2, f3, 0, 0, 1⟩))
  clear hHeld y0
  go_wp2
  refine bodyPost_ret (results_tc rfl _ _ (w.heap.size + 1 + 1) 66 _ (0, 0) _ rfl HT9.o.h2 Tryz.underlying66 rfl (by kernel_rfl)) rfl ?_
  exact ⟨_, rfl, HR9.o, HT9.o.two.hb⟩
def SC (fid : Nat) (w : World) (A : Option Addr) (cp : Nat) (c : Cf) (f : S66) (l : List Int) (f' : S66) (l' : List Int) : Prop :=
 ∀ W, Below w.heap.size w W → Calls Tryz.prog fid #[cfV c, .slice A l.length cp, frV f] W fun e w' => ∃ v, e = .returned (.tuple #[v, frV f']) ∧ (Kd.int .u64).R 38 w' W.heap.size (fun _ => True) v l' ∧ Below W.heap.size W w'
theorem event_step (A : Option Addr) (cp : Nat) (c : Cf) (f f' : S66) (l l' : List Int) (w : World) (hC : Kd.C (Kd.int .u64) w A l.length l) (hcp : l.length ≤ cp) (hn : l.length ≤ 1000000)
  (hk : (f.f0 = 5 ∧ SC 119 w A cp c f l f' l') ∨ ((f.f0 = 6 ∨ f.f0 = 7) ∧ SC 120 w A cp c f l f' l') ∨ (¬ f.f0 = 5 ∧ ¬ f.f0 = 6 ∧ ¬ f.f0 = 7 ∧ l' = l ∧ f' = f)) :
  Calls Tryz.prog 94 #[cfV c, .slice A l.length cp, frV f] w fun e w' => ∃ v, e = .returned (.tuple #[v, frV f']) ∧ (Kd.int .u64).R 38 w' w.heap.size (fun _ => True) v l' ∧ Below w.heap.size w w' := by
 obtain ⟨f0, f1, f2, f3, f4, f5, f6⟩ := f
 have HT0 := qQ (Thr.start w c ⟨f0, f1, f2, f3, f4, f5, f6⟩)
 have HC := qQ hC
 have HCP := qQ hcp
 have HN := qQ hn
 clear hC hcp hn
 dsimp only at hk
 rcases hk with ⟨rfl, hsc⟩ | ⟨(rfl | rfl), hsc⟩ | ⟨k0, k1, k2, e1, e2⟩
 ·unfold SC at hsc
  have HSC := qQ hsc
  clear hsc
  go_enter Tryz.func94, Tryz.ntmps94
  go_wp2_with (go_at_call 119; with_reducible refine (HSC.o _ HT0.o.two.hb).mono ?_; rintro e w4 ⟨v, rfl, hr, hb⟩; have HT4 := qQ (HT0.o.below hb); have HR4 := qQ (Kd.R_lower hr HT0.o.two.hb.size); obtain ⟨A5, c5, eo⟩ := Kd.R_slice hr; subst eo; clear hr hb; have y0 := thrCells HT4.o)
  have HT9 := qQ (HT4.o.ans f')
  have HR9 := qQ (R_ans HR4.o HT4.o f')
  refine bodyPost_ret (results_tc rfl _ _ (w.heap.size + 1 + 1) 66 #[.int .i64 f'.f0, .int .i64 f'.f1, .int .i64 f'.f2, .int .u64 f'.f3, .int .u64 f'.f4, .int .u64 f'.f5, .int .i64 f'.f6] (0, 0) _ rfl HT9.o.h2 Tryz.underlying66 rfl (by kernel_rfl)) rfl ?_
  exact ⟨_, rfl, HR9.o, HT9.o.two.hb⟩
 ·unfold SC at hsc
  have HSC := qQ hsc
  clear hsc
  go_enter Tryz.func94, Tryz.ntmps94
  go_wp2_with (go_at_call 120; with_reducible refine (HSC.o _ HT0.o.two.hb).mono ?_; rintro e w4 ⟨v, rfl, hr, hb⟩; have HT4 := qQ (HT0.o.below hb); have HR4 := qQ (Kd.R_lower hr HT0.o.two.hb.size); obtain ⟨A5, c5, eo⟩ := Kd.R_slice hr; subst eo; clear hr hb; have y0 := thrCells HT4.o)
  have HT9 := qQ (HT4.o.ans f')
  have HR9 := qQ (R_ans HR4.o HT4.o f')
  refine bodyPost_ret (results_tc rfl _ _ (w.heap.size + 1 + 1) 66 #[.int .i64 f'.f0, .int .i64 f'.f1, .int .i64 f'.f2, .int .u64 f'.f3, .int .u64 f'.f4, .int .u64 f'.f5, .int .i64 f'.f6] (0, 0) _ rfl HT9.o.h2 Tryz.underlying66 rfl (by kernel_rfl)) rfl ?_
  exact ⟨_, rfl, HR9.o, HT9.o.two.hb⟩
 ·unfold SC at hsc
  have HSC := qQ hsc
  clear hsc
  go_enter Tryz.func94, Tryz.ntmps94
  go_wp2_with (go_at_call 120; with_reducible refine (HSC.o _ HT0.o.two.hb).mono ?_; rintro e w4 ⟨v, rfl, hr, hb⟩; have HT4 := qQ (HT0.o.below hb); have HR4 := qQ (Kd.R_lower hr HT0.o.two.hb.size); obtain ⟨A5, c5, eo⟩ := Kd.R_slice hr; subst eo; clear hr hb; have y0 := thrCells HT4.o)
  have HT9 := qQ (HT4.o.ans f')
  have HR9 := qQ (R_ans HR4.o HT4.o f')
  refine bodyPost_ret (results_tc rfl _ _ (w.heap.size + 1 + 1) 66 #[.int .i64 f'.f0, .int .i64 f'.f1, .int .i64 f'.f2, .int .u64 f'.f3, .int .u64 f'.f4, .int .u64 f'.f5, .int .i64 f'.f6] (0, 0) _ rfl HT9.o.h2 Tryz.underlying66 rfl (by kernel_rfl)) rfl ?_
  exact ⟨_, rfl, HR9.o, HT9.o.two.hb⟩
 ·have e1 := e1.symm
  have e2 := e2.symm
  subst e1
  subst e2
  go_enter Tryz.func94, Tryz.ntmps94
  go_wp2
  refine zS 5 [4] (fun W' => Two w c ⟨f0, f1, f2, f3, f4, f5, f6⟩ W') HT0.o.drew.two fun hHeld => ?_
  refine zY 0 1 27 ?_
  refine zT 2 5 29 ?_ (hy := zy6)
  refine zO 1 7 28 fun K hK => ?_
  go_simp
  refine (clone54 A cp l _ (Kd.C_below HC.o HT0.o.drew.two.hb) HN.o).mono ?_
  rintro e w1 ⟨u, rfl, ho, hb⟩
  have HT4 := qQ (HT0.o.drew.below hb)
  have HR4 := qQ (Kd.R_lower (Kd.R_imp (d' := Kd.int .u64) rfl (fun _ _ _ _ _ h => h) ho) HT0.o.drew.two.hb.size)
  obtain ⟨A5, c5, rfl⟩ := Kd.R_slice ho
  clear ho hb
  refine hK.out _ _ HT4.o.two (fun hHeld => ?_)
  refine zY 3 15 6 ?_
  refine zL 4 31 fun K hK => ?_
  have y0 := thrCells HT4.o
  go_simp
  refine hK.out _ _ ?_
  refine zD ?_
  have HT9 := qQ (HT4.o.ans ⟨f0, f1, f2, f3, f4, f5, f6⟩)
  have HR9 := qQ (R_ans HR4.o HT4.o ⟨f0, f1, f2, f3, f4, f5, f6⟩)
  clear hHeld y0
  go_wp2
  refine bodyPost_ret (results_tc rfl _ _ (w.heap.size + 1 + 1) 66 #[.int .i64 f0, .int .i64 f1, .int .i64 f2, .int .u64 f3, .int .u64 f4, .int .u64 f5, .int .i64 f6] (0, 0) _ rfl HT9.o.h2 Tryz.underlying66 rfl (by kernel_rfl)) rfl ?_
  exact ⟨_, rfl, HR9.o, HT9.o.two.hb⟩
theorem inject_step (A : Option Addr) (cp : Nat) (c : Cf) (f f' : S66) (l l' : List Int) (w : World) (hC : Kd.C (Kd.int .u64) w A l.length l) (hcp : l.length ≤ cp) (hn : l.length ≤ 1000000)
  (hk : (f.f0 = 3 ∧ SC 121 w A cp c f l f' l') ∨ (f.f0 = 4 ∧ SC 122 w A cp c f l f' l') ∨ (¬ f.f0 = 3 ∧ ¬ f.f0 = 4 ∧ l' = l ∧ f' = f)) :
  Calls Tryz.prog 95 #[cfV c, .slice A l.length cp, frV f] w fun e w' => ∃ v, e = .returned (.tuple #[v, frV f']) ∧ (Kd.int .u64).R 38 w' w.heap.size (fun _ => True) v l' ∧ Below w.heap.size w w' := by
 obtain ⟨f0, f1, f2, f3, f4, f5, f6⟩ := f
 have HT0 := qQ (Thr.start w c ⟨f0, f1, f2, f3, f4, f5, f6⟩)
 have HC := qQ hC
 have HCP := qQ hcp
 have HN := qQ hn
 clear hC hcp hn
 dsimp only at hk
 rcases hk with ⟨rfl, hsc⟩ | ⟨rfl, hsc⟩ | ⟨k0, k1, e1, e2⟩
 ·unfold SC at hsc
  have HSC := qQ hsc
  clear hsc
  go_enter Tryz.func95, Tryz.ntmps95
  go_wp2_with (go_at_call 121; with_reducible refine (HSC.o _ HT0.o.two.hb).mono ?_; rintro e w4 ⟨v, rfl, hr, hb⟩; have HT4 := qQ (HT0.o.below hb); have HR4 := qQ (Kd.R_lower hr HT0.o.two.hb.size); obtain ⟨A5, c5, eo⟩ := Kd.R_slice hr; subst eo; clear hr hb; have y0 := thrCells HT4.o)
  have HT9 := qQ (HT4.o.ans f')
  have HR9 := qQ (R_ans HR4.o HT4.o f')
  refine bodyPost_ret (results_tc rfl _ _ (w.heap.size + 1 + 1) 66 #[.int .i64 f'.f0, .int .i64 f'.f1, .int .i64 f'.f2, .int .u64 f'.f3, .int .u64 f'.f4, .int .u64 f'.f5, .int .i64 f'.f6] (0, 0) _ rfl HT9.o.h2 Tryz.underlying66 rfl (by kernel_rfl)) rfl ?_
  exact ⟨_, rfl, HR9.o, HT9.o.two.hb⟩
 ·unfold SC at hsc
  have HSC := qQ hsc
  clear hsc
  go_enter Tryz.func95, Tryz.ntmps95
  go_wp2_with (go_at_call 122; with_reducible refine (HSC.o _ HT0.o.two.hb).mono ?_; rintro e w4 ⟨v, rfl, hr, hb⟩; have HT4 := qQ (HT0.o.below hb); have HR4 := qQ (Kd.R_lower hr HT0.o.two.hb.size); obtain ⟨A5, c5, eo⟩ := Kd.R_slice hr; subst eo; clear hr hb; have y0 := thrCells HT4.o)
  have HT9 := qQ (HT4.o.ans f')
  have HR9 := qQ (R_ans HR4.o HT4.o f')
  refine bodyPost_ret (results_tc rfl _ _ (w.heap.size + 1 + 1) 66 #[.int .i64 f'.f0, .int .i64 f'.f1, .int .i64 f'.f2, .int .u64 f'.f3, .int .u64 f'.f4, .int .u64 f'.f5, .int .i64 f'.f6] (0, 0) _ rfl HT9.o.h2 Tryz.underlying66 rfl (by kernel_rfl)) rfl ?_
  exact ⟨_, rfl, HR9.o, HT9.o.two.hb⟩
 ·have e1 := e1.symm
  have e2 := e2.symm
  subst e1
  subst e2
  go_enter Tryz.func95, Tryz.ntmps95
  go_wp2
  refine zS 5 [4] (fun W' => Two w c ⟨f0, f1, f2, f3, f4, f5, f6⟩ W') HT0.o.drew.two fun hHeld => ?_
  refine zY 0 1 26 ?_
  refine zT 2 5 28 ?_ (hy := zy6)
  refine zO 1 7 27 fun K hK => ?_
  go_simp
  refine (clone54 A cp l _ (Kd.C_below HC.o HT0.o.drew.two.hb) HN.o).mono ?_
  rintro e w1 ⟨u, rfl, ho, hb⟩
  have HT4 := qQ (HT0.o.drew.below hb)
  have HR4 := qQ (Kd.R_lower (Kd.R_imp (d' := Kd.int .u64) rfl (fun _ _ _ _ _ h => h) ho) HT0.o.drew.two.hb.size)
  obtain ⟨A5, c5, rfl⟩ := Kd.R_slice ho
  clear ho hb
  refine hK.out _ _ HT4.o.two (fun hHeld => ?_)
  refine zY 3 15 6 ?_
  refine zL 4 31 fun K hK => ?_
  have y0 := thrCells HT4.o
  go_simp
  refine hK.out _ _ ?_
  refine zD ?_
  have HT9 := qQ (HT4.o.ans ⟨f0, f1, f2, f3, f4, f5, f6⟩)
  have HR9 := qQ (R_ans HR4.o HT4.o ⟨f0, f1, f2, f3, f4, f5, f6⟩)
  clear hHeld y0
  go_wp2
  refine bodyPost_ret (results_tc rfl _ _ (w.heap.size + 1 + 1) 66 #[.int .i64 f0, .int .i64 f1, .int .i64 f2, .int .u64 f3, .int .u64 f4, .int .u64 f5, .int .i64 f6] (0, 0) _ rfl HT9.o.h2 Tryz.underlying66 rfl (by kernel_rfl)) rfl ?_
  exact ⟨_, rfl, HR9.o, HT9.o.two.hb⟩
theorem deque_step (A : Option Addr) (cp : Nat) (c : Cf) (f f' : S66) (l l' : List Int) (w : World) (hC : Kd.C (Kd.int .u64) w A l.length l) (hcp : l.length ≤ cp) (hn : l.length ≤ 1000000)
  (hk : (f.f0 = 0 ∧ SC 156 w A cp c f l f' l') ∨ (f.f0 = 1 ∧ SC 157 w A cp c f l f' l') ∨ (f.f0 = 2 ∧ SC 158 w A cp c f l f' l') ∨ (¬ f.f0 = 0 ∧ ¬ f.f0 = 1 ∧ ¬ f.f0 = 2 ∧ l' = l ∧ f' = f)) :
  Calls Tryz.prog 127 #[cfV c, .slice A l.length cp, frV f] w fun e w' => ∃ v, e = .returned (.tuple #[v, frV f']) ∧ (Kd.int .u64).R 38 w' w.heap.size (fun _ => True) v l' ∧ Below w.heap.size w w' := by
 obtain ⟨f0, f1, f2, f3, f4, f5, f6⟩ := f
 have HT0 := qQ (Thr.start w c ⟨f0, f1, f2, f3, f4, f5, f6⟩)
 have HC := qQ hC
 have HCP := qQ hcp
 have HN := qQ hn
 clear hC hcp hn
 dsimp only at hk
 rcases hk with ⟨rfl, hsc⟩ | ⟨rfl, hsc⟩ | ⟨rfl, hsc⟩ | ⟨k0, k1, k2, e1, e2⟩
 ·unfold SC at hsc
  have HSC := qQ hsc
  clear hsc
  go_enter Tryz.func127, Tryz.ntmps127
  go_wp2_with (go_at_call 156; with_reducible refine (HSC.o _ HT0.o.two.hb).mono ?_; rintro e w4 ⟨v, rfl, hr, hb⟩; have HT4 := qQ (HT0.o.below hb); have HR4 := qQ (Kd.R_lower hr HT0.o.two.hb.size); obtain ⟨A5, c5, eo⟩ := Kd.R_slice hr; subst eo; clear hr hb; have y0 := thrCells HT4.o)
  have HT9 := qQ (HT4.o.ans f')
  have HR9 := qQ (R_ans HR4.o HT4.o f')
  refine bodyPost_ret (results_tc rfl _ _ (w.heap.size + 1 + 1) 66 #[.int .i64 f'.f0, .int .i64 f'.f1, .int .i64 f'.f2, .int .u64 f'.f3, .int .u64 f'.f4, .int .u64 f'.f5, .int .i64 f'.f6] (0, 0) _ rfl HT9.o.h2 Tryz.underlying66 rfl (by kernel_rfl)) rfl ?_
  exact ⟨_, rfl, HR9.o, HT9.o.two.hb⟩
 ·unfold SC at hsc
  have HSC := qQ hsc
  clear hsc
  go_enter Tryz.func127, Tryz.ntmps127
  go_wp2_with (go_at_call 157; with_reducible refine (HSC.o _ HT0.o.two.hb).mono ?_; rintro e w4 ⟨v, rfl, hr, hb⟩; have HT4 := qQ (HT0.o.below hb); have HR4 := qQ (Kd.R_lower hr HT0.o.two.hb.size); obtain ⟨A5, c5, eo⟩ := Kd.R_slice hr; subst eo; clear hr hb; have y0 := thrCells HT4.o)
  have HT9 := qQ (HT4.o.ans f')
  have HR9 := qQ (R_ans HR4.o HT4.o f')
  refine bodyPost_ret (results_tc rfl _ _ (w.heap.size + 1 + 1) 66 #[.int .i64 f'.f0, .int .i64 f'.f1, .int .i64 f'.f2, .int .u64 f'.f3, .int .u64 f'.f4, .int .u64 f'.f5, .int .i64 f'.f6] (0, 0) _ rfl HT9.o.h2 Tryz.underlying66 rfl (by kernel_rfl)) rfl ?_
  exact ⟨_, rfl, HR9.o, HT9.o.two.hb⟩
 ·unfold SC at hsc
  have HSC := qQ hsc
  clear hsc
  go_enter Tryz.func127, Tryz.ntmps127
  go_wp2_with (go_at_call 158; with_reducible refine (HSC.o _ HT0.o.two.hb).mono ?_; rintro e w4 ⟨v, rfl, hr, hb⟩; have HT4 := qQ (HT0.o.below hb); have HR4 := qQ (Kd.R_lower hr HT0.o.two.hb.size); obtain ⟨A5, c5, eo⟩ := Kd.R_slice hr; subst eo; clear hr hb; have y0 := thrCells HT4.o)
  have HT9 := qQ (HT4.o.ans f')
  have HR9 := qQ (R_ans HR4.o HT4.o f')
  refine bodyPost_ret (results_tc rfl _ _ (w.heap.size + 1 + 1) 66 #[.int .i64 f'.f0, .int .i64 f'.f1, .int .i64 f'.f2, .int .u64 f'.f3, .int .u64 f'.f4, .int .u64 f'.f5, .int .i64 f'.f6] (0, 0) _ rfl HT9.o.h2 Tryz.underlying66 rfl (by kernel_rfl)) rfl ?_
  exact ⟨_, rfl, HR9.o, HT9.o.two.hb⟩
 ·have e1 := e1.symm
  have e2 := e2.symm
  subst e1
  subst e2
  go_enter Tryz.func127, Tryz.ntmps127
  go_wp2
  refine zS 5 [4] (fun W' => Two w c ⟨f0, f1, f2, f3, f4, f5, f6⟩ W') HT0.o.drew.two fun hHeld => ?_
  refine zY 0 1 34 ?_
  refine zT 2 5 36 ?_ (hy := zy6)
  refine zO 1 7 35 fun K hK => ?_
  go_simp
  refine (clone54 A cp l _ (Kd.C_below HC.o HT0.o.drew.two.hb) HN.o).mono ?_
  rintro e w1 ⟨u, rfl, ho, hb⟩
  have HT4 := qQ (HT0.o.drew.below hb)
  have HR4 := qQ (Kd.R_lower (Kd.R_imp (d' := Kd.int .u64) rfl (fun _ _ _ _ _ h => h) ho) HT0.o.drew.two.hb.size)
  obtain ⟨A5, c5, rfl⟩ := Kd.R_slice ho
  clear ho hb
  refine hK.out _ _ HT4.o.two (fun hHeld => ?_)
  refine zY 3 15 6 ?_
  refine zL 4 31 fun K hK => ?_
  have y0 := thrCells HT4.o
  go_simp
  refine hK.out _ _ ?_
  refine zD ?_
  have HT9 := qQ (HT4.o.ans ⟨f0, f1, f2, f3, f4, f5, f6⟩)
  have HR9 := qQ (R_ans HR4.o HT4.o ⟨f0, f1, f2, f3, f4, f5, f6⟩)
  clear hHeld y0
  go_wp2
  refine bodyPost_ret (results_tc rfl _ _ (w.heap.size + 1 + 1) 66 #[.int .i64 f0, .int .i64 f1, .int .i64 f2, .int .u64 f3, .int .u64 f4, .int .u64 f5, .int .i64 f6] (0, 0) _ rfl HT9.o.h2 Tryz.underlying66 rfl (by kernel_rfl)) rfl ?_
  exact ⟨_, rfl, HR9.o, HT9.o.two.hb⟩
end Go.Proofs.YthoeodjgfelkhaaGreat.QT
