/- Part 36 of the claim on TopWakes: play.Drain; TopWakes over the model. No condition. -/
import Derived.Test.YthoeodjgfelkhaaGreatm35
set_option linter.unusedVariables false
set_option linter.unusedSimpArgs false
set_option maxRecDepth 100000
set_option maxHeartbeats 8000000
namespace Go.Proofs.YthoeodjgfelkhaaGreat.QT
open Go.RowKit Go.Proofs.YthoeodjgfelkhaaGreatW.PrintWords Go.Proofs.YthoeodjgfelkhaaGreatW.PrintLast Go.Proofs.YthoeodjgfelkhaaGreatW.PrintMore
attribute [local go_sem] max2_int min2_int max_two min_two
section
open Go.Proofs.YthoeodjgfelkhaaGreat.Bri
def DrI (w2 : World) (b7 b9 N nw ns : Nat) (P0 : Array Value) (c : Cf) (t : List S45) (m' : List Int) (ws' : List S76) (ss' : List S68) (cnt : Nat) (ev : List S40) (pre : List (Nat × Option Addr × Nat)) (W : World) : Prop :=
 pre.length ≤ N ∧ ∃ vT vM vW vS A8 c8 m ws ss e1 e2, DI w2 b7 (b7 + 1) b9 (b9 + 1 + 1) (b9 + 1) N P0 c t vT vM vW vS A8 c8 m ws ss e1 pre.length W ∧ DrGood c t m ws ss ∧ DrainR c t nw ns m' ws' ss' cnt (N - pre.length) pre.length m ws ss e2 ∧ ev = e1 ++ e2
def DrX (w2 : World) (b7 b9 N : Nat) (P0 : Array Value) (c : Cf) (t : List S45) (m' : List Int) (ws' : List S76) (ss' : List S68) (cnt : Nat) (ev : List S40) (cd : Code) (_pre : List (Nat × Option Addr × Nat)) (W : World) : Prop :=
 cd = .exit 0 ∧ ∃ vT vM vW vS A8 c8, DI w2 b7 (b7 + 1) b9 (b9 + 1 + 1) (b9 + 1) N P0 c t vT vM vW vS A8 c8 m' ws' ss' ev cnt W
theorem KpT_trans {bn bp : Nat} {A B C : World} (h : KpT bn bp A B) (k : KpT bn bp B C) : KpT bn bp A C := ⟨Nat.le_trans h.1 k.1, fun o ho => k.2.1 o (h.2.1 o ho), fun o ho => k.2.2 o (h.2.2 o ho)⟩
theorem KpT_put {bn bp M : Nat} (h1 : bn < M) (h2 : bp < M) (W : World) (l : Nat) (o o' : Obj) (hl : M ≤ l) (hW : W.heap[l]? = some o) : KpT bn bp W (W.putObj l o') :=
 ⟨(grownBy_putObj' W l o').size, fun x hx => (World.putObj_heap_other (by omega)).trans hx, fun x hx => (World.putObj_heap_other (by omega)).trans hx⟩
theorem CxT_put {nw ns N : Nat} (pre : List (Nat × Option Addr × Nat)) (x : Nat × Option Addr × Nat) (W : World) (l : Nat) (o o' : Obj) (hW : W.heap[l]? = some o) (ho : o.isCells = false) (h : CxT nw ns N pre x W) : CxT nw ns N pre x (W.putObj l o') :=
 ⟨h.1, h.2.1, R_own h.2.2 (grownBy_putObj' W l o') (fun r e => by cases e; exact ⟨o, hW, ho⟩)⟩
def onlyN (Q : Exit → Act → World → Prop) : Exit → Act → World → Prop
 | .normal, a, w => Q .normal a w
 | _, _, _ => False
theorem onlyN_le {Q : Exit → Act → World → Prop} : ∀ (e : Exit) (a : Act) (w : World), onlyN Q e a w → Q e a w := fun e a w h => by
 cases e <;> first | exact h | exact h.elim
theorem and_size {W W' : World} {A B : Prop} (h1 : KeepsOthers W W') (h2 : W.heap.size ≤ W'.heap.size → A) (h3 : B) : KeepsOthers W W' ∧ A ∧ B := ⟨h1, h2 h1.size, h3⟩
theorem row_cells {α : Type} {d : Kd α} {e base j : Nat} {ok : Nat → Prop} {v : Value} {xs : List α} {W : World} {o : Obj} (h : d.R e W base ok v xs) (hj : v.ownBlock = some j) (ho : W.heap[j]? = some o) : o.isCells = true := by
 obtain ⟨_, _, _, q, _, cells, hc⟩ := (Kd.R_bound h).1 j hj
 rw [ho] at hc
 injection hc with hc
 subst hc
 rfl
attribute [local go_sem] Oper.semAt_some
theorem Drain_in (n : Nat) (hn3 : 3 ≤ n) (c : Cf) (t : List S45) (At : Option Addr) (ct : Nat) (m : List Int) (Am : Option Addr) (cm : Nat) (ws : List S76) (Aw : Option Addr) (cw : Nat) (ss : List S68) (As : Option Addr) (cs_ : Nat) (N nw : Nat) (m' : List Int) (ws' : List S76) (ss' : List S68) (cnt : Nat) (ev : List S40) (w : World)
  (h : PRd c t At ct m Am cm ws Aw cw ss As cs_ w) (hg : DrGood c t m ws ss) (hk : ∀ x ∈ t, x.f1.length ≤ 1000000) (hN : N < 5000) (hnw : c.w = (nw : Int)) (hnn : nw < 21) (hdr : DrainR c t nw ss.length m' ws' ss' cnt N 0 m ws ss ev) (hen : ev.length ≤ 100000000) :
  CallsIn Fence.wide n Tryz.prog 8 #[.agg (pC c (.slice At t.length ct) (.slice Am m.length cm) (.slice Aw ws.length cw) (.slice As ss.length cs_)), .int .i64 (N : Int)] w fun e w' => ∃ vT vM vW vS ve, e = .returned (.tuple #[.agg (pC c vT vM vW vS), ve, .int .i64 (cnt : Int)]) ∧
   k45.R 45 w' w.heap.size (fun _ => True) vT t ∧ (Kd.int .u64).R 38 w' w.heap.size (fun _ => True) vM m' ∧ k76.R 76 w' w.heap.size (fun _ => True) vW ws' ∧ k68v.R 68 w' w.heap.size (fun _ => True) vS ss' ∧ k40.R 40 w' w.heap.size (fun _ => True) ve ev ∧ Below w.heap.size w w' := by
 have h1 : 1 ≤ n := by omega
 have HH := qQ h
 have HGD := qQ hg
 have HK := qQ hk
 have HDR := qQ hdr
 have HNW := qQ hnw
 have HEN := qQ hen
 have HSN := qQ hg.2.2.2
 have B2 := qQ (show Below w.heap.size w ((w.alloc (.cells (pC c (.slice At t.length ct) (.slice Am m.length cm) (.slice Aw ws.length cw) (.slice As ss.length cs_)) 34)).alloc (.cells #[.int .i64 0, .int .i64 0, .int .i64 0, .int .i64 0, .slice none 0 0, .slice none 0 0, .slice none 0 0, .slice none 0 0] 34)) from below_alloc (below_alloc (Below.refl _ _) _) _)
 have X0 := qQ (show (((w.alloc (.cells (pC c (.slice At t.length ct) (.slice Am m.length cm) (.slice Aw ws.length cw) (.slice As ss.length cs_)) 34)).alloc (.cells #[.int .i64 0, .int .i64 0, .int .i64 0, .int .i64 0, .slice none 0 0, .slice none 0 0, .slice none 0 0, .slice none 0 0] 34))).heap[w.heap.size]? = some (.cells (pC c (.slice At t.length ct) (.slice Am m.length cm) (.slice Aw ws.length cw) (.slice As ss.length cs_)) 34 (0, 0)) from blk_alloc (blk_new _ _) _)
 have X1 := qQ (show (((w.alloc (.cells (pC c (.slice At t.length ct) (.slice Am m.length cm) (.slice Aw ws.length cw) (.slice As ss.length cs_)) 34)).alloc (.cells #[.int .i64 0, .int .i64 0, .int .i64 0, .int .i64 0, .slice none 0 0, .slice none 0 0, .slice none 0 0, .slice none 0 0] 34))).heap[w.heap.size + 1]? = some (.cells #[.int .i64 0, .int .i64 0, .int .i64 0, .int .i64 0, .slice none 0 0, .slice none 0 0, .slice none 0 0, .slice none 0 0] 34 (0, 0)) from by have := blk_new (w.alloc (.cells (pC c (.slice At t.length ct) (.slice Am m.length cm) (.slice Aw ws.length cw) (.slice As ss.length cs_)) 34)) (.cells #[.int .i64 0, .int .i64 0, .int .i64 0, .int .i64 0, .slice none 0 0, .slice none 0 0, .slice none 0 0, .slice none 0 0] 34); simpa using this)
 have SZ := qQ (show (((w.alloc (.cells (pC c (.slice At t.length ct) (.slice Am m.length cm) (.slice Aw ws.length cw) (.slice As ss.length cs_)) 34)).alloc (.cells #[.int .i64 0, .int .i64 0, .int .i64 0, .int .i64 0, .slice none 0 0, .slice none 0 0, .slice none 0 0, .slice none 0 0] 34))).heap.size = w.heap.size + 1 + 1 by simp)
 have x0 := fun j => blk_cell X0.o j
 clear h hg hk hdr hnw hen
 refine callsIn_of_wp_marks Tryz.func8 rfl trivial ?_ rfl
 simp only [Tryz.ntmps8, List.size_toArray, List.length_cons, List.length_nil, Nat.reduceAdd, Nat.reduceSub, Array.replicate_succ, Array.replicate_zero, List.push_toArray, List.append_toArray, List.nil_append, List.cons_append]
 generalize hw2 : ((w.alloc (.cells (pC c (.slice At t.length ct) (.slice Am m.length cm) (.slice Aw ws.length cw) (.slice As ss.length cs_)) 34)).alloc (.cells #[.int .i64 0, .int .i64 0, .int .i64 0, .int .i64 0, .slice none 0 0, .slice none 0 0, .slice none 0 0, .slice none 0 0] 34)) = w2 at B2 X0 X1 x0 SZ
 gi_wp2_with (first | (refine ⟨trivial, (callsIn_wide.2 (run_14 c t At ct m Am cm ws Aw cw ss As cs_ [] none 0 m ws ss [] w2 (HH.o.below B2.o) (Kd.C_nil k83 w2) HGD.o.1 HGD.o.2.1 HGD.o.2.2.1 HK.o (by simp) ⟨rfl, rfl, rfl, rfl⟩ (by simp))).mono ?_⟩; rintro e w3 ⟨vT, vM, vW, vS, ve, rfl, r1, r2, r3, r4, r5, hb⟩; obtain ⟨A1, c1, eo⟩ := Kd.R_slice r1; subst eo; obtain ⟨A2, c2, eo⟩ := Kd.R_slice r2; subst eo; obtain ⟨A3, c3, eo⟩ := Kd.R_slice r3; subst eo; obtain ⟨A4, c4, eo⟩ := Kd.R_slice r4; subst eo; obtain ⟨A5, c5, eo⟩ := Kd.R_slice r5; subst eo; have R1 := qQ r1; have R2 := qQ r2; have R3 := qQ r3; have R4 := qQ r4; have R5 := qQ (show k40.R 40 w3 w2.heap.size (fun _ => True) (.slice A5 0 c5) [] from r5); have C3 := qQ hb; clear hb r1 r2 r3 r4 r5 x0; (try simp only [List.length_nil]); have x0 := fun j => blk_cell (blk_alloc (blk_alloc (blk_below X0.o C3.o) (.cells (pC c (.slice A1 t.length c1) (.slice A2 m.length c2) (.slice A3 ws.length c3) (.slice A4 ss.length c4)) 34)) (.cells #[.slice A5 0 c5] 35)) j) | (refine ⟨trivial, (callsIn_wide.2 (may_17 c t At ct m Am cm ws Aw cw ss As cs_ _ HGD.o.1 (HH.o.below (below_then B2.o B2.o.size (below_then C3.o C3.o.size (below_alloc (below_alloc (Below.refl _ _) _) _)))) HGD.o.2.2.1)).mono ?_⟩; rintro e w5 ⟨rfl, hb⟩; have HP5 := qQ (((PL.make (c := c) C3.o R1.o R2.o R3.o R4.o).below (below_alloc (Below.refl _ _) (.cells #[.slice A5 0 c5] 35))).below hb); have H85 := qQ (blk_below (show (((w3.alloc (.cells (pC c (.slice A1 t.length c1) (.slice A2 m.length c2) (.slice A3 ws.length c3) (.slice A4 ss.length c4)) 34)).alloc (.cells #[.slice A5 0 c5] 35))).heap[w3.heap.size + 1]? = some (.cells #[.slice A5 0 c5] 35 (0, 0)) from by have := blk_new (w3.alloc (.cells (pC c (.slice A1 t.length c1) (.slice A2 m.length c2) (.slice A3 ws.length c3) (.slice A4 ss.length c4)) 34)) (.cells #[.slice A5 0 c5] 35); simpa using this) hb); have RE5 := qQ (Kd.R_below (Kd.R_below (Kd.R_below R5.o (below_alloc (Below.refl _ _) (.cells (pC c (.slice A1 t.length c1) (.slice A2 m.length c2) (.slice A3 ws.length c3) (.slice A4 ss.length c4)) 34))) (below_alloc (Below.refl _ _) (.cells #[.slice A5 0 c5] 35))) hb); have HZ3 := qQ C3.o.size; have X05 := qQ (blk_below (blk_alloc (blk_alloc (blk_below X0.o C3.o) (.cells (pC c (.slice A1 t.length c1) (.slice A2 m.length c2) (.slice A3 ws.length c3) (.slice A4 ss.length c4)) 34)) (.cells #[.slice A5 0 c5] 35)) hb); clear hb x0; have x0 := fun j => blk_cell (blk_alloc X05.o (.cells #[.int .i64 0] 3)) j) | (refine ⟨trivial, (turns_18 (n - 1) N c t At ct m Am cm ws Aw cw ss As cs_ _).mono ?_⟩; rintro e wL ⟨rfl, rfl⟩; clear x0))
 have HA := below_alloc (below_alloc (below_alloc (Below.refl w5.heap.size w5) (.cells #[.int .i64 0] 3)) (.cells (pC c (.slice At t.length ct) (.slice Am m.length cm) (.slice Aw ws.length cw) (.slice As ss.length cs_)) 34)) (.cells #[.int .i64 (N : Int)] 3)
 have HD0 := qQ (show DI w2 w3.heap.size (w3.heap.size + 1) w5.heap.size (w5.heap.size + 1 + 1) (w5.heap.size + 1) N (pC c (.slice At t.length ct) (.slice Am m.length cm) (.slice Aw ws.length cw) (.slice As ss.length cs_)) c t (.slice A1 t.length c1) (.slice A2 m.length c2) (.slice A3 ws.length c3) (.slice A4 ss.length c4) A5 c5 m ws ss [] 0 (((w5.alloc (.cells #[.int .i64 0] 3)).alloc (.cells (pC c (.slice At t.length ct) (.slice Am m.length cm) (.slice Aw ws.length cw) (.slice As ss.length cs_)) 34)).alloc (.cells #[.int .i64 (N : Int)] 3)) from ⟨HP5.o.below HA, blk_below H85.o HA, Kd.R_below RE5.o HA, blk_alloc (blk_alloc (blk_new w5 (.cells #[.int .i64 0] 3)) _) _, by have := blk_new ((w5.alloc (.cells #[.int .i64 0] 3)).alloc (.cells (pC c (.slice At t.length ct) (.slice Am m.length cm) (.slice Aw ws.length cw) (.slice As ss.length cs_)) 34)) (.cells #[.int .i64 (N : Int)] 3); simpa using this, blk_alloc (by have := blk_new (w5.alloc (.cells #[.int .i64 0] 3)) (.cells (pC c (.slice At t.length ct) (.slice Am m.length cm) (.slice Aw ws.length cw) (.slice As ss.length cs_)) 34); simpa using this) _⟩)
 have HLO := qQ (show w2.heap.size ≤ w3.heap.size ∧ w3.heap.size < w3.heap.size + 1 ∧ w3.heap.size + 1 < w5.heap.size ∧ w5.heap.size < w5.heap.size + 1 ∧ w5.heap.size + 1 < w5.heap.size + 1 + 1 from ⟨HZ3.o, by omega, blk_lt H85.o, by omega, by omega⟩)
 clear HA HP5 H85 RE5 HZ3 X05 C3 R1 R2 R3 R4 R5
 generalize (((w5.alloc (.cells #[.int .i64 0] 3)).alloc (.cells (pC c (.slice At t.length ct) (.slice Am m.length cm) (.slice Aw ws.length cw) (.slice As ss.length cs_)) 34)).alloc (.cells #[.int .i64 (N : Int)] 3)) = wL at HD0 ⊢
 generalize w3.heap.size = b7 at HD0 HLO ⊢
 generalize w5.heap.size = b9 at HD0 HLO ⊢
 have HSZ := qQ (blk_lt HD0.o.hn)
 have hle2 := HD0.o.pl.bel.size
 refine rangeC (encs := encT nw ss.length) (Cx := CxT nw ss.length N) (Kp := KpT (b9 + 1 + 1) (b9 + 1)) (S := fun xs => xs.length = N) (Sp := fun _ => True) (w0 := wL) rfl h1 (gf := 39) (lb := #[.pointer (some ⟨(b9 + 1 + 1), 0, none⟩), .pointer (some ⟨(b9 + 1), 0, none⟩)]) rfl trivial (enters_of Tryz.func39 (by kernel_rfl) rfl)
  (turns_seq (n - 1) (by omega) (b9 + 1 + 1) (b9 + 1) N nw c t At ct m Am cm ws Aw cw ss As cs_ wL hN HNW.o hnn (by have := HSN.o; omega) HD0.o.hn HD0.o.hp) (fun h k => KpT_trans h k) (fun W l o o' hl hW _ _ => KpT_put HSZ.o (by have := HSZ.o; omega) W l o o' hl hW) (fun pre x W l o o' _ hW ho hC => CxT_put pre x W l o o' hW ho hC) (Below.refl _ _) (fun _ => rfl)
  (DrI w2 b7 b9 N nw ss.length (pC c (.slice At t.length ct) (.slice Am m.length cm) (.slice Aw ws.length cw) (.slice As ss.length cs_)) c t m' ws' ss' cnt ev) (DrX w2 b7 b9 N (pC c (.slice At t.length ct) (.slice Am m.length cm) (.slice Aw ws.length cw) (.slice As ss.length cs_)) c t m' ws' ss' cnt ev) ?hI ?hIx ⟨Nat.zero_le _, _, _, _, _, _, _, _, _, _, [], ev, HD0.o, HGD.o, HDR.o, rfl⟩ (fun x => { tmps := #[.agg (pC c (.slice At t.length ct) (.slice Am m.length cm) (.slice Aw ws.length cw) (.slice As ss.length cs_)), .int .i64 (N : Int), .pointer (some ⟨w.heap.size, 0, none⟩), undef, .pointer (some ⟨(w.heap.size + 1), 0, none⟩), .slice none 0 0, .int .i64 0, .pointer (some ⟨b7, 0, none⟩), .pointer (some ⟨(b7 + 1), 0, none⟩), .pointer (some ⟨b9, 0, none⟩), .int .i64 (x.1 : Int), .slice x.2.1 (nw + ss.length) x.2.2, undef, undef, .tuple #[.agg (pC c (.slice A1 t.length c1) (.slice A2 m.length c2) (.slice A3 ws.length c3) (.slice A4 ss.length c4)), .slice A5 0 c5], .agg #[.int .i64 c.w, .int .i64 c.d, .int .i64 c.i, .int .i64 c.s, .slice At t.length ct, .slice Am m.length cm, .slice Aw ws.length cw, .slice As ss.length cs_], .tuple #[.agg (pC c (.slice A1 t.length c1) (.slice A2 m.length c2) (.slice A3 ws.length c3) (.slice A4 ss.length c4)), .slice A5 0 c5], .agg (pC c (.slice A1 t.length c1) (.slice A2 m.length c2) (.slice A3 ws.length c3) (.slice A4 ss.length c4)), .slice A5 0 c5, .agg #[.int .i64 c.w, .int .i64 c.d, .int .i64 c.i, .int .i64 c.s, .slice At t.length ct, .slice Am m.length cm, .slice Aw ws.length cw, .slice As ss.length cs_], .bool true, .bool false, undef, .agg #[.int .i64 c.w, .int .i64 c.d, .int .i64 c.i, .int .i64 c.s, .slice At t.length ct, .slice Am m.length cm, .slice Aw ws.length cw, .slice As ss.length cs_], .int .i64 (N : Int), .func (.func 39) #[] #[.pointer (some ⟨(b9 + 1 + 1), 0, none⟩), .pointer (some ⟨(b9 + 1), 0, none⟩)], .int .i64 (x.1 : Int), .slice x.2.1 (nw + ss.length) x.2.2, undef, undef, undef, undef, undef, undef, undef, undef, undef, undef, undef, undef, undef, undef, undef, undef, undef], defers := [] }) ?assign ?body ?done ?stop
 case hI =>
  rintro pre W W' row ⟨h0, vT, vM, vW, vS, A8, c8, m1, ws1, ss1, e1, e2, hD, hr⟩ hgr hr2
  exact ⟨h0, vT, vM, vW, vS, A8, c8, m1, ws1, ss1, e1, e2, hD.own hgr (fun r e => ⟨Nat.le_trans hle2 (hr2 r e).1, (hr2 r e).2⟩), hr⟩
 case hIx =>
  rintro cd pre W W' row ⟨h0, vT, vM, vW, vS, A8, c8, hD⟩ hgr hr2
  exact ⟨h0, vT, vM, vW, vS, A8, c8, hD.own hgr (fun r e => ⟨Nat.le_trans hle2 (hr2 r e).1, (hr2 r e).2⟩)⟩
 case assign =>
  intro l x W K hK
  unfold encT
  gi_wp2
  exact hK
 case body =>
  rintro l pre ⟨i, A, cx⟩ W ⟨hle, vT, vM, vW, vS, A8, c8, m1, ws1, ss1, e1, e2, hD, hgd, hdr, hev⟩ ⟨hi, hiN, hrow⟩
  dsimp only at hi hiN hrow
  subst hi
  obtain ⟨aT, xT, eo⟩ := Kd.R_slice hD.pl.hT
  subst eo
  obtain ⟨aM, xM, eo⟩ := Kd.R_slice hD.pl.hM
  subst eo
  obtain ⟨aW, xW, eo⟩ := Kd.R_slice hD.pl.hW
  subst eo
  obtain ⟨aS, xS, eo⟩ := Kd.R_slice hD.pl.hS
  subst eo
  obtain ⟨r, hr⟩ : ∃ r, N - pre.length = r + 1 := ⟨N - pre.length - 1, by omega⟩
  rw [hr] at hdr
  have HD := qQ hD
  have HGO := qQ hgd
  have HEV := qQ hev
  have HIN := qQ hiN
  have HROW := qQ hrow
  have HRR := qQ hr
  have x7 := fun j => blk_cell hD.pl.hb j
  clear hD hgd hev hiN hrow hr hle
  dsimp only
  rcases hdr with ⟨hre, q1, q2, q3, q4, q5⟩ | ⟨hre, m2, ws2, ss2, e3, e4, hrun, he3, hg2, hdr2, he⟩
  ·have HRE := qQ hre
   have HQ := qQ (And.intro q1 (And.intro q2 (And.intro q3 (And.intro q4 q5))))
   clear hre q1 q2 q3 q4 q5
   gi_wp2_with (refine ⟨trivial, fun _ => (by omega), (callsIn_wideAt (rested_10 c t aT xT m1 aM xM ws1 aW xW ss1 aS xS _ HD.o.pl.rd HGO.o.1 HGO.o.2.2.1)).mono ?_⟩; rintro e w1 ⟨rfl, hb⟩; rw [HRE.o]; have HB := qQ hb; clear hb)
   obtain ⟨rfl, rfl, rfl, rfl, rfl⟩ := HQ.o
   have hev2 := HEV.o
   rw [List.append_nil] at hev2
   subst hev2
   exact ⟨keepsB HB.o, rfl, _, _, _, _, _, _, HD.o.below HB.o⟩
  ·have HRE := qQ hre
   have HRUN := qQ hrun
   have HE3 := qQ he3
   have HG2 := qQ hg2
   have HDR2 := qQ hdr2
   have HE := qQ he
   clear hre hrun he3 hg2 hdr2 he
   gi_wp2_with (first | (refine ⟨trivial, fun _ => (by omega), (callsIn_wideAt (rested_10 c t aT xT m1 aM xM ws1 aW xW ss1 aS xS _ HD.o.pl.rd HGO.o.1 HGO.o.2.2.1)).mono ?_⟩; rintro e w1 ⟨rfl, hb⟩; rw [HRE.o]; have HB := qQ hb; have HD1 := qQ (HD.o.below hb); clear hb x7; have x7 := fun j => blk_cell HD1.o.pl.hb j) | (have hcall := run_14 c t aT xT m1 aM xM ws1 aW xW ss1 aS xS (roundF nw ss.length (pre.length : Int)) A cx m2 ws2 ss2 e3 _ HD1.o.pl.rd (Kd.R_reads' (Kd.R_below HROW.o HB.o)).2.2 HGO.o.1 HGO.o.2.1 HGO.o.2.2.1 HK.o (by rw [roundF_len]; have := HSN.o; omega) HRUN.o (by have := HE3.o; omega); rw [roundF_len] at hcall; refine ⟨trivial, fun _ => (by omega), (callsIn_wideAt hcall).mono ?_⟩; clear hcall; rintro e v2 ⟨yT, yM, yW, yS, ye, rfl, z1, z2, z3, z4, z5, hb⟩; obtain ⟨gT, kT, eo⟩ := Kd.R_slice z1; subst eo; obtain ⟨gM, kM, eo⟩ := Kd.R_slice z2; subst eo; obtain ⟨gW, kW, eo⟩ := Kd.R_slice z3; subst eo; obtain ⟨gS, kS, eo⟩ := Kd.R_slice z4; subst eo; obtain ⟨gE, kE, eo⟩ := Kd.R_slice z5; subst eo; have HV := qQ hb; have Y1 := qQ z1; have Y2 := qQ z2; have Y3 := qQ z3; have Y4 := qQ z4; have Y5 := qQ z5; clear hb z1 z2 z3 z4 z5 x7))
   have HA3 := below_alloc (Below.refl v2.heap.size v2) (.cells (pC c (.slice gT t.length kT) (.slice gM m2.length kM) (.slice gW ws2.length kW) (.slice gS ss2.length kS)) 34)
   have D3 := qQ ((HD1.o.below HV.o).below HA3)
   have P12 := qQ (blk_new v2 (.cells (pC c (.slice gT t.length kT) (.slice gM m2.length kM) (.slice gW ws2.length kW) (.slice gS ss2.length kS)) 34))
   have Y1' := qQ (Kd.R_drew (Kd.R_below Y1.o HA3))
   have Y2' := qQ (Kd.R_drew (Kd.R_below Y2.o HA3))
   have Y3' := qQ (Kd.R_drew (Kd.R_below Y3.o HA3))
   have Y4' := qQ (Kd.R_drew (Kd.R_below Y4.o HA3))
   have Y5' := qQ (Kd.R_drew (Kd.R_below Y5.o HA3))
   have HNB := qQ (blk_lt HD1.o.hn)
   have KO3 := qQ (((keepsB HB.o).trans (keepsB HV.o)).trans (KeepsOthers.alloc v2 (.cells (pC c (.slice gT t.length kT) (.slice gM m2.length kM) (.slice gW ws2.length kW) (.slice gS ss2.length kS)) 34)))
   clear HA3 Y1 Y2 Y3 Y4 Y5 HV HD1
   generalize v2.alloc (.cells (pC c (.slice gT t.length kT) (.slice gM m2.length kM) (.slice gW ws2.length kW) (.slice gS ss2.length kS)) 34) = v3 at D3 P12 Y1' Y2' Y3' Y4' Y5' KO3 ⊢
   generalize v2.heap.size = b12 at P12 ⊢
   have D4 := qQ (D3.o.below (below_drew (Below.refl _ _)))
   have hlen1 : e1.length ≤ 100000000 := by have h1 := congrArg List.length HEV.o; rw [List.length_append] at h1; have := HEN.o; omega
   have HL1 := qQ hlen1
   have kw2 := w64_suc' pre.length (by have := HIN.o; omega)
   clear hlen1
   refine startIn_ (n := 9) (S := fun W' => W'.heap[b12]? = some (.cells (pC c (.slice gT t.length kT) (.slice gM m2.length kM) (.slice gW ws2.length kW) (.slice gS ss2.length kS)) 34 (0, 0)) ∧ W'.heap[b7 + 1]? = some (.cells #[.slice A8 e1.length c8] 35 (0, 0))) (ds := [6, 7, 8]) (zM 9 0) (by kernel_rfl) (by rintro ⟨a', w', h⟩; exact h) (by kernel_rfl) rfl rfl ⟨blk_drew P12.o, D4.o.h8⟩ (fun hHeld => ?_)
   refine zT 0 1 36 ?_ (hy := by intro w' hSw; have p0 := blk_cell hSw.1; have p1 := blk_cell hSw.2; go_simp; with_reducible rfl)
   refine zT 1 3 37 ?_ (hy := by intro w' hSw; have p0 := blk_cell hSw.1; have p1 := blk_cell hSw.2; go_simp; with_reducible rfl)
   refine zY 2 7 38 ?_
   refine zY 4 23 40 ?_
   refine zY 5 55 41 ?_
   refine zO 3 63 39 fun K hK => ?_
   refine Kd.R_append_rows_step k40 (Rr := Kd.K k40 v3.drew) (w0 := w2) w2.heap.size (by rfl) (.tmp 37) (.tmp 38) 35 40 (.agg #[.int .i64 0, .int .i64 0, .int .i64 0]) 24 rfl Tryz.underlying35 ev_cinfo rfl (by show 0 < 3; decide) (by omega) _ e1 e3 _ _ _ (fun _ => True) (fun _ => False) (by rfl) (by rfl) D4.o.re (Kd.R_reads' Y5'.o).2.2 (fun x cs hx => by rw [k40_open hx]; exact k40_mkM _ _ _ x) (fun _ h => h.elim) (fun _ _ => trivial) D4.o.pl.bel D4.o.pl.bel.size (by have := HL1.o; have := HE3.o; omega) ?_
   intro v' va hr2 hb2 hg2 hat2
   obtain ⟨A9, c9, eo⟩ := Kd.R_slice hr2
   subst eo
   rw [List.length_append] at hr2
   have RA := qQ (show k40.R 40 va w2.heap.size (fun _ => True) (.slice A9 (e1 ++ e3).length c9) (e1 ++ e3) from by rw [List.length_append]; exact hr2)
   have BA := qQ hb2
   have KA := qQ (KeepsOthers.of_grownBy hg2 fun j o ej hj => row_cells D4.o.re ej hj)
   have h7a := qQ (blk_grown D4.o.pl.hb hg2 (Kd.R_ne D4.o.re D4.o.pl.hb (by decide)))
   have h8a := qQ (blk_grown D4.o.h8 hg2 (Kd.R_ne D4.o.re D4.o.h8 (by decide)))
   have h9a := qQ (blk_grown D4.o.h9 hg2 (Kd.R_ne D4.o.re D4.o.h9 (by decide)))
   have hna := qQ (blk_grown D4.o.hn hg2 (Kd.R_ne D4.o.re D4.o.hn (by decide)))
   have hpa := qQ (blk_grown D4.o.hp hg2 (Kd.R_ne D4.o.re D4.o.hp (by decide)))
   have p12 := qQ (blk_grown (blk_drew P12.o) hg2 (Kd.R_ne D4.o.re (blk_drew P12.o) (by decide)))
   have Y1a := qQ (Kd.R_over Y1'.o D4.o.re (by rw [E45]; decide) hg2)
   have Y2a := qQ (Kd.R_over Y2'.o D4.o.re (T1 (by decide)) hg2)
   have Y3a := qQ (Kd.R_over Y3'.o D4.o.re (by rw [EE76]; decide) hg2)
   have Y4a := qQ (Kd.R_over Y4'.o D4.o.re (by rw [EE68]; decide) hg2)
   clear hr2 hb2 hg2 hat2
   rw [List.length_append]
   refine hK.out _ _ ⟨p12.o, h8a.o⟩ (fun hHeld => ?_)
   have E7 := eight h7a.o (.int .i64 c.w) (.int .i64 c.d) (.int .i64 c.i) (.int .i64 c.s) (.slice gT t.length kT) (.slice gM m2.length kM) (.slice gW ws2.length kW) (.slice gS ss2.length kS)
   have K8 := (E7.2.1 (b7 + 1) (by omega)).trans h8a.o
   have K9 := blk_far (p := ⟨b7 + 1, 0, none⟩) ((E7.2.1 b9 (by have := HLO.o; omega)).trans h9a.o) (by have := HLO.o; show b9 ≠ b7 + 1; omega) (.slice A9 (e1.length + e3.length) c9)
   have hDN := DI.next (c := c) (v8 := .slice A8 e1.length c8) (v9 := .int .i64 (pre.length : Int)) (A8 := A9) (c8 := c9) (e := e1 ++ e3) (i := pre.length) HLO.o h7a.o h8a.o h9a.o hna.o hpa.o BA.o HNB.o Y1a.o Y2a.o Y3a.o Y4a.o RA.o
   rw [show ((pre.length + 1 : Nat) : Int) = (pre.length : Int) + 1 from by omega, List.length_append] at hDN
   unfold w8 at K8 K9 hDN
   have DN := qQ hDN
   have y0 := fun j => blk_cell h7a.o j
   have y1 := fun j => blk_frozen h7a.o j
   have y2 := fun j => blk_cell K8 j
   have y3 := fun j => blk_frozen K8 j
   have y4 := fun j => blk_cell K9 j
   have y5 := fun j => blk_frozen K9 j
   clear E7 K8 K9 hDN
   refine zL 6 127 fun K hK => ?_
   go_simp
   refine hK.out _ _ ?_
   refine zL 7 255 fun K hK => ?_
   go_simp
   refine hK.out _ _ ?_
   refine zL 8 511 fun K hK => ?_
   go_simp
   refine hK.out _ _ ?_
   clear y0 y1 y2 y3 y4 y5
   refine zD ?_
   gi_wp2
   have hl : (pre ++ [(pre.length, A, cx)]).length = pre.length + 1 := by simp
   refine and_size (((KO3.o.trans (keepsB (below_drew (Below.refl v3.heap.size v3)))).trans KA.o).trans ((((((((((KeepsOthers.setCell _ _ _).trans (KeepsOthers.setCell _ _ _)).trans (KeepsOthers.setCell _ _ _)).trans (KeepsOthers.setCell _ _ _)).trans (KeepsOthers.setCell _ _ _)).trans (KeepsOthers.setCell _ _ _)).trans (KeepsOthers.setCell _ _ _)).trans (KeepsOthers.setCell _ _ _)).trans (KeepsOthers.setCell _ _ _)).trans (KeepsOthers.setCell _ _ _))) (fun hs => ⟨hs, fun o ho => DN.o.hn.trans (HD.o.hn.symm.trans ho), fun o ho => DN.o.hp.trans (HD.o.hp.symm.trans ho)⟩) ?_
   unfold DrI
   rw [hl]
   exact ⟨HIN.o, _, _, _, _, _, _, _, _, _, _, _, DN.o, HG2.o, by rw [show N - (pre.length + 1) = r from by have := HRR.o; omega]; exact HDR2.o, by rw [HEV.o, HE.o, List.append_assoc]⟩
 case done =>
  rintro D xs W hD hxs ⟨hle, vT, vM, vW, vS, A8, c8, m1, ws1, ss1, e1, e2, hDI, hgd, hdr, hev⟩ hK
  rw [hxs, Nat.sub_self] at hdr
  obtain ⟨q1, q2, q3, q4, q5⟩ := hdr
  have HDF := qQ (show DI w2 b7 (b7 + 1) b9 (b9 + 1 + 1) (b9 + 1) N (pC c (.slice At t.length ct) (.slice Am m.length cm) (.slice Aw ws.length cw) (.slice As ss.length cs_)) c t vT vM vW vS A8 c8 m' ws' ss' ev cnt W from by
   rw [hxs] at hDI
   rw [q1, q2, q3, q5, hev, q4, List.append_nil]
   exact hDI)
  clear hDI hgd q1 q2 q3 q4 q5 hev hle
  obtain ⟨aT, xT, eo⟩ := Kd.R_slice HDF.o.pl.hT
  subst eo
  obtain ⟨aM, xM, eo⟩ := Kd.R_slice HDF.o.pl.hM
  subst eo
  obtain ⟨aW, xW, eo⟩ := Kd.R_slice HDF.o.pl.hW
  subst eo
  obtain ⟨aS, xS, eo⟩ := Kd.R_slice HDF.o.pl.hS
  subst eo
  have X1r := qQ ((HDF.o.pl.bel.block _ (blk_lt X1.o)).trans X1.o)
  have EZ := qQ (eight X1r.o (.int .i64 c.w) (.int .i64 c.d) (.int .i64 c.i) (.int .i64 c.s) (.slice aT t.length xT) (.slice aM m'.length xM) (.slice aW ws'.length xW) (.slice aS ss'.length xS))
  have hlo := HLO.o
  have hsz := SZ.o
  have EZ7 := qQ (blk_drew ((EZ.o.2.1 b7 (by omega)).trans HDF.o.pl.hb))
  have EZ8 := qQ (blk_drew ((EZ.o.2.1 (b7 + 1) (by omega)).trans HDF.o.h8))
  have EZ9 := qQ (blk_drew ((EZ.o.2.1 b9 (by omega)).trans HDF.o.h9))
  have hwD : w.heap.size ≤ D := Nat.le_trans B2.o.size (Nat.le_trans hle2 hD)
  have hbD : w.heap.size + 1 ≠ D := by have := blk_lt X1.o; omega
  have hle : w.heap.size ≤ w2.heap.size := B2.o.size
  have HKD := qQ hK
  clear hlo hsz hK
  unfold w8 at EZ EZ7 EZ8 EZ9
  gi_wp2
  refine wpIn_mono ?_ onlyN_le
  refine startIn_ (n := 6) (S := fun W' => W'.heap[b7]? = some (.cells (pC c (.slice aT t.length xT) (.slice aM m'.length xM) (.slice aW ws'.length xW) (.slice aS ss'.length xS)) 34 (0, 0)) ∧ W'.heap[b7 + 1]? = some (.cells #[.slice A8 ev.length c8] 35 (0, 0)) ∧ W'.heap[b9]? = some (.cells #[.int .i64 (cnt : Int)] 3 (0, 0))) (ds := []) (zM 6 0) (by kernel_rfl) (by rintro ⟨a', w', h⟩; exact h) (by kernel_rfl) rfl rfl ⟨blk_drew HDF.o.pl.hb, blk_drew HDF.o.h8, blk_drew HDF.o.h9⟩ (fun hHeld => ?_)
  refine zT 0 1 42 ?_ (hy := zy7)
  refine zT 1 3 43 ?_ (hy := zy7)
  refine zT 2 7 44 ?_ (hy := zy7)
  refine one_ (i := 3) (N := none) (zM 6 15) rfl rfl (by kernel_rfl) (by decide) (fun K hK => ?_)
  have y0 := fun j => blk_cell X1r.o j
  have y1 := fun j => blk_frozen X1r.o j
  go_simp
  clear y0 y1
  refine hK.out _ _ ⟨EZ7.o, EZ8.o, EZ9.o⟩ (fun hHeld => ?_)
  refine zY 4 31 5 ?_
  refine zY 5 63 6 ?_
  refine zD ?_
  dsimp only [onlyN]
  gi_wp2
  have KO := (((((((((KeepsOthers.setCell W ⟨w.heap.size + 1, 0, none⟩ (.int .i64 c.w)).trans (KeepsOthers.setCell _ ⟨w.heap.size + 1, 1, none⟩ (.int .i64 c.d))).trans (KeepsOthers.setCell _ ⟨w.heap.size + 1, 2, none⟩ (.int .i64 c.i))).trans (KeepsOthers.setCell _ ⟨w.heap.size + 1, 3, none⟩ (.int .i64 c.s))).trans (KeepsOthers.setCell _ ⟨w.heap.size + 1, 4, none⟩ (.slice aT t.length xT))).trans (KeepsOthers.setCell _ ⟨w.heap.size + 1, 5, none⟩ (.slice aM m'.length xM))).trans (KeepsOthers.setCell _ ⟨w.heap.size + 1, 6, none⟩ (.slice aW ws'.length xW))).trans (KeepsOthers.setCell _ ⟨w.heap.size + 1, 7, none⟩ (.slice aS ss'.length xS))).trans (keepsB (below_drew (Below.refl _ _)))).same D _ HKD.o rfl
  have f0 := blk_drew EZ.o.1
  have f1 := Kd.R_lower (Kd.R_drew (R_but HDF.o.pl.hT X1r.o (by rw [E45]; decide) EZ.o.2.1)) hle
  have f2 := Kd.R_lower (Kd.R_drew (R_but HDF.o.pl.hM X1r.o (T1 (by decide)) EZ.o.2.1)) hle
  have f3 := Kd.R_lower (Kd.R_drew (R_but HDF.o.pl.hW X1r.o (by rw [EE76]; decide) EZ.o.2.1)) hle
  have f4 := Kd.R_lower (Kd.R_drew (R_but HDF.o.pl.hS X1r.o (by rw [EE68]; decide) EZ.o.2.1)) hle
  have f5 := Kd.R_lower (Kd.R_drew (R_but HDF.o.re X1r.o (by decide) EZ.o.2.1)) hle
  have f6 := below_drew (EZ.o.2.2 _ _ (below_then B2.o B2.o.size HDF.o.pl.bel) (by omega))
  clear EZ EZ7 EZ8 EZ9 X1r HDF HKD
  generalize ((((((((W.setCell ⟨w.heap.size + 1, 0, none⟩ (.int .i64 c.w)).setCell ⟨w.heap.size + 1, 1, none⟩ (.int .i64 c.d)).setCell ⟨w.heap.size + 1, 2, none⟩ (.int .i64 c.i)).setCell ⟨w.heap.size + 1, 3, none⟩ (.int .i64 c.s)).setCell ⟨w.heap.size + 1, 4, none⟩ (.slice aT t.length xT)).setCell ⟨w.heap.size + 1, 5, none⟩ (.slice aM m'.length xM)).setCell ⟨w.heap.size + 1, 6, none⟩ (.slice aW ws'.length xW)).setCell ⟨w.heap.size + 1, 7, none⟩ (.slice aS ss'.length xS)).drew = wf at KO f0 f1 f2 f3 f4 f5 f6 ⊢
  refine ⟨by simp, .inl ⟨_, _, rfl, run_takeDeferred KO, ?_⟩⟩
  have hgr := grownBy_putObj' wf D (.deferred none)
  have hr0 : ∀ r, some D = some r → ∃ o : Obj, wf.heap[r]? = some o ∧ o.isCells = false := fun r e => by cases e; exact ⟨_, KO, rfl⟩
  have p0 := (World.putObj_heap_other (o := .deferred none) hbD).trans f0
  have p1 := R_own f1 hgr hr0
  have p2 := R_own f2 hgr hr0
  have p3 := R_own f3 hgr hr0
  have p4 := R_own f4 hgr hr0
  have p5 := R_own f5 hgr hr0
  have p6 := f6.trans (belowK_b (w := w) (Nat.le_refl _) wf D _ (.deferred none) hwD KO rfl rfl)
  clear f0 f1 f2 f3 f4 f5 f6 KO hgr hr0
  generalize wf.putObj D (.deferred none) = wg at p0 p1 p2 p3 p4 p5 p6 ⊢
  exact ⟨_, results_ctt rfl _ _ (w.heap.size + 1) 34 (pC c (.slice aT t.length xT) (.slice aM m'.length xM) (.slice aW ws'.length xW) (.slice aS ss'.length xS)) (0, 0) _ rfl p0 Tryz.underlying34 rfl (by kernel_rfl), _, _, _, _, _, rfl, p1, p2, p3, p4, p5, p6⟩
 case stop =>
  rintro D cd pre W hD _ ⟨rfl, vT, vM, vW, vS, A8, c8, hDI⟩ hK
  have HDF := qQ hDI
  clear hDI
  obtain ⟨aT, xT, eo⟩ := Kd.R_slice HDF.o.pl.hT
  subst eo
  obtain ⟨aM, xM, eo⟩ := Kd.R_slice HDF.o.pl.hM
  subst eo
  obtain ⟨aW, xW, eo⟩ := Kd.R_slice HDF.o.pl.hW
  subst eo
  obtain ⟨aS, xS, eo⟩ := Kd.R_slice HDF.o.pl.hS
  subst eo
  have X1r := qQ ((HDF.o.pl.bel.block _ (blk_lt X1.o)).trans X1.o)
  have EZ := qQ (eight X1r.o (.int .i64 c.w) (.int .i64 c.d) (.int .i64 c.i) (.int .i64 c.s) (.slice aT t.length xT) (.slice aM m'.length xM) (.slice aW ws'.length xW) (.slice aS ss'.length xS))
  have hlo := HLO.o
  have hsz := SZ.o
  have EZ7 := qQ (blk_drew ((EZ.o.2.1 b7 (by omega)).trans HDF.o.pl.hb))
  have EZ8 := qQ (blk_drew ((EZ.o.2.1 (b7 + 1) (by omega)).trans HDF.o.h8))
  have EZ9 := qQ (blk_drew ((EZ.o.2.1 b9 (by omega)).trans HDF.o.h9))
  have hwD : w.heap.size ≤ D := Nat.le_trans B2.o.size (Nat.le_trans hle2 hD)
  have hbD : w.heap.size + 1 ≠ D := by have := blk_lt X1.o; omega
  have hle : w.heap.size ≤ w2.heap.size := B2.o.size
  have HKD := qQ hK
  clear hlo hsz hK
  unfold w8 at EZ EZ7 EZ8 EZ9
  gi_wp2
  refine wpIn_mono ?_ onlyN_le
  refine startIn_ (n := 6) (S := fun W' => W'.heap[b7]? = some (.cells (pC c (.slice aT t.length xT) (.slice aM m'.length xM) (.slice aW ws'.length xW) (.slice aS ss'.length xS)) 34 (0, 0)) ∧ W'.heap[b7 + 1]? = some (.cells #[.slice A8 ev.length c8] 35 (0, 0)) ∧ W'.heap[b9]? = some (.cells #[.int .i64 (cnt : Int)] 3 (0, 0))) (ds := []) (zM 6 0) (by kernel_rfl) (by rintro ⟨a', w', h⟩; exact h) (by kernel_rfl) rfl rfl ⟨blk_drew HDF.o.pl.hb, blk_drew HDF.o.h8, blk_drew HDF.o.h9⟩ (fun hHeld => ?_)
  refine zT 0 1 42 ?_ (hy := zy7)
  refine zT 1 3 43 ?_ (hy := zy7)
  refine zT 2 7 44 ?_ (hy := zy7)
  refine one_ (i := 3) (N := none) (zM 6 15) rfl rfl (by kernel_rfl) (by decide) (fun K hK => ?_)
  have y0 := fun j => blk_cell X1r.o j
  have y1 := fun j => blk_frozen X1r.o j
  go_simp
  clear y0 y1
  refine hK.out _ _ ⟨EZ7.o, EZ8.o, EZ9.o⟩ (fun hHeld => ?_)
  refine zY 4 31 5 ?_
  refine zY 5 63 6 ?_
  refine zD ?_
  dsimp only [onlyN]
  gi_wp2
  have KO := (((((((((KeepsOthers.setCell W ⟨w.heap.size + 1, 0, none⟩ (.int .i64 c.w)).trans (KeepsOthers.setCell _ ⟨w.heap.size + 1, 1, none⟩ (.int .i64 c.d))).trans (KeepsOthers.setCell _ ⟨w.heap.size + 1, 2, none⟩ (.int .i64 c.i))).trans (KeepsOthers.setCell _ ⟨w.heap.size + 1, 3, none⟩ (.int .i64 c.s))).trans (KeepsOthers.setCell _ ⟨w.heap.size + 1, 4, none⟩ (.slice aT t.length xT))).trans (KeepsOthers.setCell _ ⟨w.heap.size + 1, 5, none⟩ (.slice aM m'.length xM))).trans (KeepsOthers.setCell _ ⟨w.heap.size + 1, 6, none⟩ (.slice aW ws'.length xW))).trans (KeepsOthers.setCell _ ⟨w.heap.size + 1, 7, none⟩ (.slice aS ss'.length xS))).trans (keepsB (below_drew (Below.refl _ _)))).same D _ HKD.o rfl
  have f0 := blk_drew EZ.o.1
  have f1 := Kd.R_lower (Kd.R_drew (R_but HDF.o.pl.hT X1r.o (by rw [E45]; decide) EZ.o.2.1)) hle
  have f2 := Kd.R_lower (Kd.R_drew (R_but HDF.o.pl.hM X1r.o (T1 (by decide)) EZ.o.2.1)) hle
  have f3 := Kd.R_lower (Kd.R_drew (R_but HDF.o.pl.hW X1r.o (by rw [EE76]; decide) EZ.o.2.1)) hle
  have f4 := Kd.R_lower (Kd.R_drew (R_but HDF.o.pl.hS X1r.o (by rw [EE68]; decide) EZ.o.2.1)) hle
  have f5 := Kd.R_lower (Kd.R_drew (R_but HDF.o.re X1r.o (by decide) EZ.o.2.1)) hle
  have f6 := below_drew (EZ.o.2.2 _ _ (below_then B2.o B2.o.size HDF.o.pl.bel) (by omega))
  clear EZ EZ7 EZ8 EZ9 X1r HDF HKD
  generalize ((((((((W.setCell ⟨w.heap.size + 1, 0, none⟩ (.int .i64 c.w)).setCell ⟨w.heap.size + 1, 1, none⟩ (.int .i64 c.d)).setCell ⟨w.heap.size + 1, 2, none⟩ (.int .i64 c.i)).setCell ⟨w.heap.size + 1, 3, none⟩ (.int .i64 c.s)).setCell ⟨w.heap.size + 1, 4, none⟩ (.slice aT t.length xT)).setCell ⟨w.heap.size + 1, 5, none⟩ (.slice aM m'.length xM)).setCell ⟨w.heap.size + 1, 6, none⟩ (.slice aW ws'.length xW)).setCell ⟨w.heap.size + 1, 7, none⟩ (.slice aS ss'.length xS)).drew = wf at KO f0 f1 f2 f3 f4 f5 f6 ⊢
  refine ⟨by simp, .inl ⟨_, _, rfl, run_takeDeferred KO, ?_⟩⟩
  have hgr := grownBy_putObj' wf D (.deferred none)
  have hr0 : ∀ r, some D = some r → ∃ o : Obj, wf.heap[r]? = some o ∧ o.isCells = false := fun r e => by cases e; exact ⟨_, KO, rfl⟩
  have p0 := (World.putObj_heap_other (o := .deferred none) hbD).trans f0
  have p1 := R_own f1 hgr hr0
  have p2 := R_own f2 hgr hr0
  have p3 := R_own f3 hgr hr0
  have p4 := R_own f4 hgr hr0
  have p5 := R_own f5 hgr hr0
  have p6 := f6.trans (belowK_b (w := w) (Nat.le_refl _) wf D _ (.deferred none) hwD KO rfl rfl)
  clear f0 f1 f2 f3 f4 f5 f6 KO hgr hr0
  generalize wf.putObj D (.deferred none) = wg at p0 p1 p2 p3 p4 p5 p6 ⊢
  exact ⟨_, results_ctt rfl _ _ (w.heap.size + 1) 34 (pC c (.slice aT t.length xT) (.slice aM m'.length xM) (.slice aW ws'.length xW) (.slice aS ss'.length xS)) (0, 0) _ rfl p0 Tryz.underlying34 rfl (by kernel_rfl), _, _, _, _, _, rfl, p1, p2, p3, p4, p5, p6⟩
theorem drain_8 (c : Cf) (t : List S45) (At : Option Addr) (ct : Nat) (m : List Int) (Am : Option Addr) (cm : Nat) (ws : List S76) (Aw : Option Addr) (cw : Nat) (ss : List S68) (As : Option Addr) (cs_ : Nat) (N nw : Nat) (m' : List Int) (ws' : List S76) (ss' : List S68) (cnt : Nat) (ev : List S40) (w : World)
  (h : PRd c t At ct m Am cm ws Aw cw ss As cs_ w) (hg : DrGood c t m ws ss) (hk : ∀ x ∈ t, x.f1.length ≤ 1000000) (hN : N < 5000) (hnw : c.w = (nw : Int)) (hnn : nw < 21) (hdr : DrainR c t nw ss.length m' ws' ss' cnt N 0 m ws ss ev) (hen : ev.length ≤ 100000000) :
  Calls Tryz.prog 8 #[.agg (pC c (.slice At t.length ct) (.slice Am m.length cm) (.slice Aw ws.length cw) (.slice As ss.length cs_)), .int .i64 (N : Int)] w fun e w' => ∃ vT vM vW vS ve, e = .returned (.tuple #[.agg (pC c vT vM vW vS), ve, .int .i64 (cnt : Int)]) ∧
   k45.R 45 w' w.heap.size (fun _ => True) vT t ∧ (Kd.int .u64).R 38 w' w.heap.size (fun _ => True) vM m' ∧ k76.R 76 w' w.heap.size (fun _ => True) vW ws' ∧ k68v.R 68 w' w.heap.size (fun _ => True) vS ss' ∧ k40.R 40 w' w.heap.size (fun _ => True) ve ev ∧ Below w.heap.size w w' :=
 callsIn_wide.1 (Drain_in 3 (Nat.le_refl _) c t At ct m Am cm ws Aw cw ss As cs_ N nw m' ws' ss' cnt ev w h hg hk hN hnw hnn hdr hen)
end
def wakeB (e : S40) : Bool := e.f0 == 0 || e.f0 == 3 || e.f0 == 2
def cntW (l : List S40) : Nat := (l.filter wakeB).length
theorem cntW_suc {l : List S40} {k : Nat} {q : S40} (h : l[k]? = some q) : cntW (l.take (k + 1)) = cntW (l.take k) + if wakeB q = true then 1 else 0 := by
 unfold cntW
 rw [List.take_add_one, h, Option.toList_some, List.filter_append, List.length_append]
 congr 1
 by_cases hq : wakeB q = true <;> simp [List.filter_cons, hq]
theorem cntW_le (l : List S40) : cntW l ≤ l.length := List.length_filter_le _ _
theorem u64_suc (k : Nat) (h : k ≤ 1000000) : IntKind.u64.wrap ((k : Int) + 1) = (k : Int) + 1 := by
 rw [IntKind.wrap_u64]
 omega
theorem u64_cast (k : Nat) : Value.int .u64 ((k : Int) + 1) = Value.int .u64 ((k + 1 : Nat) : Int) := by simp
theorem wakes_3 (c : Cf) (t : List S45) (At : Option Addr) (ct : Nat) (roots : List (List Int)) (Ar : Option Addr) (cr : Nat) (sc : List Int) (As : Option Addr) (cs_ : Nat) (w : World) (hT : Kd.C k45 w At t.length t) (hct : t.length ≤ ct) (hR : Kd.C (Kd.slice 3 (Kd.int .i64)) w Ar roots.length roots) (hcr : roots.length ≤ cr) (hS : Kd.C (Kd.int .u8) w As sc.length sc) (hcs : sc.length ≤ cs_)
  (haw : ∀ W, Calls Tryz.prog 4 #[] W fun e W' => e = .returned (.bool true) ∧ Below W.heap.size W W') (b : Bool) (kf : Nat) (hfew : poachertop_few.f kf t roots = some b) (hb : b = true → t.length ≤ 1000000 ∧ (∀ x ∈ t, x.f1.length ≤ 1000000) ∧ roots.length ≤ 1000000 ∧ ∀ l ∈ roots, l.length ≤ 1000000)
  (hmod : b = true → sc.length ≤ 1500 → ∀ m ws ss, newF c t roots = some (m, ws, ss) → DrGood c t m ws ss ∧ ∃ m' ws' ss' ev, RunR c t ss.length m' ws' ss' (decF sc) m ws ss ev ∧ ev.length ≤ 1000000 ∧ IntKind.u64.wrap ((loadF m' 2).tdiv 65536) ≤ (cntW ev : Int)) :
  Calls Tryz.prog 3 #[cfV c, .slice At t.length ct, .slice Ar roots.length cr, .slice As sc.length cs_] w fun e w' => e = .returned (.bool true) ∧ Below w.heap.size w w' := by
 have HT := qQ hT
 have HR := qQ hR
 have HS := qQ hS
 have HAW := qQ haw
 have HFW := qQ hfew
 have HB := qQ hb
 have HMO := qQ hmod
 have B1 := qQ (below_alloc (Below.refl w.heap.size w) (.cells #[.int .i64 c.w, .int .i64 c.d, .int .i64 c.i, .int .i64 c.s] 23))
 have X0 := qQ (blk_new w (.cells #[.int .i64 c.w, .int .i64 c.d, .int .i64 c.i, .int .i64 c.s] 23))
 clear hT hR hS haw hfew hb hmod
 by_cases hgo : b = true ∧ sc.length ≤ 1500
 ·obtain ⟨rfl, hl⟩ := hgo
  have hl5 : ((1500 : Int) < (sc.length : Int)) = False := eq_false (by omega)
  have hbb := HB.o rfl
  have HMO2 := qQ (HMO.o rfl hl)
  clear HMO HB
  cases hnew : newF c t roots with
  | none =>
   have HNW := qQ hnew
   clear hnew
   go_enter Tryz.func3, Tryz.ntmps3
   go_wp2_with (first | (go_at_call 4; (with_reducible refine (HAW.o _).mono ?_); rintro e w2 ⟨rfl, hb⟩; have B2 := below_all B1 ⟨hb⟩; have X2 := qQ (blk_below X0.o hb); clear hb) | (go_at_call 5; (with_reducible refine (poachertop_few.calls kf At ct t Ar cr roots true _ (Kd.C_below HT.o B2.o) hct (Kd.C_below HR.o B2.o) hcr HFW.o).mono ?_); rintro e w3 ⟨rfl, hb⟩; have hb := hb.below; have B3 := below_all B2 ⟨hb⟩; have X3 := qQ (blk_below X2.o hb); have x0 := fun j => blk_cell X3.o j; clear hb) | (go_at_call 6; (with_reducible refine (play_none c t At ct roots Ar cr sc As cs_ _ (Kd.C_below HT.o B3.o) hct (Kd.C_below HR.o B3.o) (Kd.C_below HS.o B3.o) hcs hbb.1 hbb.2.1 hbb.2.2.1 hbb.2.2.2 (by omega) HNW.o).mono ?_); rintro e w4 ⟨rfl, hb⟩; have B4 := below_all B3 ⟨hb⟩; clear hb x0))
   go_ret
   exact ⟨rfl, below_then B4.o B4.o.size (below_alloc (Below.refl _ _) _)⟩
  | some q =>
   obtain ⟨m, ws, ss⟩ := q
   obtain ⟨hg, m', ws', ss', ev, hrun, hen, hle⟩ := HMO2.o m ws ss hnew
   have HNW := qQ hnew
   have HG1 := qQ hg.1
   have hg2 := hg.2.1
   have hg3 := hg.2.2.1
   have HRN := qQ hrun
   have HLE := qQ hle
   clear hnew hg hrun hle HMO2
   go_enter Tryz.func3, Tryz.ntmps3
   go_wp2_with (first | (go_at_call 4; (with_reducible refine (HAW.o _).mono ?_); rintro e w2 ⟨rfl, hb⟩; have B2 := below_all B1 ⟨hb⟩; have X2 := qQ (blk_below X0.o hb); clear hb) | (go_at_call 5; (with_reducible refine (poachertop_few.calls kf At ct t Ar cr roots true _ (Kd.C_below HT.o B2.o) hct (Kd.C_below HR.o B2.o) hcr HFW.o).mono ?_); rintro e w3 ⟨rfl, hb⟩; have hb := hb.below; have B3 := below_all B2 ⟨hb⟩; have X3 := qQ (blk_below X2.o hb); have x0 := fun j => blk_cell X3.o j; clear hb) | (go_at_call 6; (with_reducible refine (play_some c t At ct roots Ar cr sc As cs_ _ (Kd.C_below HT.o B3.o) hct (Kd.C_below HR.o B3.o) (Kd.C_below HS.o B3.o) hcs hbb.1 hbb.2.1 hbb.2.2.1 hbb.2.2.2 (by omega) m m' ws ws' ss ss' ev HNW.o HG1.o hg2 hg3 HRN.o (by omega)).mono ?_); rintro e w4 ⟨vT, vM, vW, vS, ve, rfl, z1, z2, z3, z4, z5, hb⟩; obtain ⟨A1, c1, eo⟩ := Kd.R_slice z1; subst eo; obtain ⟨A2, c2, eo⟩ := Kd.R_slice z2; subst eo; obtain ⟨A3, c3, eo⟩ := Kd.R_slice z3; subst eo; obtain ⟨A4, c4, eo⟩ := Kd.R_slice z4; subst eo; obtain ⟨A5, c5, eo⟩ := Kd.R_slice z5; subst eo; have HA := below_alloc (Below.refl w4.heap.size w4) (.cells (pC c (.slice A1 t.length c1) (.slice A2 m'.length c2) (.slice A3 ws'.length c3) (.slice A4 ss'.length c4)) 34); have B4 := below_all (below_all B3 ⟨hb⟩) ⟨HA⟩; have Y2 := qQ (Kd.R_below z2 HA); have Y5 := qQ (Kd.R_below z5 HA); have P4 := qQ (blk_new w4 (.cells (pC c (.slice A1 t.length c1) (.slice A2 m'.length c2) (.slice A3 ws'.length c3) (.slice A4 ss'.length c4)) 34)); have HLT := qQ (blk_lt P4.o); clear hb x0 HA z1 z2 z3 z4 z5))
   generalize w4.alloc (.cells (pC c (.slice A1 t.length c1) (.slice A2 m'.length c2) (.slice A3 ws'.length c3) (.slice A4 ss'.length c4)) 34) = w5 at B4 Y2 Y5 P4 HLT ⊢
   generalize w4.heap.size = g at P4 HLT ⊢
   have C5 := qQ (Kd.R_reads' Y5.o).2.2
   go_loopw [14, 15] (fun n i wr => ∃ k : Nat, k ≤ ev.length ∧ i = .int .i64 (k : Int) ∧ n = .int .u64 (cntW (ev.take k) : Int) ∧ wr = w5)
    (fun _ i _ => ev.length - (intOf i).toNat)
   case atStart => exact ⟨0, Nat.zero_le _, rfl, rfl, rfl⟩
   case round =>
    obtain ⟨k, hk, rfl, rfl, rfl⟩ := hrel
    by_cases hlt : k < ev.length
    ·obtain ⟨q, hq⟩ : ∃ q, ev[k]? = some q := ⟨_, List.getElem?_eq_getElem hlt⟩
     obtain ⟨ad, rfl, q0, _, _⟩ := at_T40 C5.o k hlt hq
     have kk : ((k : Int) < (ev.length : Int)) = True := eq_true (by omega)
     have k0 : (0 ≤ (k : Int)) = True := eq_true (by omega)
     have hcs := qQ (cntW_suc hq)
     have hc1 : cntW (ev.take k) ≤ 1000000 := Nat.le_trans (cntW_le _) (Nat.le_trans (List.length_take_le _ _) (by omega))
     have ku := u64_suc _ hc1
     clear hq hc1
     generalize hcn : cntW (ev.take k) = cn at hcs ku ⊢
     clear hcn
     by_cases h0 : q.f0 = 0
     ·have d0 : (q.f0 == 0) = true := by simp [h0]
      have H0 := qQ h0
      clear h0
      go_wp2
      go_roundw
      case rel => exact ⟨k + 1, Nat.succ_le_of_lt hlt, i64_suc k, by rw [hcs.o, if_pos (by unfold wakeB; rw [d0]; rfl)]; exact u64_cast cn, by first | trivial | rfl⟩
      case measure => simp [intOf]; omega
     ·by_cases h3 : q.f0 = 3
      ·have d0 : (q.f0 == 0) = false := by simp [h0]
       have d3 : (q.f0 == 3) = true := by simp [h3]
       have H0 := qQ h0
       have H3 := qQ h3
       clear h0 h3
       go_wp2
       go_roundw
       case rel => exact ⟨k + 1, Nat.succ_le_of_lt hlt, i64_suc k, by rw [hcs.o, if_pos (by unfold wakeB; rw [d0, d3]; rfl)]; exact u64_cast cn, by first | trivial | rfl⟩
       case measure => simp [intOf]; omega
      ·by_cases h2 : q.f0 = 2
       ·have d0 : (q.f0 == 0) = false := by simp [h0]
        have d3 : (q.f0 == 3) = false := by simp [h3]
        have d2 : (q.f0 == 2) = true := by simp [h2]
        have H0 := qQ h0
        have H3 := qQ h3
        have H2 := qQ h2
        clear h0 h3 h2
        go_wp2
        go_roundw
        case rel => exact ⟨k + 1, Nat.succ_le_of_lt hlt, i64_suc k, by rw [hcs.o, if_pos (by unfold wakeB; rw [d0, d3, d2]; rfl)]; exact u64_cast cn, by first | trivial | rfl⟩
        case measure => simp [intOf]; omega
       ·have d0 : (q.f0 == 0) = false := by simp [h0]
        have d3 : (q.f0 == 3) = false := by simp [h3]
        have d2 : (q.f0 == 2) = false := by simp [h2]
        have H0 := qQ h0
        have H3 := qQ h3
        have H2 := qQ h2
        clear h0 h3 h2
        go_wp2
        go_roundw
        case rel => exact ⟨k + 1, Nat.succ_le_of_lt hlt, i64_suc k, by rw [hcs.o, if_neg (by unfold wakeB; rw [d0, d3, d2]; decide)]; rfl, by first | trivial | rfl⟩
        case measure => simp [intOf]; omega
    ·have hkk : k = ev.length := by omega
     subst hkk
     have kk : ((ev.length : Int) < (ev.length : Int)) = False := eq_false (by omega)
     have x4 := fun j => blk_cell P4.o j
     rw [List.take_length]
     clear hlt hk
     go_wp2_with (go_at_call 7; (with_reducible refine (Load_calls A2 c2 m' 2 _ (Kd.R_reads' Y2.o).2.2 (Kd.R_reads' Y2.o).2.1).mono ?_); rintro e w6 ⟨rfl, hb⟩; have hb := hb.below; have B6 := below_all B4 ⟨hb⟩; clear hb x4)
     have hle := HLE.o
     go_ret
     refine ⟨?_, B6.o⟩
     have hd : decide (IntKind.u64.wrap ((loadF m' 2).tdiv 65536) ≤ (cntW ev : Int)) = true := decide_eq_true hle
     show Ending.returned (Value.bool (decide (IntKind.u64.wrap ((loadF m' 2).tdiv 65536) ≤ (cntW ev : Int)))) = _
     rw [hd]
 ·clear HMO HB
  have HGO := qQ hgo
  clear hgo
  go_enter Tryz.func3, Tryz.ntmps3
  go_wp2_with (first | (go_at_call 4; (with_reducible refine (HAW.o _).mono ?_); rintro e w2 ⟨rfl, hb⟩; have B2 := below_all B1 ⟨hb⟩; have X2 := qQ (blk_below X0.o hb); clear hb) | (go_at_call 5; (with_reducible refine (poachertop_few.calls kf At ct t Ar cr roots b _ (Kd.C_below HT.o B2.o) hct (Kd.C_below HR.o B2.o) hcr HFW.o).mono ?_); rintro e w3 ⟨rfl, hb⟩; have hb := hb.below; have B3 := below_all B2 ⟨hb⟩; clear hb; cases b; rotate_left; have hl5 : ((1500 : Int) < (sc.length : Int)) = True := eq_true (by have := HGO.o; simp at this; omega)))
  ·go_ret
   exact ⟨rfl, B3.o⟩
  ·go_ret
   exact ⟨rfl, B3.o⟩
end Go.Proofs.YthoeodjgfelkhaaGreat.QT
