/- Part 35 of the claim on TopWakes: a loop over an iterator; turns; draw.Decode; play.Play; Drain's state. No condition. -/
import Derived.Test.YthoeodjgfelkhaaGreatm34
set_option linter.unusedVariables false
set_option linter.unusedSimpArgs false
set_option maxRecDepth 100000
set_option maxHeartbeats 8000000
namespace Go.Proofs.YthoeodjgfelkhaaGreat.QT
open Go.RowKit Go.Proofs.YthoeodjgfelkhaaGreatW.PrintWords Go.Proofs.YthoeodjgfelkhaaGreatW.PrintLast Go.Proofs.YthoeodjgfelkhaaGreatW.PrintMore
attribute [local go_sem] max2_int min2_int max_two min_two
section
variable {F : Fence} {n : Nat} {P : Program} {α : Type}
def SeqC (F : Fence) (n : Nat) (P : Program) (gf : Nat) (lb : Array Value) (encs : α → Array Value) (Cx : List α → α → World → Prop) (Kp : World → World → Prop) (S Sp : List α → Prop) (w0 : World) : Prop :=
 ∀ (l : Nat) (J Jx : List α → World → Prop) (W : World), Below w0.heap.size w0 W → AbidesFrom W.heap.size J → AbidesFrom W.heap.size Jx → l < W.heap.size →
  (∀ pre x W1, J pre W1 → Cx pre x W1 → W.heap.size ≤ W1.heap.size → YieldAt F (n - 1) P l (encs x) W1 fun e W' => (e = .returned (.bool true) ∧ J (pre ++ [x]) W' ∧ Kp W1 W') ∨ (e = .returned (.bool false) ∧ Jx (pre ++ [x]) W')) →
  J [] W → CallsIn F n P gf (#[.func (.yield l) #[] #[]] ++ lb) W fun e W' => (∃ v, e = .returned v) ∧ ((∃ xs, S xs ∧ J xs W') ∨ ∃ pre, Sp pre ∧ Jx pre W')
def outC (Kp : World → World → Prop) (I : List α → World → Prop) (Ix : Code → List α → World → Prop) (xs : List α) (W : World) : Exit → Act → World → Prop
 | .normal, _, W' => KeepsOthers W W' ∧ Kp W W' ∧ I xs W'
 | .exit id, _, W' => KeepsOthers W W' ∧ Ix (.exit id) xs W'
 | _, _, _ => False
theorem rangeC {g : Operand} {ps : Array Tmp} {assign body : Code} {Q : Exit → Act → World → Prop} {a : Act} {w : World} (hro : F.round = none) (h1 : 1 ≤ n) {gf : Nat} {lb : Array Value} (hg : a.eval g = .func (.func gf) #[] lb) (hFg : F.fn gf)
  (eg : ∀ args w, (callFunc gf args).run P w = .ok (.enter gf args) w) {encs : α → Array Value} {Cx : List α → α → World → Prop} {Kp : World → World → Prop} {S Sp : List α → Prop} {w0 : World} (hseq : SeqC F (n - 1) P gf lb encs Cx Kp S Sp w0)
  (hKt : ∀ {A B C : World}, Kp A B → Kp B C → Kp A C) (hKb : ∀ (W : World) (l : Nat) (o o' : Obj), w.heap.size ≤ l → W.heap[l]? = some o → o.isCells = false → o.isWalk = false → Kp W (W.putObj l o'))
  (hCb : ∀ (pre : List α) (x : α) (W : World) (l : Nat) (o o' : Obj), w.heap.size ≤ l → W.heap[l]? = some o → o.isCells = false → Cx pre x W → Cx pre x (W.putObj l o'))
  (hb0 : Below w0.heap.size w0 w) (hps : ∀ x, (encs x).size = ps.size) (I : List α → World → Prop) (Ix : Code → List α → World → Prop) (hI : OwnFrom w.heap.size I) (hIx : ∀ c, OwnFrom w.heap.size (Ix c)) (h0 : I [] w) (a₁ : α → Act)
  (hassign : ∀ (l : Nat) (x : α) (W : World) (K : Act → World → Prop), K (a₁ x) W → assign.wpIn (F.inRound l) (n - 1 - 1) P (Exit.then K (fun _ _ _ => False)) { tmps := (ps.zip (encs x)).foldl (fun t (p, v) => t.setIfInBounds p v) a.tmps, defers := [] } W)
  (hbody : ∀ (l : Nat) (pre : List α) (x : α) (W : World), I pre W → Cx pre x W → body.wpIn (F.inRound l) (n - 1 - 1) P (outC Kp I Ix (pre ++ [x]) W) (a₁ x) W)
  (hdone : ∀ (D : Nat) (xs : List α) (W : World), w.heap.size ≤ D → S xs → I xs W → W.heap[D]? = some (.deferred (some [])) → Q .normal { a with defers := { target := .collected D, args := #[] } :: a.defers } W)
  (hstop : ∀ (D : Nat) (c : Code) (pre : List α) (W : World), w.heap.size ≤ D → Sp pre → Ix c pre W → W.heap[D]? = some (.deferred (some [])) → c.wpIn F n P Q { a with defers := { target := .collected D, args := #[] } :: a.defers } W) :
  (Code.rangeFunc g ps assign body).wpIn F n P Q a w := by
 refine wpIn_rangeFunc fun fn hfn => ?_
 rw [hro]
 let D := w.heap.size
 let L := w.heap.size + 1
 let lp : LoopState → Option Code → Obj := fun st pe => .loop { state := st, pending := pe, fn, tmps := a.tmps, params := ps, assign, body, defers := D }
 let Wb := (w.alloc (.deferred (some []))).alloc (lp .ready none)
 have sz : Wb.heap.size = D + 2 := by show ((w.alloc (.deferred (some []))).alloc (lp .ready none)).heap.size = w.heap.size + 2; simp
 have eL : Wb.heap[L]? = some (lp .ready none) := by
  have h := World.alloc_heap_new (w.alloc (.deferred (some []))) (lp .ready none)
  rwa [World.size_alloc] at h
 have eD : Wb.heap[D]? = some (.deferred (some [])) := (Below.heap_alloc _ _ _ (by simp [D])).trans (World.alloc_heap_new w _)
 have hbW : Below w.heap.size w Wb := ((Below.refl _ w).alloc (Nat.le_refl _) _).alloc (by simp) _
 have wk : ∀ {A : World} {row : Option Nat}, (∀ r, row = some r → Wb.heap.size ≤ r ∧ ∃ o : Obj, A.heap[r]? = some o ∧ o.isWalk = true) → ∀ r, row = some r → w.heap.size ≤ r ∧ ∃ o : Obj, A.heap[r]? = some o ∧ o.isCells = false := fun hr r e => by
  obtain ⟨h, o, ho, hw⟩ := hr r e
  exact ⟨by rw [sz] at h; show D ≤ r; omega, o, ho, Obj.not_cells_of_walk hw⟩
 refine ⟨L, [{ target := .collected D, args := #[] }], Wb, { target := .fn (.func gf) lb, args := #[.func (.yield L) #[] #[]] }, Wb, gf, #[.func (.yield L) #[] #[]] ++ lb, Wb, run_enterLoop_outer _ _ _ _ _, by simp only [resolve, hg]; simp [go_sem], ?_, by simp [invoke, go_sem, eg], fun _ => h1, ?_⟩
 ·intro f' hf'
  simp [Target.leads] at hf'
  subst hf'
  exact hFg
 ·refine (hseq L (fun pre W => I pre W ∧ W.heap[L]? = some (lp .ready none) ∧ W.heap[D]? = some (.deferred (some []))) (fun pre W => ∃ c, Ix c pre W ∧ W.heap[L]? = some (lp .done (some c)) ∧ W.heap[D]? = some (.deferred (some []))) Wb (hb0.trans (hbW.mono hb0.size))
   (fun s A B row hs hgr hr => ⟨hI s A B row hs.1 hgr (wk hr), (grownBy_keeps hgr (fun r e => (hr r e).2) hs.2.1 rfl).trans hs.2.1, (grownBy_keeps hgr (fun r e => (hr r e).2) hs.2.2 rfl).trans hs.2.2⟩)
   (fun s A B row hs hgr hr => by
    obtain ⟨c, hc, e1, e2⟩ := hs
    exact ⟨c, hIx c s A B row hc hgr (wk hr), (grownBy_keeps hgr (fun r e => (hr r e).2) e1 rfl).trans e1, (grownBy_keeps hgr (fun r e => (hr r e).2) e2 rfl).trans e2⟩)
   (by rw [sz]; show w.heap.size + 1 < w.heap.size + 2; omega) ?_ ⟨by exact hI.alloc _ (hI.alloc _ h0), eL, eD⟩).mono ?_
  ·rintro pre x W ⟨hi, e1, e2⟩ hcx _
   have hlt : L < W.heap.size := (Array.getElem?_eq_some_iff.1 e1).1
   refine ⟨fn, _, assign, body, run_yield (P := P) (args := encs x) e1 (hps x), roundIn_of_wpIn hfn (hassign _ x W _ ⟨_, run_beginRound e1 rfl, ?_⟩)⟩
   have b1 : (W.putObj L (lp .busy none)).heap[L]? = some (lp .busy none) := World.putObj_heap_same hlt
   have b2 : (W.putObj L (lp .busy none)).heap[D]? = some (.deferred (some [])) := (World.putObj_heap_other (by show w.heap.size ≠ w.heap.size + 1; omega)).trans e2
   have bk : Kp W (W.putObj L (lp .busy none)) := hKb _ _ _ _ (by show w.heap.size ≤ w.heap.size + 1; omega) e1 rfl rfl
   refine wpIn_mono (hbody _ pre x _ (hI.putObj _ hi (by show w.heap.size ≤ w.heap.size + 1; omega) e1 rfl) (hCb pre x W L _ _ (by show w.heap.size ≤ w.heap.size + 1; omega) e1 rfl hcx)) ?_
   have fin : ∀ (j : Option Code) (W3 : World), KeepsOthers (W.putObj L (lp .busy none)) W3 → (Instr.endRound L j).run P W3 = .ok (.bool j.isNone) (W3.putObj L (lp (if j.isNone then .ready else .done) j)) ∧ W3.heap[L]? = some (lp .busy none) ∧ (W3.putObj L (lp (if j.isNone then .ready else .done) j)).heap[L]? = some (lp (if j.isNone then .ready else .done) j) ∧ (W3.putObj L (lp (if j.isNone then .ready else .done) j)).heap[D]? = some (.deferred (some [])) := fun j W3 hk => by
    have c1 := hk.same _ _ b1 rfl
    exact ⟨run_endRound (P := P) j c1, c1, World.putObj_heap_same (Array.getElem?_eq_some_iff.1 c1).1, (World.putObj_heap_other (by show w.heap.size ≠ w.heap.size + 1; omega)).trans (hk.same _ _ b2 rfl)⟩
   rintro e a3 W3 hp
   cases e with
   | normal =>
    obtain ⟨q1, q2, q3⟩ := hp
    obtain ⟨r1, r2, r3, r4⟩ := fin none W3 q1
    exact ⟨_, _, r1, .inl ⟨rfl, ⟨hI.putObj _ q3 (by show w.heap.size ≤ w.heap.size + 1; omega) r2 rfl, r3, r4⟩, hKt (hKt bk q2) (hKb _ _ _ _ (by show w.heap.size ≤ w.heap.size + 1; omega) r2 rfl rfl)⟩⟩
   | exit id =>
    obtain ⟨q1, q3⟩ := hp
    obtain ⟨r1, r2, r3, r4⟩ := fin (some (.exit id)) W3 q1
    exact ⟨_, _, r1, .inr ⟨rfl, .exit id, (hIx _).putObj _ q3 (by show w.heap.size ≤ w.heap.size + 1; omega) r2 rfl, r3, r4⟩⟩
   | ret => exact hp.elim
   | goto t => exact hp.elim
   | panic ch => exact hp.elim
   | outgrown => exact hp.elim
  ·rintro e W2 ⟨⟨v, rfl⟩, (⟨xs, hS, hi, e1, e2⟩ | ⟨pre, hSp, c, hi, e1, e2⟩)⟩
   ·exact ⟨none, _, run_endLoop (P := P) e1 (by simp), hdone _ xs _ (Nat.le_refl _) hS (hI.putObj _ hi (by show w.heap.size ≤ w.heap.size + 1; omega) e1 rfl) ((World.putObj_heap_other (by show w.heap.size ≠ w.heap.size + 1; omega)).trans e2)⟩
   ·exact ⟨some c, _, run_endLoop (P := P) e1 (by simp), hstop _ c pre _ (Nat.le_refl _) hSp ((hIx c).putObj _ hi (by show w.heap.size ≤ w.heap.size + 1; omega) e1 rfl) ((World.putObj_heap_other (by show w.heap.size ≠ w.heap.size + 1; omega)).trans e2)⟩
end
section
attribute [local go_sem] Oper.semAt_some
def CxT (nw ns N : Nat) (pre : List (Nat × Option Addr × Nat)) (x : Nat × Option Addr × Nat) (W : World) : Prop := x.1 = pre.length ∧ x.1 < N ∧ k83.R 83 W 0 (fun _ => True) (.slice x.2.1 (nw + ns) x.2.2) (roundF nw ns (x.1 : Int))
def encT (nw ns : Nat) (x : Nat × Option Addr × Nat) : Array Value := #[Value.int .i64 (x.1 : Int), .slice x.2.1 (nw + ns) x.2.2]
def KpT (bn bp : Nat) (W W' : World) : Prop := W.heap.size ≤ W'.heap.size ∧ (∀ o, W.heap[bn]? = some o → W'.heap[bn]? = some o) ∧ ∀ o, W.heap[bp]? = some o → W'.heap[bp]? = some o
theorem u64_small (k : Nat) (h : k < 5000) : IntKind.u64.wrap (k : Int) = (k : Int) := by
 rw [IntKind.wrap_u64]
 omega
theorem roundF_len (nw ns : Nat) (d : Int) : (roundF nw ns d).length = nw + ns := by simp [roundF, rowsF]
theorem turns_in (n : Nat) (hn : 1 ≤ n) (l bn bp N nw : Nat) (c : Cf) (t : List S45) (At : Option Addr) (ct : Nat) (m : List Int) (Am : Option Addr) (cm : Nat) (ws : List S76) (Aw : Option Addr) (cw : Nat) (ss : List S68) (As : Option Addr) (cs_ : Nat) (J Jx : List (Nat × Option Addr × Nat) → World → Prop) (W : World) (hN : N < 5000) (hnw : c.w = (nw : Int)) (h1 : nw < 21) (h2 : ss.length < 21) (habJ : AbidesFrom W.heap.size J)
  (hY : ∀ pre x W1, J pre W1 → CxT nw ss.length N pre x W1 → W.heap.size ≤ W1.heap.size → YieldAt Fence.wide (n - 1) Tryz.prog l (encT nw ss.length x) W1 fun e W' => (e = .returned (.bool true) ∧ J (pre ++ [x]) W' ∧ KpT bn bp W1 W') ∨ (e = .returned (.bool false) ∧ Jx (pre ++ [x]) W'))
  (hB : W.heap[bn]? = some (.cells #[.int .i64 (N : Int)] 3 (0, 0))) (hP : W.heap[bp]? = some (.cells (pC c (.slice At t.length ct) (.slice Am m.length cm) (.slice Aw ws.length cw) (.slice As ss.length cs_)) 34 (0, 0))) (h0 : J [] W) :
  CallsIn Fence.wide n Tryz.prog 39 #[.func (.yield l) #[] #[], .pointer (some ⟨bn, 0, none⟩), .pointer (some ⟨bp, 0, none⟩)] W fun e W' => (∃ v, e = .returned v) ∧ ((∃ xs, xs.length = N ∧ J xs W') ∨ ∃ pre, True ∧ Jx pre W') := by
 refine callsIn_of_wp Tryz.func39 rfl trivial ?_ rfl
 simp only [Tryz.ntmps39, List.size_toArray, List.length_cons, List.length_nil, Nat.reduceAdd, Nat.reduceSub, Array.replicate_succ, Array.replicate_zero, List.push_toArray, List.append_toArray, List.nil_append, List.cons_append]
 have HAB := qQ habJ
 have HY := qQ hY
 have HNW := qQ hnw
 have HRD := fun d w => round_40 nw ss.length d w h1 h2
 rw [← hnw] at HRD
 have HRDA := qQ HRD
 clear habJ hY hnw HRD
 gi_wp2
 gi_loopw [4] (fun i wr => ∃ (k : Nat) (pre : List (Nat × Option Addr × Nat)), k ≤ N ∧ i = .int .i64 (k : Int) ∧ Aside0 (pre.length = k) ∧ Aside0 (J pre wr) ∧ Aside0 (W.heap.size ≤ wr.heap.size) ∧ Aside0 (wr.heap[bn]? = some (.cells #[.int .i64 (N : Int)] 3 (0, 0))) ∧ Aside0 (wr.heap[bp]? = some (.cells (pC c (.slice At t.length ct) (.slice Am m.length cm) (.slice Aw ws.length cw) (.slice As ss.length cs_)) 34 (0, 0))))
  (fun i _ => N - (intOf i).toNat)
 case atStart => exact ⟨0, [], Nat.zero_le _, rfl, ⟨rfl⟩, ⟨h0⟩, ⟨Nat.le_refl _⟩, ⟨hB⟩, ⟨hP⟩⟩
 case round =>
  obtain ⟨k, pre, hk, rfl, HL, HJ, HZ, HN0, HP0⟩ := hrel
  have n0 := (blk_cell HN0.o 0).trans rfl
  have p0 := fun j => blk_cell HP0.o j
  have m1 : ((N : Int) ≤ 5000) = True := eq_true (by omega)
  have m2 : ((5000 : Int) ≤ (N : Int)) = False := eq_false (by omega)
  have m3 : ((N : Int) < 5000) = True := eq_true (by omega)
  have m4 : ((5000 : Int) < (N : Int)) = False := eq_false (by omega)
  by_cases hlt : k < N
  ·have kk : ((k : Int) < (N : Int)) = True := eq_true (by omega)
   have kc : IntKind.u64.wrap (k : Int) = (k : Int) := u64_small k (by omega)
   have HLT := qQ hlt
   have hk5 : k < 5000 := by omega
   clear hlt hk h0 hB hP
   gi_wp2_with (refine ⟨trivial, (callsIn_wide.2 (HRDA.o (k : Int) _)).mono ?_⟩; rintro e w1 ⟨v, rfl, hr, hb⟩; obtain ⟨A1, c1, eo⟩ := Kd.R_slice hr; subst eo; rw [roundF_len] at hr; have HC := qQ (Kd.R_lower hr (Nat.zero_le _)); have HJ1 := qQ (HAB.o _ _ _ none HJ.o (grown_of_below hb none) (fun r e => by cases e)); have HZ1 := qQ (Nat.le_trans HZ.o hb.size); have HN1 := qQ (blk_below HN0.o hb); have HP1 := qQ (blk_below HP0.o hb); clear hr hb n0 p0; rw [roundF_len])
   obtain ⟨fn, tmps, assign, body, hy, hR⟩ := HY.o pre (k, A1, c1) w1 HJ1.o ⟨HL.o.symm, HLT.o, HC.o⟩ HZ1.o
   dsimp only [encT] at hy
   rw [hy]
   first | refine hR.mono ?_ | (gi_wp2; refine hR.mono ?_)
   rintro e W3 (⟨rfl, hJ3, hk3⟩ | ⟨rfl, hJx3⟩)
   ·have HJ3 := qQ hJ3
    have HK3 := qQ hk3
    clear hJ3 hk3 hy hR
    gi_wp2
    go_roundw
    case rel => exact ⟨k + 1, pre ++ [(k, A1, c1)], HLT.o, by first | exact i64_suc k | (rw [w64_succ k (by omega)]), ⟨by rw [List.length_append, HL.o]; rfl⟩, HJ3, ⟨Nat.le_trans HZ1.o HK3.o.1⟩, ⟨HK3.o.2.1 _ HN1.o⟩, ⟨HK3.o.2.2 _ HP1.o⟩⟩
    case measure => have := HLT.o; simp [intOf]; omega
   ·clear hy hR
    gi_wp2
    refine bodyPost_ret (results_none rfl _ _ _) rfl ?_
    exact ⟨⟨_, rfl⟩, .inr ⟨_, trivial, hJx3⟩⟩
  ·obtain rfl : k = N := by omega
   have kk : ((k : Int) < (k : Int)) = False := eq_false (by omega)
   gi_wp2
   first | go_end0 | refine bodyPost_ret (results_none rfl _ _ _) rfl ?_
   exact ⟨⟨_, rfl⟩, .inl ⟨pre, HL.o, HJ.o⟩⟩
theorem turns_seq (n : Nat) (hn : 1 ≤ n) (bn bp N nw : Nat) (c : Cf) (t : List S45) (At : Option Addr) (ct : Nat) (m : List Int) (Am : Option Addr) (cm : Nat) (ws : List S76) (Aw : Option Addr) (cw : Nat) (ss : List S68) (As : Option Addr) (cs_ : Nat) (w0 : World) (hN : N < 5000) (hnw : c.w = (nw : Int)) (h1 : nw < 21) (h2 : ss.length < 21)
  (hB : w0.heap[bn]? = some (.cells #[.int .i64 (N : Int)] 3 (0, 0))) (hP : w0.heap[bp]? = some (.cells (pC c (.slice At t.length ct) (.slice Am m.length cm) (.slice Aw ws.length cw) (.slice As ss.length cs_)) 34 (0, 0))) :
  SeqC Fence.wide n Tryz.prog 39 #[.pointer (some ⟨bn, 0, none⟩), .pointer (some ⟨bp, 0, none⟩)] (encT nw ss.length) (CxT nw ss.length N) (KpT bn bp) (fun xs => xs.length = N) (fun _ => True) w0 := fun l J Jx W hW habJ _ _ hY h0 =>
 turns_in n hn l bn bp N nw c t At ct m Am cm ws Aw cw ss As cs_ J Jx W hN hnw h1 h2 habJ hY (blk_below hB hW) (blk_below hP hW) h0
theorem turns_18 (n N : Nat) (c : Cf) (t : List S45) (At : Option Addr) (ct : Nat) (m : List Int) (Am : Option Addr) (cm : Nat) (ws : List S76) (Aw : Option Addr) (cw : Nat) (ss : List S68) (As : Option Addr) (cs_ : Nat) (w : World) :
  CallsIn Fence.wide n Tryz.prog 18 #[.agg (pC c (.slice At t.length ct) (.slice Am m.length cm) (.slice Aw ws.length cw) (.slice As ss.length cs_)), .int .i64 (N : Int)] w fun e w' => e = .returned (.func (.func 39) #[] #[.pointer (some ⟨w.heap.size + 1, 0, none⟩), .pointer (some ⟨w.heap.size, 0, none⟩)]) ∧ w' = (w.alloc (.cells (pC c (.slice At t.length ct) (.slice Am m.length cm) (.slice Aw ws.length cw) (.slice As ss.length cs_)) 34)).alloc (.cells #[.int .i64 (N : Int)] 3) := by
 refine callsIn_of_wp Tryz.func18 rfl trivial ?_ rfl
 simp only [Tryz.ntmps18, List.size_toArray, List.length_cons, List.length_nil, Nat.reduceAdd, Nat.reduceSub, Array.replicate_succ, Array.replicate_zero, List.push_toArray, List.append_toArray, List.nil_append, List.cons_append]
 gi_wp2
 go_ret
 exact ⟨rfl, rfl⟩
end
section
open Go.RowKit Go.Proofs.YthoeodjgfelkhaaGreatW.PrintWords Go.Proofs.YthoeodjgfelkhaaGreatW.PrintLast Go.Proofs.YthoeodjgfelkhaaGreatW.PrintMore Go.Proofs.YthoeodjgfelkhaaGreat.Hnd
def toP (p : Int × Int × Int) : S83 := ⟨p.1, p.2.1, p.2.2⟩
def decF (l : List Int) : List S83 := (pks l (chunksTo l.length ((l.length + 2) / 3))).map toP
theorem chunks_more (len k : Nat) (h : len ≤ 3 * k) : ∀ d, chunksTo len (k + d) = chunksTo len k
 | 0 => rfl
 | d + 1 => by
  rw [← chunks_more len k h d, ← Nat.add_assoc]
  simp [chunksTo, List.range_succ, List.filterMap_append, show ¬ 3 * (k + d) < len by omega]
theorem pks_dec (l : List Int) (k : Nat) (h : l.length ≤ 3 * k) : (pks l (chunksTo l.length k)).map toP = decF l := by
 unfold decF
 have h2 : l.length ≤ 3 * ((l.length + 2) / 3) := by omega
 obtain ⟨d, hd⟩ : ∃ d, k = (l.length + 2) / 3 + d := ⟨k - (l.length + 2) / 3, by omega⟩
 rw [hd, chunks_more _ _ h2]
theorem reps_pc (W : World) (base : Nat) (ok : Nat → Prop) : ∀ ps : List (Int × Int × Int), Reps (k83.M W base ok) 3 (ps.map toP) (pcells ps)
 | [] => Reps.none _ _
 | p :: ps => by
  have h := Kd.reps_append ((Reps.none (k83.M W base ok) 3).snoc (k83_mkM W base ok (toP p)) rfl) (reps_pc W base ok ps)
  simpa [pcells, toP] using h
theorem decF_len (l : List Int) : (decF l).length ≤ l.length := by
 unfold decF
 rw [List.length_map]
 have h1 := pks_len (l := l) (chunksTo l.length ((l.length + 2) / 3))
 have h2 := chunksTo_len l.length ((l.length + 2) / 3)
 have h3 : l.length = 0 → (chunksTo l.length ((l.length + 2) / 3)).length = 0 := fun h => by have := chunksTo_len l.length ((l.length + 2) / 3); omega
 omega
theorem decode_15 (A : Option Addr) (cap : Nat) (l : List Int) (w : World) (hc : Kd.C (Kd.int .u8) w A l.length l) (hcap : l.length ≤ cap) (hl : l.length ≤ 100000) :
  Calls Tryz.prog 15 #[.slice A l.length cap] w fun e w' => ∃ v, e = .returned v ∧ k83.R 83 w' w.heap.size (fun _ => True) v (decF l) ∧ Below w.heap.size w w' := by
 obtain ⟨ad, hA⟩ : ∃ ad : Addr, 0 < l.length → A = some ad := by
  rcases Nat.eq_zero_or_pos l.length with h | h
  ·exact ⟨⟨0, 0, none⟩, fun h2 => absurd h2 (by omega)⟩
  ·obtain ⟨ad, e, _⟩ := hc.2.2 h
   exact ⟨ad, fun _ => e⟩
 refine (callsIn_wide.1 (Decode_in 3 (Nat.le_refl _) A ad cap l hA hl hcap w (fun j u hj => ?_))).mono ?_
 ·have hlt := (List.getElem?_eq_some_iff.1 hj).1
  obtain ⟨ad', e, h⟩ := Kd.at_int hc (j : Int) (by omega) (by omega)
  rw [hA (by omega)] at e
  injection e with e
  subst e
  rw [Int.toNat_natCast] at h
  rw [h]
  simp [rd, List.getD_eq_getElem?_getD, hj]
 ·rintro e w' ⟨v, k, rfl, hk, hown, hb⟩
  refine ⟨v, rfl, ⟨fun _ _ => trivial, pcells (pks l (chunksTo l.length k)), ?_, ?_⟩, hb⟩
  ·rw [← pks_dec l k hk, List.length_map]
   exact hown
  ·rw [← pks_dec l k hk]
   exact reps_pc _ _ _ _
end
theorem play_none (c : Cf) (t : List S45) (At : Option Addr) (ct : Nat) (roots : List (List Int)) (Ar : Option Addr) (cr : Nat) (sc : List Int) (As : Option Addr) (cs_ : Nat) (w : World) (hT : Kd.C k45 w At t.length t) (hct : t.length ≤ ct) (hR : Kd.C (Kd.slice 3 (Kd.int .i64)) w Ar roots.length roots) (hS : Kd.C (Kd.int .u8) w As sc.length sc) (hcs : sc.length ≤ cs_) (htn : t.length ≤ 1000000) (hk : ∀ x ∈ t, x.f1.length ≤ 1000000) (hrn : roots.length ≤ 1000000) (hrk : ∀ l ∈ roots, l.length ≤ 1000000) (hsn : sc.length ≤ 100000) (hnew : newF c t roots = none) :
  Calls Tryz.prog 6 #[cfV c, .slice At t.length ct, .slice Ar roots.length cr, .slice As sc.length cs_] w fun e w' => e = .returned (.tuple #[.agg zP, .slice none 0 0, .bool false]) ∧ Below w.heap.size w w' := by
 have HNW := qQ hnew
 clear hnew
 have HT := qQ hT
 have HR := qQ hR
 have HS := qQ hS
 have HK := qQ hk
 have HRK := qQ hrk
 have B2 := qQ (show Below w.heap.size w ((w.alloc (.cells #[.int .i64 c.w, .int .i64 c.d, .int .i64 c.i, .int .i64 c.s] 23)).alloc (.cells #[.int .i64 0, .int .i64 0, .int .i64 0, .int .i64 0, .slice none 0 0, .slice none 0 0, .slice none 0 0, .slice none 0 0] 34)) from below_alloc (below_alloc (Below.refl _ _) _) _)
 have X0 := qQ (show (((w.alloc (.cells #[.int .i64 c.w, .int .i64 c.d, .int .i64 c.i, .int .i64 c.s] 23)).alloc (.cells #[.int .i64 0, .int .i64 0, .int .i64 0, .int .i64 0, .slice none 0 0, .slice none 0 0, .slice none 0 0, .slice none 0 0] 34))).heap[w.heap.size]? = some (.cells #[.int .i64 c.w, .int .i64 c.d, .int .i64 c.i, .int .i64 c.s] 23 (0, 0)) from blk_alloc (blk_new _ _) _)
 have X1 := qQ (show (((w.alloc (.cells #[.int .i64 c.w, .int .i64 c.d, .int .i64 c.i, .int .i64 c.s] 23)).alloc (.cells #[.int .i64 0, .int .i64 0, .int .i64 0, .int .i64 0, .slice none 0 0, .slice none 0 0, .slice none 0 0, .slice none 0 0] 34))).heap[w.heap.size + 1]? = some (.cells #[.int .i64 0, .int .i64 0, .int .i64 0, .int .i64 0, .slice none 0 0, .slice none 0 0, .slice none 0 0, .slice none 0 0] 34 (0, 0)) from by have := blk_new (w.alloc (.cells #[.int .i64 c.w, .int .i64 c.d, .int .i64 c.i, .int .i64 c.s] 23)) (.cells #[.int .i64 0, .int .i64 0, .int .i64 0, .int .i64 0, .slice none 0 0, .slice none 0 0, .slice none 0 0, .slice none 0 0] 34); simpa using this)
 have x0 := fun j => blk_cell X0.o j
 clear hT hR hS hk hrk
 go_enter Tryz.func6, Tryz.ntmps6
 generalize hw2 : ((w.alloc (.cells #[.int .i64 c.w, .int .i64 c.d, .int .i64 c.i, .int .i64 c.s] 23)).alloc (.cells #[.int .i64 0, .int .i64 0, .int .i64 0, .int .i64 0, .slice none 0 0, .slice none 0 0, .slice none 0 0, .slice none 0 0] 34)) = w2 at B2 X0 X1 x0
 go_wp2_with (first | (go_at_call 13; (with_reducible refine (new_13 c t At ct roots Ar cr w2 (Kd.C_below HT.o B2.o) hct (Kd.C_below HR.o B2.o) htn HK.o hrn HRK.o).mono ?_); rintro e w3 ⟨hb, h⟩; rcases h with ⟨_, _, _, _, _, _, _, h, _⟩ | ⟨_, rfl⟩; (rw [HNW.o] at h; cases h); have C3 := qQ hb; clear hb x0; have y0 := fun j => blk_cell (blk_alloc (blk_below X1.o C3.o) (.cells zP 34)) j; have y1 := fun j => blk_frozen (blk_alloc (blk_below X1.o C3.o) (.cells zP 34)) j))
 clear y0 y1
 have EZ := eight (blk_alloc (blk_below X1.o C3.o) (.cells zP 34)) (.int .i64 0) (.int .i64 0) (.int .i64 0) (.int .i64 0) (.slice none 0 0) (.slice none 0 0) (.slice none 0 0) (.slice none 0 0)
 refine bodyPost_ret (results_ctt rfl _ _ (w.heap.size + 1) 34 zP (0, 0) _ rfl EZ.1 Tryz.underlying34 rfl (by kernel_rfl)) rfl ?_
 exact ⟨rfl, EZ.2.2 _ _ (below_then B2.o B2.o.size (below_then C3.o C3.o.size (below_alloc (Below.refl _ _) _))) (by omega)⟩
theorem play_some (c : Cf) (t : List S45) (At : Option Addr) (ct : Nat) (roots : List (List Int)) (Ar : Option Addr) (cr : Nat) (sc : List Int) (As : Option Addr) (cs_ : Nat) (w : World) (hT : Kd.C k45 w At t.length t) (hct : t.length ≤ ct) (hR : Kd.C (Kd.slice 3 (Kd.int .i64)) w Ar roots.length roots) (hS : Kd.C (Kd.int .u8) w As sc.length sc) (hcs : sc.length ≤ cs_) (htn : t.length ≤ 1000000) (hk : ∀ x ∈ t, x.f1.length ≤ 1000000) (hrn : roots.length ≤ 1000000) (hrk : ∀ l ∈ roots, l.length ≤ 1000000) (hsn : sc.length ≤ 100000) (m m' : List Int) (ws ws' : List S76) (ss ss' : List S68) (ev : List S40) (hnew : newF c t roots = some (m, ws, ss)) (hpm : PMay c t m ws ss) (hmn : m.length ≤ 1000000) (hwn : ws.length ≤ 1000000) (hrun : RunR c t ss.length m' ws' ss' (decF sc) m ws ss ev) (hen : ev.length ≤ 1000000000) :
  Calls Tryz.prog 6 #[cfV c, .slice At t.length ct, .slice Ar roots.length cr, .slice As sc.length cs_] w fun e w' => ∃ vT vM vW vS ve, e = .returned (.tuple #[.agg (pC c vT vM vW vS), ve, .bool true]) ∧
   k45.R 45 w' w.heap.size (fun _ => True) vT t ∧ (Kd.int .u64).R 38 w' w.heap.size (fun _ => True) vM m' ∧ k76.R 76 w' w.heap.size (fun _ => True) vW ws' ∧ k68v.R 68 w' w.heap.size (fun _ => True) vS ss' ∧ k40.R 40 w' w.heap.size (fun _ => True) ve ev ∧ Below w.heap.size w w' := by
 have HNW := qQ hnew
 have HPM := qQ hpm
 have HRUN := qQ hrun
 have HEN := qQ hen
 clear hnew hpm hrun hen
 have HT := qQ hT
 have HR := qQ hR
 have HS := qQ hS
 have HK := qQ hk
 have HRK := qQ hrk
 have B2 := qQ (show Below w.heap.size w ((w.alloc (.cells #[.int .i64 c.w, .int .i64 c.d, .int .i64 c.i, .int .i64 c.s] 23)).alloc (.cells #[.int .i64 0, .int .i64 0, .int .i64 0, .int .i64 0, .slice none 0 0, .slice none 0 0, .slice none 0 0, .slice none 0 0] 34)) from below_alloc (below_alloc (Below.refl _ _) _) _)
 have X0 := qQ (show (((w.alloc (.cells #[.int .i64 c.w, .int .i64 c.d, .int .i64 c.i, .int .i64 c.s] 23)).alloc (.cells #[.int .i64 0, .int .i64 0, .int .i64 0, .int .i64 0, .slice none 0 0, .slice none 0 0, .slice none 0 0, .slice none 0 0] 34))).heap[w.heap.size]? = some (.cells #[.int .i64 c.w, .int .i64 c.d, .int .i64 c.i, .int .i64 c.s] 23 (0, 0)) from blk_alloc (blk_new _ _) _)
 have X1 := qQ (show (((w.alloc (.cells #[.int .i64 c.w, .int .i64 c.d, .int .i64 c.i, .int .i64 c.s] 23)).alloc (.cells #[.int .i64 0, .int .i64 0, .int .i64 0, .int .i64 0, .slice none 0 0, .slice none 0 0, .slice none 0 0, .slice none 0 0] 34))).heap[w.heap.size + 1]? = some (.cells #[.int .i64 0, .int .i64 0, .int .i64 0, .int .i64 0, .slice none 0 0, .slice none 0 0, .slice none 0 0, .slice none 0 0] 34 (0, 0)) from by have := blk_new (w.alloc (.cells #[.int .i64 c.w, .int .i64 c.d, .int .i64 c.i, .int .i64 c.s] 23)) (.cells #[.int .i64 0, .int .i64 0, .int .i64 0, .int .i64 0, .slice none 0 0, .slice none 0 0, .slice none 0 0, .slice none 0 0] 34); simpa using this)
 have x0 := fun j => blk_cell X0.o j
 clear hT hR hS hk hrk
 go_enter Tryz.func6, Tryz.ntmps6
 generalize hw2 : ((w.alloc (.cells #[.int .i64 c.w, .int .i64 c.d, .int .i64 c.i, .int .i64 c.s] 23)).alloc (.cells #[.int .i64 0, .int .i64 0, .int .i64 0, .int .i64 0, .slice none 0 0, .slice none 0 0, .slice none 0 0, .slice none 0 0] 34)) = w2 at B2 X0 X1 x0
 go_wp2_with (first | (go_at_call 13; (with_reducible refine (new_13 c t At ct roots Ar cr w2 (Kd.C_below HT.o B2.o) hct (Kd.C_below HR.o B2.o) htn HK.o hrn HRK.o).mono ?_); rintro e w3 ⟨hb, h⟩; rcases h with ⟨m0, ws0, ss0, vT, vM, vW, vS, h, rfl, r1, r2, r3, r4⟩ | ⟨h, _⟩; rotate_left; (rw [HNW.o] at h; cases h); (rw [HNW.o] at h; simp only [Option.some.injEq, Prod.mk.injEq] at h; obtain ⟨rfl, rfl, rfl⟩ := h); obtain ⟨A1, c1, eo⟩ := Kd.R_slice r1; subst eo; obtain ⟨A2, c2, eo⟩ := Kd.R_slice r2; subst eo; obtain ⟨A3, c3, eo⟩ := Kd.R_slice r3; subst eo; obtain ⟨A4, c4, eo⟩ := Kd.R_slice r4; subst eo; have HA := below_alloc (Below.refl w3.heap.size w3) (.cells (pC c (.slice A1 t.length c1) (.slice A2 m.length c2) (.slice A3 ws.length c3) (.slice A4 ss.length c4)) 34); have C4 := qQ (below_then hb hb.size HA); have Q1 := qQ (Kd.R_below r1 HA); have Q2 := qQ (Kd.R_below r2 HA); have Q3 := qQ (Kd.R_below r3 HA); have Q4 := qQ (Kd.R_below r4 HA); have P4 := qQ (blk_new w3 (.cells (pC c (.slice A1 t.length c1) (.slice A2 m.length c2) (.slice A3 ws.length c3) (.slice A4 ss.length c4)) 34)); have HG4 := qQ hb.size; have HLT := qQ (blk_lt P4.o); clear hb r1 r2 r3 r4 x0 HA))
 generalize hw4 : w3.alloc (.cells (pC c (.slice A1 t.length c1) (.slice A2 m.length c2) (.slice A3 ws.length c3) (.slice A4 ss.length c4)) 34) = w4 at C4 Q1 Q2 Q3 Q4 P4 HLT
 generalize w3.heap.size = g at P4 HG4 HLT hw4
 clear hw4
 refine zS 10 [8] (fun W' => W'.heap[g]? = some (.cells (pC c (.slice A1 t.length c1) (.slice A2 m.length c2) (.slice A3 ws.length c3) (.slice A4 ss.length c4)) 34 (0, 0))) (blk_drew P4.o) fun hHeld => ?_
 refine zT 0 1 26 ?_ (hy := zy19)
 refine zY 1 3 27 ?_
 refine join_ (σ := ((Option Addr × Nat) × (Option Addr × Nat) × (Option Addr × Nat) × (Option Addr × Nat) × (Option Addr × Nat) × (Option Addr × Nat)) × Nat) 2 (zM 10 255) (fun s => [(28, (.slice s.1.1.1 (decF sc).length s.1.1.2)), (29, .tuple #[.agg #[.int .i64 c.w, .int .i64 c.d, .int .i64 c.i, .int .i64 c.s, (.slice s.1.2.1.1 t.length s.1.2.1.2), (.slice s.1.2.2.1.1 m'.length s.1.2.2.1.2), (.slice s.1.2.2.2.1.1 ws'.length s.1.2.2.2.1.2), (.slice s.1.2.2.2.2.1.1 ss'.length s.1.2.2.2.2.1.2)], (.slice s.1.2.2.2.2.2.1 ev.length s.1.2.2.2.2.2.2)]), (25, .tuple #[.agg #[.int .i64 c.w, .int .i64 c.d, .int .i64 c.i, .int .i64 c.s, (.slice s.1.2.1.1 t.length s.1.2.1.2), (.slice s.1.2.2.1.1 m'.length s.1.2.2.1.2), (.slice s.1.2.2.2.1.1 ws'.length s.1.2.2.2.1.2), (.slice s.1.2.2.2.2.1.1 ss'.length s.1.2.2.2.2.1.2)], (.slice s.1.2.2.2.2.2.1 ev.length s.1.2.2.2.2.2.2)]), (30, .agg #[.int .i64 c.w, .int .i64 c.d, .int .i64 c.i, .int .i64 c.s, (.slice s.1.2.1.1 t.length s.1.2.1.2), (.slice s.1.2.2.1.1 m'.length s.1.2.2.1.2), (.slice s.1.2.2.2.1.1 ws'.length s.1.2.2.2.1.2), (.slice s.1.2.2.2.2.1.1 ss'.length s.1.2.2.2.2.1.2)]), (31, (.slice s.1.2.2.2.2.2.1 ev.length s.1.2.2.2.2.2.2)), (13, .pointer (some ⟨s.2, 0, none⟩))]) (fun s W' => Below w4.heap.size w4 W' ∧ k45.R 45 W' w4.heap.size (fun _ => True) (.slice s.1.2.1.1 t.length s.1.2.1.2) t ∧ (Kd.int .u64).R 38 W' w4.heap.size (fun _ => True) (.slice s.1.2.2.1.1 m'.length s.1.2.2.1.2) m' ∧ k76.R 76 W' w4.heap.size (fun _ => True) (.slice s.1.2.2.2.1.1 ws'.length s.1.2.2.2.1.2) ws' ∧ k68v.R 68 W' w4.heap.size (fun _ => True) (.slice s.1.2.2.2.2.1.1 ss'.length s.1.2.2.2.2.1.2) ss' ∧ k40.R 40 W' w4.heap.size (fun _ => True) (.slice s.1.2.2.2.2.2.1 ev.length s.1.2.2.2.2.2.2) ev ∧ W'.heap[s.2]? = some (.cells #[.int .i64 0, .int .i64 0, .int .i64 0, .int .i64 0, .slice none 0 0, .slice none 0 0, .slice none 0 0, .slice none 0 0] 34 (0, 0)) ∧ w4.heap.size ≤ s.2) ?_ ?_
 rotate_left
 ·intro hcont
  have q0 := below_drew (Below.refl w4.heap.size w4)
  refine two_ (i := 2) (j := 7) (Ni := some 28) (Nj := some 13) (zM 10 7) (zM 10 131) rfl rfl rfl rfl (by kernel_rfl) (by decide) (by decide) (fun K hK => ?_) (fun K hK => ?_)
  ·go_simp
   (with_reducible refine (decode_15 As cs_ sc _ (Kd.C_below HS.o (below_then B2.o B2.o.size (below_then C4.o C4.o.size q0))) hcs hsn).mono ?_)
   rintro e v1 ⟨v, rfl, hr, hd⟩
   obtain ⟨AD, cD, eo⟩ := Kd.R_slice hr
   subst eo
   have rD1 := (Kd.R_reads' hr).2.2
   have q1 := below_then q0 q0.size hd
   refine hK.out _ _ ((q1.block _ HLT.o).trans P4.o) (fun hHeld => ?_)
   refine two_ (i := 3) (j := 7) (Ni := some 29) (Nj := some 13) (zM 10 15) (zM 10 135) rfl rfl rfl rfl (by kernel_rfl) (by decide) (by decide) (fun K hK => ?_) (fun K hK => ?_)
   ·go_simp
    (with_reducible refine (run_14 c t A1 c1 m A2 c2 ws A3 c3 ss A4 c4 (decF sc) AD cD m' ws' ss' ev _ ⟨(Kd.R_reads' (Kd.R_below Q1.o q1)).2.2, (Kd.R_reads' (Kd.R_below Q2.o q1)).2.2, (Kd.R_reads' (Kd.R_below Q3.o q1)).2.2, (Kd.R_reads' (Kd.R_below Q4.o q1)).2.2, (Kd.R_reads' Q1.o).2.1, (Kd.R_reads' Q2.o).2.1⟩ rD1 HPM.o hmn hwn HK.o (Nat.le_trans (decF_len sc) (Nat.le_trans hsn (by omega))) HRUN.o HEN.o).mono ?_)
    rintro e v2 ⟨xT, xM, xW, xS, xE, rfl, z1, z2, z3, z4, z5, hd⟩
    obtain ⟨AT, cT, eo⟩ := Kd.R_slice z1
    subst eo
    have rT2 := Kd.R_lower z1 q1.size
    obtain ⟨AM, cM, eo⟩ := Kd.R_slice z2
    subst eo
    have rM2 := Kd.R_lower z2 q1.size
    obtain ⟨AW, cW, eo⟩ := Kd.R_slice z3
    subst eo
    have rW2 := Kd.R_lower z3 q1.size
    obtain ⟨AS, cS, eo⟩ := Kd.R_slice z4
    subst eo
    have rS2 := Kd.R_lower z4 q1.size
    obtain ⟨AE, cE, eo⟩ := Kd.R_slice z5
    subst eo
    have rE2 := Kd.R_lower z5 q1.size
    have q2 := below_then q1 q1.size hd
    refine hK.out _ _ ((q2.block _ HLT.o).trans P4.o) (fun hHeld => ?_)
    refine zY 4 31 25 ?_
    refine zY 5 63 30 ?_
    refine zY 6 127 31 ?_
    refine zO 7 255 13 fun K hK => ?_
    go_simp
    have hg3 := blk_new v2 (.cells #[.int .i64 0, .int .i64 0, .int .i64 0, .int .i64 0, .slice none 0 0, .slice none 0 0, .slice none 0 0, .slice none 0 0] 34)
    have q3 := below_then q2 q2.size (below_alloc (Below.refl _ _) (.cells #[.int .i64 0, .int .i64 0, .int .i64 0, .int .i64 0, .slice none 0 0, .slice none 0 0, .slice none 0 0, .slice none 0 0] 34))
    have rD3 := Kd.C_below rD1 (below_alloc (Below.refl _ _) (.cells #[.int .i64 0, .int .i64 0, .int .i64 0, .int .i64 0, .slice none 0 0, .slice none 0 0, .slice none 0 0, .slice none 0 0] 34))
    have rT3 := Kd.R_below rT2 (below_alloc (Below.refl _ _) (.cells #[.int .i64 0, .int .i64 0, .int .i64 0, .int .i64 0, .slice none 0 0, .slice none 0 0, .slice none 0 0, .slice none 0 0] 34))
    have rM3 := Kd.R_below rM2 (below_alloc (Below.refl _ _) (.cells #[.int .i64 0, .int .i64 0, .int .i64 0, .int .i64 0, .slice none 0 0, .slice none 0 0, .slice none 0 0, .slice none 0 0] 34))
    have rW3 := Kd.R_below rW2 (below_alloc (Below.refl _ _) (.cells #[.int .i64 0, .int .i64 0, .int .i64 0, .int .i64 0, .slice none 0 0, .slice none 0 0, .slice none 0 0, .slice none 0 0] 34))
    have rS3 := Kd.R_below rS2 (below_alloc (Below.refl _ _) (.cells #[.int .i64 0, .int .i64 0, .int .i64 0, .int .i64 0, .slice none 0 0, .slice none 0 0, .slice none 0 0, .slice none 0 0] 34))
    have rE3 := Kd.R_below rE2 (below_alloc (Below.refl _ _) (.cells #[.int .i64 0, .int .i64 0, .int .i64 0, .int .i64 0, .slice none 0 0, .slice none 0 0, .slice none 0 0, .slice none 0 0] 34))
    refine hK.out _ _ ((q3.block _ HLT.o).trans P4.o) (fun hHeld => ?_)
    exact norm_ rfl (hcont (((AD, cD), (AT, cT), (AM, cM), (AW, cW), (AS, cS), (AE, cE)), v2.heap.size) _ ⟨q3, rT3, rM3, rW3, rS3, rE3, hg3, q2.size⟩)
   ·go_simp
    have hg4 := blk_new v1 (.cells #[.int .i64 0, .int .i64 0, .int .i64 0, .int .i64 0, .slice none 0 0, .slice none 0 0, .slice none 0 0, .slice none 0 0] 34)
    have q4 := below_then q1 q1.size (below_alloc (Below.refl _ _) (.cells #[.int .i64 0, .int .i64 0, .int .i64 0, .int .i64 0, .slice none 0 0, .slice none 0 0, .slice none 0 0, .slice none 0 0] 34))
    have rD4 := Kd.C_below rD1 (below_alloc (Below.refl _ _) (.cells #[.int .i64 0, .int .i64 0, .int .i64 0, .int .i64 0, .slice none 0 0, .slice none 0 0, .slice none 0 0, .slice none 0 0] 34))
    refine hK.out _ _ ((q4.block _ HLT.o).trans P4.o) (fun hHeld => ?_)
    refine zO 3 143 29 fun K hK => ?_
    go_simp
    (with_reducible refine (run_14 c t A1 c1 m A2 c2 ws A3 c3 ss A4 c4 (decF sc) AD cD m' ws' ss' ev _ ⟨(Kd.R_reads' (Kd.R_below Q1.o q4)).2.2, (Kd.R_reads' (Kd.R_below Q2.o q4)).2.2, (Kd.R_reads' (Kd.R_below Q3.o q4)).2.2, (Kd.R_reads' (Kd.R_below Q4.o q4)).2.2, (Kd.R_reads' Q1.o).2.1, (Kd.R_reads' Q2.o).2.1⟩ rD4 HPM.o hmn hwn HK.o (Nat.le_trans (decF_len sc) (Nat.le_trans hsn (by omega))) HRUN.o HEN.o).mono ?_)
    rintro e v5 ⟨xT, xM, xW, xS, xE, rfl, z1, z2, z3, z4, z5, hd⟩
    obtain ⟨AT, cT, eo⟩ := Kd.R_slice z1
    subst eo
    have rT5 := Kd.R_lower z1 q4.size
    obtain ⟨AM, cM, eo⟩ := Kd.R_slice z2
    subst eo
    have rM5 := Kd.R_lower z2 q4.size
    obtain ⟨AW, cW, eo⟩ := Kd.R_slice z3
    subst eo
    have rW5 := Kd.R_lower z3 q4.size
    obtain ⟨AS, cS, eo⟩ := Kd.R_slice z4
    subst eo
    have rS5 := Kd.R_lower z4 q4.size
    obtain ⟨AE, cE, eo⟩ := Kd.R_slice z5
    subst eo
    have rE5 := Kd.R_lower z5 q4.size
    have hg5 := blk_below hg4 hd
    have q5 := below_then q4 q4.size hd
    refine hK.out _ _ ((q5.block _ HLT.o).trans P4.o) (fun hHeld => ?_)
    refine zY 4 159 25 ?_
    refine zY 5 191 30 ?_
    refine zY 6 255 31 ?_
    exact norm_ rfl (hcont (((AD, cD), (AT, cT), (AM, cM), (AW, cW), (AS, cS), (AE, cE)), v1.heap.size) _ ⟨q5, rT5, rM5, rW5, rS5, rE5, hg5, q1.size⟩)
  ·go_simp
   have hg6 := blk_drew (blk_new w4 (.cells #[.int .i64 0, .int .i64 0, .int .i64 0, .int .i64 0, .slice none 0 0, .slice none 0 0, .slice none 0 0, .slice none 0 0] 34))
   have q6 := below_drew (below_alloc (Below.refl w4.heap.size w4) (.cells #[.int .i64 0, .int .i64 0, .int .i64 0, .int .i64 0, .slice none 0 0, .slice none 0 0, .slice none 0 0, .slice none 0 0] 34))
   refine hK.out _ _ ((q6.block _ HLT.o).trans P4.o) (fun hHeld => ?_)
   refine zO 2 135 28 fun K hK => ?_
   go_simp
   (with_reducible refine (decode_15 As cs_ sc _ (Kd.C_below HS.o (below_then B2.o B2.o.size (below_then C4.o C4.o.size q6))) hcs hsn).mono ?_)
   rintro e v7 ⟨v, rfl, hr, hd⟩
   obtain ⟨AD, cD, eo⟩ := Kd.R_slice hr
   subst eo
   have rD7 := (Kd.R_reads' hr).2.2
   have hg7 := blk_below hg6 hd
   have q7 := below_then q6 q6.size hd
   refine hK.out _ _ ((q7.block _ HLT.o).trans P4.o) (fun hHeld => ?_)
   refine zO 3 143 29 fun K hK => ?_
   go_simp
   (with_reducible refine (run_14 c t A1 c1 m A2 c2 ws A3 c3 ss A4 c4 (decF sc) AD cD m' ws' ss' ev _ ⟨(Kd.R_reads' (Kd.R_below Q1.o q7)).2.2, (Kd.R_reads' (Kd.R_below Q2.o q7)).2.2, (Kd.R_reads' (Kd.R_below Q3.o q7)).2.2, (Kd.R_reads' (Kd.R_below Q4.o q7)).2.2, (Kd.R_reads' Q1.o).2.1, (Kd.R_reads' Q2.o).2.1⟩ rD7 HPM.o hmn hwn HK.o (Nat.le_trans (decF_len sc) (Nat.le_trans hsn (by omega))) HRUN.o HEN.o).mono ?_)
   rintro e v8 ⟨xT, xM, xW, xS, xE, rfl, z1, z2, z3, z4, z5, hd⟩
   obtain ⟨AT, cT, eo⟩ := Kd.R_slice z1
   subst eo
   have rT8 := Kd.R_lower z1 q7.size
   obtain ⟨AM, cM, eo⟩ := Kd.R_slice z2
   subst eo
   have rM8 := Kd.R_lower z2 q7.size
   obtain ⟨AW, cW, eo⟩ := Kd.R_slice z3
   subst eo
   have rW8 := Kd.R_lower z3 q7.size
   obtain ⟨AS, cS, eo⟩ := Kd.R_slice z4
   subst eo
   have rS8 := Kd.R_lower z4 q7.size
   obtain ⟨AE, cE, eo⟩ := Kd.R_slice z5
   subst eo
   have rE8 := Kd.R_lower z5 q7.size
   have hg8 := blk_below hg7 hd
   have q8 := below_then q7 q7.size hd
   refine hK.out _ _ ((q8.block _ HLT.o).trans P4.o) (fun hHeld => ?_)
   refine zY 4 159 25 ?_
   refine zY 5 191 30 ?_
   refine zY 6 255 31 ?_
   exact norm_ rfl (hcont (((AD, cD), (AT, cT), (AM, cM), (AW, cW), (AS, cS), (AE, cE)), w4.heap.size) _ ⟨q8, rT8, rM8, rW8, rS8, rE8, hg8, Nat.le_refl _⟩)
 rintro ⟨⟨⟨AD, cD⟩, ⟨AT, cT⟩, ⟨AM, cM⟩, ⟨AW, cW⟩, ⟨AS, cS⟩, ⟨AE, cE⟩⟩, g6⟩ w6 ⟨hb, z1, z2, z3, z4, z5, hz, hle⟩
 simp only [putAll, Act.put, List.setIfInBounds_toArray, List.set_cons_zero, List.set_cons_succ] at hb z1 z2 z3 z4 z5 hz hle ⊢
 have C6 := qQ hb
 have Z1 := qQ z1
 have Z2 := qQ z2
 have Z3 := qQ z3
 have Z4 := qQ z4
 have Z5 := qQ z5
 have HZ6 := qQ hz
 have HG6 := qQ hle
 clear hb z1 z2 z3 z4 z5 hz hle
 refine zL 8 511 fun K hK => ?_
 have y0 := fun j => blk_cell HZ6.o j
 have y1 := fun j => blk_frozen HZ6.o j
 go_simp
 refine hK.out _ _ ?_
 clear y0 y1
 refine zY 9 1023 14 ?_
 refine zD ?_
 have HF6 := qQ (eight HZ6.o (.int .i64 c.w) (.int .i64 c.d) (.int .i64 c.i) (.int .i64 c.s) (.slice AT t.length cT) (.slice AM m'.length cM) (.slice AW ws'.length cW) (.slice AS ss'.length cS))
 have C7 := qQ (HF6.o.2.2 _ _ C6.o HG6.o)
 have Z1' := qQ (R_but Z1.o HZ6.o (by rw [E45]; decide) HF6.o.2.1)
 have Z2' := qQ (R_but Z2.o HZ6.o (T1 (by decide)) HF6.o.2.1)
 have Z3' := qQ (R_but Z3.o HZ6.o (by rw [EE76]; decide) HF6.o.2.1)
 have Z4' := qQ (R_but Z4.o HZ6.o (by rw [EE68]; decide) HF6.o.2.1)
 have Z5' := qQ (R_but Z5.o HZ6.o (by decide) HF6.o.2.1)
 have P7 := qQ HF6.o.1
 unfold w8 at C7 Z1' Z2' Z3' Z4' Z5' P7
 clear HF6 Z1 Z2 Z3 Z4 Z5 HZ6
 generalize ((((((((w6.setCell ⟨g6, 0, none⟩ (.int .i64 c.w)).setCell ⟨g6, 1, none⟩ (.int .i64 c.d)).setCell ⟨g6, 2, none⟩ (.int .i64 c.i)).setCell ⟨g6, 3, none⟩ (.int .i64 c.s)).setCell ⟨g6, 4, none⟩ (.slice AT t.length cT)).setCell ⟨g6, 5, none⟩ (.slice AM m'.length cM)).setCell ⟨g6, 6, none⟩ (.slice AW ws'.length cW)).setCell ⟨g6, 7, none⟩ (.slice AS ss'.length cS)) = w7 at C7 Z1' Z2' Z3' Z4' Z5' P7 ⊢
 have B7 := qQ (below_then C4.o C4.o.size C7.o)
 have X7 := qQ (blk_below X1.o B7.o)
 have x0 := fun j => blk_cell P7.o j
 have y0 := fun j => blk_cell X7.o j
 have y1 := fun j => blk_frozen X7.o j
 have EZ := qQ (eight X7.o (.int .i64 c.w) (.int .i64 c.d) (.int .i64 c.i) (.int .i64 c.s) (.slice AT t.length cT) (.slice AM m'.length cM) (.slice AW ws'.length cW) (.slice AS ss'.length cS))
 unfold w8 at EZ
 go_wp2
 clear x0 y0 y1
 refine bodyPost_ret (results_ctt rfl _ _ (w.heap.size + 1) 34 (pC c (.slice AT t.length cT) (.slice AM m'.length cM) (.slice AW ws'.length cW) (.slice AS ss'.length cS)) (0, 0) _ rfl EZ.o.1 Tryz.underlying34 rfl (by kernel_rfl)) rfl ?_
 have hle : w.heap.size ≤ w4.heap.size := Nat.le_trans B2.o.size C4.o.size
 exact ⟨_, _, _, _, _, rfl, Kd.R_lower (R_but Z1'.o X7.o (by rw [E45]; decide) EZ.o.2.1) hle, Kd.R_lower (R_but Z2'.o X7.o (T1 (by decide)) EZ.o.2.1) hle, Kd.R_lower (R_but Z3'.o X7.o (by rw [EE76]; decide) EZ.o.2.1) hle, Kd.R_lower (R_but Z4'.o X7.o (by rw [EE68]; decide) EZ.o.2.1) hle, Kd.R_lower (R_but Z5'.o X7.o (by decide) EZ.o.2.1) hle, EZ.o.2.2 _ _ (below_then B2.o B2.o.size B7.o) (by omega)⟩
section
open Go.RowKit Go.Proofs.YthoeodjgfelkhaaGreatW.PrintWords Go.Proofs.YthoeodjgfelkhaaGreatW.PrintLast Go.Proofs.YthoeodjgfelkhaaGreatW.PrintMore Go.Proofs.YthoeodjgfelkhaaGreat.Bri
theorem startIn_ {P : Program} {ops : Array Oper} {Q : Exit → Act → World → Prop} {S : World → Prop} {ds : List Nat} {ro : Option Nat} {m id n : Nat} {a : Act} {w : World} (l : Array Bool) (hm : P.follows .mixedOrders = true) (hL : ¬ LetsOut Q) (hd : noDefer ops = true) (hn : ops.size = n) (hl : Array.replicate n false = l) (hS : S w.drew)
  (h : S w.drew → wpAnyLast P .any ops Q S ds n l a w.drew) : (Code.region id ops true).wpIn (wideAt ro) m P Q a w := by
 subst hn
 subst hl
 exact wpIn_region_any hm (wpAnyIn_wide hL hd _ _ _ _ (wpAny_of_last _ _ _ _ (h hS)))
section
variable {α : Type} {d : Kd α} {e base : Nat} {ok : Nat → Prop} {v : Value} {xs : List α} {W W1 : World}
theorem R_own (h : d.R e W base ok v xs) {row : Option Nat} (hg : W.grownBy W1 row) (hr : ∀ r, row = some r → ∃ o : Obj, W.heap[r]? = some o ∧ o.isCells = false) : d.R e W1 base ok v xs :=
 Kd.R_mono (Kd.R_grown (Kd.R_bound h) hg (fun k hk e1 => by
  obtain ⟨_, _, _, q, _, cells, hc⟩ := hk
  obtain ⟨o, ho, hn⟩ := hr k e1.symm
  rw [hc] at ho
  injection ho with ho
  subst ho
  cases hn)) (fun _ h => h.1)
theorem R_low (h : d.R e W base ok v xs) {g i : Nat} {u : Value} (hg : g < base) : d.R e (W.setCell ⟨g, i, none⟩ u) base ok v xs :=
 Kd.R_mono (Kd.R_move (Kd.R_bound h) (fun k hk => Below.heap_setCell W ⟨g, i, none⟩ u k (by have := hk.2.1; show k ≠ g; omega))) (fun _ h => h.1)
theorem blk_own {g t : Nat} {cells : Array Value} (h : W.heap[g]? = some (.cells cells t (0, 0))) {row : Option Nat} (hg : W.grownBy W1 row) (hr : ∀ r, row = some r → ∃ o : Obj, W.heap[r]? = some o ∧ o.isCells = false) : W1.heap[g]? = some (.cells cells t (0, 0)) :=
 blk_grown h hg (fun e1 => by
  obtain ⟨o, ho, hn⟩ := hr g e1.symm
  rw [h] at ho
  injection ho with ho
  subst ho
  cases hn)
end
theorem keepsB {W W1 : World} (h : Below W.heap.size W W1) : KeepsOthers W W1 := ⟨h.size, fun k o hk _ => (h.block k (Array.getElem?_eq_some_iff.1 hk).1).trans hk⟩
def DrGood (c : Cf) (t : List S45) (m : List Int) (ws : List S76) (ss : List S68) : Prop := PMay c t m ws ss ∧ m.length ≤ 1000000 ∧ ws.length ≤ 1000000 ∧ ss.length ≤ 3
def DrainR (c : Cf) (t : List S45) (nw ns : Nat) (m' : List Int) (ws' : List S76) (ss' : List S68) (cnt : Nat) : Nat → Nat → List Int → List S76 → List S68 → List S40 → Prop
 | 0, i, m, ws, ss, ev => m' = m ∧ ws' = ws ∧ ss' = ss ∧ ev = [] ∧ cnt = i
 | r + 1, i, m, ws, ss, ev => (restedB c m ws ss = true ∧ m' = m ∧ ws' = ws ∧ ss' = ss ∧ ev = [] ∧ cnt = i) ∨
  (restedB c m ws ss = false ∧ ∃ m1 ws1 ss1 e1 e2, RunR c t ss.length m1 ws1 ss1 (roundF nw ns (i : Int)) m ws ss e1 ∧ e1.length ≤ 100000000 ∧ DrGood c t m1 ws1 ss1 ∧ DrainR c t nw ns m' ws' ss' cnt r (i + 1) m1 ws1 ss1 e2 ∧ ev = e1 ++ e2)
structure DI (w2 : World) (b7 b8 b9 bn bp N : Nat) (P0 : Array Value) (c : Cf) (t : List S45) (vT vM vW vS : Value) (A8 : Option Addr) (c8 : Nat) (m : List Int) (ws : List S76) (ss : List S68) (e : List S40) (i : Nat) (W : World) : Prop where
 pl : PL w2 b7 c vT vM vW vS t m ws ss W
 h8 : W.heap[b8]? = some (.cells #[.slice A8 e.length c8] 35 (0, 0))
 re : k40.R 40 W w2.heap.size (fun _ => True) (.slice A8 e.length c8) e
 h9 : W.heap[b9]? = some (.cells #[.int .i64 (i : Int)] 3 (0, 0))
 hn : W.heap[bn]? = some (.cells #[.int .i64 (N : Int)] 3 (0, 0))
 hp : W.heap[bp]? = some (.cells P0 34 (0, 0))
section
variable {w2 : World} {b7 b8 b9 bn bp N : Nat} {P0 : Array Value} {c : Cf} {t : List S45} {vT vM vW vS : Value} {A8 : Option Addr} {c8 : Nat} {m : List Int} {ws : List S76} {ss : List S68} {e : List S40} {i : Nat} {W W1 : World}
theorem DI.below (h : DI w2 b7 b8 b9 bn bp N P0 c t vT vM vW vS A8 c8 m ws ss e i W) (hb : Below W.heap.size W W1) : DI w2 b7 b8 b9 bn bp N P0 c t vT vM vW vS A8 c8 m ws ss e i W1 := ⟨h.pl.below hb, blk_below h.h8 hb, Kd.R_below h.re hb, blk_below h.h9 hb, blk_below h.hn hb, blk_below h.hp hb⟩
theorem DI.own (h : DI w2 b7 b8 b9 bn bp N P0 c t vT vM vW vS A8 c8 m ws ss e i W) {row : Option Nat} (hg : W.grownBy W1 row) (hr : ∀ r, row = some r → w2.heap.size ≤ r ∧ ∃ o : Obj, W.heap[r]? = some o ∧ o.isCells = false) : DI w2 b7 b8 b9 bn bp N P0 c t vT vM vW vS A8 c8 m ws ss e i W1 := by
 have hr2 : ∀ r, row = some r → ∃ o : Obj, W.heap[r]? = some o ∧ o.isCells = false := fun r e => (hr r e).2
 exact ⟨⟨h.pl.bel.grown hg h.pl.bel.size (fun k e => (hr k e).1), blk_own h.pl.hb hg hr2, h.pl.hg, R_own h.pl.hT hg hr2, R_own h.pl.hM hg hr2, R_own h.pl.hW hg hr2, R_own h.pl.hS hg hr2⟩, blk_own h.h8 hg hr2, R_own h.re hg hr2, blk_own h.h9 hg hr2, blk_own h.hn hg hr2, blk_own h.hp hg hr2⟩
theorem DI.next {a0 a1 a2 a3 a4 a5 a6 a7 v8 v9 : Value} {nb : Nat} (hlo : w2.heap.size ≤ b7 ∧ b7 < b8 ∧ b8 < b9 ∧ b9 < bp ∧ bp < bn) (h7 : W.heap[b7]? = some (.cells #[a0, a1, a2, a3, a4, a5, a6, a7] 34 (0, 0))) (h8 : W.heap[b8]? = some (.cells #[v8] 35 (0, 0))) (h9 : W.heap[b9]? = some (.cells #[v9] 3 (0, 0)))
  (hn : W.heap[bn]? = some (.cells #[.int .i64 (N : Int)] 3 (0, 0))) (hp : W.heap[bp]? = some (.cells P0 34 (0, 0))) (hb : Below w2.heap.size w2 W) (hnb : bn < nb) (r1 : k45.R 45 W nb (fun _ => True) vT t) (r2 : (Kd.int .u64).R 38 W nb (fun _ => True) vM m) (r3 : k76.R 76 W nb (fun _ => True) vW ws) (r4 : k68v.R 68 W nb (fun _ => True) vS ss)
  (re : k40.R 40 W w2.heap.size (fun _ => True) (.slice A8 e.length c8) e) :
  DI w2 b7 b8 b9 bn bp N P0 c t vT vM vW vS A8 c8 m ws ss e (i + 1) (((w8 W b7 (.int .i64 c.w) (.int .i64 c.d) (.int .i64 c.i) (.int .i64 c.s) vT vM vW vS).setCell ⟨b8, 0, none⟩ (.slice A8 e.length c8)).setCell ⟨b9, 0, none⟩ (.int .i64 ((i + 1 : Nat) : Int))) := by
 obtain ⟨g1, g2, g3⟩ := eight h7 (.int .i64 c.w) (.int .i64 c.d) (.int .i64 c.i) (.int .i64 c.s) vT vM vW vS
 have k8 := (g2 b8 (by omega)).trans h8
 have k9 := (g2 b9 (by omega)).trans h9
 have far : ∀ {g t' : Nat} {cs : Array Value}, g ≠ b7 → g ≠ b8 → g ≠ b9 → W.heap[g]? = some (.cells cs t' (0, 0)) → (((w8 W b7 (.int .i64 c.w) (.int .i64 c.d) (.int .i64 c.i) (.int .i64 c.s) vT vM vW vS).setCell ⟨b8, 0, none⟩ (.slice A8 e.length c8)).setCell ⟨b9, 0, none⟩ (.int .i64 ((i + 1 : Nat) : Int))).heap[g]? = some (.cells cs t' (0, 0)) := fun n7 n8 n9 hg =>
  blk_far (p := ⟨b9, 0, none⟩) (blk_far (p := ⟨b8, 0, none⟩) ((g2 _ n7).trans hg) n8 _) n9 _
 have e7 : (((w8 W b7 (.int .i64 c.w) (.int .i64 c.d) (.int .i64 c.i) (.int .i64 c.s) vT vM vW vS).setCell ⟨b8, 0, none⟩ (.slice A8 e.length c8)).setCell ⟨b9, 0, none⟩ (.int .i64 ((i + 1 : Nat) : Int))).heap[b7]? = some (.cells (pC c vT vM vW vS) 34 (0, 0)) :=
  blk_far (p := ⟨b9, 0, none⟩) (blk_far (p := ⟨b8, 0, none⟩) g1 (by show b7 ≠ b8; omega) _) (by show b7 ≠ b9; omega) _
 have hle : w2.heap.size ≤ nb := by omega
 refine ⟨⟨((g3 _ _ hb (by omega)).setCell (p := ⟨b8, 0, none⟩) (by show w2.heap.size ≤ b8; omega) _).setCell (p := ⟨b9, 0, none⟩) (by show w2.heap.size ≤ b9; omega) _, e7, by omega, ?_, ?_, ?_, ?_⟩, ?_, ?_, ?_, far (by omega) (by omega) (by omega) hn, far (by omega) (by omega) (by omega) hp⟩
 ·exact Kd.R_lower (R_low (Kd.R_set (R_but r1 h7 (by rw [E45]; decide) g2) k8 (by rw [E45]; decide) _ _) (by omega)) hle
 ·exact Kd.R_lower (R_low (Kd.R_set (R_but r2 h7 (T1 (by decide)) g2) k8 (T1 (by decide)) _ _) (by omega)) hle
 ·exact Kd.R_lower (R_low (Kd.R_set (R_but r3 h7 (by rw [EE76]; decide) g2) k8 (by rw [EE76]; decide) _ _) (by omega)) hle
 ·exact Kd.R_lower (R_low (Kd.R_set (R_but r4 h7 (by rw [EE68]; decide) g2) k8 (by rw [EE68]; decide) _ _) (by omega)) hle
 ·exact blk_far (p := ⟨b9, 0, none⟩) (by simpa using blk_set k8 0 (.slice A8 e.length c8)) (by show b8 ≠ b9; omega) _
 ·exact Kd.R_set (Kd.R_set (R_but re h7 (by decide) g2) k8 (T1 (by decide)) _ _) (blk_far (p := ⟨b8, 0, none⟩) k9 (by show b9 ≠ b8; omega) _) (T1 (by decide)) _ _
 ·simpa using blk_set (blk_far (p := ⟨b8, 0, none⟩) k9 (by show b9 ≠ b8; omega) (.slice A8 e.length c8)) 0 (.int .i64 ((i + 1 : Nat) : Int))
end
end
end Go.Proofs.YthoeodjgfelkhaaGreat.QT
