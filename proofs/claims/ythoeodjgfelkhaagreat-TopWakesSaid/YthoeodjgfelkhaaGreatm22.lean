/- Part 22 of the claim on TopWakes: steal.Step. No condition. -/
import Derived.Test.YthoeodjgfelkhaaGreatm18
set_option linter.unusedVariables false
set_option linter.unusedSimpArgs false
set_option maxRecDepth 100000
set_option maxHeartbeats 8000000
namespace Go.Proofs.YthoeodjgfelkhaaGreat.QT
open Go.RowKit Go.Proofs.YthoeodjgfelkhaaGreatW.PrintWords Go.Proofs.YthoeodjgfelkhaaGreatW.PrintLast Go.Proofs.YthoeodjgfelkhaaGreatW.PrintMore
attribute [local go_sem] max2_int min2_int max_two min_two
structure SS (w : World) (c : Cf) (f z : S66) (ob : Nat) (bo : List (Nat × Int)) (v : Value) (l : List Int) (W : World) : Prop where
 ds : DS w c f z v l W
 ho : W.heap[ob]? = some (.cells #[v] 30 (0, 0))
 lo : w.heap.size + 1 + 1 < ob
 hb : ∀ x, x ∈ bo → W.heap[x.1]? = some (.cells #[.int .i64 x.2] 3 (0, 0)) ∧ ob < x.1
def SS0 (w : World) (c : Cf) (f : S66) (ob : Nat) (v : Value) (W : World) : Prop := Two w c f W ∧ W.heap[ob]? = some (.cells #[v] 30 (0, 0))
section
variable {w : World} {c : Cf} {f z : S66} {ob : Nat} {bo : List (Nat × Int)} {v : Value} {l : List Int} {W W1 : World}
theorem SS.thr (h : SS w c f z ob bo v l W) : Thr w c f z W := h.ds.thr
theorem SS.hr (h : SS w c f z ob bo v l W) : (Kd.int .u64).R 38 W w.heap.size (fun _ => True) v l := h.ds.hr
theorem SS.s0 (h : SS w c f z ob bo v l W) : SS0 w c f ob v W := ⟨h.thr.two, h.ho⟩
theorem SS.bel (h : SS w c f z ob bo v l W) : Below w.heap.size w W := h.thr.two.hb
theorem SS.below (h : SS w c f z ob bo v l W) (hb : Below W.heap.size W W1) : SS w c f z ob bo v l W1 := ⟨h.ds.below hb, blk_below h.ho hb, h.lo, fun x hx => ⟨blk_below (h.hb x hx).1 hb, (h.hb x hx).2⟩⟩
theorem SS.drew (h : SS w c f z ob bo v l W) : SS w c f z ob bo v l W.drew := ⟨h.ds.drew, h.ho, h.lo, h.hb⟩
theorem SS.start (h : DS w c f z v l W) : SS w c f z W.heap.size [] v l (W.alloc (.cells #[v] 30)) := ⟨h.below (below_alloc (Below.refl _ _) _), blk_new _ _, h.thr.lt, fun x hx => by cases hx⟩
theorem SS.fr1 (h : SS w c f z ob bo v l W) {f' : S66} {i : Nat} {u : Value} (hd : DS w c f' z v l (W.setCell ⟨w.heap.size + 1, i, none⟩ u)) : SS w c f' z ob bo v l (W.setCell ⟨w.heap.size + 1, i, none⟩ u) :=
 ⟨hd, blk_far h.ho (by have := h.lo; show ob ≠ w.heap.size + 1; omega) u, h.lo, fun x hx => ⟨blk_far (h.hb x hx).1 (by have := h.lo; have := (h.hb x hx).2; show x.1 ≠ w.heap.size + 1; omega) u, (h.hb x hx).2⟩⟩
theorem SS.f0 (h : SS w c f z ob bo v l W) (x : Int) : SS w c { f with f0 := x } z ob bo v l (W.setCell ⟨w.heap.size + 1, 0, none⟩ (.int .i64 x)) := h.fr1 (h.ds.f0 x)
theorem SS.f1 (h : SS w c f z ob bo v l W) (x : Int) : SS w c { f with f1 := x } z ob bo v l (W.setCell ⟨w.heap.size + 1, 1, none⟩ (.int .i64 x)) := h.fr1 (h.ds.f1 x)
theorem SS.f3 (h : SS w c f z ob bo v l W) (x : Int) : SS w c { f with f3 := x } z ob bo v l (W.setCell ⟨w.heap.size + 1, 3, none⟩ (.int .u64 x)) := h.fr1 (h.ds.f3 x)
theorem SS.f4 (h : SS w c f z ob bo v l W) (x : Int) : SS w c { f with f4 := x } z ob bo v l (W.setCell ⟨w.heap.size + 1, 4, none⟩ (.int .u64 x)) := h.fr1 (h.ds.f4 x)
theorem SS.f5 (h : SS w c f z ob bo v l W) (x : Int) : SS w c { f with f5 := x } z ob bo v l (W.setCell ⟨w.heap.size + 1, 5, none⟩ (.int .u64 x)) := h.fr1 (h.ds.f5 x)
theorem SS.own (h : SS w c f z ob bo v l W) {v' : Value} {l' : List Int} {b : Nat} (hr : (Kd.int .u64).R 38 W b (fun _ => True) v' l') (hb : w.heap.size ≤ b) : SS w c f z ob bo v' l' (W.setCell ⟨ob, 0, none⟩ v') := by
 have lo := h.lo
 refine ⟨⟨⟨⟨h.bel.setCell (p := ⟨ob, 0, none⟩) (by show w.heap.size ≤ ob; omega) _, blk_far h.thr.two.h0 (by show w.heap.size ≠ ob; omega) _, blk_far h.thr.two.h1 (by show w.heap.size + 1 ≠ ob; omega) _⟩, blk_far h.thr.h2 (by show w.heap.size + 1 + 1 ≠ ob; omega) _⟩, ?_⟩, by simpa using blk_set h.ho 0 v', h.lo, fun x hx => ⟨blk_far (h.hb x hx).1 (by have := (h.hb x hx).2; show x.1 ≠ ob; omega) _, (h.hb x hx).2⟩⟩
 exact Kd.R_lower (Kd.R_set hr h.ho (fun q hq => by rcases List.mem_cons.1 hq with rfl | hq; decide; cases hq) 0 v') hb
theorem SS.boxSet (h : SS w c f z ob bo v l W) {bb : Nat} {p0 : Int} (hb : W.heap[bb]? = some (.cells #[.int .i64 p0] 3 (0, 0))) (hlt : ob < bb) (hne : ∀ x, x ∈ bo → x.1 ≠ bb) (p : Int) : SS w c f z ob ((bb, p) :: bo) v l (W.setCell ⟨bb, 0, none⟩ (.int .i64 p)) := by
 have lo := h.lo
 refine ⟨⟨⟨⟨h.bel.setCell (p := ⟨bb, 0, none⟩) (by show w.heap.size ≤ bb; omega) _, blk_far h.thr.two.h0 (by show w.heap.size ≠ bb; omega) _, blk_far h.thr.two.h1 (by show w.heap.size + 1 ≠ bb; omega) _⟩, blk_far h.thr.h2 (by show w.heap.size + 1 + 1 ≠ bb; omega) _⟩, ?_⟩, blk_far h.ho (by show ob ≠ bb; omega) _, h.lo, fun x hx => ?_⟩
 ·exact Kd.R_set h.hr hb (fun q hq => by rcases List.mem_cons.1 hq with rfl | hq; decide; cases hq) 0 _
 ·rcases List.mem_cons.1 hx with rfl | hx
  ·exact ⟨by simpa using blk_set hb 0 (.int .i64 p), hlt⟩
  ·exact ⟨blk_far (h.hb x hx).1 (hne x hx) _, (h.hb x hx).2⟩
theorem ssCells (h : SS w c f z ob bo v l W) : W.cell? ⟨ob, 0, none⟩ = some v ∧ (∀ i, W.frozen? ⟨ob, i, none⟩ = false) := ⟨(blk_cell h.ho 0).trans rfl, fun i => blk_frozen h.ho i⟩
theorem ssBox {bb : Nat} {p : Int} (h : SS w c f z ob bo v l W) (hm : (bb, p) ∈ bo) : W.cell? ⟨bb, 0, none⟩ = some (.int .i64 p) := (blk_cell (h.hb _ hm).1 0).trans rfl
theorem SS.fr (h : SS w c f z ob bo v l W) (f' : S66) : SS w c f' z ob bo v l (((((((W.setCell ⟨w.heap.size + 1, 0, none⟩ (.int .i64 f'.f0)).setCell ⟨w.heap.size + 1, 1, none⟩ (.int .i64 f'.f1)).setCell ⟨w.heap.size + 1, 2, none⟩ (.int .i64 f'.f2)).setCell ⟨w.heap.size + 1, 3, none⟩ (.int .u64 f'.f3)).setCell ⟨w.heap.size + 1, 4, none⟩ (.int .u64 f'.f4)).setCell ⟨w.heap.size + 1, 5, none⟩ (.int .u64 f'.f5)).setCell ⟨w.heap.size + 1, 6, none⟩ (.int .i64 f'.f6)) :=
 ((((((h.f0 f'.f0).f1 f'.f1).fr1 (f' := { f with f0 := f'.f0, f1 := f'.f1, f2 := f'.f2 }) (((h.f0 f'.f0).f1 f'.f1).ds.f2 f'.f2)).f3 f'.f3).f4 f'.f4).f5 f'.f5).fr1 (((((((h.f0 f'.f0).f1 f'.f1).fr1 (f' := { f with f0 := f'.f0, f1 := f'.f1, f2 := f'.f2 }) (((h.f0 f'.f0).f1 f'.f1).ds.f2 f'.f2)).f3 f'.f3).f4 f'.f4).f5 f'.f5).ds.f6 f'.f6)
end
theorem steal_1 (w : World) (c : Cf) (f0 f1 f2 f3 f4 f5 f6 : Int) (z : S66) (ob bb : Nat) (bo : List (Nat × Int)) (p : Int) (v : Value) (l : List Int) (W : World) (hn : l.length ≤ 1000000) (h : SS w c ⟨f0, f1, f2, f3, f4, f5, f6⟩ z ob bo v l W) (hbx : (bb, p) ∈ bo)  :
  Calls Tryz.prog 180 #[.pointer (some ⟨ob, 0, none⟩), .pointer (some ⟨bb, 0, none⟩), .pointer (some ⟨w.heap.size + 1, 0, none⟩)] W fun e W' => (∃ u, e = .returned u) ∧ SS w c ⟨f0, f1, f2, f3, f4, (loadF l p), f6⟩ z ob bo v l W' := by
 obtain ⟨A, cp, rfl, hcp, hC⟩ := Kd.R_reads h.hr
 have HCP := qQ hcp
 have HN := qQ hn
 have HD0 := qQ h
 have HBX := qQ hbx
 clear h hcp hn hC hbx
 have r0 := twoCells HD0.o.thr.two; have x0 := dsFrozen HD0.o.ds; have o0 := ssCells HD0.o; have b0 := ssBox HD0.o HBX.o
 go_enter Tryz.func180, Tryz.ntmps180
 go_wp2_with (first | (go_at_call 7; with_reducible refine (Load_calls _ _ l p _ (Kd.R_reads' HD0.o.hr).2.2 HCP.o).mono ?_; rintro e w1 ⟨rfl, hd⟩; have HD1 := qQ (HD0.o.below (hd.below)); clear hd; clear r0 x0 o0; have r0 := twoCells HD1.o.thr.two; have x0 := dsFrozen HD1.o.ds; have o0 := ssCells HD1.o; have b0 := ssBox HD1.o HBX.o))
 have hs2 := HD1.o.f5 (loadF l p)
 generalize (w1).setCell ⟨w.heap.size + 1, 5, none⟩ (.int .u64 (loadF l p)) = w2 at hs2 ⊢
 have HD2 := qQ hs2
 clear hs2
 clear r0 x0 o0 b0
 have r0 := twoCells HD2.o.thr.two; have x0 := dsFrozen HD2.o.ds; have o0 := ssCells HD2.o; have b0 := ssBox HD2.o HBX.o
 first | go_end0 | refine bodyPost_ret (results_none rfl _ _ _) rfl ?_
 exact ⟨⟨_, rfl⟩, HD2.o⟩
theorem steal_2 (w : World) (c : Cf) (f0 f1 f2 f3 f4 f5 f6 : Int) (z : S66) (ob bb : Nat) (bo : List (Nat × Int)) (p : Int) (v : Value) (l : List Int) (W : World) (hn : l.length ≤ 1000000) (h : SS w c ⟨f0, f1, f2, f3, f4, f5, f6⟩ z ob bo v l W) (hbx : (bb, p) ∈ bo) (f' : S66) (hf : f' = if wrap64 (IntKind.u64.wrap (loadF l p - f5)) ≤ 0 then (⟨f0, 0, f2, 0, 0, 0, 3⟩ : S66) else ⟨f0, f1, f2, f3, (loadF l p), f5, f6⟩) :
  Calls Tryz.prog 181 #[.pointer (some ⟨ob, 0, none⟩), .pointer (some ⟨bb, 0, none⟩), .pointer (some ⟨w.heap.size + 1, 0, none⟩)] W fun e W' => (∃ u, e = .returned u) ∧ SS w c f' z ob bo v l W' := by
 obtain ⟨A, cp, rfl, hcp, hC⟩ := Kd.R_reads h.hr
 have HCP := qQ hcp
 have HN := qQ hn
 have HD0 := qQ h
 have HBX := qQ hbx
 have HHF := qQ hf
 clear h hcp hn hC hbx hf
 have r0 := twoCells HD0.o.thr.two; have x0 := dsFrozen HD0.o.ds; have o0 := ssCells HD0.o; have b0 := ssBox HD0.o HBX.o
 go_enter Tryz.func181, Tryz.ntmps181
 go_wp2_with (first | (go_at_call 7; with_reducible refine (Load_calls _ _ l p _ (Kd.R_reads' HD0.o.hr).2.2 HCP.o).mono ?_; rintro e w1 ⟨rfl, hd⟩; have HD1 := qQ (HD0.o.below (hd.below)); clear hd; clear r0 x0 o0; have r0 := twoCells HD1.o.thr.two; have x0 := dsFrozen HD1.o.ds; have o0 := ssCells HD1.o; have b0 := ssBox HD1.o HBX.o))
 have hs2 := HD1.o.f4 (loadF l p)
 generalize (w1).setCell ⟨w.heap.size + 1, 4, none⟩ (.int .u64 (loadF l p)) = w2 at hs2 ⊢
 have HD2 := qQ hs2
 clear hs2
 clear r0 x0 o0 b0
 have r0 := twoCells HD2.o.thr.two; have x0 := dsFrozen HD2.o.ds; have o0 := ssCells HD2.o; have b0 := ssBox HD2.o HBX.o
 refine (word_Far.calls (loadF l p) f5 _ _ rfl).mono ?_
 rintro e w3 ⟨rfl, hd⟩
 have HD3 := qQ (HD2.o.below hd.below)
 clear hd
 have hf2 := HHF.o
 clear r0 x0 o0 b0
 have r0 := twoCells HD3.o.thr.two; have x0 := dsFrozen HD3.o.ds; have o0 := ssCells HD3.o; have b0 := ssBox HD3.o HBX.o
 by_cases hc : wrap64 (IntKind.u64.wrap (loadF l p - f5)) ≤ 0
 ·rw [if_pos hc] at hf2
  subst hf2
  go_wp2_with (first | (go_at_call 142; with_reducible refine (frame_End.calls f0 f1 f2 f3 (loadF l p) f5 f6 3 0 _ _ _ _ _ _ _ _ rfl).mono ?_; rintro e w4 ⟨rfl, hd⟩; have HD4 := qQ (HD3.o.below (hd)); clear hd; clear r0 x0 o0; have r0 := twoCells HD4.o.thr.two; have x0 := dsFrozen HD4.o.ds; have o0 := ssCells HD4.o; have b0 := ssBox HD4.o HBX.o))
  first | go_end0 | refine bodyPost_ret (results_none rfl _ _ _) rfl ?_
  exact ⟨⟨_, rfl⟩, HD4.o.fr ⟨f0, 0, f2, 0, 0, 0, 3⟩⟩
 ·rw [if_neg hc] at hf2
  subst hf2
  go_wp2
  first | go_end0 | refine bodyPost_ret (results_none rfl _ _ _) rfl ?_
  exact ⟨⟨_, rfl⟩, HD3.o⟩
theorem steal_3 (w : World) (c : Cf) (f0 f1 f2 f3 f4 f5 f6 : Int) (z : S66) (ob bb : Nat) (bo : List (Nat × Int)) (p : Int) (v : Value) (l : List Int) (W : World) (hn : l.length ≤ 1000000) (h : SS w c ⟨f0, f1, f2, f3, f4, f5, f6⟩ z ob bo v l W) (ps : Int) (hps : lay_Slot.f c.w c.d c.i c.s f2 f5 = some ps) :
  Calls Tryz.prog 182 #[.pointer (some ⟨ob, 0, none⟩), .pointer (some ⟨w.heap.size, 0, none⟩), .pointer (some ⟨w.heap.size + 1, 0, none⟩)] W fun e W' => (∃ u, e = .returned u) ∧ SS w c ⟨f0, f1, f2, (loadF l ps), f4, f5, f6⟩ z ob bo v l W' := by
 obtain ⟨A, cp, rfl, hcp, hC⟩ := Kd.R_reads h.hr
 have HCP := qQ hcp
 have HN := qQ hn
 have HD0 := qQ h
 have HHPS := qQ hps
 clear h hcp hn hC hps
 have r0 := twoCells HD0.o.thr.two; have x0 := dsFrozen HD0.o.ds; obtain ⟨o0, o1⟩ := ssCells HD0.o
 go_enter Tryz.func182, Tryz.ntmps182
 go_wp2
 refine zS 10 [9] (fun W' => SS0 w c ⟨f0, f1, f2, f3, f4, f5, f6⟩ ob (.slice A l.length cp) W') HD0.o.drew.s0 fun hHeld => ?_
 refine zT 0 1 3 ?_ (hy := zy3)
 refine zT 1 3 4 ?_ (hy := zy3)
 refine zY 2 7 5 ?_
 refine zT 3 15 6 ?_ (hy := zy3)
 refine zY 4 31 7 ?_
 refine zT 5 63 8 ?_ (hy := zy3)
 refine zO 6 127 9 fun K hK => ?_
 go_simp
 refine (lay_Slot.calls c.w c.d c.i c.s f2 f5 ps _ HHPS.o).mono ?_
 rintro e w1 ⟨rfl, hd⟩
 have HD1 := qQ ((HD0.o.drew).below (hd))
 clear hd
 refine hK.out _ _ HD1.o.s0 (fun hHeld => ?_)
 refine zO 7 255 10 fun K hK => ?_
 go_simp
 refine (Load_calls _ _ l ps _ (Kd.R_reads' HD1.o.hr).2.2 HCP.o).mono ?_
 rintro e w2 ⟨rfl, hd⟩
 have HD2 := qQ (HD1.o.below (hd.below))
 clear hd
 refine hK.out _ _ HD2.o.s0 (fun hHeld => ?_)
 refine zY 8 511 11 ?_
 refine zL 9 1023 fun K hK => ?_
 clear r0 x0 o0 o1
 have r0 := twoCells HD2.o.thr.two
 have x0 := dsFrozen HD2.o.ds
 obtain ⟨o0, o1⟩ := ssCells HD2.o
 go_simp
 refine hK.out _ _ ?_
 refine zD ?_
 clear hHeld
 have hs3 := HD2.o.f3 (loadF l ps)
 generalize (w2).setCell ⟨w.heap.size + 1, 3, none⟩ (.int .u64 (loadF l ps)) = w3 at hs3 ⊢
 have HD3 := qQ hs3
 clear hs3
 clear r0 x0 o0 o1
 have r0 := twoCells HD3.o.thr.two; have x0 := dsFrozen HD3.o.ds; obtain ⟨o0, o1⟩ := ssCells HD3.o
 first | go_end0 | refine bodyPost_ret (results_none rfl _ _ _) rfl ?_
 exact ⟨⟨_, rfl⟩, HD3.o⟩
theorem steal_4 (w : World) (c : Cf) (f0 f1 f2 f3 f4 f5 f6 : Int) (z : S66) (ob bb : Nat) (bo : List (Nat × Int)) (p : Int) (v : Value) (l : List Int) (W : World) (hn : l.length ≤ 1000000) (h : SS w c ⟨f0, f1, f2, f3, f4, f5, f6⟩ z ob bo v l W) (hbx : (bb, p) ∈ bo) (b : Bool) (l' : List Int) (hq : casF l p f5 (IntKind.u64.wrap (f5 + 1)) = (l', b)) (f' : S66) (hf : f' = if b = true then (⟨f0, 0, f2, f3, 0, 0, 1⟩ : S66) else ⟨f0, 0, f2, 0, 0, 0, 4⟩) :
  Calls Tryz.prog 183 #[.pointer (some ⟨ob, 0, none⟩), .pointer (some ⟨bb, 0, none⟩), .pointer (some ⟨w.heap.size + 1, 0, none⟩)] W fun e W' => (∃ u, e = .returned u) ∧ ∃ v', SS w c f' z ob bo v' l' W' := by
 obtain ⟨A, cp, rfl, hcp, hC⟩ := Kd.R_reads h.hr
 have HCP := qQ hcp
 have HN := qQ hn
 have HD0 := qQ h
 have HBX := qQ hbx
 have HHQ := qQ hq
 have HHF := qQ hf
 clear h hcp hn hC hbx hq hf
 have r0 := twoCells HD0.o.thr.two; have x0 := dsFrozen HD0.o.ds; have o0 := ssCells HD0.o; have b0 := ssBox HD0.o HBX.o
 go_enter Tryz.func183, Tryz.ntmps183
 have CAS : ∀ (A : Option Addr) (cp : Nat) (W : World), Kd.C (Kd.int .u64) W A l.length l → l.length ≤ cp → Calls Tryz.prog 140 #[.slice A l.length cp, .int .i64 p, .int .u64 f5, .int .u64 (IntKind.u64.wrap (f5 + 1))] W fun e w' => ∃ u, e = .returned (.tuple #[u, .bool b]) ∧ (Kd.int .u64).R 38 w' W.heap.size (fun _ => True) u l' ∧ Below W.heap.size W w' := fun A cp W h1 h2 => by
  have h := cas140 A cp l p f5 (IntKind.u64.wrap (f5 + 1)) W h1 h2 HN.o
  rw [HHQ.o] at h
  exact h
 have HCAS := qQ CAS
 clear CAS HHQ
 have hf2 := HHF.o
 cases b with
 | true =>
  simp only [if_true] at hf2
  subst hf2
  go_wp2_with (first | (go_at_call 140; with_reducible refine (HCAS.o _ _ _ (Kd.R_reads' HD0.o.hr).2.2 HCP.o).mono ?_; rintro e w1 ⟨u1, rfl, hr, hd⟩; obtain ⟨A1, c1, eo⟩ := Kd.R_slice hr; subst eo; have HR1 := qQ hr; have HD1 := qQ (HD0.o.below hd); clear hr hd; clear r0 x0 o0; have o0 := ssCells HD1.o; have HD9 := qQ (HD1.o.own HR1.o HD0.o.bel.size); have r0 := twoCells HD9.o.thr.two; have x0 := dsFrozen HD9.o.ds) | (go_at_call 142; with_reducible refine (frame_End.calls f0 f1 f2 f3 f4 f5 f6 1 f3 _ _ _ _ _ _ _ _ rfl).mono ?_; rintro e w10 ⟨rfl, hd⟩; have HD10 := qQ (HD9.o.below (hd)); clear hd; clear r0 x0 o0; have r0 := twoCells HD10.o.thr.two; have x0 := dsFrozen HD10.o.ds; have o0 := ssCells HD10.o; have b0 := ssBox HD10.o HBX.o))
  first | go_end0 | refine bodyPost_ret (results_none rfl _ _ _) rfl ?_
  exact ⟨⟨_, rfl⟩, _, HD10.o.fr ⟨f0, 0, f2, f3, 0, 0, 1⟩⟩
 | false =>
  simp only [Bool.false_eq_true, if_false] at hf2
  subst hf2
  go_wp2_with (first | (go_at_call 140; with_reducible refine (HCAS.o _ _ _ (Kd.R_reads' HD0.o.hr).2.2 HCP.o).mono ?_; rintro e w11 ⟨u11, rfl, hr, hd⟩; obtain ⟨A11, c11, eo⟩ := Kd.R_slice hr; subst eo; have HR11 := qQ hr; have HD11 := qQ (HD0.o.below hd); clear hr hd; clear r0 x0 o0; have o0 := ssCells HD11.o; have HD9 := qQ (HD11.o.own HR11.o HD0.o.bel.size); have r0 := twoCells HD9.o.thr.two; have x0 := dsFrozen HD9.o.ds) | (go_at_call 142; with_reducible refine (frame_End.calls f0 f1 f2 f3 f4 f5 f6 4 0 _ _ _ _ _ _ _ _ rfl).mono ?_; rintro e w10 ⟨rfl, hd⟩; have HD10 := qQ (HD9.o.below (hd)); clear hd; clear r0 x0 o0; have r0 := twoCells HD10.o.thr.two; have x0 := dsFrozen HD10.o.ds; have o0 := ssCells HD10.o; have b0 := ssBox HD10.o HBX.o))
  first | go_end0 | refine bodyPost_ret (results_none rfl _ _ _) rfl ?_
  exact ⟨⟨_, rfl⟩, _, HD10.o.fr ⟨f0, 0, f2, 0, 0, 0, 4⟩⟩
theorem steal_step (A : Option Addr) (cp : Nat) (c : Cf) (f f' : S66) (l l' : List Int) (w : World) (hC : Kd.C (Kd.int .u64) w A l.length l) (hcp : l.length ≤ cp) (hn : l.length ≤ 1000000)
  (hk : (goesB c l.length f 2 4 = false ∧ l = l' ∧ f = f') ∨ (goesB c l.length f 2 4 = true ∧ ∃ pt pb, lay_Top.f c.w c.d c.i c.s f.f2 = some pt ∧ lay_Bottom.f c.w c.d c.i c.s f.f2 = some pb ∧ ((f.f1 = 0 ∧ l = l' ∧ f' = { f with f5 := loadF l pt, f1 := 1 }) ∨ (f.f1 = 1 ∧ l = l' ∧ f' = (if wrap64 (IntKind.u64.wrap (loadF l pb - f.f5)) ≤ 0 then (⟨f.f0, 0, f.f2, 0, 0, 0, 3⟩ : S66) else { f with f4 := loadF l pb, f1 := 2 })) ∨ (f.f1 = 2 ∧ l = l' ∧ ∃ ps, lay_Slot.f c.w c.d c.i c.s f.f2 f.f5 = some ps ∧ f' = { f with f3 := loadF l ps, f1 := 3 }) ∨ (f.f1 = 3 ∧ ∃ b, casF l pt f.f5 (IntKind.u64.wrap (f.f5 + 1)) = (l', b) ∧ f' = (if b = true then (⟨f.f0, 0, f.f2, f.f3, 0, 0, 1⟩ : S66) else (⟨f.f0, 0, f.f2, 0, 0, 0, 4⟩ : S66)))))) :
  Calls Tryz.prog 158 #[cfV c, .slice A l.length cp, frV f] w fun e w' => ∃ v, e = .returned (.tuple #[v, frV f']) ∧ (Kd.int .u64).R 38 w' w.heap.size (fun _ => True) v l' ∧ Below w.heap.size w w' := by
 obtain ⟨f0, f1, f2, f3, f4, f5, f6⟩ := f
 have HD0 := qQ (DS.start w c ⟨f0, f1, f2, f3, f4, f5, f6⟩)
 dsimp only at HD0
 have HC := qQ (Kd.C_below hC HD0.o.thr.two.hb)
 have HCP := qQ hcp
 have HN := qQ hn
 clear hC hcp hn
 dsimp only at hk
 have e180 := fun args W => enters_of Tryz.func180 (by kernel_rfl) rfl args W
 have e181 := fun args W => enters_of Tryz.func181 (by kernel_rfl) rfl args W
 have e182 := fun args W => enters_of Tryz.func182 (by kernel_rfl) rfl args W
 have e183 := fun args W => enters_of Tryz.func183 (by kernel_rfl) rfl args W
 rcases hk with ⟨hg, rfl, rfl⟩ | ⟨hg, pt, pb, hpt, hpb, hx⟩
 ·
  have r0 := twoCells HD0.o.thr.two; have x0 := dsFrozen HD0.o
  go_enter Tryz.func158, Tryz.ntmps158
  go_wp2
  refine wp_scope_fwd ?_
  go_wp2_with (first | (go_at_call 54; with_reducible refine (clone54' A cp l _ HC.o HN.o).mono ?_; rintro e w1 ⟨u1, rfl, hr, hd⟩; obtain ⟨A1, c1, eo⟩ := Kd.R_slice hr; subst eo; have HCP1 := qQ (Kd.R_reads' hr).2.1; have HD1 := qQ (SS.start (HD0.o.new hd hr)); clear hr hd r0 x0; have r0 := twoCells HD1.o.thr.two; have x0 := dsFrozen HD1.o.ds; obtain ⟨o0, o1⟩ := ssCells HD1.o) | (go_at_call 137; with_reducible refine (push_goes A cp l.length c ⟨f0, f1, f2, f3, f4, f5, f6⟩ 2 4 _).mono ?_; rintro e w2 ⟨rfl, hd⟩; rw [hg]; have HD2 := qQ (HD1.o.below hd); clear hd; clear r0 x0 o0 o1; have r0 := twoCells HD2.o.thr.two; have x0 := dsFrozen HD2.o.ds; obtain ⟨o0, o1⟩ := ssCells HD2.o))
  refine zS 4 [3] (fun W' => SS0 w c ⟨f0, f1, f2, f3, f4, f5, f6⟩ w1.heap.size (.slice A1 l.length c1) W') HD2.o.drew.s0 fun hHeld => ?_
  refine zT 0 1 21 ?_ (hy := zy3)
  refine zT 1 3 22 ?_ (hy := zy3)
  refine zY 2 7 6 ?_
  refine zL 3 15 fun K hK => ?_
  have y0 := thrCells HD2.o.thr
  go_simp
  refine hK.out _ _ ?_
  refine zD ?_
  have HT9 := qQ (HD2.o.thr.ans ⟨f0, f1, f2, f3, f4, f5, f6⟩).drew
  have HR9 := qQ (Kd.R_drew (R_ans HD2.o.hr HD2.o.thr ⟨f0, f1, f2, f3, f4, f5, f6⟩))
  clear hHeld y0
  go_wp2
  simp only [fwd]
  refine bodyPost_ret (results_tc rfl _ _ (w.heap.size + 1 + 1) 66 _ (0, 0) _ rfl HT9.o.h2 Tryz.underlying66 rfl (by kernel_rfl)) rfl ?_
  exact ⟨_, rfl, HR9.o, HT9.o.two.hb⟩
 ·have HX := qQ hx
  have HPT := qQ hpt
  have HPB := qQ hpb
  clear hx hpt hpb
  obtain rfl : f6 = 0 := by
   simp only [goesB, Bool.and_eq_true, decide_eq_true_eq] at hg
   exact hg.1.1.1.1.1.2
  have r0 := twoCells HD0.o.thr.two; have x0 := dsFrozen HD0.o
  go_enter Tryz.func158, Tryz.ntmps158
  go_wp2
  refine wp_scope_fwd ?_
  go_wp2_with (first | (go_at_call 54; with_reducible refine (clone54' A cp l _ HC.o HN.o).mono ?_; rintro e w1 ⟨u1, rfl, hr, hd⟩; obtain ⟨A1, c1, eo⟩ := Kd.R_slice hr; subst eo; have HCP1 := qQ (Kd.R_reads' hr).2.1; have HD1 := qQ (SS.start (HD0.o.new hd hr)); clear hr hd r0 x0; have r0 := twoCells HD1.o.thr.two; have x0 := dsFrozen HD1.o.ds; obtain ⟨o0, o1⟩ := ssCells HD1.o) | (go_at_call 137; with_reducible refine (push_goes A cp l.length c ⟨f0, f1, f2, f3, f4, f5, 0⟩ 2 4 _).mono ?_; rintro e w2 ⟨rfl, hd⟩; rw [hg]; have HD2 := qQ (HD1.o.below hd); clear hd; clear r0 x0 o0 o1; have r0 := twoCells HD2.o.thr.two; have x0 := dsFrozen HD2.o.ds; obtain ⟨o0, o1⟩ := ssCells HD2.o))
  refine zS 12 [10, 11] (fun W' => SS0 w c ⟨f0, f1, f2, f3, f4, f5, 0⟩ w1.heap.size (.slice A1 l.length c1) W') HD2.o.drew.s0 fun hHeld => ?_
  refine zT 0 1 23 ?_ (hy := zy3)
  refine zY 1 3 24 ?_
  refine zT 2 7 25 ?_ (hy := zy3)
  refine zT 4 23 27 ?_ (hy := zy3)
  refine zY 5 55 28 ?_
  refine zT 6 119 29 ?_ (hy := zy3)
  refine join_ (σ := Nat × Nat) 2 (zM 12 1023) (fun nb => [(26, .int .i64 pt), (30, .int .i64 pb), (9, .pointer (some ⟨nb.1, 0, none⟩)), (10, .pointer (some ⟨nb.2, 0, none⟩))]) (fun nb w' => SS w c ⟨f0, f1, f2, f3, f4, f5, 0⟩ ⟨0, 0, 0, 0, 0, 0, 0⟩ w1.heap.size [] (.slice A1 l.length c1) l w' ∧ w'.heap[nb.1]? = some (.cells #[.int .i64 0] 3 (0, 0)) ∧ w'.heap[nb.2]? = some (.cells #[.int .i64 0] 3 (0, 0)) ∧ w1.heap.size < nb.1 ∧ w1.heap.size < nb.2 ∧ nb.1 ≠ nb.2) ?_ ?_
  rotate_left
  ·intro hcont
   refine three_ (i := 3) (j := 8) (k := 9) (Ni := some 26) (Nj := some 9) (Nk := some 10) (zM 12 127) (zM 12 375) (zM 12 631) rfl rfl rfl rfl rfl rfl (by kernel_rfl) (by decide) (by decide) (by decide) (fun K hK => ?_) (fun K hK => ?_) (fun K hK => ?_)
   ·go_simp
    refine (lay_Top.calls c.w c.d c.i c.s f2 pt _ HPT.o).mono ?_
    rintro e w11 ⟨rfl, hd11⟩
    have h11 := (HD2.o.drew).below hd11
    refine hK.out _ _ (h11).s0 (fun hHeld => ?_)
    refine three_ (i := 7) (j := 8) (k := 9) (Ni := some 30) (Nj := some 9) (Nk := some 10) (zM 12 255) (zM 12 383) (zM 12 639) rfl rfl rfl rfl rfl rfl (by kernel_rfl) (by decide) (by decide) (by decide) (fun K hK => ?_) (fun K hK => ?_) (fun K hK => ?_)
    ·go_simp
     refine (lay_Bottom.calls c.w c.d c.i c.s f2 pb _ HPB.o).mono ?_
     rintro e w12 ⟨rfl, hd12⟩
     have h12 := (h11).below hd12
     refine hK.out _ _ (h12).s0 (fun hHeld => ?_)
     refine two_ (i := 8) (j := 9) (Ni := some 9) (Nj := some 10) (zM 12 511) (zM 12 767) rfl rfl rfl rfl (by kernel_rfl) (by decide) (by decide) (fun K hK => ?_) (fun K hK => ?_)
     ·go_simp
      have h13 := (h12).below (below_alloc (Below.refl _ _) (.cells #[.int .i64 0] 3))
      have g13_8 := blk_new (w12) (.cells #[.int .i64 0] 3)
      refine hK.out _ _ (h13).s0 (fun hHeld => ?_)
      refine zO 9 1023 10 fun K hK => ?_
      go_simp
      have h14 := (h13).below (below_alloc (Below.refl _ _) (.cells #[.int .i64 0] 3))
      have g14_9 := blk_new ((w12.alloc (.cells #[.int .i64 0] 3))) (.cells #[.int .i64 0] 3)
      rw [World.size_alloc] at g14_9
      have g14_8 := blk_alloc g13_8 (.cells #[.int .i64 0] 3)
      refine hK.out _ _ (h14).s0 (fun hHeld => ?_)
      exact norm_ rfl (hcont (w12.heap.size, w12.heap.size + 1) _ ⟨(h14), g14_8, g14_9, (blk_lt (h12).ho), (Nat.lt_of_lt_of_eq (blk_lt (h13).ho) (World.size_alloc _ _)), (Nat.ne_of_lt (Nat.lt_of_lt_of_eq (blk_lt g13_8) (World.size_alloc _ _)))⟩)
     ·go_simp
      have h15 := (h12).below (below_alloc (Below.refl _ _) (.cells #[.int .i64 0] 3))
      have g15_9 := blk_new (w12) (.cells #[.int .i64 0] 3)
      refine hK.out _ _ (h15).s0 (fun hHeld => ?_)
      refine zO 8 1023 9 fun K hK => ?_
      go_simp
      have h16 := (h15).below (below_alloc (Below.refl _ _) (.cells #[.int .i64 0] 3))
      have g16_8 := blk_new ((w12.alloc (.cells #[.int .i64 0] 3))) (.cells #[.int .i64 0] 3)
      rw [World.size_alloc] at g16_8
      have g16_9 := blk_alloc g15_9 (.cells #[.int .i64 0] 3)
      refine hK.out _ _ (h16).s0 (fun hHeld => ?_)
      exact norm_ rfl (hcont (w12.heap.size + 1, w12.heap.size) _ ⟨(h16), g16_8, g16_9, (Nat.lt_of_lt_of_eq (blk_lt (h15).ho) (World.size_alloc _ _)), (blk_lt (h12).ho), (Nat.ne_of_gt (Nat.lt_of_lt_of_eq (blk_lt g15_9) (World.size_alloc _ _)))⟩)
    ·go_simp
     have h17 := (h11).below (below_alloc (Below.refl _ _) (.cells #[.int .i64 0] 3))
     have g17_8 := blk_new (w11) (.cells #[.int .i64 0] 3)
     refine hK.out _ _ (h17).s0 (fun hHeld => ?_)
     refine two_ (i := 7) (j := 9) (Ni := some 30) (Nj := some 10) (zM 12 511) (zM 12 895) rfl rfl rfl rfl (by kernel_rfl) (by decide) (by decide) (fun K hK => ?_) (fun K hK => ?_)
     ·go_simp
      refine (lay_Bottom.calls c.w c.d c.i c.s f2 pb _ HPB.o).mono ?_
      rintro e w18 ⟨rfl, hd18⟩
      have h18 := (h17).below hd18
      have g18_8 := blk_below (g17_8) hd18
      refine hK.out _ _ (h18).s0 (fun hHeld => ?_)
      refine zO 9 1023 10 fun K hK => ?_
      go_simp
      have h19 := (h18).below (below_alloc (Below.refl _ _) (.cells #[.int .i64 0] 3))
      have g19_9 := blk_new (w18) (.cells #[.int .i64 0] 3)
      have g19_8 := blk_alloc g18_8 (.cells #[.int .i64 0] 3)
      refine hK.out _ _ (h19).s0 (fun hHeld => ?_)
      exact norm_ rfl (hcont (w11.heap.size, w18.heap.size) _ ⟨(h19), g19_8, g19_9, (blk_lt (h11).ho), (blk_lt (h18).ho), (Nat.ne_of_lt (blk_lt g18_8))⟩)
     ·go_simp
      have h20 := (h17).below (below_alloc (Below.refl _ _) (.cells #[.int .i64 0] 3))
      have g20_9 := blk_new ((w11.alloc (.cells #[.int .i64 0] 3))) (.cells #[.int .i64 0] 3)
      rw [World.size_alloc] at g20_9
      have g20_8 := blk_alloc g17_8 (.cells #[.int .i64 0] 3)
      refine hK.out _ _ (h20).s0 (fun hHeld => ?_)
      refine zO 7 1023 30 fun K hK => ?_
      go_simp
      refine (lay_Bottom.calls c.w c.d c.i c.s f2 pb _ HPB.o).mono ?_
      rintro e w21 ⟨rfl, hd21⟩
      have h21 := (h20).below hd21
      have g21_8 := blk_below (g20_8) hd21
      have g21_9 := blk_below (g20_9) hd21
      refine hK.out _ _ (h21).s0 (fun hHeld => ?_)
      exact norm_ rfl (hcont (w11.heap.size, w11.heap.size + 1) _ ⟨(h21), g21_8, g21_9, (blk_lt (h11).ho), (Nat.lt_of_lt_of_eq (blk_lt (h17).ho) (World.size_alloc _ _)), (Nat.ne_of_lt (Nat.lt_of_lt_of_eq (blk_lt g17_8) (World.size_alloc _ _)))⟩)
    ·go_simp
     have h22 := (h11).below (below_alloc (Below.refl _ _) (.cells #[.int .i64 0] 3))
     have g22_9 := blk_new (w11) (.cells #[.int .i64 0] 3)
     refine hK.out _ _ (h22).s0 (fun hHeld => ?_)
     refine two_ (i := 7) (j := 8) (Ni := some 30) (Nj := some 9) (zM 12 767) (zM 12 895) rfl rfl rfl rfl (by kernel_rfl) (by decide) (by decide) (fun K hK => ?_) (fun K hK => ?_)
     ·go_simp
      refine (lay_Bottom.calls c.w c.d c.i c.s f2 pb _ HPB.o).mono ?_
      rintro e w23 ⟨rfl, hd23⟩
      have h23 := (h22).below hd23
      have g23_9 := blk_below (g22_9) hd23
      refine hK.out _ _ (h23).s0 (fun hHeld => ?_)
      refine zO 8 1023 9 fun K hK => ?_
      go_simp
      have h24 := (h23).below (below_alloc (Below.refl _ _) (.cells #[.int .i64 0] 3))
      have g24_8 := blk_new (w23) (.cells #[.int .i64 0] 3)
      have g24_9 := blk_alloc g23_9 (.cells #[.int .i64 0] 3)
      refine hK.out _ _ (h24).s0 (fun hHeld => ?_)
      exact norm_ rfl (hcont (w23.heap.size, w11.heap.size) _ ⟨(h24), g24_8, g24_9, (blk_lt (h23).ho), (blk_lt (h11).ho), (Nat.ne_of_gt (blk_lt g23_9))⟩)
     ·go_simp
      have h25 := (h22).below (below_alloc (Below.refl _ _) (.cells #[.int .i64 0] 3))
      have g25_8 := blk_new ((w11.alloc (.cells #[.int .i64 0] 3))) (.cells #[.int .i64 0] 3)
      rw [World.size_alloc] at g25_8
      have g25_9 := blk_alloc g22_9 (.cells #[.int .i64 0] 3)
      refine hK.out _ _ (h25).s0 (fun hHeld => ?_)
      refine zO 7 1023 30 fun K hK => ?_
      go_simp
      refine (lay_Bottom.calls c.w c.d c.i c.s f2 pb _ HPB.o).mono ?_
      rintro e w26 ⟨rfl, hd26⟩
      have h26 := (h25).below hd26
      have g26_9 := blk_below (g25_9) hd26
      have g26_8 := blk_below (g25_8) hd26
      refine hK.out _ _ (h26).s0 (fun hHeld => ?_)
      exact norm_ rfl (hcont (w11.heap.size + 1, w11.heap.size) _ ⟨(h26), g26_8, g26_9, (Nat.lt_of_lt_of_eq (blk_lt (h22).ho) (World.size_alloc _ _)), (blk_lt (h11).ho), (Nat.ne_of_gt (Nat.lt_of_lt_of_eq (blk_lt g22_9) (World.size_alloc _ _)))⟩)
   ·go_simp
    have h27 := HD2.o.below (below_alloc (Below.refl _ _) (.cells #[.int .i64 0] 3))
    have g27_8 := blk_new (w2) (.cells #[.int .i64 0] 3)
    refine hK.out _ _ (h27.drew).s0 (fun hHeld => ?_)
    refine two_ (i := 3) (j := 9) (Ni := some 26) (Nj := some 10) (zM 12 383) (zM 12 887) rfl rfl rfl rfl (by kernel_rfl) (by decide) (by decide) (fun K hK => ?_) (fun K hK => ?_)
    ·go_simp
     refine (lay_Top.calls c.w c.d c.i c.s f2 pt _ HPT.o).mono ?_
     rintro e w28 ⟨rfl, hd28⟩
     have h28 := (h27.drew).below hd28
     have g28_8 := blk_below (blk_drew g27_8) hd28
     refine hK.out _ _ (h28).s0 (fun hHeld => ?_)
     refine two_ (i := 7) (j := 9) (Ni := some 30) (Nj := some 10) (zM 12 511) (zM 12 895) rfl rfl rfl rfl (by kernel_rfl) (by decide) (by decide) (fun K hK => ?_) (fun K hK => ?_)
     ·go_simp
      refine (lay_Bottom.calls c.w c.d c.i c.s f2 pb _ HPB.o).mono ?_
      rintro e w29 ⟨rfl, hd29⟩
      have h29 := (h28).below hd29
      have g29_8 := blk_below (g28_8) hd29
      refine hK.out _ _ (h29).s0 (fun hHeld => ?_)
      refine zO 9 1023 10 fun K hK => ?_
      go_simp
      have h30 := (h29).below (below_alloc (Below.refl _ _) (.cells #[.int .i64 0] 3))
      have g30_9 := blk_new (w29) (.cells #[.int .i64 0] 3)
      have g30_8 := blk_alloc g29_8 (.cells #[.int .i64 0] 3)
      refine hK.out _ _ (h30).s0 (fun hHeld => ?_)
      exact norm_ rfl (hcont (w2.heap.size, w29.heap.size) _ ⟨(h30), g30_8, g30_9, (blk_lt HD2.o.ho), (blk_lt (h29).ho), (Nat.ne_of_lt (blk_lt g29_8))⟩)
     ·go_simp
      have h31 := (h28).below (below_alloc (Below.refl _ _) (.cells #[.int .i64 0] 3))
      have g31_9 := blk_new (w28) (.cells #[.int .i64 0] 3)
      have g31_8 := blk_alloc g28_8 (.cells #[.int .i64 0] 3)
      refine hK.out _ _ (h31).s0 (fun hHeld => ?_)
      refine zO 7 1023 30 fun K hK => ?_
      go_simp
      refine (lay_Bottom.calls c.w c.d c.i c.s f2 pb _ HPB.o).mono ?_
      rintro e w32 ⟨rfl, hd32⟩
      have h32 := (h31).below hd32
      have g32_8 := blk_below (g31_8) hd32
      have g32_9 := blk_below (g31_9) hd32
      refine hK.out _ _ (h32).s0 (fun hHeld => ?_)
      exact norm_ rfl (hcont (w2.heap.size, w28.heap.size) _ ⟨(h32), g32_8, g32_9, (blk_lt HD2.o.ho), (blk_lt (h28).ho), (Nat.ne_of_lt (blk_lt g28_8))⟩)
    ·go_simp
     have h33 := (h27).below (below_alloc (Below.refl _ _) (.cells #[.int .i64 0] 3))
     have g33_9 := blk_new ((w2.alloc (.cells #[.int .i64 0] 3))) (.cells #[.int .i64 0] 3)
     rw [World.size_alloc] at g33_9
     have g33_8 := blk_alloc g27_8 (.cells #[.int .i64 0] 3)
     refine hK.out _ _ (h33.drew).s0 (fun hHeld => ?_)
     refine zO 3 895 26 fun K hK => ?_
     go_simp
     refine (lay_Top.calls c.w c.d c.i c.s f2 pt _ HPT.o).mono ?_
     rintro e w34 ⟨rfl, hd34⟩
     have h34 := (h33.drew).below hd34
     have g34_8 := blk_below (blk_drew g33_8) hd34
     have g34_9 := blk_below (blk_drew g33_9) hd34
     refine hK.out _ _ (h34).s0 (fun hHeld => ?_)
     refine zO 7 1023 30 fun K hK => ?_
     go_simp
     refine (lay_Bottom.calls c.w c.d c.i c.s f2 pb _ HPB.o).mono ?_
     rintro e w35 ⟨rfl, hd35⟩
     have h35 := (h34).below hd35
     have g35_8 := blk_below (g34_8) hd35
     have g35_9 := blk_below (g34_9) hd35
     refine hK.out _ _ (h35).s0 (fun hHeld => ?_)
     exact norm_ rfl (hcont (w2.heap.size, w2.heap.size + 1) _ ⟨(h35), g35_8, g35_9, (blk_lt HD2.o.ho), (Nat.lt_of_lt_of_eq (blk_lt (h27).ho) (World.size_alloc _ _)), (Nat.ne_of_lt (Nat.lt_of_lt_of_eq (blk_lt g27_8) (World.size_alloc _ _)))⟩)
   ·go_simp
    have h36 := HD2.o.below (below_alloc (Below.refl _ _) (.cells #[.int .i64 0] 3))
    have g36_9 := blk_new (w2) (.cells #[.int .i64 0] 3)
    refine hK.out _ _ (h36.drew).s0 (fun hHeld => ?_)
    refine two_ (i := 3) (j := 8) (Ni := some 26) (Nj := some 9) (zM 12 639) (zM 12 887) rfl rfl rfl rfl (by kernel_rfl) (by decide) (by decide) (fun K hK => ?_) (fun K hK => ?_)
    ·go_simp
     refine (lay_Top.calls c.w c.d c.i c.s f2 pt _ HPT.o).mono ?_
     rintro e w37 ⟨rfl, hd37⟩
     have h37 := (h36.drew).below hd37
     have g37_9 := blk_below (blk_drew g36_9) hd37
     refine hK.out _ _ (h37).s0 (fun hHeld => ?_)
     refine two_ (i := 7) (j := 8) (Ni := some 30) (Nj := some 9) (zM 12 767) (zM 12 895) rfl rfl rfl rfl (by kernel_rfl) (by decide) (by decide) (fun K hK => ?_) (fun K hK => ?_)
     ·go_simp
      refine (lay_Bottom.calls c.w c.d c.i c.s f2 pb _ HPB.o).mono ?_
      rintro e w38 ⟨rfl, hd38⟩
      have h38 := (h37).below hd38
      have g38_9 := blk_below (g37_9) hd38
      refine hK.out _ _ (h38).s0 (fun hHeld => ?_)
      refine zO 8 1023 9 fun K hK => ?_
      go_simp
      have h39 := (h38).below (below_alloc (Below.refl _ _) (.cells #[.int .i64 0] 3))
      have g39_8 := blk_new (w38) (.cells #[.int .i64 0] 3)
      have g39_9 := blk_alloc g38_9 (.cells #[.int .i64 0] 3)
      refine hK.out _ _ (h39).s0 (fun hHeld => ?_)
      exact norm_ rfl (hcont (w38.heap.size, w2.heap.size) _ ⟨(h39), g39_8, g39_9, (blk_lt (h38).ho), (blk_lt HD2.o.ho), (Nat.ne_of_gt (blk_lt g38_9))⟩)
     ·go_simp
      have h40 := (h37).below (below_alloc (Below.refl _ _) (.cells #[.int .i64 0] 3))
      have g40_8 := blk_new (w37) (.cells #[.int .i64 0] 3)
      have g40_9 := blk_alloc g37_9 (.cells #[.int .i64 0] 3)
      refine hK.out _ _ (h40).s0 (fun hHeld => ?_)
      refine zO 7 1023 30 fun K hK => ?_
      go_simp
      refine (lay_Bottom.calls c.w c.d c.i c.s f2 pb _ HPB.o).mono ?_
      rintro e w41 ⟨rfl, hd41⟩
      have h41 := (h40).below hd41
      have g41_9 := blk_below (g40_9) hd41
      have g41_8 := blk_below (g40_8) hd41
      refine hK.out _ _ (h41).s0 (fun hHeld => ?_)
      exact norm_ rfl (hcont (w37.heap.size, w2.heap.size) _ ⟨(h41), g41_8, g41_9, (blk_lt (h37).ho), (blk_lt HD2.o.ho), (Nat.ne_of_gt (blk_lt g37_9))⟩)
    ·go_simp
     have h42 := (h36).below (below_alloc (Below.refl _ _) (.cells #[.int .i64 0] 3))
     have g42_8 := blk_new ((w2.alloc (.cells #[.int .i64 0] 3))) (.cells #[.int .i64 0] 3)
     rw [World.size_alloc] at g42_8
     have g42_9 := blk_alloc g36_9 (.cells #[.int .i64 0] 3)
     refine hK.out _ _ (h42.drew).s0 (fun hHeld => ?_)
     refine zO 3 895 26 fun K hK => ?_
     go_simp
     refine (lay_Top.calls c.w c.d c.i c.s f2 pt _ HPT.o).mono ?_
     rintro e w43 ⟨rfl, hd43⟩
     have h43 := (h42.drew).below hd43
     have g43_9 := blk_below (blk_drew g42_9) hd43
     have g43_8 := blk_below (blk_drew g42_8) hd43
     refine hK.out _ _ (h43).s0 (fun hHeld => ?_)
     refine zO 7 1023 30 fun K hK => ?_
     go_simp
     refine (lay_Bottom.calls c.w c.d c.i c.s f2 pb _ HPB.o).mono ?_
     rintro e w44 ⟨rfl, hd44⟩
     have h44 := (h43).below hd44
     have g44_9 := blk_below (g43_9) hd44
     have g44_8 := blk_below (g43_8) hd44
     refine hK.out _ _ (h44).s0 (fun hHeld => ?_)
     exact norm_ rfl (hcont (w2.heap.size + 1, w2.heap.size) _ ⟨(h44), g44_8, g44_9, (Nat.lt_of_lt_of_eq (blk_lt (h36).ho) (World.size_alloc _ _)), (blk_lt HD2.o.ho), (Nat.ne_of_gt (Nat.lt_of_lt_of_eq (blk_lt g36_9) (World.size_alloc _ _)))⟩)
  rintro ⟨nb, nc⟩ w3 ⟨hs3, hnb, hnc, hlt, hlc, hne⟩
  simp only [putAll, Act.put, List.setIfInBounds_toArray, List.set_cons_zero, List.set_cons_succ] at hnb hnc hlt hlc hne ⊢
  have HD3 := qQ hs3
  have HNB := qQ hnb
  have HNC := qQ hnc
  have HLT := qQ (And.intro hlt (And.intro hlc hne))
  clear hs3 hnb hnc hlt hlc hne
  refine zL 10 2047 fun K hK => ?_
  have n0 := (blk_cell HNB.o 0).trans rfl
  have n1 := fun i => blk_frozen HNB.o i
  go_simp
  refine hK.out _ _ ?_
  refine zL 11 4095 fun K hK => ?_
  have HD4 := qQ (HD3.o.boxSet HNB.o HLT.o.1 (fun x hx => by cases hx) pt)
  have HNC2 := qQ (blk_far (p := ⟨nb, 0, none⟩) HNC.o (fun e => HLT.o.2.2 e.symm) (.int .i64 pt))
  clear n0 n1
  have n0 := (blk_cell HNC2.o 0).trans rfl
  have n1 := fun i => blk_frozen HNC2.o i
  go_simp
  refine hK.out _ _ ?_
  refine zD ?_
  have hs5 := HD4.o.boxSet HNC2.o HLT.o.2.1 (fun x hx => by simp only [List.mem_cons, List.not_mem_nil, or_false] at hx; subst hx; exact HLT.o.2.2) pb
  generalize (w3.setCell ⟨nb, 0, none⟩ (.int .i64 pt)).setCell ⟨nc, 0, none⟩ (.int .i64 pb) = w5 at hs5 ⊢
  have HD5 := qQ hs5
  clear hs5 hHeld n0 n1 HNB HNC HNC2 HLT HD1 HD2 HD3 HD4 r0 x0 o0 o1
  have r0 := twoCells HD5.o.thr.two; have x0 := dsFrozen HD5.o.ds; obtain ⟨o0, o1⟩ := ssCells HD5.o
  go_wp2
  refine wp_label ?_
  go_wp2
  have HD6 := qQ (HD5.o.below (below_alloc (Below.refl _ _) (.cells #[(.func (.func 180) #[] #[.pointer (some ⟨w1.heap.size, 0, none⟩), .pointer (some ⟨nb, 0, none⟩), .pointer (some ⟨w.heap.size + 1, 0, none⟩)]), (.func (.func 181) #[] #[.pointer (some ⟨w1.heap.size, 0, none⟩), .pointer (some ⟨nc, 0, none⟩), .pointer (some ⟨w.heap.size + 1, 0, none⟩)]), (.func (.func 182) #[] #[.pointer (some ⟨w1.heap.size, 0, none⟩), .pointer (some ⟨w.heap.size, 0, none⟩), .pointer (some ⟨w.heap.size + 1, 0, none⟩)]), (.func (.func 183) #[] #[.pointer (some ⟨w1.heap.size, 0, none⟩), .pointer (some ⟨nb, 0, none⟩), .pointer (some ⟨w.heap.size + 1, 0, none⟩)])] 1)))
  have HF6 := qQ (blk_new w5 (.cells #[(.func (.func 180) #[] #[.pointer (some ⟨w1.heap.size, 0, none⟩), .pointer (some ⟨nb, 0, none⟩), .pointer (some ⟨w.heap.size + 1, 0, none⟩)]), (.func (.func 181) #[] #[.pointer (some ⟨w1.heap.size, 0, none⟩), .pointer (some ⟨nc, 0, none⟩), .pointer (some ⟨w.heap.size + 1, 0, none⟩)]), (.func (.func 182) #[] #[.pointer (some ⟨w1.heap.size, 0, none⟩), .pointer (some ⟨w.heap.size, 0, none⟩), .pointer (some ⟨w.heap.size + 1, 0, none⟩)]), (.func (.func 183) #[] #[.pointer (some ⟨w1.heap.size, 0, none⟩), .pointer (some ⟨nb, 0, none⟩), .pointer (some ⟨w.heap.size + 1, 0, none⟩)])] 1))
  generalize w5.alloc (.cells #[(.func (.func 180) #[] #[.pointer (some ⟨w1.heap.size, 0, none⟩), .pointer (some ⟨nb, 0, none⟩), .pointer (some ⟨w.heap.size + 1, 0, none⟩)]), (.func (.func 181) #[] #[.pointer (some ⟨w1.heap.size, 0, none⟩), .pointer (some ⟨nc, 0, none⟩), .pointer (some ⟨w.heap.size + 1, 0, none⟩)]), (.func (.func 182) #[] #[.pointer (some ⟨w1.heap.size, 0, none⟩), .pointer (some ⟨w.heap.size, 0, none⟩), .pointer (some ⟨w.heap.size + 1, 0, none⟩)]), (.func (.func 183) #[] #[.pointer (some ⟨w1.heap.size, 0, none⟩), .pointer (some ⟨nb, 0, none⟩), .pointer (some ⟨w.heap.size + 1, 0, none⟩)])] 1) = w6 at HD6 HF6 ⊢
  clear HD5 r0 x0 o0 o1
  rcases HX.o with ⟨rfl, rfl, rfl⟩ | ⟨rfl, rfl, hf⟩ | ⟨rfl, rfl, ps, hps, rfl⟩ | ⟨rfl, b, hq, hf⟩
  ·
   clear HX
   go_loopw [38] (fun i wr => ∃ k : Nat, k ≤ 0 ∧ i = .int .i64 (k : Int) ∧ Aside0 (SS w c ⟨f0, 0, f2, f3, f4, f5, 0⟩ ⟨0, 0, 0, 0, 0, 0, 0⟩ w1.heap.size [(nc, pb), (nb, pt)] (.slice A1 l.length c1) l wr) ∧ Aside0 (wr.heap[w5.heap.size]? = some (.cells #[(.func (.func 180) #[] #[.pointer (some ⟨w1.heap.size, 0, none⟩), .pointer (some ⟨nb, 0, none⟩), .pointer (some ⟨w.heap.size + 1, 0, none⟩)]), (.func (.func 181) #[] #[.pointer (some ⟨w1.heap.size, 0, none⟩), .pointer (some ⟨nc, 0, none⟩), .pointer (some ⟨w.heap.size + 1, 0, none⟩)]), (.func (.func 182) #[] #[.pointer (some ⟨w1.heap.size, 0, none⟩), .pointer (some ⟨w.heap.size, 0, none⟩), .pointer (some ⟨w.heap.size + 1, 0, none⟩)]), (.func (.func 183) #[] #[.pointer (some ⟨w1.heap.size, 0, none⟩), .pointer (some ⟨nb, 0, none⟩), .pointer (some ⟨w.heap.size + 1, 0, none⟩)])] 1 (0, 0))))
    (fun i _ => 0 - (intOf i).toNat)
   case atStart => exact ⟨0, by omega, rfl, HD6, HF6⟩
   case round =>
    obtain ⟨k, hk, rfl, HDr, HFr⟩ := hrel
    clear HD6 HF6
    have r0 := twoCells HDr.o.thr.two; have x0 := dsFrozen HDr.o.ds; obtain ⟨o0, o1⟩ := ssCells HDr.o
    have u1 := fun i => blk_cell HFr.o i
    have u2 := fun i => blk_frozen HFr.o i
    have hk4 : ((k : Int) < 4) = True := eq_true (by omega)
    by_cases hkp : k = 0
    ·subst hkp
     go_wp2_with (fail)
     refine (steal_1 w c f0 0 f2 f3 f4 f5 0 _ w1.heap.size nb [(nc, pb), (nb, pt)] pt _ l wr HN.o HDr.o (by simp)).mono ?_
     rintro e w20 ⟨⟨u, rfl⟩, hs⟩
     have HD20 := qQ hs
     clear hs u1 u2
     clear r0 x0 o0 o1
     have r0 := twoCells HD20.o.thr.two; have x0 := dsFrozen HD20.o.ds; obtain ⟨o0, o1⟩ := ssCells HD20.o
     go_wp2_with (first | (go_at_call 96; with_reducible refine (frame_Over.calls _ _ _ _ _ _ _ _ _ rfl).mono ?_; rintro e w21 ⟨rfl, hd⟩; have HD21 := qQ (HD20.o.below (hd)); clear hd; clear r0 x0 o0 o1; have r0 := twoCells HD21.o.thr.two; have x0 := dsFrozen HD21.o.ds; obtain ⟨o0, o1⟩ := ssCells HD21.o))
     have hs22 := HD21.o.f1 (1)
     generalize (w21).setCell ⟨w.heap.size + 1, 1, none⟩ (.int .i64 (1)) = w22 at hs22 ⊢
     have HD22 := qQ hs22
     clear hs22
     clear r0 x0 o0 o1
     have r0 := twoCells HD22.o.thr.two; have x0 := dsFrozen HD22.o.ds; obtain ⟨o0, o1⟩ := ssCells HD22.o
     refine zS 4 [3] (fun W' => SS0 w c ⟨f0, 1, f2, f3, f4, (loadF l pt), 0⟩ w1.heap.size (.slice A1 l.length c1) W') HD22.o.drew.s0 fun hHeld => ?_
     refine zT 0 1 57 ?_ (hy := zy3)
     refine zT 1 3 58 ?_ (hy := zy3)
     refine zY 2 7 6 ?_
     refine zL 3 15 fun K hK => ?_
     have y0 := thrCells HD22.o.thr
     go_simp
     refine hK.out _ _ ?_
     refine zD ?_
     have HT9 := qQ (HD22.o.thr.ans ⟨f0, 1, f2, f3, f4, (loadF l pt), 0⟩).drew
     have HR9 := qQ (Kd.R_drew (R_ans HD22.o.hr HD22.o.thr ⟨f0, 1, f2, f3, f4, (loadF l pt), 0⟩))
     clear hHeld y0
     go_wp2
     simp only [fwd]
     refine bodyPost_ret (results_tc rfl _ _ (w.heap.size + 1 + 1) 66 _ (0, 0) _ rfl HT9.o.h2 Tryz.underlying66 rfl (by kernel_rfl)) rfl ?_
     exact ⟨_, rfl, HR9.o, HT9.o.two.hb⟩
    ·exact absurd hk (by omega)
  ·
   clear HX
   go_loopw [38] (fun i wr => ∃ k : Nat, k ≤ 1 ∧ i = .int .i64 (k : Int) ∧ Aside0 (SS w c ⟨f0, 1, f2, f3, f4, f5, 0⟩ ⟨0, 0, 0, 0, 0, 0, 0⟩ w1.heap.size [(nc, pb), (nb, pt)] (.slice A1 l.length c1) l wr) ∧ Aside0 (wr.heap[w5.heap.size]? = some (.cells #[(.func (.func 180) #[] #[.pointer (some ⟨w1.heap.size, 0, none⟩), .pointer (some ⟨nb, 0, none⟩), .pointer (some ⟨w.heap.size + 1, 0, none⟩)]), (.func (.func 181) #[] #[.pointer (some ⟨w1.heap.size, 0, none⟩), .pointer (some ⟨nc, 0, none⟩), .pointer (some ⟨w.heap.size + 1, 0, none⟩)]), (.func (.func 182) #[] #[.pointer (some ⟨w1.heap.size, 0, none⟩), .pointer (some ⟨w.heap.size, 0, none⟩), .pointer (some ⟨w.heap.size + 1, 0, none⟩)]), (.func (.func 183) #[] #[.pointer (some ⟨w1.heap.size, 0, none⟩), .pointer (some ⟨nb, 0, none⟩), .pointer (some ⟨w.heap.size + 1, 0, none⟩)])] 1 (0, 0))))
    (fun i _ => 1 - (intOf i).toNat)
   case atStart => exact ⟨0, by omega, rfl, HD6, HF6⟩
   case round =>
    obtain ⟨k, hk, rfl, HDr, HFr⟩ := hrel
    clear HD6 HF6
    have r0 := twoCells HDr.o.thr.two; have x0 := dsFrozen HDr.o.ds; obtain ⟨o0, o1⟩ := ssCells HDr.o
    have u1 := fun i => blk_cell HFr.o i
    have u2 := fun i => blk_frozen HFr.o i
    have hk4 : ((k : Int) < 4) = True := eq_true (by omega)
    by_cases hkp : k = 1
    ·subst hkp
     by_cases hc : wrap64 (IntKind.u64.wrap (loadF l pb - f5)) ≤ 0
     ·rw [if_pos hc] at hf
      subst hf
      go_wp2_with (fail)
      refine (steal_2 w c f0 1 f2 f3 f4 f5 0 _ w1.heap.size nc [(nc, pb), (nb, pt)] pb _ l wr HN.o HDr.o (by simp) ⟨f0, 0, f2, 0, 0, 0, 3⟩ (by rw [if_pos hc])).mono ?_
      rintro e w20 ⟨⟨u, rfl⟩, hs⟩
      have HD20 := qQ hs
      clear hs u1 u2
      clear r0 x0 o0 o1
      have r0 := twoCells HD20.o.thr.two; have x0 := dsFrozen HD20.o.ds; obtain ⟨o0, o1⟩ := ssCells HD20.o
      go_wp2_with (first | (go_at_call 96; with_reducible refine (frame_Over.calls _ _ _ _ _ _ _ _ _ rfl).mono ?_; rintro e w21 ⟨rfl, hd⟩; have HD21 := qQ (HD20.o.below (hd)); clear hd; clear r0 x0 o0 o1; have r0 := twoCells HD21.o.thr.two; have x0 := dsFrozen HD21.o.ds; obtain ⟨o0, o1⟩ := ssCells HD21.o))
      refine zS 4 [3] (fun W' => SS0 w c ⟨f0, 0, f2, 0, 0, 0, 3⟩ w1.heap.size (.slice A1 l.length c1) W') HD21.o.drew.s0 fun hHeld => ?_
      refine zT 0 1 57 ?_ (hy := zy3)
      refine zT 1 3 58 ?_ (hy := zy3)
      refine zY 2 7 6 ?_
      refine zL 3 15 fun K hK => ?_
      have y0 := thrCells HD21.o.thr
      go_simp
      refine hK.out _ _ ?_
      refine zD ?_
      have HT9 := qQ (HD21.o.thr.ans ⟨f0, 0, f2, 0, 0, 0, 3⟩).drew
      have HR9 := qQ (Kd.R_drew (R_ans HD21.o.hr HD21.o.thr ⟨f0, 0, f2, 0, 0, 0, 3⟩))
      clear hHeld y0
      go_wp2
      simp only [fwd]
      refine bodyPost_ret (results_tc rfl _ _ (w.heap.size + 1 + 1) 66 _ (0, 0) _ rfl HT9.o.h2 Tryz.underlying66 rfl (by kernel_rfl)) rfl ?_
      exact ⟨_, rfl, HR9.o, HT9.o.two.hb⟩
     ·rw [if_neg hc] at hf
      subst hf
      go_wp2_with (fail)
      refine (steal_2 w c f0 1 f2 f3 f4 f5 0 _ w1.heap.size nc [(nc, pb), (nb, pt)] pb _ l wr HN.o HDr.o (by simp) ⟨f0, 1, f2, f3, (loadF l pb), f5, 0⟩ (by rw [if_neg (by omega)])).mono ?_
      rintro e w20 ⟨⟨u, rfl⟩, hs⟩
      have HD20 := qQ hs
      clear hs u1 u2
      clear r0 x0 o0 o1
      have r0 := twoCells HD20.o.thr.two; have x0 := dsFrozen HD20.o.ds; obtain ⟨o0, o1⟩ := ssCells HD20.o
      go_wp2_with (first | (go_at_call 96; with_reducible refine (frame_Over.calls _ _ _ _ _ _ _ _ _ rfl).mono ?_; rintro e w21 ⟨rfl, hd⟩; have HD21 := qQ (HD20.o.below (hd)); clear hd; clear r0 x0 o0 o1; have r0 := twoCells HD21.o.thr.two; have x0 := dsFrozen HD21.o.ds; obtain ⟨o0, o1⟩ := ssCells HD21.o))
      have hs22 := HD21.o.f1 (2)
      generalize (w21).setCell ⟨w.heap.size + 1, 1, none⟩ (.int .i64 (2)) = w22 at hs22 ⊢
      have HD22 := qQ hs22
      clear hs22
      clear r0 x0 o0 o1
      have r0 := twoCells HD22.o.thr.two; have x0 := dsFrozen HD22.o.ds; obtain ⟨o0, o1⟩ := ssCells HD22.o
      refine zS 4 [3] (fun W' => SS0 w c ⟨f0, 2, f2, f3, (loadF l pb), f5, 0⟩ w1.heap.size (.slice A1 l.length c1) W') HD22.o.drew.s0 fun hHeld => ?_
      refine zT 0 1 57 ?_ (hy := zy3)
      refine zT 1 3 58 ?_ (hy := zy3)
      refine zY 2 7 6 ?_
      refine zL 3 15 fun K hK => ?_
      have y0 := thrCells HD22.o.thr
      go_simp
      refine hK.out _ _ ?_
      refine zD ?_
      have HT9 := qQ (HD22.o.thr.ans ⟨f0, 2, f2, f3, (loadF l pb), f5, 0⟩).drew
      have HR9 := qQ (Kd.R_drew (R_ans HD22.o.hr HD22.o.thr ⟨f0, 2, f2, f3, (loadF l pb), f5, 0⟩))
      clear hHeld y0
      go_wp2
      simp only [fwd]
      refine bodyPost_ret (results_tc rfl _ _ (w.heap.size + 1 + 1) 66 _ (0, 0) _ rfl HT9.o.h2 Tryz.underlying66 rfl (by kernel_rfl)) rfl ?_
      exact ⟨_, rfl, HR9.o, HT9.o.two.hb⟩
    ·have hne : ((k : Int) != 1) = true := by simp; omega
     clear u1
     obtain ⟨fv, u3⟩ : ∃ fv, wr.cell? ⟨w5.heap.size, k, none⟩ = some fv := by
      rw [blk_cell HFr.o k]
      rcases (by omega : k = 0 ∨ k = 1 ∨ k = 2 ∨ k = 3) with rfl | rfl | rfl | rfl <;> exact ⟨_, rfl⟩
     go_wp2
     go_roundw
     case rel => exact ⟨k + 1, by omega, by simp, HDr, HFr⟩
     case measure => simp [intOf]; omega
  ·
   clear HX
   go_loopw [38] (fun i wr => ∃ k : Nat, k ≤ 2 ∧ i = .int .i64 (k : Int) ∧ Aside0 (SS w c ⟨f0, 2, f2, f3, f4, f5, 0⟩ ⟨0, 0, 0, 0, 0, 0, 0⟩ w1.heap.size [(nc, pb), (nb, pt)] (.slice A1 l.length c1) l wr) ∧ Aside0 (wr.heap[w5.heap.size]? = some (.cells #[(.func (.func 180) #[] #[.pointer (some ⟨w1.heap.size, 0, none⟩), .pointer (some ⟨nb, 0, none⟩), .pointer (some ⟨w.heap.size + 1, 0, none⟩)]), (.func (.func 181) #[] #[.pointer (some ⟨w1.heap.size, 0, none⟩), .pointer (some ⟨nc, 0, none⟩), .pointer (some ⟨w.heap.size + 1, 0, none⟩)]), (.func (.func 182) #[] #[.pointer (some ⟨w1.heap.size, 0, none⟩), .pointer (some ⟨w.heap.size, 0, none⟩), .pointer (some ⟨w.heap.size + 1, 0, none⟩)]), (.func (.func 183) #[] #[.pointer (some ⟨w1.heap.size, 0, none⟩), .pointer (some ⟨nb, 0, none⟩), .pointer (some ⟨w.heap.size + 1, 0, none⟩)])] 1 (0, 0))))
    (fun i _ => 2 - (intOf i).toNat)
   case atStart => exact ⟨0, by omega, rfl, HD6, HF6⟩
   case round =>
    obtain ⟨k, hk, rfl, HDr, HFr⟩ := hrel
    clear HD6 HF6
    have r0 := twoCells HDr.o.thr.two; have x0 := dsFrozen HDr.o.ds; obtain ⟨o0, o1⟩ := ssCells HDr.o
    have u1 := fun i => blk_cell HFr.o i
    have u2 := fun i => blk_frozen HFr.o i
    have hk4 : ((k : Int) < 4) = True := eq_true (by omega)
    by_cases hkp : k = 2
    ·subst hkp
     go_wp2_with (fail)
     refine (steal_3 w c f0 2 f2 f3 f4 f5 0 _ w1.heap.size nb [(nc, pb), (nb, pt)] pt _ l wr HN.o HDr.o ps hps).mono ?_
     rintro e w20 ⟨⟨u, rfl⟩, hs⟩
     have HD20 := qQ hs
     clear hs u1 u2
     clear r0 x0 o0 o1
     have r0 := twoCells HD20.o.thr.two; have x0 := dsFrozen HD20.o.ds; obtain ⟨o0, o1⟩ := ssCells HD20.o
     go_wp2_with (first | (go_at_call 96; with_reducible refine (frame_Over.calls _ _ _ _ _ _ _ _ _ rfl).mono ?_; rintro e w21 ⟨rfl, hd⟩; have HD21 := qQ (HD20.o.below (hd)); clear hd; clear r0 x0 o0 o1; have r0 := twoCells HD21.o.thr.two; have x0 := dsFrozen HD21.o.ds; obtain ⟨o0, o1⟩ := ssCells HD21.o))
     have hs22 := HD21.o.f1 (3)
     generalize (w21).setCell ⟨w.heap.size + 1, 1, none⟩ (.int .i64 (3)) = w22 at hs22 ⊢
     have HD22 := qQ hs22
     clear hs22
     clear r0 x0 o0 o1
     have r0 := twoCells HD22.o.thr.two; have x0 := dsFrozen HD22.o.ds; obtain ⟨o0, o1⟩ := ssCells HD22.o
     refine zS 4 [3] (fun W' => SS0 w c ⟨f0, 3, f2, (loadF l ps), f4, f5, 0⟩ w1.heap.size (.slice A1 l.length c1) W') HD22.o.drew.s0 fun hHeld => ?_
     refine zT 0 1 57 ?_ (hy := zy3)
     refine zT 1 3 58 ?_ (hy := zy3)
     refine zY 2 7 6 ?_
     refine zL 3 15 fun K hK => ?_
     have y0 := thrCells HD22.o.thr
     go_simp
     refine hK.out _ _ ?_
     refine zD ?_
     have HT9 := qQ (HD22.o.thr.ans ⟨f0, 3, f2, (loadF l ps), f4, f5, 0⟩).drew
     have HR9 := qQ (Kd.R_drew (R_ans HD22.o.hr HD22.o.thr ⟨f0, 3, f2, (loadF l ps), f4, f5, 0⟩))
     clear hHeld y0
     go_wp2
     simp only [fwd]
     refine bodyPost_ret (results_tc rfl _ _ (w.heap.size + 1 + 1) 66 _ (0, 0) _ rfl HT9.o.h2 Tryz.underlying66 rfl (by kernel_rfl)) rfl ?_
     exact ⟨_, rfl, HR9.o, HT9.o.two.hb⟩
    ·have hne : ((k : Int) != 2) = true := by simp; omega
     clear u1
     obtain ⟨fv, u3⟩ : ∃ fv, wr.cell? ⟨w5.heap.size, k, none⟩ = some fv := by
      rw [blk_cell HFr.o k]
      rcases (by omega : k = 0 ∨ k = 1 ∨ k = 2 ∨ k = 3) with rfl | rfl | rfl | rfl <;> exact ⟨_, rfl⟩
     go_wp2
     go_roundw
     case rel => exact ⟨k + 1, by omega, by simp, HDr, HFr⟩
     case measure => simp [intOf]; omega
  ·
   clear HX
   go_loopw [38] (fun i wr => ∃ k : Nat, k ≤ 3 ∧ i = .int .i64 (k : Int) ∧ Aside0 (SS w c ⟨f0, 3, f2, f3, f4, f5, 0⟩ ⟨0, 0, 0, 0, 0, 0, 0⟩ w1.heap.size [(nc, pb), (nb, pt)] (.slice A1 l.length c1) l wr) ∧ Aside0 (wr.heap[w5.heap.size]? = some (.cells #[(.func (.func 180) #[] #[.pointer (some ⟨w1.heap.size, 0, none⟩), .pointer (some ⟨nb, 0, none⟩), .pointer (some ⟨w.heap.size + 1, 0, none⟩)]), (.func (.func 181) #[] #[.pointer (some ⟨w1.heap.size, 0, none⟩), .pointer (some ⟨nc, 0, none⟩), .pointer (some ⟨w.heap.size + 1, 0, none⟩)]), (.func (.func 182) #[] #[.pointer (some ⟨w1.heap.size, 0, none⟩), .pointer (some ⟨w.heap.size, 0, none⟩), .pointer (some ⟨w.heap.size + 1, 0, none⟩)]), (.func (.func 183) #[] #[.pointer (some ⟨w1.heap.size, 0, none⟩), .pointer (some ⟨nb, 0, none⟩), .pointer (some ⟨w.heap.size + 1, 0, none⟩)])] 1 (0, 0))))
    (fun i _ => 3 - (intOf i).toNat)
   case atStart => exact ⟨0, by omega, rfl, HD6, HF6⟩
   case round =>
    obtain ⟨k, hk, rfl, HDr, HFr⟩ := hrel
    clear HD6 HF6
    have r0 := twoCells HDr.o.thr.two; have x0 := dsFrozen HDr.o.ds; obtain ⟨o0, o1⟩ := ssCells HDr.o
    have u1 := fun i => blk_cell HFr.o i
    have u2 := fun i => blk_frozen HFr.o i
    have hk4 : ((k : Int) < 4) = True := eq_true (by omega)
    by_cases hkp : k = 3
    ·subst hkp
     cases b with
     | true =>
      simp only [if_true] at hf
      subst hf
      go_wp2_with (fail)
      refine (steal_4 w c f0 3 f2 f3 f4 f5 0 _ w1.heap.size nb [(nc, pb), (nb, pt)] pt _ l wr HN.o HDr.o (by simp) true l' hq ⟨f0, 0, f2, f3, 0, 0, 1⟩ (by simp)).mono ?_
      rintro e w20 ⟨⟨u, rfl⟩, v7, hs⟩
      have HD20 := qQ hs
      clear hs u1 u2
      clear r0 x0 o0 o1
      have r0 := twoCells HD20.o.thr.two; have x0 := dsFrozen HD20.o.ds; obtain ⟨o0, o1⟩ := ssCells HD20.o
      go_wp2_with (first | (go_at_call 96; with_reducible refine (frame_Over.calls _ _ _ _ _ _ _ _ _ rfl).mono ?_; rintro e w21 ⟨rfl, hd⟩; have HD21 := qQ (HD20.o.below (hd)); clear hd; clear r0 x0 o0 o1; have r0 := twoCells HD21.o.thr.two; have x0 := dsFrozen HD21.o.ds; obtain ⟨o0, o1⟩ := ssCells HD21.o))
      refine zS 4 [3] (fun W' => SS0 w c ⟨f0, 0, f2, f3, 0, 0, 1⟩ w1.heap.size v7 W') HD21.o.drew.s0 fun hHeld => ?_
      refine zT 0 1 57 ?_ (hy := zy3)
      refine zT 1 3 58 ?_ (hy := zy3)
      refine zY 2 7 6 ?_
      refine zL 3 15 fun K hK => ?_
      have y0 := thrCells HD21.o.thr
      go_simp
      refine hK.out _ _ ?_
      refine zD ?_
      have HT9 := qQ (HD21.o.thr.ans ⟨f0, 0, f2, f3, 0, 0, 1⟩).drew
      have HR9 := qQ (Kd.R_drew (R_ans HD21.o.hr HD21.o.thr ⟨f0, 0, f2, f3, 0, 0, 1⟩))
      clear hHeld y0
      go_wp2
      simp only [fwd]
      refine bodyPost_ret (results_tc rfl _ _ (w.heap.size + 1 + 1) 66 _ (0, 0) _ rfl HT9.o.h2 Tryz.underlying66 rfl (by kernel_rfl)) rfl ?_
      exact ⟨_, rfl, HR9.o, HT9.o.two.hb⟩
     | false =>
      simp only [Bool.false_eq_true, if_false] at hf
      subst hf
      go_wp2_with (fail)
      refine (steal_4 w c f0 3 f2 f3 f4 f5 0 _ w1.heap.size nb [(nc, pb), (nb, pt)] pt _ l wr HN.o HDr.o (by simp) false l' hq ⟨f0, 0, f2, 0, 0, 0, 4⟩ (by simp)).mono ?_
      rintro e w20 ⟨⟨u, rfl⟩, v7, hs⟩
      have HD20 := qQ hs
      clear hs u1 u2
      clear r0 x0 o0 o1
      have r0 := twoCells HD20.o.thr.two; have x0 := dsFrozen HD20.o.ds; obtain ⟨o0, o1⟩ := ssCells HD20.o
      go_wp2_with (first | (go_at_call 96; with_reducible refine (frame_Over.calls _ _ _ _ _ _ _ _ _ rfl).mono ?_; rintro e w21 ⟨rfl, hd⟩; have HD21 := qQ (HD20.o.below (hd)); clear hd; clear r0 x0 o0 o1; have r0 := twoCells HD21.o.thr.two; have x0 := dsFrozen HD21.o.ds; obtain ⟨o0, o1⟩ := ssCells HD21.o))
      refine zS 4 [3] (fun W' => SS0 w c ⟨f0, 0, f2, 0, 0, 0, 4⟩ w1.heap.size v7 W') HD21.o.drew.s0 fun hHeld => ?_
      refine zT 0 1 57 ?_ (hy := zy3)
      refine zT 1 3 58 ?_ (hy := zy3)
      refine zY 2 7 6 ?_
      refine zL 3 15 fun K hK => ?_
      have y0 := thrCells HD21.o.thr
      go_simp
      refine hK.out _ _ ?_
      refine zD ?_
      have HT9 := qQ (HD21.o.thr.ans ⟨f0, 0, f2, 0, 0, 0, 4⟩).drew
      have HR9 := qQ (Kd.R_drew (R_ans HD21.o.hr HD21.o.thr ⟨f0, 0, f2, 0, 0, 0, 4⟩))
      clear hHeld y0
      go_wp2
      simp only [fwd]
      refine bodyPost_ret (results_tc rfl _ _ (w.heap.size + 1 + 1) 66 _ (0, 0) _ rfl HT9.o.h2 Tryz.underlying66 rfl (by kernel_rfl)) rfl ?_
      exact ⟨_, rfl, HR9.o, HT9.o.two.hb⟩
    ·have hne : ((k : Int) != 3) = true := by simp; omega
     clear u1
     obtain ⟨fv, u3⟩ : ∃ fv, wr.cell? ⟨w5.heap.size, k, none⟩ = some fv := by
      rw [blk_cell HFr.o k]
      rcases (by omega : k = 0 ∨ k = 1 ∨ k = 2 ∨ k = 3) with rfl | rfl | rfl | rfl <;> exact ⟨_, rfl⟩
     go_wp2
     go_roundw
     case rel => exact ⟨k + 1, by omega, by simp, HDr, HFr⟩
     case measure => simp [intOf]; omega
end Go.Proofs.YthoeodjgfelkhaaGreat.QT
