/- Part 23 of the claim on TopWakes: submit.Step's functions. No condition. -/
import Derived.Test.YthoeodjgfelkhaaGreatm19
import Derived.Test.YthoeodjgfelkhaaGreatm20
set_option linter.unusedVariables false
set_option linter.unusedSimpArgs false
set_option maxRecDepth 100000
set_option maxHeartbeats 8000000
namespace Go.Proofs.YthoeodjgfelkhaaGreat.QT
open Go.RowKit Go.Proofs.YthoeodjgfelkhaaGreatW.PrintWords Go.Proofs.YthoeodjgfelkhaaGreatW.PrintLast Go.Proofs.YthoeodjgfelkhaaGreatW.PrintMore
attribute [local go_sem] max2_int min2_int max_two min_two
abbrev subZ (pc : Int) (vr : Value) (f : S66) : Array Value := #[.int .i64 pc, vr, .int .i64 f.f0, .int .i64 f.f1, .int .i64 f.f2, .int .u64 f.f3, .int .u64 f.f4, .int .u64 f.f5, .int .i64 f.f6]
structure US (w : World) (ob sb eb : Nat) (cb : List (Nat × Array Value × Nat)) (z : Array Value) (vm : Value) (m : List Int) (vf : Value) (rf : List Int) (ve : Value) (ev : List S40) (W : World) : Prop where
 bel : Below w.heap.size w W
 lo : w.heap.size ≤ ob ∧ w.heap.size ≤ sb ∧ w.heap.size ≤ eb ∧ ob ≠ sb ∧ ob ≠ eb ∧ sb ≠ eb
 ho : W.heap[ob]? = some (.cells #[vm] 30 (0, 0))
 hs : W.heap[sb]? = some (.cells z 68 (0, 0))
 he : W.heap[eb]? = some (.cells #[ve] 35 (0, 0))
 rm : (Kd.int .u64).R 38 W w.heap.size (fun _ => True) vm m
 rr : (Kd.int .i64).R 3 W w.heap.size (fun _ => True) vf rf
 re : k40.R 40 W w.heap.size (fun _ => True) ve ev
 cb : ∀ q, q ∈ cb → W.heap[q.1]? = some (.cells q.2.1 q.2.2 (0, 0)) ∧ q.1 ≠ ob ∧ q.1 ≠ sb ∧ q.1 ≠ eb ∧ q.2.2 ≠ 40
section
variable {w : World} {ob sb eb : Nat} {cb : List (Nat × Array Value × Nat)} {z : Array Value} {vm : Value} {m : List Int} {vf : Value} {rf : List Int} {ve : Value} {ev : List S40} {W W1 : World} {pc : Int} {vr : Value} {f : S66}
theorem US.below (h : US w ob sb eb cb z vm m vf rf ve ev W) (hb : Below W.heap.size W W1) : US w ob sb eb cb z vm m vf rf ve ev W1 :=
 ⟨below_then h.bel h.bel.size hb, h.lo, blk_below h.ho hb, blk_below h.hs hb, blk_below h.he hb, Kd.R_below h.rm hb, Kd.R_below h.rr hb, Kd.R_below h.re hb, fun q hq => ⟨blk_below (h.cb q hq).1 hb, (h.cb q hq).2⟩⟩
theorem T1 {a b : Nat} (h : a ≠ b) : ∀ q, q ∈ a :: ([] : List Nat) → q ≠ b := fun q hq => by rcases List.mem_cons.1 hq with rfl | hq; exact h; cases hq
theorem US.setM (h : US w ob sb eb cb z vm m vf rf ve ev W) {v' : Value} {m' : List Int} {b : Nat} (hr : (Kd.int .u64).R 38 W b (fun _ => True) v' m') (hb : w.heap.size ≤ b) : US w ob sb eb cb z v' m' vf rf ve ev (W.setCell ⟨ob, 0, none⟩ v') := by
 have lo := h.lo
 exact ⟨h.bel.setCell (p := ⟨ob, 0, none⟩) lo.1 _, lo, by simpa using blk_set h.ho 0 v', blk_far h.hs (fun e => lo.2.2.2.1 e.symm) _, blk_far h.he (fun e => lo.2.2.2.2.1 e.symm) _, Kd.R_lower (Kd.R_set hr h.ho (T1 (by decide)) 0 v') hb, Kd.R_set h.rr h.ho (T1 (by decide)) 0 v', Kd.R_set h.re h.ho (T1 (by decide)) 0 v', fun q hq => ⟨blk_far (h.cb q hq).1 (h.cb q hq).2.1 _, (h.cb q hq).2⟩⟩
theorem US.sset (h : US w ob sb eb cb z vm m vf rf ve ev W) (i : Nat) (u : Value) : US w ob sb eb cb (z.setIfInBounds i u) vm m vf rf ve ev (W.setCell ⟨sb, i, none⟩ u) := by
 have lo := h.lo
 exact ⟨h.bel.setCell (p := ⟨sb, i, none⟩) lo.2.1 _, lo, blk_far h.ho lo.2.2.2.1 _, blk_set h.hs i u, blk_far h.he (fun e => lo.2.2.2.2.2 e.symm) _, Kd.R_set h.rm h.hs (T1 (by decide)) i u, Kd.R_set h.rr h.hs (T1 (by decide)) i u, Kd.R_set h.re h.hs (T1 (by decide)) i u, fun q hq => ⟨blk_far (h.cb q hq).1 (h.cb q hq).2.2.1 _, (h.cb q hq).2⟩⟩
theorem US.spc (h : US w ob sb eb cb (subZ pc vr f) vm m vf rf ve ev W) (x : Int) : US w ob sb eb cb (subZ x vr f) vm m vf rf ve ev (W.setCell ⟨sb, 0, none⟩ (.int .i64 x)) := by simpa using h.sset 0 (.int .i64 x)
theorem US.fr (h : US w ob sb eb cb (subZ pc vr f) vm m vf rf ve ev W) (f' : S66) : US w ob sb eb cb (subZ pc vr f') vm m vf rf ve ev (((((((W.setCell ⟨sb, 2, none⟩ (.int .i64 f'.f0)).setCell ⟨sb, 3, none⟩ (.int .i64 f'.f1)).setCell ⟨sb, 4, none⟩ (.int .i64 f'.f2)).setCell ⟨sb, 5, none⟩ (.int .u64 f'.f3)).setCell ⟨sb, 6, none⟩ (.int .u64 f'.f4)).setCell ⟨sb, 7, none⟩ (.int .u64 f'.f5)).setCell ⟨sb, 8, none⟩ (.int .i64 f'.f6)) := by
 simpa using ((((((h.sset 2 (.int .i64 f'.f0)).sset 3 (.int .i64 f'.f1)).sset 4 (.int .i64 f'.f2)).sset 5 (.int .u64 f'.f3)).sset 6 (.int .u64 f'.f4)).sset 7 (.int .u64 f'.f5)).sset 8 (.int .i64 f'.f6)
theorem US.rt (h : US w ob sb eb cb (subZ pc vr f) vm m vf rf ve ev W) (v : Value) : US w ob sb eb cb (subZ pc v f) vm m vf rf ve ev (W.setCell ⟨sb, 1, none⟩ v) := by simpa using h.sset 1 v
theorem US.appE (h : US w ob sb eb cb z vm m vf rf ve ev W) {ve' : Value} {ev' : List S40} (r : k40.R 40 W1 w.heap.size (fun _ => True) ve' ev') (hb : Below w.heap.size w W1) (hg : W.grownBy W1 ve.ownBlock) : US w ob sb eb cb z vm m vf rf ve' ev' (W1.setCell ⟨eb, 0, none⟩ ve') := by
 have lo := h.lo
 have far : ∀ {b t : Nat} {cs : Array Value}, W.heap[b]? = some (.cells cs t (0, 0)) → t ≠ 40 → W1.heap[b]? = some (.cells cs t (0, 0)) := fun hh ht => blk_grown hh hg (Kd.R_ne h.re hh (Ne.symm ht))
 have he := far h.he (by decide)
 exact ⟨hb.setCell (p := ⟨eb, 0, none⟩) lo.2.2.1 _, lo, blk_far (far h.ho (by decide)) lo.2.2.2.2.1 _, blk_far (far h.hs (by decide)) lo.2.2.2.2.2 _, by simpa using blk_set he 0 ve',
  Kd.R_set (Kd.R_over h.rm h.re (T1 (by decide)) hg) he (T1 (by decide)) 0 ve', Kd.R_set (Kd.R_over h.rr h.re (T1 (by decide)) hg) he (T1 (by decide)) 0 ve', Kd.R_set r he (T1 (by decide)) 0 ve',
  fun q hq => ⟨blk_far (far (h.cb q hq).1 (h.cb q hq).2.2.2.2) (h.cb q hq).2.2.2.1 _, (h.cb q hq).2⟩⟩
theorem usS (h : US w ob sb eb cb (subZ pc vr f) vm m vf rf ve ev W) : W.cell? ⟨sb, 0, none⟩ = some (.int .i64 pc) ∧ W.cell? ⟨sb, 1, none⟩ = some vr ∧ W.cell? ⟨sb, 2, none⟩ = some (.int .i64 f.f0) ∧ W.cell? ⟨sb, 3, none⟩ = some (.int .i64 f.f1) ∧ W.cell? ⟨sb, 4, none⟩ = some (.int .i64 f.f2) ∧ W.cell? ⟨sb, 5, none⟩ = some (.int .u64 f.f3) ∧ W.cell? ⟨sb, 6, none⟩ = some (.int .u64 f.f4) ∧ W.cell? ⟨sb, 7, none⟩ = some (.int .u64 f.f5) ∧ W.cell? ⟨sb, 8, none⟩ = some (.int .i64 f.f6) ∧ ∀ i, W.frozen? ⟨sb, i, none⟩ = false :=
 ⟨(blk_cell h.hs 0).trans rfl, (blk_cell h.hs 1).trans rfl, (blk_cell h.hs 2).trans rfl, (blk_cell h.hs 3).trans rfl, (blk_cell h.hs 4).trans rfl, (blk_cell h.hs 5).trans rfl, (blk_cell h.hs 6).trans rfl, (blk_cell h.hs 7).trans rfl, (blk_cell h.hs 8).trans rfl, fun i => blk_frozen h.hs i⟩
theorem usO (h : US w ob sb eb cb z vm m vf rf ve ev W) : W.cell? ⟨ob, 0, none⟩ = some vm ∧ (∀ i, W.frozen? ⟨ob, i, none⟩ = false) := ⟨(blk_cell h.ho 0).trans rfl, fun i => blk_frozen h.ho i⟩
theorem usE (h : US w ob sb eb cb z vm m vf rf ve ev W) : W.cell? ⟨eb, 0, none⟩ = some ve ∧ (∀ i, W.frozen? ⟨eb, i, none⟩ = false) := ⟨(blk_cell h.he 0).trans rfl, fun i => blk_frozen h.he i⟩
theorem usB (h : US w ob sb eb cb z vm m vf rf ve ev W) {b t : Nat} {cs : Array Value} (hm : (b, cs, t) ∈ cb) (i : Nat) : W.cell? ⟨b, i, none⟩ = cs[i]? := blk_cell (h.cb _ hm).1 i
end
theorem sub_tell (w : World) (ob sb eb : Nat) (cb : List (Nat × Array Value × Nat)) (pc : Int) (vr : Value) (f : S66) (vm : Value) (m : List Int) (vf : Value) (rf : List Int) (ve : Value) (ev : List S40) (ib : Nat) (i kd ts : Int) (W : World) (h : US w ob sb eb cb (subZ pc vr f) vm m vf rf ve ev W) (hi : (ib, #[.int .i64 i], 3) ∈ cb) (hn : ev.length ≤ 1000000) :
  Calls Tryz.prog 91 #[.int .i64 kd, .int .i64 ts, .pointer (some ⟨eb, 0, none⟩), .pointer (some ⟨ib, 0, none⟩)] W fun e W' => (∃ u, e = .returned u) ∧ ∃ ve', US w ob sb eb cb (subZ pc vr f) vm m vf rf ve' (ev ++ [⟨kd, ts, i⟩]) W' := by
 have HD0 := qQ h
 have HHN := qQ hn
 obtain ⟨Ae, ce, rfl⟩ := Kd.R_slice h.re
 obtain ⟨t0, t1⟩ := usE h
 have i0 : W.cell? ⟨ib, 0, none⟩ = some (.int .i64 i) := (usB h hi 0).trans rfl
 clear h hn hi
 go_enter Tryz.func91, Tryz.ntmps91
 go_wp2_with ((with_reducible refine gate_builtin (b := .append) (xs := #[.tmp 6, .tmp 11]) rfl ?_); at_builtin; (refine Kd.R_append k40 (w0 := w) (W := W) w.heap.size (by rfl) (.tmp 6) (.tmp 11) 35 40 (.agg #[.int .i64 0, .int .i64 0, .int .i64 0]) 24 rfl Tryz.underlying35 ev_info rfl (by decide) (by decide) (.slice Ae ev.length ce) ev ⟨kd, ts, i⟩ [.int .i64 kd, .int .i64 ts, .int .i64 i] (fun _ => True) (fun _ => False) (by rfl) (by rfl) (k40_mkM _ _ _ ⟨kd, ts, i⟩) (fun _ h => h.elim) (fun _ _ => trivial) HD0.o.re HD0.o.bel HD0.o.bel.size (by have := HHN.o; omega) ?_; intro ve' w1 hr hb hg hat; obtain ⟨A5, c5, eo⟩ := Kd.R_slice hr; subst eo; have hs1 := HD0.o.appE hr hb hg; rw [show (ev ++ [(⟨kd, ts, i⟩ : S40)]).length = ev.length + 1 by simp] at hs1; have HS1 := qQ hs1; clear hs1; have hk1 := blk_grown HD0.o.he hg (Kd.R_ne HD0.o.re HD0.o.he (by decide)); clear hr hb hg hat t0 t1 i0; have t0 := (blk_cell hk1 0).trans rfl; have t1 := fun i => blk_frozen hk1 i))
 go_end0
 exact ⟨⟨_, rfl⟩, _, HS1.o⟩
theorem sub_pend (w : World) (ob sb eb : Nat) (cb : List (Nat × Array Value × Nat)) (pc : Int) (vr : Value) (f : S66) (vm : Value) (m : List Int) (vf : Value) (rf : List Int) (ve : Value) (ev : List S40) (ib : Nat) (rb : Nat) (i r : Int)  (W : World) (h : US w ob sb eb cb (subZ pc vr f) vm m vf rf ve ev W) (hib : (ib, #[.int .i64 i], 3) ∈ cb) (hrb : (rb, #[.int .i64 r], 3) ∈ cb)  (hn : m.length ≤ 1000000) :
  Calls Tryz.prog 98 #[.pointer (some ⟨ob, 0, none⟩), .pointer (some ⟨ib, 0, none⟩), .pointer (some ⟨rb, 0, none⟩), .pointer (some ⟨sb, 0, none⟩)] W fun e W' => (∃ u, e = .returned u) ∧ ∃ vm', US w ob sb eb cb (subZ 2 vr ⟨3, 0, i, IntKind.u64.wrap r, 0, 0, 0⟩) vm' (addF m 0 1).1 vf rf ve ev W' := by
 have HD0 := qQ h
 have HBib := qQ hib
 have HBrb := qQ hrb
 have HHN := qQ hn
 clear h hib hrb hn
 obtain ⟨Am, cm, rfl⟩ := Kd.R_slice HD0.o.rm
 go_enter Tryz.func98, Tryz.ntmps98
 have s0 := usS HD0.o
 obtain ⟨t0, t1⟩ := usE HD0.o
 obtain ⟨o0, o1⟩ := usO HD0.o
 have bib0 := (usB HD0.o HBib.o 0).trans rfl
 have brb0 := (usB HD0.o HBrb.o 0).trans rfl
 go_wp2_with (first | (go_at_call 99; with_reducible refine (add99 _ _ m 0 1 _ (Kd.R_reads' HD0.o.rm).2.2 (Kd.R_reads' HD0.o.rm).2.1 HHN.o).mono ?_; rintro e w1 ⟨u1, rfl, hr, hd⟩; obtain ⟨A1, c1, eo⟩ := Kd.R_slice hr; subst eo; have HD1 := qQ (HD0.o.below hd); have HD2 := qQ (HD1.o.setM hr HD0.o.bel.size); clear hr hd; clear s0 t0 t1 o0 o1 bib0 brb0; have s0 := usS HD2.o; obtain ⟨t0, t1⟩ := usE HD2.o; obtain ⟨o0, o1⟩ := usO HD1.o; have bib0 := (usB HD2.o HBib.o 0).trans rfl; have brb0 := (usB HD2.o HBrb.o 0).trans rfl; obtain ⟨p0, p1⟩ := usO HD2.o) | (go_at_call 53; with_reducible refine (frame_Begin.calls 3 i (IntKind.u64.wrap r) _ _ _ _ _ _ _ _ rfl).mono ?_; rintro e w3 ⟨rfl, hd⟩; have HD3 := qQ (HD2.o.below (hd)); clear hd; clear s0 t0 t1 o0 o1 bib0 brb0; have s0 := usS HD3.o; obtain ⟨t0, t1⟩ := usE HD3.o; obtain ⟨o0, o1⟩ := usO HD3.o; have bib0 := (usB HD3.o HBib.o 0).trans rfl; have brb0 := (usB HD3.o HBrb.o 0).trans rfl))
 first | go_end0 | refine bodyPost_ret (results_none rfl _ _ _) rfl ?_
 exact ⟨⟨_, rfl⟩, _, (HD3.o.spc 2).fr ⟨3, 0, i, IntKind.u64.wrap r, 0, 0, 0⟩⟩
def dropV (A : Option Addr) (n c : Nat) : Value := if c = 1 then .slice A (n - 1) 0 else .slice (Option.map (fun x => ⟨x.block, x.off + 1, none⟩) A) (n - 1) (c - 1)
theorem sub_done (w : World) (ob sb eb : Nat) (cb : List (Nat × Array Value × Nat)) (pc : Int) (vr : Value) (f : S66) (vm : Value) (m : List Int) (vf : Value) (rf : List Int) (ve : Value) (ev : List S40)  (A : Option Addr) (n c : Nat)  (W : World) (h : US w ob sb eb cb (subZ pc vr f) vm m vf rf ve ev W)   (hvr : vr = .slice A n c) (h1 : 1 ≤ n) (hnc : n ≤ c) (hn : n ≤ 1000000) :
  Calls Tryz.prog 92 #[.pointer (some ⟨sb, 0, none⟩)] W fun e W' => (∃ u, e = .returned u) ∧ US w ob sb eb cb (subZ 0 (dropV A n c) ⟨0, 0, 0, 0, 0, 0, 0⟩) vm m vf rf ve ev W' := by
 have HD0 := qQ h
 clear h
 subst hvr
 go_enter Tryz.func92, Tryz.ntmps92
 have s0 := usS HD0.o
 obtain ⟨t0, t1⟩ := usE HD0.o
 obtain ⟨o0, o1⟩ := usO HD0.o
 go_wp2
 all_goals go_end0
 ·refine ⟨⟨_, rfl⟩, ?_⟩
  exact (HD0.o.spc 0).rt (.slice A (n - 1) 0) |>.fr ⟨0, 0, 0, 0, 0, 0, 0⟩
 ·refine ⟨⟨_, rfl⟩, ?_⟩
  rw [show dropV A n c = _ from if_neg (by assumption)]
  exact (HD0.o.spc 0).rt _ |>.fr ⟨0, 0, 0, 0, 0, 0, 0⟩
theorem sub_call (w : World) (ob sb eb : Nat) (cb : List (Nat × Array Value × Nat)) (pc : Int) (vr : Value) (f : S66) (vm : Value) (m : List Int) (vf : Value) (rf : List Int) (ve : Value) (ev : List S40) (cfb : Nat) (c : Cf) (f' : S66) (m' : List Int)  (W : World) (h : US w ob sb eb cb (subZ pc vr f) vm m vf rf ve ev W) (hcfb : (cfb, #[.int .i64 c.w, .int .i64 c.d, .int .i64 c.i, .int .i64 c.s], 23) ∈ cb)  (hs : STEP (if f.f0 = 3 ∨ f.f0 = 4 then 95 else 94) c f m f' m') :
  Calls Tryz.prog 93 #[.pointer (some ⟨sb, 0, none⟩), .pointer (some ⟨cfb, 0, none⟩), .pointer (some ⟨ob, 0, none⟩)] W fun e W' => e = .returned (.bool (f'.f6 != 0)) ∧ ∃ vm', US w ob sb eb cb (subZ pc vr f') vm' m' vf rf ve ev W' := by
 have HD0 := qQ h
 have HBcfb := qQ hcfb
 have HHS := qQ hs
 have e94 := fun args W => enters_of Tryz.func94 (by kernel_rfl) rfl args W
 have e95 := fun args W => enters_of Tryz.func95 (by kernel_rfl) rfl args W
 clear h hcfb hs
 obtain ⟨Am, cm, rfl⟩ := Kd.R_slice HD0.o.rm
 have hs2 := HHS.o
 clear HHS
 go_enter Tryz.func93, Tryz.ntmps93
 have s0 := usS HD0.o
 obtain ⟨t0, t1⟩ := usE HD0.o
 obtain ⟨o0, o1⟩ := usO HD0.o
 have bcfb0 := (usB HD0.o HBcfb.o 0).trans rfl
 have bcfb1 := (usB HD0.o HBcfb.o 1).trans rfl
 have bcfb2 := (usB HD0.o HBcfb.o 2).trans rfl
 have bcfb3 := (usB HD0.o HBcfb.o 3).trans rfl
 by_cases n3 : f.f0 = 3
 ·rw [if_pos (Or.inl n3)] at hs2
  have b3 : (f.f0 == 3) = true := by simp [n3]
  have HST := qQ hs2
  clear hs2 n3
  go_wp2_with (fail)
  refine (HST.o _ _ _ (Kd.R_reads' HD0.o.rm).2.2 (Kd.R_reads' HD0.o.rm).2.1).mono ?_
  rintro e w1 ⟨u1, rfl, hr, hd⟩
  obtain ⟨A1, c1, eo⟩ := Kd.R_slice hr
  subst eo
  have HD1 := qQ (HD0.o.below hd)
  have HD2 := qQ (HD1.o.setM hr HD0.o.bel.size)
  have HD3 := qQ (HD2.o.fr f')
  clear hr hd
  clear s0 t0 t1 o0 o1 bcfb0 bcfb1 bcfb2 bcfb3
  have s0 := usS HD2.o
  obtain ⟨t0, t1⟩ := usE HD2.o
  obtain ⟨o0, o1⟩ := usO HD1.o
  have bcfb0 := (usB HD2.o HBcfb.o 0).trans rfl
  have bcfb1 := (usB HD2.o HBcfb.o 1).trans rfl
  have bcfb2 := (usB HD2.o HBcfb.o 2).trans rfl
  have bcfb3 := (usB HD2.o HBcfb.o 3).trans rfl
  have q0 := usS HD3.o
  go_wp2_with (first | (go_at_call 96; with_reducible refine (frame_Over.calls _ _ _ _ _ _ _ _ _ rfl).mono ?_; rintro e w4 ⟨rfl, hd⟩; have HD4 := qQ (HD3.o.below (hd)); clear hd; clear s0 t0 t1 o0 o1 bcfb0 bcfb1 bcfb2 bcfb3; have s0 := usS HD4.o; obtain ⟨t0, t1⟩ := usE HD4.o; obtain ⟨o0, o1⟩ := usO HD4.o; have bcfb0 := (usB HD4.o HBcfb.o 0).trans rfl; have bcfb1 := (usB HD4.o HBcfb.o 1).trans rfl; have bcfb2 := (usB HD4.o HBcfb.o 2).trans rfl; have bcfb3 := (usB HD4.o HBcfb.o 3).trans rfl))
  go_ret
  exact ⟨rfl, _, HD4.o⟩
 ·by_cases n4 : f.f0 = 4
  ·rw [if_pos (Or.inr n4)] at hs2
   have b3 : (f.f0 == 3) = false := by simp [n3]
   have b4 : (f.f0 == 4) = true := by simp [n4]
   have HST := qQ hs2
   clear hs2 n3 n4
   go_wp2_with (fail)
   refine (HST.o _ _ _ (Kd.R_reads' HD0.o.rm).2.2 (Kd.R_reads' HD0.o.rm).2.1).mono ?_
   rintro e w5 ⟨u5, rfl, hr, hd⟩
   obtain ⟨A5, c5, eo⟩ := Kd.R_slice hr
   subst eo
   have HD5 := qQ (HD0.o.below hd)
   have HD6 := qQ (HD5.o.setM hr HD0.o.bel.size)
   have HD7 := qQ (HD6.o.fr f')
   clear hr hd
   clear s0 t0 t1 o0 o1 bcfb0 bcfb1 bcfb2 bcfb3
   have s0 := usS HD6.o
   obtain ⟨t0, t1⟩ := usE HD6.o
   obtain ⟨o0, o1⟩ := usO HD5.o
   have bcfb0 := (usB HD6.o HBcfb.o 0).trans rfl
   have bcfb1 := (usB HD6.o HBcfb.o 1).trans rfl
   have bcfb2 := (usB HD6.o HBcfb.o 2).trans rfl
   have bcfb3 := (usB HD6.o HBcfb.o 3).trans rfl
   have q0 := usS HD7.o
   go_wp2_with (first | (go_at_call 96; with_reducible refine (frame_Over.calls _ _ _ _ _ _ _ _ _ rfl).mono ?_; rintro e w8 ⟨rfl, hd⟩; have HD8 := qQ (HD7.o.below (hd)); clear hd; clear s0 t0 t1 o0 o1 bcfb0 bcfb1 bcfb2 bcfb3; have s0 := usS HD8.o; obtain ⟨t0, t1⟩ := usE HD8.o; obtain ⟨o0, o1⟩ := usO HD8.o; have bcfb0 := (usB HD8.o HBcfb.o 0).trans rfl; have bcfb1 := (usB HD8.o HBcfb.o 1).trans rfl; have bcfb2 := (usB HD8.o HBcfb.o 2).trans rfl; have bcfb3 := (usB HD8.o HBcfb.o 3).trans rfl))
   go_ret
   exact ⟨rfl, _, HD8.o⟩
  ·rw [if_neg (by simp [n3, n4])] at hs2
   have b3 : (f.f0 == 3) = false := by simp [n3]
   have b4 : (f.f0 == 4) = false := by simp [n4]
   have HST := qQ hs2
   clear hs2 n3 n4
   go_wp2_with (fail)
   refine (HST.o _ _ _ (Kd.R_reads' HD0.o.rm).2.2 (Kd.R_reads' HD0.o.rm).2.1).mono ?_
   rintro e w9 ⟨u9, rfl, hr, hd⟩
   obtain ⟨A9, c9, eo⟩ := Kd.R_slice hr
   subst eo
   have HD9 := qQ (HD0.o.below hd)
   have HD10 := qQ (HD9.o.setM hr HD0.o.bel.size)
   have HD11 := qQ (HD10.o.fr f')
   clear hr hd
   clear s0 t0 t1 o0 o1 bcfb0 bcfb1 bcfb2 bcfb3
   have s0 := usS HD10.o
   obtain ⟨t0, t1⟩ := usE HD10.o
   obtain ⟨o0, o1⟩ := usO HD9.o
   have bcfb0 := (usB HD10.o HBcfb.o 0).trans rfl
   have bcfb1 := (usB HD10.o HBcfb.o 1).trans rfl
   have bcfb2 := (usB HD10.o HBcfb.o 2).trans rfl
   have bcfb3 := (usB HD10.o HBcfb.o 3).trans rfl
   have q0 := usS HD11.o
   go_wp2_with (first | (go_at_call 96; with_reducible refine (frame_Over.calls _ _ _ _ _ _ _ _ _ rfl).mono ?_; rintro e w12 ⟨rfl, hd⟩; have HD12 := qQ (HD11.o.below (hd)); clear hd; clear s0 t0 t1 o0 o1 bcfb0 bcfb1 bcfb2 bcfb3; have s0 := usS HD12.o; obtain ⟨t0, t1⟩ := usE HD12.o; obtain ⟨o0, o1⟩ := usO HD12.o; have bcfb0 := (usB HD12.o HBcfb.o 0).trans rfl; have bcfb1 := (usB HD12.o HBcfb.o 1).trans rfl; have bcfb2 := (usB HD12.o HBcfb.o 2).trans rfl; have bcfb3 := (usB HD12.o HBcfb.o 3).trans rfl))
   go_ret
   exact ⟨rfl, _, HD12.o⟩
theorem sub_idle (w : World) (ob sb eb : Nat) (cb : List (Nat × Array Value × Nat)) (pc : Int) (vr : Value) (f : S66) (vm : Value) (m : List Int) (vf : Value) (rf : List Int) (ve : Value) (ev : List S40) (tb : Nat) (rb : Nat) (db : Nat) (ib : Nat) (i r : Int) (A : Option Addr) (n c9 : Nat)  (W : World) (h : US w ob sb eb cb (subZ pc vr f) vm m vf rf ve ev W) (htb : (tb, #[.func (.func 91) #[] #[.pointer (some ⟨eb, 0, none⟩), .pointer (some ⟨ib, 0, none⟩)]], 137) ∈ cb) (hrb : (rb, #[.int .i64 r], 3) ∈ cb) (hdb : (db, #[.func (.func 92) #[] #[.pointer (some ⟨sb, 0, none⟩)]], 1) ∈ cb) (hib : (ib, #[.int .i64 i], 3) ∈ cb)  (hvr : vr = .slice A n c9) (h1 : 1 ≤ n) (hnc : n ≤ c9) (hnn : n ≤ 1000000) (hen : ev.length ≤ 1000000) :
  Calls Tryz.prog 97 #[.pointer (some ⟨sb, 0, none⟩), .pointer (some ⟨ob, 0, none⟩), .pointer (some ⟨tb, 0, none⟩), .pointer (some ⟨rb, 0, none⟩), .pointer (some ⟨db, 0, none⟩)] W fun e W' => (∃ u, e = .returned u) ∧ ((loadF m 3 = 0 ∧ US w ob sb eb cb (subZ 1 vr f) vm m vf rf ve ev W') ∨ (¬ loadF m 3 = 0 ∧ ∃ ve', US w ob sb eb cb (subZ 0 (dropV A n c9) ⟨0, 0, 0, 0, 0, 0, 0⟩) vm m vf rf ve' (ev ++ [⟨1, r, i⟩]) W')) := by
 have HD0 := qQ h
 have HBtb := qQ htb
 have HBrb := qQ hrb
 have HBdb := qQ hdb
 have HBib := qQ hib
 have HHVR := qQ hvr
 have HH1 := qQ h1
 have HHNC := qQ hnc
 have HHNN := qQ hnn
 have HHEN := qQ hen
 have e91 := fun args W => enters_of Tryz.func91 (by kernel_rfl) rfl args W
 have e92 := fun args W => enters_of Tryz.func92 (by kernel_rfl) rfl args W
 clear h htb hrb hdb hib hvr h1 hnc hnn hen
 obtain ⟨Am, cm, rfl⟩ := Kd.R_slice HD0.o.rm
 go_enter Tryz.func97, Tryz.ntmps97
 have s0 := usS HD0.o
 obtain ⟨t0, t1⟩ := usE HD0.o
 obtain ⟨o0, o1⟩ := usO HD0.o
 have btb0 := (usB HD0.o HBtb.o 0).trans rfl
 have brb0 := (usB HD0.o HBrb.o 0).trans rfl
 have bdb0 := (usB HD0.o HBdb.o 0).trans rfl
 have bib0 := (usB HD0.o HBib.o 0).trans rfl
 have HD1 := qQ (HD0.o.spc 1)
 clear t0 t1 o0 o1 btb0 brb0 bdb0 bib0
 have q0 := usS HD1.o
 obtain ⟨t0, t1⟩ := usE HD1.o
 obtain ⟨o0, o1⟩ := usO HD1.o
 have btb0 := (usB HD1.o HBtb.o 0).trans rfl
 have brb0 := (usB HD1.o HBrb.o 0).trans rfl
 have bdb0 := (usB HD1.o HBdb.o 0).trans rfl
 have bib0 := (usB HD1.o HBib.o 0).trans rfl
 by_cases hc : loadF m 3 = 0
 ·have hb : (loadF m 3 != 0) = false := by simp [hc]
  have HCC := qQ hc
  clear hc
  go_wp2_with (first | (go_at_call 7; with_reducible refine (Load_calls _ _ m 3 _ (Kd.R_reads' HD1.o.rm).2.2 (Kd.R_reads' HD1.o.rm).2.1).mono ?_; rintro e w2 ⟨rfl, hd⟩; have HD2 := qQ (HD1.o.below (hd.below)); clear hd; clear s0 t0 t1 o0 o1 btb0 brb0 bdb0 bib0; have s0 := usS HD2.o; obtain ⟨t0, t1⟩ := usE HD2.o; obtain ⟨o0, o1⟩ := usO HD2.o; have btb0 := (usB HD2.o HBtb.o 0).trans rfl; have brb0 := (usB HD2.o HBrb.o 0).trans rfl; have bdb0 := (usB HD2.o HBdb.o 0).trans rfl; have bib0 := (usB HD2.o HBib.o 0).trans rfl))
  first | go_end0 | refine bodyPost_ret (results_none rfl _ _ _) rfl ?_
  exact ⟨⟨_, rfl⟩, Or.inl ⟨HCC.o, HD2.o⟩⟩
 ·have hb : (loadF m 3 != 0) = true := by simp [hc]
  have HCC := qQ hc
  clear hc
  go_wp2_with (first | (go_at_call 7; with_reducible refine (Load_calls _ _ m 3 _ (Kd.R_reads' HD1.o.rm).2.2 (Kd.R_reads' HD1.o.rm).2.1).mono ?_; rintro e w3 ⟨rfl, hd⟩; have HD3 := qQ (HD1.o.below (hd.below)); clear hd; clear s0 t0 t1 o0 o1 btb0 brb0 bdb0 bib0; have s0 := usS HD3.o; obtain ⟨t0, t1⟩ := usE HD3.o; obtain ⟨o0, o1⟩ := usO HD3.o; have btb0 := (usB HD3.o HBtb.o 0).trans rfl; have brb0 := (usB HD3.o HBrb.o 0).trans rfl; have bdb0 := (usB HD3.o HBdb.o 0).trans rfl; have bib0 := (usB HD3.o HBib.o 0).trans rfl))
  refine (sub_tell w ob sb eb cb 1 vr f (.slice Am m.length cm) m vf rf ve ev ib i 1 r _ HD3.o HBib.o (by simp at *; have := HHEN.o; omega)).mono ?_
  rintro e w4 ⟨⟨u, rfl⟩, ve4, hs⟩
  have HD4 := qQ hs
  clear hs
  clear s0 t0 t1 o0 o1 btb0 brb0 bdb0 bib0
  have s0 := usS HD4.o
  obtain ⟨t0, t1⟩ := usE HD4.o
  obtain ⟨o0, o1⟩ := usO HD4.o
  have btb0 := (usB HD4.o HBtb.o 0).trans rfl
  have brb0 := (usB HD4.o HBrb.o 0).trans rfl
  have bdb0 := (usB HD4.o HBdb.o 0).trans rfl
  have bib0 := (usB HD4.o HBib.o 0).trans rfl
  go_wp2_with (fail)
  refine (sub_done w ob sb eb cb 1 vr f (.slice Am m.length cm) m vf rf ve4 (ev ++ [⟨1, r, i⟩]) A n c9 _ HD4.o HHVR.o HH1.o HHNC.o HHNN.o).mono ?_
  rintro e w5 ⟨⟨u, rfl⟩, hs⟩
  have HD5 := qQ hs
  clear hs
  clear s0 t0 t1 o0 o1 btb0 brb0 bdb0 bib0
  have s0 := usS HD5.o
  obtain ⟨t0, t1⟩ := usE HD5.o
  obtain ⟨o0, o1⟩ := usO HD5.o
  have btb0 := (usB HD5.o HBtb.o 0).trans rfl
  have brb0 := (usB HD5.o HBrb.o 0).trans rfl
  have bdb0 := (usB HD5.o HBdb.o 0).trans rfl
  have bib0 := (usB HD5.o HBib.o 0).trans rfl
  go_wp2_with (fail)
  first | go_end0 | refine bodyPost_ret (results_none rfl _ _ _) rfl ?_
  exact ⟨⟨_, rfl⟩, Or.inr ⟨HCC.o, _, HD5.o⟩⟩
theorem sub_see (w : World) (ob sb eb : Nat) (cb : List (Nat × Array Value × Nat)) (pc : Int) (vr : Value) (f : S66) (vm : Value) (m : List Int) (vf : Value) (rf : List Int) (ve : Value) (ev : List S40) (db : Nat) (ib : Nat) (i : Int) (A : Option Addr) (n c9 : Nat)  (W : World) (h : US w ob sb eb cb (subZ pc vr f) vm m vf rf ve ev W) (hdb : (db, #[.func (.func 92) #[] #[.pointer (some ⟨sb, 0, none⟩)]], 1) ∈ cb) (hib : (ib, #[.int .i64 i], 3) ∈ cb)  (hvr : vr = .slice A n c9) (h1 : 1 ≤ n) (hnc : n ≤ c9) (hnn : n ≤ 1000000) :
  Calls Tryz.prog 101 #[.pointer (some ⟨ob, 0, none⟩), .pointer (some ⟨db, 0, none⟩), .pointer (some ⟨ib, 0, none⟩), .pointer (some ⟨sb, 0, none⟩)] W fun e W' => (∃ u, e = .returned u) ∧ ((¬ loadF m 1 = 0 ∧ US w ob sb eb cb (subZ 0 (dropV A n c9) ⟨0, 0, 0, 0, 0, 0, 0⟩) vm m vf rf ve ev W') ∨ (loadF m 1 = 0 ∧ US w ob sb eb cb (subZ 4 vr ⟨6, 0, i, 0, 0, 0, 0⟩) vm m vf rf ve ev W')) := by
 have HD0 := qQ h
 have HBdb := qQ hdb
 have HBib := qQ hib
 have HHVR := qQ hvr
 have HH1 := qQ h1
 have HHNC := qQ hnc
 have HHNN := qQ hnn
 have e92 := fun args W => enters_of Tryz.func92 (by kernel_rfl) rfl args W
 clear h hdb hib hvr h1 hnc hnn
 obtain ⟨Am, cm, rfl⟩ := Kd.R_slice HD0.o.rm
 go_enter Tryz.func101, Tryz.ntmps101
 have s0 := usS HD0.o
 obtain ⟨t0, t1⟩ := usE HD0.o
 obtain ⟨o0, o1⟩ := usO HD0.o
 have bdb0 := (usB HD0.o HBdb.o 0).trans rfl
 have bib0 := (usB HD0.o HBib.o 0).trans rfl
 by_cases hc : loadF m 1 = 0
 ·have hb : (loadF m 1 != 0) = false := by simp [hc]
  have HCC := qQ hc
  clear hc
  go_wp2_with (first | (go_at_call 7; with_reducible refine (Load_calls _ _ m 1 _ (Kd.R_reads' HD0.o.rm).2.2 (Kd.R_reads' HD0.o.rm).2.1).mono ?_; rintro e w1 ⟨rfl, hd⟩; have HD1 := qQ (HD0.o.below (hd.below)); clear hd; clear s0 t0 t1 o0 o1 bdb0 bib0; have s0 := usS HD1.o; obtain ⟨t0, t1⟩ := usE HD1.o; obtain ⟨o0, o1⟩ := usO HD1.o; have bdb0 := (usB HD1.o HBdb.o 0).trans rfl; have bib0 := (usB HD1.o HBib.o 0).trans rfl) | (go_at_call 53; with_reducible refine (frame_Begin.calls 6 i 0 _ _ _ _ _ _ _ _ rfl).mono ?_; rintro e w2 ⟨rfl, hd⟩; have HD2 := qQ (HD1.o.below (hd)); clear hd; clear s0 t0 t1 o0 o1 bdb0 bib0; have s0 := usS HD2.o; obtain ⟨t0, t1⟩ := usE HD2.o; obtain ⟨o0, o1⟩ := usO HD2.o; have bdb0 := (usB HD2.o HBdb.o 0).trans rfl; have bib0 := (usB HD2.o HBib.o 0).trans rfl))
  first | go_end0 | refine bodyPost_ret (results_none rfl _ _ _) rfl ?_
  exact ⟨⟨_, rfl⟩, Or.inr ⟨HCC.o, (HD2.o.spc 4).fr ⟨6, 0, i, 0, 0, 0, 0⟩⟩⟩
 ·have hb : (loadF m 1 != 0) = true := by simp [hc]
  have HCC := qQ hc
  clear hc
  go_wp2_with (first | (go_at_call 7; with_reducible refine (Load_calls _ _ m 1 _ (Kd.R_reads' HD0.o.rm).2.2 (Kd.R_reads' HD0.o.rm).2.1).mono ?_; rintro e w3 ⟨rfl, hd⟩; have HD3 := qQ (HD0.o.below (hd.below)); clear hd; clear s0 t0 t1 o0 o1 bdb0 bib0; have s0 := usS HD3.o; obtain ⟨t0, t1⟩ := usE HD3.o; obtain ⟨o0, o1⟩ := usO HD3.o; have bdb0 := (usB HD3.o HBdb.o 0).trans rfl; have bib0 := (usB HD3.o HBib.o 0).trans rfl))
  refine (sub_done w ob sb eb cb pc vr f (.slice Am m.length cm) m vf rf ve ev A n c9 _ HD3.o HHVR.o HH1.o HHNC.o HHNN.o).mono ?_
  rintro e w4 ⟨⟨u, rfl⟩, hs⟩
  have HD4 := qQ hs
  clear hs
  clear s0 t0 t1 o0 o1 bdb0 bib0
  have s0 := usS HD4.o
  obtain ⟨t0, t1⟩ := usE HD4.o
  obtain ⟨o0, o1⟩ := usO HD4.o
  have bdb0 := (usB HD4.o HBdb.o 0).trans rfl
  have bib0 := (usB HD4.o HBib.o 0).trans rfl
  go_wp2_with (fail)
  first | go_end0 | refine bodyPost_ret (results_none rfl _ _ _) rfl ?_
  exact ⟨⟨_, rfl⟩, Or.inl ⟨HCC.o, HD4.o⟩⟩
theorem sub_wake (w : World) (ob sb eb : Nat) (cb : List (Nat × Array Value × Nat)) (pc : Int) (vr : Value) (f : S66) (vm : Value) (m : List Int) (vf : Value) (rf : List Int) (ve : Value) (ev : List S40) (xb : Nat) (db : Nat) (cfb : Nat) (cfb : Nat) (c : Cf) (f' : S66) (m' : List Int) (A : Option Addr) (n c9 : Nat)  (W : World) (h : US w ob sb eb cb (subZ pc vr f) vm m vf rf ve ev W) (hxb : (xb, #[.func (.func 93) #[] #[.pointer (some ⟨sb, 0, none⟩), .pointer (some ⟨cfb, 0, none⟩), .pointer (some ⟨ob, 0, none⟩)]], 27) ∈ cb) (hdb : (db, #[.func (.func 92) #[] #[.pointer (some ⟨sb, 0, none⟩)]], 1) ∈ cb) (hcfb : (cfb, #[.int .i64 c.w, .int .i64 c.d, .int .i64 c.i, .int .i64 c.s], 23) ∈ cb)  (hs : STEP (if f.f0 = 3 ∨ f.f0 = 4 then 95 else 94) c f m f' m') (hvr : vr = .slice A n c9) (h1 : 1 ≤ n) (hnc : n ≤ c9) (hnn : n ≤ 1000000) :
  Calls Tryz.prog 102 #[.pointer (some ⟨xb, 0, none⟩), .pointer (some ⟨db, 0, none⟩)] W fun e W' => (∃ u, e = .returned u) ∧ ((f'.f6 = 0 ∧ ∃ vm', US w ob sb eb cb (subZ pc vr f') vm' m' vf rf ve ev W') ∨ (¬ f'.f6 = 0 ∧ ∃ vm', US w ob sb eb cb (subZ 0 (dropV A n c9) ⟨0, 0, 0, 0, 0, 0, 0⟩) vm' m' vf rf ve ev W')) := by
 have HD0 := qQ h
 have HBxb := qQ hxb
 have HBdb := qQ hdb
 have HBcfb := qQ hcfb
 have HHS := qQ hs
 have HHVR := qQ hvr
 have HH1 := qQ h1
 have HHNC := qQ hnc
 have HHNN := qQ hnn
 have e92 := fun args W => enters_of Tryz.func92 (by kernel_rfl) rfl args W
 have e93 := fun args W => enters_of Tryz.func93 (by kernel_rfl) rfl args W
 clear h hxb hdb hcfb hs hvr h1 hnc hnn
 go_enter Tryz.func102, Tryz.ntmps102
 have s0 := usS HD0.o
 obtain ⟨t0, t1⟩ := usE HD0.o
 obtain ⟨o0, o1⟩ := usO HD0.o
 have bxb0 := (usB HD0.o HBxb.o 0).trans rfl
 have bdb0 := (usB HD0.o HBdb.o 0).trans rfl
 have bcfb0 := (usB HD0.o HBcfb.o 0).trans rfl
 have bcfb1 := (usB HD0.o HBcfb.o 1).trans rfl
 have bcfb2 := (usB HD0.o HBcfb.o 2).trans rfl
 have bcfb3 := (usB HD0.o HBcfb.o 3).trans rfl
 go_wp2_with (fail)
 refine (sub_call w ob sb eb cb pc vr f vm m vf rf ve ev cfb c f' m' _ HD0.o HBcfb.o HHS.o).mono ?_
 rintro e w1 ⟨rfl, vm1, hs⟩
 have HD1 := qQ hs
 clear hs
 clear s0 t0 t1 o0 o1 bxb0 bdb0 bcfb0 bcfb1 bcfb2 bcfb3
 have s0 := usS HD1.o
 obtain ⟨t0, t1⟩ := usE HD1.o
 obtain ⟨o0, o1⟩ := usO HD1.o
 have bxb0 := (usB HD1.o HBxb.o 0).trans rfl
 have bdb0 := (usB HD1.o HBdb.o 0).trans rfl
 have bcfb0 := (usB HD1.o HBcfb.o 0).trans rfl
 have bcfb1 := (usB HD1.o HBcfb.o 1).trans rfl
 have bcfb2 := (usB HD1.o HBcfb.o 2).trans rfl
 have bcfb3 := (usB HD1.o HBcfb.o 3).trans rfl
 by_cases hc : f'.f6 = 0
 ·have hb : (f'.f6 != 0) = false := by simp [hc]
  have HCC := qQ hc
  clear hc
  go_wp2_with (fail)
  first | go_end0 | refine bodyPost_ret (results_none rfl _ _ _) rfl ?_
  exact ⟨⟨_, rfl⟩, Or.inl ⟨HCC.o, _, HD1.o⟩⟩
 ·have hb : (f'.f6 != 0) = true := by simp [hc]
  have HCC := qQ hc
  clear hc
  go_wp2_with (fail)
  refine (sub_done w ob sb eb cb pc vr f' vm1 m' vf rf ve ev A n c9 _ HD1.o HHVR.o HH1.o HHNC.o HHNN.o).mono ?_
  rintro e w2 ⟨⟨u, rfl⟩, hs⟩
  have HD2 := qQ hs
  clear hs
  clear s0 t0 t1 o0 o1 bxb0 bdb0 bcfb0 bcfb1 bcfb2 bcfb3
  have s0 := usS HD2.o
  obtain ⟨t0, t1⟩ := usE HD2.o
  obtain ⟨o0, o1⟩ := usO HD2.o
  have bxb0 := (usB HD2.o HBxb.o 0).trans rfl
  have bdb0 := (usB HD2.o HBdb.o 0).trans rfl
  have bcfb0 := (usB HD2.o HBcfb.o 0).trans rfl
  have bcfb1 := (usB HD2.o HBcfb.o 1).trans rfl
  have bcfb2 := (usB HD2.o HBcfb.o 2).trans rfl
  have bcfb3 := (usB HD2.o HBcfb.o 3).trans rfl
  go_wp2_with (fail)
  first | go_end0 | refine bodyPost_ret (results_none rfl _ _ _) rfl ?_
  exact ⟨⟨_, rfl⟩, Or.inr ⟨HCC.o, _, HD2.o⟩⟩
theorem sub_enq (w : World) (ob sb eb : Nat) (cb : List (Nat × Array Value × Nat)) (pc : Int) (vr : Value) (f : S66) (vm : Value) (m : List Int) (vf : Value) (rf : List Int) (ve : Value) (ev : List S40) (xb : Nat) (tb : Nat) (rb : Nat) (cfb : Nat) (ib : Nat) (cfb : Nat) (c : Cf) (f' : S66) (m' : List Int) (i r : Int)  (W : World) (h : US w ob sb eb cb (subZ pc vr f) vm m vf rf ve ev W) (hxb : (xb, #[.func (.func 93) #[] #[.pointer (some ⟨sb, 0, none⟩), .pointer (some ⟨cfb, 0, none⟩), .pointer (some ⟨ob, 0, none⟩)]], 27) ∈ cb) (htb : (tb, #[.func (.func 91) #[] #[.pointer (some ⟨eb, 0, none⟩), .pointer (some ⟨ib, 0, none⟩)]], 137) ∈ cb) (hrb : (rb, #[.int .i64 r], 3) ∈ cb) (hcfb : (cfb, #[.int .i64 c.w, .int .i64 c.d, .int .i64 c.i, .int .i64 c.s], 23) ∈ cb) (hib : (ib, #[.int .i64 i], 3) ∈ cb)  (hs : STEP (if f.f0 = 3 ∨ f.f0 = 4 then 95 else 94) c f m f' m') (hen : ev.length ≤ 1000000) :
  Calls Tryz.prog 100 #[.pointer (some ⟨xb, 0, none⟩), .pointer (some ⟨sb, 0, none⟩), .pointer (some ⟨tb, 0, none⟩), .pointer (some ⟨rb, 0, none⟩)] W fun e W' => (∃ u, e = .returned u) ∧ ((f'.f6 = 0 ∧ ∃ vm', US w ob sb eb cb (subZ pc vr f') vm' m' vf rf ve ev W') ∨ (f'.f6 = 2 ∧ ∃ vm', US w ob sb eb cb (subZ 5 vr f') vm' m' vf rf ve ev W') ∨ (¬ f'.f6 = 0 ∧ ¬ f'.f6 = 2 ∧ ∃ vm' ve', US w ob sb eb cb (subZ 3 vr f') vm' m' vf rf ve' (ev ++ [⟨0, r, i⟩]) W')) := by
 have HD0 := qQ h
 have HBxb := qQ hxb
 have HBtb := qQ htb
 have HBrb := qQ hrb
 have HBcfb := qQ hcfb
 have HBib := qQ hib
 have HHS := qQ hs
 have HHEN := qQ hen
 have e91 := fun args W => enters_of Tryz.func91 (by kernel_rfl) rfl args W
 have e93 := fun args W => enters_of Tryz.func93 (by kernel_rfl) rfl args W
 clear h hxb htb hrb hcfb hib hs hen
 go_enter Tryz.func100, Tryz.ntmps100
 have s0 := usS HD0.o
 obtain ⟨t0, t1⟩ := usE HD0.o
 obtain ⟨o0, o1⟩ := usO HD0.o
 have bxb0 := (usB HD0.o HBxb.o 0).trans rfl
 have btb0 := (usB HD0.o HBtb.o 0).trans rfl
 have brb0 := (usB HD0.o HBrb.o 0).trans rfl
 have bcfb0 := (usB HD0.o HBcfb.o 0).trans rfl
 have bcfb1 := (usB HD0.o HBcfb.o 1).trans rfl
 have bcfb2 := (usB HD0.o HBcfb.o 2).trans rfl
 have bcfb3 := (usB HD0.o HBcfb.o 3).trans rfl
 have bib0 := (usB HD0.o HBib.o 0).trans rfl
 go_wp2_with (fail)
 refine (sub_call w ob sb eb cb pc vr f vm m vf rf ve ev cfb c f' m' _ HD0.o HBcfb.o HHS.o).mono ?_
 rintro e w1 ⟨rfl, vm1, hs⟩
 have HD1 := qQ hs
 clear hs
 clear s0 t0 t1 o0 o1 bxb0 btb0 brb0 bcfb0 bcfb1 bcfb2 bcfb3 bib0
 have s0 := usS HD1.o
 obtain ⟨t0, t1⟩ := usE HD1.o
 obtain ⟨o0, o1⟩ := usO HD1.o
 have bxb0 := (usB HD1.o HBxb.o 0).trans rfl
 have btb0 := (usB HD1.o HBtb.o 0).trans rfl
 have brb0 := (usB HD1.o HBrb.o 0).trans rfl
 have bcfb0 := (usB HD1.o HBcfb.o 0).trans rfl
 have bcfb1 := (usB HD1.o HBcfb.o 1).trans rfl
 have bcfb2 := (usB HD1.o HBcfb.o 2).trans rfl
 have bcfb3 := (usB HD1.o HBcfb.o 3).trans rfl
 have bib0 := (usB HD1.o HBib.o 0).trans rfl
 by_cases hc : f'.f6 = 0
 ·have hb : (f'.f6 != 0) = false := by simp [hc]
  have HCC := qQ hc
  clear hc
  go_wp2_with (fail)
  first | go_end0 | refine bodyPost_ret (results_none rfl _ _ _) rfl ?_
  exact ⟨⟨_, rfl⟩, Or.inl ⟨HCC.o, _, HD1.o⟩⟩
 ·have hb : (f'.f6 != 0) = true := by simp [hc]
  have HCC := qQ hc
  clear hc
  have HD2 := qQ (HD1.o.spc 5)
  clear t0 t1 o0 o1 bxb0 btb0 brb0 bcfb0 bcfb1 bcfb2 bcfb3 bib0
  have q0 := usS HD2.o
  obtain ⟨t0, t1⟩ := usE HD2.o
  obtain ⟨o0, o1⟩ := usO HD2.o
  have bxb0 := (usB HD2.o HBxb.o 0).trans rfl
  have btb0 := (usB HD2.o HBtb.o 0).trans rfl
  have brb0 := (usB HD2.o HBrb.o 0).trans rfl
  have bcfb0 := (usB HD2.o HBcfb.o 0).trans rfl
  have bcfb1 := (usB HD2.o HBcfb.o 1).trans rfl
  have bcfb2 := (usB HD2.o HBcfb.o 2).trans rfl
  have bcfb3 := (usB HD2.o HBcfb.o 3).trans rfl
  have bib0 := (usB HD2.o HBib.o 0).trans rfl
  by_cases hc : f'.f6 = 2
  ·have hb2 : (f'.f6 != 2) = false := by simp [hc]
   have HCC2 := qQ hc
   clear hc
   go_wp2_with (fail)
   first | go_end0 | refine bodyPost_ret (results_none rfl _ _ _) rfl ?_
   exact ⟨⟨_, rfl⟩, Or.inr (Or.inl ⟨HCC2.o, _, HD2.o⟩)⟩
  ·have hb2 : (f'.f6 != 2) = true := by simp [hc]
   have HCC2 := qQ hc
   clear hc
   go_wp2_with (fail)
   refine (sub_tell w ob sb eb cb 5 vr f' vm1 m' vf rf ve ev ib i 0 r _ HD2.o HBib.o (by simp at *; have := HHEN.o; omega)).mono ?_
   rintro e w3 ⟨⟨u, rfl⟩, ve3, hs⟩
   have HD3 := qQ hs
   clear hs
   clear s0 t0 t1 o0 o1 bxb0 btb0 brb0 bcfb0 bcfb1 bcfb2 bcfb3 bib0
   have s0 := usS HD3.o
   obtain ⟨t0, t1⟩ := usE HD3.o
   obtain ⟨o0, o1⟩ := usO HD3.o
   have bxb0 := (usB HD3.o HBxb.o 0).trans rfl
   have btb0 := (usB HD3.o HBtb.o 0).trans rfl
   have brb0 := (usB HD3.o HBrb.o 0).trans rfl
   have bcfb0 := (usB HD3.o HBcfb.o 0).trans rfl
   have bcfb1 := (usB HD3.o HBcfb.o 1).trans rfl
   have bcfb2 := (usB HD3.o HBcfb.o 2).trans rfl
   have bcfb3 := (usB HD3.o HBcfb.o 3).trans rfl
   have bib0 := (usB HD3.o HBib.o 0).trans rfl
   go_wp2_with (fail)
   first | go_end0 | refine bodyPost_ret (results_none rfl _ _ _) rfl ?_
   exact ⟨⟨_, rfl⟩, Or.inr (Or.inr ⟨HCC.o, HCC2.o, _, _, HD3.o.spc 3⟩)⟩
theorem sub_back (w : World) (ob sb eb : Nat) (cb : List (Nat × Array Value × Nat)) (pc : Int) (vr : Value) (f : S66) (vm : Value) (m : List Int) (vf : Value) (rf : List Int) (ve : Value) (ev : List S40) (tb : Nat) (rb : Nat) (db : Nat) (ib : Nat) (i r : Int) (ev2 : List S40) (A : Option Addr) (n c9 : Nat)  (W : World) (h : US w ob sb eb cb (subZ pc vr f) vm m vf rf ve ev W) (htb : (tb, #[.func (.func 91) #[] #[.pointer (some ⟨eb, 0, none⟩), .pointer (some ⟨ib, 0, none⟩)]], 137) ∈ cb) (hrb : (rb, #[.int .i64 r], 3) ∈ cb) (hdb : (db, #[.func (.func 92) #[] #[.pointer (some ⟨sb, 0, none⟩)]], 1) ∈ cb) (hib : (ib, #[.int .i64 i], 3) ∈ cb)  (hvr : vr = .slice A n c9) (h1 : 1 ≤ n) (hnc : n ≤ c9) (hnn : n ≤ 1000000) (hn : m.length ≤ 1000000) (hen : ev.length ≤ 900000) (hev : ev2 = if (addF m 0 18446744073709551615).2 = 1 then ev ++ [⟨1, r, i⟩] ++ [⟨5, 0, i⟩] else ev ++ [⟨1, r, i⟩]) :
  Calls Tryz.prog 103 #[.pointer (some ⟨ob, 0, none⟩), .pointer (some ⟨tb, 0, none⟩), .pointer (some ⟨rb, 0, none⟩), .pointer (some ⟨db, 0, none⟩)] W fun e W' => (∃ u, e = .returned u) ∧ ∃ vm' ve', US w ob sb eb cb (subZ 0 (dropV A n c9) ⟨0, 0, 0, 0, 0, 0, 0⟩) vm' (addF m 0 18446744073709551615).1 vf rf ve' ev2 W' := by
 have HD0 := qQ h
 have HBtb := qQ htb
 have HBrb := qQ hrb
 have HBdb := qQ hdb
 have HBib := qQ hib
 have HHVR := qQ hvr
 have HH1 := qQ h1
 have HHNC := qQ hnc
 have HHNN := qQ hnn
 have HHN := qQ hn
 have HHEN := qQ hen
 have HHEV := qQ hev
 have e91 := fun args W => enters_of Tryz.func91 (by kernel_rfl) rfl args W
 have e92 := fun args W => enters_of Tryz.func92 (by kernel_rfl) rfl args W
 clear h htb hrb hdb hib hvr h1 hnc hnn hn hen hev
 obtain ⟨Am, cm, rfl⟩ := Kd.R_slice HD0.o.rm
 go_enter Tryz.func103, Tryz.ntmps103
 have s0 := usS HD0.o
 obtain ⟨t0, t1⟩ := usE HD0.o
 obtain ⟨o0, o1⟩ := usO HD0.o
 have btb0 := (usB HD0.o HBtb.o 0).trans rfl
 have brb0 := (usB HD0.o HBrb.o 0).trans rfl
 have bdb0 := (usB HD0.o HBdb.o 0).trans rfl
 have bib0 := (usB HD0.o HBib.o 0).trans rfl
 go_wp2_with (first | (go_at_call 99; with_reducible refine (add99 _ _ m 0 18446744073709551615 _ (Kd.R_reads' HD0.o.rm).2.2 (Kd.R_reads' HD0.o.rm).2.1 HHN.o).mono ?_; rintro e w1 ⟨u1, rfl, hr, hd⟩; obtain ⟨A1, c1, eo⟩ := Kd.R_slice hr; subst eo; have HD1 := qQ (HD0.o.below hd); have HD2 := qQ (HD1.o.setM hr HD0.o.bel.size); clear hr hd; clear s0 t0 t1 o0 o1 btb0 brb0 bdb0 bib0; have s0 := usS HD2.o; obtain ⟨t0, t1⟩ := usE HD2.o; obtain ⟨o0, o1⟩ := usO HD1.o; have btb0 := (usB HD2.o HBtb.o 0).trans rfl; have brb0 := (usB HD2.o HBrb.o 0).trans rfl; have bdb0 := (usB HD2.o HBdb.o 0).trans rfl; have bib0 := (usB HD2.o HBib.o 0).trans rfl; obtain ⟨p0, p1⟩ := usO HD2.o))
 refine (sub_tell w ob sb eb cb pc vr f (.slice A1 (addF m 0 18446744073709551615).1.length c1) (addF m 0 18446744073709551615).1 vf rf ve ev ib i 1 r _ HD2.o HBib.o (by simp at *; have := HHEN.o; omega)).mono ?_
 rintro e w3 ⟨⟨u, rfl⟩, ve3, hs⟩
 have HD3 := qQ hs
 clear hs
 clear s0 t0 t1 o0 o1 btb0 brb0 bdb0 bib0
 have s0 := usS HD3.o
 obtain ⟨t0, t1⟩ := usE HD3.o
 obtain ⟨o0, o1⟩ := usO HD3.o
 have btb0 := (usB HD3.o HBtb.o 0).trans rfl
 have brb0 := (usB HD3.o HBrb.o 0).trans rfl
 have bdb0 := (usB HD3.o HBdb.o 0).trans rfl
 have bib0 := (usB HD3.o HBib.o 0).trans rfl
 by_cases hc : (addF m 0 18446744073709551615).2 = 1
 ·have hb : ((addF m 0 18446744073709551615).2 == 1) = true := by simp [hc]
  have HCC := qQ hc
  clear hc
  go_wp2_with (fail)
  refine (sub_tell w ob sb eb cb pc vr f (.slice A1 (addF m 0 18446744073709551615).1.length c1) (addF m 0 18446744073709551615).1 vf rf ve3 (ev ++ [⟨1, r, i⟩]) ib i 5 0 _ HD3.o HBib.o (by simp at *; have := HHEN.o; omega)).mono ?_
  rintro e w4 ⟨⟨u, rfl⟩, ve4, hs⟩
  have HD4 := qQ hs
  clear hs
  clear s0 t0 t1 o0 o1 btb0 brb0 bdb0 bib0
  have s0 := usS HD4.o
  obtain ⟨t0, t1⟩ := usE HD4.o
  obtain ⟨o0, o1⟩ := usO HD4.o
  have btb0 := (usB HD4.o HBtb.o 0).trans rfl
  have brb0 := (usB HD4.o HBrb.o 0).trans rfl
  have bdb0 := (usB HD4.o HBdb.o 0).trans rfl
  have bib0 := (usB HD4.o HBib.o 0).trans rfl
  go_wp2_with (fail)
  refine (sub_done w ob sb eb cb pc vr f (.slice A1 (addF m 0 18446744073709551615).1.length c1) (addF m 0 18446744073709551615).1 vf rf ve4 ((ev ++ [⟨1, r, i⟩]) ++ [⟨5, 0, i⟩]) A n c9 _ HD4.o HHVR.o HH1.o HHNC.o HHNN.o).mono ?_
  rintro e w5 ⟨⟨u, rfl⟩, hs⟩
  have HD5 := qQ hs
  clear hs
  clear s0 t0 t1 o0 o1 btb0 brb0 bdb0 bib0
  have s0 := usS HD5.o
  obtain ⟨t0, t1⟩ := usE HD5.o
  obtain ⟨o0, o1⟩ := usO HD5.o
  have btb0 := (usB HD5.o HBtb.o 0).trans rfl
  have brb0 := (usB HD5.o HBrb.o 0).trans rfl
  have bdb0 := (usB HD5.o HBdb.o 0).trans rfl
  have bib0 := (usB HD5.o HBib.o 0).trans rfl
  go_wp2_with (fail)
  first | go_end0 | refine bodyPost_ret (results_none rfl _ _ _) rfl ?_
  refine ⟨⟨_, rfl⟩, (.slice A1 (addF m 0 18446744073709551615).1.length c1), ve4, ?_⟩
  rw [HHEV.o, if_pos HCC.o]
  simpa using HD5.o
 ·have hb : ((addF m 0 18446744073709551615).2 == 1) = false := by simp [hc]
  have HCC := qQ hc
  clear hc
  go_wp2_with (fail)
  refine (sub_done w ob sb eb cb pc vr f (.slice A1 (addF m 0 18446744073709551615).1.length c1) (addF m 0 18446744073709551615).1 vf rf ve3 (ev ++ [⟨1, r, i⟩]) A n c9 _ HD3.o HHVR.o HH1.o HHNC.o HHNN.o).mono ?_
  rintro e w6 ⟨⟨u, rfl⟩, hs⟩
  have HD6 := qQ hs
  clear hs
  clear s0 t0 t1 o0 o1 btb0 brb0 bdb0 bib0
  have s0 := usS HD6.o
  obtain ⟨t0, t1⟩ := usE HD6.o
  obtain ⟨o0, o1⟩ := usO HD6.o
  have btb0 := (usB HD6.o HBtb.o 0).trans rfl
  have brb0 := (usB HD6.o HBrb.o 0).trans rfl
  have bdb0 := (usB HD6.o HBdb.o 0).trans rfl
  have bib0 := (usB HD6.o HBib.o 0).trans rfl
  go_wp2_with (fail)
  first | go_end0 | refine bodyPost_ret (results_none rfl _ _ _) rfl ?_
  refine ⟨⟨_, rfl⟩, (.slice A1 (addF m 0 18446744073709551615).1.length c1), ve3, ?_⟩
  rw [HHEV.o, if_neg HCC.o]
  simpa using HD6.o
end Go.Proofs.YthoeodjgfelkhaaGreat.QT
