/- Part 7 of the claim on TopWakes: cell.Store, Add, Cas; printed contracts; think.Next. No condition. -/
import Derived.Test.YthoeodjgfelkhaaGreatm06
set_option linter.unusedVariables false
set_option linter.unusedSimpArgs false
set_option maxRecDepth 100000
set_option maxHeartbeats 8000000
namespace Go.Proofs.YthoeodjgfelkhaaGreat.QT
open Go.RowKit Go.Proofs.YthoeodjgfelkhaaGreatW.PrintWords Go.Proofs.YthoeodjgfelkhaaGreatW.PrintLast Go.Proofs.YthoeodjgfelkhaaGreatW.PrintMore
attribute [local go_sem] max2_int min2_int max_two min_two
def Eff (row : Option (Nat × Obj)) (W W' : World) : Prop := W.grownBy W' (row.map (·.1)) ∧ ∀ d o, row = some (d, o) → W'.heap[d]? = some o
theorem Eff.none_ {W W' : World} (h : Below W.heap.size W W') : Eff none W W' := ⟨grown_of_below h none, fun _ _ e => by cases e⟩
theorem Eff.drewN {row : Option (Nat × Obj)} {W W' : World} (h : Eff row W W') (n : Nat) : Eff row W (W'.drewN n) := ⟨⟨h.1.os, h.1.tape, h.1.output, h.1.size, h.1.block⟩, h.2⟩
theorem Eff.cell {row : Option (Nat × Obj)} {W W' : World} (h : Eff row W W') {a : Addr} {v : Value} (hc : W.cell? a = some v) (hne : ∀ d o, row = some (d, o) → a.block ≠ d) : W'.cell? a = some v := by
 have hb := h.1.block a.block (World.block_lt_of_cell? _ _ hc) (by
  cases row with
  | none => simp
  | some x => simp only [Option.map_some, ne_eq, Option.some.injEq]; exact hne _ _ rfl)
 rw [← hc]
 unfold World.cell?
 rw [hb]
theorem Eff.R {row : Option (Nat × Obj)} {W W' w : World} (h : Eff row W W') {v : Value} {l : List Int} (hr : (Kd.int .u64).R 38 W w.heap.size (fun _ => True) v l) (hne : ∀ d o, row = some (d, o) → d < w.heap.size) : (Kd.int .u64).R 38 W' w.heap.size (fun _ => True) v l :=
 Kd.R_mono (Kd.R_grown (Kd.R_bound hr) h.1 (fun k hk e => by
  cases row with
  | none => cases e
  | some x =>
   have := hne _ _ rfl
   simp only [Option.map_some, Option.some.injEq] at e
   have := hk.2.1
   omega)) (fun _ _ => trivial)
theorem Eff.below {row : Option (Nat × Obj)} {w W W' : World} (hb : Below w.heap.size w W) (h : Eff row W W') (hne : ∀ d o, row = some (d, o) → d < w.heap.size) : Eff row w W' := by
 refine ⟨⟨h.1.os.trans hb.os, h.1.tape.trans hb.tape, h.1.output.trans hb.output, Nat.le_trans hb.size h.1.size, fun i hi hr => ?_⟩, h.2⟩
 rw [h.1.block i (Nat.lt_of_lt_of_le hi hb.size) hr, hb.block i hi]
theorem Eff.set {row : Option (Nat × Obj)} {w W : World} (h : Eff row w W) {p : Addr} (hp : w.heap.size ≤ p.block) (hne : ∀ d o, row = some (d, o) → d < w.heap.size) (u : Value) : Eff row w (W.setCell p u) := by
 refine ⟨⟨h.1.os, h.1.tape, h.1.output, by simpa using h.1.size, fun i hi hr => ?_⟩, fun d o e => ?_⟩
 ·rw [Below.heap_setCell _ _ _ _ (by omega)]; exact h.1.block i hi hr
 ·rw [Below.heap_setCell _ _ _ _ (by have := hne d o e; omega)]; exact h.2 d o e
theorem with_out (g : Nat) (caps : Array Value) (A : Option Addr) (c : Nat) (l : List Int) (i : Int) (w : World) (hc : Kd.C (Kd.int .u64) w A l.length l) (hcc : l.length ≤ c) (hn : l.length ≤ 1000000) (hi : ¬ (0 ≤ i ∧ i < l.length)) :
  Calls Tryz.prog 104 #[.slice A l.length c, .int .i64 i, .func (.func g) #[] caps] w fun e w' => ∃ v, e = .returned (.tuple #[v, .int .u64 0]) ∧ (Kd.int .u64).R 38 w' w.heap.size (fun _ => True) v l ∧ Below w.heap.size w w' := by
 have HC := qQ hc
 have HCC := qQ hcc
 have HN := qQ hn
 clear hc hcc hn
 have A1 : Aside0 (cell_is.f l i = some false) := by
  refine ⟨?_⟩
  unfold cell_is.f
  split
  ·congr 1; exact decide_eq_false (fun h => hi ⟨by omega, h⟩)
  ·rfl
 clear hi
 go_enter Tryz.func104, Tryz.ntmps104
 go_wp2_with (first | (go_at_call 54; refine (clone54 A c l _ HC.o HN.o).mono ?_; rintro e w1 ⟨v, rfl, ho, hb⟩; have HO := qQ ho; have HB := qQ hb; clear ho hb; obtain ⟨A2, c2, eo⟩ := Kd.R_slice HO.o; subst eo) | (go_at_call 16; (with_reducible refine (cell_is.calls A c l i false _ (Kd.C_below HC.o HB.o) HCC.o A1.o).mono ?_); rintro e w2 ⟨rfl, ⟨nd, rfl⟩⟩))
 go_ret2
 exact ⟨_, rfl, Kd.R_imp rfl (fun _ _ _ _ _ h => h) (Kd.R_drewN HO.o nd), pw_below_drewN HB.o nd⟩
theorem with_in1 (g : Nat) (p0 : Value) (row : Option (Nat × Obj)) (A : Option Addr) (c : Nat) (l : List Int) (i r : Int) (w : World) (hc : Kd.C (Kd.int .u64) w A l.length l) (hcc : l.length ≤ c) (hn : l.length ≤ 1000000) (h0 : 0 ≤ i) (h1 : i < l.length)
  (hd : ∀ d o, row = some (d, o) → d < w.heap.size ∧ ∀ ad, A = some ad → ad.block ≠ d)
  (eg : ∀ args W, (callFunc g args).run Tryz.prog W = .ok (.enter g args) W)
  (hcl : ∀ W, Below w.heap.size w W → Calls Tryz.prog g #[.int .u64 (rd l i), p0] W fun e W' => e = .returned (.int .u64 r) ∧ Eff row W W') :
  Calls Tryz.prog 104 #[.slice A l.length c, .int .i64 i, .func (.func g) #[] #[p0]] w fun e w' => ∃ v, e = .returned (.tuple #[v, .int .u64 (rd l i)]) ∧ (Kd.int .u64).R 38 w' w.heap.size (fun _ => True) v (l.set i.toNat r) ∧ Eff row w w' := by
 have HC := qQ hc
 have HCC := qQ hcc
 have HN := qQ hn
 have HCL := qQ hcl
 clear hcl hn
 have A1 : Aside0 (cell_is.f l i = some true) := by
  refine ⟨?_⟩
  unfold cell_is.f
  rw [if_pos h0, decide_eq_true h1]
 obtain ⟨ad, rfl, hcell⟩ := (Kd.reads_of_C (d := (0 : Int)) hc).at_ i h0 h1
 have HD : Aside0 (∀ d o, row = some (d, o) → d < w.heap.size ∧ ad.block ≠ d) := ⟨fun d o e => ⟨(hd d o e).1, (hd d o e).2 ad rfl⟩⟩
 have HCE := qQ hcell
 clear hd hcell hcc hc
 go_enter Tryz.func104, Tryz.ntmps104
 go_wp2_with (first | (go_at_call 54; refine (clone54 (some ad) c l _ HC.o HN.o).mono ?_; rintro e w1 ⟨v, rfl, ho, hb⟩; have HO := qQ (Kd.R_imp (d' := Kd.int .u64) rfl (fun _ _ _ _ _ h => h) ho); have HB := qQ hb; clear ho hb; obtain ⟨g2, c2, eo, hg2, hg3, hg4⟩ := Kd.R_form HO.o (by omega); subst eo; clear hg3 hg4) | (go_at_call 16; (with_reducible refine (cell_is.calls (some ad) c l i true _ (Kd.C_below HC.o HB.o) HCC.o A1.o).mono ?_); rintro e w2 ⟨rfl, ⟨nd, rfl⟩⟩; have hc1 := (HB.o.cell (World.block_lt_of_cell? _ _ HCE.o)).trans HCE.o))
 have HBN := qQ (pw_below_drewN HB.o nd)
 refine (HCL.o _ HBN.o).mono ?_
 rintro e w3 ⟨rfl, he⟩
 have HE := qQ he
 have HD1 := qQ (fun d o e => (HD.o d o e).1)
 have HO3 := qQ (Eff.R he (Kd.R_drewN HO.o nd) HD1.o)
 have hc3 := he.cell (W := w1.drewN nd) hc1 (fun d o e => by rw [add_block]; exact (HD.o d o e).2)
 obtain ⟨q1, q2⟩ := Kd.R_cell 0 HO3.o i h0 h1
 have hadlt := World.block_lt_of_cell? _ _ HCE.o
 have hc4 : (w3.setCell ⟨g2, i.toNat, none⟩ (.int .u64 r)).cell? (ad.add i.toNat) = some (.int .u64 (rdOf 0 l i)) := (World.cell?_setCell_other _ _ _ _ (fun e => by rw [← e] at hadlt; simp at hadlt; omega)).trans hc3
 clear he
 go_wp2
 go_quiet (fail)
 go_wp2
 go_ret2
 exact ⟨_, rfl, Kd.R_drewN (Kd.R_put HO3.o i r).1 _, (((Eff.below HBN.o HE.o HD1.o).set (p := ⟨g2, i.toNat, none⟩) hg2 HD1.o _).drewN _)⟩
theorem with_in3 (g : Nat) (p0 p1 p2 : Value) (row : Option (Nat × Obj)) (A : Option Addr) (c : Nat) (l : List Int) (i r : Int) (w : World) (hc : Kd.C (Kd.int .u64) w A l.length l) (hcc : l.length ≤ c) (hn : l.length ≤ 1000000) (h0 : 0 ≤ i) (h1 : i < l.length)
  (hd : ∀ d o, row = some (d, o) → d < w.heap.size ∧ ∀ ad, A = some ad → ad.block ≠ d)
  (eg : ∀ args W, (callFunc g args).run Tryz.prog W = .ok (.enter g args) W)
  (hcl : ∀ W, Below w.heap.size w W → Calls Tryz.prog g #[.int .u64 (rd l i), p0, p1, p2] W fun e W' => e = .returned (.int .u64 r) ∧ Eff row W W') :
  Calls Tryz.prog 104 #[.slice A l.length c, .int .i64 i, .func (.func g) #[] #[p0, p1, p2]] w fun e w' => ∃ v, e = .returned (.tuple #[v, .int .u64 (rd l i)]) ∧ (Kd.int .u64).R 38 w' w.heap.size (fun _ => True) v (l.set i.toNat r) ∧ Eff row w w' := by
 have HC := qQ hc
 have HCC := qQ hcc
 have HN := qQ hn
 have HCL := qQ hcl
 clear hcl hn
 have A1 : Aside0 (cell_is.f l i = some true) := by
  refine ⟨?_⟩
  unfold cell_is.f
  rw [if_pos h0, decide_eq_true h1]
 obtain ⟨ad, rfl, hcell⟩ := (Kd.reads_of_C (d := (0 : Int)) hc).at_ i h0 h1
 have HD : Aside0 (∀ d o, row = some (d, o) → d < w.heap.size ∧ ad.block ≠ d) := ⟨fun d o e => ⟨(hd d o e).1, (hd d o e).2 ad rfl⟩⟩
 have HCE := qQ hcell
 clear hd hcell hcc hc
 go_enter Tryz.func104, Tryz.ntmps104
 go_wp2_with (first | (go_at_call 54; refine (clone54 (some ad) c l _ HC.o HN.o).mono ?_; rintro e w1 ⟨v, rfl, ho, hb⟩; have HO := qQ (Kd.R_imp (d' := Kd.int .u64) rfl (fun _ _ _ _ _ h => h) ho); have HB := qQ hb; clear ho hb; obtain ⟨g2, c2, eo, hg2, hg3, hg4⟩ := Kd.R_form HO.o (by omega); subst eo; clear hg3 hg4) | (go_at_call 16; (with_reducible refine (cell_is.calls (some ad) c l i true _ (Kd.C_below HC.o HB.o) HCC.o A1.o).mono ?_); rintro e w2 ⟨rfl, ⟨nd, rfl⟩⟩; have hc1 := (HB.o.cell (World.block_lt_of_cell? _ _ HCE.o)).trans HCE.o))
 have HBN := qQ (pw_below_drewN HB.o nd)
 refine (HCL.o _ HBN.o).mono ?_
 rintro e w3 ⟨rfl, he⟩
 have HE := qQ he
 have HD1 := qQ (fun d o e => (HD.o d o e).1)
 have HO3 := qQ (Eff.R he (Kd.R_drewN HO.o nd) HD1.o)
 have hc3 := he.cell (W := w1.drewN nd) hc1 (fun d o e => by rw [add_block]; exact (HD.o d o e).2)
 obtain ⟨q1, q2⟩ := Kd.R_cell 0 HO3.o i h0 h1
 have hadlt := World.block_lt_of_cell? _ _ HCE.o
 have hc4 : (w3.setCell ⟨g2, i.toNat, none⟩ (.int .u64 r)).cell? (ad.add i.toNat) = some (.int .u64 (rdOf 0 l i)) := (World.cell?_setCell_other _ _ _ _ (fun e => by rw [← e] at hadlt; simp at hadlt; omega)).trans hc3
 clear he
 go_wp2
 go_quiet (fail)
 go_wp2
 go_ret2
 exact ⟨_, rfl, Kd.R_drewN (Kd.R_put HO3.o i r).1 _, (((Eff.below HBN.o HE.o HD1.o).set (p := ⟨g2, i.toNat, none⟩) hg2 HD1.o _).drewN _)⟩
def storeF (l : List Int) (i v : Int) : List Int := if 0 ≤ i ∧ i < l.length then l.set i.toNat v else l
theorem Below.of_eff {W W' : World} (h : Eff none W W') : Below W.heap.size W W' := ⟨h.1.os, h.1.tape, h.1.output, h.1.size, fun i hi => h.1.block i hi (by simp)⟩
theorem store65 (A : Option Addr) (c : Nat) (l : List Int) (i v : Int) (w : World) (hc : Kd.C (Kd.int .u64) w A l.length l) (hcc : l.length ≤ c) (hn : l.length ≤ 1000000) :
  Calls Tryz.prog 65 #[.slice A l.length c, .int .i64 i, .int .u64 v] w fun e w' => ∃ u, e = .returned u ∧ (Kd.int .u64).R 38 w' w.heap.size (fun _ => True) u (storeF l i v) ∧ Below w.heap.size w w' := by
 have HC := qQ (Kd.C_alloc hc (.cells #[.int .u64 v] 38))
 have HB0 := qQ (below_alloc (Below.refl w.heap.size w) (.cells #[.int .u64 v] 38))
 have HBX : Aside0 ((w.alloc (.cells #[.int .u64 v] 38)).heap[w.heap.size]? = some (.cells #[.int .u64 v] 38 (0, 0))) := ⟨blk_new w _⟩
 have e105 := fun args W => enters_of Tryz.func105 (by kernel_rfl) rfl args W
 have hcl : Aside0 (∀ x W, Below (w.alloc (.cells #[.int .u64 v] 38)).heap.size (w.alloc (.cells #[.int .u64 v] 38)) W → Calls Tryz.prog 105 #[.int .u64 x, .pointer (some ⟨w.heap.size, 0, none⟩)] W fun e W' => e = .returned (.int .u64 v) ∧ Eff none W W') := by
  refine ⟨fun x W hb => ?_⟩
  have hc := (blk_cell (blk_below HBX.o hb) 0).trans rfl
  have hb := qQ hb
  go_enter Tryz.func105, Tryz.ntmps105
  go_wp2
  go_ret
  exact ⟨rfl, Eff.none_ (Below.refl _ _)⟩
 unfold storeF
 by_cases hi : 0 ≤ i ∧ i < l.length
 ·rw [if_pos hi]
  go_enter Tryz.func65, Tryz.ntmps65
  go_wp2_with (go_at_call 104; refine (with_in1 105 _ none A c l i v _ HC.o hcc hn hi.1 hi.2 (fun _ _ e => by cases e) e105 (hcl.o _)).mono ?_; rintro e w1 ⟨u, rfl, ho, he⟩; have HO := qQ ho; have HE := qQ he; clear ho he)
  go_ret
  exact ⟨_, rfl, Kd.R_lower HO.o (by simp), HB0.o.trans ((Below.of_eff HE.o).mono (by simp))⟩
 ·rw [if_neg hi]
  go_enter Tryz.func65, Tryz.ntmps65
  go_wp2_with (go_at_call 104; refine (with_out 105 _ A c l i _ HC.o hcc hn hi).mono ?_; rintro e w1 ⟨u, rfl, ho, he⟩; have HO := qQ ho; have HE := qQ he; clear ho he)
  go_ret
  exact ⟨_, rfl, Kd.R_lower HO.o (by simp), HB0.o.trans (HE.o.mono (by simp))⟩
def addF (l : List Int) (i v : Int) : List Int × Int := if 0 ≤ i ∧ i < l.length then (l.set i.toNat (IntKind.u64.wrap (rd l i + v)), rd l i) else (l, 0)
theorem add99 (A : Option Addr) (c : Nat) (l : List Int) (i v : Int) (w : World) (hc : Kd.C (Kd.int .u64) w A l.length l) (hcc : l.length ≤ c) (hn : l.length ≤ 1000000) :
  Calls Tryz.prog 99 #[.slice A l.length c, .int .i64 i, .int .u64 v] w fun e w' => ∃ u, e = .returned (.tuple #[u, .int .u64 (addF l i v).2]) ∧ (Kd.int .u64).R 38 w' w.heap.size (fun _ => True) u (addF l i v).1 ∧ Below w.heap.size w w' := by
 have HC := qQ (Kd.C_alloc hc (.cells #[.int .u64 v] 38))
 have HB0 := qQ (below_alloc (Below.refl w.heap.size w) (.cells #[.int .u64 v] 38))
 have HBX : Aside0 ((w.alloc (.cells #[.int .u64 v] 38)).heap[w.heap.size]? = some (.cells #[.int .u64 v] 38 (0, 0))) := ⟨blk_new w _⟩
 have e123 := fun args W => enters_of Tryz.func123 (by kernel_rfl) rfl args W
 have hcl : Aside0 (∀ x W, Below (w.alloc (.cells #[.int .u64 v] 38)).heap.size (w.alloc (.cells #[.int .u64 v] 38)) W → Calls Tryz.prog 123 #[.int .u64 x, .pointer (some ⟨w.heap.size, 0, none⟩)] W fun e W' => e = .returned (.int .u64 (IntKind.u64.wrap (x + v))) ∧ Eff none W W') := by
  refine ⟨fun x W hb => ?_⟩
  have hc := (blk_cell (blk_below HBX.o hb) 0).trans rfl
  have hb := qQ hb
  go_enter Tryz.func123, Tryz.ntmps123
  go_wp2
  go_ret
  exact ⟨rfl, Eff.none_ (Below.refl _ _)⟩
 unfold addF
 by_cases hi : 0 ≤ i ∧ i < l.length
 ·rw [if_pos hi]
  go_enter Tryz.func99, Tryz.ntmps99
  go_wp2_with (go_at_call 104; refine (with_in1 123 _ none A c l i (IntKind.u64.wrap (rd l i + v)) _ HC.o hcc hn hi.1 hi.2 (fun _ _ e => by cases e) e123 (hcl.o _)).mono ?_; rintro e w1 ⟨u, rfl, ho, he⟩; have HO := qQ ho; have HE := qQ he; clear ho he)
  go_ret2
  exact ⟨_, rfl, Kd.R_lower HO.o (by simp), HB0.o.trans ((Below.of_eff HE.o).mono (by simp))⟩
 ·rw [if_neg hi]
  go_enter Tryz.func99, Tryz.ntmps99
  go_wp2_with (go_at_call 104; refine (with_out 123 _ A c l i _ HC.o hcc hn hi).mono ?_; rintro e w1 ⟨u, rfl, ho, he⟩; have HO := qQ ho; have HE := qQ he; clear ho he)
  go_ret2
  exact ⟨_, rfl, Kd.R_lower HO.o (by simp), HB0.o.trans (HE.o.mono (by simp))⟩
def casF (l : List Int) (i old new : Int) : List Int × Bool := if 0 ≤ i ∧ i < l.length ∧ rd l i = old then (l.set i.toNat new, true) else (l, false)
theorem rd_set_self (l : List Int) (i : Int) (h : i.toNat < l.length) : l.set i.toNat (rd l i) = l := by
 apply List.ext_getElem?
 intro j
 rw [List.getElem?_set]
 split
 ·rename_i hj
  subst hj
  simp [rd, h, List.getElem?_eq_getElem]
 ·rfl
theorem cas140 (A : Option Addr) (c : Nat) (l : List Int) (i old new : Int) (w : World) (hc : Kd.C (Kd.int .u64) w A l.length l) (hcc : l.length ≤ c) (hn : l.length ≤ 1000000) :
  Calls Tryz.prog 140 #[.slice A l.length c, .int .i64 i, .int .u64 old, .int .u64 new] w fun e w' => ∃ u, e = .returned (.tuple #[u, .bool (casF l i old new).2]) ∧ (Kd.int .u64).R 38 w' w.heap.size (fun _ => True) u (casF l i old new).1 ∧ Below w.heap.size w w' := by
 obtain ⟨W1, hW1⟩ : ∃ W1, W1 = ((w.alloc (.cells #[.int .u64 old] 38)).alloc (.cells #[.int .u64 new] 38)).alloc (.cells #[.bool false] 4) := ⟨_, rfl⟩
 have HS : Aside0 (W1.heap.size = w.heap.size + 3) := ⟨by rw [hW1]; simp⟩
 have HB0 : Aside0 (Below w.heap.size w W1) := ⟨by rw [hW1]; exact below_alloc (below_alloc (below_alloc (Below.refl w.heap.size w) _) _) _⟩
 have B0 : Aside0 (W1.heap[w.heap.size]? = some (.cells #[.int .u64 old] 38 (0, 0))) := ⟨by rw [hW1]; exact blk_alloc (blk_alloc (blk_new w _) _) _⟩
 have B1 : Aside0 (W1.heap[w.heap.size + 1]? = some (.cells #[.int .u64 new] 38 (0, 0))) := ⟨by rw [hW1]; exact blk_alloc (by simpa using blk_new (w.alloc (.cells #[.int .u64 old] 38)) (.cells #[.int .u64 new] 38)) _⟩
 have B2 : Aside0 (W1.heap[w.heap.size + 1 + 1]? = some (.cells #[.bool false] 4 (0, 0))) := ⟨by rw [hW1]; simpa only [World.size_alloc] using blk_new ((w.alloc (.cells #[.int .u64 old] 38)).alloc (.cells #[.int .u64 new] 38)) (.cells #[.bool false] 4)⟩
 have HC := qQ (Kd.C_below hc HB0.o)
 have e168 := fun args W => enters_of Tryz.func168 (by kernel_rfl) rfl args W
 have hA : ∀ ad, A = some ad → 0 < l.length → ad.block < w.heap.size := by
  rintro ad rfl h
  obtain ⟨ad', e, h2⟩ := (Kd.reads_of_C (d := (0 : Int)) hc).at_ 0 (by omega) (by omega)
  cases e
  have := World.block_lt_of_cell? _ _ h2
  rwa [add_block] at this
 have hcl : Aside0 (∀ x W, Below W1.heap.size W1 W → Calls Tryz.prog 168 #[.int .u64 x, .pointer (some ⟨w.heap.size, 0, none⟩), .pointer (some ⟨w.heap.size + 1 + 1, 0, none⟩), .pointer (some ⟨w.heap.size + 1, 0, none⟩)] W fun e W' =>
   e = .returned (.int .u64 (if x = old then new else x)) ∧ Eff (some (w.heap.size + 1 + 1, .cells #[.bool (decide (x = old))] 4)) W W') := by
  refine ⟨fun x W hb => ?_⟩
  have hk0 := blk_below B0.o hb
  have hk1 := blk_below B1.o hb
  have hk2 := blk_below B2.o hb
  have hc0 := (blk_cell hk0 0).trans rfl
  have hc1 := (blk_cell hk1 0).trans rfl
  have hc2 := (blk_cell hk2 0).trans rfl
  have hf2 := blk_frozen hk2 0
  have HK1 := qQ hk1
  have HK2 := qQ hk2
  clear hk0 hk1 hk2 hb
  by_cases hx : x = old
  ·rw [if_pos hx, decide_eq_true hx]
   have hc3 : (W.setCell ⟨w.heap.size + 1 + 1, 0, none⟩ (.bool true)).cell? ⟨w.heap.size + 1, 0, none⟩ = some (.int .u64 new) := (blk_cell (blk_far HK1.o (by simp) _) 0).trans rfl
   go_enter Tryz.func168, Tryz.ntmps168
   go_wp2
   go_ret
   refine ⟨rfl, ⟨grownBy_setCell' W _ _, fun d o e => ?_⟩⟩
   cases e
   simpa using blk_set HK2.o 0 (.bool true)
  ·rw [if_neg hx, decide_eq_false hx]
   go_enter Tryz.func168, Tryz.ntmps168
   go_wp2
   go_ret
   exact ⟨rfl, ⟨World.grownBy.refl _ _, fun d o e => by cases e; exact HK2.o⟩⟩
 unfold casF
 by_cases hi : 0 ≤ i ∧ i < l.length
 ·have hcas : (if 0 ≤ i ∧ i < (l.length : Int) ∧ rd l i = old then (l.set i.toNat new, true) else (l, false)) = (l.set i.toNat (if rd l i = old then new else rd l i), decide (rd l i = old)) := by
   by_cases ho : rd l i = old
   ·rw [if_pos ⟨hi.1, hi.2, ho⟩, if_pos ho, decide_eq_true ho]
   ·rw [if_neg (fun h => ho h.2.2), if_neg ho, decide_eq_false ho, rd_set_self _ _ (by omega)]
  rw [hcas]
  have HA := qQ hA
  have hcl2 := hcl.o (rd l i)
  generalize (if rd l i = old then new else rd l i) = q at hcl2 ⊢
  generalize decide (rd l i = old) = b at hcl2 ⊢
  have HCL := qQ hcl2
  clear hA hcas hcl2
  go_enter Tryz.func140, Tryz.ntmps140
  go_wp2_with fail
  rw [← hW1]
  refine (with_in3 168 _ _ _ _ A c l i _ W1 HC.o hcc hn hi.1 hi.2 (fun d o e => ?_) e168 HCL.o).mono ?_
  ·cases e
   exact ⟨by rw [HS.o]; omega, fun ad ea => by have := HA.o ad ea (by omega); omega⟩
  rintro e w1 ⟨u, rfl, ho, he⟩
  have hk := he.2 _ _ rfl
  have hcd := (blk_cell hk 0).trans rfl
  have hb1 : Below w.heap.size w w1 := HB0.o.trans ⟨he.1.os, he.1.tape, he.1.output, he.1.size, fun j hj => he.1.block j (by rw [HS.o]; omega) (by simp; omega)⟩
  have HO := qQ ho
  have HB1 := qQ hb1
  clear ho he hk hb1
  go_wp2
  go_quiet (fail)
  go_wp2
  go_ret2
  exact ⟨_, rfl, Kd.R_drewN (Kd.R_lower HO.o HB0.o.size) _, pw_below_drewN HB1.o _⟩
 ·rw [if_neg (fun h => hi ⟨h.1, h.2.1⟩)]
  have hcd : W1.cell? ⟨w.heap.size + 1 + 1, 0, none⟩ = some (.bool false) := (blk_cell B2.o 0).trans rfl
  have HCD := qQ hcd
  clear hcd
  go_enter Tryz.func140, Tryz.ntmps140
  go_wp2_with fail
  rw [← hW1]
  refine (with_out 168 _ A c l i W1 HC.o hcc hn hi).mono ?_
  rintro e w1 ⟨u, rfl, ho, hb⟩
  have hcd := (hb.cell (World.block_lt_of_cell? _ _ HCD.o)).trans HCD.o
  have HO := qQ ho
  have HB1 := qQ (below_then HB0.o HB0.o.size hb)
  clear ho hb
  go_wp2
  go_quiet (fail)
  go_wp2
  go_ret2
  exact ⟨_, rfl, Kd.R_drewN (Kd.R_lower HO.o HB0.o.size) _, pw_below_drewN HB1.o _⟩
def lay_at.f (a0_0 a0_1 a0_2 a0_3 wi : Int) (ro : Option Int) : Option Int := (lay_May.f a0_0 a0_1 a0_2 a0_3).bind fun t => if t = true then ((lay_in.f wi 0 (wrap64 (a0_0 - 1))).bind fun u => if u = true then ro else some (-1)) else some (-1)
theorem lay_at.old {W : World} {a : Addr} {v : Value} (o : Obj) (h : W.cell? a = some v) : (W.alloc o).cell? a = some v := Lib.cell?_alloc_some o h
theorem lay_at.fresh (W : World) (cs : Array Value) (t : TypeId) (j : Nat) {v : Value} (h : cs[j]? = some v) : (W.alloc (.cells cs t)).cell? ⟨W.heap.size, j, none⟩ = some v := by simp [h]
theorem lay_at.calls (a0_0 a0_1 a0_2 a0_3 wi : Int) (g : Nat) (caps : Array Value) (ro : Option Int) (r : Int) (w : World)
  (eg : ∀ args W, (callFunc g args).run Tryz.prog W = .ok (.enter g args) W)
  (hcl : Hid (∀ v W, ro = some v → Below w.heap.size w W → Calls Tryz.prog g caps W fun e W' => e = .returned (.int .i64 v) ∧ Below W.heap.size W W'))
  (h : lay_at.f a0_0 a0_1 a0_2 a0_3 wi ro = some r) :
  Calls Tryz.prog 71 #[.agg #[.int .i64 a0_0, .int .i64 a0_1, .int .i64 a0_2, .int .i64 a0_3], .int .i64 wi, .func (.func g) #[] caps] w fun e w' => e = .returned (.int .i64 r) ∧ Below w.heap.size w w' := by
 have hu23 := Tryz.underlying23
 have HB0 := Lib.hid ((Below.refl w.heap.size w).alloc (Nat.le_refl _) (.cells #[.int .i64 a0_0, .int .i64 a0_1, .int .i64 a0_2, .int .i64 a0_3] 23))
 unfold lay_at.f at h
 obtain ⟨t, A1, h⟩ := Option.bind_eq_some_iff.mp h
 have A := Lib.hid A1
 clear A1
 cases t with
 | false =>
  rw [if_neg (by decide)] at h
  obtain rfl := Option.some.inj h
  go_enter Tryz.func71, Tryz.ntmps71
  go_wp2_with (go_at_call 22; (with_reducible refine (lay_May.calls a0_0 a0_1 a0_2 a0_3 false _ A.out).mono ?_); rintro e w1 ⟨rfl, hb⟩)
  go_ret
  exact ⟨rfl, HB0.out.trans (hb.mono (by simp))⟩
 | true =>
  rw [if_pos rfl] at h
  obtain ⟨u, B1, h⟩ := Option.bind_eq_some_iff.mp h
  have B := Lib.hid B1
  clear B1
  have HW : ∀ w1, Below (w.heap.size + 1) (w.alloc (.cells #[.int .i64 a0_0, .int .i64 a0_1, .int .i64 a0_2, .int .i64 a0_3] 23)) w1 → w1.cell? ⟨w.heap.size, 0, none⟩ = some (.int .i64 a0_0) := fun w1 hb => (hb.cell (p := ⟨w.heap.size, 0, none⟩) (Nat.lt_succ_self _)).trans (by simp)
  cases u with
  | false =>
   rw [if_neg (by decide)] at h
   obtain rfl := Option.some.inj h
   go_enter Tryz.func71, Tryz.ntmps71
   go_wp2_with (first | (go_at_call 22; (with_reducible refine (lay_May.calls a0_0 a0_1 a0_2 a0_3 true _ A.out).mono ?_); rintro e w1 ⟨rfl, hb⟩; have hc := HW w1 (by simpa using hb); have HB := Lib.hid hb; clear hb) | (go_at_call 45; (with_reducible refine (lay_in.calls wi 0 (wrap64 (a0_0 - 1)) false _ B.out).mono ?_); rintro e w' ⟨rfl, ⟨nd, rfl⟩⟩))
   go_ret
   exact ⟨rfl, by apply pw_below_drewN; exact HB0.out.trans (HB.out.mono (by simp))⟩
  | true =>
   rw [if_pos rfl] at h
   have H := Lib.hid h
   clear h
   go_enter Tryz.func71, Tryz.ntmps71
   go_wp2_with (first | (go_at_call 22; (with_reducible refine (lay_May.calls a0_0 a0_1 a0_2 a0_3 true _ A.out).mono ?_); rintro e w1 ⟨rfl, hb⟩; have hc := HW w1 (by simpa using hb); have HB := Lib.hid hb; clear hb) | (go_at_call 45; (with_reducible refine (lay_in.calls wi 0 (wrap64 (a0_0 - 1)) true _ B.out).mono ?_); rintro e w' ⟨rfl, ⟨nd, rfl⟩⟩))
   have HB2 : Below w.heap.size w (w1.drewN nd) := by apply pw_below_drewN; exact HB0.out.trans (HB.out.mono (by simp))
   refine (hcl.out r _ H.out HB2).mono ?_
   rintro e w3 ⟨rfl, hb3⟩
   go_wp2
   go_ret
   exact ⟨rfl, HB2.trans (hb3.mono HB2.size)⟩
def work_Parked.f (a0_0 : Int) (l0_1 : List (S116)) (a0_2 : Int) (a0_3 : Int) (a0_4 : Int) (a0_5 : Int) (a0_6 : Int) (a0_7 : Int) (a0_8 : Int) (a0_9 : Int) (a0_10 : Int) : Option (Bool) := if a0_0 = 8 then ((wait_Parked.f a0_2 a0_3 a0_4 a0_5 a0_6 a0_7 a0_8).bind fun t253 => (some t253)) else (some false)
theorem work_Parked.calls (a0_0 : Int) (A0_1 : Option Addr) (c0_1 : Nat) (l0_1 : List (S116)) (a0_2 : Int) (a0_3 : Int) (a0_4 : Int) (a0_5 : Int) (a0_6 : Int) (a0_7 : Int) (a0_8 : Int) (a0_9 : Int) (a0_10 : Int) (r : Bool) (w : World) (hr0_1 : Kd.C k116 w A0_1 l0_1.length l0_1) (hc0_1 : l0_1.length ≤ c0_1) (h : work_Parked.f a0_0 l0_1 a0_2 a0_3 a0_4 a0_5 a0_6 a0_7 a0_8 a0_9 a0_10 = some r) :
  Calls Tryz.prog 42 #[.agg #[.int .i64 a0_0, .slice A0_1 l0_1.length c0_1, .int .i64 a0_2, .int .i64 a0_3, .int .i64 a0_4, .int .u64 a0_5, .int .u64 a0_6, .int .u64 a0_7, .int .i64 a0_8, .int .i64 a0_9, .int .i64 a0_10]] w fun e w' => e = .returned (.bool r) ∧ Below w.heap.size w w' := by
 have hu76 := Tryz.underlying76
 have hu66 := Tryz.underlying66
 have HR0_1 := qQ hr0_1
 have HC0_1 := qQ hc0_1
 clear hr0_1 hc0_1
 have HB := qQ (Below.refl w.heap.size w)
 unfold work_Parked.f at h
 have H := h
 clear h
 by_cases c2 : a0_0 = 8
 rotate_left
 case' neg =>
  rw [if_neg c2] at H
  have c2b0 : (a0_0 == 8) = false := beq_eq_false_iff_ne.mpr c2
  have c2b1 : (a0_0 != 8) = true := bne_iff_ne.mpr c2
  obtain rfl := Option.some.inj H
 rotate_right
 case' pos =>
  rw [if_pos c2] at H
  have c2b0 : (a0_0 == 8) = true := beq_iff_eq.mpr c2
  have c2b1 : (a0_0 != 8) = false := bne_eq_false_iff_eq.mpr c2
  clear c2
  replace H := Option.bind_eq_some_iff.mp H
  obtain ⟨t253, A30, H⟩ := H
  replace H : (some t253) = some r := H
  have A3 := qQ A30
  clear A30
  obtain rfl := Option.some.inj H
 all_goals
  go_enter Tryz.func42, Tryz.ntmps42
  go_wp2_with (first | ((with_reducible refine gate_dst (N := 1) rfl ?_); refine box_event ?hg (N := 1) ?hd (cs := #[.int .i64 a0_0, .slice A0_1 l0_1.length c0_1, .int .i64 a0_2, .int .i64 a0_3, .int .i64 a0_4, .int .u64 a0_5, .int .u64 a0_6, .int .u64 a0_7, .int .i64 a0_8, .int .i64 a0_9, .int .i64 a0_10]) (t := 76) ?hr ?_; (case hd => rfl); (case hg => rfl); (case hr => first | (go_simp; done) | (go_simp; rfl)); intro gb252 hg w1 hbox hb; have BK252 := qQ (hbox); have GW252 := qQ ((by rw [hg]; exact (below_size zB) : w.heap.size ≤ gb252)); have GE252 := qQ ((by rw [hg]; exact (below_size zB) : w.heap.size ≤ gb252)); replace HB := qQ (below_step zB hb); clear hb hbox hg; have hcz1 := blk_cell BK252.o; have hfz1 := blk_frozen BK252.o) | (go_at_call 70; (with_reducible refine (wait_Parked.calls a0_2 a0_3 a0_4 a0_5 a0_6 a0_7 a0_8 t253 _ A3.o).mono ?_); (try clear A3); rintro e w2 ⟨rfl, hb⟩; replace BK252 := qQ (blk_below (g := gb252) (o := .cells #[.int .i64 a0_0, .slice A0_1 l0_1.length c0_1, .int .i64 a0_2, .int .i64 a0_3, .int .i64 a0_4, .int .u64 a0_5, .int .u64 a0_6, .int .u64 a0_7, .int .i64 a0_8, .int .i64 a0_9, .int .i64 a0_10] 76 (0, 0)) (zK BK252.o) hb); replace HB := qQ (below_step zB hb); (try clear hb); (try clear hb2); (try clear hk); (try clear hi)))
  go_ret
  exact ⟨by first | rfl | (simp [errW_none, errW_some] <;> rfl) | (simp [*, errW_none, errW_some] <;> rfl), zB⟩
def lay_New.l0 : Nat → List Int → Int → Int → Option (List Int)
 | 0, _, _, _ => none
 | k + 1, x3, x5, x6 => if x6 < x5 then (if x3.length < 17592186044416 then (lay_New.l0 k (x3 ++ [0]) x5 (wrap64 (x6 + 1))) else (none)) else (some x3)
def lay_New.f (k : Nat) (a0_0 : Int) (a0_1 : Int) (a0_2 : Int) (a0_3 : Int) : Option (List Int) := (lay_Size.f a0_0 a0_1 a0_2 a0_3).bind fun t124 => (lay_New.l0 k ([] : List Int) t124 0)
theorem lay_New.calls (k : Nat) (a0_0 : Int) (a0_1 : Int) (a0_2 : Int) (a0_3 : Int) (r : List Int) (w : World) (h : lay_New.f k a0_0 a0_1 a0_2 a0_3 = some r) :
  Calls Tryz.prog 26 #[.agg #[.int .i64 a0_0, .int .i64 a0_1, .int .i64 a0_2, .int .i64 a0_3]] w fun e w' => ∃ v0_ : Value, e = .returned (v0_) ∧ Kd.R (Kd.int .u64) 38 w' w.heap.size (fun _ => True) v0_ r ∧ Below w.heap.size w w' := by
 have hu23 := Tryz.underlying23
 have HB := qQ (Below.refl w.heap.size w)
 unfold lay_New.f at h
 have H := h
 clear h
 replace H := Option.bind_eq_some_iff.mp H
 obtain ⟨t124, A20, H⟩ := H
 replace H : (lay_New.l0 k ([] : List Int) t124 0) = some r := H
 have A2 := qQ A20
 clear A20
 have H' := qQ H
 clear H
 go_enter Tryz.func26, Tryz.ntmps26
 go_wp2_with (first | ((with_reducible refine gate_dst (N := 1) rfl ?_); refine box_event ?hg (N := 1) ?hd (cs := #[.int .i64 a0_0, .int .i64 a0_1, .int .i64 a0_2, .int .i64 a0_3]) (t := 23) ?hr ?_; (case hd => rfl); (case hg => rfl); (case hr => first | (go_simp; done) | (go_simp; rfl)); intro gb123 hg w3 hbox hb; have BK123 := qQ (hbox); have GW123 := qQ ((by rw [hg]; exact (below_size zB) : w.heap.size ≤ gb123)); have GE123 := qQ ((by rw [hg]; exact (below_size zB) : w.heap.size ≤ gb123)); replace HB := qQ (below_step zB hb); clear hb hbox hg; have hcz4 := blk_cell BK123.o; have hfz4 := blk_frozen BK123.o) | ((with_reducible refine gate_callee (f := 52) rfl ?_); refine goesL_ (some 5) rfl rfl Tryz.func52 (by kernel_rfl) rfl #[.agg #[.int .i64 a0_0, .int .i64 a0_1, .int .i64 a0_2, .int .i64 a0_3]] rfl (by (try simp only [List.map_toArray, List.map_cons, List.map_nil]); first | done | rfl | (simp only [List.length_drop, List.length_take]; rfl)) ?_; (with_reducible refine (lay_Size.calls a0_0 a0_1 a0_2 a0_3 t124 _ A2.o).mono ?_); (try clear A2); rintro e w5 ⟨rfl, hb⟩; refine ⟨_, rfl, ?_⟩; replace BK123 := qQ (blk_below (g := gb123) (o := .cells #[.int .i64 a0_0, .int .i64 a0_1, .int .i64 a0_2, .int .i64 a0_3] 23 (0, 0)) (zK BK123.o) hb); replace HB := qQ (below_step zB hb); (try clear hb); (try clear hb2); (try clear hk); (try clear hi)))
 go_loopg [3, 6] k (fun kq v3 v6 w' => ∃ (x3_1 : List Int) (x6_1 : Int), v6 = .int .i64 x6_1 ∧ Aside0 (lay_New.l0 kq x3_1 t124 x6_1 = some r) ∧ Aside0 (kq ≤ k) ∧ Aside0 (Kd.R (Kd.int .u64) 38 w' w.heap.size (fun _ => True) v3 x3_1) ∧ Aside0 (w'.heap[gb123]? = some (.cells #[.int .i64 a0_0, .int .i64 a0_1, .int .i64 a0_2, .int .i64 a0_3] 23 (0, 0))) ∧ Aside0 (Below w.heap.size w w'))
 case atStart => exact ⟨(([] : List Int)), (0), (by first | rfl | (simp; done) | (simp [*]; done)), H', ⟨Nat.le_refl _⟩, ⟨by first | exact Kd.R_nil _ _ _ _ _ | exact Kd.N_nil _ _ _ _ _ | exact Kd.V_nil _ _ _ _ _ | exact Kd.Q_nil _ _ _ _ _ | exact Kd.S_nil _ _ _ _ _⟩, ⟨by (with_reducible repeat (first | refine blk_drewN ?_ _ | refine blk_drew ?_ | refine blk_alloc ?_ _)); exact BK123.o⟩, ⟨zB⟩⟩
 case round =>
  clear H'
  try clear c2
  try clear p2
  try clear c5
  try clear hcz4_0
  try clear hcz4_1
  try clear hcz4_2
  try clear hcz4_3
  try clear hfz4_0
  try clear hfz4_1
  try clear hfz4_2
  try clear hfz4_3
  obtain ⟨x3_1, x6_1, rfl, HA, HK1, HO_3, BK123, HB⟩ := hrel
  cases gk with
  | zero => exact absurd HA.o (by simp [lay_New.l0])
  | succ k1 =>
   have H := HA.o
   clear HA
   simp only [lay_New.l0] at H
   by_cases c6 : x6_1 < t124
   ·rw [if_pos c6] at H
    have c6b0 : decide (x6_1 < t124) = true := decide_eq_true c6
    clear c6
    by_cases c7 : x3_1.length < 17592186044416
    ·rw [if_pos c7] at H
     have LMc7 := qQ c7
     clear c7
     obtain ⟨y125, hy125⟩ : ∃ y_ : List Int, y_ = (x3_1 ++ [0]) := ⟨_, rfl⟩
     replace H : (lay_New.l0 k1 y125 t124 (wrap64 (x6_1 + 1))) = some r := by first | (rw [hy125]; with_reducible exact H) | (have H2_ := (Option.bind_some _ _).symm.trans H; rw [hy125]; with_reducible exact H2_) | (have H2_ := (Option.bind_some _ _).symm.trans H; with_reducible exact H2_) | with_reducible exact H | (rw [hy125]; exact H) | exact H
     have Ny125 := qQ hy125
     clear hy125
     have H' := qQ H
     clear H
     go_wp2_with (first | ((with_reducible refine gate_builtin (b := .append) (xs := #[.tmp 8, .tmp 9]) rfl ?_); at_builtin; refine Kd.R_append (Kd.int .u64) (w0 := w) w.heap.size rfl (.tmp 8) (.tmp 9) 30 38 (.int .u64 0) 8 rfl Tryz.underlying30 info38 rfl (by decide) (by omega) u3 x3_1 0 [.int .u64 0] (fun _ => True) (fun _ => False) rfl rfl ?aP (fun _ hk => hk.elim) ?aF ?aO ?aB ?aS ?aL ?_; (case aP => exact rfl); (case aB => exact zB); (case aF => exact (fun _ _ => trivial)); (case aO => exact (by (with_reducible repeat (first | apply Kd.R_alloc | apply Kd.R_drewN | apply Kd.R_drew)); exact HO_3.o)); (case aS => exact (below_size zB)); (case aL => have := LMc7.o; omega); intro v126 w8 ho hb hg hat; rw [← Ny125.o] at ho; have n0_ := qQ (blk_grown (g := gb123) (o := .cells #[.int .i64 a0_0, .int .i64 a0_1, .int .i64 a0_2, .int .i64 a0_3] 23 (0, 0)) (zK BK123.o) hg (Kd.R_ne HO_3.o BK123.o (by decide))); have n1_ := qQ (hb); have n2_ := qQ (ho); clear BK123; clear HB; clear HO_3; have BK123 := n0_; have HB := n1_; have HO127 := n2_; clear n0_ n1_ n2_; clear ho hb hg hat))
     go_roundg k1
     case measure => have := HK1.o; omega
     case rel => exact ⟨(y125), (wrap64 (x6_1 + 1)), (by first | rfl | (simp; done) | (simp [*]; done)), H', ⟨by have := HK1.o; omega⟩, ⟨by (with_reducible repeat (first | apply Kd.R_alloc | apply Kd.R_drewN | apply Kd.R_drew)); exact HO127.o⟩, ⟨by (with_reducible repeat (first | refine blk_drewN ?_ _ | refine blk_drew ?_ | refine blk_alloc ?_ _)); exact BK123.o⟩, ⟨zB⟩⟩
    ·rw [if_neg c7] at H
     exact absurd H (by simp)
   ·rw [if_neg c6] at H
    have c6b0 : decide (x6_1 < t124) = false := decide_eq_false c6
    clear c6
    obtain rfl := Option.some.inj H
    go_wp2
    go_ret
    exact ⟨_, by first | rfl | (simp [errW_none, errW_some] <;> rfl) | (simp [*, errW_none, errW_some] <;> rfl), by (with_reducible repeat (first | apply Kd.R_alloc | apply Kd.R_drewN | apply Kd.R_drew)); exact HO_3.o, zB⟩
def nextF (ok : Bool) (t : List S45) (s : List S116) : Int × Int :=
 match s.getLast? with
 | none => (0, 0)
 | some x => if thinkB ok t s = true then (if x.f1 < (rd_T45 t x.f0).f0 then (1, x.f0) else if x.f2 < ((rd_T45 t x.f0).f1.length : Int) then (2, rd (rd_T45 t x.f0).f1 x.f2) else (3, x.f0)) else (0, 0)
theorem rd_last {s : List S116} (h : s ≠ []) : ∃ x, s.getLast? = some x ∧ x ∈ s ∧ rd_T116 s ((s.length : Int) - 1) = x := by
 refine ⟨s.getLast h, List.getLast?_eq_some_getLast h, List.getLast_mem h, ?_⟩
 have hp : 0 < s.length := List.length_pos_iff.2 h
 unfold rd_T116
 rw [show ((s.length : Int) - 1).toNat = s.length - 1 by omega, List.getLast_eq_getElem, List.getD_eq_getElem?_getD, List.getElem?_eq_getElem (by omega)]
 rfl
theorem thinkB_mem {ok : Bool} {t : List S45} {s : List S116} (h : thinkB ok t s = true) {x : S116} (hx : x ∈ s) : ok = true ∧ 0 ≤ x.f0 ∧ x.f0 < (t.length : Int) ∧ 0 ≤ x.f1 ∧ x.f1 ≤ (rd_T45 t x.f0).f0 ∧ 0 ≤ x.f2 ∧ x.f2 ≤ ((rd_T45 t x.f0).f1.length : Int) := by
 simp only [thinkB, Bool.and_eq_true, Bool.not_eq_true', List.any_eq_false] at h
 have h1 := h.2 x hx
 simp only [badI, inB, Bool.or_eq_true, Bool.and_eq_true, Bool.not_eq_true', Bool.and_eq_false_iff, decide_eq_true_eq, decide_eq_false_iff_not, not_or] at h1
 refine ⟨h.1, ?_⟩
 omega
theorem next_116 (A : Option Addr) (ct : Nat) (t : List S45) (As : Option Addr) (cs_ : Nat) (s : List S116) (ok : Bool) (w : World) (hC : Kd.C k45 w A t.length t) (hn : t.length ≤ 1000000) (hs : Kd.C k116 w As s.length s) (hsn : s.length ≤ 1000000)
  (hok : ∀ W, Below w.heap.size w W → Calls Tryz.prog 23 #[.slice A t.length ct] W fun e W' => e = .returned (.bool ok) ∧ Below W.heap.size W W') :
  Calls Tryz.prog 116 #[.slice A t.length ct, .slice As s.length cs_] w fun e w' => e = .returned (.agg #[.int .i64 (nextF ok t s).1, .int .i64 (nextF ok t s).2]) ∧ Below w.heap.size w w' := by
 have hu116 := Tryz.underlying116
 have hu45 := Tryz.underlying45
 have hu153 := Tryz.underlying153
 have HB0 := qQ ((Below.refl w.heap.size w).alloc (Nat.le_refl _) (.cells #[.int .i64 0, .int .i64 0] 153))
 have HH0 := qQ (blk_new w (.cells #[.int .i64 0, .int .i64 0] 153))
 have HC := qQ hC
 have HS := qQ hs
 have HT := qQ (fun W hW => think_106 A ct t As cs_ s ok W (Kd.C_below hC hW) hn (Kd.C_below hs hW) hsn (fun V hV => hok V (hW.trans (hV.mono hW.size))))
 clear hC hs hok
 by_cases he : s = []
 ·subst he
  have HB1 := HB0
  have HH1 := HH0
  have z0 := (blk_cell HH1.o 0).trans rfl
  have z1 := (blk_cell HH1.o 1).trans rfl
  have zz := fun i => blk_frozen HH1.o i
  go_enter Tryz.func116, Tryz.ntmps116
  go_wp2
  refine bodyPost_ret (results_cell_row rfl _ _ w.heap.size 153 #[.int .i64 0, .int .i64 0] (0, 0) _ rfl HH0.o Tryz.underlying153 rfl (by kernel_rfl)) rfl ?_
  exact ⟨by simp [nextF], HB0.o⟩
 ·obtain ⟨x, hl, hm, hr⟩ := rd_last he
  have HE := qQ he
  have HL := qQ hl
  have hpos : 0 < s.length := List.length_pos_iff.2 he
  have l0 : ((s.length : Int) == 0) = false := by simp; exact he
  clear he hl
  cases h0 : thinkB ok t s
  ·have H0 := qQ h0
   go_enter Tryz.func116, Tryz.ntmps116
   go_wp2_with (go_at_call 106; (with_reducible refine (HT.o _ HB0.o).mono ?_); rintro e w1 ⟨rfl, hb⟩; rw [h0]; clear h0; have HB1 := qQ (HB0.o.trans (hb.mono HB0.o.size)); have HH1 := qQ (blk_below HH0.o hb); clear hb; have z0 := (blk_cell HH1.o 0).trans rfl; have z1 := (blk_cell HH1.o 1).trans rfl; have zz := fun i => blk_frozen HH1.o i)
   have P1 := (Below.setCell HB1.o (p := ⟨w.heap.size, 0, none⟩) (Nat.le_refl _) (.int .i64 0))
   have P2 := (P1.setCell (p := ⟨w.heap.size, 1, none⟩) (Nat.le_refl _) (.int .i64 0))
   have PH : ((w1.setCell ⟨w.heap.size, 0, none⟩ (.int .i64 0)).setCell ⟨w.heap.size, 1, none⟩ (.int .i64 0)).heap[w.heap.size]? = some (.cells #[.int .i64 0, .int .i64 0] 153 (0, 0)) := by simpa using blk_set (blk_set HH1.o 0 (.int .i64 0)) 1 (.int .i64 0)
   go_wp2
   refine bodyPost_ret (results_cell_row rfl _ _ w.heap.size 153 #[.int .i64 0, .int .i64 0] (0, 0) _ rfl PH Tryz.underlying153 rfl (by kernel_rfl)) rfl ?_
   exact ⟨by simp [nextF, HL.o, H0.o], P2⟩
  ·obtain ⟨_, b0, b1, b2, b3, b4, b5⟩ := thinkB_mem h0 hm
   have H0 := qQ h0
   have q0 : (0 : Int) ≤ (s.length : Int) - 1 := by omega
   have q1 : (s.length : Int) - 1 < (s.length : Int) := by omega
   obtain ⟨ad, e0, s0, s1, s2⟩ := at_T116 (Kd.C_below HS.o HB0.o) ((s.length : Int) - 1) q0 q1
   obtain ⟨bd, A1, c1, e1, t0', t1', hl1, hc1⟩ := at_T45 HC.o x.f0 b0 b1
   have t0 := cell_below t0' HB0.o
   have t1 := cell_below t1' HB0.o
   clear t0' t1'
   cases e0
   cases e1
   rw [hr] at s0 s1 s2
   rw [show ((s.length : Int) - 1).toNat = s.length - 1 by omega] at s0 s1 s2
   generalize hown : rd_T45 t x.f0 = own at *
   have HD := qQ hown
   have HL1 := qQ hl1
   have HC1 := qQ hc1
   have hi1 : (s.length : Int) - 1 < (s.length : Int) := by omega
   clear hown hl1 hc1 hr hm
   replace q0 := eq_true q0
   replace q1 := eq_true q1
   replace b0 := eq_true b0
   replace b1 := eq_true b1
   have B2 := qQ b2
   have B3 := qQ b3
   have B4 := qQ b4
   have B5 := qQ b5
   clear b2 b3 b4 b5
   have b4 : (0 ≤ x.f2) = True := eq_true B4.o
   go_enter Tryz.func116, Tryz.ntmps116
   by_cases n1 : x.f1 < own.f0
   ·have N1 := qQ n1
    have n1' : decide (x.f1 < own.f0) = true := decide_eq_true n1
    clear n1
    go_wp2_with (go_at_call 106; (with_reducible refine (HT.o _ HB0.o).mono ?_); rintro e w1 ⟨rfl, hb⟩; rw [h0]; clear h0; have HB1 := qQ (HB0.o.trans (hb.mono HB0.o.size)); have HH1 := qQ (blk_below HH0.o hb); replace s0 := cell_below s0 hb; replace s1 := cell_below s1 hb; replace s2 := cell_below s2 hb; replace t0 := cell_below t0 hb; replace t1 := cell_below t1 hb; clear hb; have z0 := (blk_cell HH1.o 0).trans rfl; have z1 := (blk_cell HH1.o 1).trans rfl; have zz := fun i => blk_frozen HH1.o i; have HB3 := qQ ((HB1.o.alloc HB1.o.size (.cells #[.int .i64 x.f0, .int .i64 x.f1, .int .i64 x.f2] 116)).alloc (Nat.le_trans HB1.o.size (by simp)) (.cells #[.int .i64 own.f0, .slice A1 own.f1.length c1] 45)); have HH3 := qQ (blk_alloc (blk_alloc HH1.o (.cells #[.int .i64 x.f0, .int .i64 x.f1, .int .i64 x.f2] 116)) (.cells #[.int .i64 own.f0, .slice A1 own.f1.length c1] 45)); have t0 := Tryz.cell_alloc_l (.cells #[.int .i64 x.f0, .int .i64 x.f1, .int .i64 x.f2] 116) t0; have t1 := Tryz.cell_alloc_l (.cells #[.int .i64 x.f0, .int .i64 x.f1, .int .i64 x.f2] 116) t1; have x0 : (w1.alloc (.cells #[.int .i64 x.f0, .int .i64 x.f1, .int .i64 x.f2] 116)).cell? ⟨w1.heap.size, 0, none⟩ = some (.int .i64 x.f0) := (by simp); have x1 : (w1.alloc (.cells #[.int .i64 x.f0, .int .i64 x.f1, .int .i64 x.f2] 116)).cell? ⟨w1.heap.size, 1, none⟩ = some (.int .i64 x.f1) := (by simp); have x2 : (w1.alloc (.cells #[.int .i64 x.f0, .int .i64 x.f1, .int .i64 x.f2] 116)).cell? ⟨w1.heap.size, 2, none⟩ = some (.int .i64 x.f2) := (by simp); have x0' := Tryz.cell_alloc_l (.cells #[.int .i64 own.f0, .slice A1 own.f1.length c1] 45) x0; have x1' := Tryz.cell_alloc_l (.cells #[.int .i64 own.f0, .slice A1 own.f1.length c1] 45) x1; have x2' := Tryz.cell_alloc_l (.cells #[.int .i64 own.f0, .slice A1 own.f1.length c1] 45) x2; have y0 : ((w1.alloc (.cells #[.int .i64 x.f0, .int .i64 x.f1, .int .i64 x.f2] 116)).alloc (.cells #[.int .i64 own.f0, .slice A1 own.f1.length c1] 45)).cell? ⟨(w1.alloc (.cells #[.int .i64 x.f0, .int .i64 x.f1, .int .i64 x.f2] 116)).heap.size, 0, none⟩ = some (.int .i64 own.f0) := (by simp); have y1 : ((w1.alloc (.cells #[.int .i64 x.f0, .int .i64 x.f1, .int .i64 x.f2] 116)).alloc (.cells #[.int .i64 own.f0, .slice A1 own.f1.length c1] 45)).cell? ⟨(w1.alloc (.cells #[.int .i64 x.f0, .int .i64 x.f1, .int .i64 x.f2] 116)).heap.size, 1, none⟩ = some (.slice A1 own.f1.length c1) := (by simp); replace z0 := (blk_cell HH3.o 0).trans rfl; replace z1 := (blk_cell HH3.o 1).trans rfl; replace zz := fun i => blk_frozen HH3.o i)
    have P1 := (Below.setCell HB3.o (p := ⟨w.heap.size, 0, none⟩) (Nat.le_refl _) (.int .i64 1))
    have P2 := (P1.setCell (p := ⟨w.heap.size, 1, none⟩) (Nat.le_refl _) (.int .i64 x.f0))
    have PH : ((((w1.alloc (.cells #[.int .i64 x.f0, .int .i64 x.f1, .int .i64 x.f2] 116)).alloc (.cells #[.int .i64 own.f0, .slice A1 own.f1.length c1] 45)).setCell ⟨w.heap.size, 0, none⟩ (.int .i64 1)).setCell ⟨w.heap.size, 1, none⟩ (.int .i64 x.f0)).heap[w.heap.size]? = some (.cells #[.int .i64 1, .int .i64 x.f0] 153 (0, 0)) := by simpa using blk_set (blk_set HH3.o 0 (.int .i64 1)) 1 (.int .i64 x.f0)
    go_wp2
    refine bodyPost_ret (results_cell_row rfl _ _ w.heap.size 153 #[.int .i64 1, .int .i64 x.f0] (0, 0) _ rfl PH Tryz.underlying153 rfl (by kernel_rfl)) rfl ?_
    exact ⟨by simp [nextF, HL.o, H0.o, HD.o, N1.o], P2⟩
   ·have N1 := qQ n1
    have n1' : decide (x.f1 < own.f0) = false := decide_eq_false n1
    clear n1
    by_cases n2 : x.f2 < (own.f1.length : Int)
    ·have N2 := qQ n2
     obtain ⟨kd, e2, k0⟩ := Kd.at_int HC1.o x.f2 B4.o n2
     cases e2
     replace n2 := eq_true n2
     have l2 : (0 : Int) ≤ x.f2 := B4.o
     replace k0 := (show w.cell? (kd.add x.f2.toNat) = some (.int .i64 (rd own.f1 x.f2)) from k0)
     go_wp2_with (go_at_call 106; (with_reducible refine (HT.o _ HB0.o).mono ?_); rintro e w1 ⟨rfl, hb⟩; rw [h0]; clear h0; have HB1 := qQ (HB0.o.trans (hb.mono HB0.o.size)); have HH1 := qQ (blk_below HH0.o hb); replace k0 := cell_below (cell_below k0 HB0.o) hb; replace s0 := cell_below s0 hb; replace s1 := cell_below s1 hb; replace s2 := cell_below s2 hb; replace t0 := cell_below t0 hb; replace t1 := cell_below t1 hb; clear hb; have z0 := (blk_cell HH1.o 0).trans rfl; have z1 := (blk_cell HH1.o 1).trans rfl; have zz := fun i => blk_frozen HH1.o i; have HB3 := qQ ((HB1.o.alloc HB1.o.size (.cells #[.int .i64 x.f0, .int .i64 x.f1, .int .i64 x.f2] 116)).alloc (Nat.le_trans HB1.o.size (by simp)) (.cells #[.int .i64 own.f0, .slice (some kd) own.f1.length c1] 45)); have HH3 := qQ (blk_alloc (blk_alloc HH1.o (.cells #[.int .i64 x.f0, .int .i64 x.f1, .int .i64 x.f2] 116)) (.cells #[.int .i64 own.f0, .slice (some kd) own.f1.length c1] 45)); have t0 := Tryz.cell_alloc_l (.cells #[.int .i64 x.f0, .int .i64 x.f1, .int .i64 x.f2] 116) t0; have t1 := Tryz.cell_alloc_l (.cells #[.int .i64 x.f0, .int .i64 x.f1, .int .i64 x.f2] 116) t1; have x0 : (w1.alloc (.cells #[.int .i64 x.f0, .int .i64 x.f1, .int .i64 x.f2] 116)).cell? ⟨w1.heap.size, 0, none⟩ = some (.int .i64 x.f0) := (by simp); have x1 : (w1.alloc (.cells #[.int .i64 x.f0, .int .i64 x.f1, .int .i64 x.f2] 116)).cell? ⟨w1.heap.size, 1, none⟩ = some (.int .i64 x.f1) := (by simp); have x2 : (w1.alloc (.cells #[.int .i64 x.f0, .int .i64 x.f1, .int .i64 x.f2] 116)).cell? ⟨w1.heap.size, 2, none⟩ = some (.int .i64 x.f2) := (by simp); have x0' := Tryz.cell_alloc_l (.cells #[.int .i64 own.f0, .slice (some kd) own.f1.length c1] 45) x0; have x1' := Tryz.cell_alloc_l (.cells #[.int .i64 own.f0, .slice (some kd) own.f1.length c1] 45) x1; have x2' := Tryz.cell_alloc_l (.cells #[.int .i64 own.f0, .slice (some kd) own.f1.length c1] 45) x2; have y0 : ((w1.alloc (.cells #[.int .i64 x.f0, .int .i64 x.f1, .int .i64 x.f2] 116)).alloc (.cells #[.int .i64 own.f0, .slice (some kd) own.f1.length c1] 45)).cell? ⟨(w1.alloc (.cells #[.int .i64 x.f0, .int .i64 x.f1, .int .i64 x.f2] 116)).heap.size, 0, none⟩ = some (.int .i64 own.f0) := (by simp); have y1 : ((w1.alloc (.cells #[.int .i64 x.f0, .int .i64 x.f1, .int .i64 x.f2] 116)).alloc (.cells #[.int .i64 own.f0, .slice (some kd) own.f1.length c1] 45)).cell? ⟨(w1.alloc (.cells #[.int .i64 x.f0, .int .i64 x.f1, .int .i64 x.f2] 116)).heap.size, 1, none⟩ = some (.slice (some kd) own.f1.length c1) := (by simp); replace z0 := (blk_cell HH3.o 0).trans rfl; replace z1 := (blk_cell HH3.o 1).trans rfl; replace zz := fun i => blk_frozen HH3.o i; replace k0 := Tryz.cell_alloc_l (.cells #[.int .i64 own.f0, .slice (some kd) own.f1.length c1] 45) (Tryz.cell_alloc_l (.cells #[.int .i64 x.f0, .int .i64 x.f1, .int .i64 x.f2] 116) k0))
     have P1 := (Below.setCell HB3.o (p := ⟨w.heap.size, 0, none⟩) (Nat.le_refl _) (.int .i64 2))
     have P2 := (P1.setCell (p := ⟨w.heap.size, 1, none⟩) (Nat.le_refl _) (.int .i64 (rd own.f1 x.f2)))
     have PH : ((((w1.alloc (.cells #[.int .i64 x.f0, .int .i64 x.f1, .int .i64 x.f2] 116)).alloc (.cells #[.int .i64 own.f0, .slice (some kd) own.f1.length c1] 45)).setCell ⟨w.heap.size, 0, none⟩ (.int .i64 2)).setCell ⟨w.heap.size, 1, none⟩ (.int .i64 (rd own.f1 x.f2))).heap[w.heap.size]? = some (.cells #[.int .i64 2, .int .i64 (rd own.f1 x.f2)] 153 (0, 0)) := by simpa using blk_set (blk_set HH3.o 0 (.int .i64 2)) 1 (.int .i64 (rd own.f1 x.f2))
     go_wp2
     refine bodyPost_ret (results_cell_row rfl _ _ w.heap.size 153 #[.int .i64 2, .int .i64 (rd own.f1 x.f2)] (0, 0) _ rfl PH Tryz.underlying153 rfl (by kernel_rfl)) rfl ?_
     exact ⟨by simp [nextF, HL.o, H0.o, HD.o, show ¬ x.f1 < own.f0 from by have := N1.o; omega, N2.o], P2⟩
    ·have N2 := qQ n2
     have n2' : decide (x.f2 < (own.f1.length : Int)) = false := decide_eq_false n2
     clear n2
     go_wp2_with (go_at_call 106; (with_reducible refine (HT.o _ HB0.o).mono ?_); rintro e w1 ⟨rfl, hb⟩; rw [h0]; clear h0; have HB1 := qQ (HB0.o.trans (hb.mono HB0.o.size)); have HH1 := qQ (blk_below HH0.o hb); replace s0 := cell_below s0 hb; replace s1 := cell_below s1 hb; replace s2 := cell_below s2 hb; replace t0 := cell_below t0 hb; replace t1 := cell_below t1 hb; clear hb; have z0 := (blk_cell HH1.o 0).trans rfl; have z1 := (blk_cell HH1.o 1).trans rfl; have zz := fun i => blk_frozen HH1.o i; have HB3 := qQ ((HB1.o.alloc HB1.o.size (.cells #[.int .i64 x.f0, .int .i64 x.f1, .int .i64 x.f2] 116)).alloc (Nat.le_trans HB1.o.size (by simp)) (.cells #[.int .i64 own.f0, .slice A1 own.f1.length c1] 45)); have HH3 := qQ (blk_alloc (blk_alloc HH1.o (.cells #[.int .i64 x.f0, .int .i64 x.f1, .int .i64 x.f2] 116)) (.cells #[.int .i64 own.f0, .slice A1 own.f1.length c1] 45)); have t0 := Tryz.cell_alloc_l (.cells #[.int .i64 x.f0, .int .i64 x.f1, .int .i64 x.f2] 116) t0; have t1 := Tryz.cell_alloc_l (.cells #[.int .i64 x.f0, .int .i64 x.f1, .int .i64 x.f2] 116) t1; have x0 : (w1.alloc (.cells #[.int .i64 x.f0, .int .i64 x.f1, .int .i64 x.f2] 116)).cell? ⟨w1.heap.size, 0, none⟩ = some (.int .i64 x.f0) := (by simp); have x1 : (w1.alloc (.cells #[.int .i64 x.f0, .int .i64 x.f1, .int .i64 x.f2] 116)).cell? ⟨w1.heap.size, 1, none⟩ = some (.int .i64 x.f1) := (by simp); have x2 : (w1.alloc (.cells #[.int .i64 x.f0, .int .i64 x.f1, .int .i64 x.f2] 116)).cell? ⟨w1.heap.size, 2, none⟩ = some (.int .i64 x.f2) := (by simp); have x0' := Tryz.cell_alloc_l (.cells #[.int .i64 own.f0, .slice A1 own.f1.length c1] 45) x0; have x1' := Tryz.cell_alloc_l (.cells #[.int .i64 own.f0, .slice A1 own.f1.length c1] 45) x1; have x2' := Tryz.cell_alloc_l (.cells #[.int .i64 own.f0, .slice A1 own.f1.length c1] 45) x2; have y0 : ((w1.alloc (.cells #[.int .i64 x.f0, .int .i64 x.f1, .int .i64 x.f2] 116)).alloc (.cells #[.int .i64 own.f0, .slice A1 own.f1.length c1] 45)).cell? ⟨(w1.alloc (.cells #[.int .i64 x.f0, .int .i64 x.f1, .int .i64 x.f2] 116)).heap.size, 0, none⟩ = some (.int .i64 own.f0) := (by simp); have y1 : ((w1.alloc (.cells #[.int .i64 x.f0, .int .i64 x.f1, .int .i64 x.f2] 116)).alloc (.cells #[.int .i64 own.f0, .slice A1 own.f1.length c1] 45)).cell? ⟨(w1.alloc (.cells #[.int .i64 x.f0, .int .i64 x.f1, .int .i64 x.f2] 116)).heap.size, 1, none⟩ = some (.slice A1 own.f1.length c1) := (by simp); replace z0 := (blk_cell HH3.o 0).trans rfl; replace z1 := (blk_cell HH3.o 1).trans rfl; replace zz := fun i => blk_frozen HH3.o i)
     have P1 := (Below.setCell HB3.o (p := ⟨w.heap.size, 0, none⟩) (Nat.le_refl _) (.int .i64 3))
     have P2 := (P1.setCell (p := ⟨w.heap.size, 1, none⟩) (Nat.le_refl _) (.int .i64 x.f0))
     have PH : ((((w1.alloc (.cells #[.int .i64 x.f0, .int .i64 x.f1, .int .i64 x.f2] 116)).alloc (.cells #[.int .i64 own.f0, .slice A1 own.f1.length c1] 45)).setCell ⟨w.heap.size, 0, none⟩ (.int .i64 3)).setCell ⟨w.heap.size, 1, none⟩ (.int .i64 x.f0)).heap[w.heap.size]? = some (.cells #[.int .i64 3, .int .i64 x.f0] 153 (0, 0)) := by simpa using blk_set (blk_set HH3.o 0 (.int .i64 3)) 1 (.int .i64 x.f0)
     go_wp2
     refine bodyPost_ret (results_cell_row rfl _ _ w.heap.size 153 #[.int .i64 3, .int .i64 x.f0] (0, 0) _ rfl PH Tryz.underlying153 rfl (by kernel_rfl)) rfl ?_
     exact ⟨by simp [nextF, HL.o, H0.o, HD.o, show ¬ x.f1 < own.f0 from by have := N1.o; omega, show ¬ x.f2 < (own.f1.length : Int) from by have := N2.o; omega], P2⟩
end Go.Proofs.YthoeodjgfelkhaaGreat.QT
