/- Part 32 of the claim on TopWakes: the submitter's turn; pool.step; pool.Run. No condition. -/
import Derived.Test.YthoeodjgfelkhaaGreatm21
import Derived.Test.YthoeodjgfelkhaaGreatm30
set_option linter.unusedVariables false
set_option linter.unusedSimpArgs false
set_option maxRecDepth 100000
set_option maxHeartbeats 8000000
namespace Go.Proofs.YthoeodjgfelkhaaGreat.QT
open Go.RowKit Go.Proofs.YthoeodjgfelkhaaGreatW.PrintWords Go.Proofs.YthoeodjgfelkhaaGreatW.PrintLast Go.Proofs.YthoeodjgfelkhaaGreatW.PrintMore
attribute [local go_sem] max2_int min2_int max_two min_two
abbrev sbL (x : S68) (v : Value) : List Value := [.int .i64 x.f0, v, .int .i64 x.f2.f0, .int .i64 x.f2.f1, .int .i64 x.f2.f2, .int .u64 x.f2.f3, .int .u64 x.f2.f4, .int .u64 x.f2.f5, .int .i64 x.f2.f6]
abbrev s9 (W : World) (g k : Nat) (x' : S68) (v2 : Value) : World := (((((((((W.setCell ⟨g, k * 9, none⟩ (.int .i64 x'.f0)).setCell ⟨g, k * 9 + 1, none⟩ v2).setCell ⟨g, k * 9 + 2, none⟩ (.int .i64 x'.f2.f0)).setCell ⟨g, k * 9 + 3, none⟩ (.int .i64 x'.f2.f1)).setCell ⟨g, k * 9 + 4, none⟩ (.int .i64 x'.f2.f2)).setCell ⟨g, k * 9 + 5, none⟩ (.int .u64 x'.f2.f3)).setCell ⟨g, k * 9 + 6, none⟩ (.int .u64 x'.f2.f4)).setCell ⟨g, k * 9 + 7, none⟩ (.int .u64 x'.f2.f5)).setCell ⟨g, k * 9 + 8, none⟩ (.int .i64 x'.f2.f6))
theorem el68 {W : World} {base g n cp k : Nat} {ok : Nat → Prop} {ws : List S68} {x : S68} (h : k68v.R 68 W base ok (.slice (some ⟨g, 0, none⟩) n cp) ws) (hx : ws[k]? = some x) (hk : k < n) :
  ∃ A c, x.f1.length ≤ c ∧ (∀ W', Below W.heap.size W W' → Kd.C (Kd.int .i64) W' A x.f1.length x.f1) ∧ (∀ j u, (sbL x (.slice A x.f1.length c))[j]? = some u → W.cell? ⟨g, k * 9 + j, none⟩ = some u) ∧ ∀ j, W.frozen? ⟨g, k * 9 + j, none⟩ = false := by
 obtain ⟨c, hcl, hM, hcc, hf⟩ := Kd.R_elem h x (k : Int) (by omega) (by omega)
 simp only [Int.toNat_natCast] at hM hcc hf
 have hd : ws.getD k x = x := by rw [List.getD_eq_getElem?_getD, hx]; rfl
 rw [hd] at hM
 obtain ⟨v1, rfl, g1⟩ := k68v_openM hM
 obtain ⟨A, c, S, e, h1, h3, h2⟩ := g1
 injection e with e _
 subst e
 exact ⟨A, c, h1, fun W' hb => Kd.F_now (Kd.F_below h2 hb), hcc, hf⟩
theorem put9 {W : World} {base g n cp k b : Nat} {ws : List S68} {x x' : S68} (h : k68v.R 68 W base (fun _ => True) (.slice (some ⟨g, 0, none⟩) n cp) ws) (hx : ws[k]? = some x) (hk : k < n) {v2 : Value} (hr : kv3.M W b (fun _ => True) x'.f1 [v2]) (hb : base ≤ b) (hg : g < b) :
  k68v.R 68 (s9 W g k x' v2) base (fun _ => True) (.slice (some ⟨g, 0, none⟩) n cp) (ws.set k x') ∧ W.grownBy (s9 W g k x' v2) (some g) ∧ ∀ q, q ≠ g → (s9 W g k x' v2).heap[q]? = W.heap[q]? := by
 obtain ⟨c, hcl, hM, hcc, hf⟩ := Kd.R_elem h x (k : Int) (by omega) (by omega)
 have hd : ws.getD ((k : Int)).toNat x = x := by rw [Int.toNat_natCast, List.getD_eq_getElem?_getD, hx]; rfl
 rw [hd] at hM
 obtain ⟨v1, rfl, g1⟩ := k68v_openM hM
 have := Kd.R_seg (j := 0) (seg := sbL x' v2) h (k : Int) (by omega) (by omega) hcl hcc (by show 0 + 9 ≤ 9; omega) (x' := x') (okp := fun j => True ∧ j ≠ g)
  (k68v_mkM W base _ x' (kv3.M_mono (fun j h => ⟨trivial, by have := h.2.1; omega⟩) (kv3.M_lower hb (kv3.M_bound hr)))) (fun _ h => h)
 rw [Int.toNat_natCast] at this
 refine ⟨this.1, this.2, fun q hq => ?_⟩
 have f : ∀ (V : World) (i : Nat) (u : Value), (V.setCell ⟨g, i, none⟩ u).heap[q]? = V.heap[q]? := fun V i u => Below.heap_setCell V _ u q hq
 simp only [s9, f]
theorem kv3_V {W : World} {n : Nat} {l : List Int} {v : Value} (h : Kd.V (Kd.int .i64) 3 W 0 (TB n 3 W) v l) : kv3.M W n (fun _ => True) l [v] := by
 obtain ⟨A, c, rfl, hl, hf⟩ := h
 exact ⟨A, c, _, rfl, hl, fun k hk => ⟨trivial, hk.1.1, hk.2, 3, List.mem_singleton.2 rfl, hk.1.2⟩, Kd.F_bound hf⟩
theorem tb1 {W : World} {k : Nat} (h : ∃ q, q ∈ kv3.E ∧ ∃ cells, W.heap[k]? = some (.cells cells q (0, 0))) : ∃ cells, W.heap[k]? = some (.cells cells 3 (0, 0)) := by
 obtain ⟨q, hq, cells, hc⟩ := h
 have e : q = 3 := List.mem_singleton.1 hq
 subst e
 exact ⟨cells, hc⟩
section
variable {w : World} {b : Nat} {c : Cf} {vT vM vW vS : Value} {t : List S45} {m : List Int} {ws : List S76} {ss : List S68} {W W1 : World}
theorem PL.putS {g n cp k nb : Nat} {x x' : S68} (h : PL w b c vT vM vW (.slice (some ⟨g, 0, none⟩) n cp) t m ws ss W) (hx : ss[k]? = some x) (hk : k < n) {v2 : Value} (hr : kv3.M W nb (fun _ => True) x'.f1 [v2]) (hb : w.heap.size ≤ nb) (hg : g < nb) :
  PL w b c vT vM vW (.slice (some ⟨g, 0, none⟩) n cp) t m ws (ss.set k x') (s9 W g k x' v2) := by
 obtain ⟨p1, p2, p3⟩ := put9 h.hS hx hk hr hb hg
 obtain ⟨cells, hc⟩ := R_block h.hS
 have hbg : b ≠ g := fun e => by have h1 := h.hb; rw [e, hc] at h1; simp at h1
 exact ⟨below_grown h.bel p2 (R_ge h.hS) h.bel.size, (p3 b hbg).trans h.hb, h.hg, R_but h.hT hc (by rw [E45]; decide) p3, R_but h.hM hc (T1 (by decide)) p3, R_but h.hW hc (by rw [EE76]; decide) p3, p1⟩
end
def SStep (c : Cf) (t : List S45) (m : List Int) (k : Int) (x : S68) (b : Bool) (x' : S68) (m' : List Int) (ev : List S40) : Prop :=
 (∀ (At : Option Addr) (ct : Nat) (Am : Option Addr) (cm : Nat) (As : Option Addr) (cs_ : Nat) (W : World), Kd.C k45 W At t.length t → t.length ≤ ct → Kd.C (Kd.int .u64) W Am m.length m → m.length ≤ cm → Kd.C (Kd.int .i64) W As x.f1.length x.f1 → x.f1.length ≤ cs_ →
  Calls Tryz.prog 62 #[cfV c, .slice At t.length ct, .slice Am m.length cm, .agg #[.int .i64 x.f0, (.slice As x.f1.length cs_), .int .i64 x.f2.f0, .int .i64 x.f2.f1, .int .i64 x.f2.f2, .int .u64 x.f2.f3, .int .u64 x.f2.f4, .int .u64 x.f2.f5, .int .i64 x.f2.f6]] W (fun e w' => e = .returned (.bool b) ∧ Below W.heap.size W w') ∧
  (b = true → Calls Tryz.prog 63 #[cfV c, .slice At t.length ct, .slice Am m.length cm, .int .i64 k, .agg #[.int .i64 x.f0, (.slice As x.f1.length cs_), .int .i64 x.f2.f0, .int .i64 x.f2.f1, .int .i64 x.f2.f2, .int .u64 x.f2.f3, .int .u64 x.f2.f4, .int .u64 x.f2.f5, .int .i64 x.f2.f6]] W fun e w' => ∃ vm vs ve, e = .returned (.tuple #[vm, .agg #[.int .i64 x'.f0, vs, .int .i64 x'.f2.f0, .int .i64 x'.f2.f1, .int .i64 x'.f2.f2, .int .u64 x'.f2.f3, .int .u64 x'.f2.f4, .int .u64 x'.f2.f5, .int .i64 x'.f2.f6], ve]) ∧
   (Kd.int .u64).R 38 w' W.heap.size (fun _ => True) vm m' ∧ Kd.V (Kd.int .i64) 3 w' 0 (TB W.heap.size 3 w') vs x'.f1 ∧ k40.R 40 w' W.heap.size (fun _ => True) ve ev ∧ Below W.heap.size W w')) ∧
 (b = false → x' = x ∧ m' = m ∧ ev = [])
theorem sub_61 {w : World} {b x2 x3 o k : Nat} {kd d : Int} {c : Cf} {vT vM vW vS : Value} {t : List S45} {m m' : List Int} {ws : List S76} {ss : List S68} {x x' : S68} {may : Bool} {ev : List S40} {W : World} (h : PL w b c vT vM vW vS t m ws ss W) (h2 : W.heap[x2]? = some (.cells #[.pointer (some ⟨b, 0, none⟩)] 86 (0, 0)))
  (h3 : W.heap[x3]? = some (.cells #[.int .i64 kd, .int .i64 (k : Int), .int .u64 d] 83 (0, 0))) (ho : W.heap[o]? = some (.cells #[.slice none 0 0] 35 (0, 0))) (hwo : w.heap.size ≤ o) (hx : ss[k]? = some x) (hk : k < ss.length) (hs : SStep c t m k x may x' m' ev) :
  Calls Tryz.prog 61 #[.pointer (some ⟨x2, 0, none⟩), .pointer (some ⟨x3, 0, none⟩), .pointer (some ⟨o, 0, none⟩)] W fun e W' => (∃ v, e = .returned v) ∧ ∃ vM' ve, PL w b c vT vM' vW vS t m' ws (ss.set k x') W' ∧ W'.heap[o]? = some (.cells #[ve] 35 (0, 0)) ∧ k40.R 40 W' w.heap.size (fun _ => True) ve ev ∧ Keeps o W W' := by
 obtain ⟨At, ct, rfl⟩ := Kd.R_slice h.hT
 obtain ⟨Am, cm, rfl⟩ := Kd.R_slice h.hM
 obtain ⟨g, cw, rfl, hg⟩ := R_some h.hS (by omega)
 have HG := qQ (R_lt h.hS)
 obtain ⟨As, cs_, hlc, hvw, q0, q1⟩ := el68 h.hS hx hk
 have HLC := qQ hlc
 have HVW := qQ hvw
 have HQ := qQ q0
 have HP := qQ h
 have H2 := qQ h2
 have H3 := qQ h3
 have HO := qQ ho
 have HX := qQ hx
 have HST := qQ hs
 clear h h2 h3 ho hx hs q0 q1 hg hlc hvw
 have kk : ((k : Int) < (ss.length : Int)) = True := eq_true (by omega)
 have k0 : (0 ≤ (k : Int)) = True := eq_true (by omega)
 go_enter Tryz.func61, Tryz.ntmps61
 go_wp2
 refine zS 21 [] (fun W' => W'.heap[x2]? = some (.cells #[.pointer (some ⟨b, 0, none⟩)] 86 (0, 0)) ∧ W'.heap[x3]? = some (.cells #[.int .i64 kd, .int .i64 (k : Int), .int .u64 d] 83 (0, 0)) ∧ (∀ j u, (pC c (.slice At t.length ct) (.slice Am m.length cm) vW (.slice (some ⟨g, 0, none⟩) ss.length cw))[j]? = some u → W'.cell? ⟨b, j, none⟩ = some u) ∧ ∀ j u, (sbL x (.slice As x.f1.length cs_))[j]? = some u → W'.cell? ⟨g, k * 9 + j, none⟩ = some u) ⟨blk_drew H2.o, blk_drew H3.o, fun j u hj => (blk_cell HP.o.drew.hb j).trans hj, HQ.o⟩ fun hHeld => ?_
 refine zT 0 1 3 ?_ (hy := zy2)
 refine zY 1 3 4 ?_
 refine zY 2 7 5 ?_
 refine zT 3 15 6 ?_ (hy := zy2)
 refine zT 4 31 7 ?_ (hy := zy2)
 refine zY 5 63 8 ?_
 refine zY 6 127 9 ?_
 refine zT 7 255 10 ?_ (hy := zy2)
 refine zT 8 511 11 ?_ (hy := zy2)
 refine zY 9 1023 12 ?_
 refine zY 10 2047 13 ?_
 refine zT 11 4095 14 ?_ (hy := zy2)
 refine zT 12 8191 15 ?_ (hy := zy2)
 refine zY 13 16383 16 ?_
 refine zY 14 32767 17 ?_
 refine zT 15 65535 18 ?_ (hy := zy2)
 refine zY 16 131071 19 ?_
 refine zT 17 262143 20 ?_ (hy := zy2)
 refine zY 18 524287 21 ?_
 refine zT 19 1048575 22 ?_ (hy := zy2)
 refine zO 20 2097151 23 fun K hK => ?_
 go_simp
 have HCC := (HST.o.1 At ct Am cm As cs_ W.drew (Kd.R_reads' HP.o.drew.hT).2.2 (Kd.R_reads' HP.o.drew.hT).2.1 (Kd.R_reads' HP.o.drew.hM).2.2 (Kd.R_reads' HP.o.drew.hM).2.1 (HVW.o _ (below_drew (Below.refl _ _))) HLC.o).1
 with_reducible refine HCC.mono ?_
 clear HCC
 rintro e wa ⟨rfl, hd⟩
 have hd := below_then (below_drew (Below.refl W.heap.size W)) (Nat.le_refl _) hd
 have HPa := qQ (HP.o.below hd)
 have HKa := qQ ((Keeps.refl o W).below hd)
 have HOa := qQ (blk_below HO.o hd)
 have H2a := qQ (blk_below H2.o hd)
 have H3a := qQ (blk_below H3.o hd)
 have HVa := qQ (fun W' (hb : Below wa.heap.size wa W') => HVW.o W' (below_then hd hd.size hb))
 have HQa := qQ (fun j u (hj : (sbL x (.slice As x.f1.length cs_))[j]? = some u) => pw_cell_below hd (HQ.o j u hj))
 have HGa := qQ (Nat.lt_of_lt_of_le HG.o hd.size)
 clear hd
 refine hK.out _ _ ⟨H2a.o, H3a.o, fun j u hj => (blk_cell HPa.o.hb j).trans hj, HQa.o⟩ (fun hHeld => ?_)
 refine zD ?_
 cases may
 ·obtain ⟨e1, e2, e3⟩ := HST.o.2 rfl
  subst e1 e2 e3
  go_wp2
  first | go_end0 | refine bodyPost_ret (results_none rfl _ _ _) rfl ?_
  have hse : ss.set k x' = ss := List.ext_getElem? fun j => by
   rw [List.getElem?_set]; split
   ·rename_i e; subst e; exact HX.o.symm
   ·rfl
  rw [hse]
  exact ⟨⟨_, rfl⟩, _, _, HPa.o, HOa.o, Kd.R_nil _ _ _ _ _, HKa.o⟩
 ·go_wp2
  refine zS 40 [38, 39] (fun W' => W'.heap[x2]? = some (.cells #[.pointer (some ⟨b, 0, none⟩)] 86 (0, 0)) ∧ W'.heap[x3]? = some (.cells #[.int .i64 kd, .int .i64 (k : Int), .int .u64 d] 83 (0, 0)) ∧ (∀ j u, j ≠ 5 → (pC c (.slice At t.length ct) (.slice Am m.length cm) vW (.slice (some ⟨g, 0, none⟩) ss.length cw))[j]? = some u → W'.cell? ⟨b, j, none⟩ = some u) ∧ ∀ j u, (sbL x (.slice As x.f1.length cs_))[j]? = some u → W'.cell? ⟨g, k * 9 + j, none⟩ = some u) ⟨blk_drew H2a.o, blk_drew H3a.o, fun j u _ hj => (blk_cell HPa.o.drew.hb j).trans hj, HQa.o⟩ fun hHeld => ?_
  refine zT 0 1 25 ?_ (hy := zy1)
  refine zT 1 3 26 ?_ (hy := zy1)
  refine zY 2 7 27 ?_
  refine zY 3 15 28 ?_
  refine zT 4 31 29 ?_ (hy := zy1)
  refine zY 5 63 30 ?_
  refine zT 6 127 31 ?_ (hy := zy1)
  refine zT 7 255 32 ?_ (hy := zy1)
  refine zY 8 511 33 ?_
  refine zY 9 1023 34 ?_
  refine zT 10 2047 35 ?_ (hy := zy1)
  refine zT 11 4095 36 ?_ (hy := zy1)
  refine zY 12 8191 37 ?_
  refine zY 13 16383 38 ?_
  refine zT 14 32767 39 ?_ (hy := zy1)
  refine zT 15 65535 40 ?_ (hy := zy1)
  refine zY 16 131071 41 ?_
  refine zY 17 262143 42 ?_
  refine zY 19 786431 44 ?_
  refine zT 20 1835007 45 ?_ (hy := zy1)
  refine zT 21 3932159 46 ?_ (hy := zy1)
  refine zY 22 8126463 47 ?_
  refine zY 23 16515071 48 ?_
  refine zT 24 33292287 49 ?_ (hy := zy1)
  refine zY 25 66846719 50 ?_
  refine zT 26 133955583 51 ?_ (hy := zy1)
  refine zY 27 268173311 52 ?_
  refine zT 28 536608767 53 ?_ (hy := zy1)
  refine zO 18 536870911 43 fun K hK => ?_
  have s5 := (blk_cell HPa.o.drew.hb 5).trans rfl
  go_simp
  refine hK.out _ _ ⟨blk_drew H2a.o, blk_drew H3a.o, fun j u _ hj => (blk_cell HPa.o.drew.hb j).trans hj, HQa.o⟩ (fun hHeld => ?_)
  clear s5
  refine zO 29 1073741823 54 fun K hK => ?_
  go_simp
  have HCC := (HST.o.1 At ct Am cm As cs_ wa.drew (Kd.R_reads' HPa.o.drew.hT).2.2 (Kd.R_reads' HPa.o.drew.hT).2.1 (Kd.R_reads' HPa.o.drew.hM).2.2 (Kd.R_reads' HPa.o.drew.hM).2.1 (HVa.o _ (below_drew (Below.refl _ _))) HLC.o).2 rfl
  with_reducible refine HCC.mono ?_
  clear HCC
  rintro e w1 ⟨vm, vs, ve, rfl, hr1, hr2, hr3, hd⟩
  obtain ⟨A1, c1, eo⟩ := Kd.R_slice hr1
  subst eo
  obtain ⟨A2, c2, eo⟩ := Kd.R_slice hr3
  subst eo
  obtain ⟨A3, c3, eo⟩ := Kd.V_slice hr2
  subst eo
  have HP1 := qQ (HPa.o.drew.below hd)
  have HR1 := qQ hr1
  have HR2 := qQ (kv3_V hr2)
  have HR3 := qQ (Kd.R_lower hr3 HPa.o.drew.bel.size)
  have HZ1 := qQ HPa.o.drew.bel.size
  have HK1 := qQ ((HKa.o.below (below_drew (Below.refl _ _))).below hd)
  have HO1 := qQ (blk_below (blk_drew HOa.o) hd)
  have H21 := qQ (blk_below (blk_drew H2a.o) hd)
  have H31 := qQ (blk_below (blk_drew H3a.o) hd)
  have HQ1 := qQ (fun j u (hj : (sbL x (.slice As x.f1.length cs_))[j]? = some u) => pw_cell_below hd (show wa.drew.cell? ⟨g, k * 9 + j, none⟩ = some u from HQa.o j u hj))
  clear hr1 hr2 hr3 hd
  refine hK.out _ _ ⟨H21.o, H31.o, fun j u _ hj => (blk_cell HP1.o.hb j).trans hj, HQ1.o⟩ (fun hHeld => ?_)
  refine zY 30 2147483647 24 ?_
  refine zY 31 4294967295 55 ?_
  refine zY 32 8589934591 56 ?_
  refine zY 33 17179869183 57 ?_
  refine zY 34 34359738367 58 ?_
  refine zY 35 68719476735 59 ?_
  refine one_ (i := 36) (N := none) (zM 40 137438953471) rfl rfl (by kernel_rfl) (by decide) (fun K hK => ?_)
  have y0 := fun j => blk_cell HP1.o.hb j
  have y1 := fun j => blk_frozen HP1.o.hb j
  go_simp
  clear y0 y1
  have HP2 := qQ (HP1.o.putM HR1.o HZ1.o)
  have fb : ∀ {z t cs}, w1.heap[z]? = some (.cells cs t (0, 0)) → t ≠ 34 → z ≠ b := fun hz ht e => by have h1 := HP1.o.hb; rw [← e, hz] at h1; simp at h1; exact ht h1.2
  have HO2 := qQ (blk_far HO1.o (p := ⟨b, 5, none⟩) (fb HO1.o (by decide)) (.slice A1 m'.length c1))
  have H22 := qQ (blk_far H21.o (p := ⟨b, 5, none⟩) (fb H21.o (by decide)) (.slice A1 m'.length c1))
  have H32 := qQ (blk_far H31.o (p := ⟨b, 5, none⟩) (fb H31.o (by decide)) (.slice A1 m'.length c1))
  have hgb : g ≠ b := by
   obtain ⟨cells, hc⟩ := R_block HP1.o.hS
   exact fb hc (by decide)
  have HQ2 := qQ (fun j u (hj : (sbL x (.slice As x.f1.length cs_))[j]? = some u) => (show (w1.setCell ⟨b, 5, none⟩ (.slice A1 m'.length c1)).cell? ⟨g, k * 9 + j, none⟩ = w1.cell? ⟨g, k * 9 + j, none⟩ from by simp only [World.cell?, Below.heap_setCell w1 ⟨b, 5, none⟩ (.slice A1 m'.length c1) g hgb]).trans (HQ1.o j u hj))
  have HK2 := qQ (HK1.o.set (i := 5) (u := (.slice A1 m'.length c1)) HP1.o.hb (Or.inl rfl))
  have HR22 := qQ (kv3.M_move (fun q (hq : True ∧ TB wa.drew.heap.size 3 w1 q) => Below.heap_setCell w1 ⟨b, 5, none⟩ (.slice A1 m'.length c1) q (fb hq.2.2.choose_spec (by decide))) (kv3.M_mono (fun q hq => ⟨trivial, hq.2.1, tb1 hq.2.2.2⟩) (kv3.M_bound HR2.o)))
  have HR32 := qQ (Kd.R_set HR3.o HP1.o.hb (T1 (by decide)) 5 (.slice A1 m'.length c1))
  refine hK.out _ _ ⟨H22.o, H32.o, fun j u h5 hj => (blk_cell (blk_set HP1.o.hb 5 (.slice A1 m'.length c1)) j).trans ((Array.getElem?_setIfInBounds_ne (Ne.symm h5)).trans hj), HQ2.o⟩ (fun hHeld => ?_)
  refine zY 37 274877906943 60 ?_
  refine zL 38 549755813887 fun K hK => ?_
  obtain ⟨A9, c9, _, _, q0, q1⟩ := el68 HP2.o.hS HX.o hk
  have r0 := q0 0 _ rfl
  have r1 := q0 1 _ rfl
  have r2 := q0 2 _ rfl
  have r3 := q0 3 _ rfl
  have r4 := q0 4 _ rfl
  have r5 := q0 5 _ rfl
  have r6 := q0 6 _ rfl
  have r7 := q0 7 _ rfl
  have r8 := q0 8 _ rfl
  simp only [Nat.add_zero] at r0
  have q10 := q1 0
  simp only [Nat.add_zero] at q10
  go_simp
  refine hK.out _ _ ?_
  clear r0 r1 r2 r3 r4 r5 r6 r7 r8 q0 q1 q10
  have HR23 := qQ (kv3.M_mono (fun _ _ => trivial) HR22.o)
  obtain ⟨_, p2, p3⟩ := put9 HP2.o.hS HX.o hk HR23.o HZ1.o (Nat.lt_of_lt_of_le HGa.o (Nat.le_refl _))
  obtain ⟨cells, hc⟩ := R_block HP2.o.hS
  have hog : o ≠ g := fun e => by have h1 := HO2.o; rw [e, hc] at h1; simp at h1
  have HP3 := qQ (HP2.o.putS HX.o hk HR23.o HZ1.o HGa.o)
  have HO3 := qQ ((p3 o hog).trans HO2.o)
  have HK3 := qQ (HK2.o.but hc (Or.inr (Or.inr rfl)) p2.size p3)
  have HR33 := qQ (R_but HR32.o hc (T1 (by decide)) p3)
  unfold s9 at HP3 HO3 HK3 HR33
  generalize ((((((((((w1.setCell ⟨b, 5, none⟩ (.slice A1 m'.length c1)).setCell ⟨g, k * 9, none⟩ (.int .i64 x'.f0)).setCell ⟨g, k * 9 + 1, none⟩ (.slice A3 x'.f1.length c3)).setCell ⟨g, k * 9 + 2, none⟩ (.int .i64 x'.f2.f0)).setCell ⟨g, k * 9 + 3, none⟩ (.int .i64 x'.f2.f1)).setCell ⟨g, k * 9 + 4, none⟩ (.int .i64 x'.f2.f2)).setCell ⟨g, k * 9 + 5, none⟩ (.int .u64 x'.f2.f3)).setCell ⟨g, k * 9 + 6, none⟩ (.int .u64 x'.f2.f4)).setCell ⟨g, k * 9 + 7, none⟩ (.int .u64 x'.f2.f5)).setCell ⟨g, k * 9 + 8, none⟩ (.int .i64 x'.f2.f6)) = w3 at HP3 HO3 HK3 HR33 ⊢
  clear p2 p3 hc hog
  refine zL 39 1099511627775 fun K hK => ?_
  have y0 := fun j => blk_cell HO3.o j
  have y1 := fun j => blk_frozen HO3.o j
  go_simp
  refine hK.out _ _ ?_
  clear y0 y1
  refine zD ?_
  go_wp2
  first | go_end0 | refine bodyPost_ret (results_none rfl _ _ _) rfl ?_
  exact ⟨⟨_, rfl⟩, _, _, HP3.o.far HO3.o hwo (.slice A2 ev.length c2), (by simpa using blk_set HO3.o 0 (.slice A2 ev.length c2)), Kd.R_set HR33.o HO3.o (T1 (by decide)) 0 (.slice A2 ev.length c2), HK3.o.own 0 (.slice A2 ev.length c2)⟩
def KeepP (W W' : World) : Prop := W.heap.size ≤ W'.heap.size ∧ ∀ (k : Nat) (cells : Array Value) (q : Nat), W.heap[k]? = some (.cells cells q (0, 0)) → q ≠ 34 → q ≠ 76 → q ≠ 68 → W'.heap[k]? = W.heap[k]?
def PStep (c : Cf) (t : List S45) (m : List Int) (ws : List S76) (ss : List S68) (kd who d : Int) (m' : List Int) (ws' : List S76) (ss' : List S68) (ev : List S40) : Prop :=
 (kd = 0 ∧ ∃ (k : Nat) (x x' : S76), who = (k : Int) ∧ ws[k]? = some x ∧ WStep c t m k d x x' m' ev ∧ ws' = ws.set k x' ∧ ss' = ss) ∨
 (kd = 1 ∧ ∃ (k : Nat) (x : S68) (may : Bool) (x' : S68), who = (k : Int) ∧ ss[k]? = some x ∧ SStep c t m k x may x' m' ev ∧ ws' = ws ∧ ss' = ss.set k x') ∨
 (kd = 2 ∧ m' = storeF m 3 1 ∧ ws' = ws ∧ ss' = ss ∧ ev = []) ∨
 (¬ kd = 0 ∧ ¬ kd = 1 ∧ ¬ kd = 2 ∧ m' = m ∧ ws' = ws ∧ ss' = ss ∧ ev = [])
abbrev fnC (n : Int) (q k : Nat) (cs : Array Value) : MapEntry := { key := .int .i64 n, val := .func (.func q) #[] cs, born := k }
abbrev stepM (a b o : Nat) : Obj := .map #[fnC 0 59 0 #[.pointer (some ⟨a, 0, none⟩), .pointer (some ⟨b, 0, none⟩), .pointer (some ⟨o, 0, none⟩)], fnC 1 61 1 #[.pointer (some ⟨a, 0, none⟩), .pointer (some ⟨b, 0, none⟩), .pointer (some ⟨o, 0, none⟩)], fnC 2 64 2 #[.pointer (some ⟨a, 0, none⟩)]] 3
theorem keepP {W W1 W2 : World} {o : Nat} (hb : Below W.heap.size W W1) (ho : W.heap.size ≤ o) (hk : Keeps o W1 W2) : KeepP W W2 :=
 ⟨Nat.le_trans hb.size hk.1, fun k cs q h h1 h2 h3 => by
  have hlt := blk_lt h
  have h4 := hb.block k hlt
  exact (hk.2 k cs q (h4.trans h) (by omega) h1 h2 h3).trans h4⟩
theorem results_box1 {P : Program} {fn : Func} {p : Tmp} {ty : TypeId} (h : fn.results = #[.cell p ty]) (tmps : Array Value) (w : World) (g t : Nat) (v : Value) (fr : Nat × Nat) (d : TypeDesc)
  (hp : tmps.getD p undef = .pointer (some ⟨g, 0, none⟩)) (hg : w.heap[g]? = some (.cells #[v] t fr))
  (hu : P.underlying ty = some d) (hd : (match d with | .struct _ | .array _ _ => true | _ => false) = false) : (results fn tmps).run P w = .ok v w := by
 have hp' : tmps[p]?.getD undef = .pointer (some ⟨g, 0, none⟩) := by simpa using hp
 have hagg : (isAgg ty).run P w = .ok false w := by
  unfold isAgg
  rw [Sem.run_bind, run_underlying hu w]
  cases d <;> simp_all
 have hc : w.cell? ⟨g, 0, none⟩ = some v := by simp [World.cell?, hg]
 simp [results, h, hp', asAddr, loadVar, hagg, hc, go_sem]
theorem keepC {W W1 W2 : World} {o i q : Nat} {u : Value} (hb : Below W.heap.size W W1) (ho : W.heap.size ≤ o) (hq : W.heap.size ≤ q) (hk : Keeps o W1 W2) : KeepP W (W2.setCell ⟨q, i, none⟩ u) :=
 have h := keepP hb ho hk
 ⟨by simpa using h.1, fun k cs t h0 h1 h2 h3 => (Below.heap_setCell W2 ⟨q, i, none⟩ u k (by have := blk_lt h0; show k ≠ q; omega)).trans (h.2 k cs t h0 h1 h2 h3)⟩
theorem step_33 {w : World} {b : Nat} {kd who d : Int} {c : Cf} {vT vM vW vS : Value} {t : List S45} {m m' : List Int} {ws ws' : List S76} {ss ss' : List S68} {ev : List S40} {W : World} (h : PL w b c vT vM vW vS t m ws ss W) (hn : m.length ≤ 1000000) (hs : PStep c t m ws ss kd who d m' ws' ss' ev) :
  Calls Tryz.prog 33 #[.pointer (some ⟨b, 0, none⟩), .agg #[.int .i64 kd, .int .i64 who, .int .u64 d]] W fun e W' => ∃ ve vM', e = .returned ve ∧ PL w b c vT vM' vW vS t m' ws' ss' W' ∧ k40.R 40 W' w.heap.size (fun _ => True) ve ev ∧ KeepP W W' := by
 have hsz : (((W.alloc (.cells #[.pointer (some ⟨b, 0, none⟩)] 86)).alloc (.cells #[.int .i64 kd, .int .i64 who, .int .u64 d] 83)).alloc (.cells #[.slice none 0 0] 35)).heap.size = W.heap.size + 1 + 1 + 1 := by simp
 have e59 := fun args W => enters_of Tryz.func59 (by kernel_rfl) rfl args W
 have e61 := fun args W => enters_of Tryz.func61 (by kernel_rfl) rfl args W
 have e64 := fun args W => enters_of Tryz.func64 (by kernel_rfl) rfl args W
 have hmm := @run_makeMap Tryz.prog
 have i1 := @run_ins_new Tryz.prog 124 _ _ #[] 0 Tryz.underlying124 Tryz.underlying3 0 (.func (.func 59) #[] #[.pointer (some ⟨W.heap.size, 0, none⟩), .pointer (some ⟨(W.heap.size + 1), 0, none⟩), .pointer (some ⟨(W.heap.size + 1 + 1), 0, none⟩)]) rfl (((W.alloc (.cells #[.pointer (some ⟨b, 0, none⟩)] 86)).alloc (.cells #[.int .i64 kd, .int .i64 who, .int .u64 d] 83)).alloc (.cells #[.slice none 0 0] 35))
 have i2 := @run_ins_new Tryz.prog 124 _ _ #[fnC 0 59 0 #[.pointer (some ⟨W.heap.size, 0, none⟩), .pointer (some ⟨(W.heap.size + 1), 0, none⟩), .pointer (some ⟨(W.heap.size + 1 + 1), 0, none⟩)]] 1 Tryz.underlying124 Tryz.underlying3 1 (.func (.func 61) #[] #[.pointer (some ⟨W.heap.size, 0, none⟩), .pointer (some ⟨(W.heap.size + 1), 0, none⟩), .pointer (some ⟨(W.heap.size + 1 + 1), 0, none⟩)]) rfl (((W.alloc (.cells #[.pointer (some ⟨b, 0, none⟩)] 86)).alloc (.cells #[.int .i64 kd, .int .i64 who, .int .u64 d] 83)).alloc (.cells #[.slice none 0 0] 35))
 have i3 := @run_ins_new Tryz.prog 124 _ _ #[fnC 0 59 0 #[.pointer (some ⟨W.heap.size, 0, none⟩), .pointer (some ⟨(W.heap.size + 1), 0, none⟩), .pointer (some ⟨(W.heap.size + 1 + 1), 0, none⟩)], fnC 1 61 1 #[.pointer (some ⟨W.heap.size, 0, none⟩), .pointer (some ⟨(W.heap.size + 1), 0, none⟩), .pointer (some ⟨(W.heap.size + 1 + 1), 0, none⟩)]] 2 Tryz.underlying124 Tryz.underlying3 2 (.func (.func 64) #[] #[.pointer (some ⟨W.heap.size, 0, none⟩)]) rfl (((W.alloc (.cells #[.pointer (some ⟨b, 0, none⟩)] 86)).alloc (.cells #[.int .i64 kd, .int .i64 who, .int .u64 d] 83)).alloc (.cells #[.slice none 0 0] 35))
 rw [hsz] at i1 i2 i3
 simp only [List.push_toArray, List.nil_append, List.cons_append, Nat.reduceAdd] at i1 i2 i3
 have hM : ((((W.alloc (.cells #[.pointer (some ⟨b, 0, none⟩)] 86)).alloc (.cells #[.int .i64 kd, .int .i64 who, .int .u64 d] 83)).alloc (.cells #[.slice none 0 0] 35)).alloc (stepM W.heap.size (W.heap.size + 1) (W.heap.size + 1 + 1))).heap[(W.heap.size + 1 + 1 + 1)]? = some (stepM W.heap.size (W.heap.size + 1) (W.heap.size + 1 + 1)) := by rw [← hsz]; exact blk_any _ _
 have HB : Below W.heap.size W ((((W.alloc (.cells #[.pointer (some ⟨b, 0, none⟩)] 86)).alloc (.cells #[.int .i64 kd, .int .i64 who, .int .u64 d] 83)).alloc (.cells #[.slice none 0 0] 35)).alloc (stepM W.heap.size (W.heap.size + 1) (W.heap.size + 1 + 1))) := below_alloc (below_alloc (below_alloc (below_alloc (Below.refl _ _) _) _) _) _
 have b0 : ((((W.alloc (.cells #[.pointer (some ⟨b, 0, none⟩)] 86)).alloc (.cells #[.int .i64 kd, .int .i64 who, .int .u64 d] 83)).alloc (.cells #[.slice none 0 0] 35)).alloc (stepM W.heap.size (W.heap.size + 1) (W.heap.size + 1 + 1))).heap[W.heap.size]? = some (.cells #[.pointer (some ⟨b, 0, none⟩)] 86 (0, 0)) := blk_alloc (blk_alloc (blk_alloc (blk_new W _) _) _) _
 have b1 : ((((W.alloc (.cells #[.pointer (some ⟨b, 0, none⟩)] 86)).alloc (.cells #[.int .i64 kd, .int .i64 who, .int .u64 d] 83)).alloc (.cells #[.slice none 0 0] 35)).alloc (stepM W.heap.size (W.heap.size + 1) (W.heap.size + 1 + 1))).heap[(W.heap.size + 1)]? = some (.cells #[.int .i64 kd, .int .i64 who, .int .u64 d] 83 (0, 0)) := blk_alloc (blk_alloc (by have := blk_new (W.alloc (.cells #[.pointer (some ⟨b, 0, none⟩)] 86)) (.cells #[.int .i64 kd, .int .i64 who, .int .u64 d] 83); simpa using this) _) _
 have b2 : ((((W.alloc (.cells #[.pointer (some ⟨b, 0, none⟩)] 86)).alloc (.cells #[.int .i64 kd, .int .i64 who, .int .u64 d] 83)).alloc (.cells #[.slice none 0 0] 35)).alloc (stepM W.heap.size (W.heap.size + 1) (W.heap.size + 1 + 1))).heap[(W.heap.size + 1 + 1)]? = some (.cells #[.slice none 0 0] 35 (0, 0)) := blk_alloc (by have := blk_new ((W.alloc (.cells #[.pointer (some ⟨b, 0, none⟩)] 86)).alloc (.cells #[.int .i64 kd, .int .i64 who, .int .u64 d] 83)) (.cells #[.slice none 0 0] 35); simpa using this) _
 have HBB := qQ HB
 have H0 := qQ b0
 have H1 := qQ b1
 have H2 := qQ b2
 have HM := qQ hM
 have HP := qQ (h.below HB)
 have HW := qQ h.bel.size
 have HN := qQ hn
 clear HB b0 b1 b2 hM h hn hsz
 rcases hs with ⟨rfl, k, x, x', rfl, hx, hst, rfl, rfl⟩ | ⟨rfl, k, x, may, x', rfl, hx, hst, rfl, rfl⟩ | ⟨rfl, rfl, rfl, rfl, rfl⟩ | ⟨n0, n1, n2, rfl, rfl, rfl, rfl⟩
 ·have hlk := @run_look_some Tryz.prog 124 _ _ _ 3 Tryz.underlying124 Tryz.underlying3 _ 0 _ _ _ HM.o rfl true
  clear HM
  go_enter Tryz.func33, Tryz.ntmps33
  go_wp2_with fail
  (with_reducible refine (work_59 HP.o H0.o H1.o H2.o (by have := HW.o; omega) hx (List.getElem?_eq_some_iff.1 hx).1 hst).mono ?_)
  rintro e w4 ⟨⟨v, rfl⟩, vM', ve, hp, ho, hr, hk⟩
  have HP4 := qQ hp
  have HO4 := qQ ho
  have HR4 := qQ hr
  have HK4 := qQ hk
  clear hp ho hr hk hst hx
  obtain ⟨A9, c9, eo⟩ := Kd.R_slice HR4.o
  subst eo
  have y0 := (blk_cell HO4.o 0).trans rfl
  have y1 := fun j => blk_frozen HO4.o j
  go_wp2
  clear y0 y1
  have HO5 := qQ (show (w4.setCell ⟨(W.heap.size + 1 + 1), 0, none⟩ (.slice A9 ev.length c9)).heap[(W.heap.size + 1 + 1)]? = some (.cells #[(.slice A9 ev.length c9)] 35 (0, 0)) from by simpa using blk_set HO4.o 0 (.slice A9 ev.length c9))
  refine bodyPost_ret (results_box1 rfl _ _ ((W.heap.size + 1 + 1)) 35 (.slice A9 ev.length c9) (0, 0) _ rfl HO5.o Tryz.underlying35 rfl) rfl ?_
  exact ⟨_, _, rfl, HP4.o.far HO4.o (by have := HW.o; omega) (.slice A9 ev.length c9), Kd.R_set HR4.o HO4.o (T1 (by decide)) 0 (.slice A9 ev.length c9), keepP HBB.o (by omega) (HK4.o.own 0 (.slice A9 ev.length c9))⟩
 ·have hlk := @run_look_some Tryz.prog 124 _ _ _ 3 Tryz.underlying124 Tryz.underlying3 _ 1 _ _ _ HM.o rfl true
  clear HM
  go_enter Tryz.func33, Tryz.ntmps33
  go_wp2_with fail
  (with_reducible refine (sub_61 HP.o H0.o H1.o H2.o (by have := HW.o; omega) hx (List.getElem?_eq_some_iff.1 hx).1 hst).mono ?_)
  rintro e w4 ⟨⟨v, rfl⟩, vM', ve, hp, ho, hr, hk⟩
  have HP4 := qQ hp
  have HO4 := qQ ho
  have HR4 := qQ hr
  have HK4 := qQ hk
  clear hp ho hr hk hst hx
  obtain ⟨A9, c9, eo⟩ := Kd.R_slice HR4.o
  subst eo
  have y0 := (blk_cell HO4.o 0).trans rfl
  have y1 := fun j => blk_frozen HO4.o j
  go_wp2
  clear y0 y1
  have HO5 := qQ (show (w4.setCell ⟨(W.heap.size + 1 + 1), 0, none⟩ (.slice A9 ev.length c9)).heap[(W.heap.size + 1 + 1)]? = some (.cells #[(.slice A9 ev.length c9)] 35 (0, 0)) from by simpa using blk_set HO4.o 0 (.slice A9 ev.length c9))
  refine bodyPost_ret (results_box1 rfl _ _ ((W.heap.size + 1 + 1)) 35 (.slice A9 ev.length c9) (0, 0) _ rfl HO5.o Tryz.underlying35 rfl) rfl ?_
  exact ⟨_, _, rfl, HP4.o.far HO4.o (by have := HW.o; omega) (.slice A9 ev.length c9), Kd.R_set HR4.o HO4.o (T1 (by decide)) 0 (.slice A9 ev.length c9), keepP HBB.o (by omega) (HK4.o.own 0 (.slice A9 ev.length c9))⟩
 ·have hlk := @run_look_some Tryz.prog 124 _ _ _ 3 Tryz.underlying124 Tryz.underlying3 _ 2 _ _ _ HM.o rfl true
  clear HM
  go_enter Tryz.func33, Tryz.ntmps33
  go_wp2_with fail
  (with_reducible refine (close_64 (o := W.heap.size) HP.o H0.o HN.o).mono ?_)
  rintro e w4 ⟨⟨v, rfl⟩, vM', hp, hk⟩
  have HP4 := qQ hp
  have HO4 := qQ ((hk.2 _ _ _ H2.o (by omega) (by decide) (by decide) (by decide)).trans H2.o)
  have HK4 := qQ (show Keeps (W.heap.size) _ _ from hk)
  clear hp hk
  have y0 := (blk_cell HO4.o 0).trans rfl
  have y1 := fun j => blk_frozen HO4.o j
  go_wp2
  clear y0 y1
  have HO5 := qQ (show (w4.setCell ⟨(W.heap.size + 1 + 1), 0, none⟩ (.slice none 0 0)).heap[(W.heap.size + 1 + 1)]? = some (.cells #[(.slice none 0 0)] 35 (0, 0)) from by simpa using blk_set HO4.o 0 (.slice none 0 0))
  refine bodyPost_ret (results_box1 rfl _ _ ((W.heap.size + 1 + 1)) 35 (.slice none 0 0) (0, 0) _ rfl HO5.o Tryz.underlying35 rfl) rfl ?_
  exact ⟨_, _, rfl, HP4.o.far HO4.o (by have := HW.o; omega) (.slice none 0 0), Kd.R_nil _ _ _ _ _, keepC HBB.o (Nat.le_refl _) (by omega) HK4.o⟩
 ·have hf : Instr.findNow (.int .i64) (.int .i64 kd) #[fnC 0 59 0 #[.pointer (some ⟨W.heap.size, 0, none⟩), .pointer (some ⟨(W.heap.size + 1), 0, none⟩), .pointer (some ⟨(W.heap.size + 1 + 1), 0, none⟩)], fnC 1 61 1 #[.pointer (some ⟨W.heap.size, 0, none⟩), .pointer (some ⟨(W.heap.size + 1), 0, none⟩), .pointer (some ⟨(W.heap.size + 1 + 1), 0, none⟩)], fnC 2 64 2 #[.pointer (some ⟨W.heap.size, 0, none⟩)]].toList 0 = some none := by
   simp [Instr.findNow, Instr.sameNow, show (kd == 0) = false by simpa using n0, show (kd == 1) = false by simpa using n1, show (kd == 2) = false by simpa using n2]
  have hz : ∀ W : World, (zeroValue 1).run Tryz.prog W = .ok .nilFunc W := fun W => by rfl
  have hlk := @run_look_none Tryz.prog 124 _ _ _ 3 Tryz.underlying124 Tryz.underlying3 _ kd _ _ HM.o hf (hz _) true
  clear HM hf hz
  have y0 := (blk_cell H2.o 0).trans rfl
  have y1 := fun j => blk_frozen H2.o j
  go_enter Tryz.func33, Tryz.ntmps33
  go_wp2
  clear y0 y1
  refine bodyPost_ret (results_box1 rfl _ _ ((W.heap.size + 1 + 1)) 35 (.slice none 0 0) (0, 0) _ rfl H2.o Tryz.underlying35 rfl) rfl ?_
  first | exact ⟨_, rfl, ⟨_, HP.o⟩, Kd.R_nil _ _ _ _ _, keepP HBB.o (Nat.le_refl _) (Keeps.refl W.heap.size _)⟩ | exact ⟨_, _, rfl, HP.o, Kd.R_nil _ _ _ _ _, keepP HBB.o (Nat.le_refl _) (Keeps.refl W.heap.size _)⟩
structure S83 where
 f0 : Int
 f1 : Int
 f2 : Int
 deriving DecidableEq, Repr
def z83 : S83 := ⟨0, 0, 0⟩
def k83 : Kd S83 := Kd.iso (Kd.pair (Kd.int .i64) (Kd.pair (Kd.int .i64) (Kd.int .u64))) (fun x : S83 => (x.f0, x.f1, x.f2))
theorem k83_mkM (w : World) (base : Nat) (ok : Nat → Prop) (x : S83) : k83.M w base ok x [.int .i64 x.f0, .int .i64 x.f1, .int .u64 x.f2] := ⟨[.int .i64 x.f0], [.int .i64 x.f1, .int .u64 x.f2], rfl, rfl, ⟨[.int .i64 x.f1], [.int .u64 x.f2], rfl, rfl, rfl⟩⟩
theorem k83_open {w : World} {x : S83} {cs : List Value} (h : k83.K w x cs) : cs = [.int .i64 x.f0, .int .i64 x.f1, .int .u64 x.f2] := by
 obtain ⟨_, _, rfl, rfl, ⟨_, _, rfl, rfl, rfl⟩⟩ := h
 rfl
theorem at_T83 {w : World} {A : Option Addr} {n : Nat} {xs : List S83} (h : Kd.C k83 w A n xs) (i : Nat) {x : S83} (hx : xs[i]? = some x) (h1 : i < n) : ∃ ad, A = some ad ∧ w.cell? (ad.add (i * 3)) = some (.int .i64 x.f0) ∧ w.cell? ⟨(ad.add (i * 3)).block, (ad.add (i * 3)).off + 1, none⟩ = some (.int .i64 x.f1) ∧ w.cell? ⟨(ad.add (i * 3)).block, (ad.add (i * 3)).off + 2, none⟩ = some (.int .u64 x.f2) := by
 obtain ⟨ad, cs, e, _, hK, hc0⟩ := Kd.C_get h z83 (i : Int) (by omega) (by omega)
 simp only [Int.toNat_natCast] at hK hc0
 rw [show xs.getD i z83 = x by simp [List.getD, hx]] at hK
 have hc : ∀ j u, cs[j]? = some u → w.cell? (ad.add (i * 3 + j)) = some u := hc0
 obtain rfl := k83_open hK
 exact ⟨ad, e, hc 0 _ rfl, by rw [← add_field _ _ 1 (by omega)]; exact hc 1 _ rfl, by rw [← add_field _ _ 2 (by omega)]; exact hc 2 _ rfl⟩
section
variable {w : World} {b : Nat} {c : Cf} {vT vM vW vS : Value} {t : List S45} {m : List Int} {ws : List S76} {ss : List S68} {W W1 : World}
theorem PL.over (h : PL w b c vT vM vW vS t m ws ss W) {ve : Value} {ev : List S40} {base : Nat} {ok : Nat → Prop} (hr : k40.R 40 W base ok ve ev) (hb : Below w.heap.size w W1) (hg : W.grownBy W1 ve.ownBlock) : PL w b c vT vM vW vS t m ws ss W1 :=
 ⟨hb, blk_grown h.hb hg (Kd.R_ne hr h.hb (by decide)), h.hg, Kd.R_over h.hT hr (by rw [E45]; decide) hg, Kd.R_over h.hM hr (T1 (by decide)) hg, Kd.R_over h.hW hr (by rw [EE76]; decide) hg, Kd.R_over h.hS hr (by rw [EE68]; decide) hg⟩
theorem R_keepP {α : Type} {d : Kd α} {e base : Nat} {ok : Nat → Prop} {v : Value} {xs : List α} (h : d.R e W base ok v xs) (hk : KeepP W W1) (ht : ∀ q, q ∈ e :: d.E → q ≠ 34 ∧ q ≠ 76 ∧ q ≠ 68) : d.R e W1 base ok v xs :=
 Kd.R_mono (Kd.R_move (Kd.R_bound h) (fun k hk1 => by
  obtain ⟨_, _, _, q, hq, cells, hc⟩ := hk1
  exact hk.2 k cells q hc (ht q hq).1 (ht q hq).2.1 (ht q hq).2.2)) (fun _ h => h.1)
theorem PL.rd {At Am Aw As : Option Addr} {ct cm cw cs_ : Nat} (h : PL w b c (.slice At t.length ct) (.slice Am m.length cm) (.slice Aw ws.length cw) (.slice As ss.length cs_) t m ws ss W) : PRd c t At ct m Am cm ws Aw cw ss As cs_ W :=
 ⟨(Kd.R_reads' h.hT).2.2, (Kd.R_reads' h.hM).2.2, (Kd.R_reads' h.hW).2.2, k68v_C (Kd.R_reads' h.hS).2.2, (Kd.R_reads' h.hT).2.1, (Kd.R_reads' h.hM).2.1⟩
end
abbrev w8 (W : World) (g : Nat) (v0 v1 v2 v3 v4 v5 v6 v7 : Value) : World := (((((((W.setCell ⟨g, 0, none⟩ v0).setCell ⟨g, 1, none⟩ v1).setCell ⟨g, 2, none⟩ v2).setCell ⟨g, 3, none⟩ v3).setCell ⟨g, 4, none⟩ v4).setCell ⟨g, 5, none⟩ v5).setCell ⟨g, 6, none⟩ v6).setCell ⟨g, 7, none⟩ v7
theorem eight {W : World} {g t : Nat} {a0 a1 a2 a3 a4 a5 a6 a7 : Value} (hz : W.heap[g]? = some (.cells #[a0, a1, a2, a3, a4, a5, a6, a7] t (0, 0))) (v0 v1 v2 v3 v4 v5 v6 v7 : Value) :
  (w8 W g v0 v1 v2 v3 v4 v5 v6 v7).heap[g]? = some (.cells #[v0, v1, v2, v3, v4, v5, v6, v7] t (0, 0)) ∧ (∀ b, b ≠ g → (w8 W g v0 v1 v2 v3 v4 v5 v6 v7).heap[b]? = W.heap[b]?) ∧ ∀ (N : Nat) (w : World), Below N w W → N ≤ g → Below N w (w8 W g v0 v1 v2 v3 v4 v5 v6 v7) := by
 refine ⟨by simpa using blk_set (blk_set (blk_set (blk_set (blk_set (blk_set (blk_set (blk_set hz 0 v0) 1 v1) 2 v2) 3 v3) 4 v4) 5 v5) 6 v6) 7 v7, fun b hb => ?_, fun N w h hN => ?_⟩
 ·have far : ∀ (V : World) (i : Nat) (u : Value), (V.setCell ⟨g, i, none⟩ u).heap[b]? = V.heap[b]? := fun V i u => Below.heap_setCell V _ u b hb
  simp only [w8, far]
 ·have st : ∀ (V : World) (i : Nat) (u : Value), Below N w V → Below N w (V.setCell ⟨g, i, none⟩ u) := fun V i u hV => hV.setCell (p := ⟨g, i, none⟩) hN u
  exact st _ _ _ (st _ _ _ (st _ _ _ (st _ _ _ (st _ _ _ (st _ _ _ (st _ _ _ (st _ _ _ h)))))))
theorem PL.make {w W : World} {c : Cf} {vT vM vW vS : Value} {t : List S45} {m : List Int} {ws : List S76} {ss : List S68} (hb : Below w.heap.size w W) (r1 : k45.R 45 W w.heap.size (fun _ => True) vT t) (r2 : (Kd.int .u64).R 38 W w.heap.size (fun _ => True) vM m) (r3 : k76.R 76 W w.heap.size (fun _ => True) vW ws) (r4 : k68v.R 68 W w.heap.size (fun _ => True) vS ss) :
  PL w W.heap.size c vT vM vW vS t m ws ss (W.alloc (.cells (pC c vT vM vW vS) 34)) :=
 have hA := below_alloc (Below.refl W.heap.size W) (.cells (pC c vT vM vW vS) 34)
 ⟨below_then hb hb.size hA, blk_new W _, hb.size, Kd.R_below r1 hA, Kd.R_below r2 hA, Kd.R_below r3 hA, Kd.R_below r4 hA⟩
def RunR (c : Cf) (t : List S45) (ns : Nat) (m' : List Int) (ws' : List S76) (ss' : List S68) : List S83 → List Int → List S76 → List S68 → List S40 → Prop
 | [], m, ws, ss, ev => m' = m ∧ ws' = ws ∧ ss' = ss ∧ ev = []
 | p :: l, m, ws, ss, ev => (draw_Fits.f p.f0 p.f1 p.f2 c.w (ns : Int) = some true ∧ m.length ≤ 1000000 ∧ ∃ m1 ws1 ss1 e1 e2, PStep c t m ws ss p.f0 p.f1 p.f2 m1 ws1 ss1 e1 ∧ RunR c t ns m' ws' ss' l m1 ws1 ss1 e2 ∧ ev = e1 ++ e2) ∨ (draw_Fits.f p.f0 p.f1 p.f2 c.w (ns : Int) = some false ∧ RunR c t ns m' ws' ss' l m ws ss ev)
theorem T40 : ∀ q, q ∈ 40 :: k40.E → q ≠ 34 ∧ q ≠ 76 ∧ q ≠ 68 := fun q hq => by
 rcases List.mem_cons.1 hq with rfl | hq
 ·decide
 ·cases hq
theorem ev_cinfo : (Tryz.prog.info? 40).map (fun i => (i.zero, i.size, i.bytes)) = some (some (.agg #[.int .i64 0, .int .i64 0, .int .i64 0]), 3, 24) := by kernel_rfl
theorem run_14 (c : Cf) (t : List S45) (At : Option Addr) (ct : Nat) (m : List Int) (Am : Option Addr) (cm : Nat) (ws : List S76) (Aw : Option Addr) (cw : Nat) (ss : List S68) (As : Option Addr) (cs_ : Nat) (l : List S83) (Al : Option Addr) (cl : Nat) (m' : List Int) (ws' : List S76) (ss' : List S68) (ev : List S40) (w : World)
  (h : PRd c t At ct m Am cm ws Aw cw ss As cs_ w) (hl : Kd.C k83 w Al l.length l) (hp : PMay c t m ws ss) (hmn : m.length ≤ 1000000) (hwn : ws.length ≤ 1000000) (hk : ∀ x ∈ t, x.f1.length ≤ 1000000) (hln : l.length ≤ 1000000) (hrun : RunR c t ss.length m' ws' ss' l m ws ss ev) (hen : ev.length ≤ 1000000000) :
  Calls Tryz.prog 14 #[.agg (pC c (.slice At t.length ct) (.slice Am m.length cm) (.slice Aw ws.length cw) (.slice As ss.length cs_)), .slice Al l.length cl] w fun e w' => ∃ vT vM vW vS ve, e = .returned (.tuple #[.agg (pC c vT vM vW vS), ve]) ∧
   k45.R 45 w' w.heap.size (fun _ => True) vT t ∧ (Kd.int .u64).R 38 w' w.heap.size (fun _ => True) vM m' ∧ k76.R 76 w' w.heap.size (fun _ => True) vW ws' ∧ k68v.R 68 w' w.heap.size (fun _ => True) vS ss' ∧ k40.R 40 w' w.heap.size (fun _ => True) ve ev ∧ Below w.heap.size w w' := by
 have HH := qQ h
 have HL := qQ hl
 have HPM := qQ hp
 have HK := qQ hk
 have HRUN := qQ hrun
 have hwk := qQ (fun x (hx : x ∈ ws) => (hp.wk x hx).2.2.2)
 have hsk := qQ (fun x (hx : x ∈ ss) => (hp.sb x hx).2.2.2.2)
 have htn := hp.nt
 have hsl := qQ hp.sl
 have HEN := qQ hen
 clear h hl hp hk hrun hen
 have B2 := qQ (show Below w.heap.size w ((w.alloc (.cells (pC c (.slice At t.length ct) (.slice Am m.length cm) (.slice Aw ws.length cw) (.slice As ss.length cs_)) 34)).alloc (.cells #[.int .i64 0, .int .i64 0, .int .i64 0, .int .i64 0, .slice none 0 0, .slice none 0 0, .slice none 0 0, .slice none 0 0] 34)) from below_alloc (below_alloc (Below.refl _ _) _) _)
 have X0 := qQ (show (((w.alloc (.cells (pC c (.slice At t.length ct) (.slice Am m.length cm) (.slice Aw ws.length cw) (.slice As ss.length cs_)) 34)).alloc (.cells #[.int .i64 0, .int .i64 0, .int .i64 0, .int .i64 0, .slice none 0 0, .slice none 0 0, .slice none 0 0, .slice none 0 0] 34))).heap[w.heap.size]? = some (.cells (pC c (.slice At t.length ct) (.slice Am m.length cm) (.slice Aw ws.length cw) (.slice As ss.length cs_)) 34 (0, 0)) from blk_alloc (blk_new _ _) _)
 have X1 := qQ (show (((w.alloc (.cells (pC c (.slice At t.length ct) (.slice Am m.length cm) (.slice Aw ws.length cw) (.slice As ss.length cs_)) 34)).alloc (.cells #[.int .i64 0, .int .i64 0, .int .i64 0, .int .i64 0, .slice none 0 0, .slice none 0 0, .slice none 0 0, .slice none 0 0] 34))).heap[w.heap.size + 1]? = some (.cells #[.int .i64 0, .int .i64 0, .int .i64 0, .int .i64 0, .slice none 0 0, .slice none 0 0, .slice none 0 0, .slice none 0 0] 34 (0, 0)) from by have := blk_new (w.alloc (.cells (pC c (.slice At t.length ct) (.slice Am m.length cm) (.slice Aw ws.length cw) (.slice As ss.length cs_)) 34)) (.cells #[.int .i64 0, .int .i64 0, .int .i64 0, .int .i64 0, .slice none 0 0, .slice none 0 0, .slice none 0 0, .slice none 0 0] 34); simpa using this)
 have SZ := qQ (show (((w.alloc (.cells (pC c (.slice At t.length ct) (.slice Am m.length cm) (.slice Aw ws.length cw) (.slice As ss.length cs_)) 34)).alloc (.cells #[.int .i64 0, .int .i64 0, .int .i64 0, .int .i64 0, .slice none 0 0, .slice none 0 0, .slice none 0 0, .slice none 0 0] 34))).heap.size = w.heap.size + 1 + 1 by simp)
 go_enter Tryz.func14, Tryz.ntmps14
 go_wp2_with (first | (go_at_call 31; (with_reducible refine (own_31 c t At ct m Am cm ws Aw cw ss As cs_ _ (HH.o.below B2.o) htn HK.o hmn hwn hwk.o (by have := hsl.o; omega) hsk.o).mono ?_); rintro e w3 ⟨vT, vM, vW, vS, rfl, r1, r2, r3, r4, hb⟩; obtain ⟨A5, c5, eo⟩ := Kd.R_slice r1; subst eo; obtain ⟨A6, c6, eo⟩ := Kd.R_slice r2; subst eo; obtain ⟨A7, c7, eo⟩ := Kd.R_slice r3; subst eo; obtain ⟨A8, c8, eo⟩ := Kd.R_slice r4; subst eo; generalize hw2 : ((w.alloc (.cells (pC c (.slice At t.length ct) (.slice Am m.length cm) (.slice Aw ws.length cw) (.slice As ss.length cs_)) 34)).alloc (.cells #[.int .i64 0, .int .i64 0, .int .i64 0, .int .i64 0, .slice none 0 0, .slice none 0 0, .slice none 0 0, .slice none 0 0] 34)) = w2 at hb r1 r2 r3 r4 B2 X0 X1 SZ; have HB3 := qQ hb; have HP4 := qQ (PL.make (c := c) hb r1 r2 r3 (k68v_R r4)); have HG3 := qQ hb.size; have x := (HP4.o.bel.block w.heap.size (blk_lt X0.o)).trans X0.o; have x0 := fun j => blk_cell x j; clear hb r1 r2 r3 r4 x hw2) | (go_at_call 17; (with_reducible refine (may_17 c t At ct m Am cm ws Aw cw ss As cs_ _ HPM.o (HH.o.below (below_then B2.o B2.o.size HP4.o.bel)) hwn).mono ?_); rintro e w4 ⟨rfl, hb⟩; have HP5 := qQ (HP4.o.below hb); clear hb HP4 x0))
 generalize w3.heap.size = g at HP5 HG3 ⊢
 clear HB3
 go_loopw [7, 18] (fun a i wr => ∃ (k : Nat) (m1 : List Int) (ws1 : List S76) (ss1 : List S68) (e1 e2 : List S40) (vM : Value) (A9 : Option Addr) (c9 : Nat), k ≤ l.length ∧ i = .int .i64 (k : Int) ∧ a = .slice A9 e1.length c9 ∧ Aside0 (PL w2 g c (.slice A5 t.length c5) vM (.slice A7 ws.length c7) (.slice A8 ss.length c8) t m1 ws1 ss1 wr) ∧ Aside0 (k40.R 40 wr w2.heap.size (fun _ => True) (.slice A9 e1.length c9) e1) ∧ Aside0 (RunR c t ss.length m' ws' ss' (l.drop k) m1 ws1 ss1 e2) ∧ Aside0 (ev = e1 ++ e2))
  (fun _ i _ => l.length - (intOf i).toNat)
 case atStart => exact ⟨0, m, ws, ss, [], ev, _, none, 0, by omega, rfl, rfl, HP5, ⟨Kd.R_nil _ _ _ _ _⟩, HRUN, ⟨rfl⟩⟩
 case round =>
  obtain ⟨k, m1, ws1, ss1, e1, e2, vM, A9, c9, hk, rfl, rfl, HPr, HRr, HUr, HEr⟩ := hrel
  clear HP5 HRUN
  obtain ⟨Am1, cm1, eo⟩ := Kd.R_slice HPr.o.hM
  subst eo
  have HBr := qQ (below_then B2.o B2.o.size HPr.o.bel)
  have HX0 := qQ ((HPr.o.bel.block w.heap.size (blk_lt X0.o)).trans X0.o)
  have HX1 := qQ ((HPr.o.bel.block (w.heap.size + 1) (blk_lt X1.o)).trans X1.o)
  by_cases hlt : k < l.length
  ·obtain ⟨p, hp⟩ : ∃ p, l[k]? = some p := ⟨_, List.getElem?_eq_getElem hlt⟩
   have hdr : l.drop k = p :: l.drop (k + 1) := by rw [List.drop_eq_getElem_cons hlt]; rw [List.getElem?_eq_getElem hlt] at hp; injection hp with hp; rw [hp]
   have hur := HUr.o
   rw [hdr] at hur
   obtain ⟨ad, rfl, q0, q1, q2⟩ := at_T83 (Kd.C_below HL.o HBr.o) k hp hlt
   have kk : ((k : Int) < (l.length : Int)) = True := eq_true (by omega)
   have k0 : (0 ≤ (k : Int)) = True := eq_true (by omega)
   have y := blk_new wr (.cells #[.int .i64 p.f0, .int .i64 p.f1, .int .u64 p.f2] 83)
   have y0 := fun j => blk_cell y j
   have HA := qQ (below_alloc (Below.refl wr.heap.size wr) (.cells #[.int .i64 p.f0, .int .i64 p.f1, .int .u64 p.f2] 83))
   have x0 := fun j => blk_cell (blk_below HX0.o HA.o) j
   have HY := qQ y
   clear y hdr hp
   rcases hur with ⟨hf, hmn1, m2, ws2, ss2, e3, e4, hst, hur, he⟩ | ⟨hf, hur⟩
   ·have HST := qQ hst
    have HUR := qQ hur
    have HE := qQ he
    clear hst hur he
    go_wp2_with (first | (go_at_call 32; (with_reducible refine (draw_Fits.calls p.f0 p.f1 p.f2 c.w (ss.length : Int) true _ hf).mono ?_); rintro e w5 ⟨rfl, hb⟩; have HPa := qQ ((HPr.o.below HA.o).below hb); have HRa := qQ (Kd.R_below (Kd.R_below HRr.o HA.o) hb); have z := blk_below HY.o hb; have z0 := fun j => blk_cell z j; clear hb y0 x0 q0 q1 q2 z) | (go_at_call 33; (with_reducible refine (step_33 HPa.o hmn1 HST.o).mono ?_); rintro e w6 ⟨ve, vM', rfl, hp6, hr6, hk6⟩; obtain ⟨A4, c4, eo⟩ := Kd.R_slice hr6; subst eo; have HPb := qQ hp6; have HRb := qQ (R_keepP HRa.o hk6 (T40)); have HVb := qQ hr6; have HBb := qQ (below_then B2.o B2.o.size hp6.bel); clear hp6 hr6 hk6 z0) | ((with_reducible refine gate_builtin (b := .append) (xs := #[.tmp 30, .tmp 32]) rfl ?_); at_builtin; refine Kd.R_append_rows k40 (Rr := Kd.K k40 w6) (w0 := w2) w2.heap.size rfl (.tmp 30) (.tmp 32) 35 40 (.agg #[.int .i64 0, .int .i64 0, .int .i64 0]) 24 rfl Tryz.underlying35 ev_cinfo rfl (by show 0 < 3; decide) (by omega) _ e1 e3 _ _ _ (fun _ => True) (fun _ => False) rfl rfl HRb.o (Kd.R_reads' HVb.o).2.2 (fun x cs hx => by rw [k40_open hx]; exact k40_mkM _ _ _ x) (fun _ h => h.elim) (fun _ _ => trivial) HPb.o.bel HPb.o.bel.size (by have := congrArg List.length HEr.o; have := congrArg List.length HE.o; simp only [List.length_append] at *; have := HEN.o; omega) ?_; intro v2 w7 ho2 hb2 hg2 hn2; obtain ⟨A3, c3, eo⟩ := Kd.R_slice ho2; subst eo; have HPc := qQ (HPb.o.over HRb.o hb2 hg2); have HRc := qQ ho2; clear ho2 hb2 hg2 hn2))
    go_roundw
    case rel => exact ⟨k + 1, m2, ws2, ss2, e1 ++ e3, e4, vM', A3, c3, by omega, by simp, by simp, HPc, HRc, HUR, ⟨by rw [HEr.o, HE.o, List.append_assoc]⟩⟩
    case measure => simp [intOf]; omega
   ·have HUR := qQ hur
    clear hur
    go_wp2_with (first | (go_at_call 32; (with_reducible refine (draw_Fits.calls p.f0 p.f1 p.f2 c.w (ss.length : Int) false _ hf).mono ?_); rintro e w5 ⟨rfl, hb⟩; have HPa := qQ ((HPr.o.below HA.o).below hb); have HRa := qQ (Kd.R_below (Kd.R_below HRr.o HA.o) hb); clear hb y0 x0 q0 q1 q2))
    go_roundw
    case rel => exact ⟨k + 1, m1, ws1, ss1, e1, e2, _, A9, c9, by omega, by simp, rfl, HPa, HRa, HUR, HEr⟩
    case measure => simp [intOf]; omega
  ·have kk : ((k : Int) < (l.length : Int)) = False := eq_false (by omega)
   have hd : l.drop k = [] := List.drop_eq_nil_of_le (by omega)
   have hur := HUr.o
   rw [hd] at hur
   obtain ⟨rfl, rfl, rfl, rfl⟩ := hur
   have he := HEr.o
   rw [List.append_nil] at he
   subst he
   have x0 := fun j => blk_cell HPr.o.hb j
   have x1 := fun j => blk_cell HX1.o j
   have x2 := fun j => blk_frozen HX1.o j
   have HF := qQ (eight HX1.o (.int .i64 c.w) (.int .i64 c.d) (.int .i64 c.i) (.int .i64 c.s) (.slice A5 t.length c5) (.slice Am1 m'.length cm1) (.slice A7 ws.length c7) (.slice A8 ss.length c8))
   unfold w8 at HF
   go_wp2
   clear x0 x1 x2
   refine bodyPost_ret (results_ct rfl _ _ (w.heap.size + 1) 34 (pC c (.slice A5 t.length c5) (.slice Am1 m'.length cm1) (.slice A7 ws.length c7) (.slice A8 ss.length c8)) (0, 0) _ rfl HF.o.1 Tryz.underlying34 rfl (by kernel_rfl)) rfl ?_
   have hle : w.heap.size ≤ w2.heap.size := B2.o.size
   exact ⟨_, _, _, _, _, rfl, Kd.R_lower (R_but HPr.o.hT HX1.o (by rw [E45]; decide) HF.o.2.1) hle, Kd.R_lower (R_but HPr.o.hM HX1.o (T1 (by decide)) HF.o.2.1) hle, Kd.R_lower (R_but HPr.o.hW HX1.o (by rw [EE76]; decide) HF.o.2.1) hle, Kd.R_lower (R_but HPr.o.hS HX1.o (by rw [EE68]; decide) HF.o.2.1) hle, Kd.R_lower (R_but HRr.o HX1.o (by decide) HF.o.2.1) hle, HF.o.2.2 _ _ HBr.o (by omega)⟩
end Go.Proofs.YthoeodjgfelkhaaGreat.QT
