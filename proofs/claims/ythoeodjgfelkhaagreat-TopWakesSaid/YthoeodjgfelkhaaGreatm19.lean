/- Part 19 of the claim on TopWakes: note.Step. No condition. -/
import Derived.Test.YthoeodjgfelkhaaGreatm17
set_option linter.unusedVariables false
set_option linter.unusedSimpArgs false
set_option maxRecDepth 100000
set_option maxHeartbeats 8000000
namespace Go.Proofs.YthoeodjgfelkhaaGreat.QT
open Go.RowKit Go.Proofs.YthoeodjgfelkhaaGreatW.PrintWords Go.Proofs.YthoeodjgfelkhaaGreatW.PrintLast Go.Proofs.YthoeodjgfelkhaaGreatW.PrintMore
attribute [local go_sem] max2_int min2_int max_two min_two
theorem one_C {k : IntKind} {w : World} {ad : Addr} {i : Int} (h : w.cell? ad = some (.int k i)) : Kd.C (Kd.int k) w (some ad) 1 [i] :=
 ⟨rfl, by omega, fun _ => ⟨ad, rfl, fun j p hp => by
  match j, hp with
  | 0, hp =>
   cases hp
   refine ⟨[.int k i], rfl, rfl, fun q u hu => ?_⟩
   match q, hu with
   | 0, hu => cases hu; simpa [Addr.add_zero'] using h
  | j + 1, hp => simp at hp⟩⟩
theorem note_step (A : Option Addr) (cp : Nat) (c : Cf) (f f' : S66) (l l' : List Int) (w : World) (hC : Kd.C (Kd.int .u64) w A l.length l) (hcp : l.length ≤ cp) (hn : l.length ≤ 1000000)
  (hk : f.f0 = 6 ∧ ((noteB c l.length f = false ∧ l = l' ∧ f = f') ∨ (noteB c l.length f = true ∧ ((f.f1 = 0 ∧ l = l' ∧ f' = { f with f4 := loadF l 2, f1 := 1 }) ∨ (f.f1 = 1 ∧ ∃ b, casF l 2 f.f4 (kindF 6 f.f4).1 = (l', b) ∧ f' = (if b = true then (if maskF f.f4 = 0 then (⟨f.f0, 0, f.f2, 0, 0, 0, 3⟩ : S66) else { f with f5 := (kindF 6 f.f4).2, f1 := 2 }) else { f with f1 := 0 })) ∨ (f.f1 = 2 ∧ ∃ p, lay_Park.f c.w c.d c.i c.s (if f.f5 < 8 then wrap64 f.f5 else -1) = some p ∧ l' = storeF l p 1 ∧ f' = ⟨f.f0, 0, f.f2, f.f5, 0, 0, 1⟩))))) :
  Calls Tryz.prog 120 #[cfV c, .slice A l.length cp, frV f] w fun e w' => ∃ v, e = .returned (.tuple #[v, frV f']) ∧ (Kd.int .u64).R 38 w' w.heap.size (fun _ => True) v l' ∧ Below w.heap.size w w' := by
 obtain ⟨f0, f1, f2, f3, f4, f5, f6⟩ := f
 have HD0 := qQ (DS.start w c ⟨f0, f1, f2, f3, f4, f5, f6⟩)
 dsimp only at HD0
 have HC := qQ (Kd.C_below hC HD0.o.thr.two.hb)
 have HCP := qQ hcp
 have HN := qQ hn
 clear hC hcp hn
 dsimp only at hk
 rcases hk with ⟨rfl, ⟨hg, rfl, rfl⟩ | ⟨hg, ⟨rfl, rfl, rfl⟩ | ⟨rfl, b, hq, hf⟩ | ⟨rfl, p, hp, rfl, rfl⟩⟩⟩
 ·
  go_enter Tryz.func120, Tryz.ntmps120
  have r0 := twoCells HD0.o.thr.two; have x0 := dsFrozen HD0.o
  go_wp2_with (first | (go_at_call 54; with_reducible refine (clone54' A cp l _ HC.o HN.o).mono ?_; rintro e w1 ⟨u1, rfl, hr, hd⟩; obtain ⟨A1, c1, eo⟩ := Kd.R_slice hr; subst eo; have HCP1 := qQ (Kd.R_reads' hr).2.1; have HD1 := qQ (HD0.o.new hd hr); clear hr hd; clear r0 x0; have r0 := twoCells HD1.o.thr.two; have x0 := dsFrozen HD1.o) | (go_at_call 138; with_reducible refine (note_goes A cp l.length c ⟨6, _, f2, f3, f4, f5, f6⟩ _ rfl).mono ?_; rintro e w2 ⟨rfl, hd⟩; have HD2 := qQ (HD1.o.below (hd)); clear hd; clear r0 x0; have r0 := twoCells HD2.o.thr.two; have x0 := dsFrozen HD2.o))
  refine zS 4 [3] (fun W' => Two w c ⟨6, f1, f2, f3, f4, f5, f6⟩ W') HD2.o.drew.thr.two fun hHeld => ?_
  refine zY 0 1 21 ?_
  refine zT 1 3 22 ?_ (hy := zy6)
  refine zY 2 7 6 ?_
  refine zL 3 15 fun K hK => ?_
  have y0 := thrCells HD2.o.thr
  go_simp
  refine hK.out _ _ ?_
  refine zD ?_
  have HT9 := qQ (HD2.o.thr.ans ⟨6, f1, f2, f3, f4, f5, f6⟩).drew
  have HR9 := qQ (Kd.R_drew (R_ans HD2.o.hr HD2.o.thr ⟨6, f1, f2, f3, f4, f5, f6⟩))
  clear hHeld y0
  go_wp2
  refine bodyPost_ret (results_tc rfl _ _ (w.heap.size + 1 + 1) 66 _ (0, 0) _ rfl HT9.o.h2 Tryz.underlying66 rfl (by kernel_rfl)) rfl ?_
  exact ⟨_, rfl, HR9.o, HT9.o.two.hb⟩
 ·
  go_enter Tryz.func120, Tryz.ntmps120
  have r0 := twoCells HD0.o.thr.two; have x0 := dsFrozen HD0.o
  go_wp2_with (first | (go_at_call 54; with_reducible refine (clone54' A cp l _ HC.o HN.o).mono ?_; rintro e w3 ⟨u3, rfl, hr, hd⟩; obtain ⟨A3, c3, eo⟩ := Kd.R_slice hr; subst eo; have HCP3 := qQ (Kd.R_reads' hr).2.1; have HD3 := qQ (HD0.o.new hd hr); clear hr hd; clear r0 x0; have r0 := twoCells HD3.o.thr.two; have x0 := dsFrozen HD3.o) | (go_at_call 138; with_reducible refine (note_goes A cp l.length c ⟨6, _, f2, f3, f4, f5, f6⟩ _ rfl).mono ?_; rintro e w4 ⟨rfl, hd⟩; have HD4 := qQ (HD3.o.below (hd)); clear hd; clear r0 x0; have r0 := twoCells HD4.o.thr.two; have x0 := dsFrozen HD4.o) | (go_at_call 7; with_reducible refine (Load_calls _ _ l 2 _ (Kd.R_reads' HD4.o.hr).2.2 HCP3.o).mono ?_; rintro e w5 ⟨rfl, hd⟩; have HD5 := qQ (HD4.o.below (hd.below)); clear hd; clear r0 x0; have r0 := twoCells HD5.o.thr.two; have x0 := dsFrozen HD5.o))
  have hs6 := (HD5.o.f4 (loadF l 2)).f1 (1)
  generalize ((w5).setCell ⟨w.heap.size + 1, 4, none⟩ (.int .u64 (loadF l 2))).setCell ⟨w.heap.size + 1, 1, none⟩ (.int .i64 (1)) = w6 at hs6 ⊢
  have HD6 := qQ hs6
  clear hs6
  clear r0 x0
  have r0 := twoCells HD6.o.thr.two; have x0 := dsFrozen HD6.o
  refine zS 4 [3] (fun W' => Two w c ⟨6, 1, f2, f3, loadF l 2, f5, f6⟩ W') HD6.o.drew.thr.two fun hHeld => ?_
  refine zY 0 1 124 ?_
  refine zT 1 3 125 ?_ (hy := zy6)
  refine zY 2 7 6 ?_
  refine zL 3 15 fun K hK => ?_
  have y0 := thrCells HD6.o.thr
  go_simp
  refine hK.out _ _ ?_
  refine zD ?_
  have HT9 := qQ (HD6.o.thr.ans ⟨6, 1, f2, f3, loadF l 2, f5, f6⟩).drew
  have HR9 := qQ (Kd.R_drew (R_ans HD6.o.hr HD6.o.thr ⟨6, 1, f2, f3, loadF l 2, f5, f6⟩))
  clear hHeld y0
  go_wp2
  refine bodyPost_ret (results_tc rfl _ _ (w.heap.size + 1 + 1) 66 _ (0, 0) _ rfl HT9.o.h2 Tryz.underlying66 rfl (by kernel_rfl)) rfl ?_
  exact ⟨_, rfl, HR9.o, HT9.o.two.hb⟩
 ·have HQ := qQ hq
  have HF := qQ hf
  clear hq hf
  have CAS : ∀ (A : Option Addr) (cp : Nat) (W : World), Kd.C (Kd.int .u64) W A l.length l → l.length ≤ cp → Calls Tryz.prog 140 #[.slice A l.length cp, .int .i64 2, .int .u64 f4, .int .u64 (kindF 6 f4).1] W fun e w' => ∃ u, e = .returned (.tuple #[u, .bool b]) ∧ (Kd.int .u64).R 38 w' W.heap.size (fun _ => True) u l' ∧ Below W.heap.size W w' := fun A cp W h1 h2 => by
   have h := cas140 A cp l 2 f4 (kindF 6 f4).1 W h1 h2 HN.o
   rw [HQ.o] at h
   exact h
  have HCAS := qQ CAS
  clear CAS
  go_enter Tryz.func120, Tryz.ntmps120
  have r0 := twoCells HD0.o.thr.two; have x0 := dsFrozen HD0.o
  go_wp2_with (first | (go_at_call 54; with_reducible refine (clone54' A cp l _ HC.o HN.o).mono ?_; rintro e w7 ⟨u7, rfl, hr, hd⟩; obtain ⟨A7, c7, eo⟩ := Kd.R_slice hr; subst eo; have HCP7 := qQ (Kd.R_reads' hr).2.1; have HD7 := qQ (HD0.o.new hd hr); clear hr hd; clear r0 x0; have r0 := twoCells HD7.o.thr.two; have x0 := dsFrozen HD7.o) | (go_at_call 138; with_reducible refine (note_goes A cp l.length c ⟨6, _, f2, f3, f4, f5, f6⟩ _ rfl).mono ?_; rintro e w8 ⟨rfl, hd⟩; have HD8 := qQ (HD7.o.below (hd)); clear hd; clear r0 x0; have r0 := twoCells HD8.o.thr.two; have x0 := dsFrozen HD8.o))
  refine zS 12 [] (fun W' => Two w c ⟨6, 1, f2, f3, f4, f5, f6⟩ W') HD8.o.drew.thr.two fun hHeld => ?_
  refine zY 1 2 73 ?_
  refine zT 2 6 74 ?_ (hy := zy6)
  refine zY 4 22 76 ?_
  refine zT 5 54 77 ?_ (hy := zy6)
  refine zO 0 55 72 fun K hK => ?_
  go_simp
  refine (kinds_139 _).mono ?_
  rintro e w9 ⟨rfl, hm, hd⟩
  have HD9 := qQ ((HD8.o.drew).below hd)
  replace hm : w9.heap[w8.heap.size]? = some kindsM := hm
  have hlk := @run_look_some Tryz.prog 171 _ _ _ 2 Tryz.underlying171 Tryz.underlying3 _ 6 _ _ w9 hm rfl false
  clear hm hd
  refine hK.out _ _ HD9.o.thr.two (fun hHeld => ?_)
  refine zO 3 63 75 fun K hK => ?_
  go_simp
  refine hK.out _ _ HD9.o.thr.two (fun hHeld => ?_)
  refine zO 6 127 78 fun K hK => ?_
  go_simp
  refine (kinds_164 f4 _).mono ?_
  rintro e w10 ⟨rfl, hd⟩
  have HD10 := qQ (HD9.o.below (hd))
  clear hd
  refine hK.out _ _ HD10.o.thr.two (fun hHeld => ?_)
  refine zY 7 255 71 ?_
  refine zY 8 511 79 ?_
  refine zY 9 1023 80 ?_
  refine zY 10 2047 9 ?_
  refine zY 11 4095 10 ?_
  refine zD ?_
  clear r0 x0
  have r0 := twoCells HD10.o.thr.two; have x0 := dsFrozen HD10.o
  clear hHeld
  have hf2 := HF.o
  cases b with
  | true =>
   simp only [if_true] at hf2
   clear HF
   go_wp2_with (first | (go_at_call 140; with_reducible refine (HCAS.o _ _ _ (Kd.R_reads' HD10.o.hr).2.2 HCP7.o).mono ?_; rintro e w11 ⟨u11, rfl, hr, hd⟩; obtain ⟨A11, c11, eo⟩ := Kd.R_slice hr; subst eo; have HCP11 := qQ (Kd.R_reads' hr).2.1; have HD11 := qQ (HD10.o.new hd hr); clear hr hd; clear r0 x0; have r0 := twoCells HD11.o.thr.two; have x0 := dsFrozen HD11.o))
   have hs12 := HD11.o.f1 (0)
   generalize (w11).setCell ⟨w.heap.size + 1, 1, none⟩ (.int .i64 (0)) = w12 at hs12 ⊢
   have HD12 := qQ hs12
   clear hs12
   clear r0 x0
   have r0 := twoCells HD12.o.thr.two; have x0 := dsFrozen HD12.o
   refine (word_Mask.calls f4 (maskF f4) _ rfl).mono ?_
   rintro e w13 ⟨rfl, hd⟩
   have HD13 := qQ (HD12.o.below hd.below)
   clear hd
   clear r0 x0
   have r0 := twoCells HD13.o.thr.two; have x0 := dsFrozen HD13.o
   by_cases hz : maskF f4 = 0
   ·rw [if_pos hz] at hf2
    subst hf2
    have hz' : (maskF f4 == 0) = true := by simpa using hz
    clear hz
    go_wp2_with (first | (go_at_call 142; with_reducible refine (frame_End.calls 6 0 f2 f3 f4 f5 f6 3 0 _ _ _ _ _ _ _ _ rfl).mono ?_; rintro e w14 ⟨rfl, hd⟩; have HD14 := qQ (HD13.o.below (hd)); clear hd; clear r0 x0; have r0 := twoCells HD14.o.thr.two; have x0 := dsFrozen HD14.o; have y0 := thrCells HD14.o.thr))
    have HT9 := qQ (HD14.o.thr.ans ⟨6, 0, f2, 0, 0, 0, 3⟩)
    have HR9 := qQ (R_ans HD14.o.hr HD14.o.thr ⟨6, 0, f2, 0, 0, 0, 3⟩)
    refine bodyPost_ret (results_tc rfl _ _ (w.heap.size + 1 + 1) 66 _ (0, 0) _ rfl HT9.o.h2 Tryz.underlying66 rfl (by kernel_rfl)) rfl ?_
    exact ⟨_, rfl, HR9.o, HT9.o.two.hb⟩
   ·rw [if_neg hz] at hf2
    subst hf2
    have hz' : (maskF f4 == 0) = false := by simpa using hz
    go_wp2
    have hs15 := (HD13.o.f5 ((kindF 6 f4).2)).f1 (2)
    generalize ((w13).setCell ⟨w.heap.size + 1, 5, none⟩ (.int .u64 ((kindF 6 f4).2))).setCell ⟨w.heap.size + 1, 1, none⟩ (.int .i64 (2)) = w15 at hs15 ⊢
    have HD15 := qQ hs15
    clear hs15
    clear r0 x0
    have r0 := twoCells HD15.o.thr.two; have x0 := dsFrozen HD15.o
    refine zS 4 [3] (fun W' => Two w c ⟨6, 2, f2, f3, f4, (kindF 6 f4).2, f6⟩ W') HD15.o.drew.thr.two fun hHeld => ?_
    refine zY 0 1 124 ?_
    refine zT 1 3 125 ?_ (hy := zy6)
    refine zY 2 7 6 ?_
    refine zL 3 15 fun K hK => ?_
    have y0 := thrCells HD15.o.thr
    go_simp
    refine hK.out _ _ ?_
    refine zD ?_
    have HT9 := qQ (HD15.o.thr.ans ⟨6, 2, f2, f3, f4, (kindF 6 f4).2, f6⟩).drew
    have HR9 := qQ (Kd.R_drew (R_ans HD15.o.hr HD15.o.thr ⟨6, 2, f2, f3, f4, (kindF 6 f4).2, f6⟩))
    clear hHeld y0
    go_wp2
    refine bodyPost_ret (results_tc rfl _ _ (w.heap.size + 1 + 1) 66 _ (0, 0) _ rfl HT9.o.h2 Tryz.underlying66 rfl (by kernel_rfl)) rfl ?_
    exact ⟨_, rfl, HR9.o, HT9.o.two.hb⟩
  | false =>
   simp only [Bool.false_eq_true, if_false] at hf2
   subst hf2
   go_wp2_with (first | (go_at_call 140; with_reducible refine (HCAS.o _ _ _ (Kd.R_reads' HD10.o.hr).2.2 HCP7.o).mono ?_; rintro e w16 ⟨u16, rfl, hr, hd⟩; obtain ⟨A16, c16, eo⟩ := Kd.R_slice hr; subst eo; have HCP16 := qQ (Kd.R_reads' hr).2.1; have HD16 := qQ (HD10.o.new hd hr); clear hr hd; clear r0 x0; have r0 := twoCells HD16.o.thr.two; have x0 := dsFrozen HD16.o))
   have hs17 := HD16.o.f1 (0)
   generalize (w16).setCell ⟨w.heap.size + 1, 1, none⟩ (.int .i64 (0)) = w17 at hs17 ⊢
   have HD17 := qQ hs17
   clear hs17
   clear r0 x0
   have r0 := twoCells HD17.o.thr.two; have x0 := dsFrozen HD17.o
   refine zS 4 [3] (fun W' => Two w c ⟨6, 0, f2, f3, f4, f5, f6⟩ W') HD17.o.drew.thr.two fun hHeld => ?_
   refine zY 0 1 93 ?_
   refine zT 1 3 94 ?_ (hy := zy6)
   refine zY 2 7 6 ?_
   refine zL 3 15 fun K hK => ?_
   have y0 := thrCells HD17.o.thr
   go_simp
   refine hK.out _ _ ?_
   refine zD ?_
   have HT9 := qQ (HD17.o.thr.ans ⟨6, 0, f2, f3, f4, f5, f6⟩).drew
   have HR9 := qQ (Kd.R_drew (R_ans HD17.o.hr HD17.o.thr ⟨6, 0, f2, f3, f4, f5, f6⟩))
   clear hHeld y0
   go_wp2
   refine bodyPost_ret (results_tc rfl _ _ (w.heap.size + 1 + 1) 66 _ (0, 0) _ rfl HT9.o.h2 Tryz.underlying66 rfl (by kernel_rfl)) rfl ?_
   exact ⟨_, rfl, HR9.o, HT9.o.two.hb⟩
 ·have HP := qQ hp
  clear hp
  by_cases n8 : f5 < 8
  ·rw [if_pos n8] at HP
   go_enter Tryz.func120, Tryz.ntmps120
   have r0 := twoCells HD0.o.thr.two; have x0 := dsFrozen HD0.o
   go_wp2_with (first | (go_at_call 54; with_reducible refine (clone54' A cp l _ HC.o HN.o).mono ?_; rintro e w18 ⟨u18, rfl, hr, hd⟩; obtain ⟨A18, c18, eo⟩ := Kd.R_slice hr; subst eo; have HCP18 := qQ (Kd.R_reads' hr).2.1; have HD18 := qQ (HD0.o.new hd hr); clear hr hd; clear r0 x0; have r0 := twoCells HD18.o.thr.two; have x0 := dsFrozen HD18.o) | (go_at_call 138; with_reducible refine (note_goes A cp l.length c ⟨6, _, f2, f3, f4, f5, f6⟩ _ rfl).mono ?_; rintro e w19 ⟨rfl, hd⟩; have HD19 := qQ (HD18.o.below (hd)); clear hd; clear r0 x0; have r0 := twoCells HD19.o.thr.two; have x0 := dsFrozen HD19.o))
   refine zS 11 [10] (fun W' => Two w c ⟨6, 2, f2, f3, f4, f5, f6⟩ W') HD19.o.drew.thr.two fun hHeld => ?_
   refine zT 0 1 115 ?_ (hy := zy6)
   refine zY 1 3 116 ?_
   refine zY 2 7 117 ?_
   refine zT 5 39 120 ?_ (hy := zy6)
   refine zY 6 103 121 ?_
   refine zT 7 231 122 ?_ (hy := zy6)
   refine zO 3 239 118 fun K hK => ?_
   go_simp
   have HD20 := qQ ((HD19.o.drew).below (below_alloc (Below.refl _ _) (.cells #[.int .i64 (wrap64 f5)] 3)))
   have HX20 := qQ (one_C (Tryz.cell_new_l (w19.drew) (.int .i64 (wrap64 f5)) 3).1)
   refine hK.out _ _ HD20.o.thr.two (fun hHeld => ?_)
   refine zO 4 255 119 fun K hK => ?_
   go_simp
   refine (wake_143 c _ _ l _ 1 (wrap64 f5) p _ (Kd.R_reads' HD20.o.hr).2.2 HCP18.o HN.o HX20.o HP.o).mono ?_
   rintro e w21 ⟨u21, rfl, hr, hd⟩
   obtain ⟨A21, c21, eo⟩ := Kd.R_slice hr
   subst eo
   have HCP21 := qQ (Kd.R_reads' hr).2.1
   have HD21 := qQ (HD20.o.new hd hr)
   clear hr hd
   refine hK.out _ _ HD21.o.thr.two (fun hHeld => ?_)
   refine zO 8 511 123 fun K hK => ?_
   go_simp
   refine (frame_End.calls 6 2 f2 f3 f4 f5 f6 1 f5 _ _ _ _ _ _ _ _ rfl).mono ?_
   rintro e w22 ⟨rfl, hd⟩
   have HD22 := qQ (HD21.o.below (hd))
   clear hd
   refine hK.out _ _ HD22.o.thr.two (fun hHeld => ?_)
   refine zY 9 1023 6 ?_
   refine zL 10 2047 fun K hK => ?_
   have y0 := thrCells HD22.o.thr
   go_simp
   refine hK.out _ _ ?_
   refine zD ?_
   have HT9 := qQ (HD22.o.thr.ans ⟨6, 0, f2, f5, 0, 0, 1⟩)
   have HR9 := qQ (R_ans HD22.o.hr HD22.o.thr ⟨6, 0, f2, f5, 0, 0, 1⟩)
   clear hHeld y0 HP HN HCP HC HD0
   clear r0 x0
   go_wp2
   refine bodyPost_ret (results_tc rfl _ _ (w.heap.size + 1 + 1) 66 _ (0, 0) _ rfl HT9.o.h2 Tryz.underlying66 rfl (by kernel_rfl)) rfl ?_
   exact ⟨_, rfl, HR9.o, HT9.o.two.hb⟩
  ·rw [if_neg n8] at HP
   go_enter Tryz.func120, Tryz.ntmps120
   have r0 := twoCells HD0.o.thr.two; have x0 := dsFrozen HD0.o
   go_wp2_with (first | (go_at_call 54; with_reducible refine (clone54' A cp l _ HC.o HN.o).mono ?_; rintro e w23 ⟨u23, rfl, hr, hd⟩; obtain ⟨A23, c23, eo⟩ := Kd.R_slice hr; subst eo; have HCP23 := qQ (Kd.R_reads' hr).2.1; have HD23 := qQ (HD0.o.new hd hr); clear hr hd; clear r0 x0; have r0 := twoCells HD23.o.thr.two; have x0 := dsFrozen HD23.o) | (go_at_call 138; with_reducible refine (note_goes A cp l.length c ⟨6, _, f2, f3, f4, f5, f6⟩ _ rfl).mono ?_; rintro e w24 ⟨rfl, hd⟩; have HD24 := qQ (HD23.o.below (hd)); clear hd; clear r0 x0; have r0 := twoCells HD24.o.thr.two; have x0 := dsFrozen HD24.o))
   refine zS 11 [10] (fun W' => Two w c ⟨6, 2, f2, f3, f4, f5, f6⟩ W') HD24.o.drew.thr.two fun hHeld => ?_
   refine zT 0 1 115 ?_ (hy := zy6)
   refine zY 1 3 116 ?_
   refine zY 2 7 117 ?_
   refine zT 5 39 120 ?_ (hy := zy6)
   refine zY 6 103 121 ?_
   refine zT 7 231 122 ?_ (hy := zy6)
   refine zO 3 239 118 fun K hK => ?_
   go_simp
   have HD25 := qQ ((HD24.o.drew).below (below_alloc (Below.refl _ _) (.cells #[.int .i64 (-1)] 3)))
   have HX25 := qQ (one_C (Tryz.cell_new_l (w24.drew) (.int .i64 (-1)) 3).1)
   refine hK.out _ _ HD25.o.thr.two (fun hHeld => ?_)
   refine zO 4 255 119 fun K hK => ?_
   go_simp
   refine (wake_143 c _ _ l _ 1 (-1) p _ (Kd.R_reads' HD25.o.hr).2.2 HCP23.o HN.o HX25.o HP.o).mono ?_
   rintro e w26 ⟨u26, rfl, hr, hd⟩
   obtain ⟨A26, c26, eo⟩ := Kd.R_slice hr
   subst eo
   have HCP26 := qQ (Kd.R_reads' hr).2.1
   have HD26 := qQ (HD25.o.new hd hr)
   clear hr hd
   refine hK.out _ _ HD26.o.thr.two (fun hHeld => ?_)
   refine zO 8 511 123 fun K hK => ?_
   go_simp
   refine (frame_End.calls 6 2 f2 f3 f4 f5 f6 1 f5 _ _ _ _ _ _ _ _ rfl).mono ?_
   rintro e w27 ⟨rfl, hd⟩
   have HD27 := qQ (HD26.o.below (hd))
   clear hd
   refine hK.out _ _ HD27.o.thr.two (fun hHeld => ?_)
   refine zY 9 1023 6 ?_
   refine zL 10 2047 fun K hK => ?_
   have y0 := thrCells HD27.o.thr
   go_simp
   refine hK.out _ _ ?_
   refine zD ?_
   have HT9 := qQ (HD27.o.thr.ans ⟨6, 0, f2, f5, 0, 0, 1⟩)
   have HR9 := qQ (R_ans HD27.o.hr HD27.o.thr ⟨6, 0, f2, f5, 0, 0, 1⟩)
   clear hHeld y0 HP HN HCP HC HD0
   clear r0 x0
   go_wp2
   refine bodyPost_ret (results_tc rfl _ _ (w.heap.size + 1 + 1) 66 _ (0, 0) _ rfl HT9.o.h2 Tryz.underlying66 rfl (by kernel_rfl)) rfl ?_
   exact ⟨_, rfl, HR9.o, HT9.o.two.hb⟩
end Go.Proofs.YthoeodjgfelkhaaGreat.QT
