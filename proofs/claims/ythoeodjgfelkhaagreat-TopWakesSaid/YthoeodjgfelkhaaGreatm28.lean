/- Part 28 of the claim on TopWakes: the hand's pop; the hand's again; the hand's look; a pool in its box. No condition. -/
import Derived.Test.YthoeodjgfelkhaaGreatm27
set_option linter.unusedVariables false
set_option linter.unusedSimpArgs false
set_option maxRecDepth 100000
set_option maxHeartbeats 8000000
namespace Go.Proofs.YthoeodjgfelkhaaGreat.QT
open Go.RowKit Go.Proofs.YthoeodjgfelkhaaGreatW.PrintWords Go.Proofs.YthoeodjgfelkhaaGreatW.PrintLast Go.Proofs.YthoeodjgfelkhaaGreatW.PrintMore
attribute [local go_sem] max2_int min2_int max_two min_two
theorem hand_pop (k : HK) (x : Hd) (f' : S66) (m' : List Int) (hs : STEP (whoF x.f) k.c x.f x.m f' m') (x' : Hd) (hT : Kd.C k45 k.wb k.At k.t.length k.t) (hct : k.t.length ≤ k.ct) (s' : List S116) (he : x.ev.length ≤ 1000000) (hst : f'.f6 = 1 → STARTP k.t x.st (wrap64 f'.f3) s') (hx : x' = if f'.f6 = 0 then { x with f := f', m := m' } else if f'.f6 = 1 then { x with m := m', pc := 9, f := ⟨0, 0, 0, 0, 0, 0, 0⟩, st := s', ev := x.ev ++ [⟨2, wrap64 f'.f3, k.wn⟩] } else { x with m := m', pc := 1, f := ⟨0, 0, 0, 0, 0, 0, 0⟩ }) : HDoes 76 [] k x (x') := by
 intro W g v1 vm ve h
 obtain ⟨A1, c1, rfl⟩ := Kd.R_slice h.rs
 obtain ⟨Am, cm, rfl⟩ := Kd.R_slice h.rm
 obtain ⟨Ae, ce, rfl⟩ := Kd.R_slice h.re
 have HS0 := qQ h
 have HHS := qQ hs
 have HHT := qQ hT
 have HHCT := qQ hct
 have HHST := qQ hst
 have HHE := qQ he
 clear h hs hT hct hst he
 show Calls Tryz.prog 76 #[.pointer (some ⟨g, 0, none⟩)] W _
 go_enter Tryz.func76, Tryz.ntmps76
 have h0 := handCells HS0.o.hb; have hz := HSt.frozen HS0.o
 by_cases n0 : f'.f6 = 0
 ·rw [if_pos n0] at hx
  subst hx
  go_wp2_with (first | (go_at_call 107; with_reducible refine (hand_call k x f' m' HHS.o _ g _ _ _ HS0.o.self).mono ?_; rintro e w1 ⟨rfl, va, vb, vc, hs⟩; obtain ⟨A1_1, c1_1, e1⟩ := Kd.R_slice hs.rs; subst e1; obtain ⟨Am_1, cm_1, e2⟩ := Kd.R_slice hs.rm; subst e2; obtain ⟨Ae_1, ce_1, e3⟩ := Kd.R_slice hs.re; subst e3; have HS1 := qQ (HS0.o.tr hs); clear hs; clear h0 hz; have h0 := handCells HS1.o.hb; have hz := HSt.frozen HS1.o))
  first | go_end0 | ((try simp only [Exit.inBlock, Exit.then]); refine bodyPost_ret (results_none rfl _ _ _) rfl ?_)
  exact ⟨⟨_, rfl⟩, _, _, _, HS1.o⟩
 by_cases n2 : f'.f6 = 1
 ·rw [if_neg n0, if_pos n2] at hx
  subst hx
  have nb : (f'.f6 != 0) = true := by simpa using n0
  have HHST := qQ (HHST.o n2)
  have N2 := qQ n2
  clear n2 n0
  go_wp2_with (first | (go_at_call 107; with_reducible refine (hand_call k x f' m' HHS.o _ g _ _ _ HS0.o.self).mono ?_; rintro e w2 ⟨rfl, va, vb, vc, hs⟩; obtain ⟨A1_2, c1_2, e1⟩ := Kd.R_slice hs.rs; subst e1; obtain ⟨Am_2, cm_2, e2⟩ := Kd.R_slice hs.rm; subst e2; obtain ⟨Ae_2, ce_2, e3⟩ := Kd.R_slice hs.re; subst e3; have HS2 := qQ (HS0.o.tr hs); clear hs; clear h0 hz; have h0 := handCells HS2.o.hb; have hz := HSt.frozen HS2.o; have n2 := N2.o) | (go_at_call 108; with_reducible refine (hand_to k { x with f := f', m := m' } 9 _ g _ _ _ ((HS2.o.below (below_alloc (Below.refl _ _) (.cells #[.int .i64 f'.f0, .int .i64 f'.f1, .int .i64 f'.f2, .int .u64 f'.f3, .int .u64 f'.f4, .int .u64 f'.f5, .int .i64 1] 66)))).self).mono ?_; rintro e w3 ⟨⟨u_, rfl⟩, va, vb, vc, hs⟩; obtain ⟨A1_3, c1_3, e1⟩ := Kd.R_slice hs.rs; subst e1; obtain ⟨Am_3, cm_3, e2⟩ := Kd.R_slice hs.rm; subst e2; obtain ⟨Ae_3, ce_3, e3⟩ := Kd.R_slice hs.re; subst e3; have hbk := hs.blk (blk_new w2 (.cells #[.int .i64 f'.f0, .int .i64 f'.f1, .int .i64 f'.f2, .int .u64 f'.f3, .int .u64 f'.f4, .int .u64 f'.f5, .int .i64 1] 66)) (by have := HS2.o.lt; have := HS2.o.gb.size; omega) (Kd.R_ne ((HS2.o.below (below_alloc (Below.refl _ _) (.cells #[.int .i64 f'.f0, .int .i64 f'.f1, .int .i64 f'.f2, .int .u64 f'.f3, .int .u64 f'.f4, .int .u64 f'.f5, .int .i64 1] 66)))).re (blk_new w2 (.cells #[.int .i64 f'.f0, .int .i64 f'.f1, .int .i64 f'.f2, .int .u64 f'.f3, .int .u64 f'.f4, .int .u64 f'.f5, .int .i64 1] 66)) (by decide)); have b3 := (blk_cell hbk 3).trans rfl; clear hbk; have HS3 := qQ (((HS2.o.below (below_alloc (Below.refl _ _) (.cells #[.int .i64 f'.f0, .int .i64 f'.f1, .int .i64 f'.f2, .int .u64 f'.f3, .int .u64 f'.f4, .int .u64 f'.f5, .int .i64 1] 66)))).tr hs); clear hs; clear h0 hz; have h0 := handCells HS3.o.hb; have hz := HSt.frozen HS3.o) | (go_at_call 109; with_reducible refine (hand_start k { x with m := m', pc := 9, f := ⟨0, 0, 0, 0, 0, 0, 0⟩ } (f'.f3) s' HHT.o HHCT.o HHST.o HHE.o _ g _ _ _ HS3.o.self).mono ?_; rintro e w4 ⟨⟨u_, rfl⟩, va, vb, vc, hs⟩; obtain ⟨A1_4, c1_4, e1⟩ := Kd.R_slice hs.rs; subst e1; obtain ⟨Am_4, cm_4, e2⟩ := Kd.R_slice hs.rm; subst e2; obtain ⟨Ae_4, ce_4, e3⟩ := Kd.R_slice hs.re; subst e3; have HS4 := qQ (HS3.o.tr hs); clear hs; clear h0 hz; have h0 := handCells HS4.o.hb; have hz := HSt.frozen HS4.o))
  first | go_end0 | ((try simp only [Exit.inBlock, Exit.then]); refine bodyPost_ret (results_none rfl _ _ _) rfl ?_)
  exact ⟨⟨_, rfl⟩, _, _, _, HS4.o⟩
 ·rw [if_neg n0, if_neg n2] at hx
  subst hx
  have nb : (f'.f6 != 0) = true := by simpa using n0
  go_wp2_with (first | (go_at_call 107; with_reducible refine (hand_call k x f' m' HHS.o _ g _ _ _ HS0.o.self).mono ?_; rintro e w5 ⟨rfl, va, vb, vc, hs⟩; obtain ⟨A1_5, c1_5, e1⟩ := Kd.R_slice hs.rs; subst e1; obtain ⟨Am_5, cm_5, e2⟩ := Kd.R_slice hs.rm; subst e2; obtain ⟨Ae_5, ce_5, e3⟩ := Kd.R_slice hs.re; subst e3; have HS5 := qQ (HS0.o.tr hs); clear hs; clear h0 hz; have h0 := handCells HS5.o.hb; have hz := HSt.frozen HS5.o) | (go_at_call 108; with_reducible refine (hand_to k { x with f := f', m := m' } 1 _ g _ _ _ ((HS5.o.below (below_alloc (Below.refl _ _) (.cells #[.int .i64 f'.f0, .int .i64 f'.f1, .int .i64 f'.f2, .int .u64 f'.f3, .int .u64 f'.f4, .int .u64 f'.f5, .int .i64 f'.f6] 66)))).self).mono ?_; rintro e w6 ⟨⟨u_, rfl⟩, va, vb, vc, hs⟩; obtain ⟨A1_6, c1_6, e1⟩ := Kd.R_slice hs.rs; subst e1; obtain ⟨Am_6, cm_6, e2⟩ := Kd.R_slice hs.rm; subst e2; obtain ⟨Ae_6, ce_6, e3⟩ := Kd.R_slice hs.re; subst e3; have HS6 := qQ (((HS5.o.below (below_alloc (Below.refl _ _) (.cells #[.int .i64 f'.f0, .int .i64 f'.f1, .int .i64 f'.f2, .int .u64 f'.f3, .int .u64 f'.f4, .int .u64 f'.f5, .int .i64 f'.f6] 66)))).tr hs); clear hs; clear h0 hz; have h0 := handCells HS6.o.hb; have hz := HSt.frozen HS6.o))
  first | go_end0 | ((try simp only [Exit.inBlock, Exit.then]); refine bodyPost_ret (results_none rfl _ _ _) rfl ?_)
  exact ⟨⟨_, rfl⟩, _, _, _, HS6.o⟩
def againT (k : HK) (x : Hd) (v : Int) (some : Bool) : Hd :=
 if some = true then { x with pc := 1, f := ⟨0, 0, 0, 0, 0, 0, 0⟩ }
 else if wrap64 (x.lk + 1) = wrap64 (2 + wrap64 (2 * k.c.w)) then { x with pc := 8, f := { x.f with f3 := 0 }, lk := 0 }
 else { x with f := { x.f with f3 := v }, lk := wrap64 (x.lk + 1) }
theorem hand_again_end (k : HK) (x : Hd) (n1 : x.lk < 0 ∨ x.lk ≥ wrap64 (2 + wrap64 (2 * k.c.w))) : HDoes 82 [] k x ({ x with pc := 8, f := { x.f with f3 := 0 }, lk := 0 }) := by
 intro W g v1 vm ve h
 obtain ⟨A1, c1, rfl⟩ := Kd.R_slice h.rs
 obtain ⟨Am, cm, rfl⟩ := Kd.R_slice h.rm
 obtain ⟨Ae, ce, rfl⟩ := Kd.R_slice h.re
 have HS0 := qQ h
 clear h
 show Calls Tryz.prog 82 #[.pointer (some ⟨g, 0, none⟩)] W _
 go_enter Tryz.func82, Tryz.ntmps82
 have h0 := handCells HS0.o.hb; have hz := HSt.frozen HS0.o
 by_cases n2 : x.lk < 0
 ·
  clear n1
  go_wp2
  first | go_end0 | ((try simp only [Exit.inBlock, Exit.then]); refine bodyPost_ret (results_none rfl _ _ _) rfl ?_)
  exact ⟨⟨_, rfl⟩, _, _, _, (((HS0.o.set0 8).set5 0).set10 0)⟩
 ·have n3 : x.lk ≥ wrap64 (2 + wrap64 (2 * k.c.w)) := by omega
  clear n1
  go_wp2
  first | go_end0 | ((try simp only [Exit.inBlock, Exit.then]); refine bodyPost_ret (results_none rfl _ _ _) rfl ?_)
  exact ⟨⟨_, rfl⟩, _, _, _, (((HS0.o.set0 8).set5 0).set10 0)⟩
theorem hand_again0 (k : HK) (x : Hd) (x' : Hd) (n0 : x.lk = 0) (n2 : ¬ (0 : Int) ≥ wrap64 (2 + wrap64 (2 * k.c.w))) (hx : x' = againT k x (loadF x.m 4) false) : HDoes 82 [] k x (x') := by
 intro W g v1 vm ve h
 obtain ⟨A1, c1, rfl⟩ := Kd.R_slice h.rs
 obtain ⟨Am, cm, rfl⟩ := Kd.R_slice h.rm
 obtain ⟨Ae, ce, rfl⟩ := Kd.R_slice h.re
 have HS0 := qQ h
 clear h
 show Calls Tryz.prog 82 #[.pointer (some ⟨g, 0, none⟩)] W _
 go_enter Tryz.func82, Tryz.ntmps82
 have h0 := handCells HS0.o.hb; have hz := HSt.frozen HS0.o
 unfold againT at hx
 have e1 : wrap64 (x.lk + 1) = 1 := by rw [n0]; decide +kernel
 simp only [e1] at hx
 clear e1
 simp only [Bool.false_eq_true, if_false] at hx
 by_cases n5 : wrap64 (2 + wrap64 (2 * k.c.w)) = 1
 ·rw [if_pos n5.symm] at hx
  subst hx
  go_wp2_with (first | (go_at_call 7; with_reducible refine (Load_calls _ _ x.m 4 _ (Kd.R_reads' HS0.o.rm).2.2 (Kd.R_reads' HS0.o.rm).2.1).mono ?_; rintro e w9 ⟨rfl, hd⟩; have HS9 := qQ (HS0.o.below hd.below); clear hd; clear h0 hz; have h0 := handCells HS9.o.hb; have hz := HSt.frozen HS9.o))
  first | go_end0 | ((try simp only [Exit.inBlock, Exit.then]); refine bodyPost_ret (results_none rfl _ _ _) rfl ?_)
  exact ⟨⟨_, rfl⟩, _, _, _, (((((HS9.o.set5 (loadF x.m 4)).set10 1).set0 8).set5 0).set10 0)⟩
 ·rw [if_neg (fun h => n5 h.symm)] at hx
  subst hx
  go_wp2_with (first | (go_at_call 7; with_reducible refine (Load_calls _ _ x.m 4 _ (Kd.R_reads' HS0.o.rm).2.2 (Kd.R_reads' HS0.o.rm).2.1).mono ?_; rintro e w9 ⟨rfl, hd⟩; have HS9 := qQ (HS0.o.below hd.below); clear hd; clear h0 hz; have h0 := handCells HS9.o.hb; have hz := HSt.frozen HS9.o))
  first | go_end0 | ((try simp only [Exit.inBlock, Exit.then]); refine bodyPost_ret (results_none rfl _ _ _) rfl ?_)
  exact ⟨⟨_, rfl⟩, _, _, _, ((HS9.o.set5 (loadF x.m 4)).set10 1)⟩
theorem hand_again1 (k : HK) (x : Hd) (x' : Hd) (n0 : x.lk = 1) (n2 : ¬ (1 : Int) ≥ wrap64 (2 + wrap64 (2 * k.c.w))) (hx : x' = againT k x x.f.f3 (decide (¬ loadF x.m 5 = x.f.f3))) : HDoes 82 [] k x (x') := by
 intro W g v1 vm ve h
 obtain ⟨A1, c1, rfl⟩ := Kd.R_slice h.rs
 obtain ⟨Am, cm, rfl⟩ := Kd.R_slice h.rm
 obtain ⟨Ae, ce, rfl⟩ := Kd.R_slice h.re
 have HS0 := qQ h
 clear h
 show Calls Tryz.prog 82 #[.pointer (some ⟨g, 0, none⟩)] W _
 go_enter Tryz.func82, Tryz.ntmps82
 have h0 := handCells HS0.o.hb; have hz := HSt.frozen HS0.o
 unfold againT at hx
 have e1 : wrap64 (x.lk + 1) = 2 := by rw [n0]; decide +kernel
 simp only [e1] at hx
 clear e1
 go_wp2
 refine zS 13 [] (fun W' => W'.heap[g]? = some (handO k x (.slice A1 x.st.length c1) (.slice Am x.m.length cm) (.slice Ae x.ev.length ce))) HS0.o.drew.hb fun hHeld => ?_
 refine zY 0 1 76 ?_
 refine zY 1 3 77 ?_
 refine zY 2 7 78 ?_
 refine zT 3 15 79 ?_ (hy := zy5)
 refine zY 5 47 81 ?_
 refine zY 6 111 82 ?_
 refine zY 7 239 83 ?_
 refine zY 8 495 84 ?_
 refine zY 9 1007 85 ?_
 refine zT 10 2031 86 ?_ (hy := zy5)
 refine zO 4 2047 80 fun K hK => ?_
 go_simp
 refine (Load_calls _ _ x.m 5 _ (Kd.R_reads' (HS0.o.drew).rm).2.2 (Kd.R_reads' (HS0.o.drew).rm).2.1).mono ?_
 rintro e w1 ⟨rfl, hd⟩
 have HS1 := qQ ((HS0.o.drew).below (hd.below))
 clear hd
 refine hK.out _ _ HS1.o.hb (fun hHeld => ?_)
 refine zY 11 4095 87 ?_
 refine zY 12 8191 4 ?_
 refine zD ?_
 clear hHeld
 clear h0 hz
 have h0 := handCells HS1.o.hb
 have hz := HSt.frozen HS1.o
 by_cases n6 : loadF x.m 5 = x.f.f3
 ·rw [decide_eq_false (fun h => h n6)] at hx
  simp only [Bool.false_eq_true, if_false] at hx
  by_cases n5 : wrap64 (2 + wrap64 (2 * k.c.w)) = 2
  ·rw [if_pos n5.symm] at hx
   subst hx
   go_wp2
   first | go_end0 | ((try simp only [Exit.inBlock, Exit.then]); refine bodyPost_ret (results_none rfl _ _ _) rfl ?_)
   exact ⟨⟨_, rfl⟩, _, _, _, ((((HS1.o.set10 (2)).set0 8).set5 0).set10 0)⟩
  ·rw [if_neg (fun h => n5 h.symm)] at hx
   subst hx
   go_wp2
   first | go_end0 | ((try simp only [Exit.inBlock, Exit.then]); refine bodyPost_ret (results_none rfl _ _ _) rfl ?_)
   exact ⟨⟨_, rfl⟩, _, _, _, (HS1.o.set10 (2))⟩
 ·rw [decide_eq_true n6] at hx
  simp only [if_true] at hx
  subst hx
  go_wp2_with (first | (go_at_call 108; with_reducible refine (hand_to k x 1 _ g _ _ _ HS1.o.self).mono ?_; rintro e w2 ⟨⟨u_, rfl⟩, va, vb, vc, hs⟩; obtain ⟨A1_2, c1_2, e1⟩ := Kd.R_slice hs.rs; subst e1; obtain ⟨Am_2, cm_2, e2⟩ := Kd.R_slice hs.rm; subst e2; obtain ⟨Ae_2, ce_2, e3⟩ := Kd.R_slice hs.re; subst e3; have HS2 := qQ (HS1.o.tr hs); clear hs; clear h0 hz; have h0 := handCells HS2.o.hb; have hz := HSt.frozen HS2.o))
  first | go_end0 | ((try simp only [Exit.inBlock, Exit.then]); refine bodyPost_ret (results_none rfl _ _ _) rfl ?_)
  exact ⟨⟨_, rfl⟩, _, _, _, HS2.o⟩
theorem hand_look (k : HK) (x : Hd) (f' : S66) (m' : List Int) (hs : STEP (whoF x.f) k.c x.f x.m f' m') (v : Int) (x' : Hd) (hv : draw_Victim.f k.d k.wn k.c.w = some v) (hx : x' = if f'.f6 = 0 then { x with f := f', m := m' } else if f'.f6 = 1 then { x with f := f', m := m', pc := 4 } else if x.pc = 2 ∧ 0 ≤ v then { x with m := m', pc := 3, f := ⟨2, 0, v, 0, 0, 0, 0⟩ } else if x.sp ≤ 0 then { x with m := m', pc := 5, f := ⟨5, 0, k.wn, 0, 0, 0, 0⟩ } else { x with m := m', sp := wrap64 (x.sp - 1), pc := 2, f := ⟨4, 0, k.wn, 0, 0, 0, 0⟩ }) : HDoes 78 [] k x (x') := by
 intro W g v1 vm ve h
 obtain ⟨A1, c1, rfl⟩ := Kd.R_slice h.rs
 obtain ⟨Am, cm, rfl⟩ := Kd.R_slice h.rm
 obtain ⟨Ae, ce, rfl⟩ := Kd.R_slice h.re
 have HS0 := qQ h
 have HHS := qQ hs
 have HHV := qQ hv
 clear h hs hv
 show Calls Tryz.prog 78 #[.pointer (some ⟨g, 0, none⟩)] W _
 go_enter Tryz.func78, Tryz.ntmps78
 have h0 := handCells HS0.o.hb; have hz := HSt.frozen HS0.o
 refine wp_scope_fwd ?_
 go_wp2
 refine zS 15 [] (fun W' => W'.heap[g]? = some (handO k x (.slice A1 x.st.length c1) (.slice Am x.m.length cm) (.slice Ae x.ev.length ce))) HS0.o.drew.hb fun hHeld => ?_
 refine zY 0 1 3 ?_
 refine zY 1 3 4 ?_
 refine zY 2 7 5 ?_
 refine zT 3 15 6 ?_ (hy := zy5)
 refine zY 4 31 7 ?_
 refine zY 5 63 8 ?_
 refine zY 6 127 9 ?_
 refine zT 7 255 10 ?_ (hy := zy5)
 refine zY 8 511 11 ?_
 refine zY 9 1023 12 ?_
 refine zY 10 2047 13 ?_
 refine zY 11 4095 14 ?_
 refine zT 12 8191 15 ?_ (hy := zy5)
 refine zO 13 16383 16 fun K hK => ?_
 go_simp
 refine (draw_Victim.calls k.d k.wn k.c.w v _ HHV.o).mono ?_
 rintro e w1 ⟨rfl, hd⟩
 have HS1 := qQ (HS0.o.drew.below hd.below)
 clear hd
 refine hK.out _ _ HS1.o.hb (fun hHeld => ?_)
 refine zY 14 32767 2 ?_
 refine zD ?_
 clear hHeld
 clear h0 hz
 have h0 := handCells HS1.o.hb
 have hz := HSt.frozen HS1.o
 by_cases n0 : f'.f6 = 0
 ·rw [if_pos n0] at hx
  subst hx
  go_wp2_with (first | (go_at_call 107; with_reducible refine (hand_call k x f' m' HHS.o _ g _ _ _ HS1.o.self).mono ?_; rintro e w2 ⟨rfl, va, vb, vc, hs⟩; obtain ⟨A1_2, c1_2, e1⟩ := Kd.R_slice hs.rs; subst e1; obtain ⟨Am_2, cm_2, e2⟩ := Kd.R_slice hs.rm; subst e2; obtain ⟨Ae_2, ce_2, e3⟩ := Kd.R_slice hs.re; subst e3; have HS2 := qQ (HS1.o.tr hs); clear hs; clear h0 hz; have h0 := handCells HS2.o.hb; have hz := HSt.frozen HS2.o))
  simp only [fwd]
  refine bodyPost_ret (results_none rfl _ _ _) rfl ?_
  exact ⟨⟨_, rfl⟩, _, _, _, HS2.o⟩
 have nb : (f'.f6 != 0) = true := by simpa using n0
 by_cases n2 : f'.f6 = 1
 ·rw [if_neg n0, if_pos n2] at hx
  subst hx
  go_wp2_with (first | (go_at_call 107; with_reducible refine (hand_call k x f' m' HHS.o _ g _ _ _ HS1.o.self).mono ?_; rintro e w3 ⟨rfl, va, vb, vc, hs⟩; obtain ⟨A1_3, c1_3, e1⟩ := Kd.R_slice hs.rs; subst e1; obtain ⟨Am_3, cm_3, e2⟩ := Kd.R_slice hs.rm; subst e2; obtain ⟨Ae_3, ce_3, e3⟩ := Kd.R_slice hs.re; subst e3; have HS3 := qQ (HS1.o.tr hs); clear hs; clear h0 hz; have h0 := handCells HS3.o.hb; have hz := HSt.frozen HS3.o))
  refine wp_goto ?_
  refine Exists.intro _ (And.intro rfl ?_)
  go_wp2
  simp only [Exit.noGoto]
  first | go_end0 | refine bodyPost_ret (results_none rfl _ _ _) rfl ?_
  exact ⟨⟨_, rfl⟩, _, _, _, (HS3.o.set0 4)⟩
 by_cases n3 : x.pc = 2 ∧ 0 ≤ v
 ·rw [if_neg n0, if_neg n2, if_pos n3] at hx
  subst hx
  obtain ⟨n4, n5⟩ := n3
  go_wp2_with (first | (go_at_call 107; with_reducible refine (hand_call k x f' m' HHS.o _ g _ _ _ HS1.o.self).mono ?_; rintro e w4 ⟨rfl, va, vb, vc, hs⟩; obtain ⟨A1_4, c1_4, e1⟩ := Kd.R_slice hs.rs; subst e1; obtain ⟨Am_4, cm_4, e2⟩ := Kd.R_slice hs.rm; subst e2; obtain ⟨Ae_4, ce_4, e3⟩ := Kd.R_slice hs.re; subst e3; have HS4 := qQ (HS1.o.tr hs); clear hs; clear h0 hz; have h0 := handCells HS4.o.hb; have hz := HSt.frozen HS4.o) | (go_at_call 111; with_reducible refine (hand_with k { x with f := f', m := m' } 3 2 v 0 _ g _ _ _ HS4.o.self).mono ?_; rintro e w5 ⟨⟨u_, rfl⟩, va, vb, vc, hs⟩; obtain ⟨A1_5, c1_5, e1⟩ := Kd.R_slice hs.rs; subst e1; obtain ⟨Am_5, cm_5, e2⟩ := Kd.R_slice hs.rm; subst e2; obtain ⟨Ae_5, ce_5, e3⟩ := Kd.R_slice hs.re; subst e3; have HS5 := qQ (HS4.o.tr hs); clear hs; clear h0 hz; have h0 := handCells HS5.o.hb; have hz := HSt.frozen HS5.o))
  simp only [fwd]
  refine bodyPost_ret (results_none rfl _ _ _) rfl ?_
  exact ⟨⟨_, rfl⟩, _, _, _, HS5.o⟩
 rw [if_neg n0, if_neg n2, if_neg n3] at hx
 have n6 : ¬ x.pc = 2 ∨ (x.pc = 2 ∧ ¬ 0 ≤ v) := by omega
 clear n3
 rcases n6 with n4 | ⟨n4, n5⟩
 all_goals
  by_cases n7 : x.sp ≤ 0
  ·rw [if_pos n7] at hx
   subst hx
   go_wp2_with (first | (go_at_call 107; with_reducible refine (hand_call k x f' m' HHS.o _ g _ _ _ HS1.o.self).mono ?_; rintro e w6 ⟨rfl, va, vb, vc, hs⟩; obtain ⟨A1_6, c1_6, e1⟩ := Kd.R_slice hs.rs; subst e1; obtain ⟨Am_6, cm_6, e2⟩ := Kd.R_slice hs.rm; subst e2; obtain ⟨Ae_6, ce_6, e3⟩ := Kd.R_slice hs.re; subst e3; have HS6 := qQ (HS1.o.tr hs); clear hs; clear h0 hz; have h0 := handCells HS6.o.hb; have hz := HSt.frozen HS6.o))
   refine wp_goto ?_
   refine Exists.intro _ (And.intro rfl ?_)
   go_wp2_with (first | (go_at_call 111; with_reducible refine (hand_with k { x with f := f', m := m' } 5 5 k.wn 0 _ g _ _ _ HS6.o.self).mono ?_; rintro e w7 ⟨⟨u_, rfl⟩, va, vb, vc, hs⟩; obtain ⟨A1_7, c1_7, e1⟩ := Kd.R_slice hs.rs; subst e1; obtain ⟨Am_7, cm_7, e2⟩ := Kd.R_slice hs.rm; subst e2; obtain ⟨Ae_7, ce_7, e3⟩ := Kd.R_slice hs.re; subst e3; have HS7 := qQ (HS6.o.tr hs); clear hs; clear h0 hz; have h0 := handCells HS7.o.hb; have hz := HSt.frozen HS7.o))
   simp only [Exit.noGoto]
   first | go_end0 | refine bodyPost_ret (results_none rfl _ _ _) rfl ?_
   exact ⟨⟨_, rfl⟩, _, _, _, HS7.o⟩
  ·rw [if_neg n7] at hx
   subst hx
   go_wp2_with (first | (go_at_call 107; with_reducible refine (hand_call k x f' m' HHS.o _ g _ _ _ HS1.o.self).mono ?_; rintro e w8 ⟨rfl, va, vb, vc, hs⟩; obtain ⟨A1_8, c1_8, e1⟩ := Kd.R_slice hs.rs; subst e1; obtain ⟨Am_8, cm_8, e2⟩ := Kd.R_slice hs.rm; subst e2; obtain ⟨Ae_8, ce_8, e3⟩ := Kd.R_slice hs.re; subst e3; have HS8 := qQ (HS1.o.tr hs); clear hs; clear h0 hz; have h0 := handCells HS8.o.hb; have hz := HSt.frozen HS8.o) | (go_at_call 111; with_reducible refine (hand_with k { x with f := f', m := m', sp := wrap64 (x.sp - 1) } 2 4 k.wn 0 _ g _ _ _ ((HS8.o.set9 (wrap64 (x.sp - 1)))).self).mono ?_; rintro e w9 ⟨⟨u_, rfl⟩, va, vb, vc, hs⟩; obtain ⟨A1_9, c1_9, e1⟩ := Kd.R_slice hs.rs; subst e1; obtain ⟨Am_9, cm_9, e2⟩ := Kd.R_slice hs.rm; subst e2; obtain ⟨Ae_9, ce_9, e3⟩ := Kd.R_slice hs.re; subst e3; have HS9 := qQ (((HS8.o.set9 (wrap64 (x.sp - 1)))).tr hs); clear hs; clear h0 hz; have h0 := handCells HS9.o.hb; have hz := HSt.frozen HS9.o))
   simp only [fwd]
   refine bodyPost_ret (results_none rfl _ _ _) rfl ?_
   exact ⟨⟨_, rfl⟩, _, _, _, HS9.o⟩
def kv3 : Kd (List Int) where
 sz := 1
 E := [3]
 K := (Kd.slice 3 (Kd.int .i64)).K
 M := fun w base ok l cs => ∃ A c, ∃ S : Nat → Prop, cs = [.slice A l.length c] ∧ l.length ≤ c ∧ (∀ k, S k → ok k ∧ base ≤ k ∧ k < w.heap.size ∧ ∃ q, q ∈ [3] ∧ ∃ cells, w.heap[k]? = some (.cells cells q (0, 0))) ∧ Kd.F (Kd.int .i64) w S A l.length l
 K_len := (Kd.slice 3 (Kd.int .i64)).K_len
 K_one := (Kd.slice 3 (Kd.int .i64)).K_one
 K_below := (Kd.slice 3 (Kd.int .i64)).K_below
 K_of_M := by
  rintro w base ok l cs ⟨A, c, S, rfl, h1, _, h2⟩
  exact ⟨A, c, rfl, h1, Kd.F_now h2⟩
 M_mono := by
  rintro w base ok ok' l cs hk ⟨A, c, S, rfl, h1, h3, h2⟩
  exact ⟨A, c, S, rfl, h1, fun k h => ⟨hk k (h3 k h).1, (h3 k h).2⟩, h2⟩
 M_bound := by
  rintro w base ok l cs ⟨A, c, S, rfl, h1, h3, h2⟩
  exact ⟨A, c, S, rfl, h1, fun k h => ⟨h3 k h, (h3 k h).2⟩, h2⟩
 M_move := by
  rintro w w1 base ok l cs hk ⟨A, c, S, rfl, h1, h3, h2⟩
  refine ⟨A, c, S, rfl, h1, fun k h => ?_, Kd.F_step h2 (fun k h _ => hk k (h3 k h).1)⟩
  obtain ⟨g1, g2, g3, q, g4, cells, g5⟩ := h3 k h
  exact ⟨g1, g2, blk_lt ((hk k g1).trans g5), q, g4, cells, (hk k g1).trans g5⟩
 M_lower := by
  rintro w base base' ok l cs hk ⟨A, c, S, rfl, h1, h3, h2⟩
  exact ⟨A, c, S, rfl, h1, fun k h => ⟨(h3 k h).1, Nat.le_trans hk (h3 k h).2.1, (h3 k h).2.2⟩, h2⟩
def k68v : Kd S68 := Kd.iso (Kd.pair (Kd.int .i64) (Kd.pair kv3 k66)) (fun x : S68 => (x.f0, x.f1, x.f2))
theorem kv3_R {w : World} {base : Nat} {ok : Nat → Prop} {l : List Int} {v : Value} (h : (Kd.int .i64).R 3 w base ok v l) : kv3.M w base ok l [v] := by
 obtain ⟨A, c, rfl⟩ := Kd.R_slice h
 exact ⟨A, c, _, rfl, (Kd.R_reads' h).2.1, fun k hk => hk, Kd.R_F (Kd.R_bound h)⟩
theorem k68v_openM {w : World} {base : Nat} {ok : Nat → Prop} {x : S68} {cs : List Value} (h : k68v.M w base ok x cs) : ∃ v1, cs = [.int .i64 x.f0, v1, .int .i64 x.f2.f0, .int .i64 x.f2.f1, .int .i64 x.f2.f2, .int .u64 x.f2.f3, .int .u64 x.f2.f4, .int .u64 x.f2.f5, .int .i64 x.f2.f6] ∧ kv3.M w base ok x.f1 [v1] := by
 obtain ⟨_, _, rfl, rfl, ⟨_, _, rfl, s1, s2⟩⟩ := h
 obtain ⟨A, c, S, rfl, g⟩ := s1
 obtain rfl := k66_openM s2
 exact ⟨_, rfl, A, c, S, rfl, g⟩
theorem k68v_mkM (w : World) (base : Nat) (ok : Nat → Prop) (x : S68) {v1 : Value} (g1 : kv3.M w base ok x.f1 [v1]) : k68v.M w base ok x [.int .i64 x.f0, v1, .int .i64 x.f2.f0, .int .i64 x.f2.f1, .int .i64 x.f2.f2, .int .u64 x.f2.f3, .int .u64 x.f2.f4, .int .u64 x.f2.f5, .int .i64 x.f2.f6] := ⟨[.int .i64 x.f0], [v1, .int .i64 x.f2.f0, .int .i64 x.f2.f1, .int .i64 x.f2.f2, .int .u64 x.f2.f3, .int .u64 x.f2.f4, .int .u64 x.f2.f5, .int .i64 x.f2.f6], rfl, rfl, ⟨[v1], [.int .i64 x.f2.f0, .int .i64 x.f2.f1, .int .i64 x.f2.f2, .int .u64 x.f2.f3, .int .u64 x.f2.f4, .int .u64 x.f2.f5, .int .i64 x.f2.f6], rfl, g1, (k66_mkM w base ok x.f2)⟩⟩
theorem k68v_R {w : World} {base : Nat} {ok : Nat → Prop} {l : List S68} {v : Value} (h : k68.R 68 w base ok v l) : k68v.R 68 w base ok v l := Kd.R_imp (d := k68) (d' := k68v) rfl (fun w base ok x cs hm => by
 obtain ⟨v1, rfl, g⟩ := k68_openM hm
 exact k68v_mkM w base ok x (kv3_R g)) h
theorem k68v_C {w : World} {A : Option Addr} {n : Nat} {l : List S68} (h : k68v.C w A n l) : k68.C w A n l := h
structure PL (w : World) (b : Nat) (c : Cf) (vT vM vW vS : Value) (t : List S45) (m : List Int) (ws : List S76) (ss : List S68) (W : World) : Prop where
 bel : Below w.heap.size w W
 hb : W.heap[b]? = some (.cells (pC c vT vM vW vS) 34 (0, 0))
 hg : w.heap.size ≤ b
 hT : k45.R 45 W w.heap.size (fun _ => True) vT t
 hM : (Kd.int .u64).R 38 W w.heap.size (fun _ => True) vM m
 hW : k76.R 76 W w.heap.size (fun _ => True) vW ws
 hS : k68v.R 68 W w.heap.size (fun _ => True) vS ss
def Keeps (o : Nat) (W W' : World) : Prop := W.heap.size ≤ W'.heap.size ∧ ∀ k cells q, W.heap[k]? = some (.cells cells q (0, 0)) → k ≠ o → q ≠ 34 → q ≠ 76 → q ≠ 68 → W'.heap[k]? = W.heap[k]?
theorem EE76 : k76.E = [116] := rfl
theorem EE68 : k68v.E = [3] := rfl
section
variable {w : World} {b : Nat} {c : Cf} {vT vM vW vS : Value} {t : List S45} {m : List Int} {ws : List S76} {ss : List S68} {W W1 : World}
theorem Keeps.below {o : Nat} {W2 : World} (h : Keeps o W W1) (hb : Below W1.heap.size W1 W2) : Keeps o W W2 :=
 ⟨Nat.le_trans h.1 hb.size, fun k cells q hk h1 h2 h3 h4 => (hb.block k (Nat.lt_of_lt_of_le (blk_lt hk) h.1)).trans (h.2 k cells q hk h1 h2 h3 h4)⟩
theorem Keeps.refl (o : Nat) (W : World) : Keeps o W W := ⟨Nat.le_refl _, fun _ _ _ _ _ _ _ _ => rfl⟩
theorem Keeps.set {o g q i : Nat} {cells : Array Value} {u : Value} (h : Keeps o W W1) (hc : W1.heap[g]? = some (.cells cells q (0, 0))) (hq : q = 34 ∨ q = 76 ∨ q = 68) : Keeps o W (W1.setCell ⟨g, i, none⟩ u) :=
 ⟨by simpa using h.1, fun k cs t hk h1 h2 h3 h4 => by
  have h5 := h.2 k cs t hk h1 h2 h3 h4
  by_cases hkg : k = g
  ·subst hkg
   rw [hk, hc] at h5
   simp at h5
   obtain ⟨-, rfl⟩ := h5
   rcases hq with e | e | e
   ·exact absurd e h2
   ·exact absurd e h3
   ·exact absurd e h4
  ·exact (Below.heap_setCell W1 ⟨g, i, none⟩ u k hkg).trans h5⟩
theorem PL.below (h : PL w b c vT vM vW vS t m ws ss W) (hb : Below W.heap.size W W1) : PL w b c vT vM vW vS t m ws ss W1 := ⟨below_then h.bel h.bel.size hb, blk_below h.hb hb, h.hg, Kd.R_below h.hT hb, Kd.R_below h.hM hb, Kd.R_below h.hW hb, Kd.R_below h.hS hb⟩
theorem PL.drew (h : PL w b c vT vM vW vS t m ws ss W) : PL w b c vT vM vW vS t m ws ss W.drew := h.below (below_drew (Below.refl _ _))
theorem PL.putM (h : PL w b c vT vM vW vS t m ws ss W) {v' : Value} {m' : List Int} {n : Nat} (hr : (Kd.int .u64).R 38 W n (fun _ => True) v' m') (hn : w.heap.size ≤ n) : PL w b c vT v' vW vS t m' ws ss (W.setCell ⟨b, 5, none⟩ v') :=
 ⟨h.bel.setCell (p := ⟨b, 5, none⟩) h.hg v', blk_set h.hb 5 v', h.hg, Kd.R_set h.hT h.hb (by rw [E45]; decide) _ _, Kd.R_set (Kd.R_lower hr hn) h.hb (T1 (by decide)) _ _, Kd.R_set h.hW h.hb (by rw [EE76]; decide) _ _, Kd.R_set h.hS h.hb (by rw [EE68]; decide) _ _⟩
end
theorem close_64 {w : World} {b x2 o : Nat} {c : Cf} {vT vM vW vS : Value} {t : List S45} {m : List Int} {ws : List S76} {ss : List S68} {W : World} (h : PL w b c vT vM vW vS t m ws ss W) (h2 : W.heap[x2]? = some (.cells #[.pointer (some ⟨b, 0, none⟩)] 86 (0, 0))) (hn : m.length ≤ 1000000) :
  Calls Tryz.prog 64 #[.pointer (some ⟨x2, 0, none⟩)] W fun e W' => (∃ v, e = .returned v) ∧ ∃ vM', PL w b c vT vM' vW vS t (storeF m 3 1) ws ss W' ∧ Keeps o W W' := by
 obtain ⟨A, cm, rfl⟩ := Kd.R_slice h.hM
 have HP := qQ h
 have H2 := qQ h2
 have HN := qQ hn
 clear h h2 hn
 go_enter Tryz.func64, Tryz.ntmps64
 go_wp2
 refine zS 9 [8] (fun W' => W'.heap[x2]? = some (.cells #[.pointer (some ⟨b, 0, none⟩)] 86 (0, 0)) ∧ W'.heap[b]? = some (.cells (pC c vT (.slice A m.length cm) vW vS) 34 (0, 0))) ⟨blk_drew H2.o, HP.o.drew.hb⟩ fun hHeld => ?_
 refine zT 0 1 1 ?_ (hy := zy16)
 refine zT 1 3 2 ?_ (hy := zy16)
 refine zY 2 7 3 ?_
 refine zY 3 15 4 ?_
 refine zT 4 31 5 ?_ (hy := zy16)
 refine zO 5 63 6 fun K hK => ?_
 go_simp
 refine (store65 A cm m 3 1 _ (Kd.R_reads' HP.o.drew.hM).2.2 (Kd.R_reads' HP.o.drew.hM).2.1 HN.o).mono ?_
 rintro e w1 ⟨v, rfl, hr, hd⟩
 obtain ⟨A1, c1, eo⟩ := Kd.R_slice hr
 subst eo
 have HP1 := qQ (HP.o.drew.below hd)
 have HR1 := qQ hr
 have HS1 := qQ HP.o.drew.bel.size
 have HK1 := qQ (((Keeps.refl o W).below (below_drew (Below.refl _ _))).below hd)
 have H21 := qQ (blk_below (blk_drew H2.o) hd)
 clear hr hd
 refine hK.out _ _ ⟨H21.o, HP1.o.hb⟩ (fun hHeld => ?_)
 refine zY 6 127 7 ?_
 refine zY 7 255 8 ?_
 refine zL 8 511 fun K hK => ?_
 have y0 := fun j => blk_cell HP1.o.hb j
 have y1 := fun j => blk_frozen HP1.o.hb j
 go_simp
 refine hK.out _ _ ?_
 refine zD ?_
 go_wp2
 first | go_end0 | refine bodyPost_ret (results_none rfl _ _ _) rfl ?_
 exact ⟨⟨_, rfl⟩, _, HP1.o.putM HR1.o HS1.o, HK1.o.set HP1.o.hb (Or.inl rfl)⟩
end Go.Proofs.YthoeodjgfelkhaaGreat.QT
