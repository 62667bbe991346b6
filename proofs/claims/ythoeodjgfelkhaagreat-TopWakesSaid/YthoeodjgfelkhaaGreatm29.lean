/- Part 29 of the claim on TopWakes: the hand's again. No condition. -/
import Derived.Test.YthoeodjgfelkhaaGreatm28
set_option linter.unusedVariables false
set_option linter.unusedSimpArgs false
set_option maxRecDepth 100000
set_option maxHeartbeats 8000000
namespace Go.Proofs.YthoeodjgfelkhaaGreat.QT
open Go.RowKit Go.Proofs.YthoeodjgfelkhaaGreatW.PrintWords Go.Proofs.YthoeodjgfelkhaaGreatW.PrintLast Go.Proofs.YthoeodjgfelkhaaGreatW.PrintMore
attribute [local go_sem] max2_int min2_int max_two min_two
theorem hand_again2 (k : HK) (x : Hd) (x' : Hd) (p : Int) (n0 : ¬ x.lk < 0) (n1 : ¬ x.lk ≥ wrap64 (2 + wrap64 (2 * k.c.w))) (n2 : ¬ x.lk = 0) (n3 : ¬ x.lk = 1) (n4 : x.lk % 2 = 0) (hp : lay_Top.f k.c.w k.c.d k.c.i k.c.s (wrap64 (Int.tdiv (wrap64 (x.lk - 2)) 2)) = some p) (hx : x' = againT k x (loadF x.m p) false) : HDoes 82 [] k x (x') := by
 intro W g v1 vm ve h
 obtain ⟨A1, c1, rfl⟩ := Kd.R_slice h.rs
 obtain ⟨Am, cm, rfl⟩ := Kd.R_slice h.rm
 obtain ⟨Ae, ce, rfl⟩ := Kd.R_slice h.re
 have HS0 := qQ h
 have HHP := qQ hp
 clear h hp
 show Calls Tryz.prog 82 #[.pointer (some ⟨g, 0, none⟩)] W _
 go_enter Tryz.func82, Tryz.ntmps82
 have h0 := handCells HS0.o.hb; have hz := HSt.frozen HS0.o
 unfold againT at hx
 simp only [Bool.false_eq_true, if_false] at hx
 go_wp2
 refine zS 17 [16] (fun W' => W'.heap[g]? = some (handO k x (.slice A1 x.st.length c1) (.slice Am x.m.length cm) (.slice Ae x.ev.length ce))) HS0.o.drew.hb fun hHeld => ?_
 refine zY 0 1 92 ?_
 refine zY 1 3 93 ?_
 refine zY 2 7 94 ?_
 refine zY 3 15 95 ?_
 refine zT 4 31 96 ?_ (hy := zy5)
 refine zY 5 63 97 ?_
 refine zY 6 127 98 ?_
 refine zY 7 255 99 ?_
 refine zT 8 511 100 ?_ (hy := zy5)
 refine zY 9 1023 101 ?_
 refine zO 10 2047 102 fun K hK => ?_
 go_simp
 refine (lay_Top.calls k.c.w k.c.d k.c.i k.c.s _ p _ HHP.o).mono ?_
 rintro e w1 ⟨rfl, hd⟩
 have HS1 := qQ ((HS0.o.drew).below (hd))
 clear hd
 refine hK.out _ _ HS1.o.hb (fun hHeld => ?_)
 refine zO 11 4095 103 fun K hK => ?_
 go_simp
 refine (Load_calls _ _ x.m p _ (Kd.R_reads' HS1.o.rm).2.2 (Kd.R_reads' HS1.o.rm).2.1).mono ?_
 rintro e w2 ⟨rfl, hd⟩
 have HS2 := qQ (HS1.o.below (hd.below))
 clear hd
 refine hK.out _ _ HS2.o.hb (fun hHeld => ?_)
 refine zY 12 8191 104 ?_
 refine zY 13 16383 105 ?_
 refine zY 14 32767 106 ?_
 refine zY 15 65535 107 ?_
 refine zL 16 131071 fun K hK => ?_
 clear h0 hz
 have h0 := handCells HS2.o.hb
 have hz := HSt.frozen HS2.o
 go_simp
 refine hK.out _ _ ?_
 refine zD ?_
 have hs8 := HS2.o.set5 (loadF x.m p)
 generalize w2.setCell ⟨g, 5, none⟩ (.int .u64 (loadF x.m p)) = w8 at hs8 ⊢
 have HS8 := qQ hs8
 clear hs8 hHeld
 clear h0 hz
 have h0 := handCells HS8.o.hb
 have hz := HSt.frozen HS8.o
 by_cases n5 : wrap64 (x.lk + 1) = wrap64 (2 + wrap64 (2 * k.c.w))
 ·rw [if_pos n5] at hx
  subst hx
  go_wp2
  first | go_end0 | ((try simp only [Exit.inBlock, Exit.then]); refine bodyPost_ret (results_none rfl _ _ _) rfl ?_)
  exact ⟨⟨_, rfl⟩, _, _, _, ((((HS8.o.set10 (wrap64 (2 + wrap64 (2 * k.c.w)))).set0 8).set5 0).set10 0)⟩
 ·rw [if_neg n5] at hx
  subst hx
  go_wp2
  first | go_end0 | ((try simp only [Exit.inBlock, Exit.then]); refine bodyPost_ret (results_none rfl _ _ _) rfl ?_)
  exact ⟨⟨_, rfl⟩, _, _, _, (HS8.o.set10 (wrap64 (x.lk + 1)))⟩
theorem hand_again3 (k : HK) (x : Hd) (x' : Hd) (p : Int) (n0 : ¬ x.lk < 0) (n1 : ¬ x.lk ≥ wrap64 (2 + wrap64 (2 * k.c.w))) (n2 : ¬ x.lk = 0) (n3 : ¬ x.lk = 1) (n4 : ¬ x.lk % 2 = 0) (hp : lay_Bottom.f k.c.w k.c.d k.c.i k.c.s (wrap64 (Int.tdiv (wrap64 (x.lk - 2)) 2)) = some p) (hx : x' = againT k x x.f.f3 (decide (wrap64 (IntKind.u64.wrap (loadF x.m p - x.f.f3)) > 0))) : HDoes 82 [] k x (x') := by
 intro W g v1 vm ve h
 obtain ⟨A1, c1, rfl⟩ := Kd.R_slice h.rs
 obtain ⟨Am, cm, rfl⟩ := Kd.R_slice h.rm
 obtain ⟨Ae, ce, rfl⟩ := Kd.R_slice h.re
 have HS0 := qQ h
 have HHP := qQ hp
 clear h hp
 show Calls Tryz.prog 82 #[.pointer (some ⟨g, 0, none⟩)] W _
 go_enter Tryz.func82, Tryz.ntmps82
 have h0 := handCells HS0.o.hb; have hz := HSt.frozen HS0.o
 unfold againT at hx
 go_wp2
 refine zS 20 [] (fun W' => W'.heap[g]? = some (handO k x (.slice A1 x.st.length c1) (.slice Am x.m.length cm) (.slice Ae x.ev.length ce))) HS0.o.drew.hb fun hHeld => ?_
 refine zY 0 1 41 ?_
 refine zY 1 3 42 ?_
 refine zY 2 7 43 ?_
 refine zT 3 15 44 ?_ (hy := zy5)
 refine zY 4 31 45 ?_
 refine zY 5 63 46 ?_
 refine zY 6 127 47 ?_
 refine zT 7 255 48 ?_ (hy := zy5)
 refine zY 8 511 49 ?_
 refine zY 11 2559 52 ?_
 refine zY 12 6655 53 ?_
 refine zY 13 14847 54 ?_
 refine zY 14 31231 55 ?_
 refine zY 15 63999 56 ?_
 refine zT 16 129535 57 ?_ (hy := zy5)
 refine zO 9 130047 50 fun K hK => ?_
 go_simp
 refine (lay_Bottom.calls k.c.w k.c.d k.c.i k.c.s _ p _ HHP.o).mono ?_
 rintro e w1 ⟨rfl, hd⟩
 have HS1 := qQ ((HS0.o.drew).below (hd))
 clear hd
 refine hK.out _ _ HS1.o.hb (fun hHeld => ?_)
 refine zO 10 131071 51 fun K hK => ?_
 go_simp
 refine (Load_calls _ _ x.m p _ (Kd.R_reads' HS1.o.rm).2.2 (Kd.R_reads' HS1.o.rm).2.1).mono ?_
 rintro e w2 ⟨rfl, hd⟩
 have HS2 := qQ (HS1.o.below (hd.below))
 clear hd
 refine hK.out _ _ HS2.o.hb (fun hHeld => ?_)
 refine zO 17 262143 58 fun K hK => ?_
 go_simp
 refine (word_Far.calls (loadF x.m p) x.f.f3 _ _ rfl).mono ?_
 rintro e w3 ⟨rfl, hd⟩
 have HS3 := qQ (HS2.o.below (hd.below))
 clear hd
 refine hK.out _ _ HS3.o.hb (fun hHeld => ?_)
 refine zY 18 524287 59 ?_
 refine zY 19 1048575 4 ?_
 refine zD ?_
 clear hHeld
 clear h0 hz
 have h0 := handCells HS3.o.hb
 have hz := HSt.frozen HS3.o
 by_cases n6 : wrap64 (IntKind.u64.wrap (loadF x.m p - x.f.f3)) > 0
 ·rw [decide_eq_true n6] at hx
  simp only [if_true] at hx
  subst hx
  go_wp2_with (first | (go_at_call 108; with_reducible refine (hand_to k x 1 _ g _ _ _ HS3.o.self).mono ?_; rintro e w4 ⟨⟨u_, rfl⟩, va, vb, vc, hs⟩; obtain ⟨A1_4, c1_4, e1⟩ := Kd.R_slice hs.rs; subst e1; obtain ⟨Am_4, cm_4, e2⟩ := Kd.R_slice hs.rm; subst e2; obtain ⟨Ae_4, ce_4, e3⟩ := Kd.R_slice hs.re; subst e3; have HS4 := qQ (HS3.o.tr hs); clear hs; clear h0 hz; have h0 := handCells HS4.o.hb; have hz := HSt.frozen HS4.o))
  first | go_end0 | ((try simp only [Exit.inBlock, Exit.then]); refine bodyPost_ret (results_none rfl _ _ _) rfl ?_)
  exact ⟨⟨_, rfl⟩, _, _, _, HS4.o⟩
 ·rw [decide_eq_false n6] at hx
  simp only [Bool.false_eq_true, if_false] at hx
  by_cases n5 : wrap64 (x.lk + 1) = wrap64 (2 + wrap64 (2 * k.c.w))
  ·rw [if_pos n5] at hx
   subst hx
   go_wp2
   first | go_end0 | ((try simp only [Exit.inBlock, Exit.then]); refine bodyPost_ret (results_none rfl _ _ _) rfl ?_)
   exact ⟨⟨_, rfl⟩, _, _, _, ((((HS3.o.set10 (wrap64 (2 + wrap64 (2 * k.c.w)))).set0 8).set5 0).set10 0)⟩
  ·rw [if_neg n5] at hx
   subst hx
   go_wp2
   first | go_end0 | ((try simp only [Exit.inBlock, Exit.then]); refine bodyPost_ret (results_none rfl _ _ _) rfl ?_)
   exact ⟨⟨_, rfl⟩, _, _, _, (HS3.o.set10 (wrap64 (x.lk + 1)))⟩
end Go.Proofs.YthoeodjgfelkhaaGreat.QT
