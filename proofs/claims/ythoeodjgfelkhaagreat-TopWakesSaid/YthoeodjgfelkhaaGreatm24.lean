/- Part 24 of the claim on TopWakes: the hand's methods. No condition. -/
import Derived.Test.YthoeodjgfelkhaaGreatm20
set_option linter.unusedVariables false
set_option linter.unusedSimpArgs false
set_option maxRecDepth 100000
set_option maxHeartbeats 8000000
namespace Go.Proofs.YthoeodjgfelkhaaGreat.QT
open Go.RowKit Go.Proofs.YthoeodjgfelkhaaGreatW.PrintWords Go.Proofs.YthoeodjgfelkhaaGreatW.PrintLast Go.Proofs.YthoeodjgfelkhaaGreatW.PrintMore
attribute [local go_sem] max2_int min2_int max_two min_two
def STARTP (t : List S45) (s : List S116) (n : Int) (s' : List S116) : Prop :=
 ∀ (A0 : Option Addr) (c0 : Nat) (A1 : Option Addr) (c1 : Nat) (W : World), Kd.C k45 W A0 t.length t → t.length ≤ c0 → Kd.C k116 W A1 s.length s → s.length ≤ c1 → Calls Tryz.prog 128 #[.slice A0 t.length c0, .slice A1 s.length c1, .int .i64 n] W fun e w' => ∃ v, e = .returned v ∧ k116.R 116 w' W.heap.size (fun _ => True) v s' ∧ Below W.heap.size W w'
theorem hand_start (k : HK) (x : Hd) (v : Int) (s' : List S116) (hT : Kd.C k45 k.wb k.At k.t.length k.t) (hct : k.t.length ≤ k.ct) (hs : STARTP k.t x.st (wrap64 v) s') (hn : x.ev.length ≤ 1000000) : HDoes 109 [.int .u64 v] k x ({ x with st := s', ev := x.ev ++ [⟨2, wrap64 v, k.wn⟩] }) := by
 intro W g v1 vm ve h
 obtain ⟨A1, c1, rfl⟩ := Kd.R_slice h.rs
 obtain ⟨Am, cm, rfl⟩ := Kd.R_slice h.rm
 obtain ⟨Ae, ce, rfl⟩ := Kd.R_slice h.re
 have HS0 := qQ h
 have HHT := qQ hT
 have HHCT := qQ hct
 have HHS := qQ hs
 have HHN := qQ hn
 clear h hT hct hs hn
 show Calls Tryz.prog 109 #[.pointer (some ⟨g, 0, none⟩), .int .u64 v] W _
 go_enter Tryz.func109, Tryz.ntmps109
 have h0 := handCells HS0.o.hb; have hz := HSt.frozen HS0.o
 have ST := HHS.o
 unfold STARTP at ST
 have HST := qQ ST
 clear ST HHS
 go_wp2
 refine zS 17 [16] (fun W' => W'.heap[g]? = some (handO k x (.slice A1 x.st.length c1) (.slice Am x.m.length cm) (.slice Ae x.ev.length ce))) HS0.o.drew.hb fun hHeld => ?_
 refine zY 0 1 4 ?_
 refine zY 1 3 5 ?_
 refine zY 2 7 6 ?_
 refine zY 3 15 7 ?_
 refine zT 4 31 8 ?_ (hy := zy5)
 refine zY 5 63 9 ?_
 refine zY 6 127 10 ?_
 refine zY 7 255 11 ?_
 refine zY 8 511 12 ?_
 refine zT 9 1023 13 ?_ (hy := zy5)
 refine zY 10 2047 14 ?_
 refine zY 11 4095 15 ?_
 refine zO 12 8191 16 fun K hK => ?_
 go_simp
 refine (HST.o k.At k.ct A1 c1 W.drew (Kd.C_below HHT.o HS0.o.drew.bel) HHCT.o (Kd.R_reads' HS0.o.drew.rs).2.2 (Kd.R_reads' HS0.o.drew.rs).2.1).mono ?_
 rintro e w1 ⟨u, rfl, hr, hd⟩
 obtain ⟨A5, c5, eo⟩ := Kd.R_slice hr
 subst eo
 have HS1 := qQ (HS0.o.drew.below hd)
 have HM1 := qQ (Kd.R_lower hr HS0.o.drew.bel.size)
 clear hd hr
 refine hK.out _ _ HS1.o.hb (fun hHeld => ?_)
 refine zY 13 16383 17 ?_
 refine zY 14 32767 18 ?_
 refine zY 15 65535 19 ?_
 refine zL 16 131071 fun K hK => ?_
 clear h0 hz
 have h0 := handCells HS1.o.hb
 have hz := HSt.frozen HS1.o
 go_simp
 refine hK.out _ _ ?_
 refine zD ?_
 have hs2 := HS1.o.setS HM1.o
 generalize w1.setCell ⟨g, 1, none⟩ (.slice A5 s'.length c5) = w2 at hs2 ⊢
 have HS2 := qQ hs2
 clear hs2 hHeld
 clear h0 hz
 have h0 := handCells HS2.o.hb
 have hz := HSt.frozen HS2.o
 go_wp2_with (first | (go_at_call 118; with_reducible refine (hand_tell k { x with st := s' } 2 (wrap64 v) HHN.o _ g _ _ _ HS2.o.self).mono ?_; rintro e w3 ⟨⟨u_, rfl⟩, va, vb, vc, hs⟩; obtain ⟨A1_3, c1_3, e1⟩ := Kd.R_slice hs.rs; subst e1; obtain ⟨Am_3, cm_3, e2⟩ := Kd.R_slice hs.rm; subst e2; obtain ⟨Ae_3, ce_3, e3⟩ := Kd.R_slice hs.re; subst e3; have HS3 := qQ (HS2.o.tr hs); clear hs; clear h0 hz; have h0 := handCells HS3.o.hb; have hz := HSt.frozen HS3.o))
 first | go_end0 | ((try simp only [Exit.inBlock, Exit.then]); refine bodyPost_ret (results_none rfl _ _ _) rfl ?_)
 exact ⟨⟨_, rfl⟩, _, _, _, HS3.o⟩
theorem hand_prep (k : HK) (x : Hd) (f' : S66) (m' : List Int) (hs : STEP (whoF x.f) k.c x.f x.m f' m') : HDoes 80 [] k x ({ x with f := f', m := m', pc := 6 }) := by
 intro W g v1 vm ve h
 obtain ⟨A1, c1, rfl⟩ := Kd.R_slice h.rs
 obtain ⟨Am, cm, rfl⟩ := Kd.R_slice h.rm
 obtain ⟨Ae, ce, rfl⟩ := Kd.R_slice h.re
 have HS0 := qQ h
 have HHS := qQ hs
 clear h hs
 show Calls Tryz.prog 80 #[.pointer (some ⟨g, 0, none⟩)] W _
 go_enter Tryz.func80, Tryz.ntmps80
 have h0 := handCells HS0.o.hb; have hz := HSt.frozen HS0.o
 go_wp2_with (first | (go_at_call 107; with_reducible refine (hand_call k x f' m' HHS.o _ g _ _ _ HS0.o.self).mono ?_; rintro e w1 ⟨rfl, va, vb, vc, hs⟩; obtain ⟨A1_1, c1_1, e1⟩ := Kd.R_slice hs.rs; subst e1; obtain ⟨Am_1, cm_1, e2⟩ := Kd.R_slice hs.rm; subst e2; obtain ⟨Ae_1, ce_1, e3⟩ := Kd.R_slice hs.re; subst e3; have HS1 := qQ (HS0.o.tr hs); clear hs; clear h0 hz; have h0 := handCells HS1.o.hb; have hz := HSt.frozen HS1.o))
 first | go_end0 | ((try simp only [Exit.inBlock, Exit.then]); refine bodyPost_ret (results_none rfl _ _ _) rfl ?_)
 exact ⟨⟨_, rfl⟩, _, _, _, HS1.o.set0 6⟩
theorem hand_seek (k : HK) (x : Hd) (r : Int) (m' : List Int) (hn : x.m.length ≤ 1000000) (hq : addF x.m 1 1 = (m', r)) : HDoes 77 [] k x ({ x with m := m', sp := k.c.s, pc := 2, f := ⟨4, 0, k.wn, 0, 0, 0, 0⟩ }) := by
 intro W g v1 vm ve h
 obtain ⟨A1, c1, rfl⟩ := Kd.R_slice h.rs
 obtain ⟨Am, cm, rfl⟩ := Kd.R_slice h.rm
 obtain ⟨Ae, ce, rfl⟩ := Kd.R_slice h.re
 have HS0 := qQ h
 have HHN := qQ hn
 have HHQ := qQ hq
 clear h hn hq
 show Calls Tryz.prog 77 #[.pointer (some ⟨g, 0, none⟩)] W _
 go_enter Tryz.func77, Tryz.ntmps77
 have h0 := handCells HS0.o.hb; have hz := HSt.frozen HS0.o
 go_wp2_with (first | (go_at_call 110; with_reducible refine (hand_add k x 1 1 r m' HHN.o HHQ.o _ g _ _ _ HS0.o.self).mono ?_; rintro e w1 ⟨rfl, va, vb, vc, hs⟩; obtain ⟨A1_1, c1_1, e1⟩ := Kd.R_slice hs.rs; subst e1; obtain ⟨Am_1, cm_1, e2⟩ := Kd.R_slice hs.rm; subst e2; obtain ⟨Ae_1, ce_1, e3⟩ := Kd.R_slice hs.re; subst e3; have HS1 := qQ (HS0.o.tr hs); clear hs; clear h0 hz; have h0 := handCells HS1.o.hb; have hz := HSt.frozen HS1.o) | (go_at_call 111; with_reducible refine (hand_with k { x with m := m', sp := k.c.s } 2 4 k.wn 0 _ g _ _ _ ((HS1.o.set9 k.c.s)).self).mono ?_; rintro e w2 ⟨⟨u_, rfl⟩, va, vb, vc, hs⟩; obtain ⟨A1_2, c1_2, e1⟩ := Kd.R_slice hs.rs; subst e1; obtain ⟨Am_2, cm_2, e2⟩ := Kd.R_slice hs.rm; subst e2; obtain ⟨Ae_2, ce_2, e3⟩ := Kd.R_slice hs.re; subst e3; have HS2 := qQ (((HS1.o.set9 k.c.s)).tr hs); clear hs; clear h0 hz; have h0 := handCells HS2.o.hb; have hz := HSt.frozen HS2.o))
 first | go_end0 | ((try simp only [Exit.inBlock, Exit.then]); refine bodyPost_ret (results_none rfl _ _ _) rfl ?_)
 exact ⟨⟨_, rfl⟩, _, _, _, HS2.o⟩
theorem hand_leave (k : HK) (x : Hd) (r : Int) (m' : List Int) (hn : x.m.length ≤ 1000000) (hq : addF x.m 1 18446744073709551615 = (m', r)) : HDoes 81 [] k x ({ x with m := m', pc := 7, lk := 0 }) := by
 intro W g v1 vm ve h
 obtain ⟨A1, c1, rfl⟩ := Kd.R_slice h.rs
 obtain ⟨Am, cm, rfl⟩ := Kd.R_slice h.rm
 obtain ⟨Ae, ce, rfl⟩ := Kd.R_slice h.re
 have HS0 := qQ h
 have HHN := qQ hn
 have HHQ := qQ hq
 clear h hn hq
 show Calls Tryz.prog 81 #[.pointer (some ⟨g, 0, none⟩)] W _
 go_enter Tryz.func81, Tryz.ntmps81
 have h0 := handCells HS0.o.hb; have hz := HSt.frozen HS0.o
 go_wp2_with (first | (go_at_call 110; with_reducible refine (hand_add k x 1 18446744073709551615 r m' HHN.o HHQ.o _ g _ _ _ HS0.o.self).mono ?_; rintro e w1 ⟨rfl, va, vb, vc, hs⟩; obtain ⟨A1_1, c1_1, e1⟩ := Kd.R_slice hs.rs; subst e1; obtain ⟨Am_1, cm_1, e2⟩ := Kd.R_slice hs.rm; subst e2; obtain ⟨Ae_1, ce_1, e3⟩ := Kd.R_slice hs.re; subst e3; have HS1 := qQ (HS0.o.tr hs); clear hs; clear h0 hz; have h0 := handCells HS1.o.hb; have hz := HSt.frozen HS1.o))
 first | go_end0 | ((try simp only [Exit.inBlock, Exit.then]); refine bodyPost_ret (results_none rfl _ _ _) rfl ?_)
 exact ⟨⟨_, rfl⟩, _, _, _, ((HS1.o.set0 7).set10 0)⟩
theorem hand_commit (k : HK) (x : Hd) (f' : S66) (m' : List Int) (hs : STEP (whoF x.f) k.c x.f x.m f' m') (x' : Hd) (hx : x' = if f'.f6 = 0 then { x with f := f', m := m' } else { x with m := m', pc := 1, f := ⟨0, 0, 0, 0, 0, 0, 0⟩ }) : HDoes 83 [] k x (x') := by
 intro W g v1 vm ve h
 obtain ⟨A1, c1, rfl⟩ := Kd.R_slice h.rs
 obtain ⟨Am, cm, rfl⟩ := Kd.R_slice h.rm
 obtain ⟨Ae, ce, rfl⟩ := Kd.R_slice h.re
 have HS0 := qQ h
 have HHS := qQ hs
 clear h hs
 show Calls Tryz.prog 83 #[.pointer (some ⟨g, 0, none⟩)] W _
 go_enter Tryz.func83, Tryz.ntmps83
 have h0 := handCells HS0.o.hb; have hz := HSt.frozen HS0.o
 by_cases n0 : f'.f6 = 0
 ·rw [if_pos n0] at hx
  subst hx
  go_wp2_with (first | (go_at_call 107; with_reducible refine (hand_call k x f' m' HHS.o _ g _ _ _ HS0.o.self).mono ?_; rintro e w1 ⟨rfl, va, vb, vc, hs⟩; obtain ⟨A1_1, c1_1, e1⟩ := Kd.R_slice hs.rs; subst e1; obtain ⟨Am_1, cm_1, e2⟩ := Kd.R_slice hs.rm; subst e2; obtain ⟨Ae_1, ce_1, e3⟩ := Kd.R_slice hs.re; subst e3; have HS1 := qQ (HS0.o.tr hs); clear hs; clear h0 hz; have h0 := handCells HS1.o.hb; have hz := HSt.frozen HS1.o))
  first | go_end0 | ((try simp only [Exit.inBlock, Exit.then]); refine bodyPost_ret (results_none rfl _ _ _) rfl ?_)
  exact ⟨⟨_, rfl⟩, _, _, _, HS1.o⟩
 ·rw [if_neg n0] at hx
  subst hx
  go_wp2_with (first | (go_at_call 107; with_reducible refine (hand_call k x f' m' HHS.o _ g _ _ _ HS0.o.self).mono ?_; rintro e w2 ⟨rfl, va, vb, vc, hs⟩; obtain ⟨A1_2, c1_2, e1⟩ := Kd.R_slice hs.rs; subst e1; obtain ⟨Am_2, cm_2, e2⟩ := Kd.R_slice hs.rm; subst e2; obtain ⟨Ae_2, ce_2, e3⟩ := Kd.R_slice hs.re; subst e3; have HS2 := qQ (HS0.o.tr hs); clear hs; clear h0 hz; have h0 := handCells HS2.o.hb; have hz := HSt.frozen HS2.o) | (go_at_call 108; with_reducible refine (hand_to k { x with f := f', m := m' } 1 _ g _ _ _ HS2.o.self).mono ?_; rintro e w3 ⟨⟨u_, rfl⟩, va, vb, vc, hs⟩; obtain ⟨A1_3, c1_3, e1⟩ := Kd.R_slice hs.rs; subst e1; obtain ⟨Am_3, cm_3, e2⟩ := Kd.R_slice hs.rm; subst e2; obtain ⟨Ae_3, ce_3, e3⟩ := Kd.R_slice hs.re; subst e3; have HS3 := qQ (HS2.o.tr hs); clear hs; clear h0 hz; have h0 := handCells HS3.o.hb; have hz := HSt.frozen HS3.o))
  first | go_end0 | ((try simp only [Exit.inBlock, Exit.then]); refine bodyPost_ret (results_none rfl _ _ _) rfl ?_)
  exact ⟨⟨_, rfl⟩, _, _, _, HS3.o⟩
theorem hand_wake (k : HK) (x : Hd) (f' : S66) (m' : List Int) (hs : STEP (whoF x.f) k.c x.f x.m f' m') (x' : Hd) (hx : x' = if f'.f6 = 0 then { x with f := f', m := m' } else { x with m := m', pc := 9, f := ⟨0, 0, 0, 0, 0, 0, 0⟩ }) : HDoes 89 [] k x (x') := by
 intro W g v1 vm ve h
 obtain ⟨A1, c1, rfl⟩ := Kd.R_slice h.rs
 obtain ⟨Am, cm, rfl⟩ := Kd.R_slice h.rm
 obtain ⟨Ae, ce, rfl⟩ := Kd.R_slice h.re
 have HS0 := qQ h
 have HHS := qQ hs
 clear h hs
 show Calls Tryz.prog 89 #[.pointer (some ⟨g, 0, none⟩)] W _
 go_enter Tryz.func89, Tryz.ntmps89
 have h0 := handCells HS0.o.hb; have hz := HSt.frozen HS0.o
 by_cases n0 : f'.f6 = 0
 ·rw [if_pos n0] at hx
  subst hx
  go_wp2_with (first | (go_at_call 107; with_reducible refine (hand_call k x f' m' HHS.o _ g _ _ _ HS0.o.self).mono ?_; rintro e w1 ⟨rfl, va, vb, vc, hs⟩; obtain ⟨A1_1, c1_1, e1⟩ := Kd.R_slice hs.rs; subst e1; obtain ⟨Am_1, cm_1, e2⟩ := Kd.R_slice hs.rm; subst e2; obtain ⟨Ae_1, ce_1, e3⟩ := Kd.R_slice hs.re; subst e3; have HS1 := qQ (HS0.o.tr hs); clear hs; clear h0 hz; have h0 := handCells HS1.o.hb; have hz := HSt.frozen HS1.o))
  first | go_end0 | ((try simp only [Exit.inBlock, Exit.then]); refine bodyPost_ret (results_none rfl _ _ _) rfl ?_)
  exact ⟨⟨_, rfl⟩, _, _, _, HS1.o⟩
 ·rw [if_neg n0] at hx
  subst hx
  go_wp2_with (first | (go_at_call 107; with_reducible refine (hand_call k x f' m' HHS.o _ g _ _ _ HS0.o.self).mono ?_; rintro e w2 ⟨rfl, va, vb, vc, hs⟩; obtain ⟨A1_2, c1_2, e1⟩ := Kd.R_slice hs.rs; subst e1; obtain ⟨Am_2, cm_2, e2⟩ := Kd.R_slice hs.rm; subst e2; obtain ⟨Ae_2, ce_2, e3⟩ := Kd.R_slice hs.re; subst e3; have HS2 := qQ (HS0.o.tr hs); clear hs; clear h0 hz; have h0 := handCells HS2.o.hb; have hz := HSt.frozen HS2.o) | (go_at_call 108; with_reducible refine (hand_to k { x with f := f', m := m' } 9 _ g _ _ _ HS2.o.self).mono ?_; rintro e w3 ⟨⟨u_, rfl⟩, va, vb, vc, hs⟩; obtain ⟨A1_3, c1_3, e1⟩ := Kd.R_slice hs.rs; subst e1; obtain ⟨Am_3, cm_3, e2⟩ := Kd.R_slice hs.rm; subst e2; obtain ⟨Ae_3, ce_3, e3⟩ := Kd.R_slice hs.re; subst e3; have HS3 := qQ (HS2.o.tr hs); clear hs; clear h0 hz; have h0 := handCells HS3.o.hb; have hz := HSt.frozen HS3.o))
  first | go_end0 | ((try simp only [Exit.inBlock, Exit.then]); refine bodyPost_ret (results_none rfl _ _ _) rfl ?_)
  exact ⟨⟨_, rfl⟩, _, _, _, HS3.o⟩
theorem hand_see (k : HK) (x : Hd) (x' : Hd) (hx : x' = if loadF x.m 1 = 0 then { x with pc := 14, f := ⟨6, 0, k.wn, 0, 0, 0, 0⟩ } else { x with pc := 9, f := ⟨0, 0, 0, 0, 0, 0, 0⟩ }) : HDoes 88 [] k x (x') := by
 intro W g v1 vm ve h
 obtain ⟨A1, c1, rfl⟩ := Kd.R_slice h.rs
 obtain ⟨Am, cm, rfl⟩ := Kd.R_slice h.rm
 obtain ⟨Ae, ce, rfl⟩ := Kd.R_slice h.re
 have HS0 := qQ h
 clear h
 show Calls Tryz.prog 88 #[.pointer (some ⟨g, 0, none⟩)] W _
 go_enter Tryz.func88, Tryz.ntmps88
 have h0 := handCells HS0.o.hb; have hz := HSt.frozen HS0.o
 by_cases n0 : loadF x.m 1 = 0
 ·rw [if_pos n0] at hx
  subst hx
  go_wp2_with (first | (go_at_call 7; with_reducible refine (Load_calls Am cm x.m 1 _ (Kd.R_reads' HS0.o.rm).2.2 (Kd.R_reads' HS0.o.rm).2.1).mono ?_; rintro e w9 ⟨rfl, hd⟩; have HS9 := qQ (HS0.o.below hd.below); clear hd; clear h0 hz; have h0 := handCells HS9.o.hb; have hz := HSt.frozen HS9.o) | (go_at_call 111; with_reducible refine (hand_with k x 14 6 k.wn 0 _ g _ _ _ HS9.o.self).mono ?_; rintro e w1 ⟨⟨u_, rfl⟩, va, vb, vc, hs⟩; obtain ⟨A1_1, c1_1, e1⟩ := Kd.R_slice hs.rs; subst e1; obtain ⟨Am_1, cm_1, e2⟩ := Kd.R_slice hs.rm; subst e2; obtain ⟨Ae_1, ce_1, e3⟩ := Kd.R_slice hs.re; subst e3; have HS1 := qQ (HS9.o.tr hs); clear hs; clear h0 hz; have h0 := handCells HS1.o.hb; have hz := HSt.frozen HS1.o))
  first | go_end0 | ((try simp only [Exit.inBlock, Exit.then]); refine bodyPost_ret (results_none rfl _ _ _) rfl ?_)
  exact ⟨⟨_, rfl⟩, _, _, _, HS1.o⟩
 ·rw [if_neg n0] at hx
  subst hx
  go_wp2_with (first | (go_at_call 7; with_reducible refine (Load_calls Am cm x.m 1 _ (Kd.R_reads' HS0.o.rm).2.2 (Kd.R_reads' HS0.o.rm).2.1).mono ?_; rintro e w9 ⟨rfl, hd⟩; have HS9 := qQ (HS0.o.below hd.below); clear hd; clear h0 hz; have h0 := handCells HS9.o.hb; have hz := HSt.frozen HS9.o) | (go_at_call 108; with_reducible refine (hand_to k x 9 _ g _ _ _ HS9.o.self).mono ?_; rintro e w2 ⟨⟨u_, rfl⟩, va, vb, vc, hs⟩; obtain ⟨A1_2, c1_2, e1⟩ := Kd.R_slice hs.rs; subst e1; obtain ⟨Am_2, cm_2, e2⟩ := Kd.R_slice hs.rm; subst e2; obtain ⟨Ae_2, ce_2, e3⟩ := Kd.R_slice hs.re; subst e3; have HS2 := qQ (HS9.o.tr hs); clear hs; clear h0 hz; have h0 := handCells HS2.o.hb; have hz := HSt.frozen HS2.o))
  first | go_end0 | ((try simp only [Exit.inBlock, Exit.then]); refine bodyPost_ret (results_none rfl _ _ _) rfl ?_)
  exact ⟨⟨_, rfl⟩, _, _, _, HS2.o⟩
theorem hand_push (k : HK) (x : Hd) (f' : S66) (m' : List Int) (hs : STEP (whoF x.f) k.c x.f x.m f' m') (x' : Hd) (hx : x' = if f'.f6 = 0 then { x with f := f', m := m' } else if f'.f6 = 2 then { x with m := m', pc := 12, f := ⟨3, 0, k.wn, f'.f3, 0, 0, 0⟩ } else { x with m := m', pc := 13, f := ⟨0, 0, 0, 0, 0, 0, 0⟩ }) : HDoes 86 [] k x (x') := by
 intro W g v1 vm ve h
 obtain ⟨A1, c1, rfl⟩ := Kd.R_slice h.rs
 obtain ⟨Am, cm, rfl⟩ := Kd.R_slice h.rm
 obtain ⟨Ae, ce, rfl⟩ := Kd.R_slice h.re
 have HS0 := qQ h
 have HHS := qQ hs
 clear h hs
 show Calls Tryz.prog 86 #[.pointer (some ⟨g, 0, none⟩)] W _
 go_enter Tryz.func86, Tryz.ntmps86
 have h0 := handCells HS0.o.hb; have hz := HSt.frozen HS0.o
 by_cases n0 : f'.f6 = 0
 ·rw [if_pos n0] at hx
  subst hx
  go_wp2_with (first | (go_at_call 107; with_reducible refine (hand_call k x f' m' HHS.o _ g _ _ _ HS0.o.self).mono ?_; rintro e w1 ⟨rfl, va, vb, vc, hs⟩; obtain ⟨A1_1, c1_1, e1⟩ := Kd.R_slice hs.rs; subst e1; obtain ⟨Am_1, cm_1, e2⟩ := Kd.R_slice hs.rm; subst e2; obtain ⟨Ae_1, ce_1, e3⟩ := Kd.R_slice hs.re; subst e3; have HS1 := qQ (HS0.o.tr hs); clear hs; clear h0 hz; have h0 := handCells HS1.o.hb; have hz := HSt.frozen HS1.o))
  first | go_end0 | ((try simp only [Exit.inBlock, Exit.then]); refine bodyPost_ret (results_none rfl _ _ _) rfl ?_)
  exact ⟨⟨_, rfl⟩, _, _, _, HS1.o⟩
 by_cases n2 : f'.f6 = 2
 ·rw [if_neg n0, if_pos n2] at hx
  subst hx
  have nb : (f'.f6 != 0) = true := by simpa using n0
  go_wp2_with (first | (go_at_call 107; with_reducible refine (hand_call k x f' m' HHS.o _ g _ _ _ HS0.o.self).mono ?_; rintro e w2 ⟨rfl, va, vb, vc, hs⟩; obtain ⟨A1_2, c1_2, e1⟩ := Kd.R_slice hs.rs; subst e1; obtain ⟨Am_2, cm_2, e2⟩ := Kd.R_slice hs.rm; subst e2; obtain ⟨Ae_2, ce_2, e3⟩ := Kd.R_slice hs.re; subst e3; have HS2 := qQ (HS0.o.tr hs); clear hs; clear h0 hz; have h0 := handCells HS2.o.hb; have hz := HSt.frozen HS2.o))
  clear n2 n0 nb
  refine zS 12 [11] (fun W' => W'.heap[g]? = some (handO k { x with f := f', m := m' } (.slice A1_2 x.st.length c1_2) (.slice Am_2 m'.length cm_2) (.slice Ae_2 x.ev.length ce_2))) HS2.o.drew.hb fun hHeld => ?_
  refine zY 0 1 16 ?_
  refine zY 1 3 17 ?_
  refine zY 2 7 18 ?_
  refine zY 3 15 19 ?_
  refine zT 4 31 20 ?_ (hy := zy5)
  refine zY 5 63 21 ?_
  refine zY 6 127 22 ?_
  refine zY 7 255 23 ?_
  refine zY 8 511 24 ?_
  refine zY 9 1023 25 ?_
  refine zT 10 2047 26 ?_ (hy := zy5)
  refine last_ (i := 11) (N := (some 27)) (zM 12 4095) rfl rfl (by kernel_rfl) (by decide) (fun K hK => ?_)
  go_simp
  refine (hand_with k { x with f := f', m := m' } 12 3 k.wn f'.f3 _ g _ _ _ HS2.o.drew.self).mono ?_
  rintro e w8 ⟨⟨u_, rfl⟩, va, vb, vc, hs⟩
  have HS8 := qQ (HS2.o.drew.tr hs)
  clear hs
  refine hK.out _ _ ?_
  refine zD ?_
  clear hHeld
  try go_wp2
  first | go_end0 | ((try simp only [Exit.inBlock, Exit.then]); refine bodyPost_ret (results_none rfl _ _ _) rfl ?_)
  exact ⟨⟨_, rfl⟩, _, _, _, HS8.o⟩
 ·rw [if_neg n0, if_neg n2] at hx
  subst hx
  have nb : (f'.f6 != 0) = true := by simpa using n0
  go_wp2_with (first | (go_at_call 107; with_reducible refine (hand_call k x f' m' HHS.o _ g _ _ _ HS0.o.self).mono ?_; rintro e w3 ⟨rfl, va, vb, vc, hs⟩; obtain ⟨A1_3, c1_3, e1⟩ := Kd.R_slice hs.rs; subst e1; obtain ⟨Am_3, cm_3, e2⟩ := Kd.R_slice hs.rm; subst e2; obtain ⟨Ae_3, ce_3, e3⟩ := Kd.R_slice hs.re; subst e3; have HS3 := qQ (HS0.o.tr hs); clear hs; clear h0 hz; have h0 := handCells HS3.o.hb; have hz := HSt.frozen HS3.o) | (go_at_call 108; with_reducible refine (hand_to k { x with f := f', m := m' } 13 _ g _ _ _ HS3.o.self).mono ?_; rintro e w4 ⟨⟨u_, rfl⟩, va, vb, vc, hs⟩; obtain ⟨A1_4, c1_4, e1⟩ := Kd.R_slice hs.rs; subst e1; obtain ⟨Am_4, cm_4, e2⟩ := Kd.R_slice hs.rm; subst e2; obtain ⟨Ae_4, ce_4, e3⟩ := Kd.R_slice hs.re; subst e3; have HS4 := qQ (HS3.o.tr hs); clear hs; clear h0 hz; have h0 := handCells HS4.o.hb; have hz := HSt.frozen HS4.o))
  first | go_end0 | ((try simp only [Exit.inBlock, Exit.then]); refine bodyPost_ret (results_none rfl _ _ _) rfl ?_)
  exact ⟨⟨_, rfl⟩, _, _, _, HS4.o⟩
end Go.Proofs.YthoeodjgfelkhaaGreat.QT
