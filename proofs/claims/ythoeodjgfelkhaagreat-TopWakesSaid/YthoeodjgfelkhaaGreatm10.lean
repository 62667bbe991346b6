/- Part 10 of the claim on TopWakes: push's steps. No condition. -/
import Derived.Test.YthoeodjgfelkhaaGreatm09
set_option linter.unusedVariables false
set_option linter.unusedSimpArgs false
set_option maxRecDepth 100000
set_option maxHeartbeats 8000000
namespace Go.Proofs.YthoeodjgfelkhaaGreat.QT
open Go.RowKit Go.Proofs.YthoeodjgfelkhaaGreatW.PrintWords Go.Proofs.YthoeodjgfelkhaaGreatW.PrintLast Go.Proofs.YthoeodjgfelkhaaGreatW.PrintMore
attribute [local go_sem] max2_int min2_int max_two min_two
theorem push_bottom (f : S66) (c : Cf) (l : List Int) (p : Int) (hp : lay_Bottom.f c.w c.d c.i c.s f.f2 = some p) : Does 195 174 c f l ({ f with f4 := loadF l p, f1 := 1 }) (l) := by
 intro W g base v h
 obtain ⟨A, cp, rfl, hcp, hC⟩ := Kd.R_reads h.hr
 have HCP := qQ hcp
 have HS0 := qQ h
 have HHP := qQ hp
 clear hC hcp h hp
 go_enter Tryz.func174, Tryz.ntmps174
 have q0 := boxCells HS0.o.hb
 have z0 := boxFrozen HS0.o.hb
 go_wp2
 refine zS 20 [19] (fun W' => W'.heap[g]? = some (boxO f c (.slice A l.length cp) 195)) HS0.o.drew.hb fun hHeld => ?_
 refine zY 0 1 2 ?_
 refine zY 1 3 3 ?_
 refine zY 2 7 4 ?_
 refine zY 3 15 5 ?_
 refine zT 4 31 6 ?_ (hy := zy4)
 refine zY 5 63 7 ?_
 refine zY 6 127 8 ?_
 refine zY 7 255 9 ?_
 refine zT 8 511 10 ?_ (hy := zy4)
 refine zY 9 1023 11 ?_
 refine zY 10 2047 12 ?_
 refine zY 11 4095 13 ?_
 refine zY 12 8191 14 ?_
 refine zT 13 16383 15 ?_ (hy := zy4)
 refine zO 14 32767 16 fun K hK => ?_
 go_simp
 refine (lay_Bottom.calls c.w c.d c.i c.s f.f2 p _ HHP.o).mono ?_
 rintro e w1 ⟨rfl, hd⟩
 have HS1 := qQ ((HS0.o.drew).below (hd))
 clear hd
 refine hK.out _ _ HS1.o.hb (fun hHeld => ?_)
 refine zO 15 65535 17 fun K hK => ?_
 go_simp
 refine (Load_calls _ _ l p _ (Kd.R_reads' HS1.o.hr).2.2 HCP.o).mono ?_
 rintro e w2 ⟨rfl, hd⟩
 have HS2 := qQ (HS1.o.below (hd.below))
 clear hd
 refine hK.out _ _ HS2.o.hb (fun hHeld => ?_)
 refine zY 16 131071 18 ?_
 refine zY 17 262143 19 ?_
 refine zY 18 524287 20 ?_
 refine zL 19 1048575 fun K hK => ?_
 clear q0 z0
 have q0 := boxCells HS2.o.hb
 have z0 := boxFrozen HS2.o.hb
 go_simp
 refine hK.out _ _ ?_
 refine zD ?_
 have hs3 := HS2.o.set4 (loadF l p)
 generalize (w2).setCell ⟨g, 4, none⟩ (.int .u64 (loadF l p)) = w3 at hs3 ⊢
 have HS3 := qQ hs3
 clear hs3
 clear q0 z0
 have q0 := boxCells HS3.o.hb
 have z0 := boxFrozen HS3.o.hb
 go_wp2
 go_end0
 exact ⟨⟨_, rfl⟩, _, HS3.o.set1 1⟩
theorem push_top (f : S66) (c : Cf) (l : List Int) (p : Int) (f' : S66) (hp : lay_Top.f c.w c.d c.i c.s f.f2 = some p) (hf : (if IntKind.u64.wrap (f.f4 - loadF l p) ≥ IntKind.u64.wrap c.d then (⟨f.f0, 0, f.f2, f.f3, 0, 0, 2⟩ : S66) else { f with f5 := loadF l p, f1 := 2 }) = f') : Does 195 175 c f l (f') (l) := by
 intro W g base v h
 obtain ⟨A, cp, rfl, hcp, hC⟩ := Kd.R_reads h.hr
 have HCP := qQ hcp
 have HS0 := qQ h
 have HHP := qQ hp
 have HHF := qQ hf
 clear hC hcp h hp hf
 go_enter Tryz.func175, Tryz.ntmps175
 have q0 := boxCells HS0.o.hb
 have z0 := boxFrozen HS0.o.hb
 go_wp2
 refine zS 20 [19] (fun W' => W'.heap[g]? = some (boxO f c (.slice A l.length cp) 195)) HS0.o.drew.hb fun hHeld => ?_
 refine zY 0 1 2 ?_
 refine zY 1 3 3 ?_
 refine zY 2 7 4 ?_
 refine zY 3 15 5 ?_
 refine zT 4 31 6 ?_ (hy := zy4)
 refine zY 5 63 7 ?_
 refine zY 6 127 8 ?_
 refine zY 7 255 9 ?_
 refine zT 8 511 10 ?_ (hy := zy4)
 refine zY 9 1023 11 ?_
 refine zY 10 2047 12 ?_
 refine zY 11 4095 13 ?_
 refine zY 12 8191 14 ?_
 refine zT 13 16383 15 ?_ (hy := zy4)
 refine zO 14 32767 16 fun K hK => ?_
 go_simp
 refine (lay_Top.calls c.w c.d c.i c.s f.f2 p _ HHP.o).mono ?_
 rintro e w1 ⟨rfl, hd⟩
 have HS1 := qQ ((HS0.o.drew).below (hd))
 clear hd
 refine hK.out _ _ HS1.o.hb (fun hHeld => ?_)
 refine zO 15 65535 17 fun K hK => ?_
 go_simp
 refine (Load_calls _ _ l p _ (Kd.R_reads' HS1.o.hr).2.2 HCP.o).mono ?_
 rintro e w2 ⟨rfl, hd⟩
 have HS2 := qQ (HS1.o.below (hd.below))
 clear hd
 refine hK.out _ _ HS2.o.hb (fun hHeld => ?_)
 refine zY 16 131071 18 ?_
 refine zY 17 262143 19 ?_
 refine zY 18 524287 20 ?_
 refine zL 19 1048575 fun K hK => ?_
 clear q0 z0
 have q0 := boxCells HS2.o.hb
 have z0 := boxFrozen HS2.o.hb
 go_simp
 refine hK.out _ _ ?_
 refine zD ?_
 have hs3 := HS2.o.set5 (loadF l p)
 generalize (w2).setCell ⟨g, 5, none⟩ (.int .u64 (loadF l p)) = w3 at hs3 ⊢
 have HS3 := qQ hs3
 clear hs3
 clear q0 z0
 have q0 := boxCells HS3.o.hb
 have z0 := boxFrozen HS3.o.hb
 go_wp2
 have hs4 := HS3.o.set1 (2)
 generalize w3.setCell ⟨g, 1, none⟩ (.int .i64 (2)) = w4 at hs4 ⊢
 have HS4 := qQ hs4
 clear hs4
 clear q0 z0
 have q0 := boxCells HS4.o.hb
 have z0 := boxFrozen HS4.o.hb
 go_quiet (fail)
 have HS5 := qQ (HS4.o.drewN nq)
 have HF2 := HHF.o
 by_cases hc : IntKind.u64.wrap (f.f4 - loadF l p) ≥ IntKind.u64.wrap c.d
 ·rw [if_pos hc] at HF2
  subst HF2
  go_wp2
  refine zS 14 [13] (fun W' => W'.heap[g]? = some (boxO { { f with f5 := loadF l p } with f1 := 2 } c (.slice A l.length cp) 195)) HS5.o.drew.hb fun hHeld => ?_
  refine zY 0 1 43 ?_
  refine zY 1 3 44 ?_
  refine zY 2 7 45 ?_
  refine zY 3 15 46 ?_
  refine zT 4 31 47 ?_ (hy := zy4)
  refine zY 5 63 48 ?_
  refine zY 6 127 49 ?_
  refine zY 7 255 50 ?_
  refine zY 8 511 51 ?_
  refine zT 9 1023 52 ?_ (hy := zy4)
  refine zO 10 2047 53 fun K hK => ?_
  go_simp
  refine (frame_End.calls _ _ _ _ _ _ _ 2 f.f3 _ _ _ _ _ _ _ _ rfl).mono ?_
  rintro e w6 ⟨rfl, hd⟩
  have HS6 := qQ ((HS5.o.drew).below (hd))
  clear hd
  refine hK.out _ _ HS6.o.hb (fun hHeld => ?_)
  refine zY 11 4095 54 ?_
  refine zY 12 8191 55 ?_
  refine zL 13 16383 fun K hK => ?_
  clear q0 z0
  have q0 := boxCells HS6.o.hb
  have z0 := boxFrozen HS6.o.hb
  go_simp
  refine hK.out _ _ ?_
  refine zD ?_
  have hs7 := HS6.o.setF ⟨f.f0, 0, f.f2, f.f3, 0, 0, 2⟩
  have HS7 := qQ hs7
  clear hs7
  go_end0
  exact ⟨⟨_, rfl⟩, _, HS7.o⟩
 ·rw [if_neg hc] at HF2
  subst HF2
  go_wp2
  go_end0
  exact ⟨⟨_, rfl⟩, _, HS5.o⟩
theorem push_slot (f : S66) (c : Cf) (l : List Int) (p : Int) (hp : lay_Slot.f c.w c.d c.i c.s f.f2 f.f4 = some p) (hn : l.length ≤ 1000000) : Does 195 176 c f l ({ f with f1 := 3 }) (storeF l p f.f3) := by
 intro W g base v h
 obtain ⟨A, cp, rfl, hcp, hC⟩ := Kd.R_reads h.hr
 have HCP := qQ hcp
 have HS0 := qQ h
 have HHP := qQ hp
 have HHN := qQ hn
 clear hC hcp h hp hn
 go_enter Tryz.func176, Tryz.ntmps176
 have q0 := boxCells HS0.o.hb
 have z0 := boxFrozen HS0.o.hb
 go_wp2
 refine zS 29 [28] (fun W' => W'.heap[g]? = some (boxO f c (.slice A l.length cp) 195)) HS0.o.drew.hb fun hHeld => ?_
 refine zY 0 1 2 ?_
 refine zY 1 3 3 ?_
 refine zY 2 7 4 ?_
 refine zY 3 15 5 ?_
 refine zT 4 31 6 ?_ (hy := zy4)
 refine zY 5 63 7 ?_
 refine zY 6 127 8 ?_
 refine zY 7 255 9 ?_
 refine zT 8 511 10 ?_ (hy := zy4)
 refine zY 9 1023 11 ?_
 refine zY 10 2047 12 ?_
 refine zY 11 4095 13 ?_
 refine zY 12 8191 14 ?_
 refine zT 13 16383 15 ?_ (hy := zy4)
 refine zY 14 32767 16 ?_
 refine zY 15 65535 17 ?_
 refine zY 16 131071 18 ?_
 refine zY 17 262143 19 ?_
 refine zT 18 524287 20 ?_ (hy := zy4)
 refine zY 20 1572863 22 ?_
 refine zY 21 3670015 23 ?_
 refine zY 22 7864319 24 ?_
 refine zY 23 16252927 25 ?_
 refine zT 24 33030143 26 ?_ (hy := zy4)
 refine zO 19 33554431 21 fun K hK => ?_
 go_simp
 refine (lay_Slot.calls c.w c.d c.i c.s f.f2 f.f4 p _ HHP.o).mono ?_
 rintro e w1 ⟨rfl, hd⟩
 have HS1 := qQ ((HS0.o.drew).below (hd))
 clear hd
 refine hK.out _ _ HS1.o.hb (fun hHeld => ?_)
 refine zO 25 67108863 27 fun K hK => ?_
 go_simp
 refine (store65 _ _ l p f.f3 _ (Kd.R_reads' HS1.o.hr).2.2 HCP.o HHN.o).mono ?_
 rintro e w2 ⟨u2, rfl, ho, hb⟩
 obtain ⟨A2, c2, rfl⟩ := Kd.R_slice ho
 have HS2 := qQ (HS1.o.below hb)
 have HO2 := qQ (Kd.R_lower ho (Nat.le_trans HS2.o.le HS1.o.gb.size))
 clear ho hb
 refine hK.out _ _ HS2.o.hb (fun hHeld => ?_)
 refine zY 26 134217727 28 ?_
 refine zY 27 268435455 29 ?_
 refine zL 28 536870911 fun K hK => ?_
 clear q0 z0
 have q0 := boxCells HS2.o.hb
 have z0 := boxFrozen HS2.o.hb
 go_simp
 refine hK.out _ _ ?_
 refine zD ?_
 have hs3 := HS2.o.setM HO2.o
 generalize (w2).setCell ⟨g, 11, none⟩ (.slice A2 (storeF l p f.f3).length c2) = w3 at hs3 ⊢
 have HS3 := qQ hs3
 clear hs3
 clear q0 z0
 have q0 := boxCells HS3.o.hb
 have z0 := boxFrozen HS3.o.hb
 go_wp2
 go_end0
 exact ⟨⟨_, rfl⟩, _, HS3.o.set1 3⟩
theorem push_end (f : S66) (c : Cf) (l : List Int) (p : Int) (hp : lay_Bottom.f c.w c.d c.i c.s f.f2 = some p) (hn : l.length ≤ 1000000) : Does 195 177 c f l (⟨f.f0, 0, f.f2, f.f3, 0, 0, 1⟩) (storeF l p (IntKind.u64.wrap (f.f4 + 1))) := by
 intro W g base v h
 obtain ⟨A, cp, rfl, hcp, hC⟩ := Kd.R_reads h.hr
 have HCP := qQ hcp
 have HS0 := qQ h
 have HHP := qQ hp
 have HHN := qQ hn
 clear hC hcp h hp hn
 go_enter Tryz.func177, Tryz.ntmps177
 have q0 := boxCells HS0.o.hb
 have z0 := boxFrozen HS0.o.hb
 go_wp2
 refine zS 25 [24] (fun W' => W'.heap[g]? = some (boxO f c (.slice A l.length cp) 195)) HS0.o.drew.hb fun hHeld => ?_
 refine zY 0 1 2 ?_
 refine zY 1 3 3 ?_
 refine zY 2 7 4 ?_
 refine zY 3 15 5 ?_
 refine zT 4 31 6 ?_ (hy := zy4)
 refine zY 5 63 7 ?_
 refine zY 6 127 8 ?_
 refine zY 7 255 9 ?_
 refine zT 8 511 10 ?_ (hy := zy4)
 refine zY 9 1023 11 ?_
 refine zY 10 2047 12 ?_
 refine zY 11 4095 13 ?_
 refine zY 12 8191 14 ?_
 refine zT 13 16383 15 ?_ (hy := zy4)
 refine zY 15 49151 17 ?_
 refine zY 16 114687 18 ?_
 refine zY 17 245759 19 ?_
 refine zY 18 507903 20 ?_
 refine zT 19 1032191 21 ?_ (hy := zy4)
 refine zY 20 2080767 22 ?_
 refine zO 14 2097151 16 fun K hK => ?_
 go_simp
 refine (lay_Bottom.calls c.w c.d c.i c.s f.f2 p _ HHP.o).mono ?_
 rintro e w1 ⟨rfl, hd⟩
 have HS1 := qQ ((HS0.o.drew).below (hd))
 clear hd
 refine hK.out _ _ HS1.o.hb (fun hHeld => ?_)
 refine zO 21 4194303 23 fun K hK => ?_
 go_simp
 refine (store65 _ _ l p (IntKind.u64.wrap (f.f4 + 1)) _ (Kd.R_reads' HS1.o.hr).2.2 HCP.o HHN.o).mono ?_
 rintro e w2 ⟨u2, rfl, ho, hb⟩
 obtain ⟨A2, c2, rfl⟩ := Kd.R_slice ho
 have HS2 := qQ (HS1.o.below hb)
 have HO2 := qQ (Kd.R_lower ho (Nat.le_trans HS2.o.le HS1.o.gb.size))
 clear ho hb
 refine hK.out _ _ HS2.o.hb (fun hHeld => ?_)
 refine zY 22 8388607 24 ?_
 refine zY 23 16777215 25 ?_
 refine zL 24 33554431 fun K hK => ?_
 clear q0 z0
 have q0 := boxCells HS2.o.hb
 have z0 := boxFrozen HS2.o.hb
 go_simp
 refine hK.out _ _ ?_
 refine zD ?_
 have hs3 := HS2.o.setM HO2.o
 generalize (w2).setCell ⟨g, 11, none⟩ (.slice A2 (storeF l p (IntKind.u64.wrap (f.f4 + 1))).length c2) = w3 at hs3 ⊢
 have HS3 := qQ hs3
 clear hs3
 clear q0 z0
 have q0 := boxCells HS3.o.hb
 have z0 := boxFrozen HS3.o.hb
 try go_wp2
 refine zS 14 [13] (fun W' => W'.heap[g]? = some (boxO f c (.slice A2 (storeF l p (IntKind.u64.wrap (f.f4 + 1))).length c2) 195)) HS3.o.drew.hb fun hHeld => ?_
 refine zY 0 1 26 ?_
 refine zY 1 3 27 ?_
 refine zY 2 7 28 ?_
 refine zY 3 15 29 ?_
 refine zT 4 31 30 ?_ (hy := zy4)
 refine zY 5 63 31 ?_
 refine zY 6 127 32 ?_
 refine zY 7 255 33 ?_
 refine zY 8 511 34 ?_
 refine zT 9 1023 35 ?_ (hy := zy4)
 refine zO 10 2047 36 fun K hK => ?_
 go_simp
 refine (frame_End.calls _ _ _ _ _ _ _ 1 f.f3 _ _ _ _ _ _ _ _ rfl).mono ?_
 rintro e w4 ⟨rfl, hd⟩
 have HS4 := qQ ((HS3.o.drew).below (hd))
 clear hd
 refine hK.out _ _ HS4.o.hb (fun hHeld => ?_)
 refine zY 11 4095 37 ?_
 refine zY 12 8191 38 ?_
 refine zL 13 16383 fun K hK => ?_
 clear q0 z0
 have q0 := boxCells HS4.o.hb
 have z0 := boxFrozen HS4.o.hb
 go_simp
 refine hK.out _ _ ?_
 refine zD ?_
 have hs5 := HS4.o.setF ⟨f.f0, 0, f.f2, f.f3, 0, 0, 1⟩
 have HS5 := qQ hs5
 clear hs5
 go_end0
 exact ⟨⟨_, rfl⟩, _, HS5.o⟩
end Go.Proofs.YthoeodjgfelkhaaGreat.QT
