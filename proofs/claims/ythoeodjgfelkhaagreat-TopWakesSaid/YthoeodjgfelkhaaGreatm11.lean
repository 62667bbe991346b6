/- Part 11 of the claim on TopWakes: enq's steps; printed contracts. No condition. -/
import Derived.Test.YthoeodjgfelkhaaGreatm09
set_option linter.unusedVariables false
set_option linter.unusedSimpArgs false
set_option maxRecDepth 100000
set_option maxHeartbeats 8000000
namespace Go.Proofs.YthoeodjgfelkhaaGreat.QT
open Go.RowKit Go.Proofs.YthoeodjgfelkhaaGreatW.PrintWords Go.Proofs.YthoeodjgfelkhaaGreatW.PrintLast Go.Proofs.YthoeodjgfelkhaaGreatW.PrintMore
attribute [local go_sem] max2_int min2_int max_two min_two
def DoesV (t fid : Nat) (c : Cf) (f : S66) (l : List Int) (f' : S66) (l' : List Int) (r : Int) : Prop :=
 ∀ (W : World) (g base : Nat) (v : Value), St t W g base f c v l W → Calls Tryz.prog fid #[.pointer (some ⟨g, 0, none⟩)] W fun e W' => e = .returned (.int .i64 r) ∧ ∃ v', St t W g base f' c v' l' W'
theorem St.self {t : Nat} {W0 : World} {g base : Nat} {f : S66} {c : Cf} {v : Value} {l : List Int} {W : World} (h : St t W0 g base f c v l W) : St t W g base f c v l W := ⟨⟨rfl, rfl, rfl, Nat.le_refl _, fun _ _ _ => rfl⟩, h.hb, h.hr, h.ht, Nat.le_trans h.le h.gb.size⟩
def freeF (c : Cf) (x : Int) : Int := IntKind.u64.wrap (IntKind.u64.wrap (Int.tdiv x (IntKind.u64.wrap c.i)) * 2)
theorem enq_where (f : S66) (c : Cf) (l : List Int)  : DoesV 180 146 c f l ({ f with f4 := loadF l 5 }) (l) (1) := by
 intro W g base v h
 obtain ⟨A, cp, rfl, hcp, hC⟩ := Kd.R_reads h.hr
 have HCP := qQ hcp
 have HS0 := qQ h
 clear hC hcp h
 go_enter Tryz.func146, Tryz.ntmps146
 have q0 := boxCells HS0.o.hb
 have z0 := boxFrozen HS0.o.hb
 go_wp2_with (go_at_call 7; (with_reducible refine (Load_calls A cp l 5 _ (Kd.R_reads' HS0.o.hr).2.2 HCP.o).mono ?_); rintro e w1 ⟨rfl, ⟨nd, rfl⟩⟩)
 go_ret
 exact ⟨rfl, _, (HS0.o.drewN nd).set4 (loadF l 5)⟩
theorem enq_free (f : S66) (c : Cf) (l : List Int) (hz : ¬ IntKind.u64.wrap c.i = 0) : ∀ (W : World) (g base : Nat) (v : Value), St 180 W g base f c v l W → Calls Tryz.prog 171 #[.pointer (some ⟨g, 0, none⟩)] W fun e W' => e = .returned (.int .u64 (freeF c f.f4)) ∧ Below W.heap.size W W' := by
 intro W g base v h
 obtain ⟨A, cp, rfl, hcp, hC⟩ := Kd.R_reads h.hr
 have HCP := qQ hcp
 have HS0 := qQ h
 have HHZ := qQ hz
 clear hC hcp h hz
 go_enter Tryz.func171, Tryz.ntmps171
 have q0 := boxCells HS0.o.hb
 have z0 := boxFrozen HS0.o.hb
 have hz2 := HHZ.o
 go_wp2
 go_quiet (fail)
 have HS1 := qQ (HS0.o.drewN nq)
 go_wp2
 go_ret
 exact ⟨rfl, pw_below_drewN (Below.refl _ _) _⟩
theorem enq_look (f : S66) (c : Cf) (l : List Int) (p r : Int) (f' : S66) (hp : lay_Seq.f c.w c.d c.i c.s f.f4 = some p) (hz : ¬ IntKind.u64.wrap c.i = 0) (hf : (if loadF l p = freeF c f.f4 then (({ f with f5 := loadF l p } : S66), (2 : Int)) else if wrap64 (IntKind.u64.wrap (loadF l p - freeF c f.f4)) < 0 then ((⟨f.f0, 0, f.f2, f.f3, 0, 0, 2⟩ : S66), 0) else ({ f with f5 := loadF l p }, 0)) = (f', r)) : DoesV 180 147 c f l (f') (l) (r) := by
 intro W g base v h
 obtain ⟨A, cp, rfl, hcp, hC⟩ := Kd.R_reads h.hr
 have HCP := qQ hcp
 have HS0 := qQ h
 have HHP := qQ hp
 have HHZ := qQ hz
 have HHF := qQ hf
 clear hC hcp h hp hz hf
 go_enter Tryz.func147, Tryz.ntmps147
 have q0 := boxCells HS0.o.hb
 have z0 := boxFrozen HS0.o.hb
 have HF2 := HHF.o
 obtain ⟨f0_, hf0⟩ : ∃ f0_ : S66, f0_ = { f with f5 := loadF l p } := ⟨_, rfl⟩
 have HFR : Aside0 (∀ (W : World) (v : Value), St 180 W g base { f with f5 := loadF l p } c v l W → Calls Tryz.prog 171 #[.pointer (some ⟨g, 0, none⟩)] W fun e W' => e = .returned (.int .u64 (freeF c f.f4)) ∧ Below W.heap.size W W') := ⟨fun W v h => enq_free { f with f5 := loadF l p } c l HHZ.o W g base v h⟩
 clear hf0
 go_wp2
 refine zS 20 [19] (fun W' => W'.heap[g]? = some (boxO f c (.slice A l.length cp) 180)) HS0.o.drew.hb fun hHeld => ?_
 refine zY 0 1 3 ?_
 refine zY 1 3 4 ?_
 refine zY 2 7 5 ?_
 refine zY 3 15 6 ?_
 refine zT 4 31 7 ?_ (hy := zy4)
 refine zY 5 63 8 ?_
 refine zY 6 127 9 ?_
 refine zY 7 255 10 ?_
 refine zT 8 511 11 ?_ (hy := zy4)
 refine zY 9 1023 12 ?_
 refine zY 10 2047 13 ?_
 refine zY 11 4095 14 ?_
 refine zY 12 8191 15 ?_
 refine zT 13 16383 16 ?_ (hy := zy4)
 refine zO 14 32767 17 fun K hK => ?_
 go_simp
 refine (lay_Seq.calls c.w c.d c.i c.s f.f4 p _ HHP.o).mono ?_
 rintro e w1 ⟨rfl, hd⟩
 have HS1 := qQ ((HS0.o.drew).below (hd))
 clear hd
 refine hK.out _ _ HS1.o.hb (fun hHeld => ?_)
 refine zO 15 65535 18 fun K hK => ?_
 go_simp
 refine (Load_calls _ _ l p _ (Kd.R_reads' HS1.o.hr).2.2 HCP.o).mono ?_
 rintro e w2 ⟨rfl, hd⟩
 have HS2 := qQ (HS1.o.below (hd.below))
 clear hd
 refine hK.out _ _ HS2.o.hb (fun hHeld => ?_)
 refine zY 16 131071 19 ?_
 refine zY 17 262143 20 ?_
 refine zY 18 524287 21 ?_
 refine zL 19 1048575 fun K hK => ?_
 clear q0 z0
 have q0 := boxCells HS2.o.hb
 have z0 := boxFrozen HS2.o.hb
 go_simp
 refine hK.out _ _ ?_
 refine zD ?_
 have hs3 := HS2.o.set5 (loadF l p)
 generalize (w2).setCell ⟨g, 5, none⟩ (.int .u64 (loadF l p)) = w3 at hs3 ⊢
 have HS3 := qQ hs3
 clear hs3
 clear q0 z0
 have q0 := boxCells HS3.o.hb
 have z0 := boxFrozen HS3.o.hb
 go_wp2
 refine zS 9 [] (fun W' => W'.heap[g]? = some (boxO { f with f5 := loadF l p } c (.slice A l.length cp) 180)) HS3.o.drew.hb fun hHeld => ?_
 refine zY 0 1 23 ?_
 refine zY 1 3 24 ?_
 refine zY 2 7 25 ?_
 refine zY 3 15 26 ?_
 refine zT 4 31 27 ?_ (hy := zy4)
 refine zY 5 63 28 ?_
 refine zO 6 127 29 fun K hK => ?_
 go_simp
 refine (HFR.o _ _ (St.self (HS3.o.drew))).mono ?_
 rintro e w4 ⟨rfl, hd⟩
 have HS4 := qQ ((HS3.o.drew).below (hd))
 clear hd
 refine hK.out _ _ HS4.o.hb (fun hHeld => ?_)
 refine zY 7 255 30 ?_
 refine zY 8 511 22 ?_
 refine zD ?_
 clear q0 z0
 have q0 := boxCells HS4.o.hb
 have z0 := boxFrozen HS4.o.hb
 by_cases hc : loadF l p = freeF c f.f4
 ·rw [if_pos hc] at HF2
  obtain ⟨rfl, rfl⟩ := Prod.mk.inj HF2
  have HC := qQ hc
  clear HF2
  go_wp2
  go_ret
  exact ⟨rfl, _, (by have h_ := HS4.o; rw [HC.o] at h_; exact h_)⟩
 ·rw [if_neg hc] at HF2
  go_wp2
  refine zS 10 [] (fun W' => W'.heap[g]? = some (boxO { f with f5 := loadF l p } c (.slice A l.length cp) 180)) HS4.o.drew.hb fun hHeld => ?_
  refine zY 0 1 32 ?_
  refine zY 1 3 33 ?_
  refine zY 2 7 34 ?_
  refine zY 3 15 35 ?_
  refine zT 4 31 36 ?_ (hy := zy4)
  refine zY 5 63 37 ?_
  refine zO 6 127 38 fun K hK => ?_
  go_simp
  refine (HFR.o _ _ (St.self (HS4.o.drew))).mono ?_
  rintro e w5 ⟨rfl, hd⟩
  have HS5 := qQ ((HS4.o.drew).below (hd))
  clear hd
  refine hK.out _ _ HS5.o.hb (fun hHeld => ?_)
  refine zO 7 255 39 fun K hK => ?_
  go_simp
  refine (word_Far.calls (loadF l p) (freeF c f.f4) _ _ rfl).mono ?_
  rintro e w6 ⟨rfl, hd⟩
  have HS6 := qQ (HS5.o.below (hd.below))
  clear hd
  refine hK.out _ _ HS6.o.hb (fun hHeld => ?_)
  refine zY 8 511 40 ?_
  refine zY 9 1023 31 ?_
  refine zD ?_
  clear q0 z0
  have q0 := boxCells HS6.o.hb
  have z0 := boxFrozen HS6.o.hb
  by_cases hc : wrap64 (IntKind.u64.wrap (loadF l p - freeF c f.f4)) < 0
  ·rw [if_pos hc] at HF2
   obtain ⟨rfl, rfl⟩ := Prod.mk.inj HF2
   clear HF2
   go_wp2
   refine zS 14 [13] (fun W' => W'.heap[g]? = some (boxO { f with f5 := loadF l p } c (.slice A l.length cp) 180)) HS6.o.drew.hb fun hHeld => ?_
   refine zY 0 1 41 ?_
   refine zY 1 3 42 ?_
   refine zY 2 7 43 ?_
   refine zY 3 15 44 ?_
   refine zT 4 31 45 ?_ (hy := zy4)
   refine zY 5 63 46 ?_
   refine zY 6 127 47 ?_
   refine zY 7 255 48 ?_
   refine zY 8 511 49 ?_
   refine zT 9 1023 50 ?_ (hy := zy4)
   refine zO 10 2047 51 fun K hK => ?_
   go_simp
   refine (frame_End.calls _ _ _ _ _ _ _ 2 f.f3 _ _ _ _ _ _ _ _ rfl).mono ?_
   rintro e w7 ⟨rfl, hd⟩
   have HS7 := qQ ((HS6.o.drew).below (hd))
   clear hd
   refine hK.out _ _ HS7.o.hb (fun hHeld => ?_)
   refine zY 11 4095 52 ?_
   refine zY 12 8191 53 ?_
   refine zL 13 16383 fun K hK => ?_
   clear q0 z0
   have q0 := boxCells HS7.o.hb
   have z0 := boxFrozen HS7.o.hb
   go_simp
   refine hK.out _ _ ?_
   refine zD ?_
   have hs8 := HS7.o.setF ⟨f.f0, 0, f.f2, f.f3, 0, 0, 2⟩
   have HS8 := qQ hs8
   clear hs8
   try go_wp2
   go_ret
   exact ⟨rfl, _, HS8.o⟩
  ·rw [if_neg hc] at HF2
   obtain ⟨rfl, rfl⟩ := Prod.mk.inj HF2
   clear HF2
   go_wp2
   go_ret
   exact ⟨rfl, _, HS6.o⟩
def think_May.f (l0 : List S45) (l1 : List S116) : Option Bool := if l0.length ≤ 1000000 ∧ l1.length ≤ 1000000 then some (thinkB (forestB l0) l0 l1) else none
theorem think_May.calls (A0 : Option Addr) (c0 : Nat) (l0 : List S45) (A1 : Option Addr) (c1 : Nat) (l1 : List S116) (r : Bool) (w : World) (hr0 : Kd.C k45 w A0 l0.length l0) (hc0 : l0.length ≤ c0) (hr1 : Kd.C k116 w A1 l1.length l1) (hc1 : l1.length ≤ c1) (h : think_May.f l0 l1 = some r) :
  Calls Tryz.prog 106 #[.slice A0 l0.length c0, .slice A1 l1.length c1] w fun e w' => e = .returned (.bool r) ∧ Below w.heap.size w w' := by
 unfold think_May.f at h
 split at h
 ·rename_i hn
  obtain rfl := Option.some.inj h
  exact think_106 A0 c0 l0 A1 c1 l1 (forestB l0) w hr0 hn.1 hr1 hn.2 (fun W hW => forest_23 A0 c0 l0 W (Kd.C_below hr0 hW) hn.1)
 ·cases h
def forest_Parent.f (l0 : List S45) (a1 : Int) : Option Int := if l0.length ≤ 1000000 then some (parentF l0 a1) else none
theorem forest_Parent.calls (A0 : Option Addr) (c0 : Nat) (l0 : List S45) (a1 : Int) (r : Int) (w : World) (hr0 : Kd.C k45 w A0 l0.length l0) (hc0 : l0.length ≤ c0) (h : forest_Parent.f l0 a1 = some r) :
  Calls Tryz.prog 49 #[.slice A0 l0.length c0, .int .i64 a1] w fun e w' => e = .returned (.int .i64 r) ∧ Below w.heap.size w w' := by
 unfold forest_Parent.f at h
 split at h
 ·obtain rfl := Option.some.inj h
  exact parent_49 A0 c0 l0 a1 w hr0 (by assumption)
 ·cases h
theorem enq_take (f : S66) (c : Cf) (l : List Int) (b : Bool) (l' : List Int) (hn : l.length ≤ 1000000) (hq : casF l 5 f.f4 (IntKind.u64.wrap (f.f4 + 1)) = (l', b)) : DoesV 180 148 c f l (f) (l') (if b = true then 3 else 0) := by
 intro W g base v h
 obtain ⟨A, cp, rfl, hcp, hC⟩ := Kd.R_reads h.hr
 have HCP := qQ hcp
 have HS0 := qQ h
 have HHN := qQ hn
 have HHQ := qQ hq
 clear hC hcp h hn hq
 go_enter Tryz.func148, Tryz.ntmps148
 have q0 := boxCells HS0.o.hb
 have z0 := boxFrozen HS0.o.hb
 go_wp2
 refine zS 24 [22] (fun W' => W'.heap[g]? = some (boxO f c (.slice A l.length cp) 180)) HS0.o.drew.hb fun hHeld => ?_
 refine zY 0 1 5 ?_
 refine zY 1 3 6 ?_
 refine zY 2 7 7 ?_
 refine zY 3 15 8 ?_
 refine zT 4 31 9 ?_ (hy := zy4)
 refine zY 5 63 10 ?_
 refine zY 6 127 11 ?_
 refine zY 7 255 12 ?_
 refine zY 8 511 13 ?_
 refine zT 9 1023 14 ?_ (hy := zy4)
 refine zY 10 2047 15 ?_
 refine zY 11 4095 16 ?_
 refine zY 12 8191 17 ?_
 refine zY 13 16383 18 ?_
 refine zT 14 32767 19 ?_ (hy := zy4)
 refine zY 15 65535 20 ?_
 refine zO 16 131071 21 fun K hK => ?_
 go_simp
 have CC := cas140 _ _ l 5 f.f4 (IntKind.u64.wrap (f.f4 + 1)) _ (Kd.R_reads' (HS0.o.drew).hr).2.2 HCP.o HHN.o
 rw [HHQ.o] at CC
 refine CC.mono ?_
 clear CC
 rintro e w1 ⟨u1, rfl, ho, hb⟩
 obtain ⟨A1, c1, rfl⟩ := Kd.R_slice ho
 have HS1 := qQ ((HS0.o.drew).below hb)
 have HO1 := qQ (Kd.R_lower ho (Nat.le_trans HS1.o.le (HS0.o.drew).gb.size))
 clear ho hb
 refine hK.out _ _ HS1.o.hb (fun hHeld => ?_)
 refine zY 17 262143 4 ?_
 refine zY 18 524287 22 ?_
 refine zY 19 1048575 23 ?_
 refine zY 20 2097151 24 ?_
 refine zY 21 4194303 25 ?_
 refine zL 22 8388607 fun K hK => ?_
 clear q0 z0
 have q0 := boxCells HS1.o.hb
 have z0 := boxFrozen HS1.o.hb
 go_simp
 refine hK.out _ _ ?_
 refine zY 23 16777215 3 ?_
 refine zD ?_
 have hs2 := HS1.o.setM HO1.o
 generalize (w1).setCell ⟨g, 11, none⟩ (.slice A1 l'.length c1) = w2 at hs2 ⊢
 have HS2 := qQ hs2
 clear hs2
 clear q0 z0
 have q0 := boxCells HS2.o.hb
 have z0 := boxFrozen HS2.o.hb
 cases b with
 | true =>
  go_wp2
  go_ret
  exact ⟨rfl, _, HS2.o⟩
 | false =>
  go_wp2
  go_ret
  exact ⟨rfl, _, HS2.o⟩
theorem enq_put (f : S66) (c : Cf) (l : List Int) (p : Int) (hp : lay_Val.f c.w c.d c.i c.s f.f4 = some p) (hn : l.length ≤ 1000000) : DoesV 180 149 c f l (f) (storeF l p f.f3) (4) := by
 intro W g base v h
 obtain ⟨A, cp, rfl, hcp, hC⟩ := Kd.R_reads h.hr
 have HCP := qQ hcp
 have HS0 := qQ h
 have HHP := qQ hp
 have HHN := qQ hn
 clear hC hcp h hp hn
 go_enter Tryz.func149, Tryz.ntmps149
 have q0 := boxCells HS0.o.hb
 have z0 := boxFrozen HS0.o.hb
 go_wp2
 refine zS 24 [23] (fun W' => W'.heap[g]? = some (boxO f c (.slice A l.length cp) 180)) HS0.o.drew.hb fun hHeld => ?_
 refine zY 0 1 3 ?_
 refine zY 1 3 4 ?_
 refine zY 2 7 5 ?_
 refine zY 3 15 6 ?_
 refine zT 4 31 7 ?_ (hy := zy4)
 refine zY 5 63 8 ?_
 refine zY 6 127 9 ?_
 refine zY 7 255 10 ?_
 refine zT 8 511 11 ?_ (hy := zy4)
 refine zY 9 1023 12 ?_
 refine zY 10 2047 13 ?_
 refine zY 11 4095 14 ?_
 refine zY 12 8191 15 ?_
 refine zT 13 16383 16 ?_ (hy := zy4)
 refine zY 15 49151 18 ?_
 refine zY 16 114687 19 ?_
 refine zY 17 245759 20 ?_
 refine zY 18 507903 21 ?_
 refine zT 19 1032191 22 ?_ (hy := zy4)
 refine zO 14 1048575 17 fun K hK => ?_
 go_simp
 refine (lay_Val.calls c.w c.d c.i c.s f.f4 p _ HHP.o).mono ?_
 rintro e w1 ⟨rfl, hd⟩
 have HS1 := qQ ((HS0.o.drew).below (hd))
 clear hd
 refine hK.out _ _ HS1.o.hb (fun hHeld => ?_)
 refine zO 20 2097151 23 fun K hK => ?_
 go_simp
 refine (store65 _ _ l p f.f3 _ (Kd.R_reads' HS1.o.hr).2.2 HCP.o HHN.o).mono ?_
 rintro e w2 ⟨u2, rfl, ho, hb⟩
 obtain ⟨A2, c2, rfl⟩ := Kd.R_slice ho
 have HS2 := qQ (HS1.o.below hb)
 have HO2 := qQ (Kd.R_lower ho (Nat.le_trans HS2.o.le HS1.o.gb.size))
 clear ho hb
 refine hK.out _ _ HS2.o.hb (fun hHeld => ?_)
 refine zY 21 4194303 24 ?_
 refine zY 22 8388607 25 ?_
 refine zL 23 16777215 fun K hK => ?_
 clear q0 z0
 have q0 := boxCells HS2.o.hb
 have z0 := boxFrozen HS2.o.hb
 go_simp
 refine hK.out _ _ ?_
 refine zD ?_
 have hs3 := HS2.o.setM HO2.o
 generalize (w2).setCell ⟨g, 11, none⟩ (.slice A2 (storeF l p f.f3).length c2) = w3 at hs3 ⊢
 have HS3 := qQ hs3
 clear hs3
 clear q0 z0
 have q0 := boxCells HS3.o.hb
 have z0 := boxFrozen HS3.o.hb
 go_wp2
 go_ret
 exact ⟨rfl, _, HS3.o⟩
theorem enq_end (f : S66) (c : Cf) (l : List Int) (p : Int) (hp : lay_Seq.f c.w c.d c.i c.s f.f4 = some p) (hz : ¬ IntKind.u64.wrap c.i = 0) (hn : l.length ≤ 1000000) : DoesV 180 150 c f l (⟨f.f0, 0, f.f2, f.f3, 0, 0, 1⟩) (storeF l p (IntKind.u64.wrap (freeF c f.f4 + 1))) (0) := by
 intro W g base v h
 obtain ⟨A, cp, rfl, hcp, hC⟩ := Kd.R_reads h.hr
 have HCP := qQ hcp
 have HS0 := qQ h
 have HHP := qQ hp
 have HHZ := qQ hz
 have HHN := qQ hn
 clear hC hcp h hp hz hn
 go_enter Tryz.func150, Tryz.ntmps150
 have q0 := boxCells HS0.o.hb
 have z0 := boxFrozen HS0.o.hb
 go_wp2
 refine zS 22 [21] (fun W' => W'.heap[g]? = some (boxO f c (.slice A l.length cp) 180)) HS0.o.drew.hb fun hHeld => ?_
 refine zY 0 1 3 ?_
 refine zY 1 3 4 ?_
 refine zY 2 7 5 ?_
 refine zY 3 15 6 ?_
 refine zT 4 31 7 ?_ (hy := zy4)
 refine zY 5 63 8 ?_
 refine zY 6 127 9 ?_
 refine zY 7 255 10 ?_
 refine zT 8 511 11 ?_ (hy := zy4)
 refine zY 9 1023 12 ?_
 refine zY 10 2047 13 ?_
 refine zY 11 4095 14 ?_
 refine zY 12 8191 15 ?_
 refine zT 13 16383 16 ?_ (hy := zy4)
 refine zY 15 49151 18 ?_
 refine zO 14 65535 17 fun K hK => ?_
 go_simp
 refine (lay_Seq.calls c.w c.d c.i c.s f.f4 p _ HHP.o).mono ?_
 rintro e w1 ⟨rfl, hd⟩
 have HS1 := qQ ((HS0.o.drew).below (hd))
 clear hd
 refine hK.out _ _ HS1.o.hb (fun hHeld => ?_)
 refine zO 16 131071 19 fun K hK => ?_
 go_simp
 refine (enq_free f c l HHZ.o _ g base _ (St.self HS1.o)).mono ?_
 rintro e w2 ⟨rfl, hd⟩
 have HS2 := qQ (HS1.o.below (hd))
 clear hd
 refine hK.out _ _ HS2.o.hb (fun hHeld => ?_)
 refine zY 17 262143 20 ?_
 refine zO 18 524287 21 fun K hK => ?_
 go_simp
 refine (store65 _ _ l p (IntKind.u64.wrap (freeF c f.f4 + 1)) _ (Kd.R_reads' HS2.o.hr).2.2 HCP.o HHN.o).mono ?_
 rintro e w3 ⟨u3, rfl, ho, hb⟩
 obtain ⟨A3, c3, rfl⟩ := Kd.R_slice ho
 have HS3 := qQ (HS2.o.below hb)
 have HO3 := qQ (Kd.R_lower ho (Nat.le_trans HS3.o.le HS2.o.gb.size))
 clear ho hb
 refine hK.out _ _ HS3.o.hb (fun hHeld => ?_)
 refine zY 19 1048575 22 ?_
 refine zY 20 2097151 23 ?_
 refine zL 21 4194303 fun K hK => ?_
 clear q0 z0
 have q0 := boxCells HS3.o.hb
 have z0 := boxFrozen HS3.o.hb
 go_simp
 refine hK.out _ _ ?_
 refine zD ?_
 have hs4 := HS3.o.setM HO3.o
 generalize (w3).setCell ⟨g, 11, none⟩ (.slice A3 (storeF l p (IntKind.u64.wrap (freeF c f.f4 + 1))).length c3) = w4 at hs4 ⊢
 have HS4 := qQ hs4
 clear hs4
 clear q0 z0
 have q0 := boxCells HS4.o.hb
 have z0 := boxFrozen HS4.o.hb
 try go_wp2
 refine zS 14 [13] (fun W' => W'.heap[g]? = some (boxO f c (.slice A3 (storeF l p (IntKind.u64.wrap (freeF c f.f4 + 1))).length c3) 180)) HS4.o.drew.hb fun hHeld => ?_
 refine zY 0 1 24 ?_
 refine zY 1 3 25 ?_
 refine zY 2 7 26 ?_
 refine zY 3 15 27 ?_
 refine zT 4 31 28 ?_ (hy := zy4)
 refine zY 5 63 29 ?_
 refine zY 6 127 30 ?_
 refine zY 7 255 31 ?_
 refine zY 8 511 32 ?_
 refine zT 9 1023 33 ?_ (hy := zy4)
 refine zO 10 2047 34 fun K hK => ?_
 go_simp
 refine (frame_End.calls _ _ _ _ _ _ _ 1 f.f3 _ _ _ _ _ _ _ _ rfl).mono ?_
 rintro e w5 ⟨rfl, hd⟩
 have HS5 := qQ ((HS4.o.drew).below (hd))
 clear hd
 refine hK.out _ _ HS5.o.hb (fun hHeld => ?_)
 refine zY 11 4095 35 ?_
 refine zY 12 8191 36 ?_
 refine zL 13 16383 fun K hK => ?_
 clear q0 z0
 have q0 := boxCells HS5.o.hb
 have z0 := boxFrozen HS5.o.hb
 go_simp
 refine hK.out _ _ ?_
 refine zD ?_
 have hs6 := HS5.o.setF ⟨f.f0, 0, f.f2, f.f3, 0, 0, 1⟩
 have HS6 := qQ hs6
 clear hs6
 go_wp2
 go_ret
 exact ⟨rfl, _, HS6.o⟩
end Go.Proofs.YthoeodjgfelkhaaGreat.QT
