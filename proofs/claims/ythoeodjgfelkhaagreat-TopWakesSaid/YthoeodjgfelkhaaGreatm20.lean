/- Part 20 of the claim on TopWakes: the hand's call. No condition. -/
import Derived.Test.YthoeodjgfelkhaaGreatm17
set_option linter.unusedVariables false
set_option linter.unusedSimpArgs false
set_option maxRecDepth 100000
set_option maxHeartbeats 8000000
namespace Go.Proofs.YthoeodjgfelkhaaGreat.QT
open Go.RowKit Go.Proofs.YthoeodjgfelkhaaGreatW.PrintWords Go.Proofs.YthoeodjgfelkhaaGreatW.PrintLast Go.Proofs.YthoeodjgfelkhaaGreatW.PrintMore
attribute [local go_sem] max2_int min2_int max_two min_two
def STEP (fid : Nat) (c : Cf) (f : S66) (l : List Int) (f' : S66) (l' : List Int) : Prop :=
 ∀ (A : Option Addr) (cp : Nat) (W : World), Kd.C (Kd.int .u64) W A l.length l → l.length ≤ cp → Calls Tryz.prog fid #[cfV c, .slice A l.length cp, frV f] W fun e w' => ∃ v, e = .returned (.tuple #[v, frV f']) ∧ (Kd.int .u64).R 38 w' W.heap.size (fun _ => True) v l' ∧ Below W.heap.size W w'
def whoF (f : S66) : Nat := if f.f0 = 0 ∨ f.f0 = 1 ∨ f.f0 = 2 then 127 else if f.f0 = 3 ∨ f.f0 = 4 then 95 else 94
theorem hand_call (k : HK) (x : Hd) (f' : S66) (m' : List Int) (hs : STEP (whoF x.f) k.c x.f x.m f' m') : ∀ (W : World) (g : Nat) (v1 vm ve : Value), HSt k W ve g x v1 vm ve W → Calls Tryz.prog 107 #[.pointer (some ⟨g, 0, none⟩)] W fun e W' => e = .returned (.bool (f'.f6 != 0)) ∧ ∃ v1' vm' ve', HSt k W ve g ({ x with f := f', m := m' }) v1' vm' ve' W' := by
 intro W g v1 vm ve h
 obtain ⟨A1, c1, rfl⟩ := Kd.R_slice h.rs
 obtain ⟨Am, cm, rfl⟩ := Kd.R_slice h.rm
 obtain ⟨Ae, ce, rfl⟩ := Kd.R_slice h.re
 have HS0 := qQ h
 have HHS := qQ hs
 clear h hs
 show Calls Tryz.prog 107 #[.pointer (some ⟨g, 0, none⟩)] W _
 go_enter Tryz.func107, Tryz.ntmps107
 have h0 := handCells HS0.o.hb; have hz := HSt.frozen HS0.o
 have W0_ := HHS.o
 unfold STEP at W0_
 have key : (x.f.f0 = 0 ∧ whoF x.f = 127) ∨ (x.f.f0 = 1 ∧ whoF x.f = 127) ∨ (x.f.f0 = 2 ∧ whoF x.f = 127) ∨ (x.f.f0 = 3 ∧ whoF x.f = 95) ∨ (x.f.f0 = 4 ∧ whoF x.f = 95) ∨ ((¬ x.f.f0 = 0 ∧ ¬ x.f.f0 = 1 ∧ ¬ x.f.f0 = 2 ∧ ¬ x.f.f0 = 3 ∧ ¬ x.f.f0 = 4) ∧ whoF x.f = 94) := by
  unfold whoF
  split
  ·omega
  ·split <;> omega
 rcases key with ⟨n0, hw⟩ | ⟨n0, hw⟩ | ⟨n0, hw⟩ | ⟨n0, hw⟩ | ⟨n0, hw⟩ | ⟨⟨n0, n1, n2, n3, n4⟩, hw⟩
 all_goals
  rw [hw] at W0_
  have HW := qQ W0_
  clear W0_ HHS hw
  have e127 := fun args W => enters_of Tryz.func127 (by kernel_rfl) rfl args W
  have e95 := fun args W => enters_of Tryz.func95 (by kernel_rfl) rfl args W
  have e94 := fun args W => enters_of Tryz.func94 (by kernel_rfl) rfl args W
  go_wp2
  clear n0
  try clear n1 n2 n3 n4
  refine zS 27 [22, 26] (fun W' => W'.heap[g]? = some (handO k x (.slice A1 x.st.length c1) (.slice Am x.m.length cm) (.slice Ae x.ev.length ce))) HS0.o.drew.hb fun hHeld => ?_
  refine zY 0 1 18 ?_
  refine zY 1 3 19 ?_
  refine zY 2 7 20 ?_
  refine zY 3 15 21 ?_
  refine zY 4 31 22 ?_
  refine zY 5 63 23 ?_
  refine zT 6 127 24 ?_ (hy := zy5)
  refine zY 7 255 25 ?_
  refine zY 8 511 26 ?_
  refine zY 9 1023 27 ?_
  refine zT 10 2047 28 ?_ (hy := zy5)
  refine zY 11 4095 29 ?_
  refine zY 12 8191 30 ?_
  refine zY 13 16383 31 ?_
  refine zY 14 32767 32 ?_
  refine zT 15 65535 33 ?_ (hy := zy5)
  refine zO 16 131071 34 fun K hK => ?_
  go_simp
  refine (HW.o Am cm W.drew (Kd.R_reads' HS0.o.drew.rm).2.2 (Kd.R_reads' HS0.o.drew.rm).2.1).mono ?_
  rintro e w1 ⟨u, rfl, hr, hd⟩
  obtain ⟨A5, c5, eo⟩ := Kd.R_slice hr
  subst eo
  have HS1 := qQ (HS0.o.drew.below hd)
  have HM1 := qQ (Kd.R_lower hr HS0.o.drew.bel.size)
  clear hd hr
  refine hK.out _ _ HS1.o.hb (fun hHeld => ?_)
  refine zY 17 262143 17 ?_
  refine zY 18 524287 35 ?_
  refine zY 19 1048575 36 ?_
  refine zY 20 2097151 37 ?_
  refine zY 21 4194303 38 ?_
  refine zL 22 8388607 fun K hK => ?_
  clear h0 hz
  have h0 := handCells HS1.o.hb
  have hz := HSt.frozen HS1.o
  go_simp
  refine hK.out _ _ ?_
  have hs2 := HS1.o.setM HM1.o
  generalize w1.setCell ⟨g, 16, none⟩ (.slice A5 m'.length c5) = w2 at hs2 ⊢
  have HS2 := qQ hs2
  clear hs2
  refine zY 23 16777215 39 ?_
  refine zY 24 33554431 40 ?_
  refine zY 25 67108863 41 ?_
  refine zL 26 134217727 fun K hK => ?_
  clear h0 hz
  have h0 := handCells HS2.o.hb
  have hz := HSt.frozen HS2.o
  go_simp
  refine hK.out _ _ ?_
  refine zD ?_
  have hs3 := HS2.o.setF f'
  generalize ((((((w2.setCell ⟨g, 2, none⟩ (.int .i64 f'.f0)).setCell ⟨g, 3, none⟩ (.int .i64 f'.f1)).setCell ⟨g, 4, none⟩ (.int .i64 f'.f2)).setCell ⟨g, 5, none⟩ (.int .u64 f'.f3)).setCell ⟨g, 6, none⟩ (.int .u64 f'.f4)).setCell ⟨g, 7, none⟩ (.int .u64 f'.f5)).setCell ⟨g, 8, none⟩ (.int .i64 f'.f6) = w3 at hs3 ⊢
  have HS3 := qQ hs3
  clear hs3 hHeld
  clear h0 hz
  have h0 := handCells HS3.o.hb
  have hz := HSt.frozen HS3.o
  go_wp2_with (go_at_call 96; with_reducible refine (frame_Over.calls f'.f0 f'.f1 f'.f2 f'.f3 f'.f4 f'.f5 f'.f6 _ _ rfl).mono ?_; rintro e w4 ⟨rfl, hd⟩; have HS4 := qQ (HS3.o.below hd); clear hd)
  go_ret
  exact ⟨rfl, _, _, _, HS4.o⟩
end Go.Proofs.YthoeodjgfelkhaaGreat.QT
