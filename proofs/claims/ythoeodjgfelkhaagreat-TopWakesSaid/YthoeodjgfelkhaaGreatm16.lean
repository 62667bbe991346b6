/- Part 16 of the claim on TopWakes: enq.Step. No condition. -/
import Derived.Test.YthoeodjgfelkhaaGreatm13
set_option linter.unusedVariables false
set_option linter.unusedSimpArgs false
set_option maxRecDepth 100000
set_option maxHeartbeats 8000000
namespace Go.Proofs.YthoeodjgfelkhaaGreat.QT
open Go.RowKit Go.Proofs.YthoeodjgfelkhaaGreatW.PrintWords Go.Proofs.YthoeodjgfelkhaaGreatW.PrintLast Go.Proofs.YthoeodjgfelkhaaGreatW.PrintMore
attribute [local go_sem] max2_int min2_int max_two min_two
section
attribute [local go_sem] run_store_func
theorem enq_step (A : Option Addr) (cp : Nat) (c : Cf) (f f' : S66) (l l' : List Int) (w : World) (hC : Kd.C (Kd.int .u64) w A l.length l) (hcp : l.length ≤ cp) (hn : l.length ≤ 1000000)
  (hk : (goesE c l.length f 3 = false ∧ l' = l ∧ f' = f) ∨ (goesE c l.length f 3 = true ∧ ∃ f1' r, f' = { f1' with f1 := r } ∧ ((f.f1 = 0 ∧ DoesV 180 146 c f l f1' l' r) ∨ (f.f1 = 1 ∧ DoesV 180 147 c f l f1' l' r) ∨ (f.f1 = 2 ∧ DoesV 180 148 c f l f1' l' r) ∨ (f.f1 = 3 ∧ DoesV 180 149 c f l f1' l' r) ∨ (f.f1 = 4 ∧ DoesV 180 150 c f l f1' l' r)))) :
  Calls Tryz.prog 121 #[cfV c, .slice A l.length cp, frV f] w fun e w' => ∃ v, e = .returned (.tuple #[v, frV f']) ∧ (Kd.int .u64).R 38 w' w.heap.size (fun _ => True) v l' ∧ Below w.heap.size w w' := by
 have HT0 := qQ (Thr.start w c f)
 have HC := qQ hC
 have HCP := qQ hcp
 have HN := qQ hn
 clear hC hcp hn
 have HK := qQ hk
 clear hk
 go_enter Tryz.func121, Tryz.ntmps121
 go_wp2
 refine zS 7 [] (fun W' => Thr w c f ⟨0, 0, 0, 0, 0, 0, 0⟩ W') HT0.o.drew fun hHeld => ?_
 refine zT 0 1 11 ?_ (hy := zy13)
 refine zT 1 3 12 ?_ (hy := zy13)
 refine zY 2 7 13 ?_
 refine zO 3 15 14 fun K hK => ?_
 go_simp
 refine (clone54 A cp l _ (Kd.C_below HC.o HT0.o.drew.two.hb) HN.o).mono ?_
 rintro e w1 ⟨u, rfl, ho, hb⟩
 have HT1 := qQ (HT0.o.drew.below hb)
 have HO1 := qQ (Kd.R_lower (Kd.R_imp (d' := Kd.int .u64) rfl (fun _ _ _ _ _ h => h) ho) HT0.o.drew.two.hb.size)
 obtain ⟨A1, c1, rfl⟩ := Kd.R_slice ho
 clear ho hb
 refine hK.out _ _ HT1.o (fun hHeld => ?_)
 refine zY 4 31 15 ?_
 refine zO 5 63 16 fun K hK => ?_
 go_simp
 refine hK.out _ _ (HT1.o.alloc _) (fun hHeld => ?_)
 refine zY 6 127 8 ?_
 refine zD ?_
 have HST0 := qQ (show St 180 (w1.alloc (boxO f c (.slice A1 l.length c1) 180)) w1.heap.size w.heap.size f c (.slice A1 l.length c1) l (w1.alloc (boxO f c (.slice A1 l.length c1) 180)) from ⟨⟨rfl, rfl, rfl, Nat.le_refl _, fun _ _ _ => rfl⟩, blk_new _ _, Kd.R_alloc HO1.o _, by decide, by have := HT1.o.two.hb.size; simp; omega⟩)
 have HT2 := qQ (HT1.o.alloc (boxO f c (.slice A1 l.length c1) 180))
 have hgl : w1.heap.size < (w1.alloc (boxO f c (.slice A1 l.length c1) 180)).heap.size := by simp
 have hgg := HT1.o.lt
 generalize (w1.alloc (boxO f c (.slice A1 l.length c1) 180)) = w2 at HST0 HT2 hgl ⊢
 generalize w1.heap.size = g at HST0 hgl hgg ⊢
 have HG := qQ hgg
 have HGL := qQ hgl
 clear hgg hgl hHeld HT1 HO1 HT0
 have r0 := twoCells HT2.o.two
 rcases HK.o with ⟨hg, e1, e2⟩ | ⟨hg, f1', r, rfl, hk⟩
 ·have e1 := e1.symm
  have e2 := e2.symm
  subst e1
  subst e2
  clear HK
  go_wp2_with (go_at_call 145; with_reducible refine (enq_goes A cp l.length c f 3 _).mono ?_; rintro e w4 ⟨rfl, hb⟩; have HT4 := qQ (HT2.o.below hb); have HS4 := qQ (HST0.o.below hb); clear hb r0)
  refine zS 7 [6] (fun W' => W'.heap[g]? = some (boxO f c (.slice A1 l.length c1) 180) ∧ Two w c f W') ⟨HS4.o.drew.hb, HT4.o.drew.two⟩ fun hHeld => ?_
  refine zY 0 1 22 ?_
  refine zY 1 3 23 ?_
  refine zY 2 7 24 ?_
  refine zT 3 15 25 ?_ (hy := by intro w' hSw; have s0 := boxCells hSw.1; have r0 := twoCells hSw.2; go_simp; with_reducible rfl)
  refine zT 4 31 26 ?_ (hy := by intro w' hSw; have s0 := boxCells hSw.1; have r0 := twoCells hSw.2; go_simp; with_reducible rfl)
  refine zY 5 63 6 ?_
  refine zL 6 127 fun K hK => ?_
  have y0 := thrCells HT4.o
  go_simp
  refine hK.out _ _ ?_
  refine zD ?_
  have HT9 := qQ (HT4.o.ans f).drew
  have HR9 := qQ (Kd.R_drew (R_ans HS4.o.hr HT4.o f))
  clear hHeld y0
  go_wp2
  refine bodyPost_ret (results_tc rfl _ _ (w.heap.size + 1 + 1) 66 #[.int .i64 f.f0, .int .i64 f.f1, .int .i64 f.f2, .int .u64 f.f3, .int .u64 f.f4, .int .u64 f.f5, .int .i64 f.f6] (0, 0) _ rfl HT9.o.h2 Tryz.underlying66 rfl (by kernel_rfl)) rfl ?_
  exact ⟨_, rfl, HR9.o, HT9.o.two.hb⟩
 ·clear HK
  have e151 := fun args W => enters_of Tryz.func151 (by kernel_rfl) rfl args W
  have e146 := fun args W => enters_of Tryz.func146 (by kernel_rfl) rfl args W
  have e147 := fun args W => enters_of Tryz.func147 (by kernel_rfl) rfl args W
  have e148 := fun args W => enters_of Tryz.func148 (by kernel_rfl) rfl args W
  have e149 := fun args W => enters_of Tryz.func149 (by kernel_rfl) rfl args W
  have e150 := fun args W => enters_of Tryz.func150 (by kernel_rfl) rfl args W
  rcases hk with ⟨hpc, hd⟩ | ⟨hpc, hd⟩ | ⟨hpc, hd⟩ | ⟨hpc, hd⟩ | ⟨hpc, hd⟩
  all_goals
   have HD := qQ hd
   have HPC := qQ hpc
   clear hd hpc
   go_wp2_with (go_at_call 145; with_reducible refine (enq_goes A cp l.length c f 3 _).mono ?_; rintro e w4 ⟨rfl, hb⟩; have HT4 := qQ (HT2.o.below hb); have HS4 := qQ (HST0.o.below hb); clear hb r0; have n0 := blk_new (w4.alloc (.cells #[.func (.func 146) #[.pointer (some ⟨g, 0, none⟩)] #[], .func (.func 147) #[.pointer (some ⟨g, 0, none⟩)] #[], .func (.func 148) #[.pointer (some ⟨g, 0, none⟩)] #[], .func (.func 149) #[.pointer (some ⟨g, 0, none⟩)] #[], .func (.func 150) #[.pointer (some ⟨g, 0, none⟩)] #[]] 131)) (.cells #[.slice none 0 0] 182); rw [World.size_alloc] at n0; have n1 := (blk_cell n0 0).trans rfl; have n2 := blk_frozen n0 0; clear n0)
   have HT6 := qQ ((HT4.o.alloc (.cells #[.func (.func 146) #[.pointer (some ⟨g, 0, none⟩)] #[], .func (.func 147) #[.pointer (some ⟨g, 0, none⟩)] #[], .func (.func 148) #[.pointer (some ⟨g, 0, none⟩)] #[], .func (.func 149) #[.pointer (some ⟨g, 0, none⟩)] #[], .func (.func 150) #[.pointer (some ⟨g, 0, none⟩)] #[]] 131)).alloc (.cells #[.slice (some ⟨w4.heap.size, 0, none⟩) 5 5] 182))
   have HS6 := qQ (HS4.o.below (below_alloc (below_alloc (Below.refl _ _) (.cells #[.func (.func 146) #[.pointer (some ⟨g, 0, none⟩)] #[], .func (.func 147) #[.pointer (some ⟨g, 0, none⟩)] #[], .func (.func 148) #[.pointer (some ⟨g, 0, none⟩)] #[], .func (.func 149) #[.pointer (some ⟨g, 0, none⟩)] #[], .func (.func 150) #[.pointer (some ⟨g, 0, none⟩)] #[]] 131)) (.cells #[.slice (some ⟨w4.heap.size, 0, none⟩) 5 5] 182)))
   have B0 := qQ (blk_alloc (blk_new w4 (.cells #[.func (.func 146) #[.pointer (some ⟨g, 0, none⟩)] #[], .func (.func 147) #[.pointer (some ⟨g, 0, none⟩)] #[], .func (.func 148) #[.pointer (some ⟨g, 0, none⟩)] #[], .func (.func 149) #[.pointer (some ⟨g, 0, none⟩)] #[], .func (.func 150) #[.pointer (some ⟨g, 0, none⟩)] #[]] 131)) (.cells #[.slice (some ⟨w4.heap.size, 0, none⟩) 5 5] 182))
   have B1 := qQ (two_allocs w4 (.cells #[.func (.func 146) #[.pointer (some ⟨g, 0, none⟩)] #[], .func (.func 147) #[.pointer (some ⟨g, 0, none⟩)] #[], .func (.func 148) #[.pointer (some ⟨g, 0, none⟩)] #[], .func (.func 149) #[.pointer (some ⟨g, 0, none⟩)] #[], .func (.func 150) #[.pointer (some ⟨g, 0, none⟩)] #[]] 131) (.cells #[.slice (some ⟨w4.heap.size, 0, none⟩) 5 5] 182)).2
   clear n1 n2
   generalize ((w4.alloc (.cells #[.func (.func 146) #[.pointer (some ⟨g, 0, none⟩)] #[], .func (.func 147) #[.pointer (some ⟨g, 0, none⟩)] #[], .func (.func 148) #[.pointer (some ⟨g, 0, none⟩)] #[], .func (.func 149) #[.pointer (some ⟨g, 0, none⟩)] #[], .func (.func 150) #[.pointer (some ⟨g, 0, none⟩)] #[]] 131)).alloc (.cells #[.slice (some ⟨w4.heap.size, 0, none⟩) 5 5] 182)) = w6 at HT6 HS6 B0 B1 ⊢
   have HCL : Calls Tryz.prog 151 #[.pointer (some ⟨w4.heap.size + 1, 0, none⟩), .pointer (some ⟨w.heap.size + 1, 0, none⟩)] w6 fun e W' => e = .returned (.int .i64 r) ∧ ∃ v', St 180 w6 g w.heap.size f1' c v' l' W' := by
    have r0 := twoCells HT6.o.two
    have b0 := (blk_cell B0.o 0).trans rfl
    have b1 := (blk_cell B0.o 1).trans rfl
    have b2 := (blk_cell B0.o 2).trans rfl
    have b3 := (blk_cell B0.o 3).trans rfl
    have b4 := (blk_cell B0.o 4).trans rfl
    have b5 := (blk_cell B1.o 0).trans rfl
    have hpc := HPC.o
    go_enter Tryz.func151, Tryz.ntmps151
    go_wp2_with fail
    refine (HD.o _ _ _ _ (St.self HS6.o)).mono ?_
    rintro e w7 ⟨rfl, hs⟩
    have HS7 := qQ hs
    clear hs
    go_wp2
    go_ret
    exact ⟨rfl, HS7.o⟩
   refine HCL.mono ?_
   rintro e w7 ⟨rfl, v7, hs7⟩
   have HT7 := HT6.o.grown hs7.gb HG.o
   have s0 := boxCells hs7.hb
   have z0 := boxFrozen hs7.hb
   have hs8 := hs7.set1 r
   have HT8 := HT7.grown (g := g) (W1 := w7.setCell ⟨g, 1, none⟩ (.int .i64 r)) (gb_set ⟨rfl, rfl, rfl, Nat.le_refl _, fun _ _ _ => rfl⟩ 1 _) HG.o
   have HS8 := qQ hs8
   have HT8 := qQ HT8
   clear hs7 hs8 HT7 HCL
   go_wp2
   generalize w7.setCell ⟨g, 1, none⟩ (.int .i64 r) = w8 at HS8 HT8 ⊢
   clear s0 z0
   obtain ⟨A5, c5, rfl, _, _⟩ := Kd.R_reads HS8.o.hr
   refine zS 10 [9] (fun W' => W'.heap[g]? = some (boxO { f1' with f1 := r } c (.slice A5 l'.length c5) 180)) HS8.o.drew.hb fun hHeld => ?_
   refine zY 0 1 45 ?_
   refine zY 1 3 46 ?_
   refine zY 2 7 47 ?_
   refine zT 3 15 48 ?_ (hy := zy10)
   refine zY 4 31 49 ?_
   refine zY 5 63 50 ?_
   refine zY 6 127 51 ?_
   refine zT 7 255 52 ?_ (hy := zy10)
   refine zY 8 511 6 ?_
   refine zL 9 1023 fun K hK => ?_
   have y0 := thrCells HT8.o
   have s0 := boxCells HS8.o.hb
   go_simp
   refine hK.out _ _ ?_
   refine zD ?_
   have HT9 := qQ (HT8.o.ans { f1' with f1 := r }).drew
   have HR9 := qQ (Kd.R_drew (R_ans HS8.o.hr HT8.o { f1' with f1 := r }))
   clear hHeld y0 s0
   go_wp2
   refine bodyPost_ret (results_tc rfl _ _ (w.heap.size + 1 + 1) 66 #[.int .i64 f1'.f0, .int .i64 r, .int .i64 f1'.f2, .int .u64 f1'.f3, .int .u64 f1'.f4, .int .u64 f1'.f5, .int .i64 f1'.f6] (0, 0) _ rfl HT9.o.h2 Tryz.underlying66 rfl (by kernel_rfl)) rfl ?_
   exact ⟨_, rfl, HR9.o, HT9.o.two.hb⟩
end
end Go.Proofs.YthoeodjgfelkhaaGreat.QT
