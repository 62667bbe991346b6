/- Part 15 of the claim on TopWakes: wait.Step. No condition. -/
import Derived.Test.YthoeodjgfelkhaaGreatm13
set_option linter.unusedVariables false
set_option linter.unusedSimpArgs false
set_option maxRecDepth 100000
set_option maxHeartbeats 8000000
namespace Go.Proofs.YthoeodjgfelkhaaGreat.QT
open Go.RowKit Go.Proofs.YthoeodjgfelkhaaGreatW.PrintWords Go.Proofs.YthoeodjgfelkhaaGreatW.PrintLast Go.Proofs.YthoeodjgfelkhaaGreatW.PrintMore
attribute [local go_sem] max2_int min2_int max_two min_two
section
attribute [local go_sem] run_store_func
theorem wait_step (A : Option Addr) (cp : Nat) (c : Cf) (f f' : S66) (l l' : List Int) (w : World) (hC : Kd.C (Kd.int .u64) w A l.length l) (hcp : l.length ≤ cp) (hn : l.length ≤ 1000000)
  (hk : (goesB c l.length f 5 5 = false ∧ l' = l ∧ f' = f) ∨ (goesB c l.length f 5 5 = true ∧ ((f.f1 = 0 ∧ Does 164 132 c f l f' l') ∨ (f.f1 = 1 ∧ Does 164 133 c f l f' l') ∨ (f.f1 = 2 ∧ Does 164 134 c f l f' l') ∨ (f.f1 = 3 ∧ Does 164 135 c f l f' l') ∨ (f.f1 = 4 ∧ Does 164 136 c f l f' l')))) :
  Calls Tryz.prog 119 #[cfV c, .slice A l.length cp, frV f] w fun e w' => ∃ v, e = .returned (.tuple #[v, frV f']) ∧ (Kd.int .u64).R 38 w' w.heap.size (fun _ => True) v l' ∧ Below w.heap.size w w' := by
 have HT0 := qQ (Thr.start w c f)
 have HC := qQ hC
 have HCP := qQ hcp
 have HN := qQ hn
 clear hC hcp hn
 have HK := qQ hk
 clear hk
 go_enter Tryz.func119, Tryz.ntmps119
 go_wp2
 refine zS 7 [] (fun W' => Thr w c f ⟨0, 0, 0, 0, 0, 0, 0⟩ W') HT0.o.drew fun hHeld => ?_
 refine zT 0 1 10 ?_ (hy := zy13)
 refine zT 1 3 11 ?_ (hy := zy13)
 refine zY 2 7 12 ?_
 refine zO 3 15 13 fun K hK => ?_
 go_simp
 refine (clone54 A cp l _ (Kd.C_below HC.o HT0.o.drew.two.hb) HN.o).mono ?_
 rintro e w1 ⟨u, rfl, ho, hb⟩
 have HT1 := qQ (HT0.o.drew.below hb)
 have HO1 := qQ (Kd.R_lower (Kd.R_imp (d' := Kd.int .u64) rfl (fun _ _ _ _ _ h => h) ho) HT0.o.drew.two.hb.size)
 obtain ⟨A1, c1, rfl⟩ := Kd.R_slice ho
 clear ho hb
 refine hK.out _ _ HT1.o (fun hHeld => ?_)
 refine zY 4 31 14 ?_
 refine zO 5 63 15 fun K hK => ?_
 go_simp
 refine hK.out _ _ (HT1.o.alloc _) (fun hHeld => ?_)
 refine zY 6 127 8 ?_
 refine zD ?_
 have HST0 := qQ (show St 164 (w1.alloc (boxO f c (.slice A1 l.length c1) 164)) w1.heap.size w.heap.size f c (.slice A1 l.length c1) l (w1.alloc (boxO f c (.slice A1 l.length c1) 164)) from ⟨⟨rfl, rfl, rfl, Nat.le_refl _, fun _ _ _ => rfl⟩, blk_new _ _, Kd.R_alloc HO1.o _, by decide, by have := HT1.o.two.hb.size; simp; omega⟩)
 have HT2 := qQ (HT1.o.alloc (boxO f c (.slice A1 l.length c1) 164))
 have hgl : w1.heap.size < (w1.alloc (boxO f c (.slice A1 l.length c1) 164)).heap.size := by simp
 have hgg := HT1.o.lt
 generalize (w1.alloc (boxO f c (.slice A1 l.length c1) 164)) = w2 at HST0 HT2 hgl ⊢
 generalize w1.heap.size = g at HST0 hgl hgg ⊢
 have HG := qQ hgg
 have HGL := qQ hgl
 clear hgg hgl hHeld HT1 HO1 HT0
 obtain ⟨ao, hao⟩ : ∃ ao, ao = (Obj.cells #[.func (.func 132) #[] #[], .func (.func 133) #[] #[], .func (.func 134) #[] #[], .func (.func 135) #[] #[], .func (.func 136) #[] #[]] 165) := ⟨_, rfl⟩
 have HT3 := qQ (HT2.o.alloc (.cells #[.func (.func 132) #[] #[], .func (.func 133) #[] #[], .func (.func 134) #[] #[], .func (.func 135) #[] #[], .func (.func 136) #[] #[]] 165))
 have HS3 := qQ (HST0.o.below (below_alloc (Below.refl _ _) (.cells #[.func (.func 132) #[] #[], .func (.func 133) #[] #[], .func (.func 134) #[] #[], .func (.func 135) #[] #[], .func (.func 136) #[] #[]] 165)))
 have HA3 := qQ (blk_new w2 (.cells #[.func (.func 132) #[] #[], .func (.func 133) #[] #[], .func (.func 134) #[] #[], .func (.func 135) #[] #[], .func (.func 136) #[] #[]] 165))
 have r0 := twoCells HT3.o.two
 clear hao ao
 rcases HK.o with ⟨hg, e1, e2⟩ | ⟨hg, hk⟩
 ·have e1 := e1.symm
  have e2 := e2.symm
  subst e1
  subst e2
  clear HK
  go_wp2_with (go_at_call 137; with_reducible refine (push_goes A cp l.length c f 5 5 _).mono ?_; rintro e w4 ⟨rfl, hb⟩; have HT4 := qQ (HT3.o.below hb); have HS4 := qQ (HS3.o.below hb); clear hb r0)
  refine zS 10 [9] (fun W' => W'.heap[g]? = some (boxO f c (.slice A1 l.length c1) 164)) HS4.o.drew.hb fun hHeld => ?_
  refine zY 0 1 30 ?_
  refine zY 1 3 31 ?_
  refine zY 2 7 32 ?_
  refine zT 3 15 33 ?_ (hy := zy10)
  refine zY 4 31 34 ?_
  refine zY 5 63 35 ?_
  refine zY 6 127 36 ?_
  refine zT 7 255 37 ?_ (hy := zy10)
  refine zY 8 511 6 ?_
  refine zL 9 1023 fun K hK => ?_
  have y0 := thrCells HT4.o
  have s0 := boxCells HS4.o.hb
  go_simp
  refine hK.out _ _ ?_
  refine zD ?_
  have HT9 := qQ (HT4.o.ans f).drew
  have HR9 := qQ (Kd.R_drew (R_ans HS4.o.hr HT4.o f))
  clear hHeld y0 s0
  go_wp2
  refine bodyPost_ret (results_tc rfl _ _ (w.heap.size + 1 + 1) 66 #[.int .i64 f.f0, .int .i64 f.f1, .int .i64 f.f2, .int .u64 f.f3, .int .u64 f.f4, .int .u64 f.f5, .int .i64 f.f6] (0, 0) _ rfl HT9.o.h2 Tryz.underlying66 rfl (by kernel_rfl)) rfl ?_
  exact ⟨_, rfl, HR9.o, HT9.o.two.hb⟩
 ·clear HK
  have e132 := fun args W => enters_of Tryz.func132 (by kernel_rfl) rfl args W
  have e133 := fun args W => enters_of Tryz.func133 (by kernel_rfl) rfl args W
  have e134 := fun args W => enters_of Tryz.func134 (by kernel_rfl) rfl args W
  have e135 := fun args W => enters_of Tryz.func135 (by kernel_rfl) rfl args W
  have e136 := fun args W => enters_of Tryz.func136 (by kernel_rfl) rfl args W
  rcases hk with ⟨hpc, hd⟩ | ⟨hpc, hd⟩ | ⟨hpc, hd⟩ | ⟨hpc, hd⟩ | ⟨hpc, hd⟩
  all_goals
   have HD := qQ hd
   have HPC := qQ hpc
   clear hd hpc
   go_wp2_with (go_at_call 137; with_reducible refine (push_goes A cp l.length c f 5 5 _).mono ?_; rintro e w4 ⟨rfl, hb⟩; have HT4 := qQ (HT3.o.below hb); have HS4 := qQ (HS3.o.below hb); have ha4 := blk_below HA3.o hb; have hpc := HPC.o; clear hb r0; have r0 := twoCells HT4.o.two; have b0 := (blk_cell ha4 0).trans rfl; have b1 := (blk_cell ha4 1).trans rfl; have b2 := (blk_cell ha4 2).trans rfl; have b3 := (blk_cell ha4 3).trans rfl; have b4 := (blk_cell ha4 4).trans rfl; clear ha4)
   refine (HD.o _ _ _ _ (St.self HS4.o)).mono ?_
   rintro e w5 ⟨⟨u5, rfl⟩, v5, hs5⟩
   have HT5 := qQ (HT4.o.grown hs5.gb HG.o)
   have HS5 := qQ hs5
   clear hs5 r0 b0 b1 b2 b3 b4
   go_wp2
   obtain ⟨A5, c5, rfl, _, _⟩ := Kd.R_reads HS5.o.hr
   refine zS 10 [9] (fun W' => W'.heap[g]? = some (boxO f' c (.slice A5 l'.length c5) 164)) HS5.o.drew.hb fun hHeld => ?_
   refine zY 0 1 30 ?_
   refine zY 1 3 31 ?_
   refine zY 2 7 32 ?_
   refine zT 3 15 33 ?_ (hy := zy10)
   refine zY 4 31 34 ?_
   refine zY 5 63 35 ?_
   refine zY 6 127 36 ?_
   refine zT 7 255 37 ?_ (hy := zy10)
   refine zY 8 511 6 ?_
   refine zL 9 1023 fun K hK => ?_
   have y0 := thrCells HT5.o
   have s0 := boxCells HS5.o.hb
   go_simp
   refine hK.out _ _ ?_
   refine zD ?_
   have HT9 := qQ (HT5.o.ans f').drew
   have HR9 := qQ (Kd.R_drew (R_ans HS5.o.hr HT5.o f'))
   clear hHeld y0 s0
   go_wp2
   refine bodyPost_ret (results_tc rfl _ _ (w.heap.size + 1 + 1) 66 #[.int .i64 f'.f0, .int .i64 f'.f1, .int .i64 f'.f2, .int .u64 f'.f3, .int .u64 f'.f4, .int .u64 f'.f5, .int .i64 f'.f6] (0, 0) _ rfl HT9.o.h2 Tryz.underlying66 rfl (by kernel_rfl)) rfl ?_
   exact ⟨_, rfl, HR9.o, HT9.o.two.hb⟩
end
end Go.Proofs.YthoeodjgfelkhaaGreat.QT
