/- Part 38 of the claim on TopWakes: a submitter's step in the model; rows of events; what steps keep; epochs of steps; what a worker's step keeps. No condition. -/
import Derived.Laws.BitsAllLaws
import Derived.Laws.Bits64
import Derived.Test.YthoeodjgfelkhaaGreatm37
set_option linter.unusedVariables false
set_option linter.unusedSimpArgs false
set_option maxRecDepth 100000
set_option maxHeartbeats 8000000
namespace Go.Proofs.YthoeodjgfelkhaaGreat.QT
open Go.RowKit Go.Proofs.YthoeodjgfelkhaaGreatW.PrintWords Go.Proofs.YthoeodjgfelkhaaGreatW.PrintLast Go.Proofs.YthoeodjgfelkhaaGreatW.PrintMore
attribute [local go_sem] max2_int min2_int max_two min_two
def subF (c : Cf) (i : Int) (x : Sd) : Sd :=
 let s := stepF c x.f x.m
 if x.pc = 0 then
  if loadF x.m 3 = 0 then ⟨1, x.roots, x.f, x.m, []⟩ else ⟨0, x.roots.tail, zF, x.m, [⟨1, rd x.roots 0, i⟩]⟩
 else if x.pc = 1 then ⟨2, x.roots, ⟨3, 0, i, IntKind.u64.wrap (rd x.roots 0), 0, 0, 0⟩, (addF x.m 0 1).1, []⟩
 else if x.pc = 2 then
  if s.1.f6 = 0 then ⟨2, x.roots, s.1, s.2, []⟩ else if s.1.f6 = 2 then ⟨5, x.roots, s.1, s.2, []⟩ else ⟨3, x.roots, s.1, s.2, [⟨0, rd x.roots 0, i⟩]⟩
 else if x.pc = 3 then
  if ¬ loadF x.m 1 = 0 then ⟨0, x.roots.tail, zF, x.m, []⟩ else ⟨4, x.roots, ⟨6, 0, i, 0, 0, 0, 0⟩, x.m, []⟩
 else if x.pc = 4 then
  if s.1.f6 = 0 then ⟨4, x.roots, s.1, s.2, []⟩ else ⟨0, x.roots.tail, zF, s.2, []⟩
 else ⟨0, x.roots.tail, zF, (addF x.m 0 18446744073709551615).1, if (addF x.m 0 18446744073709551615).2 = 1 then [⟨1, rd x.roots 0, i⟩, ⟨5, 0, i⟩] else [⟨1, rd x.roots 0, i⟩]⟩
def sdOf (x : S68) (m : List Int) : Sd := ⟨x.f0, x.f1, x.f2, m, []⟩
def s68Of (x : Sd) : S68 := ⟨x.pc, x.roots, x.f⟩
structure SGood (c : Cf) (t : List S45) (m : List Int) (x : S68) : Prop where
 may : mayB c = true
 fo : forestB t = true
 ml : (m.length : Int) = sizeF c
 nt : t.length ≤ 1000000
 p0 : 0 ≤ x.f0
 p1 : x.f0 < 6
 rg : ∀ r ∈ x.f1, 0 ≤ r ∧ r < (t.length : Int)
 rl : x.f1.length ≤ 1000000
 o2 : x.f0 = 2 → x.f2.f0 = 3
 o4 : x.f0 = 4 → x.f2.f0 = 6
theorem submay_some (c : Cf) (t : List S45) (m : List Int) (x : S68) (h : SGood c t m x) : submit_May.f c.w c.d c.i c.s t m x.f0 x.f1 x.f2.f0 x.f2.f1 x.f2.f2 x.f2.f3 x.f2.f4 x.f2.f5 x.f2.f6 = some (decide (0 < x.f1.length)) := by
 unfold submit_May.f
 rw [may_some, size_some, h.may]
 simp only [Option.bind_some, if_true]
 rw [if_pos h.ml, show forest_May.f t = some true by unfold forest_May.f; rw [if_pos h.nt, h.fo]]
 simp only [Option.bind_some, if_true]
 rw [if_pos (show x.f0 ≥ 0 from h.p0), if_pos h.p1]
 cases hx : x.f1 with
 | nil => simp
 | cons r l =>
  have hr := h.rg r (by rw [hx]; exact List.mem_cons_self)
  have e : rd (r :: l) 0 = r := rfl
  rw [if_pos (by simp), if_pos (by simp), e, if_pos (show r ≥ 0 from hr.1)]
  simp [hr.2]
def subTurn (c : Cf) (i : Int) (x : S68) (m : List Int) : Sd := if 0 < x.f1.length then subF c i (sdOf x m) else sdOf x m
theorem sub_SStep_ok (c : Cf) (t : List S45) (m : List Int) (i : Int) (x : S68) (h : SGood c t m x) : SStep c t m i x (decide (0 < x.f1.length)) (s68Of (subTurn c i x m)) (subTurn c i x m).m (subTurn c i x m).ev := by
 obtain ⟨c1, c8, z0, z1⟩ := may_lo c h.may
 have hmn : m.length ≤ 1000000 := by have := h.ml; omega
 refine ⟨fun At ct Am cm As cs_ W hT hct hM hcm hS hcs => ⟨submit_May.calls c.w c.d c.i c.s At ct t Am cm m x.f0 As cs_ x.f1 x.f2.f0 x.f2.f1 x.f2.f2 x.f2.f3 x.f2.f4 x.f2.f5 x.f2.f6 _ W hT hct hM hcm hS hcs (submay_some c t m x h), fun hb => ?_⟩, fun hb => ?_⟩
 ·have hp : 0 < x.f1.length := of_decide_eq_true hb
  have hst : ∀ (h1 : x.f2.f0 = 3 ∨ x.f2.f0 = 6), STEP (if x.f2.f0 = 3 ∨ x.f2.f0 = 4 then 95 else 94) c x.f2 m (stepF c x.f2 m).1 (stepF c x.f2 m).2 := fun h1 => by
   have h2 := step_STEP c x.f2 m hmn (by omega) (by omega)
   unfold whoF at h2
   rw [if_neg (by omega)] at h2
   exact h2
  have hsx : SX c i x.f0 x.f1 x.f2 m (subF c i (sdOf x m)) := by
   unfold SX
   by_cases p0 : x.f0 = 0
   ·refine Or.inl ⟨p0, ?_⟩
    have e : subF c i (sdOf x m) = if loadF m 3 = 0 then ⟨1, x.f1, x.f2, m, []⟩ else ⟨0, x.f1.tail, zF, m, [⟨1, rd x.f1 0, i⟩]⟩ := by unfold subF sdOf; rw [if_pos p0]
    rw [e]
    by_cases h3 : loadF m 3 = 0
    ·rw [if_pos h3]; exact Or.inl ⟨h3, rfl⟩
    ·rw [if_neg h3]; exact Or.inr ⟨h3, rfl⟩
   ·refine Or.inr ?_
    by_cases p1 : x.f0 = 1
    ·refine Or.inl ⟨p1, ?_⟩
     unfold subF sdOf; rw [if_neg p0, if_pos p1]
    ·refine Or.inr ?_
     by_cases p2 : x.f0 = 2
     ·refine Or.inl ⟨p2, _, _, hst (Or.inl (h.o2 p2)), ?_⟩
      have e : subF c i (sdOf x m) = if (stepF c x.f2 m).1.f6 = 0 then ⟨2, x.f1, (stepF c x.f2 m).1, (stepF c x.f2 m).2, []⟩ else if (stepF c x.f2 m).1.f6 = 2 then ⟨5, x.f1, (stepF c x.f2 m).1, (stepF c x.f2 m).2, []⟩ else ⟨3, x.f1, (stepF c x.f2 m).1, (stepF c x.f2 m).2, [⟨0, rd x.f1 0, i⟩]⟩ := by unfold subF sdOf; rw [if_neg p0, if_neg p1, if_pos p2]
      rw [e]
      by_cases k0 : (stepF c x.f2 m).1.f6 = 0
      ·rw [if_pos k0]; exact Or.inl ⟨k0, rfl⟩
      ·rw [if_neg k0]
       by_cases k2 : (stepF c x.f2 m).1.f6 = 2
       ·rw [if_pos k2]; exact Or.inr (Or.inl ⟨k2, rfl⟩)
       ·rw [if_neg k2]; exact Or.inr (Or.inr ⟨k0, k2, rfl⟩)
     ·refine Or.inr ?_
      by_cases p3 : x.f0 = 3
      ·refine Or.inl ⟨p3, ?_⟩
       have e : subF c i (sdOf x m) = if ¬ loadF m 1 = 0 then ⟨0, x.f1.tail, zF, m, []⟩ else ⟨4, x.f1, ⟨6, 0, i, 0, 0, 0, 0⟩, m, []⟩ := by unfold subF sdOf; rw [if_neg p0, if_neg p1, if_neg p2, if_pos p3]
       rw [e]
       by_cases k1 : loadF m 1 = 0
       ·rw [if_neg (fun h => h k1)]; exact Or.inr ⟨k1, rfl⟩
       ·rw [if_pos k1]; exact Or.inl ⟨k1, rfl⟩
      ·refine Or.inr ?_
       by_cases p4 : x.f0 = 4
       ·refine Or.inl ⟨p4, _, _, hst (Or.inr (h.o4 p4)), ?_⟩
        have e : subF c i (sdOf x m) = if (stepF c x.f2 m).1.f6 = 0 then ⟨4, x.f1, (stepF c x.f2 m).1, (stepF c x.f2 m).2, []⟩ else ⟨0, x.f1.tail, zF, (stepF c x.f2 m).2, []⟩ := by unfold subF sdOf; rw [if_neg p0, if_neg p1, if_neg p2, if_neg p3, if_pos p4]
        rw [e]
        by_cases k0 : (stepF c x.f2 m).1.f6 = 0
        ·rw [if_pos k0]; exact Or.inl ⟨k0, rfl⟩
        ·rw [if_neg k0]; exact Or.inr ⟨k0, rfl⟩
       ·refine Or.inr ⟨by have := h.p0; have := h.p1; omega, ?_⟩
        unfold subF sdOf; rw [if_neg p0, if_neg p1, if_neg p2, if_neg p3, if_neg p4]
  have htn : subTurn c i x m = subF c i (sdOf x m) := by unfold subTurn; rw [if_pos hp]
  rw [htn]
  exact sub_step c t At ct m Am cm i x.f0 x.f2 x.f1 As cs_ true _ W hM hmn hS h.rl (fun W' hb' => by
   have := submit_May.calls c.w c.d c.i c.s At ct t Am cm m x.f0 As cs_ x.f1 x.f2.f0 x.f2.f1 x.f2.f2 x.f2.f3 x.f2.f4 x.f2.f5 x.f2.f6 _ W' (Kd.C_below hT hb') hct (Kd.C_below hM hb') hcm (Kd.C_below hS hb') hcs (submay_some c t m x h)
   rw [hb] at this
   exact this) (Or.inr ⟨rfl, hp, hsx⟩)
 ·have hp : ¬ 0 < x.f1.length := of_decide_eq_false hb
  have htn : subTurn c i x m = sdOf x m := by unfold subTurn; rw [if_neg hp]
  rw [htn]
  exact ⟨rfl, rfl, rfl⟩
def pk (e m : Nat) : Nat := e % 281474976710656 * 65536 + m % 65536
theorem pk_lt (e m : Nat) : pk e m < 18446744073709551616 := by unfold pk; omega
theorem and16 (m : Nat) (hm : m < 18446744073709551616) : Go.bits .and .u64 (m : Int) 65535 = ((m % 65536 : Nat) : Int) := by
 have := u64_and_nat m 65535 hm (by omega)
 rw [nat_mask16] at this
 exact this
theorem pack_eq (e m : Nat) (hm : m < 18446744073709551616) : word_Pack.f (e : Int) (m : Int) = some ((pk e m : Nat) : Int) := by
 unfold word_Pack.f
 rw [and16 m hm]
 have h1 : IntKind.u64.wrap ((e : Int) * 65536) = ((e % 281474976710656 * 65536 : Nat) : Int) := by rw [IntKind.wrap_u64]; omega
 rw [h1, u64_or_nat _ _ (by omega) (by omega), nat_join 16 _ _ (by omega) (by omega)]
 rfl
theorem epoch_eq (e : Nat) : word_Epoch.f (e : Int) = some ((e / 65536 : Nat) : Int) := by
 unfold word_Epoch.f; congr 1
theorem mask_eq (e : Nat) (he : e < 18446744073709551616) : word_Mask.f (e : Int) = some ((e % 65536 : Nat) : Int) := by
 unfold word_Mask.f; rw [and16 e he]
def cut (m : Nat) : Nat := m &&& (m - 1)
theorem cut_le (m : Nat) : cut m ≤ m := Nat.and_le_left
theorem cut_lt (m : Nat) (h : m < 65536) : cut m < 65536 := Nat.lt_of_le_of_lt (cut_le m) h
theorem bump_eq (e : Nat) (he : e < 18446744073709551616) : word_Bump.f (e : Int) = some (((pk (e / 65536 + 1) (cut (e % 65536)) : Nat) : Int), Tryz.lowest ((e % 65536 : Nat) : Int)) := by
 unfold word_Bump.f word_Lowest.f
 rw [mask_eq e he, epoch_eq]
 simp only [Option.bind_some]
 have h1 : IntKind.u64.wrap (((e / 65536 : Nat) : Int) + 1) = ((e / 65536 + 1 : Nat) : Int) := by rw [IntKind.wrap_u64]; omega
 have h2 : Go.bits .and .u64 ((e % 65536 : Nat) : Int) (IntKind.u64.wrap (((e % 65536 : Nat) : Int) - 1)) = ((cut (e % 65536) : Nat) : Int) := by
  by_cases h0 : e % 65536 = 0
  ·rw [h0]; decide +kernel
  ·have h3 : IntKind.u64.wrap (((e % 65536 : Nat) : Int) - 1) = ((e % 65536 - 1 : Nat) : Int) := by rw [IntKind.wrap_u64]; omega
   rw [h3, u64_and_nat _ _ (by omega) (by omega)]
   rfl
 rw [h1, h2, pack_eq _ _ (Nat.lt_of_lt_of_le (cut_lt _ (by omega)) (by omega))]
 simp only [Option.bind_some]
theorem shl1 (w : Nat) (hw : w < 16) : shl .u64 1 (w : Int) = ((2 ^ w : Nat) : Int) := by
 have h : 2 ^ w < 65536 := Nat.pow_lt_pow_right (by omega) hw
 have e : shl .u64 1 (w : Int) = IntKind.u64.wrap (1 * 2 ^ min (w : Int).toNat 64) := rfl
 rw [e, IntKind.wrap_u64, Int.toNat_natCast, Nat.min_eq_left (by omega), Int.one_mul]
 have : ((2 : Int) ^ w) = ((2 ^ w : Nat) : Int) := by simp
 rw [this]
 generalize 2 ^ w = p at *
 omega
def put (e w : Nat) : Nat := e ||| 2 ^ w
theorem set_eq (e w : Nat) (he : e < 18446744073709551616) (hw : w < 16) : word_Set.f (e : Int) (w : Int) = some ((put e w : Nat) : Int) := by
 unfold word_Set.f
 rw [if_neg (by omega), if_neg (by omega), if_pos (by omega), shl1 w hw, u64_or_nat _ _ he (Nat.lt_trans (Nat.pow_lt_pow_right (by omega) hw : 2 ^ w < 2 ^ 16) (by omega))]
 rfl
theorem set_out (e : Nat) (w : Int) (hw : w < 0 ∨ 16 ≤ w) : word_Set.f (e : Int) w = some (e : Int) := by
 unfold word_Set.f
 rcases hw with h | h
 ·rw [if_pos h]
 ·rw [if_neg (by omega), if_pos (by omega)]
theorem put_other (e : Nat) {w k : Nat} (h : w ≠ k) : (put e w).testBit k = e.testBit k := by
 rw [put, Nat.testBit_or, Nat.testBit_two_pow]; simp [h]
theorem put_lt (e w : Nat) (he : e < 18446744073709551616) (hw : w < 16) : put e w < 18446744073709551616 :=
 Nat.or_lt_two_pow (n := 64) he (Nat.lt_trans (Nat.pow_lt_pow_right (by omega) hw : 2 ^ w < 2 ^ 16) (by omega))
theorem put_epoch (e w : Nat) (hw : w < 16) : put e w / 65536 = e / 65536 := by
 apply Nat.eq_of_testBit_eq
 intro i
 rw [show (65536 : Nat) = 2 ^ 16 from rfl, Nat.testBit_div_two_pow, Nat.testBit_div_two_pow]
 exact put_other e (by omega)
def u64B (v : Int) : Prop := 0 ≤ v ∧ v < 18446744073709551616
theorem wset_epoch (e w : Int) (h : u64B e) : u64B (wsetF e w) ∧ wsetF e w / 65536 = e / 65536 := by
 obtain ⟨n, rfl⟩ : ∃ n : Nat, e = (n : Int) := ⟨e.toNat, by have := h.1; omega⟩
 have hn : n < 18446744073709551616 := by have := h.2; omega
 by_cases hw : w < 0 ∨ 16 ≤ w
 ·have : wsetF (n : Int) w = (n : Int) := by unfold wsetF; rw [set_out n w hw]; rfl
  rw [this]; exact ⟨h, rfl⟩
 ·obtain ⟨k, rfl⟩ : ∃ k : Nat, w = (k : Int) := ⟨w.toNat, by omega⟩
  have hk : k < 16 := by omega
  have : wsetF (n : Int) (k : Int) = ((put n k : Nat) : Int) := by unfold wsetF; rw [set_eq n k hn hk]; rfl
  rw [this]
  have h1 := put_lt n k hn hk
  have h2 := put_epoch n k hk
  exact ⟨⟨by omega, by omega⟩, by omega⟩
theorem kind_epoch (e : Int) (h : u64B e) : u64B (kindF 6 e).1 ∧ (kindF 6 e).1 / 65536 ≤ e / 65536 + 1 := by
 obtain ⟨n, rfl⟩ : ∃ n : Nat, e = (n : Int) := ⟨e.toNat, by have := h.1; omega⟩
 have hn : n < 18446744073709551616 := by have := h.2; omega
 have hb : word_Bump.f (n : Int) = some (bumpF (n : Int)) := rfl
 rw [bump_eq n hn] at hb
 injection hb with hb
 have hk : (kindF 6 (n : Int)).1 = ((pk (n / 65536 + 1) (cut (n % 65536)) : Nat) : Int) := by
  unfold kindF
  rw [if_pos rfl, ← hb]
 rw [hk]
 have h1 := pk_lt (n / 65536 + 1) (cut (n % 65536))
 refine ⟨⟨by omega, by omega⟩, ?_⟩
 have h2 : pk (n / 65536 + 1) (cut (n % 65536)) / 65536 ≤ n / 65536 + 1 := by unfold pk; omega
 omega
theorem at_cases {c : Cf} {wi r q : Int} (hm : mayB c = true) (h : lay_at.f c.w c.d c.i c.s wi (some r) = some q) : q = -1 ∨ (q = r ∧ 0 ≤ wi ∧ wi < c.w) := by
 obtain ⟨c1, c8, _⟩ := may_lo c hm
 unfold lay_at.f at h
 rw [may_some, hm] at h
 have hw : wrap64 (c.w - 1) = c.w - 1 := by unfold wrap64; omega
 simp only [Option.bind_some, if_true, lay_in.f, hw] at h
 by_cases h0 : wi ≥ 0
 ·rw [if_pos h0] at h
  simp only [Option.bind_some, decide_eq_true_eq] at h
  by_cases h1 : wi ≤ c.w - 1
  ·rw [if_pos h1] at h
   injection h with h
   exact Or.inr ⟨h.symm, h0, by omega⟩
  ·rw [if_neg h1] at h
   injection h with h
   exact Or.inl h.symm
 ·rw [if_neg h0] at h
  simp only [Option.bind_some] at h
  rw [if_neg (by simp)] at h
  injection h with h
  exact Or.inl h.symm
theorem base_val {c : Cf} (hm : mayB c = true) {wi : Int} (h0 : 0 ≤ wi) (h1 : wi < c.w) : ∃ b, lay_base.f c.w c.d c.i c.s wi = some b ∧ 6 ≤ b ∧ b ≤ 300 := by
 obtain ⟨c1, c8, _⟩ := may_lo c hm
 obtain ⟨d1, d2, i1, i2⟩ := may_hi c hm
 have h2 : wrap64 (3 + c.d) = 3 + c.d := by unfold wrap64; omega
 have h3 : 0 ≤ wi * (3 + c.d) ∧ wi * (3 + c.d) ≤ 8 * 19 := ⟨Int.mul_nonneg h0 (by omega), Int.mul_le_mul (by omega) (by omega) (by omega) (by omega)⟩
 refine ⟨_, rfl, ?_⟩
 rw [h2]
 generalize wi * (3 + c.d) = z at h3 ⊢
 unfold wrap64
 omega
theorem ne_of_at {c : Cf} {wi r q : Int} (hm : mayB c = true) (h : lay_at.f c.w c.d c.i c.s wi (some r) = some q) (hr : 0 ≤ wi → wi < c.w → 3 ≤ r) : q ≠ 2 := by
 rcases at_cases hm h with e | ⟨e, h0, h1⟩
 ·omega
 ·have := hr h0 h1; omega
theorem top_ne {c : Cf} (hm : mayB c = true) (wi : Int) : topF c wi ≠ 2 := ne_of_at hm (top_some c wi) (fun h0 h1 => by
 obtain ⟨b, hb, h6, _⟩ := base_val hm h0 h1
 unfold lay_base.f at hb
 injection hb with hb
 rw [hb]; omega)
theorem plus_ne {c : Cf} (hm : mayB c = true) (wi k : Int) (hk : 0 ≤ k) (hk2 : k ≤ 100000) {q : Int} (h : lay_at.f c.w c.d c.i c.s wi ((lay_base.f c.w c.d c.i c.s wi).bind fun b => some (wrap64 (b + k))) = some q) : q ≠ 2 := by
 by_cases hw : 0 ≤ wi ∧ wi < c.w
 ·obtain ⟨b, hb, h6, h3⟩ := base_val hm hw.1 hw.2
  rw [hb, Option.bind_some] at h
  exact ne_of_at hm h (fun _ _ => by unfold wrap64; omega)
 ·have : ∃ r, ((lay_base.f c.w c.d c.i c.s wi).bind fun b => some (wrap64 (b + k))) = some r := ⟨_, rfl⟩
  obtain ⟨r, hr⟩ := this
  rw [hr] at h
  rcases at_cases hm h with e | ⟨e, h0, h1⟩
  ·omega
  ·exact absurd ⟨h0, h1⟩ hw
theorem bottom_ne {c : Cf} (hm : mayB c = true) (wi : Int) : bottomF c wi ≠ 2 := plus_ne hm wi 1 (by omega) (by omega) (bottom_some c wi)
theorem park_ne {c : Cf} (hm : mayB c = true) (wi : Int) : parkF c wi ≠ 2 := plus_ne hm wi 2 (by omega) (by omega) (park_some c wi)
theorem slot_ne {c : Cf} (hm : mayB c = true) (wi x : Int) (hx : u64B x) : slotF c wi x ≠ 2 := by
 obtain ⟨d1, d2, i1, i2⟩ := may_hi c hm
 have h := slot_some c wi x
 unfold lay_Slot.f at h
 obtain ⟨n, rfl⟩ : ∃ n : Nat, x = (n : Int) := ⟨x.toNat, by have := hx.1; omega⟩
 have hn : n < 18446744073709551616 := by have := hx.2; omega
 have e1 : IntKind.u64.wrap (wrap64 (c.d - 1)) = (((c.d - 1).toNat : Nat) : Int) := by rw [IntKind.wrap_u64]; unfold wrap64; omega
 have e2 := u64_and_nat n (c.d - 1).toNat hn (by omega)
 have e3 : n &&& (c.d - 1).toNat ≤ (c.d - 1).toNat := Nat.and_le_right
 rw [e1, e2] at h
 generalize n &&& (c.d - 1).toNat = z at e3 h
 by_cases hw : 0 ≤ wi ∧ wi < c.w
 ·obtain ⟨b, hb, h6, h3⟩ := base_val hm hw.1 hw.2
  rw [hb, Option.bind_some] at h
  exact ne_of_at hm h (fun _ _ => by unfold wrap64; omega)
 ·have : ∃ r, ((lay_base.f c.w c.d c.i c.s wi).bind fun b => some (wrap64 (wrap64 (b + 3) + wrap64 (z : Int)))) = some r := ⟨_, rfl⟩
  obtain ⟨r, hr⟩ := this
  rw [hr] at h
  rcases at_cases hm h with e | ⟨e, h0, h1⟩
  ·omega
  ·exact absurd ⟨h0, h1⟩ hw
theorem tmod_lo {x i : Int} (hx : 0 ≤ x) (hi : 1 ≤ i) : 0 ≤ Int.tmod x i ∧ Int.tmod x i < i := by
 rw [Int.tmod_eq_emod_of_nonneg hx]
 exact ⟨Int.emod_nonneg _ (by omega), Int.emod_lt_of_pos _ (by omega)⟩
theorem seq_ne {c : Cf} (hm : mayB c = true) (x : Int) (hx : u64B x) : seqF c x ≠ 2 := by
 obtain ⟨d1, d2, i1, i2⟩ := may_hi c hm
 have hz := may_z c hm
 have h := seq_some c x hz
 unfold lay_Seq.f at h
 have e1 : IntKind.u64.wrap c.i = c.i := by rw [IntKind.wrap_u64]; omega
 rw [if_neg hz, e1] at h
 have ht := tmod_lo hx.1 i1
 exact ne_of_at hm h (fun _ _ => by generalize Int.tmod x c.i = z at ht ⊢; unfold wrap64; omega)
theorem val_ne {c : Cf} (hm : mayB c = true) (x : Int) (hx : u64B x) : valF c x ≠ 2 := by
 obtain ⟨d1, d2, i1, i2⟩ := may_hi c hm
 have hz := may_z c hm
 have h := val_some c x hz
 unfold lay_Val.f at h
 have e1 : IntKind.u64.wrap c.i = c.i := by rw [IntKind.wrap_u64]; omega
 rw [if_neg hz, e1] at h
 have ht := tmod_lo hx.1 i1
 exact ne_of_at hm h (fun _ _ => by generalize Int.tmod x c.i = z at ht ⊢; unfold wrap64; omega)
def U64 (m : List Int) : Prop := ∀ v ∈ m, u64B v
def FU (f : S66) : Prop := u64B f.f3 ∧ u64B f.f4 ∧ u64B f.f5
theorem u64_wrap (n : Int) : u64B (IntKind.u64.wrap n) := by unfold u64B; rw [IntKind.wrap_u64]; omega
theorem u64_0 : u64B 0 := by unfold u64B; omega
theorem rd_mem {m : List Int} {i : Int} (h0 : 0 ≤ i) (h1 : i < (m.length : Int)) : rd m i ∈ m := by
 unfold rd
 rw [List.getD_eq_getElem?_getD, List.getElem?_eq_getElem (by omega), Option.getD_some]
 exact List.getElem_mem _
theorem load_u {m : List Int} (h : U64 m) (i : Int) : u64B (loadF m i) := by
 unfold loadF
 split
 ·rename_i hi; exact h _ (rd_mem hi.1 hi.2)
 ·exact u64_0
theorem set_u {m : List Int} (h : U64 m) (k : Nat) {v : Int} (hv : u64B v) : U64 (m.set k v) := fun x hx => by
 rcases List.mem_or_eq_of_mem_set hx with h1 | h1
 ·exact h x h1
 ·rw [h1]; exact hv
structure MK (m m' : List Int) : Prop where
 len : m'.length = m.length
 u : U64 m'
 two : loadF m' 2 / 65536 = loadF m 2 / 65536
theorem rd_set_ne {m : List Int} {k : Nat} {v : Int} (h : k ≠ 2) : rd (m.set k v) 2 = rd m 2 := by
 unfold rd
 simp only [List.getD_eq_getElem?_getD]
 rw [show (2 : Int).toNat = 2 from rfl, List.getElem?_set_ne h]
theorem load2_set {m : List Int} {k : Nat} {v : Int} (h : k ≠ 2) : loadF (m.set k v) 2 = loadF m 2 := by
 unfold loadF
 rw [List.length_set, rd_set_ne h]
theorem MK.refl {m : List Int} (h : U64 m) : MK m m := ⟨rfl, h, rfl⟩
theorem MK.set {m : List Int} (h : U64 m) {k : Nat} (hk : k ≠ 2) {v : Int} (hv : u64B v) : MK m (m.set k v) := ⟨List.length_set, set_u h k hv, by rw [load2_set hk]⟩
theorem MK.store {m : List Int} (h : U64 m) {p v : Int} (hp : p ≠ 2) (hv : u64B v) : MK m (storeF m p v) := by
 unfold storeF
 split
 ·exact MK.set h (by omega) hv
 ·exact MK.refl h
theorem MK.add {m : List Int} (h : U64 m) {p v : Int} (hp : p ≠ 2) : MK m (addF m p v).1 := by
 unfold addF
 split
 ·exact MK.set h (by omega) (u64_wrap _)
 ·exact MK.refl h
theorem MK.cas {m : List Int} (h : U64 m) {p o n : Int} (hp : p ≠ 2) (hn : u64B n) : MK m (casF m p o n).1 := by
 unfold casF
 split
 ·exact MK.set h (by omega) hn
 ·exact MK.refl h
theorem load2_rd {m : List Int} (h : (2 : Int) < (m.length : Int)) : loadF m 2 = rd m 2 := by unfold loadF; rw [if_pos ⟨by omega, h⟩]
theorem set2 {m : List Int} (h : (2 : Int) < (m.length : Int)) (v : Int) : loadF (m.set 2 v) 2 = v := by
 unfold loadF rd
 rw [if_pos ⟨by omega, by rw [List.length_set]; exact h⟩, List.getD_eq_getElem?_getD, show (2 : Int).toNat = 2 from rfl, List.getElem?_set_self (by omega)]
 rfl
structure SK (f : S66) (m : List Int) (s : S66 × List Int) : Prop where
 mem : MK m s.2
 fu : FU s.1
 op : s.1.f0 = f.f0
theorem push_SK {c : Cf} {f : S66} {m : List Int} (hm : U64 m) (hf : FU f) : SK f m (pushF c f m) := by
 unfold pushF
 split
 ·rename_i hg
  obtain ⟨hc, _, _⟩ := goesB_lt hg
  split
  ·exact ⟨MK.refl hm, ⟨hf.1, load_u hm _, hf.2.2⟩, rfl⟩
  ·split
   ·split
    ·exact ⟨MK.refl hm, ⟨hf.1, u64_0, u64_0⟩, rfl⟩
    ·exact ⟨MK.refl hm, ⟨hf.1, hf.2.1, load_u hm _⟩, rfl⟩
   ·split
    ·exact ⟨MK.store hm (slot_ne hc _ _ hf.2.1) hf.1, hf, rfl⟩
    ·exact ⟨MK.store hm (bottom_ne hc _) (u64_wrap _), ⟨hf.1, u64_0, u64_0⟩, rfl⟩
 ·exact ⟨MK.refl hm, hf, rfl⟩
theorem pop_SK {c : Cf} {f : S66} {m : List Int} (hm : U64 m) (hf : FU f) : SK f m (popF c f m) := by
 unfold popF
 split
 ·rename_i hg
  obtain ⟨hc, _, _⟩ := goesB_lt hg
  split
  ·exact ⟨MK.refl hm, ⟨hf.1, u64_wrap _, hf.2.2⟩, rfl⟩
  ·split
   ·exact ⟨MK.store hm (bottom_ne hc _) hf.2.1, hf, rfl⟩
   ·split
    ·split <;> exact ⟨MK.refl hm, ⟨hf.1, hf.2.1, load_u hm _⟩, rfl⟩
    ·split
     ·split
      ·exact ⟨MK.refl hm, ⟨load_u hm _, hf.2.1, hf.2.2⟩, rfl⟩
      ·exact ⟨MK.refl hm, ⟨load_u hm _, u64_0, u64_0⟩, rfl⟩
     ·split
      ·refine ⟨MK.cas hm (top_ne hc _) (u64_wrap _), ?_, ?_⟩
       ·split <;> exact hf
       ·split <;> rfl
      ·split
       ·exact ⟨MK.store hm (bottom_ne hc _) (u64_wrap _), ⟨hf.1, u64_0, u64_0⟩, rfl⟩
       ·exact ⟨MK.store hm (bottom_ne hc _) (u64_wrap _), ⟨u64_0, u64_0, u64_0⟩, rfl⟩
 ·exact ⟨MK.refl hm, hf, rfl⟩
theorem steal_SK {c : Cf} {f : S66} {m : List Int} (hm : U64 m) (hf : FU f) : SK f m (stealF c f m) := by
 unfold stealF
 split
 ·rename_i hg
  obtain ⟨hc, _, _⟩ := goesB_lt hg
  split
  ·exact ⟨MK.refl hm, ⟨hf.1, hf.2.1, load_u hm _⟩, rfl⟩
  ·split
   ·split
    ·exact ⟨MK.refl hm, ⟨u64_0, u64_0, u64_0⟩, rfl⟩
    ·exact ⟨MK.refl hm, ⟨hf.1, load_u hm _, hf.2.2⟩, rfl⟩
   ·split
    ·exact ⟨MK.refl hm, ⟨load_u hm _, hf.2.1, hf.2.2⟩, rfl⟩
    ·refine ⟨MK.cas hm (top_ne hc _) (u64_wrap _), ?_, ?_⟩
     ·split
      ·exact ⟨hf.1, u64_0, u64_0⟩
      ·exact ⟨u64_0, u64_0, u64_0⟩
     ·split <;> rfl
 ·exact ⟨MK.refl hm, hf, rfl⟩
theorem enq_SK {c : Cf} {f : S66} {m : List Int} (hm : U64 m) (hf : FU f) : SK f m (enqF c f m) := by
 unfold enqF
 split
 ·rename_i hg
  obtain ⟨hc, _, _⟩ := goesE_lt hg
  split
  ·exact ⟨MK.refl hm, ⟨hf.1, load_u hm _, hf.2.2⟩, rfl⟩
  ·split
   ·split
    ·exact ⟨MK.refl hm, ⟨hf.1, hf.2.1, load_u hm _⟩, rfl⟩
    ·split
     ·exact ⟨MK.refl hm, ⟨hf.1, u64_0, u64_0⟩, rfl⟩
     ·exact ⟨MK.refl hm, ⟨hf.1, hf.2.1, load_u hm _⟩, rfl⟩
   ·split
    ·exact ⟨MK.cas hm (by decide) (u64_wrap _), hf, rfl⟩
    ·split
     ·exact ⟨MK.store hm (val_ne hc _ hf.2.1) hf.1, hf, rfl⟩
     ·exact ⟨MK.store hm (seq_ne hc _ hf.2.1) (u64_wrap _), ⟨hf.1, u64_0, u64_0⟩, rfl⟩
 ·exact ⟨MK.refl hm, hf, rfl⟩
theorem deq_SK {c : Cf} {f : S66} {m : List Int} (hm : U64 m) (hf : FU f) : SK f m (deqF c f m) := by
 unfold deqF
 split
 ·rename_i hg
  obtain ⟨hc, _, _⟩ := goesE_lt hg
  split
  ·exact ⟨MK.refl hm, ⟨hf.1, load_u hm _, hf.2.2⟩, rfl⟩
  ·split
   ·split
    ·exact ⟨MK.refl hm, ⟨hf.1, hf.2.1, load_u hm _⟩, rfl⟩
    ·split
     ·exact ⟨MK.refl hm, ⟨u64_0, u64_0, u64_0⟩, rfl⟩
     ·exact ⟨MK.refl hm, ⟨hf.1, hf.2.1, load_u hm _⟩, rfl⟩
   ·split
    ·exact ⟨MK.cas hm (by decide) (u64_wrap _), hf, rfl⟩
    ·split
     ·exact ⟨MK.refl hm, ⟨load_u hm _, hf.2.1, hf.2.2⟩, rfl⟩
     ·exact ⟨MK.store hm (seq_ne hc _ hf.2.1) (u64_wrap _), ⟨hf.1, u64_0, u64_0⟩, rfl⟩
 ·exact ⟨MK.refl hm, hf, rfl⟩
theorem cas2 {m : List Int} {o n : Int} : ((casF m 2 o n).2 = true ∧ (2 : Int) < (m.length : Int) ∧ loadF m 2 = o ∧ (casF m 2 o n).1 = m.set 2 n) ∨ ((casF m 2 o n).2 = false ∧ (casF m 2 o n).1 = m) := by
 unfold casF
 by_cases h : 0 ≤ (2 : Int) ∧ (2 : Int) < (m.length : Int) ∧ rd m 2 = o
 ·rw [if_pos h]
  exact Or.inl ⟨rfl, h.2.1, (load2_rd h.2.1).trans h.2.2, rfl⟩
 ·rw [if_neg h]
  exact Or.inr ⟨rfl, rfl⟩
theorem wait_SK {c : Cf} {f : S66} {m : List Int} (hm : U64 m) (hf : FU f) : SK f m (waitF c f m) := by
 unfold waitF
 split
 ·rename_i hg
  obtain ⟨hc, _, _⟩ := goesB_lt hg
  split
  ·exact ⟨MK.refl hm, ⟨hf.1, load_u hm _, hf.2.2⟩, rfl⟩
  ·split
   ·split
    ·exact ⟨MK.refl hm, ⟨hf.1, hf.2.1, load_u hm _⟩, rfl⟩
    ·exact ⟨MK.refl hm, ⟨u64_0, u64_0, u64_0⟩, rfl⟩
   ·split
    ·refine ⟨?_, hf, rfl⟩
     obtain ⟨w1, w2⟩ := wset_epoch f.f5 f.f2 hf.2.2
     rcases cas2 (m := m) (o := f.f5) (n := wsetF f.f5 f.f2) with ⟨_, hl, ho, h1⟩ | ⟨_, h1⟩
     ·dsimp only
      rw [h1]
      exact ⟨List.length_set, set_u hm _ w1, by rw [set2 hl, w2, ho]⟩
     ·dsimp only
      rw [h1]
      exact MK.refl hm
    ·split
     ·exact ⟨MK.refl hm, ⟨hf.1, hf.2.1, load_u hm _⟩, rfl⟩
     ·exact ⟨MK.store hm (park_ne hc _) u64_0, ⟨u64_0, u64_0, u64_0⟩, rfl⟩
 ·exact ⟨MK.refl hm, hf, rfl⟩
theorem step_SK {c : Cf} {f : S66} {m : List Int} (hm : U64 m) (hf : FU f) (h6 : f.f0 ≠ 6) (h0 : 0 ≤ f.f0) (h7 : f.f0 ≤ 6) : SK f m (stepF c f m) := by
 unfold stepF
 split
 ·exact push_SK hm hf
 ·split
  ·exact pop_SK hm hf
  ·split
   ·exact steal_SK hm hf
   ·split
    ·exact enq_SK hm hf
    ·split
     ·exact deq_SK hm hf
     ·split
      ·exact wait_SK hm hf
      ·omega
def outB (f : S66) : Int := if f.f1 = 0 ∨ f.f1 = 1 then 1 else 0
structure NK (f : S66) (m : List Int) (s : S66 × List Int) : Prop where
 len : s.2.length = m.length
 u : U64 s.2
 fu : FU s.1
 op : s.1.f0 = f.f0
 go : s.1.f6 = 0 → loadF s.2 2 / 65536 + outB s.1 ≤ loadF m 2 / 65536 + outB f
 en : loadF s.2 2 / 65536 ≤ loadF m 2 / 65536 + outB f
theorem outB_ge (f : S66) : 0 ≤ outB f ∧ outB f ≤ 1 := by unfold outB; split <;> omega
theorem note_NK {c : Cf} {f : S66} {m : List Int} (hm : U64 m) (hf : FU f) : NK f m (noteF c f m) := by
 have ho := outB_ge f
 unfold noteF
 split
 ·rename_i hg
  obtain ⟨hc, _, _⟩ := noteB_lt hg
  split
  ·rename_i e0
   have h1 : outB f = 1 := by unfold outB; rw [if_pos (Or.inl e0)]
   exact ⟨rfl, hm, ⟨hf.1, load_u hm _, hf.2.2⟩, rfl, fun _ => by rw [h1]; show _ + outB ({ f with f4 := loadF m 2, f1 := 1 }) ≤ _; unfold outB; rw [if_pos (Or.inr rfl)]; exact Int.le_refl _, by rw [h1]; show loadF m 2 / 65536 ≤ _; omega⟩
  ·split
   ·rename_i e0 e1
    have h1 : outB f = 1 := by unfold outB; rw [if_pos (Or.inr e1)]
    obtain ⟨w1, w2⟩ := kind_epoch f.f4 hf.2.1
    rcases cas2 (m := m) (o := f.f4) (n := (kindF 6 f.f4).1) with ⟨hb, hl, hq, h2⟩ | ⟨hb, h2⟩
    ·rw [hb, h2, if_pos rfl]
     have hE : loadF (m.set 2 (kindF 6 f.f4).1) 2 / 65536 ≤ loadF m 2 / 65536 + 1 := by rw [set2 hl, hq]; exact w2
     split
     ·exact ⟨List.length_set, set_u hm _ w1, ⟨u64_0, u64_0, u64_0⟩, rfl, fun h => absurd h (by show ¬ (3 : Int) = 0; decide), by rw [h1]; exact hE⟩
     ·refine ⟨List.length_set, set_u hm _ w1, ⟨hf.1, hf.2.1, ?_⟩, rfl, fun _ => ?_, by rw [h1]; exact hE⟩
      ·show u64B (kindF 6 f.f4).2
       unfold kindF
       rw [if_pos rfl]
       exact u64_wrap _
      ·rw [h1]
       show _ + outB ({ f with f5 := (kindF 6 f.f4).2, f1 := 2 }) ≤ _
       have : outB ({ f with f5 := (kindF 6 f.f4).2, f1 := 2 }) = 0 := if_neg (show ¬ ((2 : Int) = 0 ∨ (2 : Int) = 1) by decide)
       rw [this]
       have := hE
       show loadF (m.set 2 (kindF 6 f.f4).1) 2 / 65536 + 0 ≤ _
       omega
    ·rw [hb, h2, if_neg (by decide)]
     exact ⟨rfl, hm, hf, rfl, fun _ => by rw [h1]; show _ + outB ({ f with f1 := 0 }) ≤ _; unfold outB; rw [if_pos (Or.inl rfl)]; exact Int.le_refl _, by rw [h1]; show loadF m 2 / 65536 ≤ _; omega⟩
   ·have k := MK.store hm (p := parkF c (if f.f5 < 8 then wrap64 f.f5 else -1)) (v := 1) (park_ne hc _) (by unfold u64B; omega)
    exact ⟨k.len, k.u, ⟨hf.2.2, u64_0, u64_0⟩, rfl, fun h => absurd h (by show ¬ (1 : Int) = 0; decide), by
     show loadF (storeF m _ 1) 2 / 65536 ≤ _
     rw [k.two]
     omega⟩
 ·exact ⟨rfl, hm, hf, rfl, fun _ => Int.le_refl _, by show loadF m 2 / 65536 ≤ _; omega⟩
theorem think_iff {t : List S45} {s : List S116} : thinkB true t s = true ↔ ∀ x ∈ s, badI t x = false := by
 simp [thinkB, List.any_eq_false]
theorem bad_iff {t : List S45} {x : S116} : badI t x = false ↔ (0 ≤ x.f0 ∧ x.f0 < (t.length : Int)) ∧ (0 ≤ x.f1 ∧ x.f1 ≤ (rd_T45 t x.f0).f0) ∧ (0 ≤ x.f2 ∧ x.f2 ≤ ((rd_T45 t x.f0).f1.length : Int)) ∧ (x.f1 < (rd_T45 t x.f0).f0 → x.f2 ≤ 0) := by
 unfold badI inB
 simp only [Bool.or_eq_false_iff, Bool.not_eq_false', Bool.and_eq_false_iff, Bool.and_eq_true, decide_eq_true_eq, decide_eq_false_iff_not]
 omega
theorem cost_ge {t : List S45} (fo : forestB t = true) {i : Int} (h0 : 0 ≤ i) (h1 : i < (t.length : Int)) : 0 ≤ (rd_T45 t i).f0 ∧ (rd_T45 t i).f0 ≤ 20 ∧ t.length ≤ 30 := by
 unfold forestB at fo
 simp only [Bool.and_eq_true, Bool.not_eq_true', List.any_eq_false, decide_eq_true_eq] at fo
 have hm : rd_T45 t i ∈ t := by
  unfold rd_T45
  rw [List.getD_eq_getElem?_getD, List.getElem?_eq_getElem (by omega)]
  exact List.getElem_mem _
 have := fo.1.2 _ hm
 simp [badT] at this
 exact ⟨by omega, by omega, fo.1.1⟩
def GS (n : Nat) (t : List S45) (s : List S116) : Prop := thinkB true t s = true ∧ s.length ≤ n
theorem GS.mono {n k : Nat} {t : List S45} {s : List S116} (h : GS n t s) (hk : n ≤ k) : GS k t s := ⟨h.1, by have := h.2; omega⟩
theorem GS.start {n : Nat} {t : List S45} {s : List S116} (fo : forestB t = true) (h : GS n t s) (v : Int) : GS (n + 1) t (startF t s v) := by
 unfold startF
 split
 ·rename_i hg
  refine ⟨think_iff.2 fun x hx => ?_, by have := h.2; simp; omega⟩
  rcases List.mem_append.1 hx with hx | hx
  ·exact think_iff.1 h.1 x hx
  ·rw [List.mem_singleton.1 hx]
   have := cost_ge fo (i := v) (by omega) (by omega)
   exact bad_iff.2 ⟨⟨by show 0 ≤ v; omega, by show v < _; omega⟩, ⟨by show (0 : Int) ≤ 0; omega, this.1⟩, ⟨by show (0 : Int) ≤ 0; omega, by show (0 : Int) ≤ _; omega⟩, fun _ => by show (0 : Int) ≤ 0; omega⟩
 ·exact h.mono (Nat.le_succ n)
theorem rdT_mem {t : List S45} {i : Int} (h0 : 0 ≤ i) (h1 : i < (t.length : Int)) : rd_T45 t i ∈ t := by
 unfold rd_T45
 rw [List.getD_eq_getElem?_getD, List.getElem?_eq_getElem (by omega)]
 exact List.getElem_mem _
theorem GS.do {n : Nat} {t : List S45} {s : List S116} (fo : forestB t = true) (hk : ∀ x ∈ t, x.f1.length ≤ 1000000) (h : GS n t s) : GS (n + 1) t (doF (nextF (forestB t) t s).1 s) := by
 have hb := think_iff.1 h.1
 refine GS.mono ?_ (Nat.le_succ n)
 rw [fo]
 by_cases hs : s = []
 ·subst hs
  have e : doF (nextF true t []).1 [] = [] := by simp [nextF, doF]
  rw [e]
  exact h
 ·obtain ⟨x, hl, hx, hr⟩ := rd_last hs
  have hbx := bad_iff.1 (hb x hx)
  have hset : ∀ y : S116, badI t y = false → GS n t (s.set (s.length - 1) y) := fun y hy => ⟨think_iff.2 fun z hz => by
   rcases List.mem_or_eq_of_mem_set hz with h1 | h1
   ·exact hb z h1
   ·rw [h1]; exact hy, by rw [List.length_set]; exact h.2⟩
  have hc := cost_ge fo hbx.1.1 hbx.1.2
  unfold doF nextF
  rw [hl]
  simp only [h.1, if_true]
  by_cases k1 : x.f1 < (rd_T45 t x.f0).f0
  ·rw [if_pos k1, if_pos rfl]
   unfold tickF
   rw [hr]
   have e : wrap64 (x.f1 + 1) = x.f1 + 1 := by unfold wrap64; omega
   rw [e]
   exact hset _ (bad_iff.2 ⟨hbx.1, ⟨by show 0 ≤ x.f1 + 1; omega, by show x.f1 + 1 ≤ (rd_T45 t x.f0).f0; omega⟩, hbx.2.2.1, fun _ => hbx.2.2.2 k1⟩)
  ·rw [if_neg k1]
   by_cases k2 : x.f2 < ((rd_T45 t x.f0).f1.length : Int)
   ·rw [if_pos k2]
    dsimp only
    rw [if_neg (by decide), if_pos rfl]
    unfold kidF
    rw [hr]
    have hk2 := hk _ (rdT_mem hbx.1.1 hbx.1.2)
    have hd := hbx.2.2.1
    ·have e : wrap64 (x.f2 + 1) = x.f2 + 1 := by unfold wrap64; omega
     rw [e]
     exact hset _ (bad_iff.2 ⟨hbx.1, hbx.2.1, ⟨by show 0 ≤ x.f2 + 1; omega, by show x.f2 + 1 ≤ ((rd_T45 t x.f0).f1.length : Int); omega⟩, fun h => absurd h k1⟩)
   ·rw [if_neg k2]
    dsimp only
    rw [if_neg (by decide), if_neg (by decide), if_pos rfl]
    exact ⟨think_iff.2 fun z hz => hb z (List.dropLast_subset s hz), by rw [List.length_dropLast]; have := h.2; omega⟩
def outP (pc : Int) (f : S66) : Int := if pc = 14 then outB f else if pc = 11 ∨ pc = 12 ∨ pc = 13 then 1 else 0
theorem out_ge (pc : Int) (f : S66) : 0 ≤ outP pc f ∧ outP pc f ≤ 1 := by
 have := outB_ge f
 unfold outP
 split
 ·exact this
 ·split <;> omega
theorem out0 {pc : Int} {f : S66} (h : pc < 11 ∨ 14 < pc) : outP pc f = 0 := by
 unfold outP
 rw [if_neg (by omega), if_neg (by omega)]
theorem out1 {pc : Int} {f : S66} (h : pc = 11 ∨ pc = 12 ∨ pc = 13) : outP pc f = 1 := by
 unfold outP
 rw [if_neg (by omega), if_pos h]
theorem out14 (f : S66) : outP 14 f = outB f := rfl
structure FG (pc : Int) (f : S66) : Prop where
 o0 : 0 ≤ f.f0
 o1 : f.f0 ≤ 6
 o6 : f.f0 = 6 ↔ pc = 14
 fu : FU f
structure WI (n : Nat) (t : List S45) (x : S76) : Prop where
 p0 : 0 ≤ x.f0
 p1 : x.f0 < 16
 gs : GS n t x.f1
 fg : FG x.f0 x.f2
structure WK (n : Nat) (t : List S45) (m : List Int) (x : S76) (h : Hd) : Prop where
 len : h.m.length = m.length
 u : U64 h.m
 wi : WI (n + 1) t (s76Of h)
 el : h.ev.length ≤ 2
 law : loadF h.m 2 / 65536 + outP h.pc h.f ≤ loadF m 2 / 65536 + outP x.f0 x.f2 + (cntW h.ev : Int)
theorem WK.of {n : Nat} {t : List S45} {m : List Int} {x : S76} {h : Hd} (k : MK m h.m) (hp : 0 ≤ h.pc ∧ h.pc < 16) (hs : GS (n + 1) t h.st) (hf : FG h.pc h.f) (el : h.ev.length ≤ 2) (ho : outP h.pc h.f ≤ outP x.f0 x.f2 + (cntW h.ev : Int)) : WK n t m x h :=
 ⟨k.len, k.u, ⟨hp.1, hp.2, hs, hf⟩, el, by rw [k.two]; omega⟩
theorem FG.z {pc : Int} (h : pc ≠ 14) : FG pc zF := ⟨by decide, by decide, ⟨fun h1 => absurd h1 (by decide), fun h1 => absurd h1 h⟩, u64_0, u64_0, u64_0⟩
theorem FG.new {pc : Int} (k wn v : Int) (h0 : 0 ≤ k) (h6 : k < 6) (h : pc ≠ 14) (hv : u64B v) : FG pc ⟨k, 0, wn, v, 0, 0, 0⟩ := ⟨h0, by show k ≤ 6; omega, ⟨fun h1 => by have : k = 6 := h1; omega, fun h1 => absurd h1 h⟩, hv, u64_0, u64_0⟩
theorem FG.note (wn : Int) : FG 14 ⟨6, 0, wn, 0, 0, 0, 0⟩ := ⟨show (0 : Int) ≤ 6 by decide, show (6 : Int) ≤ 6 by decide, ⟨fun _ => rfl, fun _ => rfl⟩, u64_0, u64_0, u64_0⟩
theorem FG.step {pc : Int} {f g : S66} (h : FG pc f) (pc' : Int) (hp : pc' = 14 ↔ pc = 14) (ho : g.f0 = f.f0) (hu : FU g) : FG pc' g := ⟨by rw [ho]; exact h.o0, by rw [ho]; exact h.o1, by rw [ho, hp]; exact h.o6, hu⟩
theorem again_WK {c : Cf} {n : Nat} {t : List S45} {m : List Int} {x : S76} (hm : U64 m) (hx : WI n t x) (e7 : x.f0 = 7) (v : Int) (hv : u64B v) (b : Bool) : WK n t m x (againF c (hdOf x m) v b) := by
 have hs := hx.gs.mono (Nat.le_succ n)
 have hge := (out_ge x.f0 x.f2).1
 have o0 : ∀ pc f (ev : List S40), pc < 11 → outP pc f ≤ outP x.f0 x.f2 + (cntW ev : Int) := fun pc f ev h => by rw [out0 (Or.inl h)]; omega
 have h0 := hx.fg.fu
 unfold againF hdOf
 split
 ·exact WK.of (MK.refl hm) ⟨by show (0 : Int) ≤ 1; omega, by show (1 : Int) < 16; omega⟩ hs (FG.z (by show (1 : Int) ≠ 14; decide)) (by show 0 ≤ 2; omega) (o0 _ _ _ (by show (1 : Int) < 11; omega))
 ·split
  ·exact WK.of (MK.refl hm) ⟨by show (0 : Int) ≤ 8; omega, by show (8 : Int) < 16; omega⟩ hs (FG.step hx.fg 8 (by rw [e7]; decide) rfl ⟨u64_0, h0.2.1, h0.2.2⟩) (by show 0 ≤ 2; omega) (o0 _ _ _ (by show (8 : Int) < 11; omega))
  ·exact WK.of (MK.refl hm) ⟨hx.p0, hx.p1⟩ hs (FG.step hx.fg _ Iff.rfl rfl ⟨hv, h0.2.1, h0.2.2⟩) (by show 0 ≤ 2; omega) (o0 _ _ _ (by show x.f0 < 11; omega))
theorem ite_len {p : Prop} [Decidable p] {a b : List S40} {n : Nat} (h1 : a.length ≤ n) (h2 : b.length ≤ n) : (if p then a else b).length ≤ n := by
 split
 ·exact h1
 ·exact h2
theorem WK.ite {n : Nat} {t : List S45} {m : List Int} {x : S76} {p : Prop} [Decidable p] {a b : Hd} (h1 : p → WK n t m x a) (h2 : ¬ p → WK n t m x b) : WK n t m x (if p then a else b) := by
 split
 ·exact h1 ‹_›
 ·exact h2 ‹_›
theorem worker_WK {c : Cf} {n : Nat} {t : List S45} {m : List Int} {x : S76} (hc : mayB c = true) (fo : forestB t = true) (hk : ∀ y ∈ t, y.f1.length ≤ 1000000) (hm : U64 m) (hx : WI n t x) (wn d : Int) : WK n t m x (workerF c t wn d (hdOf x m)) := by
 have hs := hx.gs.mono (Nat.le_succ n)
 have hst := fun v => hx.gs.start fo v
 have hdo := hx.gs.do fo hk
 have hge := (out_ge x.f0 x.f2).1
 have o0 : ∀ pc f (ev : List S40), pc < 11 ∨ 14 < pc → outP pc f ≤ outP x.f0 x.f2 + (cntW ev : Int) := fun pc f ev h => by rw [out0 h]; omega
 have hp := hx.p0
 have hp1 := hx.p1
 have hf := hx.fg
 have hS : x.f0 ≠ 14 → SK x.f2 m (stepF c x.f2 m) := fun h => step_SK hm hf.fu (fun h' => h (hf.o6.1 h')) hf.o0 hf.o1
 have hA : ∀ p v, p ≠ 2 → MK m (addF m p v).1 := fun p v h => MK.add hm h
 unfold workerF
 dsimp only [hdOf]
 refine WK.ite (fun e0 => ?_) (fun _ => ?_)
 ·have s := hS (by omega)
  refine WK.ite (fun _ => ?_) (fun _ => ?_)
  ·exact WK.of s.mem ⟨hp, hp1⟩ hs (hf.step _ Iff.rfl s.op s.fu) (by show 0 ≤ 2; omega) (o0 _ _ _ (by show x.f0 < 11 ∨ _; omega))
  ·refine WK.ite (fun _ => ?_) (fun _ => ?_)
   ·exact WK.of s.mem ⟨by show (0 : Int) ≤ 9; omega, by show (9 : Int) < 16; omega⟩ (hst _) (FG.z (by show (9 : Int) ≠ 14; decide)) (by show 1 ≤ 2; omega) (o0 _ _ _ (by show (9 : Int) < 11 ∨ _; omega))
   ·exact WK.of s.mem ⟨by show (0 : Int) ≤ 1; omega, by show (1 : Int) < 16; omega⟩ hs (FG.z (by show (1 : Int) ≠ 14; decide)) (by show 0 ≤ 2; omega) (o0 _ _ _ (by show (1 : Int) < 11 ∨ _; omega))
 ·refine WK.ite (fun _ => ?_) (fun _ => ?_)
  ·exact WK.of (hA _ _ (by decide)) ⟨by show (0 : Int) ≤ 2; omega, by show (2 : Int) < 16; omega⟩ hs (FG.new _ _ _ (by omega) (by omega) (by show (2 : Int) ≠ 14; decide) u64_0) (by show 0 ≤ 2; omega) (o0 _ _ _ (by show (2 : Int) < 11 ∨ _; omega))
  ·refine WK.ite (fun e2 => ?_) (fun _ => ?_)
   ·have s := hS (by omega)
    refine WK.ite (fun _ => ?_) (fun _ => ?_)
    ·exact WK.of s.mem ⟨hp, hp1⟩ hs (hf.step _ Iff.rfl s.op s.fu) (by show 0 ≤ 2; omega) (o0 _ _ _ (by show x.f0 < 11 ∨ _; omega))
    ·refine WK.ite (fun _ => ?_) (fun _ => ?_)
     ·exact WK.of s.mem ⟨by show (0 : Int) ≤ 4; omega, by show (4 : Int) < 16; omega⟩ hs (hf.step _ (by show (4 : Int) = 14 ↔ _; omega) s.op s.fu) (by show 0 ≤ 2; omega) (o0 _ _ _ (by show (4 : Int) < 11 ∨ _; omega))
     ·refine WK.ite (fun _ => ?_) (fun _ => ?_)
      ·exact WK.of s.mem ⟨by show (0 : Int) ≤ 3; omega, by show (3 : Int) < 16; omega⟩ hs (FG.new _ _ _ (by omega) (by omega) (by show (3 : Int) ≠ 14; decide) u64_0) (by show 0 ≤ 2; omega) (o0 _ _ _ (by show (3 : Int) < 11 ∨ _; omega))
      ·refine WK.ite (fun _ => ?_) (fun _ => ?_)
       ·exact WK.of s.mem ⟨by show (0 : Int) ≤ 5; omega, by show (5 : Int) < 16; omega⟩ hs (FG.new _ _ _ (by omega) (by omega) (by show (5 : Int) ≠ 14; decide) u64_0) (by show 0 ≤ 2; omega) (o0 _ _ _ (by show (5 : Int) < 11 ∨ _; omega))
       ·exact WK.of s.mem ⟨by show (0 : Int) ≤ 2; omega, by show (2 : Int) < 16; omega⟩ hs (FG.new _ _ _ (by omega) (by omega) (by show (2 : Int) ≠ 14; decide) u64_0) (by show 0 ≤ 2; omega) (o0 _ _ _ (by show (2 : Int) < 11 ∨ _; omega))
   ·refine WK.ite (fun _ => ?_) (fun _ => ?_)
    ·refine WK.ite (fun _ => ?_) (fun _ => ?_)
     ·exact WK.of (hA _ _ (by decide)) ⟨by show (0 : Int) ≤ 14; omega, by show (14 : Int) < 16; omega⟩ (hst _) (FG.note _) (by show 1 ≤ 2; omega) (by
       have : ∀ v : Int, cntW ([] ++ [(⟨2, v, wn⟩ : S40)]) = 1 := fun _ => rfl
       rw [this]
       have := (out_ge 14 ⟨6, 0, wn, 0, 0, 0, 0⟩).2
       show outP 14 ⟨6, 0, wn, 0, 0, 0, 0⟩ ≤ _ + ((1 : Nat) : Int)
       omega)
     ·exact WK.of (hA _ _ (by decide)) ⟨by show (0 : Int) ≤ 9; omega, by show (9 : Int) < 16; omega⟩ (hst _) (FG.z (by show (9 : Int) ≠ 14; decide)) (by show 1 ≤ 2; omega) (o0 _ _ _ (by show (9 : Int) < 11 ∨ _; omega))
    ·refine WK.ite (fun e5 => ?_) (fun _ => ?_)
     ·have s := hS (by omega)
      exact WK.of s.mem ⟨by show (0 : Int) ≤ 6; omega, by show (6 : Int) < 16; omega⟩ hs (hf.step _ (by show (6 : Int) = 14 ↔ _; omega) s.op s.fu) (by show 0 ≤ 2; omega) (o0 _ _ _ (by show (6 : Int) < 11 ∨ _; omega))
     ·refine WK.ite (fun _ => ?_) (fun _ => ?_)
      ·exact WK.of (hA _ _ (by decide)) ⟨by show (0 : Int) ≤ 7; omega, by show (7 : Int) < 16; omega⟩ hs (hf.step _ (by show (7 : Int) = 14 ↔ _; omega) rfl hf.fu) (by show 0 ≤ 2; omega) (o0 _ _ _ (by show (7 : Int) < 11 ∨ _; omega))
      ·refine WK.ite (fun e7 => ?_) (fun _ => ?_)
       ·have hw := fun v hv b => again_WK (c := c) hm hx e7 v hv b
        have hl := fun p => load_u hm p
        refine WK.ite (fun _ => ?_) (fun _ => ?_)
        ·exact WK.of (MK.refl hm) ⟨by show (0 : Int) ≤ 8; omega, by show (8 : Int) < 16; omega⟩ hs (hf.step _ (by show (8 : Int) = 14 ↔ _; omega) rfl ⟨u64_0, hf.fu.2.1, hf.fu.2.2⟩) (by show 0 ≤ 2; omega) (o0 _ _ _ (by show (8 : Int) < 11 ∨ _; omega))
        ·refine WK.ite (fun _ => ?_) (fun _ => ?_)
         ·exact hw _ (hl _) _
         ·refine WK.ite (fun _ => ?_) (fun _ => ?_)
          ·exact hw _ hf.fu.1 _
          ·refine WK.ite (fun _ => ?_) (fun _ => ?_)
           ·exact hw _ (hl _) _
           ·exact hw _ hf.fu.1 _
       ·refine WK.ite (fun e8 => ?_) (fun _ => ?_)
        ·have s := hS (by omega)
         refine WK.ite (fun _ => ?_) (fun _ => ?_)
         ·exact WK.of s.mem ⟨hp, hp1⟩ hs (hf.step _ Iff.rfl s.op s.fu) (by show 0 ≤ 2; omega) (o0 _ _ _ (by show x.f0 < 11 ∨ _; omega))
         ·exact WK.of s.mem ⟨by show (0 : Int) ≤ 1; omega, by show (1 : Int) < 16; omega⟩ hs (FG.z (by show (1 : Int) ≠ 14; decide)) (by show 0 ≤ 2; omega) (o0 _ _ _ (by show (1 : Int) < 11 ∨ _; omega))
        ·refine WK.ite (fun e9 => ?_) (fun _ => ?_)
         ·have hnp : ∀ pc : Int, pc < 14 ∨ 14 < pc → (pc = 14 ↔ x.f0 = 14) := fun pc h => by omega
          refine WK.ite (fun _ => ?_) (fun _ => ?_)
          ·exact WK.of (MK.refl hm) ⟨hp, hp1⟩ hdo (hf.step _ Iff.rfl rfl hf.fu) (by show 0 ≤ 2; omega) (o0 _ _ _ (by show x.f0 < 11 ∨ _; omega))
          ·refine WK.ite (fun _ => ?_) (fun _ => ?_)
           ·exact WK.of (MK.refl hm) ⟨by show (0 : Int) ≤ 10; omega, by show (10 : Int) < 16; omega⟩ hs (hf.step _ (hnp 10 (by omega)) rfl hf.fu) (by show 0 ≤ 2; omega) (o0 _ _ _ (by show (10 : Int) < 11 ∨ _; omega))
           ·refine WK.ite (fun _ => ?_) (fun _ => ?_)
            ·exact WK.of (MK.refl hm) ⟨by show (0 : Int) ≤ 15; omega, by show (15 : Int) < 16; omega⟩ hs (hf.step _ (hnp 15 (by omega)) rfl hf.fu) (by show 0 ≤ 2; omega) (o0 _ _ _ (by show (15 : Int) < 11 ∨ (14 : Int) < 15; omega))
            ·exact WK.of (MK.refl hm) ⟨by show (0 : Int) ≤ 0; omega, by show (0 : Int) < 16; omega⟩ hs (FG.new _ _ _ (by omega) (by omega) (by show (0 : Int) ≠ 14; decide) u64_0) (by show 0 ≤ 2; omega) (o0 _ _ _ (by show (0 : Int) < 11 ∨ _; omega))
         ·refine WK.ite (fun _ => ?_) (fun _ => ?_)
          ·refine WK.ite (fun _ => ?_) (fun _ => ?_)
           ·exact WK.of (hA _ _ (by decide)) ⟨by show (0 : Int) ≤ 11; omega, by show (11 : Int) < 16; omega⟩ hdo (FG.new _ _ _ (by omega) (by omega) (by show (11 : Int) ≠ 14; decide) (u64_wrap _)) (by show 1 ≤ 2; omega) (by
             have : ∀ v : Int, cntW ([] ++ [(⟨3, v, wn⟩ : S40)]) = 1 := fun _ => rfl
             rw [this]
             show outP 11 _ ≤ _ + ((1 : Nat) : Int)
             rw [out1 (Or.inl rfl)]
             omega)
           ·exact WK.of (MK.refl hm) ⟨by show (0 : Int) ≤ 9; omega, by show (9 : Int) < 16; omega⟩ hs (FG.z (by show (9 : Int) ≠ 14; decide)) (by show 0 ≤ 2; omega) (o0 _ _ _ (by show (9 : Int) < 11 ∨ _; omega))
          ·refine WK.ite (fun e11 => ?_) (fun _ => ?_)
           ·have s := hS (by omega)
            have ho : outP x.f0 x.f2 = 1 := out1 (Or.inl e11)
            have o1 : ∀ pc f (ev : List S40), pc = 11 ∨ pc = 12 ∨ pc = 13 → outP pc f ≤ outP x.f0 x.f2 + (cntW ev : Int) := fun pc f ev h => by rw [out1 h]; omega
            refine WK.ite (fun _ => ?_) (fun _ => ?_)
            ·exact WK.of s.mem ⟨hp, hp1⟩ hs (hf.step _ Iff.rfl s.op s.fu) (by show 0 ≤ 2; omega) (o1 _ _ _ (Or.inl e11))
            ·refine WK.ite (fun _ => ?_) (fun _ => ?_)
             ·exact WK.of s.mem ⟨by show (0 : Int) ≤ 12; omega, by show (12 : Int) < 16; omega⟩ hs (FG.new _ _ _ (by omega) (by omega) (by show (12 : Int) ≠ 14; decide) s.fu.1) (by show 0 ≤ 2; omega) (o1 _ _ _ (Or.inr (Or.inl rfl)))
             ·exact WK.of s.mem ⟨by show (0 : Int) ≤ 13; omega, by show (13 : Int) < 16; omega⟩ hs (FG.z (by show (13 : Int) ≠ 14; decide)) (by show 0 ≤ 2; omega) (o1 _ _ _ (Or.inr (Or.inr rfl)))
           ·refine WK.ite (fun e12 => ?_) (fun _ => ?_)
            ·have s := hS (by omega)
             have ho : outP x.f0 x.f2 = 1 := out1 (Or.inr (Or.inl e12))
             have o1 : ∀ pc f (ev : List S40), pc = 11 ∨ pc = 12 ∨ pc = 13 → outP pc f ≤ outP x.f0 x.f2 + (cntW ev : Int) := fun pc f ev h => by rw [out1 h]; omega
             refine WK.ite (fun _ => ?_) (fun _ => ?_)
             ·exact WK.of s.mem ⟨hp, hp1⟩ hs (hf.step _ Iff.rfl s.op s.fu) (by show 0 ≤ 2; omega) (o1 _ _ _ (Or.inr (Or.inl e12)))
             ·refine WK.ite (fun _ => ?_) (fun _ => ?_)
              ·exact WK.of s.mem ⟨by show (0 : Int) ≤ 9; omega, by show (9 : Int) < 16; omega⟩ (hst _) (FG.z (by show (9 : Int) ≠ 14; decide)) (by show 1 ≤ 2; omega) (o0 _ _ _ (by show (9 : Int) < 11 ∨ _; omega))
              ·exact WK.of s.mem ⟨by show (0 : Int) ≤ 13; omega, by show (13 : Int) < 16; omega⟩ hs (FG.z (by show (13 : Int) ≠ 14; decide)) (by show 0 ≤ 2; omega) (o1 _ _ _ (Or.inr (Or.inr rfl)))
            ·refine WK.ite (fun e13 => ?_) (fun _ => ?_)
             ·have ho : outP x.f0 x.f2 = 1 := out1 (Or.inr (Or.inr e13))
              refine WK.ite (fun _ => ?_) (fun _ => ?_)
              ·exact WK.of (MK.refl hm) ⟨by show (0 : Int) ≤ 14; omega, by show (14 : Int) < 16; omega⟩ hs (FG.note _) (by show 0 ≤ 2; omega) (by
                have := (out_ge 14 ⟨6, 0, wn, 0, 0, 0, 0⟩).2
                have h0 : ((cntW ([] : List S40) : Nat) : Int) = 0 := rfl
                show outP 14 ⟨6, 0, wn, 0, 0, 0, 0⟩ ≤ outP x.f0 x.f2 + ((cntW ([] : List S40) : Nat) : Int)
                rw [h0]
                omega)
              ·exact WK.of (MK.refl hm) ⟨by show (0 : Int) ≤ 9; omega, by show (9 : Int) < 16; omega⟩ hs (FG.z (by show (9 : Int) ≠ 14; decide)) (by show 0 ≤ 2; omega) (o0 _ _ _ (by show (9 : Int) < 11 ∨ _; omega))
             ·refine WK.ite (fun e14 => ?_) (fun _ => ?_)
              ·have h6 := hf.o6.2 e14
               have hq : stepF c x.f2 m = noteF c x.f2 m := by unfold stepF; rw [if_neg (by omega), if_neg (by omega), if_neg (by omega), if_neg (by omega), if_neg (by omega), if_neg (by omega)]
               have k : NK x.f2 m (stepF c x.f2 m) := by rw [hq]; exact note_NK hm hf.fu
               have ho : outP x.f0 x.f2 = outB x.f2 := by rw [e14]; rfl
               have hz := k.go
               have hen := k.en
               refine WK.ite (fun g0 => ?_) (fun _ => ?_)
               ·refine ⟨k.len, k.u, ⟨hp, hp1, hs, hf.step _ Iff.rfl k.op k.fu⟩, by show 0 ≤ 2; omega, ?_⟩
                have := hz g0
                have h0 : ((cntW ([] : List S40) : Nat) : Int) = 0 := rfl
                show loadF (stepF c x.f2 m).2 2 / 65536 + outP x.f0 (stepF c x.f2 m).1 ≤ loadF m 2 / 65536 + outP x.f0 x.f2 + ((cntW ([] : List S40) : Nat) : Int)
                rw [ho, h0, e14, out14]
                omega
               ·refine ⟨k.len, k.u, ⟨by show (0 : Int) ≤ 9; omega, by show (9 : Int) < 16; omega, hs, FG.z (by show (9 : Int) ≠ 14; decide)⟩, by show 0 ≤ 2; omega, ?_⟩
                have h9 : outP 9 zF = 0 := rfl
                have h0 : ((cntW ([] : List S40) : Nat) : Int) = 0 := rfl
                show loadF (stepF c x.f2 m).2 2 / 65536 + outP 9 zF ≤ loadF m 2 / 65536 + outP x.f0 x.f2 + ((cntW ([] : List S40) : Nat) : Int)
                rw [h9, ho, h0]
                omega
              ·have e15 : x.f0 = 15 := by omega
               refine WK.ite (fun _ => ?_) (fun _ => ?_)
               ·have key : ∀ (pc : Int) (f : S66) (ev : List S40), (pc = 0 ∧ f = ⟨1, 0, wn, 0, 0, 0, 0⟩ ∨ pc = 9 ∧ f = zF) → ev.length ≤ 2 → WK n t m x ⟨pc, doF (nextF (forestB t) t x.f1).1 x.f1, f, x.f3, x.f4, (addF m 0 18446744073709551615).1, ev⟩ := fun pc f ev h hl => by
                 refine WK.of (hA _ _ (by decide)) ?_ hdo ?_ hl (o0 _ _ _ ?_)
                 ·rcases h with ⟨rfl, rfl⟩ | ⟨rfl, rfl⟩
                  ·exact ⟨by show (0 : Int) ≤ 0; omega, by show (0 : Int) < 16; omega⟩
                  ·exact ⟨by show (0 : Int) ≤ 9; omega, by show (9 : Int) < 16; omega⟩
                 ·rcases h with ⟨rfl, rfl⟩ | ⟨rfl, rfl⟩
                  ·exact FG.new _ _ _ (by omega) (by omega) (by show (0 : Int) ≠ 14; decide) u64_0
                  ·exact FG.z (by show (9 : Int) ≠ 14; decide)
                 ·show pc < 11 ∨ _
                  rcases h with ⟨rfl, rfl⟩ | ⟨rfl, rfl⟩ <;> omega
                refine key _ _ _ ?_ ?_
                ·by_cases h : (doF (nextF (forestB t) t x.f1).1 x.f1).length = 0
                 ·exact Or.inl ⟨if_pos h, if_pos h⟩
                 ·exact Or.inr ⟨if_neg h, if_neg h⟩
                ·exact ite_len (by show 2 ≤ 2; omega) (by show 1 ≤ 2; omega)
               ·exact WK.of (MK.refl hm) ⟨by show (0 : Int) ≤ 9; omega, by show (9 : Int) < 16; omega⟩ hs (FG.z (by show (9 : Int) ≠ 14; decide)) (by show 0 ≤ 2; omega) (o0 _ _ _ (by show (9 : Int) < 11 ∨ _; omega))
end Go.Proofs.YthoeodjgfelkhaaGreat.QT
