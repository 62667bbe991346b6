/- Part 39 of the claim on TopWakes: what a submitter's turn keeps; a pool's picks in the model; wakes_3's premise; awake is true; TopWakes answers true; THE ROW: for every script no more wakes than submits, spawns and starts. No condition. -/
import Derived.Test.YthoeodjgfelkhaaGreatRows
import Derived.ProofKit
import Derived.ShutString
import Derived.ChangeOld
import Derived.SizedLaws
import Derived.Lib.SmallJoins
import Derived.Test.YthoeodjgfelkhaaGreatm38
set_option linter.unusedVariables false
set_option linter.unusedSimpArgs false
set_option maxRecDepth 100000
set_option maxHeartbeats 8000000
namespace Go.Proofs.YthoeodjgfelkhaaGreat.QT
open Go.RowKit Go.Proofs.YthoeodjgfelkhaaGreatW.PrintWords Go.Proofs.YthoeodjgfelkhaaGreatW.PrintLast Go.Proofs.YthoeodjgfelkhaaGreatW.PrintMore
attribute [local go_sem] max2_int min2_int max_two min_two
def outS (pc : Int) (f : S66) : Int := if pc = 4 then outB f else if pc = 3 then 1 else 0
theorem outS_ge (pc : Int) (f : S66) : 0 ≤ outS pc f ∧ outS pc f ≤ 1 := by
 have := outB_ge f
 unfold outS
 split
 ·exact this
 ·split <;> omega
theorem outS0 {pc : Int} {f : S66} (h : pc < 3 ∨ 4 < pc) : outS pc f = 0 := by
 unfold outS
 rw [if_neg (by omega), if_neg (by omega)]
structure SI (t : List S45) (x : S68) : Prop where
 p0 : 0 ≤ x.f0
 p1 : x.f0 < 6
 rg : ∀ r ∈ x.f1, 0 ≤ r ∧ r < (t.length : Int)
 rl : x.f1.length ≤ 1000000
 ne : x.f0 ≠ 0 → x.f1 ≠ []
 o2 : x.f0 = 2 → x.f2.f0 = 3
 o4 : x.f0 = 4 → x.f2.f0 = 6
 fu : FU x.f2
structure SW (t : List S45) (m : List Int) (x : S68) (h : Sd) : Prop where
 len : h.m.length = m.length
 u : U64 h.m
 si : SI t (s68Of h)
 el : h.ev.length ≤ 2
 law : loadF h.m 2 / 65536 + outS h.pc h.f ≤ loadF m 2 / 65536 + outS x.f0 x.f2 + (cntW h.ev : Int)
theorem SW.of {t : List S45} {m : List Int} {x : S68} {h : Sd} (k : MK m h.m) (hs : SI t (s68Of h)) (el : h.ev.length ≤ 2) (ho : outS h.pc h.f ≤ outS x.f0 x.f2 + (cntW h.ev : Int)) : SW t m x h :=
 ⟨k.len, k.u, hs, el, by rw [k.two]; omega⟩
theorem SW.ite {t : List S45} {m : List Int} {x : S68} {p : Prop} [Decidable p] {a b : Sd} (h1 : p → SW t m x a) (h2 : ¬ p → SW t m x b) : SW t m x (if p then a else b) := by
 split
 ·exact h1 ‹_›
 ·exact h2 ‹_›
theorem fu_z : FU zF := ⟨u64_0, u64_0, u64_0⟩
theorem SI.tail {t : List S45} {x : S68} (h : SI t x) : SI t ⟨0, x.f1.tail, zF⟩ :=
 ⟨by show (0 : Int) ≤ 0; omega, by show (0 : Int) < 6; omega, fun r hr => h.rg r (List.mem_of_mem_tail hr), by show x.f1.tail.length ≤ _; rw [List.length_tail]; have := h.rl; omega, fun h => absurd rfl h, fun h => by have : (0 : Int) = 2 := h; omega, fun h => by have : (0 : Int) = 4 := h; omega, fu_z⟩
theorem SI.same {t : List S45} {x : S68} (h : SI t x) (hp : 0 < x.f1.length) (pc : Int) (f : S66) (p0 : 0 ≤ pc) (p1 : pc < 6) (o2 : pc = 2 → f.f0 = 3) (o4 : pc = 4 → f.f0 = 6) (hf : FU f) : SI t ⟨pc, x.f1, f⟩ :=
 ⟨p0, p1, h.rg, h.rl, fun _ e => by have e' : x.f1 = [] := e; rw [e'] at hp; exact absurd hp (by decide), o2, o4, hf⟩
theorem sub_SW {c : Cf} {t : List S45} {m : List Int} {x : S68} (hm : U64 m) (hx : SI t x) (i : Int) (hp : 0 < x.f1.length) : SW t m x (subF c i (sdOf x m)) := by
 have ht := hx.tail
 have hS := hx.same hp
 have hge := (outS_ge x.f0 x.f2).1
 have o0 : ∀ pc f (ev : List S40), pc < 3 ∨ 4 < pc → outS pc f ≤ outS x.f0 x.f2 + (cntW ev : Int) := fun pc f ev h => by rw [outS0 h]; omega
 have q0 := hx.p0
 have q1 := hx.p1
 have o00 : ∀ (f : S66) (ev : List S40), outS 0 f ≤ outS x.f0 x.f2 + (cntW ev : Int) := fun f ev => o0 0 f ev (by omega)
 have hA : ∀ p v, p ≠ 2 → MK m (addF m p v).1 := fun p v h => MK.add hm h
 unfold subF
 dsimp only [sdOf]
 refine SW.ite (fun e0 => ?_) (fun _ => ?_)
 ·refine SW.ite (fun _ => ?_) (fun _ => ?_)
  ·exact SW.of (MK.refl hm) (hS 1 _ (by omega) (by omega) (fun h => by omega) (fun h => by omega) hx.fu) (by show 0 ≤ 2; omega) (o0 _ _ _ (by show (1 : Int) < 3 ∨ _; omega))
  ·exact SW.of (MK.refl hm) ht (by show 1 ≤ 2; omega) (o00 _ _)
 refine SW.ite (fun e1 => ?_) (fun _ => ?_)
 ·exact SW.of (hA _ _ (by decide)) (hS 2 _ (by omega) (by omega) (fun h => rfl) (fun h => by omega) ⟨u64_wrap _, u64_0, u64_0⟩) (by show 0 ≤ 2; omega) (o0 _ _ _ (by show (2 : Int) < 3 ∨ _; omega))
 refine SW.ite (fun e2 => ?_) (fun _ => ?_)
 ·have h3 := hx.o2 e2
  have s : SK x.f2 m (stepF c x.f2 m) := step_SK hm hx.fu (by omega) (by omega) (by omega)
  refine SW.ite (fun _ => ?_) (fun _ => ?_)
  ·exact SW.of s.mem (hS 2 _ (by omega) (by omega) (fun _ => by rw [s.op]; exact h3) (fun h => by omega) s.fu) (by show 0 ≤ 2; omega) (o0 _ _ _ (by show (2 : Int) < 3 ∨ _; omega))
  ·refine SW.ite (fun _ => ?_) (fun _ => ?_)
   ·exact SW.of s.mem (hS 5 _ (by omega) (by omega) (fun h => by omega) (fun h => by omega) s.fu) (by show 0 ≤ 2; omega) (o0 _ _ _ (by show (5 : Int) < 3 ∨ (4 : Int) < 5; omega))
   ·refine SW.of s.mem (hS 3 _ (by omega) (by omega) (fun h => by omega) (fun h => by omega) s.fu) (by show 1 ≤ 2; omega) ?_
    have h1 : ∀ v : Int, ((cntW [(⟨0, v, i⟩ : S40)] : Nat) : Int) = 1 := fun _ => rfl
    have h2 : ∀ f, outS 3 f = 1 := fun f => by unfold outS; rw [if_neg (by decide), if_pos rfl]
    show outS 3 _ ≤ outS x.f0 x.f2 + ((cntW [(⟨0, rd x.f1 0, i⟩ : S40)] : Nat) : Int)
    rw [h1, h2]
    omega
 refine SW.ite (fun e3 => ?_) (fun _ => ?_)
 ·have h2 : ∀ f, outS 3 f = 1 := fun f => by unfold outS; rw [if_neg (by decide), if_pos rfl]
  refine SW.ite (fun _ => ?_) (fun _ => ?_)
  ·exact SW.of (MK.refl hm) ht (by show 0 ≤ 2; omega) (o00 _ _)
  ·refine SW.of (MK.refl hm) (hS 4 _ (by omega) (by omega) (fun h => by omega) (fun _ => rfl) fu_z) (by show 0 ≤ 2; omega) ?_
   have h3 := (outS_ge 4 ⟨6, 0, i, 0, 0, 0, 0⟩).2
   have h0 : ((cntW ([] : List S40) : Nat) : Int) = 0 := rfl
   show outS 4 ⟨6, 0, i, 0, 0, 0, 0⟩ ≤ outS x.f0 x.f2 + ((cntW ([] : List S40) : Nat) : Int)
   rw [e3, h2, h0]
   omega
 refine SW.ite (fun e4 => ?_) (fun _ => ?_)
 ·have h6 := hx.o4 e4
  have hq : stepF c x.f2 m = noteF c x.f2 m := by unfold stepF; rw [if_neg (by omega), if_neg (by omega), if_neg (by omega), if_neg (by omega), if_neg (by omega), if_neg (by omega)]
  have k : NK x.f2 m (stepF c x.f2 m) := by rw [hq]; exact note_NK hm hx.fu
  have ho : outS x.f0 x.f2 = outB x.f2 := by rw [e4]; rfl
  have hz := k.go
  have hen := k.en
  have h0 : ((cntW ([] : List S40) : Nat) : Int) = 0 := rfl
  refine SW.ite (fun g0 => ?_) (fun _ => ?_)
  ·refine ⟨k.len, k.u, hS 4 _ (by omega) (by omega) (fun h => by omega) (fun _ => by rw [k.op]; exact h6) k.fu, by show 0 ≤ 2; omega, ?_⟩
   have := hz g0
   show loadF (stepF c x.f2 m).2 2 / 65536 + outB (stepF c x.f2 m).1 ≤ loadF m 2 / 65536 + outS x.f0 x.f2 + ((cntW ([] : List S40) : Nat) : Int)
   rw [ho, h0]
   omega
  ·refine ⟨k.len, k.u, ht, by show 0 ≤ 2; omega, ?_⟩
   have h9 : outS 0 zF = 0 := rfl
   show loadF (stepF c x.f2 m).2 2 / 65536 + outS 0 zF ≤ loadF m 2 / 65536 + outS x.f0 x.f2 + ((cntW ([] : List S40) : Nat) : Int)
   rw [h9, ho, h0]
   omega
 ·exact SW.of (hA _ _ (by decide)) ht (ite_len (by show 2 ≤ 2; omega) (by show 1 ≤ 2; omega)) (o00 _ _)
theorem turn_SW {c : Cf} {t : List S45} {m : List Int} {x : S68} (hm : U64 m) (hx : SI t x) (i : Int) : SW t m x (subTurn c i x m) := by
 unfold subTurn
 refine SW.ite (fun hp => sub_SW hm hx i hp) (fun hp => ?_)
 exact SW.of (MK.refl hm) hx (by show 0 ≤ 2; omega) (by show outS x.f0 x.f2 ≤ _; omega)
structure PlS where
 m : List Int
 ws : List S76
 ss : List S68
 ev : List S40
def fitB (w ns : Int) (p : S83) : Bool := (decide (p.f0 = 0) && (decide (0 ≤ p.f1) && decide (p.f1 < w))) || ((decide (p.f0 = 1) && (decide (0 ≤ p.f1) && decide (p.f1 < ns))) || (decide (p.f0 = 2) || decide (p.f0 = 3)))
theorem below_some (a b : Int) : draw_below.f a b = some (decide (0 ≤ a) && decide (a < b)) := by
 unfold draw_below.f
 by_cases h : a ≥ 0
 ·rw [if_pos h]; simp [show 0 ≤ a from h]
 ·rw [if_neg h]; simp [show ¬ 0 ≤ a from h]
theorem fits_some (p : S83) (w ns : Int) : draw_Fits.f p.f0 p.f1 p.f2 w ns = some (fitB w ns p) := by
 unfold draw_Fits.f fitB
 rw [below_some, below_some]
 simp only [Option.bind_some]
 by_cases h0 : p.f0 = 0
 ·have h1 : ¬ p.f0 = 1 := by omega
  have h2 : ¬ p.f0 = 2 := by omega
  have h3 : ¬ p.f0 = 3 := by omega
  rw [if_pos h0]
  generalize (decide (0 ≤ p.f1) && decide (p.f1 < w)) = b
  cases b <;> simp [h0, h1, h2, h3]
 ·rw [if_neg h0]
  by_cases h1 : p.f0 = 1
  ·have h2 : ¬ p.f0 = 2 := by omega
   have h3 : ¬ p.f0 = 3 := by omega
   rw [if_pos h1]
   generalize (decide (0 ≤ p.f1) && decide (p.f1 < ns)) = b
   cases b <;> simp [h0, h1, h2, h3]
  ·rw [if_neg h1]
   by_cases h2 : p.f0 = 2
   ·simp [h2]
   ·by_cases h3 : p.f0 = 3
    ·simp [h3]
    ·simp [h0, h1, h2, h3]
def setW (c : Cf) (t : List S45) (s : PlS) (p : S83) (x : S76) : PlS := ⟨(workerF c t p.f1 p.f2 (hdOf x s.m)).m, s.ws.set p.f1.toNat (s76Of (workerF c t p.f1 p.f2 (hdOf x s.m))), s.ss, (workerF c t p.f1 p.f2 (hdOf x s.m)).ev⟩
def setS (c : Cf) (s : PlS) (p : S83) (x : S68) : PlS := ⟨(subTurn c p.f1 x s.m).m, s.ws, s.ss.set p.f1.toNat (s68Of (subTurn c p.f1 x s.m)), (subTurn c p.f1 x s.m).ev⟩
def poolF (c : Cf) (t : List S45) (s : PlS) (p : S83) : PlS :=
 if p.f0 = 0 then (match s.ws[p.f1.toNat]? with | some x => setW c t s p x | none => ⟨s.m, s.ws, s.ss, []⟩)
 else if p.f0 = 1 then (match s.ss[p.f1.toNat]? with | some x => setS c s p x | none => ⟨s.m, s.ws, s.ss, []⟩)
 else if p.f0 = 2 then ⟨storeF s.m 3 1, s.ws, s.ss, []⟩ else ⟨s.m, s.ws, s.ss, []⟩
structure Inv (c : Cf) (t : List S45) (ns n : Nat) (s : PlS) : Prop where
 may : mayB c = true
 fo : forestB t = true
 hk : ∀ y ∈ t, y.f1.length ≤ 1000000
 ml : (s.m.length : Int) = sizeF c
 u : U64 s.m
 wl : (s.ws.length : Int) = c.w
 sl : s.ss.length = ns
 s3 : ns ≤ 3
 wk : ∀ x ∈ s.ws, WI n t x
 sb : ∀ x ∈ s.ss, SI t x
def sumW : List S76 → Int
 | [] => 0
 | x :: l => outP x.f0 x.f2 + sumW l
def sumS : List S68 → Int
 | [] => 0
 | x :: l => outS x.f0 x.f2 + sumS l
theorem sumW_ge : ∀ l, 0 ≤ sumW l
 | [] => Int.le_refl _
 | x :: l => by rw [sumW]; have := sumW_ge l; have := (out_ge x.f0 x.f2).1; omega
theorem sumS_ge : ∀ l, 0 ≤ sumS l
 | [] => Int.le_refl _
 | x :: l => by rw [sumS]; have := sumS_ge l; have := (outS_ge x.f0 x.f2).1; omega
theorem sumW_set : ∀ (l : List S76) (k : Nat) (x y : S76), l[k]? = some x → sumW (l.set k y) = sumW l - outP x.f0 x.f2 + outP y.f0 y.f2
 | [], k, x, y, h => by simp at h
 | z :: l, 0, x, y, h => by
  have : z = x := by simpa using h
  subst this
  rw [List.set_cons_zero, sumW, sumW]; omega
 | z :: l, k + 1, x, y, h => by
  rw [List.set_cons_succ, sumW, sumW, sumW_set l k x y (by simpa using h)]; omega
theorem sumS_set : ∀ (l : List S68) (k : Nat) (x y : S68), l[k]? = some x → sumS (l.set k y) = sumS l - outS x.f0 x.f2 + outS y.f0 y.f2
 | [], k, x, y, h => by simp at h
 | z :: l, 0, x, y, h => by
  have : z = x := by simpa using h
  subst this
  rw [List.set_cons_zero, sumS, sumS]; omega
 | z :: l, k + 1, x, y, h => by
  rw [List.set_cons_succ, sumS, sumS, sumS_set l k x y (by simpa using h)]; omega
def tot (s : PlS) : Int := loadF s.m 2 / 65536 + sumW s.ws + sumS s.ss
theorem WI.mono {n k : Nat} {t : List S45} {x : S76} (h : WI n t x) (hk : n ≤ k) : WI k t x := ⟨h.p0, h.p1, h.gs.mono hk, h.fg⟩
theorem fit_lt {w ns : Int} {p : S83} (h : fitB w ns p = true) : (p.f0 = 0 → 0 ≤ p.f1 ∧ p.f1 < w) ∧ (p.f0 = 1 → 0 ≤ p.f1 ∧ p.f1 < ns) := by
 simp only [fitB, Bool.or_eq_true, Bool.and_eq_true, decide_eq_true_eq] at h
 omega
structure PK (c : Cf) (t : List S45) (ns n : Nat) (s : PlS) (p : S83) (s' : PlS) : Prop where
 st : PStep c t s.m s.ws s.ss p.f0 p.f1 p.f2 s'.m s'.ws s'.ss s'.ev
 inv : Inv c t ns (n + 1) s'
 el : s'.ev.length ≤ 2
 law : tot s' ≤ tot s + (cntW s'.ev : Int)
theorem pool_PK {c : Cf} {t : List S45} {ns n : Nat} {s : PlS} (h : Inv c t ns n s) (hn : n ≤ 1000000) (p : S83) (hp : fitB c.w (ns : Int) p = true) : PK c t ns n s p (poolF c t s p) := by
 obtain ⟨l0, l1⟩ := fit_lt hp
 have hnt : t.length ≤ 1000000 := by
  have fo := h.fo
  unfold forestB at fo
  simp only [Bool.and_eq_true, decide_eq_true_eq] at fo
  have := fo.1.1
  omega
 have hwl := h.wl
 have hsl := h.sl
 unfold poolF
 by_cases h0 : p.f0 = 0
 ·obtain ⟨a0, a1⟩ := l0 h0
  rw [if_pos h0]
  obtain ⟨x, hx⟩ : ∃ x, s.ws[p.f1.toNat]? = some x := ⟨_, List.getElem?_eq_getElem (by omega)⟩
  have hm : x ∈ s.ws := List.mem_of_getElem? hx
  have hi := h.wk x hm
  rw [hx]
  dsimp only
  have k := worker_WK h.may h.fo h.hk h.u hi p.f1 p.f2
  have he : p.f1 = ((p.f1.toNat : Nat) : Int) := by omega
  have g : WGood c t s.m p.f1 x := ⟨h.may, h.fo, h.ml, hnt, a0, a1, hi.p0, hi.p1, hi.gs.1, by have := hi.gs.2; omega, hi.fg.o0, hi.fg.o1⟩
  have hst := worker_WStep c t s.m p.f1 p.f2 x g
  refine ⟨Or.inl ⟨h0, p.f1.toNat, x, _, he, hx, ?_, rfl, rfl⟩, ⟨h.may, h.fo, h.hk, ?_, k.u, ?_, h.sl, h.s3, fun y hy => ?_, h.sb⟩, k.el, ?_⟩
  ·rw [← he]; exact hst
  ·show ((workerF c t p.f1 p.f2 (hdOf x s.m)).m.length : Int) = _; rw [k.len]; exact h.ml
  ·show ((s.ws.set _ _).length : Int) = _; rw [List.length_set]; exact h.wl
  ·rcases List.mem_or_eq_of_mem_set hy with h1 | h1
   ·exact (h.wk y h1).mono (Nat.le_succ n)
   ·rw [h1]; exact k.wi
  ·have k2 := k.law
   have k3 := sumW_set s.ws p.f1.toNat x (s76Of (workerF c t p.f1 p.f2 (hdOf x s.m))) hx
   unfold tot
   show loadF (workerF c t p.f1 p.f2 (hdOf x s.m)).m 2 / 65536 + sumW (s.ws.set p.f1.toNat (s76Of (workerF c t p.f1 p.f2 (hdOf x s.m)))) + sumS s.ss ≤ _ + _ + _ + (cntW (workerF c t p.f1 p.f2 (hdOf x s.m)).ev : Int)
   rw [k3]
   show _ + (_ - _ + outP (workerF c t p.f1 p.f2 (hdOf x s.m)).pc (workerF c t p.f1 p.f2 (hdOf x s.m)).f) + _ ≤ _
   omega
 ·rw [if_neg h0]
  by_cases h1 : p.f0 = 1
  ·obtain ⟨a0, a1⟩ := l1 h1
   rw [if_pos h1]
   obtain ⟨x, hx⟩ : ∃ x, s.ss[p.f1.toNat]? = some x := ⟨_, List.getElem?_eq_getElem (by omega)⟩
   have hm : x ∈ s.ss := List.mem_of_getElem? hx
   have hi := h.sb x hm
   rw [hx]
   dsimp only
   have k := turn_SW (c := c) h.u hi p.f1
   have he : p.f1 = ((p.f1.toNat : Nat) : Int) := by omega
   have g : SGood c t s.m x := ⟨h.may, h.fo, h.ml, hnt, hi.p0, hi.p1, hi.rg, hi.rl, hi.o2, hi.o4⟩
   have hst := sub_SStep_ok c t s.m p.f1 x g
   refine ⟨Or.inr (Or.inl ⟨h1, p.f1.toNat, x, decide (0 < x.f1.length), _, he, hx, ?_, rfl, rfl⟩), ⟨h.may, h.fo, h.hk, ?_, k.u, h.wl, ?_, h.s3, fun y hy => (h.wk y hy).mono (Nat.le_succ n), fun y hy => ?_⟩, k.el, ?_⟩
   ·rw [← he]; exact hst
   ·show ((subTurn c p.f1 x s.m).m.length : Int) = _; rw [k.len]; exact h.ml
   ·show (s.ss.set _ _).length = _; rw [List.length_set]; exact h.sl
   ·rcases List.mem_or_eq_of_mem_set hy with h1 | h1
    ·exact h.sb y h1
    ·rw [h1]; exact k.si
   ·have k2 := k.law
    have k3 := sumS_set s.ss p.f1.toNat x (s68Of (subTurn c p.f1 x s.m)) hx
    unfold tot
    show loadF (subTurn c p.f1 x s.m).m 2 / 65536 + sumW s.ws + sumS (s.ss.set p.f1.toNat (s68Of (subTurn c p.f1 x s.m))) ≤ _ + _ + _ + (cntW (subTurn c p.f1 x s.m).ev : Int)
    rw [k3]
    show _ + _ + (_ - _ + outS (subTurn c p.f1 x s.m).pc (subTurn c p.f1 x s.m).f) ≤ _
    omega
  ·rw [if_neg h1]
   have hws : ∀ y ∈ s.ws, WI (n + 1) t y := fun y hy => (h.wk y hy).mono (Nat.le_succ n)
   have hc0 : ((cntW ([] : List S40) : Nat) : Int) = 0 := rfl
   by_cases h2 : p.f0 = 2
   ·rw [if_pos h2]
    have k := MK.store h.u (p := 3) (v := 1) (by decide) (by unfold u64B; omega)
    refine ⟨Or.inr (Or.inr (Or.inl ⟨h2, rfl, rfl, rfl, rfl⟩)), ⟨h.may, h.fo, h.hk, ?_, k.u, h.wl, h.sl, h.s3, hws, h.sb⟩, by show 0 ≤ 2; omega, ?_⟩
    ·show ((storeF s.m 3 1).length : Int) = _; rw [k.len]; exact h.ml
    ·have k2 := k.two
     unfold tot
     show loadF (storeF s.m 3 1) 2 / 65536 + sumW s.ws + sumS s.ss ≤ _ + ((cntW ([] : List S40) : Nat) : Int)
     rw [k2, hc0]
     omega
   ·rw [if_neg h2]
    refine ⟨Or.inr (Or.inr (Or.inr ⟨h0, h1, h2, rfl, rfl, rfl, rfl⟩)), ⟨h.may, h.fo, h.hk, h.ml, h.u, h.wl, h.sl, h.s3, hws, h.sb⟩, by show 0 ≤ 2; omega, ?_⟩
    show tot s ≤ tot s + ((cntW ([] : List S40) : Nat) : Int)
    omega
def runF (c : Cf) (t : List S45) (ns : Nat) : List S83 → PlS → PlS
 | [], s => ⟨s.m, s.ws, s.ss, []⟩
 | p :: l, s => if fitB c.w (ns : Int) p = true then (let q := poolF c t s p; let r := runF c t ns l q; ⟨r.m, r.ws, r.ss, q.ev ++ r.ev⟩) else runF c t ns l s
theorem cntW_append (a b : List S40) : cntW (a ++ b) = cntW a + cntW b := by unfold cntW; rw [List.filter_append, List.length_append]
structure RK (c : Cf) (t : List S45) (ns n : Nat) (s : PlS) (l : List S83) (s' : PlS) : Prop where
 run : RunR c t ns s'.m s'.ws s'.ss l s.m s.ws s.ss s'.ev
 inv : Inv c t ns (n + l.length) s'
 el : s'.ev.length ≤ 2 * l.length
 law : tot s' ≤ tot s + (cntW s'.ev : Int)
theorem run_RK {c : Cf} {t : List S45} {ns : Nat} : ∀ (l : List S83) (n : Nat) (s : PlS), Inv c t ns n s → n + l.length ≤ 1000000 → RK c t ns n s l (runF c t ns l s)
 | [], n, s, h, hn => by
  refine ⟨⟨rfl, rfl, rfl, rfl⟩, ⟨h.may, h.fo, h.hk, h.ml, h.u, h.wl, h.sl, h.s3, h.wk, h.sb⟩, by show 0 ≤ _; omega, ?_⟩
  have hc0 : ((cntW ([] : List S40) : Nat) : Int) = 0 := rfl
  show tot s ≤ tot s + ((cntW ([] : List S40) : Nat) : Int)
  omega
 | p :: l, n, s, h, hn => by
  rw [List.length_cons] at hn
  obtain ⟨c1, c8, z0, z1⟩ := may_lo c h.may
  have hml := h.ml
  rw [runF]
  by_cases hf : fitB c.w (ns : Int) p = true
  ·rw [if_pos hf]
   dsimp only
   have k := pool_PK h (by omega) p hf
   have r := run_RK l (n + 1) _ k.inv (by omega)
   refine ⟨Or.inl ⟨by rw [fits_some, hf], by omega, _, _, _, _, _, k.st, r.run, rfl⟩, ?_, ?_, ?_⟩
   ·have := r.inv
    rw [List.length_cons, show n + (l.length + 1) = n + 1 + l.length by omega]
    exact ⟨this.may, this.fo, this.hk, this.ml, this.u, this.wl, this.sl, this.s3, this.wk, this.sb⟩
   ·have := r.el
    have := k.el
    rw [List.length_append, List.length_cons]
    omega
   ·have h1 := r.law
    have h2 := k.law
    have h3 := cntW_append (poolF c t s p).ev (runF c t ns l (poolF c t s p)).ev
    rw [h3]
    show tot (runF c t ns l (poolF c t s p)) ≤ _
    omega
  ·rw [if_neg hf]
   have r := run_RK l n s h (by omega)
   refine ⟨Or.inr ⟨by rw [fits_some]; simpa using hf, r.run⟩, ?_, ?_, r.law⟩
   ·have := r.inv
    exact ⟨this.may, this.fo, this.hk, this.ml, this.u, this.wl, this.sl, this.s3, fun x hx => (this.wk x hx).mono (by rw [List.length_cons]; omega), this.sb⟩
   ·have := r.el
    rw [List.length_cons]
    omega
theorem Inv.good {c : Cf} {t : List S45} {ns n : Nat} {s : PlS} (h : Inv c t ns n s) (hn : n ≤ 1000000) : DrGood c t s.m s.ws s.ss := by
 obtain ⟨c1, c8, z0, z1⟩ := may_lo c h.may
 have hml := h.ml
 have hwl := h.wl
 have hsl := h.sl
 have h3 := h.s3
 have hnt : t.length ≤ 1000000 := by
  have fo := h.fo
  unfold forestB at fo
  simp only [Bool.and_eq_true, decide_eq_true_eq] at fo
  have := fo.1.1
  omega
 exact ⟨⟨h.may, h.fo, h.ml, h.wl, by omega, hnt, fun x hx => ⟨(h.wk x hx).p0, (h.wk x hx).p1, (h.wk x hx).gs.1, by have := (h.wk x hx).gs.2; omega⟩, fun x hx => ⟨(h.sb x hx).p0, (h.sb x hx).p1, (h.sb x hx).rg, (h.sb x hx).ne, (h.sb x hx).rl⟩⟩, by omega, by omega, by omega⟩
theorem idx_mem : ∀ (l : List Int) (r : Int) (i : Nat), 0 ≤ idxG r l i → r ∈ l
 | [], r, i, h => by
  have : idxG r [] i = -1 := rfl
  rw [this] at h
  exact absurd h (by decide)
 | x :: l, r, i, h => by
  rw [idxG] at h
  by_cases e : r = x
  ·exact List.mem_cons.2 (Or.inl e)
  ·rw [if_neg e] at h
   exact List.mem_cons.2 (Or.inr (idx_mem l r _ h))
theorem takeR_mem : ∀ (l left left' : List Int), takeR left l = some left' → (∀ r ∈ l, r ∈ left) ∧ ∀ r ∈ left', r ∈ left
 | [], left, left', h => by
  rw [takeR] at h
  injection h with h
  subst h
  exact ⟨fun r hr => by simp at hr, fun r hr => hr⟩
 | x :: l, left, left', h => by
  rw [takeR] at h
  by_cases e : idxF left x < 0
  ·rw [if_pos e] at h; simp at h
  ·rw [if_neg e] at h
   obtain ⟨h1, h2⟩ := takeR_mem l _ _ h
   have hs : ∀ r ∈ left.eraseIdx (idxF left x).toNat, r ∈ left := fun r hr => List.eraseIdx_subset hr
   refine ⟨fun r hr => ?_, fun r hr => hs r (h2 r hr)⟩
   rcases List.mem_cons.1 hr with rfl | hr
   ·exact idx_mem left r 0 (by unfold idxF at e; omega)
   ·exact hs r (h1 r hr)
theorem takeAll_mem : ∀ (l : List (List Int)) (left left' : List Int), takeAll left l = some left' → ∀ x ∈ l, ∀ r ∈ x, r ∈ left
 | [], left, left', h => fun x hx => by simp at hx
 | y :: l, left, left', h => fun x hx r hr => by
  rw [takeAll] at h
  obtain ⟨l2, h1, h2⟩ := Option.bind_eq_some_iff.1 h
  obtain ⟨h3, h4⟩ := takeR_mem y left l2 h1
  rcases List.mem_cons.1 hx with rfl | hx
  ·exact h3 r hr
  ·exact h4 r (takeAll_mem l l2 left' h2 x hx r hr)
theorem sumW_new (k : Nat) : sumW ((List.range k).map fun i : Nat => newW (i : Int)) = 0 := by
 generalize List.range k = l
 induction l with
 | nil => rfl
 | cons x l ih => rw [List.map_cons, sumW, ih]; rfl
theorem sumS_new (l : List (List Int)) : sumS (l.map newS) = 0 := by
 induction l with
 | nil => rfl
 | cons x l ih => rw [List.map_cons, sumS, ih]; rfl
theorem zeros_rd (n : Nat) (i : Int) : rd (List.replicate n (0 : Int)) i = 0 := by
 unfold rd
 rw [List.getD_eq_getElem?_getD, List.getElem?_replicate]
 split <;> rfl
theorem new_Inv {c : Cf} {t : List S45} {roots : List (List Int)} {m : List Int} {ws : List S76} {ss : List S68} (h : newF c t roots = some (m, ws, ss)) (hk : ∀ y ∈ t, y.f1.length ≤ 1000000) (hrk : ∀ l ∈ roots, l.length ≤ 1000000) : Inv c t ss.length 0 ⟨m, ws, ss, []⟩ ∧ tot ⟨m, ws, ss, []⟩ = 0 := by
 unfold newF at h
 by_cases hg : mayB c = true ∧ forestB t = true ∧ roots.length ≤ 3
 ·rw [if_pos hg] at h
  obtain ⟨left, ht, he⟩ := Option.map_eq_some_iff.1 h
  injection he with e1 e2
  injection e2 with e2 e3
  subst e1 e2 e3
  obtain ⟨c1, c8, z0, z1⟩ := may_lo c hg.1
  have hrt := takeAll_mem roots _ _ ht
  have hrg := (rootsG_lt t t.length 0).1
  refine ⟨⟨hg.1, hg.2.1, hk, ?_, fun v hv => ?_, ?_, rfl, ?_, fun x hx => ?_, fun x hx => ?_⟩, ?_⟩
  ·show ((zerosF c).length : Int) = _
   unfold zerosF
   rw [List.length_replicate]
   omega
  ·have : v = 0 := (List.mem_replicate.1 hv).2
   rw [this]; exact u64_0
  ·show ((List.map _ _).length : Int) = _
   rw [List.length_map, List.length_range]
   omega
  ·rw [List.length_map]; exact hg.2.2
  ·obtain ⟨i, _, rfl⟩ := List.mem_map.1 hx
   exact ⟨by show (0 : Int) ≤ 0; omega, by show (0 : Int) < 16; omega, ⟨rfl, by show 0 ≤ 0; omega⟩, FG.new _ _ _ (by omega) (by omega) (by show (0 : Int) ≠ 14; decide) u64_0⟩
  ·obtain ⟨l, hl, rfl⟩ := List.mem_map.1 hx
   refine ⟨by show (0 : Int) ≤ 0; omega, by show (0 : Int) < 6; omega, fun r hr => ?_, hrk l hl, fun h => absurd rfl h, fun h => by have : (0 : Int) = 2 := h; omega, fun h => by have : (0 : Int) = 4 := h; omega, fu_z⟩
   have := hrg r (hrt l hl r hr)
   omega
  ·show loadF (zerosF c) 2 / 65536 + sumW _ + sumS _ = 0
   rw [sumW_new, sumS_new]
   have : loadF (zerosF c) 2 = 0 := by
    unfold loadF zerosF
    split
    ·exact zeros_rd _ _
    ·rfl
   rw [this]
   decide
 ·rw [if_neg hg] at h; simp at h
theorem hmod_ok (c : Cf) (t : List S45) (roots : List (List Int)) (sc : List Int) (hk : ∀ y ∈ t, y.f1.length ≤ 1000000) (hrk : ∀ l ∈ roots, l.length ≤ 1000000) (hl : sc.length ≤ 1500) (m : List Int) (ws : List S76) (ss : List S68) (h : newF c t roots = some (m, ws, ss)) :
  DrGood c t m ws ss ∧ ∃ m' ws' ss' ev, RunR c t ss.length m' ws' ss' (decF sc) m ws ss ev ∧ ev.length ≤ 1000000 ∧ IntKind.u64.wrap ((loadF m' 2).tdiv 65536) ≤ (cntW ev : Int) := by
 obtain ⟨hi, ht⟩ := new_Inv h hk hrk
 have hd := decF_len sc
 have r := run_RK (decF sc) 0 _ hi (by omega)
 refine ⟨hi.good (by omega), _, _, _, _, r.run, by have := r.el; omega, ?_⟩
 have h1 := r.law
 have h2 := load_u r.inv.u 2
 have h3 := sumW_ge (runF c t ss.length (decF sc) ⟨m, ws, ss, []⟩).ws
 have h4 := sumS_ge (runF c t ss.length (decF sc) ⟨m, ws, ss, []⟩).ss
 rw [ht] at h1
 unfold tot at h1
 generalize loadF (runF c t ss.length (decF sc) ⟨m, ws, ss, []⟩).m 2 = z at h1 h2 ⊢
 generalize (cntW (runF c t ss.length (decF sc) ⟨m, ws, ss, []⟩).ev : Int) = k at h1 ⊢
 unfold u64B at h2
 rw [Int.tdiv_eq_ediv_of_nonneg h2.1, IntKind.wrap_u64]
 omega
def drainF (c : Cf) (t : List S45) (nw ns : Nat) : Nat → Nat → PlS → PlS × Nat
 | 0, i, s => (⟨s.m, s.ws, s.ss, []⟩, i)
 | r + 1, i, s => if restedB c s.m s.ws s.ss = true then (⟨s.m, s.ws, s.ss, []⟩, i) else
  let q := runF c t ns (roundF nw ns (i : Int)) s
  let z := drainF c t nw ns r (i + 1) q
  (⟨z.1.m, z.1.ws, z.1.ss, q.ev ++ z.1.ev⟩, z.2)
theorem round_len (nw ns : Nat) (d : Int) : (roundF nw ns d).length = nw + ns := by simp [roundF, rowsF]
theorem Inv.ev {c : Cf} {t : List S45} {ns n k : Nat} {s : PlS} (h : Inv c t ns n s) (hk : n ≤ k) (ev : List S40) : Inv c t ns k ⟨s.m, s.ws, s.ss, ev⟩ := ⟨h.may, h.fo, h.hk, h.ml, h.u, h.wl, h.sl, h.s3, fun x hx => (h.wk x hx).mono hk, h.sb⟩
theorem drain_ok {c : Cf} {t : List S45} {nw ns : Nat} (hw : nw + ns ≤ 100) : ∀ (r i n : Nat) (s : PlS), Inv c t ns n s → n + r * (nw + ns) ≤ 1000000 → DrainR c t nw ns (drainF c t nw ns r i s).1.m (drainF c t nw ns r i s).1.ws (drainF c t nw ns r i s).1.ss (drainF c t nw ns r i s).2 r i s.m s.ws s.ss (drainF c t nw ns r i s).1.ev ∧ Inv c t ns (n + r * (nw + ns)) (drainF c t nw ns r i s).1 ∧ (drainF c t nw ns r i s).1.ev.length ≤ 2 * (r * (nw + ns))
 | 0, i, n, s, h, hn => ⟨⟨rfl, rfl, rfl, rfl, rfl⟩, h.ev (by omega) _, by show 0 ≤ _; omega⟩
 | r + 1, i, n, s, h, hn => by
  rw [Nat.add_mul, Nat.one_mul] at hn
  rw [Nat.add_mul, Nat.one_mul, drainF]
  by_cases hr : restedB c s.m s.ws s.ss = true
  ·rw [if_pos hr]
   exact ⟨Or.inl ⟨hr, rfl, rfl, rfl, rfl, rfl⟩, h.ev (by omega) _, by show 0 ≤ _; omega⟩
  ·rw [if_neg hr]
   dsimp only
   have hl := round_len nw ns (i : Int)
   have k := run_RK (roundF nw ns (i : Int)) n s h (by omega)
   have ki := k.inv
   have kl := k.el
   rw [hl] at ki kl
   obtain ⟨h1, h2, h3⟩ := drain_ok hw r (i + 1) (n + (nw + ns)) _ ki (by omega)
   have hs := h.sl
   refine ⟨Or.inr ⟨by simpa using hr, _, _, _, _, _, by rw [hs]; exact k.run, by omega, ki.good (by omega), h1, rfl⟩, h2.ev (by omega) _, ?_⟩
   rw [List.length_append]
   omega
def pA0 : PlS := ⟨zerosF cA, [newW 0, newW 1], [newS [0]], []⟩
def pA1 : PlS := runF cA tA 1 (decF sA) pA0
def pA2 : PlS × Nat := drainF cA tA 2 1 1000 0 pA1
theorem pA0_ok : newF cA tA rA = some (pA0.m, pA0.ws, pA0.ss) := by kernel_rfl
theorem pA2_r : restedB cA pA2.1.m pA2.1.ws pA2.1.ss = true := by kernel_rfl
theorem pA2_s : cntE pA2.1.ev 0 = 1 := by kernel_rfl
theorem pA2_d : cntE pA2.1.ev 4 = 2 := by kernel_rfl
theorem run_all {c : Cf} {t : List S45} {ns n : Nat} {s : PlS} (l : List S83) (h : Inv c t ns n s) (hn : n ≤ 1000) (hl : l.length ≤ 1000) : RunR c t ns (runF c t ns l s).m (runF c t ns l s).ws (runF c t ns l s).ss l s.m s.ws s.ss (runF c t ns l s).ev ∧ Inv c t ns 2000 (runF c t ns l s) ∧ (runF c t ns l s).ev.length ≤ 1000000 := by
 have k := run_RK l n s h (by omega)
 have ki := k.inv
 have kl := k.el
 exact ⟨k.run, ki.ev (by omega) _, by omega⟩
theorem drain_all {c : Cf} {t : List S45} {nw ns n : Nat} {s : PlS} (N : Nat) (h : Inv c t ns n s) (hn : n ≤ 2000) (hN : N ≤ 1000) (hw : nw + ns ≤ 100) : DrainR c t nw ns (drainF c t nw ns N 0 s).1.m (drainF c t nw ns N 0 s).1.ws (drainF c t nw ns N 0 s).1.ss (drainF c t nw ns N 0 s).2 N 0 s.m s.ws s.ss (drainF c t nw ns N 0 s).1.ev ∧ DrGood c t (drainF c t nw ns N 0 s).1.m (drainF c t nw ns N 0 s).1.ws (drainF c t nw ns N 0 s).1.ss ∧ (drainF c t nw ns N 0 s).1.ev.length ≤ 1000000 := by
 have h1 : N * (nw + ns) ≤ 1000 * 100 := Nat.mul_le_mul hN hw
 obtain ⟨d1, d2, d3⟩ := drain_ok hw N 0 n s h (by omega)
 exact ⟨d1, d2.good (by omega), by omega⟩
theorem awake_ok : AwakeOK pA0.m pA0.ws pA0.ss pA1.m pA1.ws pA1.ss pA1.ev pA2.1.m pA2.1.ws pA2.1.ss pA2.1.ev pA2.2 := by
 have hi : Inv cA tA 1 0 pA0 := (new_Inv pA0_ok (by decide) (by decide)).1
 have hl : (decF sA).length ≤ 1000 := Nat.le_trans (decF_len sA) (by decide)
 obtain ⟨k1, k2, k3⟩ := run_all (decF sA) hi (by decide) hl
 obtain ⟨d1, d2, d3⟩ := drain_all (nw := 2) 1000 k2 (Nat.le_refl _) (Nat.le_refl _) (by decide)
 have hs : pA1.ss.length = 1 := k2.sl
 exact ⟨pA0_ok, hi.good (by decide), k1, k2.good (by decide), by rw [hs]; exact d1, d2, pA2_r, pA2_s, pA2_d, k3, d3⟩
theorem awake_t (w : World) : Calls Tryz.prog 4 #[] w fun e w' => e = .returned (.bool true) ∧ Below w.heap.size w w' := awake_4 awake_ok w
theorem few_l0 (t : List S45) : ∀ (d i k : Nat), i + d = 41 → 2 * d + 2 ≤ k → ∃ b, poacherlaw04_Few.l0 k t (i : Int) = some b ∧ (b = true → t.length ≤ 40 ∧ ∀ j, i ≤ j → j < t.length → (rd_T45 t (j : Int)).f1.length ≤ 40)
 | d, i, k, hi, hk => by
  obtain ⟨k, rfl⟩ : ∃ k', k = k' + 2 := ⟨k - 2, by omega⟩
  rw [poacherlaw04_Few.l0]
  have hno : ∀ h : ¬ ((i : Int) ≤ 40 ∧ (i : Int) < (t.length : Int)), ∃ b, (some (decide ((t.length : Int) ≤ 40)) : Option Bool) = some b ∧ (b = true → t.length ≤ 40 ∧ ∀ j, i ≤ j → j < t.length → (rd_T45 t (j : Int)).f1.length ≤ 40) := fun h => ⟨_, rfl, fun hb => by
   have := of_decide_eq_true hb
   exact ⟨by omega, fun j h1 h2 => by omega⟩⟩
  by_cases h1 : (i : Int) < (t.length : Int)
  ·rw [if_pos h1, poacherlaw04_Few.j1]
   by_cases h2 : (i : Int) ≤ 40
   ·rw [if_pos (decide_eq_true h2), if_pos (by omega), if_pos h1]
    by_cases h3 : ((rd_T45 t (i : Int)).f1.length : Int) > 40
    ·rw [if_pos h3]; exact ⟨false, rfl, fun h => by simp at h⟩
    ·rw [if_neg h3]
     obtain ⟨d, rfl⟩ : ∃ d', d = d' + 1 := ⟨d - 1, by omega⟩
     have e : wrap64 ((i : Int) + 1) = ((i + 1 : Nat) : Int) := by unfold wrap64; omega
     rw [e]
     obtain ⟨b, hb, hs⟩ := few_l0 t d (i + 1) k (by omega) (by omega)
     refine ⟨b, hb, fun h => ⟨(hs h).1, fun j a1 a2 => ?_⟩⟩
     by_cases hj : j = i
     ·subst hj; omega
     ·exact (hs h).2 j (by omega) a2
   ·rw [if_neg (by simp [h2])]; exact hno (fun h => h2 h.1)
  ·rw [if_neg h1, poacherlaw04_Few.j1, if_neg (by decide)]; exact hno (fun h => h1 h.2)
theorem fewR_l0 (t : List (List Int)) : ∀ (d i k : Nat), i + d = 11 → 2 * d + 2 ≤ k → ∃ b, poacherlaw20_FewRoots.l0 k t (i : Int) = some b ∧ (b = true → t.length ≤ 10 ∧ ∀ j, i ≤ j → j < t.length → (rd_L1 t (j : Int)).length ≤ 60)
 | d, i, k, hi, hk => by
  obtain ⟨k, rfl⟩ : ∃ k', k = k' + 2 := ⟨k - 2, by omega⟩
  rw [poacherlaw20_FewRoots.l0]
  have hno : ∀ h : ¬ ((i : Int) ≤ 10 ∧ (i : Int) < (t.length : Int)), ∃ b, (some (decide ((t.length : Int) ≤ 10)) : Option Bool) = some b ∧ (b = true → t.length ≤ 10 ∧ ∀ j, i ≤ j → j < t.length → (rd_L1 t (j : Int)).length ≤ 60) := fun h => ⟨_, rfl, fun hb => by
   have := of_decide_eq_true hb
   exact ⟨by omega, fun j h1 h2 => by omega⟩⟩
  by_cases h1 : (i : Int) < (t.length : Int)
  ·rw [if_pos h1, poacherlaw20_FewRoots.j1]
   by_cases h2 : (i : Int) ≤ 10
   ·rw [if_pos (decide_eq_true h2), if_pos (by omega), if_pos h1]
    by_cases h3 : ((rd_L1 t (i : Int)).length : Int) > 60
    ·rw [if_pos h3]; exact ⟨false, rfl, fun h => by simp at h⟩
    ·rw [if_neg h3]
     obtain ⟨d, rfl⟩ : ∃ d', d = d' + 1 := ⟨d - 1, by omega⟩
     have e : wrap64 ((i : Int) + 1) = ((i + 1 : Nat) : Int) := by unfold wrap64; omega
     rw [e]
     obtain ⟨b, hb, hs⟩ := fewR_l0 t d (i + 1) k (by omega) (by omega)
     refine ⟨b, hb, fun h => ⟨(hs h).1, fun j a1 a2 => ?_⟩⟩
     by_cases hj : j = i
     ·subst hj; omega
     ·exact (hs h).2 j (by omega) a2
   ·rw [if_neg (by simp [h2])]; exact hno (fun h => h2 h.1)
  ·rw [if_neg h1, poacherlaw20_FewRoots.j1, if_neg (by decide)]; exact hno (fun h => h1 h.2)
theorem few_ok (t : List S45) (roots : List (List Int)) : ∃ b, poachertop_few.f 100 t roots = some b ∧ (b = true → t.length ≤ 1000000 ∧ (∀ x ∈ t, x.f1.length ≤ 1000000) ∧ roots.length ≤ 1000000 ∧ ∀ l ∈ roots, l.length ≤ 1000000) := by
 obtain ⟨b1, h1, g1⟩ := few_l0 t 41 0 100 (by omega) (by omega)
 obtain ⟨b2, h2, g2⟩ := fewR_l0 roots 11 0 100 (by omega) (by omega)
 have e1 : poacherlaw04_Few.f 100 t = some b1 := h1
 have e2 : poacherlaw20_FewRoots.f 100 roots = some b2 := h2
 unfold poachertop_few.f
 rw [e1, e2]
 simp only [Option.bind_some]
 by_cases hb : b1 = true
 ·rw [if_pos hb]
  refine ⟨b2, rfl, fun hb2 => ?_⟩
  obtain ⟨p1, p2⟩ := g1 hb
  obtain ⟨q1, q2⟩ := g2 hb2
  refine ⟨by omega, fun x hx => ?_, by omega, fun x hx => ?_⟩
  ·obtain ⟨j, hj, rfl⟩ := List.mem_iff_getElem.1 hx
   have := p2 j (by omega) hj
   unfold rd_T45 at this
   rw [Int.toNat_natCast, List.getD_eq_getElem?_getD, List.getElem?_eq_getElem hj, Option.getD_some] at this
   omega
  ·obtain ⟨j, hj, rfl⟩ := List.mem_iff_getElem.1 hx
   have := q2 j (by omega) hj
   unfold rd_L1 at this
   rw [Int.toNat_natCast, List.getD_eq_getElem?_getD, List.getElem?_eq_getElem hj, Option.getD_some] at this
   omega
 ·rw [if_neg hb]
  exact ⟨false, rfl, fun h => by simp at h⟩
theorem top_3 (c : Cf) (t : List S45) (At : Option Addr) (ct : Nat) (roots : List (List Int)) (Ar : Option Addr) (cr : Nat) (sc : List Int) (As : Option Addr) (cs_ : Nat) (w : World) (hT : Kd.C k45 w At t.length t) (hct : t.length ≤ ct) (hR : Kd.C (Kd.slice 3 (Kd.int .i64)) w Ar roots.length roots) (hcr : roots.length ≤ cr) (hS : Kd.C (Kd.int .u8) w As sc.length sc) (hcs : sc.length ≤ cs_) :
  Calls Tryz.prog 3 #[cfV c, .slice At t.length ct, .slice Ar roots.length cr, .slice As sc.length cs_] w fun e w' => e = .returned (.bool true) ∧ Below w.heap.size w w' := by
 obtain ⟨b, hf, hb⟩ := few_ok t roots
 exact wakes_3 c t At ct roots Ar cr sc As cs_ w hT hct hR hcr hS hcs awake_t b 100 hf hb (fun hbt hl m ws ss hn => hmod_ok c t roots sc (hb hbt).2.1 (hb hbt).2.2.2 hl m ws ss hn)
end Go.Proofs.YthoeodjgfelkhaaGreat.QT
namespace Go.Proofs.YthoeodjgfelkhaaGreat.topWakes
open Go.ChangeShapes Go.WideShapes Go.ChangeAt Go.RowKit Go.Joins Go.Proofs.YthoeodjgfelkhaaGreat.QT Go.Proofs.YthoeodjgfelkhaaGreatW.PrintWords
theorem own : ownKnob Tryz.prog.godebug = none := by kernel_rfl
theorem laidOut : laidOutB Tryz.prog = true := by kernel_rfl
theorem cells23 : Tryz.prog.cellsOf 23 = 4 := by kernel_rfl
theorem lifted (os : Os) (started : os.Started) (H : Type) (enc : TypeId × Value → H) :
  ReturnsInHanded {} Tryz.checked os 3 .any (Rows.topWakesSpec.pre6 enc Tryz.prog Tryz.f3 Rows.topWakesRow.domain false) (Rows.topWakesSpec.post enc Tryz.prog Tryz.f3 false true false false) := by
 refine returnsInHanded_of_change_sized (C := Tryz.checked) own started (by kernel_rfl) Tryz.func3
  (ChangeSpec.witness6 (enc := enc) (C := Tryz.checked) false ⟨#[], #[.agg #[.int .i64 0, .int .i64 0, .int .i64 0, .int .i64 0], .slice none 0 0, .slice none 0 0, .slice none 0 0], []⟩ 8 (by kernel_rfl) (by kernel_rfl) (by kernel_rfl) (by kernel_rfl)) ?_
 intro W base args ds gs before hval0 hW hcnd hsz0 _
 have hval : ∀ (j : Nat) t v, Tryz.f3.params[j]? = some t → args[j]? = some v → Value.okWide Tryz.prog W .any base t v := hval0
 have hW' := hW
 obtain ⟨p, q, hA0, hV, rfl, hfz, hnd⟩ := hW
 have hA : DataW.TrodAll enc Tryz.prog W 0 (fun _ => true) true Tryz.f3.params.toList args.toList ds p := hA0
 rw [Tryz.params3] at hA hval
 obtain ⟨v0, vs0, d0, ds0, p0, q0, hargs, rfl, rfl, h0, r0⟩ := trodAll_cons hA
 obtain ⟨v1, vs1, d1, ds1, p1, q1, rfl, rfl, rfl, h1, r1⟩ := trodAll_cons r0
 obtain ⟨v2, vs2, d2, ds2, p2, q2, rfl, rfl, rfl, h2, r2⟩ := trodAll_cons r1
 obtain ⟨v3, vs3, d3, ds3, p3, q3, rfl, rfl, rfl, h3, r3⟩ := trodAll_cons r2
 obtain ⟨rfl, rfl, rfl⟩ := trodAll_nil r3
 obtain rfl : args = #[v0, v1, v2, v3] := by cases args; simp_all
 obtain ⟨rfl, rfl⟩ := trodVars_none hV
 have k0 := h0
 have lt0 : ∀ x ∈ p0, x.block < W.heap.size := by obtain ⟨m, hm⟩ := k0; exact DataW.trod_lt m _ _ _ hm
 obtain ⟨c0_0, c0_1, c0_2, c0_3, y0_0, y0_1, y0_2, y0_3, m0, rfl, hd0, hp0, hy0_0, hy0_1, hy0_2, hy0_3⟩ := open_agg4 Tryz.underlying23 (by kernel_rfl) cells23 (hval 0 23 v0 rfl rfl) h0
 obtain ⟨a0_0, e0_0, _, w0_0⟩ := DataW.trod_int Tryz.underlying3 hy0_0
 simp only [List.cons.injEq, and_true] at e0_0
 subst e0_0
 obtain ⟨a0_1, e0_1, _, w0_1⟩ := DataW.trod_int Tryz.underlying3 hy0_1
 simp only [List.cons.injEq, and_true] at e0_1
 subst e0_1
 obtain ⟨a0_2, e0_2, _, w0_2⟩ := DataW.trod_int Tryz.underlying3 hy0_2
 simp only [List.cons.injEq, and_true] at e0_2
 subst e0_2
 obtain ⟨a0_3, e0_3, _, w0_3⟩ := DataW.trod_int Tryz.underlying3 hy0_3
 simp only [List.cons.injEq, and_true] at e0_3
 subst e0_3
 have k1 := h1
 have lt1 : ∀ x ∈ p1, x.block < W.heap.size := by obtain ⟨m, hm⟩ := k1; exact DataW.trod_lt m _ _ _ hm
 obtain ⟨A1, len1, cap1, rfl⟩ := okWide_slice Tryz.underlying24 (hval 1 24 v1 rfl rfl)
 obtain ⟨l1, rfl, hC1, hc1⟩ : ∃ l : List S45, len1 = l.length ∧ Kd.C k45 W A1 len1 l ∧ len1 ≤ cap1 := by obtain ⟨fuel, hf⟩ := h1; exact read_tasks hf
 have k2 := h2
 have lt2 : ∀ x ∈ p2, x.block < W.heap.size := by obtain ⟨m, hm⟩ := k2; exact DataW.trod_lt m _ _ _ hm
 obtain ⟨A2, len2, cap2, rfl⟩ := okWide_slice Tryz.underlying25 (hval 2 25 v2 rfl rfl)
 obtain ⟨l2, rfl, hC2, hc2⟩ : ∃ l : List (List Int), len2 = l.length ∧ Kd.C (Kd.slice 3 (Kd.int .i64)) W A2 len2 l ∧ len2 ≤ cap2 := by obtain ⟨fuel, hf⟩ := h2; exact read_rows hf
 have k3 := h3
 have lt3 : ∀ x ∈ p3, x.block < W.heap.size := by obtain ⟨m, hm⟩ := k3; exact DataW.trod_lt m _ _ _ hm
 obtain ⟨A3, len3, cap3, rfl⟩ := okWide_slice Tryz.underlying26 (hval 3 26 v3 rfl rfl)
 obtain ⟨l3, rfl, hC3, hc3⟩ : ∃ l : List Int, len3 = l.length ∧ Kd.C (Kd.int .u8) W A3 len3 l ∧ len3 ≤ cap3 := by
  obtain ⟨fuel, hf⟩ := h3
  obtain ⟨A, len, cap, l, e, rfl, g, hl⟩ := read_ints Tryz.underlying26 Tryz.underlying5 (by kernel_rfl) hf
  simp [Value.cells] at e
  obtain ⟨rfl, rfl, rfl⟩ := e
  exact ⟨l, rfl, g, hl⟩
 have hcall : Calls Tryz.prog 3 #[.agg #[.int .i64 a0_0, .int .i64 a0_1, .int .i64 a0_2, .int .i64 a0_3], .slice A1 l1.length cap1, .slice A2 l2.length cap2, .slice A3 l3.length cap3] W fun e w' => e = .returned (.bool true) ∧ Below W.heap.size W w' := top_3 ⟨a0_0, a0_1, a0_2, a0_3⟩ l1 A1 cap1 l2 A2 cap2 l3 A3 cap3 W hC1 hc1 hC2 hc2 hC3 hc3
 clear hA0 hval0 hsz0
 refine hcall.mono fun e W' ⟨he, bel⟩ => ?_
 subst he
 exact ⟨_, rfl, _, _, _, [], _, [], hW', trodAll_mk1 (shut_bool Tryz.underlying4 _), (trodAll_cons_mk (Below.trod laidOut (by kernel_rfl) (of_decide_eq_true (by kernel_rfl)) k0 bel lt0) (trodAll_cons_mk (Below.trod laidOut (by kernel_rfl) (of_decide_eq_true (by kernel_rfl)) k1 bel lt1) (trodAll_cons_mk (Below.trod laidOut (by kernel_rfl) (of_decide_eq_true (by kernel_rfl)) k2 bel lt2) (trodAll_cons_mk (Below.trod laidOut (by kernel_rfl) (of_decide_eq_true (by kernel_rfl)) k3 bel lt3) trodAll_mk0)))), rfl, bel.frame _, fun h => by cases h⟩
theorem over : Rows.topWakesRow.holds Tryz.pinned (OpenSpec.ofChange Rows.topWakesSpec) :=
 OpenClaim.holds_of_wide 3 Tryz.f3 rfl rfl rfl rfl rfl rfl rfl ⟨rfl, rfl, rfl, rfl, rfl⟩ rfl rfl rfl rfl rfl (by kernel_rfl) Tryz.func3 (by kernel_rfl)
  (of_decide_eq_true (by kernel_rfl)) (by unfold Func.isWrapper; first | (rw [if_pos (by decide +kernel)]; kernel_rfl) | (rw [if_neg (by decide +kernel)]; exact ⟨rfl, rfl⟩))
  (fun os started H enc _ => lifted os started H enc)
end Go.Proofs.YthoeodjgfelkhaaGreat.topWakes
namespace Go.Proofs.YthoeodjgfelkhaaGreat
theorem topWakes_holds : Rows.TopWakesSaid := topWakes.over
end Go.Proofs.YthoeodjgfelkhaaGreat
