/- Part 17 of the claim on TopWakes: note's functions; the hand's to, with, add, tell. No condition. -/
import Derived.Test.YthoeodjgfelkhaaGreatm14
set_option linter.unusedVariables false
set_option linter.unusedSimpArgs false
set_option maxRecDepth 100000
set_option maxHeartbeats 8000000
namespace Go.Proofs.YthoeodjgfelkhaaGreat.QT
open Go.RowKit Go.Proofs.YthoeodjgfelkhaaGreatW.PrintWords Go.Proofs.YthoeodjgfelkhaaGreatW.PrintLast Go.Proofs.YthoeodjgfelkhaaGreatW.PrintMore
attribute [local go_sem] max2_int min2_int max_two min_two
def maskF (a : Int) : Int := Go.bits .and .u64 a 65535
def packF (a b : Int) : Int := Go.bits .or .u64 (IntKind.u64.wrap (a * 65536)) (Go.bits .and .u64 b 65535)
def bumpF (a : Int) : Int × Int := (packF (IntKind.u64.wrap (a / 65536 + 1)) (Go.bits .and .u64 (maskF a) (IntKind.u64.wrap (maskF a - 1))), Tryz.lowest (maskF a))
def wipeF (a : Int) : Int := packF (IntKind.u64.wrap (a / 65536 + 1)) 0
def kindF (op e : Int) : Int × Int := if op = 6 then ((bumpF e).1, IntKind.u64.wrap (if (bumpF e).2 < 0 then 0 else (bumpF e).2)) else (wipeF e, maskF e)
theorem cell_below' {w w1 : World} {p : Addr} {v : Value} (h : w.cell? p = some v) (hb : Below w.heap.size w w1) : w1.cell? p = some v := by
 obtain ⟨o, ho, _⟩ := cells_of_cell h
 exact (hb.cell (Array.getElem?_eq_some_iff.1 ho).1).trans h
theorem kinds_164 (e : Int) (w : World) : Calls Tryz.prog 164 #[.int .u64 e] w fun r w' => r = .returned (.tuple #[.int .u64 (kindF 6 e).1, .int .u64 (kindF 6 e).2]) ∧ Below w.heap.size w w' := by
 go_enter Tryz.func164, Tryz.ntmps164
 go_wp2_with (go_at_call 165; (with_reducible refine (word_Bump.calls e (bumpF e).1 (bumpF e).2 _ rfl).mono ?_); rintro e w1 ⟨rfl, hb⟩; have HB := qQ hb; clear hb)
 all_goals go_ret2
 ·exact ⟨by simp [kindF, *], HB.o⟩
 ·exact ⟨by simp [kindF, show ¬ (bumpF e).2 < 0 by omega], HB.o⟩
theorem wake_143 (c : Cf) (A : Option Addr) (cp : Nat) (l : List Int) (A2 : Option Addr) (c2 : Nat) (i p : Int) (w : World) (hC : Kd.C (Kd.int .u64) w A l.length l) (hcp : l.length ≤ cp) (hn : l.length ≤ 1000000) (hC2 : Kd.C (Kd.int .i64) w A2 1 [i]) (hp : lay_Park.f c.w c.d c.i c.s i = some p) :
  Calls Tryz.prog 143 #[cfV c, .slice A l.length cp, .slice A2 1 c2] w fun e w' => ∃ v, e = .returned v ∧ (Kd.int .u64).R 38 w' w.heap.size (fun _ => True) v (storeF l p 1) ∧ Below w.heap.size w w' := by
 obtain ⟨ad, e2, x0⟩ := Kd.at_int hC2 0 (by omega) (by omega)
 cases e2
 replace x0 : w.cell? ad = some (.int .i64 i) := by simpa [rd, Addr.add_zero'] using x0
 have HC := qQ hC
 have HX := qQ x0
 clear hC hC2 x0
 go_enter Tryz.func143, Tryz.ntmps143
 go_wp2
 go_loopw [1, 11] (fun m i wr => (m = .slice A l.length cp ∧ i = .int .i64 0 ∧ Aside0 (Below w.heap.size w wr) ∧ Aside0 (wr.heap[w.heap.size]? = some (.cells #[.int .i64 c.w, .int .i64 c.d, .int .i64 c.i, .int .i64 c.s] 23 (0, 0)))) ∨ (i = .int .i64 1 ∧ Aside0 ((Kd.int .u64).R 38 wr w.heap.size (fun _ => True) m (storeF l p 1)) ∧ Aside0 (Below w.heap.size w wr)))
  (fun _ i _ => 1 - (intOf i).toNat)
 case atStart => exact Or.inl ⟨rfl, rfl, ⟨below_alloc (Below.refl _ _) _⟩, ⟨blk_new w _⟩⟩
 case round =>
  rcases hrel with ⟨rfl, rfl, HB, HH⟩ | ⟨rfl, HR, HB⟩
  ·have x0 := cell_below' HX.o HB.o
   have b0 := (blk_cell HH.o 0).trans rfl
   have b1 := (blk_cell HH.o 1).trans rfl
   have b2 := (blk_cell HH.o 2).trans rfl
   have b3 := (blk_cell HH.o 3).trans rfl
   go_wp2_with (first | (go_at_call 43; (with_reducible refine (lay_Park.calls c.w c.d c.i c.s i p _ hp).mono ?_); rintro e w1 ⟨rfl, hb⟩; have HB1 := qQ (HB.o.trans (hb.mono HB.o.size)); clear hb) | (go_at_call 65; (with_reducible refine (store65 A cp l p 1 _ (Kd.C_below HC.o HB1.o) hcp hn).mono ?_); rintro e w2 ⟨v, rfl, hr, hb⟩; have HR2 := qQ (Kd.R_lower hr HB1.o.size); have HB2 := qQ (HB1.o.trans (hb.mono HB1.o.size)); clear hr hb))
   go_roundw
   case rel => exact Or.inr ⟨rfl, HR2, HB2⟩
   case measure => simp [intOf]
  ·go_wp2
   go_ret
   exact ⟨_, rfl, HR.o, HB.o⟩
def noteB (c : Cf) (n : Nat) (f : S66) : Bool := mayB c && decide ((n : Int) = sizeF c) && decide (f.f6 = 0) && decide (0 ≤ f.f1) && decide (f.f1 ≤ 2)
theorem noteB_cases (m : Bool) (f : S66) (n : Nat) (s : Int) : m = false ∨ (m = true ∧ decide ((n : Int) = s) = false) ∨ (m = true ∧ decide ((n : Int) = s) = true ∧ decide (f.f6 = 0) = false) ∨ (m = true ∧ decide ((n : Int) = s) = true ∧ decide (f.f6 = 0) = true ∧ decide (0 ≤ f.f1) = false) ∨ (m = true ∧ decide ((n : Int) = s) = true ∧ decide (f.f6 = 0) = true ∧ decide (0 ≤ f.f1) = true ∧ decide (f.f1 ≤ 2) = false) ∨ (m = true ∧ decide ((n : Int) = s) = true ∧ decide (f.f6 = 0) = true ∧ decide (0 ≤ f.f1) = true ∧ decide (f.f1 ≤ 2) = true) := by
 cases m <;> cases decide ((n : Int) = s) <;> cases decide (f.f6 = 0) <;> cases decide (0 ≤ f.f1) <;> cases decide (f.f1 ≤ 2) <;> simp
theorem note_goes (A : Option Addr) (cp n : Nat) (c : Cf) (f : S66) (w : World) (hop : f.f0 = 6) :
  Calls Tryz.prog 138 #[cfV c, .slice A n cp, frV f] w fun e w' => e = .returned (.bool (noteB c n f)) ∧ Below w.heap.size w w' := by
 obtain ⟨f0, f1, f2, f3, f4, f5, f6⟩ := f
 cases hop
 have HT0 := qQ (Two.start w c ⟨6, f1, f2, f3, f4, f5, f6⟩)
 have HM := qQ (may_some c)
 have HZ := qQ (size_some c)
 unfold noteB
 generalize mayB c = m at HM ⊢
 generalize sizeF c = s at HZ ⊢
 have E1 : ∀ a b : Int, (a == b) = decide (a = b) := fun a b => by by_cases h : a = b <;> simp [h]
 have E2 : ∀ a b : Int, (a != b) = !decide (a = b) := fun a b => by by_cases h : a = b <;> simp [h]
 have key := noteB_cases m ⟨6, f1, f2, f3, f4, f5, f6⟩ n s
 dsimp only at HT0 key ⊢
 have KEY := qQ key
 have HE := qQ (And.intro E1 E2)
 clear key E1 E2
 go_enter Tryz.func138, Tryz.ntmps138
 go_wp2
 refine zS 9 [] (fun W' => Two w c ⟨6, f1, f2, f3, f4, f5, f6⟩ W') HT0.o.drew fun hHeld => ?_
 refine zY 1 2 11 ?_
 refine zT 2 6 12 ?_ (hy := by intro w' hSw; have q0 := twoCells hSw; go_simp; with_reducible rfl)
 refine zO 0 7 10 fun K hK => ?_
 go_simp
 refine (kinds_139 _).mono ?_
 rintro e w1 ⟨rfl, hm, hb⟩
 have HT1 := qQ (HT0.o.drew.below hb)
 replace hm : w1.heap[w.heap.size + 1 + 1]? = some kindsM := (by simpa using hm)
 have hlk := @run_look_some Tryz.prog 171 _ _ _ 2 Tryz.underlying171 Tryz.underlying3 _ 6 _ _ w1 hm rfl true
 clear hm hb
 refine hK.out _ _ HT1.o (fun hHeld => ?_)
 refine zO 3 15 13 fun K hK => ?_
 go_simp
 refine hK.out _ _ HT1.o (fun hHeld => ?_)
 refine zY 4 31 9 ?_
 refine zY 5 63 14 ?_
 refine zY 6 127 15 ?_
 refine zY 7 255 7 ?_
 refine zY 8 511 8 ?_
 refine zD ?_
 have q0 := twoCells HT1.o
 clear hHeld
 obtain ⟨E1, E2⟩ := HE.o
 rcases KEY.o with h1 | ⟨h1, h2⟩ | ⟨h1, h2, h3⟩ | ⟨h1, h2, h3, h4⟩ | ⟨h1, h2, h3, h4, h5⟩ | ⟨h1, h2, h3, h4, h5⟩
 all_goals
  subst h1
  go_wp2_with (first | (go_at_call 22; (with_reducible refine (lay_May.calls c.w c.d c.i c.s _ _ HM.o).mono ?_); rintro e w2 ⟨rfl, hb⟩; have HT2 := HT1.o.below hb; clear hb q0; have q0 := twoCells HT2; have HT2 := qQ HT2) | (go_at_call 52; (with_reducible refine (lay_Size.calls c.w c.d c.i c.s _ _ HZ.o).mono ?_); rintro e w3 ⟨rfl, hb⟩; have HT3 := HT2.o.below hb; clear hb q0; have q0 := twoCells HT3; have HT3 := qQ HT3) | (go_at_call 96; (with_reducible refine (frame_Over.calls _ _ _ _ _ _ _ _ _ rfl).mono ?_); rintro e w4 ⟨rfl, hb⟩; have HT4 := HT3.o.below hb; clear hb q0; have q0 := twoCells HT4; have HT4 := qQ HT4))
  go_ret
  exact ⟨by first | rfl | simp [*], by first | exact HT4.o.hb | exact HT3.o.hb | exact HT2.o.hb⟩
structure S40 where
 f0 : Int
 f1 : Int
 f2 : Int
 deriving DecidableEq, Repr
def k40 : Kd S40 := Kd.iso (Kd.pair (Kd.int .i64) (Kd.pair (Kd.int .i64) (Kd.int .i64))) (fun x : S40 => (x.f0, x.f1, x.f2))
theorem k40_mkM (w : World) (base : Nat) (ok : Nat → Prop) (x : S40) : k40.M w base ok x [.int .i64 x.f0, .int .i64 x.f1, .int .i64 x.f2] := ⟨[.int .i64 x.f0], [.int .i64 x.f1, .int .i64 x.f2], rfl, rfl, ⟨[.int .i64 x.f1], [.int .i64 x.f2], rfl, rfl, rfl⟩⟩
structure HK where
 c : Cf
 t : List S45
 At : Option Addr
 ct : Nat
 wn : Int
 d : Int
 wb : World
 w0 : World
structure Hd where
 pc : Int
 st : List S116
 f : S66
 sp : Int
 lk : Int
 m : List Int
 ev : List S40
abbrev handO (k : HK) (x : Hd) (v1 vm ve : Value) : Obj := .cells #[.int .i64 x.pc, v1, .int .i64 x.f.f0, .int .i64 x.f.f1, .int .i64 x.f.f2, .int .u64 x.f.f3, .int .u64 x.f.f4, .int .u64 x.f.f5, .int .i64 x.f.f6, .int .i64 x.sp, .int .i64 x.lk, .int .i64 k.c.w, .int .i64 k.c.d, .int .i64 k.c.i, .int .i64 k.c.s, (.slice k.At k.t.length k.ct), vm, .int .i64 k.wn, .int .u64 k.d, ve] 135 (0, 0)
structure HSt (k : HK) (W0 : World) (ve0 : Value) (g : Nat) (x : Hd) (v1 vm ve : Value) (W : World) : Prop where
 sz : W0.heap.size ≤ W.heap.size
 kb : ∀ i, i < W0.heap.size → i ≠ g → some i ≠ ve0.ownBlock → W.heap[i]? = W0.heap[i]?
 evn : ve.ownBlock = ve0.ownBlock ∨ ∀ b, ve.ownBlock = some b → W0.heap.size ≤ b
 gb : k.w0.grownBy W (some g)
 le : k.wb.heap.size ≤ k.w0.heap.size
 lt : g < k.w0.heap.size
 bel : Below k.wb.heap.size k.wb W
 ge : k.wb.heap.size ≤ g
 hb : W.heap[g]? = some (handO k x v1 vm ve)
 rs : k116.R 116 W k.wb.heap.size (fun _ => True) v1 x.st
 rm : (Kd.int .u64).R 38 W k.wb.heap.size (fun _ => True) vm x.m
 re : k40.R 40 W k.w0.heap.size (fun _ => True) ve x.ev
theorem handCells {k : HK} {x : Hd} {v1 vm ve : Value} {W : World} {g : Nat} (h : W.heap[g]? = some (handO k x v1 vm ve)) : W.cell? ⟨g, 0, none⟩ = some (.int .i64 x.pc) ∧ W.cell? ⟨g, 1, none⟩ = some (v1) ∧ W.cell? ⟨g, 2, none⟩ = some (.int .i64 x.f.f0) ∧ W.cell? ⟨g, 3, none⟩ = some (.int .i64 x.f.f1) ∧ W.cell? ⟨g, 4, none⟩ = some (.int .i64 x.f.f2) ∧ W.cell? ⟨g, 5, none⟩ = some (.int .u64 x.f.f3) ∧ W.cell? ⟨g, 6, none⟩ = some (.int .u64 x.f.f4) ∧ W.cell? ⟨g, 7, none⟩ = some (.int .u64 x.f.f5) ∧ W.cell? ⟨g, 8, none⟩ = some (.int .i64 x.f.f6) ∧ W.cell? ⟨g, 9, none⟩ = some (.int .i64 x.sp) ∧ W.cell? ⟨g, 10, none⟩ = some (.int .i64 x.lk) ∧ W.cell? ⟨g, 11, none⟩ = some (.int .i64 k.c.w) ∧ W.cell? ⟨g, 12, none⟩ = some (.int .i64 k.c.d) ∧ W.cell? ⟨g, 13, none⟩ = some (.int .i64 k.c.i) ∧ W.cell? ⟨g, 14, none⟩ = some (.int .i64 k.c.s) ∧ W.cell? ⟨g, 15, none⟩ = some ((.slice k.At k.t.length k.ct)) ∧ W.cell? ⟨g, 16, none⟩ = some (vm) ∧ W.cell? ⟨g, 17, none⟩ = some (.int .i64 k.wn) ∧ W.cell? ⟨g, 18, none⟩ = some (.int .u64 k.d) ∧ W.cell? ⟨g, 19, none⟩ = some (ve) :=
 ⟨(blk_cell h 0).trans rfl, (blk_cell h 1).trans rfl, (blk_cell h 2).trans rfl, (blk_cell h 3).trans rfl, (blk_cell h 4).trans rfl, (blk_cell h 5).trans rfl, (blk_cell h 6).trans rfl, (blk_cell h 7).trans rfl, (blk_cell h 8).trans rfl, (blk_cell h 9).trans rfl, (blk_cell h 10).trans rfl, (blk_cell h 11).trans rfl, (blk_cell h 12).trans rfl, (blk_cell h 13).trans rfl, (blk_cell h 14).trans rfl, (blk_cell h 15).trans rfl, (blk_cell h 16).trans rfl, (blk_cell h 17).trans rfl, (blk_cell h 18).trans rfl, (blk_cell h 19).trans rfl⟩
namespace HSt
variable {k : HK} {W0 W W1 : World} {ve0 : Value} {g : Nat} {x : Hd} {v1 vm ve : Value}
theorem frozen (h : HSt k W0 ve0 g x v1 vm ve W) (i : Nat) : W.frozen? ⟨g, i, none⟩ = false := blk_frozen h.hb i
theorem drew (h : HSt k W0 ve0 g x v1 vm ve W) : HSt k W0 ve0 g x v1 vm ve W.drew := ⟨h.sz, h.kb, h.evn, gb_drew h.gb, h.le, h.lt, below_drew h.bel, h.ge, h.hb, Kd.R_drew h.rs, Kd.R_drew h.rm, Kd.R_drew h.re⟩
theorem below (h : HSt k W0 ve0 g x v1 vm ve W) (hb : Below W.heap.size W W1) : HSt k W0 ve0 g x v1 vm ve W1 := ⟨Nat.le_trans h.sz hb.size, fun i hi h1 h2 => (hb.block i (Nat.lt_of_lt_of_le hi h.sz)).trans (h.kb i hi h1 h2), h.evn, gb_below h.gb hb, h.le, h.lt, below_then h.bel h.bel.size hb, h.ge, blk_below h.hb hb, Kd.R_below h.rs hb, Kd.R_below h.rm hb, Kd.R_below h.re hb⟩
theorem appE (h : HSt k W0 ve0 g x v1 vm ve W) {v' : Value} {e' : List S40} (r : k40.R 40 W1 k.w0.heap.size (fun _ => True) v' e') (hb : Below k.w0.heap.size W W1) (hg : W.grownBy W1 ve.ownBlock) (hat : v'.ownBlock = ve.ownBlock ∨ ∃ b, v'.ownBlock = some b ∧ W.heap.size ≤ b) : HSt k W0 ve0 g { x with ev := e' } v1 vm v' (W1.setCell ⟨g, 19, none⟩ v') :=
 have hl := h.lt
 have h1 : W1.heap[g]? = some (handO k x v1 vm ve) := (hb.block g hl).trans h.hb
 ⟨by simpa using Nat.le_trans h.sz hb.size, fun j hj h1 h2 => (Below.heap_setCell _ _ _ _ h1).trans ((hg.block j (Nat.lt_of_lt_of_le hj h.sz) (fun e => by
   rcases h.evn with e1 | e1
   ·exact h2 (by rw [← e1]; exact e.symm ▸ rfl)
   ·have := e1 j e.symm; omega)).trans (h.kb j hj h1 h2)), by
   rcases hat with e1 | ⟨b, e1, e2⟩
   ·rcases h.evn with e3 | e3
    ·exact .inl (e1.trans e3)
    ·exact .inr (fun b hb' => e3 b (e1 ▸ hb'))
   ·exact .inr (fun b' hb' => by rw [e1] at hb'; cases hb'; exact Nat.le_trans h.sz e2),
  gb_set ⟨hb.os.trans h.gb.os, hb.tape.trans h.gb.tape, hb.output.trans h.gb.output, Nat.le_trans h.gb.size hb.size, fun i hi hr => (hb.block i hi).trans (h.gb.block i hi hr)⟩ _ _, h.le, h.lt, (h.bel.trans (hb.mono h.le)).setCell (p := ⟨g, 19, none⟩) h.ge v', h.ge, by simpa using blk_set h1 19 v',
  Kd.R_set (Kd.R_over h.rs h.re (fun q hq => by rcases List.mem_cons.1 hq with rfl | hq; decide; cases hq) hg) h1 (fun q hq => by rcases List.mem_cons.1 hq with rfl | hq; decide; cases hq) 19 v',
  Kd.R_set (Kd.R_over h.rm h.re (fun q hq => by rcases List.mem_cons.1 hq with rfl | hq; decide; cases hq) hg) h1 (fun q hq => by rcases List.mem_cons.1 hq with rfl | hq; decide; cases hq) 19 v',
  Kd.R_set r h1 (fun q hq => by rcases List.mem_cons.1 hq with rfl | hq; decide; cases hq) 19 v'⟩
theorem self (h : HSt k W0 ve0 g x v1 vm ve W) : HSt k W ve g x v1 vm ve W := ⟨Nat.le_refl _, fun _ _ _ _ => rfl, .inl rfl, h.gb, h.le, h.lt, h.bel, h.ge, h.hb, h.rs, h.rm, h.re⟩
theorem tr (h : HSt k W0 ve0 g x v1 vm ve W) {x' : Hd} {v1' vm' ve' : Value} (h' : HSt k W ve g x' v1' vm' ve' W1) : HSt k W0 ve0 g x' v1' vm' ve' W1 :=
 ⟨Nat.le_trans h.sz h'.sz, fun i hi h1 h2 => (h'.kb i (Nat.lt_of_lt_of_le hi h.sz) h1 (fun e => by
   rcases h.evn with e1 | e1
   ·exact h2 (e.trans e1)
   ·have := e1 i e.symm; omega)).trans (h.kb i hi h1 h2), by
   rcases h'.evn with e1 | e1
   ·rcases h.evn with e3 | e3
    ·exact .inl (e1.trans e3)
    ·exact .inr (fun b hb' => e3 b (e1 ▸ hb'))
   ·exact .inr (fun b' hb' => Nat.le_trans h.sz (e1 b' hb')), h'.gb, h'.le, h'.lt, h'.bel, h'.ge, h'.hb, h'.rs, h'.rm, h'.re⟩
theorem blk (h : HSt k W0 ve0 g x v1 vm ve W) {b t : Nat} {cs : Array Value} (hb : W0.heap[b]? = some (.cells cs t (0, 0))) (hg : b ≠ g) (he : some b ≠ ve0.ownBlock) : W.heap[b]? = some (.cells cs t (0, 0)) := (h.kb b (blk_lt hb) hg he).trans hb
theorem put (h : HSt k W0 ve0 g x v1 vm ve W) (i : Nat) (u : Value) {x' : Hd} {v1' vm' ve' : Value} (hb : (W.setCell ⟨g, i, none⟩ u).heap[g]? = some (handO k x' v1' vm' ve')) (rs : k116.R 116 W k.wb.heap.size (fun _ => True) v1' x'.st) (rm : (Kd.int .u64).R 38 W k.wb.heap.size (fun _ => True) vm' x'.m) (re : k40.R 40 W k.w0.heap.size (fun _ => True) ve' x'.ev) (he : ve'.ownBlock = ve0.ownBlock ∨ ∀ b, ve'.ownBlock = some b → W0.heap.size ≤ b) : HSt k W0 ve0 g x' v1' vm' ve' (W.setCell ⟨g, i, none⟩ u) :=
 ⟨by simpa using h.sz, fun j hj h1 h2 => (Below.heap_setCell _ _ _ _ h1).trans (h.kb j hj h1 h2), he, gb_set h.gb _ _, h.le, h.lt, h.bel.setCell (p := ⟨g, i, none⟩) h.ge u, h.ge, hb, Kd.R_set rs h.hb (fun q hq => by rcases List.mem_cons.1 hq with rfl | hq; decide; cases hq) i u, Kd.R_set rm h.hb (fun q hq => by rcases List.mem_cons.1 hq with rfl | hq; decide; cases hq) i u, Kd.R_set re h.hb (fun q hq => by rcases List.mem_cons.1 hq with rfl | hq; decide; cases hq) i u⟩
theorem set0 (h : HSt k W0 ve0 g x v1 vm ve W) (y : Int) : HSt k W0 ve0 g { x with pc := y } v1 vm ve (W.setCell ⟨g, 0, none⟩ (.int .i64 y)) := h.put 0 _ (by simpa using blk_set h.hb 0 (.int .i64 y)) h.rs h.rm h.re h.evn
theorem set2 (h : HSt k W0 ve0 g x v1 vm ve W) (y : Int) : HSt k W0 ve0 g { x with f := { x.f with f0 := y } } v1 vm ve (W.setCell ⟨g, 2, none⟩ (.int .i64 y)) := h.put 2 _ (by simpa using blk_set h.hb 2 (.int .i64 y)) h.rs h.rm h.re h.evn
theorem set3 (h : HSt k W0 ve0 g x v1 vm ve W) (y : Int) : HSt k W0 ve0 g { x with f := { x.f with f1 := y } } v1 vm ve (W.setCell ⟨g, 3, none⟩ (.int .i64 y)) := h.put 3 _ (by simpa using blk_set h.hb 3 (.int .i64 y)) h.rs h.rm h.re h.evn
theorem set4 (h : HSt k W0 ve0 g x v1 vm ve W) (y : Int) : HSt k W0 ve0 g { x with f := { x.f with f2 := y } } v1 vm ve (W.setCell ⟨g, 4, none⟩ (.int .i64 y)) := h.put 4 _ (by simpa using blk_set h.hb 4 (.int .i64 y)) h.rs h.rm h.re h.evn
theorem set5 (h : HSt k W0 ve0 g x v1 vm ve W) (y : Int) : HSt k W0 ve0 g { x with f := { x.f with f3 := y } } v1 vm ve (W.setCell ⟨g, 5, none⟩ (.int .u64 y)) := h.put 5 _ (by simpa using blk_set h.hb 5 (.int .u64 y)) h.rs h.rm h.re h.evn
theorem set6 (h : HSt k W0 ve0 g x v1 vm ve W) (y : Int) : HSt k W0 ve0 g { x with f := { x.f with f4 := y } } v1 vm ve (W.setCell ⟨g, 6, none⟩ (.int .u64 y)) := h.put 6 _ (by simpa using blk_set h.hb 6 (.int .u64 y)) h.rs h.rm h.re h.evn
theorem set7 (h : HSt k W0 ve0 g x v1 vm ve W) (y : Int) : HSt k W0 ve0 g { x with f := { x.f with f5 := y } } v1 vm ve (W.setCell ⟨g, 7, none⟩ (.int .u64 y)) := h.put 7 _ (by simpa using blk_set h.hb 7 (.int .u64 y)) h.rs h.rm h.re h.evn
theorem set8 (h : HSt k W0 ve0 g x v1 vm ve W) (y : Int) : HSt k W0 ve0 g { x with f := { x.f with f6 := y } } v1 vm ve (W.setCell ⟨g, 8, none⟩ (.int .i64 y)) := h.put 8 _ (by simpa using blk_set h.hb 8 (.int .i64 y)) h.rs h.rm h.re h.evn
theorem set9 (h : HSt k W0 ve0 g x v1 vm ve W) (y : Int) : HSt k W0 ve0 g { x with sp := y } v1 vm ve (W.setCell ⟨g, 9, none⟩ (.int .i64 y)) := h.put 9 _ (by simpa using blk_set h.hb 9 (.int .i64 y)) h.rs h.rm h.re h.evn
theorem set10 (h : HSt k W0 ve0 g x v1 vm ve W) (y : Int) : HSt k W0 ve0 g { x with lk := y } v1 vm ve (W.setCell ⟨g, 10, none⟩ (.int .i64 y)) := h.put 10 _ (by simpa using blk_set h.hb 10 (.int .i64 y)) h.rs h.rm h.re h.evn
theorem setF (h : HSt k W0 ve0 g x v1 vm ve W) (f : S66) : HSt k W0 ve0 g { x with f := f } v1 vm ve (((((((W.setCell ⟨g, 2, none⟩ (.int .i64 f.f0)).setCell ⟨g, 3, none⟩ (.int .i64 f.f1)).setCell ⟨g, 4, none⟩ (.int .i64 f.f2)).setCell ⟨g, 5, none⟩ (.int .u64 f.f3)).setCell ⟨g, 6, none⟩ (.int .u64 f.f4)).setCell ⟨g, 7, none⟩ (.int .u64 f.f5)).setCell ⟨g, 8, none⟩ (.int .i64 f.f6)) :=
 ((((((h.set2 f.f0).set3 f.f1).set4 f.f2).set5 f.f3).set6 f.f4).set7 f.f5).set8 f.f6
theorem setM (h : HSt k W0 ve0 g x v1 vm ve W) {v' : Value} {m' : List Int} (r : (Kd.int .u64).R 38 W k.wb.heap.size (fun _ => True) v' m') : HSt k W0 ve0 g { x with m := m' } v1 v' ve (W.setCell ⟨g, 16, none⟩ v') := h.put 16 _ (by simpa using blk_set h.hb 16 v') h.rs r h.re h.evn
theorem setS (h : HSt k W0 ve0 g x v1 vm ve W) {v' : Value} {s' : List S116} (r : k116.R 116 W k.wb.heap.size (fun _ => True) v' s') : HSt k W0 ve0 g { x with st := s' } v' vm ve (W.setCell ⟨g, 1, none⟩ v') := h.put 1 _ (by simpa using blk_set h.hb 1 v') r h.rm h.re h.evn
end HSt
abbrev HDoes (fid : Nat) (args : List Value) (k : HK) (x x' : Hd) : Prop :=
 ∀ (W : World) (g : Nat) (v1 vm ve : Value), HSt k W ve g x v1 vm ve W → Calls Tryz.prog fid (Value.pointer (some ⟨g, 0, none⟩) :: args).toArray W fun e W' => (∃ u, e = .returned u) ∧ ∃ v1' vm' ve', HSt k W ve g x' v1' vm' ve' W'
theorem hand_to (k : HK) (x : Hd) (p : Int) : HDoes 108 [.int .i64 p] k x ({ x with pc := p, f := ⟨0, 0, 0, 0, 0, 0, 0⟩ }) := by
 intro W g v1 vm ve h
 obtain ⟨A1, c1, rfl⟩ := Kd.R_slice h.rs
 obtain ⟨Am, cm, rfl⟩ := Kd.R_slice h.rm
 obtain ⟨Ae, ce, rfl⟩ := Kd.R_slice h.re
 have HS0 := qQ h
 clear h
 show Calls Tryz.prog 108 #[.pointer (some ⟨g, 0, none⟩), .int .i64 p] W _
 go_enter Tryz.func108, Tryz.ntmps108
 have h0 := handCells HS0.o.hb; have hz := HSt.frozen HS0.o
 go_wp2
 go_end0
 exact ⟨⟨_, rfl⟩, _, _, _, (HS0.o.set0 p).setF ⟨0, 0, 0, 0, 0, 0, 0⟩⟩
theorem hand_with (k : HK) (x : Hd) (p op who val : Int) : HDoes 111 [.int .i64 p, .int .i64 op, .int .i64 who, .int .u64 val] k x ({ x with pc := p, f := ⟨op, 0, who, val, 0, 0, 0⟩ }) := by
 intro W g v1 vm ve h
 obtain ⟨A1, c1, rfl⟩ := Kd.R_slice h.rs
 obtain ⟨Am, cm, rfl⟩ := Kd.R_slice h.rm
 obtain ⟨Ae, ce, rfl⟩ := Kd.R_slice h.re
 have HS0 := qQ h
 clear h
 show Calls Tryz.prog 111 #[.pointer (some ⟨g, 0, none⟩), .int .i64 p, .int .i64 op, .int .i64 who, .int .u64 val] W _
 go_enter Tryz.func111, Tryz.ntmps111
 have h0 := handCells HS0.o.hb; have hz := HSt.frozen HS0.o
 go_wp2_with (go_at_call 53; with_reducible refine (frame_Begin.calls op who val _ _ _ _ _ _ _ _ rfl).mono ?_; rintro e w1 ⟨rfl, hd⟩; have HS1 := qQ (HS0.o.below hd); clear hd; clear h0 hz; have h0 := handCells HS1.o.hb; have hz := HSt.frozen HS1.o)
 go_end0
 exact ⟨⟨_, rfl⟩, _, _, _, (HS1.o.set0 p).setF ⟨op, 0, who, val, 0, 0, 0⟩⟩
theorem hand_add (k : HK) (x : Hd) (i b r : Int) (m' : List Int) (hn : x.m.length ≤ 1000000) (hq : addF x.m i b = (m', r)) : ∀ (W : World) (g : Nat) (v1 vm ve : Value), HSt k W ve g x v1 vm ve W → Calls Tryz.prog 110 #[.pointer (some ⟨g, 0, none⟩), .int .i64 i, .int .u64 b] W fun e W' => e = .returned (.int .u64 r) ∧ ∃ v1' vm' ve', HSt k W ve g ({ x with m := m' }) v1' vm' ve' W' := by
 intro W g v1 vm ve h
 obtain ⟨A1, c1, rfl⟩ := Kd.R_slice h.rs
 obtain ⟨Am, cm, rfl⟩ := Kd.R_slice h.rm
 obtain ⟨Ae, ce, rfl⟩ := Kd.R_slice h.re
 have HS0 := qQ h
 have HHN := qQ hn
 have HHQ := qQ hq
 clear h hn hq
 show Calls Tryz.prog 110 #[.pointer (some ⟨g, 0, none⟩), .int .i64 i, .int .u64 b] W _
 go_enter Tryz.func110, Tryz.ntmps110
 have h0 := handCells HS0.o.hb; have hz := HSt.frozen HS0.o
 have ADD := add99 Am cm x.m i b W (Kd.R_reads' HS0.o.rm).2.2 (Kd.R_reads' HS0.o.rm).2.1 HHN.o
 rw [HHQ.o] at ADD
 have HADD := qQ ADD
 clear ADD
 go_wp2_with (go_at_call 99; with_reducible refine HADD.o.mono ?_; rintro e w1 ⟨u, rfl, hr, hd⟩; obtain ⟨A5, c5, eo⟩ := Kd.R_slice hr; subst eo; have HS1 := qQ (HS0.o.below hd); have HM1 := qQ (Kd.R_lower hr HS0.o.bel.size); clear hd hr; clear h0 hz; have h0 := handCells HS1.o.hb; have hz := HSt.frozen HS1.o)
 go_ret
 exact ⟨rfl, _, _, _, HS1.o.setM HM1.o⟩
theorem ev_info : (Tryz.prog.info? 40).map (fun i => (i.zero, i.size, i.bytes)) = some (some (.agg #[.int .i64 0, .int .i64 0, .int .i64 0]), k40.sz, 24) := by kernel_rfl
theorem hand_tell (k : HK) (x : Hd) (kd ts : Int) (hn : x.ev.length ≤ 1000000) : HDoes 118 [.int .i64 kd, .int .i64 ts] k x ({ x with ev := x.ev ++ [⟨kd, ts, k.wn⟩] }) := by
 intro W g v1 vm ve h
 obtain ⟨A1, c1, rfl⟩ := Kd.R_slice h.rs
 obtain ⟨Am, cm, rfl⟩ := Kd.R_slice h.rm
 obtain ⟨Ae, ce, rfl⟩ := Kd.R_slice h.re
 have HS0 := qQ h
 have HHN := qQ hn
 clear h hn
 show Calls Tryz.prog 118 #[.pointer (some ⟨g, 0, none⟩), .int .i64 kd, .int .i64 ts] W _
 go_enter Tryz.func118, Tryz.ntmps118
 have h0 := handCells HS0.o.hb; have hz := HSt.frozen HS0.o
 go_wp2
 refine zS 17 [16] (fun W' => W'.heap[g]? = some (handO k x (.slice A1 x.st.length c1) (.slice Am x.m.length cm) (.slice Ae x.ev.length ce))) HS0.o.drew.hb fun hHeld => ?_
 refine zY 0 1 6 ?_
 refine zY 1 3 7 ?_
 refine zY 2 7 8 ?_
 refine zY 3 15 9 ?_
 refine zT 4 31 10 ?_ (hy := zy5)
 refine zY 5 63 11 ?_
 refine zY 6 127 12 ?_
 refine zY 7 255 13 ?_
 refine zY 8 511 14 ?_
 refine zY 9 1023 15 ?_
 refine zT 10 2047 16 ?_ (hy := zy5)
 refine zY 11 4095 17 ?_
 refine zO 12 8191 18 fun K hK => ?_
 go_simp
 refine hK.out _ _ (blk_alloc HS0.o.drew.hb _) (fun hHeld => ?_)
 refine zO 13 16383 19 fun K hK => ?_
 refine Kd.R_append_step k40 (w0 := W.drew) (W := W.drew) k.w0.heap.size (by rfl) (.tmp 10) (.tmp 18) 35 40 (.agg #[.int .i64 0, .int .i64 0, .int .i64 0]) 24 rfl Tryz.underlying35 ev_info rfl (by decide) (by decide) (.slice Ae x.ev.length ce) x.ev ⟨kd, ts, k.wn⟩ [.int .i64 kd, .int .i64 ts, .int .i64 k.wn] (fun _ => True) (fun _ => False) (by rfl) (by rfl) (k40_mkM _ _ _ ⟨kd, ts, k.wn⟩) (fun _ h => h.elim) (fun _ _ => trivial) HS0.o.drew.re (Below.refl _ _) HS0.o.drew.gb.size (by have := HHN.o; omega) ?_
 intro ve' w1 hr hb hg hat
 obtain ⟨A5, c5, eo⟩ := Kd.R_slice hr
 subst eo
 have hl : (x.ev ++ [(⟨kd, ts, k.wn⟩ : S40)]).length = x.ev.length + 1 := by simp
 have hs1 := HS0.o.drew.appE hr hb hg hat
 rw [hl] at hs1
 have HS1 := qQ hs1
 clear hs1 hl
 have hk1 : w1.heap[g]? = some (handO k x (.slice A1 x.st.length c1) (.slice Am x.m.length cm) (.slice Ae x.ev.length ce)) := (hb.block g HS0.o.lt).trans HS0.o.hb
 refine hK.out _ _ hk1 (fun hHeld => ?_)
 clear hr hb hg hat
 refine zY 14 32767 20 ?_
 refine zY 15 65535 21 ?_
 refine zL 16 131071 fun K hK => ?_
 clear h0 hz
 have h0 := handCells hk1
 have hz := fun i => blk_frozen hk1 i
 go_simp
 refine hK.out _ _ ?_
 refine zD ?_
 go_end0
 exact ⟨⟨_, rfl⟩, _, _, _, HS1.o⟩
end Go.Proofs.YthoeodjgfelkhaaGreat.QT
