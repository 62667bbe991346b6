/- Part 25 of the claim on TopWakes: submit.Step. No condition. -/
import Derived.Test.YthoeodjgfelkhaaGreatm23
set_option linter.unusedVariables false
set_option linter.unusedSimpArgs false
set_option maxRecDepth 100000
set_option maxHeartbeats 8000000
namespace Go.Proofs.YthoeodjgfelkhaaGreat.QT
open Go.RowKit Go.Proofs.YthoeodjgfelkhaaGreatW.PrintWords Go.Proofs.YthoeodjgfelkhaaGreatW.PrintLast Go.Proofs.YthoeodjgfelkhaaGreatW.PrintMore
attribute [local go_sem] max2_int min2_int max_two min_two
section
structure BX (w : World) (bs : List (Nat × Array Value × Nat)) (W : World) : Prop where
 bel : Below w.heap.size w W
 bx : ∀ q, q ∈ bs → W.heap[q.1]? = some (.cells q.2.1 q.2.2 (0, 0)) ∧ w.heap.size ≤ q.1
section
variable {w : World} {bs : List (Nat × Array Value × Nat)} {W W1 : World}
theorem BX.below (h : BX w bs W) (hb : Below W.heap.size W W1) : BX w bs W1 := ⟨below_then h.bel h.bel.size hb, fun q hq => ⟨blk_below (h.bx q hq).1 hb, (h.bx q hq).2⟩⟩
theorem BX.drew (h : BX w bs W) : BX w bs W.drew := h.below (below_drew (Below.refl _ _))
theorem BX.nil (w : World) : BX w [] w := ⟨Below.refl _ _, fun q hq => by cases hq⟩
theorem BX.add (h : BX w bs W) (cs : Array Value) (t : Nat) : BX w ((W.heap.size, cs, t) :: bs) (W.alloc (.cells cs t)) :=
 ⟨below_alloc h.bel _, fun q hq => by
  rcases List.mem_cons.1 hq with rfl | hq
  ·exact ⟨blk_new _ _, h.bel.size⟩
  ·exact ⟨blk_alloc (h.bx q hq).1 _, (h.bx q hq).2⟩⟩
theorem BX.cell (h : BX w bs W) {b t : Nat} {cs : Array Value} (hm : (b, cs, t) ∈ bs) (i : Nat) : W.cell? ⟨b, i, none⟩ = cs[i]? := blk_cell (h.bx _ hm).1 i
theorem BX.four (w : World) (a b c d : Array Value) (ta tb tc td : Nat) : BX w [(w.heap.size + 1 + 1 + 1, d, td), (w.heap.size + 1 + 1, c, tc), (w.heap.size + 1, b, tb), (w.heap.size, a, ta)] ((((w.alloc (.cells a ta)).alloc (.cells b tb)).alloc (.cells c tc)).alloc (.cells d td)) := by
 have h := ((((BX.nil w).add a ta).add b tb).add c tc).add d td
 simp only [World.size_alloc] at h
 exact h
end
abbrev w9 (W : World) (g : Nat) (pc : Int) (vr : Value) (f : S66) : World := (((((((((W.setCell ⟨g, 0, none⟩ (.int .i64 pc)).setCell ⟨g, 1, none⟩ vr).setCell ⟨g, 2, none⟩ (.int .i64 f.f0)).setCell ⟨g, 3, none⟩ (.int .i64 f.f1)).setCell ⟨g, 4, none⟩ (.int .i64 f.f2)).setCell ⟨g, 5, none⟩ (.int .u64 f.f3)).setCell ⟨g, 6, none⟩ (.int .u64 f.f4)).setCell ⟨g, 7, none⟩ (.int .u64 f.f5)).setCell ⟨g, 8, none⟩ (.int .i64 f.f6))
theorem nine {W : World} {g : Nat} (hz : W.heap[g]? = some (.cells #[.int .i64 0, .slice none 0 0, .int .i64 0, .int .i64 0, .int .i64 0, .int .u64 0, .int .u64 0, .int .u64 0, .int .i64 0] 68 (0, 0))) (pc : Int) (vr : Value) (f : S66) :
  (w9 W g pc vr f).heap[g]? = some (.cells (subZ pc vr f) 68 (0, 0)) ∧ (∀ b, b ≠ g → (w9 W g pc vr f).heap[b]? = W.heap[b]?) ∧ ∀ (N : Nat) (w : World), Below N w W → N ≤ g → Below N w (w9 W g pc vr f) := by
 refine ⟨by simpa using blk_set (blk_set (blk_set (blk_set (blk_set (blk_set (blk_set (blk_set (blk_set hz 0 (.int .i64 pc)) 1 vr) 2 (.int .i64 f.f0)) 3 (.int .i64 f.f1)) 4 (.int .i64 f.f2)) 5 (.int .u64 f.f3)) 6 (.int .u64 f.f4)) 7 (.int .u64 f.f5)) 8 (.int .i64 f.f6), fun b hb => ?_, fun N w h hN => ?_⟩
 ·have far : ∀ (V : World) (i : Nat) (u : Value), (V.setCell ⟨g, i, none⟩ u).heap[b]? = V.heap[b]? := fun V i u => Below.heap_setCell V _ u b hb
  simp only [w9, far]
 ·have st : ∀ (V : World) (i : Nat) (u : Value), Below N w V → Below N w (V.setCell ⟨g, i, none⟩ u) := fun V i u hV => hV.setCell (p := ⟨g, i, none⟩) hN u
  exact st _ _ _ (st _ _ _ (st _ _ _ (st _ _ _ (st _ _ _ (st _ _ _ (st _ _ _ (st _ _ _ (st _ _ _ h))))))))
theorem R_but {α : Type} {d : Kd α} {e base g t : Nat} {ok : Nat → Prop} {v : Value} {xs : List α} {W W1 : World} {z : Array Value} (h : d.R e W base ok v xs) (hz : W.heap[g]? = some (.cells z t (0, 0))) (ht : ∀ q, q ∈ e :: d.E → q ≠ t) (hf : ∀ b, b ≠ g → W1.heap[b]? = W.heap[b]?) : d.R e W1 base ok v xs :=
 Kd.R_mono (Kd.R_step (Kd.R_types h hz ht) (fun k hk _ => hf k hk.2)) (fun _ hk => hk.1)
theorem US.next {w : World} {ob sb eb : Nat} {cb : List (Nat × Array Value × Nat)} {z : Array Value} {vm : Value} {m : List Int} {vf : Value} {rf : List Int} {ve : Value} {ev : List S40} {W W1 : World} (h : US w ob sb eb cb z vm m vf rf ve ev W) {g t : Nat} {cs : Array Value} (hg : g = W.heap.size) (hb : Below W.heap.size W W1) (hf : W1.heap[g]? = some (.cells cs t (0, 0))) (ht : t ≠ 40) : US w ob sb eb ((g, cs, t) :: cb) z vm m vf rf ve ev W1 := by
 have h1 := h.below hb
 subst hg
 refine ⟨h1.bel, h1.lo, h1.ho, h1.hs, h1.he, h1.rm, h1.rr, h1.re, fun q hq => ?_⟩
 rcases List.mem_cons.1 hq with rfl | hq
 ·exact ⟨hf, Nat.ne_of_gt (blk_lt h.ho), Nat.ne_of_gt (blk_lt h.hs), Nat.ne_of_gt (blk_lt h.he), ht⟩
 ·exact h1.cb q hq
theorem US.make {w : World} {ob sb eb : Nat} {bs : List (Nat × Array Value × Nat)} {z : Array Value} {vm : Value} {m : List Int} {vf : Value} {rf : List Int} {W W1 : World} (h : BX w ((ob, #[vm], 30) :: bs) W) (hz : W.heap[sb]? = some (.cells z 68 (0, 0))) (rm : (Kd.int .u64).R 38 W w.heap.size (fun _ => True) vm m) (rr : (Kd.int .i64).R 3 W w.heap.size (fun _ => True) vf rf) (hl : ob < sb) (hbs : ∀ q, q ∈ bs → q.1 < ob ∧ q.2.2 ≠ 40) (hg : eb = W.heap.size) (hb : Below W.heap.size W W1) (he : W1.heap[eb]? = some (.cells #[.slice none 0 0] 35 (0, 0))) : US w ob sb eb bs z vm m vf rf (.slice none 0 0) [] W1 := by
 have ho := h.bx _ (List.mem_cons_self ..)
 have l1 := blk_lt ho.1
 have l2 := blk_lt hz
 have l3 := h.bel.size
 have l4 := ho.2
 dsimp only at l1 l4
 refine ⟨below_then h.bel h.bel.size hb, ⟨by omega, by omega, by omega, by omega, by omega, by omega⟩, blk_below ho.1 hb, blk_below hz hb, he, Kd.R_below rm hb, Kd.R_below rr hb, Kd.R_nil _ _ _ _ _, fun q hq => ?_⟩
 have h1 := h.bx q (List.mem_cons_of_mem _ hq)
 have h2 := hbs q hq
 exact ⟨blk_below h1.1 hb, by omega, by omega, by omega, h2.2⟩
def TB (n t : Nat) (W : World) (k : Nat) : Prop := n ≤ k ∧ ∃ cells, W.heap[k]? = some (.cells cells t (0, 0))
theorem tb3 {W : World} {base k : Nat} (h : base ≤ k ∧ k < W.heap.size ∧ ∃ q, q ∈ 3 :: (Kd.int .i64).E ∧ ∃ cells, W.heap[k]? = some (.cells cells q (0, 0))) : TB base 3 W k := by
 obtain ⟨h1, _, q, hq, cells, hc⟩ := h
 have e : q = 3 := List.mem_singleton.1 hq
 subst e
 exact ⟨h1, cells, hc⟩
theorem dropV_V {g o : Nat} {c b : Nat} {rf : List Int} {ok : Nat → Prop} {W : World} (h : Kd.V (Kd.int .i64) 3 W b ok (.slice (some ⟨g, o, none⟩) rf.length c) rf) (h1 : 1 ≤ rf.length) : Kd.V (Kd.int .i64) 3 W b ok (dropV (some ⟨g, o, none⟩) rf.length c) rf.tail := by
 obtain ⟨A', c', e, hc, hF⟩ := h
 injection e with eA _ ec
 subst eA; subst ec
 have hf := Kd.F_cut (c := c) hF h1 hc
 rw [List.drop_one] at hf
 have hl : rf.tail.length = rf.length - 1 := by simp
 unfold dropV
 by_cases h : c = 1
 ·rw [if_pos h]
  rw [if_pos h] at hf
  exact ⟨_, 0, by rw [hl], by omega, hf⟩
 ·rw [if_neg h]
  rw [if_neg h] at hf
  exact ⟨_, c - 1, by rw [hl]; rfl, by omega, hf⟩
theorem dropV_form (A : Option Addr) (n c : Nat) : ∃ A' c', dropV A n c = .slice A' (n - 1) c' := by
 unfold dropV
 split
 ·exact ⟨_, _, rfl⟩
 ·exact ⟨_, _, rfl⟩
structure Sd where
 pc : Int
 roots : List Int
 f : S66
 m : List Int
 ev : List S40
def SX (c : Cf) (i pc : Int) (rf : List Int) (f : S66) (m : List Int) (x' : Sd) : Prop :=
 (pc = 0 ∧ ((loadF m 3 = 0 ∧ x' = ⟨1, rf, f, m, []⟩) ∨ (¬ loadF m 3 = 0 ∧ x' = ⟨0, rf.tail, ⟨0, 0, 0, 0, 0, 0, 0⟩, m, [⟨1, rd rf 0, i⟩]⟩))) ∨
 (pc = 1 ∧ x' = ⟨2, rf, ⟨3, 0, i, IntKind.u64.wrap (rd rf 0), 0, 0, 0⟩, (addF m 0 1).1, []⟩) ∨
 (pc = 2 ∧ ∃ f1 m1, STEP (if f.f0 = 3 ∨ f.f0 = 4 then 95 else 94) c f m f1 m1 ∧ ((f1.f6 = 0 ∧ x' = ⟨2, rf, f1, m1, []⟩) ∨ (f1.f6 = 2 ∧ x' = ⟨5, rf, f1, m1, []⟩) ∨ (¬ f1.f6 = 0 ∧ ¬ f1.f6 = 2 ∧ x' = ⟨3, rf, f1, m1, [⟨0, rd rf 0, i⟩]⟩))) ∨
 (pc = 3 ∧ ((¬ loadF m 1 = 0 ∧ x' = ⟨0, rf.tail, ⟨0, 0, 0, 0, 0, 0, 0⟩, m, []⟩) ∨ (loadF m 1 = 0 ∧ x' = ⟨4, rf, ⟨6, 0, i, 0, 0, 0, 0⟩, m, []⟩))) ∨
 (pc = 4 ∧ ∃ f1 m1, STEP (if f.f0 = 3 ∨ f.f0 = 4 then 95 else 94) c f m f1 m1 ∧ ((f1.f6 = 0 ∧ x' = ⟨4, rf, f1, m1, []⟩) ∨ (¬ f1.f6 = 0 ∧ x' = ⟨0, rf.tail, ⟨0, 0, 0, 0, 0, 0, 0⟩, m1, []⟩))) ∨
 (pc = 5 ∧ x' = ⟨0, rf.tail, ⟨0, 0, 0, 0, 0, 0, 0⟩, (addF m 0 18446744073709551615).1, if (addF m 0 18446744073709551615).2 = 1 then [⟨1, rd rf 0, i⟩, ⟨5, 0, i⟩] else [⟨1, rd rf 0, i⟩]⟩)
theorem clone51' (A : Option Addr) (c : Nat) (l : List Int) (w : World) (hc : Kd.C (Kd.int .i64) w A l.length l) (hn : l.length ≤ 1000000) :
  Calls Tryz.prog 51 #[.slice A l.length c] w fun e w' => ∃ v, e = .returned v ∧ (Kd.int .i64).R 3 w' w.heap.size (fun _ => True) v l ∧ Below w.heap.size w w' :=
 (clone51 A c l w hc hn).mono fun _ _ ⟨v, he, hr, hb⟩ => ⟨v, he, Kd.R_imp rfl (fun _ _ _ _ _ h => h) hr, hb⟩
def RV (vf : Value) (rf : List Int) (vr : Value) (roots : List Int) : Prop := (vr = vf ∧ roots = rf) ∨ ∃ A n c, vf = .slice A n c ∧ vr = dropV A n c ∧ roots = rf.tail
theorem RV_form {A : Option Addr} {n c : Nat} {rf roots : List Int} {vr : Value} (h : RV (.slice A n c) rf vr roots) : ∃ A' n' c', vr = .slice A' n' c' := by
 rcases h with ⟨rfl, _⟩ | ⟨A', n', c', _, rfl, _⟩
 ·exact ⟨_, _, _, rfl⟩
 ·obtain ⟨a, b, e⟩ := dropV_form A' n' c'
  exact ⟨_, _, _, e⟩
theorem RV_V {g o : Nat} {c b : Nat} {rf roots : List Int} {ok : Nat → Prop} {W : World} {vr : Value} (hr : RV (.slice (some ⟨g, o, none⟩) rf.length c) rf vr roots) (h : Kd.V (Kd.int .i64) 3 W b ok (.slice (some ⟨g, o, none⟩) rf.length c) rf) (h1 : 1 ≤ rf.length) : Kd.V (Kd.int .i64) 3 W b ok vr roots := by
 rcases hr with ⟨rfl, rfl⟩ | ⟨A', n', c', e, rfl, rfl⟩
 ·exact h
 ·injection e with e1 e2 e3
  subst e1; subst e2; subst e3
  exact dropV_V h h1
theorem sub_go0 (w : World) (ob sb eb : Nat) (cb : List (Nat × Array Value × Nat)) (c : Cf) (i : Int) (rf : List Int) (f : S66) (m : List Int) (x' : Sd) (vm vf ve : Value) (gf cf xb db tb rb ib cfb : Nat) (W : World) (h : US w ob sb eb cb (subZ 0 vf f) vm m vf rf ve [] W) (hvf : vf = .slice (some ⟨gf, 0, none⟩) rf.length cf) (hrp : 0 < rf.length) (hrn : rf.length ≤ 1000000) (hmn : m.length ≤ 1000000) (hsx : SX c i 0 rf f m x') (hxb : (xb, #[.func (.func 93) #[] #[.pointer (some ⟨sb, 0, none⟩), .pointer (some ⟨cfb, 0, none⟩), .pointer (some ⟨ob, 0, none⟩)]], 27) ∈ cb) (hdb : (db, #[.func (.func 92) #[] #[.pointer (some ⟨sb, 0, none⟩)]], 1) ∈ cb) (htb : (tb, #[.func (.func 91) #[] #[.pointer (some ⟨eb, 0, none⟩), .pointer (some ⟨ib, 0, none⟩)]], 137) ∈ cb) (hrb : (rb, #[.int .i64 (rd rf 0)], 3) ∈ cb) (hib : (ib, #[.int .i64 i], 3) ∈ cb) (hcfb : (cfb, #[.int .i64 c.w, .int .i64 c.d, .int .i64 c.i, .int .i64 c.s], 23) ∈ cb) :
  Calls Tryz.prog 97 #[.pointer (some ⟨sb, 0, none⟩), .pointer (some ⟨ob, 0, none⟩), .pointer (some ⟨tb, 0, none⟩), .pointer (some ⟨rb, 0, none⟩), .pointer (some ⟨db, 0, none⟩)] W fun e W' => (∃ u, e = .returned u) ∧ ∃ vr' vm' ve', US w ob sb eb cb (subZ x'.pc vr' x'.f) vm' x'.m vf rf ve' x'.ev W' ∧ RV vf rf vr' x'.roots := by
 have hcf : rf.length ≤ cf := by
  have h2 := h.rr
  rw [hvf] at h2
  exact (Kd.R_reads' h2).2.1
 rcases hsx with ⟨_, hsx⟩ | ⟨hsx, _⟩ | ⟨hsx, _⟩ | ⟨hsx, _⟩ | ⟨hsx, _⟩ | ⟨hsx, _⟩
 ·
  rcases hsx with ⟨hc, rfl⟩ | ⟨hc, rfl⟩
  ·refine (sub_idle w ob sb eb cb 0 vf f vm m vf rf ve [] tb rb db ib i (rd rf 0) (some ⟨gf, 0, none⟩) rf.length cf W h htb hrb hdb hib hvf hrp hcf hrn (by simp)).mono ?_
   rintro e W' ⟨hu, ⟨_, hs⟩ | ⟨h9, _⟩⟩
   ·exact ⟨hu, _, _, _, hs, Or.inl ⟨rfl, rfl⟩⟩
   ·exact absurd hc h9
  ·refine (sub_idle w ob sb eb cb 0 vf f vm m vf rf ve [] tb rb db ib i (rd rf 0) (some ⟨gf, 0, none⟩) rf.length cf W h htb hrb hdb hib hvf hrp hcf hrn (by simp)).mono ?_
   rintro e W' ⟨hu, ⟨h9, _⟩ | ⟨_, ve9, hs⟩⟩
   ·exact absurd h9 hc
   ·exact ⟨hu, _, _, _, hs, Or.inr ⟨_, _, _, hvf, rfl, rfl⟩⟩
 ·exact absurd hsx (by decide)
 ·exact absurd hsx (by decide)
 ·exact absurd hsx (by decide)
 ·exact absurd hsx (by decide)
 ·exact absurd hsx (by decide)
theorem sub_go1 (w : World) (ob sb eb : Nat) (cb : List (Nat × Array Value × Nat)) (c : Cf) (i : Int) (rf : List Int) (f : S66) (m : List Int) (x' : Sd) (vm vf ve : Value) (gf cf xb db tb rb ib cfb : Nat) (W : World) (h : US w ob sb eb cb (subZ 1 vf f) vm m vf rf ve [] W) (hvf : vf = .slice (some ⟨gf, 0, none⟩) rf.length cf) (hrp : 0 < rf.length) (hrn : rf.length ≤ 1000000) (hmn : m.length ≤ 1000000) (hsx : SX c i 1 rf f m x') (hxb : (xb, #[.func (.func 93) #[] #[.pointer (some ⟨sb, 0, none⟩), .pointer (some ⟨cfb, 0, none⟩), .pointer (some ⟨ob, 0, none⟩)]], 27) ∈ cb) (hdb : (db, #[.func (.func 92) #[] #[.pointer (some ⟨sb, 0, none⟩)]], 1) ∈ cb) (htb : (tb, #[.func (.func 91) #[] #[.pointer (some ⟨eb, 0, none⟩), .pointer (some ⟨ib, 0, none⟩)]], 137) ∈ cb) (hrb : (rb, #[.int .i64 (rd rf 0)], 3) ∈ cb) (hib : (ib, #[.int .i64 i], 3) ∈ cb) (hcfb : (cfb, #[.int .i64 c.w, .int .i64 c.d, .int .i64 c.i, .int .i64 c.s], 23) ∈ cb) :
  Calls Tryz.prog 98 #[.pointer (some ⟨ob, 0, none⟩), .pointer (some ⟨ib, 0, none⟩), .pointer (some ⟨rb, 0, none⟩), .pointer (some ⟨sb, 0, none⟩)] W fun e W' => (∃ u, e = .returned u) ∧ ∃ vr' vm' ve', US w ob sb eb cb (subZ x'.pc vr' x'.f) vm' x'.m vf rf ve' x'.ev W' ∧ RV vf rf vr' x'.roots := by
 have hcf : rf.length ≤ cf := by
  have h2 := h.rr
  rw [hvf] at h2
  exact (Kd.R_reads' h2).2.1
 rcases hsx with ⟨hsx, _⟩ | ⟨_, hsx⟩ | ⟨hsx, _⟩ | ⟨hsx, _⟩ | ⟨hsx, _⟩ | ⟨hsx, _⟩
 ·exact absurd hsx (by decide)
 ·
  subst hsx
  refine (sub_pend w ob sb eb cb 1 vf f vm m vf rf ve [] ib rb i (rd rf 0) W h hib hrb hmn).mono ?_
  rintro e W' ⟨hu, vm9, hs⟩
  exact ⟨hu, _, _, _, hs, Or.inl ⟨rfl, rfl⟩⟩
 ·exact absurd hsx (by decide)
 ·exact absurd hsx (by decide)
 ·exact absurd hsx (by decide)
 ·exact absurd hsx (by decide)
theorem sub_go2 (w : World) (ob sb eb : Nat) (cb : List (Nat × Array Value × Nat)) (c : Cf) (i : Int) (rf : List Int) (f : S66) (m : List Int) (x' : Sd) (vm vf ve : Value) (gf cf xb db tb rb ib cfb : Nat) (W : World) (h : US w ob sb eb cb (subZ 2 vf f) vm m vf rf ve [] W) (hvf : vf = .slice (some ⟨gf, 0, none⟩) rf.length cf) (hrp : 0 < rf.length) (hrn : rf.length ≤ 1000000) (hmn : m.length ≤ 1000000) (hsx : SX c i 2 rf f m x') (hxb : (xb, #[.func (.func 93) #[] #[.pointer (some ⟨sb, 0, none⟩), .pointer (some ⟨cfb, 0, none⟩), .pointer (some ⟨ob, 0, none⟩)]], 27) ∈ cb) (hdb : (db, #[.func (.func 92) #[] #[.pointer (some ⟨sb, 0, none⟩)]], 1) ∈ cb) (htb : (tb, #[.func (.func 91) #[] #[.pointer (some ⟨eb, 0, none⟩), .pointer (some ⟨ib, 0, none⟩)]], 137) ∈ cb) (hrb : (rb, #[.int .i64 (rd rf 0)], 3) ∈ cb) (hib : (ib, #[.int .i64 i], 3) ∈ cb) (hcfb : (cfb, #[.int .i64 c.w, .int .i64 c.d, .int .i64 c.i, .int .i64 c.s], 23) ∈ cb) :
  Calls Tryz.prog 100 #[.pointer (some ⟨xb, 0, none⟩), .pointer (some ⟨sb, 0, none⟩), .pointer (some ⟨tb, 0, none⟩), .pointer (some ⟨rb, 0, none⟩)] W fun e W' => (∃ u, e = .returned u) ∧ ∃ vr' vm' ve', US w ob sb eb cb (subZ x'.pc vr' x'.f) vm' x'.m vf rf ve' x'.ev W' ∧ RV vf rf vr' x'.roots := by
 have hcf : rf.length ≤ cf := by
  have h2 := h.rr
  rw [hvf] at h2
  exact (Kd.R_reads' h2).2.1
 rcases hsx with ⟨hsx, _⟩ | ⟨hsx, _⟩ | ⟨_, hsx⟩ | ⟨hsx, _⟩ | ⟨hsx, _⟩ | ⟨hsx, _⟩
 ·exact absurd hsx (by decide)
 ·exact absurd hsx (by decide)
 ·
  obtain ⟨f1, m1, hst, hsx⟩ := hsx
  rcases hsx with ⟨hc, rfl⟩ | ⟨hc, rfl⟩ | ⟨hc, hc2, rfl⟩
  ·refine (sub_enq w ob sb eb cb 2 vf f vm m vf rf ve [] xb tb rb 0 ib cfb c f1 m1 i (rd rf 0) W h hxb htb hrb hcfb hib hst (by simp)).mono ?_
   rintro e W' ⟨hu, ⟨_, vm9, hs⟩ | ⟨h9, _⟩ | ⟨h9, _⟩⟩
   ·exact ⟨hu, _, _, _, hs, Or.inl ⟨rfl, rfl⟩⟩
   ·exact absurd (hc.symm.trans h9) (by decide)
   ·exact absurd hc h9
  ·refine (sub_enq w ob sb eb cb 2 vf f vm m vf rf ve [] xb tb rb 0 ib cfb c f1 m1 i (rd rf 0) W h hxb htb hrb hcfb hib hst (by simp)).mono ?_
   rintro e W' ⟨hu, ⟨h9, _⟩ | ⟨_, vm9, hs⟩ | ⟨_, h9, _⟩⟩
   ·exact absurd (hc.symm.trans h9) (by decide)
   ·exact ⟨hu, _, _, _, hs, Or.inl ⟨rfl, rfl⟩⟩
   ·exact absurd hc h9
  ·refine (sub_enq w ob sb eb cb 2 vf f vm m vf rf ve [] xb tb rb 0 ib cfb c f1 m1 i (rd rf 0) W h hxb htb hrb hcfb hib hst (by simp)).mono ?_
   rintro e W' ⟨hu, ⟨h9, _⟩ | ⟨h9, _⟩ | ⟨_, _, vm9, ve9, hs⟩⟩
   ·exact absurd h9 hc
   ·exact absurd h9 hc2
   ·exact ⟨hu, _, _, _, hs, Or.inl ⟨rfl, rfl⟩⟩
 ·exact absurd hsx (by decide)
 ·exact absurd hsx (by decide)
 ·exact absurd hsx (by decide)
theorem sub_go3 (w : World) (ob sb eb : Nat) (cb : List (Nat × Array Value × Nat)) (c : Cf) (i : Int) (rf : List Int) (f : S66) (m : List Int) (x' : Sd) (vm vf ve : Value) (gf cf xb db tb rb ib cfb : Nat) (W : World) (h : US w ob sb eb cb (subZ 3 vf f) vm m vf rf ve [] W) (hvf : vf = .slice (some ⟨gf, 0, none⟩) rf.length cf) (hrp : 0 < rf.length) (hrn : rf.length ≤ 1000000) (hmn : m.length ≤ 1000000) (hsx : SX c i 3 rf f m x') (hxb : (xb, #[.func (.func 93) #[] #[.pointer (some ⟨sb, 0, none⟩), .pointer (some ⟨cfb, 0, none⟩), .pointer (some ⟨ob, 0, none⟩)]], 27) ∈ cb) (hdb : (db, #[.func (.func 92) #[] #[.pointer (some ⟨sb, 0, none⟩)]], 1) ∈ cb) (htb : (tb, #[.func (.func 91) #[] #[.pointer (some ⟨eb, 0, none⟩), .pointer (some ⟨ib, 0, none⟩)]], 137) ∈ cb) (hrb : (rb, #[.int .i64 (rd rf 0)], 3) ∈ cb) (hib : (ib, #[.int .i64 i], 3) ∈ cb) (hcfb : (cfb, #[.int .i64 c.w, .int .i64 c.d, .int .i64 c.i, .int .i64 c.s], 23) ∈ cb) :
  Calls Tryz.prog 101 #[.pointer (some ⟨ob, 0, none⟩), .pointer (some ⟨db, 0, none⟩), .pointer (some ⟨ib, 0, none⟩), .pointer (some ⟨sb, 0, none⟩)] W fun e W' => (∃ u, e = .returned u) ∧ ∃ vr' vm' ve', US w ob sb eb cb (subZ x'.pc vr' x'.f) vm' x'.m vf rf ve' x'.ev W' ∧ RV vf rf vr' x'.roots := by
 have hcf : rf.length ≤ cf := by
  have h2 := h.rr
  rw [hvf] at h2
  exact (Kd.R_reads' h2).2.1
 rcases hsx with ⟨hsx, _⟩ | ⟨hsx, _⟩ | ⟨hsx, _⟩ | ⟨_, hsx⟩ | ⟨hsx, _⟩ | ⟨hsx, _⟩
 ·exact absurd hsx (by decide)
 ·exact absurd hsx (by decide)
 ·exact absurd hsx (by decide)
 ·
  rcases hsx with ⟨hc, rfl⟩ | ⟨hc, rfl⟩
  ·refine (sub_see w ob sb eb cb 3 vf f vm m vf rf ve [] db ib i (some ⟨gf, 0, none⟩) rf.length cf W h hdb hib hvf hrp hcf hrn).mono ?_
   rintro e W' ⟨hu, ⟨_, hs⟩ | ⟨h9, _⟩⟩
   ·exact ⟨hu, _, _, _, hs, Or.inr ⟨_, _, _, hvf, rfl, rfl⟩⟩
   ·exact absurd h9 hc
  ·refine (sub_see w ob sb eb cb 3 vf f vm m vf rf ve [] db ib i (some ⟨gf, 0, none⟩) rf.length cf W h hdb hib hvf hrp hcf hrn).mono ?_
   rintro e W' ⟨hu, ⟨h9, _⟩ | ⟨_, hs⟩⟩
   ·exact absurd hc h9
   ·exact ⟨hu, _, _, _, hs, Or.inl ⟨rfl, rfl⟩⟩
 ·exact absurd hsx (by decide)
 ·exact absurd hsx (by decide)
theorem sub_go4 (w : World) (ob sb eb : Nat) (cb : List (Nat × Array Value × Nat)) (c : Cf) (i : Int) (rf : List Int) (f : S66) (m : List Int) (x' : Sd) (vm vf ve : Value) (gf cf xb db tb rb ib cfb : Nat) (W : World) (h : US w ob sb eb cb (subZ 4 vf f) vm m vf rf ve [] W) (hvf : vf = .slice (some ⟨gf, 0, none⟩) rf.length cf) (hrp : 0 < rf.length) (hrn : rf.length ≤ 1000000) (hmn : m.length ≤ 1000000) (hsx : SX c i 4 rf f m x') (hxb : (xb, #[.func (.func 93) #[] #[.pointer (some ⟨sb, 0, none⟩), .pointer (some ⟨cfb, 0, none⟩), .pointer (some ⟨ob, 0, none⟩)]], 27) ∈ cb) (hdb : (db, #[.func (.func 92) #[] #[.pointer (some ⟨sb, 0, none⟩)]], 1) ∈ cb) (htb : (tb, #[.func (.func 91) #[] #[.pointer (some ⟨eb, 0, none⟩), .pointer (some ⟨ib, 0, none⟩)]], 137) ∈ cb) (hrb : (rb, #[.int .i64 (rd rf 0)], 3) ∈ cb) (hib : (ib, #[.int .i64 i], 3) ∈ cb) (hcfb : (cfb, #[.int .i64 c.w, .int .i64 c.d, .int .i64 c.i, .int .i64 c.s], 23) ∈ cb) :
  Calls Tryz.prog 102 #[.pointer (some ⟨xb, 0, none⟩), .pointer (some ⟨db, 0, none⟩)] W fun e W' => (∃ u, e = .returned u) ∧ ∃ vr' vm' ve', US w ob sb eb cb (subZ x'.pc vr' x'.f) vm' x'.m vf rf ve' x'.ev W' ∧ RV vf rf vr' x'.roots := by
 have hcf : rf.length ≤ cf := by
  have h2 := h.rr
  rw [hvf] at h2
  exact (Kd.R_reads' h2).2.1
 rcases hsx with ⟨hsx, _⟩ | ⟨hsx, _⟩ | ⟨hsx, _⟩ | ⟨hsx, _⟩ | ⟨_, hsx⟩ | ⟨hsx, _⟩
 ·exact absurd hsx (by decide)
 ·exact absurd hsx (by decide)
 ·exact absurd hsx (by decide)
 ·exact absurd hsx (by decide)
 ·
  obtain ⟨f1, m1, hst, hsx⟩ := hsx
  rcases hsx with ⟨hc, rfl⟩ | ⟨hc, rfl⟩
  ·refine (sub_wake w ob sb eb cb 4 vf f vm m vf rf ve [] xb db 0 cfb c f1 m1 (some ⟨gf, 0, none⟩) rf.length cf W h hxb hdb hcfb hst hvf hrp hcf hrn).mono ?_
   rintro e W' ⟨hu, ⟨_, vm9, hs⟩ | ⟨h9, _⟩⟩
   ·exact ⟨hu, _, _, _, hs, Or.inl ⟨rfl, rfl⟩⟩
   ·exact absurd hc h9
  ·refine (sub_wake w ob sb eb cb 4 vf f vm m vf rf ve [] xb db 0 cfb c f1 m1 (some ⟨gf, 0, none⟩) rf.length cf W h hxb hdb hcfb hst hvf hrp hcf hrn).mono ?_
   rintro e W' ⟨hu, ⟨h9, _⟩ | ⟨_, vm9, hs⟩⟩
   ·exact absurd h9 hc
   ·exact ⟨hu, _, _, _, hs, Or.inr ⟨_, _, _, hvf, rfl, rfl⟩⟩
 ·exact absurd hsx (by decide)
theorem sub_go5 (w : World) (ob sb eb : Nat) (cb : List (Nat × Array Value × Nat)) (c : Cf) (i : Int) (rf : List Int) (f : S66) (m : List Int) (x' : Sd) (vm vf ve : Value) (gf cf xb db tb rb ib cfb : Nat) (W : World) (h : US w ob sb eb cb (subZ 5 vf f) vm m vf rf ve [] W) (hvf : vf = .slice (some ⟨gf, 0, none⟩) rf.length cf) (hrp : 0 < rf.length) (hrn : rf.length ≤ 1000000) (hmn : m.length ≤ 1000000) (hsx : SX c i 5 rf f m x') (hxb : (xb, #[.func (.func 93) #[] #[.pointer (some ⟨sb, 0, none⟩), .pointer (some ⟨cfb, 0, none⟩), .pointer (some ⟨ob, 0, none⟩)]], 27) ∈ cb) (hdb : (db, #[.func (.func 92) #[] #[.pointer (some ⟨sb, 0, none⟩)]], 1) ∈ cb) (htb : (tb, #[.func (.func 91) #[] #[.pointer (some ⟨eb, 0, none⟩), .pointer (some ⟨ib, 0, none⟩)]], 137) ∈ cb) (hrb : (rb, #[.int .i64 (rd rf 0)], 3) ∈ cb) (hib : (ib, #[.int .i64 i], 3) ∈ cb) (hcfb : (cfb, #[.int .i64 c.w, .int .i64 c.d, .int .i64 c.i, .int .i64 c.s], 23) ∈ cb) :
  Calls Tryz.prog 103 #[.pointer (some ⟨ob, 0, none⟩), .pointer (some ⟨tb, 0, none⟩), .pointer (some ⟨rb, 0, none⟩), .pointer (some ⟨db, 0, none⟩)] W fun e W' => (∃ u, e = .returned u) ∧ ∃ vr' vm' ve', US w ob sb eb cb (subZ x'.pc vr' x'.f) vm' x'.m vf rf ve' x'.ev W' ∧ RV vf rf vr' x'.roots := by
 have hcf : rf.length ≤ cf := by
  have h2 := h.rr
  rw [hvf] at h2
  exact (Kd.R_reads' h2).2.1
 rcases hsx with ⟨hsx, _⟩ | ⟨hsx, _⟩ | ⟨hsx, _⟩ | ⟨hsx, _⟩ | ⟨hsx, _⟩ | ⟨_, hsx⟩
 ·exact absurd hsx (by decide)
 ·exact absurd hsx (by decide)
 ·exact absurd hsx (by decide)
 ·exact absurd hsx (by decide)
 ·exact absurd hsx (by decide)
 ·
  by_cases hh : (addF m 0 18446744073709551615).2 = 1
  ·rw [if_pos hh] at hsx
   subst hsx
   refine (sub_back w ob sb eb cb 5 vf f vm m vf rf ve [] tb rb db ib i (rd rf 0) [⟨1, rd rf 0, i⟩, ⟨5, 0, i⟩] (some ⟨gf, 0, none⟩) rf.length cf W h htb hrb hdb hib hvf hrp hcf hrn hmn (by simp) (by rw [if_pos hh]; rfl)).mono ?_
   rintro e W' ⟨hu, vm9, ve9, hs⟩
   exact ⟨hu, _, _, _, hs, Or.inr ⟨_, _, _, hvf, rfl, rfl⟩⟩
  ·rw [if_neg hh] at hsx
   subst hsx
   refine (sub_back w ob sb eb cb 5 vf f vm m vf rf ve [] tb rb db ib i (rd rf 0) [⟨1, rd rf 0, i⟩] (some ⟨gf, 0, none⟩) rf.length cf W h htb hrb hdb hib hvf hrp hcf hrn hmn (by simp) (by rw [if_neg hh]; rfl)).mono ?_
   rintro e W' ⟨hu, vm9, ve9, hs⟩
   exact ⟨hu, _, _, _, hs, Or.inr ⟨_, _, _, hvf, rfl, rfl⟩⟩
attribute [local go_sem] run_store_func
theorem sub_step (c : Cf) (t : List S45) (At : Option Addr) (ct : Nat) (m : List Int) (Am : Option Addr) (cm : Nat) (i pc : Int) (f : S66) (rf : List Int) (Ar : Option Addr) (cr : Nat) (b : Bool) (x' : Sd) (w : World)
  (hm : Kd.C (Kd.int .u64) w Am m.length m) (hmn : m.length ≤ 1000000) (hs : Kd.C (Kd.int .i64) w Ar rf.length rf) (hsn : rf.length ≤ 1000000)
  (hmay : ∀ W, Below w.heap.size w W → Calls Tryz.prog 62 #[cfV c, .slice At t.length ct, .slice Am m.length cm, .agg #[.int .i64 pc, .slice Ar rf.length cr, .int .i64 f.f0, .int .i64 f.f1, .int .i64 f.f2, .int .u64 f.f3, .int .u64 f.f4, .int .u64 f.f5, .int .i64 f.f6]] W fun e w' => e = .returned (.bool b) ∧ Below W.heap.size W w')
  (hx : (b = false ∧ x' = ⟨pc, rf, f, m, []⟩) ∨ (b = true ∧ 0 < rf.length ∧ SX c i pc rf f m x')) :
  Calls Tryz.prog 63 #[cfV c, .slice At t.length ct, .slice Am m.length cm, .int .i64 i, .agg #[.int .i64 pc, .slice Ar rf.length cr, .int .i64 f.f0, .int .i64 f.f1, .int .i64 f.f2, .int .u64 f.f3, .int .u64 f.f4, .int .u64 f.f5, .int .i64 f.f6]] w fun e w' => ∃ vm vr ve, e = .returned (.tuple #[vm, .agg #[.int .i64 x'.pc, vr, .int .i64 x'.f.f0, .int .i64 x'.f.f1, .int .i64 x'.f.f2, .int .u64 x'.f.f3, .int .u64 x'.f.f4, .int .u64 x'.f.f5, .int .i64 x'.f.f6], ve]) ∧ (Kd.int .u64).R 38 w' w.heap.size (fun _ => True) vm x'.m ∧ Kd.V (Kd.int .i64) 3 w' 0 (TB w.heap.size 3 w') vr x'.roots ∧ k40.R 40 w' w.heap.size (fun _ => True) ve x'.ev ∧ Below w.heap.size w w' := by
 have HB0 := qQ (BX.four w #[.int .i64 c.w, .int .i64 c.d, .int .i64 c.i, .int .i64 c.s] #[.int .i64 i] #[.int .i64 pc, .slice Ar rf.length cr, .int .i64 f.f0, .int .i64 f.f1, .int .i64 f.f2, .int .u64 f.f3, .int .u64 f.f4, .int .u64 f.f5, .int .i64 f.f6] #[.int .i64 0, .slice none 0 0, .int .i64 0, .int .i64 0, .int .i64 0, .int .u64 0, .int .u64 0, .int .u64 0, .int .i64 0] 23 3 68 68)
 have HM := qQ hm
 have HMN := qQ hmn
 have HR := qQ hs
 have HRN := qQ hsn
 have HMAY := qQ hmay
 have HX := qQ hx
 clear hm hmn hs hsn hmay hx
 go_enter Tryz.func63, Tryz.ntmps63
 go_wp2_with (first | (go_at_call 54; with_reducible refine (clone54' Am cm m _ (Kd.C_below HM.o HB0.o.bel) HMN.o).mono ?_; rintro e w1 ⟨u1, rfl, hr, hd⟩; obtain ⟨A1, c1, eo⟩ := Kd.R_slice hr; subst eo; have HB1 := qQ (HB0.o.below hd); have HR1 := qQ (Kd.R_lower hr HB0.o.bel.size); clear hr hd))
 have HB2 := qQ (HB1.o.add #[.slice A1 m.length c1] 30)
 have HR2 := qQ (Kd.R_alloc HR1.o (.cells #[.slice A1 m.length c1] 30))
 have HLT := qQ (blk_lt (HB1.o.bx (w.heap.size + 1 + 1 + 1, #[.int .i64 0, .slice none 0 0, .int .i64 0, .int .i64 0, .int .i64 0, .int .u64 0, .int .u64 0, .int .u64 0, .int .i64 0], 68) (by simp)).1)
 generalize w1.alloc (.cells #[.slice A1 m.length c1] 30) = w2 at HB2 HR2 ⊢
 generalize w1.heap.size = ob at HB2 HLT ⊢
 clear HB1 HR1 HB0
 refine zS 10 [9] (fun W' => W'.heap[w.heap.size + 1 + 1]? = some (.cells #[.int .i64 pc, .slice Ar rf.length cr, .int .i64 f.f0, .int .i64 f.f1, .int .i64 f.f2, .int .u64 f.f3, .int .u64 f.f4, .int .u64 f.f5, .int .i64 f.f6] 68 (0, 0))) (HB2.o.drew.bx (w.heap.size + 1 + 1, #[.int .i64 pc, .slice Ar rf.length cr, .int .i64 f.f0, .int .i64 f.f1, .int .i64 f.f2, .int .u64 f.f3, .int .u64 f.f4, .int .u64 f.f5, .int .i64 f.f6], 68) (by simp)).1 fun hHeld => ?_
 refine zY 0 1 23 ?_
 refine zT 1 3 24 ?_ (hy := zy15)
 refine zY 2 7 25 ?_
 refine zT 3 15 26 ?_ (hy := zy15)
 refine zY 5 47 28 ?_
 refine zT 6 111 29 ?_ (hy := zy15)
 refine join_ (σ := (Option Addr × Nat) × Nat) 1 (zM 10 511) (fun s => [(27, .slice s.1.1 rf.length s.1.2), (30, .agg #[.int .i64 pc, .slice s.1.1 rf.length s.1.2, .int .i64 f.f0, .int .i64 f.f1, .int .i64 f.f2, .int .u64 f.f3, .int .u64 f.f4, .int .u64 f.f5, .int .i64 f.f6]), (14, .pointer (some ⟨s.2, 0, none⟩))]) (fun s w' => (BX w [(ob, #[.slice A1 m.length c1], 30), (w.heap.size + 1 + 1 + 1, #[.int .i64 0, .slice none 0 0, .int .i64 0, .int .i64 0, .int .i64 0, .int .u64 0, .int .u64 0, .int .u64 0, .int .i64 0], 68), (w.heap.size + 1 + 1, #[.int .i64 pc, .slice Ar rf.length cr, .int .i64 f.f0, .int .i64 f.f1, .int .i64 f.f2, .int .u64 f.f3, .int .u64 f.f4, .int .u64 f.f5, .int .i64 f.f6], 68), (w.heap.size + 1, #[.int .i64 i], 3), (w.heap.size, #[.int .i64 c.w, .int .i64 c.d, .int .i64 c.i, .int .i64 c.s], 23)] w' ∧ (Kd.int .u64).R 38 w' w.heap.size (fun _ => True) (.slice A1 m.length c1) m) ∧ (Kd.int .i64).R 3 w' w.heap.size (fun _ => True) (.slice s.1.1 rf.length s.1.2) rf ∧ w'.heap[s.2]? = some (.cells #[.int .i64 0, .slice none 0 0, .int .i64 0, .int .i64 0, .int .i64 0, .int .u64 0, .int .u64 0, .int .u64 0, .int .i64 0] 68 (0, 0)) ∧ ob < s.2) ?_ ?_
 rotate_left
 ·intro hcont
  refine two_ (i := 4) (j := 8) (Ni := some 27) (Nj := some 14) (zM 10 127) (zM 10 367) rfl rfl rfl rfl (by kernel_rfl) (by decide) (by decide) (fun K hK => ?_) (fun K hK => ?_)
  ·go_simp
   refine (clone51' Ar cr rf _ (Kd.C_below HR.o HB2.o.drew.bel) HRN.o).mono ?_
   rintro e w3 ⟨v, rfl, hr, hd⟩
   obtain ⟨Af, cf, eo⟩ := Kd.R_slice hr
   subst eo
   have hw3 := HB2.o.drew.below hd
   have kw3 := Kd.R_below (Kd.R_drew HR2.o) hd
   have rw3 := Kd.R_lower hr HB2.o.drew.bel.size
   refine hK.out _ _ (hw3.bx (w.heap.size + 1 + 1, #[.int .i64 pc, .slice Ar rf.length cr, .int .i64 f.f0, .int .i64 f.f1, .int .i64 f.f2, .int .u64 f.f3, .int .u64 f.f4, .int .u64 f.f5, .int .i64 f.f6], 68) (by simp)).1 (fun hHeld => ?_)
   refine zY 7 255 30 ?_
   refine zO 8 511 14 fun K hK => ?_
   go_simp
   have hw4 := hw3.below (below_alloc (Below.refl _ _) (.cells #[.int .i64 0, .slice none 0 0, .int .i64 0, .int .i64 0, .int .i64 0, .int .u64 0, .int .u64 0, .int .u64 0, .int .i64 0] 68))
   refine hK.out _ _ (hw4.bx (w.heap.size + 1 + 1, #[.int .i64 pc, .slice Ar rf.length cr, .int .i64 f.f0, .int .i64 f.f1, .int .i64 f.f2, .int .u64 f.f3, .int .u64 f.f4, .int .u64 f.f5, .int .i64 f.f6], 68) (by simp)).1 (fun hHeld => ?_)
   exact norm_ rfl (hcont ((Af, cf), w3.heap.size) _ ⟨⟨hw4, Kd.R_below kw3 (below_alloc (Below.refl _ _) (.cells #[.int .i64 0, .slice none 0 0, .int .i64 0, .int .i64 0, .int .i64 0, .int .u64 0, .int .u64 0, .int .u64 0, .int .i64 0] 68))⟩, Kd.R_below rw3 (below_alloc (Below.refl _ _) (.cells #[.int .i64 0, .slice none 0 0, .int .i64 0, .int .i64 0, .int .i64 0, .int .u64 0, .int .u64 0, .int .u64 0, .int .i64 0] 68)), blk_new _ _, blk_lt (hw3.bx (ob, #[.slice A1 m.length c1], 30) (by simp)).1⟩)
  ·go_simp
   have h3 := (HB2.o.below (below_alloc (Below.refl _ _) (.cells #[.int .i64 0, .slice none 0 0, .int .i64 0, .int .i64 0, .int .i64 0, .int .u64 0, .int .u64 0, .int .u64 0, .int .i64 0] 68))).drew
   have k3 := Kd.R_drew (Kd.R_below HR2.o (below_alloc (Below.refl _ _) (.cells #[.int .i64 0, .slice none 0 0, .int .i64 0, .int .i64 0, .int .i64 0, .int .u64 0, .int .u64 0, .int .u64 0, .int .i64 0] 68)))
   refine hK.out _ _ (h3.bx (w.heap.size + 1 + 1, #[.int .i64 pc, .slice Ar rf.length cr, .int .i64 f.f0, .int .i64 f.f1, .int .i64 f.f2, .int .u64 f.f3, .int .u64 f.f4, .int .u64 f.f5, .int .i64 f.f6], 68) (by simp)).1 (fun hHeld => ?_)
   refine zO 4 383 27 fun K hK => ?_
   go_simp
   refine (clone51' Ar cr rf _ (Kd.C_below HR.o h3.bel) HRN.o).mono ?_
   rintro e w4 ⟨v, rfl, hr, hd⟩
   obtain ⟨Af, cf, eo⟩ := Kd.R_slice hr
   subst eo
   have hw4 := h3.below hd
   have kw4 := Kd.R_below k3 hd
   have rw4 := Kd.R_lower hr h3.bel.size
   refine hK.out _ _ (hw4.bx (w.heap.size + 1 + 1, #[.int .i64 pc, .slice Ar rf.length cr, .int .i64 f.f0, .int .i64 f.f1, .int .i64 f.f2, .int .u64 f.f3, .int .u64 f.f4, .int .u64 f.f5, .int .i64 f.f6], 68) (by simp)).1 (fun hHeld => ?_)
   refine zY 7 511 30 ?_
   exact norm_ rfl (hcont ((Af, cf), w2.heap.size) _ ⟨⟨hw4, kw4⟩, rw4, blk_below (blk_drew (blk_new w2 _)) hd, blk_lt (HB2.o.bx (ob, #[.slice A1 m.length c1], 30) (by simp)).1⟩)
 rintro ⟨⟨Af, cf⟩, sb⟩ w3 ⟨⟨hb3, hm3⟩, hr3, hz3, hl3⟩
 simp only [putAll, Act.put, List.setIfInBounds_toArray, List.set_cons_zero, List.set_cons_succ] at hr3 hz3 hl3 ⊢
 have HB3 := qQ hb3
 have HM3 := qQ hm3
 have HR3 := qQ hr3
 have HZ3 := qQ hz3
 have HL3 := qQ hl3
 clear hb3 hm3 hr3 hz3 hl3
 refine zL 9 1023 fun K hK => ?_
 have y0 := fun j => blk_cell HZ3.o j
 have y1 := fun j => blk_frozen HZ3.o j
 go_simp
 refine hK.out _ _ ?_
 refine zD ?_
 obtain ⟨g1, g2, g3⟩ := nine HZ3.o pc (.slice Af rf.length cf) f
 have HB4 := qQ (show BX w [(ob, #[.slice A1 m.length c1], 30), (w.heap.size + 1 + 1 + 1, #[.int .i64 0, .slice none 0 0, .int .i64 0, .int .i64 0, .int .i64 0, .int .u64 0, .int .u64 0, .int .u64 0, .int .i64 0], 68), (w.heap.size + 1 + 1, #[.int .i64 pc, .slice Ar rf.length cr, .int .i64 f.f0, .int .i64 f.f1, .int .i64 f.f2, .int .u64 f.f3, .int .u64 f.f4, .int .u64 f.f5, .int .i64 f.f6], 68), (w.heap.size + 1, #[.int .i64 i], 3), (w.heap.size, #[.int .i64 c.w, .int .i64 c.d, .int .i64 c.i, .int .i64 c.s], 23)] (w9 w3 sb pc (.slice Af rf.length cf) f) from ⟨g3 _ _ HB3.o.bel (by have := HL3.o; have := HLT.o; omega), fun q hq => ⟨(g2 q.1 (by have h1 := HL3.o; have h2 := HLT.o; simp only [List.mem_cons, List.not_mem_nil, or_false] at hq; rcases hq with rfl | rfl | rfl | rfl | rfl <;> dsimp only <;> omega)).trans (HB3.o.bx q hq).1, (HB3.o.bx q hq).2⟩⟩)
 have HM4 := qQ (R_but HM3.o HZ3.o (T1 (by decide)) g2)
 have HR4 := qQ (R_but HR3.o HZ3.o (T1 (by decide)) g2)
 have HZ4 := qQ g1
 unfold w9 at HB4 HM4 HR4 HZ4
 generalize (((((((((w3.setCell ⟨sb, 0, none⟩ (.int .i64 pc)).setCell ⟨sb, 1, none⟩ (.slice Af rf.length cf)).setCell ⟨sb, 2, none⟩ (.int .i64 f.f0)).setCell ⟨sb, 3, none⟩ (.int .i64 f.f1)).setCell ⟨sb, 4, none⟩ (.int .i64 f.f2)).setCell ⟨sb, 5, none⟩ (.int .u64 f.f3)).setCell ⟨sb, 6, none⟩ (.int .u64 f.f4)).setCell ⟨sb, 7, none⟩ (.int .u64 f.f5)).setCell ⟨sb, 8, none⟩ (.int .i64 f.f6)) = w4 at HB4 HM4 HR4 HZ4 ⊢
 clear g1 g2 g3 y0 y1 hHeld HB3 HM3 HR3 HZ3 HB2 HR2
 have x0 := (HB4.o.cell (b := w.heap.size + 1 + 1) (cs := #[.int .i64 pc, .slice Ar rf.length cr, .int .i64 f.f0, .int .i64 f.f1, .int .i64 f.f2, .int .u64 f.f3, .int .u64 f.f4, .int .u64 f.f5, .int .i64 f.f6]) (t := 68) (by simp) 0).trans rfl
 have x1 := (HB4.o.cell (b := w.heap.size + 1 + 1) (cs := #[.int .i64 pc, .slice Ar rf.length cr, .int .i64 f.f0, .int .i64 f.f1, .int .i64 f.f2, .int .u64 f.f3, .int .u64 f.f4, .int .u64 f.f5, .int .i64 f.f6]) (t := 68) (by simp) 1).trans rfl
 have x2 := (HB4.o.cell (b := w.heap.size + 1 + 1) (cs := #[.int .i64 pc, .slice Ar rf.length cr, .int .i64 f.f0, .int .i64 f.f1, .int .i64 f.f2, .int .u64 f.f3, .int .u64 f.f4, .int .u64 f.f5, .int .i64 f.f6]) (t := 68) (by simp) 2).trans rfl
 have x3 := (HB4.o.cell (b := w.heap.size + 1 + 1) (cs := #[.int .i64 pc, .slice Ar rf.length cr, .int .i64 f.f0, .int .i64 f.f1, .int .i64 f.f2, .int .u64 f.f3, .int .u64 f.f4, .int .u64 f.f5, .int .i64 f.f6]) (t := 68) (by simp) 3).trans rfl
 have x4 := (HB4.o.cell (b := w.heap.size + 1 + 1) (cs := #[.int .i64 pc, .slice Ar rf.length cr, .int .i64 f.f0, .int .i64 f.f1, .int .i64 f.f2, .int .u64 f.f3, .int .u64 f.f4, .int .u64 f.f5, .int .i64 f.f6]) (t := 68) (by simp) 4).trans rfl
 have x5 := (HB4.o.cell (b := w.heap.size + 1 + 1) (cs := #[.int .i64 pc, .slice Ar rf.length cr, .int .i64 f.f0, .int .i64 f.f1, .int .i64 f.f2, .int .u64 f.f3, .int .u64 f.f4, .int .u64 f.f5, .int .i64 f.f6]) (t := 68) (by simp) 5).trans rfl
 have x6 := (HB4.o.cell (b := w.heap.size + 1 + 1) (cs := #[.int .i64 pc, .slice Ar rf.length cr, .int .i64 f.f0, .int .i64 f.f1, .int .i64 f.f2, .int .u64 f.f3, .int .u64 f.f4, .int .u64 f.f5, .int .i64 f.f6]) (t := 68) (by simp) 6).trans rfl
 have x7 := (HB4.o.cell (b := w.heap.size + 1 + 1) (cs := #[.int .i64 pc, .slice Ar rf.length cr, .int .i64 f.f0, .int .i64 f.f1, .int .i64 f.f2, .int .u64 f.f3, .int .u64 f.f4, .int .u64 f.f5, .int .i64 f.f6]) (t := 68) (by simp) 7).trans rfl
 have x8 := (HB4.o.cell (b := w.heap.size + 1 + 1) (cs := #[.int .i64 pc, .slice Ar rf.length cr, .int .i64 f.f0, .int .i64 f.f1, .int .i64 f.f2, .int .u64 f.f3, .int .u64 f.f4, .int .u64 f.f5, .int .i64 f.f6]) (t := 68) (by simp) 8).trans rfl
 have c0 := (HB4.o.cell (b := w.heap.size) (cs := #[.int .i64 c.w, .int .i64 c.d, .int .i64 c.i, .int .i64 c.s]) (t := 23) (by simp) 0).trans rfl
 have c1 := (HB4.o.cell (b := w.heap.size) (cs := #[.int .i64 c.w, .int .i64 c.d, .int .i64 c.i, .int .i64 c.s]) (t := 23) (by simp) 1).trans rfl
 have c2 := (HB4.o.cell (b := w.heap.size) (cs := #[.int .i64 c.w, .int .i64 c.d, .int .i64 c.i, .int .i64 c.s]) (t := 23) (by simp) 2).trans rfl
 have c3 := (HB4.o.cell (b := w.heap.size) (cs := #[.int .i64 c.w, .int .i64 c.d, .int .i64 c.i, .int .i64 c.s]) (t := 23) (by simp) 3).trans rfl
 rcases HX.o with ⟨rfl, rfl⟩ | ⟨rfl, hrp, hsx⟩
 ·clear HX
  go_wp2_with (first | (go_at_call 62; with_reducible refine (HMAY.o _ HB4.o.bel).mono ?_; rintro e w5 ⟨rfl, hd⟩; have HB5 := qQ (HB4.o.below hd); have HM5 := qQ (Kd.R_below HM4.o hd); have HR5 := qQ (Kd.R_below HR4.o hd); have HZ5 := qQ (blk_below HZ4.o hd); clear hd x0 x1 x2 x3 x4 x5 x6 x7 x8 c0 c1 c2 c3; have x0 := (HB5.o.cell (b := w.heap.size + 1 + 1) (cs := #[.int .i64 pc, .slice Ar rf.length cr, .int .i64 f.f0, .int .i64 f.f1, .int .i64 f.f2, .int .u64 f.f3, .int .u64 f.f4, .int .u64 f.f5, .int .i64 f.f6]) (t := 68) (by simp) 0).trans rfl; have x1 := (HB5.o.cell (b := w.heap.size + 1 + 1) (cs := #[.int .i64 pc, .slice Ar rf.length cr, .int .i64 f.f0, .int .i64 f.f1, .int .i64 f.f2, .int .u64 f.f3, .int .u64 f.f4, .int .u64 f.f5, .int .i64 f.f6]) (t := 68) (by simp) 1).trans rfl; have x2 := (HB5.o.cell (b := w.heap.size + 1 + 1) (cs := #[.int .i64 pc, .slice Ar rf.length cr, .int .i64 f.f0, .int .i64 f.f1, .int .i64 f.f2, .int .u64 f.f3, .int .u64 f.f4, .int .u64 f.f5, .int .i64 f.f6]) (t := 68) (by simp) 2).trans rfl; have x3 := (HB5.o.cell (b := w.heap.size + 1 + 1) (cs := #[.int .i64 pc, .slice Ar rf.length cr, .int .i64 f.f0, .int .i64 f.f1, .int .i64 f.f2, .int .u64 f.f3, .int .u64 f.f4, .int .u64 f.f5, .int .i64 f.f6]) (t := 68) (by simp) 3).trans rfl; have x4 := (HB5.o.cell (b := w.heap.size + 1 + 1) (cs := #[.int .i64 pc, .slice Ar rf.length cr, .int .i64 f.f0, .int .i64 f.f1, .int .i64 f.f2, .int .u64 f.f3, .int .u64 f.f4, .int .u64 f.f5, .int .i64 f.f6]) (t := 68) (by simp) 4).trans rfl; have x5 := (HB5.o.cell (b := w.heap.size + 1 + 1) (cs := #[.int .i64 pc, .slice Ar rf.length cr, .int .i64 f.f0, .int .i64 f.f1, .int .i64 f.f2, .int .u64 f.f3, .int .u64 f.f4, .int .u64 f.f5, .int .i64 f.f6]) (t := 68) (by simp) 5).trans rfl; have x6 := (HB5.o.cell (b := w.heap.size + 1 + 1) (cs := #[.int .i64 pc, .slice Ar rf.length cr, .int .i64 f.f0, .int .i64 f.f1, .int .i64 f.f2, .int .u64 f.f3, .int .u64 f.f4, .int .u64 f.f5, .int .i64 f.f6]) (t := 68) (by simp) 6).trans rfl; have x7 := (HB5.o.cell (b := w.heap.size + 1 + 1) (cs := #[.int .i64 pc, .slice Ar rf.length cr, .int .i64 f.f0, .int .i64 f.f1, .int .i64 f.f2, .int .u64 f.f3, .int .u64 f.f4, .int .u64 f.f5, .int .i64 f.f6]) (t := 68) (by simp) 7).trans rfl; have x8 := (HB5.o.cell (b := w.heap.size + 1 + 1) (cs := #[.int .i64 pc, .slice Ar rf.length cr, .int .i64 f.f0, .int .i64 f.f1, .int .i64 f.f2, .int .u64 f.f3, .int .u64 f.f4, .int .u64 f.f5, .int .i64 f.f6]) (t := 68) (by simp) 8).trans rfl))
  refine zS 5 [3] (fun W' => W'.heap[ob]? = some (.cells #[.slice A1 m.length c1] 30 (0, 0)) ∧ W'.heap[sb]? = some (.cells (subZ pc (.slice Af rf.length cf) f) 68 (0, 0))) ⟨(HB5.o.drew.bx (ob, #[.slice A1 m.length c1], 30) (by simp)).1, HZ5.o⟩ fun hHeld => ?_
  refine zT 0 1 37 ?_ (hy := by intro w' hSw; have o0 := blk_cell hSw.1; have s0 := blk_cell hSw.2; go_simp; with_reducible rfl)
  refine zT 1 3 38 ?_ (hy := by intro w' hSw; have o0 := blk_cell hSw.1; have s0 := blk_cell hSw.2; go_simp; with_reducible rfl)
  refine zY 2 7 10 ?_
  refine zL 3 15 fun K hK => ?_
  have y0 := (HB5.o.cell (b := w.heap.size + 1 + 1 + 1) (cs := #[.int .i64 0, .slice none 0 0, .int .i64 0, .int .i64 0, .int .i64 0, .int .u64 0, .int .u64 0, .int .u64 0, .int .i64 0]) (t := 68) (by simp))
  have y1 := fun j => blk_frozen (HB5.o.bx (w.heap.size + 1 + 1 + 1, #[.int .i64 0, .slice none 0 0, .int .i64 0, .int .i64 0, .int .i64 0, .int .u64 0, .int .u64 0, .int .u64 0, .int .i64 0], 68) (by simp)).1 j
  go_simp
  refine hK.out _ _ ?_
  refine zY 4 31 12 ?_
  refine zD ?_
  obtain ⟨g1, g2, g3⟩ := nine (HB5.o.bx (w.heap.size + 1 + 1 + 1, #[.int .i64 0, .slice none 0 0, .int .i64 0, .int .i64 0, .int .i64 0, .int .u64 0, .int .u64 0, .int .u64 0, .int .i64 0], 68) (by simp)).1 pc (.slice Af rf.length cf) f
  have Q1 := qQ (blk_drew g1)
  have Q2 := qQ (Kd.R_drew (R_but (t := 68) HM5.o (HB5.o.bx (w.heap.size + 1 + 1 + 1, #[.int .i64 0, .slice none 0 0, .int .i64 0, .int .i64 0, .int .i64 0, .int .u64 0, .int .u64 0, .int .u64 0, .int .i64 0], 68) (by simp)).1 (T1 (by decide)) g2))
  have Q3 := qQ (Kd.R_V (base' := 0) (Kd.R_mono (Kd.R_bound (Kd.R_drew (R_but (t := 68) HR5.o (HB5.o.bx (w.heap.size + 1 + 1 + 1, #[.int .i64 0, .slice none 0 0, .int .i64 0, .int .i64 0, .int .i64 0, .int .u64 0, .int .u64 0, .int .u64 0, .int .i64 0], 68) (by simp)).1 (T1 (by decide)) g2))) (fun k hk => tb3 hk.2)))
  have Q4 := qQ (below_drew (g3 _ _ HB5.o.bel (by omega)))
  unfold w9 at Q1 Q2 Q3 Q4
  clear hHeld y0 y1 g1 g2 g3
  go_wp2
  refine bodyPost_ret (results_list (rs := [.tmp 10, .cell 11 68, .tmp 12]) rfl (by simp) (.tmp (.cell (w.heap.size + 1 + 1 + 1) 68 #[.int .i64 pc, .slice Af rf.length cf, .int .i64 f.f0, .int .i64 f.f1, .int .i64 f.f2, .int .u64 f.f3, .int .u64 f.f4, .int .u64 f.f5, .int .i64 f.f6] (0, 0) _ rfl Q1.o Tryz.underlying68 rfl (by kernel_rfl) (.tmp .nil)))) rfl ?_
  exact ⟨_, _, _, rfl, Q2.o, Q3.o, Kd.R_nil _ _ _ _ _, Q4.o⟩
 ·have HRP := qQ hrp
  have HSX := qQ hsx
  clear HX hrp hsx
  obtain ⟨gf, rfl⟩ : ∃ gf, Af = some ⟨gf, 0, none⟩ := by
   obtain ⟨gf, c9, e, _⟩ := R_some HR4.o HRP.o
   injection e with e
   exact ⟨gf, e⟩
  have hp0 : ((0 : Int) < (rf.length : Int)) = True := eq_true (by have := HRP.o; omega)
  have hp1 : (0 < rf.length) = True := eq_true HRP.o
  have hpc : 0 ≤ pc ∧ pc < 6 := by
   have h := HSX.o
   unfold SX at h
   omega
  have HPC := qQ (show pc = 0 ∨ pc = 1 ∨ pc = 2 ∨ pc = 3 ∨ pc = 4 ∨ pc = 5 by omega)
  have p0 : (0 ≤ pc) = True := eq_true hpc.1
  have p1 : (pc < 6) = True := eq_true hpc.2
  clear hpc
  go_wp2_with (first | (go_at_call 62; with_reducible refine (HMAY.o _ HB4.o.bel).mono ?_; rintro e w5 ⟨rfl, hd⟩; have HB5 := qQ (HB4.o.below hd); have HM5 := qQ (Kd.R_below HM4.o hd); have HR5 := qQ (Kd.R_below HR4.o hd); have HZ5 := qQ (blk_below HZ4.o hd); clear hd x0 x1 x2 x3 x4 x5 x6 x7 x8 c0 c1 c2 c3; have x0 := (HB5.o.cell (b := w.heap.size + 1 + 1) (cs := #[.int .i64 pc, .slice Ar rf.length cr, .int .i64 f.f0, .int .i64 f.f1, .int .i64 f.f2, .int .u64 f.f3, .int .u64 f.f4, .int .u64 f.f5, .int .i64 f.f6]) (t := 68) (by simp) 0).trans rfl; have x1 := (HB5.o.cell (b := w.heap.size + 1 + 1) (cs := #[.int .i64 pc, .slice Ar rf.length cr, .int .i64 f.f0, .int .i64 f.f1, .int .i64 f.f2, .int .u64 f.f3, .int .u64 f.f4, .int .u64 f.f5, .int .i64 f.f6]) (t := 68) (by simp) 1).trans rfl; have x2 := (HB5.o.cell (b := w.heap.size + 1 + 1) (cs := #[.int .i64 pc, .slice Ar rf.length cr, .int .i64 f.f0, .int .i64 f.f1, .int .i64 f.f2, .int .u64 f.f3, .int .u64 f.f4, .int .u64 f.f5, .int .i64 f.f6]) (t := 68) (by simp) 2).trans rfl; have x3 := (HB5.o.cell (b := w.heap.size + 1 + 1) (cs := #[.int .i64 pc, .slice Ar rf.length cr, .int .i64 f.f0, .int .i64 f.f1, .int .i64 f.f2, .int .u64 f.f3, .int .u64 f.f4, .int .u64 f.f5, .int .i64 f.f6]) (t := 68) (by simp) 3).trans rfl; have x4 := (HB5.o.cell (b := w.heap.size + 1 + 1) (cs := #[.int .i64 pc, .slice Ar rf.length cr, .int .i64 f.f0, .int .i64 f.f1, .int .i64 f.f2, .int .u64 f.f3, .int .u64 f.f4, .int .u64 f.f5, .int .i64 f.f6]) (t := 68) (by simp) 4).trans rfl; have x5 := (HB5.o.cell (b := w.heap.size + 1 + 1) (cs := #[.int .i64 pc, .slice Ar rf.length cr, .int .i64 f.f0, .int .i64 f.f1, .int .i64 f.f2, .int .u64 f.f3, .int .u64 f.f4, .int .u64 f.f5, .int .i64 f.f6]) (t := 68) (by simp) 5).trans rfl; have x6 := (HB5.o.cell (b := w.heap.size + 1 + 1) (cs := #[.int .i64 pc, .slice Ar rf.length cr, .int .i64 f.f0, .int .i64 f.f1, .int .i64 f.f2, .int .u64 f.f3, .int .u64 f.f4, .int .u64 f.f5, .int .i64 f.f6]) (t := 68) (by simp) 6).trans rfl; have x7 := (HB5.o.cell (b := w.heap.size + 1 + 1) (cs := #[.int .i64 pc, .slice Ar rf.length cr, .int .i64 f.f0, .int .i64 f.f1, .int .i64 f.f2, .int .u64 f.f3, .int .u64 f.f4, .int .u64 f.f5, .int .i64 f.f6]) (t := 68) (by simp) 7).trans rfl; have x8 := (HB5.o.cell (b := w.heap.size + 1 + 1) (cs := #[.int .i64 pc, .slice Ar rf.length cr, .int .i64 f.f0, .int .i64 f.f1, .int .i64 f.f2, .int .u64 f.f3, .int .u64 f.f4, .int .u64 f.f5, .int .i64 f.f6]) (t := 68) (by simp) 8).trans rfl) | ((with_reducible refine gate_dst (N := 15) rfl ?_); refine box_event (by rfl) (N := 15) rfl (cs := #[.slice none 0 0]) (t := 35) (by first | (go_simp; done) | (go_simp; rfl)) ?_; intro eb hgeb w6 hbox hb; have HGeb := qQ hgeb; clear hgeb; have HD6 := qQ (show US w ob sb eb [(w.heap.size + 1 + 1 + 1, #[.int .i64 0, .slice none 0 0, .int .i64 0, .int .i64 0, .int .i64 0, .int .u64 0, .int .u64 0, .int .u64 0, .int .i64 0], 68), (w.heap.size + 1 + 1, #[.int .i64 pc, .slice Ar rf.length cr, .int .i64 f.f0, .int .i64 f.f1, .int .i64 f.f2, .int .u64 f.f3, .int .u64 f.f4, .int .u64 f.f5, .int .i64 f.f6], 68), (w.heap.size + 1, #[.int .i64 i], 3), (w.heap.size, #[.int .i64 c.w, .int .i64 c.d, .int .i64 c.i, .int .i64 c.s], 23)] (subZ pc (.slice (some ⟨gf, 0, none⟩) rf.length cf) f) (.slice A1 m.length c1) m (.slice (some ⟨gf, 0, none⟩) rf.length cf) rf (.slice none 0 0) [] w6 from US.make HB5.o HZ5.o HM5.o HR5.o HL3.o (fun q hq => by have := HLT.o; simp only [List.mem_cons, List.not_mem_nil, or_false] at hq; rcases hq with rfl | rfl | rfl | rfl <;> exact ⟨by dsimp only; omega, by dsimp only; decide⟩) HGeb.o hb hbox); clear hb hbox HGeb; have s1 := (usS HD6.o).2.1; obtain ⟨ad_, ea_, r0⟩ := Kd.at_int (Kd.R_reads' HD6.o.rr).2.2 0 (by omega) (by have := HRP.o; omega); injection ea_ with ea_; subst ea_; replace r0 : w6.cell? ⟨gf, 0, none⟩ = some (.int .i64 (rd rf 0)) := (by rw [show (0 : Int).toNat = 0 from rfl, Addr.add_zero'] at r0; exact r0)) | ((with_reducible refine gate_dst (N := 16) rfl ?_); refine box_event (by rfl) (N := 16) rfl (cs := #[.int .i64 0]) (t := 3) (by first | (go_simp; done) | (go_simp; rfl)) ?_; intro rb hgrb w7 hbox hb; have HGrb := qQ hgrb; clear hgrb; have n0 := (blk_cell hbox 0).trans rfl; have n1 := fun j => blk_frozen hbox j; have HX_ := qQ hbox; have HY_ := qQ hb; clear hbox hb) | ((with_reducible refine gate_dst (N := 17) rfl ?_); have HD7 := qQ (HD6.o.next HGrb.o (HY_.o.setCell (p := ⟨rb, 0, none⟩) (Nat.le_of_eq HGrb.o.symm) (.int .i64 (rd rf 0))) (blk_put HX_.o 0 (.int .i64 (rd rf 0)) rfl) (by decide)); clear HX_ HY_ n0 n1 HGrb; refine box_event (by rfl) (N := 17) rfl (cs := #[.nilFunc]) (t := 137) (by first | (go_simp; done) | (go_simp; rfl)) ?_; intro tb hgtb w8 hbox hb; have HGtb := qQ hgtb; clear hgtb; have n0 := (blk_cell hbox 0).trans rfl; have n1 := fun j => blk_frozen hbox j; have HX_ := qQ hbox; have HY_ := qQ hb; clear hbox hb) | ((with_reducible refine gate_dst (N := 18) rfl ?_); have HD8 := qQ (HD7.o.next HGtb.o (HY_.o.setCell (p := ⟨tb, 0, none⟩) (Nat.le_of_eq HGtb.o.symm) (.func (.func 91) #[] #[.pointer (some ⟨eb, 0, none⟩), .pointer (some ⟨w.heap.size + 1, 0, none⟩)])) (blk_put HX_.o 0 (.func (.func 91) #[] #[.pointer (some ⟨eb, 0, none⟩), .pointer (some ⟨w.heap.size + 1, 0, none⟩)]) rfl) (by decide)); clear HX_ HY_ n0 n1 HGtb; refine box_event (by rfl) (N := 18) rfl (cs := #[.nilFunc]) (t := 1) (by first | (go_simp; done) | (go_simp; rfl)) ?_; intro db hgdb w9_ hbox hb; have HGdb := qQ hgdb; clear hgdb; have n0 := (blk_cell hbox 0).trans rfl; have n1 := fun j => blk_frozen hbox j; have HX_ := qQ hbox; have HY_ := qQ hb; clear hbox hb) | ((with_reducible refine gate_dst (N := 19) rfl ?_); have HD9 := qQ (HD8.o.next HGdb.o (HY_.o.setCell (p := ⟨db, 0, none⟩) (Nat.le_of_eq HGdb.o.symm) (.func (.func 92) #[] #[.pointer (some ⟨sb, 0, none⟩)])) (blk_put HX_.o 0 (.func (.func 92) #[] #[.pointer (some ⟨sb, 0, none⟩)]) rfl) (by decide)); clear HX_ HY_ n0 n1 HGdb; refine box_event (by rfl) (N := 19) rfl (cs := #[.nilFunc]) (t := 27) (by first | (go_simp; done) | (go_simp; rfl)) ?_; intro xb hgxb w10 hbox hb; have HGxb := qQ hgxb; clear hgxb; have n0 := (blk_cell hbox 0).trans rfl; have n1 := fun j => blk_frozen hbox j; have HX_ := qQ hbox; have HY_ := qQ hb; clear hbox hb; have HD10 := qQ (HD9.o.next HGxb.o (HY_.o.setCell (p := ⟨xb, 0, none⟩) (Nat.le_of_eq HGxb.o.symm) (.func (.func 93) #[] #[.pointer (some ⟨sb, 0, none⟩), .pointer (some ⟨w.heap.size, 0, none⟩), .pointer (some ⟨ob, 0, none⟩)])) (blk_put HX_.o 0 (.func (.func 93) #[] #[.pointer (some ⟨sb, 0, none⟩), .pointer (some ⟨w.heap.size, 0, none⟩), .pointer (some ⟨ob, 0, none⟩)]) rfl) (by decide)); clear HX_ HY_ HGxb; have hsz : (w10.setCell ⟨xb, 0, none⟩ (.func (.func 93) #[] #[.pointer (some ⟨sb, 0, none⟩), .pointer (some ⟨w.heap.size, 0, none⟩), .pointer (some ⟨ob, 0, none⟩)])).heap.size = w10.heap.size := (by simp); have hn_ := blk_new (w10.setCell ⟨xb, 0, none⟩ (.func (.func 93) #[] #[.pointer (some ⟨sb, 0, none⟩), .pointer (some ⟨w.heap.size, 0, none⟩), .pointer (some ⟨ob, 0, none⟩)])) (.cells #[(.func (.func 97) #[] #[.pointer (some ⟨sb, 0, none⟩), .pointer (some ⟨ob, 0, none⟩), .pointer (some ⟨tb, 0, none⟩), .pointer (some ⟨rb, 0, none⟩), .pointer (some ⟨db, 0, none⟩)]), (.func (.func 98) #[] #[.pointer (some ⟨ob, 0, none⟩), .pointer (some ⟨w.heap.size + 1, 0, none⟩), .pointer (some ⟨rb, 0, none⟩), .pointer (some ⟨sb, 0, none⟩)]), (.func (.func 100) #[] #[.pointer (some ⟨xb, 0, none⟩), .pointer (some ⟨sb, 0, none⟩), .pointer (some ⟨tb, 0, none⟩), .pointer (some ⟨rb, 0, none⟩)]), (.func (.func 101) #[] #[.pointer (some ⟨ob, 0, none⟩), .pointer (some ⟨db, 0, none⟩), .pointer (some ⟨w.heap.size + 1, 0, none⟩), .pointer (some ⟨sb, 0, none⟩)]), (.func (.func 102) #[] #[.pointer (some ⟨xb, 0, none⟩), .pointer (some ⟨db, 0, none⟩)]), (.func (.func 103) #[] #[.pointer (some ⟨ob, 0, none⟩), .pointer (some ⟨tb, 0, none⟩), .pointer (some ⟨rb, 0, none⟩), .pointer (some ⟨db, 0, none⟩)])] 142); rw [hsz] at hn_; have HD11 := qQ (HD10.o.next (g := w10.heap.size) (cs := #[(.func (.func 97) #[] #[.pointer (some ⟨sb, 0, none⟩), .pointer (some ⟨ob, 0, none⟩), .pointer (some ⟨tb, 0, none⟩), .pointer (some ⟨rb, 0, none⟩), .pointer (some ⟨db, 0, none⟩)]), (.func (.func 98) #[] #[.pointer (some ⟨ob, 0, none⟩), .pointer (some ⟨w.heap.size + 1, 0, none⟩), .pointer (some ⟨rb, 0, none⟩), .pointer (some ⟨sb, 0, none⟩)]), (.func (.func 100) #[] #[.pointer (some ⟨xb, 0, none⟩), .pointer (some ⟨sb, 0, none⟩), .pointer (some ⟨tb, 0, none⟩), .pointer (some ⟨rb, 0, none⟩)]), (.func (.func 101) #[] #[.pointer (some ⟨ob, 0, none⟩), .pointer (some ⟨db, 0, none⟩), .pointer (some ⟨w.heap.size + 1, 0, none⟩), .pointer (some ⟨sb, 0, none⟩)]), (.func (.func 102) #[] #[.pointer (some ⟨xb, 0, none⟩), .pointer (some ⟨db, 0, none⟩)]), (.func (.func 103) #[] #[.pointer (some ⟨ob, 0, none⟩), .pointer (some ⟨tb, 0, none⟩), .pointer (some ⟨rb, 0, none⟩), .pointer (some ⟨db, 0, none⟩)])]) (t := 142) hsz.symm (below_alloc (Below.refl _ _) _) hn_ (by decide)); clear hsz hn_; have x0 := (usB HD11.o (b := w.heap.size + 1 + 1) (cs := #[.int .i64 pc, .slice Ar rf.length cr, .int .i64 f.f0, .int .i64 f.f1, .int .i64 f.f2, .int .u64 f.f3, .int .u64 f.f4, .int .u64 f.f5, .int .i64 f.f6]) (t := 68) (.tail _ (.tail _ (.tail _ (.tail _ (.tail _ (.tail _ (.head _))))))) 0).trans rfl; have u0 := (usB HD11.o (b := w10.heap.size) (cs := #[(.func (.func 97) #[] #[.pointer (some ⟨sb, 0, none⟩), .pointer (some ⟨ob, 0, none⟩), .pointer (some ⟨tb, 0, none⟩), .pointer (some ⟨rb, 0, none⟩), .pointer (some ⟨db, 0, none⟩)]), (.func (.func 98) #[] #[.pointer (some ⟨ob, 0, none⟩), .pointer (some ⟨w.heap.size + 1, 0, none⟩), .pointer (some ⟨rb, 0, none⟩), .pointer (some ⟨sb, 0, none⟩)]), (.func (.func 100) #[] #[.pointer (some ⟨xb, 0, none⟩), .pointer (some ⟨sb, 0, none⟩), .pointer (some ⟨tb, 0, none⟩), .pointer (some ⟨rb, 0, none⟩)]), (.func (.func 101) #[] #[.pointer (some ⟨ob, 0, none⟩), .pointer (some ⟨db, 0, none⟩), .pointer (some ⟨w.heap.size + 1, 0, none⟩), .pointer (some ⟨sb, 0, none⟩)]), (.func (.func 102) #[] #[.pointer (some ⟨xb, 0, none⟩), .pointer (some ⟨db, 0, none⟩)]), (.func (.func 103) #[] #[.pointer (some ⟨ob, 0, none⟩), .pointer (some ⟨tb, 0, none⟩), .pointer (some ⟨rb, 0, none⟩), .pointer (some ⟨db, 0, none⟩)])]) (t := 142) (.head _) 0).trans rfl; have u1 := (usB HD11.o (b := w10.heap.size) (cs := #[(.func (.func 97) #[] #[.pointer (some ⟨sb, 0, none⟩), .pointer (some ⟨ob, 0, none⟩), .pointer (some ⟨tb, 0, none⟩), .pointer (some ⟨rb, 0, none⟩), .pointer (some ⟨db, 0, none⟩)]), (.func (.func 98) #[] #[.pointer (some ⟨ob, 0, none⟩), .pointer (some ⟨w.heap.size + 1, 0, none⟩), .pointer (some ⟨rb, 0, none⟩), .pointer (some ⟨sb, 0, none⟩)]), (.func (.func 100) #[] #[.pointer (some ⟨xb, 0, none⟩), .pointer (some ⟨sb, 0, none⟩), .pointer (some ⟨tb, 0, none⟩), .pointer (some ⟨rb, 0, none⟩)]), (.func (.func 101) #[] #[.pointer (some ⟨ob, 0, none⟩), .pointer (some ⟨db, 0, none⟩), .pointer (some ⟨w.heap.size + 1, 0, none⟩), .pointer (some ⟨sb, 0, none⟩)]), (.func (.func 102) #[] #[.pointer (some ⟨xb, 0, none⟩), .pointer (some ⟨db, 0, none⟩)]), (.func (.func 103) #[] #[.pointer (some ⟨ob, 0, none⟩), .pointer (some ⟨tb, 0, none⟩), .pointer (some ⟨rb, 0, none⟩), .pointer (some ⟨db, 0, none⟩)])]) (t := 142) (.head _) 1).trans rfl; have u2 := (usB HD11.o (b := w10.heap.size) (cs := #[(.func (.func 97) #[] #[.pointer (some ⟨sb, 0, none⟩), .pointer (some ⟨ob, 0, none⟩), .pointer (some ⟨tb, 0, none⟩), .pointer (some ⟨rb, 0, none⟩), .pointer (some ⟨db, 0, none⟩)]), (.func (.func 98) #[] #[.pointer (some ⟨ob, 0, none⟩), .pointer (some ⟨w.heap.size + 1, 0, none⟩), .pointer (some ⟨rb, 0, none⟩), .pointer (some ⟨sb, 0, none⟩)]), (.func (.func 100) #[] #[.pointer (some ⟨xb, 0, none⟩), .pointer (some ⟨sb, 0, none⟩), .pointer (some ⟨tb, 0, none⟩), .pointer (some ⟨rb, 0, none⟩)]), (.func (.func 101) #[] #[.pointer (some ⟨ob, 0, none⟩), .pointer (some ⟨db, 0, none⟩), .pointer (some ⟨w.heap.size + 1, 0, none⟩), .pointer (some ⟨sb, 0, none⟩)]), (.func (.func 102) #[] #[.pointer (some ⟨xb, 0, none⟩), .pointer (some ⟨db, 0, none⟩)]), (.func (.func 103) #[] #[.pointer (some ⟨ob, 0, none⟩), .pointer (some ⟨tb, 0, none⟩), .pointer (some ⟨rb, 0, none⟩), .pointer (some ⟨db, 0, none⟩)])]) (t := 142) (.head _) 2).trans rfl; have u3 := (usB HD11.o (b := w10.heap.size) (cs := #[(.func (.func 97) #[] #[.pointer (some ⟨sb, 0, none⟩), .pointer (some ⟨ob, 0, none⟩), .pointer (some ⟨tb, 0, none⟩), .pointer (some ⟨rb, 0, none⟩), .pointer (some ⟨db, 0, none⟩)]), (.func (.func 98) #[] #[.pointer (some ⟨ob, 0, none⟩), .pointer (some ⟨w.heap.size + 1, 0, none⟩), .pointer (some ⟨rb, 0, none⟩), .pointer (some ⟨sb, 0, none⟩)]), (.func (.func 100) #[] #[.pointer (some ⟨xb, 0, none⟩), .pointer (some ⟨sb, 0, none⟩), .pointer (some ⟨tb, 0, none⟩), .pointer (some ⟨rb, 0, none⟩)]), (.func (.func 101) #[] #[.pointer (some ⟨ob, 0, none⟩), .pointer (some ⟨db, 0, none⟩), .pointer (some ⟨w.heap.size + 1, 0, none⟩), .pointer (some ⟨sb, 0, none⟩)]), (.func (.func 102) #[] #[.pointer (some ⟨xb, 0, none⟩), .pointer (some ⟨db, 0, none⟩)]), (.func (.func 103) #[] #[.pointer (some ⟨ob, 0, none⟩), .pointer (some ⟨tb, 0, none⟩), .pointer (some ⟨rb, 0, none⟩), .pointer (some ⟨db, 0, none⟩)])]) (t := 142) (.head _) 3).trans rfl; have u4 := (usB HD11.o (b := w10.heap.size) (cs := #[(.func (.func 97) #[] #[.pointer (some ⟨sb, 0, none⟩), .pointer (some ⟨ob, 0, none⟩), .pointer (some ⟨tb, 0, none⟩), .pointer (some ⟨rb, 0, none⟩), .pointer (some ⟨db, 0, none⟩)]), (.func (.func 98) #[] #[.pointer (some ⟨ob, 0, none⟩), .pointer (some ⟨w.heap.size + 1, 0, none⟩), .pointer (some ⟨rb, 0, none⟩), .pointer (some ⟨sb, 0, none⟩)]), (.func (.func 100) #[] #[.pointer (some ⟨xb, 0, none⟩), .pointer (some ⟨sb, 0, none⟩), .pointer (some ⟨tb, 0, none⟩), .pointer (some ⟨rb, 0, none⟩)]), (.func (.func 101) #[] #[.pointer (some ⟨ob, 0, none⟩), .pointer (some ⟨db, 0, none⟩), .pointer (some ⟨w.heap.size + 1, 0, none⟩), .pointer (some ⟨sb, 0, none⟩)]), (.func (.func 102) #[] #[.pointer (some ⟨xb, 0, none⟩), .pointer (some ⟨db, 0, none⟩)]), (.func (.func 103) #[] #[.pointer (some ⟨ob, 0, none⟩), .pointer (some ⟨tb, 0, none⟩), .pointer (some ⟨rb, 0, none⟩), .pointer (some ⟨db, 0, none⟩)])]) (t := 142) (.head _) 4).trans rfl; have u5 := (usB HD11.o (b := w10.heap.size) (cs := #[(.func (.func 97) #[] #[.pointer (some ⟨sb, 0, none⟩), .pointer (some ⟨ob, 0, none⟩), .pointer (some ⟨tb, 0, none⟩), .pointer (some ⟨rb, 0, none⟩), .pointer (some ⟨db, 0, none⟩)]), (.func (.func 98) #[] #[.pointer (some ⟨ob, 0, none⟩), .pointer (some ⟨w.heap.size + 1, 0, none⟩), .pointer (some ⟨rb, 0, none⟩), .pointer (some ⟨sb, 0, none⟩)]), (.func (.func 100) #[] #[.pointer (some ⟨xb, 0, none⟩), .pointer (some ⟨sb, 0, none⟩), .pointer (some ⟨tb, 0, none⟩), .pointer (some ⟨rb, 0, none⟩)]), (.func (.func 101) #[] #[.pointer (some ⟨ob, 0, none⟩), .pointer (some ⟨db, 0, none⟩), .pointer (some ⟨w.heap.size + 1, 0, none⟩), .pointer (some ⟨sb, 0, none⟩)]), (.func (.func 102) #[] #[.pointer (some ⟨xb, 0, none⟩), .pointer (some ⟨db, 0, none⟩)]), (.func (.func 103) #[] #[.pointer (some ⟨ob, 0, none⟩), .pointer (some ⟨tb, 0, none⟩), .pointer (some ⟨rb, 0, none⟩), .pointer (some ⟨db, 0, none⟩)])]) (t := 142) (.head _) 5).trans rfl; rcases HPC.o with rfl | rfl | rfl | rfl | rfl | rfl))
  all_goals clear x0 u0 u1 u2 u3 u4 u5
  all_goals (first | refine (sub_go0 w ob sb eb _ c i rf f m x' (.slice A1 m.length c1) (.slice (some ⟨gf, 0, none⟩) rf.length cf) (.slice none 0 0) gf cf xb db tb rb (w.heap.size + 1) w.heap.size _ HD11.o rfl HRP.o HRN.o HMN.o HSX.o (.tail _ (.head _)) (.tail _ (.tail _ (.head _))) (.tail _ (.tail _ (.tail _ (.head _)))) (.tail _ (.tail _ (.tail _ (.tail _ (.head _))))) (.tail _ (.tail _ (.tail _ (.tail _ (.tail _ (.tail _ (.tail _ (.head _)))))))) (.tail _ (.tail _ (.tail _ (.tail _ (.tail _ (.tail _ (.tail _ (.tail _ (.head _)))))))))).mono ?_ | refine (sub_go1 w ob sb eb _ c i rf f m x' (.slice A1 m.length c1) (.slice (some ⟨gf, 0, none⟩) rf.length cf) (.slice none 0 0) gf cf xb db tb rb (w.heap.size + 1) w.heap.size _ HD11.o rfl HRP.o HRN.o HMN.o HSX.o (.tail _ (.head _)) (.tail _ (.tail _ (.head _))) (.tail _ (.tail _ (.tail _ (.head _)))) (.tail _ (.tail _ (.tail _ (.tail _ (.head _))))) (.tail _ (.tail _ (.tail _ (.tail _ (.tail _ (.tail _ (.tail _ (.head _)))))))) (.tail _ (.tail _ (.tail _ (.tail _ (.tail _ (.tail _ (.tail _ (.tail _ (.head _)))))))))).mono ?_ | refine (sub_go2 w ob sb eb _ c i rf f m x' (.slice A1 m.length c1) (.slice (some ⟨gf, 0, none⟩) rf.length cf) (.slice none 0 0) gf cf xb db tb rb (w.heap.size + 1) w.heap.size _ HD11.o rfl HRP.o HRN.o HMN.o HSX.o (.tail _ (.head _)) (.tail _ (.tail _ (.head _))) (.tail _ (.tail _ (.tail _ (.head _)))) (.tail _ (.tail _ (.tail _ (.tail _ (.head _))))) (.tail _ (.tail _ (.tail _ (.tail _ (.tail _ (.tail _ (.tail _ (.head _)))))))) (.tail _ (.tail _ (.tail _ (.tail _ (.tail _ (.tail _ (.tail _ (.tail _ (.head _)))))))))).mono ?_ | refine (sub_go3 w ob sb eb _ c i rf f m x' (.slice A1 m.length c1) (.slice (some ⟨gf, 0, none⟩) rf.length cf) (.slice none 0 0) gf cf xb db tb rb (w.heap.size + 1) w.heap.size _ HD11.o rfl HRP.o HRN.o HMN.o HSX.o (.tail _ (.head _)) (.tail _ (.tail _ (.head _))) (.tail _ (.tail _ (.tail _ (.head _)))) (.tail _ (.tail _ (.tail _ (.tail _ (.head _))))) (.tail _ (.tail _ (.tail _ (.tail _ (.tail _ (.tail _ (.tail _ (.head _)))))))) (.tail _ (.tail _ (.tail _ (.tail _ (.tail _ (.tail _ (.tail _ (.tail _ (.head _)))))))))).mono ?_ | refine (sub_go4 w ob sb eb _ c i rf f m x' (.slice A1 m.length c1) (.slice (some ⟨gf, 0, none⟩) rf.length cf) (.slice none 0 0) gf cf xb db tb rb (w.heap.size + 1) w.heap.size _ HD11.o rfl HRP.o HRN.o HMN.o HSX.o (.tail _ (.head _)) (.tail _ (.tail _ (.head _))) (.tail _ (.tail _ (.tail _ (.head _)))) (.tail _ (.tail _ (.tail _ (.tail _ (.head _))))) (.tail _ (.tail _ (.tail _ (.tail _ (.tail _ (.tail _ (.tail _ (.head _)))))))) (.tail _ (.tail _ (.tail _ (.tail _ (.tail _ (.tail _ (.tail _ (.tail _ (.head _)))))))))).mono ?_ | refine (sub_go5 w ob sb eb _ c i rf f m x' (.slice A1 m.length c1) (.slice (some ⟨gf, 0, none⟩) rf.length cf) (.slice none 0 0) gf cf xb db tb rb (w.heap.size + 1) w.heap.size _ HD11.o rfl HRP.o HRN.o HMN.o HSX.o (.tail _ (.head _)) (.tail _ (.tail _ (.head _))) (.tail _ (.tail _ (.tail _ (.head _)))) (.tail _ (.tail _ (.tail _ (.tail _ (.head _))))) (.tail _ (.tail _ (.tail _ (.tail _ (.tail _ (.tail _ (.tail _ (.head _)))))))) (.tail _ (.tail _ (.tail _ (.tail _ (.tail _ (.tail _ (.tail _ (.tail _ (.head _)))))))))).mono ?_)
  all_goals (
   rintro e w20 ⟨⟨u, rfl⟩, vr9, vm9, ve9, hs, hrv⟩
   obtain ⟨dA, dn, dc, rfl⟩ := RV_form hrv
   have HRV := qQ hrv
   clear hrv
   have HD20 := qQ hs
   clear hs
   have AB := qQ (show w20.heap[w.heap.size + 1 + 1 + 1]? = some (.cells #[.int .i64 0, .slice none 0 0, .int .i64 0, .int .i64 0, .int .i64 0, .int .u64 0, .int .u64 0, .int .u64 0, .int .i64 0] 68 (0, 0)) from (HD20.o.cb (w.heap.size + 1 + 1 + 1, #[.int .i64 0, .slice none 0 0, .int .i64 0, .int .i64 0, .int .i64 0, .int .u64 0, .int .u64 0, .int .u64 0, .int .i64 0], 68) (.tail _ (.tail _ (.tail _ (.tail _ (.tail _ (.head _))))))).1)
   have NB := qQ (show w.heap.size + 1 + 1 + 1 ≠ ob ∧ w.heap.size + 1 + 1 + 1 ≠ sb ∧ w.heap.size + 1 + 1 + 1 ≠ eb from (fun h => ⟨h.2.1, h.2.2.1, h.2.2.2.1⟩) (HD20.o.cb (w.heap.size + 1 + 1 + 1, #[.int .i64 0, .slice none 0 0, .int .i64 0, .int .i64 0, .int .i64 0, .int .u64 0, .int .u64 0, .int .u64 0, .int .i64 0], 68) (.tail _ (.tail _ (.tail _ (.tail _ (.tail _ (.head _))))))))
   have hg9 := nine AB.o x'.pc (.slice dA dn dc) x'.f
   unfold w9 at hg9
   try dsimp only at hg9
   have G9 := qQ hg9
   clear hg9
   go_wp2
   refine zS 6 [] (fun W' => W'.heap[ob]? = some (.cells #[vm9] 30 (0, 0)) ∧ W'.heap[sb]? = some (.cells (subZ x'.pc (.slice dA dn dc) x'.f) 68 (0, 0)) ∧ W'.heap[eb]? = some (.cells #[ve9] 35 (0, 0))) ⟨HD20.o.ho, HD20.o.hs, HD20.o.he⟩ fun hHeld => ?_
   refine zT 0 1 58 ?_ (hy := zy14)
   refine zT 1 3 59 ?_ (hy := zy14)
   refine zT 2 7 60 ?_ (hy := zy14)
   refine zY 3 15 10 ?_
   refine one_ (i := 4) (N := none) (zM 6 31) rfl rfl (by kernel_rfl) (by decide) (fun K hK => ?_)
   have y0 := fun j => blk_cell AB.o j
   have y1 := fun j => blk_frozen AB.o j
   go_simp
   refine hK.out _ _ ?far (fun hHeld => ?_)
   case far => exact ⟨blk_drew ((G9.o.2.1 ob (Ne.symm NB.o.1)).trans HD20.o.ho), blk_drew ((G9.o.2.1 sb (Ne.symm NB.o.2.1)).trans HD20.o.hs), blk_drew ((G9.o.2.1 eb (Ne.symm NB.o.2.2)).trans HD20.o.he)⟩
   refine zY 5 63 12 ?_
   refine zD ?_
   obtain ⟨g1, g2, g3⟩ := G9.o
   have Q1 := qQ (blk_drew g1)
   have Q2 := qQ (Kd.R_drew (R_but (t := 68) HD20.o.rm AB.o (T1 (by decide)) g2))
   have Q3 := qQ (RV_V HRV.o (Kd.R_V (base' := 0) (Kd.R_mono (Kd.R_bound (Kd.R_drew (R_but (t := 68) HD20.o.rr AB.o (T1 (by decide)) g2))) (fun k hk => tb3 hk.2))) HRP.o)
   have Q5 := qQ (Kd.R_drew (R_but (t := 68) HD20.o.re AB.o (T1 (by decide)) g2))
   have Q4 := qQ (below_drew (g3 _ _ HD20.o.bel (by omega)))
   clear hHeld y0 y1 g1 g2 g3 G9
   go_wp2
   refine bodyPost_ret (results_list (rs := [.tmp 10, .cell 11 68, .tmp 12]) rfl (by simp) (.tmp (.cell (w.heap.size + 1 + 1 + 1) 68 (subZ x'.pc (.slice dA dn dc) x'.f) (0, 0) _ rfl Q1.o Tryz.underlying68 rfl (by kernel_rfl) (.tmp .nil)))) rfl ?_
   exact ⟨_, _, _, rfl, Q2.o, Q3.o, Q5.o, Q4.o⟩)
end
end Go.Proofs.YthoeodjgfelkhaaGreat.QT
