/- Part 37 of the claim on TopWakes: awake; the model's steps; a worker's step in the model. No condition. -/
import Derived.Test.YthoeodjgfelkhaaGreatm15
import Derived.Test.YthoeodjgfelkhaaGreatm16
import Derived.Test.YthoeodjgfelkhaaGreatm22
import Derived.Test.YthoeodjgfelkhaaGreatm31
import Derived.Test.YthoeodjgfelkhaaGreatm36
set_option linter.unusedVariables false
set_option linter.unusedSimpArgs false
set_option maxRecDepth 100000
set_option maxHeartbeats 8000000
namespace Go.Proofs.YthoeodjgfelkhaaGreat.QT
open Go.RowKit Go.Proofs.YthoeodjgfelkhaaGreatW.PrintWords Go.Proofs.YthoeodjgfelkhaaGreatW.PrintLast Go.Proofs.YthoeodjgfelkhaaGreatW.PrintMore
attribute [local go_sem] max2_int min2_int max_two min_two
def cA : Cf := ⟨2, 1, 1, 1⟩
def tA : List S45 := [⟨1, [1]⟩, ⟨2, []⟩]
def rA : List (List Int) := [[0]]
def sA : List Int := [1, 0, 0, 1, 0, 0]
theorem C_ints {k : IntKind} (w : World) (g t : Nat) (l : List Int) (h : w.heap[g]? = some (.cells (l.map (Value.int k)).toArray t (0, 0))) (hl : l.length ≤ 1000000 := by decide) : Kd.C (Kd.int k) w (some ⟨g, 0, none⟩) l.length l :=
 ⟨rfl, by omega, fun _ => ⟨_, rfl, fun j p hj => ⟨[.int k p], rfl, rfl, fun i u hu => by
  cases i with
  | zero =>
   have hu' : Value.int k p = u := by simpa using hu
   subst hu'
   have h1 := blk_cell h j
   have ha : (⟨g, 0, none⟩ : Addr).add (j * (Kd.int k).sz + 0) = ⟨g, j, none⟩ := by
    show (⟨g, 0, none⟩ : Addr).add (j * 1 + 0) = ⟨g, j, none⟩
    rw [Nat.mul_one, Nat.add_zero]
    unfold Addr.add
    split <;> simp_all
   rw [ha, h1]
   simp [hj]
  | succ i => simp at hu⟩⟩⟩
theorem C_tA (w : World) (g g2 : Nat) (h : w.heap[g2]? = some (.cells #[.int .i64 1, .slice (some ⟨g, 0, none⟩) 1 1, .int .i64 2, .slice none 0 0] 45 (0, 0))) (hc : Kd.C (Kd.int .i64) w (some ⟨g, 0, none⟩) 1 [1]) : Kd.C k45 w (some ⟨g2, 0, none⟩) 2 tA :=
 ⟨rfl, by decide, fun _ => ⟨_, rfl, fun j p hj => by
  have hb := fun j => blk_cell h j
  match j, hj with
  | 0, hj =>
   have hp : (⟨1, [1]⟩ : S45) = p := by simpa [tA] using hj
   subst hp
   refine ⟨_, ?_, k45_mk w ⟨1, [1]⟩ (c1 := 1) (Nat.le_refl _) hc, fun i u hu => ?_⟩
   ·rfl
   ·match i, hu with
    | 0, hu => rw [show (⟨g2, 0, none⟩ : Addr).add (0 * k45.sz + 0) = ⟨g2, 0, none⟩ from rfl, hb 0]; exact hu
    | 1, hu => rw [show (⟨g2, 0, none⟩ : Addr).add (0 * k45.sz + 1) = ⟨g2, 1, none⟩ from rfl, hb 1]; exact hu
    | (i + 2), hu => simp at hu
  | 1, hj =>
   have hp : (⟨2, []⟩ : S45) = p := by simpa [tA] using hj
   subst hp
   refine ⟨_, ?_, k45_mk w ⟨2, []⟩ (A1 := none) (c1 := 0) (Nat.le_refl _) (Kd.C_nil _ _), fun i u hu => ?_⟩
   ·rfl
   ·match i, hu with
    | 0, hu => rw [show (⟨g2, 0, none⟩ : Addr).add (1 * k45.sz + 0) = ⟨g2, 2, none⟩ from rfl, hb 2]; exact hu
    | 1, hu => rw [show (⟨g2, 0, none⟩ : Addr).add (1 * k45.sz + 1) = ⟨g2, 3, none⟩ from rfl, hb 3]; exact hu
    | (i + 2), hu => simp at hu
  | (j + 2), hj => simp [tA] at hj⟩⟩
theorem C_rA (w : World) (g g2 : Nat) (h : w.heap[g2]? = some (.cells #[.slice (some ⟨g, 0, none⟩) 1 1] 43 (0, 0))) (hc : Kd.C (Kd.int .i64) w (some ⟨g, 0, none⟩) 1 [0]) : Kd.C (Kd.slice 3 (Kd.int .i64)) w (some ⟨g2, 0, none⟩) 1 rA :=
 ⟨rfl, by decide, fun _ => ⟨_, rfl, fun j p hj => by
  match j, hj with
  | 0, hj =>
   have hp : ([0] : List Int) = p := by simpa [rA] using hj
   subst hp
   refine ⟨[.slice (some ⟨g, 0, none⟩) 1 1], rfl, ⟨_, 1, rfl, Nat.le_refl _, hc⟩, fun i u hu => ?_⟩
   match i, hu with
   | 0, hu => rw [show (⟨g2, 0, none⟩ : Addr).add (0 * (Kd.slice 3 (Kd.int .i64)).sz + 0) = ⟨g2, 0, none⟩ from rfl, blk_cell h 0]; exact hu
   | (i + 1), hu => simp at hu
  | (j + 1), hj => simp [rA] at hj⟩⟩
structure AwakeOK (m : List Int) (ws : List S76) (ss : List S68) (m1 : List Int) (ws1 : List S76) (ss1 : List S68) (e1 : List S40) (m2 : List Int) (ws2 : List S76) (ss2 : List S68) (e2 : List S40) (cnt : Nat) : Prop where
 new : newF cA tA rA = some (m, ws, ss)
 g0 : DrGood cA tA m ws ss
 run : RunR cA tA ss.length m1 ws1 ss1 (decF sA) m ws ss e1
 g1 : DrGood cA tA m1 ws1 ss1
 dr : DrainR cA tA 2 ss1.length m2 ws2 ss2 cnt 1000 0 m1 ws1 ss1 e2
 g2 : DrGood cA tA m2 ws2 ss2
 rest : restedB cA m2 ws2 ss2 = true
 s1 : cntE e2 0 = 1
 d1 : cntE e2 4 = 2
 n1 : e1.length ≤ 1000000
 n2 : e2.length ≤ 1000000
theorem awake_4 {m : List Int} {ws : List S76} {ss : List S68} {m1 : List Int} {ws1 : List S76} {ss1 : List S68} {e1 : List S40} {m2 : List Int} {ws2 : List S76} {ss2 : List S68} {e2 : List S40} {cnt : Nat} (h : AwakeOK m ws ss m1 ws1 ss1 e1 m2 ws2 ss2 e2 cnt) (w : World) :
  Calls Tryz.prog 4 #[] w fun e w' => e = .returned (.bool true) ∧ Below w.heap.size w w' := by
 have H := qQ h
 clear h
 have hg0 : PMay cA tA m ws ss := H.o.g0.1
 have hm0 := H.o.g0.2.1
 have hw0 := H.o.g0.2.2.1
 have hn2 := H.o.n2
 have hg2 : PMay cA tA m2 ws2 ss2 := H.o.g2.1
 have hw2 := H.o.g2.2.2.1
 have hn1 : e1.length ≤ 1000000000 := Nat.le_trans H.o.n1 (by decide)
 have b0 : (((((w.alloc (.cells #[.int .i64 1] 3)).alloc (.cells #[.int .i64 1, .slice (some ⟨w.heap.size, 0, none⟩) 1 1, .int .i64 2, .slice none 0 0] 45)).alloc (.cells #[.int .i64 0] 3)).alloc (.cells #[.slice (some ⟨w.heap.size + 1 + 1, 0, none⟩) 1 1] 43)).alloc (.cells #[.int .u8 1, .int .u8 0, .int .u8 0, .int .u8 1, .int .u8 0, .int .u8 0] 5)).heap[w.heap.size]? = some (.cells #[.int .i64 1] 3) := by
  have h0 : (w.alloc (.cells #[.int .i64 1] 3)).heap[w.heap.size]? = some (.cells #[.int .i64 1] 3) := by
   have h1 := blk_new w (.cells #[.int .i64 1] 3)
   simpa using h1
  exact blk_alloc (blk_alloc (blk_alloc (blk_alloc (h0) (.cells #[.int .i64 1, .slice (some ⟨w.heap.size, 0, none⟩) 1 1, .int .i64 2, .slice none 0 0] 45)) (.cells #[.int .i64 0] 3)) (.cells #[.slice (some ⟨w.heap.size + 1 + 1, 0, none⟩) 1 1] 43)) (.cells #[.int .u8 1, .int .u8 0, .int .u8 0, .int .u8 1, .int .u8 0, .int .u8 0] 5)
 have b1 : (((((w.alloc (.cells #[.int .i64 1] 3)).alloc (.cells #[.int .i64 1, .slice (some ⟨w.heap.size, 0, none⟩) 1 1, .int .i64 2, .slice none 0 0] 45)).alloc (.cells #[.int .i64 0] 3)).alloc (.cells #[.slice (some ⟨w.heap.size + 1 + 1, 0, none⟩) 1 1] 43)).alloc (.cells #[.int .u8 1, .int .u8 0, .int .u8 0, .int .u8 1, .int .u8 0, .int .u8 0] 5)).heap[w.heap.size + 1]? = some (.cells #[.int .i64 1, .slice (some ⟨w.heap.size, 0, none⟩) 1 1, .int .i64 2, .slice none 0 0] 45) := by
  have h0 : ((w.alloc (.cells #[.int .i64 1] 3)).alloc (.cells #[.int .i64 1, .slice (some ⟨w.heap.size, 0, none⟩) 1 1, .int .i64 2, .slice none 0 0] 45)).heap[w.heap.size + 1]? = some (.cells #[.int .i64 1, .slice (some ⟨w.heap.size, 0, none⟩) 1 1, .int .i64 2, .slice none 0 0] 45) := by
   have h1 := blk_new (w.alloc (.cells #[.int .i64 1] 3)) (.cells #[.int .i64 1, .slice (some ⟨w.heap.size, 0, none⟩) 1 1, .int .i64 2, .slice none 0 0] 45)
   simpa using h1
  exact blk_alloc (blk_alloc (blk_alloc (h0) (.cells #[.int .i64 0] 3)) (.cells #[.slice (some ⟨w.heap.size + 1 + 1, 0, none⟩) 1 1] 43)) (.cells #[.int .u8 1, .int .u8 0, .int .u8 0, .int .u8 1, .int .u8 0, .int .u8 0] 5)
 have b2 : (((((w.alloc (.cells #[.int .i64 1] 3)).alloc (.cells #[.int .i64 1, .slice (some ⟨w.heap.size, 0, none⟩) 1 1, .int .i64 2, .slice none 0 0] 45)).alloc (.cells #[.int .i64 0] 3)).alloc (.cells #[.slice (some ⟨w.heap.size + 1 + 1, 0, none⟩) 1 1] 43)).alloc (.cells #[.int .u8 1, .int .u8 0, .int .u8 0, .int .u8 1, .int .u8 0, .int .u8 0] 5)).heap[w.heap.size + 1 + 1]? = some (.cells #[.int .i64 0] 3) := by
  have h0 : (((w.alloc (.cells #[.int .i64 1] 3)).alloc (.cells #[.int .i64 1, .slice (some ⟨w.heap.size, 0, none⟩) 1 1, .int .i64 2, .slice none 0 0] 45)).alloc (.cells #[.int .i64 0] 3)).heap[w.heap.size + 1 + 1]? = some (.cells #[.int .i64 0] 3) := by
   have h1 := blk_new ((w.alloc (.cells #[.int .i64 1] 3)).alloc (.cells #[.int .i64 1, .slice (some ⟨w.heap.size, 0, none⟩) 1 1, .int .i64 2, .slice none 0 0] 45)) (.cells #[.int .i64 0] 3)
   simpa using h1
  exact blk_alloc (blk_alloc (h0) (.cells #[.slice (some ⟨w.heap.size + 1 + 1, 0, none⟩) 1 1] 43)) (.cells #[.int .u8 1, .int .u8 0, .int .u8 0, .int .u8 1, .int .u8 0, .int .u8 0] 5)
 have b3 : (((((w.alloc (.cells #[.int .i64 1] 3)).alloc (.cells #[.int .i64 1, .slice (some ⟨w.heap.size, 0, none⟩) 1 1, .int .i64 2, .slice none 0 0] 45)).alloc (.cells #[.int .i64 0] 3)).alloc (.cells #[.slice (some ⟨w.heap.size + 1 + 1, 0, none⟩) 1 1] 43)).alloc (.cells #[.int .u8 1, .int .u8 0, .int .u8 0, .int .u8 1, .int .u8 0, .int .u8 0] 5)).heap[w.heap.size + 1 + 1 + 1]? = some (.cells #[.slice (some ⟨w.heap.size + 1 + 1, 0, none⟩) 1 1] 43) := by
  have h0 : ((((w.alloc (.cells #[.int .i64 1] 3)).alloc (.cells #[.int .i64 1, .slice (some ⟨w.heap.size, 0, none⟩) 1 1, .int .i64 2, .slice none 0 0] 45)).alloc (.cells #[.int .i64 0] 3)).alloc (.cells #[.slice (some ⟨w.heap.size + 1 + 1, 0, none⟩) 1 1] 43)).heap[w.heap.size + 1 + 1 + 1]? = some (.cells #[.slice (some ⟨w.heap.size + 1 + 1, 0, none⟩) 1 1] 43) := by
   have h1 := blk_new (((w.alloc (.cells #[.int .i64 1] 3)).alloc (.cells #[.int .i64 1, .slice (some ⟨w.heap.size, 0, none⟩) 1 1, .int .i64 2, .slice none 0 0] 45)).alloc (.cells #[.int .i64 0] 3)) (.cells #[.slice (some ⟨w.heap.size + 1 + 1, 0, none⟩) 1 1] 43)
   simpa using h1
  exact blk_alloc (h0) (.cells #[.int .u8 1, .int .u8 0, .int .u8 0, .int .u8 1, .int .u8 0, .int .u8 0] 5)
 have b4 : (((((w.alloc (.cells #[.int .i64 1] 3)).alloc (.cells #[.int .i64 1, .slice (some ⟨w.heap.size, 0, none⟩) 1 1, .int .i64 2, .slice none 0 0] 45)).alloc (.cells #[.int .i64 0] 3)).alloc (.cells #[.slice (some ⟨w.heap.size + 1 + 1, 0, none⟩) 1 1] 43)).alloc (.cells #[.int .u8 1, .int .u8 0, .int .u8 0, .int .u8 1, .int .u8 0, .int .u8 0] 5)).heap[w.heap.size + 1 + 1 + 1 + 1]? = some (.cells #[.int .u8 1, .int .u8 0, .int .u8 0, .int .u8 1, .int .u8 0, .int .u8 0] 5) := by
  have h0 : (((((w.alloc (.cells #[.int .i64 1] 3)).alloc (.cells #[.int .i64 1, .slice (some ⟨w.heap.size, 0, none⟩) 1 1, .int .i64 2, .slice none 0 0] 45)).alloc (.cells #[.int .i64 0] 3)).alloc (.cells #[.slice (some ⟨w.heap.size + 1 + 1, 0, none⟩) 1 1] 43)).alloc (.cells #[.int .u8 1, .int .u8 0, .int .u8 0, .int .u8 1, .int .u8 0, .int .u8 0] 5)).heap[w.heap.size + 1 + 1 + 1 + 1]? = some (.cells #[.int .u8 1, .int .u8 0, .int .u8 0, .int .u8 1, .int .u8 0, .int .u8 0] 5) := by
   have h1 := blk_new ((((w.alloc (.cells #[.int .i64 1] 3)).alloc (.cells #[.int .i64 1, .slice (some ⟨w.heap.size, 0, none⟩) 1 1, .int .i64 2, .slice none 0 0] 45)).alloc (.cells #[.int .i64 0] 3)).alloc (.cells #[.slice (some ⟨w.heap.size + 1 + 1, 0, none⟩) 1 1] 43)) (.cells #[.int .u8 1, .int .u8 0, .int .u8 0, .int .u8 1, .int .u8 0, .int .u8 0] 5)
   simpa using h1
  exact h0
 have HB5 := qQ (show Below w.heap.size w (((((w.alloc (.cells #[.int .i64 1] 3)).alloc (.cells #[.int .i64 1, .slice (some ⟨w.heap.size, 0, none⟩) 1 1, .int .i64 2, .slice none 0 0] 45)).alloc (.cells #[.int .i64 0] 3)).alloc (.cells #[.slice (some ⟨w.heap.size + 1 + 1, 0, none⟩) 1 1] 43)).alloc (.cells #[.int .u8 1, .int .u8 0, .int .u8 0, .int .u8 1, .int .u8 0, .int .u8 0] 5)) from (below_alloc (below_alloc (below_alloc (below_alloc (below_alloc (Below.refl _ _) _) _) _) _) _))
 have HI := C_ints (k := .i64) (((((w.alloc (.cells #[.int .i64 1] 3)).alloc (.cells #[.int .i64 1, .slice (some ⟨w.heap.size, 0, none⟩) 1 1, .int .i64 2, .slice none 0 0] 45)).alloc (.cells #[.int .i64 0] 3)).alloc (.cells #[.slice (some ⟨w.heap.size + 1 + 1, 0, none⟩) 1 1] 43)).alloc (.cells #[.int .u8 1, .int .u8 0, .int .u8 0, .int .u8 1, .int .u8 0, .int .u8 0] 5)) w.heap.size 3 [1] b0
 have HJ := C_ints (k := .i64) (((((w.alloc (.cells #[.int .i64 1] 3)).alloc (.cells #[.int .i64 1, .slice (some ⟨w.heap.size, 0, none⟩) 1 1, .int .i64 2, .slice none 0 0] 45)).alloc (.cells #[.int .i64 0] 3)).alloc (.cells #[.slice (some ⟨w.heap.size + 1 + 1, 0, none⟩) 1 1] 43)).alloc (.cells #[.int .u8 1, .int .u8 0, .int .u8 0, .int .u8 1, .int .u8 0, .int .u8 0] 5)) (w.heap.size + 1 + 1) 3 [0] b2
 have HS := qQ (C_ints (k := .u8) (((((w.alloc (.cells #[.int .i64 1] 3)).alloc (.cells #[.int .i64 1, .slice (some ⟨w.heap.size, 0, none⟩) 1 1, .int .i64 2, .slice none 0 0] 45)).alloc (.cells #[.int .i64 0] 3)).alloc (.cells #[.slice (some ⟨w.heap.size + 1 + 1, 0, none⟩) 1 1] 43)).alloc (.cells #[.int .u8 1, .int .u8 0, .int .u8 0, .int .u8 1, .int .u8 0, .int .u8 0] 5)) (w.heap.size + 1 + 1 + 1 + 1) 5 sA b4)
 have HT := qQ (C_tA (((((w.alloc (.cells #[.int .i64 1] 3)).alloc (.cells #[.int .i64 1, .slice (some ⟨w.heap.size, 0, none⟩) 1 1, .int .i64 2, .slice none 0 0] 45)).alloc (.cells #[.int .i64 0] 3)).alloc (.cells #[.slice (some ⟨w.heap.size + 1 + 1, 0, none⟩) 1 1] 43)).alloc (.cells #[.int .u8 1, .int .u8 0, .int .u8 0, .int .u8 1, .int .u8 0, .int .u8 0] 5)) _ _ b1 HI)
 have HR := qQ (C_rA (((((w.alloc (.cells #[.int .i64 1] 3)).alloc (.cells #[.int .i64 1, .slice (some ⟨w.heap.size, 0, none⟩) 1 1, .int .i64 2, .slice none 0 0] 45)).alloc (.cells #[.int .i64 0] 3)).alloc (.cells #[.slice (some ⟨w.heap.size + 1 + 1, 0, none⟩) 1 1] 43)).alloc (.cells #[.int .u8 1, .int .u8 0, .int .u8 0, .int .u8 1, .int .u8 0, .int .u8 0] 5)) _ _ b3 HJ)
 have hdec : sA.length = 6 := rfl
 clear b0 b1 b2 b3 b4 HI HJ
 go_enter Tryz.func4, Tryz.ntmps4
 generalize hw5 : (((((w.alloc (.cells #[.int .i64 1] 3)).alloc (.cells #[.int .i64 1, .slice (some ⟨w.heap.size, 0, none⟩) 1 1, .int .i64 2, .slice none 0 0] 45)).alloc (.cells #[.int .i64 0] 3)).alloc (.cells #[.slice (some ⟨w.heap.size + 1 + 1, 0, none⟩) 1 1] 43)).alloc (.cells #[.int .u8 1, .int .u8 0, .int .u8 0, .int .u8 1, .int .u8 0, .int .u8 0] 5)) = w5 at HB5 HS HT HR
 have hcall := play_some cA tA _ 2 rA _ 1 sA _ 6 w5 HT.o (by decide) HR.o HS.o (by decide) (by decide) (by decide) (by decide) (by decide) (by decide) m m1 ws ws1 ss ss1 e1 H.o.new hg0 hm0 hw0 H.o.run hn1
 change Calls Tryz.prog 6 #[.agg #[.int .i64 2, .int .i64 1, .int .i64 1, .int .i64 1], .slice (some ⟨w.heap.size + 1, 0, none⟩) 2 2, .slice (some ⟨w.heap.size + 1 + 1 + 1, 0, none⟩) 1 1, .slice (some ⟨w.heap.size + 1 + 1 + 1 + 1, 0, none⟩) 6 6] w5 _ at hcall
 have HC6 := qQ hcall
 clear hcall hg0 hm0 hw0 hn1
 go_wp2_with (first | (go_at_call 6; (with_reducible refine HC6.o.mono ?_); rintro e w6 ⟨vT, vM, vW, vS, ve, rfl, z1, z2, z3, z4, z5, hb⟩; obtain ⟨A1, c1, eo⟩ := Kd.R_slice z1; subst eo; obtain ⟨A2, c2, eo⟩ := Kd.R_slice z2; subst eo; obtain ⟨A3, c3, eo⟩ := Kd.R_slice z3; subst eo; obtain ⟨A4, c4, eo⟩ := Kd.R_slice z4; subst eo; obtain ⟨A5, c5, eo⟩ := Kd.R_slice z5; subst eo; have HA := below_alloc (Below.refl w6.heap.size w6) (.cells (pC cA (.slice A1 tA.length c1) (.slice A2 m1.length c2) (.slice A3 ws1.length c3) (.slice A4 ss1.length c4)) 34); have B7 := below_all (below_all HB5 ⟨hb⟩) ⟨HA⟩; have Y1 := qQ (Kd.R_below z1 HA); have Y2 := qQ (Kd.R_below z2 HA); have Y3 := qQ (Kd.R_below z3 HA); have Y4 := qQ (Kd.R_below z4 HA); have P7 := qQ (blk_new w6 (.cells (pC cA (.slice A1 tA.length c1) (.slice A2 m1.length c2) (.slice A3 ws1.length c3) (.slice A4 ss1.length c4)) 34)); have x0 := fun j => blk_cell P7.o j; clear hb HA z1 z2 z3 z4 z5 HC6; have hcall := drain_8 cA tA A1 c1 m1 A2 c2 ws1 A3 c3 ss1 A4 c4 1000 2 m2 ws2 ss2 cnt e2 (w6.alloc (.cells (pC cA (.slice A1 tA.length c1) (.slice A2 m1.length c2) (.slice A3 ws1.length c3) (.slice A4 ss1.length c4)) 34)) ⟨(Kd.R_reads' Y1.o).2.2, (Kd.R_reads' Y2.o).2.2, (Kd.R_reads' Y3.o).2.2, k68v_C (Kd.R_reads' Y4.o).2.2, (Kd.R_reads' Y1.o).2.1, (Kd.R_reads' Y2.o).2.1⟩ H.o.g1 (by decide) (by decide) rfl (by decide) H.o.dr (Nat.le_trans H.o.n2 (by decide)); change Calls Tryz.prog 8 #[.agg (pC cA (.slice A1 tA.length c1) (.slice A2 m1.length c2) (.slice A3 ws1.length c3) (.slice A4 ss1.length c4)), .int .i64 1000] _ _ at hcall; have HC8 := qQ hcall; clear hcall) | (go_at_call 8; (with_reducible refine HC8.o.mono ?_); rintro e w8 ⟨vT, vM, vW, vS, ve, rfl, z1, z2, z3, z4, z5, hb⟩; obtain ⟨B1, d1, eo⟩ := Kd.R_slice z1; subst eo; obtain ⟨B2, d2, eo⟩ := Kd.R_slice z2; subst eo; obtain ⟨B3, d3, eo⟩ := Kd.R_slice z3; subst eo; obtain ⟨B4, d4, eo⟩ := Kd.R_slice z4; subst eo; obtain ⟨B5, d5, eo⟩ := Kd.R_slice z5; subst eo; have HA := below_alloc (Below.refl w8.heap.size w8) (.cells (pC cA (.slice B1 tA.length d1) (.slice B2 m2.length d2) (.slice B3 ws2.length d3) (.slice B4 ss2.length d4)) 34); have B9 := below_all (below_all B7 ⟨hb⟩) ⟨HA⟩; have Z1 := qQ (Kd.R_below z1 HA); have Z2 := qQ (Kd.R_below z2 HA); have Z3 := qQ (Kd.R_below z3 HA); have Z4 := qQ (Kd.R_below z4 HA); have Z5 := qQ (Kd.R_below z5 HA); have P9 := qQ (blk_new w8 (.cells (pC cA (.slice B1 tA.length d1) (.slice B2 m2.length d2) (.slice B3 ws2.length d3) (.slice B4 ss2.length d4)) 34)); clear hb HA z1 z2 z3 z4 z5 HC8 x0) | (go_at_call 9; (with_reducible refine (tells_9 _ B5 d5 e2 _ (Kd.R_reads' Z5.o).2.2 hn2).mono ?_); rintro e w10 ⟨rfl, hb⟩; rw [H.o.s1, H.o.d1]; have B10 := below_all B9 ⟨hb⟩; have P10 := qQ (blk_below P9.o hb); have HBX := qQ hb; have x0 := fun j => blk_cell P10.o j; clear hb) | (go_at_call 10; (with_reducible refine (rested_10 cA tA B1 d1 m2 B2 d2 ws2 B3 d3 ss2 B4 d4 _ ⟨(Kd.R_reads' (Kd.R_below Z1.o HBX.o)).2.2, (Kd.R_reads' (Kd.R_below Z2.o HBX.o)).2.2, (Kd.R_reads' (Kd.R_below Z3.o HBX.o)).2.2, k68v_C (Kd.R_reads' (Kd.R_below Z4.o HBX.o)).2.2, (Kd.R_reads' Z1.o).2.1, (Kd.R_reads' Z2.o).2.1⟩ hg2 hw2).mono ?_); rintro e w11 ⟨rfl, hb⟩; rw [H.o.rest]; have B11 := below_all B10 ⟨hb⟩; clear hb x0))
 go_ret
 exact ⟨rfl, B11.o⟩
theorem may_hi (c : Cf) (h : mayB c = true) : 1 ≤ c.d ∧ c.d ≤ 16 ∧ 1 ≤ c.i ∧ c.i ≤ 16 := by
 have hs : lay_May.f c.w c.d c.i c.s = some true := by rw [may_some, h]
 simp only [lay_May.f, lay_in.f] at hs
 by_cases a1 : c.w ≥ 1
 ·by_cases a2 : c.w ≤ 8
  ·by_cases b1 : c.d ≥ 1
   ·by_cases b2 : c.d ≤ 16
    ·by_cases e0 : Go.bits .and .i64 c.d (wrap64 (c.d - 1)) = 0
     ·by_cases d1 : c.i ≥ 1
      ·by_cases d2 : c.i ≤ 16
       ·exact ⟨b1, b2, d1, d2⟩
       ·simp [a1, a2, b1, b2, e0, d1, d2] at hs
      ·simp [a1, a2, b1, b2, e0, d1] at hs
     ·simp [a1, a2, b1, b2, e0] at hs
    ·simp [a1, a2, b1, b2] at hs
   ·simp [a1, a2, b1] at hs
  ·simp [a1, a2] at hs
 ·simp [a1] at hs
theorem may_z (c : Cf) (h : mayB c = true) : ¬ IntKind.u64.wrap c.i = 0 := by
 have := may_hi c h
 rw [IntKind.wrap_u64]
 omega
theorem at_ex (c : Cf) (wi r : Int) : ∃ q, lay_at.f c.w c.d c.i c.s wi (some r) = some q := by
 unfold lay_at.f
 rw [may_some]
 simp only [Option.bind_some, lay_in.f]
 split
 ·split
  ·simp only [Option.bind_some]
   split <;> exact ⟨_, rfl⟩
  ·exact ⟨-1, by simp⟩
 ·exact ⟨_, rfl⟩
def topF (c : Cf) (wi : Int) : Int := (lay_Top.f c.w c.d c.i c.s wi).getD 0
def bottomF (c : Cf) (wi : Int) : Int := (lay_Bottom.f c.w c.d c.i c.s wi).getD 0
def slotF (c : Cf) (wi x : Int) : Int := (lay_Slot.f c.w c.d c.i c.s wi x).getD 0
def seqF (c : Cf) (x : Int) : Int := (lay_Seq.f c.w c.d c.i c.s x).getD 0
def valF (c : Cf) (x : Int) : Int := (lay_Val.f c.w c.d c.i c.s x).getD 0
def wsetF (a i : Int) : Int := (word_Set.f a i).getD 0
theorem get_some {o : Option Int} (h : ∃ q, o = some q) : o = some (o.getD 0) := by obtain ⟨q, rfl⟩ := h; rfl
theorem top_some (c : Cf) (wi : Int) : lay_Top.f c.w c.d c.i c.s wi = some (topF c wi) := get_some (at_ex c wi _)
theorem bottom_some (c : Cf) (wi : Int) : lay_Bottom.f c.w c.d c.i c.s wi = some (bottomF c wi) := get_some (at_ex c wi _)
theorem slot_some (c : Cf) (wi x : Int) : lay_Slot.f c.w c.d c.i c.s wi x = some (slotF c wi x) := get_some (at_ex c wi _)
theorem seq_some (c : Cf) (x : Int) (hz : ¬ IntKind.u64.wrap c.i = 0) : lay_Seq.f c.w c.d c.i c.s x = some (seqF c x) := get_some (by unfold lay_Seq.f; rw [if_neg hz]; exact at_ex c 0 _)
theorem val_some (c : Cf) (x : Int) (hz : ¬ IntKind.u64.wrap c.i = 0) : lay_Val.f c.w c.d c.i c.s x = some (valF c x) := get_some (by unfold lay_Val.f; rw [if_neg hz]; exact at_ex c 0 _)
theorem wset_some (a i : Int) : word_Set.f a i = some (wsetF a i) := get_some (by
 unfold word_Set.f
 split
 ·exact ⟨_, rfl⟩
 ·split
  ·exact ⟨_, rfl⟩
  ·rw [if_pos (by omega)]; exact ⟨_, rfl⟩)
def pushF (c : Cf) (f : S66) (l : List Int) : S66 × List Int :=
 if goesB c l.length f 0 4 = true then
  if f.f1 = 0 then ({ f with f4 := loadF l (bottomF c f.f2), f1 := 1 }, l)
  else if f.f1 = 1 then (if IntKind.u64.wrap (f.f4 - loadF l (topF c f.f2)) ≥ IntKind.u64.wrap c.d then ⟨f.f0, 0, f.f2, f.f3, 0, 0, 2⟩ else { f with f5 := loadF l (topF c f.f2), f1 := 2 }, l)
  else if f.f1 = 2 then ({ f with f1 := 3 }, storeF l (slotF c f.f2 f.f4) f.f3)
  else (⟨f.f0, 0, f.f2, f.f3, 0, 0, 1⟩, storeF l (bottomF c f.f2) (IntKind.u64.wrap (f.f4 + 1)))
 else (f, l)
def popF (c : Cf) (f : S66) (l : List Int) : S66 × List Int :=
 if goesB c l.length f 1 7 = true then
  if f.f1 = 0 then ({ f with f4 := IntKind.u64.wrap (loadF l (bottomF c f.f2) - 1), f1 := 1 }, l)
  else if f.f1 = 1 then ({ f with f1 := 2 }, storeF l (bottomF c f.f2) f.f4)
  else if f.f1 = 2 then (if wrap64 (IntKind.u64.wrap (f.f4 - loadF l (topF c f.f2))) < 0 then { f with f5 := loadF l (topF c f.f2), f1 := 6 } else { f with f5 := loadF l (topF c f.f2), f1 := 3 }, l)
  else if f.f1 = 3 then (if f.f4 = f.f5 then { f with f3 := loadF l (slotF c f.f2 f.f4), f1 := 4 } else (⟨f.f0, 0, f.f2, loadF l (slotF c f.f2 f.f4), 0, 0, 1⟩ : S66), l)
  else if f.f1 = 4 then (if (casF l (topF c f.f2) f.f5 (IntKind.u64.wrap (f.f5 + 1))).2 = true then { f with f1 := 5 } else { f with f1 := 6 }, (casF l (topF c f.f2) f.f5 (IntKind.u64.wrap (f.f5 + 1))).1)
  else if f.f1 = 5 then ((⟨f.f0, 0, f.f2, f.f3, 0, 0, 1⟩ : S66), storeF l (bottomF c f.f2) (IntKind.u64.wrap (f.f4 + 1)))
  else ((⟨f.f0, 0, f.f2, 0, 0, 0, 3⟩ : S66), storeF l (bottomF c f.f2) (IntKind.u64.wrap (f.f4 + 1)))
 else (f, l)
def stealF (c : Cf) (f : S66) (l : List Int) : S66 × List Int :=
 if goesB c l.length f 2 4 = true then
  if f.f1 = 0 then ({ f with f5 := loadF l (topF c f.f2), f1 := 1 }, l)
  else if f.f1 = 1 then (if wrap64 (IntKind.u64.wrap (loadF l (bottomF c f.f2) - f.f5)) ≤ 0 then (⟨f.f0, 0, f.f2, 0, 0, 0, 3⟩ : S66) else { f with f4 := loadF l (bottomF c f.f2), f1 := 2 }, l)
  else if f.f1 = 2 then ({ f with f3 := loadF l (slotF c f.f2 f.f5), f1 := 3 }, l)
  else (if (casF l (topF c f.f2) f.f5 (IntKind.u64.wrap (f.f5 + 1))).2 = true then (⟨f.f0, 0, f.f2, f.f3, 0, 0, 1⟩ : S66) else (⟨f.f0, 0, f.f2, 0, 0, 0, 4⟩ : S66), (casF l (topF c f.f2) f.f5 (IntKind.u64.wrap (f.f5 + 1))).1)
 else (f, l)
def enqF (c : Cf) (f : S66) (l : List Int) : S66 × List Int :=
 if goesE c l.length f 3 = true then
  if f.f1 = 0 then ({ f with f4 := loadF l 5, f1 := 1 }, l)
  else if f.f1 = 1 then (if loadF l (seqF c f.f4) = freeF c f.f4 then { f with f5 := loadF l (seqF c f.f4), f1 := 2 } else if wrap64 (IntKind.u64.wrap (loadF l (seqF c f.f4) - freeF c f.f4)) < 0 then (⟨f.f0, 0, f.f2, f.f3, 0, 0, 2⟩ : S66) else { f with f5 := loadF l (seqF c f.f4), f1 := 0 }, l)
  else if f.f1 = 2 then ({ f with f1 := if (casF l 5 f.f4 (IntKind.u64.wrap (f.f4 + 1))).2 = true then 3 else 0 }, (casF l 5 f.f4 (IntKind.u64.wrap (f.f4 + 1))).1)
  else if f.f1 = 3 then ({ f with f1 := 4 }, storeF l (valF c f.f4) f.f3)
  else ((⟨f.f0, 0, f.f2, f.f3, 0, 0, 1⟩ : S66), storeF l (seqF c f.f4) (IntKind.u64.wrap (freeF c f.f4 + 1)))
 else (f, l)
def deqF (c : Cf) (f : S66) (l : List Int) : S66 × List Int :=
 if goesE c l.length f 4 = true then
  if f.f1 = 0 then ({ f with f4 := loadF l 4, f1 := 1 }, l)
  else if f.f1 = 1 then (if wrap64 (IntKind.u64.wrap (loadF l (seqF c f.f4) - fullF c f.f4)) = 0 then { f with f5 := loadF l (seqF c f.f4), f1 := 2 } else if wrap64 (IntKind.u64.wrap (loadF l (seqF c f.f4) - fullF c f.f4)) < 0 then (⟨f.f0, 0, f.f2, 0, 0, 0, 3⟩ : S66) else { f with f5 := loadF l (seqF c f.f4), f1 := 0 }, l)
  else if f.f1 = 2 then ({ f with f1 := if (casF l 4 f.f4 (IntKind.u64.wrap (f.f4 + 1))).2 = true then 3 else 0 }, (casF l 4 f.f4 (IntKind.u64.wrap (f.f4 + 1))).1)
  else if f.f1 = 3 then ({ f with f3 := loadF l (valF c f.f4), f1 := 4 }, l)
  else ((⟨f.f0, 0, f.f2, f.f3, 0, 0, 1⟩ : S66), storeF l (seqF c f.f4) (IntKind.u64.wrap (fullF c f.f4 + 1)))
 else (f, l)
def waitF (c : Cf) (f : S66) (l : List Int) : S66 × List Int :=
 if goesB c l.length f 5 5 = true then
  if f.f1 = 0 then ({ f with f4 := loadF l 2, f1 := 1 }, l)
  else if f.f1 = 1 then (if loadF l 2 / 65536 = f.f4 / 65536 then { f with f5 := loadF l 2, f1 := 2 } else (⟨f.f0, 0, f.f2, 0, 0, 0, 4⟩ : S66), l)
  else if f.f1 = 2 then ({ f with f1 := if (casF l 2 f.f5 (wsetF f.f5 f.f2)).2 = true then 3 else 1 }, (casF l 2 f.f5 (wsetF f.f5 f.f2)).1)
  else if f.f1 = 3 then ({ f with f5 := loadF l (parkF c f.f2), f1 := if loadF l (parkF c f.f2) = 0 then f.f1 else 4 }, l)
  else ((⟨f.f0, 0, f.f2, 0, 0, 0, 1⟩ : S66), storeF l (parkF c f.f2) 0)
 else (f, l)
def noteF (c : Cf) (f : S66) (l : List Int) : S66 × List Int :=
 if noteB c l.length f = true then
  if f.f1 = 0 then ({ f with f4 := loadF l 2, f1 := 1 }, l)
  else if f.f1 = 1 then (if (casF l 2 f.f4 (kindF 6 f.f4).1).2 = true then (if maskF f.f4 = 0 then (⟨f.f0, 0, f.f2, 0, 0, 0, 3⟩ : S66) else { f with f5 := (kindF 6 f.f4).2, f1 := 2 }) else { f with f1 := 0 }, (casF l 2 f.f4 (kindF 6 f.f4).1).1)
  else ((⟨f.f0, 0, f.f2, f.f5, 0, 0, 1⟩ : S66), storeF l (parkF c (if f.f5 < 8 then wrap64 f.f5 else -1)) 1)
 else (f, l)
def stepF (c : Cf) (f : S66) (l : List Int) : S66 × List Int :=
 if f.f0 = 0 then pushF c f l else if f.f0 = 1 then popF c f l else if f.f0 = 2 then stealF c f l else if f.f0 = 3 then enqF c f l else if f.f0 = 4 then deqF c f l else if f.f0 = 5 then waitF c f l else noteF c f l
theorem goesB_lt {c : Cf} {n : Nat} {f : S66} {op k : Int} (h : goesB c n f op k = true) : mayB c = true ∧ 0 ≤ f.f1 ∧ f.f1 < k := by
 simp only [goesB, Bool.and_eq_true, decide_eq_true_eq] at h
 exact ⟨h.1.1.1.1.1.1.1, h.1.2, h.2⟩
theorem goesE_lt {c : Cf} {n : Nat} {f : S66} {op : Int} (h : goesE c n f op = true) : mayB c = true ∧ 0 ≤ f.f1 ∧ f.f1 < 5 := by
 simp only [goesE, fitsB, Bool.and_eq_true, decide_eq_true_eq] at h
 exact ⟨h.1.1.1.1.1, h.1.2, h.2⟩
theorem noteB_lt {c : Cf} {n : Nat} {f : S66} (h : noteB c n f = true) : mayB c = true ∧ 0 ≤ f.f1 ∧ f.f1 ≤ 2 := by
 simp only [noteB, Bool.and_eq_true, decide_eq_true_eq] at h
 exact ⟨h.1.1.1.1, h.1.2, h.2⟩
theorem push_SC (c : Cf) (f : S66) (l : List Int) (hn : l.length ≤ 1000000) : STEP 156 c f l (pushF c f l).1 (pushF c f l).2 := fun A cp W hC hcp => push_step A cp c f _ l _ W hC hcp hn (by
 unfold pushF
 cases hg : goesB c l.length f 0 4 with
 | false => exact Or.inl ⟨rfl, by simp, by simp⟩
 | true =>
  obtain ⟨_, h0, h4⟩ := goesB_lt hg
  rw [if_pos rfl]
  refine Or.inr ⟨rfl, ?_⟩
  by_cases e0 : f.f1 = 0
  ·rw [if_pos e0]; exact Or.inl ⟨e0, push_bottom f c l _ (bottom_some c _)⟩
  ·by_cases e1 : f.f1 = 1
   ·rw [if_neg e0, if_pos e1]; exact Or.inr (Or.inl ⟨e1, push_top f c l _ _ (top_some c _) rfl⟩)
   ·by_cases e2 : f.f1 = 2
    ·rw [if_neg e0, if_neg e1, if_pos e2]; exact Or.inr (Or.inr (Or.inl ⟨e2, push_slot f c l _ (slot_some c _ _) hn⟩))
    ·rw [if_neg e0, if_neg e1, if_neg e2]; exact Or.inr (Or.inr (Or.inr ⟨by omega, push_end f c l _ (bottom_some c _) hn⟩)))
theorem pop_SC (c : Cf) (f : S66) (l : List Int) (hn : l.length ≤ 1000000) : STEP 157 c f l (popF c f l).1 (popF c f l).2 := fun A cp W hC hcp => pop_step A cp c f _ l _ W hC hcp hn (by
 unfold popF
 cases hg : goesB c l.length f 1 7 with
 | false => exact Or.inl ⟨rfl, by simp, by simp⟩
 | true =>
  obtain ⟨_, h0, h7⟩ := goesB_lt hg
  rw [if_pos rfl]
  refine Or.inr ⟨rfl, _, _, top_some c _, bottom_some c _, ?_⟩
  by_cases e0 : f.f1 = 0
  ·rw [if_pos e0]; exact Or.inl ⟨e0, rfl, rfl⟩
  ·rw [if_neg e0]; refine Or.inr ?_
   by_cases e1 : f.f1 = 1
   ·rw [if_pos e1]; exact Or.inl ⟨e1, rfl, rfl⟩
   ·rw [if_neg e1]; refine Or.inr ?_
    by_cases e2 : f.f1 = 2
    ·rw [if_pos e2]; exact Or.inl ⟨e2, rfl, rfl⟩
    ·rw [if_neg e2]; refine Or.inr ?_
     by_cases e3 : f.f1 = 3
     ·rw [if_pos e3]; exact Or.inl ⟨e3, rfl, _, slot_some c _ _, rfl⟩
     ·rw [if_neg e3]; refine Or.inr ?_
      by_cases e4 : f.f1 = 4
      ·rw [if_pos e4]; exact Or.inl ⟨e4, _, rfl, rfl⟩
      ·rw [if_neg e4]; refine Or.inr ?_
       by_cases e5 : f.f1 = 5
       ·rw [if_pos e5]; exact Or.inl ⟨e5, rfl, rfl⟩
       ·rw [if_neg e5]; exact Or.inr ⟨by omega, rfl, rfl⟩)
theorem steal_SC (c : Cf) (f : S66) (l : List Int) (hn : l.length ≤ 1000000) : STEP 158 c f l (stealF c f l).1 (stealF c f l).2 := fun A cp W hC hcp => steal_step A cp c f _ l _ W hC hcp hn (by
 unfold stealF
 cases hg : goesB c l.length f 2 4 with
 | false => exact Or.inl ⟨rfl, by simp, by simp⟩
 | true =>
  obtain ⟨_, h0, h4⟩ := goesB_lt hg
  rw [if_pos rfl]
  refine Or.inr ⟨rfl, _, _, top_some c _, bottom_some c _, ?_⟩
  by_cases e0 : f.f1 = 0
  ·rw [if_pos e0]; exact Or.inl ⟨e0, rfl, rfl⟩
  ·rw [if_neg e0]; refine Or.inr ?_
   by_cases e1 : f.f1 = 1
   ·rw [if_pos e1]; exact Or.inl ⟨e1, rfl, rfl⟩
   ·rw [if_neg e1]; refine Or.inr ?_
    by_cases e2 : f.f1 = 2
    ·rw [if_pos e2]; exact Or.inl ⟨e2, rfl, _, slot_some c _ _, rfl⟩
    ·rw [if_neg e2]; exact Or.inr ⟨by omega, _, rfl, rfl⟩)
theorem enq_SC (c : Cf) (f : S66) (l : List Int) (hn : l.length ≤ 1000000) : STEP 121 c f l (enqF c f l).1 (enqF c f l).2 := fun A cp W hC hcp => enq_step A cp c f _ l _ W hC hcp hn (by
 unfold enqF
 cases hg : goesE c l.length f 3 with
 | false => exact Or.inl ⟨rfl, by simp, by simp⟩
 | true =>
  obtain ⟨hm, h0, h5⟩ := goesE_lt hg
  have hz := may_z c hm
  rw [if_pos rfl]
  refine Or.inr ⟨rfl, ?_⟩
  by_cases e0 : f.f1 = 0
  ·rw [if_pos e0]; exact ⟨{ f with f4 := loadF l 5 }, 1, rfl, Or.inl ⟨e0, enq_where f c l⟩⟩
  ·rw [if_neg e0]
   by_cases e1 : f.f1 = 1
   ·rw [if_pos e1]
    by_cases g1 : loadF l (seqF c f.f4) = freeF c f.f4
    ·rw [if_pos g1]
     exact ⟨{ f with f5 := loadF l (seqF c f.f4) }, 2, rfl, Or.inr (Or.inl ⟨e1, enq_look f c l _ 2 _ (seq_some c _ hz) hz (by rw [if_pos g1])⟩)⟩
    ·rw [if_neg g1]
     by_cases g2 : wrap64 (IntKind.u64.wrap (loadF l (seqF c f.f4) - freeF c f.f4)) < 0
     ·rw [if_pos g2]
      exact ⟨⟨f.f0, 0, f.f2, f.f3, 0, 0, 2⟩, 0, rfl, Or.inr (Or.inl ⟨e1, enq_look f c l _ 0 _ (seq_some c _ hz) hz (by rw [if_neg g1, if_pos g2])⟩)⟩
     ·rw [if_neg g2]
      exact ⟨{ f with f5 := loadF l (seqF c f.f4) }, 0, rfl, Or.inr (Or.inl ⟨e1, enq_look f c l _ 0 _ (seq_some c _ hz) hz (by rw [if_neg g1, if_neg g2])⟩)⟩
   ·rw [if_neg e1]
    by_cases e2 : f.f1 = 2
    ·rw [if_pos e2]
     exact ⟨f, _, rfl, Or.inr (Or.inr (Or.inl ⟨e2, enq_take f c l _ _ hn rfl⟩))⟩
    ·rw [if_neg e2]
     by_cases e3 : f.f1 = 3
     ·rw [if_pos e3]
      exact ⟨f, 4, rfl, Or.inr (Or.inr (Or.inr (Or.inl ⟨e3, enq_put f c l _ (val_some c _ hz) hn⟩)))⟩
     ·rw [if_neg e3]
      exact ⟨⟨f.f0, 0, f.f2, f.f3, 0, 0, 1⟩, 0, rfl, Or.inr (Or.inr (Or.inr (Or.inr ⟨by omega, enq_end f c l _ (seq_some c _ hz) hz hn⟩)))⟩)
theorem deq_SC (c : Cf) (f : S66) (l : List Int) (hn : l.length ≤ 1000000) : STEP 122 c f l (deqF c f l).1 (deqF c f l).2 := fun A cp W hC hcp => deq_step A cp c f _ l _ W hC hcp hn (by
 unfold deqF
 cases hg : goesE c l.length f 4 with
 | false => exact Or.inl ⟨rfl, by simp, by simp⟩
 | true =>
  obtain ⟨hm, h0, h5⟩ := goesE_lt hg
  have hz := may_z c hm
  rw [if_pos rfl]
  refine Or.inr ⟨rfl, ?_⟩
  by_cases e0 : f.f1 = 0
  ·rw [if_pos e0]; exact Or.inl ⟨e0, rfl, rfl⟩
  ·rw [if_neg e0]; refine Or.inr ?_
   by_cases e1 : f.f1 = 1
   ·rw [if_pos e1]; exact Or.inl ⟨e1, _, seq_some c _ hz, hz, rfl, rfl⟩
   ·rw [if_neg e1]; refine Or.inr ?_
    by_cases e2 : f.f1 = 2
    ·rw [if_pos e2]; exact Or.inl ⟨e2, _, rfl, rfl⟩
    ·rw [if_neg e2]; refine Or.inr ?_
     by_cases e3 : f.f1 = 3
     ·rw [if_pos e3]; exact Or.inl ⟨e3, _, val_some c _ hz, rfl, rfl⟩
     ·rw [if_neg e3]; exact Or.inr ⟨by omega, _, seq_some c _ hz, hz, rfl, rfl⟩)
theorem wait_SC (c : Cf) (f : S66) (l : List Int) (hn : l.length ≤ 1000000) : STEP 119 c f l (waitF c f l).1 (waitF c f l).2 := fun A cp W hC hcp => wait_step A cp c f _ l _ W hC hcp hn (by
 unfold waitF
 cases hg : goesB c l.length f 5 5 with
 | false => exact Or.inl ⟨rfl, by simp, by simp⟩
 | true =>
  obtain ⟨_, h0, h5⟩ := goesB_lt hg
  rw [if_pos rfl]
  refine Or.inr ⟨rfl, ?_⟩
  by_cases e0 : f.f1 = 0
  ·rw [if_pos e0]; exact Or.inl ⟨e0, wait_prepare f c l⟩
  ·rw [if_neg e0]; refine Or.inr ?_
   by_cases e1 : f.f1 = 1
   ·rw [if_pos e1]; exact Or.inl ⟨e1, wait_look f c l⟩
   ·rw [if_neg e1]; refine Or.inr ?_
    by_cases e2 : f.f1 = 2
    ·rw [if_pos e2]; exact Or.inl ⟨e2, wait_commit f c l _ _ _ (wset_some _ _) hn rfl⟩
    ·rw [if_neg e2]; refine Or.inr ?_
     by_cases e3 : f.f1 = 3
     ·rw [if_pos e3]; exact Or.inl ⟨e3, wait_park f c l _ _ (park_some c _) rfl⟩
     ·rw [if_neg e3]; exact Or.inr ⟨by omega, wait_end f c l _ (park_some c _) hn⟩)
theorem note_SC (c : Cf) (f : S66) (l : List Int) (hn : l.length ≤ 1000000) (h6 : f.f0 = 6) : STEP 120 c f l (noteF c f l).1 (noteF c f l).2 := fun A cp W hC hcp => note_step A cp c f _ l _ W hC hcp hn (by
 unfold noteF
 refine ⟨h6, ?_⟩
 cases hg : noteB c l.length f with
 | false => exact Or.inl ⟨rfl, by simp, by simp⟩
 | true =>
  obtain ⟨_, h0, h2⟩ := noteB_lt hg
  rw [if_pos rfl]
  refine Or.inr ⟨rfl, ?_⟩
  by_cases e0 : f.f1 = 0
  ·rw [if_pos e0]; exact Or.inl ⟨e0, rfl, rfl⟩
  ·rw [if_neg e0]; refine Or.inr ?_
   by_cases e1 : f.f1 = 1
   ·rw [if_pos e1]; exact Or.inl ⟨e1, _, rfl, rfl⟩
   ·rw [if_neg e1]; exact Or.inr ⟨by omega, _, park_some c _, rfl, rfl⟩)
theorem step_STEP (c : Cf) (f : S66) (l : List Int) (hn : l.length ≤ 1000000) (h0 : 0 ≤ f.f0) (h6 : f.f0 ≤ 6) : STEP (whoF f) c f l (stepF c f l).1 (stepF c f l).2 := by
 unfold stepF whoF
 by_cases e0 : f.f0 = 0
 ·rw [if_pos e0, if_pos (Or.inl e0)]
  exact fun A cp W hC hcp => deque_step A cp c f _ l _ W hC hcp hn (Or.inl ⟨e0, fun W' hb => push_SC c f l hn A cp W' (Kd.C_below hC hb) hcp⟩)
 ·by_cases e1 : f.f0 = 1
  ·rw [if_neg e0, if_pos e1, if_pos (Or.inr (Or.inl e1))]
   exact fun A cp W hC hcp => deque_step A cp c f _ l _ W hC hcp hn (Or.inr (Or.inl ⟨e1, fun W' hb => pop_SC c f l hn A cp W' (Kd.C_below hC hb) hcp⟩))
  ·by_cases e2 : f.f0 = 2
   ·rw [if_neg e0, if_neg e1, if_pos e2, if_pos (Or.inr (Or.inr e2))]
    exact fun A cp W hC hcp => deque_step A cp c f _ l _ W hC hcp hn (Or.inr (Or.inr (Or.inl ⟨e2, fun W' hb => steal_SC c f l hn A cp W' (Kd.C_below hC hb) hcp⟩)))
   ·by_cases e3 : f.f0 = 3
    ·rw [if_neg e0, if_neg e1, if_neg e2, if_pos e3, if_neg (by omega), if_pos (Or.inl e3)]
     exact fun A cp W hC hcp => inject_step A cp c f _ l _ W hC hcp hn (Or.inl ⟨e3, fun W' hb => enq_SC c f l hn A cp W' (Kd.C_below hC hb) hcp⟩)
    ·by_cases e4 : f.f0 = 4
     ·rw [if_neg e0, if_neg e1, if_neg e2, if_neg e3, if_pos e4, if_neg (by omega), if_pos (Or.inr e4)]
      exact fun A cp W hC hcp => inject_step A cp c f _ l _ W hC hcp hn (Or.inr (Or.inl ⟨e4, fun W' hb => deq_SC c f l hn A cp W' (Kd.C_below hC hb) hcp⟩))
     ·by_cases e5 : f.f0 = 5
      ·rw [if_neg e0, if_neg e1, if_neg e2, if_neg e3, if_neg e4, if_pos e5, if_neg (by omega), if_neg (by omega)]
       exact fun A cp W hC hcp => event_step A cp c f _ l _ W hC hcp hn (Or.inl ⟨e5, fun W' hb => wait_SC c f l hn A cp W' (Kd.C_below hC hb) hcp⟩)
      ·have e6 : f.f0 = 6 := by omega
       rw [if_neg e0, if_neg e1, if_neg e2, if_neg e3, if_neg e4, if_neg e5, if_neg (by omega), if_neg (by omega)]
       exact fun A cp W hC hcp => event_step A cp c f _ l _ W hC hcp hn (Or.inr (Or.inl ⟨Or.inl e6, fun W' hb => note_SC c f l hn e6 A cp W' (Kd.C_below hC hb) hcp⟩))
def startF (t : List S45) (s : List S116) (n : Int) : List S116 := if thinkB (forestB t) t s = true ∧ 0 ≤ n ∧ n ≤ (t.length : Int) - 1 then s ++ [⟨n, 0, 0⟩] else s
theorem start_P (t : List S45) (s : List S116) (n : Int) (ht : t.length ≤ 1000000) (hs : s.length ≤ 1000000) : STARTP t s n (startF t s n) := fun A0 c0 A1 c1 W h0 hc0 h1 hc1 =>
 think_Start.calls A0 c0 t A1 c1 s n _ W h0 hc0 h1 hc1 (by
  unfold think_Start.f api_Item_57.f think_May.f think_in.f startF
  have hw : wrap64 ((t.length : Int) - 1) = (t.length : Int) - 1 := by unfold wrap64; omega
  rw [if_pos hs, if_pos ⟨ht, hs⟩, hw]
  simp only [Option.bind_some]
  by_cases hb : thinkB (forestB t) t s = true
  ·rw [if_pos hb]
   by_cases h0 : n ≥ 0
   ·rw [if_pos h0]
    simp only [Option.bind_some, decide_eq_true_eq]
    by_cases h1 : n ≤ (t.length : Int) - 1
    ·rw [if_pos h1, if_pos (by omega), if_pos ⟨hb, h0, h1⟩]
    ·rw [if_neg h1, if_neg (fun h => h1 h.2.2)]
   ·rw [if_neg h0]
    simp only [Option.bind_some]
    rw [if_neg (by simp), if_neg (fun h => h0 h.2.1)]
  ·rw [if_neg hb, if_neg (fun h => hb h.1)])
theorem next_P (t : List S45) (s : List S116) (ht : t.length ≤ 1000000) (hs : s.length ≤ 1000000) : NEXTP t s (nextF (forestB t) t s).1 (nextF (forestB t) t s).2 := fun A0 c0 A1 c1 W h0 hc0 h1 hc1 =>
 next_116 A0 c0 t A1 c1 s (forestB t) W h0 ht h1 hs (fun W' hb => forest_23 A0 c0 t W' (Kd.C_below h0 hb) ht)
theorem do_P (t : List S45) (s : List S116) (ht : t.length ≤ 1000000) (hs : s.length ≤ 1000000) : DOP t s (doF (nextF (forestB t) t s).1 s) := fun A0 c0 A1 c1 W h0 hc0 h1 hc1 =>
 do_117 A0 c0 t A1 c1 s _ _ W h1 hs (fun h => by subst h; exact ⟨by simp [nextF], by simp [nextF], by simp [nextF]⟩) (fun W' hb => next_P t s ht hs A0 c0 A1 c1 W' (Kd.C_below h0 hb) hc0 (Kd.C_below h1 hb) hc1)
def victimF (d wn cw : Int) : Int := (draw_Victim.f d wn cw).getD 0
theorem victim_some (d wn cw : Int) (h1 : 1 ≤ cw) (h8 : cw ≤ 8) : draw_Victim.f d wn cw = some (victimF d wn cw) := get_some (by
 unfold draw_Victim.f draw_below.f
 by_cases h2 : cw < 2
 ·rw [if_pos h2]; exact ⟨_, rfl⟩
 ·rw [if_neg h2]
  have e1 : IntKind.u64.wrap cw = cw := by rw [IntKind.wrap_u64]; omega
  have e2 : IntKind.u64.wrap (cw - 1) = cw - 1 := by rw [IntKind.wrap_u64]; omega
  rw [e1, e2, if_neg (show ¬ cw - 1 = 0 by omega), if_neg (show ¬ cw = 0 by omega)]
  by_cases h3 : wn ≥ 0
  ·rw [if_pos h3]
   simp only [Option.bind_some]
   split <;> exact ⟨_, rfl⟩
  ·rw [if_neg h3]; exact ⟨-1, rfl⟩)
abbrev zF : S66 := ⟨0, 0, 0, 0, 0, 0, 0⟩
def againF (c : Cf) (x : Hd) (v : Int) (b : Bool) : Hd :=
 if b = true then { x with pc := 1, f := ⟨0, 0, 0, 0, 0, 0, 0⟩ }
 else if wrap64 (x.lk + 1) = wrap64 (2 + wrap64 (2 * c.w)) then { x with pc := 8, f := { x.f with f3 := 0 }, lk := 0 }
 else { x with f := { x.f with f3 := v }, lk := wrap64 (x.lk + 1) }
def workerF (c : Cf) (t : List S45) (wn d : Int) (x : Hd) : Hd :=
 let s := stepF c x.f x.m
 if x.pc = 0 then
  if s.1.f6 = 0 then { x with f := s.1, m := s.2 }
  else if s.1.f6 = 1 then { x with m := s.2, pc := 9, f := zF, st := startF t x.st (wrap64 s.1.f3), ev := x.ev ++ [⟨2, wrap64 s.1.f3, wn⟩] }
  else { x with m := s.2, pc := 1, f := zF }
 else if x.pc = 1 then { x with m := (addF x.m 1 1).1, sp := c.s, pc := 2, f := ⟨4, 0, wn, 0, 0, 0, 0⟩ }
 else if x.pc = 2 ∨ x.pc = 3 then
  if s.1.f6 = 0 then { x with f := s.1, m := s.2 }
  else if s.1.f6 = 1 then { x with f := s.1, m := s.2, pc := 4 }
  else if x.pc = 2 ∧ 0 ≤ victimF d wn c.w then { x with m := s.2, pc := 3, f := ⟨2, 0, victimF d wn c.w, 0, 0, 0, 0⟩ }
  else if x.sp ≤ 0 then { x with m := s.2, pc := 5, f := ⟨5, 0, wn, 0, 0, 0, 0⟩ }
  else { x with m := s.2, sp := wrap64 (x.sp - 1), pc := 2, f := ⟨4, 0, wn, 0, 0, 0, 0⟩ }
 else if x.pc = 4 then
  if (addF x.m 1 18446744073709551615).2 = 1 then { x with m := (addF x.m 1 18446744073709551615).1, pc := 14, f := ⟨6, 0, wn, 0, 0, 0, 0⟩, st := startF t x.st (wrap64 x.f.f3), ev := x.ev ++ [⟨2, wrap64 x.f.f3, wn⟩] }
  else { x with m := (addF x.m 1 18446744073709551615).1, pc := 9, f := zF, st := startF t x.st (wrap64 x.f.f3), ev := x.ev ++ [⟨2, wrap64 x.f.f3, wn⟩] }
 else if x.pc = 5 then { x with f := s.1, m := s.2, pc := 6 }
 else if x.pc = 6 then { x with m := (addF x.m 1 18446744073709551615).1, pc := 7, lk := 0 }
 else if x.pc = 7 then
  if x.lk < 0 ∨ x.lk ≥ wrap64 (2 + wrap64 (2 * c.w)) then { x with pc := 8, f := { x.f with f3 := 0 }, lk := 0 }
  else if x.lk = 0 then againF c x (loadF x.m 4) false
  else if x.lk = 1 then againF c x x.f.f3 (decide (¬ loadF x.m 5 = x.f.f3))
  else if x.lk % 2 = 0 then againF c x (loadF x.m (topF c (wrap64 (Int.tdiv (wrap64 (x.lk - 2)) 2)))) false
  else againF c x x.f.f3 (decide (wrap64 (IntKind.u64.wrap (loadF x.m (bottomF c (wrap64 (Int.tdiv (wrap64 (x.lk - 2)) 2))) - x.f.f3)) > 0))
 else if x.pc = 8 then
  if s.1.f6 = 0 then { x with f := s.1, m := s.2 } else { x with m := s.2, pc := 1, f := zF }
 else if x.pc = 9 then
  if (nextF (forestB t) t x.st).1 = 1 then { x with st := doF (nextF (forestB t) t x.st).1 x.st }
  else if (nextF (forestB t) t x.st).1 = 2 then { x with pc := 10 }
  else if (nextF (forestB t) t x.st).1 = 3 then { x with pc := 15 }
  else { x with pc := 0, f := ⟨1, 0, wn, 0, 0, 0, 0⟩ }
 else if x.pc = 10 then
  if (nextF (forestB t) t x.st).1 = 2 then { x with m := (addF x.m 0 1).1, ev := x.ev ++ [⟨3, (nextF (forestB t) t x.st).2, wn⟩], st := doF (nextF (forestB t) t x.st).1 x.st, pc := 11, f := ⟨0, 0, wn, IntKind.u64.wrap (nextF (forestB t) t x.st).2, 0, 0, 0⟩ }
  else { x with pc := 9, f := zF }
 else if x.pc = 11 then
  if s.1.f6 = 0 then { x with f := s.1, m := s.2 }
  else if s.1.f6 = 2 then { x with m := s.2, pc := 12, f := ⟨3, 0, wn, s.1.f3, 0, 0, 0⟩ }
  else { x with m := s.2, pc := 13, f := zF }
 else if x.pc = 12 then
  if s.1.f6 = 0 then { x with f := s.1, m := s.2 }
  else if s.1.f6 = 2 then { x with m := s.2, pc := 9, f := zF, st := startF t x.st (wrap64 s.1.f3), ev := x.ev ++ [⟨2, wrap64 s.1.f3, wn⟩] }
  else { x with m := s.2, pc := 13, f := zF }
 else if x.pc = 13 then
  if loadF x.m 1 = 0 then { x with pc := 14, f := ⟨6, 0, wn, 0, 0, 0, 0⟩ } else { x with pc := 9, f := zF }
 else if x.pc = 14 then
  if s.1.f6 = 0 then { x with f := s.1, m := s.2 } else { x with m := s.2, pc := 9, f := zF }
 else
  if (nextF (forestB t) t x.st).1 = 3 then { x with m := (addF x.m 0 18446744073709551615).1, ev := if (addF x.m 0 18446744073709551615).2 = 1 then x.ev ++ [⟨4, (nextF (forestB t) t x.st).2, wn⟩] ++ [⟨5, 0, wn⟩] else x.ev ++ [⟨4, (nextF (forestB t) t x.st).2, wn⟩], st := doF (nextF (forestB t) t x.st).1 x.st, pc := if (doF (nextF (forestB t) t x.st).1 x.st).length = 0 then 0 else 9, f := if (doF (nextF (forestB t) t x.st).1 x.st).length = 0 then ⟨1, 0, wn, 0, 0, 0, 0⟩ else zF }
  else { x with pc := 9, f := zF }
def hdOf (x : S76) (m : List Int) : Hd := ⟨x.f0, x.f1, x.f2, x.f3, x.f4, m, []⟩
def s76Of (x : Hd) : S76 := ⟨x.pc, x.st, x.f, x.sp, x.lk⟩
structure WGood (c : Cf) (t : List S45) (m : List Int) (wn : Int) (x : S76) : Prop where
 may : mayB c = true
 fo : forestB t = true
 ml : (m.length : Int) = sizeF c
 nt : t.length ≤ 1000000
 w0 : 0 ≤ wn
 w1 : wn < c.w
 p0 : 0 ≤ x.f0
 p1 : x.f0 < 16
 th : thinkB true t x.f1 = true
 sl : x.f1.length ≤ 1000000
 o0 : 0 ≤ x.f2.f0
 o1 : x.f2.f0 ≤ 6
theorem worker_WStep (c : Cf) (t : List S45) (m : List Int) (wn d : Int) (x : S76) (h : WGood c t m wn x) : WStep c t m wn d x (s76Of (workerF c t wn d (hdOf x m))) (workerF c t wn d (hdOf x m)).m (workerF c t wn d (hdOf x m)).ev := by
 obtain ⟨c1, c8, z0, z1⟩ := may_lo c h.may
 have hmn : m.length ≤ 1000000 := by have := h.ml; omega
 intro At ct Am cm As cs_ W hT hct hM hcm hS hcs
 have hST := step_STEP c x.f2 m hmn h.o0 h.o1
 have ht := h.nt
 refine work_step c t At ct m Am cm wn d x.f0 x.f3 x.f4 x.f2 x.f1 As cs_ true _ W hM hcm hmn hS h.sl (fun W' hb => work_May.calls c.w c.d c.i c.s At ct t Am cm m wn x.f0 As cs_ x.f1 x.f2.f0 x.f2.f1 x.f2.f2 x.f2.f3 x.f2.f4 x.f2.f5 x.f2.f6 x.f3 x.f4 true W' (Kd.C_below hT hb) hct (Kd.C_below hM hb) hcm (Kd.C_below hS hb) hcs (workMay_true c t m wn x h.may h.fo h.ml h.w0 h.w1 h.p0 h.p1 h.th h.nt h.sl)) (Or.inr ⟨rfl, ?_⟩)
 have e0 : ([] : List S40).length ≤ 1000000 := by simp
 have hsl := h.sl
 by_cases p0 : x.f0 = 0
 ·exact Or.inl ⟨p0, fun w0 => hand_pop _ _ _ _ hST _ hT hct _ e0 (fun _ => start_P t x.f1 _ ht hsl) (by unfold workerF hdOf; rw [if_pos p0])⟩
 refine Or.inr ?_
 by_cases p1 : x.f0 = 1
 ·exact Or.inl ⟨p1, fun w0 => by
   have := hand_seek ⟨c, t, At, ct, wn, d, W, w0⟩ (hdOf x m) (addF m 1 1).2 (addF m 1 1).1 hmn rfl
   unfold workerF hdOf; rw [if_neg p0, if_pos p1]; exact this⟩
 have hv := victim_some d wn c.w c1 c8
 refine Or.inr ?_
 by_cases p2 : x.f0 = 2
 ·exact Or.inl ⟨p2, fun w0 => hand_look _ _ _ _ hST _ _ hv (by unfold workerF hdOf; rw [if_neg p0, if_neg p1, if_pos (Or.inl p2)])⟩
 refine Or.inr ?_
 by_cases p3 : x.f0 = 3
 ·exact Or.inl ⟨p3, fun w0 => hand_look _ _ _ _ hST _ _ hv (by unfold workerF hdOf; rw [if_neg p0, if_neg p1, if_pos (Or.inr p3)])⟩
 have p23 : ¬ (x.f0 = 2 ∨ x.f0 = 3) := by omega
 refine Or.inr ?_
 by_cases p4 : x.f0 = 4
 ·exact Or.inl ⟨p4, fun w0 => hand_found _ _ (addF m 1 18446744073709551615).2 (addF m 1 18446744073709551615).1 _ hT hct _ e0 hmn rfl (start_P t x.f1 _ ht hsl) (by unfold workerF hdOf; rw [if_neg p0, if_neg p1, if_neg p23, if_pos p4])⟩
 refine Or.inr ?_
 by_cases p5 : x.f0 = 5
 ·exact Or.inl ⟨p5, fun w0 => by
   have := hand_prep ⟨c, t, At, ct, wn, d, W, w0⟩ (hdOf x m) _ _ hST
   unfold workerF hdOf; rw [if_neg p0, if_neg p1, if_neg p23, if_neg p4, if_pos p5]; exact this⟩
 refine Or.inr ?_
 by_cases p6 : x.f0 = 6
 ·exact Or.inl ⟨p6, fun w0 => by
   have := hand_leave ⟨c, t, At, ct, wn, d, W, w0⟩ (hdOf x m) (addF m 1 18446744073709551615).2 (addF m 1 18446744073709551615).1 hmn rfl
   unfold workerF hdOf; rw [if_neg p0, if_neg p1, if_neg p23, if_neg p4, if_neg p5, if_pos p6]; exact this⟩
 refine Or.inr ?_
 by_cases p7 : x.f0 = 7
 ·refine Or.inl ⟨p7, fun w0 => ?_⟩
  have hwf : workerF c t wn d (hdOf x m) = (if x.f4 < 0 ∨ x.f4 ≥ wrap64 (2 + wrap64 (2 * c.w)) then { hdOf x m with pc := 8, f := { x.f2 with f3 := 0 }, lk := 0 }
   else if x.f4 = 0 then againF c (hdOf x m) (loadF m 4) false
   else if x.f4 = 1 then againF c (hdOf x m) x.f2.f3 (decide (¬ loadF m 5 = x.f2.f3))
   else if x.f4 % 2 = 0 then againF c (hdOf x m) (loadF m (topF c (wrap64 (Int.tdiv (wrap64 (x.f4 - 2)) 2)))) false
   else againF c (hdOf x m) x.f2.f3 (decide (wrap64 (IntKind.u64.wrap (loadF m (bottomF c (wrap64 (Int.tdiv (wrap64 (x.f4 - 2)) 2))) - x.f2.f3)) > 0))) := by unfold workerF hdOf; rw [if_neg p0, if_neg p1, if_neg p23, if_neg p4, if_neg p5, if_neg p6, if_pos p7]
  rw [hwf]
  by_cases n1 : x.f4 < 0 ∨ x.f4 ≥ wrap64 (2 + wrap64 (2 * c.w))
  ·rw [if_pos n1]; exact hand_again_end _ (hdOf x m) n1
  ·rw [if_neg n1]
   have na : ¬ x.f4 < 0 := fun h => n1 (Or.inl h)
   have nb : ¬ x.f4 ≥ wrap64 (2 + wrap64 (2 * c.w)) := fun h => n1 (Or.inr h)
   by_cases n0 : x.f4 = 0
   ·rw [if_pos n0]; exact hand_again0 _ (hdOf x m) _ n0 (by rw [← n0]; exact nb) rfl
   ·rw [if_neg n0]
    by_cases n2 : x.f4 = 1
    ·rw [if_pos n2]; exact hand_again1 _ (hdOf x m) _ n2 (by rw [← n2]; exact nb) rfl
    ·rw [if_neg n2]
     by_cases n3 : x.f4 % 2 = 0
     ·rw [if_pos n3]; exact hand_again2 _ (hdOf x m) _ _ na nb n0 n2 n3 (top_some c _) rfl
     ·rw [if_neg n3]; exact hand_again3 _ (hdOf x m) _ _ na nb n0 n2 n3 (bottom_some c _) rfl
 refine Or.inr ?_
 by_cases p8 : x.f0 = 8
 ·exact Or.inl ⟨p8, fun w0 => hand_commit _ _ _ _ hST _ (by unfold workerF hdOf; rw [if_neg p0, if_neg p1, if_neg p23, if_neg p4, if_neg p5, if_neg p6, if_neg p7, if_pos p8])⟩
 refine Or.inr ?_
 have hnx := next_P t x.f1 ht hsl
 have hdo := do_P t x.f1 ht hsl
 by_cases p9 : x.f0 = 9
 ·refine Or.inl ⟨p9, fun w0 => hand_run _ (hdOf x m) _ _ _ hT hct hnx ?_⟩
  have hwf : workerF c t wn d (hdOf x m) = (if (nextF (forestB t) t x.f1).1 = 1 then { hdOf x m with st := doF (nextF (forestB t) t x.f1).1 x.f1 } else if (nextF (forestB t) t x.f1).1 = 2 then { hdOf x m with pc := 10 } else if (nextF (forestB t) t x.f1).1 = 3 then { hdOf x m with pc := 15 } else { hdOf x m with pc := 0, f := ⟨1, 0, wn, 0, 0, 0, 0⟩ }) := by unfold workerF hdOf; rw [if_neg p0, if_neg p1, if_neg p23, if_neg p4, if_neg p5, if_neg p6, if_neg p7, if_neg p8, if_pos p9]
  rw [hwf]
  by_cases k1 : (nextF (forestB t) t x.f1).1 = 1
  ·rw [if_pos k1]; exact Or.inl ⟨k1, _, hdo, rfl⟩
  ·rw [if_neg k1]
   by_cases k2 : (nextF (forestB t) t x.f1).1 = 2
   ·rw [if_pos k2]; exact Or.inr (Or.inl ⟨k2, rfl⟩)
   ·rw [if_neg k2]
    by_cases k3 : (nextF (forestB t) t x.f1).1 = 3
    ·rw [if_pos k3]; exact Or.inr (Or.inr (Or.inl ⟨k3, rfl⟩))
    ·rw [if_neg k3]; exact Or.inr (Or.inr (Or.inr ⟨k1, k2, k3, rfl⟩))
 refine Or.inr ?_
 by_cases p10 : x.f0 = 10
 ·refine Or.inl ⟨p10, fun w0 => hand_pend _ (hdOf x m) _ _ _ hT hct hnx ?_⟩
  have hwf : workerF c t wn d (hdOf x m) = (if (nextF (forestB t) t x.f1).1 = 2 then { hdOf x m with m := (addF m 0 1).1, ev := [] ++ [⟨3, (nextF (forestB t) t x.f1).2, wn⟩], st := doF (nextF (forestB t) t x.f1).1 x.f1, pc := 11, f := ⟨0, 0, wn, IntKind.u64.wrap (nextF (forestB t) t x.f1).2, 0, 0, 0⟩ } else { hdOf x m with pc := 9, f := zF }) := by unfold workerF hdOf; rw [if_neg p0, if_neg p1, if_neg p23, if_neg p4, if_neg p5, if_neg p6, if_neg p7, if_neg p8, if_neg p9, if_pos p10]
  rw [hwf]
  by_cases k2 : (nextF (forestB t) t x.f1).1 = 2
  ·rw [if_pos k2]; exact Or.inr ⟨k2, _, _, (addF m 0 1).2, rfl, hdo, hmn, e0, rfl⟩
  ·rw [if_neg k2]; exact Or.inl ⟨k2, rfl⟩
 refine Or.inr ?_
 by_cases p11 : x.f0 = 11
 ·exact Or.inl ⟨p11, fun w0 => hand_push _ _ _ _ hST _ (by unfold workerF hdOf; rw [if_neg p0, if_neg p1, if_neg p23, if_neg p4, if_neg p5, if_neg p6, if_neg p7, if_neg p8, if_neg p9, if_neg p10, if_pos p11])⟩
 refine Or.inr ?_
 by_cases p12 : x.f0 = 12
 ·exact Or.inl ⟨p12, fun w0 => hand_over _ _ _ _ hST _ hT hct _ e0 (start_P t x.f1 _ ht hsl) (by unfold workerF hdOf; rw [if_neg p0, if_neg p1, if_neg p23, if_neg p4, if_neg p5, if_neg p6, if_neg p7, if_neg p8, if_neg p9, if_neg p10, if_neg p11, if_pos p12])⟩
 refine Or.inr ?_
 by_cases p13 : x.f0 = 13
 ·exact Or.inl ⟨p13, fun w0 => hand_see _ _ _ (by unfold workerF hdOf; rw [if_neg p0, if_neg p1, if_neg p23, if_neg p4, if_neg p5, if_neg p6, if_neg p7, if_neg p8, if_neg p9, if_neg p10, if_neg p11, if_neg p12, if_pos p13])⟩
 refine Or.inr ?_
 by_cases p14 : x.f0 = 14
 ·exact Or.inl ⟨p14, fun w0 => hand_wake _ _ _ _ hST _ (by unfold workerF hdOf; rw [if_neg p0, if_neg p1, if_neg p23, if_neg p4, if_neg p5, if_neg p6, if_neg p7, if_neg p8, if_neg p9, if_neg p10, if_neg p11, if_neg p12, if_neg p13, if_pos p14])⟩
 refine Or.inr ⟨by have := h.p0; have := h.p1; omega, fun w0 => hand_done _ (hdOf x m) _ _ _ hT hct hnx ?_⟩
 have hwf : workerF c t wn d (hdOf x m) = (if (nextF (forestB t) t x.f1).1 = 3 then { hdOf x m with m := (addF m 0 18446744073709551615).1, ev := if (addF m 0 18446744073709551615).2 = 1 then [] ++ [⟨4, (nextF (forestB t) t x.f1).2, wn⟩] ++ [⟨5, 0, wn⟩] else [] ++ [⟨4, (nextF (forestB t) t x.f1).2, wn⟩], st := doF (nextF (forestB t) t x.f1).1 x.f1, pc := if (doF (nextF (forestB t) t x.f1).1 x.f1).length = 0 then 0 else 9, f := if (doF (nextF (forestB t) t x.f1).1 x.f1).length = 0 then ⟨1, 0, wn, 0, 0, 0, 0⟩ else zF } else { hdOf x m with pc := 9, f := zF }) := by unfold workerF hdOf; rw [if_neg p0, if_neg p1, if_neg p23, if_neg p4, if_neg p5, if_neg p6, if_neg p7, if_neg p8, if_neg p9, if_neg p10, if_neg p11, if_neg p12, if_neg p13, if_neg p14]
 rw [hwf]
 by_cases k3 : (nextF (forestB t) t x.f1).1 = 3
 ·rw [if_pos k3]; exact Or.inr ⟨k3, _, _, _, rfl, hdo, hmn, by simp [hdOf], rfl⟩
 ·rw [if_neg k3]; exact Or.inl ⟨k3, rfl⟩
end Go.Proofs.YthoeodjgfelkhaaGreat.QT
