/- Part 3 of the claim on TopWakes: printed contracts; steps of drawn regions; Decode's rounds. No condition. -/
import Derived.WalkSmall
import Derived.Lib.SliceRun
import Derived.WalkSpells
import Derived.WalkLawsBesides
import Derived.RangeFuncBox
import Derived.Test.YthoeodjgfelkhaaGreatm00
import Derived.Test.YthoeodjgfelkhaaGreatm02
set_option linter.unusedVariables false
set_option linter.unusedSimpArgs false
set_option maxRecDepth 100000
set_option maxHeartbeats 8000000
namespace Go.Proofs.YthoeodjgfelkhaaGreat.QT
open Go.RowKit Go.Proofs.YthoeodjgfelkhaaGreatW.PrintWords Go.Proofs.YthoeodjgfelkhaaGreatW.PrintLast Go.Proofs.YthoeodjgfelkhaaGreatW.PrintMore
attribute [local go_sem] max2_int min2_int max_two min_two
theorem info3 : (Tryz.prog.info? 3).map (fun i => (i.zero, i.size, i.bytes)) = some (some (.int .i64 0), 1, 8) := by kernel_rfl
theorem info38 : (Tryz.prog.info? 38).map (fun i => (i.zero, i.size, i.bytes)) = some (some (.int .u64 0), 1, 8) := by kernel_rfl
theorem info116 : (Tryz.prog.info? 116).map (fun i => (i.zero, i.size, i.bytes)) = some (some (.agg #[(.int .i64 0), (.int .i64 0), (.int .i64 0)]), 3, 24) := by kernel_rfl
def rd_L1 (xs : List (List Int)) (i : Int) : (List Int) := xs.getD i.toNat ([] : List Int)
theorem at_L1 {w : World} {A : Option Addr} {n : Nat} {xs : List (List Int)} (h : Kd.C (Kd.slice 3 (Kd.int .i64)) w A n xs) (i : Int) (h0 : 0 ≤ i) (h1 : i < n) : ∃ ad A0 c0, A = some ad ∧ w.cell? (ad.add i.toNat) = some (.slice A0 (rd_L1 xs i).length c0) ∧ (rd_L1 xs i).length ≤ c0 ∧ (Kd.int .i64).C w A0 (rd_L1 xs i).length (rd_L1 xs i) := by
 obtain ⟨ad, c, e, _, hK, hc0⟩ := Kd.C_get h ([] : List Int) i h0 h1
 have hc : ∀ j u, c[j]? = some u → w.cell? (ad.add (i.toNat * 1 + j)) = some u := hc0
 obtain ⟨A0, c0, rfl, l0, g0⟩ := hK
 exact ⟨ad, A0, c0, e, by have hq := hc 0 _ rfl; rwa [Nat.mul_one, Nat.add_zero] at hq, l0, g0⟩
structure S45 where
 f0 : Int
 f1 : (List Int)
def z45 : S45 := ⟨(0 : Int), ([] : List Int)⟩
def k45 : Kd S45 := Kd.iso (Kd.pair (Kd.int .i64) (Kd.slice 3 (Kd.int .i64))) (fun x : S45 => (x.f0, x.f1))
theorem k45_open {w : World} {x : S45} {cs : List Value} (h : k45.K w x cs) : ∃ A1 c1, cs = [.int .i64 x.f0, .slice A1 x.f1.length c1] ∧ x.f1.length ≤ c1 ∧ (Kd.int .i64).C w A1 x.f1.length x.f1 := by
 obtain ⟨_, _, rfl, rfl, ⟨A1, c1, rfl, l1, g1⟩⟩ := h
 exact ⟨A1, c1, rfl, l1, g1⟩
theorem k45_mk (w : World) (x : S45) {A1 : Option Addr} {c1 : Nat} (l1 : x.f1.length ≤ c1) (g1 : (Kd.int .i64).C w A1 x.f1.length x.f1) : k45.K w x [.int .i64 x.f0, .slice A1 x.f1.length c1] := ⟨[.int .i64 x.f0], [.slice A1 x.f1.length c1], rfl, rfl, ⟨A1, c1, rfl, l1, g1⟩⟩
theorem k45_mkM (w : World) (base : Nat) (ok : Nat → Prop) (x : S45) {v1 : Value} (g1 : (Kd.int .i64).R 3 w base ok v1 x.f1) : k45.M w base ok x [.int .i64 x.f0, v1] := ⟨[.int .i64 x.f0], [v1], rfl, rfl, ⟨v1, rfl, g1⟩⟩
def rd_T45 (xs : List S45) (i : Int) : S45 := xs.getD i.toNat z45
theorem at_T45 {w : World} {A : Option Addr} {n : Nat} {xs : List S45} (h : Kd.C k45 w A n xs) (i : Int) (h0 : 0 ≤ i) (h1 : i < n) : ∃ ad A1 c1, A = some ad ∧ w.cell? (ad.add (i.toNat * 2)) = some (.int .i64 (rd_T45 xs i).f0) ∧ w.cell? ⟨(ad.add (i.toNat * 2)).block, (ad.add (i.toNat * 2)).off + 1, none⟩ = some (.slice A1 (rd_T45 xs i).f1.length c1) ∧ (rd_T45 xs i).f1.length ≤ c1 ∧ (Kd.int .i64).C w A1 (rd_T45 xs i).f1.length (rd_T45 xs i).f1 := by
 obtain ⟨ad, c, e, _, hK, hc0⟩ := Kd.C_get h z45 i h0 h1
 have hc : ∀ j u, c[j]? = some u → w.cell? (ad.add (i.toNat * 2 + j)) = some u := hc0
 obtain ⟨A1, c1, rfl, l1, g1⟩ := k45_open hK
 exact ⟨ad, A1, c1, e, hc 0 _ rfl, by rw [← add_field _ _ 1 (by omega)]; exact hc 1 _ rfl, l1, g1⟩
structure S116 where
 f0 : Int
 f1 : Int
 f2 : Int
def z116 : S116 := ⟨(0 : Int), (0 : Int), (0 : Int)⟩
def k116 : Kd S116 := Kd.iso (Kd.pair (Kd.int .i64) (Kd.pair (Kd.int .i64) (Kd.int .i64))) (fun x : S116 => (x.f0, x.f1, x.f2))
theorem k116_open {w : World} {x : S116} {cs : List Value} (h : k116.K w x cs) : cs = [.int .i64 x.f0, .int .i64 x.f1, .int .i64 x.f2] := by
 obtain ⟨_, _, rfl, rfl, ⟨_, _, rfl, rfl, rfl⟩⟩ := h
 exact rfl
theorem k116_openM {w : World} {base : Nat} {ok : Nat → Prop} {x : S116} {cs : List Value} (h : k116.M w base ok x cs) : cs = [.int .i64 x.f0, .int .i64 x.f1, .int .i64 x.f2] := by
 obtain ⟨_, _, rfl, rfl, ⟨_, _, rfl, rfl, rfl⟩⟩ := h
 exact rfl
theorem k116_mkM (w : World) (base : Nat) (ok : Nat → Prop) (x : S116)  : k116.M w base ok x [.int .i64 x.f0, .int .i64 x.f1, .int .i64 x.f2] := ⟨[.int .i64 x.f0], [.int .i64 x.f1, .int .i64 x.f2], rfl, rfl, ⟨[.int .i64 x.f1], [.int .i64 x.f2], rfl, rfl, rfl⟩⟩
def rd_T116 (xs : List S116) (i : Int) : S116 := xs.getD i.toNat z116
theorem at_T116 {w : World} {A : Option Addr} {n : Nat} {xs : List S116} (h : Kd.C k116 w A n xs) (i : Int) (h0 : 0 ≤ i) (h1 : i < n) : ∃ ad , A = some ad ∧ w.cell? (ad.add (i.toNat * 3)) = some (.int .i64 (rd_T116 xs i).f0) ∧ w.cell? ⟨(ad.add (i.toNat * 3)).block, (ad.add (i.toNat * 3)).off + 1, none⟩ = some (.int .i64 (rd_T116 xs i).f1) ∧ w.cell? ⟨(ad.add (i.toNat * 3)).block, (ad.add (i.toNat * 3)).off + 2, none⟩ = some (.int .i64 (rd_T116 xs i).f2) := by
 obtain ⟨ad, c, e, _, hK, hc0⟩ := Kd.C_get h z116 i h0 h1
 have hc : ∀ j u, c[j]? = some u → w.cell? (ad.add (i.toNat * 3 + j)) = some u := hc0
 obtain rfl := k116_open hK
 exact ⟨ad, e, hc 0 _ rfl, by rw [← add_field _ _ 1 (by omega)]; exact hc 1 _ rfl, by rw [← add_field _ _ 2 (by omega)]; exact hc 2 _ rfl⟩
structure S66 where
 f0 : Int
 f1 : Int
 f2 : Int
 f3 : Int
 f4 : Int
 f5 : Int
 f6 : Int
def z66 : S66 := ⟨(0 : Int), (0 : Int), (0 : Int), (0 : Int), (0 : Int), (0 : Int), (0 : Int)⟩
def k66 : Kd S66 := Kd.iso (Kd.pair (Kd.int .i64) (Kd.pair (Kd.int .i64) (Kd.pair (Kd.int .i64) (Kd.pair (Kd.int .u64) (Kd.pair (Kd.int .u64) (Kd.pair (Kd.int .u64) (Kd.int .i64))))))) (fun x : S66 => (x.f0, x.f1, x.f2, x.f3, x.f4, x.f5, x.f6))
theorem k66_open {w : World} {x : S66} {cs : List Value} (h : k66.K w x cs) : cs = [.int .i64 x.f0, .int .i64 x.f1, .int .i64 x.f2, .int .u64 x.f3, .int .u64 x.f4, .int .u64 x.f5, .int .i64 x.f6] := by
 obtain ⟨_, _, rfl, rfl, ⟨_, _, rfl, rfl, ⟨_, _, rfl, rfl, ⟨_, _, rfl, rfl, ⟨_, _, rfl, rfl, ⟨_, _, rfl, rfl, rfl⟩⟩⟩⟩⟩⟩ := h
 exact rfl
theorem k66_openM {w : World} {base : Nat} {ok : Nat → Prop} {x : S66} {cs : List Value} (h : k66.M w base ok x cs) : cs = [.int .i64 x.f0, .int .i64 x.f1, .int .i64 x.f2, .int .u64 x.f3, .int .u64 x.f4, .int .u64 x.f5, .int .i64 x.f6] := by
 obtain ⟨_, _, rfl, rfl, ⟨_, _, rfl, rfl, ⟨_, _, rfl, rfl, ⟨_, _, rfl, rfl, ⟨_, _, rfl, rfl, ⟨_, _, rfl, rfl, rfl⟩⟩⟩⟩⟩⟩ := h
 exact rfl
theorem k66_mkM (w : World) (base : Nat) (ok : Nat → Prop) (x : S66)  : k66.M w base ok x [.int .i64 x.f0, .int .i64 x.f1, .int .i64 x.f2, .int .u64 x.f3, .int .u64 x.f4, .int .u64 x.f5, .int .i64 x.f6] := ⟨[.int .i64 x.f0], [.int .i64 x.f1, .int .i64 x.f2, .int .u64 x.f3, .int .u64 x.f4, .int .u64 x.f5, .int .i64 x.f6], rfl, rfl, ⟨[.int .i64 x.f1], [.int .i64 x.f2, .int .u64 x.f3, .int .u64 x.f4, .int .u64 x.f5, .int .i64 x.f6], rfl, rfl, ⟨[.int .i64 x.f2], [.int .u64 x.f3, .int .u64 x.f4, .int .u64 x.f5, .int .i64 x.f6], rfl, rfl, ⟨[.int .u64 x.f3], [.int .u64 x.f4, .int .u64 x.f5, .int .i64 x.f6], rfl, rfl, ⟨[.int .u64 x.f4], [.int .u64 x.f5, .int .i64 x.f6], rfl, rfl, ⟨[.int .u64 x.f5], [.int .i64 x.f6], rfl, rfl, rfl⟩⟩⟩⟩⟩⟩
structure S76 where
 f0 : Int
 f1 : (List S116)
 f2 : S66
 f3 : Int
 f4 : Int
def z76 : S76 := ⟨(0 : Int), ([] : List S116), z66, (0 : Int), (0 : Int)⟩
def k76 : Kd S76 := Kd.iso (Kd.pair (Kd.int .i64) (Kd.pair (Kd.slice 116 k116) (Kd.pair k66 (Kd.pair (Kd.int .i64) (Kd.int .i64))))) (fun x : S76 => (x.f0, x.f1, x.f2, x.f3, x.f4))
theorem k76_open {w : World} {x : S76} {cs : List Value} (h : k76.K w x cs) : ∃ A1 c1, cs = [.int .i64 x.f0, .slice A1 x.f1.length c1, .int .i64 x.f2.f0, .int .i64 x.f2.f1, .int .i64 x.f2.f2, .int .u64 x.f2.f3, .int .u64 x.f2.f4, .int .u64 x.f2.f5, .int .i64 x.f2.f6, .int .i64 x.f3, .int .i64 x.f4] ∧ x.f1.length ≤ c1 ∧ k116.C w A1 x.f1.length x.f1 := by
 obtain ⟨_, _, rfl, rfl, ⟨_, _, rfl, ⟨A1, c1, rfl, l1, g1⟩, ⟨_, _, rfl, s2, ⟨_, _, rfl, rfl, rfl⟩⟩⟩⟩ := h
 obtain rfl := k66_open s2
 exact ⟨A1, c1, rfl, l1, g1⟩
theorem k76_openM {w : World} {base : Nat} {ok : Nat → Prop} {x : S76} {cs : List Value} (h : k76.M w base ok x cs) : ∃ v1, cs = [.int .i64 x.f0, v1, .int .i64 x.f2.f0, .int .i64 x.f2.f1, .int .i64 x.f2.f2, .int .u64 x.f2.f3, .int .u64 x.f2.f4, .int .u64 x.f2.f5, .int .i64 x.f2.f6, .int .i64 x.f3, .int .i64 x.f4] ∧ k116.R 116 w base ok v1 x.f1 := by
 obtain ⟨_, _, rfl, rfl, ⟨_, _, rfl, ⟨v1, rfl, g1⟩, ⟨_, _, rfl, s2, ⟨_, _, rfl, rfl, rfl⟩⟩⟩⟩ := h
 obtain rfl := k66_openM s2
 exact ⟨v1, rfl, g1⟩
theorem k76_mkM (w : World) (base : Nat) (ok : Nat → Prop) (x : S76) {v1 : Value} (g1 : k116.R 116 w base ok v1 x.f1) : k76.M w base ok x [.int .i64 x.f0, v1, .int .i64 x.f2.f0, .int .i64 x.f2.f1, .int .i64 x.f2.f2, .int .u64 x.f2.f3, .int .u64 x.f2.f4, .int .u64 x.f2.f5, .int .i64 x.f2.f6, .int .i64 x.f3, .int .i64 x.f4] := ⟨[.int .i64 x.f0], [v1, .int .i64 x.f2.f0, .int .i64 x.f2.f1, .int .i64 x.f2.f2, .int .u64 x.f2.f3, .int .u64 x.f2.f4, .int .u64 x.f2.f5, .int .i64 x.f2.f6, .int .i64 x.f3, .int .i64 x.f4], rfl, rfl, ⟨[v1], [.int .i64 x.f2.f0, .int .i64 x.f2.f1, .int .i64 x.f2.f2, .int .u64 x.f2.f3, .int .u64 x.f2.f4, .int .u64 x.f2.f5, .int .i64 x.f2.f6, .int .i64 x.f3, .int .i64 x.f4], rfl, ⟨v1, rfl, g1⟩, ⟨[.int .i64 x.f2.f0, .int .i64 x.f2.f1, .int .i64 x.f2.f2, .int .u64 x.f2.f3, .int .u64 x.f2.f4, .int .u64 x.f2.f5, .int .i64 x.f2.f6], [.int .i64 x.f3, .int .i64 x.f4], rfl, (k66_mkM w base ok x.f2 ), ⟨[.int .i64 x.f3], [.int .i64 x.f4], rfl, rfl, rfl⟩⟩⟩⟩
def rd_T76 (xs : List S76) (i : Int) : S76 := xs.getD i.toNat z76
theorem at_T76 {w : World} {A : Option Addr} {n : Nat} {xs : List S76} (h : Kd.C k76 w A n xs) (i : Int) (h0 : 0 ≤ i) (h1 : i < n) : ∃ ad A1 c1, A = some ad ∧ w.cell? (ad.add (i.toNat * 11)) = some (.int .i64 (rd_T76 xs i).f0) ∧ w.cell? ⟨(ad.add (i.toNat * 11)).block, (ad.add (i.toNat * 11)).off + 1, none⟩ = some (.slice A1 (rd_T76 xs i).f1.length c1) ∧ w.cell? ⟨(ad.add (i.toNat * 11)).block, (ad.add (i.toNat * 11)).off + 2, none⟩ = some (.int .i64 (rd_T76 xs i).f2.f0) ∧ w.cell? ⟨(ad.add (i.toNat * 11)).block, (ad.add (i.toNat * 11)).off + 3, none⟩ = some (.int .i64 (rd_T76 xs i).f2.f1) ∧ w.cell? ⟨(ad.add (i.toNat * 11)).block, (ad.add (i.toNat * 11)).off + 4, none⟩ = some (.int .i64 (rd_T76 xs i).f2.f2) ∧ w.cell? ⟨(ad.add (i.toNat * 11)).block, (ad.add (i.toNat * 11)).off + 5, none⟩ = some (.int .u64 (rd_T76 xs i).f2.f3) ∧ w.cell? ⟨(ad.add (i.toNat * 11)).block, (ad.add (i.toNat * 11)).off + 6, none⟩ = some (.int .u64 (rd_T76 xs i).f2.f4) ∧ w.cell? ⟨(ad.add (i.toNat * 11)).block, (ad.add (i.toNat * 11)).off + 7, none⟩ = some (.int .u64 (rd_T76 xs i).f2.f5) ∧ w.cell? ⟨(ad.add (i.toNat * 11)).block, (ad.add (i.toNat * 11)).off + 8, none⟩ = some (.int .i64 (rd_T76 xs i).f2.f6) ∧ w.cell? ⟨(ad.add (i.toNat * 11)).block, (ad.add (i.toNat * 11)).off + 9, none⟩ = some (.int .i64 (rd_T76 xs i).f3) ∧ w.cell? ⟨(ad.add (i.toNat * 11)).block, (ad.add (i.toNat * 11)).off + 10, none⟩ = some (.int .i64 (rd_T76 xs i).f4) ∧ (rd_T76 xs i).f1.length ≤ c1 ∧ k116.C w A1 (rd_T76 xs i).f1.length (rd_T76 xs i).f1 := by
 obtain ⟨ad, c, e, _, hK, hc0⟩ := Kd.C_get h z76 i h0 h1
 have hc : ∀ j u, c[j]? = some u → w.cell? (ad.add (i.toNat * 11 + j)) = some u := hc0
 obtain ⟨A1, c1, rfl, l1, g1⟩ := k76_open hK
 exact ⟨ad, A1, c1, e, hc 0 _ rfl, by rw [← add_field _ _ 1 (by omega)]; exact hc 1 _ rfl, by rw [← add_field _ _ 2 (by omega)]; exact hc 2 _ rfl, by rw [← add_field _ _ 3 (by omega)]; exact hc 3 _ rfl, by rw [← add_field _ _ 4 (by omega)]; exact hc 4 _ rfl, by rw [← add_field _ _ 5 (by omega)]; exact hc 5 _ rfl, by rw [← add_field _ _ 6 (by omega)]; exact hc 6 _ rfl, by rw [← add_field _ _ 7 (by omega)]; exact hc 7 _ rfl, by rw [← add_field _ _ 8 (by omega)]; exact hc 8 _ rfl, by rw [← add_field _ _ 9 (by omega)]; exact hc 9 _ rfl, by rw [← add_field _ _ 10 (by omega)]; exact hc 10 _ rfl, l1, g1⟩
structure S68 where
 f0 : Int
 f1 : (List Int)
 f2 : S66
def z68 : S68 := ⟨(0 : Int), ([] : List Int), z66⟩
def k68 : Kd S68 := Kd.iso (Kd.pair (Kd.int .i64) (Kd.pair (Kd.slice 3 (Kd.int .i64)) k66)) (fun x : S68 => (x.f0, x.f1, x.f2))
theorem k68_open {w : World} {x : S68} {cs : List Value} (h : k68.K w x cs) : ∃ A1 c1, cs = [.int .i64 x.f0, .slice A1 x.f1.length c1, .int .i64 x.f2.f0, .int .i64 x.f2.f1, .int .i64 x.f2.f2, .int .u64 x.f2.f3, .int .u64 x.f2.f4, .int .u64 x.f2.f5, .int .i64 x.f2.f6] ∧ x.f1.length ≤ c1 ∧ (Kd.int .i64).C w A1 x.f1.length x.f1 := by
 obtain ⟨_, _, rfl, rfl, ⟨_, _, rfl, ⟨A1, c1, rfl, l1, g1⟩, s2⟩⟩ := h
 obtain rfl := k66_open s2
 exact ⟨A1, c1, rfl, l1, g1⟩
theorem k68_openM {w : World} {base : Nat} {ok : Nat → Prop} {x : S68} {cs : List Value} (h : k68.M w base ok x cs) : ∃ v1, cs = [.int .i64 x.f0, v1, .int .i64 x.f2.f0, .int .i64 x.f2.f1, .int .i64 x.f2.f2, .int .u64 x.f2.f3, .int .u64 x.f2.f4, .int .u64 x.f2.f5, .int .i64 x.f2.f6] ∧ (Kd.int .i64).R 3 w base ok v1 x.f1 := by
 obtain ⟨_, _, rfl, rfl, ⟨_, _, rfl, ⟨v1, rfl, g1⟩, s2⟩⟩ := h
 obtain rfl := k66_openM s2
 exact ⟨v1, rfl, g1⟩
theorem k68_mkM (w : World) (base : Nat) (ok : Nat → Prop) (x : S68) {v1 : Value} (g1 : (Kd.int .i64).R 3 w base ok v1 x.f1) : k68.M w base ok x [.int .i64 x.f0, v1, .int .i64 x.f2.f0, .int .i64 x.f2.f1, .int .i64 x.f2.f2, .int .u64 x.f2.f3, .int .u64 x.f2.f4, .int .u64 x.f2.f5, .int .i64 x.f2.f6] := ⟨[.int .i64 x.f0], [v1, .int .i64 x.f2.f0, .int .i64 x.f2.f1, .int .i64 x.f2.f2, .int .u64 x.f2.f3, .int .u64 x.f2.f4, .int .u64 x.f2.f5, .int .i64 x.f2.f6], rfl, rfl, ⟨[v1], [.int .i64 x.f2.f0, .int .i64 x.f2.f1, .int .i64 x.f2.f2, .int .u64 x.f2.f3, .int .u64 x.f2.f4, .int .u64 x.f2.f5, .int .i64 x.f2.f6], rfl, ⟨v1, rfl, g1⟩, (k66_mkM w base ok x.f2 )⟩⟩
def rd_T68 (xs : List S68) (i : Int) : S68 := xs.getD i.toNat z68
theorem at_T68 {w : World} {A : Option Addr} {n : Nat} {xs : List S68} (h : Kd.C k68 w A n xs) (i : Int) (h0 : 0 ≤ i) (h1 : i < n) : ∃ ad A1 c1, A = some ad ∧ w.cell? (ad.add (i.toNat * 9)) = some (.int .i64 (rd_T68 xs i).f0) ∧ w.cell? ⟨(ad.add (i.toNat * 9)).block, (ad.add (i.toNat * 9)).off + 1, none⟩ = some (.slice A1 (rd_T68 xs i).f1.length c1) ∧ w.cell? ⟨(ad.add (i.toNat * 9)).block, (ad.add (i.toNat * 9)).off + 2, none⟩ = some (.int .i64 (rd_T68 xs i).f2.f0) ∧ w.cell? ⟨(ad.add (i.toNat * 9)).block, (ad.add (i.toNat * 9)).off + 3, none⟩ = some (.int .i64 (rd_T68 xs i).f2.f1) ∧ w.cell? ⟨(ad.add (i.toNat * 9)).block, (ad.add (i.toNat * 9)).off + 4, none⟩ = some (.int .i64 (rd_T68 xs i).f2.f2) ∧ w.cell? ⟨(ad.add (i.toNat * 9)).block, (ad.add (i.toNat * 9)).off + 5, none⟩ = some (.int .u64 (rd_T68 xs i).f2.f3) ∧ w.cell? ⟨(ad.add (i.toNat * 9)).block, (ad.add (i.toNat * 9)).off + 6, none⟩ = some (.int .u64 (rd_T68 xs i).f2.f4) ∧ w.cell? ⟨(ad.add (i.toNat * 9)).block, (ad.add (i.toNat * 9)).off + 7, none⟩ = some (.int .u64 (rd_T68 xs i).f2.f5) ∧ w.cell? ⟨(ad.add (i.toNat * 9)).block, (ad.add (i.toNat * 9)).off + 8, none⟩ = some (.int .i64 (rd_T68 xs i).f2.f6) ∧ (rd_T68 xs i).f1.length ≤ c1 ∧ (Kd.int .i64).C w A1 (rd_T68 xs i).f1.length (rd_T68 xs i).f1 := by
 obtain ⟨ad, c, e, _, hK, hc0⟩ := Kd.C_get h z68 i h0 h1
 have hc : ∀ j u, c[j]? = some u → w.cell? (ad.add (i.toNat * 9 + j)) = some u := hc0
 obtain ⟨A1, c1, rfl, l1, g1⟩ := k68_open hK
 exact ⟨ad, A1, c1, e, hc 0 _ rfl, by rw [← add_field _ _ 1 (by omega)]; exact hc 1 _ rfl, by rw [← add_field _ _ 2 (by omega)]; exact hc 2 _ rfl, by rw [← add_field _ _ 3 (by omega)]; exact hc 3 _ rfl, by rw [← add_field _ _ 4 (by omega)]; exact hc 4 _ rfl, by rw [← add_field _ _ 5 (by omega)]; exact hc 5 _ rfl, by rw [← add_field _ _ 6 (by omega)]; exact hc 6 _ rfl, by rw [← add_field _ _ 7 (by omega)]; exact hc 7 _ rfl, by rw [← add_field _ _ 8 (by omega)]; exact hc 8 _ rfl, l1, g1⟩
def zML : Nat → Nat → List Bool
 | 0, _ => []
 | n + 1, x => Nat.beq (x % 2) 1 :: zML n (x / 2)
def zM (n x : Nat) : Array Bool := (zML n x).toArray
section
variable {P : Program} {ops : Array Oper} {Q : Exit → Act → World → Prop} {md : Region.Mode} {S : World → Prop} {ds : List Nat} {oi oj : Oper} {v : Value} {fuel n x : Nat} {a a' : Act} {w : World}
theorem zY (i y : Nat) (t : Tmp) (h : wpAnyLast P md ops Q S ds fuel (zM n y) a' w) (hi : ops[i]? = some oi := by exact rfl) (hN : oi.dst = some t := by exact rfl) (hc : anyB md ops (zM n x) (zM n y) i = true := by kernel_rfl)
  (hQ : ∀ c a w, Q (.panic c) (a.put oi.dst v) w → Q (.panic c) a w := by exact fun _ _ _ h => h) (hy : Yields P ops oi v a := by exact Or.inl ⟨by rfl, fun w' => by go_simp; with_reducible rfl⟩)
  (ha : a.put (some t) v = a' := by simp only [Act.put, List.setIfInBounds_toArray, List.set_cons_zero, List.set_cons_succ, i64_w]; rfl) : wpAnyLast P md ops Q S ds (fuel + 1) (zM n x) a w := pure_ (zM n y) hi hN hc hQ hy ha h
theorem zT (i y : Nat) (t : Tmp) (h : wpAnyLast P md ops Q S ds fuel (zM n y) a' w) (hS : S w := by exact hHeld) (hi : ops[i]? = some oi := by exact rfl) (hN : oi.dst = some t := by exact rfl) (hc : takeB md ops ds (zM n x) (zM n y) i = true := by kernel_rfl)
  (hQ : ∀ c a w, Q (.panic c) (a.put oi.dst v) w → Q (.panic c) a w := by exact fun _ _ _ h => h) (hw : Region.wanted oi (yielded ops a.tmps) = true := by rfl)
  (hy : ∀ w, S w → (execOp a.eval oi).run P w = .ok (.value v) w)
  (ha : a.put (some t) v = a' := by simp only [Act.put, List.setIfInBounds_toArray, List.set_cons_zero, List.set_cons_succ, i64_w]; rfl) : wpAnyLast P md ops Q S ds (fuel + 1) (zM n x) a w := take_ (zM n y) hi hN hc hQ (Or.inl ⟨hw, hy⟩) hS ha h
theorem zO (i y : Nat) (t : Tmp) (h : ∀ K : Act → World → Prop, Shut (∀ a' w', S w' → (S w' → wpAnyLast P md ops Q S ds fuel (zM n y) a' w') → K a' w') → if Region.wanted oi (yielded ops a.tmps) = true then Oper.wp P oi a w K Q else K (a.put (some t) undef) w)
  (hi : ops[i]? = some oi := by exact rfl) (hN : oi.dst = some t := by exact rfl) (hc : readyB md ops (zM n x) (zM n y) i = true := by kernel_rfl) (hd : i ∉ ds := by decide) : wpAnyLast P md ops Q S ds (fuel + 1) (zM n x) a w := one_ (zM n y) hi hN hc hd h
theorem zL (i y : Nat) (h : ∀ K : Act → World → Prop, Shut (∀ a' w', wpAnyLast P md ops Q S ds fuel (zM n y) a' w' → K a' w') → if Region.wanted oi (yielded ops a.tmps) = true then Oper.wp P oi a w K Q else K (a.put none undef) w)
  (hi : ops[i]? = some oi := by exact rfl) (hN : oi.dst = none := by exact rfl) (hc : readyB md ops (zM n x) (zM n y) i = true := by kernel_rfl) (hd : i ∈ ds := by decide) : wpAnyLast P md ops Q S ds (fuel + 1) (zM n x) a w := last_ (zM n y) hi hN hc hd h
theorem zS {id : Nat} (n : Nat) (ds : List Nat) (S : World → Prop) (hS : S w.drew) (h : S w.drew → wpAnyLast P .any ops Q S ds n (zM n 0) a w.drew)
  (hm : P.follows .mixedOrders = true := by kernel_rfl) (hn : ops.size = n := by exact rfl) (hl : Array.replicate n false = zM n 0 := by rfl) : (Code.region id ops true).wp P Q a w := start_ (zM n 0) hm hn hl hS h
theorem zD {l : Array Bool} (h : Q .normal a w) (hr : (Region.ready md ops l == []) = true := by kernel_rfl) : wpAnyLast P md ops Q S ds n l a w := done_ hr h
end
theorem zB {p : Prop} (h : p := by repeat (first | (with_reducible first | exact HB.out | apply below_alloc | apply pw_below_drewN | apply below_drew1 | refine below_set ?_ (Aside0.out (by assumption))) | exact HB.out)) : p := h
theorem zK {p q : Prop} (k : q) (h : q → p := by intro k; (with_reducible repeat (first | refine blk_drewN ?_ _ | refine blk_drew ?_ | refine blk_alloc ?_ _)); exact k) : p := h k
theorem zy0 {p : Prop} (h : p := by intro w' hSw; have x0 := blk_cell hSw.1; have p0 := blk_cell hSw.2.1; have s0 := hSw.2.2.1 0 _ (by decide) rfl; have s1 := hSw.2.2.1 1 _ (by decide) rfl; have s2 := hSw.2.2.1 2 _ (by decide) rfl; have s3 := hSw.2.2.1 3 _ (by decide) rfl; have s4 := hSw.2.2.1 4 _ (by decide) rfl; have s6 := hSw.2.2.1 6 _ (by decide) rfl; have s7 := hSw.2.2.1 7 _ (by decide) rfl; have e0 := hSw.2.2.2 0 _ rfl; have e1 := hSw.2.2.2 1 _ rfl; have e2 := hSw.2.2.2 2 _ rfl; have e3 := hSw.2.2.2 3 _ rfl; have e4 := hSw.2.2.2 4 _ rfl; have e5 := hSw.2.2.2 5 _ rfl; have e6 := hSw.2.2.2 6 _ rfl; have e7 := hSw.2.2.2 7 _ rfl; have e8 := hSw.2.2.2 8 _ rfl; have e9 := hSw.2.2.2 9 _ rfl; have e10 := hSw.2.2.2 10 _ rfl; simp only [Nat.add_zero] at e0; go_simp; with_reducible rfl) : p := h
theorem zy1 {p : Prop} (h : p := by intro w' hSw; have x0 := blk_cell hSw.1; have p0 := blk_cell hSw.2.1; have s0 := hSw.2.2.1 0 _ (by decide) rfl; have s1 := hSw.2.2.1 1 _ (by decide) rfl; have s2 := hSw.2.2.1 2 _ (by decide) rfl; have s3 := hSw.2.2.1 3 _ (by decide) rfl; have s4 := hSw.2.2.1 4 _ (by decide) rfl; have s6 := hSw.2.2.1 6 _ (by decide) rfl; have s7 := hSw.2.2.1 7 _ (by decide) rfl; have e0 := hSw.2.2.2 0 _ rfl; have e1 := hSw.2.2.2 1 _ rfl; have e2 := hSw.2.2.2 2 _ rfl; have e3 := hSw.2.2.2 3 _ rfl; have e4 := hSw.2.2.2 4 _ rfl; have e5 := hSw.2.2.2 5 _ rfl; have e6 := hSw.2.2.2 6 _ rfl; have e7 := hSw.2.2.2 7 _ rfl; have e8 := hSw.2.2.2 8 _ rfl; simp only [Nat.add_zero] at e0; go_simp; with_reducible rfl) : p := h
theorem zy2 {p : Prop} (h : p := by intro w' hSw; have x0 := blk_cell hSw.1; have p0 := blk_cell hSw.2.1; have s0 := hSw.2.2.1 0 _ rfl; have s1 := hSw.2.2.1 1 _ rfl; have s2 := hSw.2.2.1 2 _ rfl; have s3 := hSw.2.2.1 3 _ rfl; have s4 := hSw.2.2.1 4 _ rfl; have s5 := hSw.2.2.1 5 _ rfl; have s6 := hSw.2.2.1 6 _ rfl; have s7 := hSw.2.2.1 7 _ rfl; have e0 := hSw.2.2.2 0 _ rfl; have e1 := hSw.2.2.2 1 _ rfl; have e2 := hSw.2.2.2 2 _ rfl; have e3 := hSw.2.2.2 3 _ rfl; have e4 := hSw.2.2.2 4 _ rfl; have e5 := hSw.2.2.2 5 _ rfl; have e6 := hSw.2.2.2 6 _ rfl; have e7 := hSw.2.2.2 7 _ rfl; have e8 := hSw.2.2.2 8 _ rfl; simp only [Nat.add_zero] at e0; go_simp; with_reducible rfl) : p := h
theorem zy3 {p : Prop} (h : p := by intro w' hSw; have r0 := twoCells hSw.1; have o0 := blk_cell hSw.2; go_simp; with_reducible rfl) : p := h
theorem zy4 {p : Prop} (h : p := by intro w' hSw; have q0 := boxCells hSw; go_simp; with_reducible rfl) : p := h
theorem zy5 {p : Prop} (h : p := by intro w' hSw; have h0 := handCells hSw; go_simp; with_reducible rfl) : p := h
theorem zy6 {p : Prop} (h : p := by intro w' hSw; have r0 := twoCells hSw; go_simp; with_reducible rfl) : p := h
theorem zy7 {p : Prop} (h : p := by intro w' hSw; have p0 := blk_cell hSw.1; have p1 := blk_cell hSw.2.1; have p2 := blk_cell hSw.2.2; go_simp; with_reducible rfl) : p := h
theorem zy8 {p : Prop} (h : p := by intro w' hSw; have s0 := (blk_cell hSw 0).trans (cntA_get _ 0 (by omega)); have s1 := (blk_cell hSw 1).trans (cntA_get _ 1 (by omega)); have s4 := (blk_cell hSw 4).trans (cntA_get _ 4 (by omega)); go_simp; with_reducible rfl) : p := h
theorem zy9 {p : Prop} (h : p := by intro w' hSw; have x0 := blk_cell hSw.2; have y0 := blk_cell hSw.1; go_simp; with_reducible rfl) : p := h
theorem zy10 {p : Prop} (h : p := by intro w' hSw; have s0 := boxCells hSw; go_simp; with_reducible rfl) : p := h
theorem zy11 {p : Prop} (h : p := by intro w' hSw; have s0 := blk_cell hSw.1.h0; have x1 := hSw.2; go_simp; with_reducible rfl) : p := h
theorem zy12 {p : Prop} (h : p := by intro w' hSw; have r0 := twoCells hSw.thr.two; have b0 := psBox hSw; have o0 := psCells hSw; go_simp; with_reducible rfl) : p := h
theorem zy13 {p : Prop} (h : p := by intro w' hSw; have r0 := twoCells hSw.two; go_simp; with_reducible rfl) : p := h
theorem zy14 {p : Prop} (h : p := by intro w' hSw; have o0 := blk_cell hSw.1; have t0 := blk_cell hSw.2.2; have s0 := blk_cell hSw.2.1; go_simp; with_reducible rfl) : p := h
theorem zy15 {p : Prop} (h : p := by intro w' hSw; have x0 := blk_cell hSw; go_simp; with_reducible rfl) : p := h
theorem zy16 {p : Prop} (h : p := by intro w' hSw; have x0 := blk_cell hSw.1; have s5 := blk_cell hSw.2; go_simp; with_reducible rfl) : p := h
theorem zy17 {p : Prop} (h : p := by intro w' hSw; have s0 := blk_cell hSw.h0; go_simp; with_reducible rfl) : p := h
theorem zy18 {p : Prop} (h : p := by intro w' hSw; (try dsimp only at hSw); go_simp; with_reducible rfl) : p := h
theorem zy19 {p : Prop} (h : p := by intro w' hSw; have p0 := blk_cell hSw; go_simp; with_reducible rfl) : p := h
end Go.Proofs.YthoeodjgfelkhaaGreat.QT
namespace Go.Proofs.YthoeodjgfelkhaaGreat.Hnd
open Go Go.Proofs Go.RowKit Go.Proofs.YthoeodjgfelkhaaGreat.Bri Go.Shelf Go.Proofs.YthoeodjgfelkhaaGreatW.PrintWords Go.Proofs.YthoeodjgfelkhaaGreatW.PrintLast Go.Proofs.YthoeodjgfelkhaaGreatW.PrintMore
attribute [local go_sem] Oper.semAt_some max2_int min2_int max_two min_two
theorem cell_new_l (W : World) (v : Value) (t : TypeId) : (W.alloc (.cells #[v] t)).cell? ⟨W.heap.size, 0, none⟩ = some v ∧ (W.alloc (.cells #[v] t)).frozen? ⟨W.heap.size, 0, none⟩ = false := by simp
theorem cell_alloc_l {W : World} {a : Addr} {v : Value} (o : Obj) (h : W.cell? a = some v) : (W.alloc o).cell? a = some v := cell_kept h (World.grownBy_alloc W o none) (fun r e => by cases e)
theorem block_lt {W : World} {a : Addr} {v : Value} (h : W.cell? a = some v) : a.block < W.heap.size := by
 obtain ⟨o, ho, _⟩ := cells_of_cell h
 exact (Array.getElem?_eq_some_iff.1 ho).1
abbrev Ch (len : Nat) := { x : Nat // 3 * x < len }
def chunksTo (len k : Nat) : List (Ch len) := (List.range k).filterMap fun x => if h : 3 * x < len then some ⟨x, h⟩ else none
theorem chunksTo_succ {len k : Nat} (h : 3 * k < len) : chunksTo len (k + 1) = chunksTo len k ++ [⟨k, h⟩] := by
 simp [chunksTo, List.range_succ, List.filterMap_append, h]
theorem chunksTo_len (len k : Nat) : (chunksTo len k).length ≤ k := by
 have := List.length_filterMap_le (fun x => if h : 3 * x < len then some (⟨x, h⟩ : Ch len) else none) (List.range k)
 simpa [chunksTo] using this
def chunkV (ad : Addr) (len x : Nat) : Value := .slice (some (ad.add (3 * x))) (min 3 (len - 3 * x)) (min 3 (len - 3 * x))
theorem run_from (ad : Addr) (len cap k : Nat) (i : Int) (hi : i = (k : Int)) (h1 : k ≤ len) (h2 : k < cap) (w : World) :
  (Instr.slice 26 (.slice (some ad) len cap) (some (.int .i64 i)) none none).run Tryz.prog w = .ok (.slice (some (ad.add k)) (len - k) (cap - k)) w := by
 subst hi
 have hz : ¬ cap = k := by omega
 have hs : (sizeOf 5).run Tryz.prog w = .ok 1 w := by kernel_rfl
 simp [Instr.slice, Instr.sliceBounds, run_underlying Tryz.underlying26, go_sem, h1, hz, hs]
theorem run_cut (ad : Addr) (len cap k m : Nat) (i j : Int) (hi : i = (k : Int)) (hj : j = ((k + m : Nat) : Int)) (h2 : k + m ≤ cap) (h3 : 0 < m) (w : World) :
  (Instr.slice 26 (.slice (some ad) len cap) (some (.int .i64 i)) (some (.int .i64 j)) (some (.int .i64 j))).run Tryz.prog w = .ok (.slice (some (ad.add k)) m m) w := by
 have hz : ¬ k + m = k := by omega
 have hs : (sizeOf 5).run Tryz.prog w = .ok 1 w := by kernel_rfl
 have h0 : 0 ≤ j := by omega
 have h1 : j ≤ (cap : Int) := by omega
 have h4 : j ≤ max j 0 := Int.le_max_left _ _
 have h5 : j.toNat = k + m := by omega
 have h6 : (k : Int) ≤ max j 0 := by omega
 have h7 : j ≤ (k : Int) + (m : Int) := by omega
 have h8 : ¬ m = 0 := by omega
 subst hi
 clear hj
 simp [Instr.slice, Instr.sliceBounds, run_underlying Tryz.underlying26, go_sem, h0, h1, h4, h5, h6, h7, h8, hz, hs]
def Keep2 (Bs Bn : Nat) (W W' : World) : Prop := W'.cell? ⟨Bs, 0, none⟩ = W.cell? ⟨Bs, 0, none⟩ ∧ W'.cell? ⟨Bn, 0, none⟩ = W.cell? ⟨Bn, 0, none⟩
theorem Keep2.trans {Bs Bn : Nat} {A B C : World} (h : Keep2 Bs Bn A B) (k : Keep2 Bs Bn B C) : Keep2 Bs Bn A C := ⟨k.1.trans h.1, k.2.trans h.2⟩
theorem Keep2.drew {Bs Bn : Nat} {A B : World} (h : Keep2 Bs Bn A B) : Keep2 Bs Bn A B.drew := h
theorem Keep2.put {Bs Bn : Nat} {w W : World} (h1 : Bs < w.heap.size) (h2 : Bn < w.heap.size) {l : Nat} {o : Obj} (o' : Obj) (hl : w.heap.size ≤ l) (hW : W.heap[l]? = some o) : Keep2 Bs Bn W (W.putObj l o') := by
 have hlt : l < W.heap.size := (Array.getElem?_eq_some_iff.1 hW).1
 constructor <;> simp only [World.cell?] <;> rw [World.putObj_heap_other (by omega)]
theorem chunk1_in (n : Nat) (l Bs Bn : Nat) (A : Option Addr) (ad : Addr) (len cap : Nat) (hA : 0 < len → A = some ad) (hlen : len ≤ 100000) (hcap : len ≤ cap) (J Jx : List (Ch len) → World → Prop) (hJ : ∀ s W, J s W → J s W.drew)
  (hY : ∀ pre x W, J pre W → pre.length < len → YieldAt (wideAt none) (n - 1) Tryz.prog l #[chunkV ad len x.1] W fun e W' =>
   (e = .returned (.bool true) ∧ J (pre ++ [x]) W' ∧ Keep2 Bs Bn W W') ∨ (e = .returned (.bool false) ∧ Jx (pre ++ [x]) W'))
  (W : World) (hBs : W.cell? ⟨Bs, 0, none⟩ = some (.slice A len cap)) (hBn : W.cell? ⟨Bn, 0, none⟩ = some (.int .i64 3)) (h0 : J [] W) :
  CallsIn (wideAt none) n Tryz.prog 66 #[.func (.yield l) #[] #[], .pointer (some ⟨Bs, 0, none⟩), .pointer (some ⟨Bn, 0, none⟩)] W fun e W' => (∃ v, e = .returned v) ∧
   ((∃ ys, (∃ k, len ≤ 3 * k ∧ ys = chunksTo len k) ∧ J ys W') ∨ (∃ pre, (∃ k, pre = chunksTo len k) ∧ Jx pre W')) := by
 refine callsIn_of_wp Tryz.func66 rfl trivial ?_ rfl
 simp only [Tryz.ntmps66, List.size_toArray, List.length_cons, List.length_nil, Nat.reduceAdd, Nat.reduceSub, Array.replicate_succ, Array.replicate_zero, List.push_toArray, List.append_toArray, List.nil_append, List.cons_append]
 gi_wp2
 gi_loopw [4] (fun i wr => ∃ k : Nat, 3 * k < len + 3 ∧ i = .int .i64 ((3 * k : Nat) : Int) ∧ J (chunksTo len k) wr ∧ Keep2 Bs Bn W wr)
  (fun i _ => len + 3 - (intOf i).toNat)
 case atStart => exact ⟨0, by omega, rfl, h0, rfl, rfl⟩
 case round =>
  obtain ⟨k, hk, rfl, hJs, hnx⟩ := hrel
  have hcs : wr.cell? ⟨Bs, 0, none⟩ = some (.slice A len cap) := hnx.1.trans hBs
  have hcn : wr.cell? ⟨Bn, 0, none⟩ = some (.int .i64 3) := hnx.2.trans hBn
  by_cases hlt : 3 * k < len
  ·rw [hA (by omega)] at hcs
   obtain ⟨fn, tmps, assign, body, hy, hR⟩ := hY _ ⟨k, hlt⟩ wr.drew (hJ _ _ hJs) (Nat.lt_of_le_of_lt (chunksTo_len len k) (by omega))
   unfold chunkV at hy
   have hsl := fun wx => run_from ad len cap (3 * k) (3 * (k : Int)) (by omega) (by omega) (by omega) wx
   obtain ⟨m, hm, hm0, hm3⟩ : ∃ m : Nat, min 3 (len - 3 * k) = m ∧ 0 < m ∧ 3 * k + m ≤ len := ⟨_, rfl, by omega, by omega⟩
   have hsl2 := fun wx => run_cut ad len cap (3 * k) m (3 * (k : Int)) (3 * (k : Int) + (m : Int)) (by omega) (by omega) (by omega) hm0 wx
   have hmi : (if ((len - 3 * k : Nat) : Int) < 3 then ((len - 3 * k : Nat) : Int) else 3) = (m : Int) := by split <;> omega
   dsimp only at hy
   rw [hm] at hy
   have HM := Lib.hid hm
   clear hm
   gi_wp2_with fail
   refine wpIn_region_still (by kernel_rfl) ?out (by kernel_rfl) (by kernel_rfl) ?_
   case out =>
    rintro ⟨a', w', ⟨v, hv⟩, _⟩
    cases hv
   repeat still_step
   refine wpStill_nil ?_
   gi_wp2
   refine ⟨fun h => (by cases h), hR.mono ?_⟩
   rintro e W3 (⟨rfl, hJ3, hk3⟩ | ⟨rfl, hJx3⟩)
   ·have hk4 : Keep2 Bs Bn W W3 := (hnx.drew).trans hk3
    have hcn3 : W3.cell? ⟨Bn, 0, none⟩ = some (.int .i64 3) := hk4.2.trans hBn
    gi_wp2
    go_roundw
    case rel => exact ⟨k + 1, by omega, by congr 1 <;> omega, by rw [chunksTo_succ hlt]; exact hJ3, hk4⟩
    case measure => simp [intOf]; omega
   ·gi_wp2
    refine bodyPost_ret (results_none rfl _ _ _) rfl ?_
    exact ⟨⟨_, rfl⟩, .inr ⟨_, ⟨k + 1, (chunksTo_succ hlt).symm⟩, hJx3⟩⟩
  ·gi_wp2
   go_end0
   exact ⟨⟨_, rfl⟩, .inl ⟨_, ⟨k, by omega, rfl⟩, hJs⟩⟩
theorem chunk_in (n : Nat) (A : Option Addr) (len cap : Nat) (w : World) :
  CallsIn (wideAt none) n Tryz.prog 34 #[.slice A len cap, .int .i64 3] w fun e w' => e = .returned (.func (.func 66) #[] #[.pointer (some ⟨w.heap.size, 0, none⟩), .pointer (some ⟨w.heap.size + 1, 0, none⟩)]) ∧ w' = (w.alloc (.cells #[.slice A len cap] 26)).alloc (.cells #[.int .i64 3] 3) := by
 have c0 := cell_new_l w (.slice A len cap) 26
 have c1 := cell_new_l (w.alloc (.cells #[.slice A len cap] 26)) (.int .i64 3) 3
 rw [World.size_alloc] at c1
 refine callsIn_of_wp Tryz.func34 rfl trivial ?_ rfl
 simp only [Tryz.ntmps34, List.size_toArray, List.length_cons, List.length_nil, Nat.reduceAdd, Nat.reduceSub, Array.replicate_succ, Array.replicate_zero, List.push_toArray, List.append_toArray, List.nil_append, List.cons_append]
 gi_wp2
 go_ret
 exact ⟨rfl, rfl⟩
theorem chunk_stops (n : Nat) (Bs Bn : Nat) (A : Option Addr) (ad : Addr) (len cap : Nat) (hA : 0 < len → A = some ad) (hlen : len ≤ 100000) (hcap : len ≤ cap) (w : World)
  (hBs : w.cell? ⟨Bs, 0, none⟩ = some (.slice A len cap)) (hBn : w.cell? ⟨Bn, 0, none⟩ = some (.int .i64 3)) :
  SeqStopsK (wideAt none) n Tryz.prog 66 #[.pointer (some ⟨Bs, 0, none⟩), .pointer (some ⟨Bn, 0, none⟩)] (fun x : Ch len => #[chunkV ad len x.1]) (Keep2 Bs Bn) (fun ys => ∃ k, len ≤ 3 * k ∧ ys = chunksTo len k) (fun pre => ∃ k, pre = chunksTo len k) len w := fun l J Jx W hW hJ _ hY h0 =>
 chunk1_in n l Bs Bn A ad len cap hA hlen hcap J Jx (fun s W hs => hJ s W W.drew none hs ⟨rfl, rfl, rfl, Nat.le_refl _, fun _ _ _ => rfl⟩ (fun r e => by cases e)) hY W
  ((hW.cell (p := ⟨Bs, 0, none⟩) (block_lt hBs)).trans hBs) ((hW.cell (p := ⟨Bn, 0, none⟩) (block_lt hBn)).trans hBn) h0
end Go.Proofs.YthoeodjgfelkhaaGreat.Hnd
namespace Go.Proofs.YthoeodjgfelkhaaGreat.QT
open Go.RowKit Go.Proofs.YthoeodjgfelkhaaGreatW.PrintWords Go.Proofs.YthoeodjgfelkhaaGreatW.PrintLast Go.Proofs.YthoeodjgfelkhaaGreatW.PrintMore
attribute [local go_sem] max2_int min2_int max_two min_two
def lay_in.f (a0 : Int) (a1 : Int) (a2 : Int) : Option (Bool) := if a0 ≥ a1 then (some (decide (a0 ≤ a2))) else (some false)
theorem lay_in.calls (a0 : Int) (a1 : Int) (a2 : Int) (r : Bool) (w : World) (h : lay_in.f a0 a1 a2 = some r) :
  Calls Tryz.prog 45 #[.int .i64 a0, .int .i64 a1, .int .i64 a2] w fun e w' => e = .returned (.bool r) ∧ Drawn0 w w' := by
 unfold lay_in.f at h
 have H := h
 clear h
 by_cases c4 : a0 ≥ a1
 rotate_left
 case' neg =>
  rw [if_neg c4] at H
  have c4b0 : decide (a1 ≤ a0) = false := decide_eq_false c4
  clear c4
  obtain rfl := Option.some.inj H
 rotate_right
 case' pos =>
  rw [if_pos c4] at H
  have c4b0 : decide (a1 ≤ a0) = true := decide_eq_true c4
  clear c4
  obtain rfl := Option.some.inj H
 all_goals
  go_enter Tryz.func45, Tryz.ntmps45
  go_wp2
  go_ret
  exact ⟨by first | rfl | (simp; done) | (simp [*]; done), by repeat (first | exact Drawn0.refl _ | apply Drawn0.step)⟩
def lay_base.f (a0_0 : Int) (a0_1 : Int) (a0_2 : Int) (a0_3 : Int) (a1 : Int) : Option (Int) := some (wrap64 ((wrap64 (6 + (wrap64 (2 * a0_2)))) + (wrap64 (a1 * (wrap64 (3 + a0_1))))))
theorem lay_base.calls (a0_0 : Int) (a0_1 : Int) (a0_2 : Int) (a0_3 : Int) (a1 : Int) (r : Int) (w : World) (h : lay_base.f a0_0 a0_1 a0_2 a0_3 a1 = some r) :
  Calls Tryz.prog 73 #[.agg #[.int .i64 a0_0, .int .i64 a0_1, .int .i64 a0_2, .int .i64 a0_3], .int .i64 a1] w fun e w' => e = .returned (.int .i64 r) ∧ Below w.heap.size w w' := by
 have hu23 := Tryz.underlying23
 have HB := qQ (Below.refl w.heap.size w)
 unfold lay_base.f at h
 have H := h
 clear h
 obtain rfl := Option.some.inj H
 go_enter Tryz.func73, Tryz.ntmps73
 go_wp2_with (first | ((with_reducible refine gate_dst (N := 2) rfl ?_); refine box_event ?hg (N := 2) ?hd (cs := #[.int .i64 a0_0, .int .i64 a0_1, .int .i64 a0_2, .int .i64 a0_3]) (t := 23) ?hr ?_; (case hd => rfl); (case hg => rfl); (case hr => first | (go_simp; done) | (go_simp; rfl)); intro gb119 hg w3 hbox hb; have BK119 := qQ (hbox); have GW119 := qQ ((by rw [hg]; exact (below_size zB) : w.heap.size ≤ gb119)); have GE119 := qQ ((by rw [hg]; exact (below_size zB) : w.heap.size ≤ gb119)); replace HB := qQ (below_step zB hb); clear hb hbox hg; have hcz4 := blk_cell BK119.o; have hfz4 := blk_frozen BK119.o))
 go_ret
 exact ⟨by first | rfl | (simp [errW_none, errW_some] <;> rfl) | (simp [*, errW_none, errW_some] <;> rfl), zB⟩
def frame_Begin.f (a0 : Int) (a1 : Int) (a2 : Int) : Option (Int × Int × Int × Int × Int × Int × Int) := some (a0, 0, a1, a2, 0, 0, 0)
theorem frame_Begin.calls (a0 : Int) (a1 : Int) (a2 : Int) (r1 : Int) (r2 : Int) (r3 : Int) (r4 : Int) (r5 : Int) (r6 : Int) (r7 : Int) (w : World) (h : frame_Begin.f a0 a1 a2 = some (r1, r2, r3, r4, r5, r6, r7)) :
  Calls Tryz.prog 53 #[.int .i64 a0, .int .i64 a1, .int .u64 a2] w fun e w' => e = .returned (.agg #[.int .i64 r1, .int .i64 r2, .int .i64 r3, .int .u64 r4, .int .u64 r5, .int .u64 r6, .int .i64 r7]) ∧ Below w.heap.size w w' := by
 have hu66 := Tryz.underlying66
 have HB := qQ (Below.refl w.heap.size w)
 unfold frame_Begin.f at h
 have H := h
 clear h
 simp only [Option.some.injEq, Prod.mk.injEq] at H
 obtain ⟨rfl, rfl, rfl, rfl, rfl, rfl, rfl⟩ := H
 go_enter Tryz.func53, Tryz.ntmps53
 go_wp2_with (first | ((with_reducible refine gate_dst (N := 6) rfl ?_); refine box_event ?hg (N := 6) ?hd (cs := #[.int .i64 0, .int .i64 0, .int .i64 0, .int .u64 0, .int .u64 0, .int .u64 0, .int .i64 0]) (t := 66) ?hr ?_; (case hd => rfl); (case hg => rfl); (case hr => first | (go_simp; done) | (go_simp; rfl)); intro gb128 hg w4 hbox hb; have BK128 := qQ (hbox); have GW128 := qQ ((by rw [hg]; exact (below_size zB) : w.heap.size ≤ gb128)); have GE128 := qQ ((by rw [hg]; exact (below_size zB) : w.heap.size ≤ gb128)); replace HB := qQ (below_step zB hb); clear hb hbox hg; have hcz5 := blk_cell BK128.o; have hfz5 := blk_frozen BK128.o))
 refine bodyPost_ret (results_cell_row rfl _ _ gb128 66 #[.int .i64 a0, .int .i64 0, .int .i64 a1, .int .u64 a2, .int .u64 0, .int .u64 0, .int .i64 0] (0, 0) _ rfl (by (with_reducible repeat (first | refine blk_drewN ?_ _ | refine blk_drew ?_ | refine blk_alloc ?_ _)); refine blk_put (cs := #[.int .i64 a0, .int .i64 0, .int .i64 a1, .int .u64 a2, .int .u64 0, .int .u64 0, .int .i64 0]) ?_ 6 _ rfl; (with_reducible repeat (first | refine blk_drewN ?_ _ | refine blk_drew ?_ | refine blk_alloc ?_ _)); refine blk_put (cs := #[.int .i64 a0, .int .i64 0, .int .i64 a1, .int .u64 a2, .int .u64 0, .int .u64 0, .int .i64 0]) ?_ 5 _ rfl; (with_reducible repeat (first | refine blk_drewN ?_ _ | refine blk_drew ?_ | refine blk_alloc ?_ _)); refine blk_put (cs := #[.int .i64 a0, .int .i64 0, .int .i64 a1, .int .u64 a2, .int .u64 0, .int .u64 0, .int .i64 0]) ?_ 4 _ rfl; (with_reducible repeat (first | refine blk_drewN ?_ _ | refine blk_drew ?_ | refine blk_alloc ?_ _)); refine blk_put (cs := #[.int .i64 a0, .int .i64 0, .int .i64 a1, .int .u64 0, .int .u64 0, .int .u64 0, .int .i64 0]) ?_ 3 _ rfl; (with_reducible repeat (first | refine blk_drewN ?_ _ | refine blk_drew ?_ | refine blk_alloc ?_ _)); refine blk_put (cs := #[.int .i64 a0, .int .i64 0, .int .i64 0, .int .u64 0, .int .u64 0, .int .u64 0, .int .i64 0]) ?_ 2 _ rfl; (with_reducible repeat (first | refine blk_drewN ?_ _ | refine blk_drew ?_ | refine blk_alloc ?_ _)); refine blk_put (cs := #[.int .i64 a0, .int .i64 0, .int .i64 0, .int .u64 0, .int .u64 0, .int .u64 0, .int .i64 0]) ?_ 1 _ rfl; (with_reducible repeat (first | refine blk_drewN ?_ _ | refine blk_drew ?_ | refine blk_alloc ?_ _)); refine blk_put (cs := #[.int .i64 0, .int .i64 0, .int .i64 0, .int .u64 0, .int .u64 0, .int .u64 0, .int .i64 0]) ?_ 0 _ rfl; (with_reducible repeat (first | refine blk_drewN ?_ _ | refine blk_drew ?_ | refine blk_alloc ?_ _)); exact BK128.o) Tryz.underlying66 rfl (by kernel_rfl)) rfl ?_
 exact ⟨by first | rfl | (simp [errW_none, errW_some] <;> rfl) | (simp [*, errW_none, errW_some] <;> rfl), zB⟩
def slices_Index_int_int.l0 : Nat → List Int → Int → Int → Int → Option (Int)
 | 0, _, _, _, _ => none
 | k + 1, x0, x1, x7, x8 => if x8 < x7 then (if 0 ≤ x8 then (if x8 < (x0.length : Int) then (if x1 = (rd x0 x8) then (some x8) else (slices_Index_int_int.l0 k x0 x1 x7 (wrap64 (x8 + 1)))) else (none)) else (none)) else (some (-1))
def slices_Index_int_int.f (k : Nat) (l0 : List Int) (a1 : Int) : Option (Int) := slices_Index_int_int.l0 k l0 a1 (l0.length : Int) 0
theorem slices_Index_int_int.calls (k : Nat) (A0 : Option Addr) (c0 : Nat) (l0 : List Int) (a1 : Int) (r : Int) (w : World) (hr0 : Kd.C (Kd.int .i64) w A0 l0.length l0) (hc0 : l0.length ≤ c0) (h : slices_Index_int_int.f k l0 a1 = some r) :
  Calls Tryz.prog 28 #[.slice A0 l0.length c0, .int .i64 a1] w fun e w' => e = .returned (.int .i64 r) ∧ Drawn0 w w' := by
 have HR0 := qQ hr0
 have HC0 := qQ hc0
 clear hr0 hc0
 unfold slices_Index_int_int.f at h
 have H := h
 clear h
 have H' := qQ H
 clear H
 go_enter Tryz.func28, Tryz.ntmps28
 go_wp2
 go_loopg [8] k (fun kq v8 w' => ∃ (x8_1 : Int), v8 = .int .i64 x8_1 ∧ Aside0 (slices_Index_int_int.l0 kq l0 a1 (l0.length : Int) x8_1 = some r) ∧ Aside0 (kq ≤ k) ∧ Drawn0 w w')
 case atStart => exact ⟨(0), (by first | rfl | (simp; done) | (simp [*]; done)), H', ⟨Nat.le_refl _⟩, by repeat (first | exact Drawn0.refl _ | apply Drawn0.step)⟩
 case round =>
  clear H'
  try clear c2
  try clear p2
  obtain ⟨x8_1, rfl, HA, HK1, ⟨m1, rfl⟩⟩ := hrel
  cases gk with
  | zero => exact absurd HA.o (by simp [slices_Index_int_int.l0])
  | succ k1 =>
   have H := HA.o
   clear HA
   simp only [slices_Index_int_int.l0] at H
   by_cases c3 : x8_1 < (l0.length : Int)
   ·rw [if_pos c3] at H
    have c3b0 : decide (x8_1 < (l0.length : Int)) = true := decide_eq_true c3
    clear c3
    by_cases c4 : 0 ≤ x8_1
    ·rw [if_pos c4] at H
     have c4b0 : decide (0 ≤ x8_1) = true := decide_eq_true c4
     clear c4
     by_cases c5 : x8_1 < (l0.length : Int)
     ·rw [if_pos c5] at H
      have c5b0 : decide (x8_1 < (l0.length : Int)) = true := decide_eq_true c5
      clear c5
      by_cases c6 : a1 = (rd l0 x8_1)
      ·rw [if_pos c6] at H
       have c6b0 : (a1 == (rd l0 x8_1)) = true := beq_iff_eq.mpr c6
       have c6b1 : (a1 != (rd l0 x8_1)) = false := bne_eq_false_iff_eq.mpr c6
       clear c6
       obtain rfl := Option.some.inj H
       have p137 : 0 ≤ (x8_1 : Int) := of_decide_eq_true (by first | (with_reducible assumption) | assumption)
       have q137 : x8_1 < (l0.length : Int) := of_decide_eq_true (by first | (with_reducible assumption) | assumption)
       obtain ⟨ad137, e137, hx137_0⟩ := Kd.at_int HR0.o x8_1 p137 q137
       cases e137
       replace p137 := eq_true p137
       replace q137 := eq_true q137
       go_wp2
       go_ret
       exact ⟨by first | rfl | (simp; done) | (simp [*]; done), by repeat (first | exact Drawn0.refl _ | apply Drawn0.step)⟩
      ·rw [if_neg c6] at H
       have c6b0 : (a1 == (rd l0 x8_1)) = false := beq_eq_false_iff_ne.mpr c6
       have c6b1 : (a1 != (rd l0 x8_1)) = true := bne_iff_ne.mpr c6
       have H' := qQ H
       clear H
       have p137 : 0 ≤ (x8_1 : Int) := of_decide_eq_true (by first | (with_reducible assumption) | assumption)
       have q137 : x8_1 < (l0.length : Int) := of_decide_eq_true (by first | (with_reducible assumption) | assumption)
       obtain ⟨ad137, e137, hx137_0⟩ := Kd.at_int HR0.o x8_1 p137 q137
       cases e137
       replace p137 := eq_true p137
       replace q137 := eq_true q137
       go_wp2
       go_roundg k1
       case measure => have := HK1.o; omega
       case rel => exact ⟨(wrap64 (x8_1 + 1)), (by first | rfl | (simp; done) | (simp [*]; done)), H', ⟨by have := HK1.o; omega⟩, by repeat (first | exact Drawn0.refl _ | apply Drawn0.step)⟩
     ·rw [if_neg c5] at H
      exact absurd H (by simp)
    ·rw [if_neg c4] at H
     exact absurd H (by simp)
   ·rw [if_neg c3] at H
    have c3b0 : decide (x8_1 < (l0.length : Int)) = false := decide_eq_false c3
    clear c3
    obtain rfl := Option.some.inj H
    go_wp2
    go_ret
    exact ⟨by first | rfl | (simp; done) | (simp [*]; done), by repeat (first | exact Drawn0.refl _ | apply Drawn0.step)⟩
end Go.Proofs.YthoeodjgfelkhaaGreat.QT
