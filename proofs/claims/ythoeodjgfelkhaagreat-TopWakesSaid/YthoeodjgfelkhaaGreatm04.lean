/- Part 4 of the claim on TopWakes: slices.Clone; printed contracts; scopes with a jump forward; draw.Decode. No condition. -/
import Derived.ScopeJumps
import Derived.WalkMore
import Derived.Test.YthoeodjgfelkhaaGreatm03
set_option linter.unusedVariables false
set_option linter.unusedSimpArgs false
set_option maxRecDepth 100000
set_option maxHeartbeats 8000000
namespace Go.Proofs.YthoeodjgfelkhaaGreat.QT
open Go.RowKit Go.Proofs.YthoeodjgfelkhaaGreatW.PrintWords Go.Proofs.YthoeodjgfelkhaaGreatW.PrintLast Go.Proofs.YthoeodjgfelkhaaGreatW.PrintMore
attribute [local go_sem] max2_int min2_int max_two min_two
theorem cinfo38 : (Tryz.prog.info? 38).map (fun i => (i.zero, i.size, i.bytes)) = some (some (.int .u64 0), 1, 8) := by kernel_rfl
theorem clone54 (A : Option Addr) (c : Nat) (l : List Int) (w : World) (hc : Kd.C (Kd.int .u64) w A l.length l) (hn : l.length ≤ 1000000) :
  Calls Tryz.prog 54 #[.slice A l.length c] w fun e w' => ∃ v, e = .returned v ∧ (Kd.fixed (Kd.int .u64) w).R 38 w' w.heap.size (fun _ => True) v l ∧ Below w.heap.size w w' := by
 have HC := qQ hc
 clear hc
 cases A with
 | none =>
  have h0 : l = [] := by
   rcases Nat.eq_zero_or_pos l.length with h | h
   ·exact List.length_eq_zero_iff.1 h
   ·obtain ⟨ad, e, _⟩ := HC.o.2.2 h; cases e
  subst h0
  have E := fun wx => Lib.run_eql_slice_nil (P := Tryz.prog) wx 30 38 none ([] : List Int).length c 0 0 Tryz.underlying30
  simp only [List.length_nil] at E ⊢
  go_enter Tryz.func54, Tryz.ntmps54
  go_wp2
  go_ret
  exact ⟨_, rfl, Kd.R_nil _ _ _ _ _, Below.refl _ _⟩
 | some ad =>
  have E := fun wx => Lib.run_eql_slice_nil (P := Tryz.prog) wx 30 38 (some ad) l.length c 0 0 Tryz.underlying30
  go_enter Tryz.func54, Tryz.ntmps54
  go_wp2_with (first | ((with_reducible refine gate_dst (N := 5) rfl ?_); refine Kd.R_lit (Kd.fixed (Kd.int .u64) w) _ 38 ?hg (N := 5) ?hd (xs := ([] : List Int)) (inner := []) (ok := fun _ => True) (okp := fun _ => True) ?hr ?hp (fun _ hk => hk) trivial (Below.refl _ _) (Nat.le_refl _) (by simp) ?_; (case hd => rfl); (case hg => rfl); (case hr => first | (go_simp; done) | (go_simp; rfl)); (case hp => exact Reps.none _ _); intro v1 w1 ho1 hb1 hg1 hn1; clear hg1 hn1; have HO1 := qQ ho1; have HB1 := qQ hb1; clear ho1 hb1; obtain ⟨A1, c1, eo1⟩ := Kd.R_slice HO1.o; subst eo1) | ((with_reducible refine gate_builtin (b := .append) (xs := #[.tmp 5, .tmp 6]) rfl ?_); at_builtin; refine Kd.R_append_rows (Kd.fixed (Kd.int .u64) w) (Rr := Kd.K (Kd.int .u64) w) (w0 := w) w.heap.size rfl (.tmp 5) (.tmp 6) 30 38 (.int .u64 0) 8 rfl Tryz.underlying30 cinfo38 rfl (by show 0 < 1; decide) (by omega) _ ([] : List Int) l _ _ _ (fun _ => True) (fun _ => False) rfl rfl HO1.o (ReadsRow.imp_ HC.o HB1.o (fun _ _ hp => hp)) (fun _ _ h => h) (fun _ h => h.elim) (fun _ _ => trivial) HB1.o HB1.o.size (by simp; omega) ?_; intro v2 w2 ho2 hb2 hg2 hn2; clear hg2 hn2; rw [List.nil_append] at ho2; have HO2 := qQ ho2; have HB2 := qQ hb2; clear ho2 hb2))
  go_ret
  exact ⟨_, rfl, HO2.o, HB2.o⟩
theorem cinfo3 : (Tryz.prog.info? 3).map (fun i => (i.zero, i.size, i.bytes)) = some (some (.int .i64 0), 1, 8) := by kernel_rfl
theorem clone51 (A : Option Addr) (c : Nat) (l : List Int) (w : World) (hc : Kd.C (Kd.int .i64) w A l.length l) (hn : l.length ≤ 1000000) :
  Calls Tryz.prog 51 #[.slice A l.length c] w fun e w' => ∃ v, e = .returned v ∧ (Kd.fixed (Kd.int .i64) w).R 3 w' w.heap.size (fun _ => True) v l ∧ Below w.heap.size w w' := by
 have HC := qQ hc
 clear hc
 cases A with
 | none =>
  have h0 : l = [] := by
   rcases Nat.eq_zero_or_pos l.length with h | h
   ·exact List.length_eq_zero_iff.1 h
   ·obtain ⟨ad, e, _⟩ := HC.o.2.2 h; cases e
  subst h0
  have E := fun wx => Lib.run_eql_slice_nil (P := Tryz.prog) wx 43 3 none ([] : List Int).length c 0 0 Tryz.underlying43
  simp only [List.length_nil] at E ⊢
  go_enter Tryz.func51, Tryz.ntmps51
  go_wp2
  go_ret
  exact ⟨_, rfl, Kd.R_nil _ _ _ _ _, Below.refl _ _⟩
 | some ad =>
  have E := fun wx => Lib.run_eql_slice_nil (P := Tryz.prog) wx 43 3 (some ad) l.length c 0 0 Tryz.underlying43
  go_enter Tryz.func51, Tryz.ntmps51
  go_wp2_with (first | ((with_reducible refine gate_dst (N := 5) rfl ?_); refine Kd.R_lit (Kd.fixed (Kd.int .i64) w) _ 3 ?hg (N := 5) ?hd (xs := ([] : List Int)) (inner := []) (ok := fun _ => True) (okp := fun _ => True) ?hr ?hp (fun _ hk => hk) trivial (Below.refl _ _) (Nat.le_refl _) (by simp) ?_; (case hd => rfl); (case hg => rfl); (case hr => first | (go_simp; done) | (go_simp; rfl)); (case hp => exact Reps.none _ _); intro v1 w1 ho1 hb1 hg1 hn1; clear hg1 hn1; have HO1 := qQ ho1; have HB1 := qQ hb1; clear ho1 hb1; obtain ⟨A1, c1, eo1⟩ := Kd.R_slice HO1.o; subst eo1) | ((with_reducible refine gate_builtin (b := .append) (xs := #[.tmp 5, .tmp 6]) rfl ?_); at_builtin; refine Kd.R_append_rows (Kd.fixed (Kd.int .i64) w) (Rr := Kd.K (Kd.int .i64) w) (w0 := w) w.heap.size rfl (.tmp 5) (.tmp 6) 43 3 (.int .i64 0) 8 rfl Tryz.underlying43 cinfo3 rfl (by show 0 < 1; decide) (by omega) _ ([] : List Int) l _ _ _ (fun _ => True) (fun _ => False) rfl rfl HO1.o (ReadsRow.imp_ HC.o HB1.o (fun _ _ hp => hp)) (fun _ _ h => h) (fun _ h => h.elim) (fun _ _ => trivial) HB1.o HB1.o.size (by simp; omega) ?_; intro v2 w2 ho2 hb2 hg2 hn2; clear hg2 hn2; rw [List.nil_append] at ho2; have HO2 := qQ ho2; have HB2 := qQ hb2; clear ho2 hb2))
  go_ret
  exact ⟨_, rfl, HO2.o, HB2.o⟩
theorem cinfo116 : (Tryz.prog.info? 116).map (fun i => (i.zero, i.size, i.bytes)) = some (some (.agg #[.int .i64 0, .int .i64 0, .int .i64 0]), 3, 24) := by kernel_rfl
theorem clone57 (A : Option Addr) (c : Nat) (l : List S116) (w : World) (hc : Kd.C k116 w A l.length l) (hn : l.length ≤ 1000000) :
  Calls Tryz.prog 57 #[.slice A l.length c] w fun e w' => ∃ v, e = .returned v ∧ (Kd.fixed k116 w).R 116 w' w.heap.size (fun _ => True) v l ∧ Below w.heap.size w w' := by
 have HC := qQ hc
 clear hc
 cases A with
 | none =>
  have h0 : l = [] := by
   rcases Nat.eq_zero_or_pos l.length with h | h
   ·exact List.length_eq_zero_iff.1 h
   ·obtain ⟨ad, e, _⟩ := HC.o.2.2 h; cases e
  subst h0
  have E := fun wx => Lib.run_eql_slice_nil (P := Tryz.prog) wx 74 116 none ([] : List S116).length c 0 0 Tryz.underlying74
  simp only [List.length_nil] at E ⊢
  go_enter Tryz.func57, Tryz.ntmps57
  go_wp2
  go_ret
  exact ⟨_, rfl, Kd.R_nil _ _ _ _ _, Below.refl _ _⟩
 | some ad =>
  have E := fun wx => Lib.run_eql_slice_nil (P := Tryz.prog) wx 74 116 (some ad) l.length c 0 0 Tryz.underlying74
  go_enter Tryz.func57, Tryz.ntmps57
  go_wp2_with (first | ((with_reducible refine gate_dst (N := 5) rfl ?_); refine Kd.R_lit (Kd.fixed k116 w) _ 116 ?hg (N := 5) ?hd (xs := ([] : List S116)) (inner := []) (ok := fun _ => True) (okp := fun _ => True) ?hr ?hp (fun _ hk => hk) trivial (Below.refl _ _) (Nat.le_refl _) (by simp) ?_; (case hd => rfl); (case hg => rfl); (case hr => first | (go_simp; done) | (go_simp; rfl)); (case hp => exact Reps.none _ _); intro v1 w1 ho1 hb1 hg1 hn1; clear hg1 hn1; have HO1 := qQ ho1; have HB1 := qQ hb1; clear ho1 hb1; obtain ⟨A1, c1, eo1⟩ := Kd.R_slice HO1.o; subst eo1) | ((with_reducible refine gate_builtin (b := .append) (xs := #[.tmp 5, .tmp 6]) rfl ?_); at_builtin; refine Kd.R_append_rows (Kd.fixed k116 w) (Rr := Kd.K k116 w) (w0 := w) w.heap.size rfl (.tmp 5) (.tmp 6) 74 116 (.agg #[.int .i64 0, .int .i64 0, .int .i64 0]) 24 rfl Tryz.underlying74 cinfo116 rfl (by show 0 < 3; decide) (by omega) _ ([] : List S116) l _ _ _ (fun _ => True) (fun _ => False) rfl rfl HO1.o (ReadsRow.imp_ HC.o HB1.o (fun _ _ hp => hp)) (fun _ _ h => h) (fun _ h => h.elim) (fun _ _ => trivial) HB1.o HB1.o.size (by simp; omega) ?_; intro v2 w2 ho2 hb2 hg2 hn2; clear hg2 hn2; rw [List.nil_append] at ho2; have HO2 := qQ ho2; have HB2 := qQ hb2; clear ho2 hb2))
  go_ret
  exact ⟨_, rfl, HO2.o, HB2.o⟩
theorem cinfo45 : (Tryz.prog.info? 45).map (fun i => (i.zero, i.size, i.bytes)) = some (some (.agg #[.int .i64 0, .slice none 0 0]), 2, 32) := by kernel_rfl
theorem clone50 (A : Option Addr) (c : Nat) (l : List S45) (w : World) (hc : Kd.C k45 w A l.length l) (hn : l.length ≤ 1000000) :
  Calls Tryz.prog 50 #[.slice A l.length c] w fun e w' => ∃ v, e = .returned v ∧ (Kd.fixed k45 w).R 45 w' w.heap.size (fun _ => True) v l ∧ Below w.heap.size w w' := by
 have HC := qQ hc
 clear hc
 cases A with
 | none =>
  have h0 : l = [] := by
   rcases Nat.eq_zero_or_pos l.length with h | h
   ·exact List.length_eq_zero_iff.1 h
   ·obtain ⟨ad, e, _⟩ := HC.o.2.2 h; cases e
  subst h0
  have E := fun wx => Lib.run_eql_slice_nil (P := Tryz.prog) wx 24 45 none ([] : List S45).length c 0 0 Tryz.underlying24
  simp only [List.length_nil] at E ⊢
  go_enter Tryz.func50, Tryz.ntmps50
  go_wp2
  go_ret
  exact ⟨_, rfl, Kd.R_nil _ _ _ _ _, Below.refl _ _⟩
 | some ad =>
  have E := fun wx => Lib.run_eql_slice_nil (P := Tryz.prog) wx 24 45 (some ad) l.length c 0 0 Tryz.underlying24
  go_enter Tryz.func50, Tryz.ntmps50
  go_wp2_with (first | ((with_reducible refine gate_dst (N := 5) rfl ?_); refine Kd.R_lit (Kd.fixed k45 w) _ 45 ?hg (N := 5) ?hd (xs := ([] : List S45)) (inner := []) (ok := fun _ => True) (okp := fun _ => True) ?hr ?hp (fun _ hk => hk) trivial (Below.refl _ _) (Nat.le_refl _) (by simp) ?_; (case hd => rfl); (case hg => rfl); (case hr => first | (go_simp; done) | (go_simp; rfl)); (case hp => exact Reps.none _ _); intro v1 w1 ho1 hb1 hg1 hn1; clear hg1 hn1; have HO1 := qQ ho1; have HB1 := qQ hb1; clear ho1 hb1; obtain ⟨A1, c1, eo1⟩ := Kd.R_slice HO1.o; subst eo1) | ((with_reducible refine gate_builtin (b := .append) (xs := #[.tmp 5, .tmp 6]) rfl ?_); at_builtin; refine Kd.R_append_rows (Kd.fixed k45 w) (Rr := Kd.K k45 w) (w0 := w) w.heap.size rfl (.tmp 5) (.tmp 6) 24 45 (.agg #[.int .i64 0, .slice none 0 0]) 32 rfl Tryz.underlying24 cinfo45 rfl (by show 0 < 2; decide) (by omega) _ ([] : List S45) l _ _ _ (fun _ => True) (fun _ => False) rfl rfl HO1.o (ReadsRow.imp_ HC.o HB1.o (fun _ _ hp => hp)) (fun _ _ h => h) (fun _ h => h.elim) (fun _ _ => trivial) HB1.o HB1.o.size (by simp; omega) ?_; intro v2 w2 ho2 hb2 hg2 hn2; clear hg2 hn2; rw [List.nil_append] at ho2; have HO2 := qQ ho2; have HB2 := qQ hb2; clear ho2 hb2))
  go_ret
  exact ⟨_, rfl, HO2.o, HB2.o⟩
theorem cinfo76 : (Tryz.prog.info? 76).map (fun i => (i.zero, i.size, i.bytes)) = some (some (.agg #[.int .i64 0, .slice none 0 0, .int .i64 0, .int .i64 0, .int .i64 0, .int .u64 0, .int .u64 0, .int .u64 0, .int .i64 0, .int .i64 0, .int .i64 0]), 11, 104) := by kernel_rfl
theorem cinfo68 : (Tryz.prog.info? 68).map (fun i => (i.zero, i.size, i.bytes)) = some (some (.agg #[.int .i64 0, .slice none 0 0, .int .i64 0, .int .i64 0, .int .i64 0, .int .u64 0, .int .u64 0, .int .u64 0, .int .i64 0]), 9, 88) := by kernel_rfl
def think_in.f (a0 : Int) (a1 : Int) : Option (Bool) := if a0 ≥ 0 then (some (decide (a0 ≤ a1))) else (some false)
theorem think_in.calls (a0 : Int) (a1 : Int) (r : Bool) (w : World) (h : think_in.f a0 a1 = some r) :
  Calls Tryz.prog 126 #[.int .i64 a0, .int .i64 a1] w fun e w' => e = .returned (.bool r) ∧ Drawn0 w w' := by
 unfold think_in.f at h
 have H := h
 clear h
 by_cases c3 : a0 ≥ 0
 rotate_left
 case' neg =>
  rw [if_neg c3] at H
  have c3b0 : decide (0 ≤ a0) = false := decide_eq_false c3
  clear c3
  obtain rfl := Option.some.inj H
 rotate_right
 case' pos =>
  rw [if_pos c3] at H
  have c3b0 : decide (0 ≤ a0) = true := decide_eq_true c3
  clear c3
  obtain rfl := Option.some.inj H
 all_goals
  go_enter Tryz.func126, Tryz.ntmps126
  go_wp2
  go_ret
  exact ⟨by first | rfl | (simp; done) | (simp [*]; done), by repeat (first | exact Drawn0.refl _ | apply Drawn0.step)⟩
section
open Go
def fwd (P : Program) (c : Code) (Q : Exit → Act → World → Prop) : Exit → Act → World → Prop
 | .goto l, a, w => ∃ rest, findLabel c l = some rest ∧ rest.wp P (Exit.noGoto Q) a w
 | e, a, w => Q e a w
theorem wp_scope_fwd {P : Program} {a : Act} {w : World} {Q : Exit → Act → World → Prop} {c : Code} (first : c.wp P (fwd P c Q) a w) : (Code.scope c).wp P Q a w := by
 intro b k cs
 obtain ⟨e, a₁, w₁, hq, harr⟩ := first b (.inScope c :: k) cs
 cases e with
 | normal => exact ⟨.normal, a₁, w₁, hq, .head step_scope (Steps.trans harr (.one step_inScope))⟩
 | exit id => exact ⟨.exit id, a₁, w₁, hq, fun k' hk => .head step_scope (harr k' (by simp [exitTo, hk]))⟩
 | goto l' =>
  obtain ⟨rest, hf, hr⟩ := hq
  have hg : gotoIn l' (.inScope c :: k) = some (.code rest :: .inScope c :: k) := by simp [gotoIn, hf]
  obtain ⟨e₂, a₂, w₂, hq₂, harr₂⟩ := hr b (.inScope c :: k) cs
  cases e₂ with
  | normal => exact ⟨.normal, a₂, w₂, hq₂, .head step_scope (Steps.trans (harr _ hg) (Steps.trans harr₂ (.one step_inScope)))⟩
  | exit id => exact ⟨.exit id, a₂, w₂, hq₂, fun k' hk => .head step_scope (Steps.trans (harr _ hg) (harr₂ k' (by simp [exitTo, hk])))⟩
  | goto l' => exact (hq₂ : False).elim
  | ret => exact ⟨.ret, a₂, w₂, hq₂, .of_steps (.head step_scope (harr _ hg)) harr₂⟩
  | panic ch => exact ⟨.panic ch, a₂, w₂, hq₂, .of_steps (.head step_scope (harr _ hg)) harr₂⟩
  | outgrown => exact ⟨.outgrown, a₂, w₂, hq₂, .of_steps (.head step_scope (harr _ hg)) harr₂⟩
 | ret => exact ⟨_, a₁, w₁, hq, .of_steps (.one step_scope) harr⟩
 | panic ch => exact ⟨_, a₁, w₁, hq, .of_steps (.one step_scope) harr⟩
 | outgrown => exact ⟨_, a₁, w₁, hq, .of_steps (.one step_scope) harr⟩
end
def word_Mask.f (a0 : Int) : Option (Int) := some (Go.bits .and .u64 a0 65535)
theorem word_Mask.calls (a0 : Int) (r : Int) (w : World) (h : word_Mask.f a0 = some r) :
  Calls Tryz.prog 141 #[.int .u64 a0] w fun e w' => e = .returned (.int .u64 r) ∧ Drawn0 w w' := by
 have H : (some (Go.bits .and .u64 a0 65535)) = some r := h
 clear h
 obtain rfl := Option.some.inj H
 go_enter Tryz.func141, Tryz.ntmps141
 go_wp2
 go_ret
 exact ⟨by first | rfl | (simp; done) | (simp [*]; done), by repeat (first | exact Drawn0.refl _ | apply Drawn0.step)⟩
def word_Lowest.f (a0 : Int) : Option (Int) := some (Tryz.lowest a0)
theorem word_Lowest.calls (a0 : Int) (r : Int) (w : World) (h : word_Lowest.f a0 = some r) :
  Calls Tryz.prog 144 #[.int .u64 a0] w fun e w' => e = .returned (.int .i64 r) ∧ Below w.heap.size w w' := by
 obtain rfl := Option.some.inj h
 exact Tryz.Lowest_calls a0 w
def word_Epoch.f (a0 : Int) : Option (Int) := some (a0 / 65536)
theorem word_Epoch.calls (a0 : Int) (r : Int) (w : World) (h : word_Epoch.f a0 = some r) :
  Calls Tryz.prog 162 #[.int .u64 a0] w fun e w' => e = .returned (.int .u64 r) ∧ Drawn0 w w' := by
 have H : (some (a0 / 65536)) = some r := h
 clear h
 obtain rfl := Option.some.inj H
 go_enter Tryz.func162, Tryz.ntmps162
 go_wp2
 go_ret
 exact ⟨by first | rfl | (simp; done) | (simp [*]; done), by repeat (first | exact Drawn0.refl _ | apply Drawn0.step)⟩
def word_Pack.f (a0 : Int) (a1 : Int) : Option (Int) := some (Go.bits .or .u64 (IntKind.u64.wrap (a0 * 65536)) (Go.bits .and .u64 a1 65535))
theorem word_Pack.calls (a0 : Int) (a1 : Int) (r : Int) (w : World) (h : word_Pack.f a0 a1 = some r) :
  Calls Tryz.prog 184 #[.int .u64 a0, .int .u64 a1] w fun e w' => e = .returned (.int .u64 r) ∧ Drawn0 w w' := by
 unfold word_Pack.f at h
 have H := h
 clear h
 obtain rfl := Option.some.inj H
 go_enter Tryz.func184, Tryz.ntmps184
 go_wp2
 go_ret
 exact ⟨by first | rfl | (simp; done) | (simp [*]; done), by repeat (first | exact Drawn0.refl _ | apply Drawn0.step)⟩
def cell_is.f (l0 : List Int) (a1 : Int) : Option (Bool) := if a1 ≥ 0 then (some (decide (a1 < (l0.length : Int)))) else (some false)
theorem cell_is.calls (A0 : Option Addr) (c0 : Nat) (l0 : List Int) (a1 : Int) (r : Bool) (w : World) (hr0 : Kd.C (Kd.int .u64) w A0 l0.length l0) (hc0 : l0.length ≤ c0) (h : cell_is.f l0 a1 = some r) :
  Calls Tryz.prog 16 #[.slice A0 l0.length c0, .int .i64 a1] w fun e w' => e = .returned (.bool r) ∧ Drawn0 w w' := by
 have HR0 := qQ hr0
 have HC0 := qQ hc0
 clear hr0 hc0
 unfold cell_is.f at h
 have H := h
 clear h
 by_cases c3 : a1 ≥ 0
 rotate_left
 case' neg =>
  rw [if_neg c3] at H
  have c3b0 : decide (0 ≤ a1) = false := decide_eq_false c3
  clear c3
  obtain rfl := Option.some.inj H
 rotate_right
 case' pos =>
  rw [if_pos c3] at H
  have c3b0 : decide (0 ≤ a1) = true := decide_eq_true c3
  clear c3
  obtain rfl := Option.some.inj H
 all_goals
  go_enter Tryz.func16, Tryz.ntmps16
  go_wp2
  go_ret
  exact ⟨by first | rfl | (simp; done) | (simp [*]; done), by repeat (first | exact Drawn0.refl _ | apply Drawn0.step)⟩
def frame_End.f (a0_0 : Int) (a0_1 : Int) (a0_2 : Int) (a0_3 : Int) (a0_4 : Int) (a0_5 : Int) (a0_6 : Int) (a1 : Int) (a2 : Int) : Option (Int × Int × Int × Int × Int × Int × Int) := some (a0_0, 0, a0_2, a2, 0, 0, a1)
theorem frame_End.calls (a0_0 : Int) (a0_1 : Int) (a0_2 : Int) (a0_3 : Int) (a0_4 : Int) (a0_5 : Int) (a0_6 : Int) (a1 : Int) (a2 : Int) (r1 : Int) (r2 : Int) (r3 : Int) (r4 : Int) (r5 : Int) (r6 : Int) (r7 : Int) (w : World) (h : frame_End.f a0_0 a0_1 a0_2 a0_3 a0_4 a0_5 a0_6 a1 a2 = some (r1, r2, r3, r4, r5, r6, r7)) :
  Calls Tryz.prog 142 #[.agg #[.int .i64 a0_0, .int .i64 a0_1, .int .i64 a0_2, .int .u64 a0_3, .int .u64 a0_4, .int .u64 a0_5, .int .i64 a0_6], .int .i64 a1, .int .u64 a2] w fun e w' => e = .returned (.agg #[.int .i64 r1, .int .i64 r2, .int .i64 r3, .int .u64 r4, .int .u64 r5, .int .u64 r6, .int .i64 r7]) ∧ Below w.heap.size w w' := by
 have hu66 := Tryz.underlying66
 have HB := qQ (Below.refl w.heap.size w)
 unfold frame_End.f at h
 have H := h
 clear h
 simp only [Option.some.injEq, Prod.mk.injEq] at H
 obtain ⟨rfl, rfl, rfl, rfl, rfl, rfl, rfl⟩ := H
 go_enter Tryz.func142, Tryz.ntmps142
 go_wp2_with (first | ((with_reducible refine gate_dst (N := 3) rfl ?_); refine box_event ?hg (N := 3) ?hd (cs := #[.int .i64 a0_0, .int .i64 a0_1, .int .i64 a0_2, .int .u64 a0_3, .int .u64 a0_4, .int .u64 a0_5, .int .i64 a0_6]) (t := 66) ?hr ?_; (case hd => rfl); (case hg => rfl); (case hr => first | (go_simp; done) | (go_simp; rfl)); intro gb277 hg w4 hbox hb; have BK277 := qQ (hbox); have GW277 := qQ ((by rw [hg]; exact (below_size zB) : w.heap.size ≤ gb277)); have GE277 := qQ ((by rw [hg]; exact (below_size zB) : w.heap.size ≤ gb277)); replace HB := qQ (below_step zB hb); clear hb hbox hg) | ((with_reducible refine gate_dst (N := 6) rfl ?_); refine box_event ?hg (N := 6) ?hd (cs := #[.int .i64 0, .int .i64 0, .int .i64 0, .int .u64 0, .int .u64 0, .int .u64 0, .int .i64 0]) (t := 66) ?hr ?_; (case hd => rfl); (case hg => rfl); (case hr => first | (go_simp; done) | (go_simp; rfl)); intro gb278 hg w5 hbox hb; have BK278 := qQ (hbox); have GW278 := qQ ((by rw [hg]; exact (below_size zB) : w.heap.size ≤ gb278)); have GE278 := qQ ((by rw [hg]; exact (below_size zB) : w.heap.size ≤ gb278)); have NB277_278 := qQ ((by rw [hg]; exact Nat.ne_of_lt (blk_lt (g := gb277) (o := .cells #[.int .i64 a0_0, .int .i64 a0_1, .int .i64 a0_2, .int .u64 a0_3, .int .u64 a0_4, .int .u64 a0_5, .int .i64 a0_6] 66 (0, 0)) (zK BK277.o)) : gb277 ≠ gb278)); have NB278_277 := qQ ((by rw [hg]; exact Nat.ne_of_gt (blk_lt (g := gb277) (o := .cells #[.int .i64 a0_0, .int .i64 a0_1, .int .i64 a0_2, .int .u64 a0_3, .int .u64 a0_4, .int .u64 a0_5, .int .i64 a0_6] 66 (0, 0)) (zK BK277.o)) : gb278 ≠ gb277)); replace BK277 := qQ (blk_below (g := gb277) (o := .cells #[.int .i64 a0_0, .int .i64 a0_1, .int .i64 a0_2, .int .u64 a0_3, .int .u64 a0_4, .int .u64 a0_5, .int .i64 a0_6] 66 (0, 0)) (zK BK277.o) hb); replace HB := qQ (below_step zB hb); clear hb hbox hg; have hnb6 := NB277_278.o; have hnc6 := NB278_277.o; have hcz7 := blk_cell BK277.o; have hfz7 := blk_frozen BK277.o; have hcz8 := blk_cell BK278.o; have hfz8 := blk_frozen BK278.o))
 refine bodyPost_ret (results_cell_row rfl _ _ gb278 66 #[.int .i64 a0_0, .int .i64 0, .int .i64 a0_2, .int .u64 a2, .int .u64 0, .int .u64 0, .int .i64 a1] (0, 0) _ rfl (by (with_reducible repeat (first | refine blk_drewN ?_ _ | refine blk_drew ?_ | refine blk_alloc ?_ _)); refine blk_put (cs := #[.int .i64 a0_0, .int .i64 0, .int .i64 a0_2, .int .u64 a2, .int .u64 0, .int .u64 0, .int .i64 0]) ?_ 6 _ rfl; (with_reducible repeat (first | refine blk_drewN ?_ _ | refine blk_drew ?_ | refine blk_alloc ?_ _)); refine blk_put (cs := #[.int .i64 a0_0, .int .i64 0, .int .i64 a0_2, .int .u64 a2, .int .u64 0, .int .u64 0, .int .i64 0]) ?_ 5 _ rfl; (with_reducible repeat (first | refine blk_drewN ?_ _ | refine blk_drew ?_ | refine blk_alloc ?_ _)); refine blk_put (cs := #[.int .i64 a0_0, .int .i64 0, .int .i64 a0_2, .int .u64 a2, .int .u64 0, .int .u64 0, .int .i64 0]) ?_ 4 _ rfl; (with_reducible repeat (first | refine blk_drewN ?_ _ | refine blk_drew ?_ | refine blk_alloc ?_ _)); refine blk_put (cs := #[.int .i64 a0_0, .int .i64 0, .int .i64 a0_2, .int .u64 0, .int .u64 0, .int .u64 0, .int .i64 0]) ?_ 3 _ rfl; (with_reducible repeat (first | refine blk_drewN ?_ _ | refine blk_drew ?_ | refine blk_alloc ?_ _)); refine blk_put (cs := #[.int .i64 a0_0, .int .i64 0, .int .i64 0, .int .u64 0, .int .u64 0, .int .u64 0, .int .i64 0]) ?_ 2 _ rfl; (with_reducible repeat (first | refine blk_drewN ?_ _ | refine blk_drew ?_ | refine blk_alloc ?_ _)); refine blk_put (cs := #[.int .i64 a0_0, .int .i64 0, .int .i64 0, .int .u64 0, .int .u64 0, .int .u64 0, .int .i64 0]) ?_ 1 _ rfl; (with_reducible repeat (first | refine blk_drewN ?_ _ | refine blk_drew ?_ | refine blk_alloc ?_ _)); refine blk_put (cs := #[.int .i64 0, .int .i64 0, .int .i64 0, .int .u64 0, .int .u64 0, .int .u64 0, .int .i64 0]) ?_ 0 _ rfl; (with_reducible repeat (first | refine blk_drewN ?_ _ | refine blk_drew ?_ | refine blk_alloc ?_ _)); exact BK278.o) Tryz.underlying66 rfl (by kernel_rfl)) rfl ?_
 exact ⟨by first | rfl | (simp [errW_none, errW_some] <;> rfl) | (simp [*, errW_none, errW_some] <;> rfl), zB⟩
def word_Set.f (a0 : Int) (a1 : Int) : Option (Int) := if a1 < 0 then (some a0) else (if a1 ≥ 16 then (some a0) else (if 0 ≤ a1 then (some (Go.bits .or .u64 a0 (shl .u64 1 a1))) else (none)))
theorem word_Set.calls (a0 : Int) (a1 : Int) (r : Int) (w : World) (h : word_Set.f a0 a1 = some r) :
  Calls Tryz.prog 163 #[.int .u64 a0, .int .i64 a1] w fun e w' => e = .returned (.int .u64 r) ∧ Drawn0 w w' := by
 unfold word_Set.f at h
 have H := h
 clear h
 by_cases c3 : a1 < 0
 rotate_left
 case' neg =>
  rw [if_neg c3] at H
  have c3b0 : decide (a1 < 0) = false := decide_eq_false c3
  clear c3
  by_cases c4 : a1 ≥ 16
  rotate_left
  case' neg =>
   rw [if_neg c4] at H
   have c4b0 : decide (16 ≤ a1) = false := decide_eq_false c4
   clear c4
   by_cases c5 : 0 ≤ a1
   rotate_left
   ·rw [if_neg c5] at H
    exact absurd H (by simp)
   rw [if_pos c5] at H
   have c5b0 := eq_true c5
   have c5b1 : decide (0 ≤ a1) = true := decide_eq_true c5
   clear c5
   obtain ⟨ji6, hji6⟩ : ∃ j_ : Int, (shl .u64 1 a1) = j_ := ⟨_, rfl⟩
   replace H : (some (Go.bits .or .u64 a0 (ji6))) = some r := by first | (rw [hji6] at H; exact H) | (simp only [hji6] at H ⊢; exact H)
   have hji6_ : (IntKind.u64.wrap (1 * 2 ^ min a1.toNat 64)) = ji6 := hji6
   have hji6z : a1 ≤ 64 → (IntKind.u64.wrap (1 * 2 ^ a1.toNat)) = ji6 := shl_small hji6
   have hji6u : (IntKind.u64.wrap (2 ^ min a1.toNat 64)) = ji6 := by have h_ := hji6_; rw [Int.one_mul] at h_; exact h_
   have hji6v : a1 ≤ 64 → (IntKind.u64.wrap (2 ^ a1.toNat)) = ji6 := fun hle_ => by have h_ := hji6z hle_; rw [Int.one_mul] at h_; exact h_
   obtain rfl := Option.some.inj H
  rotate_right
  case' pos =>
   rw [if_pos c4] at H
   have c4b0 : decide (16 ≤ a1) = true := decide_eq_true c4
   clear c4
   obtain rfl := Option.some.inj H
 rotate_right
 case' pos =>
  rw [if_pos c3] at H
  have c3b0 : decide (a1 < 0) = true := decide_eq_true c3
  clear c3
  obtain rfl := Option.some.inj H
 all_goals
  go_enter Tryz.func163, Tryz.ntmps163
  go_wp2
  go_ret
  first | (exact ⟨by first | rfl | (simp; done) | (simp only [← hji6] <;> (first | rfl | simp)) | (simp [*]; done), by repeat (first | exact Drawn0.refl _ | apply Drawn0.step)⟩) | (exact ⟨by first | rfl | (simp; done) | (simp [*]; done), by repeat (first | exact Drawn0.refl _ | apply Drawn0.step)⟩)
def frame_Over.f (a0_0 : Int) (a0_1 : Int) (a0_2 : Int) (a0_3 : Int) (a0_4 : Int) (a0_5 : Int) (a0_6 : Int) : Option (Bool) := some (a0_6 != 0)
theorem frame_Over.calls (a0_0 : Int) (a0_1 : Int) (a0_2 : Int) (a0_3 : Int) (a0_4 : Int) (a0_5 : Int) (a0_6 : Int) (r : Bool) (w : World) (h : frame_Over.f a0_0 a0_1 a0_2 a0_3 a0_4 a0_5 a0_6 = some r) :
  Calls Tryz.prog 96 #[.agg #[.int .i64 a0_0, .int .i64 a0_1, .int .i64 a0_2, .int .u64 a0_3, .int .u64 a0_4, .int .u64 a0_5, .int .i64 a0_6]] w fun e w' => e = .returned (.bool r) ∧ Below w.heap.size w w' := by
 have hu66 := Tryz.underlying66
 have HB := qQ (Below.refl w.heap.size w)
 have H : (some (a0_6 != 0)) = some r := h
 clear h
 obtain rfl := Option.some.inj H
 go_enter Tryz.func96, Tryz.ntmps96
 go_wp2_with (first | ((with_reducible refine gate_dst (N := 1) rfl ?_); refine box_event ?hg (N := 1) ?hd (cs := #[.int .i64 a0_0, .int .i64 a0_1, .int .i64 a0_2, .int .u64 a0_3, .int .u64 a0_4, .int .u64 a0_5, .int .i64 a0_6]) (t := 66) ?hr ?_; (case hd => rfl); (case hg => rfl); (case hr => first | (go_simp; done) | (go_simp; rfl)); intro gb249 hg w2 hbox hb; have BK249 := qQ (hbox); have GW249 := qQ ((by rw [hg]; exact (below_size zB) : w.heap.size ≤ gb249)); have GE249 := qQ ((by rw [hg]; exact (below_size zB) : w.heap.size ≤ gb249)); replace HB := qQ (below_step zB hb); clear hb hbox hg; have hcz3 := blk_cell BK249.o; have hfz3 := blk_frozen BK249.o))
 go_ret
 exact ⟨by first | rfl | (simp [errW_none, errW_some] <;> rfl) | (simp [*, errW_none, errW_some] <;> rfl), zB⟩
def word_Far.f (a0 : Int) (a1 : Int) : Option (Int) := some (wrap64 (IntKind.u64.wrap (a0 - a1)))
theorem word_Far.calls (a0 : Int) (a1 : Int) (r : Int) (w : World) (h : word_Far.f a0 a1 = some r) :
  Calls Tryz.prog 114 #[.int .u64 a0, .int .u64 a1] w fun e w' => e = .returned (.int .i64 r) ∧ Drawn0 w w' := by
 have H : (some (wrap64 (IntKind.u64.wrap (a0 - a1)))) = some r := h
 clear h
 obtain rfl := Option.some.inj H
 go_enter Tryz.func114, Tryz.ntmps114
 go_wp2
 go_ret
 exact ⟨by first | rfl | (simp; done) | (simp [*]; done), by repeat (first | exact Drawn0.refl _ | apply Drawn0.step)⟩
def deq_full.f (a0_0 : Int) (a0_1 : Int) (a0_2 : Int) (a0_3 : Int) (a1 : Int) : Option (Int) := if (IntKind.u64.wrap (a0_2)) = 0 then (none) else (some (IntKind.u64.wrap ((IntKind.u64.wrap ((IntKind.u64.wrap (Int.tdiv a1 (IntKind.u64.wrap (a0_2)))) * 2)) + 1)))
theorem deq_full.calls (a0_0 : Int) (a0_1 : Int) (a0_2 : Int) (a0_3 : Int) (a1 : Int) (r : Int) (w : World) (h : deq_full.f a0_0 a0_1 a0_2 a0_3 a1 = some r) :
  Calls Tryz.prog 153 #[.agg #[.int .i64 a0_0, .int .i64 a0_1, .int .i64 a0_2, .int .i64 a0_3], .int .u64 a1] w fun e w' => e = .returned (.int .u64 r) ∧ Below w.heap.size w w' := by
 have hu23 := Tryz.underlying23
 have HB := qQ (Below.refl w.heap.size w)
 unfold deq_full.f at h
 have H := h
 clear h
 by_cases c3 : (IntKind.u64.wrap (a0_2)) = 0
 ·rw [if_pos c3] at H
  exact absurd H (by simp)
 ·rw [if_neg c3] at H
  have c3b0 : ((IntKind.u64.wrap (a0_2)) == 0) = false := beq_eq_false_iff_ne.mpr c3
  have c3b1 : ((IntKind.u64.wrap (a0_2)) != 0) = true := bne_iff_ne.mpr c3
  obtain rfl := Option.some.inj H
  go_enter Tryz.func153, Tryz.ntmps153
  go_wp2_with (first | ((with_reducible refine gate_dst (N := 2) rfl ?_); refine box_event ?hg (N := 2) ?hd (cs := #[.int .i64 a0_0, .int .i64 a0_1, .int .i64 a0_2, .int .i64 a0_3]) (t := 23) ?hr ?_; (case hd => rfl); (case hg => rfl); (case hr => first | (go_simp; done) | (go_simp; rfl)); intro gb288 hg w4 hbox hb; have BK288 := qQ (hbox); have GW288 := qQ ((by rw [hg]; exact (below_size zB) : w.heap.size ≤ gb288)); have GE288 := qQ ((by rw [hg]; exact (below_size zB) : w.heap.size ≤ gb288)); replace HB := qQ (below_step zB hb); clear hb hbox hg; have hcz5 := blk_cell BK288.o; have hfz5 := blk_frozen BK288.o))
  go_ret
  exact ⟨by first | rfl | (simp [errW_none, errW_some] <;> rfl) | (simp [*, errW_none, errW_some] <;> rfl), zB⟩
def draw_below.f (a0 : Int) (a1 : Int) : Option (Bool) := if a0 ≥ 0 then (some (decide (a0 < a1))) else (some false)
theorem draw_below.calls (a0 : Int) (a1 : Int) (r : Bool) (w : World) (h : draw_below.f a0 a1 = some r) :
  Calls Tryz.prog 58 #[.int .i64 a0, .int .i64 a1] w fun e w' => e = .returned (.bool r) ∧ Drawn0 w w' := by
 unfold draw_below.f at h
 have H := h
 clear h
 by_cases c3 : a0 ≥ 0
 rotate_left
 case' neg =>
  rw [if_neg c3] at H
  have c3b0 : decide (0 ≤ a0) = false := decide_eq_false c3
  clear c3
  obtain rfl := Option.some.inj H
 rotate_right
 case' pos =>
  rw [if_pos c3] at H
  have c3b0 : decide (0 ≤ a0) = true := decide_eq_true c3
  clear c3
  obtain rfl := Option.some.inj H
 all_goals
  go_enter Tryz.func58, Tryz.ntmps58
  go_wp2
  go_ret
  exact ⟨by first | rfl | (simp; done) | (simp [*]; done), by repeat (first | exact Drawn0.refl _ | apply Drawn0.step)⟩
def submit_Busy.f (a0_0 : Int) (l0_1 : List Int) (a0_2 : Int) (a0_3 : Int) (a0_4 : Int) (a0_5 : Int) (a0_6 : Int) (a0_7 : Int) (a0_8 : Int) : Option (Bool) := some (a0_0 != 0)
theorem submit_Busy.calls (a0_0 : Int) (A0_1 : Option Addr) (c0_1 : Nat) (l0_1 : List Int) (a0_2 : Int) (a0_3 : Int) (a0_4 : Int) (a0_5 : Int) (a0_6 : Int) (a0_7 : Int) (a0_8 : Int) (r : Bool) (w : World) (hr0_1 : Kd.C (Kd.int .i64) w A0_1 l0_1.length l0_1) (hc0_1 : l0_1.length ≤ c0_1) (h : submit_Busy.f a0_0 l0_1 a0_2 a0_3 a0_4 a0_5 a0_6 a0_7 a0_8 = some r) :
  Calls Tryz.prog 41 #[.agg #[.int .i64 a0_0, .slice A0_1 l0_1.length c0_1, .int .i64 a0_2, .int .i64 a0_3, .int .i64 a0_4, .int .u64 a0_5, .int .u64 a0_6, .int .u64 a0_7, .int .i64 a0_8]] w fun e w' => e = .returned (.bool r) ∧ Below w.heap.size w w' := by
 have hu68 := Tryz.underlying68
 have HR0_1 := qQ hr0_1
 have HC0_1 := qQ hc0_1
 clear hr0_1 hc0_1
 have HB := qQ (Below.refl w.heap.size w)
 have H : (some (a0_0 != 0)) = some r := h
 clear h
 obtain rfl := Option.some.inj H
 go_enter Tryz.func41, Tryz.ntmps41
 go_wp2_with (first | ((with_reducible refine gate_dst (N := 1) rfl ?_); refine box_event ?hg (N := 1) ?hd (cs := #[.int .i64 a0_0, .slice A0_1 l0_1.length c0_1, .int .i64 a0_2, .int .i64 a0_3, .int .i64 a0_4, .int .u64 a0_5, .int .u64 a0_6, .int .u64 a0_7, .int .i64 a0_8]) (t := 68) ?hr ?_; (case hd => rfl); (case hg => rfl); (case hr => first | (go_simp; done) | (go_simp; rfl)); intro gb248 hg w2 hbox hb; have BK248 := qQ (hbox); have GW248 := qQ ((by rw [hg]; exact (below_size zB) : w.heap.size ≤ gb248)); have GE248 := qQ ((by rw [hg]; exact (below_size zB) : w.heap.size ≤ gb248)); replace HB := qQ (below_step zB hb); clear hb hbox hg; have hcz3 := blk_cell BK248.o; have hfz3 := blk_frozen BK248.o))
 go_ret
 exact ⟨by first | rfl | (simp [errW_none, errW_some] <;> rfl) | (simp [*, errW_none, errW_some] <;> rfl), zB⟩
end Go.Proofs.YthoeodjgfelkhaaGreat.QT
namespace Go.Proofs.YthoeodjgfelkhaaGreat.Hnd
open Go Go.Proofs Go.RowKit Go.Proofs.YthoeodjgfelkhaaGreat.Bri Go.Shelf Go.Proofs.YthoeodjgfelkhaaGreatW.PrintWords Go.Proofs.YthoeodjgfelkhaaGreatW.PrintLast Go.Proofs.YthoeodjgfelkhaaGreatW.PrintMore
attribute [local go_sem] Oper.semAt_some max2_int min2_int max_two min_two
def pickOf (a b c : Int) : Int × Int × Int := (IntKind.i64.wrap (a.tmod 4), IntKind.i64.wrap b, IntKind.u64.wrap c)
def pickAt (l : List Int) (x : Nat) : Option (Int × Int × Int) := if 3 * x + 2 < l.length then some (pickOf (l.getD (3 * x) 0) (l.getD (3 * x + 1) 0) (l.getD (3 * x + 2) 0)) else none
def pks (l : List Int) {len : Nat} (pre : List (Ch len)) : List (Int × Int × Int) := pre.filterMap fun x => pickAt l x.1
def pcells (ps : List (Int × Int × Int)) : List Value := ps.flatMap fun p => [.int .i64 p.1, .int .i64 p.2.1, .int .u64 p.2.2]
theorem info83 : (Tryz.prog.info? 83).map (fun i => (i.zero, i.size, i.bytes)) = some (some (.agg #[(.int .i64 0), (.int .i64 0), (.int .u64 0)]), 3, 24) := by kernel_rfl
theorem pks_some {l : List Int} {len : Nat} (pre : List (Ch len)) (x : Ch len) (h : 3 * x.1 + 2 < l.length) : pks l (pre ++ [x]) = pks l pre ++ [pickOf (l.getD (3 * x.1) 0) (l.getD (3 * x.1 + 1) 0) (l.getD (3 * x.1 + 2) 0)] := by
 simp [pks, List.filterMap_append, pickAt, h]
theorem pks_none {l : List Int} {len : Nat} (pre : List (Ch len)) (x : Ch len) (h : ¬ 3 * x.1 + 2 < l.length) : pks l (pre ++ [x]) = pks l pre := by
 simp [pks, List.filterMap_append, pickAt, h]
theorem pcells_snoc (ps : List (Int × Int × Int)) (p : Int × Int × Int) : pcells (ps ++ [p]) = pcells ps ++ [.int .i64 p.1, .int .i64 p.2.1, .int .u64 p.2.2] := by simp [pcells]
theorem pks_len {l : List Int} {len : Nat} (pre : List (Ch len)) : (pks l pre).length ≤ pre.length := List.length_filterMap_le _ _
theorem Decode_in (n : Nat) (hn : 3 ≤ n) (A : Option Addr) (ad : Addr) (cap : Nat) (l : List Int) (hA : 0 < l.length → A = some ad) (hlen : l.length ≤ 100000) (hcap : l.length ≤ cap) (w : World)
  (hr : ∀ (j : Nat) (u : Int), l[j]? = some u → w.cell? (ad.add j) = some (.int .u8 u)) :
  CallsIn (wideAt none) n Tryz.prog 15 #[.slice A l.length cap] w fun e W' => ∃ v k, e = .returned v ∧ l.length ≤ 3 * k ∧ W'.ownsRow w.heap.size 83 3 v (pks l (chunksTo l.length k)).length (pcells (pks l (chunksTo l.length k))) ∧ Below w.heap.size w W' := by
 have h1 : 1 ≤ n := by omega
 refine callsIn_of_wp_marks Tryz.func15 rfl trivial ?_ rfl
 simp only [Tryz.ntmps15, List.size_toArray, List.length_cons, List.length_nil, Nat.reduceAdd, Nat.reduceSub, Array.replicate_succ, Array.replicate_zero, List.push_toArray, List.append_toArray, List.nil_append, List.cons_append]
 gi_wp2_with (refine ⟨trivial, (chunk_in (n - 1) A l.length cap _).mono ?_⟩; rintro e w' ⟨rfl, rfl⟩)
 have c0 := cell_new_l w (.slice none 0 0) 57
 have hB0 : Below w.heap.size w (((w.alloc (.cells #[.slice none 0 0] 57)).alloc (.cells #[.slice A l.length cap] 26)).alloc (.cells #[.int .i64 3] 3)) := (((Below.refl _ w).alloc (Nat.le_refl _) _).alloc (by simp) _).alloc (by simp; omega) _
 have hb1 : Boxed ((w.alloc (.cells #[.slice none 0 0] 57)).alloc (.cells #[.slice A l.length cap] 26)) (w.heap.size + 1) 26 (.slice A l.length cap) := by simpa using Boxed.new (w.alloc (.cells #[.slice none 0 0] 57)) 26 (.slice A l.length cap)
 have hb2 : Boxed (((w.alloc (.cells #[.slice none 0 0] 57)).alloc (.cells #[.slice A l.length cap] 26)).alloc (.cells #[.int .i64 3] 3)) (w.heap.size + 2) 3 (.int .i64 3) := by simpa using Boxed.new ((w.alloc (.cells #[.slice none 0 0] 57)).alloc (.cells #[.slice A l.length cap] 26)) 3 (.int .i64 3)
 have hb1' := hb1.alloc (.cells #[.int .i64 3] 3)
 have hb0' : Boxed (((w.alloc (.cells #[.slice none 0 0] 57)).alloc (.cells #[.slice A l.length cap] 26)).alloc (.cells #[.int .i64 3] 3)) w.heap.size 57 (.slice none 0 0) := ((Boxed.new w 57 (.slice none 0 0)).alloc _).alloc _
 refine wpIn_rangeFunc_ownF rfl h1 (gf := 66) (lb := #[.pointer (some ⟨w.heap.size + 1, 0, none⟩), .pointer (some ⟨w.heap.size + 2, 0, none⟩)]) rfl trivial (enters_of Tryz.func66 (by kernel_rfl) rfl)
  (chunk_stops (n - 1) (w.heap.size + 1) (w.heap.size + 2) A ad l.length cap hA hlen hcap _ hb1'.cell hb2.cell) Keep2.trans (fun W l o o' hl hW _ _ => Keep2.put (by simp) (by simp) o' hl hW) (Below.refl _ _) (fun _ => rfl)
  (fun pre W => ((∃ v, Boxed W w.heap.size 57 v ∧ W.ownsRow w.heap.size 83 3 v (pks l pre).length (pcells (pks l pre)) ∧ True) ∧ Boxed W (w.heap.size + 1) 26 (.slice A l.length cap) ∧ Boxed W (w.heap.size + 2) 3 (.int .i64 3)) ∧ Below w.heap.size w W)
  (fun c pre W => False)
  (OwnFrom.and ((Own.from (holdsRow_own w.heap.size w.heap.size 57 83 3 (fun pre => (pks l pre).length) (fun pre => pcells (pks l pre)) (fun _ _ => True)) _).and (((boxed_own (w.heap.size + 1) 26 (fun _ => .slice A l.length cap)).from _).and ((boxed_own (w.heap.size + 2) 3 (fun _ => .int .i64 3)).from _))) (ownFrom_below (Nat.le_refl _) (by simp; omega)))
  (fun c s W W' row hs _ _ => hs)
  ⟨⟨⟨_, hb0', ⟨rfl, .inl ⟨rfl, rfl⟩⟩, trivial⟩, hb1', hb2⟩, hB0⟩
  (fun x => { tmps := #[.slice A l.length cap, undef, .slice none 0 0, .pointer (some ⟨w.heap.size, 0, none⟩), chunkV ad l.length x.1, .slice A l.length cap, .func (.func 66) #[] #[.pointer (some ⟨w.heap.size + 1, 0, none⟩), .pointer (some ⟨w.heap.size + 2, 0, none⟩)], chunkV ad l.length x.1, undef, undef, undef, undef, undef, undef, undef, undef, undef, undef, undef, undef, undef, undef, undef, undef, undef, undef, undef, undef, undef], defers := [] }) ?assign ?body ?done ?stop
 case assign =>
  intro l' x W K hK
  gi_wp2
  exact hK
 case body =>
  rintro l' pre x W ⟨⟨⟨v, hbx, hrow, _⟩, hbs, hbn⟩, hB⟩ hpre
  obtain ⟨x, hx⟩ := x
  unfold chunkV
  obtain ⟨m, hm, hm0, hm3⟩ : ∃ m : Nat, min 3 (l.length - 3 * x) = m ∧ 0 < m ∧ m ≤ 3 := ⟨_, rfl, by omega, by omega⟩
  dsimp only
  rw [hm]
  by_cases h3 : m = 3
  ·subst h3
   have hlt : 3 * x + 2 < l.length := by omega
   have hpk := Lib.hid (pks_some pre ⟨x, hx⟩ hlt)
   have hpl : (pks l pre).length ≤ pre.length := pks_len pre
   obtain ⟨b0, hb0⟩ : ∃ b0, l[3 * x]? = some b0 := ⟨_, List.getElem?_eq_getElem (by omega)⟩
   obtain ⟨b1, hb1⟩ : ∃ b1, l[3 * x + 1]? = some b1 := ⟨_, List.getElem?_eq_getElem (by omega)⟩
   obtain ⟨b2, hb2⟩ : ∃ b2, l[3 * x + 2]? = some b2 := ⟨_, List.getElem?_eq_getElem (by omega)⟩
   have r0 := hr _ _ hb0
   have r1 := hr _ _ hb1
   have r2 := hr _ _ hb2
   have hpk2 : pickOf (l.getD (3 * x) 0) (l.getD (3 * x + 1) 0) (l.getD (3 * x + 2) 0) = pickOf b0 b1 b2 := by simp only [List.getD_eq_getElem?_getD, hb0, hb1, hb2, Option.getD_some]
   have HP2 := Lib.hid hpk2
   clear hpk2
   clear hm hm0 hm3 hb0 hb1 hb2 hr
   have q0 := (hB.cell (block_lt r0)).trans r0
   have q1 := (hB.cell (block_lt r1)).trans r1
   have q2 := (hB.cell (block_lt r2)).trans r2
   gi_wp2_with fail
   have hS : (fun W' : World => W'.cell? ⟨w.heap.size, 0, none⟩ = some v ∧ W'.cell? (ad.add (3 * x)) = some (.int .u8 b0) ∧ W'.cell? ⟨(ad.add (3 * x)).block, (ad.add (3 * x)).off + 1, none⟩ = some (.int .u8 b1) ∧ W'.cell? ⟨(ad.add (3 * x)).block, (ad.add (3 * x)).off + 2, none⟩ = some (.int .u8 b2)) { W with drawn := W.drawn + 1 } := ⟨hbx.cell, q0, by rw [← add_field _ _ 1 (by omega)]; exact q1, by rw [← add_field _ _ 2 (by omega)]; exact q2⟩
   refine wpIn_region_E (fun W' : World => W'.cell? ⟨w.heap.size, 0, none⟩ = some v ∧ W'.cell? (ad.add (3 * x)) = some (.int .u8 b0) ∧ W'.cell? ⟨(ad.add (3 * x)).block, (ad.add (3 * x)).off + 1, none⟩ = some (.int .u8 b1) ∧ W'.cell? ⟨(ad.add (3 * x)).block, (ad.add (3 * x)).off + 2, none⟩ = some (.int .u8 b2)) 17 (by kernel_rfl) ?out (by kernel_rfl) ?_
   case out =>
    rintro ⟨a', w', h⟩
    exact h
   refine wpAnyE_take (i := 0) (v := ?v0) rfl (by kernel_rfl) (by kernel_rfl) (by kernel_rfl) (fun _ _ _ h => h) (by kernel_rfl) (by decide) hS (Or.inl ⟨by rfl, ?y0⟩) ?_
   case y0 => (intro w' hSw; (try dsimp only at hSw); first | (go_simp; with_reducible rfl) | (go_simp; done))
   try simp only [Act.put, List.setIfInBounds_toArray, List.set_cons_zero, List.set_cons_succ]
   refine wpAnyE_take (i := 1) (v := ?v1) rfl (by kernel_rfl) (by kernel_rfl) (by kernel_rfl) (fun _ _ _ h => h) (by kernel_rfl) (by decide) hS (Or.inl ⟨by rfl, ?y1⟩) ?_
   case y1 => (intro w' hSw; (try dsimp only at hSw); first | (go_simp; with_reducible rfl) | (go_simp; done))
   try simp only [Act.put, List.setIfInBounds_toArray, List.set_cons_zero, List.set_cons_succ]
   refine wpAnyE_take (i := 2) (v := ?v2) rfl (by kernel_rfl) (by kernel_rfl) (by kernel_rfl) (fun _ _ _ h => h) (by kernel_rfl) (by decide) hS (Or.inl ⟨by rfl, ?y2⟩) ?_
   case y2 => (intro w' hSw; (try dsimp only at hSw); first | (go_simp; with_reducible rfl) | (go_simp; done))
   try simp only [Act.put, List.setIfInBounds_toArray, List.set_cons_zero, List.set_cons_succ]
   refine wpAnyE_take (i := 3) (v := ?v3) rfl (by kernel_rfl) (by kernel_rfl) (by kernel_rfl) (fun _ _ _ h => h) (by kernel_rfl) (by decide) hS (Or.inl ⟨by rfl, ?y3⟩) ?_
   case y3 => (intro w' hSw; (try dsimp only at hSw); first | (go_simp; with_reducible rfl) | (go_simp; done))
   try simp only [Act.put, List.setIfInBounds_toArray, List.set_cons_zero, List.set_cons_succ]
   refine wpAnyE_take (i := 4) (v := ?v4) rfl (by kernel_rfl) (by kernel_rfl) (by kernel_rfl) (fun _ _ _ h => h) (by kernel_rfl) (by decide) hS (Or.inl ⟨by rfl, ?y4⟩) ?_
   case y4 => (intro w' hSw; (try dsimp only at hSw); first | (go_simp; with_reducible rfl) | (go_simp; done))
   try simp only [Act.put, List.setIfInBounds_toArray, List.set_cons_zero, List.set_cons_succ]
   refine wpAnyE_take (i := 5) (v := ?v5) rfl (by kernel_rfl) (by kernel_rfl) (by kernel_rfl) (fun _ _ _ h => h) (by kernel_rfl) (by decide) hS (Or.inl ⟨by rfl, ?y5⟩) ?_
   case y5 => (intro w' hSw; (try dsimp only at hSw); first | (go_simp; with_reducible rfl) | (go_simp; done))
   try simp only [Act.put, List.setIfInBounds_toArray, List.set_cons_zero, List.set_cons_succ]
   refine wpAnyE_take (i := 6) (v := ?v6) rfl (by kernel_rfl) (by kernel_rfl) (by kernel_rfl) (fun _ _ _ h => h) (by kernel_rfl) (by decide) hS (Or.inl ⟨by rfl, ?y6⟩) ?_
   case y6 => (intro w' hSw; (try dsimp only at hSw); first | (go_simp; with_reducible rfl) | (go_simp; done))
   try simp only [Act.put, List.setIfInBounds_toArray, List.set_cons_zero, List.set_cons_succ]
   refine wpAnyE_take (i := 7) (v := ?v7) rfl (by kernel_rfl) (by kernel_rfl) (by kernel_rfl) (fun _ _ _ h => h) (by kernel_rfl) (by decide) hS (Or.inl ⟨by rfl, ?y7⟩) ?_
   case y7 => (intro w' hSw; (try dsimp only at hSw); first | (go_simp; with_reducible rfl) | (go_simp; done))
   try simp only [Act.put, List.setIfInBounds_toArray, List.set_cons_zero, List.set_cons_succ]
   refine wpAnyE_take (i := 8) (v := ?v8) rfl (by kernel_rfl) (by kernel_rfl) (by kernel_rfl) (fun _ _ _ h => h) (by kernel_rfl) (by decide) hS (Or.inl ⟨by rfl, ?y8⟩) ?_
   case y8 => (intro w' hSw; (try dsimp only at hSw); first | (go_simp; with_reducible rfl) | (go_simp; done))
   try simp only [Act.put, List.setIfInBounds_toArray, List.set_cons_zero, List.set_cons_succ]
   refine wpAnyE_take (i := 9) (v := ?v9) rfl (by kernel_rfl) (by kernel_rfl) (by kernel_rfl) (fun _ _ _ h => h) (by kernel_rfl) (by decide) hS (Or.inl ⟨by rfl, ?y9⟩) ?_
   case y9 => (intro w' hSw; (try dsimp only at hSw); first | (go_simp; with_reducible rfl) | (go_simp; done))
   try simp only [Act.put, List.setIfInBounds_toArray, List.set_cons_zero, List.set_cons_succ]
   refine wpAnyE_take (i := 10) (v := ?v10) rfl (by kernel_rfl) (by kernel_rfl) (by kernel_rfl) (fun _ _ _ h => h) (by kernel_rfl) (by decide) hS (Or.inl ⟨by rfl, ?y10⟩) ?_
   case y10 => (intro w' hSw; (try dsimp only at hSw); first | (go_simp; with_reducible rfl) | (go_simp; done))
   try simp only [Act.put, List.setIfInBounds_toArray, List.set_cons_zero, List.set_cons_succ]
   refine wpAnyE_take (i := 11) (v := ?v11) rfl (by kernel_rfl) (by kernel_rfl) (by kernel_rfl) (fun _ _ _ h => h) (by kernel_rfl) (by decide) hS (Or.inl ⟨by rfl, ?y11⟩) ?_
   case y11 => (intro w' hSw; (try dsimp only at hSw); first | (go_simp; with_reducible rfl) | (go_simp; done))
   try simp only [Act.put, List.setIfInBounds_toArray, List.set_cons_zero, List.set_cons_succ]
   refine wpAnyE_take (i := 12) (v := ?v12) rfl (by kernel_rfl) (by kernel_rfl) (by kernel_rfl) (fun _ _ _ h => h) (by kernel_rfl) (by decide) hS (Or.inl ⟨by rfl, ?y12⟩) ?_
   case y12 => (intro w' hSw; (try dsimp only at hSw); first | (go_simp; with_reducible rfl) | (go_simp; done))
   try simp only [Act.put, List.setIfInBounds_toArray, List.set_cons_zero, List.set_cons_succ]
   refine wpAnyE_take (i := 13) (v := ?v13) rfl (by kernel_rfl) (by kernel_rfl) (by kernel_rfl) (fun _ _ _ h => h) (by kernel_rfl) (by decide) hS (Or.inl ⟨by rfl, ?y13⟩) ?_
   case y13 => (intro w' hSw; (try dsimp only at hSw); first | (go_simp; with_reducible rfl) | (go_simp; done))
   try simp only [Act.put, List.setIfInBounds_toArray, List.set_cons_zero, List.set_cons_succ]
   refine wpAnyE_take (i := 14) (v := ?v14) rfl (by kernel_rfl) (by kernel_rfl) (by kernel_rfl) (fun _ _ _ h => h) (by kernel_rfl) (by decide) hS (Or.inl ⟨by rfl, ?y14⟩) ?_
   case y14 => (intro w' hSw; (try dsimp only at hSw); first | (go_simp; with_reducible rfl) | (go_simp; done))
   try simp only [Act.put, List.setIfInBounds_toArray, List.set_cons_zero, List.set_cons_succ]
   refine wpAnyE_one (i := 15) (by kernel_rfl) rfl (fun K hK => ?_)
   go_simp
   refine hK _ _ (fun _ => ⟨cell_alloc_l _ hS.1, cell_alloc_l _ hS.2.1, cell_alloc_l _ hS.2.2.1, cell_alloc_l _ hS.2.2.2⟩) ?_
   clear hK K
   refine wpAnyE_one (i := 16) (by kernel_rfl) rfl (fun K hK => ?_)
   refine step_append_cells (w0 := w) (W := W.drew) w.heap.size (by rfl) (.tmp 11) (.tmp 26) 57 83 _ 3 24 rfl (by kernel_rfl) info83 rfl (by decide) (by decide) v (pks l pre).length (pcells (pks l pre)) _ (by rfl) (by rfl) (by rfl) ?one hrow hB.drew hB.size ?fit ?_
   case one => (intro u hu; simp only [List.mem_cons, List.not_mem_nil, or_false] at hu; rcases hu with rfl | rfl | rfl <;> rfl)
   case fit => omega
   intro v1 w1 hown hbel hg _
   have hgW : W.grownBy w1 v.ownBlock := ⟨hg.os, hg.tape, hg.output, hg.size, hg.block⟩
   have hx1 : Boxed w1 w.heap.size 57 v := hbx.kept hgW (hbx.not_row (by decide) hrow)
   have hs1 : Boxed w1 (w.heap.size + 1) 26 (.slice A l.length cap) := hbs.kept hgW (hbs.not_row (by decide) hrow)
   have hn1 : Boxed w1 (w.heap.size + 2) 3 (.int .i64 3) := hbn.kept hgW (hbn.not_row (by decide) hrow)
   refine hK _ _ (fun _ => ⟨hx1.cell, (hbel.cell (block_lt r0)).trans r0, by rw [← add_field _ _ 1 (by omega)]; exact (hbel.cell (block_lt r1)).trans r1, by rw [← add_field _ _ 2 (by omega)]; exact (hbel.cell (block_lt r2)).trans r2⟩) ?_
   clear hK K
   refine wpAnyE_one (i := 17) (by kernel_rfl) rfl (fun K hK => ?_)
   obtain ⟨g1, cap1, rfl⟩ := ownsRow_succ hown
   have hx1c := hx1.cell
   have hx1f := hx1.frozen
   go_simp
   refine hK _ _ (fun h => absurd rfl h) (wpAnyE_done (by kernel_rfl) ?_)
   clear hK K
   have hO := HP2.out
   refine ⟨(KeepsOthers.of_grownBy hgW fun j o ej hj => ?_).trans (KeepsOthers.setCell _ _ _), ⟨((hs1.other (by omega) _).cell).trans hbs.cell.symm, ((hn1.other (by omega) _).cell).trans hbn.cell.symm⟩, ⟨⟨_, hx1.set _, ?_, trivial⟩, hs1.other (by omega) _, hn1.other (by omega) _⟩, hbel.setCell (p := ⟨w.heap.size, 0, none⟩) (Nat.le_refl _) _⟩
   ·rcases hrow.2 with ⟨rfl, _⟩ | ⟨g, cap', cur, rfl, _, hgb, _⟩
    ·simp [Value.ownBlock] at ej
    ·obtain rfl : g = j := by simpa [Value.ownBlock] using ej
     rw [hgb] at hj; cases hj; rfl
   ·rw [hpk.out, hO, pcells_snoc, List.length_append, List.length_singleton]
    exact hown.kept (grownBy_setCell' w1 w.heap.size _) (.inr (hx1.not_row (by decide) hown).symm)
  ·have hpk := Lib.hid (pks_none (l := l) pre ⟨x, hx⟩ (by show ¬ 3 * x + 2 < l.length; omega))
   clear hm hr
   have hm3' : ¬ ((m : Int) = 3) := by omega
   gi_wp2
   refine ⟨KeepsOthers.refl _, ⟨rfl, rfl⟩, ⟨⟨v, hbx, ?_, trivial⟩, hbs, hbn⟩, hB⟩
   rw [hpk.out]
   exact hrow
 case done =>
  rintro D ys W hD ⟨k, hk, rfl⟩ ⟨⟨⟨v, hbx, hrow, _⟩, hbs, hbn⟩, hB⟩ hK
  have hc := hbx.cell
  gi_wp2
  refine ⟨by simp, .inl ⟨_, _, rfl, run_takeDeferred hK, ?_⟩⟩
  refine ⟨v, ?_, v, k, rfl, hk, ownsRow_putObj hrow _ hK rfl, hB.trans (belowK_b (w := w) (Nat.le_refl _) W D _ _ (by simp at hD; omega) hK rfl rfl)⟩
  simp [results, Tryz.f15, go_sem]
 case stop =>
  rintro D c pre W hD hS hf hK
  exact hf.elim
end Go.Proofs.YthoeodjgfelkhaaGreat.Hnd
