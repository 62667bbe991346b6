/- Part 6 of the claim on TopWakes: maps of functions; printed contracts; think.bad. No condition. -/
import Derived.Test.YthoeodjgfelkhaaGreatm05
set_option linter.unusedVariables false
set_option linter.unusedSimpArgs false
set_option maxRecDepth 100000
set_option maxHeartbeats 8000000
namespace Go.Proofs.YthoeodjgfelkhaaGreat.QT
open Go.RowKit Go.Proofs.YthoeodjgfelkhaaGreatW.PrintWords Go.Proofs.YthoeodjgfelkhaaGreatW.PrintLast Go.Proofs.YthoeodjgfelkhaaGreatW.PrintMore
attribute [local go_sem] max2_int min2_int max_two min_two
theorem blk_any (w : World) (o : Obj) : (w.alloc o).heap[w.heap.size]? = some o := by
 show (w.heap.push o)[w.heap.size]? = some o
 simp
theorem push_set {α : Type} (a : Array α) (x y : α) : (a.push x).setIfInBounds a.size y = a.push y := by
 apply Array.ext'
 rw [Array.toList_setIfInBounds, Array.toList_push, Array.toList_push, ← Array.length_toList, List.set_append_right _ _ (Nat.le_refl _)]
 simp
section
variable {P : Program} {mty kt et : TypeId} {es : Array MapEntry} {clock : Nat}
theorem run_ins_new (hm : P.underlying mty = some (.map kt et)) (hk : P.underlying kt = some (.int .i64)) (n : Int) (val : Value) (hf : Instr.findNow (.int .i64) (.int .i64 n) es.toList 0 = some none) (w : World) :
  (Instr.mapUpdate mty (.map (some w.heap.size)) (.int .i64 n) val).run P (w.alloc (.map es clock)) = .ok () (w.alloc (.map (es.push { key := .int .i64 n, val := val, born := clock }) (clock + 1))) := by
 have hb : (w.alloc (.map es clock)).heap[w.heap.size]? = some (.map es clock) := blk_any w _
 have hc : (Instr.checkKey false 10000 kt (.int .i64 n)).run P (w.alloc (.map es clock)) = .ok () (w.alloc (.map es clock)) := MapKept.run_checkKey (k := .int .i64 n) hk (by simp [MapKept.IsKey]) false 9999
 simp [Instr.mapUpdate, run_underlying hm, MapKept.run_getObj_map hb, hc, MapKept.run_findKey hk hf, MapKept.run_setObj_map _ hb, Result.andThen]
 show ({ w with heap := (w.heap.push _).setIfInBounds w.heap.size _ } : World) = { w with heap := w.heap.push _ }
 congr 1
 exact push_set _ _ _
theorem run_look_some (hm : P.underlying mty = some (.map kt et)) (hk : P.underlying kt = some (.int .i64)) {r : Nat} (n : Int) {i : Nat} {v : Value} {w : World} (hb : w.heap[r]? = some (.map es clock)) (hf : Instr.findNow (.int .i64) (.int .i64 n) es.toList 0 = some (some (i, v))) (c : Bool) :
  (Instr.lookup mty (.map (some r)) (.int .i64 n) c).run P w = .ok (if c then .tuple #[v, .bool true] else v) w := by
 have hc : ∀ e, (Instr.checkKey e 10000 kt (.int .i64 n)).run P w = .ok () w := fun e => MapKept.run_checkKey (k := .int .i64 n) hk (by simp [MapKept.IsKey]) e 9999
 cases c <;> simp [Instr.lookup, run_underlying hm, MapKept.run_getObj_map hb, hc, MapKept.run_findKey hk hf, Result.andThen]
theorem run_look_none (hm : P.underlying mty = some (.map kt et)) (hk : P.underlying kt = some (.int .i64)) {r : Nat} (n : Int) {z : Value} {w : World} (hb : w.heap[r]? = some (.map es clock)) (hf : Instr.findNow (.int .i64) (.int .i64 n) es.toList 0 = some none) (hz : (zeroValue et).run P w = .ok z w) (c : Bool) :
  (Instr.lookup mty (.map (some r)) (.int .i64 n) c).run P w = .ok (if c then .tuple #[z, .bool false] else z) w := by
 have hc : ∀ e, (Instr.checkKey e 10000 kt (.int .i64 n)).run P w = .ok () w := fun e => MapKept.run_checkKey (k := .int .i64 n) hk (by simp [MapKept.IsKey]) e 9999
 cases c <;> simp [Instr.lookup, run_underlying hm, MapKept.run_getObj_map hb, hc, MapKept.run_findKey hk hf, hz, Result.andThen]
end
abbrev fnE (n : Int) (q k : Nat) : MapEntry := { key := .int .i64 n, val := .func (.func q) #[] #[], born := k }
abbrev waysM : Obj := .map #[fnE 1 159 0, fnE 2 160 1, fnE 3 161 2] 3
abbrev kindsM : Obj := .map #[fnE 6 164 0, fnE 7 166 1] 2
theorem ways_131 (w : World) : Calls Tryz.prog 131 #[] w fun e w' => e = .returned (.map (some w.heap.size)) ∧ w'.heap[w.heap.size]? = some waysM ∧ Below w.heap.size w w' := by
 have i1 := fun W => @run_ins_new Tryz.prog 160 _ _ #[] 0 Tryz.underlying160 Tryz.underlying3 1 (.func (.func 159) #[] #[]) rfl W
 have i2 := fun W => @run_ins_new Tryz.prog 160 _ _ #[fnE 1 159 0] 1 Tryz.underlying160 Tryz.underlying3 2 (.func (.func 160) #[] #[]) rfl W
 have i3 := fun W => @run_ins_new Tryz.prog 160 _ _ #[fnE 1 159 0, fnE 2 160 1] 2 Tryz.underlying160 Tryz.underlying3 3 (.func (.func 161) #[] #[]) rfl W
 have hmm := @run_makeMap Tryz.prog
 simp only [List.push_toArray, List.nil_append, List.cons_append, Nat.reduceAdd] at i1 i2 i3
 go_enter Tryz.func131, Tryz.ntmps131
 go_wp2
 go_ret
 exact ⟨rfl, blk_any _ _, below_alloc (Below.refl _ _) _⟩
theorem kinds_139 (w : World) : Calls Tryz.prog 139 #[] w fun e w' => e = .returned (.map (some w.heap.size)) ∧ w'.heap[w.heap.size]? = some kindsM ∧ Below w.heap.size w w' := by
 have i1 := fun W => @run_ins_new Tryz.prog 171 _ _ #[] 0 Tryz.underlying171 Tryz.underlying3 6 (.func (.func 164) #[] #[]) rfl W
 have i2 := fun W => @run_ins_new Tryz.prog 171 _ _ #[fnE 6 164 0] 1 Tryz.underlying171 Tryz.underlying3 7 (.func (.func 166) #[] #[]) rfl W
 have hmm := @run_makeMap Tryz.prog
 simp only [List.push_toArray, List.nil_append, List.cons_append, Nat.reduceAdd] at i1 i2
 go_enter Tryz.func139, Tryz.ntmps139
 go_wp2
 go_ret
 exact ⟨rfl, blk_any _ _, below_alloc (Below.refl _ _) _⟩
def word_Bump.f (a0 : Int) : Option (Int × Int) := (word_Mask.f a0).bind fun t310 => ((word_Epoch.f a0).bind fun t311 => ((word_Pack.f (IntKind.u64.wrap (t311 + 1)) (Go.bits .and .u64 t310 (IntKind.u64.wrap (t310 - 1)))).bind fun t312 => ((word_Lowest.f t310).bind fun t313 => (some (t312, t313)))))
theorem word_Bump.calls (a0 : Int) (r1 : Int) (r2 : Int) (w : World) (h : word_Bump.f a0 = some (r1, r2)) :
  Calls Tryz.prog 165 #[.int .u64 a0] w fun e w' => e = .returned (.tuple #[.int .u64 r1, .int .i64 r2]) ∧ Below w.heap.size w w' := by
 have HB := qQ (Below.refl w.heap.size w)
 unfold word_Bump.f at h
 have H := h
 clear h
 replace H := Option.bind_eq_some_iff.mp H
 obtain ⟨t310, A20, H⟩ := H
 have A2 := qQ A20
 clear A20
 replace H := Option.bind_eq_some_iff.mp H
 obtain ⟨t311, A30, H⟩ := H
 have A3 := qQ A30
 clear A30
 replace H := Option.bind_eq_some_iff.mp H
 obtain ⟨t312, A40, H⟩ := H
 have A4 := qQ A40
 clear A40
 replace H := Option.bind_eq_some_iff.mp H
 obtain ⟨t313, A50, H⟩ := H
 replace H : (some (t312, t313)) = some (r1, r2) := H
 have A5 := qQ A50
 clear A50
 simp only [Option.some.injEq, Prod.mk.injEq] at H
 obtain ⟨rfl, rfl⟩ := H
 go_enter Tryz.func165, Tryz.ntmps165
 go_wp2_with (first | ((with_reducible refine gate_callee (f := 141) rfl ?_); refine goesL_ (some 6) rfl rfl Tryz.func141 (by kernel_rfl) rfl #[.int .u64 a0] rfl (by (try simp only [List.map_toArray, List.map_cons, List.map_nil]); first | done | rfl | (simp only [List.length_drop, List.length_take]; rfl)) ?_; (with_reducible refine (word_Mask.calls a0 t310 _ A2.o).mono ?_); (try clear A2); rintro e w' ⟨rfl, ⟨nd, rfl⟩⟩; refine ⟨_, rfl, ?_⟩) | ((with_reducible refine gate_callee (f := 162) rfl ?_); refine goesL_ (some 8) rfl rfl Tryz.func162 (by kernel_rfl) rfl #[.int .u64 a0] rfl (by (try simp only [List.map_toArray, List.map_cons, List.map_nil]); first | done | rfl | (simp only [List.length_drop, List.length_take]; rfl)) ?_; (with_reducible refine (word_Epoch.calls a0 t311 _ A3.o).mono ?_); (try clear A3); rintro e w' ⟨rfl, ⟨nd, rfl⟩⟩; refine ⟨_, rfl, ?_⟩) | ((with_reducible refine gate_callee (f := 184) rfl ?_); refine goesL_ (some 14) rfl rfl Tryz.func184 (by kernel_rfl) rfl #[.int .u64 (IntKind.u64.wrap (t311 + 1)), .int .u64 (Go.bits .and .u64 t310 (IntKind.u64.wrap (t310 - 1)))] rfl (by (try simp only [List.map_toArray, List.map_cons, List.map_nil]); first | done | rfl | (simp only [List.length_drop, List.length_take]; rfl)) ?_; (with_reducible refine (word_Pack.calls (IntKind.u64.wrap (t311 + 1)) (Go.bits .and .u64 t310 (IntKind.u64.wrap (t310 - 1))) t312 _ A4.o).mono ?_); (try clear A4); rintro e w' ⟨rfl, ⟨nd, rfl⟩⟩; refine ⟨_, rfl, ?_⟩) | ((with_reducible refine gate_callee (f := 144) rfl ?_); refine goesL_ (some 16) rfl rfl Tryz.func144 (by kernel_rfl) rfl #[.int .u64 t310] rfl (by (try simp only [List.map_toArray, List.map_cons, List.map_nil]); first | done | rfl | (simp only [List.length_drop, List.length_take]; rfl)) ?_; (with_reducible refine (word_Lowest.calls t310 t313 _ A5.o).mono ?_); (try clear A5); rintro e w6 ⟨rfl, hb⟩; refine ⟨_, rfl, ?_⟩; replace HB := qQ (below_step zB hb); (try clear hb); (try clear hb2); (try clear hk); (try clear hi)))
 go_ret2
 exact ⟨by first | rfl | (simp [errW_none, errW_some] <;> rfl) | (simp [*, errW_none, errW_some] <;> rfl), zB⟩
def cell_Load.f (l0 : List Int) (a1 : Int) : Option (Int) := (cell_is.f l0 a1).bind fun t246 => (if t246 = true then (if 0 ≤ a1 then (if a1 < (l0.length : Int) then (some (rd l0 a1)) else (none)) else (none)) else (some 0))
theorem cell_Load.calls (A0 : Option Addr) (c0 : Nat) (l0 : List Int) (a1 : Int) (r : Int) (w : World) (hr0 : Kd.C (Kd.int .u64) w A0 l0.length l0) (hc0 : l0.length ≤ c0) (h : cell_Load.f l0 a1 = some r) :
  Calls Tryz.prog 7 #[.slice A0 l0.length c0, .int .i64 a1] w fun e w' => e = .returned (.int .u64 r) ∧ Drawn0 w w' := by
 have HR0 := qQ hr0
 have HC0 := qQ hc0
 clear hr0 hc0
 unfold cell_Load.f at h
 have H := h
 clear h
 replace H := Option.bind_eq_some_iff.mp H
 obtain ⟨t246, A30, H⟩ := H
 have A3 := qQ A30
 clear A30
 by_cases c4 : t246 = true
 rotate_left
 case' neg =>
  replace c4 := Bool.eq_false_iff.mpr c4
  subst c4
  rw [if_neg (show ¬ (false = true) by decide)] at H
  obtain rfl := Option.some.inj H
 rotate_right
 case' pos =>
  subst c4
  rw [if_pos rfl] at H
  by_cases c5 : 0 ≤ a1
  rotate_left
  ·rw [if_neg c5] at H
   exact absurd H (by simp)
  rw [if_pos c5] at H
  have c5b0 : decide (0 ≤ a1) = true := decide_eq_true c5
  clear c5
  by_cases c6 : a1 < (l0.length : Int)
  rotate_left
  ·rw [if_neg c6] at H
   exact absurd H (by simp)
  rw [if_pos c6] at H
  have c6b0 : decide (a1 < (l0.length : Int)) = true := decide_eq_true c6
  clear c6
  obtain rfl := Option.some.inj H
 all_goals
  go_enter Tryz.func7, Tryz.ntmps7
  go_wp2_with (first | ((with_reducible refine gate_callee (f := 16) rfl ?_); refine goesL_ (some 7) rfl rfl Tryz.func16 (by kernel_rfl) rfl #[.slice A0 l0.length c0, .int .i64 a1] rfl (by (try simp only [List.map_toArray, List.map_cons, List.map_nil]); first | done | rfl | (simp only [List.length_drop, List.length_take]; rfl)) ?_; (with_reducible refine (cell_is.calls _ _ l0 a1 true _ ?side1 ?side2 A3.o).mono ?_); (try clear A3); (case side1 => repeat (first | exact HR0.o | (with_reducible refine Kd.C_alloc ?_ _) | (with_reducible refine Kd.C_drewN ?_ _) | (with_reducible refine Kd.C_drew ?_))); (case side2 => exact HC0.o); rintro e w' ⟨rfl, ⟨nd, rfl⟩⟩; refine ⟨_, rfl, ?_⟩; have p247 : 0 ≤ (a1 : Int) := of_decide_eq_true (by first | (with_reducible assumption) | assumption); have q247 : a1 < (l0.length : Int) := of_decide_eq_true (by first | (with_reducible assumption) | assumption); obtain ⟨ad247, e247, hx247_0⟩ := Kd.at_int HR0.o a1 p247 q247; cases e247; replace p247 := eq_true p247; replace q247 := eq_true q247) | ((with_reducible refine gate_callee (f := 16) rfl ?_); refine goesL_ (some 7) rfl rfl Tryz.func16 (by kernel_rfl) rfl #[.slice A0 l0.length c0, .int .i64 a1] rfl (by (try simp only [List.map_toArray, List.map_cons, List.map_nil]); first | done | rfl | (simp only [List.length_drop, List.length_take]; rfl)) ?_; (with_reducible refine (cell_is.calls _ _ l0 a1 false _ ?side1 ?side2 A3.o).mono ?_); (try clear A3); (case side1 => repeat (first | exact HR0.o | (with_reducible refine Kd.C_alloc ?_ _) | (with_reducible refine Kd.C_drewN ?_ _) | (with_reducible refine Kd.C_drew ?_))); (case side2 => exact HC0.o); rintro e w' ⟨rfl, ⟨nd, rfl⟩⟩; refine ⟨_, rfl, ?_⟩))
  go_ret
  exact ⟨by first | rfl | (simp; done) | (simp [*]; done), by repeat (first | exact Drawn0.refl _ | apply Drawn0.step)⟩
def draw_Fits.f (a0_0 : Int) (a0_1 : Int) (a0_2 : Int) (a1 : Int) (a2 : Int) : Option (Bool) := if a0_0 = 0 then ((draw_below.f a0_1 a1).bind fun t217 => (if t217 = true then (some true) else (if a0_0 = 1 then ((draw_below.f a0_1 a2).bind fun t218 => (if t218 = true then (some true) else (if a0_0 = 2 then (some true) else (some (a0_0 == 3))))) else (if a0_0 = 2 then (some true) else (some (a0_0 == 3)))))) else (if a0_0 = 1 then ((draw_below.f a0_1 a2).bind fun t219 => (if t219 = true then (some true) else (if a0_0 = 2 then (some true) else (some (a0_0 == 3))))) else (if a0_0 = 2 then (some true) else (some (a0_0 == 3))))
theorem draw_Fits.calls (a0_0 : Int) (a0_1 : Int) (a0_2 : Int) (a1 : Int) (a2 : Int) (r : Bool) (w : World) (h : draw_Fits.f a0_0 a0_1 a0_2 a1 a2 = some r) :
  Calls Tryz.prog 32 #[.agg #[.int .i64 a0_0, .int .i64 a0_1, .int .u64 a0_2], .int .i64 a1, .int .i64 a2] w fun e w' => e = .returned (.bool r) ∧ Below w.heap.size w w' := by
 have hu83 := Tryz.underlying83
 have HB := qQ (Below.refl w.heap.size w)
 unfold draw_Fits.f at h
 have H := h
 clear h
 by_cases c4 : a0_0 = 0
 rotate_left
 case' neg =>
  rw [if_neg c4] at H
  have c4b0 : (a0_0 == 0) = false := beq_eq_false_iff_ne.mpr c4
  have c4b1 : (a0_0 != 0) = true := bne_iff_ne.mpr c4
  by_cases c24 : a0_0 = 1
  rotate_left
  case' neg =>
   rw [if_neg c24] at H
   have c24b0 : (a0_0 == 1) = false := beq_eq_false_iff_ne.mpr c24
   have c24b1 : (a0_0 != 1) = true := bne_iff_ne.mpr c24
   by_cases c34 : a0_0 = 2
   rotate_left
   case' neg =>
    rw [if_neg c34] at H
    have c34b0 : (a0_0 == 2) = false := beq_eq_false_iff_ne.mpr c34
    have c34b1 : (a0_0 != 2) = true := bne_iff_ne.mpr c34
    obtain rfl := Option.some.inj H
   rotate_right
   case' pos =>
    rw [if_pos c34] at H
    have c34b0 : (a0_0 == 2) = true := beq_iff_eq.mpr c34
    have c34b1 : (a0_0 != 2) = false := bne_eq_false_iff_eq.mpr c34
    clear c34
    obtain rfl := Option.some.inj H
  rotate_right
  case' pos =>
   rw [if_pos c24] at H
   have c24b0 : (a0_0 == 1) = true := beq_iff_eq.mpr c24
   have c24b1 : (a0_0 != 1) = false := bne_eq_false_iff_eq.mpr c24
   clear c24
   replace H := Option.bind_eq_some_iff.mp H
   obtain ⟨t219, A250, H⟩ := H
   have A25 := qQ A250
   clear A250
   by_cases c26 : t219 = true
   rotate_left
   case' neg =>
    replace c26 := Bool.eq_false_iff.mpr c26
    subst c26
    rw [if_neg (show ¬ (false = true) by decide)] at H
    by_cases c29 : a0_0 = 2
    rotate_left
    case' neg =>
     rw [if_neg c29] at H
     have c29b0 : (a0_0 == 2) = false := beq_eq_false_iff_ne.mpr c29
     have c29b1 : (a0_0 != 2) = true := bne_iff_ne.mpr c29
     obtain rfl := Option.some.inj H
    rotate_right
    case' pos =>
     rw [if_pos c29] at H
     have c29b0 : (a0_0 == 2) = true := beq_iff_eq.mpr c29
     have c29b1 : (a0_0 != 2) = false := bne_eq_false_iff_eq.mpr c29
     clear c29
     obtain rfl := Option.some.inj H
   rotate_right
   case' pos =>
    subst c26
    rw [if_pos rfl] at H
    obtain rfl := Option.some.inj H
 rotate_right
 case' pos =>
  rw [if_pos c4] at H
  have c4b0 : (a0_0 == 0) = true := beq_iff_eq.mpr c4
  have c4b1 : (a0_0 != 0) = false := bne_eq_false_iff_eq.mpr c4
  clear c4
  replace H := Option.bind_eq_some_iff.mp H
  obtain ⟨t217, A50, H⟩ := H
  have A5 := qQ A50
  clear A50
  by_cases c6 : t217 = true
  rotate_left
  case' neg =>
   replace c6 := Bool.eq_false_iff.mpr c6
   subst c6
   rw [if_neg (show ¬ (false = true) by decide)] at H
   by_cases c9 : a0_0 = 1
   rotate_left
   case' neg =>
    rw [if_neg c9] at H
    have c9b0 : (a0_0 == 1) = false := beq_eq_false_iff_ne.mpr c9
    have c9b1 : (a0_0 != 1) = true := bne_iff_ne.mpr c9
    by_cases c19 : a0_0 = 2
    rotate_left
    case' neg =>
     rw [if_neg c19] at H
     have c19b0 : (a0_0 == 2) = false := beq_eq_false_iff_ne.mpr c19
     have c19b1 : (a0_0 != 2) = true := bne_iff_ne.mpr c19
     obtain rfl := Option.some.inj H
    rotate_right
    case' pos =>
     rw [if_pos c19] at H
     have c19b0 : (a0_0 == 2) = true := beq_iff_eq.mpr c19
     have c19b1 : (a0_0 != 2) = false := bne_eq_false_iff_eq.mpr c19
     clear c19
     obtain rfl := Option.some.inj H
   rotate_right
   case' pos =>
    rw [if_pos c9] at H
    have c9b0 : (a0_0 == 1) = true := beq_iff_eq.mpr c9
    have c9b1 : (a0_0 != 1) = false := bne_eq_false_iff_eq.mpr c9
    clear c9
    replace H := Option.bind_eq_some_iff.mp H
    obtain ⟨t218, A100, H⟩ := H
    have A10 := qQ A100
    clear A100
    by_cases c11 : t218 = true
    rotate_left
    case' neg =>
     replace c11 := Bool.eq_false_iff.mpr c11
     subst c11
     rw [if_neg (show ¬ (false = true) by decide)] at H
     by_cases c14 : a0_0 = 2
     rotate_left
     case' neg =>
      rw [if_neg c14] at H
      have c14b0 : (a0_0 == 2) = false := beq_eq_false_iff_ne.mpr c14
      have c14b1 : (a0_0 != 2) = true := bne_iff_ne.mpr c14
      obtain rfl := Option.some.inj H
     rotate_right
     case' pos =>
      rw [if_pos c14] at H
      have c14b0 : (a0_0 == 2) = true := beq_iff_eq.mpr c14
      have c14b1 : (a0_0 != 2) = false := bne_eq_false_iff_eq.mpr c14
      clear c14
      obtain rfl := Option.some.inj H
    rotate_right
    case' pos =>
     subst c11
     rw [if_pos rfl] at H
     obtain rfl := Option.some.inj H
  rotate_right
  case' pos =>
   subst c6
   rw [if_pos rfl] at H
   obtain rfl := Option.some.inj H
 all_goals
  go_enter Tryz.func32, Tryz.ntmps32
  go_wp2_with (first | ((with_reducible refine gate_dst (N := 3) rfl ?_); refine box_event ?hg (N := 3) ?hd (cs := #[.int .i64 a0_0, .int .i64 a0_1, .int .u64 a0_2]) (t := 83) ?hr ?_; (case hd => rfl); (case hg => rfl); (case hr => first | (go_simp; done) | (go_simp; rfl)); intro gb216 hg w1 hbox hb; have BK216 := qQ (hbox); have GW216 := qQ ((by rw [hg]; exact (below_size zB) : w.heap.size ≤ gb216)); have GE216 := qQ ((by rw [hg]; exact (below_size zB) : w.heap.size ≤ gb216)); replace HB := qQ (below_step zB hb); clear hb hbox hg; have hcz1 := blk_cell BK216.o; have hfz1 := blk_frozen BK216.o) | (go_at_call 58; (with_reducible refine (draw_below.calls a0_1 a1 false _ A5.o).mono ?_); (try clear A5); rintro e w' ⟨rfl, ⟨nd, rfl⟩⟩) | (go_at_call 58; (with_reducible refine (draw_below.calls a0_1 a2 true _ A10.o).mono ?_); (try clear A10); rintro e w' ⟨rfl, ⟨nd, rfl⟩⟩) | (go_at_call 58; (with_reducible refine (draw_below.calls a0_1 a1 true _ A5.o).mono ?_); (try clear A5); rintro e w' ⟨rfl, ⟨nd, rfl⟩⟩) | (go_at_call 58; (with_reducible refine (draw_below.calls a0_1 a2 false _ A10.o).mono ?_); (try clear A10); rintro e w' ⟨rfl, ⟨nd, rfl⟩⟩) | (go_at_call 58; (with_reducible refine (draw_below.calls a0_1 a2 true _ A25.o).mono ?_); (try clear A25); rintro e w' ⟨rfl, ⟨nd, rfl⟩⟩) | (go_at_call 58; (with_reducible refine (draw_below.calls a0_1 a2 false _ A25.o).mono ?_); (try clear A25); rintro e w' ⟨rfl, ⟨nd, rfl⟩⟩))
  go_ret
  exact ⟨by first | rfl | (simp [errW_none, errW_some] <;> rfl) | (simp [*, errW_none, errW_some] <;> rfl), zB⟩
def wait_Parked.f (a0_0 : Int) (a0_1 : Int) (a0_2 : Int) (a0_3 : Int) (a0_4 : Int) (a0_5 : Int) (a0_6 : Int) : Option (Bool) := if a0_0 = 5 then ((frame_Over.f a0_0 a0_1 a0_2 a0_3 a0_4 a0_5 a0_6).bind fun t251 => (if t251 = true then (some false) else (some (a0_1 == 3)))) else (some false)
theorem wait_Parked.calls (a0_0 : Int) (a0_1 : Int) (a0_2 : Int) (a0_3 : Int) (a0_4 : Int) (a0_5 : Int) (a0_6 : Int) (r : Bool) (w : World) (h : wait_Parked.f a0_0 a0_1 a0_2 a0_3 a0_4 a0_5 a0_6 = some r) :
  Calls Tryz.prog 70 #[.agg #[.int .i64 a0_0, .int .i64 a0_1, .int .i64 a0_2, .int .u64 a0_3, .int .u64 a0_4, .int .u64 a0_5, .int .i64 a0_6]] w fun e w' => e = .returned (.bool r) ∧ Below w.heap.size w w' := by
 have hu66 := Tryz.underlying66
 have HB := qQ (Below.refl w.heap.size w)
 unfold wait_Parked.f at h
 have H := h
 clear h
 by_cases c2 : a0_0 = 5
 rotate_left
 case' neg =>
  rw [if_neg c2] at H
  have c2b0 : (a0_0 == 5) = false := beq_eq_false_iff_ne.mpr c2
  have c2b1 : (a0_0 != 5) = true := bne_iff_ne.mpr c2
  obtain rfl := Option.some.inj H
 rotate_right
 case' pos =>
  rw [if_pos c2] at H
  have c2b0 : (a0_0 == 5) = true := beq_iff_eq.mpr c2
  have c2b1 : (a0_0 != 5) = false := bne_eq_false_iff_eq.mpr c2
  clear c2
  replace H := Option.bind_eq_some_iff.mp H
  obtain ⟨t251, A30, H⟩ := H
  have A3 := qQ A30
  clear A30
  by_cases c4 : t251 = true
  rotate_left
  case' neg =>
   replace c4 := Bool.eq_false_iff.mpr c4
   subst c4
   rw [if_neg (show ¬ (false = true) by decide)] at H
   obtain rfl := Option.some.inj H
  rotate_right
  case' pos =>
   subst c4
   rw [if_pos rfl] at H
   obtain rfl := Option.some.inj H
 all_goals
  go_enter Tryz.func70, Tryz.ntmps70
  go_wp2_with (first | ((with_reducible refine gate_dst (N := 1) rfl ?_); refine box_event ?hg (N := 1) ?hd (cs := #[.int .i64 a0_0, .int .i64 a0_1, .int .i64 a0_2, .int .u64 a0_3, .int .u64 a0_4, .int .u64 a0_5, .int .i64 a0_6]) (t := 66) ?hr ?_; (case hd => rfl); (case hg => rfl); (case hr => first | (go_simp; done) | (go_simp; rfl)); intro gb250 hg w1 hbox hb; have BK250 := qQ (hbox); have GW250 := qQ ((by rw [hg]; exact (below_size zB) : w.heap.size ≤ gb250)); have GE250 := qQ ((by rw [hg]; exact (below_size zB) : w.heap.size ≤ gb250)); replace HB := qQ (below_step zB hb); clear hb hbox hg; have hcz1 := blk_cell BK250.o; have hfz1 := blk_frozen BK250.o) | (go_at_call 96; (with_reducible refine (frame_Over.calls a0_0 a0_1 a0_2 a0_3 a0_4 a0_5 a0_6 true _ A3.o).mono ?_); (try clear A3); rintro e w2 ⟨rfl, hb⟩; replace BK250 := qQ (blk_below (g := gb250) (o := .cells #[.int .i64 a0_0, .int .i64 a0_1, .int .i64 a0_2, .int .u64 a0_3, .int .u64 a0_4, .int .u64 a0_5, .int .i64 a0_6] 66 (0, 0)) (zK BK250.o) hb); replace HB := qQ (below_step zB hb); (try clear hb); (try clear hb2); (try clear hk); (try clear hi)) | (go_at_call 96; (with_reducible refine (frame_Over.calls a0_0 a0_1 a0_2 a0_3 a0_4 a0_5 a0_6 false _ A3.o).mono ?_); (try clear A3); rintro e w2 ⟨rfl, hb⟩; replace BK250 := qQ (blk_below (g := gb250) (o := .cells #[.int .i64 a0_0, .int .i64 a0_1, .int .i64 a0_2, .int .u64 a0_3, .int .u64 a0_4, .int .u64 a0_5, .int .i64 a0_6] 66 (0, 0)) (zK BK250.o) hb); replace HB := qQ (below_step zB hb); (try clear hb); (try clear hb2); (try clear hk); (try clear hi); have hcz2 := blk_cell BK250.o; have hfz2 := blk_frozen BK250.o))
  go_ret
  exact ⟨by first | rfl | (simp [errW_none, errW_some] <;> rfl) | (simp [*, errW_none, errW_some] <;> rfl), zB⟩
def poachertop_few.f (k : Nat) (l0 : List (S45)) (l1 : List (List Int)) : Option (Bool) := (poacherlaw04_Few.f k l0).bind fun t274 => ((poacherlaw20_FewRoots.f k l1).bind fun t275 => (if t274 = true then (some t275) else (some false)))
theorem poachertop_few.calls (k : Nat) (A0 : Option Addr) (c0 : Nat) (l0 : List (S45)) (A1 : Option Addr) (c1 : Nat) (l1 : List (List Int)) (r : Bool) (w : World) (hr0 : Kd.C k45 w A0 l0.length l0) (hc0 : l0.length ≤ c0) (hr1 : Kd.C (Kd.slice 3 (Kd.int .i64)) w A1 l1.length l1) (hc1 : l1.length ≤ c1) (h : poachertop_few.f k l0 l1 = some r) :
  Calls Tryz.prog 5 #[.slice A0 l0.length c0, .slice A1 l1.length c1] w fun e w' => e = .returned (.bool r) ∧ Drawn0 w w' := by
 have HR0 := qQ hr0
 have HC0 := qQ hc0
 clear hr0 hc0
 have HR1 := qQ hr1
 have HC1 := qQ hc1
 clear hr1 hc1
 unfold poachertop_few.f at h
 have H := h
 clear h
 replace H := Option.bind_eq_some_iff.mp H
 obtain ⟨t274, A30, H⟩ := H
 have A3 := qQ A30
 clear A30
 replace H := Option.bind_eq_some_iff.mp H
 obtain ⟨t275, A40, H⟩ := H
 have A4 := qQ A40
 clear A40
 by_cases c5 : t274 = true
 rotate_left
 case' neg =>
  replace c5 := Bool.eq_false_iff.mpr c5
  subst c5
  rw [if_neg (show ¬ (false = true) by decide)] at H
  obtain rfl := Option.some.inj H
 rotate_right
 case' pos =>
  subst c5
  rw [if_pos rfl] at H
  obtain rfl := Option.some.inj H
 all_goals
  go_enter Tryz.func5, Tryz.ntmps5
  go_wp2_with (first | ((with_reducible refine gate_callee (f := 11) rfl ?_); refine goesL_ (some 8) rfl rfl Tryz.func11 (by kernel_rfl) rfl #[.slice A0 l0.length c0] rfl (by (try simp only [List.map_toArray, List.map_cons, List.map_nil]); first | done | rfl | (simp only [List.length_drop, List.length_take]; rfl)) ?_; (with_reducible refine (poacherlaw04_Few.calls k _ _ l0 true _ ?side1 ?side2 A3.o).mono ?_); (try clear A3); (case side1 => repeat (first | exact HR0.o | (with_reducible refine Kd.C_alloc ?_ _) | (with_reducible refine Kd.C_drewN ?_ _) | (with_reducible refine Kd.C_drew ?_))); (case side2 => exact HC0.o); rintro e w' ⟨rfl, ⟨nd, rfl⟩⟩; refine ⟨_, rfl, ?_⟩) | ((with_reducible refine gate_callee (f := 12) rfl ?_); refine goesL_ (some 10) rfl rfl Tryz.func12 (by kernel_rfl) rfl #[.slice A1 l1.length c1] rfl (by (try simp only [List.map_toArray, List.map_cons, List.map_nil]); first | done | rfl | (simp only [List.length_drop, List.length_take]; rfl)) ?_; (with_reducible refine (poacherlaw20_FewRoots.calls k _ _ l1 t275 _ ?side1 ?side2 A4.o).mono ?_); (try clear A4); (case side1 => repeat (first | exact HR1.o | (with_reducible refine Kd.C_alloc ?_ _) | (with_reducible refine Kd.C_drewN ?_ _) | (with_reducible refine Kd.C_drew ?_))); (case side2 => exact HC1.o); rintro e w' ⟨rfl, ⟨nd, rfl⟩⟩; refine ⟨_, rfl, ?_⟩) | ((with_reducible refine gate_callee (f := 11) rfl ?_); refine goesL_ (some 8) rfl rfl Tryz.func11 (by kernel_rfl) rfl #[.slice A0 l0.length c0] rfl (by (try simp only [List.map_toArray, List.map_cons, List.map_nil]); first | done | rfl | (simp only [List.length_drop, List.length_take]; rfl)) ?_; (with_reducible refine (poacherlaw04_Few.calls k _ _ l0 false _ ?side1 ?side2 A3.o).mono ?_); (try clear A3); (case side1 => repeat (first | exact HR0.o | (with_reducible refine Kd.C_alloc ?_ _) | (with_reducible refine Kd.C_drewN ?_ _) | (with_reducible refine Kd.C_drew ?_))); (case side2 => exact HC0.o); rintro e w' ⟨rfl, ⟨nd, rfl⟩⟩; refine ⟨_, rfl, ?_⟩))
  go_ret
  exact ⟨by first | rfl | (simp; done) | (simp [*]; done), by repeat (first | exact Drawn0.refl _ | apply Drawn0.step)⟩
def draw_Victim.f (a0 : Int) (a1 : Int) (a2 : Int) : Option (Int) := if a2 < 2 then (some (-1)) else ((draw_below.f a1 a2).bind fun t316 => (if t316 = true then (if (IntKind.u64.wrap ((IntKind.u64.wrap (a2)) - 1)) = 0 then (none) else (if (IntKind.u64.wrap (a2)) = 0 then (none) else (some (wrap64 (Int.tmod (IntKind.u64.wrap ((IntKind.u64.wrap ((IntKind.u64.wrap (a1)) + 1)) + (Int.tmod a0 (IntKind.u64.wrap ((IntKind.u64.wrap (a2)) - 1))))) (IntKind.u64.wrap (a2))))))) else (some (-1))))
theorem draw_Victim.calls (a0 : Int) (a1 : Int) (a2 : Int) (r : Int) (w : World) (h : draw_Victim.f a0 a1 a2 = some r) :
  Calls Tryz.prog 112 #[.int .u64 a0, .int .i64 a1, .int .i64 a2] w fun e w' => e = .returned (.int .i64 r) ∧ Drawn0 w w' := by
 unfold draw_Victim.f at h
 have H := h
 clear h
 by_cases c4 : a2 < 2
 rotate_left
 case' neg =>
  rw [if_neg c4] at H
  have c4b0 : decide (a2 < 2) = false := decide_eq_false c4
  clear c4
  replace H := Option.bind_eq_some_iff.mp H
  obtain ⟨t316, A50, H⟩ := H
  have A5 := qQ A50
  clear A50
  by_cases c6 : t316 = true
  rotate_left
  case' neg =>
   replace c6 := Bool.eq_false_iff.mpr c6
   subst c6
   rw [if_neg (show ¬ (false = true) by decide)] at H
   obtain rfl := Option.some.inj H
  rotate_right
  case' pos =>
   subst c6
   rw [if_pos rfl] at H
   by_cases c7 : (IntKind.u64.wrap ((IntKind.u64.wrap (a2)) - 1)) = 0
   ·rw [if_pos c7] at H
    exact absurd H (by simp)
   rw [if_neg c7] at H
   have c7b0 : ((IntKind.u64.wrap ((IntKind.u64.wrap (a2)) - 1)) == 0) = false := beq_eq_false_iff_ne.mpr c7
   have c7b1 : ((IntKind.u64.wrap ((IntKind.u64.wrap (a2)) - 1)) != 0) = true := bne_iff_ne.mpr c7
   by_cases c8 : (IntKind.u64.wrap (a2)) = 0
   ·rw [if_pos c8] at H
    exact absurd H (by simp)
   rw [if_neg c8] at H
   have c8b0 : ((IntKind.u64.wrap (a2)) == 0) = false := beq_eq_false_iff_ne.mpr c8
   have c8b1 : ((IntKind.u64.wrap (a2)) != 0) = true := bne_iff_ne.mpr c8
   obtain rfl := Option.some.inj H
 rotate_right
 case' pos =>
  rw [if_pos c4] at H
  have c4b0 : decide (a2 < 2) = true := decide_eq_true c4
  clear c4
  obtain rfl := Option.some.inj H
 all_goals
  go_enter Tryz.func112, Tryz.ntmps112
  go_wp2_with (first | (go_at_call 58; (with_reducible refine (draw_below.calls a1 a2 true _ A5.o).mono ?_); (try clear A5); rintro e w' ⟨rfl, ⟨nd, rfl⟩⟩) | (go_at_call 58; (with_reducible refine (draw_below.calls a1 a2 false _ A5.o).mono ?_); (try clear A5); rintro e w' ⟨rfl, ⟨nd, rfl⟩⟩))
  go_ret
  exact ⟨by first | rfl | (simp; done) | (simp [*]; done), by repeat (first | exact Drawn0.refl _ | apply Drawn0.step)⟩
def api_Item_57.f (l0 : List S116) : Option (List S116) := if l0.length ≤ 1000000 then some l0 else none
theorem api_Item_57.calls (A0 : Option Addr) (c0 : Nat) (l0 : List S116) (r : List S116) (w : World) (hr0 : Kd.C k116 w A0 l0.length l0) (hc0 : l0.length ≤ c0) (h : api_Item_57.f l0 = some r) :
  Calls Tryz.prog 57 #[.slice A0 l0.length c0] w fun e w' => ∃ v0_ : Value, e = .returned (v0_) ∧ Kd.R k116 116 w' w.heap.size (fun _ => True) v0_ r ∧ Below w.heap.size w w' := by
 unfold api_Item_57.f at h
 split at h
 ·obtain rfl := Option.some.inj h
  refine (clone57 A0 c0 l0 w hr0 (by assumption)).mono ?_
  rintro e w' ⟨v, he, hr, hb⟩
  exact ⟨v, he, Kd.R_imp rfl (fun _ _ _ _ _ h => h) hr, hb⟩
 ·cases h
def lay_Size.f (a0_0 : Int) (a0_1 : Int) (a0_2 : Int) (a0_3 : Int) : Option (Int) := (lay_May.f a0_0 a0_1 a0_2 a0_3).bind fun t121 => (if t121 = true then ((lay_base.f a0_0 a0_1 a0_2 a0_3 a0_0).bind fun t122 => (some t122)) else (some 0))
theorem lay_Size.calls (a0_0 : Int) (a0_1 : Int) (a0_2 : Int) (a0_3 : Int) (r : Int) (w : World) (h : lay_Size.f a0_0 a0_1 a0_2 a0_3 = some r) :
  Calls Tryz.prog 52 #[.agg #[.int .i64 a0_0, .int .i64 a0_1, .int .i64 a0_2, .int .i64 a0_3]] w fun e w' => e = .returned (.int .i64 r) ∧ Below w.heap.size w w' := by
 have hu23 := Tryz.underlying23
 have HB := qQ (Below.refl w.heap.size w)
 unfold lay_Size.f at h
 have H := h
 clear h
 replace H := Option.bind_eq_some_iff.mp H
 obtain ⟨t121, A20, H⟩ := H
 have A2 := qQ A20
 clear A20
 by_cases c3 : t121 = true
 rotate_left
 case' neg =>
  replace c3 := Bool.eq_false_iff.mpr c3
  subst c3
  rw [if_neg (show ¬ (false = true) by decide)] at H
  obtain rfl := Option.some.inj H
 rotate_right
 case' pos =>
  subst c3
  rw [if_pos rfl] at H
  replace H := Option.bind_eq_some_iff.mp H
  obtain ⟨t122, A40, H⟩ := H
  replace H : (some t122) = some r := H
  have A4 := qQ A40
  clear A40
  obtain rfl := Option.some.inj H
 all_goals
  go_enter Tryz.func52, Tryz.ntmps52
  go_wp2_with (first | ((with_reducible refine gate_dst (N := 1) rfl ?_); refine box_event ?hg (N := 1) ?hd (cs := #[.int .i64 a0_0, .int .i64 a0_1, .int .i64 a0_2, .int .i64 a0_3]) (t := 23) ?hr ?_; (case hd => rfl); (case hg => rfl); (case hr => first | (go_simp; done) | (go_simp; rfl)); intro gb120 hg w1 hbox hb; have BK120 := qQ (hbox); have GW120 := qQ ((by rw [hg]; exact (below_size zB) : w.heap.size ≤ gb120)); have GE120 := qQ ((by rw [hg]; exact (below_size zB) : w.heap.size ≤ gb120)); replace HB := qQ (below_step zB hb); clear hb hbox hg; have hcz1 := blk_cell BK120.o; have hfz1 := blk_frozen BK120.o) | ((with_reducible refine gate_callee (f := 22) rfl ?_); refine goesL_ (some 4) rfl rfl Tryz.func22 (by kernel_rfl) rfl #[.agg #[.int .i64 a0_0, .int .i64 a0_1, .int .i64 a0_2, .int .i64 a0_3]] rfl (by (try simp only [List.map_toArray, List.map_cons, List.map_nil]); first | done | rfl | (simp only [List.length_drop, List.length_take]; rfl)) ?_; (with_reducible refine (lay_May.calls a0_0 a0_1 a0_2 a0_3 true _ A2.o).mono ?_); (try clear A2); rintro e w2 ⟨rfl, hb⟩; refine ⟨_, rfl, ?_⟩; replace BK120 := qQ (blk_below (g := gb120) (o := .cells #[.int .i64 a0_0, .int .i64 a0_1, .int .i64 a0_2, .int .i64 a0_3] 23 (0, 0)) (zK BK120.o) hb); replace HB := qQ (below_step zB hb); (try clear hb); (try clear hb2); (try clear hk); (try clear hi); have hcz2 := blk_cell BK120.o; have hfz2 := blk_frozen BK120.o) | ((with_reducible refine gate_callee (f := 73) rfl ?_); refine goesL_ (some 9) rfl rfl Tryz.func73 (by kernel_rfl) rfl #[.agg #[.int .i64 a0_0, .int .i64 a0_1, .int .i64 a0_2, .int .i64 a0_3], .int .i64 a0_0] rfl (by (try simp only [List.map_toArray, List.map_cons, List.map_nil]); first | done | rfl | (simp only [List.length_drop, List.length_take]; rfl)) ?_; (with_reducible refine (lay_base.calls a0_0 a0_1 a0_2 a0_3 a0_0 t122 _ A4.o).mono ?_); (try clear A4); rintro e w3 ⟨rfl, hb⟩; refine ⟨_, rfl, ?_⟩; replace BK120 := qQ (blk_below (g := gb120) (o := .cells #[.int .i64 a0_0, .int .i64 a0_1, .int .i64 a0_2, .int .i64 a0_3] 23 (0, 0)) (zK BK120.o) hb); replace HB := qQ (below_step zB hb); (try clear hb); (try clear hb2); (try clear hk); (try clear hi)) | ((with_reducible refine gate_callee (f := 22) rfl ?_); refine goesL_ (some 4) rfl rfl Tryz.func22 (by kernel_rfl) rfl #[.agg #[.int .i64 a0_0, .int .i64 a0_1, .int .i64 a0_2, .int .i64 a0_3]] rfl (by (try simp only [List.map_toArray, List.map_cons, List.map_nil]); first | done | rfl | (simp only [List.length_drop, List.length_take]; rfl)) ?_; (with_reducible refine (lay_May.calls a0_0 a0_1 a0_2 a0_3 false _ A2.o).mono ?_); (try clear A2); rintro e w2 ⟨rfl, hb⟩; refine ⟨_, rfl, ?_⟩; replace BK120 := qQ (blk_below (g := gb120) (o := .cells #[.int .i64 a0_0, .int .i64 a0_1, .int .i64 a0_2, .int .i64 a0_3] 23 (0, 0)) (zK BK120.o) hb); replace HB := qQ (below_step zB hb); (try clear hb); (try clear hb2); (try clear hk); (try clear hi)))
  go_ret
  exact ⟨by first | rfl | (simp [errW_none, errW_some] <;> rfl) | (simp [*, errW_none, errW_some] <;> rfl), zB⟩
def submit_New.f (l0 : List Int) : Option (Int × List Int × Int × Int × Int × Int × Int × Int × Int) := (slices_Clone_int_int.f l0).bind fun t139 => (some (0, t139, 0, 0, 0, 0, 0, 0, 0))
theorem submit_New.calls (A0 : Option Addr) (c0 : Nat) (l0 : List Int) (r1 : Int) (r2 : List Int) (r3 : Int) (r4 : Int) (r5 : Int) (r6 : Int) (r7 : Int) (r8 : Int) (r9 : Int) (w : World) (hr0 : Kd.C (Kd.int .i64) w A0 l0.length l0) (hc0 : l0.length ≤ c0) (h : submit_New.f l0 = some (r1, r2, r3, r4, r5, r6, r7, r8, r9)) :
  Calls Tryz.prog 30 #[.slice A0 l0.length c0] w fun e w' => ∃ v1_ : Value, e = .returned (.agg #[.int .i64 r1, v1_, .int .i64 r3, .int .i64 r4, .int .i64 r5, .int .u64 r6, .int .u64 r7, .int .u64 r8, .int .i64 r9]) ∧ Kd.R (Kd.int .i64) 3 w' w.heap.size (fun _ => True) v1_ r2 ∧ Below w.heap.size w w' := by
 have hu68 := Tryz.underlying68
 have HR0 := qQ hr0
 have HC0 := qQ hc0
 clear hr0 hc0
 have HB := qQ (Below.refl w.heap.size w)
 unfold submit_New.f at h
 have H := h
 clear h
 replace H := Option.bind_eq_some_iff.mp H
 obtain ⟨t139, A20, H⟩ := H
 have A2 := qQ A20
 clear A20
 simp only [Option.some.injEq, Prod.mk.injEq] at H
 obtain ⟨rfl, rfl, rfl, rfl, rfl, rfl, rfl, rfl, rfl⟩ := H
 go_enter Tryz.func30, Tryz.ntmps30
 go_wp2_with (first | ((with_reducible refine gate_dst (N := 2) rfl ?_); refine box_event ?hg (N := 2) ?hd (cs := #[.int .i64 0, .slice none 0 0, .int .i64 0, .int .i64 0, .int .i64 0, .int .u64 0, .int .u64 0, .int .u64 0, .int .i64 0]) (t := 68) ?hr ?_; (case hd => rfl); (case hg => rfl); (case hr => first | (go_simp; done) | (go_simp; rfl)); intro gb138 hg w3 hbox hb; have BK138 := qQ (hbox); have GW138 := qQ ((by rw [hg]; exact (below_size zB) : w.heap.size ≤ gb138)); have GE138 := qQ ((by rw [hg]; exact (below_size zB) : w.heap.size ≤ gb138)); replace HB := qQ (below_step zB hb); clear hb hbox hg) | ((with_reducible refine gate_callee (f := 51) rfl ?_); refine goesL_ (some 4) rfl rfl Tryz.func51 (by kernel_rfl) rfl #[.slice A0 l0.length c0] rfl (by (try simp only [List.map_toArray, List.map_cons, List.map_nil]); first | done | rfl | (simp only [List.length_drop, List.length_take]; rfl)) ?_; (with_reducible refine (slices_Clone_int_int.calls _ _ l0 t139 _ ?side1 ?side2 A2.o).mono ?_); (try clear A2); (case side1 => repeat (first | exact (Kd.C_below HR0.o HB.o) | (with_reducible refine Kd.C_alloc ?_ _) | (with_reducible refine Kd.C_drewN ?_ _) | (with_reducible refine Kd.C_drew ?_))); (case side2 => exact HC0.o); rintro e w4 ⟨v140, rfl, ho0, hb⟩; refine ⟨_, rfl, ?_⟩; have HO141 := qQ (Kd.R_lower ho0 (below_size zB)); replace BK138 := qQ (blk_below (g := gb138) (o := .cells #[.int .i64 0, .slice none 0 0, .int .i64 0, .int .i64 0, .int .i64 0, .int .u64 0, .int .u64 0, .int .u64 0, .int .i64 0] 68 (0, 0)) (zK BK138.o) hb); replace HB := qQ (below_step zB hb); (try clear hb); (try clear hb2); (try clear hk); (try clear hi); (try clear ho0); obtain ⟨Ao5, co5, eo5⟩ := Kd.R_slice HO141.o; subst eo5; have hcz6 := blk_cell BK138.o; have hfz6 := blk_frozen BK138.o))
 refine bodyPost_ret (results_cell_row rfl _ _ gb138 68 #[.int .i64 0, .slice Ao5 t139.length co5, .int .i64 0, .int .i64 0, .int .i64 0, .int .u64 0, .int .u64 0, .int .u64 0, .int .i64 0] (0, 0) _ rfl (by (with_reducible repeat (first | refine blk_drewN ?_ _ | refine blk_drew ?_ | refine blk_alloc ?_ _)); refine blk_put (cs := #[.int .i64 0, .slice Ao5 t139.length co5, .int .i64 0, .int .i64 0, .int .i64 0, .int .u64 0, .int .u64 0, .int .u64 0, .int .i64 0]) ?_ 8 _ rfl; (with_reducible repeat (first | refine blk_drewN ?_ _ | refine blk_drew ?_ | refine blk_alloc ?_ _)); refine blk_put (cs := #[.int .i64 0, .slice Ao5 t139.length co5, .int .i64 0, .int .i64 0, .int .i64 0, .int .u64 0, .int .u64 0, .int .u64 0, .int .i64 0]) ?_ 7 _ rfl; (with_reducible repeat (first | refine blk_drewN ?_ _ | refine blk_drew ?_ | refine blk_alloc ?_ _)); refine blk_put (cs := #[.int .i64 0, .slice Ao5 t139.length co5, .int .i64 0, .int .i64 0, .int .i64 0, .int .u64 0, .int .u64 0, .int .u64 0, .int .i64 0]) ?_ 6 _ rfl; (with_reducible repeat (first | refine blk_drewN ?_ _ | refine blk_drew ?_ | refine blk_alloc ?_ _)); refine blk_put (cs := #[.int .i64 0, .slice Ao5 t139.length co5, .int .i64 0, .int .i64 0, .int .i64 0, .int .u64 0, .int .u64 0, .int .u64 0, .int .i64 0]) ?_ 5 _ rfl; (with_reducible repeat (first | refine blk_drewN ?_ _ | refine blk_drew ?_ | refine blk_alloc ?_ _)); refine blk_put (cs := #[.int .i64 0, .slice Ao5 t139.length co5, .int .i64 0, .int .i64 0, .int .i64 0, .int .u64 0, .int .u64 0, .int .u64 0, .int .i64 0]) ?_ 4 _ rfl; (with_reducible repeat (first | refine blk_drewN ?_ _ | refine blk_drew ?_ | refine blk_alloc ?_ _)); refine blk_put (cs := #[.int .i64 0, .slice Ao5 t139.length co5, .int .i64 0, .int .i64 0, .int .i64 0, .int .u64 0, .int .u64 0, .int .u64 0, .int .i64 0]) ?_ 3 _ rfl; (with_reducible repeat (first | refine blk_drewN ?_ _ | refine blk_drew ?_ | refine blk_alloc ?_ _)); refine blk_put (cs := #[.int .i64 0, .slice Ao5 t139.length co5, .int .i64 0, .int .i64 0, .int .i64 0, .int .u64 0, .int .u64 0, .int .u64 0, .int .i64 0]) ?_ 2 _ rfl; (with_reducible repeat (first | refine blk_drewN ?_ _ | refine blk_drew ?_ | refine blk_alloc ?_ _)); refine blk_put (cs := #[.int .i64 0, .slice none 0 0, .int .i64 0, .int .i64 0, .int .i64 0, .int .u64 0, .int .u64 0, .int .u64 0, .int .i64 0]) ?_ 1 _ rfl; (with_reducible repeat (first | refine blk_drewN ?_ _ | refine blk_drew ?_ | refine blk_alloc ?_ _)); refine blk_put (cs := #[.int .i64 0, .slice none 0 0, .int .i64 0, .int .i64 0, .int .i64 0, .int .u64 0, .int .u64 0, .int .u64 0, .int .i64 0]) ?_ 0 _ rfl; (with_reducible repeat (first | refine blk_drewN ?_ _ | refine blk_drew ?_ | refine blk_alloc ?_ _)); exact BK138.o) Tryz.underlying68 rfl (by kernel_rfl)) rfl ?_
 exact ⟨_, by first | rfl | (simp [errW_none, errW_some] <;> rfl) | (simp [*, errW_none, errW_some] <;> rfl), by (with_reducible repeat (first | apply Kd.R_alloc | apply Kd.R_drewN | apply Kd.R_drew)); exact Kd.R_mono (Kd.R_far (p := ⟨gb138, 8, none⟩) (Kd.R_far (p := ⟨gb138, 7, none⟩) (Kd.R_far (p := ⟨gb138, 6, none⟩) (Kd.R_far (p := ⟨gb138, 5, none⟩) (Kd.R_far (p := ⟨gb138, 4, none⟩) (Kd.R_far (p := ⟨gb138, 3, none⟩) (Kd.R_far (p := ⟨gb138, 2, none⟩) (Kd.R_far (p := ⟨gb138, 1, none⟩) (Kd.R_far (p := ⟨gb138, 0, none⟩) (Kd.R_types HO141.o BK138.o (by decide)) (fun _ hk => hk.2) (.int .i64 0)) (fun _ hk => hk.2) (.slice Ao5 t139.length co5)) (fun _ hk => hk.2) (.int .i64 0)) (fun _ hk => hk.2) (.int .i64 0)) (fun _ hk => hk.2) (.int .i64 0)) (fun _ hk => hk.2) (.int .u64 0)) (fun _ hk => hk.2) (.int .u64 0)) (fun _ hk => hk.2) (.int .u64 0)) (fun _ hk => hk.2) (.int .i64 0)) (fun _ hk => trivial), zB⟩
def inB (n m : Int) : Bool := decide (0 ≤ n) && decide (n ≤ m)
theorem in_126 (n m : Int) (w : World) : Calls Tryz.prog 126 #[.int .i64 n, .int .i64 m] w fun e w' => e = .returned (.bool (inB n m)) ∧ Below w.heap.size w w' := by
 refine (think_in.calls n m (inB n m) w ?_).mono ?_
 ·unfold think_in.f inB; split <;> rename_i h <;> simp [h]
 ·rintro e w' ⟨rfl, ⟨k, rfl⟩⟩; exact ⟨rfl, pw_below_drewN (Below.refl _ _) k⟩
def badI (t : List S45) (x : S116) : Bool := !(inB x.f0 ((t.length : Int) - 1)) || (!(inB x.f1 (rd_T45 t x.f0).f0) || !(inB x.f2 (rd_T45 t x.f0).f1.length) || (decide (x.f1 < (rd_T45 t x.f0).f0) && decide (x.f2 > 0)))
theorem bad_125 (A : Option Addr) (ct : Nat) (t : List S45) (bl : Nat) (x : S116) (w : World) (hC : Kd.C k45 w A t.length t) (hn : t.length ≤ 1000000) (hb : w.cell? ⟨bl, 0, none⟩ = some (.slice A t.length ct)) :
  Calls Tryz.prog 125 #[.agg #[.int .i64 x.f0, .int .i64 x.f1, .int .i64 x.f2], .pointer (some ⟨bl, 0, none⟩)] w fun e w' => e = .returned (.bool (badI t x)) ∧ Below w.heap.size w w' := by
 have hu116 := Tryz.underlying116
 have hu45 := Tryz.underlying45
 have HB0 := qQ ((Below.refl w.heap.size w).alloc (Nat.le_refl _) (.cells #[.int .i64 x.f0, .int .i64 x.f1, .int .i64 x.f2] 116))
 have x0 : (w.alloc (.cells #[.int .i64 x.f0, .int .i64 x.f1, .int .i64 x.f2] 116)).cell? ⟨w.heap.size, 0, none⟩ = some (.int .i64 x.f0) := by simp
 have x1 : (w.alloc (.cells #[.int .i64 x.f0, .int .i64 x.f1, .int .i64 x.f2] 116)).cell? ⟨w.heap.size, 1, none⟩ = some (.int .i64 x.f1) := by simp
 have x2 : (w.alloc (.cells #[.int .i64 x.f0, .int .i64 x.f1, .int .i64 x.f2] 116)).cell? ⟨w.heap.size, 2, none⟩ = some (.int .i64 x.f2) := by simp
 have xb := Tryz.cell_alloc_l (.cells #[.int .i64 x.f0, .int .i64 x.f1, .int .i64 x.f2] 116) hb
 have HCC := qQ (Kd.C_below hC HB0.o)
 clear hC hb
 go_enter Tryz.func125, Tryz.ntmps125
 cases h0 : inB x.f0 ((t.length : Int) - 1)
 ·go_wp2_with (go_at_call 126; (with_reducible refine (in_126 _ _ _).mono ?_); rintro e w1 ⟨rfl, hb⟩; rw [h0]; have HB1 := qQ hb; clear hb)
  go_ret
  exact ⟨by simp [badI, h0], HB0.o.trans (HB1.o.mono HB0.o.size)⟩
 ·have hx0 : 0 ≤ x.f0 ∧ x.f0 < (t.length : Int) := by simp only [inB, Bool.and_eq_true, decide_eq_true_eq] at h0; omega
  obtain ⟨p0, p1⟩ := hx0
  obtain ⟨ad, A1, c1, e0, t0, t1, hl1, hc1⟩ := at_T45 HCC.o x.f0 p0 p1
  cases e0
  generalize hown : rd_T45 t x.f0 = own at *
  have HD := qQ hown
  have HL1 := qQ hl1
  clear hown hl1 hc1 HCC
  replace p0 := eq_true p0
  replace p1 := eq_true p1
  go_wp2_with (go_at_call 126; (with_reducible refine (in_126 _ _ _).mono ?_); rintro e w1 ⟨rfl, hb⟩; rw [h0]; have H0 := qQ h0; clear h0; have x0 := cell_below x0 hb; have x1 := cell_below x1 hb; have x2 := cell_below x2 hb; have xb := cell_below xb hb; have t0 := cell_below t0 hb; have t1 := cell_below t1 hb; have HB1 := qQ (HB0.o.trans (hb.mono HB0.o.size)); clear hb; have y0 : (w1.alloc (.cells #[.int .i64 own.f0, .slice A1 own.f1.length c1] 45)).cell? ⟨w1.heap.size, 0, none⟩ = some (.int .i64 own.f0) := (by simp); have y1 : (w1.alloc (.cells #[.int .i64 own.f0, .slice A1 own.f1.length c1] 45)).cell? ⟨w1.heap.size, 1, none⟩ = some (.slice A1 own.f1.length c1) := (by simp); have HB2 := qQ (HB1.o.alloc HB1.o.size (.cells #[.int .i64 own.f0, .slice A1 own.f1.length c1] 45)); have x0 := Tryz.cell_alloc_l (.cells #[.int .i64 own.f0, .slice A1 own.f1.length c1] 45) x0; have x1 := Tryz.cell_alloc_l (.cells #[.int .i64 own.f0, .slice A1 own.f1.length c1] 45) x1; have x2 := Tryz.cell_alloc_l (.cells #[.int .i64 own.f0, .slice A1 own.f1.length c1] 45) x2)
  clear HB0 HB1 t0 t1 xb
  cases h1 : inB x.f1 own.f0
  ·go_wp2_with (go_at_call 126; (with_reducible refine (in_126 _ _ _).mono ?_); rintro e w9 ⟨rfl, hb⟩; (first | rw [h1] | rw [h2]); replace x0 := cell_below x0 hb; replace x1 := cell_below x1 hb; replace x2 := cell_below x2 hb; replace y0 := cell_below y0 hb; replace y1 := cell_below y1 hb; replace HB2 := qQ (HB2.o.trans (hb.mono HB2.o.size)); clear hb)
   go_ret
   exact ⟨by simp [badI, HD.o, h1], HB2.o⟩
  ·cases h2 : inB x.f2 (own.f1.length : Int)
   ·go_wp2_with (go_at_call 126; (with_reducible refine (in_126 _ _ _).mono ?_); rintro e w9 ⟨rfl, hb⟩; (first | rw [h1] | rw [h2]); replace x0 := cell_below x0 hb; replace x1 := cell_below x1 hb; replace x2 := cell_below x2 hb; replace y0 := cell_below y0 hb; replace y1 := cell_below y1 hb; replace HB2 := qQ (HB2.o.trans (hb.mono HB2.o.size)); clear hb)
    go_ret
    exact ⟨by simp [badI, HD.o, h1, h2], HB2.o⟩
   ·by_cases h3 : x.f1 < own.f0
    ·have d3 : decide (x.f1 < own.f0) = true := decide_eq_true h3
     by_cases h4 : x.f2 > 0
     ·have d4 : decide (0 < x.f2) = true := decide_eq_true h4
      clear h3 h4
      go_wp2_with (go_at_call 126; (with_reducible refine (in_126 _ _ _).mono ?_); rintro e w9 ⟨rfl, hb⟩; (first | rw [h1] | rw [h2]); replace x0 := cell_below x0 hb; replace x1 := cell_below x1 hb; replace x2 := cell_below x2 hb; replace y0 := cell_below y0 hb; replace y1 := cell_below y1 hb; replace HB2 := qQ (HB2.o.trans (hb.mono HB2.o.size)); clear hb)
      go_ret
      exact ⟨by simp only [badI, HD.o, h1, h2, d3, gt_iff_lt, d4]; simp, HB2.o⟩
     ·have d4 : decide (0 < x.f2) = false := decide_eq_false h4
      have h0' : inB x.f0 ((t.length : Int) - 1) = true := H0.o
      clear h3 h4
      go_wp2_with (go_at_call 126; (with_reducible refine (in_126 _ _ _).mono ?_); rintro e w9 ⟨rfl, hb⟩; (first | rw [h1] | rw [h2]); replace x0 := cell_below x0 hb; replace x1 := cell_below x1 hb; replace x2 := cell_below x2 hb; replace y0 := cell_below y0 hb; replace y1 := cell_below y1 hb; replace HB2 := qQ (HB2.o.trans (hb.mono HB2.o.size)); clear hb)
      go_ret
      exact ⟨by simp only [badI, HD.o, h1, h2, d3, gt_iff_lt, d4, h0']; simp, HB2.o⟩
    ·have d3 : decide (x.f1 < own.f0) = false := decide_eq_false h3
     have h0' : inB x.f0 ((t.length : Int) - 1) = true := H0.o
     clear h3
     go_wp2_with (go_at_call 126; (with_reducible refine (in_126 _ _ _).mono ?_); rintro e w9 ⟨rfl, hb⟩; (first | rw [h1] | rw [h2]); replace x0 := cell_below x0 hb; replace x1 := cell_below x1 hb; replace x2 := cell_below x2 hb; replace y0 := cell_below y0 hb; replace y1 := cell_below y1 hb; replace HB2 := qQ (HB2.o.trans (hb.mono HB2.o.size)); clear hb)
     go_ret
     exact ⟨by simp only [badI, HD.o, h1, h2, d3, h0']; simp, HB2.o⟩
def thinkB (ok : Bool) (t : List S45) (s : List S116) : Bool := ok && !(s.any (badI t))
theorem think_106 (A : Option Addr) (ct : Nat) (t : List S45) (As : Option Addr) (cs_ : Nat) (s : List S116) (ok : Bool) (w : World) (hC : Kd.C k45 w A t.length t) (hn : t.length ≤ 1000000) (hs : Kd.C k116 w As s.length s) (hsn : s.length ≤ 1000000)
  (hok : ∀ W, Below w.heap.size w W → Calls Tryz.prog 23 #[.slice A t.length ct] W fun e W' => e = .returned (.bool ok) ∧ Below W.heap.size W W') :
  Calls Tryz.prog 106 #[.slice A t.length ct, .slice As s.length cs_] w fun e w' => e = .returned (.bool (thinkB ok t s)) ∧ Below w.heap.size w w' := by
 have HB0 := qQ ((Below.refl w.heap.size w).alloc (Nat.le_refl _) (.cells #[.slice A t.length ct] 24))
 have xb : (w.alloc (.cells #[.slice A t.length ct] 24)).cell? ⟨w.heap.size, 0, none⟩ = some (.slice A t.length ct) := by simp
 have HC := qQ hC
 have HS := qQ hs
 have HOK := qQ (hok _ HB0.o)
 have een := fun args W => enters_of Tryz.func125 (by kernel_rfl) rfl args W
 clear hC hs hok
 go_enter Tryz.func106, Tryz.ntmps106
 cases h0 : ok
 ·subst h0
  go_wp2_with (go_at_call 23; (with_reducible refine HOK.o.mono ?_); rintro e w1 ⟨rfl, hb⟩; have HB1 := qQ (HB0.o.trans (hb.mono HB0.o.size)); clear hb)
  go_ret
  exact ⟨by simp [thinkB], HB1.o⟩
 ·subst h0
  go_wp2_with (first | (go_at_call 23; (with_reducible refine HOK.o.mono ?_); rintro e w1 ⟨rfl, hb⟩; have HB1 := qQ (HB0.o.trans (hb.mono HB0.o.size)); replace xb := cell_below xb hb; clear hb) | (go_at_call 124; (with_reducible refine (contains_116c As cs_ s 125 (.pointer (some ⟨w.heap.size, 0, none⟩)) (badI t) _ (Kd.C_below HS.o HB1.o) hsn (enters_of Tryz.func125 (by kernel_rfl) rfl) (fun x _ W hW => bad_125 A ct t w.heap.size x W (Kd.C_below HC.o (HB1.o.trans (hW.mono HB1.o.size))) hn (cell_below xb hW))).mono ?_); rintro e w2 ⟨rfl, hb⟩; have HB2 := qQ (HB1.o.trans (hb.mono HB1.o.size)); clear hb))
  go_ret
  exact ⟨by simp [thinkB], HB2.o⟩
end Go.Proofs.YthoeodjgfelkhaaGreat.QT
