/- The walks of functions of the translation: each call returns what the plain function beside it says. -/
import Derived.Test.YtchbnlcalcmdlaaPBoxx0
namespace Go.Proofs.Ytchbnlcalcmdlaa.PBox
open Go.RowKit Go.Proofs.YtchbnlcalcmdlaaW.PrintWords Go.Proofs.YtchbnlcalcmdlaaW.PrintLast Go.Proofs.YtchbnlcalcmdlaaW.PrintMore Go.Proofs.Ytchbnlcalcmdlaa.Aid
attribute [local go_sem] max2_int min2_int max_two min_two max_three min_three max_four min_four aid_str_gtr   -- for this text's walks alone
set_option linter.unusedVariables false
set_option linter.unusedSimpArgs false

/-! ### kerbsuitedata_Long: function 10 -/
def kerbsuitedata_Long.f (a0 : Int) : Option (Int) := some (Go.bits .or .u64 72057594037927936 (IntKind.u64.wrap (wrap64 (1 + a0))))
set_option maxHeartbeats 8000000 in
set_option maxRecDepth 100000 in
theorem kerbsuitedata_Long.calls (a0 : Int) (r : Int) (w : World) (h : kerbsuitedata_Long.f a0 = some r) :
  Calls Try.prog 10 #[.int .i64 a0] w fun e w' => e = .returned (.int .u64 r) ∧ Drawn0 w w' := by
 have H : (some (Go.bits .or .u64 72057594037927936 (IntKind.u64.wrap (wrap64 (1 + a0))))) = some r := h
 clear h
 obtain rfl := Option.some.inj H
 go_enter Try.func10, Try.ntmps10
 go_wp2
 go_ret
 exact ⟨by first | rfl | (simp; done) | (simp [*]; done), by repeat (first | exact Drawn0.refl _ | apply Drawn0.step)⟩

/-! ### box_isKind: function 21 -/
def box_isKind.f (a0 : Int) : Option (Bool) := if a0 ≥ 1 then (some (decide (a0 ≤ 10))) else (some false)
set_option maxHeartbeats 8000000 in
set_option maxRecDepth 100000 in
theorem box_isKind.calls (a0 : Int) (r : Bool) (w : World) (h : box_isKind.f a0 = some r) :
  Calls Try.prog 21 #[.int .i64 a0] w fun e w' => e = .returned (.bool r) ∧ Drawn0 w w' := by
 have H : (if a0 ≥ 1 then (some (decide (a0 ≤ 10))) else (some false)) = some r := h
 clear h
 by_cases c2 : a0 ≥ 1
 ·rw [if_pos c2] at H
  have c2b0 : decide (1 ≤ a0) = true := decide_eq_true c2
  clear c2
  obtain rfl := Option.some.inj H
  go_enter Try.func21, Try.ntmps21
  go_wp2
  go_ret
  exact ⟨by first | rfl | (simp; done) | (simp [*]; done), by repeat (first | exact Drawn0.refl _ | apply Drawn0.step)⟩
 ·rw [if_neg c2] at H
  have c2b0 : decide (1 ≤ a0) = false := decide_eq_false c2
  clear c2
  obtain rfl := Option.some.inj H
  go_enter Try.func21, Try.ntmps21
  go_wp2
  go_ret
  exact ⟨by first | rfl | (simp; done) | (simp [*]; done), by repeat (first | exact Drawn0.refl _ | apply Drawn0.step)⟩

/-! ### key_Make: function 32 -/
def key_Make.f (a0 : Int) (a1 : Int) : Option (Int) := if a0 = 1 then (if a1 < 1 then (some 0) else (if a1 > 4294967295 then (some 0) else (some (Go.bits .or .u64 (IntKind.u64.wrap ((IntKind.u64.wrap (a0)) * 72057594037927936)) (IntKind.u64.wrap (a1)))))) else (if a0 = 2 then (if a1 < 1 then (some 0) else (if a1 > 4294967295 then (some 0) else (some (Go.bits .or .u64 (IntKind.u64.wrap ((IntKind.u64.wrap (a0)) * 72057594037927936)) (IntKind.u64.wrap (a1)))))) else (some 0))
set_option maxHeartbeats 8000000 in
set_option maxRecDepth 100000 in
theorem key_Make.calls (a0 : Int) (a1 : Int) (r : Int) (w : World) (h : key_Make.f a0 a1 = some r) :
  Calls Try.prog 32 #[.int .i64 a0, .int .i64 a1] w fun e w' => e = .returned (.int .u64 r) ∧ Drawn0 w w' := by
 have H : (if a0 = 1 then (if a1 < 1 then (some 0) else (if a1 > 4294967295 then (some 0) else (some (Go.bits .or .u64 (IntKind.u64.wrap ((IntKind.u64.wrap (a0)) * 72057594037927936)) (IntKind.u64.wrap (a1)))))) else (if a0 = 2 then (if a1 < 1 then (some 0) else (if a1 > 4294967295 then (some 0) else (some (Go.bits .or .u64 (IntKind.u64.wrap ((IntKind.u64.wrap (a0)) * 72057594037927936)) (IntKind.u64.wrap (a1)))))) else (some 0))) = some r := h
 clear h
 by_cases c3 : a0 = 1
 ·rw [if_pos c3] at H
  have c3b0 : (a0 == 1) = true := beq_iff_eq.mpr c3
  have c3b1 : (a0 != 1) = false := bne_eq_false_iff_eq.mpr c3
  clear c3
  by_cases c4 : a1 < 1
  ·rw [if_pos c4] at H
   have c4b0 : decide (a1 < 1) = true := decide_eq_true c4
   clear c4
   obtain rfl := Option.some.inj H
   go_enter Try.func32, Try.ntmps32
   go_wp2
   go_ret
   exact ⟨by first | rfl | (simp; done) | (simp [*]; done), by repeat (first | exact Drawn0.refl _ | apply Drawn0.step)⟩
  ·rw [if_neg c4] at H
   have c4b0 : decide (a1 < 1) = false := decide_eq_false c4
   clear c4
   by_cases c5 : a1 > 4294967295
   ·rw [if_pos c5] at H
    have c5b0 : decide (4294967295 < a1) = true := decide_eq_true c5
    clear c5
    obtain rfl := Option.some.inj H
    go_enter Try.func32, Try.ntmps32
    go_wp2
    go_ret
    exact ⟨by first | rfl | (simp; done) | (simp [*]; done), by repeat (first | exact Drawn0.refl _ | apply Drawn0.step)⟩
   ·rw [if_neg c5] at H
    have c5b0 : decide (4294967295 < a1) = false := decide_eq_false c5
    clear c5
    obtain rfl := Option.some.inj H
    go_enter Try.func32, Try.ntmps32
    go_wp2
    go_ret
    exact ⟨by first | rfl | (simp; done) | (simp [*]; done), by repeat (first | exact Drawn0.refl _ | apply Drawn0.step)⟩
 ·rw [if_neg c3] at H
  have c3b0 : (a0 == 1) = false := beq_eq_false_iff_ne.mpr c3
  have c3b1 : (a0 != 1) = true := bne_iff_ne.mpr c3
  by_cases c6 : a0 = 2
  ·rw [if_pos c6] at H
   have c6b0 : (a0 == 2) = true := beq_iff_eq.mpr c6
   have c6b1 : (a0 != 2) = false := bne_eq_false_iff_eq.mpr c6
   clear c6
   by_cases c7 : a1 < 1
   ·rw [if_pos c7] at H
    have c7b0 : decide (a1 < 1) = true := decide_eq_true c7
    clear c7
    obtain rfl := Option.some.inj H
    go_enter Try.func32, Try.ntmps32
    go_wp2
    go_ret
    exact ⟨by first | rfl | (simp; done) | (simp [*]; done), by repeat (first | exact Drawn0.refl _ | apply Drawn0.step)⟩
   ·rw [if_neg c7] at H
    have c7b0 : decide (a1 < 1) = false := decide_eq_false c7
    clear c7
    by_cases c8 : a1 > 4294967295
    ·rw [if_pos c8] at H
     have c8b0 : decide (4294967295 < a1) = true := decide_eq_true c8
     clear c8
     obtain rfl := Option.some.inj H
     go_enter Try.func32, Try.ntmps32
     go_wp2
     go_ret
     exact ⟨by first | rfl | (simp; done) | (simp [*]; done), by repeat (first | exact Drawn0.refl _ | apply Drawn0.step)⟩
    ·rw [if_neg c8] at H
     have c8b0 : decide (4294967295 < a1) = false := decide_eq_false c8
     clear c8
     obtain rfl := Option.some.inj H
     go_enter Try.func32, Try.ntmps32
     go_wp2
     go_ret
     exact ⟨by first | rfl | (simp; done) | (simp [*]; done), by repeat (first | exact Drawn0.refl _ | apply Drawn0.step)⟩
  ·rw [if_neg c6] at H
   have c6b0 : (a0 == 2) = false := beq_eq_false_iff_ne.mpr c6
   have c6b1 : (a0 != 2) = true := bne_iff_ne.mpr c6
   obtain rfl := Option.some.inj H
   go_enter Try.func32, Try.ntmps32
   go_wp2
   go_ret
   exact ⟨by first | rfl | (simp; done) | (simp [*]; done), by repeat (first | exact Drawn0.refl _ | apply Drawn0.step)⟩

/-! ### key_split: function 31 -/
def key_split.f (a0 : Int) : Option (Int × Int) := if a0 = 0 then (some (0, 0)) else ((key_Make.f (wrap64 (a0 / 72057594037927936)) (wrap64 (Go.bits .and .u64 a0 72057594037927935))).bind fun t101 => (if t101 = a0 then (some (wrap64 (a0 / 72057594037927936), wrap64 (Go.bits .and .u64 a0 72057594037927935))) else (some (0, 0))))
set_option maxHeartbeats 8000000 in
set_option maxRecDepth 100000 in
theorem key_split.calls (a0 : Int) (r1 : Int) (r2 : Int) (w : World) (h : key_split.f a0 = some (r1, r2)) :
  Calls Try.prog 31 #[.int .u64 a0] w fun e w' => e = .returned (.tuple #[.int .i64 r1, .int .i64 r2]) ∧ Drawn0 w w' := by
 have H : (if a0 = 0 then (some (0, 0)) else ((key_Make.f (wrap64 (a0 / 72057594037927936)) (wrap64 (Go.bits .and .u64 a0 72057594037927935))).bind fun t101 => (if t101 = a0 then (some (wrap64 (a0 / 72057594037927936), wrap64 (Go.bits .and .u64 a0 72057594037927935))) else (some (0, 0))))) = some (r1, r2) := h
 clear h
 by_cases c2 : a0 = 0
 ·rw [if_pos c2] at H
  have c2b0 : (a0 == 0) = true := beq_iff_eq.mpr c2
  have c2b1 : (a0 != 0) = false := bne_eq_false_iff_eq.mpr c2
  clear c2
  simp only [Option.some.injEq, Prod.mk.injEq] at H
  obtain ⟨rfl, rfl⟩ := H
  go_enter Try.func31, Try.ntmps31
  go_wp2
  go_ret2
  exact ⟨by first | rfl | (simp; done) | (simp [*]; done), by repeat (first | exact Drawn0.refl _ | apply Drawn0.step)⟩
 ·rw [if_neg c2] at H
  have c2b0 : (a0 == 0) = false := beq_eq_false_iff_ne.mpr c2
  have c2b1 : (a0 != 0) = true := bne_iff_ne.mpr c2
  replace H := Option.bind_eq_some_iff.mp H
  obtain ⟨t101, A30, H⟩ := H
  replace H : (if t101 = a0 then (some (wrap64 (a0 / 72057594037927936), wrap64 (Go.bits .and .u64 a0 72057594037927935))) else (some (0, 0))) = some (r1, r2) := H
  have A3 := Aside0.mk A30
  clear A30
  by_cases c4 : t101 = a0
  ·rw [if_pos c4] at H
   have c4b0 : (t101 == a0) = true := beq_iff_eq.mpr c4
   have c4b1 : (t101 != a0) = false := bne_eq_false_iff_eq.mpr c4
   clear c4
   simp only [Option.some.injEq, Prod.mk.injEq] at H
   obtain ⟨rfl, rfl⟩ := H
   go_enter Try.func31, Try.ntmps31
   go_wp2_with (first | (go_at_call 32; (with_reducible refine (key_Make.calls (wrap64 (a0 / 72057594037927936)) (wrap64 (Go.bits .and .u64 a0 72057594037927935)) t101 _ A3.out).mono ?_); rintro e w' ⟨rfl, ⟨nd, rfl⟩⟩))
   go_ret2
   exact ⟨by first | rfl | (simp; done) | (simp [*]; done), by repeat (first | exact Drawn0.refl _ | apply Drawn0.step)⟩
  ·rw [if_neg c4] at H
   have c4b0 : (t101 == a0) = false := beq_eq_false_iff_ne.mpr c4
   have c4b1 : (t101 != a0) = true := bne_iff_ne.mpr c4
   simp only [Option.some.injEq, Prod.mk.injEq] at H
   obtain ⟨rfl, rfl⟩ := H
   go_enter Try.func31, Try.ntmps31
   go_wp2_with (first | (go_at_call 32; (with_reducible refine (key_Make.calls (wrap64 (a0 / 72057594037927936)) (wrap64 (Go.bits .and .u64 a0 72057594037927935)) t101 _ A3.out).mono ?_); rintro e w' ⟨rfl, ⟨nd, rfl⟩⟩))
   go_ret2
   exact ⟨by first | rfl | (simp; done) | (simp [*]; done), by repeat (first | exact Drawn0.refl _ | apply Drawn0.step)⟩

/-! ### key_Class: function 29 -/
def key_Class.f (a0 : Int) : Option (Int) := (key_split.f a0).bind fun bt102 => (some bt102.1)
set_option maxHeartbeats 8000000 in
set_option maxRecDepth 100000 in
theorem key_Class.calls (a0 : Int) (r : Int) (w : World) (h : key_Class.f a0 = some r) :
  Calls Try.prog 29 #[.int .u64 a0] w fun e w' => e = .returned (.int .i64 r) ∧ Drawn0 w w' := by
 have H : ((key_split.f a0).bind fun bt102 => (some bt102.1)) = some r := h
 clear h
 replace H := Option.bind_eq_some_iff.mp H
 obtain ⟨⟨t102, t103⟩, A20, H⟩ := H
 replace H : (some t102) = some r := H
 have A2 := Aside0.mk A20
 clear A20
 obtain rfl := Option.some.inj H
 go_enter Try.func29, Try.ntmps29
 go_wp2_with (first | ((with_reducible refine gate_callee (f := 31) rfl ?_); refine goesL_ (some 7) rfl rfl Try.func31 (by kernel_rfl) rfl #[.int .u64 a0] rfl (by (try simp only [List.map_toArray, List.map_cons, List.map_nil]); first | done | rfl | (simp only [List.length_drop, List.length_take]; rfl)) ?_; (with_reducible refine (key_split.calls a0 t102 t103 _ A2.out).mono ?_); rintro e w' ⟨rfl, ⟨nd, rfl⟩⟩; refine ⟨_, rfl, ?_⟩))
 go_ret
 exact ⟨by first | rfl | (simp; done) | (simp [*]; done), by repeat (first | exact Drawn0.refl _ | apply Drawn0.step)⟩

/-! ### key_Valid: function 22 -/
def key_Valid.f (a0 : Int) : Option (Bool) := (key_Class.f a0).bind fun t104 => (some (t104 != 0))
set_option maxHeartbeats 8000000 in
set_option maxRecDepth 100000 in
theorem key_Valid.calls (a0 : Int) (r : Bool) (w : World) (h : key_Valid.f a0 = some r) :
  Calls Try.prog 22 #[.int .u64 a0] w fun e w' => e = .returned (.bool r) ∧ Drawn0 w w' := by
 have H : ((key_Class.f a0).bind fun t104 => (some (t104 != 0))) = some r := h
 clear h
 replace H := Option.bind_eq_some_iff.mp H
 obtain ⟨t104, A20, H⟩ := H
 replace H : (some (t104 != 0)) = some r := H
 have A2 := Aside0.mk A20
 clear A20
 obtain rfl := Option.some.inj H
 go_enter Try.func22, Try.ntmps22
 go_wp2_with (first | ((with_reducible refine gate_callee (f := 29) rfl ?_); refine goesL_ (some 4) rfl rfl Try.func29 (by kernel_rfl) rfl #[.int .u64 a0] rfl (by (try simp only [List.map_toArray, List.map_cons, List.map_nil]); first | done | rfl | (simp only [List.length_drop, List.length_take]; rfl)) ?_; (with_reducible refine (key_Class.calls a0 t104 _ A2.out).mono ?_); rintro e w' ⟨rfl, ⟨nd, rfl⟩⟩; refine ⟨_, rfl, ?_⟩))
 go_ret
 exact ⟨by first | rfl | (simp; done) | (simp [*]; done), by repeat (first | exact Drawn0.refl _ | apply Drawn0.step)⟩

/-! ### key_Bytes: function 23 -/
def key_Bytes.l0 : Nat → Int → List Int → Int → Int → Option (List Int)
 | 0, _, _, _, _ => none
 | k + 1, x0, x3, x7, x8 => if x8 < x7 then (if 0 ≤ (wrap64 (56 - (wrap64 (8 * x8)))) then (if 0 ≤ x8 then (if x8 < (x3.length : Int) then (key_Bytes.l0 k x0 (x3.set (x8 : Int).toNat ((shr .u64 x0 (wrap64 (56 - (wrap64 (8 * x8))))) % 256)) x7 (wrap64 (x8 + 1))) else (none)) else (none)) else (none)) else (some x3)
def key_Bytes.f (k : Nat) (a0 : Int) : Option (List Int) := if 8 ≤ 281474976710656 then ((some (List.replicate 8 0 : List Int)).bind fun y105 => (key_Bytes.l0 k a0 y105 (y105.length : Int) 0)) else (none)
theorem key_Bytes.mono_l : ∀ k, (∀ y0 y1 y2 y3, LeO (key_Bytes.l0 k y0 y1 y2 y3) (key_Bytes.l0 (k + 1) y0 y1 y2 y3))
 | 0 => fun _ _ _ _ r h => by simp [key_Bytes.l0] at h
 | k + 1 => by
  have ih0 := key_Bytes.mono_l k
  ·intro y0 y1 y2 y3
   unfold key_Bytes.l0
   repeat' first
   | (with_reducible exact ih0 _ _ _ _)
   | (with_reducible exact LeO.refl _)
   | (with_reducible exact LeO.none _)
   | (with_reducible refine LeO.ite ?_ ?_)
   | (with_reducible refine LeO.bind ?_ (fun _ => ?_))
   | exact ih0 _ _ _ _
   | exact LeO.none _
   | refine LeO.ite ?_ ?_
   | refine LeO.bind ?_ (fun _ => ?_)
theorem key_Bytes.mono : ∀ a0 k, LeO (key_Bytes.f k a0) (key_Bytes.f (k + 1) a0) := by
 intro a0 k
 have ih0 := key_Bytes.mono_l k
 unfold key_Bytes.f
 repeat' first
   | (with_reducible exact ih0 _ _ _ _)
   | (with_reducible exact LeO.refl _)
   | (with_reducible exact LeO.none _)
   | (with_reducible refine LeO.ite ?_ ?_)
   | (with_reducible refine LeO.bind ?_ (fun _ => ?_))
   | exact ih0 _ _ _ _
   | exact LeO.none _
   | refine LeO.ite ?_ ?_
   | refine LeO.bind ?_ (fun _ => ?_)
set_option maxHeartbeats 8000000 in
set_option maxRecDepth 100000 in
theorem key_Bytes.calls (k : Nat) (a0 : Int) (r : List Int) (w : World) (h : key_Bytes.f k a0 = some r) :
  Calls Try.prog 23 #[.int .u64 a0] w fun e w' => ∃ v0_ : Value, e = .returned (v0_) ∧ Kd.R (Kd.int .u8) 5 w' w.heap.size (fun _ => True) v0_ r ∧ Below w.heap.size w w' := by
 have HB := Aside0.mk (Below.refl w.heap.size w)
 have H : (if 8 ≤ 281474976710656 then ((some (List.replicate 8 0 : List Int)).bind fun y105 => (key_Bytes.l0 k a0 y105 (y105.length : Int) 0)) else (none)) = some r := h
 clear h
 by_cases c2 : 8 ≤ 281474976710656
 ·rw [if_pos c2] at H
  have c2b0 := eq_true c2
  have c2b1 : decide (8 ≤ 281474976710656) = true := decide_eq_true c2
  clear c2
  obtain ⟨y105, hy105⟩ : ∃ y_ : List Int, y_ = (List.replicate 8 0) := ⟨_, rfl⟩
  replace H : (key_Bytes.l0 k a0 y105 (y105.length : Int) 0) = some r := by first | (rw [hy105]; with_reducible exact H) | (have H2_ := (Option.bind_some _ _).symm.trans H; rw [hy105]; with_reducible exact H2_) | (have H2_ := (Option.bind_some _ _).symm.trans H; with_reducible exact H2_) | with_reducible exact H | (rw [hy105]; exact H) | exact H
  have Ny105 := Aside0.mk hy105
  clear hy105
  have H' := Aside0.mk H
  clear H
  go_enter Try.func23, Try.ntmps23
  go_wp2_with (first | ((with_reducible refine gate_dst (N := 5) rfl ?_); refine Kd.R_make (Kd.int .u8) _ 5 rfl (N := 5) rfl 24 _ _ rfl 8 rfl rfl Try.underlying24 (.int .u8 0) 1 info5 rfl (by decide) (by omega) 0 (ok := fun _ => True) (okp := fun _ => True) rfl (fun _ hk => hk) trivial (by omega) (by omega) (Below.refl _ _) (Nat.le_refl _) ?_; intro v106 w3 ho4 hb hg_ hnew_; clear hg_ hnew_; (first | rw [← Ny105.out] at ho4 | (simp only [Int.reduceToNat] at ho4; rw [← Ny105.out] at ho4)); have n0_ := Aside0.mk (Kd.R_lower ho4 (below_size (by repeat (first | (with_reducible first | exact HB.out | apply below_alloc | apply pw_below_drewN | apply below_drew1) | exact HB.out)))); have n1_ := Aside0.mk (below_step (by repeat (first | (with_reducible first | exact HB.out | apply below_alloc | apply pw_below_drewN | apply below_drew1) | exact HB.out)) hb); clear HB; have HO107 := n0_; have HB := n1_; clear n0_ n1_; clear hb ho4; obtain ⟨Ao5, co5, eo5⟩ := Kd.R_slice HO107.out; subst eo5))
  go_loopg [8] k (fun kq v8 w' => ∃ (x3_1 : List Int) (x8_1 : Int), v8 = .int .i64 x8_1 ∧ Aside0 (key_Bytes.l0 kq a0 x3_1 (y105.length : Int) x8_1 = some r) ∧ Aside0 (kq ≤ k) ∧ Aside0 (Kd.R (Kd.int .u8) 5 w' w.heap.size (fun _ => True) (.slice Ao5 y105.length co5) x3_1) ∧ Aside0 (Below w.heap.size w w'))
  case atStart => exact ⟨(y105), (0), (by first | rfl | (simp; done) | (simp [*]; done)), H', ⟨Nat.le_refl _⟩, ⟨by (with_reducible repeat (first | apply Kd.R_alloc | apply Kd.R_drewN | apply Kd.R_drew)); exact HO107.out⟩, ⟨by repeat (first | (with_reducible first | exact HB.out | apply below_alloc | apply pw_below_drewN | apply below_drew1) | exact HB.out)⟩⟩
  case round =>
   clear H'
   try clear c2
   try clear c2b0
   try clear c2b1
   try clear p2
   obtain ⟨x3_1, x8_1, rfl, HA, HK1, HO_3, HB⟩ := hrel
   have hl3_1 := (Kd.R_reads' HO_3.out).1
   rw [hl3_1] at HO_3
   (try simp only [hl3_1])
   cases gk with
   | zero => exact absurd HA.out (by simp [key_Bytes.l0])
   | succ k1 =>
    have H := HA.out
    clear HA
    simp only [key_Bytes.l0] at H
    by_cases c6 : x8_1 < (y105.length : Int)
    ·rw [if_pos c6] at H
     have c6b0 : decide (x8_1 < (y105.length : Int)) = true := decide_eq_true c6
     have c6b0a0 : decide (x8_1 < (x3_1.length : Int)) = true := by first | (rw [← hl3_1]; exact c6b0) | (simp only [← hl3_1]; exact c6b0)
     clear c6
     obtain ⟨ji7, hji7⟩ : ∃ j_ : Int, (wrap64 (56 - (wrap64 (8 * x8_1)))) = j_ := ⟨_, rfl⟩
     replace H : (if 0 ≤ (ji7) then (if 0 ≤ x8_1 then (if x8_1 < (x3_1.length : Int) then (key_Bytes.l0 k1 a0 (x3_1.set (x8_1 : Int).toNat ((shr .u64 a0 (ji7)) % 256)) (y105.length : Int) (wrap64 (x8_1 + 1))) else (none)) else (none)) else (none)) = some r := by first | (rw [hji7] at H; exact H) | (simp only [hji7] at H ⊢; exact H)
     have hji7w : (IntKind.i64.wrap (56 - (wrap64 (8 * x8_1)))) = ji7 := (i64_w _).trans hji7
     by_cases c8 : 0 ≤ (ji7)
     ·rw [if_pos c8] at H
      have c8b0 := eq_true c8
      have c8b1 : decide (0 ≤ (ji7)) = true := decide_eq_true c8
      clear c8
      obtain ⟨ji9, hji9⟩ : ∃ j_ : Int, (shr .u64 a0 (ji7)) = j_ := ⟨_, rfl⟩
      replace H : (if 0 ≤ x8_1 then (if x8_1 < (x3_1.length : Int) then (key_Bytes.l0 k1 a0 (x3_1.set (x8_1 : Int).toNat ((ji9) % 256)) (y105.length : Int) (wrap64 (x8_1 + 1))) else (none)) else (none)) = some r := by first | (rw [hji9] at H; exact H) | (simp only [hji9] at H ⊢; exact H)
      have hji9_ : (a0 / 2 ^ min (ji7).toNat 64) = ji9 := hji9
      have hji9z : (ji7) ≤ 64 → (a0 / 2 ^ (ji7).toNat) = ji9 := shr_small hji9
      by_cases c10 : 0 ≤ x8_1
      ·rw [if_pos c10] at H
       have c10b0 : decide (0 ≤ x8_1) = true := decide_eq_true c10
       clear c10
       by_cases c11 : x8_1 < (x3_1.length : Int)
       ·rw [if_pos c11] at H
        have c11b0 : decide (x8_1 < (x3_1.length : Int)) = true := decide_eq_true c11
        clear c11
        obtain ⟨y108, hy108⟩ : ∃ y_ : List Int, y_ = (x3_1.set (x8_1 : Int).toNat ((ji9) % 256)) := ⟨_, rfl⟩
        replace H : (key_Bytes.l0 k1 a0 y108 (y105.length : Int) (wrap64 (x8_1 + 1))) = some r := by first | (rw [hy108]; with_reducible exact H) | (have H2_ := (Option.bind_some _ _).symm.trans H; rw [hy108]; with_reducible exact H2_) | (have H2_ := (Option.bind_some _ _).symm.trans H; with_reducible exact H2_) | with_reducible exact H | (rw [hy108]; exact H) | exact H
        have Ny108 := Aside0.mk hy108
        clear hy108
        have H' := Aside0.mk H
        clear H
        have p12 : 0 ≤ (x8_1 : Int) := of_decide_eq_true (by first | (with_reducible assumption) | assumption)
        have q12 : (x8_1 : Int) < ((x3_1.length : Int) : Int) := of_decide_eq_true (by first | (with_reducible assumption) | assumption)
        obtain ⟨go12, co12, eo12, gb12, gl12, cl12, HG12⟩ := Kd.R_form HO_3.out (by omega)
        (first | cases eo12 | (injection eo12 with ea_ en_ ec_; (first | subst ea_ | (injection ea_ with ea_; subst ea_)); subst ec_; clear en_))
        have GB12 := Aside0.mk gb12
        have GG12 := Aside0.mk HG12
        clear gb12 gl12 HG12
        obtain ⟨hx12_0, hf12_0⟩ := Kd.R_celln 0 HO_3.out (x8_1 : Int) p12 q12
        replace p12 := eq_true p12
        replace q12 := eq_true q12
        have HP13 := Kd.R_putg HO_3.out (x8_1 : Int) ((ji9) % 256)
        go_wp2_with (first | ((with_reducible refine gate_store (t := 5) (p := 19) rfl ?_); refine store_event (t := 5) (p := 19) (v := ?vo_w14) (w1 := (wr.setCell ⟨go12, (x8_1 : Int).toNat, none⟩ (.int .u8 ((ji9) % 256)))) ?hg ?ho ?hn ?hr ?_; (case ho => rfl); (case hg => rfl); (case hn => rfl); (case hr => first | (go_simp; done) | (go_simp; rfl)); intro w14 hw; have hg : wr.grownBy w14 (some go12) := (by rw [hw]; exact HP13.2); have hp_ : Kd.R (Kd.int .u8) 5 w14 w.heap.size (fun _ => True) (.slice (some ⟨go12, 0, none⟩) x3_1.length co5) y108 := (by rw [hw, Ny108.out]; exact HP13.1); clear HP13; have n0_ := Aside0.mk (hp_); have n1_ := Aside0.mk ((by rw [hw]; exact below_set (HB.out) GB12.out : Below w.heap.size w w14)); clear HO_3; clear HB; have HO_3 := n0_; have HB := n1_; clear n0_ n1_; clear hg hw hp_))
        (try simp only [← hl3_1])
        go_roundg k1
        case measure => have := HK1.out; omega
        case rel => exact ⟨(y108), (wrap64 (x8_1 + 1)), (by first | rfl | (simp; done) | (simp [*]; done)), H', ⟨by have := HK1.out; omega⟩, ⟨by (try simp only [hl3_1]); (with_reducible repeat (first | apply Kd.R_alloc | apply Kd.R_drewN | apply Kd.R_drew)); exact HO_3.out⟩, ⟨by repeat (first | (with_reducible first | exact HB.out | apply below_alloc | apply pw_below_drewN | apply below_drew1) | exact HB.out)⟩⟩
       ·rw [if_neg c11] at H
        exact absurd H (by simp)
      ·rw [if_neg c10] at H
       exact absurd H (by simp)
     ·rw [if_neg c8] at H
      exact absurd H (by simp)
    ·rw [if_neg c6] at H
     have c6b0 : decide (x8_1 < (y105.length : Int)) = false := decide_eq_false c6
     have c6b0a0 : decide (x8_1 < (x3_1.length : Int)) = false := by first | (rw [← hl3_1]; exact c6b0) | (simp only [← hl3_1]; exact c6b0)
     clear c6
     obtain rfl := Option.some.inj H
     go_wp2
     go_ret
     exact ⟨_, by first | rfl | (simp [errW_none, errW_some] <;> rfl) | (simp [*, errW_none, errW_some] <;> rfl), by (with_reducible repeat (first | apply Kd.R_alloc | apply Kd.R_drewN | apply Kd.R_drew)); exact HO_3.out, by repeat (first | (with_reducible first | exact HB.out | apply below_alloc | apply pw_below_drewN | apply below_drew1) | exact HB.out)⟩
 ·rw [if_neg c2] at H
  exact absurd H (by simp)

/-! ### box_Make: function 11 -/
def box_Make.f (k : Nat) (a0 : Int) (a1 : Int) (l2 : List Int) : Option (List Int × Int) := (box_isKind.f a0).bind fun t109 => (if t109 = true then ((key_Valid.f a1).bind fun t110 => (if t110 = true then (if (l2.length : Int) > 1000 then (some (([] : List Int), 105)) else ((some (([66, (a0) % 256] : List Int) : List Int)).bind fun y111 => ((key_Bytes.f k a1).bind fun t114 => (if y111.length + t114.length < 140737488355328 then ((some (y111 ++ t114 : List Int)).bind fun y117 => ((some (([((l2.length : Int) / 256) % 256, ((l2.length : Int)) % 256] : List Int) : List Int)).bind fun y120 => (if y117.length + y120.length < 140737488355328 then ((some (y117 ++ y120 : List Int)).bind fun y123 => (if y123.length + l2.length < 140737488355328 then (some ((y123 ++ l2), 0)) else (none))) else (none)))) else (none))))) else (some (([] : List Int), 10)))) else (some (([] : List Int), 104)))
theorem box_Make.mono : ∀ a0 a1 a2 k, LeO (box_Make.f k a0 a1 a2) (box_Make.f (k + 1) a0 a1 a2) := by
 intro a0 a1 a2 k
 unfold box_Make.f
 repeat' first
   | (with_reducible exact key_Bytes.mono _ _)
   | (with_reducible exact LeO.refl _)
   | (with_reducible exact LeO.none _)
   | (with_reducible refine LeO.ite ?_ ?_)
   | (with_reducible refine LeO.bind ?_ (fun _ => ?_))
   | exact key_Bytes.mono _ _
   | exact LeO.none _
   | refine LeO.ite ?_ ?_
   | refine LeO.bind ?_ (fun _ => ?_)
set_option maxHeartbeats 8000000 in
set_option maxRecDepth 100000 in
theorem box_Make.calls (k : Nat) (a0 : Int) (a1 : Int) (A2 : Option Addr) (c2 : Nat) (l2 : List Int) (r1 : List Int) (r2 : Int) (w : World) (hr2 : Kd.C (Kd.int .u8) w A2 l2.length l2) (hc2 : l2.length ≤ c2) (h : box_Make.f k a0 a1 l2 = some (r1, r2)) :
  Calls Try.prog 11 #[.int .i64 a0, .int .u64 a1, .slice A2 l2.length c2] w fun e w' => ∃ v0_ : Value, e = .returned (.tuple #[v0_, .int .i64 r2]) ∧ Kd.R (Kd.int .u8) 5 w' w.heap.size (fun _ => True) v0_ r1 ∧ Below w.heap.size w w' := by
 have HR2 := Aside0.mk hr2
 have HC2 := Aside0.mk hc2
 clear hr2 hc2
 have HB := Aside0.mk (Below.refl w.heap.size w)
 have H : ((box_isKind.f a0).bind fun t109 => (if t109 = true then ((key_Valid.f a1).bind fun t110 => (if t110 = true then (if (l2.length : Int) > 1000 then (some (([] : List Int), 105)) else ((some (([66, (a0) % 256] : List Int) : List Int)).bind fun y111 => ((key_Bytes.f k a1).bind fun t114 => (if y111.length + t114.length < 140737488355328 then ((some (y111 ++ t114 : List Int)).bind fun y117 => ((some (([((l2.length : Int) / 256) % 256, ((l2.length : Int)) % 256] : List Int) : List Int)).bind fun y120 => (if y117.length + y120.length < 140737488355328 then ((some (y117 ++ y120 : List Int)).bind fun y123 => (if y123.length + l2.length < 140737488355328 then (some ((y123 ++ l2), 0)) else (none))) else (none)))) else (none))))) else (some (([] : List Int), 10)))) else (some (([] : List Int), 104)))) = some (r1, r2) := h
 clear h
 replace H := Option.bind_eq_some_iff.mp H
 obtain ⟨t109, A40, H⟩ := H
 replace H : (if t109 = true then ((key_Valid.f a1).bind fun t110 => (if t110 = true then (if (l2.length : Int) > 1000 then (some (([] : List Int), 105)) else ((some (([66, (a0) % 256] : List Int) : List Int)).bind fun y111 => ((key_Bytes.f k a1).bind fun t114 => (if y111.length + t114.length < 140737488355328 then ((some (y111 ++ t114 : List Int)).bind fun y117 => ((some (([((l2.length : Int) / 256) % 256, ((l2.length : Int)) % 256] : List Int) : List Int)).bind fun y120 => (if y117.length + y120.length < 140737488355328 then ((some (y117 ++ y120 : List Int)).bind fun y123 => (if y123.length + l2.length < 140737488355328 then (some ((y123 ++ l2), 0)) else (none))) else (none)))) else (none))))) else (some (([] : List Int), 10)))) else (some (([] : List Int), 104))) = some (r1, r2) := H
 have A4 := Aside0.mk A40
 clear A40
 by_cases c5 : t109 = true
 ·subst c5
  have H1 : ((key_Valid.f a1).bind fun t110 => (if t110 = true then (if (l2.length : Int) > 1000 then (some (([] : List Int), 105)) else ((some (([66, (a0) % 256] : List Int) : List Int)).bind fun y111 => ((key_Bytes.f k a1).bind fun t114 => (if y111.length + t114.length < 140737488355328 then ((some (y111 ++ t114 : List Int)).bind fun y117 => ((some (([((l2.length : Int) / 256) % 256, ((l2.length : Int)) % 256] : List Int) : List Int)).bind fun y120 => (if y117.length + y120.length < 140737488355328 then ((some (y117 ++ y120 : List Int)).bind fun y123 => (if y123.length + l2.length < 140737488355328 then (some ((y123 ++ l2), 0)) else (none))) else (none)))) else (none))))) else (some (([] : List Int), 10)))) = some (r1, r2) := by rw [if_pos rfl] at H; exact H
  clear H
  have H := H1
  clear H1
  replace H := Option.bind_eq_some_iff.mp H
  obtain ⟨t110, A60, H⟩ := H
  replace H : (if t110 = true then (if (l2.length : Int) > 1000 then (some (([] : List Int), 105)) else ((some (([66, (a0) % 256] : List Int) : List Int)).bind fun y111 => ((key_Bytes.f k a1).bind fun t114 => (if y111.length + t114.length < 140737488355328 then ((some (y111 ++ t114 : List Int)).bind fun y117 => ((some (([((l2.length : Int) / 256) % 256, ((l2.length : Int)) % 256] : List Int) : List Int)).bind fun y120 => (if y117.length + y120.length < 140737488355328 then ((some (y117 ++ y120 : List Int)).bind fun y123 => (if y123.length + l2.length < 140737488355328 then (some ((y123 ++ l2), 0)) else (none))) else (none)))) else (none))))) else (some (([] : List Int), 10))) = some (r1, r2) := H
  have A6 := Aside0.mk A60
  clear A60
  by_cases c7 : t110 = true
  ·subst c7
   have H1 : (if (l2.length : Int) > 1000 then (some (([] : List Int), 105)) else ((some (([66, (a0) % 256] : List Int) : List Int)).bind fun y111 => ((key_Bytes.f k a1).bind fun t114 => (if y111.length + t114.length < 140737488355328 then ((some (y111 ++ t114 : List Int)).bind fun y117 => ((some (([((l2.length : Int) / 256) % 256, ((l2.length : Int)) % 256] : List Int) : List Int)).bind fun y120 => (if y117.length + y120.length < 140737488355328 then ((some (y117 ++ y120 : List Int)).bind fun y123 => (if y123.length + l2.length < 140737488355328 then (some ((y123 ++ l2), 0)) else (none))) else (none)))) else (none))))) = some (r1, r2) := by rw [if_pos rfl] at H; exact H
   clear H
   have H := H1
   clear H1
   by_cases c8 : (l2.length : Int) > 1000
   ·rw [if_pos c8] at H
    have c8b0 : decide (1000 < (l2.length : Int)) = true := decide_eq_true c8
    have c8b1 : decide (1000 < l2.length) = true := decide_eq_true (by omega)
    clear c8
    simp only [Option.some.injEq, Prod.mk.injEq] at H
    obtain ⟨rfl, rfl⟩ := H
    go_enter Try.func11, Try.ntmps11
    go_wp2_with (first | ((with_reducible refine gate_callee (f := 21) rfl ?_); refine goesL_ (some 11) rfl rfl Try.func21 (by kernel_rfl) rfl #[.int .i64 a0] rfl (by (try simp only [List.map_toArray, List.map_cons, List.map_nil]); first | done | rfl | (simp only [List.length_drop, List.length_take]; rfl)) ?_; (with_reducible refine (box_isKind.calls a0 true _ A4.out).mono ?_); rintro e w' ⟨rfl, ⟨nd, rfl⟩⟩; refine ⟨_, rfl, ?_⟩) | ((with_reducible refine gate_callee (f := 22) rfl ?_); refine goesL_ (some 15) rfl rfl Try.func22 (by kernel_rfl) rfl #[.int .u64 a1] rfl (by (try simp only [List.map_toArray, List.map_cons, List.map_nil]); first | done | rfl | (simp only [List.length_drop, List.length_take]; rfl)) ?_; (with_reducible refine (key_Valid.calls a1 true _ A6.out).mono ?_); rintro e w' ⟨rfl, ⟨nd, rfl⟩⟩; refine ⟨_, rfl, ?_⟩))
    go_ret2
    exact ⟨_, by first | rfl | (simp [errW_none, errW_some] <;> rfl) | (simp [*, errW_none, errW_some] <;> rfl), by first | exact Kd.R_nil _ _ _ _ _ | exact Kd.N_nil _ _ _ _ _ | exact Kd.V_nil _ _ _ _ _ | exact Kd.Q_nil _ _ _ _ _ | exact Kd.S_nil _ _ _ _ _, by repeat (first | (with_reducible first | exact HB.out | apply below_alloc | apply pw_below_drewN | apply below_drew1) | exact HB.out)⟩
   ·rw [if_neg c8] at H
    have c8b0 : decide (1000 < (l2.length : Int)) = false := decide_eq_false c8
    have c8b1 : decide (1000 < l2.length) = false := decide_eq_false (by omega)
    clear c8
    obtain ⟨y111, hy111⟩ : ∃ y_ : List Int, y_ = (([66, (a0) % 256] : List Int)) := ⟨_, rfl⟩
    replace H : ((key_Bytes.f k a1).bind fun t114 => (if y111.length + t114.length < 140737488355328 then ((some (y111 ++ t114 : List Int)).bind fun y117 => ((some (([((l2.length : Int) / 256) % 256, ((l2.length : Int)) % 256] : List Int) : List Int)).bind fun y120 => (if y117.length + y120.length < 140737488355328 then ((some (y117 ++ y120 : List Int)).bind fun y123 => (if y123.length + l2.length < 140737488355328 then (some ((y123 ++ l2), 0)) else (none))) else (none)))) else (none))) = some (r1, r2) := by first | (rw [hy111]; with_reducible exact H) | (have H2_ := (Option.bind_some _ _).symm.trans H; rw [hy111]; with_reducible exact H2_) | (have H2_ := (Option.bind_some _ _).symm.trans H; with_reducible exact H2_) | with_reducible exact H | (rw [hy111]; exact H) | exact H
    have Ny111 := Aside0.mk hy111
    clear hy111
    replace H := Option.bind_eq_some_iff.mp H
    obtain ⟨t114, A90, H⟩ := H
    replace H : (if y111.length + t114.length < 140737488355328 then ((some (y111 ++ t114 : List Int)).bind fun y117 => ((some (([((l2.length : Int) / 256) % 256, ((l2.length : Int)) % 256] : List Int) : List Int)).bind fun y120 => (if y117.length + y120.length < 140737488355328 then ((some (y117 ++ y120 : List Int)).bind fun y123 => (if y123.length + l2.length < 140737488355328 then (some ((y123 ++ l2), 0)) else (none))) else (none)))) else (none)) = some (r1, r2) := H
    have A9 := Aside0.mk A90
    clear A90
    by_cases c10 : y111.length + t114.length < 140737488355328
    ·rw [if_pos c10] at H
     have LMc10 := Aside0.mk c10
     clear c10
     obtain ⟨y117, hy117⟩ : ∃ y_ : List Int, y_ = (y111 ++ t114) := ⟨_, rfl⟩
     replace H : ((some (([((l2.length : Int) / 256) % 256, ((l2.length : Int)) % 256] : List Int) : List Int)).bind fun y120 => (if y117.length + y120.length < 140737488355328 then ((some (y117 ++ y120 : List Int)).bind fun y123 => (if y123.length + l2.length < 140737488355328 then (some ((y123 ++ l2), 0)) else (none))) else (none))) = some (r1, r2) := by first | (rw [hy117]; with_reducible exact H) | (have H2_ := (Option.bind_some _ _).symm.trans H; rw [hy117]; with_reducible exact H2_) | (have H2_ := (Option.bind_some _ _).symm.trans H; with_reducible exact H2_) | with_reducible exact H | (rw [hy117]; exact H) | exact H
     have Ny117 := Aside0.mk hy117
     clear hy117
     obtain ⟨y120, hy120⟩ : ∃ y_ : List Int, y_ = (([((l2.length : Int) / 256) % 256, ((l2.length : Int)) % 256] : List Int)) := ⟨_, rfl⟩
     replace H : (if y117.length + y120.length < 140737488355328 then ((some (y117 ++ y120 : List Int)).bind fun y123 => (if y123.length + l2.length < 140737488355328 then (some ((y123 ++ l2), 0)) else (none))) else (none)) = some (r1, r2) := by first | (rw [hy120]; with_reducible exact H) | (have H2_ := (Option.bind_some _ _).symm.trans H; rw [hy120]; with_reducible exact H2_) | (have H2_ := (Option.bind_some _ _).symm.trans H; with_reducible exact H2_) | with_reducible exact H | (rw [hy120]; exact H) | exact H
     have Ny120 := Aside0.mk hy120
     clear hy120
     by_cases c11 : y117.length + y120.length < 140737488355328
     ·rw [if_pos c11] at H
      have LMc11 := Aside0.mk c11
      clear c11
      obtain ⟨y123, hy123⟩ : ∃ y_ : List Int, y_ = (y117 ++ y120) := ⟨_, rfl⟩
      replace H : (if y123.length + l2.length < 140737488355328 then (some ((y123 ++ l2), 0)) else (none)) = some (r1, r2) := by first | (rw [hy123]; with_reducible exact H) | (have H2_ := (Option.bind_some _ _).symm.trans H; rw [hy123]; with_reducible exact H2_) | (have H2_ := (Option.bind_some _ _).symm.trans H; with_reducible exact H2_) | with_reducible exact H | (rw [hy123]; exact H) | exact H
      have Ny123 := Aside0.mk hy123
      clear hy123
      by_cases c12 : y123.length + l2.length < 140737488355328
      ·rw [if_pos c12] at H
       have LMc12 := Aside0.mk c12
       clear c12
       obtain ⟨y126, hy126⟩ : ∃ y_ : List Int, y_ = (y123 ++ l2) := ⟨_, rfl⟩
       replace H : (some (y126, 0)) = some (r1, r2) := by first | (rw [hy126]; with_reducible exact H) | (have H2_ := (Option.bind_some _ _).symm.trans H; rw [hy126]; with_reducible exact H2_) | (have H2_ := (Option.bind_some _ _).symm.trans H; with_reducible exact H2_) | with_reducible exact H | (rw [hy126]; exact H) | exact H
       have Ny126 := Aside0.mk hy126
       clear hy126
       simp only [Option.some.injEq, Prod.mk.injEq] at H
       obtain ⟨rfl, rfl⟩ := H
       go_enter Try.func11, Try.ntmps11
       go_wp2_with (first | ((with_reducible refine gate_callee (f := 21) rfl ?_); refine goesL_ (some 11) rfl rfl Try.func21 (by kernel_rfl) rfl #[.int .i64 a0] rfl (by (try simp only [List.map_toArray, List.map_cons, List.map_nil]); first | done | rfl | (simp only [List.length_drop, List.length_take]; rfl)) ?_; (with_reducible refine (box_isKind.calls a0 true _ A4.out).mono ?_); rintro e w' ⟨rfl, ⟨nd, rfl⟩⟩; refine ⟨_, rfl, ?_⟩) | ((with_reducible refine gate_callee (f := 22) rfl ?_); refine goesL_ (some 15) rfl rfl Try.func22 (by kernel_rfl) rfl #[.int .u64 a1] rfl (by (try simp only [List.map_toArray, List.map_cons, List.map_nil]); first | done | rfl | (simp only [List.length_drop, List.length_take]; rfl)) ?_; (with_reducible refine (key_Valid.calls a1 true _ A6.out).mono ?_); rintro e w' ⟨rfl, ⟨nd, rfl⟩⟩; refine ⟨_, rfl, ?_⟩) | ((with_reducible refine gate_dst (N := 23) rfl ?_); refine Kd.R_lit (Kd.int .u8) _ 5 ?hg (N := 23) ?hd (xs := ([66, (a0) % 256] : List Int)) (inner := [.int .u8 66, .int .u8 ((a0) % 256)]) (ok := fun _ => True) (okp := fun _ => True) ?hr ?hp (fun _ hk => hk) trivial (Below.refl _ _) (Nat.le_refl _) (by simp) ?_; (case hd => rfl); (case hg => rfl); (case hr => first | (go_simp; done) | (go_simp; rfl)); (case hp => exact (Reps.one (show Kd.M (Kd.int .u8) _ _ _ 66 [.int .u8 66] from rfl) (Reps.one (show Kd.M (Kd.int .u8) _ _ _ ((a0) % 256) [.int .u8 ((a0) % 256)] from rfl) (Reps.none _ _)))); intro v112 w13 ho14 hb hg_ hnew_; clear hg_ hnew_; (first | rw [← Ny111.out] at ho14 | (simp only [Int.reduceToNat] at ho14; rw [← Ny111.out] at ho14)); have n0_ := Aside0.mk (Kd.R_lower ho14 (below_size (by repeat (first | (with_reducible first | exact HB.out | apply below_alloc | apply pw_below_drewN | apply below_drew1) | exact HB.out)))); have n1_ := Aside0.mk (below_step (by repeat (first | (with_reducible first | exact HB.out | apply below_alloc | apply pw_below_drewN | apply below_drew1) | exact HB.out)) hb); clear HB; have HO113 := n0_; have HB := n1_; clear n0_ n1_; clear hb ho14) | ((with_reducible refine gate_callee (f := 23) rfl ?_); refine goesL_ (some 25) rfl rfl Try.func23 (by kernel_rfl) rfl #[.int .u64 a1] rfl (by (try simp only [List.map_toArray, List.map_cons, List.map_nil]); first | done | rfl | (simp only [List.length_drop, List.length_take]; rfl)) ?_; (with_reducible refine (key_Bytes.calls k a1 t114 _ A9.out).mono ?_); rintro e w15 ⟨v115, rfl, ho0, hb⟩; refine ⟨_, rfl, ?_⟩; have n0_ := Aside0.mk (Kd.R_elder' (by (with_reducible repeat (first | apply Kd.R_alloc | apply Kd.R_drewN | apply Kd.R_drew)); exact HO113.out) (Kd.R_base ho0) hb); have n1_ := Aside0.mk (Kd.R_lower (Kd.R_new' ho0 (Kd.R_lt (by (with_reducible repeat (first | apply Kd.R_alloc | apply Kd.R_drewN | apply Kd.R_drew)); exact HO113.out))) (below_size (by repeat (first | (with_reducible first | exact HB.out | apply below_alloc | apply pw_below_drewN | apply below_drew1) | exact HB.out)))); have n2_ := Aside0.mk (below_step (by repeat (first | (with_reducible first | exact HB.out | apply below_alloc | apply pw_below_drewN | apply below_drew1) | exact HB.out)) hb); clear HO113; clear HB; have HO113 := n0_; have HO116 := n1_; have HB := n2_; clear n0_ n1_ n2_; (try clear hb); (try clear hb2); (try clear hk); (try clear hi); (try clear ho0); obtain ⟨Ao17, co17, eo17⟩ := Kd.R_slice HO116.out; subst eo17) | ((with_reducible refine gate_builtin (b := .append) (xs := #[.tmp 23, .tmp 25]) rfl ?_); at_builtin; refine Kd.R_append_rows (Kd.int .u8) (w0 := w) w.heap.size rfl (.tmp 23) (.tmp 25) 24 5 (.int .u8 0) 1 rfl Try.underlying24 info5 rfl (by decide) (by omega) v112 y111 t114 _ _ _ (fun k_ => some k_ ≠ (.slice Ao17 t114.length co17 : Value).ownBlock) (fun _ => False) rfl rfl ?aO ?aR (fun _ _ h => h) (fun _ h => h.elim) ?aF ?aB ?aS ?aL ?_; (case aR => repeat (first | exact (Kd.R_reads' HO116.out).2.2 | (with_reducible refine Kd.C_alloc ?_ _) | (with_reducible refine Kd.C_drewN ?_ _) | (with_reducible refine Kd.C_drew ?_))); (case aB => exact (by repeat (first | (with_reducible first | exact HB.out | apply below_alloc | apply pw_below_drewN | apply below_drew1) | exact HB.out))); (case aF => exact (fun k_ hk => Kd.fresh' (Kd.R_lt (by (with_reducible repeat (first | apply Kd.R_alloc | apply Kd.R_drewN | apply Kd.R_drew)); exact HO116.out)) k_ hk)); (case aO => exact (by (with_reducible repeat (first | apply Kd.R_alloc | apply Kd.R_drewN | apply Kd.R_drew)); exact Kd.R_mono HO113.out (fun _ hk => hk.2))); (case aS => exact (below_size (by repeat (first | (with_reducible first | exact HB.out | apply below_alloc | apply pw_below_drewN | apply below_drew1) | exact HB.out)))); (case aL => have := LMc10.out; omega); intro v118 w16 ho hb hg hat; rw [← Ny117.out] at ho; have n0_ := Aside0.mk (Kd.R_after (ok := (fun _ => True)) (by (with_reducible repeat (first | apply Kd.R_alloc | apply Kd.R_drewN | apply Kd.R_drew)); exact HO116.out) hg hat); have n1_ := Aside0.mk (hb); have n2_ := Aside0.mk (ho); clear HO116; clear HB; clear HO113; have HO116 := n0_; have HB := n1_; have HO119 := n2_; clear n0_ n1_ n2_; clear ho hb hg hat) | ((with_reducible refine gate_dst (N := 35) rfl ?_); refine Kd.R_lit (Kd.int .u8) _ 5 ?hg (N := 35) ?hd (xs := ([((l2.length : Int) / 256) % 256, ((l2.length : Int)) % 256] : List Int)) (inner := [.int .u8 (((l2.length : Int) / 256) % 256), .int .u8 (((l2.length : Int)) % 256)]) (ok := fun _ => True) (okp := fun _ => True) ?hr ?hp (fun _ hk => hk) trivial (Below.refl _ _) (Nat.le_refl _) (by simp) ?_; (case hd => rfl); (case hg => rfl); (case hr => first | (go_simp; done) | (go_simp; rfl)); (case hp => exact (Reps.one (show Kd.M (Kd.int .u8) _ _ _ (((l2.length : Int) / 256) % 256) [.int .u8 (((l2.length : Int) / 256) % 256)] from rfl) (Reps.one (show Kd.M (Kd.int .u8) _ _ _ (((l2.length : Int)) % 256) [.int .u8 (((l2.length : Int)) % 256)] from rfl) (Reps.none _ _)))); intro v121 w18 ho19 hb hg_ hnew_; clear hg_ hnew_; (first | rw [← Ny120.out] at ho19 | (simp only [Int.reduceToNat] at ho19; rw [← Ny120.out] at ho19)); have n0_ := Aside0.mk (Kd.R_elder' (by (with_reducible repeat (first | apply Kd.R_alloc | apply Kd.R_drewN | apply Kd.R_drew)); exact HO116.out) (Kd.R_base ho19) hb); have n1_ := Aside0.mk (Kd.R_elder' (by (with_reducible repeat (first | apply Kd.R_alloc | apply Kd.R_drewN | apply Kd.R_drew)); exact HO119.out) (Kd.R_base ho19) hb); have n2_ := Aside0.mk (Kd.R_lower (Kd.R_new' (Kd.R_new' ho19 (Kd.R_lt (by (with_reducible repeat (first | apply Kd.R_alloc | apply Kd.R_drewN | apply Kd.R_drew)); exact HO116.out))) (Kd.R_lt (by (with_reducible repeat (first | apply Kd.R_alloc | apply Kd.R_drewN | apply Kd.R_drew)); exact HO119.out))) (below_size (by repeat (first | (with_reducible first | exact HB.out | apply below_alloc | apply pw_below_drewN | apply below_drew1) | exact HB.out)))); have n3_ := Aside0.mk (below_step (by repeat (first | (with_reducible first | exact HB.out | apply below_alloc | apply pw_below_drewN | apply below_drew1) | exact HB.out)) hb); clear HO116; clear HO119; clear HB; have HO116 := n0_; have HO119 := n1_; have HO122 := n2_; have HB := n3_; clear n0_ n1_ n2_ n3_; clear hb ho19; obtain ⟨Ao21, co21, eo21⟩ := Kd.R_slice HO122.out; subst eo21) | ((with_reducible refine gate_builtin (b := .append) (xs := #[.tmp 27, .tmp 35]) rfl ?_); at_builtin; refine Kd.R_append_rows (Kd.int .u8) (w0 := w) w.heap.size rfl (.tmp 27) (.tmp 35) 24 5 (.int .u8 0) 1 rfl Try.underlying24 info5 rfl (by decide) (by omega) v118 y117 y120 _ _ _ (fun k_ => some k_ ≠ (.slice Ao17 t114.length co17 : Value).ownBlock ∧ some k_ ≠ (.slice Ao21 y120.length co21 : Value).ownBlock) (fun _ => False) rfl rfl ?aO ?aR (fun _ _ h => h) (fun _ h => h.elim) ?aF ?aB ?aS ?aL ?_; (case aR => repeat (first | exact (Kd.R_reads' HO122.out).2.2 | (with_reducible refine Kd.C_alloc ?_ _) | (with_reducible refine Kd.C_drewN ?_ _) | (with_reducible refine Kd.C_drew ?_))); (case aB => exact (by repeat (first | (with_reducible first | exact HB.out | apply below_alloc | apply pw_below_drewN | apply below_drew1) | exact HB.out))); (case aF => exact (fun k_ hk => ⟨Kd.fresh' (Kd.R_lt (by (with_reducible repeat (first | apply Kd.R_alloc | apply Kd.R_drewN | apply Kd.R_drew)); exact HO116.out)) k_ hk, Kd.fresh' (Kd.R_lt (by (with_reducible repeat (first | apply Kd.R_alloc | apply Kd.R_drewN | apply Kd.R_drew)); exact HO122.out)) k_ hk⟩)); (case aO => exact (by (with_reducible repeat (first | apply Kd.R_alloc | apply Kd.R_drewN | apply Kd.R_drew)); exact HO119.out)); (case aS => exact (below_size (by repeat (first | (with_reducible first | exact HB.out | apply below_alloc | apply pw_below_drewN | apply below_drew1) | exact HB.out)))); (case aL => have := LMc11.out; omega); intro v124 w20 ho hb hg hat; rw [← Ny123.out] at ho; have n0_ := Aside0.mk (Kd.R_after (ok := (fun k_ => some k_ ≠ (.slice Ao21 y120.length co21 : Value).ownBlock)) (by (with_reducible repeat (first | apply Kd.R_alloc | apply Kd.R_drewN | apply Kd.R_drew)); exact Kd.R_mono HO116.out (fun _ hk => ⟨hk.2, hk.1.2⟩)) hg hat); have n1_ := Aside0.mk (Kd.R_after (ok := (fun k_ => some k_ ≠ (.slice Ao17 t114.length co17 : Value).ownBlock)) (by (with_reducible repeat (first | apply Kd.R_alloc | apply Kd.R_drewN | apply Kd.R_drew)); exact Kd.R_mono HO122.out (fun _ hk => ⟨hk.1.2, hk.2⟩)) hg hat); have n2_ := Aside0.mk (hb); have n3_ := Aside0.mk (ho); clear HO116; clear HO122; clear HB; clear HO119; have HO116 := n0_; have HO122 := n1_; have HB := n2_; have HO125 := n3_; clear n0_ n1_ n2_ n3_; clear ho hb hg hat) | ((with_reducible refine gate_builtin (b := .append) (xs := #[.tmp 37, .tmp 38]) rfl ?_); at_builtin; refine Kd.R_append_rows (Kd.int .u8) (w0 := w) w.heap.size rfl (.tmp 37) (.tmp 38) 24 5 (.int .u8 0) 1 rfl Try.underlying24 info5 rfl (by decide) (by omega) v124 y123 l2 _ _ _ (fun k_ => some k_ ≠ (.slice Ao17 t114.length co17 : Value).ownBlock ∧ some k_ ≠ (.slice Ao21 y120.length co21 : Value).ownBlock) (fun _ => False) rfl rfl ?aO ?aR (fun _ _ h => h) (fun _ h => h.elim) ?aF ?aB ?aS ?aL ?_; (case aR => repeat (first | exact (Kd.C_below HR2.out HB.out) | (with_reducible refine Kd.C_alloc ?_ _) | (with_reducible refine Kd.C_drewN ?_ _) | (with_reducible refine Kd.C_drew ?_))); (case aB => exact (by repeat (first | (with_reducible first | exact HB.out | apply below_alloc | apply pw_below_drewN | apply below_drew1) | exact HB.out))); (case aF => exact (fun k_ hk => ⟨Kd.fresh' (Kd.R_lt (by (with_reducible repeat (first | apply Kd.R_alloc | apply Kd.R_drewN | apply Kd.R_drew)); exact HO116.out)) k_ hk, Kd.fresh' (Kd.R_lt (by (with_reducible repeat (first | apply Kd.R_alloc | apply Kd.R_drewN | apply Kd.R_drew)); exact HO122.out)) k_ hk⟩)); (case aO => exact (by (with_reducible repeat (first | apply Kd.R_alloc | apply Kd.R_drewN | apply Kd.R_drew)); exact HO125.out)); (case aS => exact (below_size (by repeat (first | (with_reducible first | exact HB.out | apply below_alloc | apply pw_below_drewN | apply below_drew1) | exact HB.out)))); (case aL => have := LMc12.out; omega); intro v127 w22 ho hb hg hat; rw [← Ny126.out] at ho; have n0_ := Aside0.mk (Kd.R_after (ok := (fun k_ => some k_ ≠ (.slice Ao21 y120.length co21 : Value).ownBlock)) (by (with_reducible repeat (first | apply Kd.R_alloc | apply Kd.R_drewN | apply Kd.R_drew)); exact HO116.out) hg hat); have n1_ := Aside0.mk (Kd.R_after (ok := (fun k_ => some k_ ≠ (.slice Ao17 t114.length co17 : Value).ownBlock)) (by (with_reducible repeat (first | apply Kd.R_alloc | apply Kd.R_drewN | apply Kd.R_drew)); exact HO122.out) hg hat); have n2_ := Aside0.mk (hb); have n3_ := Aside0.mk (ho); clear HO116; clear HO122; clear HB; clear HO125; have HO116 := n0_; have HO122 := n1_; have HB := n2_; have HO128 := n3_; clear n0_ n1_ n2_ n3_; clear ho hb hg hat))
       go_ret2
       exact ⟨_, by first | rfl | (simp [errW_none, errW_some] <;> rfl) | (simp [*, errW_none, errW_some] <;> rfl), by (with_reducible repeat (first | apply Kd.R_alloc | apply Kd.R_drewN | apply Kd.R_drew)); exact Kd.R_mono HO128.out (fun _ hk => trivial), by repeat (first | (with_reducible first | exact HB.out | apply below_alloc | apply pw_below_drewN | apply below_drew1) | exact HB.out)⟩
      ·rw [if_neg c12] at H
       exact absurd H (by simp)
     ·rw [if_neg c11] at H
      exact absurd H (by simp)
    ·rw [if_neg c10] at H
     exact absurd H (by simp)
  ·replace c7 := Bool.eq_false_iff.mpr c7
   subst c7
   have H1 : (some (([] : List Int), 10)) = some (r1, r2) := by rw [if_neg (show ¬ (false = true) by decide)] at H; exact H
   clear H
   have H := H1
   clear H1
   simp only [Option.some.injEq, Prod.mk.injEq] at H
   obtain ⟨rfl, rfl⟩ := H
   go_enter Try.func11, Try.ntmps11
   go_wp2_with (first | ((with_reducible refine gate_callee (f := 21) rfl ?_); refine goesL_ (some 11) rfl rfl Try.func21 (by kernel_rfl) rfl #[.int .i64 a0] rfl (by (try simp only [List.map_toArray, List.map_cons, List.map_nil]); first | done | rfl | (simp only [List.length_drop, List.length_take]; rfl)) ?_; (with_reducible refine (box_isKind.calls a0 true _ A4.out).mono ?_); rintro e w' ⟨rfl, ⟨nd, rfl⟩⟩; refine ⟨_, rfl, ?_⟩) | ((with_reducible refine gate_callee (f := 22) rfl ?_); refine goesL_ (some 15) rfl rfl Try.func22 (by kernel_rfl) rfl #[.int .u64 a1] rfl (by (try simp only [List.map_toArray, List.map_cons, List.map_nil]); first | done | rfl | (simp only [List.length_drop, List.length_take]; rfl)) ?_; (with_reducible refine (key_Valid.calls a1 false _ A6.out).mono ?_); rintro e w' ⟨rfl, ⟨nd, rfl⟩⟩; refine ⟨_, rfl, ?_⟩))
   go_ret2
   exact ⟨_, by first | rfl | (simp [errW_none, errW_some] <;> rfl) | (simp [*, errW_none, errW_some] <;> rfl), by first | exact Kd.R_nil _ _ _ _ _ | exact Kd.N_nil _ _ _ _ _ | exact Kd.V_nil _ _ _ _ _ | exact Kd.Q_nil _ _ _ _ _ | exact Kd.S_nil _ _ _ _ _, by repeat (first | (with_reducible first | exact HB.out | apply below_alloc | apply pw_below_drewN | apply below_drew1) | exact HB.out)⟩
 ·replace c5 := Bool.eq_false_iff.mpr c5
  subst c5
  have H1 : (some (([] : List Int), 104)) = some (r1, r2) := by rw [if_neg (show ¬ (false = true) by decide)] at H; exact H
  clear H
  have H := H1
  clear H1
  simp only [Option.some.injEq, Prod.mk.injEq] at H
  obtain ⟨rfl, rfl⟩ := H
  go_enter Try.func11, Try.ntmps11
  go_wp2_with (first | ((with_reducible refine gate_callee (f := 21) rfl ?_); refine goesL_ (some 11) rfl rfl Try.func21 (by kernel_rfl) rfl #[.int .i64 a0] rfl (by (try simp only [List.map_toArray, List.map_cons, List.map_nil]); first | done | rfl | (simp only [List.length_drop, List.length_take]; rfl)) ?_; (with_reducible refine (box_isKind.calls a0 false _ A4.out).mono ?_); rintro e w' ⟨rfl, ⟨nd, rfl⟩⟩; refine ⟨_, rfl, ?_⟩))
  go_ret2
  exact ⟨_, by first | rfl | (simp [errW_none, errW_some] <;> rfl) | (simp [*, errW_none, errW_some] <;> rfl), by first | exact Kd.R_nil _ _ _ _ _ | exact Kd.N_nil _ _ _ _ _ | exact Kd.V_nil _ _ _ _ _ | exact Kd.Q_nil _ _ _ _ _ | exact Kd.S_nil _ _ _ _ _, by repeat (first | (with_reducible first | exact HB.out | apply below_alloc | apply pw_below_drewN | apply below_drew1) | exact HB.out)⟩

/-! ### key_Read: function 26 -/
def key_Read.l0 : Nat → Int → List Int → Int → Int → Option (Int × Bool)
 | 0, _, _, _, _ => none
 | k + 1, x4, x10, x11, x12 => if x12 < x11 then (if 0 ≤ x12 then (if x12 < (x10.length : Int) then (key_Read.l0 k (Go.bits .or .u64 (IntKind.u64.wrap (x4 * 256)) (IntKind.u64.wrap (rd x10 x12))) x10 x11 (wrap64 (x12 + 1))) else (none)) else (none)) else ((key_Valid.f x4).bind fun t130 => (if t130 = true then (some (x4, true)) else (some (0, false))))
def key_Read.f (k : Nat) (l0 : List Int) : Option (Int × Bool) := if (l0.length : Int) = 8 then (key_Read.l0 k 0 l0 (l0.length : Int) 0) else (some (0, false))
theorem key_Read.mono_l : ∀ k, (∀ y0 y1 y2 y3, LeO (key_Read.l0 k y0 y1 y2 y3) (key_Read.l0 (k + 1) y0 y1 y2 y3))
 | 0 => fun _ _ _ _ r h => by simp [key_Read.l0] at h
 | k + 1 => by
  have ih0 := key_Read.mono_l k
  ·intro y0 y1 y2 y3
   unfold key_Read.l0
   repeat' first
   | (with_reducible exact ih0 _ _ _ _)
   | (with_reducible exact LeO.refl _)
   | (with_reducible exact LeO.none _)
   | (with_reducible refine LeO.ite ?_ ?_)
   | (with_reducible refine LeO.bind ?_ (fun _ => ?_))
   | exact ih0 _ _ _ _
   | exact LeO.none _
   | refine LeO.ite ?_ ?_
   | refine LeO.bind ?_ (fun _ => ?_)
theorem key_Read.mono : ∀ a0 k, LeO (key_Read.f k a0) (key_Read.f (k + 1) a0) := by
 intro a0 k
 have ih0 := key_Read.mono_l k
 unfold key_Read.f
 repeat' first
   | (with_reducible exact ih0 _ _ _ _)
   | (with_reducible exact LeO.refl _)
   | (with_reducible exact LeO.none _)
   | (with_reducible refine LeO.ite ?_ ?_)
   | (with_reducible refine LeO.bind ?_ (fun _ => ?_))
   | exact ih0 _ _ _ _
   | exact LeO.none _
   | refine LeO.ite ?_ ?_
   | refine LeO.bind ?_ (fun _ => ?_)
set_option maxHeartbeats 8000000 in
set_option maxRecDepth 100000 in
theorem key_Read.calls (k : Nat) (A0 : Option Addr) (c0 : Nat) (l0 : List Int) (r1 : Int) (r2 : Bool) (w : World) (hr0 : Kd.C (Kd.int .u8) w A0 l0.length l0) (hc0 : l0.length ≤ c0) (h : key_Read.f k l0 = some (r1, r2)) :
  Calls Try.prog 26 #[.slice A0 l0.length c0] w fun e w' => e = .returned (.tuple #[.int .u64 r1, .bool r2]) ∧ Drawn0 w w' := by
 have HR0 := Aside0.mk hr0
 have HC0 := Aside0.mk hc0
 clear hr0 hc0
 have H : (if (l0.length : Int) = 8 then (key_Read.l0 k 0 l0 (l0.length : Int) 0) else (some (0, false))) = some (r1, r2) := h
 clear h
 by_cases c2 : (l0.length : Int) = 8
 ·rw [if_pos c2] at H
  have c2b0 : ((l0.length : Int) == 8) = true := beq_iff_eq.mpr c2
  have c2b1 : ((l0.length : Int) != 8) = false := bne_eq_false_iff_eq.mpr c2
  clear c2
  have H' := Aside0.mk H
  clear H
  go_enter Try.func26, Try.ntmps26
  go_wp2
  go_loopg [4, 12] k (fun kq v4 v12 w' => ∃ (x4_1 : Int) (x12_1 : Int), v4 = .int .u64 x4_1 ∧ v12 = .int .i64 x12_1 ∧ Aside0 (key_Read.l0 kq x4_1 l0 (l0.length : Int) x12_1 = some (r1, r2)) ∧ Aside0 (kq ≤ k) ∧ Drawn0 w w')
  case atStart => exact ⟨(0), (0), (by first | rfl | (simp; done) | (simp [*]; done)), (by first | rfl | (simp; done) | (simp [*]; done)), H', ⟨Nat.le_refl _⟩, by repeat (first | exact Drawn0.refl _ | apply Drawn0.step)⟩
  case round =>
   clear H'
   try clear c2
   try clear c2b0
   try clear c2b1
   try clear p2
   obtain ⟨x4_1, x12_1, rfl, rfl, HA, HK1, ⟨m1, rfl⟩⟩ := hrel
   cases gk with
   | zero => exact absurd HA.out (by simp [key_Read.l0])
   | succ k1 =>
    have H := HA.out
    clear HA
    simp only [key_Read.l0] at H
    by_cases c3 : x12_1 < (l0.length : Int)
    ·rw [if_pos c3] at H
     have c3b0 : decide (x12_1 < (l0.length : Int)) = true := decide_eq_true c3
     clear c3
     by_cases c4 : 0 ≤ x12_1
     ·rw [if_pos c4] at H
      have c4b0 : decide (0 ≤ x12_1) = true := decide_eq_true c4
      clear c4
      by_cases c5 : x12_1 < (l0.length : Int)
      ·rw [if_pos c5] at H
       have c5b0 : decide (x12_1 < (l0.length : Int)) = true := decide_eq_true c5
       clear c5
       have H' := Aside0.mk H
       clear H
       have p129 : 0 ≤ (x12_1 : Int) := of_decide_eq_true (by first | (with_reducible assumption) | assumption)
       have q129 : x12_1 < (l0.length : Int) := of_decide_eq_true (by first | (with_reducible assumption) | assumption)
       obtain ⟨ad129, e129, hx129_0⟩ := Kd.at_int HR0.out x12_1 p129 q129
       cases e129
       replace p129 := eq_true p129
       replace q129 := eq_true q129
       go_wp2
       go_roundg k1
       case measure => have := HK1.out; omega
       case rel => exact ⟨(Go.bits .or .u64 (IntKind.u64.wrap (x4_1 * 256)) (IntKind.u64.wrap (rd l0 x12_1))), (wrap64 (x12_1 + 1)), (by first | rfl | (simp; done) | (simp [*]; done)), (by first | rfl | (simp; done) | (simp [*]; done)), H', ⟨by have := HK1.out; omega⟩, by repeat (first | exact Drawn0.refl _ | apply Drawn0.step)⟩
      ·rw [if_neg c5] at H
       exact absurd H (by simp)
     ·rw [if_neg c4] at H
      exact absurd H (by simp)
    ·rw [if_neg c3] at H
     have c3b0 : decide (x12_1 < (l0.length : Int)) = false := decide_eq_false c3
     clear c3
     replace H := Option.bind_eq_some_iff.mp H
     obtain ⟨t130, A60, H⟩ := H
     replace H : (if t130 = true then (some (x4_1, true)) else (some (0, false))) = some (r1, r2) := H
     have A6 := Aside0.mk A60
     clear A60
     by_cases c7 : t130 = true
     ·subst c7
      have H1 : (some (x4_1, true)) = some (r1, r2) := by rw [if_pos rfl] at H; exact H
      clear H
      have H := H1
      clear H1
      simp only [Option.some.injEq, Prod.mk.injEq] at H
      obtain ⟨rfl, rfl⟩ := H
      go_wp2_with (first | ((with_reducible refine gate_callee (f := 22) rfl ?_); refine goesL_ (some 23) rfl rfl Try.func22 (by kernel_rfl) rfl #[.int .u64 x4_1] rfl (by (try simp only [List.map_toArray, List.map_cons, List.map_nil]); first | done | rfl | (simp only [List.length_drop, List.length_take]; rfl)) ?_; (with_reducible refine (key_Valid.calls x4_1 true _ A6.out).mono ?_); rintro e w' ⟨rfl, ⟨nd, rfl⟩⟩; refine ⟨_, rfl, ?_⟩))
      go_ret2
      exact ⟨by first | rfl | (simp; done) | (simp [*]; done), by repeat (first | exact Drawn0.refl _ | apply Drawn0.step)⟩
     ·replace c7 := Bool.eq_false_iff.mpr c7
      subst c7
      have H1 : (some (0, false)) = some (r1, r2) := by rw [if_neg (show ¬ (false = true) by decide)] at H; exact H
      clear H
      have H := H1
      clear H1
      simp only [Option.some.injEq, Prod.mk.injEq] at H
      obtain ⟨rfl, rfl⟩ := H
      go_wp2_with (first | ((with_reducible refine gate_callee (f := 22) rfl ?_); refine goesL_ (some 23) rfl rfl Try.func22 (by kernel_rfl) rfl #[.int .u64 x4_1] rfl (by (try simp only [List.map_toArray, List.map_cons, List.map_nil]); first | done | rfl | (simp only [List.length_drop, List.length_take]; rfl)) ?_; (with_reducible refine (key_Valid.calls x4_1 false _ A6.out).mono ?_); rintro e w' ⟨rfl, ⟨nd, rfl⟩⟩; refine ⟨_, rfl, ?_⟩))
      go_ret2
      exact ⟨by first | rfl | (simp; done) | (simp [*]; done), by repeat (first | exact Drawn0.refl _ | apply Drawn0.step)⟩
 ·rw [if_neg c2] at H
  have c2b0 : ((l0.length : Int) == 8) = false := beq_eq_false_iff_ne.mpr c2
  have c2b1 : ((l0.length : Int) != 8) = true := bne_iff_ne.mpr c2
  simp only [Option.some.injEq, Prod.mk.injEq] at H
  obtain ⟨rfl, rfl⟩ := H
  go_enter Try.func26, Try.ntmps26
  go_wp2
  go_ret2
  exact ⟨by first | rfl | (simp; done) | (simp [*]; done), by repeat (first | exact Drawn0.refl _ | apply Drawn0.step)⟩

/-! ### slices_Clone_byte_byte: function 27 -/
def slices_Clone_byte_byte.f (l0 : List Int) : Option (List Int) := if l0.length < 140737488355328 then (some l0) else (none)
set_option maxHeartbeats 8000000 in
set_option maxRecDepth 100000 in
theorem slices_Clone_byte_byte.calls (A0 : Option Addr) (c0 : Nat) (l0 : List Int) (r : List Int) (w : World) (hr0 : Kd.C (Kd.int .u8) w A0 l0.length l0) (hc0 : l0.length ≤ c0) (h : slices_Clone_byte_byte.f l0 = some r) :
  Calls Try.prog 27 #[.slice A0 l0.length c0] w fun e w' => ∃ v0_ : Value, e = .returned (v0_) ∧ Kd.R (Kd.int .u8) 5 w' w.heap.size (fun _ => True) v0_ r ∧ Below w.heap.size w w' := by
 have H : (if l0.length < 140737488355328 then (some l0) else (none)) = some r := h
 clear h
 by_cases c1 : l0.length < 140737488355328
 ·rw [if_pos c1] at H
  obtain rfl := Option.some.inj H
  have LMc3 := Aside0.mk c1
  clear c1
  cases A0 with
  | none =>
   have hz : l0.length = 0 := by
    by_cases hz : 0 < l0.length
    ·obtain ⟨_, h1, _⟩ := hr0.2.2 hz
     cases h1
    ·omega
   obtain rfl : l0 = [] := List.eq_nil_of_length_eq_zero hz
   clear hr0 hc0 hz LMc3 H
   have hn := fun w : World => Lib.run_eql_slice_nil (P := Try.prog) w 24 5 none 0 c0 0 0 Try.underlying24
   go_enter Try.func27, Try.ntmps27
   go_wp2
   go_ret
   exact ⟨_, rfl, Kd.R_nil _ _ _ _ _, by repeat (first | (with_reducible first | exact Below.refl _ _ | apply below_alloc | apply pw_below_drewN | apply below_drew1))⟩
  | some ad =>
   have HR0 := Aside0.mk hr0
   have HC0 := Aside0.mk hc0
   clear hr0 hc0 H
   have HB := Aside0.mk (Below.refl w.heap.size w)
   have hn := fun w : World => Lib.run_eql_slice_nil (P := Try.prog) w 24 5 (some ad) l0.length c0 0 0 Try.underlying24
   obtain ⟨y170, hy170⟩ : ∃ y_ : List Int, y_ = (([] : List Int)) := ⟨_, rfl⟩
   have Ny170 := Aside0.mk hy170
   clear hy170
   have e173 : l0 = y170 ++ l0 := by rw [Ny170.out]; rfl
   have Ny173 := Aside0.mk e173
   clear e173
   go_enter Try.func27, Try.ntmps27
   go_wp2_with (first | ((with_reducible refine gate_dst (N := 5) rfl ?_); refine Kd.R_lit (Kd.int .u8) _ 5 ?hg (N := 5) ?hd (xs := ([] : List Int)) (inner := []) (ok := fun _ => True) (okp := fun _ => True) ?hr ?hp (fun _ hk => hk) trivial (Below.refl _ _) (Nat.le_refl _) (by simp) ?_; (case hd => rfl); (case hg => rfl); (case hr => first | (go_simp; done) | (go_simp; rfl)); (case hp => exact (Reps.none _ _)); intro v171 w5 ho6 hb hg_ hnew_; clear hg_ hnew_; (first | rw [← Ny170.out] at ho6 | (simp only [Int.reduceToNat] at ho6; rw [← Ny170.out] at ho6)); have n0_ := Aside0.mk (Kd.R_lower ho6 (below_size (by repeat (first | (with_reducible first | exact HB.out | apply below_alloc | apply pw_below_drewN | apply below_drew1) | exact HB.out)))); have n1_ := Aside0.mk (below_step (by repeat (first | (with_reducible first | exact HB.out | apply below_alloc | apply pw_below_drewN | apply below_drew1) | exact HB.out)) hb); clear HB; have HO172 := n0_; have HB := n1_; clear n0_ n1_; clear hb ho6) | ((with_reducible refine gate_builtin (b := .append) (xs := #[.tmp 5, .tmp 6]) rfl ?_); at_builtin; refine Kd.R_append_rows (Kd.int .u8) (w0 := w) w.heap.size rfl (.tmp 5) (.tmp 6) 24 5 (.int .u8 0) 1 rfl Try.underlying24 info5 rfl (by decide) (by omega) v171 y170 l0 _ _ _ (fun _ => True) (fun _ => False) rfl rfl ?aO ?aR (fun _ _ h => h) (fun _ h => h.elim) ?aF ?aB ?aS ?aL ?_; (case aR => repeat (first | exact (Kd.C_below HR0.out HB.out) | (with_reducible refine Kd.C_alloc ?_ _) | (with_reducible refine Kd.C_drewN ?_ _) | (with_reducible refine Kd.C_drew ?_))); (case aB => exact (by repeat (first | (with_reducible first | exact HB.out | apply below_alloc | apply pw_below_drewN | apply below_drew1) | exact HB.out))); (case aF => exact (fun _ _ => trivial)); (case aO => exact (by (with_reducible repeat (first | apply Kd.R_alloc | apply Kd.R_drewN | apply Kd.R_drew)); exact HO172.out)); (case aS => exact (below_size (by repeat (first | (with_reducible first | exact HB.out | apply below_alloc | apply pw_below_drewN | apply below_drew1) | exact HB.out)))); (case aL => have h1_ := LMc3.out; have h2_ : y170.length = 0 := (by rw [Ny170.out]; rfl); omega); intro v174 w7 ho hb hg hat; rw [← Ny173.out] at ho; have n0_ := Aside0.mk (hb); have n1_ := Aside0.mk (ho); clear HB; clear HO172; have HB := n0_; have HO175 := n1_; clear n0_ n1_; clear ho hb hg hat; obtain ⟨Ao8, co8, eo8⟩ := Kd.R_slice HO175.out; subst eo8))
   go_ret
   exact ⟨_, by first | rfl | (simp; done) | (simp [*]; done), by (with_reducible repeat (first | apply Kd.R_alloc | apply Kd.R_drewN | apply Kd.R_drew)); exact HO175.out, by repeat (first | (with_reducible first | exact HB.out | apply below_alloc | apply pw_below_drewN | apply below_drew1) | exact HB.out)⟩
 ·rw [if_neg c1] at H
  cases H

end Go.Proofs.Ytchbnlcalcmdlaa.PBox
