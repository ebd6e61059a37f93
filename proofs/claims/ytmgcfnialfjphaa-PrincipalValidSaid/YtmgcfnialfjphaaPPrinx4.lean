/- The walks of functions of the translation: each call returns what the plain function beside it says. -/
import Derived.Test.YtmgcfnialfjphaaPPrinx0
import Derived.Test.YtmgcfnialfjphaaPPrinx2
import Derived.Test.YtmgcfnialfjphaaPPrinx3
namespace Go.Proofs.Ytmgcfnialfjphaa.PPrin
open Go.RowKit Go.Proofs.YtmgcfnialfjphaaW.PrintWords Go.Proofs.YtmgcfnialfjphaaW.PrintLast Go.Proofs.YtmgcfnialfjphaaW.PrintMore Go.Proofs.Ytmgcfnialfjphaa.Aid
attribute [local go_sem] max2_int min2_int max_two min_two max_three min_three max_four min_four aid_str_gtr   -- for this text's walks alone
set_option linter.unusedVariables false
set_option linter.unusedSimpArgs false

/-! ### kerbsuitelaw1_PrincipalValid: function 3 -/
mutual
def kerbsuitelaw1_PrincipalValid.j0 : Nat → ByteArray → Int → Int → Int → Bool → ByteArray → ByteArray → ByteArray → Option (Bool)
 | 0, _, _, _, _, _, _, _, _ => none
 | k + 1, x0, x1, x2, x3, x21, x144000, x144001, x144002 => if x21 = true then (some true) else ((kerbsuitelaw1_stretched.f k (Int.tmod (wrap64 (x1)) 43) (Int.tmod (wrap64 (x2)) 43) x3).bind fun t146 => ((kerbsuitelaw1_stretched.f k (wrap64 (39 + (Int.tmod (wrap64 (x1)) 2))) (Int.tmod (wrap64 (x2)) 45) x3).bind fun t147 => (kerbsuitelaw1_PrincipalValid.l0 k (([x0, t146, t147] : List ByteArray)) 0 x144000 x144001 x144002)))
def kerbsuitelaw1_PrincipalValid.l0 : Nat → List ByteArray → Int → ByteArray → ByteArray → ByteArray → Option (Bool)
 | 0, _, _, _, _, _ => none
 | k + 1, x11, x12, x144000, x144001, x144002 => if x12 < (x11.length : Int) then (if 0 ≤ x12 then ((principal_ValidName.f k (rdOf ByteArray.empty x11 x12)).bind fun t154 => ((kerbsuiteref1_ValidName.f k (rdOf ByteArray.empty x11 x12)).bind fun t156 => (if (t154 != t156) = true then (some false) else ((principal_ValidInstance.f k (rdOf ByteArray.empty x11 x12)).bind fun t158 => ((kerbsuiteref1_ValidInstance.f k (rdOf ByteArray.empty x11 x12)).bind fun t160 => (if (t158 != t160) = true then (some false) else ((principal_ValidRealm.f k (rdOf ByteArray.empty x11 x12)).bind fun t162 => ((kerbsuiteref1_ValidRealm.f k (rdOf ByteArray.empty x11 x12)).bind fun t164 => (if (t162 != t164) = true then (some false) else (kerbsuitelaw1_PrincipalValid.l0 k x11 (wrap64 (x12 + 1)) x144000 x144001 x144002)))))))))) else (none)) else ((principal_Valid.f k x144000 x144001 x144002).bind fun t151 => ((kerbsuiteref1_Valid.f k x144000 x144001 x144002).bind fun t152 => (some (t151 == t152))))
end
def kerbsuitelaw1_PrincipalValid.f (k : Nat) (a0 : ByteArray) (a1 : Int) (a2 : Int) (a3 : Int) (a4_0 : ByteArray) (a4_1 : ByteArray) (a4_2 : ByteArray) : Option (Bool) := (kerbsuitelaw1_awake.f k).bind fun t144 => (if t144 = true then (if (a0.size : Int) > 100 then (kerbsuitelaw1_PrincipalValid.j0 k a0 a1 a2 a3 true a4_0 a4_1 a4_2) else ((kerbsuitelaw1_long.f a4_0 a4_1 a4_2).bind fun t145 => (kerbsuitelaw1_PrincipalValid.j0 k a0 a1 a2 a3 t145 a4_0 a4_1 a4_2))) else (some false))
theorem kerbsuitelaw1_PrincipalValid.mono_l : ∀ k, (∀ y0 y1 y2 y3 y4 y5 y6 y7, LeO (kerbsuitelaw1_PrincipalValid.j0 k y0 y1 y2 y3 y4 y5 y6 y7) (kerbsuitelaw1_PrincipalValid.j0 (k + 1) y0 y1 y2 y3 y4 y5 y6 y7)) ∧ (∀ y0 y1 y2 y3 y4, LeO (kerbsuitelaw1_PrincipalValid.l0 k y0 y1 y2 y3 y4) (kerbsuitelaw1_PrincipalValid.l0 (k + 1) y0 y1 y2 y3 y4))
 | 0 => ⟨fun _ _ _ _ _ _ _ _ r h => by simp [kerbsuitelaw1_PrincipalValid.j0] at h, fun _ _ _ _ _ r h => by simp [kerbsuitelaw1_PrincipalValid.l0] at h⟩
 | k + 1 => by
  obtain ⟨ih0, ih1⟩ := kerbsuitelaw1_PrincipalValid.mono_l k
  refine ⟨?_, ?_⟩
  ·intro y0 y1 y2 y3 y4 y5 y6 y7
   unfold kerbsuitelaw1_PrincipalValid.j0
   repeat' first
   | (with_reducible exact ih0 _ _ _ _ _ _ _ _)
   | (with_reducible exact ih1 _ _ _ _ _)
   | (with_reducible exact kerbsuitelaw1_awake.mono _)
   | (with_reducible exact kerbsuitelaw1_stretched.mono _ _ _ _)
   | (with_reducible exact kerbsuiteref1_Valid.mono _ _ _ _)
   | (with_reducible exact kerbsuiteref1_ValidInstance.mono _ _)
   | (with_reducible exact kerbsuiteref1_ValidName.mono _ _)
   | (with_reducible exact kerbsuiteref1_ValidRealm.mono _ _)
   | (with_reducible exact principal_Valid.mono _ _ _ _)
   | (with_reducible exact principal_ValidInstance.mono _ _)
   | (with_reducible exact principal_ValidName.mono _ _)
   | (with_reducible exact principal_ValidRealm.mono _ _)
   | (with_reducible exact LeO.refl _)
   | (with_reducible exact LeO.none _)
   | (with_reducible refine LeO.ite ?_ ?_)
   | (with_reducible refine LeO.bind ?_ (fun _ => ?_))
   | exact ih0 _ _ _ _ _ _ _ _
   | exact ih1 _ _ _ _ _
   | exact kerbsuitelaw1_awake.mono _
   | exact kerbsuitelaw1_stretched.mono _ _ _ _
   | exact kerbsuiteref1_Valid.mono _ _ _ _
   | exact kerbsuiteref1_ValidInstance.mono _ _
   | exact kerbsuiteref1_ValidName.mono _ _
   | exact kerbsuiteref1_ValidRealm.mono _ _
   | exact principal_Valid.mono _ _ _ _
   | exact principal_ValidInstance.mono _ _
   | exact principal_ValidName.mono _ _
   | exact principal_ValidRealm.mono _ _
   | exact LeO.none _
   | refine LeO.ite ?_ ?_
   | refine LeO.bind ?_ (fun _ => ?_)
  ·intro y0 y1 y2 y3 y4
   unfold kerbsuitelaw1_PrincipalValid.l0
   repeat' first
   | (with_reducible exact ih0 _ _ _ _ _ _ _ _)
   | (with_reducible exact ih1 _ _ _ _ _)
   | (with_reducible exact kerbsuitelaw1_awake.mono _)
   | (with_reducible exact kerbsuitelaw1_stretched.mono _ _ _ _)
   | (with_reducible exact kerbsuiteref1_Valid.mono _ _ _ _)
   | (with_reducible exact kerbsuiteref1_ValidInstance.mono _ _)
   | (with_reducible exact kerbsuiteref1_ValidName.mono _ _)
   | (with_reducible exact kerbsuiteref1_ValidRealm.mono _ _)
   | (with_reducible exact principal_Valid.mono _ _ _ _)
   | (with_reducible exact principal_ValidInstance.mono _ _)
   | (with_reducible exact principal_ValidName.mono _ _)
   | (with_reducible exact principal_ValidRealm.mono _ _)
   | (with_reducible exact LeO.refl _)
   | (with_reducible exact LeO.none _)
   | (with_reducible refine LeO.ite ?_ ?_)
   | (with_reducible refine LeO.bind ?_ (fun _ => ?_))
   | exact ih0 _ _ _ _ _ _ _ _
   | exact ih1 _ _ _ _ _
   | exact kerbsuitelaw1_awake.mono _
   | exact kerbsuitelaw1_stretched.mono _ _ _ _
   | exact kerbsuiteref1_Valid.mono _ _ _ _
   | exact kerbsuiteref1_ValidInstance.mono _ _
   | exact kerbsuiteref1_ValidName.mono _ _
   | exact kerbsuiteref1_ValidRealm.mono _ _
   | exact principal_Valid.mono _ _ _ _
   | exact principal_ValidInstance.mono _ _
   | exact principal_ValidName.mono _ _
   | exact principal_ValidRealm.mono _ _
   | exact LeO.none _
   | refine LeO.ite ?_ ?_
   | refine LeO.bind ?_ (fun _ => ?_)
theorem kerbsuitelaw1_PrincipalValid.mono : ∀ a0 a1 a2 a3 a4 a5 a6 k, LeO (kerbsuitelaw1_PrincipalValid.f k a0 a1 a2 a3 a4 a5 a6) (kerbsuitelaw1_PrincipalValid.f (k + 1) a0 a1 a2 a3 a4 a5 a6) := by
 intro a0 a1 a2 a3 a4 a5 a6 k
 obtain ⟨ih0, ih1⟩ := kerbsuitelaw1_PrincipalValid.mono_l k
 unfold kerbsuitelaw1_PrincipalValid.f
 repeat' first
   | (with_reducible exact ih0 _ _ _ _ _ _ _ _)
   | (with_reducible exact ih1 _ _ _ _ _)
   | (with_reducible exact kerbsuitelaw1_awake.mono _)
   | (with_reducible exact kerbsuitelaw1_stretched.mono _ _ _ _)
   | (with_reducible exact kerbsuiteref1_Valid.mono _ _ _ _)
   | (with_reducible exact kerbsuiteref1_ValidInstance.mono _ _)
   | (with_reducible exact kerbsuiteref1_ValidName.mono _ _)
   | (with_reducible exact kerbsuiteref1_ValidRealm.mono _ _)
   | (with_reducible exact principal_Valid.mono _ _ _ _)
   | (with_reducible exact principal_ValidInstance.mono _ _)
   | (with_reducible exact principal_ValidName.mono _ _)
   | (with_reducible exact principal_ValidRealm.mono _ _)
   | (with_reducible exact LeO.refl _)
   | (with_reducible exact LeO.none _)
   | (with_reducible refine LeO.ite ?_ ?_)
   | (with_reducible refine LeO.bind ?_ (fun _ => ?_))
   | exact ih0 _ _ _ _ _ _ _ _
   | exact ih1 _ _ _ _ _
   | exact kerbsuitelaw1_awake.mono _
   | exact kerbsuitelaw1_stretched.mono _ _ _ _
   | exact kerbsuiteref1_Valid.mono _ _ _ _
   | exact kerbsuiteref1_ValidInstance.mono _ _
   | exact kerbsuiteref1_ValidName.mono _ _
   | exact kerbsuiteref1_ValidRealm.mono _ _
   | exact principal_Valid.mono _ _ _ _
   | exact principal_ValidInstance.mono _ _
   | exact principal_ValidName.mono _ _
   | exact principal_ValidRealm.mono _ _
   | exact LeO.none _
   | refine LeO.ite ?_ ?_
   | refine LeO.bind ?_ (fun _ => ?_)
def kerbsuitelaw1_PrincipalValid.T9 : Bool × List (List Nat × List Nat) := (true,[([], []), ([], []), ([0, 1], [0, 1]), ([2], [2]), ([3], [3]), ([], []), ([], []), ([5, 6], [5, 6]), ([7], [7]), ([8, 4], [8]), ([4, 9], [4, 9]), ([10, 9], [10]), ([11], [11]), ([11], [11]), ([12, 13, 11], [11, 12, 13]), ([14, 11], [11, 14]), ([15, 11, 11], [11, 15]), ([11], [11]), ([11], [11]), ([17, 18, 11], [11, 17, 18]), ([19, 11], [11, 19]), ([20, 16, 11], [11, 20]), ([16, 21, 11], [11, 16, 21]), ([11, 22], [11, 22]), ([23, 21], [23]), ([24], [24]), ([24], [24]), ([25, 26, 24], [24, 25, 26]), ([27, 24], [24, 27]), ([28, 24, 24], [24, 28]), ([24], [24]), ([24], [24]), ([30, 31, 24], [24, 30, 31]), ([32, 24], [24, 32]), ([33, 29, 24], [24, 33]), ([29, 34, 24], [24, 29, 34]), ([24, 35], [24, 35])])
def kerbsuitelaw1_PrincipalValid.B9 : List Nat := [0, 0, 3, 7, 15, 0, 0, 96, 224, 511, 1023, 2047, 4095, 4095, 16383, 32767, 65535, 4095, 4095, 397311, 921599, 2097151, 4194303, 8388607, 16777215, 33554431, 33554431, 134217727, 268435455, 536870911, 33554431, 33554431, 3254779903, 7549747199, 17179869183, 34359738367, 68719476735]
theorem kerbsuitelaw1_PrincipalValid.tab9 : rtab .any (opsOf Try.f3 9) = kerbsuitelaw1_PrincipalValid.T9 := by kernel_rfl
theorem kerbsuitelaw1_PrincipalValid.bits9 : waitsOk kerbsuitelaw1_PrincipalValid.T9.2 kerbsuitelaw1_PrincipalValid.B9 = true := by kernel_rfl
set_option maxHeartbeats 8000000 in
set_option maxRecDepth 100000 in
theorem kerbsuitelaw1_PrincipalValid.calls (k : Nat) (a0 : ByteArray) (a1 : Int) (a2 : Int) (a3 : Int) (a4_0 : ByteArray) (a4_1 : ByteArray) (a4_2 : ByteArray) (r : Bool) (w : World) (h : kerbsuitelaw1_PrincipalValid.f k a0 a1 a2 a3 a4_0 a4_1 a4_2 = some r) :
  Calls Try.prog 3 #[.string a0, .int .u8 a1, .int .u8 a2, .int .u8 a3, .agg #[.string a4_0, .string a4_1, .string a4_2]] w fun e w' => e = .returned (.bool r) ∧ Below w.heap.size w w' := by
 have hu23 := Try.underlying23
 have HB := Aside0.mk (Below.refl w.heap.size w)
 have H : ((kerbsuitelaw1_awake.f k).bind fun t144 => (if t144 = true then (if (a0.size : Int) > 100 then (kerbsuitelaw1_PrincipalValid.j0 k a0 a1 a2 a3 true a4_0 a4_1 a4_2) else ((kerbsuitelaw1_long.f a4_0 a4_1 a4_2).bind fun t145 => (kerbsuitelaw1_PrincipalValid.j0 k a0 a1 a2 a3 t145 a4_0 a4_1 a4_2))) else (some false))) = some r := h
 clear h
 replace H := Option.bind_eq_some_iff.mp H
 obtain ⟨t144, A60, H⟩ := H
 replace H : (if t144 = true then (if (a0.size : Int) > 100 then (kerbsuitelaw1_PrincipalValid.j0 k a0 a1 a2 a3 true a4_0 a4_1 a4_2) else ((kerbsuitelaw1_long.f a4_0 a4_1 a4_2).bind fun t145 => (kerbsuitelaw1_PrincipalValid.j0 k a0 a1 a2 a3 t145 a4_0 a4_1 a4_2))) else (some false)) = some r := H
 have A6 := Aside0.mk A60
 clear A60
 by_cases c7 : t144 = true
 ·subst c7
  have H1 : (if (a0.size : Int) > 100 then (kerbsuitelaw1_PrincipalValid.j0 k a0 a1 a2 a3 true a4_0 a4_1 a4_2) else ((kerbsuitelaw1_long.f a4_0 a4_1 a4_2).bind fun t145 => (kerbsuitelaw1_PrincipalValid.j0 k a0 a1 a2 a3 t145 a4_0 a4_1 a4_2))) = some r := by rw [if_pos rfl] at H; exact H
  clear H
  have H := H1
  clear H1
  have HC8 := Aside0.mk H
  clear H
  go_enter Try.func3, Try.ntmps3
  go_upto_region 3 with (first | ((with_reducible refine gate_dst (N := 9) rfl ?_); refine box_event ?hg (N := 9) ?hd (cs := #[.string a4_0, .string a4_1, .string a4_2]) (t := 23) ?hr ?_; (case hd => rfl); (case hg => rfl); (case hr => first | (go_simp; done) | (go_simp; rfl)); intro gb143 hg w9 hbox hb; have n0_ := Aside0.mk (below_step (by repeat (first | (with_reducible first | exact HB.out | apply below_alloc | apply pw_below_drewN | apply below_drew1) | exact HB.out)) hb); have n1_ := Aside0.mk (hbox); have n2_ := Aside0.mk ((by rw [hg]; exact (below_size (by repeat (first | (with_reducible first | exact HB.out | apply below_alloc | apply pw_below_drewN | apply below_drew1) | exact HB.out))) : w.heap.size ≤ gb143)); have n3_ := Aside0.mk ((by rw [hg]; exact (below_size (by repeat (first | (with_reducible first | exact HB.out | apply below_alloc | apply pw_below_drewN | apply below_drew1) | exact HB.out))) : w.heap.size ≤ gb143)); clear HB; have HB := n0_; have BK143 := n1_; have GW143 := n2_; have GE143 := n3_; clear n0_ n1_ n2_ n3_; clear hb hbox hg) | ((with_reducible refine gate_callee (f := 8) rfl ?_); refine goesL_ (some 13) rfl rfl Try.func8 (by kernel_rfl) rfl #[] rfl (by (try simp only [List.map_toArray, List.map_cons, List.map_nil]); first | done | rfl | (simp only [List.length_drop, List.length_take]; rfl)) ?_; (with_reducible refine (kerbsuitelaw1_awake.calls k  true _ A6.out).mono ?_); rintro e w10 ⟨rfl, hb⟩; refine ⟨_, rfl, ?_⟩; have n0_ := Aside0.mk (blk_below (g := gb143) (o := .cells #[.string a4_0, .string a4_1, .string a4_2] 23 (0, 0)) (by (with_reducible repeat (first | refine blk_drewN ?_ _ | refine blk_drew ?_ | refine blk_alloc ?_ _)); exact BK143.out) hb); have n1_ := Aside0.mk (below_step (by repeat (first | (with_reducible first | exact HB.out | apply below_alloc | apply pw_below_drewN | apply below_drew1 | refine below_set ?_ GE143.out) | exact HB.out)) hb); clear BK143; clear HB; have BK143 := n0_; have HB := n1_; clear n0_ n1_; (try clear hb); (try clear hb2); (try clear hk); (try clear hi)))
  (try simp only [Act.put, List.setIfInBounds_toArray, List.set_cons_zero, List.set_cons_succ])
  go_cut [21] (fun v21 wc => ∃ (kq : Nat) (x21_7 : Bool), v21 = .bool x21_7 ∧ Aside0 (kerbsuitelaw1_PrincipalValid.j0 kq a0 a1 a2 a3 x21_7 a4_0 a4_1 a4_2 = some r) ∧ Aside0 (kq ≤ k) ∧ Aside0 (wc.heap[gb143]? = some (.cells #[.string a4_0, .string a4_1, .string a4_2] 23 (0, 0))) ∧ Aside0 (Below w.heap.size w wc))
  case first =>
   have H := HC8.out
   clear HC8
   by_cases c11 : (a0.size : Int) > 100
   ·rw [if_pos c11] at H
    have c11b0 : decide (100 < (a0.size : Int)) = true := decide_eq_true c11
    have c11b1 : decide (100 < a0.size) = true := decide_eq_true (by omega)
    clear c11
    (first | rw [c11b0] | (simp only [i64_w, i32_w]; rw [c11b0]) | skip)
    have H' := Aside0.mk H
    clear H
    go_wp2
    go_meet
    case rel => exact ⟨_, (true), (by first | rfl | (simp; done) | (simp [*]; done)), H', ⟨by first | omega | exact Nat.le_refl _⟩, ⟨by (with_reducible repeat (first | refine blk_drewN ?_ _ | refine blk_drew ?_ | refine blk_alloc ?_ _)); exact BK143.out⟩, ⟨by repeat (first | (with_reducible first | exact HB.out | apply below_alloc | apply pw_below_drewN | apply below_drew1 | refine below_set ?_ GE143.out) | exact HB.out)⟩⟩
   ·rw [if_neg c11] at H
    have c11b0 : decide (100 < (a0.size : Int)) = false := decide_eq_false c11
    have c11b1 : decide (100 < a0.size) = false := decide_eq_false (by omega)
    clear c11
    (first | rw [c11b0] | (simp only [i64_w, i32_w]; rw [c11b0]) | skip)
    replace H := Option.bind_eq_some_iff.mp H
    obtain ⟨t145, A120, H⟩ := H
    replace H : (kerbsuitelaw1_PrincipalValid.j0 k a0 a1 a2 a3 t145 a4_0 a4_1 a4_2) = some r := H
    have A12 := Aside0.mk A120
    clear A120
    have H' := Aside0.mk H
    clear H
    have hcz13_0 : w10.cell? ⟨gb143, 0, none⟩ = some (.string a4_0) := (blk_cell BK143.out 0).trans rfl
    have hcz13_1 : w10.cell? ⟨gb143, 1, none⟩ = some (.string a4_1) := (blk_cell BK143.out 1).trans rfl
    have hcz13_2 : w10.cell? ⟨gb143, 2, none⟩ = some (.string a4_2) := (blk_cell BK143.out 2).trans rfl
    have hfz13_0 := blk_frozen BK143.out 0
    have hfz13_1 := blk_frozen BK143.out 1
    have hfz13_2 := blk_frozen BK143.out 2
    go_wp2_with (first | (go_at_call 9; (with_reducible refine (kerbsuitelaw1_long.calls a4_0 a4_1 a4_2 t145 _ A12.out).mono ?_); rintro e w14 ⟨rfl, hb⟩; have n0_ := Aside0.mk (blk_below (g := gb143) (o := .cells #[.string a4_0, .string a4_1, .string a4_2] 23 (0, 0)) (by (with_reducible repeat (first | refine blk_drewN ?_ _ | refine blk_drew ?_ | refine blk_alloc ?_ _)); exact BK143.out) hb); have n1_ := Aside0.mk (below_step (by repeat (first | (with_reducible first | exact HB.out | apply below_alloc | apply pw_below_drewN | apply below_drew1 | refine below_set ?_ GE143.out) | exact HB.out)) hb); clear BK143; clear HB; have BK143 := n0_; have HB := n1_; clear n0_ n1_; (try clear hb); (try clear hb2); (try clear hk); (try clear hi)))
    go_meet
    case rel => exact ⟨_, (t145), (by first | rfl | (simp; done) | (simp [*]; done)), H', ⟨by first | omega | exact Nat.le_refl _⟩, ⟨by (with_reducible repeat (first | refine blk_drewN ?_ _ | refine blk_drew ?_ | refine blk_alloc ?_ _)); exact BK143.out⟩, ⟨by repeat (first | (with_reducible first | exact HB.out | apply below_alloc | apply pw_below_drewN | apply below_drew1 | refine below_set ?_ GE143.out) | exact HB.out)⟩⟩
  case rest =>
   clear HC8
   try clear c1
   try clear p2
   try clear c3
   try clear c7
   try clear c8
   try clear c11
   try clear c11b0
   try clear c11b1
   try clear hcz13_0
   try clear hcz13_1
   try clear hcz13_2
   try clear hfz13_0
   try clear hfz13_1
   try clear hfz13_2
   obtain ⟨kq, x21_7, rfl, HA, HJ7, BK143, HB⟩ := hcut
   cases kq with
   | zero => exact absurd HA.out (by simp [kerbsuitelaw1_PrincipalValid.j0])
   | succ kj7 =>
    have H := HA.out
    clear HA
    simp only [kerbsuitelaw1_PrincipalValid.j0] at H
    by_cases c15 : x21_7 = true
    ·subst c15
     have H1 : (some true) = some r := by rw [if_pos rfl] at H; exact H
     clear H
     have H := H1
     clear H1
     obtain rfl := Option.some.inj H
     go_wp2
     go_ret
     exact ⟨by first | rfl | (simp [errW_none, errW_some] <;> rfl) | (simp [*, errW_none, errW_some] <;> rfl), by repeat (first | (with_reducible first | exact HB.out | apply below_alloc | apply pw_below_drewN | apply below_drew1 | refine below_set ?_ GE143.out) | exact HB.out)⟩
    ·replace c15 := Bool.eq_false_iff.mpr c15
     subst c15
     have H1 : ((kerbsuitelaw1_stretched.f kj7 (Int.tmod (wrap64 (a1)) 43) (Int.tmod (wrap64 (a2)) 43) a3).bind fun t146 => ((kerbsuitelaw1_stretched.f kj7 (wrap64 (39 + (Int.tmod (wrap64 (a1)) 2))) (Int.tmod (wrap64 (a2)) 45) a3).bind fun t147 => (kerbsuitelaw1_PrincipalValid.l0 kj7 (([a0, t146, t147] : List ByteArray)) 0 a4_0 a4_1 a4_2))) = some r := by rw [if_neg (show ¬ (false = true) by decide)] at H; exact H
     clear H
     have H := H1
     clear H1
     replace H := Option.bind_eq_some_iff.mp H
     obtain ⟨t146, A160, H⟩ := H
     replace H : ((kerbsuitelaw1_stretched.f kj7 (wrap64 (39 + (Int.tmod (wrap64 (a1)) 2))) (Int.tmod (wrap64 (a2)) 45) a3).bind fun t147 => (kerbsuitelaw1_PrincipalValid.l0 kj7 (([a0, t146, t147] : List ByteArray)) 0 a4_0 a4_1 a4_2)) = some r := H
     have A16 := Aside0.mk A160
     clear A160
     replace H := Option.bind_eq_some_iff.mp H
     obtain ⟨t147, A170, H⟩ := H
     replace H : (kerbsuitelaw1_PrincipalValid.l0 kj7 (([a0, t146, t147] : List ByteArray)) 0 a4_0 a4_1 a4_2) = some r := H
     have A17 := Aside0.mk A170
     clear A170
     obtain ⟨y148, hy148⟩ : ∃ y_ : List ByteArray, y_ = (([a0, t146, t147] : List ByteArray)) := ⟨_, rfl⟩
     replace H : (kerbsuitelaw1_PrincipalValid.l0 kj7 y148 0 a4_0 a4_1 a4_2) = some r := by first | (rw [hy148]; with_reducible exact H) | (have H2_ := (Option.bind_some _ _).symm.trans H; rw [hy148]; with_reducible exact H2_) | (have H2_ := (Option.bind_some _ _).symm.trans H; with_reducible exact H2_) | with_reducible exact H | (rw [hy148]; exact H) | exact H
     have Ny148 := Aside0.mk hy148
     clear hy148
     have H' := Aside0.mk H
     clear H
     go_wp2_with (first | ((with_reducible refine gate_callee (f := 10) rfl ?_); refine goesL_ (some 30) rfl rfl Try.func10 (by kernel_rfl) rfl #[.int .i64 (Int.tmod (wrap64 (a1)) 43), .int .i64 (Int.tmod (wrap64 (a2)) 43), .int .u8 a3] rfl (by (try simp only [List.map_toArray, List.map_cons, List.map_nil]); first | done | rfl | (simp only [List.length_drop, List.length_take]; rfl)) ?_; (with_reducible refine (kerbsuitelaw1_stretched.calls kj7 (Int.tmod (wrap64 (a1)) 43) (Int.tmod (wrap64 (a2)) 43) a3 t146 _ A16.out).mono ?_); rintro e w18 ⟨rfl, hb⟩; refine ⟨_, rfl, ?_⟩; have n0_ := Aside0.mk (blk_below (g := gb143) (o := .cells #[.string a4_0, .string a4_1, .string a4_2] 23 (0, 0)) (by (with_reducible repeat (first | refine blk_drewN ?_ _ | refine blk_drew ?_ | refine blk_alloc ?_ _)); exact BK143.out) hb); have n1_ := Aside0.mk (below_step (by repeat (first | (with_reducible first | exact HB.out | apply below_alloc | apply pw_below_drewN | apply below_drew1 | refine below_set ?_ GE143.out) | exact HB.out)) hb); clear BK143; clear HB; have BK143 := n0_; have HB := n1_; clear n0_ n1_; (try clear hb); (try clear hb2); (try clear hk); (try clear hi)) | ((with_reducible refine gate_callee (f := 10) rfl ?_); refine goesL_ (some 39) rfl rfl Try.func10 (by kernel_rfl) rfl #[.int .i64 (wrap64 (39 + (Int.tmod (wrap64 (a1)) 2))), .int .i64 (Int.tmod (wrap64 (a2)) 45), .int .u8 a3] rfl (by (try simp only [List.map_toArray, List.map_cons, List.map_nil]); first | done | rfl | (simp only [List.length_drop, List.length_take]; rfl)) ?_; (with_reducible refine (kerbsuitelaw1_stretched.calls kj7 (wrap64 (39 + (Int.tmod (wrap64 (a1)) 2))) (Int.tmod (wrap64 (a2)) 45) a3 t147 _ A17.out).mono ?_); rintro e w19 ⟨rfl, hb⟩; refine ⟨_, rfl, ?_⟩; have n0_ := Aside0.mk (blk_below (g := gb143) (o := .cells #[.string a4_0, .string a4_1, .string a4_2] 23 (0, 0)) (by (with_reducible repeat (first | refine blk_drewN ?_ _ | refine blk_drew ?_ | refine blk_alloc ?_ _)); exact BK143.out) hb); have n1_ := Aside0.mk (below_step (by repeat (first | (with_reducible first | exact HB.out | apply below_alloc | apply pw_below_drewN | apply below_drew1 | refine below_set ?_ GE143.out) | exact HB.out)) hb); clear BK143; clear HB; have BK143 := n0_; have HB := n1_; clear n0_ n1_; (try clear hb); (try clear hb2); (try clear hk); (try clear hi)) | ((with_reducible refine gate_dst (N := 40) rfl ?_); refine Kd.R_lit Kd.string _ 9 ?hg (N := 40) ?hd (xs := ([a0, t146, t147] : List ByteArray)) (inner := [.string a0, .string t146, .string t147]) (ok := fun _ => True) (okp := fun _ => True) ?hr ?hp (fun _ hk => hk) trivial (Below.refl _ _) (Nat.le_refl _) (by simp) ?_; (case hd => rfl); (case hg => rfl); (case hr => first | (go_simp; done) | (go_simp; rfl)); (case hp => exact (Reps.one (show Kd.M Kd.string _ _ _ a0 [.string a0] from rfl) (Reps.one (show Kd.M Kd.string _ _ _ t146 [.string t146] from rfl) (Reps.one (show Kd.M Kd.string _ _ _ t147 [.string t147] from rfl) (Reps.none _ _))))); intro v149 w20 ho21 hb hg_ hnew_; clear hg_ hnew_; (first | rw [← Ny148.out] at ho21 | (simp only [Int.reduceToNat] at ho21; rw [← Ny148.out] at ho21)); have n0_ := Aside0.mk (Kd.R_lower ho21 (below_size (by repeat (first | (with_reducible first | exact HB.out | apply below_alloc | apply pw_below_drewN | apply below_drew1 | refine below_set ?_ GE143.out) | exact HB.out)))); have n1_ := Aside0.mk (blk_below (g := gb143) (o := .cells #[.string a4_0, .string a4_1, .string a4_2] 23 (0, 0)) (by (with_reducible repeat (first | refine blk_drewN ?_ _ | refine blk_drew ?_ | refine blk_alloc ?_ _)); exact BK143.out) hb); have n2_ := Aside0.mk (below_step (by repeat (first | (with_reducible first | exact HB.out | apply below_alloc | apply pw_below_drewN | apply below_drew1 | refine below_set ?_ GE143.out) | exact HB.out)) hb); clear BK143; clear HB; have HO150 := n0_; have BK143 := n1_; have HB := n2_; clear n0_ n1_ n2_; clear hb ho21))
     go_loopg [12] kj7 (fun kq v12 w' => ∃ (x12_2 : Int), v12 = .int .i64 x12_2 ∧ Aside0 (kerbsuitelaw1_PrincipalValid.l0 kq y148 x12_2 a4_0 a4_1 a4_2 = some r) ∧ Aside0 (kq ≤ kj7) ∧ Aside0 (Kd.R Kd.string 9 w' w.heap.size (fun _ => True) v149 y148) ∧ Aside0 (w'.heap[gb143]? = some (.cells #[.string a4_0, .string a4_1, .string a4_2] 23 (0, 0))) ∧ Aside0 (Below w.heap.size w w'))
     case atStart => exact ⟨(0), (by first | rfl | (simp; done) | (simp [*]; done)), H', ⟨Nat.le_refl _⟩, ⟨by (with_reducible repeat (first | apply Kd.R_alloc | apply Kd.R_drewN | apply Kd.R_drew)); exact HO150.out⟩, ⟨by (with_reducible repeat (first | refine blk_drewN ?_ _ | refine blk_drew ?_ | refine blk_alloc ?_ _)); exact BK143.out⟩, ⟨by repeat (first | (with_reducible first | exact HB.out | apply below_alloc | apply pw_below_drewN | apply below_drew1 | refine below_set ?_ GE143.out) | exact HB.out)⟩⟩
     case round =>
      clear H'
      try clear c1
      try clear p2
      try clear c3
      try clear p6
      try clear c7
      try clear c8
      try clear c10
      try clear c11
      try clear c11b0
      try clear c11b1
      try clear c15
      try clear hcz13_0
      try clear hcz13_1
      try clear hcz13_2
      try clear hfz13_0
      try clear hfz13_1
      try clear hfz13_2
      try clear p2
      obtain ⟨x12_2, rfl, HA, HK2, HO_11, BK143, HB⟩ := hrel
      cases gk with
      | zero => exact absurd HA.out (by simp [kerbsuitelaw1_PrincipalValid.l0])
      | succ k2 =>
       have H := HA.out
       clear HA
       simp only [kerbsuitelaw1_PrincipalValid.l0] at H
       by_cases c22 : x12_2 < (y148.length : Int)
       ·rw [if_pos c22] at H
        have c22b0 : decide (x12_2 < (y148.length : Int)) = true := decide_eq_true c22
        clear c22
        by_cases c23 : 0 ≤ x12_2
        ·rw [if_pos c23] at H
         have c23b0 : decide (0 ≤ x12_2) = true := decide_eq_true c23
         clear c23
         replace H := Option.bind_eq_some_iff.mp H
         obtain ⟨t154, A240, H⟩ := H
         replace H : ((kerbsuiteref1_ValidName.f k2 (rdOf ByteArray.empty y148 x12_2)).bind fun t156 => (if (t154 != t156) = true then (some false) else ((principal_ValidInstance.f k2 (rdOf ByteArray.empty y148 x12_2)).bind fun t158 => ((kerbsuiteref1_ValidInstance.f k2 (rdOf ByteArray.empty y148 x12_2)).bind fun t160 => (if (t158 != t160) = true then (some false) else ((principal_ValidRealm.f k2 (rdOf ByteArray.empty y148 x12_2)).bind fun t162 => ((kerbsuiteref1_ValidRealm.f k2 (rdOf ByteArray.empty y148 x12_2)).bind fun t164 => (if (t162 != t164) = true then (some false) else (kerbsuitelaw1_PrincipalValid.l0 k2 y148 (wrap64 (x12_2 + 1)) a4_0 a4_1 a4_2))))))))) = some r := H
         have A24 := Aside0.mk A240
         clear A240
         replace H := Option.bind_eq_some_iff.mp H
         obtain ⟨t156, A250, H⟩ := H
         replace H : (if (t154 != t156) = true then (some false) else ((principal_ValidInstance.f k2 (rdOf ByteArray.empty y148 x12_2)).bind fun t158 => ((kerbsuiteref1_ValidInstance.f k2 (rdOf ByteArray.empty y148 x12_2)).bind fun t160 => (if (t158 != t160) = true then (some false) else ((principal_ValidRealm.f k2 (rdOf ByteArray.empty y148 x12_2)).bind fun t162 => ((kerbsuiteref1_ValidRealm.f k2 (rdOf ByteArray.empty y148 x12_2)).bind fun t164 => (if (t162 != t164) = true then (some false) else (kerbsuitelaw1_PrincipalValid.l0 k2 y148 (wrap64 (x12_2 + 1)) a4_0 a4_1 a4_2)))))))) = some r := H
         have A25 := Aside0.mk A250
         clear A250
         by_cases c26 : (t154 != t156) = true
         ·rw [if_pos c26] at H
          have c26b0 : (t154 != t156) = true := c26
          (try (have c26b1 : decide (t154 = t156) = false := by simpa using c26))
          (try (have c26b2 : (t154 == t156) = false := by simpa using c26))
          (try (have c26b3 : ¬ (t154 = t156) := by simpa using c26))
          clear c26
          obtain rfl := Option.some.inj H
          obtain ⟨Ao27, co27, eo27⟩ := Kd.R_slice HO_11.out
          subst eo27
          try go_wp2
          have n0_ := Aside0.mk (Kd.R_drew HO_11.out)
          have n1_ := Aside0.mk (blk_drew BK143.out)
          have n2_ := Aside0.mk (below_drew1 HB.out)
          clear HO_11
          clear BK143
          clear HB
          have HO_11 := n0_
          have BK143 := n1_
          have HB := n2_
          clear n0_ n1_ n2_
          have p153 : 0 ≤ (x12_2 : Int) := of_decide_eq_true (by first | (with_reducible assumption) | assumption)
          have q153 : x12_2 < (y148.length : Int) := of_decide_eq_true (by first | (with_reducible assumption) | assumption)
          obtain ⟨ad153, e153, hx153_0⟩ := Kd.at_string (Kd.R_reads' HO_11.out).2.2 x12_2 p153 q153
          cases e153
          replace p153 := eq_true p153
          replace q153 := eq_true q153
          have p155 : 0 ≤ (x12_2 : Int) := of_decide_eq_true (by first | (with_reducible assumption) | assumption)
          have q155 : x12_2 < (y148.length : Int) := of_decide_eq_true (by first | (with_reducible assumption) | assumption)
          obtain ⟨ad155, e155, hx155_0⟩ := Kd.at_string (Kd.R_reads' HO_11.out).2.2 x12_2 p155 q155
          obtain rfl : ad153 = ad155 := (by injection e155)
          replace p155 := eq_true p155
          replace q155 := eq_true q155
          refine start_ (n := 37) (S := fun w' => w'.cell? (ad153.add (x12_2).toNat) = some (.string (rdOf ByteArray.empty y148 x12_2)) ∧ w'.cell? (ad153.add (x12_2).toNat) = some (.string (rdOf ByteArray.empty y148 x12_2))) (ds := []) #[false,false,false,false,false,false,false,false,false,false,false,false,false,false,false,false,false,false,false,false,false,false,false,false,false,false,false,false,false,false,false,false,false,false,false,false,false] (by kernel_rfl) rfl rfl ⟨hx153_0, hx155_0⟩ (fun hHeld => ?_); refine with_tabW kerbsuitelaw1_PrincipalValid.tab9 kerbsuitelaw1_PrincipalValid.bits9 (fun HT_ HW_ => ?_)
          generalize wr.drew = w28 at HO_11 BK143 HB hx153_0 hx155_0 hHeld ⊢
          refine pure_ (i := 0) (N := some 47) (v := ?_) (a' := ?_) (bo_ 37 1) rfl rfl (any_of HT_.out (by kernel_rfl)) (fun _ _ _ h => h) (Or.inl ⟨by rfl, ?_⟩) ?_ ?_
          rotate_left; (· intro w'; go_simp; with_reducible rfl)
          rotate_left; (· simp only [Act.put,List.setIfInBounds_toArray,List.set_cons_zero,List.set_cons_succ,i64_w,i32_w]; rfl)
          refine pure_ (i := 1) (N := some 48) (v := ?_) (a' := ?_) (bo_ 37 3) rfl rfl (any_of HT_.out (by kernel_rfl)) (fun _ _ _ h => h) (Or.inl ⟨by rfl, ?_⟩) ?_ ?_
          rotate_left; (· intro w'; go_simp; with_reducible rfl)
          rotate_left; (· simp only [Act.put,List.setIfInBounds_toArray,List.set_cons_zero,List.set_cons_succ,i64_w,i32_w]; rfl)
          refine pure_ (i := 2) (N := some 49) (v := ?_) (a' := ?_) (bo_ 37 7) rfl rfl (any_of HT_.out (by kernel_rfl)) (fun _ _ _ h => h) (Or.inl ⟨by rfl, ?_⟩) ?_ ?_
          rotate_left; (· intro w'; go_simp; with_reducible rfl)
          rotate_left; (· simp only [Act.put,List.setIfInBounds_toArray,List.set_cons_zero,List.set_cons_succ,i64_w,i32_w]; rfl)
          refine pure_ (i := 5) (N := some 52) (v := ?_) (a' := ?_) (bo_ 37 39) rfl rfl (any_of HT_.out (by kernel_rfl)) (fun _ _ _ h => h) (Or.inl ⟨by rfl, ?_⟩) ?_ ?_
          rotate_left; (· intro w'; go_simp; with_reducible rfl)
          rotate_left; (· simp only [Act.put,List.setIfInBounds_toArray,List.set_cons_zero,List.set_cons_succ,i64_w,i32_w]; rfl)
          refine pure_ (i := 6) (N := some 53) (v := ?_) (a' := ?_) (bo_ 37 103) rfl rfl (any_of HT_.out (by kernel_rfl)) (fun _ _ _ h => h) (Or.inl ⟨by rfl, ?_⟩) ?_ ?_
          rotate_left; (· intro w'; go_simp; with_reducible rfl)
          rotate_left; (· simp only [Act.put,List.setIfInBounds_toArray,List.set_cons_zero,List.set_cons_succ,i64_w,i32_w]; rfl)
          refine pure_ (i := 7) (N := some 54) (v := ?_) (a' := ?_) (bo_ 37 231) rfl rfl (any_of HT_.out (by kernel_rfl)) (fun _ _ _ h => h) (Or.inl ⟨by rfl, ?_⟩) ?_ ?_
          rotate_left; (· intro w'; go_simp; with_reducible rfl)
          rotate_left; (· simp only [Act.put,List.setIfInBounds_toArray,List.set_cons_zero,List.set_cons_succ,i64_w,i32_w]; rfl)
          refine take_ (i := 3) (N := some 50) (v := ?_) (a' := ?_) (bo_ 37 239) rfl rfl (take_ofW HT_.out HW_.out (by kernel_rfl)) (fun _ _ _ h => h) (Or.inl ⟨by rfl, ?_⟩) hHeld ?_ ?_
          rotate_left; (· rintro w' ⟨s0, s1⟩; go_simp; with_reducible rfl)
          rotate_left; (· simp only [Act.put,List.setIfInBounds_toArray,List.set_cons_zero,List.set_cons_succ,i64_w,i32_w]; rfl)
          refine take_ (i := 8) (N := some 55) (v := ?_) (a' := ?_) (bo_ 37 495) rfl rfl (take_ofW HT_.out HW_.out (by kernel_rfl)) (fun _ _ _ h => h) (Or.inl ⟨by rfl, ?_⟩) hHeld ?_ ?_
          rotate_left; (· rintro w' ⟨s0, s1⟩; go_simp; with_reducible rfl)
          rotate_left; (· simp only [Act.put,List.setIfInBounds_toArray,List.set_cons_zero,List.set_cons_succ,i64_w,i32_w]; rfl)
          refine one_ (i := 4) (N := some 51) (bo_ 37 511) rfl rfl (one_of HT_.out (by kernel_rfl)) (by decide) (fun K hK => ?_)
          refine goes_ Try.func11 (by kernel_rfl) rfl #[.string (rdOf ByteArray.empty y148 x12_2)] (by rfl) rfl rfl (by (try simp only [List.map_toArray, List.map_cons, List.map_nil]); first | done | rfl | (simp only [List.length_drop, List.length_take]; rfl)) ?_
          with_reducible refine (principal_ValidName.calls k2 (rdOf ByteArray.empty y148 x12_2) t154 _ A24.out).mono ?_
          rintro e w' ⟨rfl, ⟨nd, rfl⟩⟩
          refine ⟨_, rfl, ?_⟩
          refine hK.out _ _ ⟨hHeld.1, hHeld.2⟩ (fun hHeld => ?_)
          clear hK K
          refine norm_ (a' := ?_) ?_ ?_
          rotate_left; (· show Act.put _ (some 51) _ = _; simp only [Act.put,List.setIfInBounds_toArray,List.set_cons_zero,List.set_cons_succ,i64_w,i32_w]; rfl)
          refine one_ (i := 9) (N := some 56) (bo_ 37 1023) rfl rfl (one_of HT_.out (by kernel_rfl)) (by decide) (fun K hK => ?_)
          refine goes_ Try.func12 (by kernel_rfl) rfl #[.string (rdOf ByteArray.empty y148 x12_2)] (by rfl) rfl rfl (by (try simp only [List.map_toArray, List.map_cons, List.map_nil]); first | done | rfl | (simp only [List.length_drop, List.length_take]; rfl)) ?_
          with_reducible refine (kerbsuiteref1_ValidName.calls k2 (rdOf ByteArray.empty y148 x12_2) t156 _ A25.out).mono ?_
          rintro e w' ⟨rfl, ⟨nd, rfl⟩⟩
          refine ⟨_, rfl, ?_⟩
          refine hK.out _ _ ⟨hHeld.1, hHeld.2⟩ (fun hHeld => ?_)
          clear hK K
          refine norm_ (a' := ?_) ?_ ?_
          rotate_left; (· show Act.put _ (some 56) _ = _; simp only [Act.put,List.setIfInBounds_toArray,List.set_cons_zero,List.set_cons_succ,i64_w,i32_w]; rfl)
          refine pure_ (i := 10) (N := some 57) (v := ?_) (a' := ?_) (bo_ 37 2047) rfl rfl (any_of HT_.out (by kernel_rfl)) (fun _ _ _ h => h) (Or.inl ⟨by rfl, ?_⟩) ?_ ?_
          rotate_left; (· intro w'; go_simp; with_reducible rfl)
          rotate_left; (· simp only [Act.put,List.setIfInBounds_toArray,List.set_cons_zero,List.set_cons_succ,i64_w,i32_w]; rfl)
          refine pure_ (i := 11) (N := some 58) (v := ?_) (a' := ?_) (bo_ 37 4095) rfl rfl (any_of HT_.out (by kernel_rfl)) (fun _ _ _ h => h) (Or.inl ⟨by rfl, ?_⟩) ?_ ?_
          rotate_left; (· intro w'; go_simp; with_reducible rfl)
          rotate_left; (· simp only [Act.put,List.setIfInBounds_toArray,List.set_cons_zero,List.set_cons_succ,i64_w,i32_w]; rfl)
          refine pure_ (i := 12) (N := some 59) (v := undef) (a' := ?_) (bo_ 37 8191) rfl rfl (any_of HT_.out (by kernel_rfl)) (fun _ _ _ h => h) (Or.inr ⟨by rfl, rfl⟩) ?_ ?_
          rotate_left; (· simp only [Act.put,List.setIfInBounds_toArray,List.set_cons_zero,List.set_cons_succ,i64_w,i32_w]; rfl)
          refine pure_ (i := 13) (N := some 60) (v := undef) (a' := ?_) (bo_ 37 16383) rfl rfl (any_of HT_.out (by kernel_rfl)) (fun _ _ _ h => h) (Or.inr ⟨by rfl, rfl⟩) ?_ ?_
          rotate_left; (· simp only [Act.put,List.setIfInBounds_toArray,List.set_cons_zero,List.set_cons_succ,i64_w,i32_w]; rfl)
          refine pure_ (i := 14) (N := some 61) (v := undef) (a' := ?_) (bo_ 37 32767) rfl rfl (any_of HT_.out (by kernel_rfl)) (fun _ _ _ h => h) (Or.inr ⟨by rfl, rfl⟩) ?_ ?_
          rotate_left; (· simp only [Act.put,List.setIfInBounds_toArray,List.set_cons_zero,List.set_cons_succ,i64_w,i32_w]; rfl)
          refine pure_ (i := 15) (N := some 62) (v := undef) (a' := ?_) (bo_ 37 65535) rfl rfl (any_of HT_.out (by kernel_rfl)) (fun _ _ _ h => h) (Or.inr ⟨by rfl, rfl⟩) ?_ ?_
          rotate_left; (· simp only [Act.put,List.setIfInBounds_toArray,List.set_cons_zero,List.set_cons_succ,i64_w,i32_w]; rfl)
          refine pure_ (i := 16) (N := some 63) (v := undef) (a' := ?_) (bo_ 37 131071) rfl rfl (any_of HT_.out (by kernel_rfl)) (fun _ _ _ h => h) (Or.inr ⟨by rfl, rfl⟩) ?_ ?_
          rotate_left; (· simp only [Act.put,List.setIfInBounds_toArray,List.set_cons_zero,List.set_cons_succ,i64_w,i32_w]; rfl)
          refine pure_ (i := 17) (N := some 64) (v := undef) (a' := ?_) (bo_ 37 262143) rfl rfl (any_of HT_.out (by kernel_rfl)) (fun _ _ _ h => h) (Or.inr ⟨by rfl, rfl⟩) ?_ ?_
          rotate_left; (· simp only [Act.put,List.setIfInBounds_toArray,List.set_cons_zero,List.set_cons_succ,i64_w,i32_w]; rfl)
          refine pure_ (i := 18) (N := some 65) (v := undef) (a' := ?_) (bo_ 37 524287) rfl rfl (any_of HT_.out (by kernel_rfl)) (fun _ _ _ h => h) (Or.inr ⟨by rfl, rfl⟩) ?_ ?_
          rotate_left; (· simp only [Act.put,List.setIfInBounds_toArray,List.set_cons_zero,List.set_cons_succ,i64_w,i32_w]; rfl)
          refine pure_ (i := 19) (N := some 66) (v := undef) (a' := ?_) (bo_ 37 1048575) rfl rfl (any_of HT_.out (by kernel_rfl)) (fun _ _ _ h => h) (Or.inr ⟨by rfl, rfl⟩) ?_ ?_
          rotate_left; (· simp only [Act.put,List.setIfInBounds_toArray,List.set_cons_zero,List.set_cons_succ,i64_w,i32_w]; rfl)
          refine pure_ (i := 20) (N := some 67) (v := undef) (a' := ?_) (bo_ 37 2097151) rfl rfl (any_of HT_.out (by kernel_rfl)) (fun _ _ _ h => h) (Or.inr ⟨by rfl, rfl⟩) ?_ ?_
          rotate_left; (· simp only [Act.put,List.setIfInBounds_toArray,List.set_cons_zero,List.set_cons_succ,i64_w,i32_w]; rfl)
          refine pure_ (i := 21) (N := some 68) (v := undef) (a' := ?_) (bo_ 37 4194303) rfl rfl (any_of HT_.out (by kernel_rfl)) (fun _ _ _ h => h) (Or.inr ⟨by rfl, rfl⟩) ?_ ?_
          rotate_left; (· simp only [Act.put,List.setIfInBounds_toArray,List.set_cons_zero,List.set_cons_succ,i64_w,i32_w]; rfl)
          refine pure_ (i := 22) (N := some 69) (v := undef) (a' := ?_) (bo_ 37 8388607) rfl rfl (any_of HT_.out (by kernel_rfl)) (fun _ _ _ h => h) (Or.inr ⟨by rfl, rfl⟩) ?_ ?_
          rotate_left; (· simp only [Act.put,List.setIfInBounds_toArray,List.set_cons_zero,List.set_cons_succ,i64_w,i32_w]; rfl)
          refine pure_ (i := 23) (N := some 70) (v := ?_) (a' := ?_) (bo_ 37 16777215) rfl rfl (any_of HT_.out (by kernel_rfl)) (fun _ _ _ h => h) (Or.inl ⟨by rfl, ?_⟩) ?_ ?_
          rotate_left; (· intro w'; go_simp; with_reducible rfl)
          rotate_left; (· simp only [Act.put,List.setIfInBounds_toArray,List.set_cons_zero,List.set_cons_succ,i64_w,i32_w]; rfl)
          refine pure_ (i := 24) (N := some 71) (v := ?_) (a' := ?_) (bo_ 37 33554431) rfl rfl (any_of HT_.out (by kernel_rfl)) (fun _ _ _ h => h) (Or.inl ⟨by rfl, ?_⟩) ?_ ?_
          rotate_left; (· intro w'; go_simp; with_reducible rfl)
          rotate_left; (· simp only [Act.put,List.setIfInBounds_toArray,List.set_cons_zero,List.set_cons_succ,i64_w,i32_w]; rfl)
          refine pure_ (i := 25) (N := some 72) (v := undef) (a' := ?_) (bo_ 37 67108863) rfl rfl (any_of HT_.out (by kernel_rfl)) (fun _ _ _ h => h) (Or.inr ⟨by rfl, rfl⟩) ?_ ?_
          rotate_left; (· simp only [Act.put,List.setIfInBounds_toArray,List.set_cons_zero,List.set_cons_succ,i64_w,i32_w]; rfl)
          refine pure_ (i := 26) (N := some 73) (v := undef) (a' := ?_) (bo_ 37 134217727) rfl rfl (any_of HT_.out (by kernel_rfl)) (fun _ _ _ h => h) (Or.inr ⟨by rfl, rfl⟩) ?_ ?_
          rotate_left; (· simp only [Act.put,List.setIfInBounds_toArray,List.set_cons_zero,List.set_cons_succ,i64_w,i32_w]; rfl)
          refine pure_ (i := 27) (N := some 74) (v := undef) (a' := ?_) (bo_ 37 268435455) rfl rfl (any_of HT_.out (by kernel_rfl)) (fun _ _ _ h => h) (Or.inr ⟨by rfl, rfl⟩) ?_ ?_
          rotate_left; (· simp only [Act.put,List.setIfInBounds_toArray,List.set_cons_zero,List.set_cons_succ,i64_w,i32_w]; rfl)
          refine pure_ (i := 28) (N := some 75) (v := undef) (a' := ?_) (bo_ 37 536870911) rfl rfl (any_of HT_.out (by kernel_rfl)) (fun _ _ _ h => h) (Or.inr ⟨by rfl, rfl⟩) ?_ ?_
          rotate_left; (· simp only [Act.put,List.setIfInBounds_toArray,List.set_cons_zero,List.set_cons_succ,i64_w,i32_w]; rfl)
          refine pure_ (i := 29) (N := some 76) (v := undef) (a' := ?_) (bo_ 37 1073741823) rfl rfl (any_of HT_.out (by kernel_rfl)) (fun _ _ _ h => h) (Or.inr ⟨by rfl, rfl⟩) ?_ ?_
          rotate_left; (· simp only [Act.put,List.setIfInBounds_toArray,List.set_cons_zero,List.set_cons_succ,i64_w,i32_w]; rfl)
          refine pure_ (i := 30) (N := some 77) (v := undef) (a' := ?_) (bo_ 37 2147483647) rfl rfl (any_of HT_.out (by kernel_rfl)) (fun _ _ _ h => h) (Or.inr ⟨by rfl, rfl⟩) ?_ ?_
          rotate_left; (· simp only [Act.put,List.setIfInBounds_toArray,List.set_cons_zero,List.set_cons_succ,i64_w,i32_w]; rfl)
          refine pure_ (i := 31) (N := some 78) (v := undef) (a' := ?_) (bo_ 37 4294967295) rfl rfl (any_of HT_.out (by kernel_rfl)) (fun _ _ _ h => h) (Or.inr ⟨by rfl, rfl⟩) ?_ ?_
          rotate_left; (· simp only [Act.put,List.setIfInBounds_toArray,List.set_cons_zero,List.set_cons_succ,i64_w,i32_w]; rfl)
          refine pure_ (i := 32) (N := some 79) (v := undef) (a' := ?_) (bo_ 37 8589934591) rfl rfl (any_of HT_.out (by kernel_rfl)) (fun _ _ _ h => h) (Or.inr ⟨by rfl, rfl⟩) ?_ ?_
          rotate_left; (· simp only [Act.put,List.setIfInBounds_toArray,List.set_cons_zero,List.set_cons_succ,i64_w,i32_w]; rfl)
          refine pure_ (i := 33) (N := some 80) (v := undef) (a' := ?_) (bo_ 37 17179869183) rfl rfl (any_of HT_.out (by kernel_rfl)) (fun _ _ _ h => h) (Or.inr ⟨by rfl, rfl⟩) ?_ ?_
          rotate_left; (· simp only [Act.put,List.setIfInBounds_toArray,List.set_cons_zero,List.set_cons_succ,i64_w,i32_w]; rfl)
          refine pure_ (i := 34) (N := some 81) (v := undef) (a' := ?_) (bo_ 37 34359738367) rfl rfl (any_of HT_.out (by kernel_rfl)) (fun _ _ _ h => h) (Or.inr ⟨by rfl, rfl⟩) ?_ ?_
          rotate_left; (· simp only [Act.put,List.setIfInBounds_toArray,List.set_cons_zero,List.set_cons_succ,i64_w,i32_w]; rfl)
          refine pure_ (i := 35) (N := some 82) (v := undef) (a' := ?_) (bo_ 37 68719476735) rfl rfl (any_of HT_.out (by kernel_rfl)) (fun _ _ _ h => h) (Or.inr ⟨by rfl, rfl⟩) ?_ ?_
          rotate_left; (· simp only [Act.put,List.setIfInBounds_toArray,List.set_cons_zero,List.set_cons_succ,i64_w,i32_w]; rfl)
          refine pure_ (i := 36) (N := some 83) (v := ?_) (a' := ?_) (bo_ 37 137438953471) rfl rfl (any_of HT_.out (by kernel_rfl)) (fun _ _ _ h => h) (Or.inl ⟨by rfl, ?_⟩) ?_ ?_
          rotate_left; (· intro w'; go_simp; with_reducible rfl)
          rotate_left; (· simp only [Act.put,List.setIfInBounds_toArray,List.set_cons_zero,List.set_cons_succ,i64_w,i32_w]; rfl)
          refine done_ (done_of HT_.out (by kernel_rfl)) ?_
          try go_wp2
          go_ret
          exact ⟨by first | rfl | (simp [errW_none, errW_some] <;> rfl) | (simp [*, errW_none, errW_some] <;> rfl), by repeat (first | (with_reducible first | exact HB.out | apply below_alloc | apply pw_below_drewN | apply below_drew1 | refine below_set ?_ GE143.out) | exact HB.out)⟩
         ·rw [if_neg c26] at H
          have c26b0 : (t154 != t156) = false := by simpa using c26
          (try (have c26b1 : decide (t154 = t156) = true := by simpa using c26))
          (try (have c26b2 : (t154 == t156) = true := by simpa using c26))
          clear c26
          replace H := Option.bind_eq_some_iff.mp H
          obtain ⟨t158, A290, H⟩ := H
          replace H : ((kerbsuiteref1_ValidInstance.f k2 (rdOf ByteArray.empty y148 x12_2)).bind fun t160 => (if (t158 != t160) = true then (some false) else ((principal_ValidRealm.f k2 (rdOf ByteArray.empty y148 x12_2)).bind fun t162 => ((kerbsuiteref1_ValidRealm.f k2 (rdOf ByteArray.empty y148 x12_2)).bind fun t164 => (if (t162 != t164) = true then (some false) else (kerbsuitelaw1_PrincipalValid.l0 k2 y148 (wrap64 (x12_2 + 1)) a4_0 a4_1 a4_2)))))) = some r := H
          have A29 := Aside0.mk A290
          clear A290
          replace H := Option.bind_eq_some_iff.mp H
          obtain ⟨t160, A300, H⟩ := H
          replace H : (if (t158 != t160) = true then (some false) else ((principal_ValidRealm.f k2 (rdOf ByteArray.empty y148 x12_2)).bind fun t162 => ((kerbsuiteref1_ValidRealm.f k2 (rdOf ByteArray.empty y148 x12_2)).bind fun t164 => (if (t162 != t164) = true then (some false) else (kerbsuitelaw1_PrincipalValid.l0 k2 y148 (wrap64 (x12_2 + 1)) a4_0 a4_1 a4_2))))) = some r := H
          have A30 := Aside0.mk A300
          clear A300
          by_cases c31 : (t158 != t160) = true
          ·rw [if_pos c31] at H
           have c31b0 : (t158 != t160) = true := c31
           (try (have c31b1 : decide (t158 = t160) = false := by simpa using c31))
           (try (have c31b2 : (t158 == t160) = false := by simpa using c31))
           (try (have c31b3 : ¬ (t158 = t160) := by simpa using c31))
           clear c31
           obtain rfl := Option.some.inj H
           obtain ⟨Ao32, co32, eo32⟩ := Kd.R_slice HO_11.out
           subst eo32
           try go_wp2
           have n0_ := Aside0.mk (Kd.R_drew HO_11.out)
           have n1_ := Aside0.mk (blk_drew BK143.out)
           have n2_ := Aside0.mk (below_drew1 HB.out)
           clear HO_11
           clear BK143
           clear HB
           have HO_11 := n0_
           have BK143 := n1_
           have HB := n2_
           clear n0_ n1_ n2_
           have p153 : 0 ≤ (x12_2 : Int) := of_decide_eq_true (by first | (with_reducible assumption) | assumption)
           have q153 : x12_2 < (y148.length : Int) := of_decide_eq_true (by first | (with_reducible assumption) | assumption)
           obtain ⟨ad153, e153, hx153_0⟩ := Kd.at_string (Kd.R_reads' HO_11.out).2.2 x12_2 p153 q153
           cases e153
           replace p153 := eq_true p153
           replace q153 := eq_true q153
           have p155 : 0 ≤ (x12_2 : Int) := of_decide_eq_true (by first | (with_reducible assumption) | assumption)
           have q155 : x12_2 < (y148.length : Int) := of_decide_eq_true (by first | (with_reducible assumption) | assumption)
           obtain ⟨ad155, e155, hx155_0⟩ := Kd.at_string (Kd.R_reads' HO_11.out).2.2 x12_2 p155 q155
           obtain rfl : ad153 = ad155 := (by injection e155)
           replace p155 := eq_true p155
           replace q155 := eq_true q155
           have p157 : 0 ≤ (x12_2 : Int) := of_decide_eq_true (by first | (with_reducible assumption) | assumption)
           have q157 : x12_2 < (y148.length : Int) := of_decide_eq_true (by first | (with_reducible assumption) | assumption)
           obtain ⟨ad157, e157, hx157_0⟩ := Kd.at_string (Kd.R_reads' HO_11.out).2.2 x12_2 p157 q157
           obtain rfl : ad153 = ad157 := (by injection e157)
           replace p157 := eq_true p157
           replace q157 := eq_true q157
           have p159 : 0 ≤ (x12_2 : Int) := of_decide_eq_true (by first | (with_reducible assumption) | assumption)
           have q159 : x12_2 < (y148.length : Int) := of_decide_eq_true (by first | (with_reducible assumption) | assumption)
           obtain ⟨ad159, e159, hx159_0⟩ := Kd.at_string (Kd.R_reads' HO_11.out).2.2 x12_2 p159 q159
           obtain rfl : ad153 = ad159 := (by injection e159)
           replace p159 := eq_true p159
           replace q159 := eq_true q159
           refine start_ (n := 37) (S := fun w' => w'.cell? (ad153.add (x12_2).toNat) = some (.string (rdOf ByteArray.empty y148 x12_2)) ∧ w'.cell? (ad153.add (x12_2).toNat) = some (.string (rdOf ByteArray.empty y148 x12_2)) ∧ w'.cell? (ad153.add (x12_2).toNat) = some (.string (rdOf ByteArray.empty y148 x12_2)) ∧ w'.cell? (ad153.add (x12_2).toNat) = some (.string (rdOf ByteArray.empty y148 x12_2))) (ds := []) #[false,false,false,false,false,false,false,false,false,false,false,false,false,false,false,false,false,false,false,false,false,false,false,false,false,false,false,false,false,false,false,false,false,false,false,false,false] (by kernel_rfl) rfl rfl ⟨hx153_0, hx155_0, hx157_0, hx159_0⟩ (fun hHeld => ?_); refine with_tabW kerbsuitelaw1_PrincipalValid.tab9 kerbsuitelaw1_PrincipalValid.bits9 (fun HT_ HW_ => ?_)
           generalize wr.drew = w33 at HO_11 BK143 HB hx153_0 hx155_0 hx157_0 hx159_0 hHeld ⊢
           refine pure_ (i := 0) (N := some 47) (v := ?_) (a' := ?_) (bo_ 37 1) rfl rfl (any_of HT_.out (by kernel_rfl)) (fun _ _ _ h => h) (Or.inl ⟨by rfl, ?_⟩) ?_ ?_
           rotate_left; (· intro w'; go_simp; with_reducible rfl)
           rotate_left; (· simp only [Act.put,List.setIfInBounds_toArray,List.set_cons_zero,List.set_cons_succ,i64_w,i32_w]; rfl)
           refine pure_ (i := 1) (N := some 48) (v := ?_) (a' := ?_) (bo_ 37 3) rfl rfl (any_of HT_.out (by kernel_rfl)) (fun _ _ _ h => h) (Or.inl ⟨by rfl, ?_⟩) ?_ ?_
           rotate_left; (· intro w'; go_simp; with_reducible rfl)
           rotate_left; (· simp only [Act.put,List.setIfInBounds_toArray,List.set_cons_zero,List.set_cons_succ,i64_w,i32_w]; rfl)
           refine pure_ (i := 2) (N := some 49) (v := ?_) (a' := ?_) (bo_ 37 7) rfl rfl (any_of HT_.out (by kernel_rfl)) (fun _ _ _ h => h) (Or.inl ⟨by rfl, ?_⟩) ?_ ?_
           rotate_left; (· intro w'; go_simp; with_reducible rfl)
           rotate_left; (· simp only [Act.put,List.setIfInBounds_toArray,List.set_cons_zero,List.set_cons_succ,i64_w,i32_w]; rfl)
           refine pure_ (i := 5) (N := some 52) (v := ?_) (a' := ?_) (bo_ 37 39) rfl rfl (any_of HT_.out (by kernel_rfl)) (fun _ _ _ h => h) (Or.inl ⟨by rfl, ?_⟩) ?_ ?_
           rotate_left; (· intro w'; go_simp; with_reducible rfl)
           rotate_left; (· simp only [Act.put,List.setIfInBounds_toArray,List.set_cons_zero,List.set_cons_succ,i64_w,i32_w]; rfl)
           refine pure_ (i := 6) (N := some 53) (v := ?_) (a' := ?_) (bo_ 37 103) rfl rfl (any_of HT_.out (by kernel_rfl)) (fun _ _ _ h => h) (Or.inl ⟨by rfl, ?_⟩) ?_ ?_
           rotate_left; (· intro w'; go_simp; with_reducible rfl)
           rotate_left; (· simp only [Act.put,List.setIfInBounds_toArray,List.set_cons_zero,List.set_cons_succ,i64_w,i32_w]; rfl)
           refine pure_ (i := 7) (N := some 54) (v := ?_) (a' := ?_) (bo_ 37 231) rfl rfl (any_of HT_.out (by kernel_rfl)) (fun _ _ _ h => h) (Or.inl ⟨by rfl, ?_⟩) ?_ ?_
           rotate_left; (· intro w'; go_simp; with_reducible rfl)
           rotate_left; (· simp only [Act.put,List.setIfInBounds_toArray,List.set_cons_zero,List.set_cons_succ,i64_w,i32_w]; rfl)
           refine take_ (i := 3) (N := some 50) (v := ?_) (a' := ?_) (bo_ 37 239) rfl rfl (take_ofW HT_.out HW_.out (by kernel_rfl)) (fun _ _ _ h => h) (Or.inl ⟨by rfl, ?_⟩) hHeld ?_ ?_
           rotate_left; (· rintro w' ⟨s0, s1, s2, s3⟩; go_simp; with_reducible rfl)
           rotate_left; (· simp only [Act.put,List.setIfInBounds_toArray,List.set_cons_zero,List.set_cons_succ,i64_w,i32_w]; rfl)
           refine take_ (i := 8) (N := some 55) (v := ?_) (a' := ?_) (bo_ 37 495) rfl rfl (take_ofW HT_.out HW_.out (by kernel_rfl)) (fun _ _ _ h => h) (Or.inl ⟨by rfl, ?_⟩) hHeld ?_ ?_
           rotate_left; (· rintro w' ⟨s0, s1, s2, s3⟩; go_simp; with_reducible rfl)
           rotate_left; (· simp only [Act.put,List.setIfInBounds_toArray,List.set_cons_zero,List.set_cons_succ,i64_w,i32_w]; rfl)
           refine one_ (i := 4) (N := some 51) (bo_ 37 511) rfl rfl (one_of HT_.out (by kernel_rfl)) (by decide) (fun K hK => ?_)
           refine goes_ Try.func11 (by kernel_rfl) rfl #[.string (rdOf ByteArray.empty y148 x12_2)] (by rfl) rfl rfl (by (try simp only [List.map_toArray, List.map_cons, List.map_nil]); first | done | rfl | (simp only [List.length_drop, List.length_take]; rfl)) ?_
           with_reducible refine (principal_ValidName.calls k2 (rdOf ByteArray.empty y148 x12_2) t154 _ A24.out).mono ?_
           rintro e w' ⟨rfl, ⟨nd, rfl⟩⟩
           refine ⟨_, rfl, ?_⟩
           refine hK.out _ _ ⟨hHeld.1, hHeld.2.1, hHeld.2.2.1, hHeld.2.2.2⟩ (fun hHeld => ?_)
           clear hK K
           refine norm_ (a' := ?_) ?_ ?_
           rotate_left; (· show Act.put _ (some 51) _ = _; simp only [Act.put,List.setIfInBounds_toArray,List.set_cons_zero,List.set_cons_succ,i64_w,i32_w]; rfl)
           refine one_ (i := 9) (N := some 56) (bo_ 37 1023) rfl rfl (one_of HT_.out (by kernel_rfl)) (by decide) (fun K hK => ?_)
           refine goes_ Try.func12 (by kernel_rfl) rfl #[.string (rdOf ByteArray.empty y148 x12_2)] (by rfl) rfl rfl (by (try simp only [List.map_toArray, List.map_cons, List.map_nil]); first | done | rfl | (simp only [List.length_drop, List.length_take]; rfl)) ?_
           with_reducible refine (kerbsuiteref1_ValidName.calls k2 (rdOf ByteArray.empty y148 x12_2) t156 _ A25.out).mono ?_
           rintro e w' ⟨rfl, ⟨nd, rfl⟩⟩
           refine ⟨_, rfl, ?_⟩
           refine hK.out _ _ ⟨hHeld.1, hHeld.2.1, hHeld.2.2.1, hHeld.2.2.2⟩ (fun hHeld => ?_)
           clear hK K
           refine norm_ (a' := ?_) ?_ ?_
           rotate_left; (· show Act.put _ (some 56) _ = _; simp only [Act.put,List.setIfInBounds_toArray,List.set_cons_zero,List.set_cons_succ,i64_w,i32_w]; rfl)
           refine pure_ (i := 10) (N := some 57) (v := ?_) (a' := ?_) (bo_ 37 2047) rfl rfl (any_of HT_.out (by kernel_rfl)) (fun _ _ _ h => h) (Or.inl ⟨by rfl, ?_⟩) ?_ ?_
           rotate_left; (· intro w'; go_simp; with_reducible rfl)
           rotate_left; (· simp only [Act.put,List.setIfInBounds_toArray,List.set_cons_zero,List.set_cons_succ,i64_w,i32_w]; rfl)
           refine pure_ (i := 11) (N := some 58) (v := ?_) (a' := ?_) (bo_ 37 4095) rfl rfl (any_of HT_.out (by kernel_rfl)) (fun _ _ _ h => h) (Or.inl ⟨by rfl, ?_⟩) ?_ ?_
           rotate_left; (· intro w'; go_simp; with_reducible rfl)
           rotate_left; (· simp only [Act.put,List.setIfInBounds_toArray,List.set_cons_zero,List.set_cons_succ,i64_w,i32_w]; rfl)
           refine pure_ (i := 12) (N := some 59) (v := ?_) (a' := ?_) (bo_ 37 8191) rfl rfl (any_of HT_.out (by kernel_rfl)) (fun _ _ _ h => h) (Or.inl ⟨by rfl, ?_⟩) ?_ ?_
           rotate_left; (· intro w'; go_simp; with_reducible rfl)
           rotate_left; (· simp only [Act.put,List.setIfInBounds_toArray,List.set_cons_zero,List.set_cons_succ,i64_w,i32_w]; rfl)
           refine pure_ (i := 13) (N := some 60) (v := ?_) (a' := ?_) (bo_ 37 16383) rfl rfl (any_of HT_.out (by kernel_rfl)) (fun _ _ _ h => h) (Or.inl ⟨by rfl, ?_⟩) ?_ ?_
           rotate_left; (· intro w'; go_simp; with_reducible rfl)
           rotate_left; (· simp only [Act.put,List.setIfInBounds_toArray,List.set_cons_zero,List.set_cons_succ,i64_w,i32_w]; rfl)
           refine pure_ (i := 14) (N := some 61) (v := ?_) (a' := ?_) (bo_ 37 32767) rfl rfl (any_of HT_.out (by kernel_rfl)) (fun _ _ _ h => h) (Or.inl ⟨by rfl, ?_⟩) ?_ ?_
           rotate_left; (· intro w'; go_simp; with_reducible rfl)
           rotate_left; (· simp only [Act.put,List.setIfInBounds_toArray,List.set_cons_zero,List.set_cons_succ,i64_w,i32_w]; rfl)
           refine pure_ (i := 17) (N := some 64) (v := ?_) (a' := ?_) (bo_ 37 163839) rfl rfl (any_of HT_.out (by kernel_rfl)) (fun _ _ _ h => h) (Or.inl ⟨by rfl, ?_⟩) ?_ ?_
           rotate_left; (· intro w'; go_simp; with_reducible rfl)
           rotate_left; (· simp only [Act.put,List.setIfInBounds_toArray,List.set_cons_zero,List.set_cons_succ,i64_w,i32_w]; rfl)
           refine pure_ (i := 18) (N := some 65) (v := ?_) (a' := ?_) (bo_ 37 425983) rfl rfl (any_of HT_.out (by kernel_rfl)) (fun _ _ _ h => h) (Or.inl ⟨by rfl, ?_⟩) ?_ ?_
           rotate_left; (· intro w'; go_simp; with_reducible rfl)
           rotate_left; (· simp only [Act.put,List.setIfInBounds_toArray,List.set_cons_zero,List.set_cons_succ,i64_w,i32_w]; rfl)
           refine pure_ (i := 19) (N := some 66) (v := ?_) (a' := ?_) (bo_ 37 950271) rfl rfl (any_of HT_.out (by kernel_rfl)) (fun _ _ _ h => h) (Or.inl ⟨by rfl, ?_⟩) ?_ ?_
           rotate_left; (· intro w'; go_simp; with_reducible rfl)
           rotate_left; (· simp only [Act.put,List.setIfInBounds_toArray,List.set_cons_zero,List.set_cons_succ,i64_w,i32_w]; rfl)
           refine take_ (i := 15) (N := some 62) (v := ?_) (a' := ?_) (bo_ 37 983039) rfl rfl (take_ofW HT_.out HW_.out (by kernel_rfl)) (fun _ _ _ h => h) (Or.inl ⟨by rfl, ?_⟩) hHeld ?_ ?_
           rotate_left; (· rintro w' ⟨s0, s1, s2, s3⟩; go_simp; with_reducible rfl)
           rotate_left; (· simp only [Act.put,List.setIfInBounds_toArray,List.set_cons_zero,List.set_cons_succ,i64_w,i32_w]; rfl)
           refine take_ (i := 20) (N := some 67) (v := ?_) (a' := ?_) (bo_ 37 2031615) rfl rfl (take_ofW HT_.out HW_.out (by kernel_rfl)) (fun _ _ _ h => h) (Or.inl ⟨by rfl, ?_⟩) hHeld ?_ ?_
           rotate_left; (· rintro w' ⟨s0, s1, s2, s3⟩; go_simp; with_reducible rfl)
           rotate_left; (· simp only [Act.put,List.setIfInBounds_toArray,List.set_cons_zero,List.set_cons_succ,i64_w,i32_w]; rfl)
           refine one_ (i := 16) (N := some 63) (bo_ 37 2097151) rfl rfl (one_of HT_.out (by kernel_rfl)) (by decide) (fun K hK => ?_)
           refine goes_ Try.func13 (by kernel_rfl) rfl #[.string (rdOf ByteArray.empty y148 x12_2)] (by rfl) rfl rfl (by (try simp only [List.map_toArray, List.map_cons, List.map_nil]); first | done | rfl | (simp only [List.length_drop, List.length_take]; rfl)) ?_
           with_reducible refine (principal_ValidInstance.calls k2 (rdOf ByteArray.empty y148 x12_2) t158 _ A29.out).mono ?_
           rintro e w' ⟨rfl, ⟨nd, rfl⟩⟩
           refine ⟨_, rfl, ?_⟩
           refine hK.out _ _ ⟨hHeld.1, hHeld.2.1, hHeld.2.2.1, hHeld.2.2.2⟩ (fun hHeld => ?_)
           clear hK K
           refine norm_ (a' := ?_) ?_ ?_
           rotate_left; (· show Act.put _ (some 63) _ = _; simp only [Act.put,List.setIfInBounds_toArray,List.set_cons_zero,List.set_cons_succ,i64_w,i32_w]; rfl)
           refine one_ (i := 21) (N := some 68) (bo_ 37 4194303) rfl rfl (one_of HT_.out (by kernel_rfl)) (by decide) (fun K hK => ?_)
           refine goes_ Try.func14 (by kernel_rfl) rfl #[.string (rdOf ByteArray.empty y148 x12_2)] (by rfl) rfl rfl (by (try simp only [List.map_toArray, List.map_cons, List.map_nil]); first | done | rfl | (simp only [List.length_drop, List.length_take]; rfl)) ?_
           with_reducible refine (kerbsuiteref1_ValidInstance.calls k2 (rdOf ByteArray.empty y148 x12_2) t160 _ A30.out).mono ?_
           rintro e w' ⟨rfl, ⟨nd, rfl⟩⟩
           refine ⟨_, rfl, ?_⟩
           refine hK.out _ _ ⟨hHeld.1, hHeld.2.1, hHeld.2.2.1, hHeld.2.2.2⟩ (fun hHeld => ?_)
           clear hK K
           refine norm_ (a' := ?_) ?_ ?_
           rotate_left; (· show Act.put _ (some 68) _ = _; simp only [Act.put,List.setIfInBounds_toArray,List.set_cons_zero,List.set_cons_succ,i64_w,i32_w]; rfl)
           refine pure_ (i := 22) (N := some 69) (v := ?_) (a' := ?_) (bo_ 37 8388607) rfl rfl (any_of HT_.out (by kernel_rfl)) (fun _ _ _ h => h) (Or.inl ⟨by rfl, ?_⟩) ?_ ?_
           rotate_left; (· intro w'; go_simp; with_reducible rfl)
           rotate_left; (· simp only [Act.put,List.setIfInBounds_toArray,List.set_cons_zero,List.set_cons_succ,i64_w,i32_w]; rfl)
           refine pure_ (i := 23) (N := some 70) (v := ?_) (a' := ?_) (bo_ 37 16777215) rfl rfl (any_of HT_.out (by kernel_rfl)) (fun _ _ _ h => h) (Or.inl ⟨by rfl, ?_⟩) ?_ ?_
           rotate_left; (· intro w'; go_simp; with_reducible rfl)
           rotate_left; (· simp only [Act.put,List.setIfInBounds_toArray,List.set_cons_zero,List.set_cons_succ,i64_w,i32_w]; rfl)
           refine pure_ (i := 24) (N := some 71) (v := ?_) (a' := ?_) (bo_ 37 33554431) rfl rfl (any_of HT_.out (by kernel_rfl)) (fun _ _ _ h => h) (Or.inl ⟨by rfl, ?_⟩) ?_ ?_
           rotate_left; (· intro w'; go_simp; with_reducible rfl)
           rotate_left; (· simp only [Act.put,List.setIfInBounds_toArray,List.set_cons_zero,List.set_cons_succ,i64_w,i32_w]; rfl)
           refine pure_ (i := 25) (N := some 72) (v := undef) (a' := ?_) (bo_ 37 67108863) rfl rfl (any_of HT_.out (by kernel_rfl)) (fun _ _ _ h => h) (Or.inr ⟨by rfl, rfl⟩) ?_ ?_
           rotate_left; (· simp only [Act.put,List.setIfInBounds_toArray,List.set_cons_zero,List.set_cons_succ,i64_w,i32_w]; rfl)
           refine pure_ (i := 26) (N := some 73) (v := undef) (a' := ?_) (bo_ 37 134217727) rfl rfl (any_of HT_.out (by kernel_rfl)) (fun _ _ _ h => h) (Or.inr ⟨by rfl, rfl⟩) ?_ ?_
           rotate_left; (· simp only [Act.put,List.setIfInBounds_toArray,List.set_cons_zero,List.set_cons_succ,i64_w,i32_w]; rfl)
           refine pure_ (i := 27) (N := some 74) (v := undef) (a' := ?_) (bo_ 37 268435455) rfl rfl (any_of HT_.out (by kernel_rfl)) (fun _ _ _ h => h) (Or.inr ⟨by rfl, rfl⟩) ?_ ?_
           rotate_left; (· simp only [Act.put,List.setIfInBounds_toArray,List.set_cons_zero,List.set_cons_succ,i64_w,i32_w]; rfl)
           refine pure_ (i := 28) (N := some 75) (v := undef) (a' := ?_) (bo_ 37 536870911) rfl rfl (any_of HT_.out (by kernel_rfl)) (fun _ _ _ h => h) (Or.inr ⟨by rfl, rfl⟩) ?_ ?_
           rotate_left; (· simp only [Act.put,List.setIfInBounds_toArray,List.set_cons_zero,List.set_cons_succ,i64_w,i32_w]; rfl)
           refine pure_ (i := 29) (N := some 76) (v := undef) (a' := ?_) (bo_ 37 1073741823) rfl rfl (any_of HT_.out (by kernel_rfl)) (fun _ _ _ h => h) (Or.inr ⟨by rfl, rfl⟩) ?_ ?_
           rotate_left; (· simp only [Act.put,List.setIfInBounds_toArray,List.set_cons_zero,List.set_cons_succ,i64_w,i32_w]; rfl)
           refine pure_ (i := 30) (N := some 77) (v := undef) (a' := ?_) (bo_ 37 2147483647) rfl rfl (any_of HT_.out (by kernel_rfl)) (fun _ _ _ h => h) (Or.inr ⟨by rfl, rfl⟩) ?_ ?_
           rotate_left; (· simp only [Act.put,List.setIfInBounds_toArray,List.set_cons_zero,List.set_cons_succ,i64_w,i32_w]; rfl)
           refine pure_ (i := 31) (N := some 78) (v := undef) (a' := ?_) (bo_ 37 4294967295) rfl rfl (any_of HT_.out (by kernel_rfl)) (fun _ _ _ h => h) (Or.inr ⟨by rfl, rfl⟩) ?_ ?_
           rotate_left; (· simp only [Act.put,List.setIfInBounds_toArray,List.set_cons_zero,List.set_cons_succ,i64_w,i32_w]; rfl)
           refine pure_ (i := 32) (N := some 79) (v := undef) (a' := ?_) (bo_ 37 8589934591) rfl rfl (any_of HT_.out (by kernel_rfl)) (fun _ _ _ h => h) (Or.inr ⟨by rfl, rfl⟩) ?_ ?_
           rotate_left; (· simp only [Act.put,List.setIfInBounds_toArray,List.set_cons_zero,List.set_cons_succ,i64_w,i32_w]; rfl)
           refine pure_ (i := 33) (N := some 80) (v := undef) (a' := ?_) (bo_ 37 17179869183) rfl rfl (any_of HT_.out (by kernel_rfl)) (fun _ _ _ h => h) (Or.inr ⟨by rfl, rfl⟩) ?_ ?_
           rotate_left; (· simp only [Act.put,List.setIfInBounds_toArray,List.set_cons_zero,List.set_cons_succ,i64_w,i32_w]; rfl)
           refine pure_ (i := 34) (N := some 81) (v := undef) (a' := ?_) (bo_ 37 34359738367) rfl rfl (any_of HT_.out (by kernel_rfl)) (fun _ _ _ h => h) (Or.inr ⟨by rfl, rfl⟩) ?_ ?_
           rotate_left; (· simp only [Act.put,List.setIfInBounds_toArray,List.set_cons_zero,List.set_cons_succ,i64_w,i32_w]; rfl)
           refine pure_ (i := 35) (N := some 82) (v := undef) (a' := ?_) (bo_ 37 68719476735) rfl rfl (any_of HT_.out (by kernel_rfl)) (fun _ _ _ h => h) (Or.inr ⟨by rfl, rfl⟩) ?_ ?_
           rotate_left; (· simp only [Act.put,List.setIfInBounds_toArray,List.set_cons_zero,List.set_cons_succ,i64_w,i32_w]; rfl)
           refine pure_ (i := 36) (N := some 83) (v := ?_) (a' := ?_) (bo_ 37 137438953471) rfl rfl (any_of HT_.out (by kernel_rfl)) (fun _ _ _ h => h) (Or.inl ⟨by rfl, ?_⟩) ?_ ?_
           rotate_left; (· intro w'; go_simp; with_reducible rfl)
           rotate_left; (· simp only [Act.put,List.setIfInBounds_toArray,List.set_cons_zero,List.set_cons_succ,i64_w,i32_w]; rfl)
           refine done_ (done_of HT_.out (by kernel_rfl)) ?_
           try go_wp2
           go_ret
           exact ⟨by first | rfl | (simp [errW_none, errW_some] <;> rfl) | (simp [*, errW_none, errW_some] <;> rfl), by repeat (first | (with_reducible first | exact HB.out | apply below_alloc | apply pw_below_drewN | apply below_drew1 | refine below_set ?_ GE143.out) | exact HB.out)⟩
          ·rw [if_neg c31] at H
           have c31b0 : (t158 != t160) = false := by simpa using c31
           (try (have c31b1 : decide (t158 = t160) = true := by simpa using c31))
           (try (have c31b2 : (t158 == t160) = true := by simpa using c31))
           clear c31
           replace H := Option.bind_eq_some_iff.mp H
           obtain ⟨t162, A340, H⟩ := H
           replace H : ((kerbsuiteref1_ValidRealm.f k2 (rdOf ByteArray.empty y148 x12_2)).bind fun t164 => (if (t162 != t164) = true then (some false) else (kerbsuitelaw1_PrincipalValid.l0 k2 y148 (wrap64 (x12_2 + 1)) a4_0 a4_1 a4_2))) = some r := H
           have A34 := Aside0.mk A340
           clear A340
           replace H := Option.bind_eq_some_iff.mp H
           obtain ⟨t164, A350, H⟩ := H
           replace H : (if (t162 != t164) = true then (some false) else (kerbsuitelaw1_PrincipalValid.l0 k2 y148 (wrap64 (x12_2 + 1)) a4_0 a4_1 a4_2)) = some r := H
           have A35 := Aside0.mk A350
           clear A350
           by_cases c36 : (t162 != t164) = true
           ·rw [if_pos c36] at H
            have c36b0 : (t162 != t164) = true := c36
            (try (have c36b1 : decide (t162 = t164) = false := by simpa using c36))
            (try (have c36b2 : (t162 == t164) = false := by simpa using c36))
            (try (have c36b3 : ¬ (t162 = t164) := by simpa using c36))
            clear c36
            obtain rfl := Option.some.inj H
            obtain ⟨Ao37, co37, eo37⟩ := Kd.R_slice HO_11.out
            subst eo37
            try go_wp2
            have n0_ := Aside0.mk (Kd.R_drew HO_11.out)
            have n1_ := Aside0.mk (blk_drew BK143.out)
            have n2_ := Aside0.mk (below_drew1 HB.out)
            clear HO_11
            clear BK143
            clear HB
            have HO_11 := n0_
            have BK143 := n1_
            have HB := n2_
            clear n0_ n1_ n2_
            have p153 : 0 ≤ (x12_2 : Int) := of_decide_eq_true (by first | (with_reducible assumption) | assumption)
            have q153 : x12_2 < (y148.length : Int) := of_decide_eq_true (by first | (with_reducible assumption) | assumption)
            obtain ⟨ad153, e153, hx153_0⟩ := Kd.at_string (Kd.R_reads' HO_11.out).2.2 x12_2 p153 q153
            cases e153
            replace p153 := eq_true p153
            replace q153 := eq_true q153
            have p155 : 0 ≤ (x12_2 : Int) := of_decide_eq_true (by first | (with_reducible assumption) | assumption)
            have q155 : x12_2 < (y148.length : Int) := of_decide_eq_true (by first | (with_reducible assumption) | assumption)
            obtain ⟨ad155, e155, hx155_0⟩ := Kd.at_string (Kd.R_reads' HO_11.out).2.2 x12_2 p155 q155
            obtain rfl : ad153 = ad155 := (by injection e155)
            replace p155 := eq_true p155
            replace q155 := eq_true q155
            have p157 : 0 ≤ (x12_2 : Int) := of_decide_eq_true (by first | (with_reducible assumption) | assumption)
            have q157 : x12_2 < (y148.length : Int) := of_decide_eq_true (by first | (with_reducible assumption) | assumption)
            obtain ⟨ad157, e157, hx157_0⟩ := Kd.at_string (Kd.R_reads' HO_11.out).2.2 x12_2 p157 q157
            obtain rfl : ad153 = ad157 := (by injection e157)
            replace p157 := eq_true p157
            replace q157 := eq_true q157
            have p159 : 0 ≤ (x12_2 : Int) := of_decide_eq_true (by first | (with_reducible assumption) | assumption)
            have q159 : x12_2 < (y148.length : Int) := of_decide_eq_true (by first | (with_reducible assumption) | assumption)
            obtain ⟨ad159, e159, hx159_0⟩ := Kd.at_string (Kd.R_reads' HO_11.out).2.2 x12_2 p159 q159
            obtain rfl : ad153 = ad159 := (by injection e159)
            replace p159 := eq_true p159
            replace q159 := eq_true q159
            have p161 : 0 ≤ (x12_2 : Int) := of_decide_eq_true (by first | (with_reducible assumption) | assumption)
            have q161 : x12_2 < (y148.length : Int) := of_decide_eq_true (by first | (with_reducible assumption) | assumption)
            obtain ⟨ad161, e161, hx161_0⟩ := Kd.at_string (Kd.R_reads' HO_11.out).2.2 x12_2 p161 q161
            obtain rfl : ad153 = ad161 := (by injection e161)
            replace p161 := eq_true p161
            replace q161 := eq_true q161
            have p163 : 0 ≤ (x12_2 : Int) := of_decide_eq_true (by first | (with_reducible assumption) | assumption)
            have q163 : x12_2 < (y148.length : Int) := of_decide_eq_true (by first | (with_reducible assumption) | assumption)
            obtain ⟨ad163, e163, hx163_0⟩ := Kd.at_string (Kd.R_reads' HO_11.out).2.2 x12_2 p163 q163
            obtain rfl : ad153 = ad163 := (by injection e163)
            replace p163 := eq_true p163
            replace q163 := eq_true q163
            refine start_ (n := 37) (S := fun w' => w'.cell? (ad153.add (x12_2).toNat) = some (.string (rdOf ByteArray.empty y148 x12_2)) ∧ w'.cell? (ad153.add (x12_2).toNat) = some (.string (rdOf ByteArray.empty y148 x12_2)) ∧ w'.cell? (ad153.add (x12_2).toNat) = some (.string (rdOf ByteArray.empty y148 x12_2)) ∧ w'.cell? (ad153.add (x12_2).toNat) = some (.string (rdOf ByteArray.empty y148 x12_2)) ∧ w'.cell? (ad153.add (x12_2).toNat) = some (.string (rdOf ByteArray.empty y148 x12_2)) ∧ w'.cell? (ad153.add (x12_2).toNat) = some (.string (rdOf ByteArray.empty y148 x12_2))) (ds := []) #[false,false,false,false,false,false,false,false,false,false,false,false,false,false,false,false,false,false,false,false,false,false,false,false,false,false,false,false,false,false,false,false,false,false,false,false,false] (by kernel_rfl) rfl rfl ⟨hx153_0, hx155_0, hx157_0, hx159_0, hx161_0, hx163_0⟩ (fun hHeld => ?_); refine with_tabW kerbsuitelaw1_PrincipalValid.tab9 kerbsuitelaw1_PrincipalValid.bits9 (fun HT_ HW_ => ?_)
            generalize wr.drew = w38 at HO_11 BK143 HB hx153_0 hx155_0 hx157_0 hx159_0 hx161_0 hx163_0 hHeld ⊢
            refine pure_ (i := 0) (N := some 47) (v := ?_) (a' := ?_) (bo_ 37 1) rfl rfl (any_of HT_.out (by kernel_rfl)) (fun _ _ _ h => h) (Or.inl ⟨by rfl, ?_⟩) ?_ ?_
            rotate_left; (· intro w'; go_simp; with_reducible rfl)
            rotate_left; (· simp only [Act.put,List.setIfInBounds_toArray,List.set_cons_zero,List.set_cons_succ,i64_w,i32_w]; rfl)
            refine pure_ (i := 1) (N := some 48) (v := ?_) (a' := ?_) (bo_ 37 3) rfl rfl (any_of HT_.out (by kernel_rfl)) (fun _ _ _ h => h) (Or.inl ⟨by rfl, ?_⟩) ?_ ?_
            rotate_left; (· intro w'; go_simp; with_reducible rfl)
            rotate_left; (· simp only [Act.put,List.setIfInBounds_toArray,List.set_cons_zero,List.set_cons_succ,i64_w,i32_w]; rfl)
            refine pure_ (i := 2) (N := some 49) (v := ?_) (a' := ?_) (bo_ 37 7) rfl rfl (any_of HT_.out (by kernel_rfl)) (fun _ _ _ h => h) (Or.inl ⟨by rfl, ?_⟩) ?_ ?_
            rotate_left; (· intro w'; go_simp; with_reducible rfl)
            rotate_left; (· simp only [Act.put,List.setIfInBounds_toArray,List.set_cons_zero,List.set_cons_succ,i64_w,i32_w]; rfl)
            refine pure_ (i := 5) (N := some 52) (v := ?_) (a' := ?_) (bo_ 37 39) rfl rfl (any_of HT_.out (by kernel_rfl)) (fun _ _ _ h => h) (Or.inl ⟨by rfl, ?_⟩) ?_ ?_
            rotate_left; (· intro w'; go_simp; with_reducible rfl)
            rotate_left; (· simp only [Act.put,List.setIfInBounds_toArray,List.set_cons_zero,List.set_cons_succ,i64_w,i32_w]; rfl)
            refine pure_ (i := 6) (N := some 53) (v := ?_) (a' := ?_) (bo_ 37 103) rfl rfl (any_of HT_.out (by kernel_rfl)) (fun _ _ _ h => h) (Or.inl ⟨by rfl, ?_⟩) ?_ ?_
            rotate_left; (· intro w'; go_simp; with_reducible rfl)
            rotate_left; (· simp only [Act.put,List.setIfInBounds_toArray,List.set_cons_zero,List.set_cons_succ,i64_w,i32_w]; rfl)
            refine pure_ (i := 7) (N := some 54) (v := ?_) (a' := ?_) (bo_ 37 231) rfl rfl (any_of HT_.out (by kernel_rfl)) (fun _ _ _ h => h) (Or.inl ⟨by rfl, ?_⟩) ?_ ?_
            rotate_left; (· intro w'; go_simp; with_reducible rfl)
            rotate_left; (· simp only [Act.put,List.setIfInBounds_toArray,List.set_cons_zero,List.set_cons_succ,i64_w,i32_w]; rfl)
            refine take_ (i := 3) (N := some 50) (v := ?_) (a' := ?_) (bo_ 37 239) rfl rfl (take_ofW HT_.out HW_.out (by kernel_rfl)) (fun _ _ _ h => h) (Or.inl ⟨by rfl, ?_⟩) hHeld ?_ ?_
            rotate_left; (· rintro w' ⟨s0, s1, s2, s3, s4, s5⟩; go_simp; with_reducible rfl)
            rotate_left; (· simp only [Act.put,List.setIfInBounds_toArray,List.set_cons_zero,List.set_cons_succ,i64_w,i32_w]; rfl)
            refine take_ (i := 8) (N := some 55) (v := ?_) (a' := ?_) (bo_ 37 495) rfl rfl (take_ofW HT_.out HW_.out (by kernel_rfl)) (fun _ _ _ h => h) (Or.inl ⟨by rfl, ?_⟩) hHeld ?_ ?_
            rotate_left; (· rintro w' ⟨s0, s1, s2, s3, s4, s5⟩; go_simp; with_reducible rfl)
            rotate_left; (· simp only [Act.put,List.setIfInBounds_toArray,List.set_cons_zero,List.set_cons_succ,i64_w,i32_w]; rfl)
            refine one_ (i := 4) (N := some 51) (bo_ 37 511) rfl rfl (one_of HT_.out (by kernel_rfl)) (by decide) (fun K hK => ?_)
            refine goes_ Try.func11 (by kernel_rfl) rfl #[.string (rdOf ByteArray.empty y148 x12_2)] (by rfl) rfl rfl (by (try simp only [List.map_toArray, List.map_cons, List.map_nil]); first | done | rfl | (simp only [List.length_drop, List.length_take]; rfl)) ?_
            with_reducible refine (principal_ValidName.calls k2 (rdOf ByteArray.empty y148 x12_2) t154 _ A24.out).mono ?_
            rintro e w' ⟨rfl, ⟨nd, rfl⟩⟩
            refine ⟨_, rfl, ?_⟩
            refine hK.out _ _ ⟨hHeld.1, hHeld.2.1, hHeld.2.2.1, hHeld.2.2.2.1, hHeld.2.2.2.2.1, hHeld.2.2.2.2.2⟩ (fun hHeld => ?_)
            clear hK K
            refine norm_ (a' := ?_) ?_ ?_
            rotate_left; (· show Act.put _ (some 51) _ = _; simp only [Act.put,List.setIfInBounds_toArray,List.set_cons_zero,List.set_cons_succ,i64_w,i32_w]; rfl)
            refine one_ (i := 9) (N := some 56) (bo_ 37 1023) rfl rfl (one_of HT_.out (by kernel_rfl)) (by decide) (fun K hK => ?_)
            refine goes_ Try.func12 (by kernel_rfl) rfl #[.string (rdOf ByteArray.empty y148 x12_2)] (by rfl) rfl rfl (by (try simp only [List.map_toArray, List.map_cons, List.map_nil]); first | done | rfl | (simp only [List.length_drop, List.length_take]; rfl)) ?_
            with_reducible refine (kerbsuiteref1_ValidName.calls k2 (rdOf ByteArray.empty y148 x12_2) t156 _ A25.out).mono ?_
            rintro e w' ⟨rfl, ⟨nd, rfl⟩⟩
            refine ⟨_, rfl, ?_⟩
            refine hK.out _ _ ⟨hHeld.1, hHeld.2.1, hHeld.2.2.1, hHeld.2.2.2.1, hHeld.2.2.2.2.1, hHeld.2.2.2.2.2⟩ (fun hHeld => ?_)
            clear hK K
            refine norm_ (a' := ?_) ?_ ?_
            rotate_left; (· show Act.put _ (some 56) _ = _; simp only [Act.put,List.setIfInBounds_toArray,List.set_cons_zero,List.set_cons_succ,i64_w,i32_w]; rfl)
            refine pure_ (i := 10) (N := some 57) (v := ?_) (a' := ?_) (bo_ 37 2047) rfl rfl (any_of HT_.out (by kernel_rfl)) (fun _ _ _ h => h) (Or.inl ⟨by rfl, ?_⟩) ?_ ?_
            rotate_left; (· intro w'; go_simp; with_reducible rfl)
            rotate_left; (· simp only [Act.put,List.setIfInBounds_toArray,List.set_cons_zero,List.set_cons_succ,i64_w,i32_w]; rfl)
            refine pure_ (i := 11) (N := some 58) (v := ?_) (a' := ?_) (bo_ 37 4095) rfl rfl (any_of HT_.out (by kernel_rfl)) (fun _ _ _ h => h) (Or.inl ⟨by rfl, ?_⟩) ?_ ?_
            rotate_left; (· intro w'; go_simp; with_reducible rfl)
            rotate_left; (· simp only [Act.put,List.setIfInBounds_toArray,List.set_cons_zero,List.set_cons_succ,i64_w,i32_w]; rfl)
            refine pure_ (i := 12) (N := some 59) (v := ?_) (a' := ?_) (bo_ 37 8191) rfl rfl (any_of HT_.out (by kernel_rfl)) (fun _ _ _ h => h) (Or.inl ⟨by rfl, ?_⟩) ?_ ?_
            rotate_left; (· intro w'; go_simp; with_reducible rfl)
            rotate_left; (· simp only [Act.put,List.setIfInBounds_toArray,List.set_cons_zero,List.set_cons_succ,i64_w,i32_w]; rfl)
            refine pure_ (i := 13) (N := some 60) (v := ?_) (a' := ?_) (bo_ 37 16383) rfl rfl (any_of HT_.out (by kernel_rfl)) (fun _ _ _ h => h) (Or.inl ⟨by rfl, ?_⟩) ?_ ?_
            rotate_left; (· intro w'; go_simp; with_reducible rfl)
            rotate_left; (· simp only [Act.put,List.setIfInBounds_toArray,List.set_cons_zero,List.set_cons_succ,i64_w,i32_w]; rfl)
            refine pure_ (i := 14) (N := some 61) (v := ?_) (a' := ?_) (bo_ 37 32767) rfl rfl (any_of HT_.out (by kernel_rfl)) (fun _ _ _ h => h) (Or.inl ⟨by rfl, ?_⟩) ?_ ?_
            rotate_left; (· intro w'; go_simp; with_reducible rfl)
            rotate_left; (· simp only [Act.put,List.setIfInBounds_toArray,List.set_cons_zero,List.set_cons_succ,i64_w,i32_w]; rfl)
            refine pure_ (i := 17) (N := some 64) (v := ?_) (a' := ?_) (bo_ 37 163839) rfl rfl (any_of HT_.out (by kernel_rfl)) (fun _ _ _ h => h) (Or.inl ⟨by rfl, ?_⟩) ?_ ?_
            rotate_left; (· intro w'; go_simp; with_reducible rfl)
            rotate_left; (· simp only [Act.put,List.setIfInBounds_toArray,List.set_cons_zero,List.set_cons_succ,i64_w,i32_w]; rfl)
            refine pure_ (i := 18) (N := some 65) (v := ?_) (a' := ?_) (bo_ 37 425983) rfl rfl (any_of HT_.out (by kernel_rfl)) (fun _ _ _ h => h) (Or.inl ⟨by rfl, ?_⟩) ?_ ?_
            rotate_left; (· intro w'; go_simp; with_reducible rfl)
            rotate_left; (· simp only [Act.put,List.setIfInBounds_toArray,List.set_cons_zero,List.set_cons_succ,i64_w,i32_w]; rfl)
            refine pure_ (i := 19) (N := some 66) (v := ?_) (a' := ?_) (bo_ 37 950271) rfl rfl (any_of HT_.out (by kernel_rfl)) (fun _ _ _ h => h) (Or.inl ⟨by rfl, ?_⟩) ?_ ?_
            rotate_left; (· intro w'; go_simp; with_reducible rfl)
            rotate_left; (· simp only [Act.put,List.setIfInBounds_toArray,List.set_cons_zero,List.set_cons_succ,i64_w,i32_w]; rfl)
            refine take_ (i := 15) (N := some 62) (v := ?_) (a' := ?_) (bo_ 37 983039) rfl rfl (take_ofW HT_.out HW_.out (by kernel_rfl)) (fun _ _ _ h => h) (Or.inl ⟨by rfl, ?_⟩) hHeld ?_ ?_
            rotate_left; (· rintro w' ⟨s0, s1, s2, s3, s4, s5⟩; go_simp; with_reducible rfl)
            rotate_left; (· simp only [Act.put,List.setIfInBounds_toArray,List.set_cons_zero,List.set_cons_succ,i64_w,i32_w]; rfl)
            refine take_ (i := 20) (N := some 67) (v := ?_) (a' := ?_) (bo_ 37 2031615) rfl rfl (take_ofW HT_.out HW_.out (by kernel_rfl)) (fun _ _ _ h => h) (Or.inl ⟨by rfl, ?_⟩) hHeld ?_ ?_
            rotate_left; (· rintro w' ⟨s0, s1, s2, s3, s4, s5⟩; go_simp; with_reducible rfl)
            rotate_left; (· simp only [Act.put,List.setIfInBounds_toArray,List.set_cons_zero,List.set_cons_succ,i64_w,i32_w]; rfl)
            refine one_ (i := 16) (N := some 63) (bo_ 37 2097151) rfl rfl (one_of HT_.out (by kernel_rfl)) (by decide) (fun K hK => ?_)
            refine goes_ Try.func13 (by kernel_rfl) rfl #[.string (rdOf ByteArray.empty y148 x12_2)] (by rfl) rfl rfl (by (try simp only [List.map_toArray, List.map_cons, List.map_nil]); first | done | rfl | (simp only [List.length_drop, List.length_take]; rfl)) ?_
            with_reducible refine (principal_ValidInstance.calls k2 (rdOf ByteArray.empty y148 x12_2) t158 _ A29.out).mono ?_
            rintro e w' ⟨rfl, ⟨nd, rfl⟩⟩
            refine ⟨_, rfl, ?_⟩
            refine hK.out _ _ ⟨hHeld.1, hHeld.2.1, hHeld.2.2.1, hHeld.2.2.2.1, hHeld.2.2.2.2.1, hHeld.2.2.2.2.2⟩ (fun hHeld => ?_)
            clear hK K
            refine norm_ (a' := ?_) ?_ ?_
            rotate_left; (· show Act.put _ (some 63) _ = _; simp only [Act.put,List.setIfInBounds_toArray,List.set_cons_zero,List.set_cons_succ,i64_w,i32_w]; rfl)
            refine one_ (i := 21) (N := some 68) (bo_ 37 4194303) rfl rfl (one_of HT_.out (by kernel_rfl)) (by decide) (fun K hK => ?_)
            refine goes_ Try.func14 (by kernel_rfl) rfl #[.string (rdOf ByteArray.empty y148 x12_2)] (by rfl) rfl rfl (by (try simp only [List.map_toArray, List.map_cons, List.map_nil]); first | done | rfl | (simp only [List.length_drop, List.length_take]; rfl)) ?_
            with_reducible refine (kerbsuiteref1_ValidInstance.calls k2 (rdOf ByteArray.empty y148 x12_2) t160 _ A30.out).mono ?_
            rintro e w' ⟨rfl, ⟨nd, rfl⟩⟩
            refine ⟨_, rfl, ?_⟩
            refine hK.out _ _ ⟨hHeld.1, hHeld.2.1, hHeld.2.2.1, hHeld.2.2.2.1, hHeld.2.2.2.2.1, hHeld.2.2.2.2.2⟩ (fun hHeld => ?_)
            clear hK K
            refine norm_ (a' := ?_) ?_ ?_
            rotate_left; (· show Act.put _ (some 68) _ = _; simp only [Act.put,List.setIfInBounds_toArray,List.set_cons_zero,List.set_cons_succ,i64_w,i32_w]; rfl)
            refine pure_ (i := 22) (N := some 69) (v := ?_) (a' := ?_) (bo_ 37 8388607) rfl rfl (any_of HT_.out (by kernel_rfl)) (fun _ _ _ h => h) (Or.inl ⟨by rfl, ?_⟩) ?_ ?_
            rotate_left; (· intro w'; go_simp; with_reducible rfl)
            rotate_left; (· simp only [Act.put,List.setIfInBounds_toArray,List.set_cons_zero,List.set_cons_succ,i64_w,i32_w]; rfl)
            refine pure_ (i := 23) (N := some 70) (v := ?_) (a' := ?_) (bo_ 37 16777215) rfl rfl (any_of HT_.out (by kernel_rfl)) (fun _ _ _ h => h) (Or.inl ⟨by rfl, ?_⟩) ?_ ?_
            rotate_left; (· intro w'; go_simp; with_reducible rfl)
            rotate_left; (· simp only [Act.put,List.setIfInBounds_toArray,List.set_cons_zero,List.set_cons_succ,i64_w,i32_w]; rfl)
            refine pure_ (i := 24) (N := some 71) (v := ?_) (a' := ?_) (bo_ 37 33554431) rfl rfl (any_of HT_.out (by kernel_rfl)) (fun _ _ _ h => h) (Or.inl ⟨by rfl, ?_⟩) ?_ ?_
            rotate_left; (· intro w'; go_simp; with_reducible rfl)
            rotate_left; (· simp only [Act.put,List.setIfInBounds_toArray,List.set_cons_zero,List.set_cons_succ,i64_w,i32_w]; rfl)
            refine pure_ (i := 25) (N := some 72) (v := ?_) (a' := ?_) (bo_ 37 67108863) rfl rfl (any_of HT_.out (by kernel_rfl)) (fun _ _ _ h => h) (Or.inl ⟨by rfl, ?_⟩) ?_ ?_
            rotate_left; (· intro w'; go_simp; with_reducible rfl)
            rotate_left; (· simp only [Act.put,List.setIfInBounds_toArray,List.set_cons_zero,List.set_cons_succ,i64_w,i32_w]; rfl)
            refine pure_ (i := 26) (N := some 73) (v := ?_) (a' := ?_) (bo_ 37 134217727) rfl rfl (any_of HT_.out (by kernel_rfl)) (fun _ _ _ h => h) (Or.inl ⟨by rfl, ?_⟩) ?_ ?_
            rotate_left; (· intro w'; go_simp; with_reducible rfl)
            rotate_left; (· simp only [Act.put,List.setIfInBounds_toArray,List.set_cons_zero,List.set_cons_succ,i64_w,i32_w]; rfl)
            refine pure_ (i := 27) (N := some 74) (v := ?_) (a' := ?_) (bo_ 37 268435455) rfl rfl (any_of HT_.out (by kernel_rfl)) (fun _ _ _ h => h) (Or.inl ⟨by rfl, ?_⟩) ?_ ?_
            rotate_left; (· intro w'; go_simp; with_reducible rfl)
            rotate_left; (· simp only [Act.put,List.setIfInBounds_toArray,List.set_cons_zero,List.set_cons_succ,i64_w,i32_w]; rfl)
            refine pure_ (i := 30) (N := some 77) (v := ?_) (a' := ?_) (bo_ 37 1342177279) rfl rfl (any_of HT_.out (by kernel_rfl)) (fun _ _ _ h => h) (Or.inl ⟨by rfl, ?_⟩) ?_ ?_
            rotate_left; (· intro w'; go_simp; with_reducible rfl)
            rotate_left; (· simp only [Act.put,List.setIfInBounds_toArray,List.set_cons_zero,List.set_cons_succ,i64_w,i32_w]; rfl)
            refine pure_ (i := 31) (N := some 78) (v := ?_) (a' := ?_) (bo_ 37 3489660927) rfl rfl (any_of HT_.out (by kernel_rfl)) (fun _ _ _ h => h) (Or.inl ⟨by rfl, ?_⟩) ?_ ?_
            rotate_left; (· intro w'; go_simp; with_reducible rfl)
            rotate_left; (· simp only [Act.put,List.setIfInBounds_toArray,List.set_cons_zero,List.set_cons_succ,i64_w,i32_w]; rfl)
            refine pure_ (i := 32) (N := some 79) (v := ?_) (a' := ?_) (bo_ 37 7784628223) rfl rfl (any_of HT_.out (by kernel_rfl)) (fun _ _ _ h => h) (Or.inl ⟨by rfl, ?_⟩) ?_ ?_
            rotate_left; (· intro w'; go_simp; with_reducible rfl)
            rotate_left; (· simp only [Act.put,List.setIfInBounds_toArray,List.set_cons_zero,List.set_cons_succ,i64_w,i32_w]; rfl)
            refine take_ (i := 28) (N := some 75) (v := ?_) (a' := ?_) (bo_ 37 8053063679) rfl rfl (take_ofW HT_.out HW_.out (by kernel_rfl)) (fun _ _ _ h => h) (Or.inl ⟨by rfl, ?_⟩) hHeld ?_ ?_
            rotate_left; (· rintro w' ⟨s0, s1, s2, s3, s4, s5⟩; go_simp; with_reducible rfl)
            rotate_left; (· simp only [Act.put,List.setIfInBounds_toArray,List.set_cons_zero,List.set_cons_succ,i64_w,i32_w]; rfl)
            refine take_ (i := 33) (N := some 80) (v := ?_) (a' := ?_) (bo_ 37 16642998271) rfl rfl (take_ofW HT_.out HW_.out (by kernel_rfl)) (fun _ _ _ h => h) (Or.inl ⟨by rfl, ?_⟩) hHeld ?_ ?_
            rotate_left; (· rintro w' ⟨s0, s1, s2, s3, s4, s5⟩; go_simp; with_reducible rfl)
            rotate_left; (· simp only [Act.put,List.setIfInBounds_toArray,List.set_cons_zero,List.set_cons_succ,i64_w,i32_w]; rfl)
            refine one_ (i := 29) (N := some 76) (bo_ 37 17179869183) rfl rfl (one_of HT_.out (by kernel_rfl)) (by decide) (fun K hK => ?_)
            refine goes_ Try.func15 (by kernel_rfl) rfl #[.string (rdOf ByteArray.empty y148 x12_2)] (by rfl) rfl rfl (by (try simp only [List.map_toArray, List.map_cons, List.map_nil]); first | done | rfl | (simp only [List.length_drop, List.length_take]; rfl)) ?_
            with_reducible refine (principal_ValidRealm.calls k2 (rdOf ByteArray.empty y148 x12_2) t162 _ A34.out).mono ?_
            rintro e w' ⟨rfl, ⟨nd, rfl⟩⟩
            refine ⟨_, rfl, ?_⟩
            refine hK.out _ _ ⟨hHeld.1, hHeld.2.1, hHeld.2.2.1, hHeld.2.2.2.1, hHeld.2.2.2.2.1, hHeld.2.2.2.2.2⟩ (fun hHeld => ?_)
            clear hK K
            refine norm_ (a' := ?_) ?_ ?_
            rotate_left; (· show Act.put _ (some 76) _ = _; simp only [Act.put,List.setIfInBounds_toArray,List.set_cons_zero,List.set_cons_succ,i64_w,i32_w]; rfl)
            refine one_ (i := 34) (N := some 81) (bo_ 37 34359738367) rfl rfl (one_of HT_.out (by kernel_rfl)) (by decide) (fun K hK => ?_)
            refine goes_ Try.func16 (by kernel_rfl) rfl #[.string (rdOf ByteArray.empty y148 x12_2)] (by rfl) rfl rfl (by (try simp only [List.map_toArray, List.map_cons, List.map_nil]); first | done | rfl | (simp only [List.length_drop, List.length_take]; rfl)) ?_
            with_reducible refine (kerbsuiteref1_ValidRealm.calls k2 (rdOf ByteArray.empty y148 x12_2) t164 _ A35.out).mono ?_
            rintro e w' ⟨rfl, ⟨nd, rfl⟩⟩
            refine ⟨_, rfl, ?_⟩
            refine hK.out _ _ ⟨hHeld.1, hHeld.2.1, hHeld.2.2.1, hHeld.2.2.2.1, hHeld.2.2.2.2.1, hHeld.2.2.2.2.2⟩ (fun hHeld => ?_)
            clear hK K
            refine norm_ (a' := ?_) ?_ ?_
            rotate_left; (· show Act.put _ (some 81) _ = _; simp only [Act.put,List.setIfInBounds_toArray,List.set_cons_zero,List.set_cons_succ,i64_w,i32_w]; rfl)
            refine pure_ (i := 35) (N := some 82) (v := ?_) (a' := ?_) (bo_ 37 68719476735) rfl rfl (any_of HT_.out (by kernel_rfl)) (fun _ _ _ h => h) (Or.inl ⟨by rfl, ?_⟩) ?_ ?_
            rotate_left; (· intro w'; go_simp; with_reducible rfl)
            rotate_left; (· simp only [Act.put,List.setIfInBounds_toArray,List.set_cons_zero,List.set_cons_succ,i64_w,i32_w]; rfl)
            refine pure_ (i := 36) (N := some 83) (v := ?_) (a' := ?_) (bo_ 37 137438953471) rfl rfl (any_of HT_.out (by kernel_rfl)) (fun _ _ _ h => h) (Or.inl ⟨by rfl, ?_⟩) ?_ ?_
            rotate_left; (· intro w'; go_simp; with_reducible rfl)
            rotate_left; (· simp only [Act.put,List.setIfInBounds_toArray,List.set_cons_zero,List.set_cons_succ,i64_w,i32_w]; rfl)
            refine done_ (done_of HT_.out (by kernel_rfl)) ?_
            try go_wp2
            go_ret
            exact ⟨by first | rfl | (simp [errW_none, errW_some] <;> rfl) | (simp [*, errW_none, errW_some] <;> rfl), by repeat (first | (with_reducible first | exact HB.out | apply below_alloc | apply pw_below_drewN | apply below_drew1 | refine below_set ?_ GE143.out) | exact HB.out)⟩
           ·rw [if_neg c36] at H
            have c36b0 : (t162 != t164) = false := by simpa using c36
            (try (have c36b1 : decide (t162 = t164) = true := by simpa using c36))
            (try (have c36b2 : (t162 == t164) = true := by simpa using c36))
            clear c36
            have H' := Aside0.mk H
            clear H
            obtain ⟨Ao39, co39, eo39⟩ := Kd.R_slice HO_11.out
            subst eo39
            try go_wp2
            have n0_ := Aside0.mk (Kd.R_drew HO_11.out)
            have n1_ := Aside0.mk (blk_drew BK143.out)
            have n2_ := Aside0.mk (below_drew1 HB.out)
            clear HO_11
            clear BK143
            clear HB
            have HO_11 := n0_
            have BK143 := n1_
            have HB := n2_
            clear n0_ n1_ n2_
            have p153 : 0 ≤ (x12_2 : Int) := of_decide_eq_true (by first | (with_reducible assumption) | assumption)
            have q153 : x12_2 < (y148.length : Int) := of_decide_eq_true (by first | (with_reducible assumption) | assumption)
            obtain ⟨ad153, e153, hx153_0⟩ := Kd.at_string (Kd.R_reads' HO_11.out).2.2 x12_2 p153 q153
            cases e153
            replace p153 := eq_true p153
            replace q153 := eq_true q153
            have p155 : 0 ≤ (x12_2 : Int) := of_decide_eq_true (by first | (with_reducible assumption) | assumption)
            have q155 : x12_2 < (y148.length : Int) := of_decide_eq_true (by first | (with_reducible assumption) | assumption)
            obtain ⟨ad155, e155, hx155_0⟩ := Kd.at_string (Kd.R_reads' HO_11.out).2.2 x12_2 p155 q155
            obtain rfl : ad153 = ad155 := (by injection e155)
            replace p155 := eq_true p155
            replace q155 := eq_true q155
            have p157 : 0 ≤ (x12_2 : Int) := of_decide_eq_true (by first | (with_reducible assumption) | assumption)
            have q157 : x12_2 < (y148.length : Int) := of_decide_eq_true (by first | (with_reducible assumption) | assumption)
            obtain ⟨ad157, e157, hx157_0⟩ := Kd.at_string (Kd.R_reads' HO_11.out).2.2 x12_2 p157 q157
            obtain rfl : ad153 = ad157 := (by injection e157)
            replace p157 := eq_true p157
            replace q157 := eq_true q157
            have p159 : 0 ≤ (x12_2 : Int) := of_decide_eq_true (by first | (with_reducible assumption) | assumption)
            have q159 : x12_2 < (y148.length : Int) := of_decide_eq_true (by first | (with_reducible assumption) | assumption)
            obtain ⟨ad159, e159, hx159_0⟩ := Kd.at_string (Kd.R_reads' HO_11.out).2.2 x12_2 p159 q159
            obtain rfl : ad153 = ad159 := (by injection e159)
            replace p159 := eq_true p159
            replace q159 := eq_true q159
            have p161 : 0 ≤ (x12_2 : Int) := of_decide_eq_true (by first | (with_reducible assumption) | assumption)
            have q161 : x12_2 < (y148.length : Int) := of_decide_eq_true (by first | (with_reducible assumption) | assumption)
            obtain ⟨ad161, e161, hx161_0⟩ := Kd.at_string (Kd.R_reads' HO_11.out).2.2 x12_2 p161 q161
            obtain rfl : ad153 = ad161 := (by injection e161)
            replace p161 := eq_true p161
            replace q161 := eq_true q161
            have p163 : 0 ≤ (x12_2 : Int) := of_decide_eq_true (by first | (with_reducible assumption) | assumption)
            have q163 : x12_2 < (y148.length : Int) := of_decide_eq_true (by first | (with_reducible assumption) | assumption)
            obtain ⟨ad163, e163, hx163_0⟩ := Kd.at_string (Kd.R_reads' HO_11.out).2.2 x12_2 p163 q163
            obtain rfl : ad153 = ad163 := (by injection e163)
            replace p163 := eq_true p163
            replace q163 := eq_true q163
            refine start_ (n := 37) (S := fun w' => w'.cell? (ad153.add (x12_2).toNat) = some (.string (rdOf ByteArray.empty y148 x12_2)) ∧ w'.cell? (ad153.add (x12_2).toNat) = some (.string (rdOf ByteArray.empty y148 x12_2)) ∧ w'.cell? (ad153.add (x12_2).toNat) = some (.string (rdOf ByteArray.empty y148 x12_2)) ∧ w'.cell? (ad153.add (x12_2).toNat) = some (.string (rdOf ByteArray.empty y148 x12_2)) ∧ w'.cell? (ad153.add (x12_2).toNat) = some (.string (rdOf ByteArray.empty y148 x12_2)) ∧ w'.cell? (ad153.add (x12_2).toNat) = some (.string (rdOf ByteArray.empty y148 x12_2))) (ds := []) #[false,false,false,false,false,false,false,false,false,false,false,false,false,false,false,false,false,false,false,false,false,false,false,false,false,false,false,false,false,false,false,false,false,false,false,false,false] (by kernel_rfl) rfl rfl ⟨hx153_0, hx155_0, hx157_0, hx159_0, hx161_0, hx163_0⟩ (fun hHeld => ?_); refine with_tabW kerbsuitelaw1_PrincipalValid.tab9 kerbsuitelaw1_PrincipalValid.bits9 (fun HT_ HW_ => ?_)
            generalize wr.drew = w40 at HO_11 BK143 HB hx153_0 hx155_0 hx157_0 hx159_0 hx161_0 hx163_0 hHeld ⊢
            refine pure_ (i := 0) (N := some 47) (v := ?_) (a' := ?_) (bo_ 37 1) rfl rfl (any_of HT_.out (by kernel_rfl)) (fun _ _ _ h => h) (Or.inl ⟨by rfl, ?_⟩) ?_ ?_
            rotate_left; (· intro w'; go_simp; with_reducible rfl)
            rotate_left; (· simp only [Act.put,List.setIfInBounds_toArray,List.set_cons_zero,List.set_cons_succ,i64_w,i32_w]; rfl)
            refine pure_ (i := 1) (N := some 48) (v := ?_) (a' := ?_) (bo_ 37 3) rfl rfl (any_of HT_.out (by kernel_rfl)) (fun _ _ _ h => h) (Or.inl ⟨by rfl, ?_⟩) ?_ ?_
            rotate_left; (· intro w'; go_simp; with_reducible rfl)
            rotate_left; (· simp only [Act.put,List.setIfInBounds_toArray,List.set_cons_zero,List.set_cons_succ,i64_w,i32_w]; rfl)
            refine pure_ (i := 2) (N := some 49) (v := ?_) (a' := ?_) (bo_ 37 7) rfl rfl (any_of HT_.out (by kernel_rfl)) (fun _ _ _ h => h) (Or.inl ⟨by rfl, ?_⟩) ?_ ?_
            rotate_left; (· intro w'; go_simp; with_reducible rfl)
            rotate_left; (· simp only [Act.put,List.setIfInBounds_toArray,List.set_cons_zero,List.set_cons_succ,i64_w,i32_w]; rfl)
            refine pure_ (i := 5) (N := some 52) (v := ?_) (a' := ?_) (bo_ 37 39) rfl rfl (any_of HT_.out (by kernel_rfl)) (fun _ _ _ h => h) (Or.inl ⟨by rfl, ?_⟩) ?_ ?_
            rotate_left; (· intro w'; go_simp; with_reducible rfl)
            rotate_left; (· simp only [Act.put,List.setIfInBounds_toArray,List.set_cons_zero,List.set_cons_succ,i64_w,i32_w]; rfl)
            refine pure_ (i := 6) (N := some 53) (v := ?_) (a' := ?_) (bo_ 37 103) rfl rfl (any_of HT_.out (by kernel_rfl)) (fun _ _ _ h => h) (Or.inl ⟨by rfl, ?_⟩) ?_ ?_
            rotate_left; (· intro w'; go_simp; with_reducible rfl)
            rotate_left; (· simp only [Act.put,List.setIfInBounds_toArray,List.set_cons_zero,List.set_cons_succ,i64_w,i32_w]; rfl)
            refine pure_ (i := 7) (N := some 54) (v := ?_) (a' := ?_) (bo_ 37 231) rfl rfl (any_of HT_.out (by kernel_rfl)) (fun _ _ _ h => h) (Or.inl ⟨by rfl, ?_⟩) ?_ ?_
            rotate_left; (· intro w'; go_simp; with_reducible rfl)
            rotate_left; (· simp only [Act.put,List.setIfInBounds_toArray,List.set_cons_zero,List.set_cons_succ,i64_w,i32_w]; rfl)
            refine take_ (i := 3) (N := some 50) (v := ?_) (a' := ?_) (bo_ 37 239) rfl rfl (take_ofW HT_.out HW_.out (by kernel_rfl)) (fun _ _ _ h => h) (Or.inl ⟨by rfl, ?_⟩) hHeld ?_ ?_
            rotate_left; (· rintro w' ⟨s0, s1, s2, s3, s4, s5⟩; go_simp; with_reducible rfl)
            rotate_left; (· simp only [Act.put,List.setIfInBounds_toArray,List.set_cons_zero,List.set_cons_succ,i64_w,i32_w]; rfl)
            refine take_ (i := 8) (N := some 55) (v := ?_) (a' := ?_) (bo_ 37 495) rfl rfl (take_ofW HT_.out HW_.out (by kernel_rfl)) (fun _ _ _ h => h) (Or.inl ⟨by rfl, ?_⟩) hHeld ?_ ?_
            rotate_left; (· rintro w' ⟨s0, s1, s2, s3, s4, s5⟩; go_simp; with_reducible rfl)
            rotate_left; (· simp only [Act.put,List.setIfInBounds_toArray,List.set_cons_zero,List.set_cons_succ,i64_w,i32_w]; rfl)
            refine one_ (i := 4) (N := some 51) (bo_ 37 511) rfl rfl (one_of HT_.out (by kernel_rfl)) (by decide) (fun K hK => ?_)
            refine goes_ Try.func11 (by kernel_rfl) rfl #[.string (rdOf ByteArray.empty y148 x12_2)] (by rfl) rfl rfl (by (try simp only [List.map_toArray, List.map_cons, List.map_nil]); first | done | rfl | (simp only [List.length_drop, List.length_take]; rfl)) ?_
            with_reducible refine (principal_ValidName.calls k2 (rdOf ByteArray.empty y148 x12_2) t154 _ A24.out).mono ?_
            rintro e w' ⟨rfl, ⟨nd, rfl⟩⟩
            refine ⟨_, rfl, ?_⟩
            refine hK.out _ _ ⟨hHeld.1, hHeld.2.1, hHeld.2.2.1, hHeld.2.2.2.1, hHeld.2.2.2.2.1, hHeld.2.2.2.2.2⟩ (fun hHeld => ?_)
            clear hK K
            refine norm_ (a' := ?_) ?_ ?_
            rotate_left; (· show Act.put _ (some 51) _ = _; simp only [Act.put,List.setIfInBounds_toArray,List.set_cons_zero,List.set_cons_succ,i64_w,i32_w]; rfl)
            refine one_ (i := 9) (N := some 56) (bo_ 37 1023) rfl rfl (one_of HT_.out (by kernel_rfl)) (by decide) (fun K hK => ?_)
            refine goes_ Try.func12 (by kernel_rfl) rfl #[.string (rdOf ByteArray.empty y148 x12_2)] (by rfl) rfl rfl (by (try simp only [List.map_toArray, List.map_cons, List.map_nil]); first | done | rfl | (simp only [List.length_drop, List.length_take]; rfl)) ?_
            with_reducible refine (kerbsuiteref1_ValidName.calls k2 (rdOf ByteArray.empty y148 x12_2) t156 _ A25.out).mono ?_
            rintro e w' ⟨rfl, ⟨nd, rfl⟩⟩
            refine ⟨_, rfl, ?_⟩
            refine hK.out _ _ ⟨hHeld.1, hHeld.2.1, hHeld.2.2.1, hHeld.2.2.2.1, hHeld.2.2.2.2.1, hHeld.2.2.2.2.2⟩ (fun hHeld => ?_)
            clear hK K
            refine norm_ (a' := ?_) ?_ ?_
            rotate_left; (· show Act.put _ (some 56) _ = _; simp only [Act.put,List.setIfInBounds_toArray,List.set_cons_zero,List.set_cons_succ,i64_w,i32_w]; rfl)
            refine pure_ (i := 10) (N := some 57) (v := ?_) (a' := ?_) (bo_ 37 2047) rfl rfl (any_of HT_.out (by kernel_rfl)) (fun _ _ _ h => h) (Or.inl ⟨by rfl, ?_⟩) ?_ ?_
            rotate_left; (· intro w'; go_simp; with_reducible rfl)
            rotate_left; (· simp only [Act.put,List.setIfInBounds_toArray,List.set_cons_zero,List.set_cons_succ,i64_w,i32_w]; rfl)
            refine pure_ (i := 11) (N := some 58) (v := ?_) (a' := ?_) (bo_ 37 4095) rfl rfl (any_of HT_.out (by kernel_rfl)) (fun _ _ _ h => h) (Or.inl ⟨by rfl, ?_⟩) ?_ ?_
            rotate_left; (· intro w'; go_simp; with_reducible rfl)
            rotate_left; (· simp only [Act.put,List.setIfInBounds_toArray,List.set_cons_zero,List.set_cons_succ,i64_w,i32_w]; rfl)
            refine pure_ (i := 12) (N := some 59) (v := ?_) (a' := ?_) (bo_ 37 8191) rfl rfl (any_of HT_.out (by kernel_rfl)) (fun _ _ _ h => h) (Or.inl ⟨by rfl, ?_⟩) ?_ ?_
            rotate_left; (· intro w'; go_simp; with_reducible rfl)
            rotate_left; (· simp only [Act.put,List.setIfInBounds_toArray,List.set_cons_zero,List.set_cons_succ,i64_w,i32_w]; rfl)
            refine pure_ (i := 13) (N := some 60) (v := ?_) (a' := ?_) (bo_ 37 16383) rfl rfl (any_of HT_.out (by kernel_rfl)) (fun _ _ _ h => h) (Or.inl ⟨by rfl, ?_⟩) ?_ ?_
            rotate_left; (· intro w'; go_simp; with_reducible rfl)
            rotate_left; (· simp only [Act.put,List.setIfInBounds_toArray,List.set_cons_zero,List.set_cons_succ,i64_w,i32_w]; rfl)
            refine pure_ (i := 14) (N := some 61) (v := ?_) (a' := ?_) (bo_ 37 32767) rfl rfl (any_of HT_.out (by kernel_rfl)) (fun _ _ _ h => h) (Or.inl ⟨by rfl, ?_⟩) ?_ ?_
            rotate_left; (· intro w'; go_simp; with_reducible rfl)
            rotate_left; (· simp only [Act.put,List.setIfInBounds_toArray,List.set_cons_zero,List.set_cons_succ,i64_w,i32_w]; rfl)
            refine pure_ (i := 17) (N := some 64) (v := ?_) (a' := ?_) (bo_ 37 163839) rfl rfl (any_of HT_.out (by kernel_rfl)) (fun _ _ _ h => h) (Or.inl ⟨by rfl, ?_⟩) ?_ ?_
            rotate_left; (· intro w'; go_simp; with_reducible rfl)
            rotate_left; (· simp only [Act.put,List.setIfInBounds_toArray,List.set_cons_zero,List.set_cons_succ,i64_w,i32_w]; rfl)
            refine pure_ (i := 18) (N := some 65) (v := ?_) (a' := ?_) (bo_ 37 425983) rfl rfl (any_of HT_.out (by kernel_rfl)) (fun _ _ _ h => h) (Or.inl ⟨by rfl, ?_⟩) ?_ ?_
            rotate_left; (· intro w'; go_simp; with_reducible rfl)
            rotate_left; (· simp only [Act.put,List.setIfInBounds_toArray,List.set_cons_zero,List.set_cons_succ,i64_w,i32_w]; rfl)
            refine pure_ (i := 19) (N := some 66) (v := ?_) (a' := ?_) (bo_ 37 950271) rfl rfl (any_of HT_.out (by kernel_rfl)) (fun _ _ _ h => h) (Or.inl ⟨by rfl, ?_⟩) ?_ ?_
            rotate_left; (· intro w'; go_simp; with_reducible rfl)
            rotate_left; (· simp only [Act.put,List.setIfInBounds_toArray,List.set_cons_zero,List.set_cons_succ,i64_w,i32_w]; rfl)
            refine take_ (i := 15) (N := some 62) (v := ?_) (a' := ?_) (bo_ 37 983039) rfl rfl (take_ofW HT_.out HW_.out (by kernel_rfl)) (fun _ _ _ h => h) (Or.inl ⟨by rfl, ?_⟩) hHeld ?_ ?_
            rotate_left; (· rintro w' ⟨s0, s1, s2, s3, s4, s5⟩; go_simp; with_reducible rfl)
            rotate_left; (· simp only [Act.put,List.setIfInBounds_toArray,List.set_cons_zero,List.set_cons_succ,i64_w,i32_w]; rfl)
            refine take_ (i := 20) (N := some 67) (v := ?_) (a' := ?_) (bo_ 37 2031615) rfl rfl (take_ofW HT_.out HW_.out (by kernel_rfl)) (fun _ _ _ h => h) (Or.inl ⟨by rfl, ?_⟩) hHeld ?_ ?_
            rotate_left; (· rintro w' ⟨s0, s1, s2, s3, s4, s5⟩; go_simp; with_reducible rfl)
            rotate_left; (· simp only [Act.put,List.setIfInBounds_toArray,List.set_cons_zero,List.set_cons_succ,i64_w,i32_w]; rfl)
            refine one_ (i := 16) (N := some 63) (bo_ 37 2097151) rfl rfl (one_of HT_.out (by kernel_rfl)) (by decide) (fun K hK => ?_)
            refine goes_ Try.func13 (by kernel_rfl) rfl #[.string (rdOf ByteArray.empty y148 x12_2)] (by rfl) rfl rfl (by (try simp only [List.map_toArray, List.map_cons, List.map_nil]); first | done | rfl | (simp only [List.length_drop, List.length_take]; rfl)) ?_
            with_reducible refine (principal_ValidInstance.calls k2 (rdOf ByteArray.empty y148 x12_2) t158 _ A29.out).mono ?_
            rintro e w' ⟨rfl, ⟨nd, rfl⟩⟩
            refine ⟨_, rfl, ?_⟩
            refine hK.out _ _ ⟨hHeld.1, hHeld.2.1, hHeld.2.2.1, hHeld.2.2.2.1, hHeld.2.2.2.2.1, hHeld.2.2.2.2.2⟩ (fun hHeld => ?_)
            clear hK K
            refine norm_ (a' := ?_) ?_ ?_
            rotate_left; (· show Act.put _ (some 63) _ = _; simp only [Act.put,List.setIfInBounds_toArray,List.set_cons_zero,List.set_cons_succ,i64_w,i32_w]; rfl)
            refine one_ (i := 21) (N := some 68) (bo_ 37 4194303) rfl rfl (one_of HT_.out (by kernel_rfl)) (by decide) (fun K hK => ?_)
            refine goes_ Try.func14 (by kernel_rfl) rfl #[.string (rdOf ByteArray.empty y148 x12_2)] (by rfl) rfl rfl (by (try simp only [List.map_toArray, List.map_cons, List.map_nil]); first | done | rfl | (simp only [List.length_drop, List.length_take]; rfl)) ?_
            with_reducible refine (kerbsuiteref1_ValidInstance.calls k2 (rdOf ByteArray.empty y148 x12_2) t160 _ A30.out).mono ?_
            rintro e w' ⟨rfl, ⟨nd, rfl⟩⟩
            refine ⟨_, rfl, ?_⟩
            refine hK.out _ _ ⟨hHeld.1, hHeld.2.1, hHeld.2.2.1, hHeld.2.2.2.1, hHeld.2.2.2.2.1, hHeld.2.2.2.2.2⟩ (fun hHeld => ?_)
            clear hK K
            refine norm_ (a' := ?_) ?_ ?_
            rotate_left; (· show Act.put _ (some 68) _ = _; simp only [Act.put,List.setIfInBounds_toArray,List.set_cons_zero,List.set_cons_succ,i64_w,i32_w]; rfl)
            refine pure_ (i := 22) (N := some 69) (v := ?_) (a' := ?_) (bo_ 37 8388607) rfl rfl (any_of HT_.out (by kernel_rfl)) (fun _ _ _ h => h) (Or.inl ⟨by rfl, ?_⟩) ?_ ?_
            rotate_left; (· intro w'; go_simp; with_reducible rfl)
            rotate_left; (· simp only [Act.put,List.setIfInBounds_toArray,List.set_cons_zero,List.set_cons_succ,i64_w,i32_w]; rfl)
            refine pure_ (i := 23) (N := some 70) (v := ?_) (a' := ?_) (bo_ 37 16777215) rfl rfl (any_of HT_.out (by kernel_rfl)) (fun _ _ _ h => h) (Or.inl ⟨by rfl, ?_⟩) ?_ ?_
            rotate_left; (· intro w'; go_simp; with_reducible rfl)
            rotate_left; (· simp only [Act.put,List.setIfInBounds_toArray,List.set_cons_zero,List.set_cons_succ,i64_w,i32_w]; rfl)
            refine pure_ (i := 24) (N := some 71) (v := ?_) (a' := ?_) (bo_ 37 33554431) rfl rfl (any_of HT_.out (by kernel_rfl)) (fun _ _ _ h => h) (Or.inl ⟨by rfl, ?_⟩) ?_ ?_
            rotate_left; (· intro w'; go_simp; with_reducible rfl)
            rotate_left; (· simp only [Act.put,List.setIfInBounds_toArray,List.set_cons_zero,List.set_cons_succ,i64_w,i32_w]; rfl)
            refine pure_ (i := 25) (N := some 72) (v := ?_) (a' := ?_) (bo_ 37 67108863) rfl rfl (any_of HT_.out (by kernel_rfl)) (fun _ _ _ h => h) (Or.inl ⟨by rfl, ?_⟩) ?_ ?_
            rotate_left; (· intro w'; go_simp; with_reducible rfl)
            rotate_left; (· simp only [Act.put,List.setIfInBounds_toArray,List.set_cons_zero,List.set_cons_succ,i64_w,i32_w]; rfl)
            refine pure_ (i := 26) (N := some 73) (v := ?_) (a' := ?_) (bo_ 37 134217727) rfl rfl (any_of HT_.out (by kernel_rfl)) (fun _ _ _ h => h) (Or.inl ⟨by rfl, ?_⟩) ?_ ?_
            rotate_left; (· intro w'; go_simp; with_reducible rfl)
            rotate_left; (· simp only [Act.put,List.setIfInBounds_toArray,List.set_cons_zero,List.set_cons_succ,i64_w,i32_w]; rfl)
            refine pure_ (i := 27) (N := some 74) (v := ?_) (a' := ?_) (bo_ 37 268435455) rfl rfl (any_of HT_.out (by kernel_rfl)) (fun _ _ _ h => h) (Or.inl ⟨by rfl, ?_⟩) ?_ ?_
            rotate_left; (· intro w'; go_simp; with_reducible rfl)
            rotate_left; (· simp only [Act.put,List.setIfInBounds_toArray,List.set_cons_zero,List.set_cons_succ,i64_w,i32_w]; rfl)
            refine pure_ (i := 30) (N := some 77) (v := ?_) (a' := ?_) (bo_ 37 1342177279) rfl rfl (any_of HT_.out (by kernel_rfl)) (fun _ _ _ h => h) (Or.inl ⟨by rfl, ?_⟩) ?_ ?_
            rotate_left; (· intro w'; go_simp; with_reducible rfl)
            rotate_left; (· simp only [Act.put,List.setIfInBounds_toArray,List.set_cons_zero,List.set_cons_succ,i64_w,i32_w]; rfl)
            refine pure_ (i := 31) (N := some 78) (v := ?_) (a' := ?_) (bo_ 37 3489660927) rfl rfl (any_of HT_.out (by kernel_rfl)) (fun _ _ _ h => h) (Or.inl ⟨by rfl, ?_⟩) ?_ ?_
            rotate_left; (· intro w'; go_simp; with_reducible rfl)
            rotate_left; (· simp only [Act.put,List.setIfInBounds_toArray,List.set_cons_zero,List.set_cons_succ,i64_w,i32_w]; rfl)
            refine pure_ (i := 32) (N := some 79) (v := ?_) (a' := ?_) (bo_ 37 7784628223) rfl rfl (any_of HT_.out (by kernel_rfl)) (fun _ _ _ h => h) (Or.inl ⟨by rfl, ?_⟩) ?_ ?_
            rotate_left; (· intro w'; go_simp; with_reducible rfl)
            rotate_left; (· simp only [Act.put,List.setIfInBounds_toArray,List.set_cons_zero,List.set_cons_succ,i64_w,i32_w]; rfl)
            refine take_ (i := 28) (N := some 75) (v := ?_) (a' := ?_) (bo_ 37 8053063679) rfl rfl (take_ofW HT_.out HW_.out (by kernel_rfl)) (fun _ _ _ h => h) (Or.inl ⟨by rfl, ?_⟩) hHeld ?_ ?_
            rotate_left; (· rintro w' ⟨s0, s1, s2, s3, s4, s5⟩; go_simp; with_reducible rfl)
            rotate_left; (· simp only [Act.put,List.setIfInBounds_toArray,List.set_cons_zero,List.set_cons_succ,i64_w,i32_w]; rfl)
            refine take_ (i := 33) (N := some 80) (v := ?_) (a' := ?_) (bo_ 37 16642998271) rfl rfl (take_ofW HT_.out HW_.out (by kernel_rfl)) (fun _ _ _ h => h) (Or.inl ⟨by rfl, ?_⟩) hHeld ?_ ?_
            rotate_left; (· rintro w' ⟨s0, s1, s2, s3, s4, s5⟩; go_simp; with_reducible rfl)
            rotate_left; (· simp only [Act.put,List.setIfInBounds_toArray,List.set_cons_zero,List.set_cons_succ,i64_w,i32_w]; rfl)
            refine one_ (i := 29) (N := some 76) (bo_ 37 17179869183) rfl rfl (one_of HT_.out (by kernel_rfl)) (by decide) (fun K hK => ?_)
            refine goes_ Try.func15 (by kernel_rfl) rfl #[.string (rdOf ByteArray.empty y148 x12_2)] (by rfl) rfl rfl (by (try simp only [List.map_toArray, List.map_cons, List.map_nil]); first | done | rfl | (simp only [List.length_drop, List.length_take]; rfl)) ?_
            with_reducible refine (principal_ValidRealm.calls k2 (rdOf ByteArray.empty y148 x12_2) t162 _ A34.out).mono ?_
            rintro e w' ⟨rfl, ⟨nd, rfl⟩⟩
            refine ⟨_, rfl, ?_⟩
            refine hK.out _ _ ⟨hHeld.1, hHeld.2.1, hHeld.2.2.1, hHeld.2.2.2.1, hHeld.2.2.2.2.1, hHeld.2.2.2.2.2⟩ (fun hHeld => ?_)
            clear hK K
            refine norm_ (a' := ?_) ?_ ?_
            rotate_left; (· show Act.put _ (some 76) _ = _; simp only [Act.put,List.setIfInBounds_toArray,List.set_cons_zero,List.set_cons_succ,i64_w,i32_w]; rfl)
            refine one_ (i := 34) (N := some 81) (bo_ 37 34359738367) rfl rfl (one_of HT_.out (by kernel_rfl)) (by decide) (fun K hK => ?_)
            refine goes_ Try.func16 (by kernel_rfl) rfl #[.string (rdOf ByteArray.empty y148 x12_2)] (by rfl) rfl rfl (by (try simp only [List.map_toArray, List.map_cons, List.map_nil]); first | done | rfl | (simp only [List.length_drop, List.length_take]; rfl)) ?_
            with_reducible refine (kerbsuiteref1_ValidRealm.calls k2 (rdOf ByteArray.empty y148 x12_2) t164 _ A35.out).mono ?_
            rintro e w' ⟨rfl, ⟨nd, rfl⟩⟩
            refine ⟨_, rfl, ?_⟩
            refine hK.out _ _ ⟨hHeld.1, hHeld.2.1, hHeld.2.2.1, hHeld.2.2.2.1, hHeld.2.2.2.2.1, hHeld.2.2.2.2.2⟩ (fun hHeld => ?_)
            clear hK K
            refine norm_ (a' := ?_) ?_ ?_
            rotate_left; (· show Act.put _ (some 81) _ = _; simp only [Act.put,List.setIfInBounds_toArray,List.set_cons_zero,List.set_cons_succ,i64_w,i32_w]; rfl)
            refine pure_ (i := 35) (N := some 82) (v := ?_) (a' := ?_) (bo_ 37 68719476735) rfl rfl (any_of HT_.out (by kernel_rfl)) (fun _ _ _ h => h) (Or.inl ⟨by rfl, ?_⟩) ?_ ?_
            rotate_left; (· intro w'; go_simp; with_reducible rfl)
            rotate_left; (· simp only [Act.put,List.setIfInBounds_toArray,List.set_cons_zero,List.set_cons_succ,i64_w,i32_w]; rfl)
            refine pure_ (i := 36) (N := some 83) (v := ?_) (a' := ?_) (bo_ 37 137438953471) rfl rfl (any_of HT_.out (by kernel_rfl)) (fun _ _ _ h => h) (Or.inl ⟨by rfl, ?_⟩) ?_ ?_
            rotate_left; (· intro w'; go_simp; with_reducible rfl)
            rotate_left; (· simp only [Act.put,List.setIfInBounds_toArray,List.set_cons_zero,List.set_cons_succ,i64_w,i32_w]; rfl)
            refine done_ (done_of HT_.out (by kernel_rfl)) ?_
            try go_wp2
            go_roundg k2
            case measure => have := HJ7.out; have := HK2.out; omega
            case rel => exact ⟨(wrap64 (x12_2 + 1)), (by first | rfl | (simp; done) | (simp [*]; done)), H', ⟨by have := HJ7.out; have := HK2.out; omega⟩, ⟨by (with_reducible repeat (first | apply Kd.R_alloc | apply Kd.R_drewN | apply Kd.R_drew)); exact HO_11.out⟩, ⟨by (with_reducible repeat (first | refine blk_drewN ?_ _ | refine blk_drew ?_ | refine blk_alloc ?_ _)); exact BK143.out⟩, ⟨by repeat (first | (with_reducible first | exact HB.out | apply below_alloc | apply pw_below_drewN | apply below_drew1 | refine below_set ?_ GE143.out) | exact HB.out)⟩⟩
        ·rw [if_neg c23] at H
         exact absurd H (by simp)
       ·rw [if_neg c22] at H
        have c22b0 : decide (x12_2 < (y148.length : Int)) = false := decide_eq_false c22
        clear c22
        replace H := Option.bind_eq_some_iff.mp H
        obtain ⟨t151, A410, H⟩ := H
        replace H : ((kerbsuiteref1_Valid.f k2 a4_0 a4_1 a4_2).bind fun t152 => (some (t151 == t152))) = some r := H
        have A41 := Aside0.mk A410
        clear A410
        replace H := Option.bind_eq_some_iff.mp H
        obtain ⟨t152, A420, H⟩ := H
        replace H : (some (t151 == t152)) = some r := H
        have A42 := Aside0.mk A420
        clear A420
        obtain rfl := Option.some.inj H
        obtain ⟨Ao43, co43, eo43⟩ := Kd.R_slice HO_11.out
        subst eo43
        try go_wp2
        have n0_ := Aside0.mk (Kd.R_drew HO_11.out)
        have n1_ := Aside0.mk (blk_drew BK143.out)
        have n2_ := Aside0.mk (below_drew1 HB.out)
        clear HO_11
        clear BK143
        clear HB
        have HO_11 := n0_
        have BK143 := n1_
        have HB := n2_
        clear n0_ n1_ n2_
        refine start_ (n := 6) (S := fun w' => w'.cell? ⟨gb143, 0, none⟩ = some (.string a4_0) ∧ w'.cell? ⟨gb143, 1, none⟩ = some (.string a4_1) ∧ w'.cell? ⟨gb143, 2, none⟩ = some (.string a4_2)) (ds := []) #[false,false,false,false,false,false] (by kernel_rfl) rfl rfl ⟨(blk_cell BK143.out 0).trans rfl, (blk_cell BK143.out 1).trans rfl, (blk_cell BK143.out 2).trans rfl⟩ (fun hHeld => ?_)
        generalize wr.drew = w44 at HO_11 BK143 HB hHeld ⊢
        refine take_ (i := 0) (N := some 84) (v := ?_) (a' := ?_) (bo_ 6 1) rfl rfl (by kernel_rfl) (fun _ _ _ h => h) (Or.inl ⟨by rfl, ?_⟩) hHeld ?_ ?_
        rotate_left; (· rintro w' ⟨s0, s1, s2⟩; go_simp; with_reducible rfl)
        rotate_left; (· simp only [Act.put,List.setIfInBounds_toArray,List.set_cons_zero,List.set_cons_succ,i64_w,i32_w]; rfl)
        refine take_ (i := 2) (N := some 86) (v := ?_) (a' := ?_) (bo_ 6 5) rfl rfl (by kernel_rfl) (fun _ _ _ h => h) (Or.inl ⟨by rfl, ?_⟩) hHeld ?_ ?_
        rotate_left; (· rintro w' ⟨s0, s1, s2⟩; go_simp; with_reducible rfl)
        rotate_left; (· simp only [Act.put,List.setIfInBounds_toArray,List.set_cons_zero,List.set_cons_succ,i64_w,i32_w]; rfl)
        refine one_ (i := 1) (N := some 85) (bo_ 6 7) rfl rfl (by kernel_rfl) (by decide) (fun K hK => ?_)
        refine goes_ Try.func17 (by kernel_rfl) rfl #[.agg #[.string a4_0, .string a4_1, .string a4_2]] (by rfl) rfl rfl (by (try simp only [List.map_toArray, List.map_cons, List.map_nil]); first | done | rfl | (simp only [List.length_drop, List.length_take]; rfl)) ?_
        with_reducible refine (principal_Valid.calls k2 a4_0 a4_1 a4_2 t151 _ A41.out).mono ?_
        rintro e w45 ⟨rfl, hb⟩
        refine ⟨_, rfl, ?_⟩
        have n0_ := Aside0.mk (Kd.R_below (by (with_reducible repeat (first | apply Kd.R_alloc | apply Kd.R_drewN | apply Kd.R_drew)); exact HO_11.out) hb)
        have n1_ := Aside0.mk (blk_below (g := gb143) (o := .cells #[.string a4_0, .string a4_1, .string a4_2] 23 (0, 0)) (by (with_reducible repeat (first | refine blk_drewN ?_ _ | refine blk_drew ?_ | refine blk_alloc ?_ _)); exact BK143.out) hb)
        have n2_ := Aside0.mk (below_step (by repeat (first | (with_reducible first | exact HB.out | apply below_alloc | apply pw_below_drewN | apply below_drew1 | refine below_set ?_ GE143.out) | exact HB.out)) hb)
        clear HO_11
        clear BK143
        clear HB
        have HO_11 := n0_
        have BK143 := n1_
        have HB := n2_
        clear n0_ n1_ n2_
        (try clear hb)
        (try clear hb2)
        (try clear hk)
        (try clear hi)
        refine hK.out _ _ ⟨(blk_cell BK143.out 0).trans rfl, (blk_cell BK143.out 1).trans rfl, (blk_cell BK143.out 2).trans rfl⟩ (fun hHeld => ?_)
        clear hK K
        refine norm_ (a' := ?_) ?_ ?_
        rotate_left; (· show Act.put _ (some 85) _ = _; simp only [Act.put,List.setIfInBounds_toArray,List.set_cons_zero,List.set_cons_succ,i64_w,i32_w]; rfl)
        refine one_ (i := 3) (N := some 87) (bo_ 6 15) rfl rfl (by kernel_rfl) (by decide) (fun K hK => ?_)
        refine goes_ Try.func18 (by kernel_rfl) rfl #[.agg #[.string a4_0, .string a4_1, .string a4_2]] (by rfl) rfl rfl (by (try simp only [List.map_toArray, List.map_cons, List.map_nil]); first | done | rfl | (simp only [List.length_drop, List.length_take]; rfl)) ?_
        with_reducible refine (kerbsuiteref1_Valid.calls k2 a4_0 a4_1 a4_2 t152 _ A42.out).mono ?_
        rintro e w46 ⟨rfl, hb⟩
        refine ⟨_, rfl, ?_⟩
        have n0_ := Aside0.mk (Kd.R_below (by (with_reducible repeat (first | apply Kd.R_alloc | apply Kd.R_drewN | apply Kd.R_drew)); exact HO_11.out) hb)
        have n1_ := Aside0.mk (blk_below (g := gb143) (o := .cells #[.string a4_0, .string a4_1, .string a4_2] 23 (0, 0)) (by (with_reducible repeat (first | refine blk_drewN ?_ _ | refine blk_drew ?_ | refine blk_alloc ?_ _)); exact BK143.out) hb)
        have n2_ := Aside0.mk (below_step (by repeat (first | (with_reducible first | exact HB.out | apply below_alloc | apply pw_below_drewN | apply below_drew1 | refine below_set ?_ GE143.out) | exact HB.out)) hb)
        clear HO_11
        clear BK143
        clear HB
        have HO_11 := n0_
        have BK143 := n1_
        have HB := n2_
        clear n0_ n1_ n2_
        (try clear hb)
        (try clear hb2)
        (try clear hk)
        (try clear hi)
        refine hK.out _ _ ⟨(blk_cell BK143.out 0).trans rfl, (blk_cell BK143.out 1).trans rfl, (blk_cell BK143.out 2).trans rfl⟩ (fun hHeld => ?_)
        clear hK K
        refine norm_ (a' := ?_) ?_ ?_
        rotate_left; (· show Act.put _ (some 87) _ = _; simp only [Act.put,List.setIfInBounds_toArray,List.set_cons_zero,List.set_cons_succ,i64_w,i32_w]; rfl)
        refine pure_ (i := 4) (N := some 88) (v := ?_) (a' := ?_) (bo_ 6 31) rfl rfl (by kernel_rfl) (fun _ _ _ h => h) (Or.inl ⟨by rfl, ?_⟩) ?_ ?_
        rotate_left; (· intro w'; go_simp; with_reducible rfl)
        rotate_left; (· simp only [Act.put,List.setIfInBounds_toArray,List.set_cons_zero,List.set_cons_succ,i64_w,i32_w]; rfl)
        refine pure_ (i := 5) (N := some 10) (v := ?_) (a' := ?_) (bo_ 6 63) rfl rfl (by kernel_rfl) (fun _ _ _ h => h) (Or.inl ⟨by rfl, ?_⟩) ?_ ?_
        rotate_left; (· intro w'; go_simp; with_reducible rfl)
        rotate_left; (· simp only [Act.put,List.setIfInBounds_toArray,List.set_cons_zero,List.set_cons_succ,i64_w,i32_w]; rfl)
        refine done_ (by kernel_rfl) ?_
        try go_wp2
        go_ret
        exact ⟨by first | rfl | (simp [errW_none, errW_some] <;> rfl) | (simp [*, errW_none, errW_some] <;> rfl), by repeat (first | (with_reducible first | exact HB.out | apply below_alloc | apply pw_below_drewN | apply below_drew1 | refine below_set ?_ GE143.out) | exact HB.out)⟩
 ·replace c7 := Bool.eq_false_iff.mpr c7
  subst c7
  have H1 : (some false) = some r := by rw [if_neg (show ¬ (false = true) by decide)] at H; exact H
  clear H
  have H := H1
  clear H1
  obtain rfl := Option.some.inj H
  go_enter Try.func3, Try.ntmps3
  go_wp2_with (first | ((with_reducible refine gate_dst (N := 9) rfl ?_); refine box_event ?hg (N := 9) ?hd (cs := #[.string a4_0, .string a4_1, .string a4_2]) (t := 23) ?hr ?_; (case hd => rfl); (case hg => rfl); (case hr => first | (go_simp; done) | (go_simp; rfl)); intro gb143 hg w47 hbox hb; have n0_ := Aside0.mk (below_step (by repeat (first | (with_reducible first | exact HB.out | apply below_alloc | apply pw_below_drewN | apply below_drew1) | exact HB.out)) hb); have n1_ := Aside0.mk (hbox); have n2_ := Aside0.mk ((by rw [hg]; exact (below_size (by repeat (first | (with_reducible first | exact HB.out | apply below_alloc | apply pw_below_drewN | apply below_drew1) | exact HB.out))) : w.heap.size ≤ gb143)); have n3_ := Aside0.mk ((by rw [hg]; exact (below_size (by repeat (first | (with_reducible first | exact HB.out | apply below_alloc | apply pw_below_drewN | apply below_drew1) | exact HB.out))) : w.heap.size ≤ gb143)); clear HB; have HB := n0_; have BK143 := n1_; have GW143 := n2_; have GE143 := n3_; clear n0_ n1_ n2_ n3_; clear hb hbox hg) | ((with_reducible refine gate_callee (f := 8) rfl ?_); refine goesL_ (some 13) rfl rfl Try.func8 (by kernel_rfl) rfl #[] rfl (by (try simp only [List.map_toArray, List.map_cons, List.map_nil]); first | done | rfl | (simp only [List.length_drop, List.length_take]; rfl)) ?_; (with_reducible refine (kerbsuitelaw1_awake.calls k  false _ A6.out).mono ?_); rintro e w48 ⟨rfl, hb⟩; refine ⟨_, rfl, ?_⟩; have n0_ := Aside0.mk (blk_below (g := gb143) (o := .cells #[.string a4_0, .string a4_1, .string a4_2] 23 (0, 0)) (by (with_reducible repeat (first | refine blk_drewN ?_ _ | refine blk_drew ?_ | refine blk_alloc ?_ _)); exact BK143.out) hb); have n1_ := Aside0.mk (below_step (by repeat (first | (with_reducible first | exact HB.out | apply below_alloc | apply pw_below_drewN | apply below_drew1 | refine below_set ?_ GE143.out) | exact HB.out)) hb); clear BK143; clear HB; have BK143 := n0_; have HB := n1_; clear n0_ n1_; (try clear hb); (try clear hb2); (try clear hk); (try clear hi)))
  go_ret
  exact ⟨by first | rfl | (simp [errW_none, errW_some] <;> rfl) | (simp [*, errW_none, errW_some] <;> rfl), by repeat (first | (with_reducible first | exact HB.out | apply below_alloc | apply pw_below_drewN | apply below_drew1 | refine below_set ?_ GE143.out) | exact HB.out)⟩

/-- The one plain statement that is left of kerbsuitelaw1_PrincipalValid. -/
def kerbsuitelaw1_PrincipalValid.Pure : Prop := ∀ (a0 : ByteArray) (a1 : Int) (a2 : Int) (a3 : Int) (a4_0 : ByteArray) (a4_1 : ByteArray) (a4_2 : ByteArray), a0.size ≤ 140737488351232 → (Lit.int .u8 a1).wf = true → (Lit.int .u8 a2).wf = true → (Lit.int .u8 a3).wf = true → a4_0.size ≤ maxLen → a4_1.size ≤ maxLen → a4_2.size ≤ maxLen → ∃ k, kerbsuitelaw1_PrincipalValid.f k a0 a1 a2 a3 a4_0 a4_1 a4_2 = some true
theorem kerbsuitelaw1_PrincipalValid.walk (P : kerbsuitelaw1_PrincipalValid.Pure) (a0 : ByteArray) (a1 : Int) (a2 : Int) (a3 : Int) (a4_0 : ByteArray) (a4_1 : ByteArray) (a4_2 : ByteArray) (w : World) (q0_0 : a0.size ≤ 140737488351232) (q1_0 : (Lit.int .u8 a1).wf = true) (q2_0 : (Lit.int .u8 a2).wf = true) (q3_0 : (Lit.int .u8 a3).wf = true) (q4_0_0 : a4_0.size ≤ maxLen) (q4_1_0 : a4_1.size ≤ maxLen) (q4_2_0 : a4_2.size ≤ maxLen) :
  Calls Try.prog 3 #[.string a0, .int .u8 a1, .int .u8 a2, .int .u8 a3, .agg #[.string a4_0, .string a4_1, .string a4_2]] w fun e w' => e = .returned (.bool true) ∧ Below w.heap.size w w' := by
 obtain ⟨k, h⟩ := P a0 a1 a2 a3 a4_0 a4_1 a4_2 q0_0 q1_0 q2_0 q3_0 q4_0_0 q4_1_0 q4_2_0
 refine (kerbsuitelaw1_PrincipalValid.calls k a0 a1 a2 a3 a4_0 a4_1 a4_2 true w h).mono ?_
 rintro e w' ⟨rfl, hd⟩
 exact ⟨rfl, hd⟩

end Go.Proofs.Ytmgcfnialfjphaa.PPrin
