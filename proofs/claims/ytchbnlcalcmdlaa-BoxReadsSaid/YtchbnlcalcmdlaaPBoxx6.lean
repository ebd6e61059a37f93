/- The walks of functions of the translation: each call returns what the plain function beside it says. -/
import Derived.Test.YtchbnlcalcmdlaaPBoxx0
import Derived.Test.YtchbnlcalcmdlaaPBoxx2
import Derived.Test.YtchbnlcalcmdlaaPBoxx3
import Derived.Test.YtchbnlcalcmdlaaPBoxx5
namespace Go.Proofs.Ytchbnlcalcmdlaa.PBox
open Go.RowKit Go.Proofs.YtchbnlcalcmdlaaW.PrintWords Go.Proofs.YtchbnlcalcmdlaaW.PrintLast Go.Proofs.YtchbnlcalcmdlaaW.PrintMore Go.Proofs.Ytchbnlcalcmdlaa.Aid
attribute [local go_sem] max2_int min2_int max_two min_two max_three min_three max_four min_four aid_str_gtr   -- for this text's walks alone
set_option linter.unusedVariables false
set_option linter.unusedSimpArgs false

/-! ### kerbsuitelaw4_BoxReads: function 4 -/
mutual
def kerbsuitelaw4_BoxReads.j0 : Nat → List Int → List Int → List Int → Int → Int → Int → Bool → Option (Bool)
 | 0, _, _, _, _, _, _, _ => none
 | k + 1, x0, x1, x2, x3, x4, x5, x37 => if x37 = true then (some true) else ((kerbsuitedata_Session.f (wrap64 (x4))).bind fun t263 => ((kerbsuiteref4_Make.f k (wrap64 (1 + (Int.tmod (wrap64 (x3)) 10))) t263 x1).bind fun bt264 => ((some (([] : List Int) : List Int)).bind fun y268 => (if y268.length + bt264.1.length < 140737488355328 then ((some (y268 ++ bt264.1 : List Int)).bind fun y271 => (if y271.length + x2.length < 140737488355328 then ((kerbsuitedata_Spoil.f bt264.1 x5).bind fun t277 => (if (wrap64 ((bt264.1.length : Int) + 1)) = 0 then (none) else (if 0 ≤ (Int.tmod (wrap64 (x5)) (wrap64 ((bt264.1.length : Int) + 1))) then (if (Int.tmod (wrap64 (x5)) (wrap64 ((bt264.1.length : Int) + 1))) ≤ (bt264.1.length : Int) then (kerbsuitelaw4_BoxReads.l0 k (([x0, (y271 ++ x2), t277, (bt264.1.take ((Int.tmod (wrap64 (x5)) (wrap64 ((bt264.1.length : Int) + 1))) : Int).toNat)] : List (List Int))) 0) else (none)) else (none)))) else (none))) else (none)))))
def kerbsuitelaw4_BoxReads.l0 : Nat → List (List Int) → Int → Option (Bool)
 | 0, _, _ => none
 | k + 1, x15, x16 => if x16 < (x15.length : Int) then (if 0 ≤ x16 then ((box_Read.f k (rd_L1 x15 x16)).bind fun bt289 => ((kerbsuiteref4_Read.f k (rd_L1 x15 x16)).bind fun bt298 => (if bt289.1 = bt298.1 then (if bt289.2.1 = bt298.2.1 then (if (strOfNums bt289.2.2.1).toList = (strOfNums bt298.2.2.1).toList then (if bt289.2.2.2.1 = bt298.2.2.2.1 then (if bt289.2.2.2.2 = bt298.2.2.2.2 then ((box_Is.f k (rd_L1 x15 x16)).bind fun t307 => ((kerbsuiteref4_Is.f k (rd_L1 x15 x16)).bind fun t309 => (kerbsuitelaw4_BoxReads.j2 k x15 x16 (t307 != t309)))) else (kerbsuitelaw4_BoxReads.j2 k x15 x16 true)) else (kerbsuitelaw4_BoxReads.j2 k x15 x16 true)) else (kerbsuitelaw4_BoxReads.j2 k x15 x16 true)) else (kerbsuitelaw4_BoxReads.j2 k x15 x16 true)) else (kerbsuitelaw4_BoxReads.j2 k x15 x16 true)))) else (none)) else (some true)
def kerbsuitelaw4_BoxReads.j2 : Nat → List (List Int) → Int → Bool → Option (Bool)
 | 0, _, _, _ => none
 | k + 1, x15, x16, x135 => if x135 = true then (some false) else (kerbsuitelaw4_BoxReads.l0 k x15 (wrap64 (x16 + 1)))
end
def kerbsuitelaw4_BoxReads.f (k : Nat) (l0 : List Int) (l1 : List Int) (l2 : List Int) (a3 : Int) (a4 : Int) (a5 : Int) : Option (Bool) := (kerbsuitelaw4_awake.f k).bind fun t262 => (if t262 = true then (if (l0.length : Int) > 1100 then (kerbsuitelaw4_BoxReads.j0 k l0 l1 l2 a3 a4 a5 true) else (if (l1.length : Int) > 900 then (kerbsuitelaw4_BoxReads.j0 k l0 l1 l2 a3 a4 a5 true) else (kerbsuitelaw4_BoxReads.j0 k l0 l1 l2 a3 a4 a5 (decide ((l2.length : Int) > 100))))) else (some false))
theorem kerbsuitelaw4_BoxReads.mono_l : ∀ k, (∀ y0 y1 y2 y3 y4 y5 y6, LeO (kerbsuitelaw4_BoxReads.j0 k y0 y1 y2 y3 y4 y5 y6) (kerbsuitelaw4_BoxReads.j0 (k + 1) y0 y1 y2 y3 y4 y5 y6)) ∧ (∀ y0 y1, LeO (kerbsuitelaw4_BoxReads.l0 k y0 y1) (kerbsuitelaw4_BoxReads.l0 (k + 1) y0 y1)) ∧ (∀ y0 y1 y2, LeO (kerbsuitelaw4_BoxReads.j2 k y0 y1 y2) (kerbsuitelaw4_BoxReads.j2 (k + 1) y0 y1 y2))
 | 0 => ⟨fun _ _ _ _ _ _ _ r h => by simp [kerbsuitelaw4_BoxReads.j0] at h, fun _ _ r h => by simp [kerbsuitelaw4_BoxReads.l0] at h, fun _ _ _ r h => by simp [kerbsuitelaw4_BoxReads.j2] at h⟩
 | k + 1 => by
  obtain ⟨ih0, ih1, ih2⟩ := kerbsuitelaw4_BoxReads.mono_l k
  refine ⟨?_, ?_, ?_⟩
  ·intro y0 y1 y2 y3 y4 y5 y6
   unfold kerbsuitelaw4_BoxReads.j0
   repeat' first
   | (with_reducible exact ih0 _ _ _ _ _ _ _)
   | (with_reducible exact ih1 _ _)
   | (with_reducible exact ih2 _ _ _)
   | (with_reducible exact box_Is.mono _ _)
   | (with_reducible exact box_Read.mono _ _)
   | (with_reducible exact kerbsuitelaw4_awake.mono _)
   | (with_reducible exact kerbsuiteref4_Is.mono _ _)
   | (with_reducible exact kerbsuiteref4_Make.mono _ _ _ _)
   | (with_reducible exact kerbsuiteref4_Read.mono _ _)
   | (with_reducible exact LeO.refl _)
   | (with_reducible exact LeO.none _)
   | (with_reducible refine LeO.ite ?_ ?_)
   | (with_reducible refine LeO.bind ?_ (fun _ => ?_))
   | exact ih0 _ _ _ _ _ _ _
   | exact ih1 _ _
   | exact ih2 _ _ _
   | exact box_Is.mono _ _
   | exact box_Read.mono _ _
   | exact kerbsuitelaw4_awake.mono _
   | exact kerbsuiteref4_Is.mono _ _
   | exact kerbsuiteref4_Make.mono _ _ _ _
   | exact kerbsuiteref4_Read.mono _ _
   | exact LeO.none _
   | refine LeO.ite ?_ ?_
   | refine LeO.bind ?_ (fun _ => ?_)
  ·intro y0 y1
   unfold kerbsuitelaw4_BoxReads.l0
   repeat' first
   | (with_reducible exact ih0 _ _ _ _ _ _ _)
   | (with_reducible exact ih1 _ _)
   | (with_reducible exact ih2 _ _ _)
   | (with_reducible exact box_Is.mono _ _)
   | (with_reducible exact box_Read.mono _ _)
   | (with_reducible exact kerbsuitelaw4_awake.mono _)
   | (with_reducible exact kerbsuiteref4_Is.mono _ _)
   | (with_reducible exact kerbsuiteref4_Make.mono _ _ _ _)
   | (with_reducible exact kerbsuiteref4_Read.mono _ _)
   | (with_reducible exact LeO.refl _)
   | (with_reducible exact LeO.none _)
   | (with_reducible refine LeO.ite ?_ ?_)
   | (with_reducible refine LeO.bind ?_ (fun _ => ?_))
   | exact ih0 _ _ _ _ _ _ _
   | exact ih1 _ _
   | exact ih2 _ _ _
   | exact box_Is.mono _ _
   | exact box_Read.mono _ _
   | exact kerbsuitelaw4_awake.mono _
   | exact kerbsuiteref4_Is.mono _ _
   | exact kerbsuiteref4_Make.mono _ _ _ _
   | exact kerbsuiteref4_Read.mono _ _
   | exact LeO.none _
   | refine LeO.ite ?_ ?_
   | refine LeO.bind ?_ (fun _ => ?_)
  ·intro y0 y1 y2
   unfold kerbsuitelaw4_BoxReads.j2
   repeat' first
   | (with_reducible exact ih0 _ _ _ _ _ _ _)
   | (with_reducible exact ih1 _ _)
   | (with_reducible exact ih2 _ _ _)
   | (with_reducible exact box_Is.mono _ _)
   | (with_reducible exact box_Read.mono _ _)
   | (with_reducible exact kerbsuitelaw4_awake.mono _)
   | (with_reducible exact kerbsuiteref4_Is.mono _ _)
   | (with_reducible exact kerbsuiteref4_Make.mono _ _ _ _)
   | (with_reducible exact kerbsuiteref4_Read.mono _ _)
   | (with_reducible exact LeO.refl _)
   | (with_reducible exact LeO.none _)
   | (with_reducible refine LeO.ite ?_ ?_)
   | (with_reducible refine LeO.bind ?_ (fun _ => ?_))
   | exact ih0 _ _ _ _ _ _ _
   | exact ih1 _ _
   | exact ih2 _ _ _
   | exact box_Is.mono _ _
   | exact box_Read.mono _ _
   | exact kerbsuitelaw4_awake.mono _
   | exact kerbsuiteref4_Is.mono _ _
   | exact kerbsuiteref4_Make.mono _ _ _ _
   | exact kerbsuiteref4_Read.mono _ _
   | exact LeO.none _
   | refine LeO.ite ?_ ?_
   | refine LeO.bind ?_ (fun _ => ?_)
theorem kerbsuitelaw4_BoxReads.mono : ∀ a0 a1 a2 a3 a4 a5 k, LeO (kerbsuitelaw4_BoxReads.f k a0 a1 a2 a3 a4 a5) (kerbsuitelaw4_BoxReads.f (k + 1) a0 a1 a2 a3 a4 a5) := by
 intro a0 a1 a2 a3 a4 a5 k
 obtain ⟨ih0, ih1, ih2⟩ := kerbsuitelaw4_BoxReads.mono_l k
 unfold kerbsuitelaw4_BoxReads.f
 repeat' first
   | (with_reducible exact ih0 _ _ _ _ _ _ _)
   | (with_reducible exact ih1 _ _)
   | (with_reducible exact ih2 _ _ _)
   | (with_reducible exact box_Is.mono _ _)
   | (with_reducible exact box_Read.mono _ _)
   | (with_reducible exact kerbsuitelaw4_awake.mono _)
   | (with_reducible exact kerbsuiteref4_Is.mono _ _)
   | (with_reducible exact kerbsuiteref4_Make.mono _ _ _ _)
   | (with_reducible exact kerbsuiteref4_Read.mono _ _)
   | (with_reducible exact LeO.refl _)
   | (with_reducible exact LeO.none _)
   | (with_reducible refine LeO.ite ?_ ?_)
   | (with_reducible refine LeO.bind ?_ (fun _ => ?_))
   | exact ih0 _ _ _ _ _ _ _
   | exact ih1 _ _
   | exact ih2 _ _ _
   | exact box_Is.mono _ _
   | exact box_Read.mono _ _
   | exact kerbsuitelaw4_awake.mono _
   | exact kerbsuiteref4_Is.mono _ _
   | exact kerbsuiteref4_Make.mono _ _ _ _
   | exact kerbsuiteref4_Read.mono _ _
   | exact LeO.none _
   | refine LeO.ite ?_ ?_
   | refine LeO.bind ?_ (fun _ => ?_)
def kerbsuitelaw4_BoxReads.T6 : Bool × List (List Nat × List Nat) := (true,[([], []), ([], []), ([], []), ([1, 2], [1, 2]), ([], []), ([3, 4, 3], [3, 4]), ([], []), ([], []), ([6, 7, 5], [6, 7]), ([], []), ([], []), ([10], [10]), ([], []), ([12], [12]), ([13], [13]), ([11, 14], [11, 14]), ([9, 15], [9, 15]), ([0, 5, 8, 16], [0, 5, 8, 16]), ([17, 8, 0, 1, 2, 3, 4, 5, 6, 7, 8, 9, 10, 11, 12, 13, 14, 15, 16, 17], [17])])
def kerbsuitelaw4_BoxReads.B6 : List Nat := [0, 0, 0, 6, 0, 30, 0, 0, 254, 0, 0, 1024, 0, 4096, 12288, 31744, 65024, 131071, 262143]
theorem kerbsuitelaw4_BoxReads.tab6 : rtab .any (opsOf Try.f4 6) = kerbsuitelaw4_BoxReads.T6 := by kernel_rfl
theorem kerbsuitelaw4_BoxReads.bits6 : waitsOk kerbsuitelaw4_BoxReads.T6.2 kerbsuitelaw4_BoxReads.B6 = true := by kernel_rfl
def kerbsuitelaw4_BoxReads.T12 : Bool × List (List Nat × List Nat) := (true,[([], []), ([0], [0]), ([], []), ([2], [2]), ([1, 3], [1, 3]), ([4], [4]), ([5], [5]), ([6, 5], [5, 6]), ([5], [5]), ([8, 5], [5, 8]), ([7, 9, 5], [5, 7, 9]), ([5, 10], [5, 10]), ([11, 5], [11]), ([12], [12]), ([13, 12], [12, 13]), ([14, 12], [12, 14]), ([12], [12]), ([16, 12], [12, 16]), ([17, 12], [12, 17]), ([15, 18, 12], [12, 15, 18]), ([12, 19], [12, 19]), ([20, 12], [20]), ([21], [21]), ([21], [21]), ([22, 23, 21], [21, 22, 23]), ([21, 24], [21, 24]), ([25, 21], [25]), ([26], [26]), ([26], [26]), ([27, 28, 26], [26, 27, 28]), ([26, 29], [26, 29]), ([30, 26], [30]), ([31], [31]), ([31], [31]), ([32, 33, 31], [31, 32, 33]), ([34, 31], [31, 34]), ([35, 31, 31], [31, 35]), ([31], [31]), ([31], [31]), ([37, 38, 31], [31, 37, 38]), ([39, 31], [31, 39]), ([40, 36, 31], [31, 40]), ([36, 41, 31], [31, 36, 41]), ([31, 42], [31, 42])])
def kerbsuitelaw4_BoxReads.B12 : List Nat := [0, 1, 0, 4, 15, 31, 63, 127, 63, 319, 1023, 2047, 4095, 8191, 16383, 32767, 8191, 73727, 204799, 524287, 1048575, 2097151, 4194303, 4194303, 16777215, 33554431, 67108863, 134217727, 134217727, 536870911, 1073741823, 2147483647, 4294967295, 4294967295, 17179869183, 34359738367, 68719476735, 4294967295, 4294967295, 416611827711, 966367641599, 2199023255551, 4398046511103, 8796093022207]
theorem kerbsuitelaw4_BoxReads.tab12 : rtab .any (opsOf Try.f4 12) = kerbsuitelaw4_BoxReads.T12 := by kernel_rfl
theorem kerbsuitelaw4_BoxReads.bits12 : waitsOk kerbsuitelaw4_BoxReads.T12.2 kerbsuitelaw4_BoxReads.B12 = true := by kernel_rfl
set_option maxHeartbeats 8000000 in
set_option maxRecDepth 100000 in
theorem kerbsuitelaw4_BoxReads.calls (k : Nat) (P0_ : Nat → Prop) (A0 : Option Addr) (c0 : Nat) (l0 : List Int) (A1 : Option Addr) (c1 : Nat) (l1 : List Int) (A2 : Option Addr) (c2 : Nat) (l2 : List Int) (a3 : Int) (a4 : Int) (a5 : Int) (r : Bool) (w : World) (hs0 : Kd.V (Kd.int .u8) 5 w w.heap.size (fun k_ => P0_ k_) (.slice A0 l0.length c0) l0) (hr1 : Kd.C (Kd.int .u8) w A1 l1.length l1) (hc1 : l1.length ≤ c1) (hr2 : Kd.C (Kd.int .u8) w A2 l2.length l2) (hc2 : l2.length ≤ c2) (h : kerbsuitelaw4_BoxReads.f k l0 l1 l2 a3 a4 a5 = some r) :
  Calls Try.prog 4 #[.slice A0 l0.length c0, .slice A1 l1.length c1, .slice A2 l2.length c2, .int .u8 a3, .int .u8 a4, .int .u16 a5] w fun e w' => e = .returned (.bool r) ∧ Below w.heap.size w w' := by
 have hu37 := Try.underlying37
 have HO0 := Aside0.mk (show Kd.V (Kd.int .u8) 5 w w.heap.size (fun k_ => (P0_ k_ ∨ w.heap.size ≤ k_)) (.slice A0 l0.length c0) l0 from Kd.V_mono hs0 (fun k_ hk => .inl hk))
 have HR1 := Aside0.mk hr1
 have HC1 := Aside0.mk hc1
 clear hr1 hc1
 have HR2 := Aside0.mk hr2
 have HC2 := Aside0.mk hc2
 clear hr2 hc2
 have HB := Aside0.mk (Below.refl w.heap.size w)
 have H : ((kerbsuitelaw4_awake.f k).bind fun t262 => (if t262 = true then (if (l0.length : Int) > 1100 then (kerbsuitelaw4_BoxReads.j0 k l0 l1 l2 a3 a4 a5 true) else (if (l1.length : Int) > 900 then (kerbsuitelaw4_BoxReads.j0 k l0 l1 l2 a3 a4 a5 true) else (kerbsuitelaw4_BoxReads.j0 k l0 l1 l2 a3 a4 a5 (decide ((l2.length : Int) > 100))))) else (some false))) = some r := h
 clear h
 replace H := Option.bind_eq_some_iff.mp H
 obtain ⟨t262, A70, H⟩ := H
 replace H : (if t262 = true then (if (l0.length : Int) > 1100 then (kerbsuitelaw4_BoxReads.j0 k l0 l1 l2 a3 a4 a5 true) else (if (l1.length : Int) > 900 then (kerbsuitelaw4_BoxReads.j0 k l0 l1 l2 a3 a4 a5 true) else (kerbsuitelaw4_BoxReads.j0 k l0 l1 l2 a3 a4 a5 (decide ((l2.length : Int) > 100))))) else (some false)) = some r := H
 have A7 := Aside0.mk A70
 clear A70
 by_cases c8 : t262 = true
 ·subst c8
  have H1 : (if (l0.length : Int) > 1100 then (kerbsuitelaw4_BoxReads.j0 k l0 l1 l2 a3 a4 a5 true) else (if (l1.length : Int) > 900 then (kerbsuitelaw4_BoxReads.j0 k l0 l1 l2 a3 a4 a5 true) else (kerbsuitelaw4_BoxReads.j0 k l0 l1 l2 a3 a4 a5 (decide ((l2.length : Int) > 100))))) = some r := by rw [if_pos rfl] at H; exact H
  clear H
  have H := H1
  clear H1
  have HC9 := Aside0.mk H
  clear H
  go_enter Try.func4, Try.ntmps4
  go_upto_region 3 with (first | ((with_reducible refine gate_callee (f := 8) rfl ?_); refine goesL_ (some 23) rfl rfl Try.func8 (by kernel_rfl) rfl #[] rfl (by (try simp only [List.map_toArray, List.map_cons, List.map_nil]); first | done | rfl | (simp only [List.length_drop, List.length_take]; rfl)) ?_; (with_reducible refine (kerbsuitelaw4_awake.calls k  true _ A7.out).mono ?_); rintro e w10 ⟨rfl, hb⟩; refine ⟨_, rfl, ?_⟩; have n0_ := Aside0.mk (Kd.V_below (by (with_reducible repeat (first | apply Kd.V_alloc | apply Kd.V_drewN | apply Kd.V_drew)); exact HO0.out) hb); have n1_ := Aside0.mk (below_step (by repeat (first | (with_reducible first | exact HB.out | apply below_alloc | apply pw_below_drewN | apply below_drew1) | exact HB.out)) hb); clear HO0; clear HB; have HO0 := n0_; have HB := n1_; clear n0_ n1_; (try clear hb); (try clear hb2); (try clear hk); (try clear hi)))
  (try simp only [Act.put, List.setIfInBounds_toArray, List.set_cons_zero, List.set_cons_succ])
  go_cut [37] (fun v37 wc => ∃ (kq : Nat) (x37_8 : Bool), v37 = .bool x37_8 ∧ Aside0 (kerbsuitelaw4_BoxReads.j0 kq l0 l1 l2 a3 a4 a5 x37_8 = some r) ∧ Aside0 (kq ≤ k) ∧ Aside0 (Kd.V (Kd.int .u8) 5 wc w.heap.size (fun k_ => (P0_ k_ ∨ w.heap.size ≤ k_)) (.slice A0 l0.length c0) l0) ∧ Aside0 (Below w.heap.size w wc))
  case first =>
   have H := HC9.out
   clear HC9
   by_cases c11 : (l0.length : Int) > 1100
   ·rw [if_pos c11] at H
    have c11b0 : decide (1100 < (l0.length : Int)) = true := decide_eq_true c11
    have c11b1 : decide (1100 < l0.length) = true := decide_eq_true (by omega)
    clear c11
    (first | rw [c11b0] | (simp only [i64_w, i32_w]; rw [c11b0]) | skip)
    have H' := Aside0.mk H
    clear H
    go_wp2
    go_meet
    case rel => exact ⟨_, (true), (by first | rfl | (simp; done) | (simp [*]; done)), H', ⟨by first | omega | exact Nat.le_refl _⟩, ⟨by (with_reducible repeat (first | apply Kd.V_alloc | apply Kd.V_drewN | apply Kd.V_drew)); exact HO0.out⟩, ⟨by repeat (first | (with_reducible first | exact HB.out | apply below_alloc | apply pw_below_drewN | apply below_drew1) | exact HB.out)⟩⟩
   ·rw [if_neg c11] at H
    have c11b0 : decide (1100 < (l0.length : Int)) = false := decide_eq_false c11
    have c11b1 : decide (1100 < l0.length) = false := decide_eq_false (by omega)
    clear c11
    (first | rw [c11b0] | (simp only [i64_w, i32_w]; rw [c11b0]) | skip)
    by_cases c12 : (l1.length : Int) > 900
    ·rw [if_pos c12] at H
     have c12b0 : decide (900 < (l1.length : Int)) = true := decide_eq_true c12
     have c12b1 : decide (900 < l1.length) = true := decide_eq_true (by omega)
     clear c12
     have H' := Aside0.mk H
     clear H
     go_wp2
     go_meet
     case rel => exact ⟨_, (true), (by first | rfl | (simp; done) | (simp [*]; done)), H', ⟨by first | omega | exact Nat.le_refl _⟩, ⟨by (with_reducible repeat (first | apply Kd.V_alloc | apply Kd.V_drewN | apply Kd.V_drew)); exact HO0.out⟩, ⟨by repeat (first | (with_reducible first | exact HB.out | apply below_alloc | apply pw_below_drewN | apply below_drew1) | exact HB.out)⟩⟩
    ·rw [if_neg c12] at H
     have c12b0 : decide (900 < (l1.length : Int)) = false := decide_eq_false c12
     have c12b1 : decide (900 < l1.length) = false := decide_eq_false (by omega)
     clear c12
     have H' := Aside0.mk H
     clear H
     go_wp2
     go_meet
     case rel => exact ⟨_, (decide ((l2.length : Int) > 100)), (by first | rfl | (simp; done) | (simp [*]; done)), H', ⟨by first | omega | exact Nat.le_refl _⟩, ⟨by (with_reducible repeat (first | apply Kd.V_alloc | apply Kd.V_drewN | apply Kd.V_drew)); exact HO0.out⟩, ⟨by repeat (first | (with_reducible first | exact HB.out | apply below_alloc | apply pw_below_drewN | apply below_drew1) | exact HB.out)⟩⟩
  case rest =>
   clear HC9
   try clear c1
   try clear c2
   try clear p2
   try clear c4
   try clear c8
   try clear c11
   try clear c11b0
   try clear c11b1
   try clear c12
   try clear c12b0
   try clear c12b1
   obtain ⟨kq, x37_8, rfl, HA, HJ8, HO_0, HB⟩ := hcut
   cases kq with
   | zero => exact absurd HA.out (by simp [kerbsuitelaw4_BoxReads.j0])
   | succ kj8 =>
    have H := HA.out
    clear HA
    simp only [kerbsuitelaw4_BoxReads.j0] at H
    by_cases c13 : x37_8 = true
    ·subst c13
     have H1 : (some true) = some r := by rw [if_pos rfl] at H; exact H
     clear H
     have H := H1
     clear H1
     obtain rfl := Option.some.inj H
     go_wp2
     go_ret
     exact ⟨by first | rfl | (simp [errW_none, errW_some] <;> rfl) | (simp [*, errW_none, errW_some] <;> rfl), by repeat (first | (with_reducible first | exact HB.out | apply below_alloc | apply pw_below_drewN | apply below_drew1) | exact HB.out)⟩
    ·replace c13 := Bool.eq_false_iff.mpr c13
     subst c13
     have H1 : ((kerbsuitedata_Session.f (wrap64 (a4))).bind fun t263 => ((kerbsuiteref4_Make.f kj8 (wrap64 (1 + (Int.tmod (wrap64 (a3)) 10))) t263 l1).bind fun bt264 => ((some (([] : List Int) : List Int)).bind fun y268 => (if y268.length + bt264.1.length < 140737488355328 then ((some (y268 ++ bt264.1 : List Int)).bind fun y271 => (if y271.length + l2.length < 140737488355328 then ((kerbsuitedata_Spoil.f bt264.1 a5).bind fun t277 => (if (wrap64 ((bt264.1.length : Int) + 1)) = 0 then (none) else (if 0 ≤ (Int.tmod (wrap64 (a5)) (wrap64 ((bt264.1.length : Int) + 1))) then (if (Int.tmod (wrap64 (a5)) (wrap64 ((bt264.1.length : Int) + 1))) ≤ (bt264.1.length : Int) then (kerbsuitelaw4_BoxReads.l0 kj8 (([l0, (y271 ++ l2), t277, (bt264.1.take ((Int.tmod (wrap64 (a5)) (wrap64 ((bt264.1.length : Int) + 1))) : Int).toNat)] : List (List Int))) 0) else (none)) else (none)))) else (none))) else (none))))) = some r := by rw [if_neg (show ¬ (false = true) by decide)] at H; exact H
     clear H
     have H := H1
     clear H1
     replace H := Option.bind_eq_some_iff.mp H
     obtain ⟨t263, A140, H⟩ := H
     replace H : ((kerbsuiteref4_Make.f kj8 (wrap64 (1 + (Int.tmod (wrap64 (a3)) 10))) t263 l1).bind fun bt264 => ((some (([] : List Int) : List Int)).bind fun y268 => (if y268.length + bt264.1.length < 140737488355328 then ((some (y268 ++ bt264.1 : List Int)).bind fun y271 => (if y271.length + l2.length < 140737488355328 then ((kerbsuitedata_Spoil.f bt264.1 a5).bind fun t277 => (if (wrap64 ((bt264.1.length : Int) + 1)) = 0 then (none) else (if 0 ≤ (Int.tmod (wrap64 (a5)) (wrap64 ((bt264.1.length : Int) + 1))) then (if (Int.tmod (wrap64 (a5)) (wrap64 ((bt264.1.length : Int) + 1))) ≤ (bt264.1.length : Int) then (kerbsuitelaw4_BoxReads.l0 kj8 (([l0, (y271 ++ l2), t277, (bt264.1.take ((Int.tmod (wrap64 (a5)) (wrap64 ((bt264.1.length : Int) + 1))) : Int).toNat)] : List (List Int))) 0) else (none)) else (none)))) else (none))) else (none)))) = some r := H
     have A14 := Aside0.mk A140
     clear A140
     replace H := Option.bind_eq_some_iff.mp H
     obtain ⟨⟨t264, t265⟩, A150, H⟩ := H
     replace H : ((some (([] : List Int) : List Int)).bind fun y268 => (if y268.length + t264.length < 140737488355328 then ((some (y268 ++ t264 : List Int)).bind fun y271 => (if y271.length + l2.length < 140737488355328 then ((kerbsuitedata_Spoil.f t264 a5).bind fun t277 => (if (wrap64 ((t264.length : Int) + 1)) = 0 then (none) else (if 0 ≤ (Int.tmod (wrap64 (a5)) (wrap64 ((t264.length : Int) + 1))) then (if (Int.tmod (wrap64 (a5)) (wrap64 ((t264.length : Int) + 1))) ≤ (t264.length : Int) then (kerbsuitelaw4_BoxReads.l0 kj8 (([l0, (y271 ++ l2), t277, (t264.take ((Int.tmod (wrap64 (a5)) (wrap64 ((t264.length : Int) + 1))) : Int).toNat)] : List (List Int))) 0) else (none)) else (none)))) else (none))) else (none))) = some r := H
     have A15 := Aside0.mk A150
     clear A150
     obtain ⟨y268, hy268⟩ : ∃ y_ : List Int, y_ = (([] : List Int)) := ⟨_, rfl⟩
     replace H : (if y268.length + t264.length < 140737488355328 then ((some (y268 ++ t264 : List Int)).bind fun y271 => (if y271.length + l2.length < 140737488355328 then ((kerbsuitedata_Spoil.f t264 a5).bind fun t277 => (if (wrap64 ((t264.length : Int) + 1)) = 0 then (none) else (if 0 ≤ (Int.tmod (wrap64 (a5)) (wrap64 ((t264.length : Int) + 1))) then (if (Int.tmod (wrap64 (a5)) (wrap64 ((t264.length : Int) + 1))) ≤ (t264.length : Int) then (kerbsuitelaw4_BoxReads.l0 kj8 (([l0, (y271 ++ l2), t277, (t264.take ((Int.tmod (wrap64 (a5)) (wrap64 ((t264.length : Int) + 1))) : Int).toNat)] : List (List Int))) 0) else (none)) else (none)))) else (none))) else (none)) = some r := by first | (rw [hy268]; with_reducible exact H) | (have H2_ := (Option.bind_some _ _).symm.trans H; rw [hy268]; with_reducible exact H2_) | (have H2_ := (Option.bind_some _ _).symm.trans H; with_reducible exact H2_) | with_reducible exact H | (rw [hy268]; exact H) | exact H
     have Ny268 := Aside0.mk hy268
     clear hy268
     by_cases c16 : y268.length + t264.length < 140737488355328
     ·rw [if_pos c16] at H
      have LMc16 := Aside0.mk c16
      clear c16
      obtain ⟨y271, hy271⟩ : ∃ y_ : List Int, y_ = (y268 ++ t264) := ⟨_, rfl⟩
      replace H : (if y271.length + l2.length < 140737488355328 then ((kerbsuitedata_Spoil.f t264 a5).bind fun t277 => (if (wrap64 ((t264.length : Int) + 1)) = 0 then (none) else (if 0 ≤ (Int.tmod (wrap64 (a5)) (wrap64 ((t264.length : Int) + 1))) then (if (Int.tmod (wrap64 (a5)) (wrap64 ((t264.length : Int) + 1))) ≤ (t264.length : Int) then (kerbsuitelaw4_BoxReads.l0 kj8 (([l0, (y271 ++ l2), t277, (t264.take ((Int.tmod (wrap64 (a5)) (wrap64 ((t264.length : Int) + 1))) : Int).toNat)] : List (List Int))) 0) else (none)) else (none)))) else (none)) = some r := by first | (rw [hy271]; with_reducible exact H) | (have H2_ := (Option.bind_some _ _).symm.trans H; rw [hy271]; with_reducible exact H2_) | (have H2_ := (Option.bind_some _ _).symm.trans H; with_reducible exact H2_) | with_reducible exact H | (rw [hy271]; exact H) | exact H
      have Ny271 := Aside0.mk hy271
      clear hy271
      by_cases c17 : y271.length + l2.length < 140737488355328
      ·rw [if_pos c17] at H
       have LMc17 := Aside0.mk c17
       clear c17
       obtain ⟨y274, hy274⟩ : ∃ y_ : List Int, y_ = (y271 ++ l2) := ⟨_, rfl⟩
       replace H : ((kerbsuitedata_Spoil.f t264 a5).bind fun t277 => (if (wrap64 ((t264.length : Int) + 1)) = 0 then (none) else (if 0 ≤ (Int.tmod (wrap64 (a5)) (wrap64 ((t264.length : Int) + 1))) then (if (Int.tmod (wrap64 (a5)) (wrap64 ((t264.length : Int) + 1))) ≤ (t264.length : Int) then (kerbsuitelaw4_BoxReads.l0 kj8 (([l0, y274, t277, (t264.take ((Int.tmod (wrap64 (a5)) (wrap64 ((t264.length : Int) + 1))) : Int).toNat)] : List (List Int))) 0) else (none)) else (none)))) = some r := by first | (rw [hy274]; with_reducible exact H) | (have H2_ := (Option.bind_some _ _).symm.trans H; rw [hy274]; with_reducible exact H2_) | (have H2_ := (Option.bind_some _ _).symm.trans H; with_reducible exact H2_) | with_reducible exact H | (rw [hy274]; exact H) | exact H
       have Ny274 := Aside0.mk hy274
       clear hy274
       replace H := Option.bind_eq_some_iff.mp H
       obtain ⟨t277, A180, H⟩ := H
       replace H : (if (wrap64 ((t264.length : Int) + 1)) = 0 then (none) else (if 0 ≤ (Int.tmod (wrap64 (a5)) (wrap64 ((t264.length : Int) + 1))) then (if (Int.tmod (wrap64 (a5)) (wrap64 ((t264.length : Int) + 1))) ≤ (t264.length : Int) then (kerbsuitelaw4_BoxReads.l0 kj8 (([l0, y274, t277, (t264.take ((Int.tmod (wrap64 (a5)) (wrap64 ((t264.length : Int) + 1))) : Int).toNat)] : List (List Int))) 0) else (none)) else (none))) = some r := H
       have A18 := Aside0.mk A180
       clear A180
       by_cases c19 : (wrap64 ((t264.length : Int) + 1)) = 0
       ·rw [if_pos c19] at H
        exact absurd H (by simp)
       ·rw [if_neg c19] at H
        have c19b0 : ((wrap64 ((t264.length : Int) + 1)) == 0) = false := beq_eq_false_iff_ne.mpr c19
        have c19b1 : ((wrap64 ((t264.length : Int) + 1)) != 0) = true := bne_iff_ne.mpr c19
        obtain ⟨ji20, hji20⟩ : ∃ j_ : Int, (Int.tmod (wrap64 (a5)) (wrap64 ((t264.length : Int) + 1))) = j_ := ⟨_, rfl⟩
        replace H : (if 0 ≤ (ji20) then (if (ji20) ≤ (t264.length : Int) then (kerbsuitelaw4_BoxReads.l0 kj8 (([l0, y274, t277, (t264.take ((ji20) : Int).toNat)] : List (List Int))) 0) else (none)) else (none)) = some r := by first | (rw [hji20] at H; exact H) | (simp only [hji20] at H ⊢; exact H)
        (try rw [hji20] at A14)
        (try rw [hji20] at A15)
        (try rw [hji20] at A18)
        by_cases c21 : 0 ≤ (ji20)
        ·rw [if_pos c21] at H
         have c21b0 := eq_true c21
         have c21b1 : decide (0 ≤ (ji20)) = true := decide_eq_true c21
         clear c21
         by_cases c22 : (ji20) ≤ (t264.length : Int)
         ·rw [if_pos c22] at H
          have c22b0 := eq_true c22
          have c22b1 : decide ((ji20) ≤ (t264.length : Int)) = true := decide_eq_true c22
          clear c22
          obtain ⟨y280, hy280⟩ : ∃ y_ : List Int, y_ = (t264.take ((ji20) : Int).toNat) := ⟨_, rfl⟩
          replace H : (kerbsuitelaw4_BoxReads.l0 kj8 (([l0, y274, t277, y280] : List (List Int))) 0) = some r := by first | (rw [hy280]; with_reducible exact H) | (have H2_ := (Option.bind_some _ _).symm.trans H; rw [hy280]; with_reducible exact H2_) | (have H2_ := (Option.bind_some _ _).symm.trans H; with_reducible exact H2_) | with_reducible exact H | (rw [hy280]; exact H) | exact H
          have Ny280 := Aside0.mk hy280
          clear hy280
          obtain ⟨y285, hy285⟩ : ∃ y_ : List (List Int), y_ = (([l0, y274, t277, y280] : List (List Int))) := ⟨_, rfl⟩
          replace H : (kerbsuitelaw4_BoxReads.l0 kj8 y285 0) = some r := by first | (rw [hy285]; with_reducible exact H) | (have H2_ := (Option.bind_some _ _).symm.trans H; rw [hy285]; with_reducible exact H2_) | (have H2_ := (Option.bind_some _ _).symm.trans H; with_reducible exact H2_) | with_reducible exact H | (rw [hy285]; exact H) | exact H
          have Ny285 := Aside0.mk hy285
          clear hy285
          have H' := Aside0.mk H
          clear H
          try go_wp2_with (first | ((with_reducible refine gate_callee (f := 13) rfl ?_); refine goesL_ (some 45) rfl rfl Try.func13 (by kernel_rfl) rfl #[.int .i64 (wrap64 (a4))] rfl (by (try simp only [List.map_toArray, List.map_cons, List.map_nil]); first | done | rfl | (simp only [List.length_drop, List.length_take]; rfl)) ?_; (with_reducible refine (kerbsuitedata_Session.calls (wrap64 (a4)) t263 _ A14.out).mono ?_); rintro e w' ⟨rfl, ⟨nd, rfl⟩⟩; refine ⟨_, rfl, ?_⟩) | ((with_reducible refine gate_callee (f := 12) rfl ?_); refine goesL_ (some 47) rfl rfl Try.func12 (by kernel_rfl) rfl #[.int .i64 (wrap64 (1 + (Int.tmod (wrap64 (a3)) 10))), .int .u64 t263, .slice A1 l1.length c1] rfl (by (try simp only [List.map_toArray, List.map_cons, List.map_nil]); first | done | rfl | (simp only [List.length_drop, List.length_take]; rfl)) ?_; (with_reducible refine (kerbsuiteref4_Make.calls kj8 (wrap64 (1 + (Int.tmod (wrap64 (a3)) 10))) t263 _ _ l1 t264 t265 _ ?side1 ?side2 A15.out).mono ?_); (case side1 => repeat (first | exact (Kd.C_below HR1.out (by repeat (first | (with_reducible first | exact HB.out | apply below_alloc | apply pw_below_drewN | apply below_drew1) | exact HB.out))) | (with_reducible refine Kd.C_alloc ?_ _) | (with_reducible refine Kd.C_drewN ?_ _) | (with_reducible refine Kd.C_drew ?_))); (case side2 => exact HC1.out); rintro e w23 ⟨v266, rfl, ho0, hb⟩; refine ⟨_, rfl, ?_⟩; have n0_ := Aside0.mk (Kd.V_elder' (by (with_reducible repeat (first | apply Kd.V_alloc | apply Kd.V_drewN | apply Kd.V_drew)); exact HO_0.out) (Kd.R_base ho0) hb); have n1_ := Aside0.mk (Kd.R_lower (Kd.R_newM (M := fun k_ => (w.heap.size ≤ k_)) ho0 (below_size (by repeat (first | (with_reducible first | exact HB.out | apply below_alloc | apply pw_below_drewN | apply below_drew1) | exact HB.out))) (fun k_ h_ => h_)) (below_size (by repeat (first | (with_reducible first | exact HB.out | apply below_alloc | apply pw_below_drewN | apply below_drew1) | exact HB.out)))); have n2_ := Aside0.mk (below_step (by repeat (first | (with_reducible first | exact HB.out | apply below_alloc | apply pw_below_drewN | apply below_drew1) | exact HB.out)) hb); clear HO_0; clear HB; have HO_0 := n0_; have HO267 := n1_; have HB := n2_; clear n0_ n1_ n2_; (try clear hb); (try clear hb2); (try clear hk); (try clear hi); (try clear ho0)))
          have n0_ := Aside0.mk (Kd.V_drew HO_0.out)
          have n1_ := Aside0.mk (Kd.R_drew HO267.out)
          have n2_ := Aside0.mk (below_drew1 HB.out)
          clear HO_0
          clear HO267
          clear HB
          have HO_0 := n0_
          have HO267 := n1_
          have HB := n2_
          clear n0_ n1_ n2_
          obtain ⟨Ao25, co25, eo25⟩ := Kd.R_slice HO267.out
          (first | subst eo25 | (injection eo25 with f1_ f2_ f3_; have f4_ := f1_.symm; have f5_ := f3_.symm; clear f1_ f2_ f3_; subst f4_; subst f5_))
          have q26 : ((ji20) : Int) ≤ ((t264.length : Int) : Int) := of_decide_eq_true (by first | (with_reducible assumption) | assumption)
          obtain ⟨i026, hi026, _, hsz26, _⟩ := info_parts info5
          have hroom26 : t264.length ≤ co25 := (Kd.R_reads' HO267.out).2.1
          have hC26 : Kd.F (Kd.int .u8) _ _ Ao25 t264.length t264 := (Kd.V_at (base := w.heap.size) (Kd.V_mono (ok' := (fun k_ => ((P0_ k_ ∨ w.heap.size ≤ k_) ∧ True))) (Kd.R_V HO267.out) (fun k_ hk => ⟨(.inr (hk.1)), trivial⟩))).2.2
          have hcut26 := cut_to (P := Try.prog) 24 5 .i64 Try.underlying24 hi026 Ao25 t264.length co25 (ji20) (of_decide_eq_true (by first | (with_reducible assumption) | assumption)) q26 hroom26
          have hr26 := Kd.F_take (m := ((ji20) : Int).toNat) hC26 (by omega)
          have hy26 : y280.length = ((ji20) : Int).toNat := (by rw [Ny280.out, List.length_take]; omega)
          rw [← Ny280.out] at hr26
          rw [← hy26] at hcut26
          have HO284 := Aside0.mk (show Kd.V (Kd.int .u8) 5 _ w.heap.size _ (.slice Ao25 y280.length co25) y280 from Kd.V_mk (by omega) hr26)
          have HC284 := Aside0.mk (show y280.length ≤ co25 from by omega)
          clear hr26 hC26 hroom26 hi026 hsz26
          have KY26 := Aside0.mk hy26
          clear hy26
          replace q26 := eq_true q26
          refine start_ (n := 19) (S := fun w' => True) (ds := []) #[false,false,false,false,false,false,false,false,false,false,false,false,false,false,false,false,false,false,false] (by kernel_rfl) rfl rfl trivial (fun hHeld => ?_); refine with_tabW kerbsuitelaw4_BoxReads.tab6 kerbsuitelaw4_BoxReads.bits6 (fun HT_ HW_ => ?_)
          generalize w23.drew = w24 at HO_0 HO267 HB HO284 hHeld ⊢
          refine pure_ (i := 0) (N := some 50) (v := ?_) (a' := ?_) (bo_ 19 1) rfl rfl (any_of HT_.out (by kernel_rfl)) (fun _ _ _ h => h) (Or.inl ⟨by rfl, ?_⟩) ?_ ?_
          rotate_left; (· intro w'; go_simp; with_reducible rfl)
          rotate_left; (· simp only [Act.put,List.setIfInBounds_toArray,List.set_cons_zero,List.set_cons_succ,i64_w,i32_w]; rfl)
          refine pure_ (i := 2) (N := some 52) (v := ?_) (a' := ?_) (bo_ 19 5) rfl rfl (any_of HT_.out (by kernel_rfl)) (fun _ _ _ h => h) (Or.inl ⟨by rfl, ?_⟩) ?_ ?_
          rotate_left; (· intro w'; go_simp; with_reducible rfl)
          rotate_left; (· simp only [Act.put,List.setIfInBounds_toArray,List.set_cons_zero,List.set_cons_succ,i64_w,i32_w]; rfl)
          refine pure_ (i := 4) (N := some 54) (v := ?_) (a' := ?_) (bo_ 19 21) rfl rfl (any_of HT_.out (by kernel_rfl)) (fun _ _ _ h => h) (Or.inl ⟨by rfl, ?_⟩) ?_ ?_
          rotate_left; (· intro w'; go_simp; with_reducible rfl)
          rotate_left; (· simp only [Act.put,List.setIfInBounds_toArray,List.set_cons_zero,List.set_cons_succ,i64_w,i32_w]; rfl)
          refine pure_ (i := 6) (N := some 56) (v := ?_) (a' := ?_) (bo_ 19 85) rfl rfl (any_of HT_.out (by kernel_rfl)) (fun _ _ _ h => h) (Or.inl ⟨by rfl, ?_⟩) ?_ ?_
          rotate_left; (· intro w'; go_simp; with_reducible rfl)
          rotate_left; (· simp only [Act.put,List.setIfInBounds_toArray,List.set_cons_zero,List.set_cons_succ,i64_w,i32_w]; rfl)
          refine pure_ (i := 7) (N := some 57) (v := ?_) (a' := ?_) (bo_ 19 213) rfl rfl (any_of HT_.out (by kernel_rfl)) (fun _ _ _ h => h) (Or.inl ⟨by rfl, ?_⟩) ?_ ?_
          rotate_left; (· intro w'; go_simp; with_reducible rfl)
          rotate_left; (· simp only [Act.put,List.setIfInBounds_toArray,List.set_cons_zero,List.set_cons_succ,i64_w,i32_w]; rfl)
          refine pure_ (i := 9) (N := some 59) (v := ?_) (a' := ?_) (bo_ 19 725) rfl rfl (any_of HT_.out (by kernel_rfl)) (fun _ _ _ h => h) (Or.inl ⟨by rfl, ?_⟩) ?_ ?_
          rotate_left; (· intro w'; go_simp; with_reducible rfl)
          rotate_left; (· simp only [Act.put,List.setIfInBounds_toArray,List.set_cons_zero,List.set_cons_succ,i64_w,i32_w]; rfl)
          refine pure_ (i := 10) (N := some 60) (v := ?_) (a' := ?_) (bo_ 19 1749) rfl rfl (any_of HT_.out (by kernel_rfl)) (fun _ _ _ h => h) (Or.inl ⟨by rfl, ?_⟩) ?_ ?_
          rotate_left; (· intro w'; go_simp; with_reducible rfl)
          rotate_left; (· simp only [Act.put,List.setIfInBounds_toArray,List.set_cons_zero,List.set_cons_succ,i64_w,i32_w]; rfl)
          refine pure_ (i := 11) (N := some 61) (v := ?_) (a' := ?_) (bo_ 19 3797) rfl rfl (any_of HT_.out (by kernel_rfl)) (fun _ _ _ h => h) (Or.inl ⟨by rfl, ?_⟩) ?_ ?_
          rotate_left; (· intro w'; go_simp; with_reducible rfl)
          rotate_left; (· simp only [Act.put,List.setIfInBounds_toArray,List.set_cons_zero,List.set_cons_succ,i64_w,i32_w]; rfl)
          refine pure_ (i := 12) (N := some 62) (v := ?_) (a' := ?_) (bo_ 19 7893) rfl rfl (any_of HT_.out (by kernel_rfl)) (fun _ _ _ h => h) (Or.inl ⟨by rfl, ?_⟩) ?_ ?_
          rotate_left; (· intro w'; go_simp; with_reducible rfl)
          rotate_left; (· simp only [Act.put,List.setIfInBounds_toArray,List.set_cons_zero,List.set_cons_succ,i64_w,i32_w]; rfl)
          refine pure_ (i := 13) (N := some 63) (v := ?_) (a' := ?_) (bo_ 19 16085) rfl rfl (any_of HT_.out (by kernel_rfl)) (fun _ _ _ h => h) (Or.inl ⟨by rfl, ?_⟩) ?_ ?_
          rotate_left; (· intro w'; go_simp; with_reducible rfl)
          rotate_left; (· simp only [Act.put,List.setIfInBounds_toArray,List.set_cons_zero,List.set_cons_succ,i64_w,i32_w]; rfl)
          refine pure_ (i := 14) (N := some 64) (v := ?_) (a' := ?_) (bo_ 19 32469) rfl rfl (any_of HT_.out (by kernel_rfl)) (fun _ _ _ h => h) (Or.inl ⟨by rfl, ?_⟩) ?_ ?_
          rotate_left; (· intro w'; go_simp; with_reducible rfl)
          rotate_left; (· simp only [Act.put,List.setIfInBounds_toArray,List.set_cons_zero,List.set_cons_succ,i64_w,i32_w]; rfl)
          refine pure_ (i := 15) (N := some 65) (v := ?_) (a' := ?_) (bo_ 19 65237) rfl rfl (any_of HT_.out (by kernel_rfl)) (fun _ _ _ h => h) (Or.inl ⟨by rfl, ?_⟩) ?_ ?_
          rotate_left; (· intro w'; go_simp; with_reducible rfl)
          rotate_left; (· simp only [Act.put,List.setIfInBounds_toArray,List.set_cons_zero,List.set_cons_succ,i64_w,i32_w]; rfl)
          refine pure_ (i := 16) (N := some 66) (v := ?_) (a' := ?_) (bo_ 19 130773) rfl rfl (any_of HT_.out (by kernel_rfl)) (fun _ _ _ h => h) (Or.inl ⟨by rfl, ?_⟩) ?_ ?_
          rotate_left; (· intro w'; go_simp; with_reducible rfl)
          rotate_left; (· simp only [Act.put,List.setIfInBounds_toArray,List.set_cons_zero,List.set_cons_succ,i64_w,i32_w]; rfl)
          refine one_ (i := 1) (N := some 51) (bo_ 19 130775) rfl rfl (one_of HT_.out (by kernel_rfl)) (by decide) (fun K hK => ?_)
          refine Kd.R_lit_step (Kd.int .u8) _ 5 ?hg (N := 51) ?hd (xs := ([] : List Int)) (inner := []) (ok := fun _ => True) (okp := fun _ => True) ?hr ?hp (fun _ hk => hk) trivial (Below.refl _ _) (Nat.le_refl _) (by simp) ?_; (case hd => rfl); (case hg => rfl); (case hr => first | (go_simp; done) | (go_simp; rfl)); (case hp => exact (Reps.none _ _))
          intro v269 w27 ho28 hb hg_ hnew_
          clear hg_ hnew_
          (first | rw [← Ny268.out] at ho28 | (simp only [Int.reduceToNat] at ho28; rw [← Ny268.out] at ho28))
          have n0_ := Aside0.mk (Kd.V_elder' (by (with_reducible repeat (first | apply Kd.V_alloc | apply Kd.V_drewN | apply Kd.V_drew)); exact HO_0.out) (Kd.R_base ho28) hb)
          have n1_ := Aside0.mk (Kd.R_elder' (by (with_reducible repeat (first | apply Kd.R_alloc | apply Kd.R_drewN | apply Kd.R_drew)); exact HO267.out) (Kd.R_base ho28) hb)
          have n2_ := Aside0.mk (Kd.V_elder' (by (with_reducible repeat (first | apply Kd.V_alloc | apply Kd.V_drewN | apply Kd.V_drew)); exact HO284.out) (Kd.R_base ho28) hb)
          have n3_ := Aside0.mk (Kd.R_lower (Kd.R_new' (Kd.R_newM (M := fun k_ => (w.heap.size ≤ k_)) ho28 (below_size (by repeat (first | (with_reducible first | exact HB.out | apply below_alloc | apply pw_below_drewN | apply below_drew1) | exact HB.out))) (fun k_ h_ => h_)) (Kd.R_lt (by (with_reducible repeat (first | apply Kd.R_alloc | apply Kd.R_drewN | apply Kd.R_drew)); exact HO267.out))) (below_size (by repeat (first | (with_reducible first | exact HB.out | apply below_alloc | apply pw_below_drewN | apply below_drew1) | exact HB.out))))
          have n4_ := Aside0.mk (below_step (by repeat (first | (with_reducible first | exact HB.out | apply below_alloc | apply pw_below_drewN | apply below_drew1) | exact HB.out)) hb)
          clear HO_0
          clear HO267
          clear HO284
          clear HB
          have HO_0 := n0_
          have HO267 := n1_
          have HO284 := n2_
          have HO270 := n3_
          have HB := n4_
          clear n0_ n1_ n2_ n3_ n4_
          clear hb ho28
          refine hK.out _ _ trivial (fun hHeld => ?_)
          clear hK K
          refine norm_ (a' := ?_) ?_ ?_
          rotate_left; (· show Act.put _ (some 51) _ = _; simp only [Act.put,List.setIfInBounds_toArray,List.set_cons_zero,List.set_cons_succ,i64_w,i32_w]; rfl)
          refine one_ (i := 3) (N := some 53) (bo_ 19 130783) rfl rfl (one_of HT_.out (by kernel_rfl)) (by decide) (fun K hK => ?_)
          refine Kd.R_append_rows_step (Kd.int .u8) (w0 := w) w.heap.size (by rfl) (.tmp 51) (.tmp 52) 24 5 (.int .u8 0) 1 rfl Try.underlying24 info5 rfl (by decide) (by omega) v269 y268 t264 _ _ _ (fun k_ => (w.heap.size ≤ k_) ∧ some k_ ≠ (.slice Ao25 t264.length co25 : Value).ownBlock) (fun _ => False) rfl rfl ?aO ?aR (fun _ _ h => h) (fun _ h => h.elim) ?aF ?aB ?aS ?aL ?_
          (case aR => repeat (first | exact (Kd.R_reads' HO267.out).2.2 | (with_reducible refine Kd.C_alloc ?_ _) | (with_reducible refine Kd.C_drewN ?_ _) | (with_reducible refine Kd.C_drew ?_)))
          (case aB => exact (by repeat (first | (with_reducible first | exact HB.out | apply below_alloc | apply pw_below_drewN | apply below_drew1) | exact HB.out)))
          (case aF => exact (fun k_ hk => ⟨(Nat.le_trans (below_size (by repeat (first | (with_reducible first | exact HB.out | apply below_alloc | apply pw_below_drewN | apply below_drew1) | exact HB.out))) hk), Kd.fresh' (Kd.R_lt (by (with_reducible repeat (first | apply Kd.R_alloc | apply Kd.R_drewN | apply Kd.R_drew)); exact HO267.out)) k_ hk⟩))
          (case aO => exact (by (with_reducible repeat (first | apply Kd.R_alloc | apply Kd.R_drewN | apply Kd.R_drew)); exact Kd.R_mono HO270.out (fun _ hk => ⟨hk.1.1, hk.2⟩)))
          (case aS => exact (below_size (by repeat (first | (with_reducible first | exact HB.out | apply below_alloc | apply pw_below_drewN | apply below_drew1) | exact HB.out))))
          (case aL => have := LMc16.out; omega)
          intro v272 w29 ho hb hg hat
          rw [← Ny271.out] at ho
          have n0_ := Aside0.mk (Kd.V_afterv (ok := (fun k_ => (P0_ k_ ∨ w.heap.size ≤ k_) ∧ some k_ ≠ (.slice Ao25 t264.length co25 : Value).ownBlock)) (by (with_reducible repeat (first | apply Kd.V_alloc | apply Kd.V_drewN | apply Kd.V_drew)); exact HO_0.out) hg hat)
          have n1_ := Aside0.mk (Kd.R_after (ok := (fun k_ => (w.heap.size ≤ k_))) (by (with_reducible repeat (first | apply Kd.R_alloc | apply Kd.R_drewN | apply Kd.R_drew)); exact Kd.R_mono HO267.out (fun _ hk => ⟨hk.1.1, hk.2⟩)) hg hat)
          have n2_ := Aside0.mk (Kd.V_afterv (ok := (fun k_ => (P0_ k_ ∨ w.heap.size ≤ k_))) (by (with_reducible repeat (first | apply Kd.V_alloc | apply Kd.V_drewN | apply Kd.V_drew)); exact Kd.V_mono HO284.out (fun _ hk => ⟨hk.1.1, hk.2⟩)) hg hat)
          have n3_ := Aside0.mk (hb)
          have n4_ := Aside0.mk (ho)
          clear HO_0
          clear HO267
          clear HO284
          clear HB
          clear HO270
          have HO_0 := n0_
          have HO267 := n1_
          have HO284 := n2_
          have HB := n3_
          have HO273 := n4_
          clear n0_ n1_ n2_ n3_ n4_
          clear ho hb hg hat
          refine hK.out _ _ trivial (fun hHeld => ?_)
          clear hK K
          refine norm_ (a' := ?_) ?_ ?_
          rotate_left; (· show Act.put _ (some 53) _ = _; simp only [Act.put,List.setIfInBounds_toArray,List.set_cons_zero,List.set_cons_succ,i64_w,i32_w]; rfl)
          refine one_ (i := 5) (N := some 55) (bo_ 19 130815) rfl rfl (one_of HT_.out (by kernel_rfl)) (by decide) (fun K hK => ?_)
          refine Kd.R_append_rows_step (Kd.int .u8) (w0 := w) w.heap.size (by rfl) (.tmp 53) (.tmp 54) 24 5 (.int .u8 0) 1 rfl Try.underlying24 info5 rfl (by decide) (by omega) v272 y271 l2 _ _ _ (fun k_ => (w.heap.size ≤ k_) ∧ some k_ ≠ (.slice Ao25 t264.length co25 : Value).ownBlock) (fun _ => False) rfl rfl ?aO ?aR (fun _ _ h => h) (fun _ h => h.elim) ?aF ?aB ?aS ?aL ?_
          (case aR => repeat (first | exact (Kd.C_below HR2.out HB.out) | (with_reducible refine Kd.C_alloc ?_ _) | (with_reducible refine Kd.C_drewN ?_ _) | (with_reducible refine Kd.C_drew ?_)))
          (case aB => exact (by repeat (first | (with_reducible first | exact HB.out | apply below_alloc | apply pw_below_drewN | apply below_drew1) | exact HB.out)))
          (case aF => exact (fun k_ hk => ⟨(Nat.le_trans (below_size (by repeat (first | (with_reducible first | exact HB.out | apply below_alloc | apply pw_below_drewN | apply below_drew1) | exact HB.out))) hk), Kd.fresh' (Kd.R_lt (by (with_reducible repeat (first | apply Kd.R_alloc | apply Kd.R_drewN | apply Kd.R_drew)); exact HO267.out)) k_ hk⟩))
          (case aO => exact (by (with_reducible repeat (first | apply Kd.R_alloc | apply Kd.R_drewN | apply Kd.R_drew)); exact HO273.out))
          (case aS => exact (below_size (by repeat (first | (with_reducible first | exact HB.out | apply below_alloc | apply pw_below_drewN | apply below_drew1) | exact HB.out))))
          (case aL => have := LMc17.out; omega)
          intro v275 w30 ho hb hg hat
          rw [← Ny274.out] at ho
          have n0_ := Aside0.mk (Kd.V_afterv (ok := (fun k_ => (P0_ k_ ∨ w.heap.size ≤ k_) ∧ some k_ ≠ (.slice Ao25 t264.length co25 : Value).ownBlock)) (by (with_reducible repeat (first | apply Kd.V_alloc | apply Kd.V_drewN | apply Kd.V_drew)); exact HO_0.out) hg hat)
          have n1_ := Aside0.mk (Kd.R_after (ok := (fun k_ => (w.heap.size ≤ k_))) (by (with_reducible repeat (first | apply Kd.R_alloc | apply Kd.R_drewN | apply Kd.R_drew)); exact HO267.out) hg hat)
          have n2_ := Aside0.mk (Kd.V_afterv (ok := (fun k_ => (P0_ k_ ∨ w.heap.size ≤ k_))) (by (with_reducible repeat (first | apply Kd.V_alloc | apply Kd.V_drewN | apply Kd.V_drew)); exact HO284.out) hg hat)
          have n3_ := Aside0.mk (hb)
          have n4_ := Aside0.mk (ho)
          clear HO_0
          clear HO267
          clear HO284
          clear HB
          clear HO273
          have HO_0 := n0_
          have HO267 := n1_
          have HO284 := n2_
          have HB := n3_
          have HO276 := n4_
          clear n0_ n1_ n2_ n3_ n4_
          clear ho hb hg hat
          refine hK.out _ _ trivial (fun hHeld => ?_)
          clear hK K
          refine norm_ (a' := ?_) ?_ ?_
          rotate_left; (· show Act.put _ (some 55) _ = _; simp only [Act.put,List.setIfInBounds_toArray,List.set_cons_zero,List.set_cons_succ,i64_w,i32_w]; rfl)
          refine one_ (i := 8) (N := some 58) (bo_ 19 131071) rfl rfl (one_of HT_.out (by kernel_rfl)) (by decide) (fun K hK => ?_)
          refine goes_ Try.func14 (by kernel_rfl) rfl #[.slice Ao25 t264.length co25, .int .u16 a5] (by rfl) rfl rfl (by (try simp only [List.map_toArray, List.map_cons, List.map_nil]); first | done | rfl | (simp only [List.length_drop, List.length_take]; rfl)) ?_
          with_reducible refine (kerbsuitedata_Spoil.calls _ _ t264 a5 t277 _ ?side1 ?side2 A18.out).mono ?_
          (case side1 => repeat (first | exact (Kd.R_reads' HO267.out).2.2 | (with_reducible refine Kd.C_alloc ?_ _) | (with_reducible refine Kd.C_drewN ?_ _) | (with_reducible refine Kd.C_drew ?_)))
          (case side2 => exact (Kd.R_reads' HO267.out).2.1)
          rintro e w31 ⟨v278, rfl, ho0, hb⟩
          refine ⟨_, rfl, ?_⟩
          have n0_ := Aside0.mk (Kd.V_elder' (by (with_reducible repeat (first | apply Kd.V_alloc | apply Kd.V_drewN | apply Kd.V_drew)); exact HO_0.out) (Kd.R_base ho0) hb)
          have n1_ := Aside0.mk (Kd.R_elder' (by (with_reducible repeat (first | apply Kd.R_alloc | apply Kd.R_drewN | apply Kd.R_drew)); exact HO267.out) (Kd.R_base ho0) hb)
          have n2_ := Aside0.mk (Kd.V_elder' (by (with_reducible repeat (first | apply Kd.V_alloc | apply Kd.V_drewN | apply Kd.V_drew)); exact HO284.out) (Kd.R_base ho0) hb)
          have n3_ := Aside0.mk (Kd.R_elder' (by (with_reducible repeat (first | apply Kd.R_alloc | apply Kd.R_drewN | apply Kd.R_drew)); exact HO276.out) (Kd.R_base ho0) hb)
          have n4_ := Aside0.mk (Kd.R_lower (Kd.R_new' (Kd.R_new' (Kd.R_newM (M := fun k_ => (w.heap.size ≤ k_)) ho0 (below_size (by repeat (first | (with_reducible first | exact HB.out | apply below_alloc | apply pw_below_drewN | apply below_drew1) | exact HB.out))) (fun k_ h_ => h_)) (Kd.R_lt (by (with_reducible repeat (first | apply Kd.R_alloc | apply Kd.R_drewN | apply Kd.R_drew)); exact HO267.out))) (Kd.R_lt (by (with_reducible repeat (first | apply Kd.R_alloc | apply Kd.R_drewN | apply Kd.R_drew)); exact HO276.out))) (below_size (by repeat (first | (with_reducible first | exact HB.out | apply below_alloc | apply pw_below_drewN | apply below_drew1) | exact HB.out))))
          have n5_ := Aside0.mk (below_step (by repeat (first | (with_reducible first | exact HB.out | apply below_alloc | apply pw_below_drewN | apply below_drew1) | exact HB.out)) hb)
          clear HO_0
          clear HO267
          clear HO284
          clear HO276
          clear HB
          have HO_0 := n0_
          have HO267 := n1_
          have HO284 := n2_
          have HO276 := n3_
          have HO279 := n4_
          have HB := n5_
          clear n0_ n1_ n2_ n3_ n4_ n5_
          (try clear hb)
          (try clear hb2)
          (try clear hk)
          (try clear hi)
          (try clear ho0)
          obtain ⟨Ao32, co32, eo32⟩ := Kd.R_slice HO276.out
          (first | subst eo32 | (injection eo32 with f1_ f2_ f3_; have f4_ := f1_.symm; have f5_ := f3_.symm; clear f1_ f2_ f3_; subst f4_; subst f5_))
          obtain ⟨Ao33, co33, eo33⟩ := Kd.R_slice HO279.out
          (first | subst eo33 | (injection eo33 with f1_ f2_ f3_; have f4_ := f1_.symm; have f5_ := f3_.symm; clear f1_ f2_ f3_; subst f4_; subst f5_))
          refine hK.out _ _ trivial (fun hHeld => ?_)
          clear hK K
          refine norm_ (a' := ?_) ?_ ?_
          rotate_left; (· show Act.put _ (some 58) _ = _; simp only [Act.put,List.setIfInBounds_toArray,List.set_cons_zero,List.set_cons_succ,i64_w,i32_w]; rfl)
          refine one_ (i := 17) (N := some 67) (bo_ 19 262143) rfl rfl (one_of HT_.out (by kernel_rfl)) (by decide) (fun K hK => ?_)
          refine Kd.N_lit_step (Kd.slice 5 (Kd.int .u8)) _ 24 ?hg (N' := 67) ?hd (xs := ([l0, y274, t277, y280] : List (List Int))) (inner := [.slice A0 l0.length c0, .slice Ao32 y274.length co32, .slice Ao33 t277.length co33, .slice Ao25 y280.length co25]) (ok := (fun k_ => (P0_ k_ ∨ w.heap.size ≤ k_))) (okp := (fun k_ => (P0_ k_ ∨ w.heap.size ≤ k_))) ?hr ?hp (fun _ hk => hk) ((show ∀ k_, w31.heap.size ≤ k_ → (fun k_ => (P0_ k_ ∨ w.heap.size ≤ k_)) k_ from fun k_ hk => (.inr (Nat.le_trans (below_size (by repeat (first | (with_reducible first | exact HB.out | apply below_alloc | apply pw_below_drewN | apply below_drew1) | exact HB.out))) hk))) _ (Nat.le_refl _)) (Below.refl _ _) (Nat.le_refl _) (by simp) ?_; (case hd => rfl); (case hg => rfl); (case hr => first | (go_simp; done) | (go_simp; rfl)); (case hp => exact (Reps.one (show Kd.FK (Kd.slice 5 (Kd.int .u8)) _ _ l0 [.slice A0 l0.length c0] from (Kd.FK_slice_mk (Kd.V_reads' (Kd.V_mono (ok' := (fun k_ => (P0_ k_ ∨ w.heap.size ≤ k_))) (HO_0.out) (fun k_ hk => hk.1.1.1))).2.1 (Kd.V_F (Kd.V_mono (ok' := (fun k_ => (P0_ k_ ∨ w.heap.size ≤ k_))) (HO_0.out) (fun k_ hk => hk.1.1.1))))) (Reps.one (show Kd.FK (Kd.slice 5 (Kd.int .u8)) _ _ y274 [.slice Ao32 y274.length co32] from (Kd.FK_slice_mk (Kd.R_reads' (Kd.R_mono (ok' := (fun k_ => (P0_ k_ ∨ w.heap.size ≤ k_))) (HO276.out) (fun k_ hk => (.inr (hk.1.1))))).2.1 (Kd.R_F (Kd.R_mono (ok' := (fun k_ => (P0_ k_ ∨ w.heap.size ≤ k_))) (HO276.out) (fun k_ hk => (.inr (hk.1.1))))))) (Reps.one (show Kd.FK (Kd.slice 5 (Kd.int .u8)) _ _ t277 [.slice Ao33 t277.length co33] from (Kd.FK_slice_mk (Kd.R_reads' (Kd.R_mono (ok' := (fun k_ => (P0_ k_ ∨ w.heap.size ≤ k_))) (HO279.out) (fun k_ hk => (.inr (hk.1.1.1))))).2.1 (Kd.R_F (Kd.R_mono (ok' := (fun k_ => (P0_ k_ ∨ w.heap.size ≤ k_))) (HO279.out) (fun k_ hk => (.inr (hk.1.1.1))))))) (Reps.one (show Kd.FK (Kd.slice 5 (Kd.int .u8)) _ _ y280 [.slice Ao25 y280.length co25] from (Kd.FK_slice_mk (Kd.V_reads' (Kd.V_mono (ok' := (fun k_ => (P0_ k_ ∨ w.heap.size ≤ k_))) (HO284.out) (fun k_ hk => hk.1.1))).2.1 (Kd.V_F (Kd.V_mono (ok' := (fun k_ => (P0_ k_ ∨ w.heap.size ≤ k_))) (HO284.out) (fun k_ hk => hk.1.1))))) (Reps.none _ _))))))
          intro v286 w34 ho35 hb hg_ hnew_
          clear hg_ hnew_
          (first | rw [← Ny285.out] at ho35 | (simp only [Int.reduceToNat] at ho35; rw [← Ny285.out] at ho35))
          have n0_ := Aside0.mk (Kd.V_elder' (by (with_reducible repeat (first | apply Kd.V_alloc | apply Kd.V_drewN | apply Kd.V_drew)); exact HO_0.out) (Kd.N_base ho35) hb)
          have n1_ := Aside0.mk (Kd.R_below (by (with_reducible repeat (first | apply Kd.R_alloc | apply Kd.R_drewN | apply Kd.R_drew)); exact HO267.out) hb)
          have n2_ := Aside0.mk (Kd.V_elder' (by (with_reducible repeat (first | apply Kd.V_alloc | apply Kd.V_drewN | apply Kd.V_drew)); exact HO284.out) (Kd.N_base ho35) hb)
          have n3_ := Aside0.mk (Kd.N_lower ho35 (below_size (by repeat (first | (with_reducible first | exact HB.out | apply below_alloc | apply pw_below_drewN | apply below_drew1) | exact HB.out))))
          have n4_ := Aside0.mk (below_step (by repeat (first | (with_reducible first | exact HB.out | apply below_alloc | apply pw_below_drewN | apply below_drew1) | exact HB.out)) hb)
          clear HO_0
          clear HO267
          clear HO284
          clear HB
          clear HO276
          clear HO279
          have HO_0 := n0_
          have HO267 := n1_
          have HO284 := n2_
          have HO287 := n3_
          have HB := n4_
          clear n0_ n1_ n2_ n3_ n4_
          clear hb ho35
          refine hK.out _ _ trivial (fun hHeld => ?_)
          clear hK K
          refine norm_ (a' := ?_) ?_ ?_
          rotate_left; (· show Act.put _ (some 67) _ = _; simp only [Act.put,List.setIfInBounds_toArray,List.set_cons_zero,List.set_cons_succ,i64_w,i32_w]; rfl)
          refine pure_ (i := 18) (N := some 15) (v := ?_) (a' := ?_) (bo_ 19 524287) rfl rfl (any_of HT_.out (by kernel_rfl)) (fun _ _ _ h => h) (Or.inl ⟨by rfl, ?_⟩) ?_ ?_
          rotate_left; (· intro w'; go_simp; with_reducible rfl)
          rotate_left; (· simp only [Act.put,List.setIfInBounds_toArray,List.set_cons_zero,List.set_cons_succ,i64_w,i32_w]; rfl)
          refine done_ (done_of HT_.out (by kernel_rfl)) ?_
          try go_wp2
          go_loopg [16] kj8 (fun kq v16 w' => ∃ (x16_2 : Int), v16 = .int .i64 x16_2 ∧ Aside0 (kerbsuitelaw4_BoxReads.l0 kq y285 x16_2 = some r) ∧ Aside0 (kq ≤ kj8) ∧ Aside0 (Kd.N (Kd.slice 5 (Kd.int .u8)) 24 w' w.heap.size (fun k_ => (P0_ k_ ∨ w.heap.size ≤ k_)) v286 y285) ∧ Aside0 (Below w.heap.size w w'))
          case atStart => exact ⟨(0), (by first | rfl | (simp; done) | (simp [*]; done)), H', ⟨Nat.le_refl _⟩, ⟨by (with_reducible repeat (first | apply Kd.N_alloc | apply Kd.N_drewN | apply Kd.N_drew)); exact HO287.out⟩, ⟨by repeat (first | (with_reducible first | exact HB.out | apply below_alloc | apply pw_below_drewN | apply below_drew1) | exact HB.out)⟩⟩
          case round =>
           clear H'
           try clear c1
           try clear c2
           try clear p2
           try clear q2
           try clear c4
           try clear p6
           try clear c8
           try clear c11
           try clear c11b0
           try clear c11b1
           try clear c12
           try clear c12b0
           try clear c12b1
           try clear c13
           try clear c14
           try clear c16
           try clear c17
           try clear c19
           try clear c19b0
           try clear c19b1
           try clear c21
           try clear c21b0
           try clear c21b1
           try clear c22
           try clear c22b0
           try clear c22b1
           try clear q26
           try clear p2
           try clear q26
           obtain ⟨x16_2, rfl, HA, HK2, HO_15, HB⟩ := hrel
           cases gk with
           | zero => exact absurd HA.out (by simp [kerbsuitelaw4_BoxReads.l0])
           | succ k2 =>
            have H := HA.out
            clear HA
            simp only [kerbsuitelaw4_BoxReads.l0] at H
            by_cases c36 : x16_2 < (y285.length : Int)
            ·rw [if_pos c36] at H
             have c36b0 : decide (x16_2 < (y285.length : Int)) = true := decide_eq_true c36
             clear c36
             by_cases c37 : 0 ≤ x16_2
             ·rw [if_pos c37] at H
              have c37b0 : decide (0 ≤ x16_2) = true := decide_eq_true c37
              clear c37
              replace H := Option.bind_eq_some_iff.mp H
              obtain ⟨⟨t289, t290, t291, t294, t295⟩, A380, H⟩ := H
              replace H : ((kerbsuiteref4_Read.f k2 (rd_L1 y285 x16_2)).bind fun bt298 => (if t289 = bt298.1 then (if t290 = bt298.2.1 then (if (strOfNums t291).toList = (strOfNums bt298.2.2.1).toList then (if t294 = bt298.2.2.2.1 then (if t295 = bt298.2.2.2.2 then ((box_Is.f k2 (rd_L1 y285 x16_2)).bind fun t307 => ((kerbsuiteref4_Is.f k2 (rd_L1 y285 x16_2)).bind fun t309 => (kerbsuitelaw4_BoxReads.j2 k2 y285 x16_2 (t307 != t309)))) else (kerbsuitelaw4_BoxReads.j2 k2 y285 x16_2 true)) else (kerbsuitelaw4_BoxReads.j2 k2 y285 x16_2 true)) else (kerbsuitelaw4_BoxReads.j2 k2 y285 x16_2 true)) else (kerbsuitelaw4_BoxReads.j2 k2 y285 x16_2 true)) else (kerbsuitelaw4_BoxReads.j2 k2 y285 x16_2 true))) = some r := H
              have A38 := Aside0.mk A380
              clear A380
              replace H := Option.bind_eq_some_iff.mp H
              obtain ⟨⟨t298, t299, t300, t303, t304⟩, A390, H⟩ := H
              replace H : (if t289 = t298 then (if t290 = t299 then (if (strOfNums t291).toList = (strOfNums t300).toList then (if t294 = t303 then (if t295 = t304 then ((box_Is.f k2 (rd_L1 y285 x16_2)).bind fun t307 => ((kerbsuiteref4_Is.f k2 (rd_L1 y285 x16_2)).bind fun t309 => (kerbsuitelaw4_BoxReads.j2 k2 y285 x16_2 (t307 != t309)))) else (kerbsuitelaw4_BoxReads.j2 k2 y285 x16_2 true)) else (kerbsuitelaw4_BoxReads.j2 k2 y285 x16_2 true)) else (kerbsuitelaw4_BoxReads.j2 k2 y285 x16_2 true)) else (kerbsuitelaw4_BoxReads.j2 k2 y285 x16_2 true)) else (kerbsuitelaw4_BoxReads.j2 k2 y285 x16_2 true)) = some r := H
              have A39 := Aside0.mk A390
              clear A390
              have HC40 := Aside0.mk H
              clear H
              obtain ⟨Ao41, co41, eo41⟩ := Kd.N_slice HO_15.out
              subst eo41
              have p288 : 0 ≤ (x16_2 : Int) := of_decide_eq_true (by first | (with_reducible assumption) | assumption)
              have q288 : x16_2 < (y285.length : Int) := of_decide_eq_true (by first | (with_reducible assumption) | assumption)
              obtain ⟨ad288, A288_0, c288_0, e288, hx288_0, hl288_0, hi288_0⟩ := at_L1 (Kd.N_reads' HO_15.out).2.2 x16_2 p288 q288
              cases e288
              obtain ⟨ce288, hce288, hMe288, hcc288⟩ := Kd.N_get HO_15.out [] x16_2 p288 (by first | exact q288 | exact of_decide_eq_true (by first | (with_reducible assumption) | assumption) | (have e_ := (Kd.N_reads' HO_15.out).1; omega))
              obtain ⟨ua288_0, uc288_0, rfl, ul288_0, ge288_0⟩ := Kd.FK_slice_open hMe288
              have hv288_0 := hcc288 0 _ rfl
              rw [Nat.add_zero, show ((Kd.slice 5 (Kd.int .u8))).sz = 1 from rfl, Nat.mul_one] at hv288_0
              replace hv288_0 := Option.some.inj (hv288_0.symm.trans hx288_0)
              injection hv288_0 with hva_ hvn_ hvc_
              rw [hva_] at ge288_0
              rw [hvc_] at ul288_0
              have HL288_0 := Aside0.mk (show Kd.V (Kd.int .u8) 5 _ w.heap.size _ _ (rd_L1 y285 x16_2) from Kd.V_mk ul288_0 ge288_0)
              clear hva_ hvn_ hvc_ ge288_0 ul288_0
              clear hcc288 hce288
              have HR288_0 := Aside0.mk hi288_0
              have HC288_0 := Aside0.mk hl288_0
              clear hi288_0 hl288_0
              replace p288 := eq_true p288
              replace q288 := eq_true q288
              go_upto_region 12 with (first | ((with_reducible refine gate_callee (f := 15) rfl ?_); refine goesL_ (some 79) rfl rfl Try.func15 (by kernel_rfl) rfl #[.slice A288_0 (rd_L1 y285 x16_2).length c288_0] rfl (by (try simp only [List.map_toArray, List.map_cons, List.map_nil]); first | done | rfl | (simp only [List.length_drop, List.length_take]; rfl)) ?_; (with_reducible refine (box_Read.calls k2 _ _ (rd_L1 y285 x16_2) t289 t290 t291 t294 t295 _ ?side1 ?side2 A38.out).mono ?_); (case side1 => repeat (first | exact ((Kd.V_reads' (by (with_reducible repeat (first | apply Kd.V_alloc | apply Kd.V_drewN | apply Kd.V_drew)); exact HL288_0.out)).2.2) | (with_reducible refine Kd.C_alloc ?_ _) | (with_reducible refine Kd.C_drewN ?_ _) | (with_reducible refine Kd.C_drew ?_))); (case side2 => exact HC288_0.out); rintro e w42 ⟨v292, rfl, ho0, hb⟩; refine ⟨_, rfl, ?_⟩; have n0_ := Aside0.mk (Kd.N_elder' (by (with_reducible repeat (first | apply Kd.N_alloc | apply Kd.N_drewN | apply Kd.N_drew)); exact HO_15.out) (Kd.R_base ho0) hb); have n1_ := Aside0.mk (Kd.V_elder' (by (with_reducible repeat (first | apply Kd.V_alloc | apply Kd.V_drewN | apply Kd.V_drew)); exact HL288_0.out) (Kd.R_base ho0) hb); have n2_ := Aside0.mk (Kd.R_lower (Kd.R_newM (M := fun k_ => (w.heap.size ≤ k_)) ho0 (below_size (by repeat (first | (with_reducible first | exact HB.out | apply below_alloc | apply pw_below_drewN | apply below_drew1) | exact HB.out))) (fun k_ h_ => h_)) (below_size (by repeat (first | (with_reducible first | exact HB.out | apply below_alloc | apply pw_below_drewN | apply below_drew1) | exact HB.out)))); have n3_ := Aside0.mk (Kd.C_below ((Kd.V_reads' (by (with_reducible repeat (first | apply Kd.V_alloc | apply Kd.V_drewN | apply Kd.V_drew)); exact HL288_0.out)).2.2) hb); have n4_ := Aside0.mk (below_step (by repeat (first | (with_reducible first | exact HB.out | apply below_alloc | apply pw_below_drewN | apply below_drew1) | exact HB.out)) hb); clear HO_15; clear HL288_0; clear HR288_0; clear HB; have HO_15 := n0_; have HL288_0 := n1_; have HO293 := n2_; have HR288_0 := n3_; have HB := n4_; clear n0_ n1_ n2_ n3_ n4_; (try clear hb); (try clear hb2); (try clear hk); (try clear hi); (try clear ho0)) | ((with_reducible refine gate_dst (N := 17) rfl ?_); (try (refine gate_guard (by rfl) ?_; dsimp only)); refine box_event ?hg (N := 17) ?hd (cs := #[.int .i64 0, .int .u64 0, .slice none 0 0]) (t := 37) ?hr ?_; (case hd => rfl); (case hg => rfl); (case hr => first | (go_simp; done) | (go_simp; rfl)); intro gb296 hg w43 hbox hb; have n0_ := Aside0.mk (Kd.N_below (Kd.N_elderB (by (with_reducible repeat (first | apply Kd.N_alloc | apply Kd.N_drewN | apply Kd.N_drew)); exact HO_15.out) gb296 (Nat.le_of_eq hg.symm)) hb); have n1_ := Aside0.mk (Kd.V_below (Kd.V_elderB (by (with_reducible repeat (first | apply Kd.V_alloc | apply Kd.V_drewN | apply Kd.V_drew)); exact HL288_0.out) gb296 (Nat.le_of_eq hg.symm)) hb); have n2_ := Aside0.mk (Kd.R_below (by (with_reducible repeat (first | apply Kd.R_alloc | apply Kd.R_drewN | apply Kd.R_drew)); exact HO293.out) hb); have n3_ := Aside0.mk (Kd.C_below ((Kd.V_reads' (by (with_reducible repeat (first | apply Kd.V_alloc | apply Kd.V_drewN | apply Kd.V_drew)); exact HL288_0.out)).2.2) hb); have n4_ := Aside0.mk (below_step (by repeat (first | (with_reducible first | exact HB.out | apply below_alloc | apply pw_below_drewN | apply below_drew1) | exact HB.out)) hb); have n5_ := Aside0.mk (hbox); have n6_ := Aside0.mk ((by rw [hg]; exact (below_size (by repeat (first | (with_reducible first | exact HB.out | apply below_alloc | apply pw_below_drewN | apply below_drew1) | exact HB.out))) : w.heap.size ≤ gb296)); have n7_ := Aside0.mk ((by rw [hg]; exact (below_size (by repeat (first | (with_reducible first | exact HB.out | apply below_alloc | apply pw_below_drewN | apply below_drew1) | exact HB.out))) : w.heap.size ≤ gb296)); clear HO_15; clear HL288_0; clear HO293; clear HR288_0; clear HB; have HO_15 := n0_; have HL288_0 := n1_; have HO293 := n2_; have HR288_0 := n3_; have HB := n4_; have BK296 := n5_; have GW296 := n6_; have GE296 := n7_; clear n0_ n1_ n2_ n3_ n4_ n5_ n6_ n7_; clear hb hbox hg; have hcz44_0 : w43.cell? ⟨gb296, 0, none⟩ = some (.int .i64 0) := (blk_cell BK296.out 0).trans rfl; have hcz44_1 : w43.cell? ⟨gb296, 1, none⟩ = some (.int .u64 0) := (blk_cell BK296.out 1).trans rfl; have hcz44_2 : w43.cell? ⟨gb296, 2, none⟩ = some (.slice none 0 0) := (blk_cell BK296.out 2).trans rfl; have hfz44_0 := blk_frozen BK296.out 0; have hfz44_1 := blk_frozen BK296.out 1; have hfz44_2 := blk_frozen BK296.out 2; obtain ⟨Ao45, co45, eo45⟩ := Kd.R_slice HO293.out; subst eo45) | ((with_reducible refine gate_store (t := 37) (p := 17) rfl ?_); refine store_event (t := 37) (p := 17) (v := ?vo_w46) (w1 := (((w43.setCell ⟨gb296, 0, none⟩ (.int .i64 t289)).setCell ⟨gb296, 1, none⟩ (.int .u64 t290)).setCell ⟨gb296, 2, none⟩ (.slice Ao45 t291.length co45))) ?hg ?ho ?hn ?hr ?_; (case ho => rfl); (case hg => rfl); (case hn => rfl); (case hr => first | (go_simp; done) | (go_simp; rfl)); intro w46 hw; have n0_ : Aside0 (Kd.N (Kd.slice 5 (Kd.int .u8)) 24 w46 w.heap.size (fun k_ => (P0_ k_ ∨ w.heap.size ≤ k_) ∧ some k_ ≠ (.slice Ao45 t291.length co45 : Value).ownBlock ∧ k_ ≠ gb296) (.slice (some ad288) y285.length co41) y285) := ⟨(by rw [hw]; exact (by (with_reducible repeat (first | apply Kd.N_alloc | apply Kd.N_drewN | apply Kd.N_drew)); exact Kd.N_mono (Kd.N_far (p := ⟨gb296, 2, none⟩) (Kd.N_far (p := ⟨gb296, 1, none⟩) (Kd.N_far (p := ⟨gb296, 0, none⟩) (Kd.N_mono HO_15.out (fun k_ hk => (⟨hk, hk.2⟩ : _ ∧ k_ ≠ gb296))) (fun _ hk => hk.2) (.int .i64 t289)) (fun _ hk => hk.2) (.int .u64 t290)) (fun _ hk => hk.2) (.slice Ao45 t291.length co45)) (fun _ hk => ⟨hk.1.1.1, ⟨hk.1.1.2, hk.1.2⟩⟩)))⟩; have n1_ : Aside0 (Kd.V (Kd.int .u8) 5 w46 w.heap.size (fun k_ => (P0_ k_ ∨ w.heap.size ≤ k_) ∧ some k_ ≠ (.slice (some ad288) y285.length co41 : Value).ownBlock ∧ some k_ ≠ (.slice Ao45 t291.length co45 : Value).ownBlock ∧ k_ ≠ gb296) (.slice A288_0 (rd_L1 y285 x16_2).length c288_0) (rd_L1 y285 x16_2)) := ⟨(by rw [hw]; exact (by (with_reducible repeat (first | apply Kd.V_alloc | apply Kd.V_drewN | apply Kd.V_drew)); exact Kd.V_mono (Kd.V_far (p := ⟨gb296, 2, none⟩) (Kd.V_far (p := ⟨gb296, 1, none⟩) (Kd.V_far (p := ⟨gb296, 0, none⟩) (Kd.V_mono HL288_0.out (fun k_ hk => (⟨hk, hk.2⟩ : _ ∧ k_ ≠ gb296))) (fun _ hk => hk.2) (.int .i64 t289)) (fun _ hk => hk.2) (.int .u64 t290)) (fun _ hk => hk.2) (.slice Ao45 t291.length co45)) (fun _ hk => ⟨hk.1.1.1.1, ⟨hk.1.1.1.2, ⟨hk.1.1.2, hk.1.2⟩⟩⟩)))⟩; have n2_ : Aside0 (Kd.R (Kd.int .u8) 5 w46 w.heap.size (fun k_ => (w.heap.size ≤ k_)) (.slice Ao45 t291.length co45) t291) := ⟨(by rw [hw]; exact (by (with_reducible repeat (first | apply Kd.R_alloc | apply Kd.R_drewN | apply Kd.R_drew)); exact Kd.R_mono (Kd.R_far (p := ⟨gb296, 2, none⟩) (Kd.R_far (p := ⟨gb296, 1, none⟩) (Kd.R_far (p := ⟨gb296, 0, none⟩) (Kd.R_types HO293.out BK296.out (by decide)) (fun _ hk => hk.2) (.int .i64 t289)) (fun _ hk => hk.2) (.int .u64 t290)) (fun _ hk => hk.2) (.slice Ao45 t291.length co45)) (fun _ hk => hk.1.1)))⟩; have n3_ : Aside0 (w46.heap[gb296]? = some (.cells #[.int .i64 t289, .int .u64 t290, .slice Ao45 t291.length co45] 37 (0, 0))) := ⟨(by rw [hw]; exact (by (with_reducible repeat (first | refine blk_drewN ?_ _ | refine blk_drew ?_ | refine blk_alloc ?_ _)); refine blk_put (cs := #[.int .i64 t289, .int .u64 t290, .slice none 0 0]) ?_ 2 _ rfl; (with_reducible repeat (first | refine blk_drewN ?_ _ | refine blk_drew ?_ | refine blk_alloc ?_ _)); refine blk_put (cs := #[.int .i64 t289, .int .u64 0, .slice none 0 0]) ?_ 1 _ rfl; (with_reducible repeat (first | refine blk_drewN ?_ _ | refine blk_drew ?_ | refine blk_alloc ?_ _)); refine blk_put (cs := #[.int .i64 0, .int .u64 0, .slice none 0 0]) ?_ 0 _ rfl; (with_reducible repeat (first | refine blk_drewN ?_ _ | refine blk_drew ?_ | refine blk_alloc ?_ _)); exact BK296.out))⟩; have n4_ : Aside0 (Below w.heap.size w w46) := ⟨(by rw [hw]; exact (by repeat (first | (with_reducible first | exact HB.out | apply below_alloc | apply pw_below_drewN | apply below_drew1 | refine below_set ?_ GE296.out) | exact HB.out)))⟩; clear hw; clear HO_15; clear HL288_0; clear HO293; clear BK296; clear HB; have HO_15 := n0_; have HL288_0 := n1_; have HO293 := n2_; have BK296 := n3_; have HB := n4_; clear n0_ n1_ n2_ n3_ n4_; have p297 : 0 ≤ (x16_2 : Int) := of_decide_eq_true (by first | (with_reducible assumption) | assumption); have q297 : x16_2 < (y285.length : Int) := of_decide_eq_true (by first | (with_reducible assumption) | assumption); obtain ⟨ad297, A297_0, c297_0, e297, hx297_0, hl297_0, hi297_0⟩ := at_L1 (Kd.N_reads' HO_15.out).2.2 x16_2 p297 q297; obtain rfl : ad288 = ad297 := (by injection e297); obtain ⟨ce297, hce297, hMe297, hcc297⟩ := Kd.N_get HO_15.out [] x16_2 p297 (by first | exact q297 | exact of_decide_eq_true (by first | (with_reducible assumption) | assumption) | (have e_ := (Kd.N_reads' HO_15.out).1; omega)); obtain ⟨ua297_0, uc297_0, rfl, ul297_0, ge297_0⟩ := Kd.FK_slice_open hMe297; have hv297_0 := hcc297 0 _ rfl; rw [Nat.add_zero, show ((Kd.slice 5 (Kd.int .u8))).sz = 1 from rfl, Nat.mul_one] at hv297_0; replace hv297_0 := Option.some.inj (hv297_0.symm.trans hx297_0); injection hv297_0 with hva_ hvn_ hvc_; rw [hva_] at ge297_0; rw [hvc_] at ul297_0; have HL297_0 := Aside0.mk (show Kd.V (Kd.int .u8) 5 _ w.heap.size _ _ (rd_L1 y285 x16_2) from Kd.V_mk ul297_0 ge297_0); clear hva_ hvn_ hvc_ ge297_0 ul297_0; clear hcc297 hce297; have HR297_0 := Aside0.mk hi297_0; have HC297_0 := Aside0.mk hl297_0; clear hi297_0 hl297_0; replace p297 := eq_true p297; replace q297 := eq_true q297) | ((with_reducible refine gate_callee (f := 16) rfl ?_); refine goesL_ (some 88) rfl rfl Try.func16 (by kernel_rfl) rfl #[.slice A297_0 (rd_L1 y285 x16_2).length c297_0] rfl (by (try simp only [List.map_toArray, List.map_cons, List.map_nil]); first | done | rfl | (simp only [List.length_drop, List.length_take]; rfl)) ?_; (with_reducible refine (kerbsuiteref4_Read.calls k2 _ _ (rd_L1 y285 x16_2) t298 t299 t300 t303 t304 _ ?side1 ?side2 A39.out).mono ?_); (case side1 => repeat (first | exact ((Kd.V_reads' (by (with_reducible repeat (first | apply Kd.V_alloc | apply Kd.V_drewN | apply Kd.V_drew)); exact HL297_0.out)).2.2) | (with_reducible refine Kd.C_alloc ?_ _) | (with_reducible refine Kd.C_drewN ?_ _) | (with_reducible refine Kd.C_drew ?_))); (case side2 => exact HC297_0.out); rintro e w47 ⟨v301, rfl, ho0, hb⟩; refine ⟨_, rfl, ?_⟩; have n0_ := Aside0.mk (Kd.N_elder' (by (with_reducible repeat (first | apply Kd.N_alloc | apply Kd.N_drewN | apply Kd.N_drew)); exact HO_15.out) (Kd.R_base ho0) hb); have n1_ := Aside0.mk (Kd.V_elder' (by (with_reducible repeat (first | apply Kd.V_alloc | apply Kd.V_drewN | apply Kd.V_drew)); exact HL288_0.out) (Kd.R_base ho0) hb); have n2_ := Aside0.mk (Kd.R_elder' (by (with_reducible repeat (first | apply Kd.R_alloc | apply Kd.R_drewN | apply Kd.R_drew)); exact HO293.out) (Kd.R_base ho0) hb); have n3_ := Aside0.mk (Kd.V_elder' (by (with_reducible repeat (first | apply Kd.V_alloc | apply Kd.V_drewN | apply Kd.V_drew)); exact HL297_0.out) (Kd.R_base ho0) hb); have n4_ := Aside0.mk (Kd.R_lower (Kd.R_new' (Kd.R_newM (M := fun k_ => (w.heap.size ≤ k_)) ho0 (below_size (by repeat (first | (with_reducible first | exact HB.out | apply below_alloc | apply pw_below_drewN | apply below_drew1 | refine below_set ?_ GE296.out) | exact HB.out))) (fun k_ h_ => h_)) (Kd.R_lt (by (with_reducible repeat (first | apply Kd.R_alloc | apply Kd.R_drewN | apply Kd.R_drew)); exact HO293.out))) (below_size (by repeat (first | (with_reducible first | exact HB.out | apply below_alloc | apply pw_below_drewN | apply below_drew1 | refine below_set ?_ GE296.out) | exact HB.out)))); have n5_ := Aside0.mk (Kd.C_below ((Kd.V_reads' (by (with_reducible repeat (first | apply Kd.V_alloc | apply Kd.V_drewN | apply Kd.V_drew)); exact HL288_0.out)).2.2) hb); have n6_ := Aside0.mk (blk_below (g := gb296) (o := .cells #[.int .i64 t289, .int .u64 t290, .slice Ao45 t291.length co45] 37 (0, 0)) (by (with_reducible repeat (first | refine blk_drewN ?_ _ | refine blk_drew ?_ | refine blk_alloc ?_ _)); exact BK296.out) hb); have n7_ := Aside0.mk (Kd.C_below ((Kd.V_reads' (by (with_reducible repeat (first | apply Kd.V_alloc | apply Kd.V_drewN | apply Kd.V_drew)); exact HL297_0.out)).2.2) hb); have n8_ := Aside0.mk (below_step (by repeat (first | (with_reducible first | exact HB.out | apply below_alloc | apply pw_below_drewN | apply below_drew1 | refine below_set ?_ GE296.out) | exact HB.out)) hb); clear HO_15; clear HL288_0; clear HO293; clear HL297_0; clear HR288_0; clear BK296; clear HR297_0; clear HB; have HO_15 := n0_; have HL288_0 := n1_; have HO293 := n2_; have HL297_0 := n3_; have HO302 := n4_; have HR288_0 := n5_; have BK296 := n6_; have HR297_0 := n7_; have HB := n8_; clear n0_ n1_ n2_ n3_ n4_ n5_ n6_ n7_ n8_; (try clear hb); (try clear hb2); (try clear hk); (try clear hi); (try clear ho0)) | ((with_reducible refine gate_dst (N := 20) rfl ?_); (try (refine gate_guard (by rfl) ?_; dsimp only)); refine box_event ?hg (N := 20) ?hd (cs := #[.int .i64 0, .int .u64 0, .slice none 0 0]) (t := 37) ?hr ?_; (case hd => rfl); (case hg => rfl); (case hr => first | (go_simp; done) | (go_simp; rfl)); intro gb305 hg w48 hbox hb; have n0_ := Aside0.mk (Kd.N_below (Kd.N_elderB (by (with_reducible repeat (first | apply Kd.N_alloc | apply Kd.N_drewN | apply Kd.N_drew)); exact HO_15.out) gb305 (Nat.le_of_eq hg.symm)) hb); have n1_ := Aside0.mk (Kd.V_below (Kd.V_elderB (by (with_reducible repeat (first | apply Kd.V_alloc | apply Kd.V_drewN | apply Kd.V_drew)); exact HL288_0.out) gb305 (Nat.le_of_eq hg.symm)) hb); have n2_ := Aside0.mk (Kd.R_below (by (with_reducible repeat (first | apply Kd.R_alloc | apply Kd.R_drewN | apply Kd.R_drew)); exact HO293.out) hb); have n3_ := Aside0.mk (Kd.V_below (Kd.V_elderB (by (with_reducible repeat (first | apply Kd.V_alloc | apply Kd.V_drewN | apply Kd.V_drew)); exact HL297_0.out) gb305 (Nat.le_of_eq hg.symm)) hb); have n4_ := Aside0.mk (Kd.R_below (by (with_reducible repeat (first | apply Kd.R_alloc | apply Kd.R_drewN | apply Kd.R_drew)); exact HO302.out) hb); have n5_ := Aside0.mk (Kd.C_below ((Kd.V_reads' (by (with_reducible repeat (first | apply Kd.V_alloc | apply Kd.V_drewN | apply Kd.V_drew)); exact HL288_0.out)).2.2) hb); have n6_ := Aside0.mk (blk_below (g := gb296) (o := .cells #[.int .i64 t289, .int .u64 t290, .slice Ao45 t291.length co45] 37 (0, 0)) (by (with_reducible repeat (first | refine blk_drewN ?_ _ | refine blk_drew ?_ | refine blk_alloc ?_ _)); exact BK296.out) hb); have n7_ := Aside0.mk (Kd.C_below ((Kd.V_reads' (by (with_reducible repeat (first | apply Kd.V_alloc | apply Kd.V_drewN | apply Kd.V_drew)); exact HL297_0.out)).2.2) hb); have n8_ := Aside0.mk (below_step (by repeat (first | (with_reducible first | exact HB.out | apply below_alloc | apply pw_below_drewN | apply below_drew1 | refine below_set ?_ GE296.out) | exact HB.out)) hb); have n9_ := Aside0.mk (hbox); have n10_ := Aside0.mk ((by rw [hg]; exact (below_size (by repeat (first | (with_reducible first | exact HB.out | apply below_alloc | apply pw_below_drewN | apply below_drew1 | refine below_set ?_ GE296.out) | exact HB.out))) : w.heap.size ≤ gb305)); have n11_ := Aside0.mk ((by rw [hg]; exact (below_size (by repeat (first | (with_reducible first | exact HB.out | apply below_alloc | apply pw_below_drewN | apply below_drew1 | refine below_set ?_ GE296.out) | exact HB.out))) : w.heap.size ≤ gb305)); have n12_ := Aside0.mk ((by rw [hg]; exact Nat.ne_of_lt (blk_lt (g := gb296) (o := .cells #[.int .i64 t289, .int .u64 t290, .slice Ao45 t291.length co45] 37 (0, 0)) (by (with_reducible repeat (first | refine blk_drewN ?_ _ | refine blk_drew ?_ | refine blk_alloc ?_ _)); exact BK296.out)) : gb296 ≠ gb305)); have n13_ := Aside0.mk ((by rw [hg]; exact Nat.ne_of_gt (blk_lt (g := gb296) (o := .cells #[.int .i64 t289, .int .u64 t290, .slice Ao45 t291.length co45] 37 (0, 0)) (by (with_reducible repeat (first | refine blk_drewN ?_ _ | refine blk_drew ?_ | refine blk_alloc ?_ _)); exact BK296.out)) : gb305 ≠ gb296)); clear HO_15; clear HL288_0; clear HO293; clear HL297_0; clear HO302; clear HR288_0; clear BK296; clear HR297_0; clear HB; have HO_15 := n0_; have HL288_0 := n1_; have HO293 := n2_; have HL297_0 := n3_; have HO302 := n4_; have HR288_0 := n5_; have BK296 := n6_; have HR297_0 := n7_; have HB := n8_; have BK305 := n9_; have GW305 := n10_; have GE305 := n11_; have NB296_305 := n12_; have NB305_296 := n13_; clear n0_ n1_ n2_ n3_ n4_ n5_ n6_ n7_ n8_ n9_ n10_ n11_ n12_ n13_; clear hb hbox hg; have hnb49 := NB305_296.out; have hnc49 := NB296_305.out; have hcz50_0 : w48.cell? ⟨gb305, 0, none⟩ = some (.int .i64 0) := (blk_cell BK305.out 0).trans rfl; have hcz50_1 : w48.cell? ⟨gb305, 1, none⟩ = some (.int .u64 0) := (blk_cell BK305.out 1).trans rfl; have hcz50_2 : w48.cell? ⟨gb305, 2, none⟩ = some (.slice none 0 0) := (blk_cell BK305.out 2).trans rfl; have hfz50_0 := blk_frozen BK305.out 0; have hfz50_1 := blk_frozen BK305.out 1; have hfz50_2 := blk_frozen BK305.out 2; obtain ⟨Ao51, co51, eo51⟩ := Kd.R_slice HO302.out; subst eo51))
              (try simp only [Act.put, List.setIfInBounds_toArray, List.set_cons_zero, List.set_cons_succ])
              go_cut [135] (fun v135 wc => ∃ (kq : Nat) (x135_39 : Bool), v135 = .bool x135_39 ∧ Aside0 (kerbsuitelaw4_BoxReads.j2 kq y285 x16_2 x135_39 = some r) ∧ Aside0 (kq ≤ k2) ∧ Aside0 (Kd.N (Kd.slice 5 (Kd.int .u8)) 24 wc w.heap.size (fun k_ => (P0_ k_ ∨ w.heap.size ≤ k_) ∧ some k_ ≠ ((.slice Ao45 t291.length co45) : Value).ownBlock ∧ some k_ ≠ ((.slice Ao51 t300.length co51) : Value).ownBlock ∧ k_ ≠ gb296 ∧ k_ ≠ gb305) (.slice (some ad288) y285.length co41) y285) ∧ Aside0 (Kd.R (Kd.int .u8) 5 wc w.heap.size (fun k_ => (w.heap.size ≤ k_) ∧ some k_ ≠ ((.slice Ao51 t300.length co51) : Value).ownBlock) (.slice Ao45 t291.length co45) t291) ∧ Aside0 (Kd.R (Kd.int .u8) 5 wc w.heap.size (fun k_ => (w.heap.size ≤ k_) ∧ some k_ ≠ ((.slice Ao45 t291.length co45) : Value).ownBlock) (.slice Ao51 t300.length co51) t300) ∧ Aside0 (wc.heap[gb296]? = some (.cells #[.int .i64 t289, .int .u64 t290, (.slice Ao45 t291.length co45)] 37 (0, 0))) ∧ Aside0 (wc.heap[gb305]? = some (.cells #[.int .i64 t298, .int .u64 t299, (.slice Ao51 t300.length co51)] 37 (0, 0))) ∧ Aside0 (Below w.heap.size w wc))
              case first =>
               have H := HC40.out
               clear HC40
               by_cases c52 : t289 = t298
               ·rw [if_pos c52] at H
                have c52b0 : (t289 == t298) = true := beq_iff_eq.mpr c52
                have c52b1 : (t289 != t298) = false := bne_eq_false_iff_eq.mpr c52
                clear c52
                (first | rw [c52b0] | (simp only [i64_w, i32_w]; rw [c52b0]) | skip)
                by_cases c53 : t290 = t299
                ·rw [if_pos c53] at H
                 have c53b0 : (t290 == t299) = true := beq_iff_eq.mpr c53
                 have c53b1 : (t290 != t299) = false := bne_eq_false_iff_eq.mpr c53
                 clear c53
                 by_cases c54 : (strOfNums t291).toList = (strOfNums t300).toList
                 ·rw [if_pos c54] at H
                  have c54b0 : ((strOfNums t291).toList == (strOfNums t300).toList) = true := beq_iff_eq.mpr c54
                  have c54b1 : ((strOfNums t291).toList != (strOfNums t300).toList) = false := bne_eq_false_iff_eq.mpr c54
                  clear c54
                  by_cases c55 : t294 = t303
                  ·rw [if_pos c55] at H
                   have c55b0 : (t294 == t303) = true := beq_iff_eq.mpr c55
                   have c55b1 : (t294 != t303) = false := bne_eq_false_iff_eq.mpr c55
                   clear c55
                   by_cases c56 : t295 = t304
                   ·rw [if_pos c56] at H
                    have c56b0 : (t295 == t304) = true := beq_iff_eq.mpr c56
                    have c56b1 : (t295 != t304) = false := bne_eq_false_iff_eq.mpr c56
                    clear c56
                    replace H := Option.bind_eq_some_iff.mp H
                    obtain ⟨t307, A570, H⟩ := H
                    replace H : ((kerbsuiteref4_Is.f k2 (rd_L1 y285 x16_2)).bind fun t309 => (kerbsuitelaw4_BoxReads.j2 k2 y285 x16_2 (t307 != t309))) = some r := H
                    have A57 := Aside0.mk A570
                    clear A570
                    replace H := Option.bind_eq_some_iff.mp H
                    obtain ⟨t309, A580, H⟩ := H
                    replace H : (kerbsuitelaw4_BoxReads.j2 k2 y285 x16_2 (t307 != t309)) = some r := H
                    have A58 := Aside0.mk A580
                    clear A580
                    have H' := Aside0.mk H
                    clear H
                    try go_wp2
                    have n0_ : Aside0 (Kd.N (Kd.slice 5 (Kd.int .u8)) 24 (((w48.setCell ⟨gb305, 0, none⟩ (.int .i64 t298)).setCell ⟨gb305, 1, none⟩ (.int .u64 t299)).setCell ⟨gb305, 2, none⟩ (.slice Ao51 t300.length co51)) w.heap.size (fun k_ => (P0_ k_ ∨ w.heap.size ≤ k_) ∧ some k_ ≠ (.slice Ao45 t291.length co45 : Value).ownBlock ∧ some k_ ≠ (.slice Ao51 t300.length co51 : Value).ownBlock ∧ k_ ≠ gb296 ∧ k_ ≠ gb305) (.slice (some ad288) y285.length co41) y285) := ⟨by (with_reducible repeat (first | apply Kd.N_alloc | apply Kd.N_drewN | apply Kd.N_drew)); exact Kd.N_mono (Kd.N_far (p := ⟨gb305, 2, none⟩) (Kd.N_far (p := ⟨gb305, 1, none⟩) (Kd.N_far (p := ⟨gb305, 0, none⟩) (Kd.N_mono HO_15.out (fun k_ hk => (⟨hk, hk.2⟩ : _ ∧ k_ ≠ gb305))) (fun _ hk => hk.2) (.int .i64 t298)) (fun _ hk => hk.2) (.int .u64 t299)) (fun _ hk => hk.2) (.slice Ao51 t300.length co51)) (fun _ hk => ⟨hk.1.1.1.1, ⟨hk.1.1.1.2.1, ⟨hk.1.1.2, ⟨hk.1.1.1.2.2, hk.1.2⟩⟩⟩⟩)⟩
                    have n1_ : Aside0 (Kd.V (Kd.int .u8) 5 (((w48.setCell ⟨gb305, 0, none⟩ (.int .i64 t298)).setCell ⟨gb305, 1, none⟩ (.int .u64 t299)).setCell ⟨gb305, 2, none⟩ (.slice Ao51 t300.length co51)) w.heap.size (fun k_ => (P0_ k_ ∨ w.heap.size ≤ k_) ∧ some k_ ≠ (.slice (some ad288) y285.length co41 : Value).ownBlock ∧ some k_ ≠ (.slice Ao45 t291.length co45 : Value).ownBlock ∧ some k_ ≠ (.slice Ao51 t300.length co51 : Value).ownBlock ∧ k_ ≠ gb296 ∧ k_ ≠ gb305) (.slice A288_0 (rd_L1 y285 x16_2).length c288_0) (rd_L1 y285 x16_2)) := ⟨by (with_reducible repeat (first | apply Kd.V_alloc | apply Kd.V_drewN | apply Kd.V_drew)); exact Kd.V_mono (Kd.V_far (p := ⟨gb305, 2, none⟩) (Kd.V_far (p := ⟨gb305, 1, none⟩) (Kd.V_far (p := ⟨gb305, 0, none⟩) (Kd.V_mono HL288_0.out (fun k_ hk => (⟨hk, hk.2⟩ : _ ∧ k_ ≠ gb305))) (fun _ hk => hk.2) (.int .i64 t298)) (fun _ hk => hk.2) (.int .u64 t299)) (fun _ hk => hk.2) (.slice Ao51 t300.length co51)) (fun _ hk => ⟨hk.1.1.1.1, ⟨hk.1.1.1.2.1, ⟨hk.1.1.1.2.2.1, ⟨hk.1.1.2, ⟨hk.1.1.1.2.2.2, hk.1.2⟩⟩⟩⟩⟩)⟩
                    have n2_ : Aside0 (Kd.R (Kd.int .u8) 5 (((w48.setCell ⟨gb305, 0, none⟩ (.int .i64 t298)).setCell ⟨gb305, 1, none⟩ (.int .u64 t299)).setCell ⟨gb305, 2, none⟩ (.slice Ao51 t300.length co51)) w.heap.size (fun k_ => (w.heap.size ≤ k_) ∧ some k_ ≠ (.slice Ao51 t300.length co51 : Value).ownBlock) (.slice Ao45 t291.length co45) t291) := ⟨by (with_reducible repeat (first | apply Kd.R_alloc | apply Kd.R_drewN | apply Kd.R_drew)); exact Kd.R_mono (Kd.R_far (p := ⟨gb305, 2, none⟩) (Kd.R_far (p := ⟨gb305, 1, none⟩) (Kd.R_far (p := ⟨gb305, 0, none⟩) (Kd.R_types HO293.out BK305.out (by decide)) (fun _ hk => hk.2) (.int .i64 t298)) (fun _ hk => hk.2) (.int .u64 t299)) (fun _ hk => hk.2) (.slice Ao51 t300.length co51)) (fun _ hk => ⟨hk.1.1, hk.1.2⟩)⟩
                    have n3_ : Aside0 (Kd.V (Kd.int .u8) 5 (((w48.setCell ⟨gb305, 0, none⟩ (.int .i64 t298)).setCell ⟨gb305, 1, none⟩ (.int .u64 t299)).setCell ⟨gb305, 2, none⟩ (.slice Ao51 t300.length co51)) w.heap.size (fun k_ => (P0_ k_ ∨ w.heap.size ≤ k_) ∧ some k_ ≠ (.slice (some ad288) y285.length co41 : Value).ownBlock ∧ some k_ ≠ (.slice Ao45 t291.length co45 : Value).ownBlock ∧ some k_ ≠ (.slice Ao51 t300.length co51 : Value).ownBlock ∧ k_ ≠ gb296 ∧ k_ ≠ gb305) (.slice A297_0 (rd_L1 y285 x16_2).length c297_0) (rd_L1 y285 x16_2)) := ⟨by (with_reducible repeat (first | apply Kd.V_alloc | apply Kd.V_drewN | apply Kd.V_drew)); exact Kd.V_mono (Kd.V_far (p := ⟨gb305, 2, none⟩) (Kd.V_far (p := ⟨gb305, 1, none⟩) (Kd.V_far (p := ⟨gb305, 0, none⟩) (Kd.V_mono HL297_0.out (fun k_ hk => (⟨hk, hk.2⟩ : _ ∧ k_ ≠ gb305))) (fun _ hk => hk.2) (.int .i64 t298)) (fun _ hk => hk.2) (.int .u64 t299)) (fun _ hk => hk.2) (.slice Ao51 t300.length co51)) (fun _ hk => ⟨hk.1.1.1.1.1, ⟨hk.1.1.1.2, ⟨hk.1.1.1.1.2.1, ⟨hk.1.1.2, ⟨hk.1.1.1.1.2.2, hk.1.2⟩⟩⟩⟩⟩)⟩
                    have n4_ : Aside0 (Kd.R (Kd.int .u8) 5 (((w48.setCell ⟨gb305, 0, none⟩ (.int .i64 t298)).setCell ⟨gb305, 1, none⟩ (.int .u64 t299)).setCell ⟨gb305, 2, none⟩ (.slice Ao51 t300.length co51)) w.heap.size (fun k_ => (w.heap.size ≤ k_) ∧ some k_ ≠ (.slice Ao45 t291.length co45 : Value).ownBlock) (.slice Ao51 t300.length co51) t300) := ⟨by (with_reducible repeat (first | apply Kd.R_alloc | apply Kd.R_drewN | apply Kd.R_drew)); exact Kd.R_mono (Kd.R_far (p := ⟨gb305, 2, none⟩) (Kd.R_far (p := ⟨gb305, 1, none⟩) (Kd.R_far (p := ⟨gb305, 0, none⟩) (Kd.R_types HO302.out BK305.out (by decide)) (fun _ hk => hk.2) (.int .i64 t298)) (fun _ hk => hk.2) (.int .u64 t299)) (fun _ hk => hk.2) (.slice Ao51 t300.length co51)) (fun _ hk => ⟨hk.1.1.1, hk.1.2⟩)⟩
                    have n5_ : Aside0 ((((w48.setCell ⟨gb305, 0, none⟩ (.int .i64 t298)).setCell ⟨gb305, 1, none⟩ (.int .u64 t299)).setCell ⟨gb305, 2, none⟩ (.slice Ao51 t300.length co51)).heap[gb296]? = some (.cells #[.int .i64 t289, .int .u64 t290, .slice Ao45 t291.length co45] 37 (0, 0))) := ⟨by (with_reducible repeat (first | refine blk_drewN ?_ _ | refine blk_drew ?_ | refine blk_alloc ?_ _)); refine blk_far ?_ NB296_305.out _; (with_reducible repeat (first | refine blk_drewN ?_ _ | refine blk_drew ?_ | refine blk_alloc ?_ _)); refine blk_far ?_ NB296_305.out _; (with_reducible repeat (first | refine blk_drewN ?_ _ | refine blk_drew ?_ | refine blk_alloc ?_ _)); refine blk_far ?_ NB296_305.out _; (with_reducible repeat (first | refine blk_drewN ?_ _ | refine blk_drew ?_ | refine blk_alloc ?_ _)); exact BK296.out⟩
                    have n6_ : Aside0 ((((w48.setCell ⟨gb305, 0, none⟩ (.int .i64 t298)).setCell ⟨gb305, 1, none⟩ (.int .u64 t299)).setCell ⟨gb305, 2, none⟩ (.slice Ao51 t300.length co51)).heap[gb305]? = some (.cells #[.int .i64 t298, .int .u64 t299, .slice Ao51 t300.length co51] 37 (0, 0))) := ⟨by (with_reducible repeat (first | refine blk_drewN ?_ _ | refine blk_drew ?_ | refine blk_alloc ?_ _)); refine blk_put (cs := #[.int .i64 t298, .int .u64 t299, .slice none 0 0]) ?_ 2 _ rfl; (with_reducible repeat (first | refine blk_drewN ?_ _ | refine blk_drew ?_ | refine blk_alloc ?_ _)); refine blk_put (cs := #[.int .i64 t298, .int .u64 0, .slice none 0 0]) ?_ 1 _ rfl; (with_reducible repeat (first | refine blk_drewN ?_ _ | refine blk_drew ?_ | refine blk_alloc ?_ _)); refine blk_put (cs := #[.int .i64 0, .int .u64 0, .slice none 0 0]) ?_ 0 _ rfl; (with_reducible repeat (first | refine blk_drewN ?_ _ | refine blk_drew ?_ | refine blk_alloc ?_ _)); exact BK305.out⟩
                    have n7_ : Aside0 (Below w.heap.size w (((w48.setCell ⟨gb305, 0, none⟩ (.int .i64 t298)).setCell ⟨gb305, 1, none⟩ (.int .u64 t299)).setCell ⟨gb305, 2, none⟩ (.slice Ao51 t300.length co51))) := ⟨by repeat (first | (with_reducible first | exact HB.out | apply below_alloc | apply pw_below_drewN | apply below_drew1 | refine below_set ?_ GE296.out | refine below_set ?_ GE305.out) | exact HB.out)⟩
                    (try clear HO_15)
                    (try clear HL288_0)
                    (try clear HO293)
                    (try clear HL297_0)
                    (try clear HO302)
                    (try clear BK296)
                    (try clear BK305)
                    (try clear HB)
                    generalize (((w48.setCell ⟨gb305, 0, none⟩ (.int .i64 t298)).setCell ⟨gb305, 1, none⟩ (.int .u64 t299)).setCell ⟨gb305, 2, none⟩ (.slice Ao51 t300.length co51)) = w59 at n0_ n1_ n2_ n3_ n4_ n5_ n6_ n7_ ⊢
                    have HO_15 := n0_
                    have HL288_0 := n1_
                    have HO293 := n2_
                    have HL297_0 := n3_
                    have HO302 := n4_
                    have BK296 := n5_
                    have BK305 := n6_
                    have HB := n7_
                    clear n0_ n1_ n2_ n3_ n4_ n5_ n6_ n7_
                    have n0_ := Aside0.mk (Kd.N_drew HO_15.out)
                    have n1_ := Aside0.mk (Kd.V_drew HL288_0.out)
                    have n2_ := Aside0.mk (Kd.R_drew HO293.out)
                    have n3_ := Aside0.mk (Kd.V_drew HL297_0.out)
                    have n4_ := Aside0.mk (Kd.R_drew HO302.out)
                    have n5_ := Aside0.mk (blk_drew BK296.out)
                    have n6_ := Aside0.mk (blk_drew BK305.out)
                    have n7_ := Aside0.mk (below_drew1 HB.out)
                    clear HO_15
                    clear HL288_0
                    clear HO293
                    clear HL297_0
                    clear HO302
                    clear BK296
                    clear BK305
                    clear HB
                    have HO_15 := n0_
                    have HL288_0 := n1_
                    have HO293 := n2_
                    have HL297_0 := n3_
                    have HO302 := n4_
                    have BK296 := n5_
                    have BK305 := n6_
                    have HB := n7_
                    clear n0_ n1_ n2_ n3_ n4_ n5_ n6_ n7_
                    have p306 : 0 ≤ (x16_2 : Int) := of_decide_eq_true (by first | (with_reducible assumption) | assumption)
                    have q306 : x16_2 < (y285.length : Int) := of_decide_eq_true (by first | (with_reducible assumption) | assumption)
                    obtain ⟨ad306, A306_0, c306_0, e306, hx306_0, hl306_0, hi306_0⟩ := at_L1 (Kd.N_reads' HO_15.out).2.2 x16_2 p306 q306
                    obtain rfl : ad288 = ad306 := (by injection e306)
                    obtain ⟨ce306, hce306, hMe306, hcc306⟩ := Kd.N_get HO_15.out [] x16_2 p306 (by first | exact q306 | exact of_decide_eq_true (by first | (with_reducible assumption) | assumption) | (have e_ := (Kd.N_reads' HO_15.out).1; omega))
                    obtain ⟨ua306_0, uc306_0, rfl, ul306_0, ge306_0⟩ := Kd.FK_slice_open hMe306
                    have hv306_0 := hcc306 0 _ rfl
                    rw [Nat.add_zero, show ((Kd.slice 5 (Kd.int .u8))).sz = 1 from rfl, Nat.mul_one] at hv306_0
                    replace hv306_0 := Option.some.inj (hv306_0.symm.trans hx306_0)
                    injection hv306_0 with hva_ hvn_ hvc_
                    rw [hva_] at ge306_0
                    rw [hvc_] at ul306_0
                    have HL306_0 := Aside0.mk (show Kd.V (Kd.int .u8) 5 _ w.heap.size _ _ (rd_L1 y285 x16_2) from Kd.V_mk ul306_0 ge306_0)
                    clear hva_ hvn_ hvc_ ge306_0 ul306_0
                    clear hcc306 hce306
                    have HR306_0 := Aside0.mk hi306_0
                    have HC306_0 := Aside0.mk hl306_0
                    clear hi306_0 hl306_0
                    replace p306 := eq_true p306
                    replace q306 := eq_true q306
                    have p308 : 0 ≤ (x16_2 : Int) := of_decide_eq_true (by first | (with_reducible assumption) | assumption)
                    have q308 : x16_2 < (y285.length : Int) := of_decide_eq_true (by first | (with_reducible assumption) | assumption)
                    obtain ⟨ad308, A308_0, c308_0, e308, hx308_0, hl308_0, hi308_0⟩ := at_L1 (Kd.N_reads' HO_15.out).2.2 x16_2 p308 q308
                    obtain rfl : ad288 = ad308 := (by injection e308)
                    obtain ⟨ce308, hce308, hMe308, hcc308⟩ := Kd.N_get HO_15.out [] x16_2 p308 (by first | exact q308 | exact of_decide_eq_true (by first | (with_reducible assumption) | assumption) | (have e_ := (Kd.N_reads' HO_15.out).1; omega))
                    obtain ⟨ua308_0, uc308_0, rfl, ul308_0, ge308_0⟩ := Kd.FK_slice_open hMe308
                    have hv308_0 := hcc308 0 _ rfl
                    rw [Nat.add_zero, show ((Kd.slice 5 (Kd.int .u8))).sz = 1 from rfl, Nat.mul_one] at hv308_0
                    replace hv308_0 := Option.some.inj (hv308_0.symm.trans hx308_0)
                    injection hv308_0 with hva_ hvn_ hvc_
                    rw [hva_] at ge308_0
                    rw [hvc_] at ul308_0
                    have HL308_0 := Aside0.mk (show Kd.V (Kd.int .u8) 5 _ w.heap.size _ _ (rd_L1 y285 x16_2) from Kd.V_mk ul308_0 ge308_0)
                    clear hva_ hvn_ hvc_ ge308_0 ul308_0
                    clear hcc308 hce308
                    have HR308_0 := Aside0.mk hi308_0
                    have HC308_0 := Aside0.mk hl308_0
                    clear hi308_0 hl308_0
                    replace p308 := eq_true p308
                    replace q308 := eq_true q308
                    refine start_ (n := 44) (S := fun w' => w'.cell? ⟨gb296, 0, none⟩ = some (.int .i64 t289) ∧ w'.cell? ⟨gb296, 1, none⟩ = some (.int .u64 t290) ∧ w'.cell? ⟨gb296, 2, none⟩ = some (.slice Ao45 t291.length co45) ∧ w'.cell? ⟨gb305, 0, none⟩ = some (.int .i64 t298) ∧ w'.cell? ⟨gb305, 1, none⟩ = some (.int .u64 t299) ∧ w'.cell? ⟨gb305, 2, none⟩ = some (.slice Ao51 t300.length co51) ∧ (convert 24 9 (.slice Ao45 t291.length co45)).run Try.prog w' = .ok (.string (strOfNums t291)) w' ∧ (convert 24 9 (.slice Ao51 t300.length co51)).run Try.prog w' = .ok (.string (strOfNums t300)) w' ∧ w'.cell? (ad288.add (x16_2).toNat) = some (.slice A306_0 (rd_L1 y285 x16_2).length c306_0) ∧ w'.cell? (ad288.add (x16_2).toNat) = some (.slice A308_0 (rd_L1 y285 x16_2).length c308_0)) (ds := []) #[false,false,false,false,false,false,false,false,false,false,false,false,false,false,false,false,false,false,false,false,false,false,false,false,false,false,false,false,false,false,false,false,false,false,false,false,false,false,false,false,false,false,false,false] (by kernel_rfl) rfl rfl ⟨(blk_cell BK296.out 0).trans rfl, (blk_cell BK296.out 1).trans rfl, (blk_cell BK296.out 2).trans rfl, (blk_cell BK305.out 0).trans rfl, (blk_cell BK305.out 1).trans rfl, (blk_cell BK305.out 2).trans rfl, (own_string (P := Try.prog) Try.underlying24 Try.underlying5 Try.underlying9 (Kd.own_of_R HO293.out)), (own_string (P := Try.prog) Try.underlying24 Try.underlying5 Try.underlying9 (Kd.own_of_R HO302.out)), hx306_0, hx308_0⟩ (fun hHeld => ?_); refine with_tabW kerbsuitelaw4_BoxReads.tab12 kerbsuitelaw4_BoxReads.bits12 (fun HT_ HW_ => ?_)
                    generalize w59.drew = w60 at HO_15 HL288_0 HO293 HL297_0 HO302 BK296 BK305 HB HL306_0 HL308_0 HR306_0 HR308_0 hx306_0 hx308_0 hHeld ⊢
                    refine pure_ (i := 0) (N := some 92) (v := ?_) (a' := ?_) (bo_ 44 1) rfl rfl (any_of HT_.out (by kernel_rfl)) (fun _ _ _ h => h) (Or.inl ⟨by rfl, ?_⟩) ?_ ?_
                    rotate_left; (· intro w'; go_simp; with_reducible rfl)
                    rotate_left; (· simp only [Act.put,List.setIfInBounds_toArray,List.set_cons_zero,List.set_cons_succ,i64_w,i32_w]; rfl)
                    refine pure_ (i := 2) (N := some 94) (v := ?_) (a' := ?_) (bo_ 44 5) rfl rfl (any_of HT_.out (by kernel_rfl)) (fun _ _ _ h => h) (Or.inl ⟨by rfl, ?_⟩) ?_ ?_
                    rotate_left; (· intro w'; go_simp; with_reducible rfl)
                    rotate_left; (· simp only [Act.put,List.setIfInBounds_toArray,List.set_cons_zero,List.set_cons_succ,i64_w,i32_w]; rfl)
                    refine take_ (i := 1) (N := some 93) (v := ?_) (a' := ?_) (bo_ 44 7) rfl rfl (take_ofW HT_.out HW_.out (by kernel_rfl)) (fun _ _ _ h => h) (Or.inl ⟨by rfl, ?_⟩) hHeld ?_ ?_
                    rotate_left; (· rintro w' ⟨s0, s1, s2, s3, s4, s5, s6, s7, s8, s9⟩; go_simp; with_reducible rfl)
                    rotate_left; (· simp only [Act.put,List.setIfInBounds_toArray,List.set_cons_zero,List.set_cons_succ,i64_w,i32_w]; rfl)
                    refine take_ (i := 3) (N := some 95) (v := ?_) (a' := ?_) (bo_ 44 15) rfl rfl (take_ofW HT_.out HW_.out (by kernel_rfl)) (fun _ _ _ h => h) (Or.inl ⟨by rfl, ?_⟩) hHeld ?_ ?_
                    rotate_left; (· rintro w' ⟨s0, s1, s2, s3, s4, s5, s6, s7, s8, s9⟩; go_simp; with_reducible rfl)
                    rotate_left; (· simp only [Act.put,List.setIfInBounds_toArray,List.set_cons_zero,List.set_cons_succ,i64_w,i32_w]; rfl)
                    refine pure_ (i := 4) (N := some 96) (v := ?_) (a' := ?_) (bo_ 44 31) rfl rfl (any_of HT_.out (by kernel_rfl)) (fun _ _ _ h => h) (Or.inl ⟨by rfl, ?_⟩) ?_ ?_
                    rotate_left; (· intro w'; go_simp; with_reducible rfl)
                    rotate_left; (· simp only [Act.put,List.setIfInBounds_toArray,List.set_cons_zero,List.set_cons_succ,i64_w,i32_w]; rfl)
                    refine pure_ (i := 5) (N := some 97) (v := ?_) (a' := ?_) (bo_ 44 63) rfl rfl (any_of HT_.out (by kernel_rfl)) (fun _ _ _ h => h) (Or.inl ⟨by rfl, ?_⟩) ?_ ?_
                    rotate_left; (· intro w'; go_simp; with_reducible rfl)
                    rotate_left; (· simp only [Act.put,List.setIfInBounds_toArray,List.set_cons_zero,List.set_cons_succ,i64_w,i32_w]; rfl)
                    refine pure_ (i := 6) (N := some 98) (v := ?_) (a' := ?_) (bo_ 44 127) rfl rfl (any_of HT_.out (by kernel_rfl)) (fun _ _ _ h => h) (Or.inl ⟨by rfl, ?_⟩) ?_ ?_
                    rotate_left; (· intro w'; go_simp; with_reducible rfl)
                    rotate_left; (· simp only [Act.put,List.setIfInBounds_toArray,List.set_cons_zero,List.set_cons_succ,i64_w,i32_w]; rfl)
                    refine pure_ (i := 8) (N := some 100) (v := ?_) (a' := ?_) (bo_ 44 383) rfl rfl (any_of HT_.out (by kernel_rfl)) (fun _ _ _ h => h) (Or.inl ⟨by rfl, ?_⟩) ?_ ?_
                    rotate_left; (· intro w'; go_simp; with_reducible rfl)
                    rotate_left; (· simp only [Act.put,List.setIfInBounds_toArray,List.set_cons_zero,List.set_cons_succ,i64_w,i32_w]; rfl)
                    refine take_ (i := 7) (N := some 99) (v := ?_) (a' := ?_) (bo_ 44 511) rfl rfl (take_ofW HT_.out HW_.out (by kernel_rfl)) (fun _ _ _ h => h) (Or.inl ⟨by rfl, ?_⟩) hHeld ?_ ?_
                    rotate_left; (· rintro w' ⟨s0, s1, s2, s3, s4, s5, s6, s7, s8, s9⟩; go_simp; with_reducible rfl)
                    rotate_left; (· simp only [Act.put,List.setIfInBounds_toArray,List.set_cons_zero,List.set_cons_succ,i64_w,i32_w]; rfl)
                    refine take_ (i := 9) (N := some 101) (v := ?_) (a' := ?_) (bo_ 44 1023) rfl rfl (take_ofW HT_.out HW_.out (by kernel_rfl)) (fun _ _ _ h => h) (Or.inl ⟨by rfl, ?_⟩) hHeld ?_ ?_
                    rotate_left; (· rintro w' ⟨s0, s1, s2, s3, s4, s5, s6, s7, s8, s9⟩; go_simp; with_reducible rfl)
                    rotate_left; (· simp only [Act.put,List.setIfInBounds_toArray,List.set_cons_zero,List.set_cons_succ,i64_w,i32_w]; rfl)
                    refine pure_ (i := 10) (N := some 102) (v := ?_) (a' := ?_) (bo_ 44 2047) rfl rfl (any_of HT_.out (by kernel_rfl)) (fun _ _ _ h => h) (Or.inl ⟨by rfl, ?_⟩) ?_ ?_
                    rotate_left; (· intro w'; go_simp; with_reducible rfl)
                    rotate_left; (· simp only [Act.put,List.setIfInBounds_toArray,List.set_cons_zero,List.set_cons_succ,i64_w,i32_w]; rfl)
                    refine pure_ (i := 11) (N := some 103) (v := ?_) (a' := ?_) (bo_ 44 4095) rfl rfl (any_of HT_.out (by kernel_rfl)) (fun _ _ _ h => h) (Or.inl ⟨by rfl, ?_⟩) ?_ ?_
                    rotate_left; (· intro w'; go_simp; with_reducible rfl)
                    rotate_left; (· simp only [Act.put,List.setIfInBounds_toArray,List.set_cons_zero,List.set_cons_succ,i64_w,i32_w]; rfl)
                    refine pure_ (i := 12) (N := some 104) (v := ?_) (a' := ?_) (bo_ 44 8191) rfl rfl (any_of HT_.out (by kernel_rfl)) (fun _ _ _ h => h) (Or.inl ⟨by rfl, ?_⟩) ?_ ?_
                    rotate_left; (· intro w'; go_simp; with_reducible rfl)
                    rotate_left; (· simp only [Act.put,List.setIfInBounds_toArray,List.set_cons_zero,List.set_cons_succ,i64_w,i32_w]; rfl)
                    refine pure_ (i := 13) (N := some 105) (v := ?_) (a' := ?_) (bo_ 44 16383) rfl rfl (any_of HT_.out (by kernel_rfl)) (fun _ _ _ h => h) (Or.inl ⟨by rfl, ?_⟩) ?_ ?_
                    rotate_left; (· intro w'; go_simp; with_reducible rfl)
                    rotate_left; (· simp only [Act.put,List.setIfInBounds_toArray,List.set_cons_zero,List.set_cons_succ,i64_w,i32_w]; rfl)
                    refine pure_ (i := 16) (N := some 108) (v := ?_) (a' := ?_) (bo_ 44 81919) rfl rfl (any_of HT_.out (by kernel_rfl)) (fun _ _ _ h => h) (Or.inl ⟨by rfl, ?_⟩) ?_ ?_
                    rotate_left; (· intro w'; go_simp; with_reducible rfl)
                    rotate_left; (· simp only [Act.put,List.setIfInBounds_toArray,List.set_cons_zero,List.set_cons_succ,i64_w,i32_w]; rfl)
                    refine take_ (i := 14) (N := some 106) (v := ?_) (a' := ?_) (bo_ 44 98303) rfl rfl (take_ofW HT_.out HW_.out (by kernel_rfl)) (fun _ _ _ h => h) (Or.inl ⟨by rfl, ?_⟩) hHeld ?_ ?_
                    rotate_left; (· rintro w' ⟨s0, s1, s2, s3, s4, s5, s6, s7, s8, s9⟩; go_simp; with_reducible rfl)
                    rotate_left; (· simp only [Act.put,List.setIfInBounds_toArray,List.set_cons_zero,List.set_cons_succ,i64_w,i32_w]; rfl)
                    refine take_ (i := 15) (N := some 107) (v := ?_) (a' := ?_) (bo_ 44 131071) rfl rfl (take_ofW HT_.out HW_.out (by kernel_rfl)) (fun _ _ _ h => h) (Or.inl ⟨by rfl, ?_⟩) hHeld ?_ ?_
                    rotate_left; (· rintro w' ⟨s0, s1, s2, s3, s4, s5, s6, s7, s8, s9⟩; go_simp; with_reducible rfl)
                    rotate_left; (· simp only [Act.put,List.setIfInBounds_toArray,List.set_cons_zero,List.set_cons_succ,i64_w,i32_w]; rfl)
                    refine take_ (i := 17) (N := some 109) (v := ?_) (a' := ?_) (bo_ 44 262143) rfl rfl (take_ofW HT_.out HW_.out (by kernel_rfl)) (fun _ _ _ h => h) (Or.inl ⟨by rfl, ?_⟩) hHeld ?_ ?_
                    rotate_left; (· rintro w' ⟨s0, s1, s2, s3, s4, s5, s6, s7, s8, s9⟩; go_simp; with_reducible rfl)
                    rotate_left; (· simp only [Act.put,List.setIfInBounds_toArray,List.set_cons_zero,List.set_cons_succ,i64_w,i32_w]; rfl)
                    refine take_ (i := 18) (N := some 110) (v := ?_) (a' := ?_) (bo_ 44 524287) rfl rfl (take_ofW HT_.out HW_.out (by kernel_rfl)) (fun _ _ _ h => h) (Or.inl ⟨by rfl, ?_⟩) hHeld ?_ ?_
                    rotate_left; (· rintro w' ⟨s0, s1, s2, s3, s4, s5, s6, s7, s8, s9⟩; go_simp; with_reducible rfl)
                    rotate_left; (· simp only [Act.put,List.setIfInBounds_toArray,List.set_cons_zero,List.set_cons_succ,i64_w,i32_w]; rfl)
                    refine pure_ (i := 19) (N := some 111) (v := ?_) (a' := ?_) (bo_ 44 1048575) rfl rfl (any_of HT_.out (by kernel_rfl)) (fun _ _ _ h => h) (Or.inl ⟨by rfl, ?_⟩) ?_ ?_
                    rotate_left; (· intro w'; go_simp; with_reducible rfl)
                    rotate_left; (· simp only [Act.put,List.setIfInBounds_toArray,List.set_cons_zero,List.set_cons_succ,i64_w,i32_w]; rfl)
                    refine pure_ (i := 20) (N := some 112) (v := ?_) (a' := ?_) (bo_ 44 2097151) rfl rfl (any_of HT_.out (by kernel_rfl)) (fun _ _ _ h => h) (Or.inl ⟨by rfl, ?_⟩) ?_ ?_
                    rotate_left; (· intro w'; go_simp; with_reducible rfl)
                    rotate_left; (· simp only [Act.put,List.setIfInBounds_toArray,List.set_cons_zero,List.set_cons_succ,i64_w,i32_w]; rfl)
                    refine pure_ (i := 21) (N := some 113) (v := ?_) (a' := ?_) (bo_ 44 4194303) rfl rfl (any_of HT_.out (by kernel_rfl)) (fun _ _ _ h => h) (Or.inl ⟨by rfl, ?_⟩) ?_ ?_
                    rotate_left; (· intro w'; go_simp; with_reducible rfl)
                    rotate_left; (· simp only [Act.put,List.setIfInBounds_toArray,List.set_cons_zero,List.set_cons_succ,i64_w,i32_w]; rfl)
                    refine pure_ (i := 22) (N := some 114) (v := ?_) (a' := ?_) (bo_ 44 8388607) rfl rfl (any_of HT_.out (by kernel_rfl)) (fun _ _ _ h => h) (Or.inl ⟨by rfl, ?_⟩) ?_ ?_
                    rotate_left; (· intro w'; go_simp; with_reducible rfl)
                    rotate_left; (· simp only [Act.put,List.setIfInBounds_toArray,List.set_cons_zero,List.set_cons_succ,i64_w,i32_w]; rfl)
                    refine pure_ (i := 23) (N := some 115) (v := ?_) (a' := ?_) (bo_ 44 16777215) rfl rfl (any_of HT_.out (by kernel_rfl)) (fun _ _ _ h => h) (Or.inl ⟨by rfl, ?_⟩) ?_ ?_
                    rotate_left; (· intro w'; go_simp; with_reducible rfl)
                    rotate_left; (· simp only [Act.put,List.setIfInBounds_toArray,List.set_cons_zero,List.set_cons_succ,i64_w,i32_w]; rfl)
                    refine pure_ (i := 24) (N := some 116) (v := ?_) (a' := ?_) (bo_ 44 33554431) rfl rfl (any_of HT_.out (by kernel_rfl)) (fun _ _ _ h => h) (Or.inl ⟨by rfl, ?_⟩) ?_ ?_
                    rotate_left; (· intro w'; go_simp; with_reducible rfl)
                    rotate_left; (· simp only [Act.put,List.setIfInBounds_toArray,List.set_cons_zero,List.set_cons_succ,i64_w,i32_w]; rfl)
                    refine pure_ (i := 25) (N := some 117) (v := ?_) (a' := ?_) (bo_ 44 67108863) rfl rfl (any_of HT_.out (by kernel_rfl)) (fun _ _ _ h => h) (Or.inl ⟨by rfl, ?_⟩) ?_ ?_
                    rotate_left; (· intro w'; go_simp; with_reducible rfl)
                    rotate_left; (· simp only [Act.put,List.setIfInBounds_toArray,List.set_cons_zero,List.set_cons_succ,i64_w,i32_w]; rfl)
                    refine pure_ (i := 26) (N := some 118) (v := ?_) (a' := ?_) (bo_ 44 134217727) rfl rfl (any_of HT_.out (by kernel_rfl)) (fun _ _ _ h => h) (Or.inl ⟨by rfl, ?_⟩) ?_ ?_
                    rotate_left; (· intro w'; go_simp; with_reducible rfl)
                    rotate_left; (· simp only [Act.put,List.setIfInBounds_toArray,List.set_cons_zero,List.set_cons_succ,i64_w,i32_w]; rfl)
                    refine pure_ (i := 27) (N := some 119) (v := ?_) (a' := ?_) (bo_ 44 268435455) rfl rfl (any_of HT_.out (by kernel_rfl)) (fun _ _ _ h => h) (Or.inl ⟨by rfl, ?_⟩) ?_ ?_
                    rotate_left; (· intro w'; go_simp; with_reducible rfl)
                    rotate_left; (· simp only [Act.put,List.setIfInBounds_toArray,List.set_cons_zero,List.set_cons_succ,i64_w,i32_w]; rfl)
                    refine pure_ (i := 28) (N := some 120) (v := ?_) (a' := ?_) (bo_ 44 536870911) rfl rfl (any_of HT_.out (by kernel_rfl)) (fun _ _ _ h => h) (Or.inl ⟨by rfl, ?_⟩) ?_ ?_
                    rotate_left; (· intro w'; go_simp; with_reducible rfl)
                    rotate_left; (· simp only [Act.put,List.setIfInBounds_toArray,List.set_cons_zero,List.set_cons_succ,i64_w,i32_w]; rfl)
                    refine pure_ (i := 29) (N := some 121) (v := ?_) (a' := ?_) (bo_ 44 1073741823) rfl rfl (any_of HT_.out (by kernel_rfl)) (fun _ _ _ h => h) (Or.inl ⟨by rfl, ?_⟩) ?_ ?_
                    rotate_left; (· intro w'; go_simp; with_reducible rfl)
                    rotate_left; (· simp only [Act.put,List.setIfInBounds_toArray,List.set_cons_zero,List.set_cons_succ,i64_w,i32_w]; rfl)
                    refine pure_ (i := 30) (N := some 122) (v := ?_) (a' := ?_) (bo_ 44 2147483647) rfl rfl (any_of HT_.out (by kernel_rfl)) (fun _ _ _ h => h) (Or.inl ⟨by rfl, ?_⟩) ?_ ?_
                    rotate_left; (· intro w'; go_simp; with_reducible rfl)
                    rotate_left; (· simp only [Act.put,List.setIfInBounds_toArray,List.set_cons_zero,List.set_cons_succ,i64_w,i32_w]; rfl)
                    refine pure_ (i := 31) (N := some 123) (v := ?_) (a' := ?_) (bo_ 44 4294967295) rfl rfl (any_of HT_.out (by kernel_rfl)) (fun _ _ _ h => h) (Or.inl ⟨by rfl, ?_⟩) ?_ ?_
                    rotate_left; (· intro w'; go_simp; with_reducible rfl)
                    rotate_left; (· simp only [Act.put,List.setIfInBounds_toArray,List.set_cons_zero,List.set_cons_succ,i64_w,i32_w]; rfl)
                    refine pure_ (i := 32) (N := some 124) (v := ?_) (a' := ?_) (bo_ 44 8589934591) rfl rfl (any_of HT_.out (by kernel_rfl)) (fun _ _ _ h => h) (Or.inl ⟨by rfl, ?_⟩) ?_ ?_
                    rotate_left; (· intro w'; go_simp; with_reducible rfl)
                    rotate_left; (· simp only [Act.put,List.setIfInBounds_toArray,List.set_cons_zero,List.set_cons_succ,i64_w,i32_w]; rfl)
                    refine pure_ (i := 33) (N := some 125) (v := ?_) (a' := ?_) (bo_ 44 17179869183) rfl rfl (any_of HT_.out (by kernel_rfl)) (fun _ _ _ h => h) (Or.inl ⟨by rfl, ?_⟩) ?_ ?_
                    rotate_left; (· intro w'; go_simp; with_reducible rfl)
                    rotate_left; (· simp only [Act.put,List.setIfInBounds_toArray,List.set_cons_zero,List.set_cons_succ,i64_w,i32_w]; rfl)
                    refine pure_ (i := 34) (N := some 126) (v := ?_) (a' := ?_) (bo_ 44 34359738367) rfl rfl (any_of HT_.out (by kernel_rfl)) (fun _ _ _ h => h) (Or.inl ⟨by rfl, ?_⟩) ?_ ?_
                    rotate_left; (· intro w'; go_simp; with_reducible rfl)
                    rotate_left; (· simp only [Act.put,List.setIfInBounds_toArray,List.set_cons_zero,List.set_cons_succ,i64_w,i32_w]; rfl)
                    refine pure_ (i := 37) (N := some 129) (v := ?_) (a' := ?_) (bo_ 44 171798691839) rfl rfl (any_of HT_.out (by kernel_rfl)) (fun _ _ _ h => h) (Or.inl ⟨by rfl, ?_⟩) ?_ ?_
                    rotate_left; (· intro w'; go_simp; with_reducible rfl)
                    rotate_left; (· simp only [Act.put,List.setIfInBounds_toArray,List.set_cons_zero,List.set_cons_succ,i64_w,i32_w]; rfl)
                    refine pure_ (i := 38) (N := some 130) (v := ?_) (a' := ?_) (bo_ 44 446676598783) rfl rfl (any_of HT_.out (by kernel_rfl)) (fun _ _ _ h => h) (Or.inl ⟨by rfl, ?_⟩) ?_ ?_
                    rotate_left; (· intro w'; go_simp; with_reducible rfl)
                    rotate_left; (· simp only [Act.put,List.setIfInBounds_toArray,List.set_cons_zero,List.set_cons_succ,i64_w,i32_w]; rfl)
                    refine pure_ (i := 39) (N := some 131) (v := ?_) (a' := ?_) (bo_ 44 996432412671) rfl rfl (any_of HT_.out (by kernel_rfl)) (fun _ _ _ h => h) (Or.inl ⟨by rfl, ?_⟩) ?_ ?_
                    rotate_left; (· intro w'; go_simp; with_reducible rfl)
                    rotate_left; (· simp only [Act.put,List.setIfInBounds_toArray,List.set_cons_zero,List.set_cons_succ,i64_w,i32_w]; rfl)
                    refine take_ (i := 35) (N := some 127) (v := ?_) (a' := ?_) (bo_ 44 1030792151039) rfl rfl (take_ofW HT_.out HW_.out (by kernel_rfl)) (fun _ _ _ h => h) (Or.inl ⟨by rfl, ?_⟩) hHeld ?_ ?_
                    rotate_left; (· rintro w' ⟨s0, s1, s2, s3, s4, s5, s6, s7, s8, s9⟩; go_simp; with_reducible rfl)
                    rotate_left; (· simp only [Act.put,List.setIfInBounds_toArray,List.set_cons_zero,List.set_cons_succ,i64_w,i32_w]; rfl)
                    refine take_ (i := 40) (N := some 132) (v := ?_) (a' := ?_) (bo_ 44 2130303778815) rfl rfl (take_ofW HT_.out HW_.out (by kernel_rfl)) (fun _ _ _ h => h) (Or.inl ⟨by rfl, ?_⟩) hHeld ?_ ?_
                    rotate_left; (· rintro w' ⟨s0, s1, s2, s3, s4, s5, s6, s7, s8, s9⟩; go_simp; with_reducible rfl)
                    rotate_left; (· simp only [Act.put,List.setIfInBounds_toArray,List.set_cons_zero,List.set_cons_succ,i64_w,i32_w]; rfl)
                    refine one_ (i := 36) (N := some 128) (bo_ 44 2199023255551) rfl rfl (one_of HT_.out (by kernel_rfl)) (by decide) (fun K hK => ?_)
                    refine goes_ Try.func17 (by kernel_rfl) rfl #[.slice A306_0 (rd_L1 y285 x16_2).length c306_0] (by rfl) rfl rfl (by (try simp only [List.map_toArray, List.map_cons, List.map_nil]); first | done | rfl | (simp only [List.length_drop, List.length_take]; rfl)) ?_
                    with_reducible refine (box_Is.calls k2 _ _ (rd_L1 y285 x16_2) t307 _ ?side1 ?side2 A57.out).mono ?_
                    (case side1 => repeat (first | exact ((Kd.V_reads' (by (with_reducible repeat (first | apply Kd.V_alloc | apply Kd.V_drewN | apply Kd.V_drew)); exact HL306_0.out)).2.2) | (with_reducible refine Kd.C_alloc ?_ _) | (with_reducible refine Kd.C_drewN ?_ _) | (with_reducible refine Kd.C_drew ?_)))
                    (case side2 => exact HC306_0.out)
                    rintro e w64 ⟨rfl, hb⟩
                    have HS8_ := (hb.cell (World.block_lt_of_cell? _ _ (hHeld.2.2.2.2.2.2.2.2.1))).trans (hHeld.2.2.2.2.2.2.2.2.1)
                    have HS9_ := (hb.cell (World.block_lt_of_cell? _ _ (hHeld.2.2.2.2.2.2.2.2.2))).trans (hHeld.2.2.2.2.2.2.2.2.2)
                    refine ⟨_, rfl, ?_⟩
                    have n0_ := Aside0.mk (Kd.N_below (by (with_reducible repeat (first | apply Kd.N_alloc | apply Kd.N_drewN | apply Kd.N_drew)); exact HO_15.out) hb)
                    have n1_ := Aside0.mk (Kd.V_below (by (with_reducible repeat (first | apply Kd.V_alloc | apply Kd.V_drewN | apply Kd.V_drew)); exact HL288_0.out) hb)
                    have n2_ := Aside0.mk (Kd.R_below (by (with_reducible repeat (first | apply Kd.R_alloc | apply Kd.R_drewN | apply Kd.R_drew)); exact HO293.out) hb)
                    have n3_ := Aside0.mk (Kd.V_below (by (with_reducible repeat (first | apply Kd.V_alloc | apply Kd.V_drewN | apply Kd.V_drew)); exact HL297_0.out) hb)
                    have n4_ := Aside0.mk (Kd.R_below (by (with_reducible repeat (first | apply Kd.R_alloc | apply Kd.R_drewN | apply Kd.R_drew)); exact HO302.out) hb)
                    have n5_ := Aside0.mk (Kd.V_below (by (with_reducible repeat (first | apply Kd.V_alloc | apply Kd.V_drewN | apply Kd.V_drew)); exact HL306_0.out) hb)
                    have n6_ := Aside0.mk (blk_below (g := gb296) (o := .cells #[.int .i64 t289, .int .u64 t290, .slice Ao45 t291.length co45] 37 (0, 0)) (by (with_reducible repeat (first | refine blk_drewN ?_ _ | refine blk_drew ?_ | refine blk_alloc ?_ _)); exact BK296.out) hb)
                    have n7_ := Aside0.mk (blk_below (g := gb305) (o := .cells #[.int .i64 t298, .int .u64 t299, .slice Ao51 t300.length co51] 37 (0, 0)) (by (with_reducible repeat (first | refine blk_drewN ?_ _ | refine blk_drew ?_ | refine blk_alloc ?_ _)); exact BK305.out) hb)
                    have n8_ := Aside0.mk (Kd.C_below ((Kd.V_reads' (by (with_reducible repeat (first | apply Kd.V_alloc | apply Kd.V_drewN | apply Kd.V_drew)); exact HL306_0.out)).2.2) hb)
                    have n9_ := Aside0.mk (below_step (by repeat (first | (with_reducible first | exact HB.out | apply below_alloc | apply pw_below_drewN | apply below_drew1 | refine below_set ?_ GE296.out | refine below_set ?_ GE305.out) | exact HB.out)) hb)
                    clear HO_15
                    clear HL288_0
                    clear HO293
                    clear HL297_0
                    clear HO302
                    clear HL306_0
                    clear BK296
                    clear BK305
                    clear HR306_0
                    clear HB
                    have HO_15 := n0_
                    have HL288_0 := n1_
                    have HO293 := n2_
                    have HL297_0 := n3_
                    have HO302 := n4_
                    have HL306_0 := n5_
                    have BK296 := n6_
                    have BK305 := n7_
                    have HR306_0 := n8_
                    have HB := n9_
                    clear n0_ n1_ n2_ n3_ n4_ n5_ n6_ n7_ n8_ n9_
                    (try clear hb)
                    (try clear hb2)
                    (try clear hk)
                    (try clear hi)
                    refine hK.out _ _ ⟨(blk_cell BK296.out 0).trans rfl, (blk_cell BK296.out 1).trans rfl, (blk_cell BK296.out 2).trans rfl, (blk_cell BK305.out 0).trans rfl, (blk_cell BK305.out 1).trans rfl, (blk_cell BK305.out 2).trans rfl, (own_string (P := Try.prog) Try.underlying24 Try.underlying5 Try.underlying9 (Kd.own_of_R HO293.out)), (own_string (P := Try.prog) Try.underlying24 Try.underlying5 Try.underlying9 (Kd.own_of_R HO302.out)), HS8_, HS9_⟩ (fun hHeld => ?_)
                    clear hK K
                    refine norm_ (a' := ?_) ?_ ?_
                    rotate_left; (· show Act.put _ (some 128) _ = _; simp only [Act.put,List.setIfInBounds_toArray,List.set_cons_zero,List.set_cons_succ,i64_w,i32_w]; rfl)
                    refine one_ (i := 41) (N := some 133) (bo_ 44 4398046511103) rfl rfl (one_of HT_.out (by kernel_rfl)) (by decide) (fun K hK => ?_)
                    refine goes_ Try.func18 (by kernel_rfl) rfl #[.slice A306_0 (rd_L1 y285 x16_2).length c306_0] (by rfl) rfl rfl (by (try simp only [List.map_toArray, List.map_cons, List.map_nil]); first | done | rfl | (simp only [List.length_drop, List.length_take]; rfl)) ?_
                    with_reducible refine (kerbsuiteref4_Is.calls k2 _ _ (rd_L1 y285 x16_2) t309 _ ?side1 ?side2 A58.out).mono ?_
                    (case side1 => repeat (first | exact ((Kd.V_reads' (by (with_reducible repeat (first | apply Kd.V_alloc | apply Kd.V_drewN | apply Kd.V_drew)); exact HL306_0.out)).2.2) | (with_reducible refine Kd.C_alloc ?_ _) | (with_reducible refine Kd.C_drewN ?_ _) | (with_reducible refine Kd.C_drew ?_)))
                    (case side2 => exact HC306_0.out)
                    rintro e w65 ⟨rfl, hb⟩
                    have HS8_ := (hb.cell (World.block_lt_of_cell? _ _ (hHeld.2.2.2.2.2.2.2.2.1))).trans (hHeld.2.2.2.2.2.2.2.2.1)
                    have HS9_ := (hb.cell (World.block_lt_of_cell? _ _ (hHeld.2.2.2.2.2.2.2.2.2))).trans (hHeld.2.2.2.2.2.2.2.2.2)
                    refine ⟨_, rfl, ?_⟩
                    have n0_ := Aside0.mk (Kd.N_below (by (with_reducible repeat (first | apply Kd.N_alloc | apply Kd.N_drewN | apply Kd.N_drew)); exact HO_15.out) hb)
                    have n1_ := Aside0.mk (Kd.V_below (by (with_reducible repeat (first | apply Kd.V_alloc | apply Kd.V_drewN | apply Kd.V_drew)); exact HL288_0.out) hb)
                    have n2_ := Aside0.mk (Kd.R_below (by (with_reducible repeat (first | apply Kd.R_alloc | apply Kd.R_drewN | apply Kd.R_drew)); exact HO293.out) hb)
                    have n3_ := Aside0.mk (Kd.V_below (by (with_reducible repeat (first | apply Kd.V_alloc | apply Kd.V_drewN | apply Kd.V_drew)); exact HL297_0.out) hb)
                    have n4_ := Aside0.mk (Kd.R_below (by (with_reducible repeat (first | apply Kd.R_alloc | apply Kd.R_drewN | apply Kd.R_drew)); exact HO302.out) hb)
                    have n5_ := Aside0.mk (Kd.V_below (by (with_reducible repeat (first | apply Kd.V_alloc | apply Kd.V_drewN | apply Kd.V_drew)); exact HL306_0.out) hb)
                    have n6_ := Aside0.mk (Kd.V_below (by (with_reducible repeat (first | apply Kd.V_alloc | apply Kd.V_drewN | apply Kd.V_drew)); exact HL306_0.out) hb)
                    have n7_ := Aside0.mk (blk_below (g := gb296) (o := .cells #[.int .i64 t289, .int .u64 t290, .slice Ao45 t291.length co45] 37 (0, 0)) (by (with_reducible repeat (first | refine blk_drewN ?_ _ | refine blk_drew ?_ | refine blk_alloc ?_ _)); exact BK296.out) hb)
                    have n8_ := Aside0.mk (blk_below (g := gb305) (o := .cells #[.int .i64 t298, .int .u64 t299, .slice Ao51 t300.length co51] 37 (0, 0)) (by (with_reducible repeat (first | refine blk_drewN ?_ _ | refine blk_drew ?_ | refine blk_alloc ?_ _)); exact BK305.out) hb)
                    have n9_ := Aside0.mk (Kd.C_below ((Kd.V_reads' (by (with_reducible repeat (first | apply Kd.V_alloc | apply Kd.V_drewN | apply Kd.V_drew)); exact HL306_0.out)).2.2) hb)
                    have n10_ := Aside0.mk (Kd.C_below ((Kd.V_reads' (by (with_reducible repeat (first | apply Kd.V_alloc | apply Kd.V_drewN | apply Kd.V_drew)); exact HL306_0.out)).2.2) hb)
                    have n11_ := Aside0.mk (below_step (by repeat (first | (with_reducible first | exact HB.out | apply below_alloc | apply pw_below_drewN | apply below_drew1 | refine below_set ?_ GE296.out | refine below_set ?_ GE305.out) | exact HB.out)) hb)
                    clear HO_15
                    clear HL288_0
                    clear HO293
                    clear HL297_0
                    clear HO302
                    clear HL306_0
                    clear HL308_0
                    clear BK296
                    clear BK305
                    clear HR306_0
                    clear HR308_0
                    clear HB
                    have HO_15 := n0_
                    have HL288_0 := n1_
                    have HO293 := n2_
                    have HL297_0 := n3_
                    have HO302 := n4_
                    have HL306_0 := n5_
                    have HL308_0 := n6_
                    have BK296 := n7_
                    have BK305 := n8_
                    have HR306_0 := n9_
                    have HR308_0 := n10_
                    have HB := n11_
                    clear n0_ n1_ n2_ n3_ n4_ n5_ n6_ n7_ n8_ n9_ n10_ n11_
                    (try clear hb)
                    (try clear hb2)
                    (try clear hk)
                    (try clear hi)
                    refine hK.out _ _ ⟨(blk_cell BK296.out 0).trans rfl, (blk_cell BK296.out 1).trans rfl, (blk_cell BK296.out 2).trans rfl, (blk_cell BK305.out 0).trans rfl, (blk_cell BK305.out 1).trans rfl, (blk_cell BK305.out 2).trans rfl, (own_string (P := Try.prog) Try.underlying24 Try.underlying5 Try.underlying9 (Kd.own_of_R HO293.out)), (own_string (P := Try.prog) Try.underlying24 Try.underlying5 Try.underlying9 (Kd.own_of_R HO302.out)), HS8_, HS9_⟩ (fun hHeld => ?_)
                    clear hK K
                    refine norm_ (a' := ?_) ?_ ?_
                    rotate_left; (· show Act.put _ (some 133) _ = _; simp only [Act.put,List.setIfInBounds_toArray,List.set_cons_zero,List.set_cons_succ,i64_w,i32_w]; rfl)
                    refine pure_ (i := 42) (N := some 134) (v := ?_) (a' := ?_) (bo_ 44 8796093022207) rfl rfl (any_of HT_.out (by kernel_rfl)) (fun _ _ _ h => h) (Or.inl ⟨by rfl, ?_⟩) ?_ ?_
                    rotate_left; (· intro w'; go_simp; with_reducible rfl)
                    rotate_left; (· simp only [Act.put,List.setIfInBounds_toArray,List.set_cons_zero,List.set_cons_succ,i64_w,i32_w]; rfl)
                    refine pure_ (i := 43) (N := some 135) (v := ?_) (a' := ?_) (bo_ 44 17592186044415) rfl rfl (any_of HT_.out (by kernel_rfl)) (fun _ _ _ h => h) (Or.inl ⟨by rfl, ?_⟩) ?_ ?_
                    rotate_left; (· intro w'; go_simp; with_reducible rfl)
                    rotate_left; (· simp only [Act.put,List.setIfInBounds_toArray,List.set_cons_zero,List.set_cons_succ,i64_w,i32_w]; rfl)
                    refine done_ (done_of HT_.out (by kernel_rfl)) ?_
                    try go_wp2
                    go_meet
                    case rel => exact ⟨_, ((t307 != t309)), (by first | rfl | (simp; done) | (simp [*]; done)), H', ⟨by have := HJ8.out; have := HK2.out; first | omega | exact Nat.le_refl _⟩, ⟨by (with_reducible repeat (first | apply Kd.N_alloc | apply Kd.N_drewN | apply Kd.N_drew)); exact HO_15.out⟩, ⟨by (with_reducible repeat (first | apply Kd.R_alloc | apply Kd.R_drewN | apply Kd.R_drew)); exact HO293.out⟩, ⟨by (with_reducible repeat (first | apply Kd.R_alloc | apply Kd.R_drewN | apply Kd.R_drew)); exact HO302.out⟩, ⟨by (with_reducible repeat (first | refine blk_drewN ?_ _ | refine blk_drew ?_ | refine blk_alloc ?_ _)); exact BK296.out⟩, ⟨by (with_reducible repeat (first | refine blk_drewN ?_ _ | refine blk_drew ?_ | refine blk_alloc ?_ _)); exact BK305.out⟩, ⟨by repeat (first | (with_reducible first | exact HB.out | apply below_alloc | apply pw_below_drewN | apply below_drew1 | refine below_set ?_ GE296.out | refine below_set ?_ GE305.out) | exact HB.out)⟩⟩
                   ·rw [if_neg c56] at H
                    have c56b0 : (t295 == t304) = false := beq_eq_false_iff_ne.mpr c56
                    have c56b1 : (t295 != t304) = true := bne_iff_ne.mpr c56
                    have H' := Aside0.mk H
                    clear H
                    try go_wp2
                    have n0_ : Aside0 (Kd.N (Kd.slice 5 (Kd.int .u8)) 24 (((w48.setCell ⟨gb305, 0, none⟩ (.int .i64 t298)).setCell ⟨gb305, 1, none⟩ (.int .u64 t299)).setCell ⟨gb305, 2, none⟩ (.slice Ao51 t300.length co51)) w.heap.size (fun k_ => (P0_ k_ ∨ w.heap.size ≤ k_) ∧ some k_ ≠ (.slice Ao45 t291.length co45 : Value).ownBlock ∧ some k_ ≠ (.slice Ao51 t300.length co51 : Value).ownBlock ∧ k_ ≠ gb296 ∧ k_ ≠ gb305) (.slice (some ad288) y285.length co41) y285) := ⟨by (with_reducible repeat (first | apply Kd.N_alloc | apply Kd.N_drewN | apply Kd.N_drew)); exact Kd.N_mono (Kd.N_far (p := ⟨gb305, 2, none⟩) (Kd.N_far (p := ⟨gb305, 1, none⟩) (Kd.N_far (p := ⟨gb305, 0, none⟩) (Kd.N_mono HO_15.out (fun k_ hk => (⟨hk, hk.2⟩ : _ ∧ k_ ≠ gb305))) (fun _ hk => hk.2) (.int .i64 t298)) (fun _ hk => hk.2) (.int .u64 t299)) (fun _ hk => hk.2) (.slice Ao51 t300.length co51)) (fun _ hk => ⟨hk.1.1.1.1, ⟨hk.1.1.1.2.1, ⟨hk.1.1.2, ⟨hk.1.1.1.2.2, hk.1.2⟩⟩⟩⟩)⟩
                    have n1_ : Aside0 (Kd.V (Kd.int .u8) 5 (((w48.setCell ⟨gb305, 0, none⟩ (.int .i64 t298)).setCell ⟨gb305, 1, none⟩ (.int .u64 t299)).setCell ⟨gb305, 2, none⟩ (.slice Ao51 t300.length co51)) w.heap.size (fun k_ => (P0_ k_ ∨ w.heap.size ≤ k_) ∧ some k_ ≠ (.slice (some ad288) y285.length co41 : Value).ownBlock ∧ some k_ ≠ (.slice Ao45 t291.length co45 : Value).ownBlock ∧ some k_ ≠ (.slice Ao51 t300.length co51 : Value).ownBlock ∧ k_ ≠ gb296 ∧ k_ ≠ gb305) (.slice A288_0 (rd_L1 y285 x16_2).length c288_0) (rd_L1 y285 x16_2)) := ⟨by (with_reducible repeat (first | apply Kd.V_alloc | apply Kd.V_drewN | apply Kd.V_drew)); exact Kd.V_mono (Kd.V_far (p := ⟨gb305, 2, none⟩) (Kd.V_far (p := ⟨gb305, 1, none⟩) (Kd.V_far (p := ⟨gb305, 0, none⟩) (Kd.V_mono HL288_0.out (fun k_ hk => (⟨hk, hk.2⟩ : _ ∧ k_ ≠ gb305))) (fun _ hk => hk.2) (.int .i64 t298)) (fun _ hk => hk.2) (.int .u64 t299)) (fun _ hk => hk.2) (.slice Ao51 t300.length co51)) (fun _ hk => ⟨hk.1.1.1.1, ⟨hk.1.1.1.2.1, ⟨hk.1.1.1.2.2.1, ⟨hk.1.1.2, ⟨hk.1.1.1.2.2.2, hk.1.2⟩⟩⟩⟩⟩)⟩
                    have n2_ : Aside0 (Kd.R (Kd.int .u8) 5 (((w48.setCell ⟨gb305, 0, none⟩ (.int .i64 t298)).setCell ⟨gb305, 1, none⟩ (.int .u64 t299)).setCell ⟨gb305, 2, none⟩ (.slice Ao51 t300.length co51)) w.heap.size (fun k_ => (w.heap.size ≤ k_) ∧ some k_ ≠ (.slice Ao51 t300.length co51 : Value).ownBlock) (.slice Ao45 t291.length co45) t291) := ⟨by (with_reducible repeat (first | apply Kd.R_alloc | apply Kd.R_drewN | apply Kd.R_drew)); exact Kd.R_mono (Kd.R_far (p := ⟨gb305, 2, none⟩) (Kd.R_far (p := ⟨gb305, 1, none⟩) (Kd.R_far (p := ⟨gb305, 0, none⟩) (Kd.R_types HO293.out BK305.out (by decide)) (fun _ hk => hk.2) (.int .i64 t298)) (fun _ hk => hk.2) (.int .u64 t299)) (fun _ hk => hk.2) (.slice Ao51 t300.length co51)) (fun _ hk => ⟨hk.1.1, hk.1.2⟩)⟩
                    have n3_ : Aside0 (Kd.V (Kd.int .u8) 5 (((w48.setCell ⟨gb305, 0, none⟩ (.int .i64 t298)).setCell ⟨gb305, 1, none⟩ (.int .u64 t299)).setCell ⟨gb305, 2, none⟩ (.slice Ao51 t300.length co51)) w.heap.size (fun k_ => (P0_ k_ ∨ w.heap.size ≤ k_) ∧ some k_ ≠ (.slice (some ad288) y285.length co41 : Value).ownBlock ∧ some k_ ≠ (.slice Ao45 t291.length co45 : Value).ownBlock ∧ some k_ ≠ (.slice Ao51 t300.length co51 : Value).ownBlock ∧ k_ ≠ gb296 ∧ k_ ≠ gb305) (.slice A297_0 (rd_L1 y285 x16_2).length c297_0) (rd_L1 y285 x16_2)) := ⟨by (with_reducible repeat (first | apply Kd.V_alloc | apply Kd.V_drewN | apply Kd.V_drew)); exact Kd.V_mono (Kd.V_far (p := ⟨gb305, 2, none⟩) (Kd.V_far (p := ⟨gb305, 1, none⟩) (Kd.V_far (p := ⟨gb305, 0, none⟩) (Kd.V_mono HL297_0.out (fun k_ hk => (⟨hk, hk.2⟩ : _ ∧ k_ ≠ gb305))) (fun _ hk => hk.2) (.int .i64 t298)) (fun _ hk => hk.2) (.int .u64 t299)) (fun _ hk => hk.2) (.slice Ao51 t300.length co51)) (fun _ hk => ⟨hk.1.1.1.1.1, ⟨hk.1.1.1.2, ⟨hk.1.1.1.1.2.1, ⟨hk.1.1.2, ⟨hk.1.1.1.1.2.2, hk.1.2⟩⟩⟩⟩⟩)⟩
                    have n4_ : Aside0 (Kd.R (Kd.int .u8) 5 (((w48.setCell ⟨gb305, 0, none⟩ (.int .i64 t298)).setCell ⟨gb305, 1, none⟩ (.int .u64 t299)).setCell ⟨gb305, 2, none⟩ (.slice Ao51 t300.length co51)) w.heap.size (fun k_ => (w.heap.size ≤ k_) ∧ some k_ ≠ (.slice Ao45 t291.length co45 : Value).ownBlock) (.slice Ao51 t300.length co51) t300) := ⟨by (with_reducible repeat (first | apply Kd.R_alloc | apply Kd.R_drewN | apply Kd.R_drew)); exact Kd.R_mono (Kd.R_far (p := ⟨gb305, 2, none⟩) (Kd.R_far (p := ⟨gb305, 1, none⟩) (Kd.R_far (p := ⟨gb305, 0, none⟩) (Kd.R_types HO302.out BK305.out (by decide)) (fun _ hk => hk.2) (.int .i64 t298)) (fun _ hk => hk.2) (.int .u64 t299)) (fun _ hk => hk.2) (.slice Ao51 t300.length co51)) (fun _ hk => ⟨hk.1.1.1, hk.1.2⟩)⟩
                    have n5_ : Aside0 ((((w48.setCell ⟨gb305, 0, none⟩ (.int .i64 t298)).setCell ⟨gb305, 1, none⟩ (.int .u64 t299)).setCell ⟨gb305, 2, none⟩ (.slice Ao51 t300.length co51)).heap[gb296]? = some (.cells #[.int .i64 t289, .int .u64 t290, .slice Ao45 t291.length co45] 37 (0, 0))) := ⟨by (with_reducible repeat (first | refine blk_drewN ?_ _ | refine blk_drew ?_ | refine blk_alloc ?_ _)); refine blk_far ?_ NB296_305.out _; (with_reducible repeat (first | refine blk_drewN ?_ _ | refine blk_drew ?_ | refine blk_alloc ?_ _)); refine blk_far ?_ NB296_305.out _; (with_reducible repeat (first | refine blk_drewN ?_ _ | refine blk_drew ?_ | refine blk_alloc ?_ _)); refine blk_far ?_ NB296_305.out _; (with_reducible repeat (first | refine blk_drewN ?_ _ | refine blk_drew ?_ | refine blk_alloc ?_ _)); exact BK296.out⟩
                    have n6_ : Aside0 ((((w48.setCell ⟨gb305, 0, none⟩ (.int .i64 t298)).setCell ⟨gb305, 1, none⟩ (.int .u64 t299)).setCell ⟨gb305, 2, none⟩ (.slice Ao51 t300.length co51)).heap[gb305]? = some (.cells #[.int .i64 t298, .int .u64 t299, .slice Ao51 t300.length co51] 37 (0, 0))) := ⟨by (with_reducible repeat (first | refine blk_drewN ?_ _ | refine blk_drew ?_ | refine blk_alloc ?_ _)); refine blk_put (cs := #[.int .i64 t298, .int .u64 t299, .slice none 0 0]) ?_ 2 _ rfl; (with_reducible repeat (first | refine blk_drewN ?_ _ | refine blk_drew ?_ | refine blk_alloc ?_ _)); refine blk_put (cs := #[.int .i64 t298, .int .u64 0, .slice none 0 0]) ?_ 1 _ rfl; (with_reducible repeat (first | refine blk_drewN ?_ _ | refine blk_drew ?_ | refine blk_alloc ?_ _)); refine blk_put (cs := #[.int .i64 0, .int .u64 0, .slice none 0 0]) ?_ 0 _ rfl; (with_reducible repeat (first | refine blk_drewN ?_ _ | refine blk_drew ?_ | refine blk_alloc ?_ _)); exact BK305.out⟩
                    have n7_ : Aside0 (Below w.heap.size w (((w48.setCell ⟨gb305, 0, none⟩ (.int .i64 t298)).setCell ⟨gb305, 1, none⟩ (.int .u64 t299)).setCell ⟨gb305, 2, none⟩ (.slice Ao51 t300.length co51))) := ⟨by repeat (first | (with_reducible first | exact HB.out | apply below_alloc | apply pw_below_drewN | apply below_drew1 | refine below_set ?_ GE296.out | refine below_set ?_ GE305.out) | exact HB.out)⟩
                    (try clear HO_15)
                    (try clear HL288_0)
                    (try clear HO293)
                    (try clear HL297_0)
                    (try clear HO302)
                    (try clear BK296)
                    (try clear BK305)
                    (try clear HB)
                    generalize (((w48.setCell ⟨gb305, 0, none⟩ (.int .i64 t298)).setCell ⟨gb305, 1, none⟩ (.int .u64 t299)).setCell ⟨gb305, 2, none⟩ (.slice Ao51 t300.length co51)) = w66 at n0_ n1_ n2_ n3_ n4_ n5_ n6_ n7_ ⊢
                    have HO_15 := n0_
                    have HL288_0 := n1_
                    have HO293 := n2_
                    have HL297_0 := n3_
                    have HO302 := n4_
                    have BK296 := n5_
                    have BK305 := n6_
                    have HB := n7_
                    clear n0_ n1_ n2_ n3_ n4_ n5_ n6_ n7_
                    have n0_ := Aside0.mk (Kd.N_drew HO_15.out)
                    have n1_ := Aside0.mk (Kd.V_drew HL288_0.out)
                    have n2_ := Aside0.mk (Kd.R_drew HO293.out)
                    have n3_ := Aside0.mk (Kd.V_drew HL297_0.out)
                    have n4_ := Aside0.mk (Kd.R_drew HO302.out)
                    have n5_ := Aside0.mk (blk_drew BK296.out)
                    have n6_ := Aside0.mk (blk_drew BK305.out)
                    have n7_ := Aside0.mk (below_drew1 HB.out)
                    clear HO_15
                    clear HL288_0
                    clear HO293
                    clear HL297_0
                    clear HO302
                    clear BK296
                    clear BK305
                    clear HB
                    have HO_15 := n0_
                    have HL288_0 := n1_
                    have HO293 := n2_
                    have HL297_0 := n3_
                    have HO302 := n4_
                    have BK296 := n5_
                    have BK305 := n6_
                    have HB := n7_
                    clear n0_ n1_ n2_ n3_ n4_ n5_ n6_ n7_
                    refine start_ (n := 44) (S := fun w' => w'.cell? ⟨gb296, 0, none⟩ = some (.int .i64 t289) ∧ w'.cell? ⟨gb296, 1, none⟩ = some (.int .u64 t290) ∧ w'.cell? ⟨gb296, 2, none⟩ = some (.slice Ao45 t291.length co45) ∧ w'.cell? ⟨gb305, 0, none⟩ = some (.int .i64 t298) ∧ w'.cell? ⟨gb305, 1, none⟩ = some (.int .u64 t299) ∧ w'.cell? ⟨gb305, 2, none⟩ = some (.slice Ao51 t300.length co51) ∧ (convert 24 9 (.slice Ao45 t291.length co45)).run Try.prog w' = .ok (.string (strOfNums t291)) w' ∧ (convert 24 9 (.slice Ao51 t300.length co51)).run Try.prog w' = .ok (.string (strOfNums t300)) w') (ds := []) #[false,false,false,false,false,false,false,false,false,false,false,false,false,false,false,false,false,false,false,false,false,false,false,false,false,false,false,false,false,false,false,false,false,false,false,false,false,false,false,false,false,false,false,false] (by kernel_rfl) rfl rfl ⟨(blk_cell BK296.out 0).trans rfl, (blk_cell BK296.out 1).trans rfl, (blk_cell BK296.out 2).trans rfl, (blk_cell BK305.out 0).trans rfl, (blk_cell BK305.out 1).trans rfl, (blk_cell BK305.out 2).trans rfl, (own_string (P := Try.prog) Try.underlying24 Try.underlying5 Try.underlying9 (Kd.own_of_R HO293.out)), (own_string (P := Try.prog) Try.underlying24 Try.underlying5 Try.underlying9 (Kd.own_of_R HO302.out))⟩ (fun hHeld => ?_); refine with_tabW kerbsuitelaw4_BoxReads.tab12 kerbsuitelaw4_BoxReads.bits12 (fun HT_ HW_ => ?_)
                    generalize w66.drew = w67 at HO_15 HL288_0 HO293 HL297_0 HO302 BK296 BK305 HB hHeld ⊢
                    refine pure_ (i := 0) (N := some 92) (v := ?_) (a' := ?_) (bo_ 44 1) rfl rfl (any_of HT_.out (by kernel_rfl)) (fun _ _ _ h => h) (Or.inl ⟨by rfl, ?_⟩) ?_ ?_
                    rotate_left; (· intro w'; go_simp; with_reducible rfl)
                    rotate_left; (· simp only [Act.put,List.setIfInBounds_toArray,List.set_cons_zero,List.set_cons_succ,i64_w,i32_w]; rfl)
                    refine pure_ (i := 2) (N := some 94) (v := ?_) (a' := ?_) (bo_ 44 5) rfl rfl (any_of HT_.out (by kernel_rfl)) (fun _ _ _ h => h) (Or.inl ⟨by rfl, ?_⟩) ?_ ?_
                    rotate_left; (· intro w'; go_simp; with_reducible rfl)
                    rotate_left; (· simp only [Act.put,List.setIfInBounds_toArray,List.set_cons_zero,List.set_cons_succ,i64_w,i32_w]; rfl)
                    refine take_ (i := 1) (N := some 93) (v := ?_) (a' := ?_) (bo_ 44 7) rfl rfl (take_ofW HT_.out HW_.out (by kernel_rfl)) (fun _ _ _ h => h) (Or.inl ⟨by rfl, ?_⟩) hHeld ?_ ?_
                    rotate_left; (· rintro w' ⟨s0, s1, s2, s3, s4, s5, s6, s7⟩; go_simp; with_reducible rfl)
                    rotate_left; (· simp only [Act.put,List.setIfInBounds_toArray,List.set_cons_zero,List.set_cons_succ,i64_w,i32_w]; rfl)
                    refine take_ (i := 3) (N := some 95) (v := ?_) (a' := ?_) (bo_ 44 15) rfl rfl (take_ofW HT_.out HW_.out (by kernel_rfl)) (fun _ _ _ h => h) (Or.inl ⟨by rfl, ?_⟩) hHeld ?_ ?_
                    rotate_left; (· rintro w' ⟨s0, s1, s2, s3, s4, s5, s6, s7⟩; go_simp; with_reducible rfl)
                    rotate_left; (· simp only [Act.put,List.setIfInBounds_toArray,List.set_cons_zero,List.set_cons_succ,i64_w,i32_w]; rfl)
                    refine pure_ (i := 4) (N := some 96) (v := ?_) (a' := ?_) (bo_ 44 31) rfl rfl (any_of HT_.out (by kernel_rfl)) (fun _ _ _ h => h) (Or.inl ⟨by rfl, ?_⟩) ?_ ?_
                    rotate_left; (· intro w'; go_simp; with_reducible rfl)
                    rotate_left; (· simp only [Act.put,List.setIfInBounds_toArray,List.set_cons_zero,List.set_cons_succ,i64_w,i32_w]; rfl)
                    refine pure_ (i := 5) (N := some 97) (v := ?_) (a' := ?_) (bo_ 44 63) rfl rfl (any_of HT_.out (by kernel_rfl)) (fun _ _ _ h => h) (Or.inl ⟨by rfl, ?_⟩) ?_ ?_
                    rotate_left; (· intro w'; go_simp; with_reducible rfl)
                    rotate_left; (· simp only [Act.put,List.setIfInBounds_toArray,List.set_cons_zero,List.set_cons_succ,i64_w,i32_w]; rfl)
                    refine pure_ (i := 6) (N := some 98) (v := ?_) (a' := ?_) (bo_ 44 127) rfl rfl (any_of HT_.out (by kernel_rfl)) (fun _ _ _ h => h) (Or.inl ⟨by rfl, ?_⟩) ?_ ?_
                    rotate_left; (· intro w'; go_simp; with_reducible rfl)
                    rotate_left; (· simp only [Act.put,List.setIfInBounds_toArray,List.set_cons_zero,List.set_cons_succ,i64_w,i32_w]; rfl)
                    refine pure_ (i := 8) (N := some 100) (v := ?_) (a' := ?_) (bo_ 44 383) rfl rfl (any_of HT_.out (by kernel_rfl)) (fun _ _ _ h => h) (Or.inl ⟨by rfl, ?_⟩) ?_ ?_
                    rotate_left; (· intro w'; go_simp; with_reducible rfl)
                    rotate_left; (· simp only [Act.put,List.setIfInBounds_toArray,List.set_cons_zero,List.set_cons_succ,i64_w,i32_w]; rfl)
                    refine take_ (i := 7) (N := some 99) (v := ?_) (a' := ?_) (bo_ 44 511) rfl rfl (take_ofW HT_.out HW_.out (by kernel_rfl)) (fun _ _ _ h => h) (Or.inl ⟨by rfl, ?_⟩) hHeld ?_ ?_
                    rotate_left; (· rintro w' ⟨s0, s1, s2, s3, s4, s5, s6, s7⟩; go_simp; with_reducible rfl)
                    rotate_left; (· simp only [Act.put,List.setIfInBounds_toArray,List.set_cons_zero,List.set_cons_succ,i64_w,i32_w]; rfl)
                    refine take_ (i := 9) (N := some 101) (v := ?_) (a' := ?_) (bo_ 44 1023) rfl rfl (take_ofW HT_.out HW_.out (by kernel_rfl)) (fun _ _ _ h => h) (Or.inl ⟨by rfl, ?_⟩) hHeld ?_ ?_
                    rotate_left; (· rintro w' ⟨s0, s1, s2, s3, s4, s5, s6, s7⟩; go_simp; with_reducible rfl)
                    rotate_left; (· simp only [Act.put,List.setIfInBounds_toArray,List.set_cons_zero,List.set_cons_succ,i64_w,i32_w]; rfl)
                    refine pure_ (i := 10) (N := some 102) (v := ?_) (a' := ?_) (bo_ 44 2047) rfl rfl (any_of HT_.out (by kernel_rfl)) (fun _ _ _ h => h) (Or.inl ⟨by rfl, ?_⟩) ?_ ?_
                    rotate_left; (· intro w'; go_simp; with_reducible rfl)
                    rotate_left; (· simp only [Act.put,List.setIfInBounds_toArray,List.set_cons_zero,List.set_cons_succ,i64_w,i32_w]; rfl)
                    refine pure_ (i := 11) (N := some 103) (v := ?_) (a' := ?_) (bo_ 44 4095) rfl rfl (any_of HT_.out (by kernel_rfl)) (fun _ _ _ h => h) (Or.inl ⟨by rfl, ?_⟩) ?_ ?_
                    rotate_left; (· intro w'; go_simp; with_reducible rfl)
                    rotate_left; (· simp only [Act.put,List.setIfInBounds_toArray,List.set_cons_zero,List.set_cons_succ,i64_w,i32_w]; rfl)
                    refine pure_ (i := 12) (N := some 104) (v := ?_) (a' := ?_) (bo_ 44 8191) rfl rfl (any_of HT_.out (by kernel_rfl)) (fun _ _ _ h => h) (Or.inl ⟨by rfl, ?_⟩) ?_ ?_
                    rotate_left; (· intro w'; go_simp; with_reducible rfl)
                    rotate_left; (· simp only [Act.put,List.setIfInBounds_toArray,List.set_cons_zero,List.set_cons_succ,i64_w,i32_w]; rfl)
                    refine pure_ (i := 13) (N := some 105) (v := ?_) (a' := ?_) (bo_ 44 16383) rfl rfl (any_of HT_.out (by kernel_rfl)) (fun _ _ _ h => h) (Or.inl ⟨by rfl, ?_⟩) ?_ ?_
                    rotate_left; (· intro w'; go_simp; with_reducible rfl)
                    rotate_left; (· simp only [Act.put,List.setIfInBounds_toArray,List.set_cons_zero,List.set_cons_succ,i64_w,i32_w]; rfl)
                    refine pure_ (i := 16) (N := some 108) (v := ?_) (a' := ?_) (bo_ 44 81919) rfl rfl (any_of HT_.out (by kernel_rfl)) (fun _ _ _ h => h) (Or.inl ⟨by rfl, ?_⟩) ?_ ?_
                    rotate_left; (· intro w'; go_simp; with_reducible rfl)
                    rotate_left; (· simp only [Act.put,List.setIfInBounds_toArray,List.set_cons_zero,List.set_cons_succ,i64_w,i32_w]; rfl)
                    refine take_ (i := 14) (N := some 106) (v := ?_) (a' := ?_) (bo_ 44 98303) rfl rfl (take_ofW HT_.out HW_.out (by kernel_rfl)) (fun _ _ _ h => h) (Or.inl ⟨by rfl, ?_⟩) hHeld ?_ ?_
                    rotate_left; (· rintro w' ⟨s0, s1, s2, s3, s4, s5, s6, s7⟩; go_simp; with_reducible rfl)
                    rotate_left; (· simp only [Act.put,List.setIfInBounds_toArray,List.set_cons_zero,List.set_cons_succ,i64_w,i32_w]; rfl)
                    refine take_ (i := 15) (N := some 107) (v := ?_) (a' := ?_) (bo_ 44 131071) rfl rfl (take_ofW HT_.out HW_.out (by kernel_rfl)) (fun _ _ _ h => h) (Or.inl ⟨by rfl, ?_⟩) hHeld ?_ ?_
                    rotate_left; (· rintro w' ⟨s0, s1, s2, s3, s4, s5, s6, s7⟩; go_simp; with_reducible rfl)
                    rotate_left; (· simp only [Act.put,List.setIfInBounds_toArray,List.set_cons_zero,List.set_cons_succ,i64_w,i32_w]; rfl)
                    refine take_ (i := 17) (N := some 109) (v := ?_) (a' := ?_) (bo_ 44 262143) rfl rfl (take_ofW HT_.out HW_.out (by kernel_rfl)) (fun _ _ _ h => h) (Or.inl ⟨by rfl, ?_⟩) hHeld ?_ ?_
                    rotate_left; (· rintro w' ⟨s0, s1, s2, s3, s4, s5, s6, s7⟩; go_simp; with_reducible rfl)
                    rotate_left; (· simp only [Act.put,List.setIfInBounds_toArray,List.set_cons_zero,List.set_cons_succ,i64_w,i32_w]; rfl)
                    refine take_ (i := 18) (N := some 110) (v := ?_) (a' := ?_) (bo_ 44 524287) rfl rfl (take_ofW HT_.out HW_.out (by kernel_rfl)) (fun _ _ _ h => h) (Or.inl ⟨by rfl, ?_⟩) hHeld ?_ ?_
                    rotate_left; (· rintro w' ⟨s0, s1, s2, s3, s4, s5, s6, s7⟩; go_simp; with_reducible rfl)
                    rotate_left; (· simp only [Act.put,List.setIfInBounds_toArray,List.set_cons_zero,List.set_cons_succ,i64_w,i32_w]; rfl)
                    refine pure_ (i := 19) (N := some 111) (v := ?_) (a' := ?_) (bo_ 44 1048575) rfl rfl (any_of HT_.out (by kernel_rfl)) (fun _ _ _ h => h) (Or.inl ⟨by rfl, ?_⟩) ?_ ?_
                    rotate_left; (· intro w'; go_simp; with_reducible rfl)
                    rotate_left; (· simp only [Act.put,List.setIfInBounds_toArray,List.set_cons_zero,List.set_cons_succ,i64_w,i32_w]; rfl)
                    refine pure_ (i := 20) (N := some 112) (v := ?_) (a' := ?_) (bo_ 44 2097151) rfl rfl (any_of HT_.out (by kernel_rfl)) (fun _ _ _ h => h) (Or.inl ⟨by rfl, ?_⟩) ?_ ?_
                    rotate_left; (· intro w'; go_simp; with_reducible rfl)
                    rotate_left; (· simp only [Act.put,List.setIfInBounds_toArray,List.set_cons_zero,List.set_cons_succ,i64_w,i32_w]; rfl)
                    refine pure_ (i := 21) (N := some 113) (v := ?_) (a' := ?_) (bo_ 44 4194303) rfl rfl (any_of HT_.out (by kernel_rfl)) (fun _ _ _ h => h) (Or.inl ⟨by rfl, ?_⟩) ?_ ?_
                    rotate_left; (· intro w'; go_simp; with_reducible rfl)
                    rotate_left; (· simp only [Act.put,List.setIfInBounds_toArray,List.set_cons_zero,List.set_cons_succ,i64_w,i32_w]; rfl)
                    refine pure_ (i := 22) (N := some 114) (v := ?_) (a' := ?_) (bo_ 44 8388607) rfl rfl (any_of HT_.out (by kernel_rfl)) (fun _ _ _ h => h) (Or.inl ⟨by rfl, ?_⟩) ?_ ?_
                    rotate_left; (· intro w'; go_simp; with_reducible rfl)
                    rotate_left; (· simp only [Act.put,List.setIfInBounds_toArray,List.set_cons_zero,List.set_cons_succ,i64_w,i32_w]; rfl)
                    refine pure_ (i := 23) (N := some 115) (v := ?_) (a' := ?_) (bo_ 44 16777215) rfl rfl (any_of HT_.out (by kernel_rfl)) (fun _ _ _ h => h) (Or.inl ⟨by rfl, ?_⟩) ?_ ?_
                    rotate_left; (· intro w'; go_simp; with_reducible rfl)
                    rotate_left; (· simp only [Act.put,List.setIfInBounds_toArray,List.set_cons_zero,List.set_cons_succ,i64_w,i32_w]; rfl)
                    refine pure_ (i := 24) (N := some 116) (v := ?_) (a' := ?_) (bo_ 44 33554431) rfl rfl (any_of HT_.out (by kernel_rfl)) (fun _ _ _ h => h) (Or.inl ⟨by rfl, ?_⟩) ?_ ?_
                    rotate_left; (· intro w'; go_simp; with_reducible rfl)
                    rotate_left; (· simp only [Act.put,List.setIfInBounds_toArray,List.set_cons_zero,List.set_cons_succ,i64_w,i32_w]; rfl)
                    refine pure_ (i := 25) (N := some 117) (v := ?_) (a' := ?_) (bo_ 44 67108863) rfl rfl (any_of HT_.out (by kernel_rfl)) (fun _ _ _ h => h) (Or.inl ⟨by rfl, ?_⟩) ?_ ?_
                    rotate_left; (· intro w'; go_simp; with_reducible rfl)
                    rotate_left; (· simp only [Act.put,List.setIfInBounds_toArray,List.set_cons_zero,List.set_cons_succ,i64_w,i32_w]; rfl)
                    refine pure_ (i := 26) (N := some 118) (v := ?_) (a' := ?_) (bo_ 44 134217727) rfl rfl (any_of HT_.out (by kernel_rfl)) (fun _ _ _ h => h) (Or.inl ⟨by rfl, ?_⟩) ?_ ?_
                    rotate_left; (· intro w'; go_simp; with_reducible rfl)
                    rotate_left; (· simp only [Act.put,List.setIfInBounds_toArray,List.set_cons_zero,List.set_cons_succ,i64_w,i32_w]; rfl)
                    refine pure_ (i := 27) (N := some 119) (v := ?_) (a' := ?_) (bo_ 44 268435455) rfl rfl (any_of HT_.out (by kernel_rfl)) (fun _ _ _ h => h) (Or.inl ⟨by rfl, ?_⟩) ?_ ?_
                    rotate_left; (· intro w'; go_simp; with_reducible rfl)
                    rotate_left; (· simp only [Act.put,List.setIfInBounds_toArray,List.set_cons_zero,List.set_cons_succ,i64_w,i32_w]; rfl)
                    refine pure_ (i := 28) (N := some 120) (v := ?_) (a' := ?_) (bo_ 44 536870911) rfl rfl (any_of HT_.out (by kernel_rfl)) (fun _ _ _ h => h) (Or.inl ⟨by rfl, ?_⟩) ?_ ?_
                    rotate_left; (· intro w'; go_simp; with_reducible rfl)
                    rotate_left; (· simp only [Act.put,List.setIfInBounds_toArray,List.set_cons_zero,List.set_cons_succ,i64_w,i32_w]; rfl)
                    refine pure_ (i := 29) (N := some 121) (v := ?_) (a' := ?_) (bo_ 44 1073741823) rfl rfl (any_of HT_.out (by kernel_rfl)) (fun _ _ _ h => h) (Or.inl ⟨by rfl, ?_⟩) ?_ ?_
                    rotate_left; (· intro w'; go_simp; with_reducible rfl)
                    rotate_left; (· simp only [Act.put,List.setIfInBounds_toArray,List.set_cons_zero,List.set_cons_succ,i64_w,i32_w]; rfl)
                    refine pure_ (i := 30) (N := some 122) (v := ?_) (a' := ?_) (bo_ 44 2147483647) rfl rfl (any_of HT_.out (by kernel_rfl)) (fun _ _ _ h => h) (Or.inl ⟨by rfl, ?_⟩) ?_ ?_
                    rotate_left; (· intro w'; go_simp; with_reducible rfl)
                    rotate_left; (· simp only [Act.put,List.setIfInBounds_toArray,List.set_cons_zero,List.set_cons_succ,i64_w,i32_w]; rfl)
                    refine pure_ (i := 31) (N := some 123) (v := ?_) (a' := ?_) (bo_ 44 4294967295) rfl rfl (any_of HT_.out (by kernel_rfl)) (fun _ _ _ h => h) (Or.inl ⟨by rfl, ?_⟩) ?_ ?_
                    rotate_left; (· intro w'; go_simp; with_reducible rfl)
                    rotate_left; (· simp only [Act.put,List.setIfInBounds_toArray,List.set_cons_zero,List.set_cons_succ,i64_w,i32_w]; rfl)
                    refine pure_ (i := 32) (N := some 124) (v := undef) (a' := ?_) (bo_ 44 8589934591) rfl rfl (any_of HT_.out (by kernel_rfl)) (fun _ _ _ h => h) (Or.inr ⟨by rfl, rfl⟩) ?_ ?_
                    rotate_left; (· simp only [Act.put,List.setIfInBounds_toArray,List.set_cons_zero,List.set_cons_succ,i64_w,i32_w]; rfl)
                    refine pure_ (i := 33) (N := some 125) (v := undef) (a' := ?_) (bo_ 44 17179869183) rfl rfl (any_of HT_.out (by kernel_rfl)) (fun _ _ _ h => h) (Or.inr ⟨by rfl, rfl⟩) ?_ ?_
                    rotate_left; (· simp only [Act.put,List.setIfInBounds_toArray,List.set_cons_zero,List.set_cons_succ,i64_w,i32_w]; rfl)
                    refine pure_ (i := 34) (N := some 126) (v := undef) (a' := ?_) (bo_ 44 34359738367) rfl rfl (any_of HT_.out (by kernel_rfl)) (fun _ _ _ h => h) (Or.inr ⟨by rfl, rfl⟩) ?_ ?_
                    rotate_left; (· simp only [Act.put,List.setIfInBounds_toArray,List.set_cons_zero,List.set_cons_succ,i64_w,i32_w]; rfl)
                    refine pure_ (i := 35) (N := some 127) (v := undef) (a' := ?_) (bo_ 44 68719476735) rfl rfl (any_of HT_.out (by kernel_rfl)) (fun _ _ _ h => h) (Or.inr ⟨by rfl, rfl⟩) ?_ ?_
                    rotate_left; (· simp only [Act.put,List.setIfInBounds_toArray,List.set_cons_zero,List.set_cons_succ,i64_w,i32_w]; rfl)
                    refine pure_ (i := 36) (N := some 128) (v := undef) (a' := ?_) (bo_ 44 137438953471) rfl rfl (any_of HT_.out (by kernel_rfl)) (fun _ _ _ h => h) (Or.inr ⟨by rfl, rfl⟩) ?_ ?_
                    rotate_left; (· simp only [Act.put,List.setIfInBounds_toArray,List.set_cons_zero,List.set_cons_succ,i64_w,i32_w]; rfl)
                    refine pure_ (i := 37) (N := some 129) (v := undef) (a' := ?_) (bo_ 44 274877906943) rfl rfl (any_of HT_.out (by kernel_rfl)) (fun _ _ _ h => h) (Or.inr ⟨by rfl, rfl⟩) ?_ ?_
                    rotate_left; (· simp only [Act.put,List.setIfInBounds_toArray,List.set_cons_zero,List.set_cons_succ,i64_w,i32_w]; rfl)
                    refine pure_ (i := 38) (N := some 130) (v := undef) (a' := ?_) (bo_ 44 549755813887) rfl rfl (any_of HT_.out (by kernel_rfl)) (fun _ _ _ h => h) (Or.inr ⟨by rfl, rfl⟩) ?_ ?_
                    rotate_left; (· simp only [Act.put,List.setIfInBounds_toArray,List.set_cons_zero,List.set_cons_succ,i64_w,i32_w]; rfl)
                    refine pure_ (i := 39) (N := some 131) (v := undef) (a' := ?_) (bo_ 44 1099511627775) rfl rfl (any_of HT_.out (by kernel_rfl)) (fun _ _ _ h => h) (Or.inr ⟨by rfl, rfl⟩) ?_ ?_
                    rotate_left; (· simp only [Act.put,List.setIfInBounds_toArray,List.set_cons_zero,List.set_cons_succ,i64_w,i32_w]; rfl)
                    refine pure_ (i := 40) (N := some 132) (v := undef) (a' := ?_) (bo_ 44 2199023255551) rfl rfl (any_of HT_.out (by kernel_rfl)) (fun _ _ _ h => h) (Or.inr ⟨by rfl, rfl⟩) ?_ ?_
                    rotate_left; (· simp only [Act.put,List.setIfInBounds_toArray,List.set_cons_zero,List.set_cons_succ,i64_w,i32_w]; rfl)
                    refine pure_ (i := 41) (N := some 133) (v := undef) (a' := ?_) (bo_ 44 4398046511103) rfl rfl (any_of HT_.out (by kernel_rfl)) (fun _ _ _ h => h) (Or.inr ⟨by rfl, rfl⟩) ?_ ?_
                    rotate_left; (· simp only [Act.put,List.setIfInBounds_toArray,List.set_cons_zero,List.set_cons_succ,i64_w,i32_w]; rfl)
                    refine pure_ (i := 42) (N := some 134) (v := undef) (a' := ?_) (bo_ 44 8796093022207) rfl rfl (any_of HT_.out (by kernel_rfl)) (fun _ _ _ h => h) (Or.inr ⟨by rfl, rfl⟩) ?_ ?_
                    rotate_left; (· simp only [Act.put,List.setIfInBounds_toArray,List.set_cons_zero,List.set_cons_succ,i64_w,i32_w]; rfl)
                    refine pure_ (i := 43) (N := some 135) (v := ?_) (a' := ?_) (bo_ 44 17592186044415) rfl rfl (any_of HT_.out (by kernel_rfl)) (fun _ _ _ h => h) (Or.inl ⟨by rfl, ?_⟩) ?_ ?_
                    rotate_left; (· intro w'; go_simp; with_reducible rfl)
                    rotate_left; (· simp only [Act.put,List.setIfInBounds_toArray,List.set_cons_zero,List.set_cons_succ,i64_w,i32_w]; rfl)
                    refine done_ (done_of HT_.out (by kernel_rfl)) ?_
                    try go_wp2
                    go_meet
                    case rel => exact ⟨_, (true), (by first | rfl | (simp; done) | (simp [*]; done)), H', ⟨by have := HJ8.out; have := HK2.out; first | omega | exact Nat.le_refl _⟩, ⟨by (with_reducible repeat (first | apply Kd.N_alloc | apply Kd.N_drewN | apply Kd.N_drew)); exact HO_15.out⟩, ⟨by (with_reducible repeat (first | apply Kd.R_alloc | apply Kd.R_drewN | apply Kd.R_drew)); exact HO293.out⟩, ⟨by (with_reducible repeat (first | apply Kd.R_alloc | apply Kd.R_drewN | apply Kd.R_drew)); exact HO302.out⟩, ⟨by (with_reducible repeat (first | refine blk_drewN ?_ _ | refine blk_drew ?_ | refine blk_alloc ?_ _)); exact BK296.out⟩, ⟨by (with_reducible repeat (first | refine blk_drewN ?_ _ | refine blk_drew ?_ | refine blk_alloc ?_ _)); exact BK305.out⟩, ⟨by repeat (first | (with_reducible first | exact HB.out | apply below_alloc | apply pw_below_drewN | apply below_drew1 | refine below_set ?_ GE296.out | refine below_set ?_ GE305.out) | exact HB.out)⟩⟩
                  ·rw [if_neg c55] at H
                   have c55b0 : (t294 == t303) = false := beq_eq_false_iff_ne.mpr c55
                   have c55b1 : (t294 != t303) = true := bne_iff_ne.mpr c55
                   have H' := Aside0.mk H
                   clear H
                   try go_wp2
                   have n0_ : Aside0 (Kd.N (Kd.slice 5 (Kd.int .u8)) 24 (((w48.setCell ⟨gb305, 0, none⟩ (.int .i64 t298)).setCell ⟨gb305, 1, none⟩ (.int .u64 t299)).setCell ⟨gb305, 2, none⟩ (.slice Ao51 t300.length co51)) w.heap.size (fun k_ => (P0_ k_ ∨ w.heap.size ≤ k_) ∧ some k_ ≠ (.slice Ao45 t291.length co45 : Value).ownBlock ∧ some k_ ≠ (.slice Ao51 t300.length co51 : Value).ownBlock ∧ k_ ≠ gb296 ∧ k_ ≠ gb305) (.slice (some ad288) y285.length co41) y285) := ⟨by (with_reducible repeat (first | apply Kd.N_alloc | apply Kd.N_drewN | apply Kd.N_drew)); exact Kd.N_mono (Kd.N_far (p := ⟨gb305, 2, none⟩) (Kd.N_far (p := ⟨gb305, 1, none⟩) (Kd.N_far (p := ⟨gb305, 0, none⟩) (Kd.N_mono HO_15.out (fun k_ hk => (⟨hk, hk.2⟩ : _ ∧ k_ ≠ gb305))) (fun _ hk => hk.2) (.int .i64 t298)) (fun _ hk => hk.2) (.int .u64 t299)) (fun _ hk => hk.2) (.slice Ao51 t300.length co51)) (fun _ hk => ⟨hk.1.1.1.1, ⟨hk.1.1.1.2.1, ⟨hk.1.1.2, ⟨hk.1.1.1.2.2, hk.1.2⟩⟩⟩⟩)⟩
                   have n1_ : Aside0 (Kd.V (Kd.int .u8) 5 (((w48.setCell ⟨gb305, 0, none⟩ (.int .i64 t298)).setCell ⟨gb305, 1, none⟩ (.int .u64 t299)).setCell ⟨gb305, 2, none⟩ (.slice Ao51 t300.length co51)) w.heap.size (fun k_ => (P0_ k_ ∨ w.heap.size ≤ k_) ∧ some k_ ≠ (.slice (some ad288) y285.length co41 : Value).ownBlock ∧ some k_ ≠ (.slice Ao45 t291.length co45 : Value).ownBlock ∧ some k_ ≠ (.slice Ao51 t300.length co51 : Value).ownBlock ∧ k_ ≠ gb296 ∧ k_ ≠ gb305) (.slice A288_0 (rd_L1 y285 x16_2).length c288_0) (rd_L1 y285 x16_2)) := ⟨by (with_reducible repeat (first | apply Kd.V_alloc | apply Kd.V_drewN | apply Kd.V_drew)); exact Kd.V_mono (Kd.V_far (p := ⟨gb305, 2, none⟩) (Kd.V_far (p := ⟨gb305, 1, none⟩) (Kd.V_far (p := ⟨gb305, 0, none⟩) (Kd.V_mono HL288_0.out (fun k_ hk => (⟨hk, hk.2⟩ : _ ∧ k_ ≠ gb305))) (fun _ hk => hk.2) (.int .i64 t298)) (fun _ hk => hk.2) (.int .u64 t299)) (fun _ hk => hk.2) (.slice Ao51 t300.length co51)) (fun _ hk => ⟨hk.1.1.1.1, ⟨hk.1.1.1.2.1, ⟨hk.1.1.1.2.2.1, ⟨hk.1.1.2, ⟨hk.1.1.1.2.2.2, hk.1.2⟩⟩⟩⟩⟩)⟩
                   have n2_ : Aside0 (Kd.R (Kd.int .u8) 5 (((w48.setCell ⟨gb305, 0, none⟩ (.int .i64 t298)).setCell ⟨gb305, 1, none⟩ (.int .u64 t299)).setCell ⟨gb305, 2, none⟩ (.slice Ao51 t300.length co51)) w.heap.size (fun k_ => (w.heap.size ≤ k_) ∧ some k_ ≠ (.slice Ao51 t300.length co51 : Value).ownBlock) (.slice Ao45 t291.length co45) t291) := ⟨by (with_reducible repeat (first | apply Kd.R_alloc | apply Kd.R_drewN | apply Kd.R_drew)); exact Kd.R_mono (Kd.R_far (p := ⟨gb305, 2, none⟩) (Kd.R_far (p := ⟨gb305, 1, none⟩) (Kd.R_far (p := ⟨gb305, 0, none⟩) (Kd.R_types HO293.out BK305.out (by decide)) (fun _ hk => hk.2) (.int .i64 t298)) (fun _ hk => hk.2) (.int .u64 t299)) (fun _ hk => hk.2) (.slice Ao51 t300.length co51)) (fun _ hk => ⟨hk.1.1, hk.1.2⟩)⟩
                   have n3_ : Aside0 (Kd.V (Kd.int .u8) 5 (((w48.setCell ⟨gb305, 0, none⟩ (.int .i64 t298)).setCell ⟨gb305, 1, none⟩ (.int .u64 t299)).setCell ⟨gb305, 2, none⟩ (.slice Ao51 t300.length co51)) w.heap.size (fun k_ => (P0_ k_ ∨ w.heap.size ≤ k_) ∧ some k_ ≠ (.slice (some ad288) y285.length co41 : Value).ownBlock ∧ some k_ ≠ (.slice Ao45 t291.length co45 : Value).ownBlock ∧ some k_ ≠ (.slice Ao51 t300.length co51 : Value).ownBlock ∧ k_ ≠ gb296 ∧ k_ ≠ gb305) (.slice A297_0 (rd_L1 y285 x16_2).length c297_0) (rd_L1 y285 x16_2)) := ⟨by (with_reducible repeat (first | apply Kd.V_alloc | apply Kd.V_drewN | apply Kd.V_drew)); exact Kd.V_mono (Kd.V_far (p := ⟨gb305, 2, none⟩) (Kd.V_far (p := ⟨gb305, 1, none⟩) (Kd.V_far (p := ⟨gb305, 0, none⟩) (Kd.V_mono HL297_0.out (fun k_ hk => (⟨hk, hk.2⟩ : _ ∧ k_ ≠ gb305))) (fun _ hk => hk.2) (.int .i64 t298)) (fun _ hk => hk.2) (.int .u64 t299)) (fun _ hk => hk.2) (.slice Ao51 t300.length co51)) (fun _ hk => ⟨hk.1.1.1.1.1, ⟨hk.1.1.1.2, ⟨hk.1.1.1.1.2.1, ⟨hk.1.1.2, ⟨hk.1.1.1.1.2.2, hk.1.2⟩⟩⟩⟩⟩)⟩
                   have n4_ : Aside0 (Kd.R (Kd.int .u8) 5 (((w48.setCell ⟨gb305, 0, none⟩ (.int .i64 t298)).setCell ⟨gb305, 1, none⟩ (.int .u64 t299)).setCell ⟨gb305, 2, none⟩ (.slice Ao51 t300.length co51)) w.heap.size (fun k_ => (w.heap.size ≤ k_) ∧ some k_ ≠ (.slice Ao45 t291.length co45 : Value).ownBlock) (.slice Ao51 t300.length co51) t300) := ⟨by (with_reducible repeat (first | apply Kd.R_alloc | apply Kd.R_drewN | apply Kd.R_drew)); exact Kd.R_mono (Kd.R_far (p := ⟨gb305, 2, none⟩) (Kd.R_far (p := ⟨gb305, 1, none⟩) (Kd.R_far (p := ⟨gb305, 0, none⟩) (Kd.R_types HO302.out BK305.out (by decide)) (fun _ hk => hk.2) (.int .i64 t298)) (fun _ hk => hk.2) (.int .u64 t299)) (fun _ hk => hk.2) (.slice Ao51 t300.length co51)) (fun _ hk => ⟨hk.1.1.1, hk.1.2⟩)⟩
                   have n5_ : Aside0 ((((w48.setCell ⟨gb305, 0, none⟩ (.int .i64 t298)).setCell ⟨gb305, 1, none⟩ (.int .u64 t299)).setCell ⟨gb305, 2, none⟩ (.slice Ao51 t300.length co51)).heap[gb296]? = some (.cells #[.int .i64 t289, .int .u64 t290, .slice Ao45 t291.length co45] 37 (0, 0))) := ⟨by (with_reducible repeat (first | refine blk_drewN ?_ _ | refine blk_drew ?_ | refine blk_alloc ?_ _)); refine blk_far ?_ NB296_305.out _; (with_reducible repeat (first | refine blk_drewN ?_ _ | refine blk_drew ?_ | refine blk_alloc ?_ _)); refine blk_far ?_ NB296_305.out _; (with_reducible repeat (first | refine blk_drewN ?_ _ | refine blk_drew ?_ | refine blk_alloc ?_ _)); refine blk_far ?_ NB296_305.out _; (with_reducible repeat (first | refine blk_drewN ?_ _ | refine blk_drew ?_ | refine blk_alloc ?_ _)); exact BK296.out⟩
                   have n6_ : Aside0 ((((w48.setCell ⟨gb305, 0, none⟩ (.int .i64 t298)).setCell ⟨gb305, 1, none⟩ (.int .u64 t299)).setCell ⟨gb305, 2, none⟩ (.slice Ao51 t300.length co51)).heap[gb305]? = some (.cells #[.int .i64 t298, .int .u64 t299, .slice Ao51 t300.length co51] 37 (0, 0))) := ⟨by (with_reducible repeat (first | refine blk_drewN ?_ _ | refine blk_drew ?_ | refine blk_alloc ?_ _)); refine blk_put (cs := #[.int .i64 t298, .int .u64 t299, .slice none 0 0]) ?_ 2 _ rfl; (with_reducible repeat (first | refine blk_drewN ?_ _ | refine blk_drew ?_ | refine blk_alloc ?_ _)); refine blk_put (cs := #[.int .i64 t298, .int .u64 0, .slice none 0 0]) ?_ 1 _ rfl; (with_reducible repeat (first | refine blk_drewN ?_ _ | refine blk_drew ?_ | refine blk_alloc ?_ _)); refine blk_put (cs := #[.int .i64 0, .int .u64 0, .slice none 0 0]) ?_ 0 _ rfl; (with_reducible repeat (first | refine blk_drewN ?_ _ | refine blk_drew ?_ | refine blk_alloc ?_ _)); exact BK305.out⟩
                   have n7_ : Aside0 (Below w.heap.size w (((w48.setCell ⟨gb305, 0, none⟩ (.int .i64 t298)).setCell ⟨gb305, 1, none⟩ (.int .u64 t299)).setCell ⟨gb305, 2, none⟩ (.slice Ao51 t300.length co51))) := ⟨by repeat (first | (with_reducible first | exact HB.out | apply below_alloc | apply pw_below_drewN | apply below_drew1 | refine below_set ?_ GE296.out | refine below_set ?_ GE305.out) | exact HB.out)⟩
                   (try clear HO_15)
                   (try clear HL288_0)
                   (try clear HO293)
                   (try clear HL297_0)
                   (try clear HO302)
                   (try clear BK296)
                   (try clear BK305)
                   (try clear HB)
                   generalize (((w48.setCell ⟨gb305, 0, none⟩ (.int .i64 t298)).setCell ⟨gb305, 1, none⟩ (.int .u64 t299)).setCell ⟨gb305, 2, none⟩ (.slice Ao51 t300.length co51)) = w71 at n0_ n1_ n2_ n3_ n4_ n5_ n6_ n7_ ⊢
                   have HO_15 := n0_
                   have HL288_0 := n1_
                   have HO293 := n2_
                   have HL297_0 := n3_
                   have HO302 := n4_
                   have BK296 := n5_
                   have BK305 := n6_
                   have HB := n7_
                   clear n0_ n1_ n2_ n3_ n4_ n5_ n6_ n7_
                   have n0_ := Aside0.mk (Kd.N_drew HO_15.out)
                   have n1_ := Aside0.mk (Kd.V_drew HL288_0.out)
                   have n2_ := Aside0.mk (Kd.R_drew HO293.out)
                   have n3_ := Aside0.mk (Kd.V_drew HL297_0.out)
                   have n4_ := Aside0.mk (Kd.R_drew HO302.out)
                   have n5_ := Aside0.mk (blk_drew BK296.out)
                   have n6_ := Aside0.mk (blk_drew BK305.out)
                   have n7_ := Aside0.mk (below_drew1 HB.out)
                   clear HO_15
                   clear HL288_0
                   clear HO293
                   clear HL297_0
                   clear HO302
                   clear BK296
                   clear BK305
                   clear HB
                   have HO_15 := n0_
                   have HL288_0 := n1_
                   have HO293 := n2_
                   have HL297_0 := n3_
                   have HO302 := n4_
                   have BK296 := n5_
                   have BK305 := n6_
                   have HB := n7_
                   clear n0_ n1_ n2_ n3_ n4_ n5_ n6_ n7_
                   refine start_ (n := 44) (S := fun w' => w'.cell? ⟨gb296, 0, none⟩ = some (.int .i64 t289) ∧ w'.cell? ⟨gb296, 1, none⟩ = some (.int .u64 t290) ∧ w'.cell? ⟨gb296, 2, none⟩ = some (.slice Ao45 t291.length co45) ∧ w'.cell? ⟨gb305, 0, none⟩ = some (.int .i64 t298) ∧ w'.cell? ⟨gb305, 1, none⟩ = some (.int .u64 t299) ∧ w'.cell? ⟨gb305, 2, none⟩ = some (.slice Ao51 t300.length co51) ∧ (convert 24 9 (.slice Ao45 t291.length co45)).run Try.prog w' = .ok (.string (strOfNums t291)) w' ∧ (convert 24 9 (.slice Ao51 t300.length co51)).run Try.prog w' = .ok (.string (strOfNums t300)) w') (ds := []) #[false,false,false,false,false,false,false,false,false,false,false,false,false,false,false,false,false,false,false,false,false,false,false,false,false,false,false,false,false,false,false,false,false,false,false,false,false,false,false,false,false,false,false,false] (by kernel_rfl) rfl rfl ⟨(blk_cell BK296.out 0).trans rfl, (blk_cell BK296.out 1).trans rfl, (blk_cell BK296.out 2).trans rfl, (blk_cell BK305.out 0).trans rfl, (blk_cell BK305.out 1).trans rfl, (blk_cell BK305.out 2).trans rfl, (own_string (P := Try.prog) Try.underlying24 Try.underlying5 Try.underlying9 (Kd.own_of_R HO293.out)), (own_string (P := Try.prog) Try.underlying24 Try.underlying5 Try.underlying9 (Kd.own_of_R HO302.out))⟩ (fun hHeld => ?_); refine with_tabW kerbsuitelaw4_BoxReads.tab12 kerbsuitelaw4_BoxReads.bits12 (fun HT_ HW_ => ?_)
                   generalize w71.drew = w72 at HO_15 HL288_0 HO293 HL297_0 HO302 BK296 BK305 HB hHeld ⊢
                   refine pure_ (i := 0) (N := some 92) (v := ?_) (a' := ?_) (bo_ 44 1) rfl rfl (any_of HT_.out (by kernel_rfl)) (fun _ _ _ h => h) (Or.inl ⟨by rfl, ?_⟩) ?_ ?_
                   rotate_left; (· intro w'; go_simp; with_reducible rfl)
                   rotate_left; (· simp only [Act.put,List.setIfInBounds_toArray,List.set_cons_zero,List.set_cons_succ,i64_w,i32_w]; rfl)
                   refine pure_ (i := 2) (N := some 94) (v := ?_) (a' := ?_) (bo_ 44 5) rfl rfl (any_of HT_.out (by kernel_rfl)) (fun _ _ _ h => h) (Or.inl ⟨by rfl, ?_⟩) ?_ ?_
                   rotate_left; (· intro w'; go_simp; with_reducible rfl)
                   rotate_left; (· simp only [Act.put,List.setIfInBounds_toArray,List.set_cons_zero,List.set_cons_succ,i64_w,i32_w]; rfl)
                   refine take_ (i := 1) (N := some 93) (v := ?_) (a' := ?_) (bo_ 44 7) rfl rfl (take_ofW HT_.out HW_.out (by kernel_rfl)) (fun _ _ _ h => h) (Or.inl ⟨by rfl, ?_⟩) hHeld ?_ ?_
                   rotate_left; (· rintro w' ⟨s0, s1, s2, s3, s4, s5, s6, s7⟩; go_simp; with_reducible rfl)
                   rotate_left; (· simp only [Act.put,List.setIfInBounds_toArray,List.set_cons_zero,List.set_cons_succ,i64_w,i32_w]; rfl)
                   refine take_ (i := 3) (N := some 95) (v := ?_) (a' := ?_) (bo_ 44 15) rfl rfl (take_ofW HT_.out HW_.out (by kernel_rfl)) (fun _ _ _ h => h) (Or.inl ⟨by rfl, ?_⟩) hHeld ?_ ?_
                   rotate_left; (· rintro w' ⟨s0, s1, s2, s3, s4, s5, s6, s7⟩; go_simp; with_reducible rfl)
                   rotate_left; (· simp only [Act.put,List.setIfInBounds_toArray,List.set_cons_zero,List.set_cons_succ,i64_w,i32_w]; rfl)
                   refine pure_ (i := 4) (N := some 96) (v := ?_) (a' := ?_) (bo_ 44 31) rfl rfl (any_of HT_.out (by kernel_rfl)) (fun _ _ _ h => h) (Or.inl ⟨by rfl, ?_⟩) ?_ ?_
                   rotate_left; (· intro w'; go_simp; with_reducible rfl)
                   rotate_left; (· simp only [Act.put,List.setIfInBounds_toArray,List.set_cons_zero,List.set_cons_succ,i64_w,i32_w]; rfl)
                   refine pure_ (i := 5) (N := some 97) (v := ?_) (a' := ?_) (bo_ 44 63) rfl rfl (any_of HT_.out (by kernel_rfl)) (fun _ _ _ h => h) (Or.inl ⟨by rfl, ?_⟩) ?_ ?_
                   rotate_left; (· intro w'; go_simp; with_reducible rfl)
                   rotate_left; (· simp only [Act.put,List.setIfInBounds_toArray,List.set_cons_zero,List.set_cons_succ,i64_w,i32_w]; rfl)
                   refine pure_ (i := 6) (N := some 98) (v := ?_) (a' := ?_) (bo_ 44 127) rfl rfl (any_of HT_.out (by kernel_rfl)) (fun _ _ _ h => h) (Or.inl ⟨by rfl, ?_⟩) ?_ ?_
                   rotate_left; (· intro w'; go_simp; with_reducible rfl)
                   rotate_left; (· simp only [Act.put,List.setIfInBounds_toArray,List.set_cons_zero,List.set_cons_succ,i64_w,i32_w]; rfl)
                   refine pure_ (i := 8) (N := some 100) (v := ?_) (a' := ?_) (bo_ 44 383) rfl rfl (any_of HT_.out (by kernel_rfl)) (fun _ _ _ h => h) (Or.inl ⟨by rfl, ?_⟩) ?_ ?_
                   rotate_left; (· intro w'; go_simp; with_reducible rfl)
                   rotate_left; (· simp only [Act.put,List.setIfInBounds_toArray,List.set_cons_zero,List.set_cons_succ,i64_w,i32_w]; rfl)
                   refine take_ (i := 7) (N := some 99) (v := ?_) (a' := ?_) (bo_ 44 511) rfl rfl (take_ofW HT_.out HW_.out (by kernel_rfl)) (fun _ _ _ h => h) (Or.inl ⟨by rfl, ?_⟩) hHeld ?_ ?_
                   rotate_left; (· rintro w' ⟨s0, s1, s2, s3, s4, s5, s6, s7⟩; go_simp; with_reducible rfl)
                   rotate_left; (· simp only [Act.put,List.setIfInBounds_toArray,List.set_cons_zero,List.set_cons_succ,i64_w,i32_w]; rfl)
                   refine take_ (i := 9) (N := some 101) (v := ?_) (a' := ?_) (bo_ 44 1023) rfl rfl (take_ofW HT_.out HW_.out (by kernel_rfl)) (fun _ _ _ h => h) (Or.inl ⟨by rfl, ?_⟩) hHeld ?_ ?_
                   rotate_left; (· rintro w' ⟨s0, s1, s2, s3, s4, s5, s6, s7⟩; go_simp; with_reducible rfl)
                   rotate_left; (· simp only [Act.put,List.setIfInBounds_toArray,List.set_cons_zero,List.set_cons_succ,i64_w,i32_w]; rfl)
                   refine pure_ (i := 10) (N := some 102) (v := ?_) (a' := ?_) (bo_ 44 2047) rfl rfl (any_of HT_.out (by kernel_rfl)) (fun _ _ _ h => h) (Or.inl ⟨by rfl, ?_⟩) ?_ ?_
                   rotate_left; (· intro w'; go_simp; with_reducible rfl)
                   rotate_left; (· simp only [Act.put,List.setIfInBounds_toArray,List.set_cons_zero,List.set_cons_succ,i64_w,i32_w]; rfl)
                   refine pure_ (i := 11) (N := some 103) (v := ?_) (a' := ?_) (bo_ 44 4095) rfl rfl (any_of HT_.out (by kernel_rfl)) (fun _ _ _ h => h) (Or.inl ⟨by rfl, ?_⟩) ?_ ?_
                   rotate_left; (· intro w'; go_simp; with_reducible rfl)
                   rotate_left; (· simp only [Act.put,List.setIfInBounds_toArray,List.set_cons_zero,List.set_cons_succ,i64_w,i32_w]; rfl)
                   refine pure_ (i := 12) (N := some 104) (v := ?_) (a' := ?_) (bo_ 44 8191) rfl rfl (any_of HT_.out (by kernel_rfl)) (fun _ _ _ h => h) (Or.inl ⟨by rfl, ?_⟩) ?_ ?_
                   rotate_left; (· intro w'; go_simp; with_reducible rfl)
                   rotate_left; (· simp only [Act.put,List.setIfInBounds_toArray,List.set_cons_zero,List.set_cons_succ,i64_w,i32_w]; rfl)
                   refine pure_ (i := 13) (N := some 105) (v := ?_) (a' := ?_) (bo_ 44 16383) rfl rfl (any_of HT_.out (by kernel_rfl)) (fun _ _ _ h => h) (Or.inl ⟨by rfl, ?_⟩) ?_ ?_
                   rotate_left; (· intro w'; go_simp; with_reducible rfl)
                   rotate_left; (· simp only [Act.put,List.setIfInBounds_toArray,List.set_cons_zero,List.set_cons_succ,i64_w,i32_w]; rfl)
                   refine pure_ (i := 16) (N := some 108) (v := ?_) (a' := ?_) (bo_ 44 81919) rfl rfl (any_of HT_.out (by kernel_rfl)) (fun _ _ _ h => h) (Or.inl ⟨by rfl, ?_⟩) ?_ ?_
                   rotate_left; (· intro w'; go_simp; with_reducible rfl)
                   rotate_left; (· simp only [Act.put,List.setIfInBounds_toArray,List.set_cons_zero,List.set_cons_succ,i64_w,i32_w]; rfl)
                   refine take_ (i := 14) (N := some 106) (v := ?_) (a' := ?_) (bo_ 44 98303) rfl rfl (take_ofW HT_.out HW_.out (by kernel_rfl)) (fun _ _ _ h => h) (Or.inl ⟨by rfl, ?_⟩) hHeld ?_ ?_
                   rotate_left; (· rintro w' ⟨s0, s1, s2, s3, s4, s5, s6, s7⟩; go_simp; with_reducible rfl)
                   rotate_left; (· simp only [Act.put,List.setIfInBounds_toArray,List.set_cons_zero,List.set_cons_succ,i64_w,i32_w]; rfl)
                   refine take_ (i := 15) (N := some 107) (v := ?_) (a' := ?_) (bo_ 44 131071) rfl rfl (take_ofW HT_.out HW_.out (by kernel_rfl)) (fun _ _ _ h => h) (Or.inl ⟨by rfl, ?_⟩) hHeld ?_ ?_
                   rotate_left; (· rintro w' ⟨s0, s1, s2, s3, s4, s5, s6, s7⟩; go_simp; with_reducible rfl)
                   rotate_left; (· simp only [Act.put,List.setIfInBounds_toArray,List.set_cons_zero,List.set_cons_succ,i64_w,i32_w]; rfl)
                   refine take_ (i := 17) (N := some 109) (v := ?_) (a' := ?_) (bo_ 44 262143) rfl rfl (take_ofW HT_.out HW_.out (by kernel_rfl)) (fun _ _ _ h => h) (Or.inl ⟨by rfl, ?_⟩) hHeld ?_ ?_
                   rotate_left; (· rintro w' ⟨s0, s1, s2, s3, s4, s5, s6, s7⟩; go_simp; with_reducible rfl)
                   rotate_left; (· simp only [Act.put,List.setIfInBounds_toArray,List.set_cons_zero,List.set_cons_succ,i64_w,i32_w]; rfl)
                   refine take_ (i := 18) (N := some 110) (v := ?_) (a' := ?_) (bo_ 44 524287) rfl rfl (take_ofW HT_.out HW_.out (by kernel_rfl)) (fun _ _ _ h => h) (Or.inl ⟨by rfl, ?_⟩) hHeld ?_ ?_
                   rotate_left; (· rintro w' ⟨s0, s1, s2, s3, s4, s5, s6, s7⟩; go_simp; with_reducible rfl)
                   rotate_left; (· simp only [Act.put,List.setIfInBounds_toArray,List.set_cons_zero,List.set_cons_succ,i64_w,i32_w]; rfl)
                   refine pure_ (i := 19) (N := some 111) (v := ?_) (a' := ?_) (bo_ 44 1048575) rfl rfl (any_of HT_.out (by kernel_rfl)) (fun _ _ _ h => h) (Or.inl ⟨by rfl, ?_⟩) ?_ ?_
                   rotate_left; (· intro w'; go_simp; with_reducible rfl)
                   rotate_left; (· simp only [Act.put,List.setIfInBounds_toArray,List.set_cons_zero,List.set_cons_succ,i64_w,i32_w]; rfl)
                   refine pure_ (i := 20) (N := some 112) (v := ?_) (a' := ?_) (bo_ 44 2097151) rfl rfl (any_of HT_.out (by kernel_rfl)) (fun _ _ _ h => h) (Or.inl ⟨by rfl, ?_⟩) ?_ ?_
                   rotate_left; (· intro w'; go_simp; with_reducible rfl)
                   rotate_left; (· simp only [Act.put,List.setIfInBounds_toArray,List.set_cons_zero,List.set_cons_succ,i64_w,i32_w]; rfl)
                   refine pure_ (i := 21) (N := some 113) (v := ?_) (a' := ?_) (bo_ 44 4194303) rfl rfl (any_of HT_.out (by kernel_rfl)) (fun _ _ _ h => h) (Or.inl ⟨by rfl, ?_⟩) ?_ ?_
                   rotate_left; (· intro w'; go_simp; with_reducible rfl)
                   rotate_left; (· simp only [Act.put,List.setIfInBounds_toArray,List.set_cons_zero,List.set_cons_succ,i64_w,i32_w]; rfl)
                   refine pure_ (i := 22) (N := some 114) (v := ?_) (a' := ?_) (bo_ 44 8388607) rfl rfl (any_of HT_.out (by kernel_rfl)) (fun _ _ _ h => h) (Or.inl ⟨by rfl, ?_⟩) ?_ ?_
                   rotate_left; (· intro w'; go_simp; with_reducible rfl)
                   rotate_left; (· simp only [Act.put,List.setIfInBounds_toArray,List.set_cons_zero,List.set_cons_succ,i64_w,i32_w]; rfl)
                   refine pure_ (i := 23) (N := some 115) (v := ?_) (a' := ?_) (bo_ 44 16777215) rfl rfl (any_of HT_.out (by kernel_rfl)) (fun _ _ _ h => h) (Or.inl ⟨by rfl, ?_⟩) ?_ ?_
                   rotate_left; (· intro w'; go_simp; with_reducible rfl)
                   rotate_left; (· simp only [Act.put,List.setIfInBounds_toArray,List.set_cons_zero,List.set_cons_succ,i64_w,i32_w]; rfl)
                   refine pure_ (i := 24) (N := some 116) (v := ?_) (a' := ?_) (bo_ 44 33554431) rfl rfl (any_of HT_.out (by kernel_rfl)) (fun _ _ _ h => h) (Or.inl ⟨by rfl, ?_⟩) ?_ ?_
                   rotate_left; (· intro w'; go_simp; with_reducible rfl)
                   rotate_left; (· simp only [Act.put,List.setIfInBounds_toArray,List.set_cons_zero,List.set_cons_succ,i64_w,i32_w]; rfl)
                   refine pure_ (i := 25) (N := some 117) (v := ?_) (a' := ?_) (bo_ 44 67108863) rfl rfl (any_of HT_.out (by kernel_rfl)) (fun _ _ _ h => h) (Or.inl ⟨by rfl, ?_⟩) ?_ ?_
                   rotate_left; (· intro w'; go_simp; with_reducible rfl)
                   rotate_left; (· simp only [Act.put,List.setIfInBounds_toArray,List.set_cons_zero,List.set_cons_succ,i64_w,i32_w]; rfl)
                   refine pure_ (i := 26) (N := some 118) (v := ?_) (a' := ?_) (bo_ 44 134217727) rfl rfl (any_of HT_.out (by kernel_rfl)) (fun _ _ _ h => h) (Or.inl ⟨by rfl, ?_⟩) ?_ ?_
                   rotate_left; (· intro w'; go_simp; with_reducible rfl)
                   rotate_left; (· simp only [Act.put,List.setIfInBounds_toArray,List.set_cons_zero,List.set_cons_succ,i64_w,i32_w]; rfl)
                   refine pure_ (i := 27) (N := some 119) (v := undef) (a' := ?_) (bo_ 44 268435455) rfl rfl (any_of HT_.out (by kernel_rfl)) (fun _ _ _ h => h) (Or.inr ⟨by rfl, rfl⟩) ?_ ?_
                   rotate_left; (· simp only [Act.put,List.setIfInBounds_toArray,List.set_cons_zero,List.set_cons_succ,i64_w,i32_w]; rfl)
                   refine pure_ (i := 28) (N := some 120) (v := undef) (a' := ?_) (bo_ 44 536870911) rfl rfl (any_of HT_.out (by kernel_rfl)) (fun _ _ _ h => h) (Or.inr ⟨by rfl, rfl⟩) ?_ ?_
                   rotate_left; (· simp only [Act.put,List.setIfInBounds_toArray,List.set_cons_zero,List.set_cons_succ,i64_w,i32_w]; rfl)
                   refine pure_ (i := 29) (N := some 121) (v := undef) (a' := ?_) (bo_ 44 1073741823) rfl rfl (any_of HT_.out (by kernel_rfl)) (fun _ _ _ h => h) (Or.inr ⟨by rfl, rfl⟩) ?_ ?_
                   rotate_left; (· simp only [Act.put,List.setIfInBounds_toArray,List.set_cons_zero,List.set_cons_succ,i64_w,i32_w]; rfl)
                   refine pure_ (i := 30) (N := some 122) (v := ?_) (a' := ?_) (bo_ 44 2147483647) rfl rfl (any_of HT_.out (by kernel_rfl)) (fun _ _ _ h => h) (Or.inl ⟨by rfl, ?_⟩) ?_ ?_
                   rotate_left; (· intro w'; go_simp; with_reducible rfl)
                   rotate_left; (· simp only [Act.put,List.setIfInBounds_toArray,List.set_cons_zero,List.set_cons_succ,i64_w,i32_w]; rfl)
                   refine pure_ (i := 31) (N := some 123) (v := ?_) (a' := ?_) (bo_ 44 4294967295) rfl rfl (any_of HT_.out (by kernel_rfl)) (fun _ _ _ h => h) (Or.inl ⟨by rfl, ?_⟩) ?_ ?_
                   rotate_left; (· intro w'; go_simp; with_reducible rfl)
                   rotate_left; (· simp only [Act.put,List.setIfInBounds_toArray,List.set_cons_zero,List.set_cons_succ,i64_w,i32_w]; rfl)
                   refine pure_ (i := 32) (N := some 124) (v := undef) (a' := ?_) (bo_ 44 8589934591) rfl rfl (any_of HT_.out (by kernel_rfl)) (fun _ _ _ h => h) (Or.inr ⟨by rfl, rfl⟩) ?_ ?_
                   rotate_left; (· simp only [Act.put,List.setIfInBounds_toArray,List.set_cons_zero,List.set_cons_succ,i64_w,i32_w]; rfl)
                   refine pure_ (i := 33) (N := some 125) (v := undef) (a' := ?_) (bo_ 44 17179869183) rfl rfl (any_of HT_.out (by kernel_rfl)) (fun _ _ _ h => h) (Or.inr ⟨by rfl, rfl⟩) ?_ ?_
                   rotate_left; (· simp only [Act.put,List.setIfInBounds_toArray,List.set_cons_zero,List.set_cons_succ,i64_w,i32_w]; rfl)
                   refine pure_ (i := 34) (N := some 126) (v := undef) (a' := ?_) (bo_ 44 34359738367) rfl rfl (any_of HT_.out (by kernel_rfl)) (fun _ _ _ h => h) (Or.inr ⟨by rfl, rfl⟩) ?_ ?_
                   rotate_left; (· simp only [Act.put,List.setIfInBounds_toArray,List.set_cons_zero,List.set_cons_succ,i64_w,i32_w]; rfl)
                   refine pure_ (i := 35) (N := some 127) (v := undef) (a' := ?_) (bo_ 44 68719476735) rfl rfl (any_of HT_.out (by kernel_rfl)) (fun _ _ _ h => h) (Or.inr ⟨by rfl, rfl⟩) ?_ ?_
                   rotate_left; (· simp only [Act.put,List.setIfInBounds_toArray,List.set_cons_zero,List.set_cons_succ,i64_w,i32_w]; rfl)
                   refine pure_ (i := 36) (N := some 128) (v := undef) (a' := ?_) (bo_ 44 137438953471) rfl rfl (any_of HT_.out (by kernel_rfl)) (fun _ _ _ h => h) (Or.inr ⟨by rfl, rfl⟩) ?_ ?_
                   rotate_left; (· simp only [Act.put,List.setIfInBounds_toArray,List.set_cons_zero,List.set_cons_succ,i64_w,i32_w]; rfl)
                   refine pure_ (i := 37) (N := some 129) (v := undef) (a' := ?_) (bo_ 44 274877906943) rfl rfl (any_of HT_.out (by kernel_rfl)) (fun _ _ _ h => h) (Or.inr ⟨by rfl, rfl⟩) ?_ ?_
                   rotate_left; (· simp only [Act.put,List.setIfInBounds_toArray,List.set_cons_zero,List.set_cons_succ,i64_w,i32_w]; rfl)
                   refine pure_ (i := 38) (N := some 130) (v := undef) (a' := ?_) (bo_ 44 549755813887) rfl rfl (any_of HT_.out (by kernel_rfl)) (fun _ _ _ h => h) (Or.inr ⟨by rfl, rfl⟩) ?_ ?_
                   rotate_left; (· simp only [Act.put,List.setIfInBounds_toArray,List.set_cons_zero,List.set_cons_succ,i64_w,i32_w]; rfl)
                   refine pure_ (i := 39) (N := some 131) (v := undef) (a' := ?_) (bo_ 44 1099511627775) rfl rfl (any_of HT_.out (by kernel_rfl)) (fun _ _ _ h => h) (Or.inr ⟨by rfl, rfl⟩) ?_ ?_
                   rotate_left; (· simp only [Act.put,List.setIfInBounds_toArray,List.set_cons_zero,List.set_cons_succ,i64_w,i32_w]; rfl)
                   refine pure_ (i := 40) (N := some 132) (v := undef) (a' := ?_) (bo_ 44 2199023255551) rfl rfl (any_of HT_.out (by kernel_rfl)) (fun _ _ _ h => h) (Or.inr ⟨by rfl, rfl⟩) ?_ ?_
                   rotate_left; (· simp only [Act.put,List.setIfInBounds_toArray,List.set_cons_zero,List.set_cons_succ,i64_w,i32_w]; rfl)
                   refine pure_ (i := 41) (N := some 133) (v := undef) (a' := ?_) (bo_ 44 4398046511103) rfl rfl (any_of HT_.out (by kernel_rfl)) (fun _ _ _ h => h) (Or.inr ⟨by rfl, rfl⟩) ?_ ?_
                   rotate_left; (· simp only [Act.put,List.setIfInBounds_toArray,List.set_cons_zero,List.set_cons_succ,i64_w,i32_w]; rfl)
                   refine pure_ (i := 42) (N := some 134) (v := undef) (a' := ?_) (bo_ 44 8796093022207) rfl rfl (any_of HT_.out (by kernel_rfl)) (fun _ _ _ h => h) (Or.inr ⟨by rfl, rfl⟩) ?_ ?_
                   rotate_left; (· simp only [Act.put,List.setIfInBounds_toArray,List.set_cons_zero,List.set_cons_succ,i64_w,i32_w]; rfl)
                   refine pure_ (i := 43) (N := some 135) (v := ?_) (a' := ?_) (bo_ 44 17592186044415) rfl rfl (any_of HT_.out (by kernel_rfl)) (fun _ _ _ h => h) (Or.inl ⟨by rfl, ?_⟩) ?_ ?_
                   rotate_left; (· intro w'; go_simp; with_reducible rfl)
                   rotate_left; (· simp only [Act.put,List.setIfInBounds_toArray,List.set_cons_zero,List.set_cons_succ,i64_w,i32_w]; rfl)
                   refine done_ (done_of HT_.out (by kernel_rfl)) ?_
                   try go_wp2
                   go_meet
                   case rel => exact ⟨_, (true), (by first | rfl | (simp; done) | (simp [*]; done)), H', ⟨by have := HJ8.out; have := HK2.out; first | omega | exact Nat.le_refl _⟩, ⟨by (with_reducible repeat (first | apply Kd.N_alloc | apply Kd.N_drewN | apply Kd.N_drew)); exact HO_15.out⟩, ⟨by (with_reducible repeat (first | apply Kd.R_alloc | apply Kd.R_drewN | apply Kd.R_drew)); exact HO293.out⟩, ⟨by (with_reducible repeat (first | apply Kd.R_alloc | apply Kd.R_drewN | apply Kd.R_drew)); exact HO302.out⟩, ⟨by (with_reducible repeat (first | refine blk_drewN ?_ _ | refine blk_drew ?_ | refine blk_alloc ?_ _)); exact BK296.out⟩, ⟨by (with_reducible repeat (first | refine blk_drewN ?_ _ | refine blk_drew ?_ | refine blk_alloc ?_ _)); exact BK305.out⟩, ⟨by repeat (first | (with_reducible first | exact HB.out | apply below_alloc | apply pw_below_drewN | apply below_drew1 | refine below_set ?_ GE296.out | refine below_set ?_ GE305.out) | exact HB.out)⟩⟩
                 ·rw [if_neg c54] at H
                  have c54b0 : ((strOfNums t291).toList == (strOfNums t300).toList) = false := beq_eq_false_iff_ne.mpr c54
                  have c54b1 : ((strOfNums t291).toList != (strOfNums t300).toList) = true := bne_iff_ne.mpr c54
                  have H' := Aside0.mk H
                  clear H
                  try go_wp2
                  have n0_ : Aside0 (Kd.N (Kd.slice 5 (Kd.int .u8)) 24 (((w48.setCell ⟨gb305, 0, none⟩ (.int .i64 t298)).setCell ⟨gb305, 1, none⟩ (.int .u64 t299)).setCell ⟨gb305, 2, none⟩ (.slice Ao51 t300.length co51)) w.heap.size (fun k_ => (P0_ k_ ∨ w.heap.size ≤ k_) ∧ some k_ ≠ (.slice Ao45 t291.length co45 : Value).ownBlock ∧ some k_ ≠ (.slice Ao51 t300.length co51 : Value).ownBlock ∧ k_ ≠ gb296 ∧ k_ ≠ gb305) (.slice (some ad288) y285.length co41) y285) := ⟨by (with_reducible repeat (first | apply Kd.N_alloc | apply Kd.N_drewN | apply Kd.N_drew)); exact Kd.N_mono (Kd.N_far (p := ⟨gb305, 2, none⟩) (Kd.N_far (p := ⟨gb305, 1, none⟩) (Kd.N_far (p := ⟨gb305, 0, none⟩) (Kd.N_mono HO_15.out (fun k_ hk => (⟨hk, hk.2⟩ : _ ∧ k_ ≠ gb305))) (fun _ hk => hk.2) (.int .i64 t298)) (fun _ hk => hk.2) (.int .u64 t299)) (fun _ hk => hk.2) (.slice Ao51 t300.length co51)) (fun _ hk => ⟨hk.1.1.1.1, ⟨hk.1.1.1.2.1, ⟨hk.1.1.2, ⟨hk.1.1.1.2.2, hk.1.2⟩⟩⟩⟩)⟩
                  have n1_ : Aside0 (Kd.V (Kd.int .u8) 5 (((w48.setCell ⟨gb305, 0, none⟩ (.int .i64 t298)).setCell ⟨gb305, 1, none⟩ (.int .u64 t299)).setCell ⟨gb305, 2, none⟩ (.slice Ao51 t300.length co51)) w.heap.size (fun k_ => (P0_ k_ ∨ w.heap.size ≤ k_) ∧ some k_ ≠ (.slice (some ad288) y285.length co41 : Value).ownBlock ∧ some k_ ≠ (.slice Ao45 t291.length co45 : Value).ownBlock ∧ some k_ ≠ (.slice Ao51 t300.length co51 : Value).ownBlock ∧ k_ ≠ gb296 ∧ k_ ≠ gb305) (.slice A288_0 (rd_L1 y285 x16_2).length c288_0) (rd_L1 y285 x16_2)) := ⟨by (with_reducible repeat (first | apply Kd.V_alloc | apply Kd.V_drewN | apply Kd.V_drew)); exact Kd.V_mono (Kd.V_far (p := ⟨gb305, 2, none⟩) (Kd.V_far (p := ⟨gb305, 1, none⟩) (Kd.V_far (p := ⟨gb305, 0, none⟩) (Kd.V_mono HL288_0.out (fun k_ hk => (⟨hk, hk.2⟩ : _ ∧ k_ ≠ gb305))) (fun _ hk => hk.2) (.int .i64 t298)) (fun _ hk => hk.2) (.int .u64 t299)) (fun _ hk => hk.2) (.slice Ao51 t300.length co51)) (fun _ hk => ⟨hk.1.1.1.1, ⟨hk.1.1.1.2.1, ⟨hk.1.1.1.2.2.1, ⟨hk.1.1.2, ⟨hk.1.1.1.2.2.2, hk.1.2⟩⟩⟩⟩⟩)⟩
                  have n2_ : Aside0 (Kd.R (Kd.int .u8) 5 (((w48.setCell ⟨gb305, 0, none⟩ (.int .i64 t298)).setCell ⟨gb305, 1, none⟩ (.int .u64 t299)).setCell ⟨gb305, 2, none⟩ (.slice Ao51 t300.length co51)) w.heap.size (fun k_ => (w.heap.size ≤ k_) ∧ some k_ ≠ (.slice Ao51 t300.length co51 : Value).ownBlock) (.slice Ao45 t291.length co45) t291) := ⟨by (with_reducible repeat (first | apply Kd.R_alloc | apply Kd.R_drewN | apply Kd.R_drew)); exact Kd.R_mono (Kd.R_far (p := ⟨gb305, 2, none⟩) (Kd.R_far (p := ⟨gb305, 1, none⟩) (Kd.R_far (p := ⟨gb305, 0, none⟩) (Kd.R_types HO293.out BK305.out (by decide)) (fun _ hk => hk.2) (.int .i64 t298)) (fun _ hk => hk.2) (.int .u64 t299)) (fun _ hk => hk.2) (.slice Ao51 t300.length co51)) (fun _ hk => ⟨hk.1.1, hk.1.2⟩)⟩
                  have n3_ : Aside0 (Kd.V (Kd.int .u8) 5 (((w48.setCell ⟨gb305, 0, none⟩ (.int .i64 t298)).setCell ⟨gb305, 1, none⟩ (.int .u64 t299)).setCell ⟨gb305, 2, none⟩ (.slice Ao51 t300.length co51)) w.heap.size (fun k_ => (P0_ k_ ∨ w.heap.size ≤ k_) ∧ some k_ ≠ (.slice (some ad288) y285.length co41 : Value).ownBlock ∧ some k_ ≠ (.slice Ao45 t291.length co45 : Value).ownBlock ∧ some k_ ≠ (.slice Ao51 t300.length co51 : Value).ownBlock ∧ k_ ≠ gb296 ∧ k_ ≠ gb305) (.slice A297_0 (rd_L1 y285 x16_2).length c297_0) (rd_L1 y285 x16_2)) := ⟨by (with_reducible repeat (first | apply Kd.V_alloc | apply Kd.V_drewN | apply Kd.V_drew)); exact Kd.V_mono (Kd.V_far (p := ⟨gb305, 2, none⟩) (Kd.V_far (p := ⟨gb305, 1, none⟩) (Kd.V_far (p := ⟨gb305, 0, none⟩) (Kd.V_mono HL297_0.out (fun k_ hk => (⟨hk, hk.2⟩ : _ ∧ k_ ≠ gb305))) (fun _ hk => hk.2) (.int .i64 t298)) (fun _ hk => hk.2) (.int .u64 t299)) (fun _ hk => hk.2) (.slice Ao51 t300.length co51)) (fun _ hk => ⟨hk.1.1.1.1.1, ⟨hk.1.1.1.2, ⟨hk.1.1.1.1.2.1, ⟨hk.1.1.2, ⟨hk.1.1.1.1.2.2, hk.1.2⟩⟩⟩⟩⟩)⟩
                  have n4_ : Aside0 (Kd.R (Kd.int .u8) 5 (((w48.setCell ⟨gb305, 0, none⟩ (.int .i64 t298)).setCell ⟨gb305, 1, none⟩ (.int .u64 t299)).setCell ⟨gb305, 2, none⟩ (.slice Ao51 t300.length co51)) w.heap.size (fun k_ => (w.heap.size ≤ k_) ∧ some k_ ≠ (.slice Ao45 t291.length co45 : Value).ownBlock) (.slice Ao51 t300.length co51) t300) := ⟨by (with_reducible repeat (first | apply Kd.R_alloc | apply Kd.R_drewN | apply Kd.R_drew)); exact Kd.R_mono (Kd.R_far (p := ⟨gb305, 2, none⟩) (Kd.R_far (p := ⟨gb305, 1, none⟩) (Kd.R_far (p := ⟨gb305, 0, none⟩) (Kd.R_types HO302.out BK305.out (by decide)) (fun _ hk => hk.2) (.int .i64 t298)) (fun _ hk => hk.2) (.int .u64 t299)) (fun _ hk => hk.2) (.slice Ao51 t300.length co51)) (fun _ hk => ⟨hk.1.1.1, hk.1.2⟩)⟩
                  have n5_ : Aside0 ((((w48.setCell ⟨gb305, 0, none⟩ (.int .i64 t298)).setCell ⟨gb305, 1, none⟩ (.int .u64 t299)).setCell ⟨gb305, 2, none⟩ (.slice Ao51 t300.length co51)).heap[gb296]? = some (.cells #[.int .i64 t289, .int .u64 t290, .slice Ao45 t291.length co45] 37 (0, 0))) := ⟨by (with_reducible repeat (first | refine blk_drewN ?_ _ | refine blk_drew ?_ | refine blk_alloc ?_ _)); refine blk_far ?_ NB296_305.out _; (with_reducible repeat (first | refine blk_drewN ?_ _ | refine blk_drew ?_ | refine blk_alloc ?_ _)); refine blk_far ?_ NB296_305.out _; (with_reducible repeat (first | refine blk_drewN ?_ _ | refine blk_drew ?_ | refine blk_alloc ?_ _)); refine blk_far ?_ NB296_305.out _; (with_reducible repeat (first | refine blk_drewN ?_ _ | refine blk_drew ?_ | refine blk_alloc ?_ _)); exact BK296.out⟩
                  have n6_ : Aside0 ((((w48.setCell ⟨gb305, 0, none⟩ (.int .i64 t298)).setCell ⟨gb305, 1, none⟩ (.int .u64 t299)).setCell ⟨gb305, 2, none⟩ (.slice Ao51 t300.length co51)).heap[gb305]? = some (.cells #[.int .i64 t298, .int .u64 t299, .slice Ao51 t300.length co51] 37 (0, 0))) := ⟨by (with_reducible repeat (first | refine blk_drewN ?_ _ | refine blk_drew ?_ | refine blk_alloc ?_ _)); refine blk_put (cs := #[.int .i64 t298, .int .u64 t299, .slice none 0 0]) ?_ 2 _ rfl; (with_reducible repeat (first | refine blk_drewN ?_ _ | refine blk_drew ?_ | refine blk_alloc ?_ _)); refine blk_put (cs := #[.int .i64 t298, .int .u64 0, .slice none 0 0]) ?_ 1 _ rfl; (with_reducible repeat (first | refine blk_drewN ?_ _ | refine blk_drew ?_ | refine blk_alloc ?_ _)); refine blk_put (cs := #[.int .i64 0, .int .u64 0, .slice none 0 0]) ?_ 0 _ rfl; (with_reducible repeat (first | refine blk_drewN ?_ _ | refine blk_drew ?_ | refine blk_alloc ?_ _)); exact BK305.out⟩
                  have n7_ : Aside0 (Below w.heap.size w (((w48.setCell ⟨gb305, 0, none⟩ (.int .i64 t298)).setCell ⟨gb305, 1, none⟩ (.int .u64 t299)).setCell ⟨gb305, 2, none⟩ (.slice Ao51 t300.length co51))) := ⟨by repeat (first | (with_reducible first | exact HB.out | apply below_alloc | apply pw_below_drewN | apply below_drew1 | refine below_set ?_ GE296.out | refine below_set ?_ GE305.out) | exact HB.out)⟩
                  (try clear HO_15)
                  (try clear HL288_0)
                  (try clear HO293)
                  (try clear HL297_0)
                  (try clear HO302)
                  (try clear BK296)
                  (try clear BK305)
                  (try clear HB)
                  generalize (((w48.setCell ⟨gb305, 0, none⟩ (.int .i64 t298)).setCell ⟨gb305, 1, none⟩ (.int .u64 t299)).setCell ⟨gb305, 2, none⟩ (.slice Ao51 t300.length co51)) = w76 at n0_ n1_ n2_ n3_ n4_ n5_ n6_ n7_ ⊢
                  have HO_15 := n0_
                  have HL288_0 := n1_
                  have HO293 := n2_
                  have HL297_0 := n3_
                  have HO302 := n4_
                  have BK296 := n5_
                  have BK305 := n6_
                  have HB := n7_
                  clear n0_ n1_ n2_ n3_ n4_ n5_ n6_ n7_
                  have n0_ := Aside0.mk (Kd.N_drew HO_15.out)
                  have n1_ := Aside0.mk (Kd.V_drew HL288_0.out)
                  have n2_ := Aside0.mk (Kd.R_drew HO293.out)
                  have n3_ := Aside0.mk (Kd.V_drew HL297_0.out)
                  have n4_ := Aside0.mk (Kd.R_drew HO302.out)
                  have n5_ := Aside0.mk (blk_drew BK296.out)
                  have n6_ := Aside0.mk (blk_drew BK305.out)
                  have n7_ := Aside0.mk (below_drew1 HB.out)
                  clear HO_15
                  clear HL288_0
                  clear HO293
                  clear HL297_0
                  clear HO302
                  clear BK296
                  clear BK305
                  clear HB
                  have HO_15 := n0_
                  have HL288_0 := n1_
                  have HO293 := n2_
                  have HL297_0 := n3_
                  have HO302 := n4_
                  have BK296 := n5_
                  have BK305 := n6_
                  have HB := n7_
                  clear n0_ n1_ n2_ n3_ n4_ n5_ n6_ n7_
                  refine start_ (n := 44) (S := fun w' => w'.cell? ⟨gb296, 0, none⟩ = some (.int .i64 t289) ∧ w'.cell? ⟨gb296, 1, none⟩ = some (.int .u64 t290) ∧ w'.cell? ⟨gb296, 2, none⟩ = some (.slice Ao45 t291.length co45) ∧ w'.cell? ⟨gb305, 0, none⟩ = some (.int .i64 t298) ∧ w'.cell? ⟨gb305, 1, none⟩ = some (.int .u64 t299) ∧ w'.cell? ⟨gb305, 2, none⟩ = some (.slice Ao51 t300.length co51) ∧ (convert 24 9 (.slice Ao45 t291.length co45)).run Try.prog w' = .ok (.string (strOfNums t291)) w' ∧ (convert 24 9 (.slice Ao51 t300.length co51)).run Try.prog w' = .ok (.string (strOfNums t300)) w') (ds := []) #[false,false,false,false,false,false,false,false,false,false,false,false,false,false,false,false,false,false,false,false,false,false,false,false,false,false,false,false,false,false,false,false,false,false,false,false,false,false,false,false,false,false,false,false] (by kernel_rfl) rfl rfl ⟨(blk_cell BK296.out 0).trans rfl, (blk_cell BK296.out 1).trans rfl, (blk_cell BK296.out 2).trans rfl, (blk_cell BK305.out 0).trans rfl, (blk_cell BK305.out 1).trans rfl, (blk_cell BK305.out 2).trans rfl, (own_string (P := Try.prog) Try.underlying24 Try.underlying5 Try.underlying9 (Kd.own_of_R HO293.out)), (own_string (P := Try.prog) Try.underlying24 Try.underlying5 Try.underlying9 (Kd.own_of_R HO302.out))⟩ (fun hHeld => ?_); refine with_tabW kerbsuitelaw4_BoxReads.tab12 kerbsuitelaw4_BoxReads.bits12 (fun HT_ HW_ => ?_)
                  generalize w76.drew = w77 at HO_15 HL288_0 HO293 HL297_0 HO302 BK296 BK305 HB hHeld ⊢
                  refine pure_ (i := 0) (N := some 92) (v := ?_) (a' := ?_) (bo_ 44 1) rfl rfl (any_of HT_.out (by kernel_rfl)) (fun _ _ _ h => h) (Or.inl ⟨by rfl, ?_⟩) ?_ ?_
                  rotate_left; (· intro w'; go_simp; with_reducible rfl)
                  rotate_left; (· simp only [Act.put,List.setIfInBounds_toArray,List.set_cons_zero,List.set_cons_succ,i64_w,i32_w]; rfl)
                  refine pure_ (i := 2) (N := some 94) (v := ?_) (a' := ?_) (bo_ 44 5) rfl rfl (any_of HT_.out (by kernel_rfl)) (fun _ _ _ h => h) (Or.inl ⟨by rfl, ?_⟩) ?_ ?_
                  rotate_left; (· intro w'; go_simp; with_reducible rfl)
                  rotate_left; (· simp only [Act.put,List.setIfInBounds_toArray,List.set_cons_zero,List.set_cons_succ,i64_w,i32_w]; rfl)
                  refine take_ (i := 1) (N := some 93) (v := ?_) (a' := ?_) (bo_ 44 7) rfl rfl (take_ofW HT_.out HW_.out (by kernel_rfl)) (fun _ _ _ h => h) (Or.inl ⟨by rfl, ?_⟩) hHeld ?_ ?_
                  rotate_left; (· rintro w' ⟨s0, s1, s2, s3, s4, s5, s6, s7⟩; go_simp; with_reducible rfl)
                  rotate_left; (· simp only [Act.put,List.setIfInBounds_toArray,List.set_cons_zero,List.set_cons_succ,i64_w,i32_w]; rfl)
                  refine take_ (i := 3) (N := some 95) (v := ?_) (a' := ?_) (bo_ 44 15) rfl rfl (take_ofW HT_.out HW_.out (by kernel_rfl)) (fun _ _ _ h => h) (Or.inl ⟨by rfl, ?_⟩) hHeld ?_ ?_
                  rotate_left; (· rintro w' ⟨s0, s1, s2, s3, s4, s5, s6, s7⟩; go_simp; with_reducible rfl)
                  rotate_left; (· simp only [Act.put,List.setIfInBounds_toArray,List.set_cons_zero,List.set_cons_succ,i64_w,i32_w]; rfl)
                  refine pure_ (i := 4) (N := some 96) (v := ?_) (a' := ?_) (bo_ 44 31) rfl rfl (any_of HT_.out (by kernel_rfl)) (fun _ _ _ h => h) (Or.inl ⟨by rfl, ?_⟩) ?_ ?_
                  rotate_left; (· intro w'; go_simp; with_reducible rfl)
                  rotate_left; (· simp only [Act.put,List.setIfInBounds_toArray,List.set_cons_zero,List.set_cons_succ,i64_w,i32_w]; rfl)
                  refine pure_ (i := 5) (N := some 97) (v := ?_) (a' := ?_) (bo_ 44 63) rfl rfl (any_of HT_.out (by kernel_rfl)) (fun _ _ _ h => h) (Or.inl ⟨by rfl, ?_⟩) ?_ ?_
                  rotate_left; (· intro w'; go_simp; with_reducible rfl)
                  rotate_left; (· simp only [Act.put,List.setIfInBounds_toArray,List.set_cons_zero,List.set_cons_succ,i64_w,i32_w]; rfl)
                  refine pure_ (i := 6) (N := some 98) (v := ?_) (a' := ?_) (bo_ 44 127) rfl rfl (any_of HT_.out (by kernel_rfl)) (fun _ _ _ h => h) (Or.inl ⟨by rfl, ?_⟩) ?_ ?_
                  rotate_left; (· intro w'; go_simp; with_reducible rfl)
                  rotate_left; (· simp only [Act.put,List.setIfInBounds_toArray,List.set_cons_zero,List.set_cons_succ,i64_w,i32_w]; rfl)
                  refine pure_ (i := 8) (N := some 100) (v := ?_) (a' := ?_) (bo_ 44 383) rfl rfl (any_of HT_.out (by kernel_rfl)) (fun _ _ _ h => h) (Or.inl ⟨by rfl, ?_⟩) ?_ ?_
                  rotate_left; (· intro w'; go_simp; with_reducible rfl)
                  rotate_left; (· simp only [Act.put,List.setIfInBounds_toArray,List.set_cons_zero,List.set_cons_succ,i64_w,i32_w]; rfl)
                  refine take_ (i := 7) (N := some 99) (v := ?_) (a' := ?_) (bo_ 44 511) rfl rfl (take_ofW HT_.out HW_.out (by kernel_rfl)) (fun _ _ _ h => h) (Or.inl ⟨by rfl, ?_⟩) hHeld ?_ ?_
                  rotate_left; (· rintro w' ⟨s0, s1, s2, s3, s4, s5, s6, s7⟩; go_simp; with_reducible rfl)
                  rotate_left; (· simp only [Act.put,List.setIfInBounds_toArray,List.set_cons_zero,List.set_cons_succ,i64_w,i32_w]; rfl)
                  refine take_ (i := 9) (N := some 101) (v := ?_) (a' := ?_) (bo_ 44 1023) rfl rfl (take_ofW HT_.out HW_.out (by kernel_rfl)) (fun _ _ _ h => h) (Or.inl ⟨by rfl, ?_⟩) hHeld ?_ ?_
                  rotate_left; (· rintro w' ⟨s0, s1, s2, s3, s4, s5, s6, s7⟩; go_simp; with_reducible rfl)
                  rotate_left; (· simp only [Act.put,List.setIfInBounds_toArray,List.set_cons_zero,List.set_cons_succ,i64_w,i32_w]; rfl)
                  refine pure_ (i := 10) (N := some 102) (v := ?_) (a' := ?_) (bo_ 44 2047) rfl rfl (any_of HT_.out (by kernel_rfl)) (fun _ _ _ h => h) (Or.inl ⟨by rfl, ?_⟩) ?_ ?_
                  rotate_left; (· intro w'; go_simp; with_reducible rfl)
                  rotate_left; (· simp only [Act.put,List.setIfInBounds_toArray,List.set_cons_zero,List.set_cons_succ,i64_w,i32_w]; rfl)
                  refine pure_ (i := 11) (N := some 103) (v := ?_) (a' := ?_) (bo_ 44 4095) rfl rfl (any_of HT_.out (by kernel_rfl)) (fun _ _ _ h => h) (Or.inl ⟨by rfl, ?_⟩) ?_ ?_
                  rotate_left; (· intro w'; go_simp; with_reducible rfl)
                  rotate_left; (· simp only [Act.put,List.setIfInBounds_toArray,List.set_cons_zero,List.set_cons_succ,i64_w,i32_w]; rfl)
                  refine pure_ (i := 12) (N := some 104) (v := ?_) (a' := ?_) (bo_ 44 8191) rfl rfl (any_of HT_.out (by kernel_rfl)) (fun _ _ _ h => h) (Or.inl ⟨by rfl, ?_⟩) ?_ ?_
                  rotate_left; (· intro w'; go_simp; with_reducible rfl)
                  rotate_left; (· simp only [Act.put,List.setIfInBounds_toArray,List.set_cons_zero,List.set_cons_succ,i64_w,i32_w]; rfl)
                  refine pure_ (i := 13) (N := some 105) (v := ?_) (a' := ?_) (bo_ 44 16383) rfl rfl (any_of HT_.out (by kernel_rfl)) (fun _ _ _ h => h) (Or.inl ⟨by rfl, ?_⟩) ?_ ?_
                  rotate_left; (· intro w'; go_simp; with_reducible rfl)
                  rotate_left; (· simp only [Act.put,List.setIfInBounds_toArray,List.set_cons_zero,List.set_cons_succ,i64_w,i32_w]; rfl)
                  refine pure_ (i := 16) (N := some 108) (v := ?_) (a' := ?_) (bo_ 44 81919) rfl rfl (any_of HT_.out (by kernel_rfl)) (fun _ _ _ h => h) (Or.inl ⟨by rfl, ?_⟩) ?_ ?_
                  rotate_left; (· intro w'; go_simp; with_reducible rfl)
                  rotate_left; (· simp only [Act.put,List.setIfInBounds_toArray,List.set_cons_zero,List.set_cons_succ,i64_w,i32_w]; rfl)
                  refine take_ (i := 14) (N := some 106) (v := ?_) (a' := ?_) (bo_ 44 98303) rfl rfl (take_ofW HT_.out HW_.out (by kernel_rfl)) (fun _ _ _ h => h) (Or.inl ⟨by rfl, ?_⟩) hHeld ?_ ?_
                  rotate_left; (· rintro w' ⟨s0, s1, s2, s3, s4, s5, s6, s7⟩; go_simp; with_reducible rfl)
                  rotate_left; (· simp only [Act.put,List.setIfInBounds_toArray,List.set_cons_zero,List.set_cons_succ,i64_w,i32_w]; rfl)
                  refine take_ (i := 15) (N := some 107) (v := ?_) (a' := ?_) (bo_ 44 131071) rfl rfl (take_ofW HT_.out HW_.out (by kernel_rfl)) (fun _ _ _ h => h) (Or.inl ⟨by rfl, ?_⟩) hHeld ?_ ?_
                  rotate_left; (· rintro w' ⟨s0, s1, s2, s3, s4, s5, s6, s7⟩; go_simp; with_reducible rfl)
                  rotate_left; (· simp only [Act.put,List.setIfInBounds_toArray,List.set_cons_zero,List.set_cons_succ,i64_w,i32_w]; rfl)
                  refine take_ (i := 17) (N := some 109) (v := ?_) (a' := ?_) (bo_ 44 262143) rfl rfl (take_ofW HT_.out HW_.out (by kernel_rfl)) (fun _ _ _ h => h) (Or.inl ⟨by rfl, ?_⟩) hHeld ?_ ?_
                  rotate_left; (· rintro w' ⟨s0, s1, s2, s3, s4, s5, s6, s7⟩; go_simp; with_reducible rfl)
                  rotate_left; (· simp only [Act.put,List.setIfInBounds_toArray,List.set_cons_zero,List.set_cons_succ,i64_w,i32_w]; rfl)
                  refine take_ (i := 18) (N := some 110) (v := ?_) (a' := ?_) (bo_ 44 524287) rfl rfl (take_ofW HT_.out HW_.out (by kernel_rfl)) (fun _ _ _ h => h) (Or.inl ⟨by rfl, ?_⟩) hHeld ?_ ?_
                  rotate_left; (· rintro w' ⟨s0, s1, s2, s3, s4, s5, s6, s7⟩; go_simp; with_reducible rfl)
                  rotate_left; (· simp only [Act.put,List.setIfInBounds_toArray,List.set_cons_zero,List.set_cons_succ,i64_w,i32_w]; rfl)
                  refine pure_ (i := 19) (N := some 111) (v := ?_) (a' := ?_) (bo_ 44 1048575) rfl rfl (any_of HT_.out (by kernel_rfl)) (fun _ _ _ h => h) (Or.inl ⟨by rfl, ?_⟩) ?_ ?_
                  rotate_left; (· intro w'; go_simp; with_reducible rfl)
                  rotate_left; (· simp only [Act.put,List.setIfInBounds_toArray,List.set_cons_zero,List.set_cons_succ,i64_w,i32_w]; rfl)
                  refine pure_ (i := 20) (N := some 112) (v := ?_) (a' := ?_) (bo_ 44 2097151) rfl rfl (any_of HT_.out (by kernel_rfl)) (fun _ _ _ h => h) (Or.inl ⟨by rfl, ?_⟩) ?_ ?_
                  rotate_left; (· intro w'; go_simp; with_reducible rfl)
                  rotate_left; (· simp only [Act.put,List.setIfInBounds_toArray,List.set_cons_zero,List.set_cons_succ,i64_w,i32_w]; rfl)
                  refine pure_ (i := 21) (N := some 113) (v := ?_) (a' := ?_) (bo_ 44 4194303) rfl rfl (any_of HT_.out (by kernel_rfl)) (fun _ _ _ h => h) (Or.inl ⟨by rfl, ?_⟩) ?_ ?_
                  rotate_left; (· intro w'; go_simp; with_reducible rfl)
                  rotate_left; (· simp only [Act.put,List.setIfInBounds_toArray,List.set_cons_zero,List.set_cons_succ,i64_w,i32_w]; rfl)
                  refine pure_ (i := 22) (N := some 114) (v := undef) (a' := ?_) (bo_ 44 8388607) rfl rfl (any_of HT_.out (by kernel_rfl)) (fun _ _ _ h => h) (Or.inr ⟨by rfl, rfl⟩) ?_ ?_
                  rotate_left; (· simp only [Act.put,List.setIfInBounds_toArray,List.set_cons_zero,List.set_cons_succ,i64_w,i32_w]; rfl)
                  refine pure_ (i := 23) (N := some 115) (v := undef) (a' := ?_) (bo_ 44 16777215) rfl rfl (any_of HT_.out (by kernel_rfl)) (fun _ _ _ h => h) (Or.inr ⟨by rfl, rfl⟩) ?_ ?_
                  rotate_left; (· simp only [Act.put,List.setIfInBounds_toArray,List.set_cons_zero,List.set_cons_succ,i64_w,i32_w]; rfl)
                  refine pure_ (i := 24) (N := some 116) (v := undef) (a' := ?_) (bo_ 44 33554431) rfl rfl (any_of HT_.out (by kernel_rfl)) (fun _ _ _ h => h) (Or.inr ⟨by rfl, rfl⟩) ?_ ?_
                  rotate_left; (· simp only [Act.put,List.setIfInBounds_toArray,List.set_cons_zero,List.set_cons_succ,i64_w,i32_w]; rfl)
                  refine pure_ (i := 25) (N := some 117) (v := ?_) (a' := ?_) (bo_ 44 67108863) rfl rfl (any_of HT_.out (by kernel_rfl)) (fun _ _ _ h => h) (Or.inl ⟨by rfl, ?_⟩) ?_ ?_
                  rotate_left; (· intro w'; go_simp; with_reducible rfl)
                  rotate_left; (· simp only [Act.put,List.setIfInBounds_toArray,List.set_cons_zero,List.set_cons_succ,i64_w,i32_w]; rfl)
                  refine pure_ (i := 26) (N := some 118) (v := ?_) (a' := ?_) (bo_ 44 134217727) rfl rfl (any_of HT_.out (by kernel_rfl)) (fun _ _ _ h => h) (Or.inl ⟨by rfl, ?_⟩) ?_ ?_
                  rotate_left; (· intro w'; go_simp; with_reducible rfl)
                  rotate_left; (· simp only [Act.put,List.setIfInBounds_toArray,List.set_cons_zero,List.set_cons_succ,i64_w,i32_w]; rfl)
                  refine pure_ (i := 27) (N := some 119) (v := undef) (a' := ?_) (bo_ 44 268435455) rfl rfl (any_of HT_.out (by kernel_rfl)) (fun _ _ _ h => h) (Or.inr ⟨by rfl, rfl⟩) ?_ ?_
                  rotate_left; (· simp only [Act.put,List.setIfInBounds_toArray,List.set_cons_zero,List.set_cons_succ,i64_w,i32_w]; rfl)
                  refine pure_ (i := 28) (N := some 120) (v := undef) (a' := ?_) (bo_ 44 536870911) rfl rfl (any_of HT_.out (by kernel_rfl)) (fun _ _ _ h => h) (Or.inr ⟨by rfl, rfl⟩) ?_ ?_
                  rotate_left; (· simp only [Act.put,List.setIfInBounds_toArray,List.set_cons_zero,List.set_cons_succ,i64_w,i32_w]; rfl)
                  refine pure_ (i := 29) (N := some 121) (v := undef) (a' := ?_) (bo_ 44 1073741823) rfl rfl (any_of HT_.out (by kernel_rfl)) (fun _ _ _ h => h) (Or.inr ⟨by rfl, rfl⟩) ?_ ?_
                  rotate_left; (· simp only [Act.put,List.setIfInBounds_toArray,List.set_cons_zero,List.set_cons_succ,i64_w,i32_w]; rfl)
                  refine pure_ (i := 30) (N := some 122) (v := ?_) (a' := ?_) (bo_ 44 2147483647) rfl rfl (any_of HT_.out (by kernel_rfl)) (fun _ _ _ h => h) (Or.inl ⟨by rfl, ?_⟩) ?_ ?_
                  rotate_left; (· intro w'; go_simp; with_reducible rfl)
                  rotate_left; (· simp only [Act.put,List.setIfInBounds_toArray,List.set_cons_zero,List.set_cons_succ,i64_w,i32_w]; rfl)
                  refine pure_ (i := 31) (N := some 123) (v := ?_) (a' := ?_) (bo_ 44 4294967295) rfl rfl (any_of HT_.out (by kernel_rfl)) (fun _ _ _ h => h) (Or.inl ⟨by rfl, ?_⟩) ?_ ?_
                  rotate_left; (· intro w'; go_simp; with_reducible rfl)
                  rotate_left; (· simp only [Act.put,List.setIfInBounds_toArray,List.set_cons_zero,List.set_cons_succ,i64_w,i32_w]; rfl)
                  refine pure_ (i := 32) (N := some 124) (v := undef) (a' := ?_) (bo_ 44 8589934591) rfl rfl (any_of HT_.out (by kernel_rfl)) (fun _ _ _ h => h) (Or.inr ⟨by rfl, rfl⟩) ?_ ?_
                  rotate_left; (· simp only [Act.put,List.setIfInBounds_toArray,List.set_cons_zero,List.set_cons_succ,i64_w,i32_w]; rfl)
                  refine pure_ (i := 33) (N := some 125) (v := undef) (a' := ?_) (bo_ 44 17179869183) rfl rfl (any_of HT_.out (by kernel_rfl)) (fun _ _ _ h => h) (Or.inr ⟨by rfl, rfl⟩) ?_ ?_
                  rotate_left; (· simp only [Act.put,List.setIfInBounds_toArray,List.set_cons_zero,List.set_cons_succ,i64_w,i32_w]; rfl)
                  refine pure_ (i := 34) (N := some 126) (v := undef) (a' := ?_) (bo_ 44 34359738367) rfl rfl (any_of HT_.out (by kernel_rfl)) (fun _ _ _ h => h) (Or.inr ⟨by rfl, rfl⟩) ?_ ?_
                  rotate_left; (· simp only [Act.put,List.setIfInBounds_toArray,List.set_cons_zero,List.set_cons_succ,i64_w,i32_w]; rfl)
                  refine pure_ (i := 35) (N := some 127) (v := undef) (a' := ?_) (bo_ 44 68719476735) rfl rfl (any_of HT_.out (by kernel_rfl)) (fun _ _ _ h => h) (Or.inr ⟨by rfl, rfl⟩) ?_ ?_
                  rotate_left; (· simp only [Act.put,List.setIfInBounds_toArray,List.set_cons_zero,List.set_cons_succ,i64_w,i32_w]; rfl)
                  refine pure_ (i := 36) (N := some 128) (v := undef) (a' := ?_) (bo_ 44 137438953471) rfl rfl (any_of HT_.out (by kernel_rfl)) (fun _ _ _ h => h) (Or.inr ⟨by rfl, rfl⟩) ?_ ?_
                  rotate_left; (· simp only [Act.put,List.setIfInBounds_toArray,List.set_cons_zero,List.set_cons_succ,i64_w,i32_w]; rfl)
                  refine pure_ (i := 37) (N := some 129) (v := undef) (a' := ?_) (bo_ 44 274877906943) rfl rfl (any_of HT_.out (by kernel_rfl)) (fun _ _ _ h => h) (Or.inr ⟨by rfl, rfl⟩) ?_ ?_
                  rotate_left; (· simp only [Act.put,List.setIfInBounds_toArray,List.set_cons_zero,List.set_cons_succ,i64_w,i32_w]; rfl)
                  refine pure_ (i := 38) (N := some 130) (v := undef) (a' := ?_) (bo_ 44 549755813887) rfl rfl (any_of HT_.out (by kernel_rfl)) (fun _ _ _ h => h) (Or.inr ⟨by rfl, rfl⟩) ?_ ?_
                  rotate_left; (· simp only [Act.put,List.setIfInBounds_toArray,List.set_cons_zero,List.set_cons_succ,i64_w,i32_w]; rfl)
                  refine pure_ (i := 39) (N := some 131) (v := undef) (a' := ?_) (bo_ 44 1099511627775) rfl rfl (any_of HT_.out (by kernel_rfl)) (fun _ _ _ h => h) (Or.inr ⟨by rfl, rfl⟩) ?_ ?_
                  rotate_left; (· simp only [Act.put,List.setIfInBounds_toArray,List.set_cons_zero,List.set_cons_succ,i64_w,i32_w]; rfl)
                  refine pure_ (i := 40) (N := some 132) (v := undef) (a' := ?_) (bo_ 44 2199023255551) rfl rfl (any_of HT_.out (by kernel_rfl)) (fun _ _ _ h => h) (Or.inr ⟨by rfl, rfl⟩) ?_ ?_
                  rotate_left; (· simp only [Act.put,List.setIfInBounds_toArray,List.set_cons_zero,List.set_cons_succ,i64_w,i32_w]; rfl)
                  refine pure_ (i := 41) (N := some 133) (v := undef) (a' := ?_) (bo_ 44 4398046511103) rfl rfl (any_of HT_.out (by kernel_rfl)) (fun _ _ _ h => h) (Or.inr ⟨by rfl, rfl⟩) ?_ ?_
                  rotate_left; (· simp only [Act.put,List.setIfInBounds_toArray,List.set_cons_zero,List.set_cons_succ,i64_w,i32_w]; rfl)
                  refine pure_ (i := 42) (N := some 134) (v := undef) (a' := ?_) (bo_ 44 8796093022207) rfl rfl (any_of HT_.out (by kernel_rfl)) (fun _ _ _ h => h) (Or.inr ⟨by rfl, rfl⟩) ?_ ?_
                  rotate_left; (· simp only [Act.put,List.setIfInBounds_toArray,List.set_cons_zero,List.set_cons_succ,i64_w,i32_w]; rfl)
                  refine pure_ (i := 43) (N := some 135) (v := ?_) (a' := ?_) (bo_ 44 17592186044415) rfl rfl (any_of HT_.out (by kernel_rfl)) (fun _ _ _ h => h) (Or.inl ⟨by rfl, ?_⟩) ?_ ?_
                  rotate_left; (· intro w'; go_simp; with_reducible rfl)
                  rotate_left; (· simp only [Act.put,List.setIfInBounds_toArray,List.set_cons_zero,List.set_cons_succ,i64_w,i32_w]; rfl)
                  refine done_ (done_of HT_.out (by kernel_rfl)) ?_
                  try go_wp2
                  go_meet
                  case rel => exact ⟨_, (true), (by first | rfl | (simp; done) | (simp [*]; done)), H', ⟨by have := HJ8.out; have := HK2.out; first | omega | exact Nat.le_refl _⟩, ⟨by (with_reducible repeat (first | apply Kd.N_alloc | apply Kd.N_drewN | apply Kd.N_drew)); exact HO_15.out⟩, ⟨by (with_reducible repeat (first | apply Kd.R_alloc | apply Kd.R_drewN | apply Kd.R_drew)); exact HO293.out⟩, ⟨by (with_reducible repeat (first | apply Kd.R_alloc | apply Kd.R_drewN | apply Kd.R_drew)); exact HO302.out⟩, ⟨by (with_reducible repeat (first | refine blk_drewN ?_ _ | refine blk_drew ?_ | refine blk_alloc ?_ _)); exact BK296.out⟩, ⟨by (with_reducible repeat (first | refine blk_drewN ?_ _ | refine blk_drew ?_ | refine blk_alloc ?_ _)); exact BK305.out⟩, ⟨by repeat (first | (with_reducible first | exact HB.out | apply below_alloc | apply pw_below_drewN | apply below_drew1 | refine below_set ?_ GE296.out | refine below_set ?_ GE305.out) | exact HB.out)⟩⟩
                ·rw [if_neg c53] at H
                 have c53b0 : (t290 == t299) = false := beq_eq_false_iff_ne.mpr c53
                 have c53b1 : (t290 != t299) = true := bne_iff_ne.mpr c53
                 have H' := Aside0.mk H
                 clear H
                 try go_wp2
                 have n0_ : Aside0 (Kd.N (Kd.slice 5 (Kd.int .u8)) 24 (((w48.setCell ⟨gb305, 0, none⟩ (.int .i64 t298)).setCell ⟨gb305, 1, none⟩ (.int .u64 t299)).setCell ⟨gb305, 2, none⟩ (.slice Ao51 t300.length co51)) w.heap.size (fun k_ => (P0_ k_ ∨ w.heap.size ≤ k_) ∧ some k_ ≠ (.slice Ao45 t291.length co45 : Value).ownBlock ∧ some k_ ≠ (.slice Ao51 t300.length co51 : Value).ownBlock ∧ k_ ≠ gb296 ∧ k_ ≠ gb305) (.slice (some ad288) y285.length co41) y285) := ⟨by (with_reducible repeat (first | apply Kd.N_alloc | apply Kd.N_drewN | apply Kd.N_drew)); exact Kd.N_mono (Kd.N_far (p := ⟨gb305, 2, none⟩) (Kd.N_far (p := ⟨gb305, 1, none⟩) (Kd.N_far (p := ⟨gb305, 0, none⟩) (Kd.N_mono HO_15.out (fun k_ hk => (⟨hk, hk.2⟩ : _ ∧ k_ ≠ gb305))) (fun _ hk => hk.2) (.int .i64 t298)) (fun _ hk => hk.2) (.int .u64 t299)) (fun _ hk => hk.2) (.slice Ao51 t300.length co51)) (fun _ hk => ⟨hk.1.1.1.1, ⟨hk.1.1.1.2.1, ⟨hk.1.1.2, ⟨hk.1.1.1.2.2, hk.1.2⟩⟩⟩⟩)⟩
                 have n1_ : Aside0 (Kd.V (Kd.int .u8) 5 (((w48.setCell ⟨gb305, 0, none⟩ (.int .i64 t298)).setCell ⟨gb305, 1, none⟩ (.int .u64 t299)).setCell ⟨gb305, 2, none⟩ (.slice Ao51 t300.length co51)) w.heap.size (fun k_ => (P0_ k_ ∨ w.heap.size ≤ k_) ∧ some k_ ≠ (.slice (some ad288) y285.length co41 : Value).ownBlock ∧ some k_ ≠ (.slice Ao45 t291.length co45 : Value).ownBlock ∧ some k_ ≠ (.slice Ao51 t300.length co51 : Value).ownBlock ∧ k_ ≠ gb296 ∧ k_ ≠ gb305) (.slice A288_0 (rd_L1 y285 x16_2).length c288_0) (rd_L1 y285 x16_2)) := ⟨by (with_reducible repeat (first | apply Kd.V_alloc | apply Kd.V_drewN | apply Kd.V_drew)); exact Kd.V_mono (Kd.V_far (p := ⟨gb305, 2, none⟩) (Kd.V_far (p := ⟨gb305, 1, none⟩) (Kd.V_far (p := ⟨gb305, 0, none⟩) (Kd.V_mono HL288_0.out (fun k_ hk => (⟨hk, hk.2⟩ : _ ∧ k_ ≠ gb305))) (fun _ hk => hk.2) (.int .i64 t298)) (fun _ hk => hk.2) (.int .u64 t299)) (fun _ hk => hk.2) (.slice Ao51 t300.length co51)) (fun _ hk => ⟨hk.1.1.1.1, ⟨hk.1.1.1.2.1, ⟨hk.1.1.1.2.2.1, ⟨hk.1.1.2, ⟨hk.1.1.1.2.2.2, hk.1.2⟩⟩⟩⟩⟩)⟩
                 have n2_ : Aside0 (Kd.R (Kd.int .u8) 5 (((w48.setCell ⟨gb305, 0, none⟩ (.int .i64 t298)).setCell ⟨gb305, 1, none⟩ (.int .u64 t299)).setCell ⟨gb305, 2, none⟩ (.slice Ao51 t300.length co51)) w.heap.size (fun k_ => (w.heap.size ≤ k_) ∧ some k_ ≠ (.slice Ao51 t300.length co51 : Value).ownBlock) (.slice Ao45 t291.length co45) t291) := ⟨by (with_reducible repeat (first | apply Kd.R_alloc | apply Kd.R_drewN | apply Kd.R_drew)); exact Kd.R_mono (Kd.R_far (p := ⟨gb305, 2, none⟩) (Kd.R_far (p := ⟨gb305, 1, none⟩) (Kd.R_far (p := ⟨gb305, 0, none⟩) (Kd.R_types HO293.out BK305.out (by decide)) (fun _ hk => hk.2) (.int .i64 t298)) (fun _ hk => hk.2) (.int .u64 t299)) (fun _ hk => hk.2) (.slice Ao51 t300.length co51)) (fun _ hk => ⟨hk.1.1, hk.1.2⟩)⟩
                 have n3_ : Aside0 (Kd.V (Kd.int .u8) 5 (((w48.setCell ⟨gb305, 0, none⟩ (.int .i64 t298)).setCell ⟨gb305, 1, none⟩ (.int .u64 t299)).setCell ⟨gb305, 2, none⟩ (.slice Ao51 t300.length co51)) w.heap.size (fun k_ => (P0_ k_ ∨ w.heap.size ≤ k_) ∧ some k_ ≠ (.slice (some ad288) y285.length co41 : Value).ownBlock ∧ some k_ ≠ (.slice Ao45 t291.length co45 : Value).ownBlock ∧ some k_ ≠ (.slice Ao51 t300.length co51 : Value).ownBlock ∧ k_ ≠ gb296 ∧ k_ ≠ gb305) (.slice A297_0 (rd_L1 y285 x16_2).length c297_0) (rd_L1 y285 x16_2)) := ⟨by (with_reducible repeat (first | apply Kd.V_alloc | apply Kd.V_drewN | apply Kd.V_drew)); exact Kd.V_mono (Kd.V_far (p := ⟨gb305, 2, none⟩) (Kd.V_far (p := ⟨gb305, 1, none⟩) (Kd.V_far (p := ⟨gb305, 0, none⟩) (Kd.V_mono HL297_0.out (fun k_ hk => (⟨hk, hk.2⟩ : _ ∧ k_ ≠ gb305))) (fun _ hk => hk.2) (.int .i64 t298)) (fun _ hk => hk.2) (.int .u64 t299)) (fun _ hk => hk.2) (.slice Ao51 t300.length co51)) (fun _ hk => ⟨hk.1.1.1.1.1, ⟨hk.1.1.1.2, ⟨hk.1.1.1.1.2.1, ⟨hk.1.1.2, ⟨hk.1.1.1.1.2.2, hk.1.2⟩⟩⟩⟩⟩)⟩
                 have n4_ : Aside0 (Kd.R (Kd.int .u8) 5 (((w48.setCell ⟨gb305, 0, none⟩ (.int .i64 t298)).setCell ⟨gb305, 1, none⟩ (.int .u64 t299)).setCell ⟨gb305, 2, none⟩ (.slice Ao51 t300.length co51)) w.heap.size (fun k_ => (w.heap.size ≤ k_) ∧ some k_ ≠ (.slice Ao45 t291.length co45 : Value).ownBlock) (.slice Ao51 t300.length co51) t300) := ⟨by (with_reducible repeat (first | apply Kd.R_alloc | apply Kd.R_drewN | apply Kd.R_drew)); exact Kd.R_mono (Kd.R_far (p := ⟨gb305, 2, none⟩) (Kd.R_far (p := ⟨gb305, 1, none⟩) (Kd.R_far (p := ⟨gb305, 0, none⟩) (Kd.R_types HO302.out BK305.out (by decide)) (fun _ hk => hk.2) (.int .i64 t298)) (fun _ hk => hk.2) (.int .u64 t299)) (fun _ hk => hk.2) (.slice Ao51 t300.length co51)) (fun _ hk => ⟨hk.1.1.1, hk.1.2⟩)⟩
                 have n5_ : Aside0 ((((w48.setCell ⟨gb305, 0, none⟩ (.int .i64 t298)).setCell ⟨gb305, 1, none⟩ (.int .u64 t299)).setCell ⟨gb305, 2, none⟩ (.slice Ao51 t300.length co51)).heap[gb296]? = some (.cells #[.int .i64 t289, .int .u64 t290, .slice Ao45 t291.length co45] 37 (0, 0))) := ⟨by (with_reducible repeat (first | refine blk_drewN ?_ _ | refine blk_drew ?_ | refine blk_alloc ?_ _)); refine blk_far ?_ NB296_305.out _; (with_reducible repeat (first | refine blk_drewN ?_ _ | refine blk_drew ?_ | refine blk_alloc ?_ _)); refine blk_far ?_ NB296_305.out _; (with_reducible repeat (first | refine blk_drewN ?_ _ | refine blk_drew ?_ | refine blk_alloc ?_ _)); refine blk_far ?_ NB296_305.out _; (with_reducible repeat (first | refine blk_drewN ?_ _ | refine blk_drew ?_ | refine blk_alloc ?_ _)); exact BK296.out⟩
                 have n6_ : Aside0 ((((w48.setCell ⟨gb305, 0, none⟩ (.int .i64 t298)).setCell ⟨gb305, 1, none⟩ (.int .u64 t299)).setCell ⟨gb305, 2, none⟩ (.slice Ao51 t300.length co51)).heap[gb305]? = some (.cells #[.int .i64 t298, .int .u64 t299, .slice Ao51 t300.length co51] 37 (0, 0))) := ⟨by (with_reducible repeat (first | refine blk_drewN ?_ _ | refine blk_drew ?_ | refine blk_alloc ?_ _)); refine blk_put (cs := #[.int .i64 t298, .int .u64 t299, .slice none 0 0]) ?_ 2 _ rfl; (with_reducible repeat (first | refine blk_drewN ?_ _ | refine blk_drew ?_ | refine blk_alloc ?_ _)); refine blk_put (cs := #[.int .i64 t298, .int .u64 0, .slice none 0 0]) ?_ 1 _ rfl; (with_reducible repeat (first | refine blk_drewN ?_ _ | refine blk_drew ?_ | refine blk_alloc ?_ _)); refine blk_put (cs := #[.int .i64 0, .int .u64 0, .slice none 0 0]) ?_ 0 _ rfl; (with_reducible repeat (first | refine blk_drewN ?_ _ | refine blk_drew ?_ | refine blk_alloc ?_ _)); exact BK305.out⟩
                 have n7_ : Aside0 (Below w.heap.size w (((w48.setCell ⟨gb305, 0, none⟩ (.int .i64 t298)).setCell ⟨gb305, 1, none⟩ (.int .u64 t299)).setCell ⟨gb305, 2, none⟩ (.slice Ao51 t300.length co51))) := ⟨by repeat (first | (with_reducible first | exact HB.out | apply below_alloc | apply pw_below_drewN | apply below_drew1 | refine below_set ?_ GE296.out | refine below_set ?_ GE305.out) | exact HB.out)⟩
                 (try clear HO_15)
                 (try clear HL288_0)
                 (try clear HO293)
                 (try clear HL297_0)
                 (try clear HO302)
                 (try clear BK296)
                 (try clear BK305)
                 (try clear HB)
                 generalize (((w48.setCell ⟨gb305, 0, none⟩ (.int .i64 t298)).setCell ⟨gb305, 1, none⟩ (.int .u64 t299)).setCell ⟨gb305, 2, none⟩ (.slice Ao51 t300.length co51)) = w81 at n0_ n1_ n2_ n3_ n4_ n5_ n6_ n7_ ⊢
                 have HO_15 := n0_
                 have HL288_0 := n1_
                 have HO293 := n2_
                 have HL297_0 := n3_
                 have HO302 := n4_
                 have BK296 := n5_
                 have BK305 := n6_
                 have HB := n7_
                 clear n0_ n1_ n2_ n3_ n4_ n5_ n6_ n7_
                 have n0_ := Aside0.mk (Kd.N_drew HO_15.out)
                 have n1_ := Aside0.mk (Kd.V_drew HL288_0.out)
                 have n2_ := Aside0.mk (Kd.R_drew HO293.out)
                 have n3_ := Aside0.mk (Kd.V_drew HL297_0.out)
                 have n4_ := Aside0.mk (Kd.R_drew HO302.out)
                 have n5_ := Aside0.mk (blk_drew BK296.out)
                 have n6_ := Aside0.mk (blk_drew BK305.out)
                 have n7_ := Aside0.mk (below_drew1 HB.out)
                 clear HO_15
                 clear HL288_0
                 clear HO293
                 clear HL297_0
                 clear HO302
                 clear BK296
                 clear BK305
                 clear HB
                 have HO_15 := n0_
                 have HL288_0 := n1_
                 have HO293 := n2_
                 have HL297_0 := n3_
                 have HO302 := n4_
                 have BK296 := n5_
                 have BK305 := n6_
                 have HB := n7_
                 clear n0_ n1_ n2_ n3_ n4_ n5_ n6_ n7_
                 refine start_ (n := 44) (S := fun w' => w'.cell? ⟨gb296, 0, none⟩ = some (.int .i64 t289) ∧ w'.cell? ⟨gb296, 1, none⟩ = some (.int .u64 t290) ∧ w'.cell? ⟨gb296, 2, none⟩ = some (.slice Ao45 t291.length co45) ∧ w'.cell? ⟨gb305, 0, none⟩ = some (.int .i64 t298) ∧ w'.cell? ⟨gb305, 1, none⟩ = some (.int .u64 t299) ∧ w'.cell? ⟨gb305, 2, none⟩ = some (.slice Ao51 t300.length co51)) (ds := []) #[false,false,false,false,false,false,false,false,false,false,false,false,false,false,false,false,false,false,false,false,false,false,false,false,false,false,false,false,false,false,false,false,false,false,false,false,false,false,false,false,false,false,false,false] (by kernel_rfl) rfl rfl ⟨(blk_cell BK296.out 0).trans rfl, (blk_cell BK296.out 1).trans rfl, (blk_cell BK296.out 2).trans rfl, (blk_cell BK305.out 0).trans rfl, (blk_cell BK305.out 1).trans rfl, (blk_cell BK305.out 2).trans rfl⟩ (fun hHeld => ?_); refine with_tabW kerbsuitelaw4_BoxReads.tab12 kerbsuitelaw4_BoxReads.bits12 (fun HT_ HW_ => ?_)
                 generalize w81.drew = w82 at HO_15 HL288_0 HO293 HL297_0 HO302 BK296 BK305 HB hHeld ⊢
                 refine pure_ (i := 0) (N := some 92) (v := ?_) (a' := ?_) (bo_ 44 1) rfl rfl (any_of HT_.out (by kernel_rfl)) (fun _ _ _ h => h) (Or.inl ⟨by rfl, ?_⟩) ?_ ?_
                 rotate_left; (· intro w'; go_simp; with_reducible rfl)
                 rotate_left; (· simp only [Act.put,List.setIfInBounds_toArray,List.set_cons_zero,List.set_cons_succ,i64_w,i32_w]; rfl)
                 refine pure_ (i := 2) (N := some 94) (v := ?_) (a' := ?_) (bo_ 44 5) rfl rfl (any_of HT_.out (by kernel_rfl)) (fun _ _ _ h => h) (Or.inl ⟨by rfl, ?_⟩) ?_ ?_
                 rotate_left; (· intro w'; go_simp; with_reducible rfl)
                 rotate_left; (· simp only [Act.put,List.setIfInBounds_toArray,List.set_cons_zero,List.set_cons_succ,i64_w,i32_w]; rfl)
                 refine take_ (i := 1) (N := some 93) (v := ?_) (a' := ?_) (bo_ 44 7) rfl rfl (take_ofW HT_.out HW_.out (by kernel_rfl)) (fun _ _ _ h => h) (Or.inl ⟨by rfl, ?_⟩) hHeld ?_ ?_
                 rotate_left; (· rintro w' ⟨s0, s1, s2, s3, s4, s5⟩; go_simp; with_reducible rfl)
                 rotate_left; (· simp only [Act.put,List.setIfInBounds_toArray,List.set_cons_zero,List.set_cons_succ,i64_w,i32_w]; rfl)
                 refine take_ (i := 3) (N := some 95) (v := ?_) (a' := ?_) (bo_ 44 15) rfl rfl (take_ofW HT_.out HW_.out (by kernel_rfl)) (fun _ _ _ h => h) (Or.inl ⟨by rfl, ?_⟩) hHeld ?_ ?_
                 rotate_left; (· rintro w' ⟨s0, s1, s2, s3, s4, s5⟩; go_simp; with_reducible rfl)
                 rotate_left; (· simp only [Act.put,List.setIfInBounds_toArray,List.set_cons_zero,List.set_cons_succ,i64_w,i32_w]; rfl)
                 refine pure_ (i := 4) (N := some 96) (v := ?_) (a' := ?_) (bo_ 44 31) rfl rfl (any_of HT_.out (by kernel_rfl)) (fun _ _ _ h => h) (Or.inl ⟨by rfl, ?_⟩) ?_ ?_
                 rotate_left; (· intro w'; go_simp; with_reducible rfl)
                 rotate_left; (· simp only [Act.put,List.setIfInBounds_toArray,List.set_cons_zero,List.set_cons_succ,i64_w,i32_w]; rfl)
                 refine pure_ (i := 5) (N := some 97) (v := ?_) (a' := ?_) (bo_ 44 63) rfl rfl (any_of HT_.out (by kernel_rfl)) (fun _ _ _ h => h) (Or.inl ⟨by rfl, ?_⟩) ?_ ?_
                 rotate_left; (· intro w'; go_simp; with_reducible rfl)
                 rotate_left; (· simp only [Act.put,List.setIfInBounds_toArray,List.set_cons_zero,List.set_cons_succ,i64_w,i32_w]; rfl)
                 refine pure_ (i := 6) (N := some 98) (v := ?_) (a' := ?_) (bo_ 44 127) rfl rfl (any_of HT_.out (by kernel_rfl)) (fun _ _ _ h => h) (Or.inl ⟨by rfl, ?_⟩) ?_ ?_
                 rotate_left; (· intro w'; go_simp; with_reducible rfl)
                 rotate_left; (· simp only [Act.put,List.setIfInBounds_toArray,List.set_cons_zero,List.set_cons_succ,i64_w,i32_w]; rfl)
                 refine pure_ (i := 8) (N := some 100) (v := ?_) (a' := ?_) (bo_ 44 383) rfl rfl (any_of HT_.out (by kernel_rfl)) (fun _ _ _ h => h) (Or.inl ⟨by rfl, ?_⟩) ?_ ?_
                 rotate_left; (· intro w'; go_simp; with_reducible rfl)
                 rotate_left; (· simp only [Act.put,List.setIfInBounds_toArray,List.set_cons_zero,List.set_cons_succ,i64_w,i32_w]; rfl)
                 refine take_ (i := 7) (N := some 99) (v := ?_) (a' := ?_) (bo_ 44 511) rfl rfl (take_ofW HT_.out HW_.out (by kernel_rfl)) (fun _ _ _ h => h) (Or.inl ⟨by rfl, ?_⟩) hHeld ?_ ?_
                 rotate_left; (· rintro w' ⟨s0, s1, s2, s3, s4, s5⟩; go_simp; with_reducible rfl)
                 rotate_left; (· simp only [Act.put,List.setIfInBounds_toArray,List.set_cons_zero,List.set_cons_succ,i64_w,i32_w]; rfl)
                 refine take_ (i := 9) (N := some 101) (v := ?_) (a' := ?_) (bo_ 44 1023) rfl rfl (take_ofW HT_.out HW_.out (by kernel_rfl)) (fun _ _ _ h => h) (Or.inl ⟨by rfl, ?_⟩) hHeld ?_ ?_
                 rotate_left; (· rintro w' ⟨s0, s1, s2, s3, s4, s5⟩; go_simp; with_reducible rfl)
                 rotate_left; (· simp only [Act.put,List.setIfInBounds_toArray,List.set_cons_zero,List.set_cons_succ,i64_w,i32_w]; rfl)
                 refine pure_ (i := 10) (N := some 102) (v := ?_) (a' := ?_) (bo_ 44 2047) rfl rfl (any_of HT_.out (by kernel_rfl)) (fun _ _ _ h => h) (Or.inl ⟨by rfl, ?_⟩) ?_ ?_
                 rotate_left; (· intro w'; go_simp; with_reducible rfl)
                 rotate_left; (· simp only [Act.put,List.setIfInBounds_toArray,List.set_cons_zero,List.set_cons_succ,i64_w,i32_w]; rfl)
                 refine pure_ (i := 11) (N := some 103) (v := ?_) (a' := ?_) (bo_ 44 4095) rfl rfl (any_of HT_.out (by kernel_rfl)) (fun _ _ _ h => h) (Or.inl ⟨by rfl, ?_⟩) ?_ ?_
                 rotate_left; (· intro w'; go_simp; with_reducible rfl)
                 rotate_left; (· simp only [Act.put,List.setIfInBounds_toArray,List.set_cons_zero,List.set_cons_succ,i64_w,i32_w]; rfl)
                 refine pure_ (i := 12) (N := some 104) (v := ?_) (a' := ?_) (bo_ 44 8191) rfl rfl (any_of HT_.out (by kernel_rfl)) (fun _ _ _ h => h) (Or.inl ⟨by rfl, ?_⟩) ?_ ?_
                 rotate_left; (· intro w'; go_simp; with_reducible rfl)
                 rotate_left; (· simp only [Act.put,List.setIfInBounds_toArray,List.set_cons_zero,List.set_cons_succ,i64_w,i32_w]; rfl)
                 refine pure_ (i := 13) (N := some 105) (v := undef) (a' := ?_) (bo_ 44 16383) rfl rfl (any_of HT_.out (by kernel_rfl)) (fun _ _ _ h => h) (Or.inr ⟨by rfl, rfl⟩) ?_ ?_
                 rotate_left; (· simp only [Act.put,List.setIfInBounds_toArray,List.set_cons_zero,List.set_cons_succ,i64_w,i32_w]; rfl)
                 refine pure_ (i := 14) (N := some 106) (v := undef) (a' := ?_) (bo_ 44 32767) rfl rfl (any_of HT_.out (by kernel_rfl)) (fun _ _ _ h => h) (Or.inr ⟨by rfl, rfl⟩) ?_ ?_
                 rotate_left; (· simp only [Act.put,List.setIfInBounds_toArray,List.set_cons_zero,List.set_cons_succ,i64_w,i32_w]; rfl)
                 refine pure_ (i := 15) (N := some 107) (v := undef) (a' := ?_) (bo_ 44 65535) rfl rfl (any_of HT_.out (by kernel_rfl)) (fun _ _ _ h => h) (Or.inr ⟨by rfl, rfl⟩) ?_ ?_
                 rotate_left; (· simp only [Act.put,List.setIfInBounds_toArray,List.set_cons_zero,List.set_cons_succ,i64_w,i32_w]; rfl)
                 refine pure_ (i := 16) (N := some 108) (v := undef) (a' := ?_) (bo_ 44 131071) rfl rfl (any_of HT_.out (by kernel_rfl)) (fun _ _ _ h => h) (Or.inr ⟨by rfl, rfl⟩) ?_ ?_
                 rotate_left; (· simp only [Act.put,List.setIfInBounds_toArray,List.set_cons_zero,List.set_cons_succ,i64_w,i32_w]; rfl)
                 refine pure_ (i := 17) (N := some 109) (v := undef) (a' := ?_) (bo_ 44 262143) rfl rfl (any_of HT_.out (by kernel_rfl)) (fun _ _ _ h => h) (Or.inr ⟨by rfl, rfl⟩) ?_ ?_
                 rotate_left; (· simp only [Act.put,List.setIfInBounds_toArray,List.set_cons_zero,List.set_cons_succ,i64_w,i32_w]; rfl)
                 refine pure_ (i := 18) (N := some 110) (v := undef) (a' := ?_) (bo_ 44 524287) rfl rfl (any_of HT_.out (by kernel_rfl)) (fun _ _ _ h => h) (Or.inr ⟨by rfl, rfl⟩) ?_ ?_
                 rotate_left; (· simp only [Act.put,List.setIfInBounds_toArray,List.set_cons_zero,List.set_cons_succ,i64_w,i32_w]; rfl)
                 refine pure_ (i := 19) (N := some 111) (v := undef) (a' := ?_) (bo_ 44 1048575) rfl rfl (any_of HT_.out (by kernel_rfl)) (fun _ _ _ h => h) (Or.inr ⟨by rfl, rfl⟩) ?_ ?_
                 rotate_left; (· simp only [Act.put,List.setIfInBounds_toArray,List.set_cons_zero,List.set_cons_succ,i64_w,i32_w]; rfl)
                 refine pure_ (i := 20) (N := some 112) (v := ?_) (a' := ?_) (bo_ 44 2097151) rfl rfl (any_of HT_.out (by kernel_rfl)) (fun _ _ _ h => h) (Or.inl ⟨by rfl, ?_⟩) ?_ ?_
                 rotate_left; (· intro w'; go_simp; with_reducible rfl)
                 rotate_left; (· simp only [Act.put,List.setIfInBounds_toArray,List.set_cons_zero,List.set_cons_succ,i64_w,i32_w]; rfl)
                 refine pure_ (i := 21) (N := some 113) (v := ?_) (a' := ?_) (bo_ 44 4194303) rfl rfl (any_of HT_.out (by kernel_rfl)) (fun _ _ _ h => h) (Or.inl ⟨by rfl, ?_⟩) ?_ ?_
                 rotate_left; (· intro w'; go_simp; with_reducible rfl)
                 rotate_left; (· simp only [Act.put,List.setIfInBounds_toArray,List.set_cons_zero,List.set_cons_succ,i64_w,i32_w]; rfl)
                 refine pure_ (i := 22) (N := some 114) (v := undef) (a' := ?_) (bo_ 44 8388607) rfl rfl (any_of HT_.out (by kernel_rfl)) (fun _ _ _ h => h) (Or.inr ⟨by rfl, rfl⟩) ?_ ?_
                 rotate_left; (· simp only [Act.put,List.setIfInBounds_toArray,List.set_cons_zero,List.set_cons_succ,i64_w,i32_w]; rfl)
                 refine pure_ (i := 23) (N := some 115) (v := undef) (a' := ?_) (bo_ 44 16777215) rfl rfl (any_of HT_.out (by kernel_rfl)) (fun _ _ _ h => h) (Or.inr ⟨by rfl, rfl⟩) ?_ ?_
                 rotate_left; (· simp only [Act.put,List.setIfInBounds_toArray,List.set_cons_zero,List.set_cons_succ,i64_w,i32_w]; rfl)
                 refine pure_ (i := 24) (N := some 116) (v := undef) (a' := ?_) (bo_ 44 33554431) rfl rfl (any_of HT_.out (by kernel_rfl)) (fun _ _ _ h => h) (Or.inr ⟨by rfl, rfl⟩) ?_ ?_
                 rotate_left; (· simp only [Act.put,List.setIfInBounds_toArray,List.set_cons_zero,List.set_cons_succ,i64_w,i32_w]; rfl)
                 refine pure_ (i := 25) (N := some 117) (v := ?_) (a' := ?_) (bo_ 44 67108863) rfl rfl (any_of HT_.out (by kernel_rfl)) (fun _ _ _ h => h) (Or.inl ⟨by rfl, ?_⟩) ?_ ?_
                 rotate_left; (· intro w'; go_simp; with_reducible rfl)
                 rotate_left; (· simp only [Act.put,List.setIfInBounds_toArray,List.set_cons_zero,List.set_cons_succ,i64_w,i32_w]; rfl)
                 refine pure_ (i := 26) (N := some 118) (v := ?_) (a' := ?_) (bo_ 44 134217727) rfl rfl (any_of HT_.out (by kernel_rfl)) (fun _ _ _ h => h) (Or.inl ⟨by rfl, ?_⟩) ?_ ?_
                 rotate_left; (· intro w'; go_simp; with_reducible rfl)
                 rotate_left; (· simp only [Act.put,List.setIfInBounds_toArray,List.set_cons_zero,List.set_cons_succ,i64_w,i32_w]; rfl)
                 refine pure_ (i := 27) (N := some 119) (v := undef) (a' := ?_) (bo_ 44 268435455) rfl rfl (any_of HT_.out (by kernel_rfl)) (fun _ _ _ h => h) (Or.inr ⟨by rfl, rfl⟩) ?_ ?_
                 rotate_left; (· simp only [Act.put,List.setIfInBounds_toArray,List.set_cons_zero,List.set_cons_succ,i64_w,i32_w]; rfl)
                 refine pure_ (i := 28) (N := some 120) (v := undef) (a' := ?_) (bo_ 44 536870911) rfl rfl (any_of HT_.out (by kernel_rfl)) (fun _ _ _ h => h) (Or.inr ⟨by rfl, rfl⟩) ?_ ?_
                 rotate_left; (· simp only [Act.put,List.setIfInBounds_toArray,List.set_cons_zero,List.set_cons_succ,i64_w,i32_w]; rfl)
                 refine pure_ (i := 29) (N := some 121) (v := undef) (a' := ?_) (bo_ 44 1073741823) rfl rfl (any_of HT_.out (by kernel_rfl)) (fun _ _ _ h => h) (Or.inr ⟨by rfl, rfl⟩) ?_ ?_
                 rotate_left; (· simp only [Act.put,List.setIfInBounds_toArray,List.set_cons_zero,List.set_cons_succ,i64_w,i32_w]; rfl)
                 refine pure_ (i := 30) (N := some 122) (v := ?_) (a' := ?_) (bo_ 44 2147483647) rfl rfl (any_of HT_.out (by kernel_rfl)) (fun _ _ _ h => h) (Or.inl ⟨by rfl, ?_⟩) ?_ ?_
                 rotate_left; (· intro w'; go_simp; with_reducible rfl)
                 rotate_left; (· simp only [Act.put,List.setIfInBounds_toArray,List.set_cons_zero,List.set_cons_succ,i64_w,i32_w]; rfl)
                 refine pure_ (i := 31) (N := some 123) (v := ?_) (a' := ?_) (bo_ 44 4294967295) rfl rfl (any_of HT_.out (by kernel_rfl)) (fun _ _ _ h => h) (Or.inl ⟨by rfl, ?_⟩) ?_ ?_
                 rotate_left; (· intro w'; go_simp; with_reducible rfl)
                 rotate_left; (· simp only [Act.put,List.setIfInBounds_toArray,List.set_cons_zero,List.set_cons_succ,i64_w,i32_w]; rfl)
                 refine pure_ (i := 32) (N := some 124) (v := undef) (a' := ?_) (bo_ 44 8589934591) rfl rfl (any_of HT_.out (by kernel_rfl)) (fun _ _ _ h => h) (Or.inr ⟨by rfl, rfl⟩) ?_ ?_
                 rotate_left; (· simp only [Act.put,List.setIfInBounds_toArray,List.set_cons_zero,List.set_cons_succ,i64_w,i32_w]; rfl)
                 refine pure_ (i := 33) (N := some 125) (v := undef) (a' := ?_) (bo_ 44 17179869183) rfl rfl (any_of HT_.out (by kernel_rfl)) (fun _ _ _ h => h) (Or.inr ⟨by rfl, rfl⟩) ?_ ?_
                 rotate_left; (· simp only [Act.put,List.setIfInBounds_toArray,List.set_cons_zero,List.set_cons_succ,i64_w,i32_w]; rfl)
                 refine pure_ (i := 34) (N := some 126) (v := undef) (a' := ?_) (bo_ 44 34359738367) rfl rfl (any_of HT_.out (by kernel_rfl)) (fun _ _ _ h => h) (Or.inr ⟨by rfl, rfl⟩) ?_ ?_
                 rotate_left; (· simp only [Act.put,List.setIfInBounds_toArray,List.set_cons_zero,List.set_cons_succ,i64_w,i32_w]; rfl)
                 refine pure_ (i := 35) (N := some 127) (v := undef) (a' := ?_) (bo_ 44 68719476735) rfl rfl (any_of HT_.out (by kernel_rfl)) (fun _ _ _ h => h) (Or.inr ⟨by rfl, rfl⟩) ?_ ?_
                 rotate_left; (· simp only [Act.put,List.setIfInBounds_toArray,List.set_cons_zero,List.set_cons_succ,i64_w,i32_w]; rfl)
                 refine pure_ (i := 36) (N := some 128) (v := undef) (a' := ?_) (bo_ 44 137438953471) rfl rfl (any_of HT_.out (by kernel_rfl)) (fun _ _ _ h => h) (Or.inr ⟨by rfl, rfl⟩) ?_ ?_
                 rotate_left; (· simp only [Act.put,List.setIfInBounds_toArray,List.set_cons_zero,List.set_cons_succ,i64_w,i32_w]; rfl)
                 refine pure_ (i := 37) (N := some 129) (v := undef) (a' := ?_) (bo_ 44 274877906943) rfl rfl (any_of HT_.out (by kernel_rfl)) (fun _ _ _ h => h) (Or.inr ⟨by rfl, rfl⟩) ?_ ?_
                 rotate_left; (· simp only [Act.put,List.setIfInBounds_toArray,List.set_cons_zero,List.set_cons_succ,i64_w,i32_w]; rfl)
                 refine pure_ (i := 38) (N := some 130) (v := undef) (a' := ?_) (bo_ 44 549755813887) rfl rfl (any_of HT_.out (by kernel_rfl)) (fun _ _ _ h => h) (Or.inr ⟨by rfl, rfl⟩) ?_ ?_
                 rotate_left; (· simp only [Act.put,List.setIfInBounds_toArray,List.set_cons_zero,List.set_cons_succ,i64_w,i32_w]; rfl)
                 refine pure_ (i := 39) (N := some 131) (v := undef) (a' := ?_) (bo_ 44 1099511627775) rfl rfl (any_of HT_.out (by kernel_rfl)) (fun _ _ _ h => h) (Or.inr ⟨by rfl, rfl⟩) ?_ ?_
                 rotate_left; (· simp only [Act.put,List.setIfInBounds_toArray,List.set_cons_zero,List.set_cons_succ,i64_w,i32_w]; rfl)
                 refine pure_ (i := 40) (N := some 132) (v := undef) (a' := ?_) (bo_ 44 2199023255551) rfl rfl (any_of HT_.out (by kernel_rfl)) (fun _ _ _ h => h) (Or.inr ⟨by rfl, rfl⟩) ?_ ?_
                 rotate_left; (· simp only [Act.put,List.setIfInBounds_toArray,List.set_cons_zero,List.set_cons_succ,i64_w,i32_w]; rfl)
                 refine pure_ (i := 41) (N := some 133) (v := undef) (a' := ?_) (bo_ 44 4398046511103) rfl rfl (any_of HT_.out (by kernel_rfl)) (fun _ _ _ h => h) (Or.inr ⟨by rfl, rfl⟩) ?_ ?_
                 rotate_left; (· simp only [Act.put,List.setIfInBounds_toArray,List.set_cons_zero,List.set_cons_succ,i64_w,i32_w]; rfl)
                 refine pure_ (i := 42) (N := some 134) (v := undef) (a' := ?_) (bo_ 44 8796093022207) rfl rfl (any_of HT_.out (by kernel_rfl)) (fun _ _ _ h => h) (Or.inr ⟨by rfl, rfl⟩) ?_ ?_
                 rotate_left; (· simp only [Act.put,List.setIfInBounds_toArray,List.set_cons_zero,List.set_cons_succ,i64_w,i32_w]; rfl)
                 refine pure_ (i := 43) (N := some 135) (v := ?_) (a' := ?_) (bo_ 44 17592186044415) rfl rfl (any_of HT_.out (by kernel_rfl)) (fun _ _ _ h => h) (Or.inl ⟨by rfl, ?_⟩) ?_ ?_
                 rotate_left; (· intro w'; go_simp; with_reducible rfl)
                 rotate_left; (· simp only [Act.put,List.setIfInBounds_toArray,List.set_cons_zero,List.set_cons_succ,i64_w,i32_w]; rfl)
                 refine done_ (done_of HT_.out (by kernel_rfl)) ?_
                 try go_wp2
                 go_meet
                 case rel => exact ⟨_, (true), (by first | rfl | (simp; done) | (simp [*]; done)), H', ⟨by have := HJ8.out; have := HK2.out; first | omega | exact Nat.le_refl _⟩, ⟨by (with_reducible repeat (first | apply Kd.N_alloc | apply Kd.N_drewN | apply Kd.N_drew)); exact HO_15.out⟩, ⟨by (with_reducible repeat (first | apply Kd.R_alloc | apply Kd.R_drewN | apply Kd.R_drew)); exact HO293.out⟩, ⟨by (with_reducible repeat (first | apply Kd.R_alloc | apply Kd.R_drewN | apply Kd.R_drew)); exact HO302.out⟩, ⟨by (with_reducible repeat (first | refine blk_drewN ?_ _ | refine blk_drew ?_ | refine blk_alloc ?_ _)); exact BK296.out⟩, ⟨by (with_reducible repeat (first | refine blk_drewN ?_ _ | refine blk_drew ?_ | refine blk_alloc ?_ _)); exact BK305.out⟩, ⟨by repeat (first | (with_reducible first | exact HB.out | apply below_alloc | apply pw_below_drewN | apply below_drew1 | refine below_set ?_ GE296.out | refine below_set ?_ GE305.out) | exact HB.out)⟩⟩
               ·rw [if_neg c52] at H
                have c52b0 : (t289 == t298) = false := beq_eq_false_iff_ne.mpr c52
                have c52b1 : (t289 != t298) = true := bne_iff_ne.mpr c52
                (first | rw [c52b0] | (simp only [i64_w, i32_w]; rw [c52b0]) | skip)
                have H' := Aside0.mk H
                clear H
                try go_wp2
                have n0_ : Aside0 (Kd.N (Kd.slice 5 (Kd.int .u8)) 24 (((w48.setCell ⟨gb305, 0, none⟩ (.int .i64 t298)).setCell ⟨gb305, 1, none⟩ (.int .u64 t299)).setCell ⟨gb305, 2, none⟩ (.slice Ao51 t300.length co51)) w.heap.size (fun k_ => (P0_ k_ ∨ w.heap.size ≤ k_) ∧ some k_ ≠ (.slice Ao45 t291.length co45 : Value).ownBlock ∧ some k_ ≠ (.slice Ao51 t300.length co51 : Value).ownBlock ∧ k_ ≠ gb296 ∧ k_ ≠ gb305) (.slice (some ad288) y285.length co41) y285) := ⟨by (with_reducible repeat (first | apply Kd.N_alloc | apply Kd.N_drewN | apply Kd.N_drew)); exact Kd.N_mono (Kd.N_far (p := ⟨gb305, 2, none⟩) (Kd.N_far (p := ⟨gb305, 1, none⟩) (Kd.N_far (p := ⟨gb305, 0, none⟩) (Kd.N_mono HO_15.out (fun k_ hk => (⟨hk, hk.2⟩ : _ ∧ k_ ≠ gb305))) (fun _ hk => hk.2) (.int .i64 t298)) (fun _ hk => hk.2) (.int .u64 t299)) (fun _ hk => hk.2) (.slice Ao51 t300.length co51)) (fun _ hk => ⟨hk.1.1.1.1, ⟨hk.1.1.1.2.1, ⟨hk.1.1.2, ⟨hk.1.1.1.2.2, hk.1.2⟩⟩⟩⟩)⟩
                have n1_ : Aside0 (Kd.V (Kd.int .u8) 5 (((w48.setCell ⟨gb305, 0, none⟩ (.int .i64 t298)).setCell ⟨gb305, 1, none⟩ (.int .u64 t299)).setCell ⟨gb305, 2, none⟩ (.slice Ao51 t300.length co51)) w.heap.size (fun k_ => (P0_ k_ ∨ w.heap.size ≤ k_) ∧ some k_ ≠ (.slice (some ad288) y285.length co41 : Value).ownBlock ∧ some k_ ≠ (.slice Ao45 t291.length co45 : Value).ownBlock ∧ some k_ ≠ (.slice Ao51 t300.length co51 : Value).ownBlock ∧ k_ ≠ gb296 ∧ k_ ≠ gb305) (.slice A288_0 (rd_L1 y285 x16_2).length c288_0) (rd_L1 y285 x16_2)) := ⟨by (with_reducible repeat (first | apply Kd.V_alloc | apply Kd.V_drewN | apply Kd.V_drew)); exact Kd.V_mono (Kd.V_far (p := ⟨gb305, 2, none⟩) (Kd.V_far (p := ⟨gb305, 1, none⟩) (Kd.V_far (p := ⟨gb305, 0, none⟩) (Kd.V_mono HL288_0.out (fun k_ hk => (⟨hk, hk.2⟩ : _ ∧ k_ ≠ gb305))) (fun _ hk => hk.2) (.int .i64 t298)) (fun _ hk => hk.2) (.int .u64 t299)) (fun _ hk => hk.2) (.slice Ao51 t300.length co51)) (fun _ hk => ⟨hk.1.1.1.1, ⟨hk.1.1.1.2.1, ⟨hk.1.1.1.2.2.1, ⟨hk.1.1.2, ⟨hk.1.1.1.2.2.2, hk.1.2⟩⟩⟩⟩⟩)⟩
                have n2_ : Aside0 (Kd.R (Kd.int .u8) 5 (((w48.setCell ⟨gb305, 0, none⟩ (.int .i64 t298)).setCell ⟨gb305, 1, none⟩ (.int .u64 t299)).setCell ⟨gb305, 2, none⟩ (.slice Ao51 t300.length co51)) w.heap.size (fun k_ => (w.heap.size ≤ k_) ∧ some k_ ≠ (.slice Ao51 t300.length co51 : Value).ownBlock) (.slice Ao45 t291.length co45) t291) := ⟨by (with_reducible repeat (first | apply Kd.R_alloc | apply Kd.R_drewN | apply Kd.R_drew)); exact Kd.R_mono (Kd.R_far (p := ⟨gb305, 2, none⟩) (Kd.R_far (p := ⟨gb305, 1, none⟩) (Kd.R_far (p := ⟨gb305, 0, none⟩) (Kd.R_types HO293.out BK305.out (by decide)) (fun _ hk => hk.2) (.int .i64 t298)) (fun _ hk => hk.2) (.int .u64 t299)) (fun _ hk => hk.2) (.slice Ao51 t300.length co51)) (fun _ hk => ⟨hk.1.1, hk.1.2⟩)⟩
                have n3_ : Aside0 (Kd.V (Kd.int .u8) 5 (((w48.setCell ⟨gb305, 0, none⟩ (.int .i64 t298)).setCell ⟨gb305, 1, none⟩ (.int .u64 t299)).setCell ⟨gb305, 2, none⟩ (.slice Ao51 t300.length co51)) w.heap.size (fun k_ => (P0_ k_ ∨ w.heap.size ≤ k_) ∧ some k_ ≠ (.slice (some ad288) y285.length co41 : Value).ownBlock ∧ some k_ ≠ (.slice Ao45 t291.length co45 : Value).ownBlock ∧ some k_ ≠ (.slice Ao51 t300.length co51 : Value).ownBlock ∧ k_ ≠ gb296 ∧ k_ ≠ gb305) (.slice A297_0 (rd_L1 y285 x16_2).length c297_0) (rd_L1 y285 x16_2)) := ⟨by (with_reducible repeat (first | apply Kd.V_alloc | apply Kd.V_drewN | apply Kd.V_drew)); exact Kd.V_mono (Kd.V_far (p := ⟨gb305, 2, none⟩) (Kd.V_far (p := ⟨gb305, 1, none⟩) (Kd.V_far (p := ⟨gb305, 0, none⟩) (Kd.V_mono HL297_0.out (fun k_ hk => (⟨hk, hk.2⟩ : _ ∧ k_ ≠ gb305))) (fun _ hk => hk.2) (.int .i64 t298)) (fun _ hk => hk.2) (.int .u64 t299)) (fun _ hk => hk.2) (.slice Ao51 t300.length co51)) (fun _ hk => ⟨hk.1.1.1.1.1, ⟨hk.1.1.1.2, ⟨hk.1.1.1.1.2.1, ⟨hk.1.1.2, ⟨hk.1.1.1.1.2.2, hk.1.2⟩⟩⟩⟩⟩)⟩
                have n4_ : Aside0 (Kd.R (Kd.int .u8) 5 (((w48.setCell ⟨gb305, 0, none⟩ (.int .i64 t298)).setCell ⟨gb305, 1, none⟩ (.int .u64 t299)).setCell ⟨gb305, 2, none⟩ (.slice Ao51 t300.length co51)) w.heap.size (fun k_ => (w.heap.size ≤ k_) ∧ some k_ ≠ (.slice Ao45 t291.length co45 : Value).ownBlock) (.slice Ao51 t300.length co51) t300) := ⟨by (with_reducible repeat (first | apply Kd.R_alloc | apply Kd.R_drewN | apply Kd.R_drew)); exact Kd.R_mono (Kd.R_far (p := ⟨gb305, 2, none⟩) (Kd.R_far (p := ⟨gb305, 1, none⟩) (Kd.R_far (p := ⟨gb305, 0, none⟩) (Kd.R_types HO302.out BK305.out (by decide)) (fun _ hk => hk.2) (.int .i64 t298)) (fun _ hk => hk.2) (.int .u64 t299)) (fun _ hk => hk.2) (.slice Ao51 t300.length co51)) (fun _ hk => ⟨hk.1.1.1, hk.1.2⟩)⟩
                have n5_ : Aside0 ((((w48.setCell ⟨gb305, 0, none⟩ (.int .i64 t298)).setCell ⟨gb305, 1, none⟩ (.int .u64 t299)).setCell ⟨gb305, 2, none⟩ (.slice Ao51 t300.length co51)).heap[gb296]? = some (.cells #[.int .i64 t289, .int .u64 t290, .slice Ao45 t291.length co45] 37 (0, 0))) := ⟨by (with_reducible repeat (first | refine blk_drewN ?_ _ | refine blk_drew ?_ | refine blk_alloc ?_ _)); refine blk_far ?_ NB296_305.out _; (with_reducible repeat (first | refine blk_drewN ?_ _ | refine blk_drew ?_ | refine blk_alloc ?_ _)); refine blk_far ?_ NB296_305.out _; (with_reducible repeat (first | refine blk_drewN ?_ _ | refine blk_drew ?_ | refine blk_alloc ?_ _)); refine blk_far ?_ NB296_305.out _; (with_reducible repeat (first | refine blk_drewN ?_ _ | refine blk_drew ?_ | refine blk_alloc ?_ _)); exact BK296.out⟩
                have n6_ : Aside0 ((((w48.setCell ⟨gb305, 0, none⟩ (.int .i64 t298)).setCell ⟨gb305, 1, none⟩ (.int .u64 t299)).setCell ⟨gb305, 2, none⟩ (.slice Ao51 t300.length co51)).heap[gb305]? = some (.cells #[.int .i64 t298, .int .u64 t299, .slice Ao51 t300.length co51] 37 (0, 0))) := ⟨by (with_reducible repeat (first | refine blk_drewN ?_ _ | refine blk_drew ?_ | refine blk_alloc ?_ _)); refine blk_put (cs := #[.int .i64 t298, .int .u64 t299, .slice none 0 0]) ?_ 2 _ rfl; (with_reducible repeat (first | refine blk_drewN ?_ _ | refine blk_drew ?_ | refine blk_alloc ?_ _)); refine blk_put (cs := #[.int .i64 t298, .int .u64 0, .slice none 0 0]) ?_ 1 _ rfl; (with_reducible repeat (first | refine blk_drewN ?_ _ | refine blk_drew ?_ | refine blk_alloc ?_ _)); refine blk_put (cs := #[.int .i64 0, .int .u64 0, .slice none 0 0]) ?_ 0 _ rfl; (with_reducible repeat (first | refine blk_drewN ?_ _ | refine blk_drew ?_ | refine blk_alloc ?_ _)); exact BK305.out⟩
                have n7_ : Aside0 (Below w.heap.size w (((w48.setCell ⟨gb305, 0, none⟩ (.int .i64 t298)).setCell ⟨gb305, 1, none⟩ (.int .u64 t299)).setCell ⟨gb305, 2, none⟩ (.slice Ao51 t300.length co51))) := ⟨by repeat (first | (with_reducible first | exact HB.out | apply below_alloc | apply pw_below_drewN | apply below_drew1 | refine below_set ?_ GE296.out | refine below_set ?_ GE305.out) | exact HB.out)⟩
                (try clear HO_15)
                (try clear HL288_0)
                (try clear HO293)
                (try clear HL297_0)
                (try clear HO302)
                (try clear BK296)
                (try clear BK305)
                (try clear HB)
                generalize (((w48.setCell ⟨gb305, 0, none⟩ (.int .i64 t298)).setCell ⟨gb305, 1, none⟩ (.int .u64 t299)).setCell ⟨gb305, 2, none⟩ (.slice Ao51 t300.length co51)) = w83 at n0_ n1_ n2_ n3_ n4_ n5_ n6_ n7_ ⊢
                have HO_15 := n0_
                have HL288_0 := n1_
                have HO293 := n2_
                have HL297_0 := n3_
                have HO302 := n4_
                have BK296 := n5_
                have BK305 := n6_
                have HB := n7_
                clear n0_ n1_ n2_ n3_ n4_ n5_ n6_ n7_
                have n0_ := Aside0.mk (Kd.N_drew HO_15.out)
                have n1_ := Aside0.mk (Kd.V_drew HL288_0.out)
                have n2_ := Aside0.mk (Kd.R_drew HO293.out)
                have n3_ := Aside0.mk (Kd.V_drew HL297_0.out)
                have n4_ := Aside0.mk (Kd.R_drew HO302.out)
                have n5_ := Aside0.mk (blk_drew BK296.out)
                have n6_ := Aside0.mk (blk_drew BK305.out)
                have n7_ := Aside0.mk (below_drew1 HB.out)
                clear HO_15
                clear HL288_0
                clear HO293
                clear HL297_0
                clear HO302
                clear BK296
                clear BK305
                clear HB
                have HO_15 := n0_
                have HL288_0 := n1_
                have HO293 := n2_
                have HL297_0 := n3_
                have HO302 := n4_
                have BK296 := n5_
                have BK305 := n6_
                have HB := n7_
                clear n0_ n1_ n2_ n3_ n4_ n5_ n6_ n7_
                refine start_ (n := 44) (S := fun w' => w'.cell? ⟨gb296, 0, none⟩ = some (.int .i64 t289) ∧ w'.cell? ⟨gb296, 1, none⟩ = some (.int .u64 t290) ∧ w'.cell? ⟨gb296, 2, none⟩ = some (.slice Ao45 t291.length co45) ∧ w'.cell? ⟨gb305, 0, none⟩ = some (.int .i64 t298) ∧ w'.cell? ⟨gb305, 1, none⟩ = some (.int .u64 t299) ∧ w'.cell? ⟨gb305, 2, none⟩ = some (.slice Ao51 t300.length co51)) (ds := []) #[false,false,false,false,false,false,false,false,false,false,false,false,false,false,false,false,false,false,false,false,false,false,false,false,false,false,false,false,false,false,false,false,false,false,false,false,false,false,false,false,false,false,false,false] (by kernel_rfl) rfl rfl ⟨(blk_cell BK296.out 0).trans rfl, (blk_cell BK296.out 1).trans rfl, (blk_cell BK296.out 2).trans rfl, (blk_cell BK305.out 0).trans rfl, (blk_cell BK305.out 1).trans rfl, (blk_cell BK305.out 2).trans rfl⟩ (fun hHeld => ?_); refine with_tabW kerbsuitelaw4_BoxReads.tab12 kerbsuitelaw4_BoxReads.bits12 (fun HT_ HW_ => ?_)
                generalize w83.drew = w84 at HO_15 HL288_0 HO293 HL297_0 HO302 BK296 BK305 HB hHeld ⊢
                refine pure_ (i := 0) (N := some 92) (v := ?_) (a' := ?_) (bo_ 44 1) rfl rfl (any_of HT_.out (by kernel_rfl)) (fun _ _ _ h => h) (Or.inl ⟨by rfl, ?_⟩) ?_ ?_
                rotate_left; (· intro w'; go_simp; with_reducible rfl)
                rotate_left; (· simp only [Act.put,List.setIfInBounds_toArray,List.set_cons_zero,List.set_cons_succ,i64_w,i32_w]; rfl)
                refine pure_ (i := 2) (N := some 94) (v := ?_) (a' := ?_) (bo_ 44 5) rfl rfl (any_of HT_.out (by kernel_rfl)) (fun _ _ _ h => h) (Or.inl ⟨by rfl, ?_⟩) ?_ ?_
                rotate_left; (· intro w'; go_simp; with_reducible rfl)
                rotate_left; (· simp only [Act.put,List.setIfInBounds_toArray,List.set_cons_zero,List.set_cons_succ,i64_w,i32_w]; rfl)
                refine take_ (i := 1) (N := some 93) (v := ?_) (a' := ?_) (bo_ 44 7) rfl rfl (take_ofW HT_.out HW_.out (by kernel_rfl)) (fun _ _ _ h => h) (Or.inl ⟨by rfl, ?_⟩) hHeld ?_ ?_
                rotate_left; (· rintro w' ⟨s0, s1, s2, s3, s4, s5⟩; go_simp; with_reducible rfl)
                rotate_left; (· simp only [Act.put,List.setIfInBounds_toArray,List.set_cons_zero,List.set_cons_succ,i64_w,i32_w]; rfl)
                refine take_ (i := 3) (N := some 95) (v := ?_) (a' := ?_) (bo_ 44 15) rfl rfl (take_ofW HT_.out HW_.out (by kernel_rfl)) (fun _ _ _ h => h) (Or.inl ⟨by rfl, ?_⟩) hHeld ?_ ?_
                rotate_left; (· rintro w' ⟨s0, s1, s2, s3, s4, s5⟩; go_simp; with_reducible rfl)
                rotate_left; (· simp only [Act.put,List.setIfInBounds_toArray,List.set_cons_zero,List.set_cons_succ,i64_w,i32_w]; rfl)
                refine pure_ (i := 4) (N := some 96) (v := ?_) (a' := ?_) (bo_ 44 31) rfl rfl (any_of HT_.out (by kernel_rfl)) (fun _ _ _ h => h) (Or.inl ⟨by rfl, ?_⟩) ?_ ?_
                rotate_left; (· intro w'; go_simp; with_reducible rfl)
                rotate_left; (· simp only [Act.put,List.setIfInBounds_toArray,List.set_cons_zero,List.set_cons_succ,i64_w,i32_w]; rfl)
                refine pure_ (i := 5) (N := some 97) (v := ?_) (a' := ?_) (bo_ 44 63) rfl rfl (any_of HT_.out (by kernel_rfl)) (fun _ _ _ h => h) (Or.inl ⟨by rfl, ?_⟩) ?_ ?_
                rotate_left; (· intro w'; go_simp; with_reducible rfl)
                rotate_left; (· simp only [Act.put,List.setIfInBounds_toArray,List.set_cons_zero,List.set_cons_succ,i64_w,i32_w]; rfl)
                refine pure_ (i := 6) (N := some 98) (v := undef) (a' := ?_) (bo_ 44 127) rfl rfl (any_of HT_.out (by kernel_rfl)) (fun _ _ _ h => h) (Or.inr ⟨by rfl, rfl⟩) ?_ ?_
                rotate_left; (· simp only [Act.put,List.setIfInBounds_toArray,List.set_cons_zero,List.set_cons_succ,i64_w,i32_w]; rfl)
                refine pure_ (i := 7) (N := some 99) (v := undef) (a' := ?_) (bo_ 44 255) rfl rfl (any_of HT_.out (by kernel_rfl)) (fun _ _ _ h => h) (Or.inr ⟨by rfl, rfl⟩) ?_ ?_
                rotate_left; (· simp only [Act.put,List.setIfInBounds_toArray,List.set_cons_zero,List.set_cons_succ,i64_w,i32_w]; rfl)
                refine pure_ (i := 8) (N := some 100) (v := undef) (a' := ?_) (bo_ 44 511) rfl rfl (any_of HT_.out (by kernel_rfl)) (fun _ _ _ h => h) (Or.inr ⟨by rfl, rfl⟩) ?_ ?_
                rotate_left; (· simp only [Act.put,List.setIfInBounds_toArray,List.set_cons_zero,List.set_cons_succ,i64_w,i32_w]; rfl)
                refine pure_ (i := 9) (N := some 101) (v := undef) (a' := ?_) (bo_ 44 1023) rfl rfl (any_of HT_.out (by kernel_rfl)) (fun _ _ _ h => h) (Or.inr ⟨by rfl, rfl⟩) ?_ ?_
                rotate_left; (· simp only [Act.put,List.setIfInBounds_toArray,List.set_cons_zero,List.set_cons_succ,i64_w,i32_w]; rfl)
                refine pure_ (i := 10) (N := some 102) (v := undef) (a' := ?_) (bo_ 44 2047) rfl rfl (any_of HT_.out (by kernel_rfl)) (fun _ _ _ h => h) (Or.inr ⟨by rfl, rfl⟩) ?_ ?_
                rotate_left; (· simp only [Act.put,List.setIfInBounds_toArray,List.set_cons_zero,List.set_cons_succ,i64_w,i32_w]; rfl)
                refine pure_ (i := 11) (N := some 103) (v := ?_) (a' := ?_) (bo_ 44 4095) rfl rfl (any_of HT_.out (by kernel_rfl)) (fun _ _ _ h => h) (Or.inl ⟨by rfl, ?_⟩) ?_ ?_
                rotate_left; (· intro w'; go_simp; with_reducible rfl)
                rotate_left; (· simp only [Act.put,List.setIfInBounds_toArray,List.set_cons_zero,List.set_cons_succ,i64_w,i32_w]; rfl)
                refine pure_ (i := 12) (N := some 104) (v := ?_) (a' := ?_) (bo_ 44 8191) rfl rfl (any_of HT_.out (by kernel_rfl)) (fun _ _ _ h => h) (Or.inl ⟨by rfl, ?_⟩) ?_ ?_
                rotate_left; (· intro w'; go_simp; with_reducible rfl)
                rotate_left; (· simp only [Act.put,List.setIfInBounds_toArray,List.set_cons_zero,List.set_cons_succ,i64_w,i32_w]; rfl)
                refine pure_ (i := 13) (N := some 105) (v := undef) (a' := ?_) (bo_ 44 16383) rfl rfl (any_of HT_.out (by kernel_rfl)) (fun _ _ _ h => h) (Or.inr ⟨by rfl, rfl⟩) ?_ ?_
                rotate_left; (· simp only [Act.put,List.setIfInBounds_toArray,List.set_cons_zero,List.set_cons_succ,i64_w,i32_w]; rfl)
                refine pure_ (i := 14) (N := some 106) (v := undef) (a' := ?_) (bo_ 44 32767) rfl rfl (any_of HT_.out (by kernel_rfl)) (fun _ _ _ h => h) (Or.inr ⟨by rfl, rfl⟩) ?_ ?_
                rotate_left; (· simp only [Act.put,List.setIfInBounds_toArray,List.set_cons_zero,List.set_cons_succ,i64_w,i32_w]; rfl)
                refine pure_ (i := 15) (N := some 107) (v := undef) (a' := ?_) (bo_ 44 65535) rfl rfl (any_of HT_.out (by kernel_rfl)) (fun _ _ _ h => h) (Or.inr ⟨by rfl, rfl⟩) ?_ ?_
                rotate_left; (· simp only [Act.put,List.setIfInBounds_toArray,List.set_cons_zero,List.set_cons_succ,i64_w,i32_w]; rfl)
                refine pure_ (i := 16) (N := some 108) (v := undef) (a' := ?_) (bo_ 44 131071) rfl rfl (any_of HT_.out (by kernel_rfl)) (fun _ _ _ h => h) (Or.inr ⟨by rfl, rfl⟩) ?_ ?_
                rotate_left; (· simp only [Act.put,List.setIfInBounds_toArray,List.set_cons_zero,List.set_cons_succ,i64_w,i32_w]; rfl)
                refine pure_ (i := 17) (N := some 109) (v := undef) (a' := ?_) (bo_ 44 262143) rfl rfl (any_of HT_.out (by kernel_rfl)) (fun _ _ _ h => h) (Or.inr ⟨by rfl, rfl⟩) ?_ ?_
                rotate_left; (· simp only [Act.put,List.setIfInBounds_toArray,List.set_cons_zero,List.set_cons_succ,i64_w,i32_w]; rfl)
                refine pure_ (i := 18) (N := some 110) (v := undef) (a' := ?_) (bo_ 44 524287) rfl rfl (any_of HT_.out (by kernel_rfl)) (fun _ _ _ h => h) (Or.inr ⟨by rfl, rfl⟩) ?_ ?_
                rotate_left; (· simp only [Act.put,List.setIfInBounds_toArray,List.set_cons_zero,List.set_cons_succ,i64_w,i32_w]; rfl)
                refine pure_ (i := 19) (N := some 111) (v := undef) (a' := ?_) (bo_ 44 1048575) rfl rfl (any_of HT_.out (by kernel_rfl)) (fun _ _ _ h => h) (Or.inr ⟨by rfl, rfl⟩) ?_ ?_
                rotate_left; (· simp only [Act.put,List.setIfInBounds_toArray,List.set_cons_zero,List.set_cons_succ,i64_w,i32_w]; rfl)
                refine pure_ (i := 20) (N := some 112) (v := ?_) (a' := ?_) (bo_ 44 2097151) rfl rfl (any_of HT_.out (by kernel_rfl)) (fun _ _ _ h => h) (Or.inl ⟨by rfl, ?_⟩) ?_ ?_
                rotate_left; (· intro w'; go_simp; with_reducible rfl)
                rotate_left; (· simp only [Act.put,List.setIfInBounds_toArray,List.set_cons_zero,List.set_cons_succ,i64_w,i32_w]; rfl)
                refine pure_ (i := 21) (N := some 113) (v := ?_) (a' := ?_) (bo_ 44 4194303) rfl rfl (any_of HT_.out (by kernel_rfl)) (fun _ _ _ h => h) (Or.inl ⟨by rfl, ?_⟩) ?_ ?_
                rotate_left; (· intro w'; go_simp; with_reducible rfl)
                rotate_left; (· simp only [Act.put,List.setIfInBounds_toArray,List.set_cons_zero,List.set_cons_succ,i64_w,i32_w]; rfl)
                refine pure_ (i := 22) (N := some 114) (v := undef) (a' := ?_) (bo_ 44 8388607) rfl rfl (any_of HT_.out (by kernel_rfl)) (fun _ _ _ h => h) (Or.inr ⟨by rfl, rfl⟩) ?_ ?_
                rotate_left; (· simp only [Act.put,List.setIfInBounds_toArray,List.set_cons_zero,List.set_cons_succ,i64_w,i32_w]; rfl)
                refine pure_ (i := 23) (N := some 115) (v := undef) (a' := ?_) (bo_ 44 16777215) rfl rfl (any_of HT_.out (by kernel_rfl)) (fun _ _ _ h => h) (Or.inr ⟨by rfl, rfl⟩) ?_ ?_
                rotate_left; (· simp only [Act.put,List.setIfInBounds_toArray,List.set_cons_zero,List.set_cons_succ,i64_w,i32_w]; rfl)
                refine pure_ (i := 24) (N := some 116) (v := undef) (a' := ?_) (bo_ 44 33554431) rfl rfl (any_of HT_.out (by kernel_rfl)) (fun _ _ _ h => h) (Or.inr ⟨by rfl, rfl⟩) ?_ ?_
                rotate_left; (· simp only [Act.put,List.setIfInBounds_toArray,List.set_cons_zero,List.set_cons_succ,i64_w,i32_w]; rfl)
                refine pure_ (i := 25) (N := some 117) (v := ?_) (a' := ?_) (bo_ 44 67108863) rfl rfl (any_of HT_.out (by kernel_rfl)) (fun _ _ _ h => h) (Or.inl ⟨by rfl, ?_⟩) ?_ ?_
                rotate_left; (· intro w'; go_simp; with_reducible rfl)
                rotate_left; (· simp only [Act.put,List.setIfInBounds_toArray,List.set_cons_zero,List.set_cons_succ,i64_w,i32_w]; rfl)
                refine pure_ (i := 26) (N := some 118) (v := ?_) (a' := ?_) (bo_ 44 134217727) rfl rfl (any_of HT_.out (by kernel_rfl)) (fun _ _ _ h => h) (Or.inl ⟨by rfl, ?_⟩) ?_ ?_
                rotate_left; (· intro w'; go_simp; with_reducible rfl)
                rotate_left; (· simp only [Act.put,List.setIfInBounds_toArray,List.set_cons_zero,List.set_cons_succ,i64_w,i32_w]; rfl)
                refine pure_ (i := 27) (N := some 119) (v := undef) (a' := ?_) (bo_ 44 268435455) rfl rfl (any_of HT_.out (by kernel_rfl)) (fun _ _ _ h => h) (Or.inr ⟨by rfl, rfl⟩) ?_ ?_
                rotate_left; (· simp only [Act.put,List.setIfInBounds_toArray,List.set_cons_zero,List.set_cons_succ,i64_w,i32_w]; rfl)
                refine pure_ (i := 28) (N := some 120) (v := undef) (a' := ?_) (bo_ 44 536870911) rfl rfl (any_of HT_.out (by kernel_rfl)) (fun _ _ _ h => h) (Or.inr ⟨by rfl, rfl⟩) ?_ ?_
                rotate_left; (· simp only [Act.put,List.setIfInBounds_toArray,List.set_cons_zero,List.set_cons_succ,i64_w,i32_w]; rfl)
                refine pure_ (i := 29) (N := some 121) (v := undef) (a' := ?_) (bo_ 44 1073741823) rfl rfl (any_of HT_.out (by kernel_rfl)) (fun _ _ _ h => h) (Or.inr ⟨by rfl, rfl⟩) ?_ ?_
                rotate_left; (· simp only [Act.put,List.setIfInBounds_toArray,List.set_cons_zero,List.set_cons_succ,i64_w,i32_w]; rfl)
                refine pure_ (i := 30) (N := some 122) (v := ?_) (a' := ?_) (bo_ 44 2147483647) rfl rfl (any_of HT_.out (by kernel_rfl)) (fun _ _ _ h => h) (Or.inl ⟨by rfl, ?_⟩) ?_ ?_
                rotate_left; (· intro w'; go_simp; with_reducible rfl)
                rotate_left; (· simp only [Act.put,List.setIfInBounds_toArray,List.set_cons_zero,List.set_cons_succ,i64_w,i32_w]; rfl)
                refine pure_ (i := 31) (N := some 123) (v := ?_) (a' := ?_) (bo_ 44 4294967295) rfl rfl (any_of HT_.out (by kernel_rfl)) (fun _ _ _ h => h) (Or.inl ⟨by rfl, ?_⟩) ?_ ?_
                rotate_left; (· intro w'; go_simp; with_reducible rfl)
                rotate_left; (· simp only [Act.put,List.setIfInBounds_toArray,List.set_cons_zero,List.set_cons_succ,i64_w,i32_w]; rfl)
                refine pure_ (i := 32) (N := some 124) (v := undef) (a' := ?_) (bo_ 44 8589934591) rfl rfl (any_of HT_.out (by kernel_rfl)) (fun _ _ _ h => h) (Or.inr ⟨by rfl, rfl⟩) ?_ ?_
                rotate_left; (· simp only [Act.put,List.setIfInBounds_toArray,List.set_cons_zero,List.set_cons_succ,i64_w,i32_w]; rfl)
                refine pure_ (i := 33) (N := some 125) (v := undef) (a' := ?_) (bo_ 44 17179869183) rfl rfl (any_of HT_.out (by kernel_rfl)) (fun _ _ _ h => h) (Or.inr ⟨by rfl, rfl⟩) ?_ ?_
                rotate_left; (· simp only [Act.put,List.setIfInBounds_toArray,List.set_cons_zero,List.set_cons_succ,i64_w,i32_w]; rfl)
                refine pure_ (i := 34) (N := some 126) (v := undef) (a' := ?_) (bo_ 44 34359738367) rfl rfl (any_of HT_.out (by kernel_rfl)) (fun _ _ _ h => h) (Or.inr ⟨by rfl, rfl⟩) ?_ ?_
                rotate_left; (· simp only [Act.put,List.setIfInBounds_toArray,List.set_cons_zero,List.set_cons_succ,i64_w,i32_w]; rfl)
                refine pure_ (i := 35) (N := some 127) (v := undef) (a' := ?_) (bo_ 44 68719476735) rfl rfl (any_of HT_.out (by kernel_rfl)) (fun _ _ _ h => h) (Or.inr ⟨by rfl, rfl⟩) ?_ ?_
                rotate_left; (· simp only [Act.put,List.setIfInBounds_toArray,List.set_cons_zero,List.set_cons_succ,i64_w,i32_w]; rfl)
                refine pure_ (i := 36) (N := some 128) (v := undef) (a' := ?_) (bo_ 44 137438953471) rfl rfl (any_of HT_.out (by kernel_rfl)) (fun _ _ _ h => h) (Or.inr ⟨by rfl, rfl⟩) ?_ ?_
                rotate_left; (· simp only [Act.put,List.setIfInBounds_toArray,List.set_cons_zero,List.set_cons_succ,i64_w,i32_w]; rfl)
                refine pure_ (i := 37) (N := some 129) (v := undef) (a' := ?_) (bo_ 44 274877906943) rfl rfl (any_of HT_.out (by kernel_rfl)) (fun _ _ _ h => h) (Or.inr ⟨by rfl, rfl⟩) ?_ ?_
                rotate_left; (· simp only [Act.put,List.setIfInBounds_toArray,List.set_cons_zero,List.set_cons_succ,i64_w,i32_w]; rfl)
                refine pure_ (i := 38) (N := some 130) (v := undef) (a' := ?_) (bo_ 44 549755813887) rfl rfl (any_of HT_.out (by kernel_rfl)) (fun _ _ _ h => h) (Or.inr ⟨by rfl, rfl⟩) ?_ ?_
                rotate_left; (· simp only [Act.put,List.setIfInBounds_toArray,List.set_cons_zero,List.set_cons_succ,i64_w,i32_w]; rfl)
                refine pure_ (i := 39) (N := some 131) (v := undef) (a' := ?_) (bo_ 44 1099511627775) rfl rfl (any_of HT_.out (by kernel_rfl)) (fun _ _ _ h => h) (Or.inr ⟨by rfl, rfl⟩) ?_ ?_
                rotate_left; (· simp only [Act.put,List.setIfInBounds_toArray,List.set_cons_zero,List.set_cons_succ,i64_w,i32_w]; rfl)
                refine pure_ (i := 40) (N := some 132) (v := undef) (a' := ?_) (bo_ 44 2199023255551) rfl rfl (any_of HT_.out (by kernel_rfl)) (fun _ _ _ h => h) (Or.inr ⟨by rfl, rfl⟩) ?_ ?_
                rotate_left; (· simp only [Act.put,List.setIfInBounds_toArray,List.set_cons_zero,List.set_cons_succ,i64_w,i32_w]; rfl)
                refine pure_ (i := 41) (N := some 133) (v := undef) (a' := ?_) (bo_ 44 4398046511103) rfl rfl (any_of HT_.out (by kernel_rfl)) (fun _ _ _ h => h) (Or.inr ⟨by rfl, rfl⟩) ?_ ?_
                rotate_left; (· simp only [Act.put,List.setIfInBounds_toArray,List.set_cons_zero,List.set_cons_succ,i64_w,i32_w]; rfl)
                refine pure_ (i := 42) (N := some 134) (v := undef) (a' := ?_) (bo_ 44 8796093022207) rfl rfl (any_of HT_.out (by kernel_rfl)) (fun _ _ _ h => h) (Or.inr ⟨by rfl, rfl⟩) ?_ ?_
                rotate_left; (· simp only [Act.put,List.setIfInBounds_toArray,List.set_cons_zero,List.set_cons_succ,i64_w,i32_w]; rfl)
                refine pure_ (i := 43) (N := some 135) (v := ?_) (a' := ?_) (bo_ 44 17592186044415) rfl rfl (any_of HT_.out (by kernel_rfl)) (fun _ _ _ h => h) (Or.inl ⟨by rfl, ?_⟩) ?_ ?_
                rotate_left; (· intro w'; go_simp; with_reducible rfl)
                rotate_left; (· simp only [Act.put,List.setIfInBounds_toArray,List.set_cons_zero,List.set_cons_succ,i64_w,i32_w]; rfl)
                refine done_ (done_of HT_.out (by kernel_rfl)) ?_
                try go_wp2
                go_meet
                case rel => exact ⟨_, (true), (by first | rfl | (simp; done) | (simp [*]; done)), H', ⟨by have := HJ8.out; have := HK2.out; first | omega | exact Nat.le_refl _⟩, ⟨by (with_reducible repeat (first | apply Kd.N_alloc | apply Kd.N_drewN | apply Kd.N_drew)); exact HO_15.out⟩, ⟨by (with_reducible repeat (first | apply Kd.R_alloc | apply Kd.R_drewN | apply Kd.R_drew)); exact HO293.out⟩, ⟨by (with_reducible repeat (first | apply Kd.R_alloc | apply Kd.R_drewN | apply Kd.R_drew)); exact HO302.out⟩, ⟨by (with_reducible repeat (first | refine blk_drewN ?_ _ | refine blk_drew ?_ | refine blk_alloc ?_ _)); exact BK296.out⟩, ⟨by (with_reducible repeat (first | refine blk_drewN ?_ _ | refine blk_drew ?_ | refine blk_alloc ?_ _)); exact BK305.out⟩, ⟨by repeat (first | (with_reducible first | exact HB.out | apply below_alloc | apply pw_below_drewN | apply below_drew1 | refine below_set ?_ GE296.out | refine below_set ?_ GE305.out) | exact HB.out)⟩⟩
              case rest =>
               clear HC40
               try clear c2
               try clear p2
               try clear c5
               try clear c28
               try clear c29
               try clear c52
               try clear c52b0
               try clear c52b1
               obtain ⟨kq, x135_39, rfl, HA, HJ39, HO_15, HO_297002, HO_306002, BK296, BK305, HB⟩ := hcut
               cases kq with
               | zero => exact absurd HA.out (by simp [kerbsuitelaw4_BoxReads.j2])
               | succ kj39 =>
                have H := HA.out
                clear HA
                simp only [kerbsuitelaw4_BoxReads.j2] at H
                by_cases c85 : x135_39 = true
                ·subst c85
                 have H1 : (some false) = some r := by rw [if_pos rfl] at H; exact H
                 clear H
                 have H := H1
                 clear H1
                 obtain rfl := Option.some.inj H
                 go_wp2
                 go_ret
                 exact ⟨by first | rfl | (simp [errW_none, errW_some] <;> rfl) | (simp only [← hji20]; first | rfl | (simp [errW_none, errW_some] <;> rfl)) | (simp [*, errW_none, errW_some] <;> rfl), by repeat (first | (with_reducible first | exact HB.out | apply below_alloc | apply pw_below_drewN | apply below_drew1 | refine below_set ?_ GE296.out | refine below_set ?_ GE305.out) | exact HB.out)⟩
                ·replace c85 := Bool.eq_false_iff.mpr c85
                 subst c85
                 have H1 : (kerbsuitelaw4_BoxReads.l0 kj39 y285 (wrap64 (x16_2 + 1))) = some r := by rw [if_neg (show ¬ (false = true) by decide)] at H; exact H
                 clear H
                 have H := H1
                 clear H1
                 have H' := Aside0.mk H
                 clear H
                 go_wp2
                 go_roundg kj39
                 case measure => have := HJ8.out; have := HK2.out; have := HJ39.out; omega
                 case rel => exact ⟨(wrap64 (x16_2 + 1)), (by first | rfl | (simp; done) | (simp [*]; done)), H', ⟨by have := HJ8.out; have := HK2.out; have := HJ39.out; omega⟩, ⟨by (with_reducible repeat (first | apply Kd.N_alloc | apply Kd.N_drewN | apply Kd.N_drew)); exact Kd.N_mono HO_15.out (fun _ hk => hk.1)⟩, ⟨by repeat (first | (with_reducible first | exact HB.out | apply below_alloc | apply pw_below_drewN | apply below_drew1 | refine below_set ?_ GE296.out | refine below_set ?_ GE305.out) | exact HB.out)⟩⟩
             ·rw [if_neg c37] at H
              exact absurd H (by simp)
            ·rw [if_neg c36] at H
             have c36b0 : decide (x16_2 < (y285.length : Int)) = false := decide_eq_false c36
             clear c36
             obtain rfl := Option.some.inj H
             obtain ⟨Ao86, co86, eo86⟩ := Kd.N_slice HO_15.out
             subst eo86
             go_wp2
             go_ret
             exact ⟨by first | rfl | (simp [errW_none, errW_some] <;> rfl) | (simp only [← hji20]; first | rfl | (simp [errW_none, errW_some] <;> rfl)) | (simp [*, errW_none, errW_some] <;> rfl), by repeat (first | (with_reducible first | exact HB.out | apply below_alloc | apply pw_below_drewN | apply below_drew1) | exact HB.out)⟩
         ·rw [if_neg c22] at H
          exact absurd H (by simp)
        ·rw [if_neg c21] at H
         exact absurd H (by simp)
      ·rw [if_neg c17] at H
       exact absurd H (by simp)
     ·rw [if_neg c16] at H
      exact absurd H (by simp)
 ·replace c8 := Bool.eq_false_iff.mpr c8
  subst c8
  have H1 : (some false) = some r := by rw [if_neg (show ¬ (false = true) by decide)] at H; exact H
  clear H
  have H := H1
  clear H1
  obtain rfl := Option.some.inj H
  go_enter Try.func4, Try.ntmps4
  go_wp2_with (first | ((with_reducible refine gate_callee (f := 8) rfl ?_); refine goesL_ (some 23) rfl rfl Try.func8 (by kernel_rfl) rfl #[] rfl (by (try simp only [List.map_toArray, List.map_cons, List.map_nil]); first | done | rfl | (simp only [List.length_drop, List.length_take]; rfl)) ?_; (with_reducible refine (kerbsuitelaw4_awake.calls k  false _ A7.out).mono ?_); rintro e w87 ⟨rfl, hb⟩; refine ⟨_, rfl, ?_⟩; have n0_ := Aside0.mk (Kd.V_below (by (with_reducible repeat (first | apply Kd.V_alloc | apply Kd.V_drewN | apply Kd.V_drew)); exact HO0.out) hb); have n1_ := Aside0.mk (below_step (by repeat (first | (with_reducible first | exact HB.out | apply below_alloc | apply pw_below_drewN | apply below_drew1) | exact HB.out)) hb); clear HO0; clear HB; have HO0 := n0_; have HB := n1_; clear n0_ n1_; (try clear hb); (try clear hb2); (try clear hk); (try clear hi)))
  go_ret
  exact ⟨by first | rfl | (simp [errW_none, errW_some] <;> rfl) | (simp [*, errW_none, errW_some] <;> rfl), by repeat (first | (with_reducible first | exact HB.out | apply below_alloc | apply pw_below_drewN | apply below_drew1) | exact HB.out)⟩

/-- The one plain statement that is left of kerbsuitelaw4_BoxReads. -/
def kerbsuitelaw4_BoxReads.Pure : Prop := ∀ (l0 : List Int) (l1 : List Int) (l2 : List Int) (a3 : Int) (a4 : Int) (a5 : Int), l0.length ≤ maxLen → l0.length * 1 ≤ 140737488351232 → (∀ x ∈ l0, (Lit.int .u8 x).wf = true) → l1.length ≤ maxLen → l1.length * 1 ≤ 140737488351232 → (∀ x ∈ l1, (Lit.int .u8 x).wf = true) → l2.length ≤ maxLen → l2.length * 1 ≤ 140737488351232 → (∀ x ∈ l2, (Lit.int .u8 x).wf = true) → (Lit.int .u8 a3).wf = true → (Lit.int .u8 a4).wf = true → (Lit.int .u16 a5).wf = true → ∃ k, kerbsuitelaw4_BoxReads.f k l0 l1 l2 a3 a4 a5 = some true
theorem kerbsuitelaw4_BoxReads.walk (P : kerbsuitelaw4_BoxReads.Pure) (A0 : Option Addr) (c0 : Nat) (l0 : List Int) (A1 : Option Addr) (c1 : Nat) (l1 : List Int) (A2 : Option Addr) (c2 : Nat) (l2 : List Int) (a3 : Int) (a4 : Int) (a5 : Int) (w : World) (hr0 : Kd.C (Kd.int .u8) w A0 l0.length l0) (hc0 : l0.length ≤ c0) (q0_0 : l0.length ≤ maxLen) (q0_1 : l0.length * 1 ≤ 140737488351232) (q0_2 : (∀ x ∈ l0, (Lit.int .u8 x).wf = true)) (hr1 : Kd.C (Kd.int .u8) w A1 l1.length l1) (hc1 : l1.length ≤ c1) (q1_0 : l1.length ≤ maxLen) (q1_1 : l1.length * 1 ≤ 140737488351232) (q1_2 : (∀ x ∈ l1, (Lit.int .u8 x).wf = true)) (hr2 : Kd.C (Kd.int .u8) w A2 l2.length l2) (hc2 : l2.length ≤ c2) (q2_0 : l2.length ≤ maxLen) (q2_1 : l2.length * 1 ≤ 140737488351232) (q2_2 : (∀ x ∈ l2, (Lit.int .u8 x).wf = true)) (q3_0 : (Lit.int .u8 a3).wf = true) (q4_0 : (Lit.int .u8 a4).wf = true) (q5_0 : (Lit.int .u16 a5).wf = true) :
  Calls Try.prog 4 #[.slice A0 l0.length c0, .slice A1 l1.length c1, .slice A2 l2.length c2, .int .u8 a3, .int .u8 a4, .int .u16 a5] w fun e w' => e = .returned (.bool true) ∧ Below w.heap.size w w' := by
 obtain ⟨k, h⟩ := P l0 l1 l2 a3 a4 a5 q0_0 q0_1 q0_2 q1_0 q1_1 q1_2 q2_0 q2_1 q2_2 q3_0 q4_0 q5_0
 refine (kerbsuitelaw4_BoxReads.calls k (fun k_ => k_ < w.heap.size) A0 c0 l0 A1 c1 l1 A2 c2 l2 a3 a4 a5 true w (Go.Proofs.Ytchbnlcalcmdlaa.Aid.aid_V_of_C (Kd.heap_int .u8) hr0 hc0) hr1 hc1 hr2 hc2 h).mono ?_
 rintro e w' ⟨rfl, hd⟩
 exact ⟨rfl, hd⟩

end Go.Proofs.Ytchbnlcalcmdlaa.PBox
