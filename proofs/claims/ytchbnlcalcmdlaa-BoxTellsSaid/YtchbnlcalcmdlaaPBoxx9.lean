/- The walks of functions of the translation: each call returns what the plain function beside it says. -/
import Derived.Test.YtchbnlcalcmdlaaPBoxx0
import Derived.Test.YtchbnlcalcmdlaaPBoxx1
import Derived.Test.YtchbnlcalcmdlaaPBoxx2
import Derived.Test.YtchbnlcalcmdlaaPBoxx3
import Derived.Test.YtchbnlcalcmdlaaPBoxx8
namespace Go.Proofs.Ytchbnlcalcmdlaa.PBox
open Go.RowKit Go.Proofs.YtchbnlcalcmdlaaW.PrintWords Go.Proofs.YtchbnlcalcmdlaaW.PrintLast Go.Proofs.YtchbnlcalcmdlaaW.PrintMore Go.Proofs.Ytchbnlcalcmdlaa.Aid
attribute [local go_sem] max2_int min2_int max_two min_two max_three min_three max_four min_four aid_str_gtr   -- for this text's walks alone
set_option linter.unusedVariables false
set_option linter.unusedSimpArgs false

/-! ### kerbsuitelaw4_BoxTells: function 7 -/
mutual
def kerbsuitelaw4_BoxTells.j0 : Nat → List Int → List Int → Int → Int → Int → Int → Bool → Option (Bool)
 | 0, _, _, _, _, _, _, _ => none
 | k + 1, x0, x1, x2, x3, x4, x5, x30 => if x30 = true then (some true) else ((kerbsuitedata_Long.f (wrap64 (x4))).bind fun t403 => ((kerbsuiteref4_Make.f k (wrap64 (1 + (Int.tmod (wrap64 (x4)) 10))) t403 x1).bind fun bt404 => ((kerbsuitedata_Spoil.f bt404.1 x5).bind fun t408 => (kerbsuitelaw4_BoxTells.l0 k x2 x3 x4 (([x0, bt404.1, t408] : List (List Int))) 0))))
def kerbsuitelaw4_BoxTells.l0 : Nat → Int → Int → Int → List (List Int) → Int → Option (Bool)
 | 0, _, _, _, _, _ => none
 | k + 1, x2, x3, x4, x15, x16 => if x16 < (x15.length : Int) then (if 0 ≤ x16 then ((box_Open.f k (rd_L1 x15 x16) x2 x3).bind fun bt415 => ((kerbsuiteref4_Open.f k (rd_L1 x15 x16) x2 x3).bind fun bt420 => (if (strOfNums bt415.1).toList = (strOfNums bt420.1).toList then (kerbsuitelaw4_BoxTells.j2 k x2 x3 x4 x15 x16 (bt415.2 != bt420.2)) else (kerbsuitelaw4_BoxTells.j2 k x2 x3 x4 x15 x16 true)))) else (none)) else (some true)
def kerbsuitelaw4_BoxTells.j2 : Nat → Int → Int → Int → List (List Int) → Int → Bool → Option (Bool)
 | 0, _, _, _, _, _, _ => none
 | k + 1, x2, x3, x4, x15, x16, x84 => if x84 = true then (some false) else (if 0 ≤ x16 then (if x16 < (x15.length : Int) then ((kerbsuitedata_Long.f (wrap64 (x4))).bind fun t425 => ((box_Open.f k (rd_L1 x15 x16) (wrap64 (1 + (Int.tmod (wrap64 (x4)) 10))) t425).bind fun bt426 => ((kerbsuitedata_Long.f (wrap64 (x4))).bind fun t431 => ((kerbsuiteref4_Open.f k (rd_L1 x15 x16) (wrap64 (1 + (Int.tmod (wrap64 (x4)) 10))) t431).bind fun bt432 => (if (strOfNums bt426.1).toList = (strOfNums bt432.1).toList then (if (bt426.2 != bt432.2) = true then (some false) else (kerbsuitelaw4_BoxTells.l0 k x2 x3 x4 x15 (wrap64 (x16 + 1)))) else (some false)))))) else (none)) else (none))
end
def kerbsuitelaw4_BoxTells.f (k : Nat) (l0 : List Int) (l1 : List Int) (a2 : Int) (a3 : Int) (a4 : Int) (a5 : Int) : Option (Bool) := (kerbsuitelaw4_awake.f k).bind fun t402 => (if t402 = true then (if (l0.length : Int) > 1100 then (kerbsuitelaw4_BoxTells.j0 k l0 l1 a2 a3 a4 a5 true) else (kerbsuitelaw4_BoxTells.j0 k l0 l1 a2 a3 a4 a5 (decide ((l1.length : Int) > 900)))) else (some false))
theorem kerbsuitelaw4_BoxTells.mono_l : ∀ k, (∀ y0 y1 y2 y3 y4 y5 y6, LeO (kerbsuitelaw4_BoxTells.j0 k y0 y1 y2 y3 y4 y5 y6) (kerbsuitelaw4_BoxTells.j0 (k + 1) y0 y1 y2 y3 y4 y5 y6)) ∧ (∀ y0 y1 y2 y3 y4, LeO (kerbsuitelaw4_BoxTells.l0 k y0 y1 y2 y3 y4) (kerbsuitelaw4_BoxTells.l0 (k + 1) y0 y1 y2 y3 y4)) ∧ (∀ y0 y1 y2 y3 y4 y5, LeO (kerbsuitelaw4_BoxTells.j2 k y0 y1 y2 y3 y4 y5) (kerbsuitelaw4_BoxTells.j2 (k + 1) y0 y1 y2 y3 y4 y5))
 | 0 => ⟨fun _ _ _ _ _ _ _ r h => by simp [kerbsuitelaw4_BoxTells.j0] at h, fun _ _ _ _ _ r h => by simp [kerbsuitelaw4_BoxTells.l0] at h, fun _ _ _ _ _ _ r h => by simp [kerbsuitelaw4_BoxTells.j2] at h⟩
 | k + 1 => by
  obtain ⟨ih0, ih1, ih2⟩ := kerbsuitelaw4_BoxTells.mono_l k
  refine ⟨?_, ?_, ?_⟩
  ·intro y0 y1 y2 y3 y4 y5 y6
   unfold kerbsuitelaw4_BoxTells.j0
   repeat' first
   | (with_reducible exact ih0 _ _ _ _ _ _ _)
   | (with_reducible exact ih1 _ _ _ _ _)
   | (with_reducible exact ih2 _ _ _ _ _ _)
   | (with_reducible exact box_Open.mono _ _ _ _)
   | (with_reducible exact kerbsuitelaw4_awake.mono _)
   | (with_reducible exact kerbsuiteref4_Make.mono _ _ _ _)
   | (with_reducible exact kerbsuiteref4_Open.mono _ _ _ _)
   | (with_reducible exact LeO.refl _)
   | (with_reducible exact LeO.none _)
   | (with_reducible refine LeO.ite ?_ ?_)
   | (with_reducible refine LeO.bind ?_ (fun _ => ?_))
   | exact ih0 _ _ _ _ _ _ _
   | exact ih1 _ _ _ _ _
   | exact ih2 _ _ _ _ _ _
   | exact box_Open.mono _ _ _ _
   | exact kerbsuitelaw4_awake.mono _
   | exact kerbsuiteref4_Make.mono _ _ _ _
   | exact kerbsuiteref4_Open.mono _ _ _ _
   | exact LeO.none _
   | refine LeO.ite ?_ ?_
   | refine LeO.bind ?_ (fun _ => ?_)
  ·intro y0 y1 y2 y3 y4
   unfold kerbsuitelaw4_BoxTells.l0
   repeat' first
   | (with_reducible exact ih0 _ _ _ _ _ _ _)
   | (with_reducible exact ih1 _ _ _ _ _)
   | (with_reducible exact ih2 _ _ _ _ _ _)
   | (with_reducible exact box_Open.mono _ _ _ _)
   | (with_reducible exact kerbsuitelaw4_awake.mono _)
   | (with_reducible exact kerbsuiteref4_Make.mono _ _ _ _)
   | (with_reducible exact kerbsuiteref4_Open.mono _ _ _ _)
   | (with_reducible exact LeO.refl _)
   | (with_reducible exact LeO.none _)
   | (with_reducible refine LeO.ite ?_ ?_)
   | (with_reducible refine LeO.bind ?_ (fun _ => ?_))
   | exact ih0 _ _ _ _ _ _ _
   | exact ih1 _ _ _ _ _
   | exact ih2 _ _ _ _ _ _
   | exact box_Open.mono _ _ _ _
   | exact kerbsuitelaw4_awake.mono _
   | exact kerbsuiteref4_Make.mono _ _ _ _
   | exact kerbsuiteref4_Open.mono _ _ _ _
   | exact LeO.none _
   | refine LeO.ite ?_ ?_
   | refine LeO.bind ?_ (fun _ => ?_)
  ·intro y0 y1 y2 y3 y4 y5
   unfold kerbsuitelaw4_BoxTells.j2
   repeat' first
   | (with_reducible exact ih0 _ _ _ _ _ _ _)
   | (with_reducible exact ih1 _ _ _ _ _)
   | (with_reducible exact ih2 _ _ _ _ _ _)
   | (with_reducible exact box_Open.mono _ _ _ _)
   | (with_reducible exact kerbsuitelaw4_awake.mono _)
   | (with_reducible exact kerbsuiteref4_Make.mono _ _ _ _)
   | (with_reducible exact kerbsuiteref4_Open.mono _ _ _ _)
   | (with_reducible exact LeO.refl _)
   | (with_reducible exact LeO.none _)
   | (with_reducible refine LeO.ite ?_ ?_)
   | (with_reducible refine LeO.bind ?_ (fun _ => ?_))
   | exact ih0 _ _ _ _ _ _ _
   | exact ih1 _ _ _ _ _
   | exact ih2 _ _ _ _ _ _
   | exact box_Open.mono _ _ _ _
   | exact kerbsuitelaw4_awake.mono _
   | exact kerbsuiteref4_Make.mono _ _ _ _
   | exact kerbsuiteref4_Open.mono _ _ _ _
   | exact LeO.none _
   | refine LeO.ite ?_ ?_
   | refine LeO.bind ?_ (fun _ => ?_)
theorem kerbsuitelaw4_BoxTells.mono : ∀ a0 a1 a2 a3 a4 a5 k, LeO (kerbsuitelaw4_BoxTells.f k a0 a1 a2 a3 a4 a5) (kerbsuitelaw4_BoxTells.f (k + 1) a0 a1 a2 a3 a4 a5) := by
 intro a0 a1 a2 a3 a4 a5 k
 obtain ⟨ih0, ih1, ih2⟩ := kerbsuitelaw4_BoxTells.mono_l k
 unfold kerbsuitelaw4_BoxTells.f
 repeat' first
   | (with_reducible exact ih0 _ _ _ _ _ _ _)
   | (with_reducible exact ih1 _ _ _ _ _)
   | (with_reducible exact ih2 _ _ _ _ _ _)
   | (with_reducible exact box_Open.mono _ _ _ _)
   | (with_reducible exact kerbsuitelaw4_awake.mono _)
   | (with_reducible exact kerbsuiteref4_Make.mono _ _ _ _)
   | (with_reducible exact kerbsuiteref4_Open.mono _ _ _ _)
   | (with_reducible exact LeO.refl _)
   | (with_reducible exact LeO.none _)
   | (with_reducible refine LeO.ite ?_ ?_)
   | (with_reducible refine LeO.bind ?_ (fun _ => ?_))
   | exact ih0 _ _ _ _ _ _ _
   | exact ih1 _ _ _ _ _
   | exact ih2 _ _ _ _ _ _
   | exact box_Open.mono _ _ _ _
   | exact kerbsuitelaw4_awake.mono _
   | exact kerbsuiteref4_Make.mono _ _ _ _
   | exact kerbsuiteref4_Open.mono _ _ _ _
   | exact LeO.none _
   | refine LeO.ite ?_ ?_
   | refine LeO.bind ?_ (fun _ => ?_)
def kerbsuitelaw4_BoxTells.T14 : Bool × List (List Nat × List Nat) := (true,[([], []), ([], []), ([0, 1], [0, 1]), ([2], [2]), ([], []), ([4], [4]), ([5], [5]), ([6], [6]), ([], []), ([8], [8]), ([9], [9]), ([3, 7, 10, 10], [3, 7, 10]), ([11], [11]), ([12], [12]), ([12], [12]), ([13, 11, 0, 1, 2, 3, 4, 5, 6, 7, 8, 9, 10, 11, 12, 13], [13]), ([14, 15, 0, 1, 2, 3, 4, 5, 6, 7, 8, 9, 10, 11, 12, 13, 14, 15], [14])])
def kerbsuitelaw4_BoxTells.B14 : List Nat := [0, 0, 3, 7, 0, 16, 48, 112, 0, 256, 768, 2047, 4095, 8191, 8191, 16383, 65535]
theorem kerbsuitelaw4_BoxTells.tab14 : rtab .any (opsOf Try.f7 14) = kerbsuitelaw4_BoxTells.T14 := by kernel_rfl
theorem kerbsuitelaw4_BoxTells.bits14 : waitsOk kerbsuitelaw4_BoxTells.T14.2 kerbsuitelaw4_BoxTells.B14 = true := by kernel_rfl
def kerbsuitelaw4_BoxTells.T15 : Bool × List (List Nat × List Nat) := (true,[([], []), ([], []), ([0, 1], [0, 1]), ([2], [2]), ([], []), ([4], [4]), ([5], [5]), ([6], [6]), ([], []), ([8], [8]), ([9], [9]), ([3, 7, 10, 10], [3, 7, 10]), ([11], [11]), ([12], [12]), ([12], [12]), ([13, 11, 0, 1, 2, 3, 4, 5, 6, 7, 8, 9, 10, 11, 12, 13], [13]), ([14, 15, 0, 1, 2, 3, 4, 5, 6, 7, 8, 9, 10, 11, 12, 13, 14, 15], [14])])
def kerbsuitelaw4_BoxTells.B15 : List Nat := [0, 0, 3, 7, 0, 16, 48, 112, 0, 256, 768, 2047, 4095, 8191, 8191, 16383, 65535]
theorem kerbsuitelaw4_BoxTells.tab15 : rtab .any (opsOf Try.f7 15) = kerbsuitelaw4_BoxTells.T15 := by kernel_rfl
theorem kerbsuitelaw4_BoxTells.bits15 : waitsOk kerbsuitelaw4_BoxTells.T15.2 kerbsuitelaw4_BoxTells.B15 = true := by kernel_rfl
set_option maxHeartbeats 8000000 in
set_option maxRecDepth 100000 in
theorem kerbsuitelaw4_BoxTells.calls (k : Nat) (P0_ : Nat → Prop) (A0 : Option Addr) (c0 : Nat) (l0 : List Int) (A1 : Option Addr) (c1 : Nat) (l1 : List Int) (a2 : Int) (a3 : Int) (a4 : Int) (a5 : Int) (r : Bool) (w : World) (hs0 : Kd.V (Kd.int .u8) 5 w w.heap.size (fun k_ => P0_ k_) (.slice A0 l0.length c0) l0) (hr1 : Kd.C (Kd.int .u8) w A1 l1.length l1) (hc1 : l1.length ≤ c1) (h : kerbsuitelaw4_BoxTells.f k l0 l1 a2 a3 a4 a5 = some r) :
  Calls Try.prog 7 #[.slice A0 l0.length c0, .slice A1 l1.length c1, .int .i64 a2, .int .u64 a3, .int .u8 a4, .int .u16 a5] w fun e w' => e = .returned (.bool r) ∧ Below w.heap.size w w' := by
 have HO0 := Aside0.mk (show Kd.V (Kd.int .u8) 5 w w.heap.size (fun k_ => (P0_ k_ ∨ w.heap.size ≤ k_)) (.slice A0 l0.length c0) l0 from Kd.V_mono hs0 (fun k_ hk => .inl hk))
 have HR1 := Aside0.mk hr1
 have HC1 := Aside0.mk hc1
 clear hr1 hc1
 have HB := Aside0.mk (Below.refl w.heap.size w)
 have H : ((kerbsuitelaw4_awake.f k).bind fun t402 => (if t402 = true then (if (l0.length : Int) > 1100 then (kerbsuitelaw4_BoxTells.j0 k l0 l1 a2 a3 a4 a5 true) else (kerbsuitelaw4_BoxTells.j0 k l0 l1 a2 a3 a4 a5 (decide ((l1.length : Int) > 900)))) else (some false))) = some r := h
 clear h
 replace H := Option.bind_eq_some_iff.mp H
 obtain ⟨t402, A70, H⟩ := H
 replace H : (if t402 = true then (if (l0.length : Int) > 1100 then (kerbsuitelaw4_BoxTells.j0 k l0 l1 a2 a3 a4 a5 true) else (kerbsuitelaw4_BoxTells.j0 k l0 l1 a2 a3 a4 a5 (decide ((l1.length : Int) > 900)))) else (some false)) = some r := H
 have A7 := Aside0.mk A70
 clear A70
 by_cases c8 : t402 = true
 ·subst c8
  have H1 : (if (l0.length : Int) > 1100 then (kerbsuitelaw4_BoxTells.j0 k l0 l1 a2 a3 a4 a5 true) else (kerbsuitelaw4_BoxTells.j0 k l0 l1 a2 a3 a4 a5 (decide ((l1.length : Int) > 900)))) = some r := by rw [if_pos rfl] at H; exact H
  clear H
  have H := H1
  clear H1
  have HC9 := Aside0.mk H
  clear H
  go_enter Try.func7, Try.ntmps7
  go_upto_region 3 with (first | ((with_reducible refine gate_callee (f := 8) rfl ?_); refine goesL_ (some 21) rfl rfl Try.func8 (by kernel_rfl) rfl #[] rfl (by (try simp only [List.map_toArray, List.map_cons, List.map_nil]); first | done | rfl | (simp only [List.length_drop, List.length_take]; rfl)) ?_; (with_reducible refine (kerbsuitelaw4_awake.calls k  true _ A7.out).mono ?_); rintro e w10 ⟨rfl, hb⟩; refine ⟨_, rfl, ?_⟩; have n0_ := Aside0.mk (Kd.V_below (by (with_reducible repeat (first | apply Kd.V_alloc | apply Kd.V_drewN | apply Kd.V_drew)); exact HO0.out) hb); have n1_ := Aside0.mk (below_step (by repeat (first | (with_reducible first | exact HB.out | apply below_alloc | apply pw_below_drewN | apply below_drew1) | exact HB.out)) hb); clear HO0; clear HB; have HO0 := n0_; have HB := n1_; clear n0_ n1_; (try clear hb); (try clear hb2); (try clear hk); (try clear hi)))
  (try simp only [Act.put, List.setIfInBounds_toArray, List.set_cons_zero, List.set_cons_succ])
  go_cut [30] (fun v30 wc => ∃ (kq : Nat) (x30_8 : Bool), v30 = .bool x30_8 ∧ Aside0 (kerbsuitelaw4_BoxTells.j0 kq l0 l1 a2 a3 a4 a5 x30_8 = some r) ∧ Aside0 (kq ≤ k) ∧ Aside0 (Kd.V (Kd.int .u8) 5 wc w.heap.size (fun k_ => (P0_ k_ ∨ w.heap.size ≤ k_)) (.slice A0 l0.length c0) l0) ∧ Aside0 (Below w.heap.size w wc))
  case first =>
   have H := HC9.out
   clear HC9
   by_cases c11 : (l0.length : Int) > 1100
   ·rw [if_pos c11] at H
    have c11b0 : decide (1100 < (l0.length : Int)) = true := decide_eq_true c11
    have c11b1 : decide (1100 < l0.length) = true := decide_eq_true (by omega)
    clear c11
    (first | rw [c11b0] | (simp only [i64_w, i32_w]; rw [c11b0]) | skip)
    have H' := Aside0.mk H
    clear H
    go_wp2
    go_meet
    case rel => exact ⟨_, (true), (by first | rfl | (simp; done) | (simp [*]; done)), H', ⟨by first | omega | exact Nat.le_refl _⟩, ⟨by (with_reducible repeat (first | apply Kd.V_alloc | apply Kd.V_drewN | apply Kd.V_drew)); exact HO0.out⟩, ⟨by repeat (first | (with_reducible first | exact HB.out | apply below_alloc | apply pw_below_drewN | apply below_drew1) | exact HB.out)⟩⟩
   ·rw [if_neg c11] at H
    have c11b0 : decide (1100 < (l0.length : Int)) = false := decide_eq_false c11
    have c11b1 : decide (1100 < l0.length) = false := decide_eq_false (by omega)
    clear c11
    (first | rw [c11b0] | (simp only [i64_w, i32_w]; rw [c11b0]) | skip)
    have H' := Aside0.mk H
    clear H
    go_wp2
    go_meet
    case rel => exact ⟨_, (decide ((l1.length : Int) > 900)), (by first | rfl | (simp; done) | (simp [*]; done)), H', ⟨by first | omega | exact Nat.le_refl _⟩, ⟨by (with_reducible repeat (first | apply Kd.V_alloc | apply Kd.V_drewN | apply Kd.V_drew)); exact HO0.out⟩, ⟨by repeat (first | (with_reducible first | exact HB.out | apply below_alloc | apply pw_below_drewN | apply below_drew1) | exact HB.out)⟩⟩
  case rest =>
   clear HC9
   try clear c1
   try clear p2
   try clear c7
   try clear c8
   try clear c11
   try clear c11b0
   try clear c11b1
   obtain ⟨kq, x30_8, rfl, HA, HJ8, HO_0, HB⟩ := hcut
   cases kq with
   | zero => exact absurd HA.out (by simp [kerbsuitelaw4_BoxTells.j0])
   | succ kj8 =>
    have H := HA.out
    clear HA
    simp only [kerbsuitelaw4_BoxTells.j0] at H
    by_cases c12 : x30_8 = true
    ·subst c12
     have H1 : (some true) = some r := by rw [if_pos rfl] at H; exact H
     clear H
     have H := H1
     clear H1
     obtain rfl := Option.some.inj H
     go_wp2
     go_ret
     exact ⟨by first | rfl | (simp [errW_none, errW_some] <;> rfl) | (simp [*, errW_none, errW_some] <;> rfl), by repeat (first | (with_reducible first | exact HB.out | apply below_alloc | apply pw_below_drewN | apply below_drew1) | exact HB.out)⟩
    ·replace c12 := Bool.eq_false_iff.mpr c12
     subst c12
     have H1 : ((kerbsuitedata_Long.f (wrap64 (a4))).bind fun t403 => ((kerbsuiteref4_Make.f kj8 (wrap64 (1 + (Int.tmod (wrap64 (a4)) 10))) t403 l1).bind fun bt404 => ((kerbsuitedata_Spoil.f bt404.1 a5).bind fun t408 => (kerbsuitelaw4_BoxTells.l0 kj8 a2 a3 a4 (([l0, bt404.1, t408] : List (List Int))) 0)))) = some r := by rw [if_neg (show ¬ (false = true) by decide)] at H; exact H
     clear H
     have H := H1
     clear H1
     replace H := Option.bind_eq_some_iff.mp H
     obtain ⟨t403, A130, H⟩ := H
     replace H : ((kerbsuiteref4_Make.f kj8 (wrap64 (1 + (Int.tmod (wrap64 (a4)) 10))) t403 l1).bind fun bt404 => ((kerbsuitedata_Spoil.f bt404.1 a5).bind fun t408 => (kerbsuitelaw4_BoxTells.l0 kj8 a2 a3 a4 (([l0, bt404.1, t408] : List (List Int))) 0))) = some r := H
     have A13 := Aside0.mk A130
     clear A130
     replace H := Option.bind_eq_some_iff.mp H
     obtain ⟨⟨t404, t405⟩, A140, H⟩ := H
     replace H : ((kerbsuitedata_Spoil.f t404 a5).bind fun t408 => (kerbsuitelaw4_BoxTells.l0 kj8 a2 a3 a4 (([l0, t404, t408] : List (List Int))) 0)) = some r := H
     have A14 := Aside0.mk A140
     clear A140
     replace H := Option.bind_eq_some_iff.mp H
     obtain ⟨t408, A150, H⟩ := H
     replace H : (kerbsuitelaw4_BoxTells.l0 kj8 a2 a3 a4 (([l0, t404, t408] : List (List Int))) 0) = some r := H
     have A15 := Aside0.mk A150
     clear A150
     obtain ⟨y411, hy411⟩ : ∃ y_ : List (List Int), y_ = (([l0, t404, t408] : List (List Int))) := ⟨_, rfl⟩
     replace H : (kerbsuitelaw4_BoxTells.l0 kj8 a2 a3 a4 y411 0) = some r := by first | (rw [hy411]; with_reducible exact H) | (have H2_ := (Option.bind_some _ _).symm.trans H; rw [hy411]; with_reducible exact H2_) | (have H2_ := (Option.bind_some _ _).symm.trans H; with_reducible exact H2_) | with_reducible exact H | (rw [hy411]; exact H) | exact H
     have Ny411 := Aside0.mk hy411
     clear hy411
     have H' := Aside0.mk H
     clear H
     go_wp2_with (first | ((with_reducible refine gate_callee (f := 10) rfl ?_); refine goesL_ (some 38) rfl rfl Try.func10 (by kernel_rfl) rfl #[.int .i64 (wrap64 (a4))] rfl (by (try simp only [List.map_toArray, List.map_cons, List.map_nil]); first | done | rfl | (simp only [List.length_drop, List.length_take]; rfl)) ?_; (with_reducible refine (kerbsuitedata_Long.calls (wrap64 (a4)) t403 _ A13.out).mono ?_); rintro e w' ⟨rfl, ⟨nd, rfl⟩⟩; refine ⟨_, rfl, ?_⟩) | ((with_reducible refine gate_callee (f := 12) rfl ?_); refine goesL_ (some 40) rfl rfl Try.func12 (by kernel_rfl) rfl #[.int .i64 (wrap64 (1 + (Int.tmod (wrap64 (a4)) 10))), .int .u64 t403, .slice A1 l1.length c1] rfl (by (try simp only [List.map_toArray, List.map_cons, List.map_nil]); first | done | rfl | (simp only [List.length_drop, List.length_take]; rfl)) ?_; (with_reducible refine (kerbsuiteref4_Make.calls kj8 (wrap64 (1 + (Int.tmod (wrap64 (a4)) 10))) t403 _ _ l1 t404 t405 _ ?side1 ?side2 A14.out).mono ?_); (case side1 => repeat (first | exact (Kd.C_below HR1.out (by repeat (first | (with_reducible first | exact HB.out | apply below_alloc | apply pw_below_drewN | apply below_drew1) | exact HB.out))) | (with_reducible refine Kd.C_alloc ?_ _) | (with_reducible refine Kd.C_drewN ?_ _) | (with_reducible refine Kd.C_drew ?_))); (case side2 => exact HC1.out); rintro e w16 ⟨v406, rfl, ho0, hb⟩; refine ⟨_, rfl, ?_⟩; have n0_ := Aside0.mk (Kd.V_elder' (by (with_reducible repeat (first | apply Kd.V_alloc | apply Kd.V_drewN | apply Kd.V_drew)); exact HO_0.out) (Kd.R_base ho0) hb); have n1_ := Aside0.mk (Kd.R_lower (Kd.R_newM (M := fun k_ => (w.heap.size ≤ k_)) ho0 (below_size (by repeat (first | (with_reducible first | exact HB.out | apply below_alloc | apply pw_below_drewN | apply below_drew1) | exact HB.out))) (fun k_ h_ => h_)) (below_size (by repeat (first | (with_reducible first | exact HB.out | apply below_alloc | apply pw_below_drewN | apply below_drew1) | exact HB.out)))); have n2_ := Aside0.mk (below_step (by repeat (first | (with_reducible first | exact HB.out | apply below_alloc | apply pw_below_drewN | apply below_drew1) | exact HB.out)) hb); clear HO_0; clear HB; have HO_0 := n0_; have HO407 := n1_; have HB := n2_; clear n0_ n1_ n2_; (try clear hb); (try clear hb2); (try clear hk); (try clear hi); (try clear ho0); obtain ⟨Ao17, co17, eo17⟩ := Kd.R_slice HO407.out; subst eo17) | ((with_reducible refine gate_callee (f := 14) rfl ?_); refine goesL_ (some 47) rfl rfl Try.func14 (by kernel_rfl) rfl #[.slice Ao17 t404.length co17, .int .u16 a5] rfl (by (try simp only [List.map_toArray, List.map_cons, List.map_nil]); first | done | rfl | (simp only [List.length_drop, List.length_take]; rfl)) ?_; (with_reducible refine (kerbsuitedata_Spoil.calls _ _ t404 a5 t408 _ ?side1 ?side2 A15.out).mono ?_); (case side1 => repeat (first | exact (Kd.R_reads' HO407.out).2.2 | (with_reducible refine Kd.C_alloc ?_ _) | (with_reducible refine Kd.C_drewN ?_ _) | (with_reducible refine Kd.C_drew ?_))); (case side2 => exact (Kd.R_reads' HO407.out).2.1); rintro e w18 ⟨v409, rfl, ho0, hb⟩; refine ⟨_, rfl, ?_⟩; have n0_ := Aside0.mk (Kd.V_elder' (by (with_reducible repeat (first | apply Kd.V_alloc | apply Kd.V_drewN | apply Kd.V_drew)); exact HO_0.out) (Kd.R_base ho0) hb); have n1_ := Aside0.mk (Kd.R_elder' (by (with_reducible repeat (first | apply Kd.R_alloc | apply Kd.R_drewN | apply Kd.R_drew)); exact HO407.out) (Kd.R_base ho0) hb); have n2_ := Aside0.mk (Kd.R_lower (Kd.R_new' (Kd.R_newM (M := fun k_ => (w.heap.size ≤ k_)) ho0 (below_size (by repeat (first | (with_reducible first | exact HB.out | apply below_alloc | apply pw_below_drewN | apply below_drew1) | exact HB.out))) (fun k_ h_ => h_)) (Kd.R_lt (by (with_reducible repeat (first | apply Kd.R_alloc | apply Kd.R_drewN | apply Kd.R_drew)); exact HO407.out))) (below_size (by repeat (first | (with_reducible first | exact HB.out | apply below_alloc | apply pw_below_drewN | apply below_drew1) | exact HB.out)))); have n3_ := Aside0.mk (below_step (by repeat (first | (with_reducible first | exact HB.out | apply below_alloc | apply pw_below_drewN | apply below_drew1) | exact HB.out)) hb); clear HO_0; clear HO407; clear HB; have HO_0 := n0_; have HO407 := n1_; have HO410 := n2_; have HB := n3_; clear n0_ n1_ n2_ n3_; (try clear hb); (try clear hb2); (try clear hk); (try clear hi); (try clear ho0); obtain ⟨Ao19, co19, eo19⟩ := Kd.R_slice HO410.out; subst eo19) | ((with_reducible refine gate_dst (N := 48) rfl ?_); (try (refine gate_guard (by rfl) ?_; dsimp only)); refine Kd.N_lit (Kd.slice 5 (Kd.int .u8)) _ 24 ?hg (N' := 48) ?hd (xs := ([l0, t404, t408] : List (List Int))) (inner := [.slice A0 l0.length c0, .slice Ao17 t404.length co17, .slice Ao19 t408.length co19]) (ok := (fun k_ => (P0_ k_ ∨ w.heap.size ≤ k_))) (okp := (fun k_ => (P0_ k_ ∨ w.heap.size ≤ k_))) ?hr ?hp (fun _ hk => hk) ((show ∀ k_, w18.heap.size ≤ k_ → (fun k_ => (P0_ k_ ∨ w.heap.size ≤ k_)) k_ from fun k_ hk => (.inr (Nat.le_trans (below_size (by repeat (first | (with_reducible first | exact HB.out | apply below_alloc | apply pw_below_drewN | apply below_drew1) | exact HB.out))) hk))) _ (Nat.le_refl _)) (Below.refl _ _) (Nat.le_refl _) (by simp) ?_; (case hd => rfl); (case hg => rfl); (case hr => first | (go_simp; done) | (go_simp; rfl)); (case hp => exact (Reps.one (show Kd.FK (Kd.slice 5 (Kd.int .u8)) _ _ l0 [.slice A0 l0.length c0] from (Kd.FK_slice_mk (Kd.V_reads' (Kd.V_mono (ok' := (fun k_ => (P0_ k_ ∨ w.heap.size ≤ k_))) (HO_0.out) (fun k_ hk => hk.1.1))).2.1 (Kd.V_F (Kd.V_mono (ok' := (fun k_ => (P0_ k_ ∨ w.heap.size ≤ k_))) (HO_0.out) (fun k_ hk => hk.1.1))))) (Reps.one (show Kd.FK (Kd.slice 5 (Kd.int .u8)) _ _ t404 [.slice Ao17 t404.length co17] from (Kd.FK_slice_mk (Kd.R_reads' (Kd.R_mono (ok' := (fun k_ => (P0_ k_ ∨ w.heap.size ≤ k_))) (HO407.out) (fun k_ hk => (.inr (hk.1.1))))).2.1 (Kd.R_F (Kd.R_mono (ok' := (fun k_ => (P0_ k_ ∨ w.heap.size ≤ k_))) (HO407.out) (fun k_ hk => (.inr (hk.1.1))))))) (Reps.one (show Kd.FK (Kd.slice 5 (Kd.int .u8)) _ _ t408 [.slice Ao19 t408.length co19] from (Kd.FK_slice_mk (Kd.R_reads' (Kd.R_mono (ok' := (fun k_ => (P0_ k_ ∨ w.heap.size ≤ k_))) (HO410.out) (fun k_ hk => (.inr (hk.1.1))))).2.1 (Kd.R_F (Kd.R_mono (ok' := (fun k_ => (P0_ k_ ∨ w.heap.size ≤ k_))) (HO410.out) (fun k_ hk => (.inr (hk.1.1))))))) (Reps.none _ _))))); intro v412 w20 ho21 hb hg_ hnew_; clear hg_ hnew_; (first | rw [← Ny411.out] at ho21 | (simp only [Int.reduceToNat] at ho21; rw [← Ny411.out] at ho21)); have n0_ := Aside0.mk (Kd.V_elder' (by (with_reducible repeat (first | apply Kd.V_alloc | apply Kd.V_drewN | apply Kd.V_drew)); exact HO_0.out) (Kd.N_base ho21) hb); have n1_ := Aside0.mk (Kd.N_lower ho21 (below_size (by repeat (first | (with_reducible first | exact HB.out | apply below_alloc | apply pw_below_drewN | apply below_drew1) | exact HB.out)))); have n2_ := Aside0.mk (below_step (by repeat (first | (with_reducible first | exact HB.out | apply below_alloc | apply pw_below_drewN | apply below_drew1) | exact HB.out)) hb); clear HO_0; clear HB; clear HO407; clear HO410; have HO_0 := n0_; have HO413 := n1_; have HB := n2_; clear n0_ n1_ n2_; clear hb ho21))
     go_loopg [16] kj8 (fun kq v16 w' => ∃ (x16_2 : Int), v16 = .int .i64 x16_2 ∧ Aside0 (kerbsuitelaw4_BoxTells.l0 kq a2 a3 a4 y411 x16_2 = some r) ∧ Aside0 (kq ≤ kj8) ∧ Aside0 (Kd.N (Kd.slice 5 (Kd.int .u8)) 24 w' w.heap.size (fun k_ => (P0_ k_ ∨ w.heap.size ≤ k_)) v412 y411) ∧ Aside0 (Below w.heap.size w w'))
     case atStart => exact ⟨(0), (by first | rfl | (simp; done) | (simp [*]; done)), H', ⟨Nat.le_refl _⟩, ⟨by (with_reducible repeat (first | apply Kd.N_alloc | apply Kd.N_drewN | apply Kd.N_drew)); exact HO413.out⟩, ⟨by repeat (first | (with_reducible first | exact HB.out | apply below_alloc | apply pw_below_drewN | apply below_drew1) | exact HB.out)⟩⟩
     case round =>
      clear H'
      try clear c1
      try clear p2
      try clear p6
      try clear c7
      try clear c8
      try clear c10
      try clear c11
      try clear c11b0
      try clear c11b1
      try clear c12
      try clear c14
      try clear p2
      obtain ⟨x16_2, rfl, HA, HK2, HO_15, HB⟩ := hrel
      cases gk with
      | zero => exact absurd HA.out (by simp [kerbsuitelaw4_BoxTells.l0])
      | succ k2 =>
       have H := HA.out
       clear HA
       simp only [kerbsuitelaw4_BoxTells.l0] at H
       by_cases c22 : x16_2 < (y411.length : Int)
       ·rw [if_pos c22] at H
        have c22b0 : decide (x16_2 < (y411.length : Int)) = true := decide_eq_true c22
        clear c22
        by_cases c23 : 0 ≤ x16_2
        ·rw [if_pos c23] at H
         have c23b0 : decide (0 ≤ x16_2) = true := decide_eq_true c23
         clear c23
         replace H := Option.bind_eq_some_iff.mp H
         obtain ⟨⟨t415, t416⟩, A240, H⟩ := H
         replace H : ((kerbsuiteref4_Open.f k2 (rd_L1 y411 x16_2) a2 a3).bind fun bt420 => (if (strOfNums t415).toList = (strOfNums bt420.1).toList then (kerbsuitelaw4_BoxTells.j2 k2 a2 a3 a4 y411 x16_2 (t416 != bt420.2)) else (kerbsuitelaw4_BoxTells.j2 k2 a2 a3 a4 y411 x16_2 true))) = some r := H
         have A24 := Aside0.mk A240
         clear A240
         replace H := Option.bind_eq_some_iff.mp H
         obtain ⟨⟨t420, t421⟩, A250, H⟩ := H
         replace H : (if (strOfNums t415).toList = (strOfNums t420).toList then (kerbsuitelaw4_BoxTells.j2 k2 a2 a3 a4 y411 x16_2 (t416 != t421)) else (kerbsuitelaw4_BoxTells.j2 k2 a2 a3 a4 y411 x16_2 true)) = some r := H
         have A25 := Aside0.mk A250
         clear A250
         have HC26 := Aside0.mk H
         clear H
         obtain ⟨Ao27, co27, eo27⟩ := Kd.N_slice HO_15.out
         subst eo27
         have p414 : 0 ≤ (x16_2 : Int) := of_decide_eq_true (by first | (with_reducible assumption) | assumption)
         have q414 : x16_2 < (y411.length : Int) := of_decide_eq_true (by first | (with_reducible assumption) | assumption)
         obtain ⟨ad414, A414_0, c414_0, e414, hx414_0, hl414_0, hi414_0⟩ := at_L1 (Kd.N_reads' HO_15.out).2.2 x16_2 p414 q414
         cases e414
         obtain ⟨ce414, hce414, hMe414, hcc414⟩ := Kd.N_get HO_15.out [] x16_2 p414 (by first | exact q414 | exact of_decide_eq_true (by first | (with_reducible assumption) | assumption) | (have e_ := (Kd.N_reads' HO_15.out).1; omega))
         obtain ⟨ua414_0, uc414_0, rfl, ul414_0, ge414_0⟩ := Kd.FK_slice_open hMe414
         have hv414_0 := hcc414 0 _ rfl
         rw [Nat.add_zero, show ((Kd.slice 5 (Kd.int .u8))).sz = 1 from rfl, Nat.mul_one] at hv414_0
         replace hv414_0 := Option.some.inj (hv414_0.symm.trans hx414_0)
         injection hv414_0 with hva_ hvn_ hvc_
         rw [hva_] at ge414_0
         rw [hvc_] at ul414_0
         have HL414_0 := Aside0.mk (show Kd.V (Kd.int .u8) 5 _ w.heap.size _ _ (rd_L1 y411 x16_2) from Kd.V_mk ul414_0 ge414_0)
         clear hva_ hvn_ hvc_ ge414_0 ul414_0
         clear hcc414 hce414
         have HR414_0 := Aside0.mk hi414_0
         have HC414_0 := Aside0.mk hl414_0
         clear hi414_0 hl414_0
         replace p414 := eq_true p414
         replace q414 := eq_true q414
         go_upto_region 12 with (first | ((with_reducible refine gate_callee (f := 19) rfl ?_); refine goesL_ (some 62) rfl rfl Try.func19 (by kernel_rfl) rfl #[.slice A414_0 (rd_L1 y411 x16_2).length c414_0, .int .i64 a2, .int .u64 a3] rfl (by (try simp only [List.map_toArray, List.map_cons, List.map_nil]); first | done | rfl | (simp only [List.length_drop, List.length_take]; rfl)) ?_; (with_reducible refine (box_Open.calls k2 _ _ (rd_L1 y411 x16_2) a2 a3 t415 t416 _ ?side1 ?side2 A24.out).mono ?_); (case side1 => repeat (first | exact (by first | (with_reducible exact HR414_0.out) | (with_reducible exact Kd.C_drewN HR414_0.out _) | (with_reducible exact Kd.C_drew HR414_0.out) | repeat (first | (with_reducible exact HR414_0.out) | (with_reducible refine Kd.C_alloc ?_ _) | (with_reducible refine Kd.C_drewN ?_ _) | (with_reducible refine Kd.C_drew ?_) | exact HR414_0.out)) | (with_reducible refine Kd.C_alloc ?_ _) | (with_reducible refine Kd.C_drewN ?_ _) | (with_reducible refine Kd.C_drew ?_))); (case side2 => exact HC414_0.out); rintro e w28 ⟨v417, rfl, ho0, hb⟩; refine ⟨_, rfl, ?_⟩; have n0_ := Aside0.mk (Kd.N_elder' (by (with_reducible repeat (first | apply Kd.N_alloc | apply Kd.N_drewN | apply Kd.N_drew)); exact HO_15.out) (Kd.R_base ho0) hb); have n1_ := Aside0.mk (Kd.V_elder' (by (with_reducible repeat (first | apply Kd.V_alloc | apply Kd.V_drewN | apply Kd.V_drew)); exact HL414_0.out) (Kd.R_base ho0) hb); have n2_ := Aside0.mk (Kd.R_lower (Kd.R_newM (M := fun k_ => (w.heap.size ≤ k_)) ho0 (below_size (by repeat (first | (with_reducible first | exact HB.out | apply below_alloc | apply pw_below_drewN | apply below_drew1) | exact HB.out))) (fun k_ h_ => h_)) (below_size (by repeat (first | (with_reducible first | exact HB.out | apply below_alloc | apply pw_below_drewN | apply below_drew1) | exact HB.out)))); have n3_ := Aside0.mk (Kd.C_below (by first | (with_reducible exact HR414_0.out) | (with_reducible exact Kd.C_drewN HR414_0.out _) | (with_reducible exact Kd.C_drew HR414_0.out) | repeat (first | (with_reducible exact HR414_0.out) | (with_reducible refine Kd.C_alloc ?_ _) | (with_reducible refine Kd.C_drewN ?_ _) | (with_reducible refine Kd.C_drew ?_) | exact HR414_0.out)) hb); have n4_ := Aside0.mk (below_step (by repeat (first | (with_reducible first | exact HB.out | apply below_alloc | apply pw_below_drewN | apply below_drew1) | exact HB.out)) hb); clear HO_15; clear HL414_0; clear HR414_0; clear HB; have HO_15 := n0_; have HL414_0 := n1_; have HO418 := n2_; have HR414_0 := n3_; have HB := n4_; clear n0_ n1_ n2_ n3_ n4_; (try clear hb); (try clear hb2); (try clear hk); (try clear hi); (try clear ho0); have p419 : 0 ≤ (x16_2 : Int) := of_decide_eq_true (by first | (with_reducible assumption) | assumption); have q419 : x16_2 < (y411.length : Int) := of_decide_eq_true (by first | (with_reducible assumption) | assumption); obtain ⟨ad419, A419_0, c419_0, e419, hx419_0, hl419_0, hi419_0⟩ := at_L1 (Kd.N_reads' HO_15.out).2.2 x16_2 p419 q419; obtain rfl : ad414 = ad419 := (by injection e419); obtain ⟨ce419, hce419, hMe419, hcc419⟩ := Kd.N_get HO_15.out [] x16_2 p419 (by first | exact q419 | exact of_decide_eq_true (by first | (with_reducible assumption) | assumption) | (have e_ := (Kd.N_reads' HO_15.out).1; omega)); obtain ⟨ua419_0, uc419_0, rfl, ul419_0, ge419_0⟩ := Kd.FK_slice_open hMe419; have hv419_0 := hcc419 0 _ rfl; rw [Nat.add_zero, show ((Kd.slice 5 (Kd.int .u8))).sz = 1 from rfl, Nat.mul_one] at hv419_0; replace hv419_0 := Option.some.inj (hv419_0.symm.trans hx419_0); injection hv419_0 with hva_ hvn_ hvc_; rw [hva_] at ge419_0; rw [hvc_] at ul419_0; have HL419_0 := Aside0.mk (show Kd.V (Kd.int .u8) 5 _ w.heap.size _ _ (rd_L1 y411 x16_2) from Kd.V_mk ul419_0 ge419_0); clear hva_ hvn_ hvc_ ge419_0 ul419_0; clear hcc419 hce419; have HR419_0 := Aside0.mk hi419_0; have HC419_0 := Aside0.mk hl419_0; clear hi419_0 hl419_0; replace p419 := eq_true p419; replace q419 := eq_true q419) | ((with_reducible refine gate_callee (f := 20) rfl ?_); refine goesL_ (some 72) rfl rfl Try.func20 (by kernel_rfl) rfl #[.slice A419_0 (rd_L1 y411 x16_2).length c419_0, .int .i64 a2, .int .u64 a3] rfl (by (try simp only [List.map_toArray, List.map_cons, List.map_nil]); first | done | rfl | (simp only [List.length_drop, List.length_take]; rfl)) ?_; (with_reducible refine (kerbsuiteref4_Open.calls k2 _ _ (rd_L1 y411 x16_2) a2 a3 t420 t421 _ ?side1 ?side2 A25.out).mono ?_); (case side1 => repeat (first | exact (by first | (with_reducible exact HR419_0.out) | (with_reducible exact Kd.C_drewN HR419_0.out _) | (with_reducible exact Kd.C_drew HR419_0.out) | repeat (first | (with_reducible exact HR419_0.out) | (with_reducible refine Kd.C_alloc ?_ _) | (with_reducible refine Kd.C_drewN ?_ _) | (with_reducible refine Kd.C_drew ?_) | exact HR419_0.out)) | (with_reducible refine Kd.C_alloc ?_ _) | (with_reducible refine Kd.C_drewN ?_ _) | (with_reducible refine Kd.C_drew ?_))); (case side2 => exact HC419_0.out); rintro e w29 ⟨v422, rfl, ho0, hb⟩; refine ⟨_, rfl, ?_⟩; have n0_ := Aside0.mk (Kd.N_elder' (by (with_reducible repeat (first | apply Kd.N_alloc | apply Kd.N_drewN | apply Kd.N_drew)); exact HO_15.out) (Kd.R_base ho0) hb); have n1_ := Aside0.mk (Kd.V_elder' (by (with_reducible repeat (first | apply Kd.V_alloc | apply Kd.V_drewN | apply Kd.V_drew)); exact HL414_0.out) (Kd.R_base ho0) hb); have n2_ := Aside0.mk (Kd.R_elder' (by (with_reducible repeat (first | apply Kd.R_alloc | apply Kd.R_drewN | apply Kd.R_drew)); exact HO418.out) (Kd.R_base ho0) hb); have n3_ := Aside0.mk (Kd.V_elder' (by (with_reducible repeat (first | apply Kd.V_alloc | apply Kd.V_drewN | apply Kd.V_drew)); exact HL419_0.out) (Kd.R_base ho0) hb); have n4_ := Aside0.mk (Kd.R_lower (Kd.R_new' (Kd.R_newM (M := fun k_ => (w.heap.size ≤ k_)) ho0 (below_size (by repeat (first | (with_reducible first | exact HB.out | apply below_alloc | apply pw_below_drewN | apply below_drew1) | exact HB.out))) (fun k_ h_ => h_)) (Kd.R_lt (by (with_reducible repeat (first | apply Kd.R_alloc | apply Kd.R_drewN | apply Kd.R_drew)); exact HO418.out))) (below_size (by repeat (first | (with_reducible first | exact HB.out | apply below_alloc | apply pw_below_drewN | apply below_drew1) | exact HB.out)))); have n5_ := Aside0.mk (Kd.C_below (by first | (with_reducible exact HR414_0.out) | (with_reducible exact Kd.C_drewN HR414_0.out _) | (with_reducible exact Kd.C_drew HR414_0.out) | repeat (first | (with_reducible exact HR414_0.out) | (with_reducible refine Kd.C_alloc ?_ _) | (with_reducible refine Kd.C_drewN ?_ _) | (with_reducible refine Kd.C_drew ?_) | exact HR414_0.out)) hb); have n6_ := Aside0.mk (Kd.C_below (by first | (with_reducible exact HR419_0.out) | (with_reducible exact Kd.C_drewN HR419_0.out _) | (with_reducible exact Kd.C_drew HR419_0.out) | repeat (first | (with_reducible exact HR419_0.out) | (with_reducible refine Kd.C_alloc ?_ _) | (with_reducible refine Kd.C_drewN ?_ _) | (with_reducible refine Kd.C_drew ?_) | exact HR419_0.out)) hb); have n7_ := Aside0.mk (below_step (by repeat (first | (with_reducible first | exact HB.out | apply below_alloc | apply pw_below_drewN | apply below_drew1) | exact HB.out)) hb); clear HO_15; clear HL414_0; clear HO418; clear HL419_0; clear HR414_0; clear HR419_0; clear HB; have HO_15 := n0_; have HL414_0 := n1_; have HO418 := n2_; have HL419_0 := n3_; have HO423 := n4_; have HR414_0 := n5_; have HR419_0 := n6_; have HB := n7_; clear n0_ n1_ n2_ n3_ n4_ n5_ n6_ n7_; (try clear hb); (try clear hb2); (try clear hk); (try clear hi); (try clear ho0)))
         (try simp only [Act.put, List.setIfInBounds_toArray, List.set_cons_zero, List.set_cons_succ])
         go_cut [84] (fun v84 wc => ∃ (kq : Nat) (x84_25 : Bool), v84 = .bool x84_25 ∧ Aside0 (kerbsuitelaw4_BoxTells.j2 kq a2 a3 a4 y411 x16_2 x84_25 = some r) ∧ Aside0 (kq ≤ k2) ∧ Aside0 (Kd.N (Kd.slice 5 (Kd.int .u8)) 24 wc w.heap.size (fun k_ => (P0_ k_ ∨ w.heap.size ≤ k_)) (.slice (some ad414) y411.length co27) y411) ∧ Aside0 (Kd.C (Kd.int .u8) wc A414_0 (rd_L1 y411 x16_2).length (rd_L1 y411 x16_2)) ∧ Aside0 (Kd.C (Kd.int .u8) wc A419_0 (rd_L1 y411 x16_2).length (rd_L1 y411 x16_2)) ∧ Aside0 (Below w.heap.size w wc))
         case first =>
          have H := HC26.out
          clear HC26
          by_cases c30 : (strOfNums t415).toList = (strOfNums t420).toList
          ·rw [if_pos c30] at H
           have c30b0 : ((strOfNums t415).toList == (strOfNums t420).toList) = true := beq_iff_eq.mpr c30
           have c30b1 : ((strOfNums t415).toList != (strOfNums t420).toList) = false := bne_eq_false_iff_eq.mpr c30
           clear c30
           (first | rw [c30b0] | (simp only [i64_w, i32_w]; rw [c30b0]) | skip)
           have H' := Aside0.mk H
           clear H
           have hcv31 := own_string (P := Try.prog) Try.underlying24 Try.underlying5 Try.underlying9 (Kd.own_of_R HO418.out)
           have hcv32 := own_string (P := Try.prog) Try.underlying24 Try.underlying5 Try.underlying9 (Kd.own_of_R HO423.out)
           go_wp2
           go_meet
           case rel => exact ⟨_, ((t416 != t421)), (by first | rfl | (simp; done) | (simp [*]; done)), H', ⟨by have := HJ8.out; have := HK2.out; first | omega | exact Nat.le_refl _⟩, ⟨by (with_reducible repeat (first | apply Kd.N_alloc | apply Kd.N_drewN | apply Kd.N_drew)); exact Kd.N_mono HO_15.out (fun _ hk => hk.1.1)⟩, ⟨by first | (with_reducible exact HR414_0.out) | (with_reducible exact Kd.C_drewN HR414_0.out _) | (with_reducible exact Kd.C_drew HR414_0.out) | repeat (first | (with_reducible exact HR414_0.out) | (with_reducible refine Kd.C_alloc ?_ _) | (with_reducible refine Kd.C_drewN ?_ _) | (with_reducible refine Kd.C_drew ?_) | exact HR414_0.out)⟩, ⟨by first | (with_reducible exact HR419_0.out) | (with_reducible exact Kd.C_drewN HR419_0.out _) | (with_reducible exact Kd.C_drew HR419_0.out) | repeat (first | (with_reducible exact HR419_0.out) | (with_reducible refine Kd.C_alloc ?_ _) | (with_reducible refine Kd.C_drewN ?_ _) | (with_reducible refine Kd.C_drew ?_) | exact HR419_0.out)⟩, ⟨by repeat (first | (with_reducible first | exact HB.out | apply below_alloc | apply pw_below_drewN | apply below_drew1) | exact HB.out)⟩⟩
          ·rw [if_neg c30] at H
           have c30b0 : ((strOfNums t415).toList == (strOfNums t420).toList) = false := beq_eq_false_iff_ne.mpr c30
           have c30b1 : ((strOfNums t415).toList != (strOfNums t420).toList) = true := bne_iff_ne.mpr c30
           (first | rw [c30b0] | (simp only [i64_w, i32_w]; rw [c30b0]) | skip)
           have H' := Aside0.mk H
           clear H
           have hcv33 := own_string (P := Try.prog) Try.underlying24 Try.underlying5 Try.underlying9 (Kd.own_of_R HO418.out)
           have hcv34 := own_string (P := Try.prog) Try.underlying24 Try.underlying5 Try.underlying9 (Kd.own_of_R HO423.out)
           go_wp2
           go_meet
           case rel => exact ⟨_, (true), (by first | rfl | (simp; done) | (simp [*]; done)), H', ⟨by have := HJ8.out; have := HK2.out; first | omega | exact Nat.le_refl _⟩, ⟨by (with_reducible repeat (first | apply Kd.N_alloc | apply Kd.N_drewN | apply Kd.N_drew)); exact Kd.N_mono HO_15.out (fun _ hk => hk.1.1)⟩, ⟨by first | (with_reducible exact HR414_0.out) | (with_reducible exact Kd.C_drewN HR414_0.out _) | (with_reducible exact Kd.C_drew HR414_0.out) | repeat (first | (with_reducible exact HR414_0.out) | (with_reducible refine Kd.C_alloc ?_ _) | (with_reducible refine Kd.C_drewN ?_ _) | (with_reducible refine Kd.C_drew ?_) | exact HR414_0.out)⟩, ⟨by first | (with_reducible exact HR419_0.out) | (with_reducible exact Kd.C_drewN HR419_0.out _) | (with_reducible exact Kd.C_drew HR419_0.out) | repeat (first | (with_reducible exact HR419_0.out) | (with_reducible refine Kd.C_alloc ?_ _) | (with_reducible refine Kd.C_drewN ?_ _) | (with_reducible refine Kd.C_drew ?_) | exact HR419_0.out)⟩, ⟨by repeat (first | (with_reducible first | exact HB.out | apply below_alloc | apply pw_below_drewN | apply below_drew1) | exact HB.out)⟩⟩
         case rest =>
          clear HC26
          try clear c1
          try clear c2
          try clear p2
          try clear c3
          try clear hcv3
          try clear c4
          try clear p4
          try clear q4
          try clear hx4
          try clear p6
          try clear c7
          try clear c8
          try clear c10
          try clear c11
          try clear c11b0
          try clear c11b1
          try clear c12
          try clear c14
          try clear c19
          try clear c20
          try clear c22
          try clear c22b0
          try clear c23
          try clear c23b0
          try clear c30
          try clear c30b0
          try clear c30b1
          try clear hcv31
          try clear hcv32
          try clear hcv33
          try clear hcv34
          try clear hx414_0
          try clear hx419_0
          try clear p2
          try clear p414
          try clear p419
          try clear p6
          try clear q414
          try clear q419
          obtain ⟨kq, x84_25, rfl, HA, HJ25, HO_15, HR414_0, HR419_0, HB⟩ := hcut
          cases kq with
          | zero => exact absurd HA.out (by simp [kerbsuitelaw4_BoxTells.j2])
          | succ kj25 =>
           have H := HA.out
           clear HA
           simp only [kerbsuitelaw4_BoxTells.j2] at H
           by_cases c35 : x84_25 = true
           ·subst c35
            have H1 : (some false) = some r := by rw [if_pos rfl] at H; exact H
            clear H
            have H := H1
            clear H1
            obtain rfl := Option.some.inj H
            go_wp2
            go_ret
            exact ⟨by first | rfl | (simp [errW_none, errW_some] <;> rfl) | (simp [*, errW_none, errW_some] <;> rfl), by repeat (first | (with_reducible first | exact HB.out | apply below_alloc | apply pw_below_drewN | apply below_drew1) | exact HB.out)⟩
           ·replace c35 := Bool.eq_false_iff.mpr c35
            subst c35
            have H1 : (if 0 ≤ x16_2 then (if x16_2 < (y411.length : Int) then ((kerbsuitedata_Long.f (wrap64 (a4))).bind fun t425 => ((box_Open.f kj25 (rd_L1 y411 x16_2) (wrap64 (1 + (Int.tmod (wrap64 (a4)) 10))) t425).bind fun bt426 => ((kerbsuitedata_Long.f (wrap64 (a4))).bind fun t431 => ((kerbsuiteref4_Open.f kj25 (rd_L1 y411 x16_2) (wrap64 (1 + (Int.tmod (wrap64 (a4)) 10))) t431).bind fun bt432 => (if (strOfNums bt426.1).toList = (strOfNums bt432.1).toList then (if (bt426.2 != bt432.2) = true then (some false) else (kerbsuitelaw4_BoxTells.l0 kj25 a2 a3 a4 y411 (wrap64 (x16_2 + 1)))) else (some false)))))) else (none)) else (none)) = some r := by rw [if_neg (show ¬ (false = true) by decide)] at H; exact H
            clear H
            have H := H1
            clear H1
            by_cases c36 : 0 ≤ x16_2
            ·rw [if_pos c36] at H
             have c36b0 : decide (0 ≤ x16_2) = true := decide_eq_true c36
             clear c36
             by_cases c37 : x16_2 < (y411.length : Int)
             ·rw [if_pos c37] at H
              have c37b0 : decide (x16_2 < (y411.length : Int)) = true := decide_eq_true c37
              clear c37
              replace H := Option.bind_eq_some_iff.mp H
              obtain ⟨t425, A380, H⟩ := H
              replace H : ((box_Open.f kj25 (rd_L1 y411 x16_2) (wrap64 (1 + (Int.tmod (wrap64 (a4)) 10))) t425).bind fun bt426 => ((kerbsuitedata_Long.f (wrap64 (a4))).bind fun t431 => ((kerbsuiteref4_Open.f kj25 (rd_L1 y411 x16_2) (wrap64 (1 + (Int.tmod (wrap64 (a4)) 10))) t431).bind fun bt432 => (if (strOfNums bt426.1).toList = (strOfNums bt432.1).toList then (if (bt426.2 != bt432.2) = true then (some false) else (kerbsuitelaw4_BoxTells.l0 kj25 a2 a3 a4 y411 (wrap64 (x16_2 + 1)))) else (some false))))) = some r := H
              have A38 := Aside0.mk A380
              clear A380
              replace H := Option.bind_eq_some_iff.mp H
              obtain ⟨⟨t426, t427⟩, A390, H⟩ := H
              replace H : ((kerbsuitedata_Long.f (wrap64 (a4))).bind fun t431 => ((kerbsuiteref4_Open.f kj25 (rd_L1 y411 x16_2) (wrap64 (1 + (Int.tmod (wrap64 (a4)) 10))) t431).bind fun bt432 => (if (strOfNums t426).toList = (strOfNums bt432.1).toList then (if (t427 != bt432.2) = true then (some false) else (kerbsuitelaw4_BoxTells.l0 kj25 a2 a3 a4 y411 (wrap64 (x16_2 + 1)))) else (some false)))) = some r := H
              have A39 := Aside0.mk A390
              clear A390
              replace H := Option.bind_eq_some_iff.mp H
              obtain ⟨t431, A400, H⟩ := H
              replace H : ((kerbsuiteref4_Open.f kj25 (rd_L1 y411 x16_2) (wrap64 (1 + (Int.tmod (wrap64 (a4)) 10))) t431).bind fun bt432 => (if (strOfNums t426).toList = (strOfNums bt432.1).toList then (if (t427 != bt432.2) = true then (some false) else (kerbsuitelaw4_BoxTells.l0 kj25 a2 a3 a4 y411 (wrap64 (x16_2 + 1)))) else (some false))) = some r := H
              have A40 := Aside0.mk A400
              clear A400
              replace H := Option.bind_eq_some_iff.mp H
              obtain ⟨⟨t432, t433⟩, A410, H⟩ := H
              replace H : (if (strOfNums t426).toList = (strOfNums t432).toList then (if (t427 != t433) = true then (some false) else (kerbsuitelaw4_BoxTells.l0 kj25 a2 a3 a4 y411 (wrap64 (x16_2 + 1)))) else (some false)) = some r := H
              have A41 := Aside0.mk A410
              clear A410
              by_cases c42 : (strOfNums t426).toList = (strOfNums t432).toList
              ·rw [if_pos c42] at H
               have c42b0 : ((strOfNums t426).toList == (strOfNums t432).toList) = true := beq_iff_eq.mpr c42
               have c42b1 : ((strOfNums t426).toList != (strOfNums t432).toList) = false := bne_eq_false_iff_eq.mpr c42
               clear c42
               by_cases c43 : (t427 != t433) = true
               ·rw [if_pos c43] at H
                have c43b0 : (t427 != t433) = true := c43
                (try (have c43b1 : decide (t427 = t433) = false := by simpa using c43))
                (try (have c43b2 : (t427 == t433) = false := by simpa using c43))
                (try (have c43b3 : ¬ (t427 = t433) := by simpa using c43))
                clear c43
                obtain rfl := Option.some.inj H
                try go_wp2
                have n0_ := Aside0.mk (Kd.N_drew HO_15.out)
                have n1_ := Aside0.mk (Kd.C_drew HR414_0.out)
                have n2_ := Aside0.mk (Kd.C_drew HR419_0.out)
                have n3_ := Aside0.mk (below_drew1 HB.out)
                clear HO_15
                clear HR414_0
                clear HR419_0
                clear HB
                have HO_15 := n0_
                have HR414_0 := n1_
                have HR419_0 := n2_
                have HB := n3_
                clear n0_ n1_ n2_ n3_
                have p424 : 0 ≤ (x16_2 : Int) := of_decide_eq_true (by first | (with_reducible assumption) | assumption)
                have q424 : x16_2 < (y411.length : Int) := of_decide_eq_true (by first | (with_reducible assumption) | assumption)
                obtain ⟨ad424, A424_0, c424_0, e424, hx424_0, hl424_0, hi424_0⟩ := at_L1 (Kd.N_reads' HO_15.out).2.2 x16_2 p424 q424
                obtain rfl : ad414 = ad424 := (by injection e424)
                obtain ⟨ce424, hce424, hMe424, hcc424⟩ := Kd.N_get HO_15.out [] x16_2 p424 (by first | exact q424 | exact of_decide_eq_true (by first | (with_reducible assumption) | assumption) | (have e_ := (Kd.N_reads' HO_15.out).1; omega))
                obtain ⟨ua424_0, uc424_0, rfl, ul424_0, ge424_0⟩ := Kd.FK_slice_open hMe424
                have hv424_0 := hcc424 0 _ rfl
                rw [Nat.add_zero, show ((Kd.slice 5 (Kd.int .u8))).sz = 1 from rfl, Nat.mul_one] at hv424_0
                replace hv424_0 := Option.some.inj (hv424_0.symm.trans hx424_0)
                injection hv424_0 with hva_ hvn_ hvc_
                rw [hva_] at ge424_0
                rw [hvc_] at ul424_0
                have HL424_0 := Aside0.mk (show Kd.V (Kd.int .u8) 5 _ w.heap.size _ _ (rd_L1 y411 x16_2) from Kd.V_mk ul424_0 ge424_0)
                clear hva_ hvn_ hvc_ ge424_0 ul424_0
                clear hcc424 hce424
                have HR424_0 := Aside0.mk hi424_0
                have HC424_0 := Aside0.mk hl424_0
                clear hi424_0 hl424_0
                replace p424 := eq_true p424
                replace q424 := eq_true q424
                refine start_ (n := 17) (S := fun w' => w'.cell? (ad414.add (x16_2).toNat) = some (.slice A424_0 (rd_L1 y411 x16_2).length c424_0)) (ds := []) #[false,false,false,false,false,false,false,false,false,false,false,false,false,false,false,false,false] (by kernel_rfl) rfl rfl (hx424_0) (fun hHeld => ?_); refine with_tabW kerbsuitelaw4_BoxTells.tab14 kerbsuitelaw4_BoxTells.bits14 (fun HT_ HW_ => ?_)
                generalize wc.drew = w44 at HO_15 HR414_0 HR419_0 HB HL424_0 HR424_0 hx424_0 hHeld ⊢
                refine pure_ (i := 0) (N := some 86) (v := ?_) (a' := ?_) (bo_ 17 1) rfl rfl (any_of HT_.out (by kernel_rfl)) (fun _ _ _ h => h) (Or.inl ⟨by rfl, ?_⟩) ?_ ?_
                rotate_left; (· intro w'; go_simp; with_reducible rfl)
                rotate_left; (· simp only [Act.put,List.setIfInBounds_toArray,List.set_cons_zero,List.set_cons_succ,i64_w,i32_w]; rfl)
                refine pure_ (i := 1) (N := some 87) (v := ?_) (a' := ?_) (bo_ 17 3) rfl rfl (any_of HT_.out (by kernel_rfl)) (fun _ _ _ h => h) (Or.inl ⟨by rfl, ?_⟩) ?_ ?_
                rotate_left; (· intro w'; go_simp; with_reducible rfl)
                rotate_left; (· simp only [Act.put,List.setIfInBounds_toArray,List.set_cons_zero,List.set_cons_succ,i64_w,i32_w]; rfl)
                refine pure_ (i := 2) (N := some 88) (v := ?_) (a' := ?_) (bo_ 17 7) rfl rfl (any_of HT_.out (by kernel_rfl)) (fun _ _ _ h => h) (Or.inl ⟨by rfl, ?_⟩) ?_ ?_
                rotate_left; (· intro w'; go_simp; with_reducible rfl)
                rotate_left; (· simp only [Act.put,List.setIfInBounds_toArray,List.set_cons_zero,List.set_cons_succ,i64_w,i32_w]; rfl)
                refine pure_ (i := 4) (N := some 90) (v := ?_) (a' := ?_) (bo_ 17 23) rfl rfl (any_of HT_.out (by kernel_rfl)) (fun _ _ _ h => h) (Or.inl ⟨by rfl, ?_⟩) ?_ ?_
                rotate_left; (· intro w'; go_simp; with_reducible rfl)
                rotate_left; (· simp only [Act.put,List.setIfInBounds_toArray,List.set_cons_zero,List.set_cons_succ,i64_w,i32_w]; rfl)
                refine pure_ (i := 5) (N := some 91) (v := ?_) (a' := ?_) (bo_ 17 55) rfl rfl (any_of HT_.out (by kernel_rfl)) (fun _ _ _ h => h) (Or.inl ⟨by rfl, ?_⟩) ?_ ?_
                rotate_left; (· intro w'; go_simp; with_reducible rfl)
                rotate_left; (· simp only [Act.put,List.setIfInBounds_toArray,List.set_cons_zero,List.set_cons_succ,i64_w,i32_w]; rfl)
                refine pure_ (i := 6) (N := some 92) (v := ?_) (a' := ?_) (bo_ 17 119) rfl rfl (any_of HT_.out (by kernel_rfl)) (fun _ _ _ h => h) (Or.inl ⟨by rfl, ?_⟩) ?_ ?_
                rotate_left; (· intro w'; go_simp; with_reducible rfl)
                rotate_left; (· simp only [Act.put,List.setIfInBounds_toArray,List.set_cons_zero,List.set_cons_succ,i64_w,i32_w]; rfl)
                refine pure_ (i := 7) (N := some 93) (v := ?_) (a' := ?_) (bo_ 17 247) rfl rfl (any_of HT_.out (by kernel_rfl)) (fun _ _ _ h => h) (Or.inl ⟨by rfl, ?_⟩) ?_ ?_
                rotate_left; (· intro w'; go_simp; with_reducible rfl)
                rotate_left; (· simp only [Act.put,List.setIfInBounds_toArray,List.set_cons_zero,List.set_cons_succ,i64_w,i32_w]; rfl)
                refine pure_ (i := 8) (N := some 94) (v := ?_) (a' := ?_) (bo_ 17 503) rfl rfl (any_of HT_.out (by kernel_rfl)) (fun _ _ _ h => h) (Or.inl ⟨by rfl, ?_⟩) ?_ ?_
                rotate_left; (· intro w'; go_simp; with_reducible rfl)
                rotate_left; (· simp only [Act.put,List.setIfInBounds_toArray,List.set_cons_zero,List.set_cons_succ,i64_w,i32_w]; rfl)
                refine pure_ (i := 9) (N := some 95) (v := ?_) (a' := ?_) (bo_ 17 1015) rfl rfl (any_of HT_.out (by kernel_rfl)) (fun _ _ _ h => h) (Or.inl ⟨by rfl, ?_⟩) ?_ ?_
                rotate_left; (· intro w'; go_simp; with_reducible rfl)
                rotate_left; (· simp only [Act.put,List.setIfInBounds_toArray,List.set_cons_zero,List.set_cons_succ,i64_w,i32_w]; rfl)
                refine take_ (i := 3) (N := some 89) (v := ?_) (a' := ?_) (bo_ 17 1023) rfl rfl (take_ofW HT_.out HW_.out (by kernel_rfl)) (fun _ _ _ h => h) (Or.inl ⟨by rfl, ?_⟩) hHeld ?_ ?_
                rotate_left
                ·intro w' s0
                 go_simp
                 with_reducible rfl
                rotate_left; (· simp only [Act.put,List.setIfInBounds_toArray,List.set_cons_zero,List.set_cons_succ,i64_w,i32_w]; rfl)
                refine one_ (i := 10) (N := some 96) (bo_ 17 2047) rfl rfl (one_of HT_.out (by kernel_rfl)) (by decide) (fun K hK => ?_)
                refine goes_ Try.func10 (by kernel_rfl) rfl #[.int .i64 (wrap64 (a4))] (by rfl) rfl rfl (by (try simp only [List.map_toArray, List.map_cons, List.map_nil]); first | done | rfl | (simp only [List.length_drop, List.length_take]; rfl)) ?_
                with_reducible refine (kerbsuitedata_Long.calls (wrap64 (a4)) t425 _ A38.out).mono ?_
                rintro e w' ⟨rfl, ⟨nd, rfl⟩⟩
                refine ⟨_, rfl, ?_⟩
                refine hK.out _ _ (hHeld) (fun hHeld => ?_)
                clear hK K
                refine norm_ (a' := ?_) ?_ ?_
                rotate_left; (· show Act.put _ (some 96) _ = _; simp only [Act.put,List.setIfInBounds_toArray,List.set_cons_zero,List.set_cons_succ,i64_w,i32_w]; rfl)
                refine one_ (i := 11) (N := some 97) (bo_ 17 4095) rfl rfl (one_of HT_.out (by kernel_rfl)) (by decide) (fun K hK => ?_)
                refine goes_ Try.func19 (by kernel_rfl) rfl #[.slice A424_0 (rd_L1 y411 x16_2).length c424_0, .int .i64 (wrap64 (1 + (Int.tmod (wrap64 (a4)) 10))), .int .u64 t425] (by rfl) rfl rfl (by (try simp only [List.map_toArray, List.map_cons, List.map_nil]); first | done | rfl | (simp only [List.length_drop, List.length_take]; rfl)) ?_
                with_reducible refine (box_Open.calls kj25 _ _ (rd_L1 y411 x16_2) (wrap64 (1 + (Int.tmod (wrap64 (a4)) 10))) t425 t426 t427 _ ?side1 ?side2 A39.out).mono ?_
                (case side1 => repeat (first | exact (by first | (with_reducible exact HR424_0.out) | (with_reducible exact Kd.C_drewN HR424_0.out _) | (with_reducible exact Kd.C_drew HR424_0.out) | repeat (first | (with_reducible exact HR424_0.out) | (with_reducible refine Kd.C_alloc ?_ _) | (with_reducible refine Kd.C_drewN ?_ _) | (with_reducible refine Kd.C_drew ?_) | exact HR424_0.out)) | (with_reducible refine Kd.C_alloc ?_ _) | (with_reducible refine Kd.C_drewN ?_ _) | (with_reducible refine Kd.C_drew ?_)))
                (case side2 => exact HC424_0.out)
                rintro e w45 ⟨v428, rfl, ho0, hb⟩
                have HS0_ := (hb.cell (World.block_lt_of_cell? _ _ (hHeld))).trans (hHeld)
                refine ⟨_, rfl, ?_⟩
                have n0_ := Aside0.mk (Kd.N_elder' (by (with_reducible repeat (first | apply Kd.N_alloc | apply Kd.N_drewN | apply Kd.N_drew)); exact HO_15.out) (Kd.R_base ho0) hb)
                have n1_ := Aside0.mk (Kd.V_elder' (by (with_reducible repeat (first | apply Kd.V_alloc | apply Kd.V_drewN | apply Kd.V_drew)); exact HL424_0.out) (Kd.R_base ho0) hb)
                have n2_ := Aside0.mk (Kd.R_lower (Kd.R_newM (M := fun k_ => (w.heap.size ≤ k_)) ho0 (below_size (by repeat (first | (with_reducible first | exact HB.out | apply below_alloc | apply pw_below_drewN | apply below_drew1) | exact HB.out))) (fun k_ h_ => h_)) (below_size (by repeat (first | (with_reducible first | exact HB.out | apply below_alloc | apply pw_below_drewN | apply below_drew1) | exact HB.out))))
                have n3_ := Aside0.mk (Kd.C_below (by first | (with_reducible exact HR414_0.out) | (with_reducible exact Kd.C_drewN HR414_0.out _) | (with_reducible exact Kd.C_drew HR414_0.out) | repeat (first | (with_reducible exact HR414_0.out) | (with_reducible refine Kd.C_alloc ?_ _) | (with_reducible refine Kd.C_drewN ?_ _) | (with_reducible refine Kd.C_drew ?_) | exact HR414_0.out)) hb)
                have n4_ := Aside0.mk (Kd.C_below (by first | (with_reducible exact HR419_0.out) | (with_reducible exact Kd.C_drewN HR419_0.out _) | (with_reducible exact Kd.C_drew HR419_0.out) | repeat (first | (with_reducible exact HR419_0.out) | (with_reducible refine Kd.C_alloc ?_ _) | (with_reducible refine Kd.C_drewN ?_ _) | (with_reducible refine Kd.C_drew ?_) | exact HR419_0.out)) hb)
                have n5_ := Aside0.mk (Kd.C_below (by first | (with_reducible exact HR424_0.out) | (with_reducible exact Kd.C_drewN HR424_0.out _) | (with_reducible exact Kd.C_drew HR424_0.out) | repeat (first | (with_reducible exact HR424_0.out) | (with_reducible refine Kd.C_alloc ?_ _) | (with_reducible refine Kd.C_drewN ?_ _) | (with_reducible refine Kd.C_drew ?_) | exact HR424_0.out)) hb)
                have n6_ := Aside0.mk (below_step (by repeat (first | (with_reducible first | exact HB.out | apply below_alloc | apply pw_below_drewN | apply below_drew1) | exact HB.out)) hb)
                clear HO_15
                clear HL424_0
                clear HR414_0
                clear HR419_0
                clear HR424_0
                clear HB
                have HO_15 := n0_
                have HL424_0 := n1_
                have HO429 := n2_
                have HR414_0 := n3_
                have HR419_0 := n4_
                have HR424_0 := n5_
                have HB := n6_
                clear n0_ n1_ n2_ n3_ n4_ n5_ n6_
                (try clear hb)
                (try clear hb2)
                (try clear hk)
                (try clear hi)
                (try clear ho0)
                refine hK.out _ _ (HS0_) (fun hHeld => ?_)
                clear hK K
                refine norm_ (a' := ?_) ?_ ?_
                rotate_left; (· show Act.put _ (some 97) _ = _; simp only [Act.put,List.setIfInBounds_toArray,List.set_cons_zero,List.set_cons_succ,i64_w,i32_w]; rfl)
                refine pure_ (i := 12) (N := some 85) (v := ?_) (a' := ?_) (bo_ 17 8191) rfl rfl (any_of HT_.out (by kernel_rfl)) (fun _ _ _ h => h) (Or.inl ⟨by rfl, ?_⟩) ?_ ?_
                rotate_left; (· intro w'; go_simp; with_reducible rfl)
                rotate_left; (· simp only [Act.put,List.setIfInBounds_toArray,List.set_cons_zero,List.set_cons_succ,i64_w,i32_w]; rfl)
                refine pure_ (i := 13) (N := some 98) (v := ?_) (a' := ?_) (bo_ 17 16383) rfl rfl (any_of HT_.out (by kernel_rfl)) (fun _ _ _ h => h) (Or.inl ⟨by rfl, ?_⟩) ?_ ?_
                rotate_left; (· intro w'; go_simp; with_reducible rfl)
                rotate_left; (· simp only [Act.put,List.setIfInBounds_toArray,List.set_cons_zero,List.set_cons_succ,i64_w,i32_w]; rfl)
                refine pure_ (i := 14) (N := some 99) (v := ?_) (a' := ?_) (bo_ 17 32767) rfl rfl (any_of HT_.out (by kernel_rfl)) (fun _ _ _ h => h) (Or.inl ⟨by rfl, ?_⟩) ?_ ?_
                rotate_left; (· intro w'; go_simp; with_reducible rfl)
                rotate_left; (· simp only [Act.put,List.setIfInBounds_toArray,List.set_cons_zero,List.set_cons_succ,i64_w,i32_w]; rfl)
                refine pure_ (i := 15) (N := some 17) (v := ?_) (a' := ?_) (bo_ 17 65535) rfl rfl (any_of HT_.out (by kernel_rfl)) (fun _ _ _ h => h) (Or.inl ⟨by rfl, ?_⟩) ?_ ?_
                rotate_left; (· intro w'; go_simp; with_reducible rfl)
                rotate_left; (· simp only [Act.put,List.setIfInBounds_toArray,List.set_cons_zero,List.set_cons_succ,i64_w,i32_w]; rfl)
                refine pure_ (i := 16) (N := some 18) (v := ?_) (a' := ?_) (bo_ 17 131071) rfl rfl (any_of HT_.out (by kernel_rfl)) (fun _ _ _ h => h) (Or.inl ⟨by rfl, ?_⟩) ?_ ?_
                rotate_left; (· intro w'; go_simp; with_reducible rfl)
                rotate_left; (· simp only [Act.put,List.setIfInBounds_toArray,List.set_cons_zero,List.set_cons_succ,i64_w,i32_w]; rfl)
                refine done_ (done_of HT_.out (by kernel_rfl)) ?_
                try go_upto_region 15 with fail
                have n0_ := Aside0.mk (Kd.N_drew HO_15.out)
                have n1_ := Aside0.mk (Kd.V_drew HL424_0.out)
                have n2_ := Aside0.mk (Kd.R_drew HO429.out)
                have n3_ := Aside0.mk (Kd.C_drew HR414_0.out)
                have n4_ := Aside0.mk (Kd.C_drew HR419_0.out)
                have n5_ := Aside0.mk (Kd.C_drew HR424_0.out)
                have n6_ := Aside0.mk (below_drew1 HB.out)
                clear HO_15
                clear HL424_0
                clear HO429
                clear HR414_0
                clear HR419_0
                clear HR424_0
                clear HB
                have HO_15 := n0_
                have HL424_0 := n1_
                have HO429 := n2_
                have HR414_0 := n3_
                have HR419_0 := n4_
                have HR424_0 := n5_
                have HB := n6_
                clear n0_ n1_ n2_ n3_ n4_ n5_ n6_
                have p430 : 0 ≤ (x16_2 : Int) := of_decide_eq_true (by first | (with_reducible assumption) | assumption)
                have q430 : x16_2 < (y411.length : Int) := of_decide_eq_true (by first | (with_reducible assumption) | assumption)
                obtain ⟨ad430, A430_0, c430_0, e430, hx430_0, hl430_0, hi430_0⟩ := at_L1 (Kd.N_reads' HO_15.out).2.2 x16_2 p430 q430
                obtain rfl : ad414 = ad430 := (by injection e430)
                obtain ⟨ce430, hce430, hMe430, hcc430⟩ := Kd.N_get HO_15.out [] x16_2 p430 (by first | exact q430 | exact of_decide_eq_true (by first | (with_reducible assumption) | assumption) | (have e_ := (Kd.N_reads' HO_15.out).1; omega))
                obtain ⟨ua430_0, uc430_0, rfl, ul430_0, ge430_0⟩ := Kd.FK_slice_open hMe430
                have hv430_0 := hcc430 0 _ rfl
                rw [Nat.add_zero, show ((Kd.slice 5 (Kd.int .u8))).sz = 1 from rfl, Nat.mul_one] at hv430_0
                replace hv430_0 := Option.some.inj (hv430_0.symm.trans hx430_0)
                injection hv430_0 with hva_ hvn_ hvc_
                rw [hva_] at ge430_0
                rw [hvc_] at ul430_0
                have HL430_0 := Aside0.mk (show Kd.V (Kd.int .u8) 5 _ w.heap.size _ _ (rd_L1 y411 x16_2) from Kd.V_mk ul430_0 ge430_0)
                clear hva_ hvn_ hvc_ ge430_0 ul430_0
                clear hcc430 hce430
                have HR430_0 := Aside0.mk hi430_0
                have HC430_0 := Aside0.mk hl430_0
                clear hi430_0 hl430_0
                replace p430 := eq_true p430
                replace q430 := eq_true q430
                refine start_ (n := 17) (S := fun w' => w'.cell? (ad414.add (x16_2).toNat) = some (.slice A430_0 (rd_L1 y411 x16_2).length c430_0)) (ds := []) #[false,false,false,false,false,false,false,false,false,false,false,false,false,false,false,false,false] (by kernel_rfl) rfl rfl (hx430_0) (fun hHeld => ?_); refine with_tabW kerbsuitelaw4_BoxTells.tab15 kerbsuitelaw4_BoxTells.bits15 (fun HT_ HW_ => ?_)
                generalize w45.drew = w46 at HO_15 HL424_0 HO429 HR414_0 HR419_0 HR424_0 HB HL430_0 HR430_0 hx430_0 hHeld ⊢
                refine pure_ (i := 0) (N := some 101) (v := ?_) (a' := ?_) (bo_ 17 1) rfl rfl (any_of HT_.out (by kernel_rfl)) (fun _ _ _ h => h) (Or.inl ⟨by rfl, ?_⟩) ?_ ?_
                rotate_left; (· intro w'; go_simp; with_reducible rfl)
                rotate_left; (· simp only [Act.put,List.setIfInBounds_toArray,List.set_cons_zero,List.set_cons_succ,i64_w,i32_w]; rfl)
                refine pure_ (i := 1) (N := some 102) (v := ?_) (a' := ?_) (bo_ 17 3) rfl rfl (any_of HT_.out (by kernel_rfl)) (fun _ _ _ h => h) (Or.inl ⟨by rfl, ?_⟩) ?_ ?_
                rotate_left; (· intro w'; go_simp; with_reducible rfl)
                rotate_left; (· simp only [Act.put,List.setIfInBounds_toArray,List.set_cons_zero,List.set_cons_succ,i64_w,i32_w]; rfl)
                refine pure_ (i := 2) (N := some 103) (v := ?_) (a' := ?_) (bo_ 17 7) rfl rfl (any_of HT_.out (by kernel_rfl)) (fun _ _ _ h => h) (Or.inl ⟨by rfl, ?_⟩) ?_ ?_
                rotate_left; (· intro w'; go_simp; with_reducible rfl)
                rotate_left; (· simp only [Act.put,List.setIfInBounds_toArray,List.set_cons_zero,List.set_cons_succ,i64_w,i32_w]; rfl)
                refine pure_ (i := 4) (N := some 105) (v := ?_) (a' := ?_) (bo_ 17 23) rfl rfl (any_of HT_.out (by kernel_rfl)) (fun _ _ _ h => h) (Or.inl ⟨by rfl, ?_⟩) ?_ ?_
                rotate_left; (· intro w'; go_simp; with_reducible rfl)
                rotate_left; (· simp only [Act.put,List.setIfInBounds_toArray,List.set_cons_zero,List.set_cons_succ,i64_w,i32_w]; rfl)
                refine pure_ (i := 5) (N := some 106) (v := ?_) (a' := ?_) (bo_ 17 55) rfl rfl (any_of HT_.out (by kernel_rfl)) (fun _ _ _ h => h) (Or.inl ⟨by rfl, ?_⟩) ?_ ?_
                rotate_left; (· intro w'; go_simp; with_reducible rfl)
                rotate_left; (· simp only [Act.put,List.setIfInBounds_toArray,List.set_cons_zero,List.set_cons_succ,i64_w,i32_w]; rfl)
                refine pure_ (i := 6) (N := some 107) (v := ?_) (a' := ?_) (bo_ 17 119) rfl rfl (any_of HT_.out (by kernel_rfl)) (fun _ _ _ h => h) (Or.inl ⟨by rfl, ?_⟩) ?_ ?_
                rotate_left; (· intro w'; go_simp; with_reducible rfl)
                rotate_left; (· simp only [Act.put,List.setIfInBounds_toArray,List.set_cons_zero,List.set_cons_succ,i64_w,i32_w]; rfl)
                refine pure_ (i := 7) (N := some 108) (v := ?_) (a' := ?_) (bo_ 17 247) rfl rfl (any_of HT_.out (by kernel_rfl)) (fun _ _ _ h => h) (Or.inl ⟨by rfl, ?_⟩) ?_ ?_
                rotate_left; (· intro w'; go_simp; with_reducible rfl)
                rotate_left; (· simp only [Act.put,List.setIfInBounds_toArray,List.set_cons_zero,List.set_cons_succ,i64_w,i32_w]; rfl)
                refine pure_ (i := 8) (N := some 109) (v := ?_) (a' := ?_) (bo_ 17 503) rfl rfl (any_of HT_.out (by kernel_rfl)) (fun _ _ _ h => h) (Or.inl ⟨by rfl, ?_⟩) ?_ ?_
                rotate_left; (· intro w'; go_simp; with_reducible rfl)
                rotate_left; (· simp only [Act.put,List.setIfInBounds_toArray,List.set_cons_zero,List.set_cons_succ,i64_w,i32_w]; rfl)
                refine pure_ (i := 9) (N := some 110) (v := ?_) (a' := ?_) (bo_ 17 1015) rfl rfl (any_of HT_.out (by kernel_rfl)) (fun _ _ _ h => h) (Or.inl ⟨by rfl, ?_⟩) ?_ ?_
                rotate_left; (· intro w'; go_simp; with_reducible rfl)
                rotate_left; (· simp only [Act.put,List.setIfInBounds_toArray,List.set_cons_zero,List.set_cons_succ,i64_w,i32_w]; rfl)
                refine take_ (i := 3) (N := some 104) (v := ?_) (a' := ?_) (bo_ 17 1023) rfl rfl (take_ofW HT_.out HW_.out (by kernel_rfl)) (fun _ _ _ h => h) (Or.inl ⟨by rfl, ?_⟩) hHeld ?_ ?_
                rotate_left
                ·intro w' s0
                 go_simp
                 with_reducible rfl
                rotate_left; (· simp only [Act.put,List.setIfInBounds_toArray,List.set_cons_zero,List.set_cons_succ,i64_w,i32_w]; rfl)
                refine one_ (i := 10) (N := some 111) (bo_ 17 2047) rfl rfl (one_of HT_.out (by kernel_rfl)) (by decide) (fun K hK => ?_)
                refine goes_ Try.func10 (by kernel_rfl) rfl #[.int .i64 (wrap64 (a4))] (by rfl) rfl rfl (by (try simp only [List.map_toArray, List.map_cons, List.map_nil]); first | done | rfl | (simp only [List.length_drop, List.length_take]; rfl)) ?_
                with_reducible refine (kerbsuitedata_Long.calls (wrap64 (a4)) t431 _ A40.out).mono ?_
                rintro e w' ⟨rfl, ⟨nd, rfl⟩⟩
                refine ⟨_, rfl, ?_⟩
                refine hK.out _ _ (hHeld) (fun hHeld => ?_)
                clear hK K
                refine norm_ (a' := ?_) ?_ ?_
                rotate_left; (· show Act.put _ (some 111) _ = _; simp only [Act.put,List.setIfInBounds_toArray,List.set_cons_zero,List.set_cons_succ,i64_w,i32_w]; rfl)
                refine one_ (i := 11) (N := some 112) (bo_ 17 4095) rfl rfl (one_of HT_.out (by kernel_rfl)) (by decide) (fun K hK => ?_)
                refine goes_ Try.func20 (by kernel_rfl) rfl #[.slice A430_0 (rd_L1 y411 x16_2).length c430_0, .int .i64 (wrap64 (1 + (Int.tmod (wrap64 (a4)) 10))), .int .u64 t431] (by rfl) rfl rfl (by (try simp only [List.map_toArray, List.map_cons, List.map_nil]); first | done | rfl | (simp only [List.length_drop, List.length_take]; rfl)) ?_
                with_reducible refine (kerbsuiteref4_Open.calls kj25 _ _ (rd_L1 y411 x16_2) (wrap64 (1 + (Int.tmod (wrap64 (a4)) 10))) t431 t432 t433 _ ?side1 ?side2 A41.out).mono ?_
                (case side1 => repeat (first | exact (by first | (with_reducible exact HR430_0.out) | (with_reducible exact Kd.C_drewN HR430_0.out _) | (with_reducible exact Kd.C_drew HR430_0.out) | repeat (first | (with_reducible exact HR430_0.out) | (with_reducible refine Kd.C_alloc ?_ _) | (with_reducible refine Kd.C_drewN ?_ _) | (with_reducible refine Kd.C_drew ?_) | exact HR430_0.out)) | (with_reducible refine Kd.C_alloc ?_ _) | (with_reducible refine Kd.C_drewN ?_ _) | (with_reducible refine Kd.C_drew ?_)))
                (case side2 => exact HC430_0.out)
                rintro e w47 ⟨v434, rfl, ho0, hb⟩
                have HS0_ := (hb.cell (World.block_lt_of_cell? _ _ (hHeld))).trans (hHeld)
                refine ⟨_, rfl, ?_⟩
                have n0_ := Aside0.mk (Kd.N_elder' (by (with_reducible repeat (first | apply Kd.N_alloc | apply Kd.N_drewN | apply Kd.N_drew)); exact HO_15.out) (Kd.R_base ho0) hb)
                have n1_ := Aside0.mk (Kd.V_elder' (by (with_reducible repeat (first | apply Kd.V_alloc | apply Kd.V_drewN | apply Kd.V_drew)); exact HL424_0.out) (Kd.R_base ho0) hb)
                have n2_ := Aside0.mk (Kd.R_elder' (by (with_reducible repeat (first | apply Kd.R_alloc | apply Kd.R_drewN | apply Kd.R_drew)); exact HO429.out) (Kd.R_base ho0) hb)
                have n3_ := Aside0.mk (Kd.V_elder' (by (with_reducible repeat (first | apply Kd.V_alloc | apply Kd.V_drewN | apply Kd.V_drew)); exact HL430_0.out) (Kd.R_base ho0) hb)
                have n4_ := Aside0.mk (Kd.R_lower (Kd.R_new' (Kd.R_newM (M := fun k_ => (w.heap.size ≤ k_)) ho0 (below_size (by repeat (first | (with_reducible first | exact HB.out | apply below_alloc | apply pw_below_drewN | apply below_drew1) | exact HB.out))) (fun k_ h_ => h_)) (Kd.R_lt (by (with_reducible repeat (first | apply Kd.R_alloc | apply Kd.R_drewN | apply Kd.R_drew)); exact HO429.out))) (below_size (by repeat (first | (with_reducible first | exact HB.out | apply below_alloc | apply pw_below_drewN | apply below_drew1) | exact HB.out))))
                have n5_ := Aside0.mk (Kd.C_below (by first | (with_reducible exact HR414_0.out) | (with_reducible exact Kd.C_drewN HR414_0.out _) | (with_reducible exact Kd.C_drew HR414_0.out) | repeat (first | (with_reducible exact HR414_0.out) | (with_reducible refine Kd.C_alloc ?_ _) | (with_reducible refine Kd.C_drewN ?_ _) | (with_reducible refine Kd.C_drew ?_) | exact HR414_0.out)) hb)
                have n6_ := Aside0.mk (Kd.C_below (by first | (with_reducible exact HR419_0.out) | (with_reducible exact Kd.C_drewN HR419_0.out _) | (with_reducible exact Kd.C_drew HR419_0.out) | repeat (first | (with_reducible exact HR419_0.out) | (with_reducible refine Kd.C_alloc ?_ _) | (with_reducible refine Kd.C_drewN ?_ _) | (with_reducible refine Kd.C_drew ?_) | exact HR419_0.out)) hb)
                have n7_ := Aside0.mk (Kd.C_below (by first | (with_reducible exact HR424_0.out) | (with_reducible exact Kd.C_drewN HR424_0.out _) | (with_reducible exact Kd.C_drew HR424_0.out) | repeat (first | (with_reducible exact HR424_0.out) | (with_reducible refine Kd.C_alloc ?_ _) | (with_reducible refine Kd.C_drewN ?_ _) | (with_reducible refine Kd.C_drew ?_) | exact HR424_0.out)) hb)
                have n8_ := Aside0.mk (Kd.C_below (by first | (with_reducible exact HR430_0.out) | (with_reducible exact Kd.C_drewN HR430_0.out _) | (with_reducible exact Kd.C_drew HR430_0.out) | repeat (first | (with_reducible exact HR430_0.out) | (with_reducible refine Kd.C_alloc ?_ _) | (with_reducible refine Kd.C_drewN ?_ _) | (with_reducible refine Kd.C_drew ?_) | exact HR430_0.out)) hb)
                have n9_ := Aside0.mk (below_step (by repeat (first | (with_reducible first | exact HB.out | apply below_alloc | apply pw_below_drewN | apply below_drew1) | exact HB.out)) hb)
                clear HO_15
                clear HL424_0
                clear HO429
                clear HL430_0
                clear HR414_0
                clear HR419_0
                clear HR424_0
                clear HR430_0
                clear HB
                have HO_15 := n0_
                have HL424_0 := n1_
                have HO429 := n2_
                have HL430_0 := n3_
                have HO435 := n4_
                have HR414_0 := n5_
                have HR419_0 := n6_
                have HR424_0 := n7_
                have HR430_0 := n8_
                have HB := n9_
                clear n0_ n1_ n2_ n3_ n4_ n5_ n6_ n7_ n8_ n9_
                (try clear hb)
                (try clear hb2)
                (try clear hk)
                (try clear hi)
                (try clear ho0)
                refine hK.out _ _ (HS0_) (fun hHeld => ?_)
                clear hK K
                refine norm_ (a' := ?_) ?_ ?_
                rotate_left; (· show Act.put _ (some 112) _ = _; simp only [Act.put,List.setIfInBounds_toArray,List.set_cons_zero,List.set_cons_succ,i64_w,i32_w]; rfl)
                refine pure_ (i := 12) (N := some 100) (v := ?_) (a' := ?_) (bo_ 17 8191) rfl rfl (any_of HT_.out (by kernel_rfl)) (fun _ _ _ h => h) (Or.inl ⟨by rfl, ?_⟩) ?_ ?_
                rotate_left; (· intro w'; go_simp; with_reducible rfl)
                rotate_left; (· simp only [Act.put,List.setIfInBounds_toArray,List.set_cons_zero,List.set_cons_succ,i64_w,i32_w]; rfl)
                refine pure_ (i := 13) (N := some 113) (v := ?_) (a' := ?_) (bo_ 17 16383) rfl rfl (any_of HT_.out (by kernel_rfl)) (fun _ _ _ h => h) (Or.inl ⟨by rfl, ?_⟩) ?_ ?_
                rotate_left; (· intro w'; go_simp; with_reducible rfl)
                rotate_left; (· simp only [Act.put,List.setIfInBounds_toArray,List.set_cons_zero,List.set_cons_succ,i64_w,i32_w]; rfl)
                refine pure_ (i := 14) (N := some 114) (v := ?_) (a' := ?_) (bo_ 17 32767) rfl rfl (any_of HT_.out (by kernel_rfl)) (fun _ _ _ h => h) (Or.inl ⟨by rfl, ?_⟩) ?_ ?_
                rotate_left; (· intro w'; go_simp; with_reducible rfl)
                rotate_left; (· simp only [Act.put,List.setIfInBounds_toArray,List.set_cons_zero,List.set_cons_succ,i64_w,i32_w]; rfl)
                refine pure_ (i := 15) (N := some 19) (v := ?_) (a' := ?_) (bo_ 17 65535) rfl rfl (any_of HT_.out (by kernel_rfl)) (fun _ _ _ h => h) (Or.inl ⟨by rfl, ?_⟩) ?_ ?_
                rotate_left; (· intro w'; go_simp; with_reducible rfl)
                rotate_left; (· simp only [Act.put,List.setIfInBounds_toArray,List.set_cons_zero,List.set_cons_succ,i64_w,i32_w]; rfl)
                refine pure_ (i := 16) (N := some 20) (v := ?_) (a' := ?_) (bo_ 17 131071) rfl rfl (any_of HT_.out (by kernel_rfl)) (fun _ _ _ h => h) (Or.inl ⟨by rfl, ?_⟩) ?_ ?_
                rotate_left; (· intro w'; go_simp; with_reducible rfl)
                rotate_left; (· simp only [Act.put,List.setIfInBounds_toArray,List.set_cons_zero,List.set_cons_succ,i64_w,i32_w]; rfl)
                refine done_ (done_of HT_.out (by kernel_rfl)) ?_
                have hcv48 := own_string (P := Try.prog) Try.underlying24 Try.underlying5 Try.underlying9 (Kd.own_of_R HO429.out)
                have hcv49 := own_string (P := Try.prog) Try.underlying24 Try.underlying5 Try.underlying9 (Kd.own_of_R HO435.out)
                try go_wp2
                go_ret
                exact ⟨by first | rfl | (simp [errW_none, errW_some] <;> rfl) | (simp [*, errW_none, errW_some] <;> rfl), by repeat (first | (with_reducible first | exact HB.out | apply below_alloc | apply pw_below_drewN | apply below_drew1) | exact HB.out)⟩
               ·rw [if_neg c43] at H
                have c43b0 : (t427 != t433) = false := by simpa using c43
                (try (have c43b1 : decide (t427 = t433) = true := by simpa using c43))
                (try (have c43b2 : (t427 == t433) = true := by simpa using c43))
                clear c43
                have H' := Aside0.mk H
                clear H
                try go_wp2
                have n0_ := Aside0.mk (Kd.N_drew HO_15.out)
                have n1_ := Aside0.mk (Kd.C_drew HR414_0.out)
                have n2_ := Aside0.mk (Kd.C_drew HR419_0.out)
                have n3_ := Aside0.mk (below_drew1 HB.out)
                clear HO_15
                clear HR414_0
                clear HR419_0
                clear HB
                have HO_15 := n0_
                have HR414_0 := n1_
                have HR419_0 := n2_
                have HB := n3_
                clear n0_ n1_ n2_ n3_
                have p424 : 0 ≤ (x16_2 : Int) := of_decide_eq_true (by first | (with_reducible assumption) | assumption)
                have q424 : x16_2 < (y411.length : Int) := of_decide_eq_true (by first | (with_reducible assumption) | assumption)
                obtain ⟨ad424, A424_0, c424_0, e424, hx424_0, hl424_0, hi424_0⟩ := at_L1 (Kd.N_reads' HO_15.out).2.2 x16_2 p424 q424
                obtain rfl : ad414 = ad424 := (by injection e424)
                obtain ⟨ce424, hce424, hMe424, hcc424⟩ := Kd.N_get HO_15.out [] x16_2 p424 (by first | exact q424 | exact of_decide_eq_true (by first | (with_reducible assumption) | assumption) | (have e_ := (Kd.N_reads' HO_15.out).1; omega))
                obtain ⟨ua424_0, uc424_0, rfl, ul424_0, ge424_0⟩ := Kd.FK_slice_open hMe424
                have hv424_0 := hcc424 0 _ rfl
                rw [Nat.add_zero, show ((Kd.slice 5 (Kd.int .u8))).sz = 1 from rfl, Nat.mul_one] at hv424_0
                replace hv424_0 := Option.some.inj (hv424_0.symm.trans hx424_0)
                injection hv424_0 with hva_ hvn_ hvc_
                rw [hva_] at ge424_0
                rw [hvc_] at ul424_0
                have HL424_0 := Aside0.mk (show Kd.V (Kd.int .u8) 5 _ w.heap.size _ _ (rd_L1 y411 x16_2) from Kd.V_mk ul424_0 ge424_0)
                clear hva_ hvn_ hvc_ ge424_0 ul424_0
                clear hcc424 hce424
                have HR424_0 := Aside0.mk hi424_0
                have HC424_0 := Aside0.mk hl424_0
                clear hi424_0 hl424_0
                replace p424 := eq_true p424
                replace q424 := eq_true q424
                refine start_ (n := 17) (S := fun w' => w'.cell? (ad414.add (x16_2).toNat) = some (.slice A424_0 (rd_L1 y411 x16_2).length c424_0)) (ds := []) #[false,false,false,false,false,false,false,false,false,false,false,false,false,false,false,false,false] (by kernel_rfl) rfl rfl (hx424_0) (fun hHeld => ?_); refine with_tabW kerbsuitelaw4_BoxTells.tab14 kerbsuitelaw4_BoxTells.bits14 (fun HT_ HW_ => ?_)
                generalize wc.drew = w50 at HO_15 HR414_0 HR419_0 HB HL424_0 HR424_0 hx424_0 hHeld ⊢
                refine pure_ (i := 0) (N := some 86) (v := ?_) (a' := ?_) (bo_ 17 1) rfl rfl (any_of HT_.out (by kernel_rfl)) (fun _ _ _ h => h) (Or.inl ⟨by rfl, ?_⟩) ?_ ?_
                rotate_left; (· intro w'; go_simp; with_reducible rfl)
                rotate_left; (· simp only [Act.put,List.setIfInBounds_toArray,List.set_cons_zero,List.set_cons_succ,i64_w,i32_w]; rfl)
                refine pure_ (i := 1) (N := some 87) (v := ?_) (a' := ?_) (bo_ 17 3) rfl rfl (any_of HT_.out (by kernel_rfl)) (fun _ _ _ h => h) (Or.inl ⟨by rfl, ?_⟩) ?_ ?_
                rotate_left; (· intro w'; go_simp; with_reducible rfl)
                rotate_left; (· simp only [Act.put,List.setIfInBounds_toArray,List.set_cons_zero,List.set_cons_succ,i64_w,i32_w]; rfl)
                refine pure_ (i := 2) (N := some 88) (v := ?_) (a' := ?_) (bo_ 17 7) rfl rfl (any_of HT_.out (by kernel_rfl)) (fun _ _ _ h => h) (Or.inl ⟨by rfl, ?_⟩) ?_ ?_
                rotate_left; (· intro w'; go_simp; with_reducible rfl)
                rotate_left; (· simp only [Act.put,List.setIfInBounds_toArray,List.set_cons_zero,List.set_cons_succ,i64_w,i32_w]; rfl)
                refine pure_ (i := 4) (N := some 90) (v := ?_) (a' := ?_) (bo_ 17 23) rfl rfl (any_of HT_.out (by kernel_rfl)) (fun _ _ _ h => h) (Or.inl ⟨by rfl, ?_⟩) ?_ ?_
                rotate_left; (· intro w'; go_simp; with_reducible rfl)
                rotate_left; (· simp only [Act.put,List.setIfInBounds_toArray,List.set_cons_zero,List.set_cons_succ,i64_w,i32_w]; rfl)
                refine pure_ (i := 5) (N := some 91) (v := ?_) (a' := ?_) (bo_ 17 55) rfl rfl (any_of HT_.out (by kernel_rfl)) (fun _ _ _ h => h) (Or.inl ⟨by rfl, ?_⟩) ?_ ?_
                rotate_left; (· intro w'; go_simp; with_reducible rfl)
                rotate_left; (· simp only [Act.put,List.setIfInBounds_toArray,List.set_cons_zero,List.set_cons_succ,i64_w,i32_w]; rfl)
                refine pure_ (i := 6) (N := some 92) (v := ?_) (a' := ?_) (bo_ 17 119) rfl rfl (any_of HT_.out (by kernel_rfl)) (fun _ _ _ h => h) (Or.inl ⟨by rfl, ?_⟩) ?_ ?_
                rotate_left; (· intro w'; go_simp; with_reducible rfl)
                rotate_left; (· simp only [Act.put,List.setIfInBounds_toArray,List.set_cons_zero,List.set_cons_succ,i64_w,i32_w]; rfl)
                refine pure_ (i := 7) (N := some 93) (v := ?_) (a' := ?_) (bo_ 17 247) rfl rfl (any_of HT_.out (by kernel_rfl)) (fun _ _ _ h => h) (Or.inl ⟨by rfl, ?_⟩) ?_ ?_
                rotate_left; (· intro w'; go_simp; with_reducible rfl)
                rotate_left; (· simp only [Act.put,List.setIfInBounds_toArray,List.set_cons_zero,List.set_cons_succ,i64_w,i32_w]; rfl)
                refine pure_ (i := 8) (N := some 94) (v := ?_) (a' := ?_) (bo_ 17 503) rfl rfl (any_of HT_.out (by kernel_rfl)) (fun _ _ _ h => h) (Or.inl ⟨by rfl, ?_⟩) ?_ ?_
                rotate_left; (· intro w'; go_simp; with_reducible rfl)
                rotate_left; (· simp only [Act.put,List.setIfInBounds_toArray,List.set_cons_zero,List.set_cons_succ,i64_w,i32_w]; rfl)
                refine pure_ (i := 9) (N := some 95) (v := ?_) (a' := ?_) (bo_ 17 1015) rfl rfl (any_of HT_.out (by kernel_rfl)) (fun _ _ _ h => h) (Or.inl ⟨by rfl, ?_⟩) ?_ ?_
                rotate_left; (· intro w'; go_simp; with_reducible rfl)
                rotate_left; (· simp only [Act.put,List.setIfInBounds_toArray,List.set_cons_zero,List.set_cons_succ,i64_w,i32_w]; rfl)
                refine take_ (i := 3) (N := some 89) (v := ?_) (a' := ?_) (bo_ 17 1023) rfl rfl (take_ofW HT_.out HW_.out (by kernel_rfl)) (fun _ _ _ h => h) (Or.inl ⟨by rfl, ?_⟩) hHeld ?_ ?_
                rotate_left
                ·intro w' s0
                 go_simp
                 with_reducible rfl
                rotate_left; (· simp only [Act.put,List.setIfInBounds_toArray,List.set_cons_zero,List.set_cons_succ,i64_w,i32_w]; rfl)
                refine one_ (i := 10) (N := some 96) (bo_ 17 2047) rfl rfl (one_of HT_.out (by kernel_rfl)) (by decide) (fun K hK => ?_)
                refine goes_ Try.func10 (by kernel_rfl) rfl #[.int .i64 (wrap64 (a4))] (by rfl) rfl rfl (by (try simp only [List.map_toArray, List.map_cons, List.map_nil]); first | done | rfl | (simp only [List.length_drop, List.length_take]; rfl)) ?_
                with_reducible refine (kerbsuitedata_Long.calls (wrap64 (a4)) t425 _ A38.out).mono ?_
                rintro e w' ⟨rfl, ⟨nd, rfl⟩⟩
                refine ⟨_, rfl, ?_⟩
                refine hK.out _ _ (hHeld) (fun hHeld => ?_)
                clear hK K
                refine norm_ (a' := ?_) ?_ ?_
                rotate_left; (· show Act.put _ (some 96) _ = _; simp only [Act.put,List.setIfInBounds_toArray,List.set_cons_zero,List.set_cons_succ,i64_w,i32_w]; rfl)
                refine one_ (i := 11) (N := some 97) (bo_ 17 4095) rfl rfl (one_of HT_.out (by kernel_rfl)) (by decide) (fun K hK => ?_)
                refine goes_ Try.func19 (by kernel_rfl) rfl #[.slice A424_0 (rd_L1 y411 x16_2).length c424_0, .int .i64 (wrap64 (1 + (Int.tmod (wrap64 (a4)) 10))), .int .u64 t425] (by rfl) rfl rfl (by (try simp only [List.map_toArray, List.map_cons, List.map_nil]); first | done | rfl | (simp only [List.length_drop, List.length_take]; rfl)) ?_
                with_reducible refine (box_Open.calls kj25 _ _ (rd_L1 y411 x16_2) (wrap64 (1 + (Int.tmod (wrap64 (a4)) 10))) t425 t426 t427 _ ?side1 ?side2 A39.out).mono ?_
                (case side1 => repeat (first | exact (by first | (with_reducible exact HR424_0.out) | (with_reducible exact Kd.C_drewN HR424_0.out _) | (with_reducible exact Kd.C_drew HR424_0.out) | repeat (first | (with_reducible exact HR424_0.out) | (with_reducible refine Kd.C_alloc ?_ _) | (with_reducible refine Kd.C_drewN ?_ _) | (with_reducible refine Kd.C_drew ?_) | exact HR424_0.out)) | (with_reducible refine Kd.C_alloc ?_ _) | (with_reducible refine Kd.C_drewN ?_ _) | (with_reducible refine Kd.C_drew ?_)))
                (case side2 => exact HC424_0.out)
                rintro e w51 ⟨v428, rfl, ho0, hb⟩
                have HS0_ := (hb.cell (World.block_lt_of_cell? _ _ (hHeld))).trans (hHeld)
                refine ⟨_, rfl, ?_⟩
                have n0_ := Aside0.mk (Kd.N_elder' (by (with_reducible repeat (first | apply Kd.N_alloc | apply Kd.N_drewN | apply Kd.N_drew)); exact HO_15.out) (Kd.R_base ho0) hb)
                have n1_ := Aside0.mk (Kd.V_elder' (by (with_reducible repeat (first | apply Kd.V_alloc | apply Kd.V_drewN | apply Kd.V_drew)); exact HL424_0.out) (Kd.R_base ho0) hb)
                have n2_ := Aside0.mk (Kd.R_lower (Kd.R_newM (M := fun k_ => (w.heap.size ≤ k_)) ho0 (below_size (by repeat (first | (with_reducible first | exact HB.out | apply below_alloc | apply pw_below_drewN | apply below_drew1) | exact HB.out))) (fun k_ h_ => h_)) (below_size (by repeat (first | (with_reducible first | exact HB.out | apply below_alloc | apply pw_below_drewN | apply below_drew1) | exact HB.out))))
                have n3_ := Aside0.mk (Kd.C_below (by first | (with_reducible exact HR414_0.out) | (with_reducible exact Kd.C_drewN HR414_0.out _) | (with_reducible exact Kd.C_drew HR414_0.out) | repeat (first | (with_reducible exact HR414_0.out) | (with_reducible refine Kd.C_alloc ?_ _) | (with_reducible refine Kd.C_drewN ?_ _) | (with_reducible refine Kd.C_drew ?_) | exact HR414_0.out)) hb)
                have n4_ := Aside0.mk (Kd.C_below (by first | (with_reducible exact HR419_0.out) | (with_reducible exact Kd.C_drewN HR419_0.out _) | (with_reducible exact Kd.C_drew HR419_0.out) | repeat (first | (with_reducible exact HR419_0.out) | (with_reducible refine Kd.C_alloc ?_ _) | (with_reducible refine Kd.C_drewN ?_ _) | (with_reducible refine Kd.C_drew ?_) | exact HR419_0.out)) hb)
                have n5_ := Aside0.mk (Kd.C_below (by first | (with_reducible exact HR424_0.out) | (with_reducible exact Kd.C_drewN HR424_0.out _) | (with_reducible exact Kd.C_drew HR424_0.out) | repeat (first | (with_reducible exact HR424_0.out) | (with_reducible refine Kd.C_alloc ?_ _) | (with_reducible refine Kd.C_drewN ?_ _) | (with_reducible refine Kd.C_drew ?_) | exact HR424_0.out)) hb)
                have n6_ := Aside0.mk (below_step (by repeat (first | (with_reducible first | exact HB.out | apply below_alloc | apply pw_below_drewN | apply below_drew1) | exact HB.out)) hb)
                clear HO_15
                clear HL424_0
                clear HR414_0
                clear HR419_0
                clear HR424_0
                clear HB
                have HO_15 := n0_
                have HL424_0 := n1_
                have HO429 := n2_
                have HR414_0 := n3_
                have HR419_0 := n4_
                have HR424_0 := n5_
                have HB := n6_
                clear n0_ n1_ n2_ n3_ n4_ n5_ n6_
                (try clear hb)
                (try clear hb2)
                (try clear hk)
                (try clear hi)
                (try clear ho0)
                refine hK.out _ _ (HS0_) (fun hHeld => ?_)
                clear hK K
                refine norm_ (a' := ?_) ?_ ?_
                rotate_left; (· show Act.put _ (some 97) _ = _; simp only [Act.put,List.setIfInBounds_toArray,List.set_cons_zero,List.set_cons_succ,i64_w,i32_w]; rfl)
                refine pure_ (i := 12) (N := some 85) (v := ?_) (a' := ?_) (bo_ 17 8191) rfl rfl (any_of HT_.out (by kernel_rfl)) (fun _ _ _ h => h) (Or.inl ⟨by rfl, ?_⟩) ?_ ?_
                rotate_left; (· intro w'; go_simp; with_reducible rfl)
                rotate_left; (· simp only [Act.put,List.setIfInBounds_toArray,List.set_cons_zero,List.set_cons_succ,i64_w,i32_w]; rfl)
                refine pure_ (i := 13) (N := some 98) (v := ?_) (a' := ?_) (bo_ 17 16383) rfl rfl (any_of HT_.out (by kernel_rfl)) (fun _ _ _ h => h) (Or.inl ⟨by rfl, ?_⟩) ?_ ?_
                rotate_left; (· intro w'; go_simp; with_reducible rfl)
                rotate_left; (· simp only [Act.put,List.setIfInBounds_toArray,List.set_cons_zero,List.set_cons_succ,i64_w,i32_w]; rfl)
                refine pure_ (i := 14) (N := some 99) (v := ?_) (a' := ?_) (bo_ 17 32767) rfl rfl (any_of HT_.out (by kernel_rfl)) (fun _ _ _ h => h) (Or.inl ⟨by rfl, ?_⟩) ?_ ?_
                rotate_left; (· intro w'; go_simp; with_reducible rfl)
                rotate_left; (· simp only [Act.put,List.setIfInBounds_toArray,List.set_cons_zero,List.set_cons_succ,i64_w,i32_w]; rfl)
                refine pure_ (i := 15) (N := some 17) (v := ?_) (a' := ?_) (bo_ 17 65535) rfl rfl (any_of HT_.out (by kernel_rfl)) (fun _ _ _ h => h) (Or.inl ⟨by rfl, ?_⟩) ?_ ?_
                rotate_left; (· intro w'; go_simp; with_reducible rfl)
                rotate_left; (· simp only [Act.put,List.setIfInBounds_toArray,List.set_cons_zero,List.set_cons_succ,i64_w,i32_w]; rfl)
                refine pure_ (i := 16) (N := some 18) (v := ?_) (a' := ?_) (bo_ 17 131071) rfl rfl (any_of HT_.out (by kernel_rfl)) (fun _ _ _ h => h) (Or.inl ⟨by rfl, ?_⟩) ?_ ?_
                rotate_left; (· intro w'; go_simp; with_reducible rfl)
                rotate_left; (· simp only [Act.put,List.setIfInBounds_toArray,List.set_cons_zero,List.set_cons_succ,i64_w,i32_w]; rfl)
                refine done_ (done_of HT_.out (by kernel_rfl)) ?_
                try go_upto_region 15 with fail
                have n0_ := Aside0.mk (Kd.N_drew HO_15.out)
                have n1_ := Aside0.mk (Kd.V_drew HL424_0.out)
                have n2_ := Aside0.mk (Kd.R_drew HO429.out)
                have n3_ := Aside0.mk (Kd.C_drew HR414_0.out)
                have n4_ := Aside0.mk (Kd.C_drew HR419_0.out)
                have n5_ := Aside0.mk (Kd.C_drew HR424_0.out)
                have n6_ := Aside0.mk (below_drew1 HB.out)
                clear HO_15
                clear HL424_0
                clear HO429
                clear HR414_0
                clear HR419_0
                clear HR424_0
                clear HB
                have HO_15 := n0_
                have HL424_0 := n1_
                have HO429 := n2_
                have HR414_0 := n3_
                have HR419_0 := n4_
                have HR424_0 := n5_
                have HB := n6_
                clear n0_ n1_ n2_ n3_ n4_ n5_ n6_
                have p430 : 0 ≤ (x16_2 : Int) := of_decide_eq_true (by first | (with_reducible assumption) | assumption)
                have q430 : x16_2 < (y411.length : Int) := of_decide_eq_true (by first | (with_reducible assumption) | assumption)
                obtain ⟨ad430, A430_0, c430_0, e430, hx430_0, hl430_0, hi430_0⟩ := at_L1 (Kd.N_reads' HO_15.out).2.2 x16_2 p430 q430
                obtain rfl : ad414 = ad430 := (by injection e430)
                obtain ⟨ce430, hce430, hMe430, hcc430⟩ := Kd.N_get HO_15.out [] x16_2 p430 (by first | exact q430 | exact of_decide_eq_true (by first | (with_reducible assumption) | assumption) | (have e_ := (Kd.N_reads' HO_15.out).1; omega))
                obtain ⟨ua430_0, uc430_0, rfl, ul430_0, ge430_0⟩ := Kd.FK_slice_open hMe430
                have hv430_0 := hcc430 0 _ rfl
                rw [Nat.add_zero, show ((Kd.slice 5 (Kd.int .u8))).sz = 1 from rfl, Nat.mul_one] at hv430_0
                replace hv430_0 := Option.some.inj (hv430_0.symm.trans hx430_0)
                injection hv430_0 with hva_ hvn_ hvc_
                rw [hva_] at ge430_0
                rw [hvc_] at ul430_0
                have HL430_0 := Aside0.mk (show Kd.V (Kd.int .u8) 5 _ w.heap.size _ _ (rd_L1 y411 x16_2) from Kd.V_mk ul430_0 ge430_0)
                clear hva_ hvn_ hvc_ ge430_0 ul430_0
                clear hcc430 hce430
                have HR430_0 := Aside0.mk hi430_0
                have HC430_0 := Aside0.mk hl430_0
                clear hi430_0 hl430_0
                replace p430 := eq_true p430
                replace q430 := eq_true q430
                refine start_ (n := 17) (S := fun w' => w'.cell? (ad414.add (x16_2).toNat) = some (.slice A430_0 (rd_L1 y411 x16_2).length c430_0)) (ds := []) #[false,false,false,false,false,false,false,false,false,false,false,false,false,false,false,false,false] (by kernel_rfl) rfl rfl (hx430_0) (fun hHeld => ?_); refine with_tabW kerbsuitelaw4_BoxTells.tab15 kerbsuitelaw4_BoxTells.bits15 (fun HT_ HW_ => ?_)
                generalize w51.drew = w52 at HO_15 HL424_0 HO429 HR414_0 HR419_0 HR424_0 HB HL430_0 HR430_0 hx430_0 hHeld ⊢
                refine pure_ (i := 0) (N := some 101) (v := ?_) (a' := ?_) (bo_ 17 1) rfl rfl (any_of HT_.out (by kernel_rfl)) (fun _ _ _ h => h) (Or.inl ⟨by rfl, ?_⟩) ?_ ?_
                rotate_left; (· intro w'; go_simp; with_reducible rfl)
                rotate_left; (· simp only [Act.put,List.setIfInBounds_toArray,List.set_cons_zero,List.set_cons_succ,i64_w,i32_w]; rfl)
                refine pure_ (i := 1) (N := some 102) (v := ?_) (a' := ?_) (bo_ 17 3) rfl rfl (any_of HT_.out (by kernel_rfl)) (fun _ _ _ h => h) (Or.inl ⟨by rfl, ?_⟩) ?_ ?_
                rotate_left; (· intro w'; go_simp; with_reducible rfl)
                rotate_left; (· simp only [Act.put,List.setIfInBounds_toArray,List.set_cons_zero,List.set_cons_succ,i64_w,i32_w]; rfl)
                refine pure_ (i := 2) (N := some 103) (v := ?_) (a' := ?_) (bo_ 17 7) rfl rfl (any_of HT_.out (by kernel_rfl)) (fun _ _ _ h => h) (Or.inl ⟨by rfl, ?_⟩) ?_ ?_
                rotate_left; (· intro w'; go_simp; with_reducible rfl)
                rotate_left; (· simp only [Act.put,List.setIfInBounds_toArray,List.set_cons_zero,List.set_cons_succ,i64_w,i32_w]; rfl)
                refine pure_ (i := 4) (N := some 105) (v := ?_) (a' := ?_) (bo_ 17 23) rfl rfl (any_of HT_.out (by kernel_rfl)) (fun _ _ _ h => h) (Or.inl ⟨by rfl, ?_⟩) ?_ ?_
                rotate_left; (· intro w'; go_simp; with_reducible rfl)
                rotate_left; (· simp only [Act.put,List.setIfInBounds_toArray,List.set_cons_zero,List.set_cons_succ,i64_w,i32_w]; rfl)
                refine pure_ (i := 5) (N := some 106) (v := ?_) (a' := ?_) (bo_ 17 55) rfl rfl (any_of HT_.out (by kernel_rfl)) (fun _ _ _ h => h) (Or.inl ⟨by rfl, ?_⟩) ?_ ?_
                rotate_left; (· intro w'; go_simp; with_reducible rfl)
                rotate_left; (· simp only [Act.put,List.setIfInBounds_toArray,List.set_cons_zero,List.set_cons_succ,i64_w,i32_w]; rfl)
                refine pure_ (i := 6) (N := some 107) (v := ?_) (a' := ?_) (bo_ 17 119) rfl rfl (any_of HT_.out (by kernel_rfl)) (fun _ _ _ h => h) (Or.inl ⟨by rfl, ?_⟩) ?_ ?_
                rotate_left; (· intro w'; go_simp; with_reducible rfl)
                rotate_left; (· simp only [Act.put,List.setIfInBounds_toArray,List.set_cons_zero,List.set_cons_succ,i64_w,i32_w]; rfl)
                refine pure_ (i := 7) (N := some 108) (v := ?_) (a' := ?_) (bo_ 17 247) rfl rfl (any_of HT_.out (by kernel_rfl)) (fun _ _ _ h => h) (Or.inl ⟨by rfl, ?_⟩) ?_ ?_
                rotate_left; (· intro w'; go_simp; with_reducible rfl)
                rotate_left; (· simp only [Act.put,List.setIfInBounds_toArray,List.set_cons_zero,List.set_cons_succ,i64_w,i32_w]; rfl)
                refine pure_ (i := 8) (N := some 109) (v := ?_) (a' := ?_) (bo_ 17 503) rfl rfl (any_of HT_.out (by kernel_rfl)) (fun _ _ _ h => h) (Or.inl ⟨by rfl, ?_⟩) ?_ ?_
                rotate_left; (· intro w'; go_simp; with_reducible rfl)
                rotate_left; (· simp only [Act.put,List.setIfInBounds_toArray,List.set_cons_zero,List.set_cons_succ,i64_w,i32_w]; rfl)
                refine pure_ (i := 9) (N := some 110) (v := ?_) (a' := ?_) (bo_ 17 1015) rfl rfl (any_of HT_.out (by kernel_rfl)) (fun _ _ _ h => h) (Or.inl ⟨by rfl, ?_⟩) ?_ ?_
                rotate_left; (· intro w'; go_simp; with_reducible rfl)
                rotate_left; (· simp only [Act.put,List.setIfInBounds_toArray,List.set_cons_zero,List.set_cons_succ,i64_w,i32_w]; rfl)
                refine take_ (i := 3) (N := some 104) (v := ?_) (a' := ?_) (bo_ 17 1023) rfl rfl (take_ofW HT_.out HW_.out (by kernel_rfl)) (fun _ _ _ h => h) (Or.inl ⟨by rfl, ?_⟩) hHeld ?_ ?_
                rotate_left
                ·intro w' s0
                 go_simp
                 with_reducible rfl
                rotate_left; (· simp only [Act.put,List.setIfInBounds_toArray,List.set_cons_zero,List.set_cons_succ,i64_w,i32_w]; rfl)
                refine one_ (i := 10) (N := some 111) (bo_ 17 2047) rfl rfl (one_of HT_.out (by kernel_rfl)) (by decide) (fun K hK => ?_)
                refine goes_ Try.func10 (by kernel_rfl) rfl #[.int .i64 (wrap64 (a4))] (by rfl) rfl rfl (by (try simp only [List.map_toArray, List.map_cons, List.map_nil]); first | done | rfl | (simp only [List.length_drop, List.length_take]; rfl)) ?_
                with_reducible refine (kerbsuitedata_Long.calls (wrap64 (a4)) t431 _ A40.out).mono ?_
                rintro e w' ⟨rfl, ⟨nd, rfl⟩⟩
                refine ⟨_, rfl, ?_⟩
                refine hK.out _ _ (hHeld) (fun hHeld => ?_)
                clear hK K
                refine norm_ (a' := ?_) ?_ ?_
                rotate_left; (· show Act.put _ (some 111) _ = _; simp only [Act.put,List.setIfInBounds_toArray,List.set_cons_zero,List.set_cons_succ,i64_w,i32_w]; rfl)
                refine one_ (i := 11) (N := some 112) (bo_ 17 4095) rfl rfl (one_of HT_.out (by kernel_rfl)) (by decide) (fun K hK => ?_)
                refine goes_ Try.func20 (by kernel_rfl) rfl #[.slice A430_0 (rd_L1 y411 x16_2).length c430_0, .int .i64 (wrap64 (1 + (Int.tmod (wrap64 (a4)) 10))), .int .u64 t431] (by rfl) rfl rfl (by (try simp only [List.map_toArray, List.map_cons, List.map_nil]); first | done | rfl | (simp only [List.length_drop, List.length_take]; rfl)) ?_
                with_reducible refine (kerbsuiteref4_Open.calls kj25 _ _ (rd_L1 y411 x16_2) (wrap64 (1 + (Int.tmod (wrap64 (a4)) 10))) t431 t432 t433 _ ?side1 ?side2 A41.out).mono ?_
                (case side1 => repeat (first | exact (by first | (with_reducible exact HR430_0.out) | (with_reducible exact Kd.C_drewN HR430_0.out _) | (with_reducible exact Kd.C_drew HR430_0.out) | repeat (first | (with_reducible exact HR430_0.out) | (with_reducible refine Kd.C_alloc ?_ _) | (with_reducible refine Kd.C_drewN ?_ _) | (with_reducible refine Kd.C_drew ?_) | exact HR430_0.out)) | (with_reducible refine Kd.C_alloc ?_ _) | (with_reducible refine Kd.C_drewN ?_ _) | (with_reducible refine Kd.C_drew ?_)))
                (case side2 => exact HC430_0.out)
                rintro e w53 ⟨v434, rfl, ho0, hb⟩
                have HS0_ := (hb.cell (World.block_lt_of_cell? _ _ (hHeld))).trans (hHeld)
                refine ⟨_, rfl, ?_⟩
                have n0_ := Aside0.mk (Kd.N_elder' (by (with_reducible repeat (first | apply Kd.N_alloc | apply Kd.N_drewN | apply Kd.N_drew)); exact HO_15.out) (Kd.R_base ho0) hb)
                have n1_ := Aside0.mk (Kd.V_elder' (by (with_reducible repeat (first | apply Kd.V_alloc | apply Kd.V_drewN | apply Kd.V_drew)); exact HL424_0.out) (Kd.R_base ho0) hb)
                have n2_ := Aside0.mk (Kd.R_elder' (by (with_reducible repeat (first | apply Kd.R_alloc | apply Kd.R_drewN | apply Kd.R_drew)); exact HO429.out) (Kd.R_base ho0) hb)
                have n3_ := Aside0.mk (Kd.V_elder' (by (with_reducible repeat (first | apply Kd.V_alloc | apply Kd.V_drewN | apply Kd.V_drew)); exact HL430_0.out) (Kd.R_base ho0) hb)
                have n4_ := Aside0.mk (Kd.R_lower (Kd.R_new' (Kd.R_newM (M := fun k_ => (w.heap.size ≤ k_)) ho0 (below_size (by repeat (first | (with_reducible first | exact HB.out | apply below_alloc | apply pw_below_drewN | apply below_drew1) | exact HB.out))) (fun k_ h_ => h_)) (Kd.R_lt (by (with_reducible repeat (first | apply Kd.R_alloc | apply Kd.R_drewN | apply Kd.R_drew)); exact HO429.out))) (below_size (by repeat (first | (with_reducible first | exact HB.out | apply below_alloc | apply pw_below_drewN | apply below_drew1) | exact HB.out))))
                have n5_ := Aside0.mk (Kd.C_below (by first | (with_reducible exact HR414_0.out) | (with_reducible exact Kd.C_drewN HR414_0.out _) | (with_reducible exact Kd.C_drew HR414_0.out) | repeat (first | (with_reducible exact HR414_0.out) | (with_reducible refine Kd.C_alloc ?_ _) | (with_reducible refine Kd.C_drewN ?_ _) | (with_reducible refine Kd.C_drew ?_) | exact HR414_0.out)) hb)
                have n6_ := Aside0.mk (Kd.C_below (by first | (with_reducible exact HR419_0.out) | (with_reducible exact Kd.C_drewN HR419_0.out _) | (with_reducible exact Kd.C_drew HR419_0.out) | repeat (first | (with_reducible exact HR419_0.out) | (with_reducible refine Kd.C_alloc ?_ _) | (with_reducible refine Kd.C_drewN ?_ _) | (with_reducible refine Kd.C_drew ?_) | exact HR419_0.out)) hb)
                have n7_ := Aside0.mk (Kd.C_below (by first | (with_reducible exact HR424_0.out) | (with_reducible exact Kd.C_drewN HR424_0.out _) | (with_reducible exact Kd.C_drew HR424_0.out) | repeat (first | (with_reducible exact HR424_0.out) | (with_reducible refine Kd.C_alloc ?_ _) | (with_reducible refine Kd.C_drewN ?_ _) | (with_reducible refine Kd.C_drew ?_) | exact HR424_0.out)) hb)
                have n8_ := Aside0.mk (Kd.C_below (by first | (with_reducible exact HR430_0.out) | (with_reducible exact Kd.C_drewN HR430_0.out _) | (with_reducible exact Kd.C_drew HR430_0.out) | repeat (first | (with_reducible exact HR430_0.out) | (with_reducible refine Kd.C_alloc ?_ _) | (with_reducible refine Kd.C_drewN ?_ _) | (with_reducible refine Kd.C_drew ?_) | exact HR430_0.out)) hb)
                have n9_ := Aside0.mk (below_step (by repeat (first | (with_reducible first | exact HB.out | apply below_alloc | apply pw_below_drewN | apply below_drew1) | exact HB.out)) hb)
                clear HO_15
                clear HL424_0
                clear HO429
                clear HL430_0
                clear HR414_0
                clear HR419_0
                clear HR424_0
                clear HR430_0
                clear HB
                have HO_15 := n0_
                have HL424_0 := n1_
                have HO429 := n2_
                have HL430_0 := n3_
                have HO435 := n4_
                have HR414_0 := n5_
                have HR419_0 := n6_
                have HR424_0 := n7_
                have HR430_0 := n8_
                have HB := n9_
                clear n0_ n1_ n2_ n3_ n4_ n5_ n6_ n7_ n8_ n9_
                (try clear hb)
                (try clear hb2)
                (try clear hk)
                (try clear hi)
                (try clear ho0)
                refine hK.out _ _ (HS0_) (fun hHeld => ?_)
                clear hK K
                refine norm_ (a' := ?_) ?_ ?_
                rotate_left; (· show Act.put _ (some 112) _ = _; simp only [Act.put,List.setIfInBounds_toArray,List.set_cons_zero,List.set_cons_succ,i64_w,i32_w]; rfl)
                refine pure_ (i := 12) (N := some 100) (v := ?_) (a' := ?_) (bo_ 17 8191) rfl rfl (any_of HT_.out (by kernel_rfl)) (fun _ _ _ h => h) (Or.inl ⟨by rfl, ?_⟩) ?_ ?_
                rotate_left; (· intro w'; go_simp; with_reducible rfl)
                rotate_left; (· simp only [Act.put,List.setIfInBounds_toArray,List.set_cons_zero,List.set_cons_succ,i64_w,i32_w]; rfl)
                refine pure_ (i := 13) (N := some 113) (v := ?_) (a' := ?_) (bo_ 17 16383) rfl rfl (any_of HT_.out (by kernel_rfl)) (fun _ _ _ h => h) (Or.inl ⟨by rfl, ?_⟩) ?_ ?_
                rotate_left; (· intro w'; go_simp; with_reducible rfl)
                rotate_left; (· simp only [Act.put,List.setIfInBounds_toArray,List.set_cons_zero,List.set_cons_succ,i64_w,i32_w]; rfl)
                refine pure_ (i := 14) (N := some 114) (v := ?_) (a' := ?_) (bo_ 17 32767) rfl rfl (any_of HT_.out (by kernel_rfl)) (fun _ _ _ h => h) (Or.inl ⟨by rfl, ?_⟩) ?_ ?_
                rotate_left; (· intro w'; go_simp; with_reducible rfl)
                rotate_left; (· simp only [Act.put,List.setIfInBounds_toArray,List.set_cons_zero,List.set_cons_succ,i64_w,i32_w]; rfl)
                refine pure_ (i := 15) (N := some 19) (v := ?_) (a' := ?_) (bo_ 17 65535) rfl rfl (any_of HT_.out (by kernel_rfl)) (fun _ _ _ h => h) (Or.inl ⟨by rfl, ?_⟩) ?_ ?_
                rotate_left; (· intro w'; go_simp; with_reducible rfl)
                rotate_left; (· simp only [Act.put,List.setIfInBounds_toArray,List.set_cons_zero,List.set_cons_succ,i64_w,i32_w]; rfl)
                refine pure_ (i := 16) (N := some 20) (v := ?_) (a' := ?_) (bo_ 17 131071) rfl rfl (any_of HT_.out (by kernel_rfl)) (fun _ _ _ h => h) (Or.inl ⟨by rfl, ?_⟩) ?_ ?_
                rotate_left; (· intro w'; go_simp; with_reducible rfl)
                rotate_left; (· simp only [Act.put,List.setIfInBounds_toArray,List.set_cons_zero,List.set_cons_succ,i64_w,i32_w]; rfl)
                refine done_ (done_of HT_.out (by kernel_rfl)) ?_
                have hcv54 := own_string (P := Try.prog) Try.underlying24 Try.underlying5 Try.underlying9 (Kd.own_of_R HO429.out)
                have hcv55 := own_string (P := Try.prog) Try.underlying24 Try.underlying5 Try.underlying9 (Kd.own_of_R HO435.out)
                try go_wp2
                go_roundg kj25
                case measure => have := HJ8.out; have := HK2.out; have := HJ25.out; omega
                case rel => exact ⟨(wrap64 (x16_2 + 1)), (by first | rfl | (simp; done) | (simp [*]; done)), H', ⟨by have := HJ8.out; have := HK2.out; have := HJ25.out; omega⟩, ⟨by (with_reducible repeat (first | apply Kd.N_alloc | apply Kd.N_drewN | apply Kd.N_drew)); exact Kd.N_mono HO_15.out (fun _ hk => hk.1.1)⟩, ⟨by repeat (first | (with_reducible first | exact HB.out | apply below_alloc | apply pw_below_drewN | apply below_drew1) | exact HB.out)⟩⟩
              ·rw [if_neg c42] at H
               have c42b0 : ((strOfNums t426).toList == (strOfNums t432).toList) = false := beq_eq_false_iff_ne.mpr c42
               have c42b1 : ((strOfNums t426).toList != (strOfNums t432).toList) = true := bne_iff_ne.mpr c42
               obtain rfl := Option.some.inj H
               try go_wp2
               have n0_ := Aside0.mk (Kd.N_drew HO_15.out)
               have n1_ := Aside0.mk (Kd.C_drew HR414_0.out)
               have n2_ := Aside0.mk (Kd.C_drew HR419_0.out)
               have n3_ := Aside0.mk (below_drew1 HB.out)
               clear HO_15
               clear HR414_0
               clear HR419_0
               clear HB
               have HO_15 := n0_
               have HR414_0 := n1_
               have HR419_0 := n2_
               have HB := n3_
               clear n0_ n1_ n2_ n3_
               have p424 : 0 ≤ (x16_2 : Int) := of_decide_eq_true (by first | (with_reducible assumption) | assumption)
               have q424 : x16_2 < (y411.length : Int) := of_decide_eq_true (by first | (with_reducible assumption) | assumption)
               obtain ⟨ad424, A424_0, c424_0, e424, hx424_0, hl424_0, hi424_0⟩ := at_L1 (Kd.N_reads' HO_15.out).2.2 x16_2 p424 q424
               obtain rfl : ad414 = ad424 := (by injection e424)
               obtain ⟨ce424, hce424, hMe424, hcc424⟩ := Kd.N_get HO_15.out [] x16_2 p424 (by first | exact q424 | exact of_decide_eq_true (by first | (with_reducible assumption) | assumption) | (have e_ := (Kd.N_reads' HO_15.out).1; omega))
               obtain ⟨ua424_0, uc424_0, rfl, ul424_0, ge424_0⟩ := Kd.FK_slice_open hMe424
               have hv424_0 := hcc424 0 _ rfl
               rw [Nat.add_zero, show ((Kd.slice 5 (Kd.int .u8))).sz = 1 from rfl, Nat.mul_one] at hv424_0
               replace hv424_0 := Option.some.inj (hv424_0.symm.trans hx424_0)
               injection hv424_0 with hva_ hvn_ hvc_
               rw [hva_] at ge424_0
               rw [hvc_] at ul424_0
               have HL424_0 := Aside0.mk (show Kd.V (Kd.int .u8) 5 _ w.heap.size _ _ (rd_L1 y411 x16_2) from Kd.V_mk ul424_0 ge424_0)
               clear hva_ hvn_ hvc_ ge424_0 ul424_0
               clear hcc424 hce424
               have HR424_0 := Aside0.mk hi424_0
               have HC424_0 := Aside0.mk hl424_0
               clear hi424_0 hl424_0
               replace p424 := eq_true p424
               replace q424 := eq_true q424
               refine start_ (n := 17) (S := fun w' => w'.cell? (ad414.add (x16_2).toNat) = some (.slice A424_0 (rd_L1 y411 x16_2).length c424_0)) (ds := []) #[false,false,false,false,false,false,false,false,false,false,false,false,false,false,false,false,false] (by kernel_rfl) rfl rfl (hx424_0) (fun hHeld => ?_); refine with_tabW kerbsuitelaw4_BoxTells.tab14 kerbsuitelaw4_BoxTells.bits14 (fun HT_ HW_ => ?_)
               generalize wc.drew = w56 at HO_15 HR414_0 HR419_0 HB HL424_0 HR424_0 hx424_0 hHeld ⊢
               refine pure_ (i := 0) (N := some 86) (v := ?_) (a' := ?_) (bo_ 17 1) rfl rfl (any_of HT_.out (by kernel_rfl)) (fun _ _ _ h => h) (Or.inl ⟨by rfl, ?_⟩) ?_ ?_
               rotate_left; (· intro w'; go_simp; with_reducible rfl)
               rotate_left; (· simp only [Act.put,List.setIfInBounds_toArray,List.set_cons_zero,List.set_cons_succ,i64_w,i32_w]; rfl)
               refine pure_ (i := 1) (N := some 87) (v := ?_) (a' := ?_) (bo_ 17 3) rfl rfl (any_of HT_.out (by kernel_rfl)) (fun _ _ _ h => h) (Or.inl ⟨by rfl, ?_⟩) ?_ ?_
               rotate_left; (· intro w'; go_simp; with_reducible rfl)
               rotate_left; (· simp only [Act.put,List.setIfInBounds_toArray,List.set_cons_zero,List.set_cons_succ,i64_w,i32_w]; rfl)
               refine pure_ (i := 2) (N := some 88) (v := ?_) (a' := ?_) (bo_ 17 7) rfl rfl (any_of HT_.out (by kernel_rfl)) (fun _ _ _ h => h) (Or.inl ⟨by rfl, ?_⟩) ?_ ?_
               rotate_left; (· intro w'; go_simp; with_reducible rfl)
               rotate_left; (· simp only [Act.put,List.setIfInBounds_toArray,List.set_cons_zero,List.set_cons_succ,i64_w,i32_w]; rfl)
               refine pure_ (i := 4) (N := some 90) (v := ?_) (a' := ?_) (bo_ 17 23) rfl rfl (any_of HT_.out (by kernel_rfl)) (fun _ _ _ h => h) (Or.inl ⟨by rfl, ?_⟩) ?_ ?_
               rotate_left; (· intro w'; go_simp; with_reducible rfl)
               rotate_left; (· simp only [Act.put,List.setIfInBounds_toArray,List.set_cons_zero,List.set_cons_succ,i64_w,i32_w]; rfl)
               refine pure_ (i := 5) (N := some 91) (v := ?_) (a' := ?_) (bo_ 17 55) rfl rfl (any_of HT_.out (by kernel_rfl)) (fun _ _ _ h => h) (Or.inl ⟨by rfl, ?_⟩) ?_ ?_
               rotate_left; (· intro w'; go_simp; with_reducible rfl)
               rotate_left; (· simp only [Act.put,List.setIfInBounds_toArray,List.set_cons_zero,List.set_cons_succ,i64_w,i32_w]; rfl)
               refine pure_ (i := 6) (N := some 92) (v := ?_) (a' := ?_) (bo_ 17 119) rfl rfl (any_of HT_.out (by kernel_rfl)) (fun _ _ _ h => h) (Or.inl ⟨by rfl, ?_⟩) ?_ ?_
               rotate_left; (· intro w'; go_simp; with_reducible rfl)
               rotate_left; (· simp only [Act.put,List.setIfInBounds_toArray,List.set_cons_zero,List.set_cons_succ,i64_w,i32_w]; rfl)
               refine pure_ (i := 7) (N := some 93) (v := ?_) (a' := ?_) (bo_ 17 247) rfl rfl (any_of HT_.out (by kernel_rfl)) (fun _ _ _ h => h) (Or.inl ⟨by rfl, ?_⟩) ?_ ?_
               rotate_left; (· intro w'; go_simp; with_reducible rfl)
               rotate_left; (· simp only [Act.put,List.setIfInBounds_toArray,List.set_cons_zero,List.set_cons_succ,i64_w,i32_w]; rfl)
               refine pure_ (i := 8) (N := some 94) (v := ?_) (a' := ?_) (bo_ 17 503) rfl rfl (any_of HT_.out (by kernel_rfl)) (fun _ _ _ h => h) (Or.inl ⟨by rfl, ?_⟩) ?_ ?_
               rotate_left; (· intro w'; go_simp; with_reducible rfl)
               rotate_left; (· simp only [Act.put,List.setIfInBounds_toArray,List.set_cons_zero,List.set_cons_succ,i64_w,i32_w]; rfl)
               refine pure_ (i := 9) (N := some 95) (v := ?_) (a' := ?_) (bo_ 17 1015) rfl rfl (any_of HT_.out (by kernel_rfl)) (fun _ _ _ h => h) (Or.inl ⟨by rfl, ?_⟩) ?_ ?_
               rotate_left; (· intro w'; go_simp; with_reducible rfl)
               rotate_left; (· simp only [Act.put,List.setIfInBounds_toArray,List.set_cons_zero,List.set_cons_succ,i64_w,i32_w]; rfl)
               refine take_ (i := 3) (N := some 89) (v := ?_) (a' := ?_) (bo_ 17 1023) rfl rfl (take_ofW HT_.out HW_.out (by kernel_rfl)) (fun _ _ _ h => h) (Or.inl ⟨by rfl, ?_⟩) hHeld ?_ ?_
               rotate_left
               ·intro w' s0
                go_simp
                with_reducible rfl
               rotate_left; (· simp only [Act.put,List.setIfInBounds_toArray,List.set_cons_zero,List.set_cons_succ,i64_w,i32_w]; rfl)
               refine one_ (i := 10) (N := some 96) (bo_ 17 2047) rfl rfl (one_of HT_.out (by kernel_rfl)) (by decide) (fun K hK => ?_)
               refine goes_ Try.func10 (by kernel_rfl) rfl #[.int .i64 (wrap64 (a4))] (by rfl) rfl rfl (by (try simp only [List.map_toArray, List.map_cons, List.map_nil]); first | done | rfl | (simp only [List.length_drop, List.length_take]; rfl)) ?_
               with_reducible refine (kerbsuitedata_Long.calls (wrap64 (a4)) t425 _ A38.out).mono ?_
               rintro e w' ⟨rfl, ⟨nd, rfl⟩⟩
               refine ⟨_, rfl, ?_⟩
               refine hK.out _ _ (hHeld) (fun hHeld => ?_)
               clear hK K
               refine norm_ (a' := ?_) ?_ ?_
               rotate_left; (· show Act.put _ (some 96) _ = _; simp only [Act.put,List.setIfInBounds_toArray,List.set_cons_zero,List.set_cons_succ,i64_w,i32_w]; rfl)
               refine one_ (i := 11) (N := some 97) (bo_ 17 4095) rfl rfl (one_of HT_.out (by kernel_rfl)) (by decide) (fun K hK => ?_)
               refine goes_ Try.func19 (by kernel_rfl) rfl #[.slice A424_0 (rd_L1 y411 x16_2).length c424_0, .int .i64 (wrap64 (1 + (Int.tmod (wrap64 (a4)) 10))), .int .u64 t425] (by rfl) rfl rfl (by (try simp only [List.map_toArray, List.map_cons, List.map_nil]); first | done | rfl | (simp only [List.length_drop, List.length_take]; rfl)) ?_
               with_reducible refine (box_Open.calls kj25 _ _ (rd_L1 y411 x16_2) (wrap64 (1 + (Int.tmod (wrap64 (a4)) 10))) t425 t426 t427 _ ?side1 ?side2 A39.out).mono ?_
               (case side1 => repeat (first | exact (by first | (with_reducible exact HR424_0.out) | (with_reducible exact Kd.C_drewN HR424_0.out _) | (with_reducible exact Kd.C_drew HR424_0.out) | repeat (first | (with_reducible exact HR424_0.out) | (with_reducible refine Kd.C_alloc ?_ _) | (with_reducible refine Kd.C_drewN ?_ _) | (with_reducible refine Kd.C_drew ?_) | exact HR424_0.out)) | (with_reducible refine Kd.C_alloc ?_ _) | (with_reducible refine Kd.C_drewN ?_ _) | (with_reducible refine Kd.C_drew ?_)))
               (case side2 => exact HC424_0.out)
               rintro e w57 ⟨v428, rfl, ho0, hb⟩
               have HS0_ := (hb.cell (World.block_lt_of_cell? _ _ (hHeld))).trans (hHeld)
               refine ⟨_, rfl, ?_⟩
               have n0_ := Aside0.mk (Kd.N_elder' (by (with_reducible repeat (first | apply Kd.N_alloc | apply Kd.N_drewN | apply Kd.N_drew)); exact HO_15.out) (Kd.R_base ho0) hb)
               have n1_ := Aside0.mk (Kd.V_elder' (by (with_reducible repeat (first | apply Kd.V_alloc | apply Kd.V_drewN | apply Kd.V_drew)); exact HL424_0.out) (Kd.R_base ho0) hb)
               have n2_ := Aside0.mk (Kd.R_lower (Kd.R_newM (M := fun k_ => (w.heap.size ≤ k_)) ho0 (below_size (by repeat (first | (with_reducible first | exact HB.out | apply below_alloc | apply pw_below_drewN | apply below_drew1) | exact HB.out))) (fun k_ h_ => h_)) (below_size (by repeat (first | (with_reducible first | exact HB.out | apply below_alloc | apply pw_below_drewN | apply below_drew1) | exact HB.out))))
               have n3_ := Aside0.mk (Kd.C_below (by first | (with_reducible exact HR414_0.out) | (with_reducible exact Kd.C_drewN HR414_0.out _) | (with_reducible exact Kd.C_drew HR414_0.out) | repeat (first | (with_reducible exact HR414_0.out) | (with_reducible refine Kd.C_alloc ?_ _) | (with_reducible refine Kd.C_drewN ?_ _) | (with_reducible refine Kd.C_drew ?_) | exact HR414_0.out)) hb)
               have n4_ := Aside0.mk (Kd.C_below (by first | (with_reducible exact HR419_0.out) | (with_reducible exact Kd.C_drewN HR419_0.out _) | (with_reducible exact Kd.C_drew HR419_0.out) | repeat (first | (with_reducible exact HR419_0.out) | (with_reducible refine Kd.C_alloc ?_ _) | (with_reducible refine Kd.C_drewN ?_ _) | (with_reducible refine Kd.C_drew ?_) | exact HR419_0.out)) hb)
               have n5_ := Aside0.mk (Kd.C_below (by first | (with_reducible exact HR424_0.out) | (with_reducible exact Kd.C_drewN HR424_0.out _) | (with_reducible exact Kd.C_drew HR424_0.out) | repeat (first | (with_reducible exact HR424_0.out) | (with_reducible refine Kd.C_alloc ?_ _) | (with_reducible refine Kd.C_drewN ?_ _) | (with_reducible refine Kd.C_drew ?_) | exact HR424_0.out)) hb)
               have n6_ := Aside0.mk (below_step (by repeat (first | (with_reducible first | exact HB.out | apply below_alloc | apply pw_below_drewN | apply below_drew1) | exact HB.out)) hb)
               clear HO_15
               clear HL424_0
               clear HR414_0
               clear HR419_0
               clear HR424_0
               clear HB
               have HO_15 := n0_
               have HL424_0 := n1_
               have HO429 := n2_
               have HR414_0 := n3_
               have HR419_0 := n4_
               have HR424_0 := n5_
               have HB := n6_
               clear n0_ n1_ n2_ n3_ n4_ n5_ n6_
               (try clear hb)
               (try clear hb2)
               (try clear hk)
               (try clear hi)
               (try clear ho0)
               refine hK.out _ _ (HS0_) (fun hHeld => ?_)
               clear hK K
               refine norm_ (a' := ?_) ?_ ?_
               rotate_left; (· show Act.put _ (some 97) _ = _; simp only [Act.put,List.setIfInBounds_toArray,List.set_cons_zero,List.set_cons_succ,i64_w,i32_w]; rfl)
               refine pure_ (i := 12) (N := some 85) (v := ?_) (a' := ?_) (bo_ 17 8191) rfl rfl (any_of HT_.out (by kernel_rfl)) (fun _ _ _ h => h) (Or.inl ⟨by rfl, ?_⟩) ?_ ?_
               rotate_left; (· intro w'; go_simp; with_reducible rfl)
               rotate_left; (· simp only [Act.put,List.setIfInBounds_toArray,List.set_cons_zero,List.set_cons_succ,i64_w,i32_w]; rfl)
               refine pure_ (i := 13) (N := some 98) (v := ?_) (a' := ?_) (bo_ 17 16383) rfl rfl (any_of HT_.out (by kernel_rfl)) (fun _ _ _ h => h) (Or.inl ⟨by rfl, ?_⟩) ?_ ?_
               rotate_left; (· intro w'; go_simp; with_reducible rfl)
               rotate_left; (· simp only [Act.put,List.setIfInBounds_toArray,List.set_cons_zero,List.set_cons_succ,i64_w,i32_w]; rfl)
               refine pure_ (i := 14) (N := some 99) (v := ?_) (a' := ?_) (bo_ 17 32767) rfl rfl (any_of HT_.out (by kernel_rfl)) (fun _ _ _ h => h) (Or.inl ⟨by rfl, ?_⟩) ?_ ?_
               rotate_left; (· intro w'; go_simp; with_reducible rfl)
               rotate_left; (· simp only [Act.put,List.setIfInBounds_toArray,List.set_cons_zero,List.set_cons_succ,i64_w,i32_w]; rfl)
               refine pure_ (i := 15) (N := some 17) (v := ?_) (a' := ?_) (bo_ 17 65535) rfl rfl (any_of HT_.out (by kernel_rfl)) (fun _ _ _ h => h) (Or.inl ⟨by rfl, ?_⟩) ?_ ?_
               rotate_left; (· intro w'; go_simp; with_reducible rfl)
               rotate_left; (· simp only [Act.put,List.setIfInBounds_toArray,List.set_cons_zero,List.set_cons_succ,i64_w,i32_w]; rfl)
               refine pure_ (i := 16) (N := some 18) (v := ?_) (a' := ?_) (bo_ 17 131071) rfl rfl (any_of HT_.out (by kernel_rfl)) (fun _ _ _ h => h) (Or.inl ⟨by rfl, ?_⟩) ?_ ?_
               rotate_left; (· intro w'; go_simp; with_reducible rfl)
               rotate_left; (· simp only [Act.put,List.setIfInBounds_toArray,List.set_cons_zero,List.set_cons_succ,i64_w,i32_w]; rfl)
               refine done_ (done_of HT_.out (by kernel_rfl)) ?_
               try go_upto_region 15 with fail
               have n0_ := Aside0.mk (Kd.N_drew HO_15.out)
               have n1_ := Aside0.mk (Kd.V_drew HL424_0.out)
               have n2_ := Aside0.mk (Kd.R_drew HO429.out)
               have n3_ := Aside0.mk (Kd.C_drew HR414_0.out)
               have n4_ := Aside0.mk (Kd.C_drew HR419_0.out)
               have n5_ := Aside0.mk (Kd.C_drew HR424_0.out)
               have n6_ := Aside0.mk (below_drew1 HB.out)
               clear HO_15
               clear HL424_0
               clear HO429
               clear HR414_0
               clear HR419_0
               clear HR424_0
               clear HB
               have HO_15 := n0_
               have HL424_0 := n1_
               have HO429 := n2_
               have HR414_0 := n3_
               have HR419_0 := n4_
               have HR424_0 := n5_
               have HB := n6_
               clear n0_ n1_ n2_ n3_ n4_ n5_ n6_
               have p430 : 0 ≤ (x16_2 : Int) := of_decide_eq_true (by first | (with_reducible assumption) | assumption)
               have q430 : x16_2 < (y411.length : Int) := of_decide_eq_true (by first | (with_reducible assumption) | assumption)
               obtain ⟨ad430, A430_0, c430_0, e430, hx430_0, hl430_0, hi430_0⟩ := at_L1 (Kd.N_reads' HO_15.out).2.2 x16_2 p430 q430
               obtain rfl : ad414 = ad430 := (by injection e430)
               obtain ⟨ce430, hce430, hMe430, hcc430⟩ := Kd.N_get HO_15.out [] x16_2 p430 (by first | exact q430 | exact of_decide_eq_true (by first | (with_reducible assumption) | assumption) | (have e_ := (Kd.N_reads' HO_15.out).1; omega))
               obtain ⟨ua430_0, uc430_0, rfl, ul430_0, ge430_0⟩ := Kd.FK_slice_open hMe430
               have hv430_0 := hcc430 0 _ rfl
               rw [Nat.add_zero, show ((Kd.slice 5 (Kd.int .u8))).sz = 1 from rfl, Nat.mul_one] at hv430_0
               replace hv430_0 := Option.some.inj (hv430_0.symm.trans hx430_0)
               injection hv430_0 with hva_ hvn_ hvc_
               rw [hva_] at ge430_0
               rw [hvc_] at ul430_0
               have HL430_0 := Aside0.mk (show Kd.V (Kd.int .u8) 5 _ w.heap.size _ _ (rd_L1 y411 x16_2) from Kd.V_mk ul430_0 ge430_0)
               clear hva_ hvn_ hvc_ ge430_0 ul430_0
               clear hcc430 hce430
               have HR430_0 := Aside0.mk hi430_0
               have HC430_0 := Aside0.mk hl430_0
               clear hi430_0 hl430_0
               replace p430 := eq_true p430
               replace q430 := eq_true q430
               refine start_ (n := 17) (S := fun w' => w'.cell? (ad414.add (x16_2).toNat) = some (.slice A430_0 (rd_L1 y411 x16_2).length c430_0)) (ds := []) #[false,false,false,false,false,false,false,false,false,false,false,false,false,false,false,false,false] (by kernel_rfl) rfl rfl (hx430_0) (fun hHeld => ?_); refine with_tabW kerbsuitelaw4_BoxTells.tab15 kerbsuitelaw4_BoxTells.bits15 (fun HT_ HW_ => ?_)
               generalize w57.drew = w58 at HO_15 HL424_0 HO429 HR414_0 HR419_0 HR424_0 HB HL430_0 HR430_0 hx430_0 hHeld ⊢
               refine pure_ (i := 0) (N := some 101) (v := ?_) (a' := ?_) (bo_ 17 1) rfl rfl (any_of HT_.out (by kernel_rfl)) (fun _ _ _ h => h) (Or.inl ⟨by rfl, ?_⟩) ?_ ?_
               rotate_left; (· intro w'; go_simp; with_reducible rfl)
               rotate_left; (· simp only [Act.put,List.setIfInBounds_toArray,List.set_cons_zero,List.set_cons_succ,i64_w,i32_w]; rfl)
               refine pure_ (i := 1) (N := some 102) (v := ?_) (a' := ?_) (bo_ 17 3) rfl rfl (any_of HT_.out (by kernel_rfl)) (fun _ _ _ h => h) (Or.inl ⟨by rfl, ?_⟩) ?_ ?_
               rotate_left; (· intro w'; go_simp; with_reducible rfl)
               rotate_left; (· simp only [Act.put,List.setIfInBounds_toArray,List.set_cons_zero,List.set_cons_succ,i64_w,i32_w]; rfl)
               refine pure_ (i := 2) (N := some 103) (v := ?_) (a' := ?_) (bo_ 17 7) rfl rfl (any_of HT_.out (by kernel_rfl)) (fun _ _ _ h => h) (Or.inl ⟨by rfl, ?_⟩) ?_ ?_
               rotate_left; (· intro w'; go_simp; with_reducible rfl)
               rotate_left; (· simp only [Act.put,List.setIfInBounds_toArray,List.set_cons_zero,List.set_cons_succ,i64_w,i32_w]; rfl)
               refine pure_ (i := 4) (N := some 105) (v := ?_) (a' := ?_) (bo_ 17 23) rfl rfl (any_of HT_.out (by kernel_rfl)) (fun _ _ _ h => h) (Or.inl ⟨by rfl, ?_⟩) ?_ ?_
               rotate_left; (· intro w'; go_simp; with_reducible rfl)
               rotate_left; (· simp only [Act.put,List.setIfInBounds_toArray,List.set_cons_zero,List.set_cons_succ,i64_w,i32_w]; rfl)
               refine pure_ (i := 5) (N := some 106) (v := ?_) (a' := ?_) (bo_ 17 55) rfl rfl (any_of HT_.out (by kernel_rfl)) (fun _ _ _ h => h) (Or.inl ⟨by rfl, ?_⟩) ?_ ?_
               rotate_left; (· intro w'; go_simp; with_reducible rfl)
               rotate_left; (· simp only [Act.put,List.setIfInBounds_toArray,List.set_cons_zero,List.set_cons_succ,i64_w,i32_w]; rfl)
               refine pure_ (i := 6) (N := some 107) (v := ?_) (a' := ?_) (bo_ 17 119) rfl rfl (any_of HT_.out (by kernel_rfl)) (fun _ _ _ h => h) (Or.inl ⟨by rfl, ?_⟩) ?_ ?_
               rotate_left; (· intro w'; go_simp; with_reducible rfl)
               rotate_left; (· simp only [Act.put,List.setIfInBounds_toArray,List.set_cons_zero,List.set_cons_succ,i64_w,i32_w]; rfl)
               refine pure_ (i := 7) (N := some 108) (v := ?_) (a' := ?_) (bo_ 17 247) rfl rfl (any_of HT_.out (by kernel_rfl)) (fun _ _ _ h => h) (Or.inl ⟨by rfl, ?_⟩) ?_ ?_
               rotate_left; (· intro w'; go_simp; with_reducible rfl)
               rotate_left; (· simp only [Act.put,List.setIfInBounds_toArray,List.set_cons_zero,List.set_cons_succ,i64_w,i32_w]; rfl)
               refine pure_ (i := 8) (N := some 109) (v := ?_) (a' := ?_) (bo_ 17 503) rfl rfl (any_of HT_.out (by kernel_rfl)) (fun _ _ _ h => h) (Or.inl ⟨by rfl, ?_⟩) ?_ ?_
               rotate_left; (· intro w'; go_simp; with_reducible rfl)
               rotate_left; (· simp only [Act.put,List.setIfInBounds_toArray,List.set_cons_zero,List.set_cons_succ,i64_w,i32_w]; rfl)
               refine pure_ (i := 9) (N := some 110) (v := ?_) (a' := ?_) (bo_ 17 1015) rfl rfl (any_of HT_.out (by kernel_rfl)) (fun _ _ _ h => h) (Or.inl ⟨by rfl, ?_⟩) ?_ ?_
               rotate_left; (· intro w'; go_simp; with_reducible rfl)
               rotate_left; (· simp only [Act.put,List.setIfInBounds_toArray,List.set_cons_zero,List.set_cons_succ,i64_w,i32_w]; rfl)
               refine take_ (i := 3) (N := some 104) (v := ?_) (a' := ?_) (bo_ 17 1023) rfl rfl (take_ofW HT_.out HW_.out (by kernel_rfl)) (fun _ _ _ h => h) (Or.inl ⟨by rfl, ?_⟩) hHeld ?_ ?_
               rotate_left
               ·intro w' s0
                go_simp
                with_reducible rfl
               rotate_left; (· simp only [Act.put,List.setIfInBounds_toArray,List.set_cons_zero,List.set_cons_succ,i64_w,i32_w]; rfl)
               refine one_ (i := 10) (N := some 111) (bo_ 17 2047) rfl rfl (one_of HT_.out (by kernel_rfl)) (by decide) (fun K hK => ?_)
               refine goes_ Try.func10 (by kernel_rfl) rfl #[.int .i64 (wrap64 (a4))] (by rfl) rfl rfl (by (try simp only [List.map_toArray, List.map_cons, List.map_nil]); first | done | rfl | (simp only [List.length_drop, List.length_take]; rfl)) ?_
               with_reducible refine (kerbsuitedata_Long.calls (wrap64 (a4)) t431 _ A40.out).mono ?_
               rintro e w' ⟨rfl, ⟨nd, rfl⟩⟩
               refine ⟨_, rfl, ?_⟩
               refine hK.out _ _ (hHeld) (fun hHeld => ?_)
               clear hK K
               refine norm_ (a' := ?_) ?_ ?_
               rotate_left; (· show Act.put _ (some 111) _ = _; simp only [Act.put,List.setIfInBounds_toArray,List.set_cons_zero,List.set_cons_succ,i64_w,i32_w]; rfl)
               refine one_ (i := 11) (N := some 112) (bo_ 17 4095) rfl rfl (one_of HT_.out (by kernel_rfl)) (by decide) (fun K hK => ?_)
               refine goes_ Try.func20 (by kernel_rfl) rfl #[.slice A430_0 (rd_L1 y411 x16_2).length c430_0, .int .i64 (wrap64 (1 + (Int.tmod (wrap64 (a4)) 10))), .int .u64 t431] (by rfl) rfl rfl (by (try simp only [List.map_toArray, List.map_cons, List.map_nil]); first | done | rfl | (simp only [List.length_drop, List.length_take]; rfl)) ?_
               with_reducible refine (kerbsuiteref4_Open.calls kj25 _ _ (rd_L1 y411 x16_2) (wrap64 (1 + (Int.tmod (wrap64 (a4)) 10))) t431 t432 t433 _ ?side1 ?side2 A41.out).mono ?_
               (case side1 => repeat (first | exact (by first | (with_reducible exact HR430_0.out) | (with_reducible exact Kd.C_drewN HR430_0.out _) | (with_reducible exact Kd.C_drew HR430_0.out) | repeat (first | (with_reducible exact HR430_0.out) | (with_reducible refine Kd.C_alloc ?_ _) | (with_reducible refine Kd.C_drewN ?_ _) | (with_reducible refine Kd.C_drew ?_) | exact HR430_0.out)) | (with_reducible refine Kd.C_alloc ?_ _) | (with_reducible refine Kd.C_drewN ?_ _) | (with_reducible refine Kd.C_drew ?_)))
               (case side2 => exact HC430_0.out)
               rintro e w59 ⟨v434, rfl, ho0, hb⟩
               have HS0_ := (hb.cell (World.block_lt_of_cell? _ _ (hHeld))).trans (hHeld)
               refine ⟨_, rfl, ?_⟩
               have n0_ := Aside0.mk (Kd.N_elder' (by (with_reducible repeat (first | apply Kd.N_alloc | apply Kd.N_drewN | apply Kd.N_drew)); exact HO_15.out) (Kd.R_base ho0) hb)
               have n1_ := Aside0.mk (Kd.V_elder' (by (with_reducible repeat (first | apply Kd.V_alloc | apply Kd.V_drewN | apply Kd.V_drew)); exact HL424_0.out) (Kd.R_base ho0) hb)
               have n2_ := Aside0.mk (Kd.R_elder' (by (with_reducible repeat (first | apply Kd.R_alloc | apply Kd.R_drewN | apply Kd.R_drew)); exact HO429.out) (Kd.R_base ho0) hb)
               have n3_ := Aside0.mk (Kd.V_elder' (by (with_reducible repeat (first | apply Kd.V_alloc | apply Kd.V_drewN | apply Kd.V_drew)); exact HL430_0.out) (Kd.R_base ho0) hb)
               have n4_ := Aside0.mk (Kd.R_lower (Kd.R_new' (Kd.R_newM (M := fun k_ => (w.heap.size ≤ k_)) ho0 (below_size (by repeat (first | (with_reducible first | exact HB.out | apply below_alloc | apply pw_below_drewN | apply below_drew1) | exact HB.out))) (fun k_ h_ => h_)) (Kd.R_lt (by (with_reducible repeat (first | apply Kd.R_alloc | apply Kd.R_drewN | apply Kd.R_drew)); exact HO429.out))) (below_size (by repeat (first | (with_reducible first | exact HB.out | apply below_alloc | apply pw_below_drewN | apply below_drew1) | exact HB.out))))
               have n5_ := Aside0.mk (Kd.C_below (by first | (with_reducible exact HR414_0.out) | (with_reducible exact Kd.C_drewN HR414_0.out _) | (with_reducible exact Kd.C_drew HR414_0.out) | repeat (first | (with_reducible exact HR414_0.out) | (with_reducible refine Kd.C_alloc ?_ _) | (with_reducible refine Kd.C_drewN ?_ _) | (with_reducible refine Kd.C_drew ?_) | exact HR414_0.out)) hb)
               have n6_ := Aside0.mk (Kd.C_below (by first | (with_reducible exact HR419_0.out) | (with_reducible exact Kd.C_drewN HR419_0.out _) | (with_reducible exact Kd.C_drew HR419_0.out) | repeat (first | (with_reducible exact HR419_0.out) | (with_reducible refine Kd.C_alloc ?_ _) | (with_reducible refine Kd.C_drewN ?_ _) | (with_reducible refine Kd.C_drew ?_) | exact HR419_0.out)) hb)
               have n7_ := Aside0.mk (Kd.C_below (by first | (with_reducible exact HR424_0.out) | (with_reducible exact Kd.C_drewN HR424_0.out _) | (with_reducible exact Kd.C_drew HR424_0.out) | repeat (first | (with_reducible exact HR424_0.out) | (with_reducible refine Kd.C_alloc ?_ _) | (with_reducible refine Kd.C_drewN ?_ _) | (with_reducible refine Kd.C_drew ?_) | exact HR424_0.out)) hb)
               have n8_ := Aside0.mk (Kd.C_below (by first | (with_reducible exact HR430_0.out) | (with_reducible exact Kd.C_drewN HR430_0.out _) | (with_reducible exact Kd.C_drew HR430_0.out) | repeat (first | (with_reducible exact HR430_0.out) | (with_reducible refine Kd.C_alloc ?_ _) | (with_reducible refine Kd.C_drewN ?_ _) | (with_reducible refine Kd.C_drew ?_) | exact HR430_0.out)) hb)
               have n9_ := Aside0.mk (below_step (by repeat (first | (with_reducible first | exact HB.out | apply below_alloc | apply pw_below_drewN | apply below_drew1) | exact HB.out)) hb)
               clear HO_15
               clear HL424_0
               clear HO429
               clear HL430_0
               clear HR414_0
               clear HR419_0
               clear HR424_0
               clear HR430_0
               clear HB
               have HO_15 := n0_
               have HL424_0 := n1_
               have HO429 := n2_
               have HL430_0 := n3_
               have HO435 := n4_
               have HR414_0 := n5_
               have HR419_0 := n6_
               have HR424_0 := n7_
               have HR430_0 := n8_
               have HB := n9_
               clear n0_ n1_ n2_ n3_ n4_ n5_ n6_ n7_ n8_ n9_
               (try clear hb)
               (try clear hb2)
               (try clear hk)
               (try clear hi)
               (try clear ho0)
               refine hK.out _ _ (HS0_) (fun hHeld => ?_)
               clear hK K
               refine norm_ (a' := ?_) ?_ ?_
               rotate_left; (· show Act.put _ (some 112) _ = _; simp only [Act.put,List.setIfInBounds_toArray,List.set_cons_zero,List.set_cons_succ,i64_w,i32_w]; rfl)
               refine pure_ (i := 12) (N := some 100) (v := ?_) (a' := ?_) (bo_ 17 8191) rfl rfl (any_of HT_.out (by kernel_rfl)) (fun _ _ _ h => h) (Or.inl ⟨by rfl, ?_⟩) ?_ ?_
               rotate_left; (· intro w'; go_simp; with_reducible rfl)
               rotate_left; (· simp only [Act.put,List.setIfInBounds_toArray,List.set_cons_zero,List.set_cons_succ,i64_w,i32_w]; rfl)
               refine pure_ (i := 13) (N := some 113) (v := ?_) (a' := ?_) (bo_ 17 16383) rfl rfl (any_of HT_.out (by kernel_rfl)) (fun _ _ _ h => h) (Or.inl ⟨by rfl, ?_⟩) ?_ ?_
               rotate_left; (· intro w'; go_simp; with_reducible rfl)
               rotate_left; (· simp only [Act.put,List.setIfInBounds_toArray,List.set_cons_zero,List.set_cons_succ,i64_w,i32_w]; rfl)
               refine pure_ (i := 14) (N := some 114) (v := ?_) (a' := ?_) (bo_ 17 32767) rfl rfl (any_of HT_.out (by kernel_rfl)) (fun _ _ _ h => h) (Or.inl ⟨by rfl, ?_⟩) ?_ ?_
               rotate_left; (· intro w'; go_simp; with_reducible rfl)
               rotate_left; (· simp only [Act.put,List.setIfInBounds_toArray,List.set_cons_zero,List.set_cons_succ,i64_w,i32_w]; rfl)
               refine pure_ (i := 15) (N := some 19) (v := ?_) (a' := ?_) (bo_ 17 65535) rfl rfl (any_of HT_.out (by kernel_rfl)) (fun _ _ _ h => h) (Or.inl ⟨by rfl, ?_⟩) ?_ ?_
               rotate_left; (· intro w'; go_simp; with_reducible rfl)
               rotate_left; (· simp only [Act.put,List.setIfInBounds_toArray,List.set_cons_zero,List.set_cons_succ,i64_w,i32_w]; rfl)
               refine pure_ (i := 16) (N := some 20) (v := ?_) (a' := ?_) (bo_ 17 131071) rfl rfl (any_of HT_.out (by kernel_rfl)) (fun _ _ _ h => h) (Or.inl ⟨by rfl, ?_⟩) ?_ ?_
               rotate_left; (· intro w'; go_simp; with_reducible rfl)
               rotate_left; (· simp only [Act.put,List.setIfInBounds_toArray,List.set_cons_zero,List.set_cons_succ,i64_w,i32_w]; rfl)
               refine done_ (done_of HT_.out (by kernel_rfl)) ?_
               have hcv60 := own_string (P := Try.prog) Try.underlying24 Try.underlying5 Try.underlying9 (Kd.own_of_R HO429.out)
               have hcv61 := own_string (P := Try.prog) Try.underlying24 Try.underlying5 Try.underlying9 (Kd.own_of_R HO435.out)
               try go_wp2
               go_ret
               exact ⟨by first | rfl | (simp [errW_none, errW_some] <;> rfl) | (simp [*, errW_none, errW_some] <;> rfl), by repeat (first | (with_reducible first | exact HB.out | apply below_alloc | apply pw_below_drewN | apply below_drew1) | exact HB.out)⟩
             ·rw [if_neg c37] at H
              exact absurd H (by simp)
            ·rw [if_neg c36] at H
             exact absurd H (by simp)
        ·rw [if_neg c23] at H
         exact absurd H (by simp)
       ·rw [if_neg c22] at H
        have c22b0 : decide (x16_2 < (y411.length : Int)) = false := decide_eq_false c22
        clear c22
        obtain rfl := Option.some.inj H
        obtain ⟨Ao62, co62, eo62⟩ := Kd.N_slice HO_15.out
        subst eo62
        go_wp2
        go_ret
        exact ⟨by first | rfl | (simp [errW_none, errW_some] <;> rfl) | (simp [*, errW_none, errW_some] <;> rfl), by repeat (first | (with_reducible first | exact HB.out | apply below_alloc | apply pw_below_drewN | apply below_drew1) | exact HB.out)⟩
 ·replace c8 := Bool.eq_false_iff.mpr c8
  subst c8
  have H1 : (some false) = some r := by rw [if_neg (show ¬ (false = true) by decide)] at H; exact H
  clear H
  have H := H1
  clear H1
  obtain rfl := Option.some.inj H
  go_enter Try.func7, Try.ntmps7
  go_wp2_with (first | ((with_reducible refine gate_callee (f := 8) rfl ?_); refine goesL_ (some 21) rfl rfl Try.func8 (by kernel_rfl) rfl #[] rfl (by (try simp only [List.map_toArray, List.map_cons, List.map_nil]); first | done | rfl | (simp only [List.length_drop, List.length_take]; rfl)) ?_; (with_reducible refine (kerbsuitelaw4_awake.calls k  false _ A7.out).mono ?_); rintro e w63 ⟨rfl, hb⟩; refine ⟨_, rfl, ?_⟩; have n0_ := Aside0.mk (Kd.V_below (by (with_reducible repeat (first | apply Kd.V_alloc | apply Kd.V_drewN | apply Kd.V_drew)); exact HO0.out) hb); have n1_ := Aside0.mk (below_step (by repeat (first | (with_reducible first | exact HB.out | apply below_alloc | apply pw_below_drewN | apply below_drew1) | exact HB.out)) hb); clear HO0; clear HB; have HO0 := n0_; have HB := n1_; clear n0_ n1_; (try clear hb); (try clear hb2); (try clear hk); (try clear hi)))
  go_ret
  exact ⟨by first | rfl | (simp [errW_none, errW_some] <;> rfl) | (simp [*, errW_none, errW_some] <;> rfl), by repeat (first | (with_reducible first | exact HB.out | apply below_alloc | apply pw_below_drewN | apply below_drew1) | exact HB.out)⟩

/-- The one plain statement that is left of kerbsuitelaw4_BoxTells. -/
def kerbsuitelaw4_BoxTells.Pure : Prop := ∀ (l0 : List Int) (l1 : List Int) (a2 : Int) (a3 : Int) (a4 : Int) (a5 : Int), l0.length ≤ maxLen → l0.length * 1 ≤ 140737488351232 → (∀ x ∈ l0, (Lit.int .u8 x).wf = true) → l1.length ≤ maxLen → l1.length * 1 ≤ 140737488351232 → (∀ x ∈ l1, (Lit.int .u8 x).wf = true) → (Lit.int .i64 a2).wf = true → (Lit.int .u64 a3).wf = true → (Lit.int .u8 a4).wf = true → (Lit.int .u16 a5).wf = true → ∃ k, kerbsuitelaw4_BoxTells.f k l0 l1 a2 a3 a4 a5 = some true
theorem kerbsuitelaw4_BoxTells.walk (P : kerbsuitelaw4_BoxTells.Pure) (A0 : Option Addr) (c0 : Nat) (l0 : List Int) (A1 : Option Addr) (c1 : Nat) (l1 : List Int) (a2 : Int) (a3 : Int) (a4 : Int) (a5 : Int) (w : World) (hr0 : Kd.C (Kd.int .u8) w A0 l0.length l0) (hc0 : l0.length ≤ c0) (q0_0 : l0.length ≤ maxLen) (q0_1 : l0.length * 1 ≤ 140737488351232) (q0_2 : (∀ x ∈ l0, (Lit.int .u8 x).wf = true)) (hr1 : Kd.C (Kd.int .u8) w A1 l1.length l1) (hc1 : l1.length ≤ c1) (q1_0 : l1.length ≤ maxLen) (q1_1 : l1.length * 1 ≤ 140737488351232) (q1_2 : (∀ x ∈ l1, (Lit.int .u8 x).wf = true)) (q2_0 : (Lit.int .i64 a2).wf = true) (q3_0 : (Lit.int .u64 a3).wf = true) (q4_0 : (Lit.int .u8 a4).wf = true) (q5_0 : (Lit.int .u16 a5).wf = true) :
  Calls Try.prog 7 #[.slice A0 l0.length c0, .slice A1 l1.length c1, .int .i64 a2, .int .u64 a3, .int .u8 a4, .int .u16 a5] w fun e w' => e = .returned (.bool true) ∧ Below w.heap.size w w' := by
 obtain ⟨k, h⟩ := P l0 l1 a2 a3 a4 a5 q0_0 q0_1 q0_2 q1_0 q1_1 q1_2 q2_0 q3_0 q4_0 q5_0
 refine (kerbsuitelaw4_BoxTells.calls k (fun k_ => k_ < w.heap.size) A0 c0 l0 A1 c1 l1 a2 a3 a4 a5 true w (Go.Proofs.Ytchbnlcalcmdlaa.Aid.aid_V_of_C (Kd.heap_int .u8) hr0 hc0) hr1 hc1 h).mono ?_
 rintro e w' ⟨rfl, hd⟩
 exact ⟨rfl, hd⟩

end Go.Proofs.Ytchbnlcalcmdlaa.PBox
