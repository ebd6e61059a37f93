/- The walks of functions of the translation: each call returns what the plain function beside it says. -/
import Derived.Test.YtchbnlcalcmdlaaPBoxx0
import Derived.Test.YtchbnlcalcmdlaaPBoxx4
namespace Go.Proofs.Ytchbnlcalcmdlaa.PBox
open Go.RowKit Go.Proofs.YtchbnlcalcmdlaaW.PrintWords Go.Proofs.YtchbnlcalcmdlaaW.PrintLast Go.Proofs.YtchbnlcalcmdlaaW.PrintMore Go.Proofs.Ytchbnlcalcmdlaa.Aid
attribute [local go_sem] max2_int min2_int max_two min_two max_three min_three max_four min_four aid_str_gtr   -- for this text's walks alone
set_option linter.unusedVariables false
set_option linter.unusedSimpArgs false

/-! ### kerbsuiteref4_Read: function 16 -/
def kerbsuiteref4_Read.j0 : Nat → List Int → Int → Int → Bool → Option (Int × Int × List Int × Int × Int)
 | 0, _, _, _, _ => none
 | k + 1, x0, x5, x7, x53 => if x53 = true then (some (0, 0, ([] : List Int), 0, 100)) else (if (x0.length : Int) < (wrap64 (12 + x7)) then (some (0, 0, ([] : List Int), 0, 101)) else (if 1 < (x0.length : Int) then ((some (([] : List Int) : List Int)).bind fun y247 => (if 12 ≤ (wrap64 (12 + x7)) then (if (wrap64 (12 + x7)) ≤ (x0.length : Int) then (if y247.length + ((x0.take ((wrap64 (12 + x7)) : Int).toNat).drop 12).length < 140737488355328 then (some (wrap64 (rd x0 1), x5, (y247 ++ ((x0.take ((wrap64 (12 + x7)) : Int).toNat).drop 12)), wrap64 (12 + x7), 0)) else (none)) else (none)) else (none))) else (none)))
def kerbsuiteref4_Read.f (k : Nat) (l0 : List Int) : Option (Int × Int × List Int × Int × Int) := if (l0.length : Int) < 12 then (some (0, 0, ([] : List Int), 0, 101)) else (if 2 ≤ 10 then (if 10 ≤ (l0.length : Int) then ((kerbsuiteref3_Read.f k ((l0.take 10).drop 2)).bind fun bt239 => (if 10 < (l0.length : Int) then (if 11 < (l0.length : Int) then (if 0 < (l0.length : Int) then (if (rd l0 0) = 66 then (if 1 < (l0.length : Int) then (if (wrap64 (rd l0 1)) < 1 then (kerbsuiteref4_Read.j0 k l0 bt239.1 (Go.bits .or .i64 (wrap64 ((wrap64 (rd l0 10)) * 256)) (wrap64 (rd l0 11))) true) else (if (wrap64 (rd l0 1)) > 10 then (kerbsuiteref4_Read.j0 k l0 bt239.1 (Go.bits .or .i64 (wrap64 ((wrap64 (rd l0 10)) * 256)) (wrap64 (rd l0 11))) true) else (if bt239.2 = true then (kerbsuiteref4_Read.j0 k l0 bt239.1 (Go.bits .or .i64 (wrap64 ((wrap64 (rd l0 10)) * 256)) (wrap64 (rd l0 11))) (decide ((Go.bits .or .i64 (wrap64 ((wrap64 (rd l0 10)) * 256)) (wrap64 (rd l0 11))) > 1000))) else (kerbsuiteref4_Read.j0 k l0 bt239.1 (Go.bits .or .i64 (wrap64 ((wrap64 (rd l0 10)) * 256)) (wrap64 (rd l0 11))) true)))) else (none)) else (kerbsuiteref4_Read.j0 k l0 bt239.1 (Go.bits .or .i64 (wrap64 ((wrap64 (rd l0 10)) * 256)) (wrap64 (rd l0 11))) true)) else (none)) else (none)) else (none))) else (none)) else (none))
theorem kerbsuiteref4_Read.mono_l : ∀ k, (∀ y0 y1 y2 y3, LeO (kerbsuiteref4_Read.j0 k y0 y1 y2 y3) (kerbsuiteref4_Read.j0 (k + 1) y0 y1 y2 y3))
 | 0 => fun _ _ _ _ r h => by simp [kerbsuiteref4_Read.j0] at h
 | k + 1 => by
  have ih0 := kerbsuiteref4_Read.mono_l k
  ·intro y0 y1 y2 y3
   unfold kerbsuiteref4_Read.j0
   repeat' first
   | (with_reducible exact ih0 _ _ _ _)
   | (with_reducible exact kerbsuiteref3_Read.mono _ _)
   | (with_reducible exact LeO.refl _)
   | (with_reducible exact LeO.none _)
   | (with_reducible refine LeO.ite ?_ ?_)
   | (with_reducible refine LeO.bind ?_ (fun _ => ?_))
   | exact ih0 _ _ _ _
   | exact kerbsuiteref3_Read.mono _ _
   | exact LeO.none _
   | refine LeO.ite ?_ ?_
   | refine LeO.bind ?_ (fun _ => ?_)
theorem kerbsuiteref4_Read.mono : ∀ a0 k, LeO (kerbsuiteref4_Read.f k a0) (kerbsuiteref4_Read.f (k + 1) a0) := by
 intro a0 k
 have ih0 := kerbsuiteref4_Read.mono_l k
 unfold kerbsuiteref4_Read.f
 repeat' first
   | (with_reducible exact ih0 _ _ _ _)
   | (with_reducible exact kerbsuiteref3_Read.mono _ _)
   | (with_reducible exact LeO.refl _)
   | (with_reducible exact LeO.none _)
   | (with_reducible refine LeO.ite ?_ ?_)
   | (with_reducible refine LeO.bind ?_ (fun _ => ?_))
   | exact ih0 _ _ _ _
   | exact kerbsuiteref3_Read.mono _ _
   | exact LeO.none _
   | refine LeO.ite ?_ ?_
   | refine LeO.bind ?_ (fun _ => ?_)
def kerbsuiteref4_Read.T4 : Bool × List (List Nat × List Nat) := (true,[([], []), ([0], [0]), ([1], [1]), ([2], [2]), ([3], [3]), ([], []), ([5], [5]), ([6], [6]), ([7], [7]), ([4, 8], [4, 8]), ([9, 0, 1, 2, 3, 4, 5, 6, 7, 8, 9], [9])])
def kerbsuiteref4_Read.B4 : List Nat := [0, 1, 3, 7, 15, 0, 32, 96, 224, 511, 1023]
theorem kerbsuiteref4_Read.tab4 : rtab .any (opsOf Try.f16 4) = kerbsuiteref4_Read.T4 := by kernel_rfl
theorem kerbsuiteref4_Read.bits4 : waitsOk kerbsuiteref4_Read.T4.2 kerbsuiteref4_Read.B4 = true := by kernel_rfl
def kerbsuiteref4_Read.T9 : Bool × List (List Nat × List Nat) := (true,[([], []), ([0], [0]), ([1], [1]), ([2], [2]), ([], []), ([], []), ([], []), ([], []), ([7], [7]), ([6, 8], [6, 8]), ([5, 9], [5, 9]), ([3, 4, 10], [3, 4, 10]), ([], []), ([12], [12]), ([11, 10, 0, 1, 2, 3, 4, 5, 6, 7, 8, 9, 10, 11], [11]), ([13, 14, 0, 1, 2, 3, 4, 5, 6, 7, 8, 9, 10, 11, 12, 13, 14], [13]), ([15, 0, 1, 2, 3, 4, 5, 6, 7, 8, 9, 10, 11, 12, 13, 14, 15], [])])
def kerbsuiteref4_Read.B9 : List Nat := [0, 1, 3, 7, 0, 0, 0, 0, 128, 448, 992, 2047, 0, 4096, 4095, 32767, 65535]
theorem kerbsuiteref4_Read.tab9 : rtab .any (opsOf Try.f16 9) = kerbsuiteref4_Read.T9 := by kernel_rfl
theorem kerbsuiteref4_Read.bits9 : waitsOk kerbsuiteref4_Read.T9.2 kerbsuiteref4_Read.B9 = true := by kernel_rfl
set_option maxHeartbeats 8000000 in
set_option maxRecDepth 100000 in
theorem kerbsuiteref4_Read.calls (k : Nat) (A0 : Option Addr) (c0 : Nat) (l0 : List Int) (r1 : Int) (r2 : Int) (r3 : List Int) (r4 : Int) (r5 : Int) (w : World) (hr0 : Kd.C (Kd.int .u8) w A0 l0.length l0) (hc0 : l0.length ≤ c0) (h : kerbsuiteref4_Read.f k l0 = some (r1, r2, r3, r4, r5)) :
  Calls Try.prog 16 #[.slice A0 l0.length c0] w fun e w' => ∃ v2_ : Value, e = .returned (.tuple #[.agg #[.int .i64 r1, .int .u64 r2, v2_], .int .i64 r4, .int .i64 r5]) ∧ Kd.R (Kd.int .u8) 5 w' w.heap.size (fun _ => True) v2_ r3 ∧ Below w.heap.size w w' := by
 have hu37 := Try.underlying37
 have HR0 := Aside0.mk hr0
 have HC0 := Aside0.mk hc0
 clear hr0 hc0
 have HB := Aside0.mk (Below.refl w.heap.size w)
 have H : (if (l0.length : Int) < 12 then (some (0, 0, ([] : List Int), 0, 101)) else (if 2 ≤ 10 then (if 10 ≤ (l0.length : Int) then ((kerbsuiteref3_Read.f k ((l0.take 10).drop 2)).bind fun bt239 => (if 10 < (l0.length : Int) then (if 11 < (l0.length : Int) then (if 0 < (l0.length : Int) then (if (rd l0 0) = 66 then (if 1 < (l0.length : Int) then (if (wrap64 (rd l0 1)) < 1 then (kerbsuiteref4_Read.j0 k l0 bt239.1 (Go.bits .or .i64 (wrap64 ((wrap64 (rd l0 10)) * 256)) (wrap64 (rd l0 11))) true) else (if (wrap64 (rd l0 1)) > 10 then (kerbsuiteref4_Read.j0 k l0 bt239.1 (Go.bits .or .i64 (wrap64 ((wrap64 (rd l0 10)) * 256)) (wrap64 (rd l0 11))) true) else (if bt239.2 = true then (kerbsuiteref4_Read.j0 k l0 bt239.1 (Go.bits .or .i64 (wrap64 ((wrap64 (rd l0 10)) * 256)) (wrap64 (rd l0 11))) (decide ((Go.bits .or .i64 (wrap64 ((wrap64 (rd l0 10)) * 256)) (wrap64 (rd l0 11))) > 1000))) else (kerbsuiteref4_Read.j0 k l0 bt239.1 (Go.bits .or .i64 (wrap64 ((wrap64 (rd l0 10)) * 256)) (wrap64 (rd l0 11))) true)))) else (none)) else (kerbsuiteref4_Read.j0 k l0 bt239.1 (Go.bits .or .i64 (wrap64 ((wrap64 (rd l0 10)) * 256)) (wrap64 (rd l0 11))) true)) else (none)) else (none)) else (none))) else (none)) else (none))) = some (r1, r2, r3, r4, r5) := h
 clear h
 by_cases c2 : (l0.length : Int) < 12
 ·rw [if_pos c2] at H
  have c2b0 : decide ((l0.length : Int) < 12) = true := decide_eq_true c2
  have c2b1 : decide (l0.length < 12) = true := decide_eq_true (by omega)
  clear c2
  simp only [Option.some.injEq, Prod.mk.injEq] at H
  obtain ⟨rfl, rfl, rfl, rfl, rfl⟩ := H
  go_enter Try.func16, Try.ntmps16
  go_wp2_with (first | ((with_reducible refine gate_dst (N := 2) rfl ?_); refine box_event ?hg (N := 2) ?hd (cs := #[.int .i64 0, .int .u64 0, .slice none 0 0]) (t := 37) ?hr ?_; (case hd => rfl); (case hg => rfl); (case hr => first | (go_simp; done) | (go_simp; rfl)); intro gb237 hg w3 hbox hb; have n0_ := Aside0.mk (below_step (by repeat (first | (with_reducible first | exact HB.out | apply below_alloc | apply pw_below_drewN | apply below_drew1) | exact HB.out)) hb); have n1_ := Aside0.mk (hbox); have n2_ := Aside0.mk ((by rw [hg]; exact (below_size (by repeat (first | (with_reducible first | exact HB.out | apply below_alloc | apply pw_below_drewN | apply below_drew1) | exact HB.out))) : w.heap.size ≤ gb237)); have n3_ := Aside0.mk ((by rw [hg]; exact (below_size (by repeat (first | (with_reducible first | exact HB.out | apply below_alloc | apply pw_below_drewN | apply below_drew1) | exact HB.out))) : w.heap.size ≤ gb237)); clear HB; have HB := n0_; have BK237 := n1_; have GW237 := n2_; have GE237 := n3_; clear n0_ n1_ n2_ n3_; clear hb hbox hg; have hcz4_0 : w3.cell? ⟨gb237, 0, none⟩ = some (.int .i64 0) := (blk_cell BK237.out 0).trans rfl; have hcz4_1 : w3.cell? ⟨gb237, 1, none⟩ = some (.int .u64 0) := (blk_cell BK237.out 1).trans rfl; have hcz4_2 : w3.cell? ⟨gb237, 2, none⟩ = some (.slice none 0 0) := (blk_cell BK237.out 2).trans rfl; have hfz4_0 := blk_frozen BK237.out 0; have hfz4_1 := blk_frozen BK237.out 1; have hfz4_2 := blk_frozen BK237.out 2))
  refine bodyPost_ret (results_ctt rfl _ _ gb237 37 #[.int .i64 0, .int .u64 0, .slice none 0 0] (0, 0) _ rfl (by (with_reducible repeat (first | refine blk_drewN ?_ _ | refine blk_drew ?_ | refine blk_alloc ?_ _)); refine blk_put (cs := #[.int .i64 0, .int .u64 0, .slice none 0 0]) ?_ 2 _ rfl; (with_reducible repeat (first | refine blk_drewN ?_ _ | refine blk_drew ?_ | refine blk_alloc ?_ _)); refine blk_put (cs := #[.int .i64 0, .int .u64 0, .slice none 0 0]) ?_ 1 _ rfl; (with_reducible repeat (first | refine blk_drewN ?_ _ | refine blk_drew ?_ | refine blk_alloc ?_ _)); refine blk_put (cs := #[.int .i64 0, .int .u64 0, .slice none 0 0]) ?_ 0 _ rfl; (with_reducible repeat (first | refine blk_drewN ?_ _ | refine blk_drew ?_ | refine blk_alloc ?_ _)); exact BK237.out) Try.underlying37 rfl (by kernel_rfl)) rfl ?_
  exact ⟨_, by first | rfl | (simp [errW_none, errW_some] <;> rfl) | (simp [*, errW_none, errW_some] <;> rfl), by first | exact Kd.R_nil _ _ _ _ _ | exact Kd.N_nil _ _ _ _ _ | exact Kd.V_nil _ _ _ _ _ | exact Kd.Q_nil _ _ _ _ _ | exact Kd.S_nil _ _ _ _ _, by repeat (first | (with_reducible first | exact HB.out | apply below_alloc | apply pw_below_drewN | apply below_drew1 | refine below_set ?_ GE237.out) | exact HB.out)⟩
 ·rw [if_neg c2] at H
  have c2b0 : decide ((l0.length : Int) < 12) = false := decide_eq_false c2
  have c2b1 : decide (l0.length < 12) = false := decide_eq_false (by omega)
  clear c2
  by_cases c5 : 2 ≤ 10
  ·rw [if_pos c5] at H
   have c5b0 := eq_true c5
   have c5b1 : decide (2 ≤ 10) = true := decide_eq_true c5
   clear c5
   by_cases c6 : 10 ≤ (l0.length : Int)
   ·rw [if_pos c6] at H
    have c6b0 := eq_true c6
    have c6b1 : decide (10 ≤ (l0.length : Int)) = true := decide_eq_true c6
    clear c6
    replace H := Option.bind_eq_some_iff.mp H
    obtain ⟨⟨t239, t240⟩, A70, H⟩ := H
    replace H : (if 10 < (l0.length : Int) then (if 11 < (l0.length : Int) then (if 0 < (l0.length : Int) then (if (rd l0 0) = 66 then (if 1 < (l0.length : Int) then (if (wrap64 (rd l0 1)) < 1 then (kerbsuiteref4_Read.j0 k l0 t239 (Go.bits .or .i64 (wrap64 ((wrap64 (rd l0 10)) * 256)) (wrap64 (rd l0 11))) true) else (if (wrap64 (rd l0 1)) > 10 then (kerbsuiteref4_Read.j0 k l0 t239 (Go.bits .or .i64 (wrap64 ((wrap64 (rd l0 10)) * 256)) (wrap64 (rd l0 11))) true) else (if t240 = true then (kerbsuiteref4_Read.j0 k l0 t239 (Go.bits .or .i64 (wrap64 ((wrap64 (rd l0 10)) * 256)) (wrap64 (rd l0 11))) (decide ((Go.bits .or .i64 (wrap64 ((wrap64 (rd l0 10)) * 256)) (wrap64 (rd l0 11))) > 1000))) else (kerbsuiteref4_Read.j0 k l0 t239 (Go.bits .or .i64 (wrap64 ((wrap64 (rd l0 10)) * 256)) (wrap64 (rd l0 11))) true)))) else (none)) else (kerbsuiteref4_Read.j0 k l0 t239 (Go.bits .or .i64 (wrap64 ((wrap64 (rd l0 10)) * 256)) (wrap64 (rd l0 11))) true)) else (none)) else (none)) else (none)) = some (r1, r2, r3, r4, r5) := H
    have A7 := Aside0.mk A70
    clear A70
    by_cases c8 : 10 < (l0.length : Int)
    ·rw [if_pos c8] at H
     have c8b0 : decide (10 < (l0.length : Int)) = true := decide_eq_true c8
     have c8b1 : decide (10 < l0.length) = true := decide_eq_true (by omega)
     clear c8
     by_cases c9 : 11 < (l0.length : Int)
     ·rw [if_pos c9] at H
      have c9b0 : decide (11 < (l0.length : Int)) = true := decide_eq_true c9
      have c9b1 : decide (11 < l0.length) = true := decide_eq_true (by omega)
      clear c9
      have HC10 := Aside0.mk H
      clear H
      go_enter Try.func16, Try.ntmps16
      try go_wp2_with (first | ((with_reducible refine gate_dst (N := 2) rfl ?_); refine box_event ?hg (N := 2) ?hd (cs := #[.int .i64 0, .int .u64 0, .slice none 0 0]) (t := 37) ?hr ?_; (case hd => rfl); (case hg => rfl); (case hr => first | (go_simp; done) | (go_simp; rfl)); intro gb237 hg w11 hbox hb; have n0_ := Aside0.mk (below_step (by repeat (first | (with_reducible first | exact HB.out | apply below_alloc | apply pw_below_drewN | apply below_drew1) | exact HB.out)) hb); have n1_ := Aside0.mk (hbox); have n2_ := Aside0.mk ((by rw [hg]; exact (below_size (by repeat (first | (with_reducible first | exact HB.out | apply below_alloc | apply pw_below_drewN | apply below_drew1) | exact HB.out))) : w.heap.size ≤ gb237)); have n3_ := Aside0.mk ((by rw [hg]; exact (below_size (by repeat (first | (with_reducible first | exact HB.out | apply below_alloc | apply pw_below_drewN | apply below_drew1) | exact HB.out))) : w.heap.size ≤ gb237)); clear HB; have HB := n0_; have BK237 := n1_; have GW237 := n2_; have GE237 := n3_; clear n0_ n1_ n2_ n3_; clear hb hbox hg; obtain ⟨i012, hi012, _, hsz12, _⟩ := info_parts info5; obtain ⟨A12, hcut12, hA12, hC12⟩ := print_mid_of (P := Try.prog) (Value.int .u8) 0 24 5 .i64 .i64 Try.underlying24 hi012 hsz12 A0 c0 l0 2 10 (by omega) (by first | omega | exact of_decide_eq_true (by first | (with_reducible assumption) | assumption)) (of_decide_eq_true (by first | (with_reducible assumption) | assumption)) HC0.out; have HR238 := Aside0.mk (Kd.C_of_reads (h1 := fun _ => rfl) (hA12 _ (Kd.reads_of_C HR0.out))); have HC238 := Aside0.mk hC12; clear hA12 hC12 hi012 hsz12) | ((with_reducible refine gate_callee (f := 28) rfl ?_); refine goesL_ (some 15) rfl rfl Try.func28 (by kernel_rfl) rfl #[.slice A12 ((l0.take 10).drop 2).length (c0 - 2)] rfl (by (try simp only [List.map_toArray, List.map_cons, List.map_nil]); first | done | (rw [show ((l0.take 10).drop 2).length = (10 - 2) from (by rw [List.length_drop, List.length_take]; have h_ : (10 : Int) ≤ (l0.length : Int) := of_decide_eq_true (by first | (with_reducible assumption) | assumption); omega)] <;> rfl) | rfl | (simp only [List.length_drop, List.length_take]; rfl)) ?_; (with_reducible refine (kerbsuiteref3_Read.calls k _ _ ((l0.take 10).drop 2) t239 t240 _ ?side1 ?side2 A7.out).mono ?_); (case side1 => repeat (first | exact (Kd.C_below HR238.out HB.out) | (with_reducible refine Kd.C_alloc ?_ _) | (with_reducible refine Kd.C_drewN ?_ _) | (with_reducible refine Kd.C_drew ?_))); (case side2 => exact HC238.out); rintro e w' ⟨rfl, ⟨nd, rfl⟩⟩; refine ⟨_, rfl, ?_⟩))
      (try (rw [drewN_self w11]; generalize hq_ : World.drewN w11 _ = w11; have n0_ : Aside0 (w11.heap[gb237]? = some (.cells #[.int .i64 0, .int .u64 0, .slice none 0 0] 37 (0, 0))) := ⟨by rw [← hq_]; exact (by (with_reducible repeat (first | refine blk_drewN ?_ _ | refine blk_drew ?_ | refine blk_alloc ?_ _)); exact BK237.out)⟩; have n1_ : Aside0 (Below w.heap.size w w11) := ⟨by rw [← hq_]; exact (by repeat (first | (with_reducible first | exact HB.out | apply below_alloc | apply pw_below_drewN | apply below_drew1 | refine below_set ?_ GE237.out) | exact HB.out))⟩; clear BK237 HB hq_; have BK237 := n0_; have HB := n1_; clear n0_ n1_))
      have n0_ := Aside0.mk (blk_drew BK237.out)
      have n1_ := Aside0.mk (below_drew1 HB.out)
      clear BK237
      clear HB
      have BK237 := n0_
      have HB := n1_
      clear n0_ n1_
      have p241 : 0 ≤ (10 : Int) := (by omega)
      have q241 : 10 < (l0.length : Int) := of_decide_eq_true (by first | (with_reducible assumption) | assumption)
      obtain ⟨ad241, e241, hx241_0⟩ := Kd.at_int HR0.out 10 p241 q241
      have hw241_0 := hx241_0
      (try rw [show ((10 : Int)).toNat = 10 from rfl] at hw241_0)
      (try rw [show 10 * 1 = 10 from rfl] at hw241_0)
      (try simp only [Nat.reduceMul, Nat.reduceEqDiff, Go.Addr.add, ↓reduceIte] at hw241_0)
      cases e241
      (try simp only [show (10 : Int).toNat = 10 from rfl, Nat.reduceMul, Nat.reduceEqDiff, Go.Addr.add, ↓reduceIte] at hx241_0)
      have qi241 : (10 < l0.length) = True := eq_true (by omega)
      (try rw [show ((10 : Int)).toNat = 10 from rfl] at hx241_0)
      replace hx241_0 := (HB.out.cell (World.block_lt_of_cell? w _ hx241_0)).trans hx241_0
      replace p241 := eq_true p241
      replace q241 := eq_true q241
      have p242 : 0 ≤ (11 : Int) := (by omega)
      have q242 : 11 < (l0.length : Int) := of_decide_eq_true (by first | (with_reducible assumption) | assumption)
      obtain ⟨ad242, e242, hx242_0⟩ := Kd.at_int HR0.out 11 p242 q242
      have hw242_0 := hx242_0
      (try rw [show ((11 : Int)).toNat = 11 from rfl] at hw242_0)
      (try rw [show 11 * 1 = 11 from rfl] at hw242_0)
      (try simp only [Nat.reduceMul, Nat.reduceEqDiff, Go.Addr.add, ↓reduceIte] at hw242_0)
      obtain rfl : ad241 = ad242 := (by injection e242)
      (try simp only [show (11 : Int).toNat = 11 from rfl, Nat.reduceMul, Nat.reduceEqDiff, Go.Addr.add, ↓reduceIte] at hx242_0)
      have qi242 : (11 < l0.length) = True := eq_true (by omega)
      (try rw [show ((11 : Int)).toNat = 11 from rfl] at hx242_0)
      replace hx242_0 := (HB.out.cell (World.block_lt_of_cell? w _ hx242_0)).trans hx242_0
      replace p242 := eq_true p242
      replace q242 := eq_true q242
      refine start_ (n := 11) (S := fun w' => w'.cell? ⟨ad241.block, ad241.off + 10, none⟩ = some (.int .u8 (rd l0 10)) ∧ w'.cell? ⟨ad241.block, ad241.off + 11, none⟩ = some (.int .u8 (rd l0 11))) (ds := []) #[false,false,false,false,false,false,false,false,false,false,false] (by kernel_rfl) rfl rfl ⟨((HB.out.cell (World.block_lt_of_cell? w _ hw241_0)).trans hw241_0), ((HB.out.cell (World.block_lt_of_cell? w _ hw242_0)).trans hw242_0)⟩ (fun hHeld => ?_); refine with_tabW kerbsuiteref4_Read.tab4 kerbsuiteref4_Read.bits4 (fun HT_ HW_ => ?_)
      generalize w11.drew = w13 at BK237 HB hx241_0 hx242_0 hHeld ⊢
      refine pure_ (i := 0) (N := some 18) (v := ?_) (a' := ?_) (bo_ 11 1) rfl rfl (any_of HT_.out (by kernel_rfl)) (fun _ _ _ h => h) (Or.inl ⟨by rfl, ?_⟩) ?_ ?_
      rotate_left; (· intro w'; go_simp; with_reducible rfl)
      rotate_left; (· simp only [Act.put,List.setIfInBounds_toArray,List.set_cons_zero,List.set_cons_succ,i64_w,i32_w]; rfl)
      refine pure_ (i := 1) (N := some 19) (v := ?_) (a' := ?_) (bo_ 11 3) rfl rfl (any_of HT_.out (by kernel_rfl)) (fun _ _ _ h => h) (Or.inl ⟨by rfl, ?_⟩) ?_ ?_
      rotate_left; (· intro w'; go_simp; with_reducible rfl)
      rotate_left; (· simp only [Act.put,List.setIfInBounds_toArray,List.set_cons_zero,List.set_cons_succ,i64_w,i32_w]; rfl)
      refine pure_ (i := 5) (N := some 23) (v := ?_) (a' := ?_) (bo_ 11 35) rfl rfl (any_of HT_.out (by kernel_rfl)) (fun _ _ _ h => h) (Or.inl ⟨by rfl, ?_⟩) ?_ ?_
      rotate_left; (· intro w'; go_simp; with_reducible rfl)
      rotate_left; (· simp only [Act.put,List.setIfInBounds_toArray,List.set_cons_zero,List.set_cons_succ,i64_w,i32_w]; rfl)
      refine pure_ (i := 6) (N := some 24) (v := ?_) (a' := ?_) (bo_ 11 99) rfl rfl (any_of HT_.out (by kernel_rfl)) (fun _ _ _ h => h) (Or.inl ⟨by rfl, ?_⟩) ?_ ?_
      rotate_left; (· intro w'; go_simp; with_reducible rfl)
      rotate_left; (· simp only [Act.put,List.setIfInBounds_toArray,List.set_cons_zero,List.set_cons_succ,i64_w,i32_w]; rfl)
      refine take_ (i := 2) (N := some 20) (v := ?_) (a' := ?_) (bo_ 11 103) rfl rfl (take_ofW HT_.out HW_.out (by kernel_rfl)) (fun _ _ _ h => h) (Or.inl ⟨by rfl, ?_⟩) hHeld ?_ ?_
      rotate_left; (· rintro w' ⟨s0, s1⟩; go_simp; with_reducible rfl)
      rotate_left; (· simp only [Act.put,List.setIfInBounds_toArray,List.set_cons_zero,List.set_cons_succ,i64_w,i32_w]; rfl)
      refine pure_ (i := 3) (N := some 21) (v := ?_) (a' := ?_) (bo_ 11 111) rfl rfl (any_of HT_.out (by kernel_rfl)) (fun _ _ _ h => h) (Or.inl ⟨by rfl, ?_⟩) ?_ ?_
      rotate_left; (· intro w'; go_simp; with_reducible rfl)
      rotate_left; (· simp only [Act.put,List.setIfInBounds_toArray,List.set_cons_zero,List.set_cons_succ,i64_w,i32_w]; rfl)
      refine pure_ (i := 4) (N := some 22) (v := ?_) (a' := ?_) (bo_ 11 127) rfl rfl (any_of HT_.out (by kernel_rfl)) (fun _ _ _ h => h) (Or.inl ⟨by rfl, ?_⟩) ?_ ?_
      rotate_left; (· intro w'; go_simp; with_reducible rfl)
      rotate_left; (· simp only [Act.put,List.setIfInBounds_toArray,List.set_cons_zero,List.set_cons_succ,i64_w,i32_w]; rfl)
      refine take_ (i := 7) (N := some 25) (v := ?_) (a' := ?_) (bo_ 11 255) rfl rfl (take_ofW HT_.out HW_.out (by kernel_rfl)) (fun _ _ _ h => h) (Or.inl ⟨by rfl, ?_⟩) hHeld ?_ ?_
      rotate_left; (· rintro w' ⟨s0, s1⟩; go_simp; with_reducible rfl)
      rotate_left; (· simp only [Act.put,List.setIfInBounds_toArray,List.set_cons_zero,List.set_cons_succ,i64_w,i32_w]; rfl)
      refine pure_ (i := 8) (N := some 26) (v := ?_) (a' := ?_) (bo_ 11 511) rfl rfl (any_of HT_.out (by kernel_rfl)) (fun _ _ _ h => h) (Or.inl ⟨by rfl, ?_⟩) ?_ ?_
      rotate_left; (· intro w'; go_simp; with_reducible rfl)
      rotate_left; (· simp only [Act.put,List.setIfInBounds_toArray,List.set_cons_zero,List.set_cons_succ,i64_w,i32_w]; rfl)
      refine pure_ (i := 9) (N := some 27) (v := ?_) (a' := ?_) (bo_ 11 1023) rfl rfl (any_of HT_.out (by kernel_rfl)) (fun _ _ _ h => h) (Or.inl ⟨by rfl, ?_⟩) ?_ ?_
      rotate_left; (· intro w'; go_simp; with_reducible rfl)
      rotate_left; (· simp only [Act.put,List.setIfInBounds_toArray,List.set_cons_zero,List.set_cons_succ,i64_w,i32_w]; rfl)
      refine pure_ (i := 10) (N := some 7) (v := ?_) (a' := ?_) (bo_ 11 2047) rfl rfl (any_of HT_.out (by kernel_rfl)) (fun _ _ _ h => h) (Or.inl ⟨by rfl, ?_⟩) ?_ ?_
      rotate_left; (· intro w'; go_simp; with_reducible rfl)
      rotate_left; (· simp only [Act.put,List.setIfInBounds_toArray,List.set_cons_zero,List.set_cons_succ,i64_w,i32_w]; rfl)
      refine done_ (done_of HT_.out (by kernel_rfl)) ?_
      go_upto_region 5 with (fail)
      go_cut [53] (fun v53 wc => ∃ (kq : Nat) (x53_9 : Bool), v53 = .bool x53_9 ∧ Aside0 (kerbsuiteref4_Read.j0 kq l0 t239 (Go.bits .or .i64 (wrap64 ((wrap64 (rd l0 10)) * 256)) (wrap64 (rd l0 11))) x53_9 = some (r1, r2, r3, r4, r5)) ∧ Aside0 (kq ≤ k) ∧ Aside0 (wc.heap[gb237]? = some (.cells #[.int .i64 0, .int .u64 0, (.slice none 0 0)] 37 (0, 0))) ∧ Aside0 (Below w.heap.size w wc))
      case first =>
       have H := HC10.out
       clear HC10
       by_cases c14 : 0 < (l0.length : Int)
       ·rw [if_pos c14] at H
        have c14b0 : decide (0 < (l0.length : Int)) = true := decide_eq_true c14
        have c14b1 : decide (0 < l0.length) = true := decide_eq_true (by omega)
        clear c14
        (first | rw [c14b0] | (simp only [i64_w, i32_w]; rw [c14b0]) | skip)
        by_cases c15 : (rd l0 0) = 66
        ·rw [if_pos c15] at H
         have c15b0 : ((rd l0 0) == 66) = true := beq_iff_eq.mpr c15
         have c15b1 : ((rd l0 0) != 66) = false := bne_eq_false_iff_eq.mpr c15
         clear c15
         by_cases c16 : 1 < (l0.length : Int)
         ·rw [if_pos c16] at H
          have c16b0 : decide (1 < (l0.length : Int)) = true := decide_eq_true c16
          have c16b1 : decide (1 < l0.length) = true := decide_eq_true (by omega)
          clear c16
          by_cases c17 : (wrap64 (rd l0 1)) < 1
          ·rw [if_pos c17] at H
           have c17b0 : decide ((wrap64 (rd l0 1)) < 1) = true := decide_eq_true c17
           clear c17
           have H' := Aside0.mk H
           clear H
           have p243 : 0 ≤ (0 : Int) := (by omega)
           have q243 : 0 < (l0.length : Int) := of_decide_eq_true (by first | (with_reducible assumption) | assumption)
           obtain ⟨ad243, e243, hx243_0⟩ := Kd.at_int HR0.out 0 p243 q243
           obtain rfl : ad241 = ad243 := (by injection e243)
           have qi243 : (0 < l0.length) = True := eq_true (by omega)
           (try rw [show ((0 : Int)).toNat = 0 from rfl] at hx243_0)
           (try rw [Addr.add_zero'] at hx243_0)
           replace hx243_0 := (HB.out.cell (World.block_lt_of_cell? w _ hx243_0)).trans hx243_0
           replace p243 := eq_true p243
           replace q243 := eq_true q243
           have p244 : 0 ≤ (1 : Int) := (by omega)
           have q244 : 1 < (l0.length : Int) := of_decide_eq_true (by first | (with_reducible assumption) | assumption)
           obtain ⟨ad244, e244, hx244_0⟩ := Kd.at_int HR0.out 1 p244 q244
           obtain rfl : ad241 = ad244 := (by injection e244)
           (try simp only [show (1 : Int).toNat = 1 from rfl, Nat.reduceMul, Nat.reduceEqDiff, Go.Addr.add, ↓reduceIte] at hx244_0)
           have qi244 : (1 < l0.length) = True := eq_true (by omega)
           (try rw [show ((1 : Int)).toNat = 1 from rfl] at hx244_0)
           replace hx244_0 := (HB.out.cell (World.block_lt_of_cell? w _ hx244_0)).trans hx244_0
           replace p244 := eq_true p244
           replace q244 := eq_true q244
           go_wp2
           go_meet
           case rel => exact ⟨_, (true), (by first | rfl | (simp; done) | (simp [*]; done)), H', ⟨by first | omega | exact Nat.le_refl _⟩, ⟨by (with_reducible repeat (first | refine blk_drewN ?_ _ | refine blk_drew ?_ | refine blk_alloc ?_ _)); exact BK237.out⟩, ⟨by repeat (first | (with_reducible first | exact HB.out | apply below_alloc | apply pw_below_drewN | apply below_drew1 | refine below_set ?_ GE237.out) | exact HB.out)⟩⟩
          ·rw [if_neg c17] at H
           have c17b0 : decide ((wrap64 (rd l0 1)) < 1) = false := decide_eq_false c17
           clear c17
           by_cases c18 : (wrap64 (rd l0 1)) > 10
           ·rw [if_pos c18] at H
            have c18b0 : decide (10 < (wrap64 (rd l0 1))) = true := decide_eq_true c18
            clear c18
            have H' := Aside0.mk H
            clear H
            have p243 : 0 ≤ (0 : Int) := (by omega)
            have q243 : 0 < (l0.length : Int) := of_decide_eq_true (by first | (with_reducible assumption) | assumption)
            obtain ⟨ad243, e243, hx243_0⟩ := Kd.at_int HR0.out 0 p243 q243
            obtain rfl : ad241 = ad243 := (by injection e243)
            have qi243 : (0 < l0.length) = True := eq_true (by omega)
            (try rw [show ((0 : Int)).toNat = 0 from rfl] at hx243_0)
            (try rw [Addr.add_zero'] at hx243_0)
            replace hx243_0 := (HB.out.cell (World.block_lt_of_cell? w _ hx243_0)).trans hx243_0
            replace p243 := eq_true p243
            replace q243 := eq_true q243
            have p244 : 0 ≤ (1 : Int) := (by omega)
            have q244 : 1 < (l0.length : Int) := of_decide_eq_true (by first | (with_reducible assumption) | assumption)
            obtain ⟨ad244, e244, hx244_0⟩ := Kd.at_int HR0.out 1 p244 q244
            obtain rfl : ad241 = ad244 := (by injection e244)
            (try simp only [show (1 : Int).toNat = 1 from rfl, Nat.reduceMul, Nat.reduceEqDiff, Go.Addr.add, ↓reduceIte] at hx244_0)
            have qi244 : (1 < l0.length) = True := eq_true (by omega)
            (try rw [show ((1 : Int)).toNat = 1 from rfl] at hx244_0)
            replace hx244_0 := (HB.out.cell (World.block_lt_of_cell? w _ hx244_0)).trans hx244_0
            replace p244 := eq_true p244
            replace q244 := eq_true q244
            have p245 : 0 ≤ (1 : Int) := (by omega)
            have q245 : 1 < (l0.length : Int) := of_decide_eq_true (by first | (with_reducible assumption) | assumption)
            obtain ⟨ad245, e245, hx245_0⟩ := Kd.at_int HR0.out 1 p245 q245
            obtain rfl : ad241 = ad245 := (by injection e245)
            (try simp only [show (1 : Int).toNat = 1 from rfl, Nat.reduceMul, Nat.reduceEqDiff, Go.Addr.add, ↓reduceIte] at hx245_0)
            have qi245 : (1 < l0.length) = True := eq_true (by omega)
            (try rw [show ((1 : Int)).toNat = 1 from rfl] at hx245_0)
            replace hx245_0 := (HB.out.cell (World.block_lt_of_cell? w _ hx245_0)).trans hx245_0
            replace p245 := eq_true p245
            replace q245 := eq_true q245
            go_wp2
            go_meet
            case rel => exact ⟨_, (true), (by first | rfl | (simp; done) | (simp [*]; done)), H', ⟨by first | omega | exact Nat.le_refl _⟩, ⟨by (with_reducible repeat (first | refine blk_drewN ?_ _ | refine blk_drew ?_ | refine blk_alloc ?_ _)); exact BK237.out⟩, ⟨by repeat (first | (with_reducible first | exact HB.out | apply below_alloc | apply pw_below_drewN | apply below_drew1 | refine below_set ?_ GE237.out) | exact HB.out)⟩⟩
           ·rw [if_neg c18] at H
            have c18b0 : decide (10 < (wrap64 (rd l0 1))) = false := decide_eq_false c18
            clear c18
            by_cases c19 : t240 = true
            ·subst c19
             have H1 : (kerbsuiteref4_Read.j0 k l0 t239 (Go.bits .or .i64 (wrap64 ((wrap64 (rd l0 10)) * 256)) (wrap64 (rd l0 11))) (decide ((Go.bits .or .i64 (wrap64 ((wrap64 (rd l0 10)) * 256)) (wrap64 (rd l0 11))) > 1000))) = some (r1, r2, r3, r4, r5) := by rw [if_pos rfl] at H; exact H
             clear H
             have H := H1
             clear H1
             have H' := Aside0.mk H
             clear H
             have p243 : 0 ≤ (0 : Int) := (by omega)
             have q243 : 0 < (l0.length : Int) := of_decide_eq_true (by first | (with_reducible assumption) | assumption)
             obtain ⟨ad243, e243, hx243_0⟩ := Kd.at_int HR0.out 0 p243 q243
             obtain rfl : ad241 = ad243 := (by injection e243)
             have qi243 : (0 < l0.length) = True := eq_true (by omega)
             (try rw [show ((0 : Int)).toNat = 0 from rfl] at hx243_0)
             (try rw [Addr.add_zero'] at hx243_0)
             replace hx243_0 := (HB.out.cell (World.block_lt_of_cell? w _ hx243_0)).trans hx243_0
             replace p243 := eq_true p243
             replace q243 := eq_true q243
             have p244 : 0 ≤ (1 : Int) := (by omega)
             have q244 : 1 < (l0.length : Int) := of_decide_eq_true (by first | (with_reducible assumption) | assumption)
             obtain ⟨ad244, e244, hx244_0⟩ := Kd.at_int HR0.out 1 p244 q244
             obtain rfl : ad241 = ad244 := (by injection e244)
             (try simp only [show (1 : Int).toNat = 1 from rfl, Nat.reduceMul, Nat.reduceEqDiff, Go.Addr.add, ↓reduceIte] at hx244_0)
             have qi244 : (1 < l0.length) = True := eq_true (by omega)
             (try rw [show ((1 : Int)).toNat = 1 from rfl] at hx244_0)
             replace hx244_0 := (HB.out.cell (World.block_lt_of_cell? w _ hx244_0)).trans hx244_0
             replace p244 := eq_true p244
             replace q244 := eq_true q244
             have p245 : 0 ≤ (1 : Int) := (by omega)
             have q245 : 1 < (l0.length : Int) := of_decide_eq_true (by first | (with_reducible assumption) | assumption)
             obtain ⟨ad245, e245, hx245_0⟩ := Kd.at_int HR0.out 1 p245 q245
             obtain rfl : ad241 = ad245 := (by injection e245)
             (try simp only [show (1 : Int).toNat = 1 from rfl, Nat.reduceMul, Nat.reduceEqDiff, Go.Addr.add, ↓reduceIte] at hx245_0)
             have qi245 : (1 < l0.length) = True := eq_true (by omega)
             (try rw [show ((1 : Int)).toNat = 1 from rfl] at hx245_0)
             replace hx245_0 := (HB.out.cell (World.block_lt_of_cell? w _ hx245_0)).trans hx245_0
             replace p245 := eq_true p245
             replace q245 := eq_true q245
             go_wp2
             go_meet
             case rel => exact ⟨_, (decide ((Go.bits .or .i64 (wrap64 ((wrap64 (rd l0 10)) * 256)) (wrap64 (rd l0 11))) > 1000)), (by first | rfl | (simp; done) | (simp [*]; done)), H', ⟨by first | omega | exact Nat.le_refl _⟩, ⟨by (with_reducible repeat (first | refine blk_drewN ?_ _ | refine blk_drew ?_ | refine blk_alloc ?_ _)); exact BK237.out⟩, ⟨by repeat (first | (with_reducible first | exact HB.out | apply below_alloc | apply pw_below_drewN | apply below_drew1 | refine below_set ?_ GE237.out) | exact HB.out)⟩⟩
            ·replace c19 := Bool.eq_false_iff.mpr c19
             subst c19
             have H1 : (kerbsuiteref4_Read.j0 k l0 t239 (Go.bits .or .i64 (wrap64 ((wrap64 (rd l0 10)) * 256)) (wrap64 (rd l0 11))) true) = some (r1, r2, r3, r4, r5) := by rw [if_neg (show ¬ (false = true) by decide)] at H; exact H
             clear H
             have H := H1
             clear H1
             have H' := Aside0.mk H
             clear H
             have p243 : 0 ≤ (0 : Int) := (by omega)
             have q243 : 0 < (l0.length : Int) := of_decide_eq_true (by first | (with_reducible assumption) | assumption)
             obtain ⟨ad243, e243, hx243_0⟩ := Kd.at_int HR0.out 0 p243 q243
             obtain rfl : ad241 = ad243 := (by injection e243)
             have qi243 : (0 < l0.length) = True := eq_true (by omega)
             (try rw [show ((0 : Int)).toNat = 0 from rfl] at hx243_0)
             (try rw [Addr.add_zero'] at hx243_0)
             replace hx243_0 := (HB.out.cell (World.block_lt_of_cell? w _ hx243_0)).trans hx243_0
             replace p243 := eq_true p243
             replace q243 := eq_true q243
             have p244 : 0 ≤ (1 : Int) := (by omega)
             have q244 : 1 < (l0.length : Int) := of_decide_eq_true (by first | (with_reducible assumption) | assumption)
             obtain ⟨ad244, e244, hx244_0⟩ := Kd.at_int HR0.out 1 p244 q244
             obtain rfl : ad241 = ad244 := (by injection e244)
             (try simp only [show (1 : Int).toNat = 1 from rfl, Nat.reduceMul, Nat.reduceEqDiff, Go.Addr.add, ↓reduceIte] at hx244_0)
             have qi244 : (1 < l0.length) = True := eq_true (by omega)
             (try rw [show ((1 : Int)).toNat = 1 from rfl] at hx244_0)
             replace hx244_0 := (HB.out.cell (World.block_lt_of_cell? w _ hx244_0)).trans hx244_0
             replace p244 := eq_true p244
             replace q244 := eq_true q244
             have p245 : 0 ≤ (1 : Int) := (by omega)
             have q245 : 1 < (l0.length : Int) := of_decide_eq_true (by first | (with_reducible assumption) | assumption)
             obtain ⟨ad245, e245, hx245_0⟩ := Kd.at_int HR0.out 1 p245 q245
             obtain rfl : ad241 = ad245 := (by injection e245)
             (try simp only [show (1 : Int).toNat = 1 from rfl, Nat.reduceMul, Nat.reduceEqDiff, Go.Addr.add, ↓reduceIte] at hx245_0)
             have qi245 : (1 < l0.length) = True := eq_true (by omega)
             (try rw [show ((1 : Int)).toNat = 1 from rfl] at hx245_0)
             replace hx245_0 := (HB.out.cell (World.block_lt_of_cell? w _ hx245_0)).trans hx245_0
             replace p245 := eq_true p245
             replace q245 := eq_true q245
             go_wp2
             go_meet
             case rel => exact ⟨_, (true), (by first | rfl | (simp; done) | (simp [*]; done)), H', ⟨by first | omega | exact Nat.le_refl _⟩, ⟨by (with_reducible repeat (first | refine blk_drewN ?_ _ | refine blk_drew ?_ | refine blk_alloc ?_ _)); exact BK237.out⟩, ⟨by repeat (first | (with_reducible first | exact HB.out | apply below_alloc | apply pw_below_drewN | apply below_drew1 | refine below_set ?_ GE237.out) | exact HB.out)⟩⟩
         ·rw [if_neg c16] at H
          exact absurd H (by simp)
        ·rw [if_neg c15] at H
         have c15b0 : ((rd l0 0) == 66) = false := beq_eq_false_iff_ne.mpr c15
         have c15b1 : ((rd l0 0) != 66) = true := bne_iff_ne.mpr c15
         have H' := Aside0.mk H
         clear H
         have p243 : 0 ≤ (0 : Int) := (by omega)
         have q243 : 0 < (l0.length : Int) := of_decide_eq_true (by first | (with_reducible assumption) | assumption)
         obtain ⟨ad243, e243, hx243_0⟩ := Kd.at_int HR0.out 0 p243 q243
         obtain rfl : ad241 = ad243 := (by injection e243)
         have qi243 : (0 < l0.length) = True := eq_true (by omega)
         (try rw [show ((0 : Int)).toNat = 0 from rfl] at hx243_0)
         (try rw [Addr.add_zero'] at hx243_0)
         replace hx243_0 := (HB.out.cell (World.block_lt_of_cell? w _ hx243_0)).trans hx243_0
         replace p243 := eq_true p243
         replace q243 := eq_true q243
         go_wp2
         go_meet
         case rel => exact ⟨_, (true), (by first | rfl | (simp; done) | (simp [*]; done)), H', ⟨by first | omega | exact Nat.le_refl _⟩, ⟨by (with_reducible repeat (first | refine blk_drewN ?_ _ | refine blk_drew ?_ | refine blk_alloc ?_ _)); exact BK237.out⟩, ⟨by repeat (first | (with_reducible first | exact HB.out | apply below_alloc | apply pw_below_drewN | apply below_drew1 | refine below_set ?_ GE237.out) | exact HB.out)⟩⟩
       ·rw [if_neg c14] at H
        exact absurd H (by simp)
      case rest =>
       clear HC10
       try clear c1
       try clear c2
       try clear c2b0
       try clear c2b1
       try clear p2
       try clear q2
       try clear hx2
       try clear qi2
       try clear c5
       try clear c5b0
       try clear c5b1
       try clear c6
       try clear c6b0
       try clear c6b1
       try clear p6
       try clear c8
       try clear c8b0
       try clear c8b1
       try clear c9
       try clear c9b0
       try clear c9b1
       try clear c14
       try clear c14b0
       try clear c14b1
       try clear c15
       try clear c15b0
       try clear c15b1
       try clear c16
       try clear c16b0
       try clear c16b1
       try clear c17
       try clear c17b0
       try clear c18
       try clear c18b0
       try clear c19
       try clear hcz4_0
       try clear hcz4_1
       try clear hcz4_2
       try clear hfz4_0
       try clear hfz4_1
       try clear hfz4_2
       try clear hx241_0
       try clear hx242_0
       try clear hx243_0
       try clear hx244_0
       try clear hx245_0
       try clear p241
       try clear p242
       try clear p243
       try clear p244
       try clear p245
       try clear q241
       try clear q242
       try clear q243
       try clear q244
       try clear q245
       obtain ⟨kq, x53_9, rfl, HA, HJ9, BK237, HB⟩ := hcut
       cases kq with
       | zero => exact absurd HA.out (by simp [kerbsuiteref4_Read.j0])
       | succ kj9 =>
        have H := HA.out
        clear HA
        simp only [kerbsuiteref4_Read.j0] at H
        by_cases c20 : x53_9 = true
        ·subst c20
         have H1 : (some (0, 0, ([] : List Int), 0, 100)) = some (r1, r2, r3, r4, r5) := by rw [if_pos rfl] at H; exact H
         clear H
         have H := H1
         clear H1
         simp only [Option.some.injEq, Prod.mk.injEq] at H
         obtain ⟨rfl, rfl, rfl, rfl, rfl⟩ := H
         have hcz21_0 : wc.cell? ⟨gb237, 0, none⟩ = some (.int .i64 0) := (blk_cell BK237.out 0).trans rfl
         have hcz21_1 : wc.cell? ⟨gb237, 1, none⟩ = some (.int .u64 0) := (blk_cell BK237.out 1).trans rfl
         have hcz21_2 : wc.cell? ⟨gb237, 2, none⟩ = some (.slice none 0 0) := (blk_cell BK237.out 2).trans rfl
         have hfz21_0 := blk_frozen BK237.out 0
         have hfz21_1 := blk_frozen BK237.out 1
         have hfz21_2 := blk_frozen BK237.out 2
         go_wp2
         refine bodyPost_ret (results_ctt rfl _ _ gb237 37 #[.int .i64 0, .int .u64 0, .slice none 0 0] (0, 0) _ rfl (by (with_reducible repeat (first | refine blk_drewN ?_ _ | refine blk_drew ?_ | refine blk_alloc ?_ _)); refine blk_put (cs := #[.int .i64 0, .int .u64 0, .slice none 0 0]) ?_ 2 _ rfl; (with_reducible repeat (first | refine blk_drewN ?_ _ | refine blk_drew ?_ | refine blk_alloc ?_ _)); refine blk_put (cs := #[.int .i64 0, .int .u64 0, .slice none 0 0]) ?_ 1 _ rfl; (with_reducible repeat (first | refine blk_drewN ?_ _ | refine blk_drew ?_ | refine blk_alloc ?_ _)); refine blk_put (cs := #[.int .i64 0, .int .u64 0, .slice none 0 0]) ?_ 0 _ rfl; (with_reducible repeat (first | refine blk_drewN ?_ _ | refine blk_drew ?_ | refine blk_alloc ?_ _)); exact BK237.out) Try.underlying37 rfl (by kernel_rfl)) rfl ?_
         exact ⟨_, by first | rfl | (simp [errW_none, errW_some] <;> rfl) | (simp [*, errW_none, errW_some] <;> rfl), by first | exact Kd.R_nil _ _ _ _ _ | exact Kd.N_nil _ _ _ _ _ | exact Kd.V_nil _ _ _ _ _ | exact Kd.Q_nil _ _ _ _ _ | exact Kd.S_nil _ _ _ _ _, by repeat (first | (with_reducible first | exact HB.out | apply below_alloc | apply pw_below_drewN | apply below_drew1 | refine below_set ?_ GE237.out) | exact HB.out)⟩
        ·replace c20 := Bool.eq_false_iff.mpr c20
         subst c20
         have H1 : (if (l0.length : Int) < (wrap64 (12 + (Go.bits .or .i64 (wrap64 ((wrap64 (rd l0 10)) * 256)) (wrap64 (rd l0 11))))) then (some (0, 0, ([] : List Int), 0, 101)) else (if 1 < (l0.length : Int) then ((some (([] : List Int) : List Int)).bind fun y247 => (if 12 ≤ (wrap64 (12 + (Go.bits .or .i64 (wrap64 ((wrap64 (rd l0 10)) * 256)) (wrap64 (rd l0 11))))) then (if (wrap64 (12 + (Go.bits .or .i64 (wrap64 ((wrap64 (rd l0 10)) * 256)) (wrap64 (rd l0 11))))) ≤ (l0.length : Int) then (if y247.length + ((l0.take ((wrap64 (12 + (Go.bits .or .i64 (wrap64 ((wrap64 (rd l0 10)) * 256)) (wrap64 (rd l0 11))))) : Int).toNat).drop 12).length < 140737488355328 then (some (wrap64 (rd l0 1), t239, (y247 ++ ((l0.take ((wrap64 (12 + (Go.bits .or .i64 (wrap64 ((wrap64 (rd l0 10)) * 256)) (wrap64 (rd l0 11))))) : Int).toNat).drop 12)), wrap64 (12 + (Go.bits .or .i64 (wrap64 ((wrap64 (rd l0 10)) * 256)) (wrap64 (rd l0 11)))), 0)) else (none)) else (none)) else (none))) else (none))) = some (r1, r2, r3, r4, r5) := by rw [if_neg (show ¬ (false = true) by decide)] at H; exact H
         clear H
         have H := H1
         clear H1
         by_cases c22 : (l0.length : Int) < (wrap64 (12 + (Go.bits .or .i64 (wrap64 ((wrap64 (rd l0 10)) * 256)) (wrap64 (rd l0 11)))))
         ·rw [if_pos c22] at H
          have c22b0 : decide ((l0.length : Int) < (wrap64 (12 + (Go.bits .or .i64 (wrap64 ((wrap64 (rd l0 10)) * 256)) (wrap64 (rd l0 11)))))) = true := decide_eq_true c22
          clear c22
          simp only [Option.some.injEq, Prod.mk.injEq] at H
          obtain ⟨rfl, rfl, rfl, rfl, rfl⟩ := H
          have hcz23_0 : wc.cell? ⟨gb237, 0, none⟩ = some (.int .i64 0) := (blk_cell BK237.out 0).trans rfl
          have hcz23_1 : wc.cell? ⟨gb237, 1, none⟩ = some (.int .u64 0) := (blk_cell BK237.out 1).trans rfl
          have hcz23_2 : wc.cell? ⟨gb237, 2, none⟩ = some (.slice none 0 0) := (blk_cell BK237.out 2).trans rfl
          have hfz23_0 := blk_frozen BK237.out 0
          have hfz23_1 := blk_frozen BK237.out 1
          have hfz23_2 := blk_frozen BK237.out 2
          go_wp2
          refine bodyPost_ret (results_ctt rfl _ _ gb237 37 #[.int .i64 0, .int .u64 0, .slice none 0 0] (0, 0) _ rfl (by (with_reducible repeat (first | refine blk_drewN ?_ _ | refine blk_drew ?_ | refine blk_alloc ?_ _)); refine blk_put (cs := #[.int .i64 0, .int .u64 0, .slice none 0 0]) ?_ 2 _ rfl; (with_reducible repeat (first | refine blk_drewN ?_ _ | refine blk_drew ?_ | refine blk_alloc ?_ _)); refine blk_put (cs := #[.int .i64 0, .int .u64 0, .slice none 0 0]) ?_ 1 _ rfl; (with_reducible repeat (first | refine blk_drewN ?_ _ | refine blk_drew ?_ | refine blk_alloc ?_ _)); refine blk_put (cs := #[.int .i64 0, .int .u64 0, .slice none 0 0]) ?_ 0 _ rfl; (with_reducible repeat (first | refine blk_drewN ?_ _ | refine blk_drew ?_ | refine blk_alloc ?_ _)); exact BK237.out) Try.underlying37 rfl (by kernel_rfl)) rfl ?_
          exact ⟨_, by first | rfl | (simp [errW_none, errW_some] <;> rfl) | (simp [*, errW_none, errW_some] <;> rfl), by first | exact Kd.R_nil _ _ _ _ _ | exact Kd.N_nil _ _ _ _ _ | exact Kd.V_nil _ _ _ _ _ | exact Kd.Q_nil _ _ _ _ _ | exact Kd.S_nil _ _ _ _ _, by repeat (first | (with_reducible first | exact HB.out | apply below_alloc | apply pw_below_drewN | apply below_drew1 | refine below_set ?_ GE237.out) | exact HB.out)⟩
         ·rw [if_neg c22] at H
          have c22b0 : decide ((l0.length : Int) < (wrap64 (12 + (Go.bits .or .i64 (wrap64 ((wrap64 (rd l0 10)) * 256)) (wrap64 (rd l0 11)))))) = false := decide_eq_false c22
          clear c22
          by_cases c24 : 1 < (l0.length : Int)
          ·rw [if_pos c24] at H
           have c24b0 : decide (1 < (l0.length : Int)) = true := decide_eq_true c24
           have c24b1 : decide (1 < l0.length) = true := decide_eq_true (by omega)
           clear c24
           obtain ⟨y247, hy247⟩ : ∃ y_ : List Int, y_ = (([] : List Int)) := ⟨_, rfl⟩
           replace H : (if 12 ≤ (wrap64 (12 + (Go.bits .or .i64 (wrap64 ((wrap64 (rd l0 10)) * 256)) (wrap64 (rd l0 11))))) then (if (wrap64 (12 + (Go.bits .or .i64 (wrap64 ((wrap64 (rd l0 10)) * 256)) (wrap64 (rd l0 11))))) ≤ (l0.length : Int) then (if y247.length + ((l0.take ((wrap64 (12 + (Go.bits .or .i64 (wrap64 ((wrap64 (rd l0 10)) * 256)) (wrap64 (rd l0 11))))) : Int).toNat).drop 12).length < 140737488355328 then (some (wrap64 (rd l0 1), t239, (y247 ++ ((l0.take ((wrap64 (12 + (Go.bits .or .i64 (wrap64 ((wrap64 (rd l0 10)) * 256)) (wrap64 (rd l0 11))))) : Int).toNat).drop 12)), wrap64 (12 + (Go.bits .or .i64 (wrap64 ((wrap64 (rd l0 10)) * 256)) (wrap64 (rd l0 11)))), 0)) else (none)) else (none)) else (none)) = some (r1, r2, r3, r4, r5) := by first | (rw [hy247]; with_reducible exact H) | (have H2_ := (Option.bind_some _ _).symm.trans H; rw [hy247]; with_reducible exact H2_) | (have H2_ := (Option.bind_some _ _).symm.trans H; with_reducible exact H2_) | with_reducible exact H | (rw [hy247]; exact H) | exact H
           have Ny247 := Aside0.mk hy247
           clear hy247
           by_cases c25 : 12 ≤ (wrap64 (12 + (Go.bits .or .i64 (wrap64 ((wrap64 (rd l0 10)) * 256)) (wrap64 (rd l0 11)))))
           ·rw [if_pos c25] at H
            have c25b0 := eq_true c25
            have c25b1 : decide (12 ≤ (wrap64 (12 + (Go.bits .or .i64 (wrap64 ((wrap64 (rd l0 10)) * 256)) (wrap64 (rd l0 11)))))) = true := decide_eq_true c25
            by_cases c26 : (wrap64 (12 + (Go.bits .or .i64 (wrap64 ((wrap64 (rd l0 10)) * 256)) (wrap64 (rd l0 11))))) ≤ (l0.length : Int)
            ·rw [if_pos c26] at H
             have c26b0 := eq_true c26
             have c26b1 : decide ((wrap64 (12 + (Go.bits .or .i64 (wrap64 ((wrap64 (rd l0 10)) * 256)) (wrap64 (rd l0 11))))) ≤ (l0.length : Int)) = true := decide_eq_true c26
             by_cases c27 : y247.length + ((l0.take ((wrap64 (12 + (Go.bits .or .i64 (wrap64 ((wrap64 (rd l0 10)) * 256)) (wrap64 (rd l0 11))))) : Int).toNat).drop 12).length < 140737488355328
             ·rw [if_pos c27] at H
              have LMc27 := Aside0.mk c27
              clear c27
              obtain ⟨y251, hy251⟩ : ∃ y_ : List Int, y_ = (y247 ++ ((l0.take ((wrap64 (12 + (Go.bits .or .i64 (wrap64 ((wrap64 (rd l0 10)) * 256)) (wrap64 (rd l0 11))))) : Int).toNat).drop 12)) := ⟨_, rfl⟩
              replace H : (some (wrap64 (rd l0 1), t239, y251, wrap64 (12 + (Go.bits .or .i64 (wrap64 ((wrap64 (rd l0 10)) * 256)) (wrap64 (rd l0 11)))), 0)) = some (r1, r2, r3, r4, r5) := by first | (rw [hy251]; with_reducible exact H) | (have H2_ := (Option.bind_some _ _).symm.trans H; rw [hy251]; with_reducible exact H2_) | (have H2_ := (Option.bind_some _ _).symm.trans H; with_reducible exact H2_) | with_reducible exact H | (rw [hy251]; exact H) | exact H
              have Ny251 := Aside0.mk hy251
              clear hy251
              simp only [Option.some.injEq, Prod.mk.injEq] at H
              obtain ⟨rfl, rfl, rfl, rfl, rfl⟩ := H
              try go_wp2
              have n0_ := Aside0.mk (blk_drew BK237.out)
              have n1_ := Aside0.mk (below_drew1 HB.out)
              clear BK237
              clear HB
              have BK237 := n0_
              have HB := n1_
              clear n0_ n1_
              have p246 : 0 ≤ (1 : Int) := (by omega)
              have q246 : 1 < (l0.length : Int) := of_decide_eq_true (by first | (with_reducible assumption) | assumption)
              obtain ⟨ad246, e246, hx246_0⟩ := Kd.at_int HR0.out 1 p246 q246
              have hw246_0 := hx246_0
              (try rw [show ((1 : Int)).toNat = 1 from rfl] at hw246_0)
              (try rw [show 1 * 1 = 1 from rfl] at hw246_0)
              (try simp only [Nat.reduceMul, Nat.reduceEqDiff, Go.Addr.add, ↓reduceIte] at hw246_0)
              obtain rfl : ad241 = ad246 := (by injection e246)
              (try simp only [show (1 : Int).toNat = 1 from rfl, Nat.reduceMul, Nat.reduceEqDiff, Go.Addr.add, ↓reduceIte] at hx246_0)
              have qi246 : (1 < l0.length) = True := eq_true (by omega)
              (try rw [show ((1 : Int)).toNat = 1 from rfl] at hx246_0)
              replace hx246_0 := (HB.out.cell (World.block_lt_of_cell? w _ hx246_0)).trans hx246_0
              replace p246 := eq_true p246
              replace q246 := eq_true q246
              obtain ⟨i029, hi029, _, hsz29, _⟩ := info_parts info5
              obtain ⟨A29, hcut29, hA29, hC29⟩ := print_mid_of (P := Try.prog) (Value.int .u8) 0 24 5 .i64 .i64 Try.underlying24 hi029 hsz29 (some ad241) c0 l0 12 (wrap64 (12 + (Go.bits .or .i64 (wrap64 ((wrap64 (rd l0 10)) * 256)) (wrap64 (rd l0 11))))) (by omega) (by first | omega | exact of_decide_eq_true (by first | (with_reducible assumption) | assumption)) (of_decide_eq_true (by first | (with_reducible assumption) | assumption)) HC0.out
              have HR250 := Aside0.mk (Kd.C_of_reads (h1 := fun _ => rfl) (hA29 _ (Kd.reads_of_C HR0.out)))
              have HC250 := Aside0.mk hC29
              clear hA29 hC29 hi029 hsz29
              refine start_ (n := 17) (S := fun w' => w'.cell? ⟨ad241.block, ad241.off + 1, none⟩ = some (.int .u8 (rd l0 1))) (ds := []) #[false,false,false,false,false,false,false,false,false,false,false,false,false,false,false,false,false] (by kernel_rfl) rfl rfl (((HB.out.cell (World.block_lt_of_cell? w _ hw246_0)).trans hw246_0)) (fun hHeld => ?_); refine with_tabW kerbsuiteref4_Read.tab9 kerbsuiteref4_Read.bits9 (fun HT_ HW_ => ?_)
              generalize wc.drew = w28 at BK237 HB HR250 hx246_0 hHeld ⊢
              refine pure_ (i := 0) (N := some 61) (v := ?_) (a' := ?_) (bo_ 17 1) rfl rfl (any_of HT_.out (by kernel_rfl)) (fun _ _ _ h => h) (Or.inl ⟨by rfl, ?_⟩) ?_ ?_
              rotate_left; (· intro w'; go_simp; with_reducible rfl)
              rotate_left; (· simp only [Act.put,List.setIfInBounds_toArray,List.set_cons_zero,List.set_cons_succ,i64_w,i32_w]; rfl)
              refine pure_ (i := 1) (N := some 62) (v := ?_) (a' := ?_) (bo_ 17 3) rfl rfl (any_of HT_.out (by kernel_rfl)) (fun _ _ _ h => h) (Or.inl ⟨by rfl, ?_⟩) ?_ ?_
              rotate_left; (· intro w'; go_simp; with_reducible rfl)
              rotate_left; (· simp only [Act.put,List.setIfInBounds_toArray,List.set_cons_zero,List.set_cons_succ,i64_w,i32_w]; rfl)
              refine pure_ (i := 4) (N := some 65) (v := ?_) (a' := ?_) (bo_ 17 19) rfl rfl (any_of HT_.out (by kernel_rfl)) (fun _ _ _ h => h) (Or.inl ⟨by rfl, ?_⟩) ?_ ?_
              rotate_left; (· intro w'; go_simp; with_reducible rfl)
              rotate_left; (· simp only [Act.put,List.setIfInBounds_toArray,List.set_cons_zero,List.set_cons_succ,i64_w,i32_w]; rfl)
              refine pure_ (i := 6) (N := some 67) (v := ?_) (a' := ?_) (bo_ 17 83) rfl rfl (any_of HT_.out (by kernel_rfl)) (fun _ _ _ h => h) (Or.inl ⟨by rfl, ?_⟩) ?_ ?_
              rotate_left; (· intro w'; go_simp; with_reducible rfl)
              rotate_left; (· simp only [Act.put,List.setIfInBounds_toArray,List.set_cons_zero,List.set_cons_succ,i64_w,i32_w]; rfl)
              refine pure_ (i := 7) (N := some 68) (v := ?_) (a' := ?_) (bo_ 17 211) rfl rfl (any_of HT_.out (by kernel_rfl)) (fun _ _ _ h => h) (Or.inl ⟨by rfl, ?_⟩) ?_ ?_
              rotate_left; (· intro w'; go_simp; with_reducible rfl)
              rotate_left; (· simp only [Act.put,List.setIfInBounds_toArray,List.set_cons_zero,List.set_cons_succ,i64_w,i32_w]; rfl)
              refine pure_ (i := 8) (N := some 69) (v := ?_) (a' := ?_) (bo_ 17 467) rfl rfl (any_of HT_.out (by kernel_rfl)) (fun _ _ _ h => h) (Or.inl ⟨by rfl, ?_⟩) ?_ ?_
              rotate_left; (· intro w'; go_simp; with_reducible rfl)
              rotate_left; (· simp only [Act.put,List.setIfInBounds_toArray,List.set_cons_zero,List.set_cons_succ,i64_w,i32_w]; rfl)
              refine pure_ (i := 9) (N := some 70) (v := ?_) (a' := ?_) (bo_ 17 979) rfl rfl (any_of HT_.out (by kernel_rfl)) (fun _ _ _ h => h) (Or.inl ⟨by rfl, ?_⟩) ?_ ?_
              rotate_left; (· intro w'; go_simp; with_reducible rfl)
              rotate_left; (· simp only [Act.put,List.setIfInBounds_toArray,List.set_cons_zero,List.set_cons_succ,i64_w,i32_w]; rfl)
              refine pure_ (i := 12) (N := some 73) (v := ?_) (a' := ?_) (bo_ 17 5075) rfl rfl (any_of HT_.out (by kernel_rfl)) (fun _ _ _ h => h) (Or.inl ⟨by rfl, ?_⟩) ?_ ?_
              rotate_left; (· intro w'; go_simp; with_reducible rfl)
              rotate_left; (· simp only [Act.put,List.setIfInBounds_toArray,List.set_cons_zero,List.set_cons_succ,i64_w,i32_w]; rfl)
              refine pure_ (i := 13) (N := some 74) (v := ?_) (a' := ?_) (bo_ 17 13267) rfl rfl (any_of HT_.out (by kernel_rfl)) (fun _ _ _ h => h) (Or.inl ⟨by rfl, ?_⟩) ?_ ?_
              rotate_left; (· intro w'; go_simp; with_reducible rfl)
              rotate_left; (· simp only [Act.put,List.setIfInBounds_toArray,List.set_cons_zero,List.set_cons_succ,i64_w,i32_w]; rfl)
              refine take_ (i := 2) (N := some 63) (v := ?_) (a' := ?_) (bo_ 17 13271) rfl rfl (take_ofW HT_.out HW_.out (by kernel_rfl)) (fun _ _ _ h => h) (Or.inl ⟨by rfl, ?_⟩) hHeld ?_ ?_
              rotate_left
              ·intro w' s0
               go_simp
               with_reducible rfl
              rotate_left; (· simp only [Act.put,List.setIfInBounds_toArray,List.set_cons_zero,List.set_cons_succ,i64_w,i32_w]; rfl)
              refine pure_ (i := 3) (N := some 64) (v := ?_) (a' := ?_) (bo_ 17 13279) rfl rfl (any_of HT_.out (by kernel_rfl)) (fun _ _ _ h => h) (Or.inl ⟨by rfl, ?_⟩) ?_ ?_
              rotate_left; (· intro w'; go_simp; with_reducible rfl)
              rotate_left; (· simp only [Act.put,List.setIfInBounds_toArray,List.set_cons_zero,List.set_cons_succ,i64_w,i32_w]; rfl)
              refine one_ (i := 5) (N := some 66) (bo_ 17 13311) rfl rfl (one_of HT_.out (by kernel_rfl)) (by decide) (fun K hK => ?_)
              refine Kd.R_lit_step (Kd.int .u8) _ 5 ?hg (N := 66) ?hd (xs := ([] : List Int)) (inner := []) (ok := fun _ => True) (okp := fun _ => True) ?hr ?hp (fun _ hk => hk) trivial (Below.refl _ _) (Nat.le_refl _) (by simp) ?_; (case hd => rfl); (case hg => rfl); (case hr => first | (go_simp; done) | (go_simp; rfl)); (case hp => exact (Reps.none _ _))
              intro v248 w30 ho31 hb hg_ hnew_
              clear hg_ hnew_
              (first | rw [← Ny247.out] at ho31 | (simp only [Int.reduceToNat] at ho31; rw [← Ny247.out] at ho31))
              have n0_ := Aside0.mk (Kd.R_lower ho31 (below_size (by repeat (first | (with_reducible first | exact HB.out | apply below_alloc | apply pw_below_drewN | apply below_drew1 | refine below_set ?_ GE237.out) | exact HB.out))))
              have n1_ := Aside0.mk (blk_below (g := gb237) (o := .cells #[.int .i64 0, .int .u64 0, .slice none 0 0] 37 (0, 0)) (by (with_reducible repeat (first | refine blk_drewN ?_ _ | refine blk_drew ?_ | refine blk_alloc ?_ _)); exact BK237.out) hb)
              have n2_ := Aside0.mk (below_step (by repeat (first | (with_reducible first | exact HB.out | apply below_alloc | apply pw_below_drewN | apply below_drew1 | refine below_set ?_ GE237.out) | exact HB.out)) hb)
              clear BK237
              clear HB
              have HO249 := n0_
              have BK237 := n1_
              have HB := n2_
              clear n0_ n1_ n2_
              clear hb ho31
              refine hK.out _ _ (((HB.out.cell (World.block_lt_of_cell? w _ hw246_0)).trans hw246_0)) (fun hHeld => ?_)
              clear hK K
              refine norm_ (a' := ?_) ?_ ?_
              rotate_left; (· show Act.put _ (some 66) _ = _; simp only [Act.put,List.setIfInBounds_toArray,List.set_cons_zero,List.set_cons_succ,i64_w,i32_w]; rfl)
              refine one_ (i := 10) (N := some 71) (bo_ 17 14335) rfl rfl (one_of HT_.out (by kernel_rfl)) (by decide) (fun K hK => ?_)
              refine Kd.R_append_rows_step (Kd.int .u8) (w0 := w) w.heap.size (by rfl) (.tmp 66) (.tmp 70) 24 5 (.int .u8 0) 1 rfl Try.underlying24 info5 rfl (by decide) (by omega) v248 y247 ((l0.take ((wrap64 (12 + (Go.bits .or .i64 (wrap64 ((wrap64 (rd l0 10)) * 256)) (wrap64 (rd l0 11))))) : Int).toNat).drop 12) _ _ _ (fun _ => True) (fun _ => False) rfl rfl ?aO ?aR (fun _ _ h => h) (fun _ h => h.elim) ?aF ?aB ?aS ?aL ?_
              (case aR => first | (rw [← show ((l0.take ((wrap64 (12 + (Go.bits .or .i64 (wrap64 ((wrap64 (rd l0 10)) * 256)) (wrap64 (rd l0 11))))) : Int).toNat).drop 12).length = ((wrap64 (12 + (Go.bits .or .i64 (wrap64 ((wrap64 (rd l0 10)) * 256)) (wrap64 (rd l0 11))))).toNat - 12) from (by rw [List.length_drop, List.length_take]; have h_ : ((wrap64 (12 + (Go.bits .or .i64 (wrap64 ((wrap64 (rd l0 10)) * 256)) (wrap64 (rd l0 11))))) : Int) ≤ (l0.length : Int) := of_decide_eq_true (by first | (with_reducible assumption) | assumption); omega)]; repeat (first | exact (Kd.C_below HR250.out HB.out) | (with_reducible refine Kd.C_alloc ?_ _) | (with_reducible refine Kd.C_drewN ?_ _) | (with_reducible refine Kd.C_drew ?_))) | (repeat (first | exact (Kd.C_below HR250.out HB.out) | (with_reducible refine Kd.C_alloc ?_ _) | (with_reducible refine Kd.C_drewN ?_ _) | (with_reducible refine Kd.C_drew ?_))))
              (case aB => exact (by repeat (first | (with_reducible first | exact HB.out | apply below_alloc | apply pw_below_drewN | apply below_drew1 | refine below_set ?_ GE237.out) | exact HB.out)))
              (case aF => exact (fun _ _ => trivial))
              (case aO => exact (by (with_reducible repeat (first | apply Kd.R_alloc | apply Kd.R_drewN | apply Kd.R_drew)); exact HO249.out))
              (case aS => exact (below_size (by repeat (first | (with_reducible first | exact HB.out | apply below_alloc | apply pw_below_drewN | apply below_drew1 | refine below_set ?_ GE237.out) | exact HB.out))))
              (case aL => have := LMc27.out; have hlx_ := (show ((l0.take ((wrap64 (12 + (Go.bits .or .i64 (wrap64 ((wrap64 (rd l0 10)) * 256)) (wrap64 (rd l0 11))))) : Int).toNat).drop 12).length = ((wrap64 (12 + (Go.bits .or .i64 (wrap64 ((wrap64 (rd l0 10)) * 256)) (wrap64 (rd l0 11))))).toNat - 12) from (by rw [List.length_drop, List.length_take]; have h_ : ((wrap64 (12 + (Go.bits .or .i64 (wrap64 ((wrap64 (rd l0 10)) * 256)) (wrap64 (rd l0 11))))) : Int) ≤ (l0.length : Int) := of_decide_eq_true (by first | (with_reducible assumption) | assumption); omega)); omega)
              intro v252 w32 ho hb hg hat
              rw [← Ny251.out] at ho
              have n0_ := Aside0.mk (blk_grown (g := gb237) (o := .cells #[.int .i64 0, .int .u64 0, .slice none 0 0] 37 (0, 0)) (by (with_reducible repeat (first | refine blk_drewN ?_ _ | refine blk_drew ?_ | refine blk_alloc ?_ _)); exact BK237.out) hg (Kd.R_ne HO249.out BK237.out (by decide)))
              have n1_ := Aside0.mk (hb)
              have n2_ := Aside0.mk (ho)
              clear BK237
              clear HB
              clear HO249
              have BK237 := n0_
              have HB := n1_
              have HO253 := n2_
              clear n0_ n1_ n2_
              clear ho hb hg hat
              obtain ⟨Ao33, co33, eo33⟩ := Kd.R_slice HO253.out
              (first | subst eo33 | (injection eo33 with f1_ f2_ f3_; have f4_ := f1_.symm; have f5_ := f3_.symm; clear f1_ f2_ f3_; subst f4_; subst f5_))
              refine hK.out _ _ (((HB.out.cell (World.block_lt_of_cell? w _ hw246_0)).trans hw246_0)) (fun hHeld => ?_)
              clear hK K
              refine norm_ (a' := ?_) ?_ ?_
              rotate_left; (· show Act.put _ (some 71) _ = _; simp only [Act.put,List.setIfInBounds_toArray,List.set_cons_zero,List.set_cons_succ,i64_w,i32_w]; rfl)
              refine pure_ (i := 11) (N := some 72) (v := ?_) (a' := ?_) (bo_ 17 16383) rfl rfl (any_of HT_.out (by kernel_rfl)) (fun _ _ _ h => h) (Or.inl ⟨by rfl, ?_⟩) ?_ ?_
              rotate_left; (· intro w'; go_simp; with_reducible rfl)
              rotate_left; (· simp only [Act.put,List.setIfInBounds_toArray,List.set_cons_zero,List.set_cons_succ,i64_w,i32_w]; rfl)
              refine one_ (i := 14) (N := none) (bo_ 17 32767) rfl rfl (one_of HT_.out (by kernel_rfl)) (by decide) (fun K hK => ?_)
              have hs34 : w32.cell? ⟨gb237, 0, none⟩ = some (.int .i64 0) := (blk_cell BK237.out 0).trans rfl
              have hfs34 := blk_frozen BK237.out 0
              have hs35 : w32.cell? ⟨gb237, 1, none⟩ = some (.int .u64 0) := (blk_cell BK237.out 1).trans rfl
              have hfs35 := blk_frozen BK237.out 1
              have hs36 : w32.cell? ⟨gb237, 2, none⟩ = some (.slice none 0 0) := (blk_cell BK237.out 2).trans rfl
              have hfs36 := blk_frozen BK237.out 2
              refine skip_ (w1 := ?_) (by rfl) rfl ?_ ?_
              rotate_left; (· go_simp; rfl)
              refine hK.out _ _ (((cell_far (p := ⟨gb237, _, none⟩) (by first | exact Nat.ne_of_lt (Nat.lt_of_lt_of_le (by have := World.block_lt_of_cell? _ _ hw246_0; first | rwa [add_block] at this | exact this) GW237.out) | (rw [add_block]; exact Nat.ne_of_lt (Nat.lt_of_lt_of_le (by have := World.block_lt_of_cell? _ _ hw246_0; first | rwa [add_block] at this | exact this) GW237.out)) | (show (Addr.add _ _).block ≠ _; rw [add_block]; exact Nat.ne_of_lt (Nat.lt_of_lt_of_le (by have := World.block_lt_of_cell? _ _ hw246_0; first | rwa [add_block] at this | exact this) GW237.out)) | (dsimp only; exact Nat.ne_of_lt (Nat.lt_of_lt_of_le (by have := World.block_lt_of_cell? _ _ hw246_0; first | rwa [add_block] at this | exact this) GW237.out))) _).trans (((cell_far (p := ⟨gb237, _, none⟩) (by first | exact Nat.ne_of_lt (Nat.lt_of_lt_of_le (by have := World.block_lt_of_cell? _ _ hw246_0; first | rwa [add_block] at this | exact this) GW237.out) | (rw [add_block]; exact Nat.ne_of_lt (Nat.lt_of_lt_of_le (by have := World.block_lt_of_cell? _ _ hw246_0; first | rwa [add_block] at this | exact this) GW237.out)) | (show (Addr.add _ _).block ≠ _; rw [add_block]; exact Nat.ne_of_lt (Nat.lt_of_lt_of_le (by have := World.block_lt_of_cell? _ _ hw246_0; first | rwa [add_block] at this | exact this) GW237.out)) | (dsimp only; exact Nat.ne_of_lt (Nat.lt_of_lt_of_le (by have := World.block_lt_of_cell? _ _ hw246_0; first | rwa [add_block] at this | exact this) GW237.out))) _).trans (((cell_far (p := ⟨gb237, _, none⟩) (by first | exact Nat.ne_of_lt (Nat.lt_of_lt_of_le (by have := World.block_lt_of_cell? _ _ hw246_0; first | rwa [add_block] at this | exact this) GW237.out) | (rw [add_block]; exact Nat.ne_of_lt (Nat.lt_of_lt_of_le (by have := World.block_lt_of_cell? _ _ hw246_0; first | rwa [add_block] at this | exact this) GW237.out)) | (show (Addr.add _ _).block ≠ _; rw [add_block]; exact Nat.ne_of_lt (Nat.lt_of_lt_of_le (by have := World.block_lt_of_cell? _ _ hw246_0; first | rwa [add_block] at this | exact this) GW237.out)) | (dsimp only; exact Nat.ne_of_lt (Nat.lt_of_lt_of_le (by have := World.block_lt_of_cell? _ _ hw246_0; first | rwa [add_block] at this | exact this) GW237.out))) _).trans (hHeld))))))) (fun hHeld => ?_)
              clear hK K
              refine pure_ (i := 15) (N := some 3) (v := ?_) (a' := ?_) (bo_ 17 65535) rfl rfl (any_of HT_.out (by kernel_rfl)) (fun _ _ _ h => h) (Or.inl ⟨by rfl, ?_⟩) ?_ ?_
              rotate_left; (· intro w'; go_simp; with_reducible rfl)
              rotate_left; (· simp only [Act.put,List.setIfInBounds_toArray,List.set_cons_zero,List.set_cons_succ,i64_w,i32_w]; rfl)
              refine pure_ (i := 16) (N := some 4) (v := ?_) (a' := ?_) (bo_ 17 131071) rfl rfl (any_of HT_.out (by kernel_rfl)) (fun _ _ _ h => h) (Or.inl ⟨by rfl, ?_⟩) ?_ ?_
              rotate_left; (· intro w'; go_simp; with_reducible rfl)
              rotate_left; (· simp only [Act.put,List.setIfInBounds_toArray,List.set_cons_zero,List.set_cons_succ,i64_w,i32_w]; rfl)
              refine done_ (done_of HT_.out (by kernel_rfl)) ?_
              try go_wp2
              refine bodyPost_ret (results_ctt rfl _ _ gb237 37 #[.int .i64 (wrap64 (rd l0 1)), .int .u64 t239, .slice Ao33 y251.length co33] (0, 0) _ rfl (by (with_reducible repeat (first | refine blk_drewN ?_ _ | refine blk_drew ?_ | refine blk_alloc ?_ _)); refine blk_put (cs := #[.int .i64 (wrap64 (rd l0 1)), .int .u64 t239, .slice none 0 0]) ?_ 2 _ rfl; (with_reducible repeat (first | refine blk_drewN ?_ _ | refine blk_drew ?_ | refine blk_alloc ?_ _)); refine blk_put (cs := #[.int .i64 (wrap64 (rd l0 1)), .int .u64 0, .slice none 0 0]) ?_ 1 _ rfl; (with_reducible repeat (first | refine blk_drewN ?_ _ | refine blk_drew ?_ | refine blk_alloc ?_ _)); refine blk_put (cs := #[.int .i64 0, .int .u64 0, .slice none 0 0]) ?_ 0 _ rfl; (with_reducible repeat (first | refine blk_drewN ?_ _ | refine blk_drew ?_ | refine blk_alloc ?_ _)); exact BK237.out) Try.underlying37 rfl (by kernel_rfl)) rfl ?_
              exact ⟨_, by first | rfl | (simp [errW_none, errW_some] <;> rfl) | (simp [*, errW_none, errW_some] <;> rfl), by (with_reducible repeat (first | apply Kd.R_alloc | apply Kd.R_drewN | apply Kd.R_drew)); exact Kd.R_mono (Kd.R_far (p := ⟨gb237, 2, none⟩) (Kd.R_far (p := ⟨gb237, 1, none⟩) (Kd.R_far (p := ⟨gb237, 0, none⟩) (Kd.R_types HO253.out BK237.out (by decide)) (fun _ hk => hk.2) (.int .i64 (wrap64 (rd l0 1)))) (fun _ hk => hk.2) (.int .u64 t239)) (fun _ hk => hk.2) (.slice Ao33 y251.length co33)) (fun _ hk => trivial), by repeat (first | (with_reducible first | exact HB.out | apply below_alloc | apply pw_below_drewN | apply below_drew1 | refine below_set ?_ GE237.out) | exact HB.out)⟩
             ·rw [if_neg c27] at H
              exact absurd H (by simp)
            ·rw [if_neg c26] at H
             exact absurd H (by simp)
           ·rw [if_neg c25] at H
            exact absurd H (by simp)
          ·rw [if_neg c24] at H
           exact absurd H (by simp)
     ·rw [if_neg c9] at H
      exact absurd H (by simp)
    ·rw [if_neg c8] at H
     exact absurd H (by simp)
   ·rw [if_neg c6] at H
    exact absurd H (by simp)
  ·rw [if_neg c5] at H
   exact absurd H (by simp)

/-! ### kerbsuiteref4_Is: function 18 -/
def kerbsuiteref4_Is.f (k : Nat) (l0 : List Int) : Option (Bool) := (kerbsuiteref4_Read.f k l0).bind fun bt254 => (if bt254.2.2.2.2 = 0 then (some (bt254.2.2.2.1 == (l0.length : Int))) else (some false))
theorem kerbsuiteref4_Is.mono : ∀ a0 k, LeO (kerbsuiteref4_Is.f k a0) (kerbsuiteref4_Is.f (k + 1) a0) := by
 intro a0 k
 unfold kerbsuiteref4_Is.f
 repeat' first
   | (with_reducible exact kerbsuiteref4_Read.mono _ _)
   | (with_reducible exact LeO.refl _)
   | (with_reducible exact LeO.none _)
   | (with_reducible refine LeO.ite ?_ ?_)
   | (with_reducible refine LeO.bind ?_ (fun _ => ?_))
   | exact kerbsuiteref4_Read.mono _ _
   | exact LeO.none _
   | refine LeO.ite ?_ ?_
   | refine LeO.bind ?_ (fun _ => ?_)
set_option maxHeartbeats 8000000 in
set_option maxRecDepth 100000 in
theorem kerbsuiteref4_Is.calls (k : Nat) (A0 : Option Addr) (c0 : Nat) (l0 : List Int) (r : Bool) (w : World) (hr0 : Kd.C (Kd.int .u8) w A0 l0.length l0) (hc0 : l0.length ≤ c0) (h : kerbsuiteref4_Is.f k l0 = some r) :
  Calls Try.prog 18 #[.slice A0 l0.length c0] w fun e w' => e = .returned (.bool r) ∧ Below w.heap.size w w' := by
 have hu37 := Try.underlying37
 have HR0 := Aside0.mk hr0
 have HC0 := Aside0.mk hc0
 clear hr0 hc0
 have HB := Aside0.mk (Below.refl w.heap.size w)
 have H : ((kerbsuiteref4_Read.f k l0).bind fun bt254 => (if bt254.2.2.2.2 = 0 then (some (bt254.2.2.2.1 == (l0.length : Int))) else (some false))) = some r := h
 clear h
 replace H := Option.bind_eq_some_iff.mp H
 obtain ⟨⟨t254, t255, t256, t259, t260⟩, A20, H⟩ := H
 replace H : (if t260 = 0 then (some (t259 == (l0.length : Int))) else (some false)) = some r := H
 have A2 := Aside0.mk A20
 clear A20
 by_cases c3 : t260 = 0
 ·rw [if_pos c3] at H
  have c3b0 : (t260 == 0) = true := beq_iff_eq.mpr c3
  have c3b1 : (t260 != 0) = false := bne_eq_false_iff_eq.mpr c3
  clear c3
  obtain rfl := Option.some.inj H
  go_enter Try.func18, Try.ntmps18
  go_wp2_with (first | ((with_reducible refine gate_callee (f := 16) rfl ?_); refine goesL_ (some 8) rfl rfl Try.func16 (by kernel_rfl) rfl #[.slice A0 l0.length c0] rfl (by (try simp only [List.map_toArray, List.map_cons, List.map_nil]); first | done | rfl | (simp only [List.length_drop, List.length_take]; rfl)) ?_; (with_reducible refine (kerbsuiteref4_Read.calls k _ _ l0 t254 t255 t256 t259 t260 _ ?side1 ?side2 A2.out).mono ?_); (case side1 => repeat (first | exact HR0.out | (with_reducible refine Kd.C_alloc ?_ _) | (with_reducible refine Kd.C_drewN ?_ _) | (with_reducible refine Kd.C_drew ?_))); (case side2 => exact HC0.out); rintro e w4 ⟨v257, rfl, ho0, hb⟩; refine ⟨_, rfl, ?_⟩; have n0_ := Aside0.mk (Kd.R_lower ho0 (below_size (by repeat (first | (with_reducible first | exact HB.out | apply below_alloc | apply pw_below_drewN | apply below_drew1) | exact HB.out)))); have n1_ := Aside0.mk (below_step (by repeat (first | (with_reducible first | exact HB.out | apply below_alloc | apply pw_below_drewN | apply below_drew1) | exact HB.out)) hb); clear HB; have HO258 := n0_; have HB := n1_; clear n0_ n1_; (try clear hb); (try clear hb2); (try clear hk); (try clear hi); (try clear ho0)) | ((with_reducible refine gate_dst (N := 3) rfl ?_); (try (refine gate_guard (by rfl) ?_; dsimp only)); refine box_event ?hg (N := 3) ?hd (cs := #[.int .i64 0, .int .u64 0, .slice none 0 0]) (t := 37) ?hr ?_; (case hd => rfl); (case hg => rfl); (case hr => first | (go_simp; done) | (go_simp; rfl)); intro gb261 hg w5 hbox hb; have n0_ := Aside0.mk (Kd.R_below (by (with_reducible repeat (first | apply Kd.R_alloc | apply Kd.R_drewN | apply Kd.R_drew)); exact HO258.out) hb); have n1_ := Aside0.mk (below_step (by repeat (first | (with_reducible first | exact HB.out | apply below_alloc | apply pw_below_drewN | apply below_drew1) | exact HB.out)) hb); have n2_ := Aside0.mk (hbox); have n3_ := Aside0.mk ((by rw [hg]; exact (below_size (by repeat (first | (with_reducible first | exact HB.out | apply below_alloc | apply pw_below_drewN | apply below_drew1) | exact HB.out))) : w.heap.size ≤ gb261)); have n4_ := Aside0.mk ((by rw [hg]; exact (below_size (by repeat (first | (with_reducible first | exact HB.out | apply below_alloc | apply pw_below_drewN | apply below_drew1) | exact HB.out))) : w.heap.size ≤ gb261)); clear HO258; clear HB; have HO258 := n0_; have HB := n1_; have BK261 := n2_; have GW261 := n3_; have GE261 := n4_; clear n0_ n1_ n2_ n3_ n4_; clear hb hbox hg; have hcz6_0 : w5.cell? ⟨gb261, 0, none⟩ = some (.int .i64 0) := (blk_cell BK261.out 0).trans rfl; have hcz6_1 : w5.cell? ⟨gb261, 1, none⟩ = some (.int .u64 0) := (blk_cell BK261.out 1).trans rfl; have hcz6_2 : w5.cell? ⟨gb261, 2, none⟩ = some (.slice none 0 0) := (blk_cell BK261.out 2).trans rfl; have hfz6_0 := blk_frozen BK261.out 0; have hfz6_1 := blk_frozen BK261.out 1; have hfz6_2 := blk_frozen BK261.out 2; obtain ⟨Ao7, co7, eo7⟩ := Kd.R_slice HO258.out; subst eo7))
  go_ret
  exact ⟨by first | rfl | (simp [errW_none, errW_some] <;> rfl) | (simp [*, errW_none, errW_some] <;> rfl), by repeat (first | (with_reducible first | exact HB.out | apply below_alloc | apply pw_below_drewN | apply below_drew1 | refine below_set ?_ GE261.out) | exact HB.out)⟩
 ·rw [if_neg c3] at H
  have c3b0 : (t260 == 0) = false := beq_eq_false_iff_ne.mpr c3
  have c3b1 : (t260 != 0) = true := bne_iff_ne.mpr c3
  obtain rfl := Option.some.inj H
  go_enter Try.func18, Try.ntmps18
  go_wp2_with (first | ((with_reducible refine gate_callee (f := 16) rfl ?_); refine goesL_ (some 8) rfl rfl Try.func16 (by kernel_rfl) rfl #[.slice A0 l0.length c0] rfl (by (try simp only [List.map_toArray, List.map_cons, List.map_nil]); first | done | rfl | (simp only [List.length_drop, List.length_take]; rfl)) ?_; (with_reducible refine (kerbsuiteref4_Read.calls k _ _ l0 t254 t255 t256 t259 t260 _ ?side1 ?side2 A2.out).mono ?_); (case side1 => repeat (first | exact HR0.out | (with_reducible refine Kd.C_alloc ?_ _) | (with_reducible refine Kd.C_drewN ?_ _) | (with_reducible refine Kd.C_drew ?_))); (case side2 => exact HC0.out); rintro e w8 ⟨v257, rfl, ho0, hb⟩; refine ⟨_, rfl, ?_⟩; have n0_ := Aside0.mk (Kd.R_lower ho0 (below_size (by repeat (first | (with_reducible first | exact HB.out | apply below_alloc | apply pw_below_drewN | apply below_drew1) | exact HB.out)))); have n1_ := Aside0.mk (below_step (by repeat (first | (with_reducible first | exact HB.out | apply below_alloc | apply pw_below_drewN | apply below_drew1) | exact HB.out)) hb); clear HB; have HO258 := n0_; have HB := n1_; clear n0_ n1_; (try clear hb); (try clear hb2); (try clear hk); (try clear hi); (try clear ho0)) | ((with_reducible refine gate_dst (N := 3) rfl ?_); (try (refine gate_guard (by rfl) ?_; dsimp only)); refine box_event ?hg (N := 3) ?hd (cs := #[.int .i64 0, .int .u64 0, .slice none 0 0]) (t := 37) ?hr ?_; (case hd => rfl); (case hg => rfl); (case hr => first | (go_simp; done) | (go_simp; rfl)); intro gb261 hg w9 hbox hb; have n0_ := Aside0.mk (Kd.R_below (by (with_reducible repeat (first | apply Kd.R_alloc | apply Kd.R_drewN | apply Kd.R_drew)); exact HO258.out) hb); have n1_ := Aside0.mk (below_step (by repeat (first | (with_reducible first | exact HB.out | apply below_alloc | apply pw_below_drewN | apply below_drew1) | exact HB.out)) hb); have n2_ := Aside0.mk (hbox); have n3_ := Aside0.mk ((by rw [hg]; exact (below_size (by repeat (first | (with_reducible first | exact HB.out | apply below_alloc | apply pw_below_drewN | apply below_drew1) | exact HB.out))) : w.heap.size ≤ gb261)); have n4_ := Aside0.mk ((by rw [hg]; exact (below_size (by repeat (first | (with_reducible first | exact HB.out | apply below_alloc | apply pw_below_drewN | apply below_drew1) | exact HB.out))) : w.heap.size ≤ gb261)); clear HO258; clear HB; have HO258 := n0_; have HB := n1_; have BK261 := n2_; have GW261 := n3_; have GE261 := n4_; clear n0_ n1_ n2_ n3_ n4_; clear hb hbox hg; have hcz10_0 : w9.cell? ⟨gb261, 0, none⟩ = some (.int .i64 0) := (blk_cell BK261.out 0).trans rfl; have hcz10_1 : w9.cell? ⟨gb261, 1, none⟩ = some (.int .u64 0) := (blk_cell BK261.out 1).trans rfl; have hcz10_2 : w9.cell? ⟨gb261, 2, none⟩ = some (.slice none 0 0) := (blk_cell BK261.out 2).trans rfl; have hfz10_0 := blk_frozen BK261.out 0; have hfz10_1 := blk_frozen BK261.out 1; have hfz10_2 := blk_frozen BK261.out 2; obtain ⟨Ao11, co11, eo11⟩ := Kd.R_slice HO258.out; subst eo11))
  go_ret
  exact ⟨by first | rfl | (simp [errW_none, errW_some] <;> rfl) | (simp [*, errW_none, errW_some] <;> rfl), by repeat (first | (with_reducible first | exact HB.out | apply below_alloc | apply pw_below_drewN | apply below_drew1 | refine below_set ?_ GE261.out) | exact HB.out)⟩

end Go.Proofs.Ytchbnlcalcmdlaa.PBox
