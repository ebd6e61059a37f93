/- The walks of functions of the translation: each call returns what the plain function beside it says. -/
import Derived.Test.YthfdfoigoomaoaaDoorPDbx0
import Derived.Test.YthfdfoigoomaoaaDoorPDbx9
namespace Go.Proofs.YthfdfoigoomaoaaDoor.PDb
open Go.RowKit Go.Proofs.YthfdfoigoomaoaaDoorW.PrintWords Go.Proofs.YthfdfoigoomaoaaDoorW.PrintLast Go.Proofs.YthfdfoigoomaoaaDoorW.PrintMore Go.Proofs.YthfdfoigoomaoaaDoor.Aid
attribute [local go_sem] max2_int min2_int max_two min_two max_three min_three max_four min_four aid_str_gtr aid_str_leq   -- for this text's walks alone
set_option linter.unusedVariables false
set_option linter.unusedSimpArgs false

/-! ### kerbsuiteref12_use: function 48 -/
def kerbsuiteref12_use.j0 : Nat → Int → Int → Int → Int → Bool → ByteArray → ByteArray → Int → Int → Int → Int → Int → Int → Int → Option (Int × Int)
 | 0, _, _, _, _, _, _, _, _, _, _, _, _, _, _ => none
 | k + 1, x4, x5, x6, x16, x46, x283000, x283001, x283002, x283003, x283004, x283005, x283006, x283007, x283008 => if x46 = true then (some (0, x5)) else (if (Go.bits .and .i64 x283006 x4) = 0 then (some (x16, 0)) else (some (0, x6)))
def kerbsuiteref12_use.f (k : Nat) (a0_0 : ByteArray) (l0_1 : List (S35)) (a1 : ByteArray) (a2 : ByteArray) (a3 : Int) (a4 : Int) (a5 : Int) (a6 : Int) : Option (Int × Int) := (kerbsuiteref12_Find.f k a0_0 l0_1 a1 a2).bind fun bt279 => (if bt279.2 = 0 then (if 0 ≤ bt279.1 then (if bt279.1 < (l0_1.length : Int) then ((kerbsuiteref3_Valid.f ((rd_T35 l0_1 bt279.1).f2)).bind fun t283 => (if t283 = true then (if ((rd_T35 l0_1 bt279.1).f4) = 0 then (kerbsuiteref12_use.j0 k a4 a5 a6 bt279.1 false ((rd_T35 l0_1 bt279.1).f0) ((rd_T35 l0_1 bt279.1).f1) ((rd_T35 l0_1 bt279.1).f2) ((rd_T35 l0_1 bt279.1).f3) ((rd_T35 l0_1 bt279.1).f4) ((rd_T35 l0_1 bt279.1).f5) ((rd_T35 l0_1 bt279.1).f6) ((rd_T35 l0_1 bt279.1).f7) ((rd_T35 l0_1 bt279.1).f8)) else (kerbsuiteref12_use.j0 k a4 a5 a6 bt279.1 (decide (((rd_T35 l0_1 bt279.1).f4) ≤ a3)) ((rd_T35 l0_1 bt279.1).f0) ((rd_T35 l0_1 bt279.1).f1) ((rd_T35 l0_1 bt279.1).f2) ((rd_T35 l0_1 bt279.1).f3) ((rd_T35 l0_1 bt279.1).f4) ((rd_T35 l0_1 bt279.1).f5) ((rd_T35 l0_1 bt279.1).f6) ((rd_T35 l0_1 bt279.1).f7) ((rd_T35 l0_1 bt279.1).f8))) else (some (0, 10)))) else (none)) else (none)) else (some (0, bt279.2)))
theorem kerbsuiteref12_use.mono_l : ∀ k, (∀ y0 y1 y2 y3 y4 y5 y6 y7 y8 y9 y10 y11 y12 y13, LeO (kerbsuiteref12_use.j0 k y0 y1 y2 y3 y4 y5 y6 y7 y8 y9 y10 y11 y12 y13) (kerbsuiteref12_use.j0 (k + 1) y0 y1 y2 y3 y4 y5 y6 y7 y8 y9 y10 y11 y12 y13))
 | 0 => fun _ _ _ _ _ _ _ _ _ _ _ _ _ _ r h => by simp [kerbsuiteref12_use.j0] at h
 | k + 1 => by
  have ih0 := kerbsuiteref12_use.mono_l k
  intro y0 y1 y2 y3 y4 y5 y6 y7 y8 y9 y10 y11 y12 y13
  unfold kerbsuiteref12_use.j0
  repeat' first
  | (with_reducible exact ih0 _ _ _ _ _ _ _ _ _ _ _ _ _ _)
  | (with_reducible exact kerbsuiteref12_Find.mono _ _ _ _ _)
  | (with_reducible exact LeO.refl _)
  | (with_reducible exact LeO.none _)
  | (with_reducible refine LeO.ite ?_ ?_)
  | (with_reducible refine LeO.bind ?_ (fun _ => ?_))
  | exact ih0 _ _ _ _ _ _ _ _ _ _ _ _ _ _
  | exact kerbsuiteref12_Find.mono _ _ _ _ _
  | exact LeO.none _
  | refine LeO.ite ?_ ?_
  | refine LeO.bind ?_ (fun _ => ?_)
theorem kerbsuiteref12_use.mono : ∀ a0 a1 a2 a3 a4 a5 a6 a7 k, LeO (kerbsuiteref12_use.f k a0 a1 a2 a3 a4 a5 a6 a7) (kerbsuiteref12_use.f (k + 1) a0 a1 a2 a3 a4 a5 a6 a7) := by
 intro a0 a1 a2 a3 a4 a5 a6 a7 k
 have ih0 := kerbsuiteref12_use.mono_l k
 unfold kerbsuiteref12_use.f
 repeat' first
   | (with_reducible exact ih0 _ _ _ _ _ _ _ _ _ _ _ _ _ _)
   | (with_reducible exact kerbsuiteref12_Find.mono _ _ _ _ _)
   | (with_reducible exact LeO.refl _)
   | (with_reducible exact LeO.none _)
   | (with_reducible refine LeO.ite ?_ ?_)
   | (with_reducible refine LeO.bind ?_ (fun _ => ?_))
   | exact ih0 _ _ _ _ _ _ _ _ _ _ _ _ _ _
   | exact kerbsuiteref12_Find.mono _ _ _ _ _
   | exact LeO.none _
   | refine LeO.ite ?_ ?_
   | refine LeO.bind ?_ (fun _ => ?_)
set_option maxHeartbeats 8000000 in
set_option maxRecDepth 100000 in
theorem kerbsuiteref12_use.calls (k : Nat) (a0_0 : ByteArray) (A0_1 : Option Addr) (c0_1 : Nat) (l0_1 : List (S35)) (a1 : ByteArray) (a2 : ByteArray) (a3 : Int) (a4 : Int) (a5 : Int) (a6 : Int) (r1 : Int) (r2 : Int) (w : World) (hr0_1 : Kd.C k35 w A0_1 l0_1.length l0_1) (hc0_1 : l0_1.length ≤ c0_1) (h : kerbsuiteref12_use.f k a0_0 l0_1 a1 a2 a3 a4 a5 a6 = some (r1, r2)) :
  Calls Tryd.prog 48 #[.agg #[.string a0_0, .slice A0_1 l0_1.length c0_1], .string a1, .string a2, .int .i64 a3, .int .i64 a4, .int .i64 a5, .int .i64 a6] w fun e w' => e = .returned (.tuple #[.int .i64 r1, .int .i64 r2]) ∧ Below w.heap.size w w' := by
 have hu24 := Tryd.underlying24
 have hu35 := Tryd.underlying35
 have HR0_1 := Aside0.mk hr0_1
 have HC0_1 := Aside0.mk hc0_1
 clear hr0_1 hc0_1
 have HB := Aside0.mk (Below.refl w.heap.size w)
 have H : ((kerbsuiteref12_Find.f k a0_0 l0_1 a1 a2).bind fun bt279 => (if bt279.2 = 0 then (if 0 ≤ bt279.1 then (if bt279.1 < (l0_1.length : Int) then ((kerbsuiteref3_Valid.f ((rd_T35 l0_1 bt279.1).f2)).bind fun t283 => (if t283 = true then (if ((rd_T35 l0_1 bt279.1).f4) = 0 then (kerbsuiteref12_use.j0 k a4 a5 a6 bt279.1 false ((rd_T35 l0_1 bt279.1).f0) ((rd_T35 l0_1 bt279.1).f1) ((rd_T35 l0_1 bt279.1).f2) ((rd_T35 l0_1 bt279.1).f3) ((rd_T35 l0_1 bt279.1).f4) ((rd_T35 l0_1 bt279.1).f5) ((rd_T35 l0_1 bt279.1).f6) ((rd_T35 l0_1 bt279.1).f7) ((rd_T35 l0_1 bt279.1).f8)) else (kerbsuiteref12_use.j0 k a4 a5 a6 bt279.1 (decide (((rd_T35 l0_1 bt279.1).f4) ≤ a3)) ((rd_T35 l0_1 bt279.1).f0) ((rd_T35 l0_1 bt279.1).f1) ((rd_T35 l0_1 bt279.1).f2) ((rd_T35 l0_1 bt279.1).f3) ((rd_T35 l0_1 bt279.1).f4) ((rd_T35 l0_1 bt279.1).f5) ((rd_T35 l0_1 bt279.1).f6) ((rd_T35 l0_1 bt279.1).f7) ((rd_T35 l0_1 bt279.1).f8))) else (some (0, 10)))) else (none)) else (none)) else (some (0, bt279.2)))) = some (r1, r2) := h
 clear h
 replace H := Option.bind_eq_some_iff.mp H
 obtain ⟨⟨t279, t280⟩, A80, H⟩ := H
 replace H : (if t280 = 0 then (if 0 ≤ t279 then (if t279 < (l0_1.length : Int) then ((kerbsuiteref3_Valid.f ((rd_T35 l0_1 t279).f2)).bind fun t283 => (if t283 = true then (if ((rd_T35 l0_1 t279).f4) = 0 then (kerbsuiteref12_use.j0 k a4 a5 a6 t279 false ((rd_T35 l0_1 t279).f0) ((rd_T35 l0_1 t279).f1) ((rd_T35 l0_1 t279).f2) ((rd_T35 l0_1 t279).f3) ((rd_T35 l0_1 t279).f4) ((rd_T35 l0_1 t279).f5) ((rd_T35 l0_1 t279).f6) ((rd_T35 l0_1 t279).f7) ((rd_T35 l0_1 t279).f8)) else (kerbsuiteref12_use.j0 k a4 a5 a6 t279 (decide (((rd_T35 l0_1 t279).f4) ≤ a3)) ((rd_T35 l0_1 t279).f0) ((rd_T35 l0_1 t279).f1) ((rd_T35 l0_1 t279).f2) ((rd_T35 l0_1 t279).f3) ((rd_T35 l0_1 t279).f4) ((rd_T35 l0_1 t279).f5) ((rd_T35 l0_1 t279).f6) ((rd_T35 l0_1 t279).f7) ((rd_T35 l0_1 t279).f8))) else (some (0, 10)))) else (none)) else (none)) else (some (0, t280))) = some (r1, r2) := H
 have A8 := Aside0.mk A80
 clear A80
 by_cases c9 : t280 = 0
 ·rw [if_pos c9] at H
  have c9b0 : (t280 == 0) = true := beq_iff_eq.mpr c9
  have c9b1 : (t280 != 0) = false := bne_eq_false_iff_eq.mpr c9
  clear c9
  by_cases c10 : 0 ≤ t279
  ·rw [if_pos c10] at H
   have c10b0 : decide (0 ≤ t279) = true := decide_eq_true c10
   clear c10
   by_cases c11 : t279 < (l0_1.length : Int)
   ·rw [if_pos c11] at H
    have c11b0 : decide (t279 < (l0_1.length : Int)) = true := decide_eq_true c11
    clear c11
    replace H := Option.bind_eq_some_iff.mp H
    obtain ⟨t283, A120, H⟩ := H
    replace H : (if t283 = true then (if ((rd_T35 l0_1 t279).f4) = 0 then (kerbsuiteref12_use.j0 k a4 a5 a6 t279 false ((rd_T35 l0_1 t279).f0) ((rd_T35 l0_1 t279).f1) ((rd_T35 l0_1 t279).f2) ((rd_T35 l0_1 t279).f3) ((rd_T35 l0_1 t279).f4) ((rd_T35 l0_1 t279).f5) ((rd_T35 l0_1 t279).f6) ((rd_T35 l0_1 t279).f7) ((rd_T35 l0_1 t279).f8)) else (kerbsuiteref12_use.j0 k a4 a5 a6 t279 (decide (((rd_T35 l0_1 t279).f4) ≤ a3)) ((rd_T35 l0_1 t279).f0) ((rd_T35 l0_1 t279).f1) ((rd_T35 l0_1 t279).f2) ((rd_T35 l0_1 t279).f3) ((rd_T35 l0_1 t279).f4) ((rd_T35 l0_1 t279).f5) ((rd_T35 l0_1 t279).f6) ((rd_T35 l0_1 t279).f7) ((rd_T35 l0_1 t279).f8))) else (some (0, 10))) = some (r1, r2) := H
    have A12 := Aside0.mk A120
    clear A120
    by_cases c13 : t283 = true
    ·subst c13
     have H1 : (if ((rd_T35 l0_1 t279).f4) = 0 then (kerbsuiteref12_use.j0 k a4 a5 a6 t279 false ((rd_T35 l0_1 t279).f0) ((rd_T35 l0_1 t279).f1) ((rd_T35 l0_1 t279).f2) ((rd_T35 l0_1 t279).f3) ((rd_T35 l0_1 t279).f4) ((rd_T35 l0_1 t279).f5) ((rd_T35 l0_1 t279).f6) ((rd_T35 l0_1 t279).f7) ((rd_T35 l0_1 t279).f8)) else (kerbsuiteref12_use.j0 k a4 a5 a6 t279 (decide (((rd_T35 l0_1 t279).f4) ≤ a3)) ((rd_T35 l0_1 t279).f0) ((rd_T35 l0_1 t279).f1) ((rd_T35 l0_1 t279).f2) ((rd_T35 l0_1 t279).f3) ((rd_T35 l0_1 t279).f4) ((rd_T35 l0_1 t279).f5) ((rd_T35 l0_1 t279).f6) ((rd_T35 l0_1 t279).f7) ((rd_T35 l0_1 t279).f8))) = some (r1, r2) := by rw [if_pos rfl] at H; exact H
     clear H
     have H := H1
     clear H1
     have HC14 := Aside0.mk H
     clear H
     go_enter Tryd.func48, Tryd.ntmps48
     go_upto_region 7 with (first | ((with_reducible refine gate_dst (N := 7) rfl ?_); refine box_event ?hg (N := 7) ?hd (cs := #[.string a0_0, .slice A0_1 l0_1.length c0_1]) (t := 24) ?hr ?_; (case hd => rfl); (case hg => rfl); (case hr => first | (go_simp; done) | (go_simp; rfl)); intro gb278 hg w15 hbox hb; have n0_ := Aside0.mk (below_step (bk_ HB.out) hb); have n1_ := Aside0.mk (hbox); have n2_ := Aside0.mk ((by rw [hg]; exact (below_size (bk_ HB.out)) : w.heap.size ≤ gb278)); have n3_ := Aside0.mk ((by rw [hg]; exact (below_size (bk_ HB.out)) : w.heap.size ≤ gb278)); clear HB; have HB := n0_; have BK278 := n1_; have GW278 := n2_; have GE278 := n3_; clear n0_ n1_ n2_ n3_; clear hb hbox hg; have hcz16_0 : w15.cell? ⟨gb278, 0, none⟩ = some (.string a0_0) := (blk_cell BK278.out 0).trans rfl; have hcz16_1 : w15.cell? ⟨gb278, 1, none⟩ = some (.slice A0_1 l0_1.length c0_1) := (blk_cell BK278.out 1).trans rfl; have hfz16_0 := blk_frozen BK278.out 0; have hfz16_1 := blk_frozen BK278.out 1) | ((with_reducible refine gate_callee (f := 19) rfl ?_); refine goesL_ (some 23) rfl rfl Tryd.func19 (by kernel_rfl) rfl #[.agg #[.string a0_0, .slice A0_1 l0_1.length c0_1], .string a1, .string a2] rfl (by (try simp only [List.map_toArray, List.map_cons, List.map_nil]); first | done | rfl | (simp only [List.length_drop, List.length_take]; rfl)) ?_; (with_reducible refine (kerbsuiteref12_Find.calls k a0_0 _ _ l0_1 a1 a2 t279 t280 _ ?side1 ?side2 A8.out).mono ?_); (case side1 => repeat (first | exact (Kd.C_below HR0_1.out HB.out) | (with_reducible refine Kd.C_alloc ?_ _) | (with_reducible refine Kd.C_drewN ?_ _) | (with_reducible refine Kd.C_drew ?_))); (case side2 => exact HC0_1.out); rintro e w17 ⟨rfl, hb⟩; refine ⟨_, rfl, ?_⟩; have n0_ := Aside0.mk (blk_below (g := gb278) (o := .cells #[.string a0_0, .slice A0_1 l0_1.length c0_1] 24 (0, 0)) (bk_ BK278.out) hb); have n1_ := Aside0.mk (below_step (by repeat (first | (with_reducible first | exact HB.out | apply bA_ | apply bN_ | apply bD_ | refine bS_ ?_ GE278.out) | exact HB.out)) hb); clear BK278 HB; have BK278 := n0_; have HB := n1_; clear n0_ n1_; (try clear hb); (try clear hb2); (try clear hk); (try clear hi); have hcz18_0 : w17.cell? ⟨gb278, 0, none⟩ = some (.string a0_0) := (blk_cell BK278.out 0).trans rfl; have hcz18_1 : w17.cell? ⟨gb278, 1, none⟩ = some (.slice A0_1 l0_1.length c0_1) := (blk_cell BK278.out 1).trans rfl; have hfz18_0 := blk_frozen BK278.out 0; have hfz18_1 := blk_frozen BK278.out 1; have p281 : 0 ≤ (t279 : Int) := of_decide_eq_true (by first | (with_reducible assumption) | assumption); have q281 : t279 < (l0_1.length : Int) := of_decide_eq_true (by first | (with_reducible assumption) | assumption); obtain ⟨ad281, e281, hx281_0, hx281_1, hx281_2, hx281_3, hx281_4, hx281_5, hx281_6, hx281_7, hx281_8⟩ := at_T35 HR0_1.out t279 p281 q281; cases e281; replace hx281_0 := (HB.out.cell (World.block_lt_of_cell? w _ hx281_0)).trans hx281_0; replace hx281_1 := (HB.out.cell (World.block_lt_of_cell? w _ hx281_1)).trans hx281_1; replace hx281_2 := (HB.out.cell (World.block_lt_of_cell? w _ hx281_2)).trans hx281_2; replace hx281_3 := (HB.out.cell (World.block_lt_of_cell? w _ hx281_3)).trans hx281_3; replace hx281_4 := (HB.out.cell (World.block_lt_of_cell? w _ hx281_4)).trans hx281_4; replace hx281_5 := (HB.out.cell (World.block_lt_of_cell? w _ hx281_5)).trans hx281_5; replace hx281_6 := (HB.out.cell (World.block_lt_of_cell? w _ hx281_6)).trans hx281_6; replace hx281_7 := (HB.out.cell (World.block_lt_of_cell? w _ hx281_7)).trans hx281_7; replace hx281_8 := (HB.out.cell (World.block_lt_of_cell? w _ hx281_8)).trans hx281_8; replace p281 := eq_true p281; replace q281 := eq_true q281) | ((with_reducible refine gate_dst (N := 18) rfl ?_); refine box_event ?hg (N := 18) ?hd (cs := #[.string (⟨#[]⟩ : ByteArray), .string (⟨#[]⟩ : ByteArray), .int .u64 0, .int .i64 0, .int .i64 0, .int .i64 0, .int .i64 0, .int .i64 0, .int .i64 0]) (t := 35) ?hr ?_; (case hd => rfl); (case hg => rfl); (case hr => first | (go_simp; done) | (go_simp; rfl)); intro gb282 hg w19 hbox hb; have n0_ := Aside0.mk (blk_below (g := gb278) (o := .cells #[.string a0_0, .slice (some ad281) l0_1.length c0_1] 24 (0, 0)) (bk_ BK278.out) hb); have n1_ := Aside0.mk (below_step (by repeat (first | (with_reducible first | exact HB.out | apply bA_ | apply bN_ | apply bD_ | refine bS_ ?_ GE278.out) | exact HB.out)) hb); have n2_ := Aside0.mk (hbox); have n3_ := Aside0.mk ((by rw [hg]; exact (below_size (by repeat (first | (with_reducible first | exact HB.out | apply bA_ | apply bN_ | apply bD_ | refine bS_ ?_ GE278.out) | exact HB.out))) : w.heap.size ≤ gb282)); have n4_ := Aside0.mk ((by rw [hg]; exact (below_size (by repeat (first | (with_reducible first | exact HB.out | apply bA_ | apply bN_ | apply bD_ | refine bS_ ?_ GE278.out) | exact HB.out))) : w.heap.size ≤ gb282)); have n5_ := Aside0.mk ((by rw [hg]; exact Nat.ne_of_lt (blk_lt (g := gb278) (o := .cells #[.string a0_0, .slice (some ad281) l0_1.length c0_1] 24 (0, 0)) (bk_ BK278.out)) : gb278 ≠ gb282)); have n6_ := Aside0.mk ((by rw [hg]; exact Nat.ne_of_gt (blk_lt (g := gb278) (o := .cells #[.string a0_0, .slice (some ad281) l0_1.length c0_1] 24 (0, 0)) (bk_ BK278.out)) : gb282 ≠ gb278)); clear BK278 HB; have BK278 := n0_; have HB := n1_; have BK282 := n2_; have GW282 := n3_; have GE282 := n4_; have NB278_282 := n5_; have NB282_278 := n6_; clear n0_ n1_ n2_ n3_ n4_ n5_ n6_; clear hb hbox hg; have hnb20 := NB282_278.out; have hnc20 := NB278_282.out; have hcz21_0 : w19.cell? ⟨gb282, 0, none⟩ = some (.string (⟨#[]⟩ : ByteArray)) := (blk_cell BK282.out 0).trans rfl; have hcz21_1 : w19.cell? ⟨gb282, 1, none⟩ = some (.string (⟨#[]⟩ : ByteArray)) := (blk_cell BK282.out 1).trans rfl; have hcz21_2 : w19.cell? ⟨gb282, 2, none⟩ = some (.int .u64 0) := (blk_cell BK282.out 2).trans rfl; have hcz21_3 : w19.cell? ⟨gb282, 3, none⟩ = some (.int .i64 0) := (blk_cell BK282.out 3).trans rfl; have hcz21_4 : w19.cell? ⟨gb282, 4, none⟩ = some (.int .i64 0) := (blk_cell BK282.out 4).trans rfl; have hcz21_5 : w19.cell? ⟨gb282, 5, none⟩ = some (.int .i64 0) := (blk_cell BK282.out 5).trans rfl; have hcz21_6 : w19.cell? ⟨gb282, 6, none⟩ = some (.int .i64 0) := (blk_cell BK282.out 6).trans rfl; have hcz21_7 : w19.cell? ⟨gb282, 7, none⟩ = some (.int .i64 0) := (blk_cell BK282.out 7).trans rfl; have hcz21_8 : w19.cell? ⟨gb282, 8, none⟩ = some (.int .i64 0) := (blk_cell BK282.out 8).trans rfl; have hfz21_0 := blk_frozen BK282.out 0; have hfz21_1 := blk_frozen BK282.out 1; have hfz21_2 := blk_frozen BK282.out 2; have hfz21_3 := blk_frozen BK282.out 3; have hfz21_4 := blk_frozen BK282.out 4; have hfz21_5 := blk_frozen BK282.out 5; have hfz21_6 := blk_frozen BK282.out 6; have hfz21_7 := blk_frozen BK282.out 7; have hfz21_8 := blk_frozen BK282.out 8) | ((with_reducible refine gate_callee (f := 45) rfl ?_); refine goesL_ (some 36) rfl rfl Tryd.func45 (by kernel_rfl) rfl #[.int .u64 ((rd_T35 l0_1 t279).f2)] rfl (by (try simp only [List.map_toArray, List.map_cons, List.map_nil]); first | done | rfl | (simp only [List.length_drop, List.length_take]; rfl)) ?_; (with_reducible refine (kerbsuiteref3_Valid.calls ((rd_T35 l0_1 t279).f2) true _ A12.out).mono ?_); rintro e w' ⟨rfl, ⟨nd, rfl⟩⟩; refine ⟨_, rfl, ?_⟩))
     (try simp only [Act.put, sA_, sB_, sC_])
     go_cut [46] (fun v46 wc => ∃ (kq : Nat) (x46_13 : Bool), v46 = .bool x46_13 ∧ Aside0 (kerbsuiteref12_use.j0 kq a4 a5 a6 t279 x46_13 ((rd_T35 l0_1 t279).f0) ((rd_T35 l0_1 t279).f1) ((rd_T35 l0_1 t279).f2) ((rd_T35 l0_1 t279).f3) ((rd_T35 l0_1 t279).f4) ((rd_T35 l0_1 t279).f5) ((rd_T35 l0_1 t279).f6) ((rd_T35 l0_1 t279).f7) ((rd_T35 l0_1 t279).f8) = some (r1, r2)) ∧ Aside0 (kq ≤ k) ∧ Aside0 (wc.heap[gb278]? = some (.cells #[.string a0_0, (.slice (some ad281) l0_1.length c0_1)] 24 (0, 0))) ∧ Aside0 (wc.heap[gb282]? = some (.cells #[.string ((rd_T35 l0_1 t279).f0), .string ((rd_T35 l0_1 t279).f1), .int .u64 ((rd_T35 l0_1 t279).f2), .int .i64 ((rd_T35 l0_1 t279).f3), .int .i64 ((rd_T35 l0_1 t279).f4), .int .i64 ((rd_T35 l0_1 t279).f5), .int .i64 ((rd_T35 l0_1 t279).f6), .int .i64 ((rd_T35 l0_1 t279).f7), .int .i64 ((rd_T35 l0_1 t279).f8)] 35 (0, 0))) ∧ Aside0 (Below w.heap.size w wc))
     case first =>
      have H := HC14.out
      clear HC14
      by_cases c22 : ((rd_T35 l0_1 t279).f4) = 0
      ·rw [if_pos c22] at H
       have c22b0 : (((rd_T35 l0_1 t279).f4) == 0) = true := beq_iff_eq.mpr c22
       have c22b1 : (((rd_T35 l0_1 t279).f4) != 0) = false := bne_eq_false_iff_eq.mpr c22
       clear c22
       (first | rw [c22b0] | (simp only [i64_w, i32_w]; rw [c22b0]) | skip)
       have H' := Aside0.mk H
       clear H
       have hnb23 := NB282_278.out
       have hnc23 := NB278_282.out
       have hcz24_0 : w19.cell? ⟨gb282, 0, none⟩ = some (.string (⟨#[]⟩ : ByteArray)) := (blk_cell BK282.out 0).trans rfl
       have hcz24_1 : w19.cell? ⟨gb282, 1, none⟩ = some (.string (⟨#[]⟩ : ByteArray)) := (blk_cell BK282.out 1).trans rfl
       have hcz24_2 : w19.cell? ⟨gb282, 2, none⟩ = some (.int .u64 0) := (blk_cell BK282.out 2).trans rfl
       have hcz24_3 : w19.cell? ⟨gb282, 3, none⟩ = some (.int .i64 0) := (blk_cell BK282.out 3).trans rfl
       have hcz24_4 : w19.cell? ⟨gb282, 4, none⟩ = some (.int .i64 0) := (blk_cell BK282.out 4).trans rfl
       have hcz24_5 : w19.cell? ⟨gb282, 5, none⟩ = some (.int .i64 0) := (blk_cell BK282.out 5).trans rfl
       have hcz24_6 : w19.cell? ⟨gb282, 6, none⟩ = some (.int .i64 0) := (blk_cell BK282.out 6).trans rfl
       have hcz24_7 : w19.cell? ⟨gb282, 7, none⟩ = some (.int .i64 0) := (blk_cell BK282.out 7).trans rfl
       have hcz24_8 : w19.cell? ⟨gb282, 8, none⟩ = some (.int .i64 0) := (blk_cell BK282.out 8).trans rfl
       have hfz24_0 := blk_frozen BK282.out 0
       have hfz24_1 := blk_frozen BK282.out 1
       have hfz24_2 := blk_frozen BK282.out 2
       have hfz24_3 := blk_frozen BK282.out 3
       have hfz24_4 := blk_frozen BK282.out 4
       have hfz24_5 := blk_frozen BK282.out 5
       have hfz24_6 := blk_frozen BK282.out 6
       have hfz24_7 := blk_frozen BK282.out 7
       have hfz24_8 := blk_frozen BK282.out 8
       go_wp2
       go_meet
       case rel => exact ⟨_, (false), (by first | rfl | (simp; done) | (simp [*]; done)), H', ⟨by first | omega | exact Nat.le_refl _⟩, ⟨by refine bk_ ?_; refine blk_far ?_ NB278_282.out _; refine bk_ ?_; refine blk_far ?_ NB278_282.out _; refine bk_ ?_; refine blk_far ?_ NB278_282.out _; refine bk_ ?_; refine blk_far ?_ NB278_282.out _; refine bk_ ?_; refine blk_far ?_ NB278_282.out _; refine bk_ ?_; refine blk_far ?_ NB278_282.out _; refine bk_ ?_; refine blk_far ?_ NB278_282.out _; refine bk_ ?_; refine blk_far ?_ NB278_282.out _; refine bk_ ?_; refine blk_far ?_ NB278_282.out _; refine bk_ ?_; exact BK278.out⟩, ⟨by refine bk_ ?_; refine blk_put (cs := #[.string ((rd_T35 l0_1 t279).f0), .string ((rd_T35 l0_1 t279).f1), .int .u64 ((rd_T35 l0_1 t279).f2), .int .i64 ((rd_T35 l0_1 t279).f3), .int .i64 ((rd_T35 l0_1 t279).f4), .int .i64 ((rd_T35 l0_1 t279).f5), .int .i64 ((rd_T35 l0_1 t279).f6), .int .i64 ((rd_T35 l0_1 t279).f7), .int .i64 0]) ?_ 8 _ rfl; refine bk_ ?_; refine blk_put (cs := #[.string ((rd_T35 l0_1 t279).f0), .string ((rd_T35 l0_1 t279).f1), .int .u64 ((rd_T35 l0_1 t279).f2), .int .i64 ((rd_T35 l0_1 t279).f3), .int .i64 ((rd_T35 l0_1 t279).f4), .int .i64 ((rd_T35 l0_1 t279).f5), .int .i64 ((rd_T35 l0_1 t279).f6), .int .i64 0, .int .i64 0]) ?_ 7 _ rfl; refine bk_ ?_; refine blk_put (cs := #[.string ((rd_T35 l0_1 t279).f0), .string ((rd_T35 l0_1 t279).f1), .int .u64 ((rd_T35 l0_1 t279).f2), .int .i64 ((rd_T35 l0_1 t279).f3), .int .i64 ((rd_T35 l0_1 t279).f4), .int .i64 ((rd_T35 l0_1 t279).f5), .int .i64 0, .int .i64 0, .int .i64 0]) ?_ 6 _ rfl; refine bk_ ?_; refine blk_put (cs := #[.string ((rd_T35 l0_1 t279).f0), .string ((rd_T35 l0_1 t279).f1), .int .u64 ((rd_T35 l0_1 t279).f2), .int .i64 ((rd_T35 l0_1 t279).f3), .int .i64 ((rd_T35 l0_1 t279).f4), .int .i64 0, .int .i64 0, .int .i64 0, .int .i64 0]) ?_ 5 _ rfl; refine bk_ ?_; refine blk_put (cs := #[.string ((rd_T35 l0_1 t279).f0), .string ((rd_T35 l0_1 t279).f1), .int .u64 ((rd_T35 l0_1 t279).f2), .int .i64 ((rd_T35 l0_1 t279).f3), .int .i64 0, .int .i64 0, .int .i64 0, .int .i64 0, .int .i64 0]) ?_ 4 _ rfl; refine bk_ ?_; refine blk_put (cs := #[.string ((rd_T35 l0_1 t279).f0), .string ((rd_T35 l0_1 t279).f1), .int .u64 ((rd_T35 l0_1 t279).f2), .int .i64 0, .int .i64 0, .int .i64 0, .int .i64 0, .int .i64 0, .int .i64 0]) ?_ 3 _ rfl; refine bk_ ?_; refine blk_put (cs := #[.string ((rd_T35 l0_1 t279).f0), .string ((rd_T35 l0_1 t279).f1), .int .u64 0, .int .i64 0, .int .i64 0, .int .i64 0, .int .i64 0, .int .i64 0, .int .i64 0]) ?_ 2 _ rfl; refine bk_ ?_; refine blk_put (cs := #[.string ((rd_T35 l0_1 t279).f0), .string (⟨#[]⟩ : ByteArray), .int .u64 0, .int .i64 0, .int .i64 0, .int .i64 0, .int .i64 0, .int .i64 0, .int .i64 0]) ?_ 1 _ rfl; refine bk_ ?_; refine blk_put (cs := #[.string (⟨#[]⟩ : ByteArray), .string (⟨#[]⟩ : ByteArray), .int .u64 0, .int .i64 0, .int .i64 0, .int .i64 0, .int .i64 0, .int .i64 0, .int .i64 0]) ?_ 0 _ rfl; refine bk_ ?_; exact BK282.out⟩, ⟨by repeat (first | (with_reducible first | exact HB.out | apply bA_ | apply bN_ | apply bD_ | refine bS_ ?_ GE278.out | refine bS_ ?_ GE282.out) | exact HB.out)⟩⟩
      rw [if_neg c22] at H
      have c22b0 : (((rd_T35 l0_1 t279).f4) == 0) = false := beq_eq_false_iff_ne.mpr c22
      have c22b1 : (((rd_T35 l0_1 t279).f4) != 0) = true := bne_iff_ne.mpr c22
      (first | rw [c22b0] | (simp only [i64_w, i32_w]; rw [c22b0]) | skip)
      have H' := Aside0.mk H
      clear H
      have hnb25 := NB282_278.out
      have hnc25 := NB278_282.out
      have hcz26_0 : w19.cell? ⟨gb282, 0, none⟩ = some (.string (⟨#[]⟩ : ByteArray)) := (blk_cell BK282.out 0).trans rfl
      have hcz26_1 : w19.cell? ⟨gb282, 1, none⟩ = some (.string (⟨#[]⟩ : ByteArray)) := (blk_cell BK282.out 1).trans rfl
      have hcz26_2 : w19.cell? ⟨gb282, 2, none⟩ = some (.int .u64 0) := (blk_cell BK282.out 2).trans rfl
      have hcz26_3 : w19.cell? ⟨gb282, 3, none⟩ = some (.int .i64 0) := (blk_cell BK282.out 3).trans rfl
      have hcz26_4 : w19.cell? ⟨gb282, 4, none⟩ = some (.int .i64 0) := (blk_cell BK282.out 4).trans rfl
      have hcz26_5 : w19.cell? ⟨gb282, 5, none⟩ = some (.int .i64 0) := (blk_cell BK282.out 5).trans rfl
      have hcz26_6 : w19.cell? ⟨gb282, 6, none⟩ = some (.int .i64 0) := (blk_cell BK282.out 6).trans rfl
      have hcz26_7 : w19.cell? ⟨gb282, 7, none⟩ = some (.int .i64 0) := (blk_cell BK282.out 7).trans rfl
      have hcz26_8 : w19.cell? ⟨gb282, 8, none⟩ = some (.int .i64 0) := (blk_cell BK282.out 8).trans rfl
      have hfz26_0 := blk_frozen BK282.out 0
      have hfz26_1 := blk_frozen BK282.out 1
      have hfz26_2 := blk_frozen BK282.out 2
      have hfz26_3 := blk_frozen BK282.out 3
      have hfz26_4 := blk_frozen BK282.out 4
      have hfz26_5 := blk_frozen BK282.out 5
      have hfz26_6 := blk_frozen BK282.out 6
      have hfz26_7 := blk_frozen BK282.out 7
      have hfz26_8 := blk_frozen BK282.out 8
      go_wp2
      go_meet
      case rel => exact ⟨_, (decide (((rd_T35 l0_1 t279).f4) ≤ a3)), (by first | rfl | (simp; done) | (simp [*]; done)), H', ⟨by first | omega | exact Nat.le_refl _⟩, ⟨by refine bk_ ?_; refine blk_far ?_ NB278_282.out _; refine bk_ ?_; refine blk_far ?_ NB278_282.out _; refine bk_ ?_; refine blk_far ?_ NB278_282.out _; refine bk_ ?_; refine blk_far ?_ NB278_282.out _; refine bk_ ?_; refine blk_far ?_ NB278_282.out _; refine bk_ ?_; refine blk_far ?_ NB278_282.out _; refine bk_ ?_; refine blk_far ?_ NB278_282.out _; refine bk_ ?_; refine blk_far ?_ NB278_282.out _; refine bk_ ?_; refine blk_far ?_ NB278_282.out _; refine bk_ ?_; exact BK278.out⟩, ⟨by refine bk_ ?_; refine blk_put (cs := #[.string ((rd_T35 l0_1 t279).f0), .string ((rd_T35 l0_1 t279).f1), .int .u64 ((rd_T35 l0_1 t279).f2), .int .i64 ((rd_T35 l0_1 t279).f3), .int .i64 ((rd_T35 l0_1 t279).f4), .int .i64 ((rd_T35 l0_1 t279).f5), .int .i64 ((rd_T35 l0_1 t279).f6), .int .i64 ((rd_T35 l0_1 t279).f7), .int .i64 0]) ?_ 8 _ rfl; refine bk_ ?_; refine blk_put (cs := #[.string ((rd_T35 l0_1 t279).f0), .string ((rd_T35 l0_1 t279).f1), .int .u64 ((rd_T35 l0_1 t279).f2), .int .i64 ((rd_T35 l0_1 t279).f3), .int .i64 ((rd_T35 l0_1 t279).f4), .int .i64 ((rd_T35 l0_1 t279).f5), .int .i64 ((rd_T35 l0_1 t279).f6), .int .i64 0, .int .i64 0]) ?_ 7 _ rfl; refine bk_ ?_; refine blk_put (cs := #[.string ((rd_T35 l0_1 t279).f0), .string ((rd_T35 l0_1 t279).f1), .int .u64 ((rd_T35 l0_1 t279).f2), .int .i64 ((rd_T35 l0_1 t279).f3), .int .i64 ((rd_T35 l0_1 t279).f4), .int .i64 ((rd_T35 l0_1 t279).f5), .int .i64 0, .int .i64 0, .int .i64 0]) ?_ 6 _ rfl; refine bk_ ?_; refine blk_put (cs := #[.string ((rd_T35 l0_1 t279).f0), .string ((rd_T35 l0_1 t279).f1), .int .u64 ((rd_T35 l0_1 t279).f2), .int .i64 ((rd_T35 l0_1 t279).f3), .int .i64 ((rd_T35 l0_1 t279).f4), .int .i64 0, .int .i64 0, .int .i64 0, .int .i64 0]) ?_ 5 _ rfl; refine bk_ ?_; refine blk_put (cs := #[.string ((rd_T35 l0_1 t279).f0), .string ((rd_T35 l0_1 t279).f1), .int .u64 ((rd_T35 l0_1 t279).f2), .int .i64 ((rd_T35 l0_1 t279).f3), .int .i64 0, .int .i64 0, .int .i64 0, .int .i64 0, .int .i64 0]) ?_ 4 _ rfl; refine bk_ ?_; refine blk_put (cs := #[.string ((rd_T35 l0_1 t279).f0), .string ((rd_T35 l0_1 t279).f1), .int .u64 ((rd_T35 l0_1 t279).f2), .int .i64 0, .int .i64 0, .int .i64 0, .int .i64 0, .int .i64 0, .int .i64 0]) ?_ 3 _ rfl; refine bk_ ?_; refine blk_put (cs := #[.string ((rd_T35 l0_1 t279).f0), .string ((rd_T35 l0_1 t279).f1), .int .u64 0, .int .i64 0, .int .i64 0, .int .i64 0, .int .i64 0, .int .i64 0, .int .i64 0]) ?_ 2 _ rfl; refine bk_ ?_; refine blk_put (cs := #[.string ((rd_T35 l0_1 t279).f0), .string (⟨#[]⟩ : ByteArray), .int .u64 0, .int .i64 0, .int .i64 0, .int .i64 0, .int .i64 0, .int .i64 0, .int .i64 0]) ?_ 1 _ rfl; refine bk_ ?_; refine blk_put (cs := #[.string (⟨#[]⟩ : ByteArray), .string (⟨#[]⟩ : ByteArray), .int .u64 0, .int .i64 0, .int .i64 0, .int .i64 0, .int .i64 0, .int .i64 0, .int .i64 0]) ?_ 0 _ rfl; refine bk_ ?_; exact BK282.out⟩, ⟨by repeat (first | (with_reducible first | exact HB.out | apply bA_ | apply bN_ | apply bD_ | refine bS_ ?_ GE278.out | refine bS_ ?_ GE282.out) | exact HB.out)⟩⟩
     case rest =>
      clear HC14
      try clear c1
      try clear c2
      try clear p2
      try clear q2
      try clear hx2
      try clear c4
      try clear c9
      try clear c9b0
      try clear c9b1
      try clear c10
      try clear c10b0
      try clear c11
      try clear c11b0
      try clear c13
      try clear c19
      try clear c20
      try clear c22
      try clear c22b0
      try clear c22b1
      try clear c23
      try clear c25
      try clear hcz16_0
      try clear hcz16_1
      try clear hcz18_0
      try clear hcz18_1
      try clear hcz21_0
      try clear hcz21_1
      try clear hcz21_2
      try clear hcz21_3
      try clear hcz21_4
      try clear hcz21_5
      try clear hcz21_6
      try clear hcz21_7
      try clear hcz21_8
      try clear hcz24_0
      try clear hcz24_1
      try clear hcz24_2
      try clear hcz24_3
      try clear hcz24_4
      try clear hcz24_5
      try clear hcz24_6
      try clear hcz24_7
      try clear hcz24_8
      try clear hcz26_0
      try clear hcz26_1
      try clear hcz26_2
      try clear hcz26_3
      try clear hcz26_4
      try clear hcz26_5
      try clear hcz26_6
      try clear hcz26_7
      try clear hcz26_8
      try clear hfz16_0
      try clear hfz16_1
      try clear hfz18_0
      try clear hfz18_1
      try clear hfz21_0
      try clear hfz21_1
      try clear hfz21_2
      try clear hfz21_3
      try clear hfz21_4
      try clear hfz21_5
      try clear hfz21_6
      try clear hfz21_7
      try clear hfz21_8
      try clear hfz24_0
      try clear hfz24_1
      try clear hfz24_2
      try clear hfz24_3
      try clear hfz24_4
      try clear hfz24_5
      try clear hfz24_6
      try clear hfz24_7
      try clear hfz24_8
      try clear hfz26_0
      try clear hfz26_1
      try clear hfz26_2
      try clear hfz26_3
      try clear hfz26_4
      try clear hfz26_5
      try clear hfz26_6
      try clear hfz26_7
      try clear hfz26_8
      try clear hx281_0
      try clear hx281_1
      try clear hx281_2
      try clear hx281_3
      try clear hx281_4
      try clear hx281_5
      try clear hx281_6
      try clear hx281_7
      try clear hx281_8
      try clear p281
      try clear q281
      obtain ⟨kq, x46_13, rfl, HA, HJ13, BK278, BK282, HB⟩ := hcut
      cases kq with
      | zero => exact absurd HA.out (by simp [kerbsuiteref12_use.j0])
      | succ kj13 =>
       have H := HA.out
       clear HA
       simp only [kerbsuiteref12_use.j0] at H
       by_cases c27 : x46_13 = true
       ·subst c27
        have H1 : (some (0, a5)) = some (r1, r2) := by rw [if_pos rfl] at H; exact H
        clear H
        have H := H1
        clear H1
        simp only [Option.some.injEq, Prod.mk.injEq] at H
        obtain ⟨rfl, rfl⟩ := H
        go_wp2
        go_ret2
        exact ⟨by first | rfl | (simp [errW_none, errW_some] <;> rfl) | (simp [*, errW_none, errW_some] <;> rfl), by repeat (first | (with_reducible first | exact HB.out | apply bA_ | apply bN_ | apply bD_ | refine bS_ ?_ GE278.out | refine bS_ ?_ GE282.out) | exact HB.out)⟩
       replace c27 := Bool.eq_false_iff.mpr c27
       subst c27
       have H1 : (if (Go.bits .and .i64 ((rd_T35 l0_1 t279).f6) a4) = 0 then (some (t279, 0)) else (some (0, a6))) = some (r1, r2) := by rw [if_neg (show ¬ (false = true) by decide)] at H; exact H
       clear H
       have H := H1
       clear H1
       by_cases c28 : (Go.bits .and .i64 ((rd_T35 l0_1 t279).f6) a4) = 0
       ·rw [if_pos c28] at H
        have c28b0 : ((Go.bits .and .i64 ((rd_T35 l0_1 t279).f6) a4) == 0) = true := beq_iff_eq.mpr c28
        have c28b1 : ((Go.bits .and .i64 ((rd_T35 l0_1 t279).f6) a4) != 0) = false := bne_eq_false_iff_eq.mpr c28
        clear c28
        simp only [Option.some.injEq, Prod.mk.injEq] at H
        obtain ⟨rfl, rfl⟩ := H
        have hnb29 := NB282_278.out
        have hnc29 := NB278_282.out
        have hcz30_0 : wc.cell? ⟨gb282, 0, none⟩ = some (.string ((rd_T35 l0_1 t279).f0)) := (blk_cell BK282.out 0).trans rfl
        have hcz30_1 : wc.cell? ⟨gb282, 1, none⟩ = some (.string ((rd_T35 l0_1 t279).f1)) := (blk_cell BK282.out 1).trans rfl
        have hcz30_2 : wc.cell? ⟨gb282, 2, none⟩ = some (.int .u64 ((rd_T35 l0_1 t279).f2)) := (blk_cell BK282.out 2).trans rfl
        have hcz30_3 : wc.cell? ⟨gb282, 3, none⟩ = some (.int .i64 ((rd_T35 l0_1 t279).f3)) := (blk_cell BK282.out 3).trans rfl
        have hcz30_4 : wc.cell? ⟨gb282, 4, none⟩ = some (.int .i64 ((rd_T35 l0_1 t279).f4)) := (blk_cell BK282.out 4).trans rfl
        have hcz30_5 : wc.cell? ⟨gb282, 5, none⟩ = some (.int .i64 ((rd_T35 l0_1 t279).f5)) := (blk_cell BK282.out 5).trans rfl
        have hcz30_6 : wc.cell? ⟨gb282, 6, none⟩ = some (.int .i64 ((rd_T35 l0_1 t279).f6)) := (blk_cell BK282.out 6).trans rfl
        have hcz30_7 : wc.cell? ⟨gb282, 7, none⟩ = some (.int .i64 ((rd_T35 l0_1 t279).f7)) := (blk_cell BK282.out 7).trans rfl
        have hcz30_8 : wc.cell? ⟨gb282, 8, none⟩ = some (.int .i64 ((rd_T35 l0_1 t279).f8)) := (blk_cell BK282.out 8).trans rfl
        have hfz30_0 := blk_frozen BK282.out 0
        have hfz30_1 := blk_frozen BK282.out 1
        have hfz30_2 := blk_frozen BK282.out 2
        have hfz30_3 := blk_frozen BK282.out 3
        have hfz30_4 := blk_frozen BK282.out 4
        have hfz30_5 := blk_frozen BK282.out 5
        have hfz30_6 := blk_frozen BK282.out 6
        have hfz30_7 := blk_frozen BK282.out 7
        have hfz30_8 := blk_frozen BK282.out 8
        go_wp2
        go_ret2
        exact ⟨by first | rfl | (simp [errW_none, errW_some] <;> rfl) | (simp [*, errW_none, errW_some] <;> rfl), by repeat (first | (with_reducible first | exact HB.out | apply bA_ | apply bN_ | apply bD_ | refine bS_ ?_ GE278.out | refine bS_ ?_ GE282.out) | exact HB.out)⟩
       rw [if_neg c28] at H
       have c28b0 : ((Go.bits .and .i64 ((rd_T35 l0_1 t279).f6) a4) == 0) = false := beq_eq_false_iff_ne.mpr c28
       have c28b1 : ((Go.bits .and .i64 ((rd_T35 l0_1 t279).f6) a4) != 0) = true := bne_iff_ne.mpr c28
       simp only [Option.some.injEq, Prod.mk.injEq] at H
       obtain ⟨rfl, rfl⟩ := H
       have hnb31 := NB282_278.out
       have hnc31 := NB278_282.out
       have hcz32_0 : wc.cell? ⟨gb282, 0, none⟩ = some (.string ((rd_T35 l0_1 t279).f0)) := (blk_cell BK282.out 0).trans rfl
       have hcz32_1 : wc.cell? ⟨gb282, 1, none⟩ = some (.string ((rd_T35 l0_1 t279).f1)) := (blk_cell BK282.out 1).trans rfl
       have hcz32_2 : wc.cell? ⟨gb282, 2, none⟩ = some (.int .u64 ((rd_T35 l0_1 t279).f2)) := (blk_cell BK282.out 2).trans rfl
       have hcz32_3 : wc.cell? ⟨gb282, 3, none⟩ = some (.int .i64 ((rd_T35 l0_1 t279).f3)) := (blk_cell BK282.out 3).trans rfl
       have hcz32_4 : wc.cell? ⟨gb282, 4, none⟩ = some (.int .i64 ((rd_T35 l0_1 t279).f4)) := (blk_cell BK282.out 4).trans rfl
       have hcz32_5 : wc.cell? ⟨gb282, 5, none⟩ = some (.int .i64 ((rd_T35 l0_1 t279).f5)) := (blk_cell BK282.out 5).trans rfl
       have hcz32_6 : wc.cell? ⟨gb282, 6, none⟩ = some (.int .i64 ((rd_T35 l0_1 t279).f6)) := (blk_cell BK282.out 6).trans rfl
       have hcz32_7 : wc.cell? ⟨gb282, 7, none⟩ = some (.int .i64 ((rd_T35 l0_1 t279).f7)) := (blk_cell BK282.out 7).trans rfl
       have hcz32_8 : wc.cell? ⟨gb282, 8, none⟩ = some (.int .i64 ((rd_T35 l0_1 t279).f8)) := (blk_cell BK282.out 8).trans rfl
       have hfz32_0 := blk_frozen BK282.out 0
       have hfz32_1 := blk_frozen BK282.out 1
       have hfz32_2 := blk_frozen BK282.out 2
       have hfz32_3 := blk_frozen BK282.out 3
       have hfz32_4 := blk_frozen BK282.out 4
       have hfz32_5 := blk_frozen BK282.out 5
       have hfz32_6 := blk_frozen BK282.out 6
       have hfz32_7 := blk_frozen BK282.out 7
       have hfz32_8 := blk_frozen BK282.out 8
       go_wp2
       go_ret2
       exact ⟨by first | rfl | (simp [errW_none, errW_some] <;> rfl) | (simp [*, errW_none, errW_some] <;> rfl), by repeat (first | (with_reducible first | exact HB.out | apply bA_ | apply bN_ | apply bD_ | refine bS_ ?_ GE278.out | refine bS_ ?_ GE282.out) | exact HB.out)⟩
    replace c13 := Bool.eq_false_iff.mpr c13
    subst c13
    have H1 : (some (0, 10)) = some (r1, r2) := by rw [if_neg (show ¬ (false = true) by decide)] at H; exact H
    clear H
    have H := H1
    clear H1
    simp only [Option.some.injEq, Prod.mk.injEq] at H
    obtain ⟨rfl, rfl⟩ := H
    go_enter Tryd.func48, Tryd.ntmps48
    go_wp2_with (first | ((with_reducible refine gate_dst (N := 7) rfl ?_); refine box_event ?hg (N := 7) ?hd (cs := #[.string a0_0, .slice A0_1 l0_1.length c0_1]) (t := 24) ?hr ?_; (case hd => rfl); (case hg => rfl); (case hr => first | (go_simp; done) | (go_simp; rfl)); intro gb278 hg w33 hbox hb; have n0_ := Aside0.mk (below_step (bk_ HB.out) hb); have n1_ := Aside0.mk (hbox); have n2_ := Aside0.mk ((by rw [hg]; exact (below_size (bk_ HB.out)) : w.heap.size ≤ gb278)); have n3_ := Aside0.mk ((by rw [hg]; exact (below_size (bk_ HB.out)) : w.heap.size ≤ gb278)); clear HB; have HB := n0_; have BK278 := n1_; have GW278 := n2_; have GE278 := n3_; clear n0_ n1_ n2_ n3_; clear hb hbox hg; have hcz34_0 : w33.cell? ⟨gb278, 0, none⟩ = some (.string a0_0) := (blk_cell BK278.out 0).trans rfl; have hcz34_1 : w33.cell? ⟨gb278, 1, none⟩ = some (.slice A0_1 l0_1.length c0_1) := (blk_cell BK278.out 1).trans rfl; have hfz34_0 := blk_frozen BK278.out 0; have hfz34_1 := blk_frozen BK278.out 1) | ((with_reducible refine gate_callee (f := 19) rfl ?_); refine goesL_ (some 23) rfl rfl Tryd.func19 (by kernel_rfl) rfl #[.agg #[.string a0_0, .slice A0_1 l0_1.length c0_1], .string a1, .string a2] rfl (by (try simp only [List.map_toArray, List.map_cons, List.map_nil]); first | done | rfl | (simp only [List.length_drop, List.length_take]; rfl)) ?_; (with_reducible refine (kerbsuiteref12_Find.calls k a0_0 _ _ l0_1 a1 a2 t279 t280 _ ?side1 ?side2 A8.out).mono ?_); (case side1 => repeat (first | exact (Kd.C_below HR0_1.out HB.out) | (with_reducible refine Kd.C_alloc ?_ _) | (with_reducible refine Kd.C_drewN ?_ _) | (with_reducible refine Kd.C_drew ?_))); (case side2 => exact HC0_1.out); rintro e w35 ⟨rfl, hb⟩; refine ⟨_, rfl, ?_⟩; have n0_ := Aside0.mk (blk_below (g := gb278) (o := .cells #[.string a0_0, .slice A0_1 l0_1.length c0_1] 24 (0, 0)) (bk_ BK278.out) hb); have n1_ := Aside0.mk (below_step (by repeat (first | (with_reducible first | exact HB.out | apply bA_ | apply bN_ | apply bD_ | refine bS_ ?_ GE278.out) | exact HB.out)) hb); clear BK278 HB; have BK278 := n0_; have HB := n1_; clear n0_ n1_; (try clear hb); (try clear hb2); (try clear hk); (try clear hi); have hcz36_0 : w35.cell? ⟨gb278, 0, none⟩ = some (.string a0_0) := (blk_cell BK278.out 0).trans rfl; have hcz36_1 : w35.cell? ⟨gb278, 1, none⟩ = some (.slice A0_1 l0_1.length c0_1) := (blk_cell BK278.out 1).trans rfl; have hfz36_0 := blk_frozen BK278.out 0; have hfz36_1 := blk_frozen BK278.out 1; have p281 : 0 ≤ (t279 : Int) := of_decide_eq_true (by first | (with_reducible assumption) | assumption); have q281 : t279 < (l0_1.length : Int) := of_decide_eq_true (by first | (with_reducible assumption) | assumption); obtain ⟨ad281, e281, hx281_0, hx281_1, hx281_2, hx281_3, hx281_4, hx281_5, hx281_6, hx281_7, hx281_8⟩ := at_T35 HR0_1.out t279 p281 q281; cases e281; replace hx281_0 := (HB.out.cell (World.block_lt_of_cell? w _ hx281_0)).trans hx281_0; replace hx281_1 := (HB.out.cell (World.block_lt_of_cell? w _ hx281_1)).trans hx281_1; replace hx281_2 := (HB.out.cell (World.block_lt_of_cell? w _ hx281_2)).trans hx281_2; replace hx281_3 := (HB.out.cell (World.block_lt_of_cell? w _ hx281_3)).trans hx281_3; replace hx281_4 := (HB.out.cell (World.block_lt_of_cell? w _ hx281_4)).trans hx281_4; replace hx281_5 := (HB.out.cell (World.block_lt_of_cell? w _ hx281_5)).trans hx281_5; replace hx281_6 := (HB.out.cell (World.block_lt_of_cell? w _ hx281_6)).trans hx281_6; replace hx281_7 := (HB.out.cell (World.block_lt_of_cell? w _ hx281_7)).trans hx281_7; replace hx281_8 := (HB.out.cell (World.block_lt_of_cell? w _ hx281_8)).trans hx281_8; replace p281 := eq_true p281; replace q281 := eq_true q281) | ((with_reducible refine gate_dst (N := 18) rfl ?_); refine box_event ?hg (N := 18) ?hd (cs := #[.string (⟨#[]⟩ : ByteArray), .string (⟨#[]⟩ : ByteArray), .int .u64 0, .int .i64 0, .int .i64 0, .int .i64 0, .int .i64 0, .int .i64 0, .int .i64 0]) (t := 35) ?hr ?_; (case hd => rfl); (case hg => rfl); (case hr => first | (go_simp; done) | (go_simp; rfl)); intro gb282 hg w37 hbox hb; have n0_ := Aside0.mk (blk_below (g := gb278) (o := .cells #[.string a0_0, .slice (some ad281) l0_1.length c0_1] 24 (0, 0)) (bk_ BK278.out) hb); have n1_ := Aside0.mk (below_step (by repeat (first | (with_reducible first | exact HB.out | apply bA_ | apply bN_ | apply bD_ | refine bS_ ?_ GE278.out) | exact HB.out)) hb); have n2_ := Aside0.mk (hbox); have n3_ := Aside0.mk ((by rw [hg]; exact (below_size (by repeat (first | (with_reducible first | exact HB.out | apply bA_ | apply bN_ | apply bD_ | refine bS_ ?_ GE278.out) | exact HB.out))) : w.heap.size ≤ gb282)); have n4_ := Aside0.mk ((by rw [hg]; exact (below_size (by repeat (first | (with_reducible first | exact HB.out | apply bA_ | apply bN_ | apply bD_ | refine bS_ ?_ GE278.out) | exact HB.out))) : w.heap.size ≤ gb282)); have n5_ := Aside0.mk ((by rw [hg]; exact Nat.ne_of_lt (blk_lt (g := gb278) (o := .cells #[.string a0_0, .slice (some ad281) l0_1.length c0_1] 24 (0, 0)) (bk_ BK278.out)) : gb278 ≠ gb282)); have n6_ := Aside0.mk ((by rw [hg]; exact Nat.ne_of_gt (blk_lt (g := gb278) (o := .cells #[.string a0_0, .slice (some ad281) l0_1.length c0_1] 24 (0, 0)) (bk_ BK278.out)) : gb282 ≠ gb278)); clear BK278 HB; have BK278 := n0_; have HB := n1_; have BK282 := n2_; have GW282 := n3_; have GE282 := n4_; have NB278_282 := n5_; have NB282_278 := n6_; clear n0_ n1_ n2_ n3_ n4_ n5_ n6_; clear hb hbox hg; have hnb38 := NB282_278.out; have hnc38 := NB278_282.out; have hcz39_0 : w37.cell? ⟨gb282, 0, none⟩ = some (.string (⟨#[]⟩ : ByteArray)) := (blk_cell BK282.out 0).trans rfl; have hcz39_1 : w37.cell? ⟨gb282, 1, none⟩ = some (.string (⟨#[]⟩ : ByteArray)) := (blk_cell BK282.out 1).trans rfl; have hcz39_2 : w37.cell? ⟨gb282, 2, none⟩ = some (.int .u64 0) := (blk_cell BK282.out 2).trans rfl; have hcz39_3 : w37.cell? ⟨gb282, 3, none⟩ = some (.int .i64 0) := (blk_cell BK282.out 3).trans rfl; have hcz39_4 : w37.cell? ⟨gb282, 4, none⟩ = some (.int .i64 0) := (blk_cell BK282.out 4).trans rfl; have hcz39_5 : w37.cell? ⟨gb282, 5, none⟩ = some (.int .i64 0) := (blk_cell BK282.out 5).trans rfl; have hcz39_6 : w37.cell? ⟨gb282, 6, none⟩ = some (.int .i64 0) := (blk_cell BK282.out 6).trans rfl; have hcz39_7 : w37.cell? ⟨gb282, 7, none⟩ = some (.int .i64 0) := (blk_cell BK282.out 7).trans rfl; have hcz39_8 : w37.cell? ⟨gb282, 8, none⟩ = some (.int .i64 0) := (blk_cell BK282.out 8).trans rfl; have hfz39_0 := blk_frozen BK282.out 0; have hfz39_1 := blk_frozen BK282.out 1; have hfz39_2 := blk_frozen BK282.out 2; have hfz39_3 := blk_frozen BK282.out 3; have hfz39_4 := blk_frozen BK282.out 4; have hfz39_5 := blk_frozen BK282.out 5; have hfz39_6 := blk_frozen BK282.out 6; have hfz39_7 := blk_frozen BK282.out 7; have hfz39_8 := blk_frozen BK282.out 8) | ((with_reducible refine gate_callee (f := 45) rfl ?_); refine goesL_ (some 36) rfl rfl Tryd.func45 (by kernel_rfl) rfl #[.int .u64 ((rd_T35 l0_1 t279).f2)] rfl (by (try simp only [List.map_toArray, List.map_cons, List.map_nil]); first | done | rfl | (simp only [List.length_drop, List.length_take]; rfl)) ?_; (with_reducible refine (kerbsuiteref3_Valid.calls ((rd_T35 l0_1 t279).f2) false _ A12.out).mono ?_); rintro e w' ⟨rfl, ⟨nd, rfl⟩⟩; refine ⟨_, rfl, ?_⟩))
    go_ret2
    exact ⟨by first | rfl | (simp [errW_none, errW_some] <;> rfl) | (simp [*, errW_none, errW_some] <;> rfl), by repeat (first | (with_reducible first | exact HB.out | apply bA_ | apply bN_ | apply bD_ | refine bS_ ?_ GE278.out | refine bS_ ?_ GE282.out) | exact HB.out)⟩
   rw [if_neg c11] at H
   exact absurd H (by simp)
  rw [if_neg c10] at H
  exact absurd H (by simp)
 rw [if_neg c9] at H
 have c9b0 : (t280 == 0) = false := beq_eq_false_iff_ne.mpr c9
 have c9b1 : (t280 != 0) = true := bne_iff_ne.mpr c9
 simp only [Option.some.injEq, Prod.mk.injEq] at H
 obtain ⟨rfl, rfl⟩ := H
 go_enter Tryd.func48, Tryd.ntmps48
 go_wp2_with (first | ((with_reducible refine gate_dst (N := 7) rfl ?_); refine box_event ?hg (N := 7) ?hd (cs := #[.string a0_0, .slice A0_1 l0_1.length c0_1]) (t := 24) ?hr ?_; (case hd => rfl); (case hg => rfl); (case hr => first | (go_simp; done) | (go_simp; rfl)); intro gb278 hg w40 hbox hb; have n0_ := Aside0.mk (below_step (bk_ HB.out) hb); have n1_ := Aside0.mk (hbox); have n2_ := Aside0.mk ((by rw [hg]; exact (below_size (bk_ HB.out)) : w.heap.size ≤ gb278)); have n3_ := Aside0.mk ((by rw [hg]; exact (below_size (bk_ HB.out)) : w.heap.size ≤ gb278)); clear HB; have HB := n0_; have BK278 := n1_; have GW278 := n2_; have GE278 := n3_; clear n0_ n1_ n2_ n3_; clear hb hbox hg; have hcz41_0 : w40.cell? ⟨gb278, 0, none⟩ = some (.string a0_0) := (blk_cell BK278.out 0).trans rfl; have hcz41_1 : w40.cell? ⟨gb278, 1, none⟩ = some (.slice A0_1 l0_1.length c0_1) := (blk_cell BK278.out 1).trans rfl; have hfz41_0 := blk_frozen BK278.out 0; have hfz41_1 := blk_frozen BK278.out 1) | ((with_reducible refine gate_callee (f := 19) rfl ?_); refine goesL_ (some 23) rfl rfl Tryd.func19 (by kernel_rfl) rfl #[.agg #[.string a0_0, .slice A0_1 l0_1.length c0_1], .string a1, .string a2] rfl (by (try simp only [List.map_toArray, List.map_cons, List.map_nil]); first | done | rfl | (simp only [List.length_drop, List.length_take]; rfl)) ?_; (with_reducible refine (kerbsuiteref12_Find.calls k a0_0 _ _ l0_1 a1 a2 t279 t280 _ ?side1 ?side2 A8.out).mono ?_); (case side1 => repeat (first | exact (Kd.C_below HR0_1.out HB.out) | (with_reducible refine Kd.C_alloc ?_ _) | (with_reducible refine Kd.C_drewN ?_ _) | (with_reducible refine Kd.C_drew ?_))); (case side2 => exact HC0_1.out); rintro e w42 ⟨rfl, hb⟩; refine ⟨_, rfl, ?_⟩; have n0_ := Aside0.mk (blk_below (g := gb278) (o := .cells #[.string a0_0, .slice A0_1 l0_1.length c0_1] 24 (0, 0)) (bk_ BK278.out) hb); have n1_ := Aside0.mk (below_step (by repeat (first | (with_reducible first | exact HB.out | apply bA_ | apply bN_ | apply bD_ | refine bS_ ?_ GE278.out) | exact HB.out)) hb); clear BK278 HB; have BK278 := n0_; have HB := n1_; clear n0_ n1_; (try clear hb); (try clear hb2); (try clear hk); (try clear hi)))
 go_ret2
 exact ⟨by first | rfl | (simp [errW_none, errW_some] <;> rfl) | (simp [*, errW_none, errW_some] <;> rfl), by repeat (first | (with_reducible first | exact HB.out | apply bA_ | apply bN_ | apply bD_ | refine bS_ ?_ GE278.out) | exact HB.out)⟩

/-! ### kerbsuiteref12_Client: function 21 -/
def kerbsuiteref12_Client.f (k : Nat) (a0_0 : ByteArray) (l0_1 : List (S35)) (a1 : ByteArray) (a2 : ByteArray) (a3 : Int) : Option (Int × Int) := (kerbsuiteref12_use.f k a0_0 l0_1 a1 a2 a3 1 1 5).bind fun bt285 => (some (bt285.1, bt285.2))
theorem kerbsuiteref12_Client.mono : ∀ a0 a1 a2 a3 a4 k, LeO (kerbsuiteref12_Client.f k a0 a1 a2 a3 a4) (kerbsuiteref12_Client.f (k + 1) a0 a1 a2 a3 a4) := by
 intro a0 a1 a2 a3 a4 k
 unfold kerbsuiteref12_Client.f
 repeat' first
   | (with_reducible exact kerbsuiteref12_use.mono _ _ _ _ _ _ _ _ _)
   | (with_reducible exact LeO.refl _)
   | (with_reducible exact LeO.none _)
   | (with_reducible refine LeO.ite ?_ ?_)
   | (with_reducible refine LeO.bind ?_ (fun _ => ?_))
   | exact kerbsuiteref12_use.mono _ _ _ _ _ _ _ _ _
   | exact LeO.none _
   | refine LeO.ite ?_ ?_
   | refine LeO.bind ?_ (fun _ => ?_)
set_option maxHeartbeats 8000000 in
set_option maxRecDepth 100000 in
theorem kerbsuiteref12_Client.calls (k : Nat) (a0_0 : ByteArray) (A0_1 : Option Addr) (c0_1 : Nat) (l0_1 : List (S35)) (a1 : ByteArray) (a2 : ByteArray) (a3 : Int) (r1 : Int) (r2 : Int) (w : World) (hr0_1 : Kd.C k35 w A0_1 l0_1.length l0_1) (hc0_1 : l0_1.length ≤ c0_1) (h : kerbsuiteref12_Client.f k a0_0 l0_1 a1 a2 a3 = some (r1, r2)) :
  Calls Tryd.prog 21 #[.agg #[.string a0_0, .slice A0_1 l0_1.length c0_1], .string a1, .string a2, .int .i64 a3] w fun e w' => e = .returned (.tuple #[.int .i64 r1, .int .i64 r2]) ∧ Below w.heap.size w w' := by
 have hu24 := Tryd.underlying24
 have HR0_1 := Aside0.mk hr0_1
 have HC0_1 := Aside0.mk hc0_1
 clear hr0_1 hc0_1
 have HB := Aside0.mk (Below.refl w.heap.size w)
 have H : ((kerbsuiteref12_use.f k a0_0 l0_1 a1 a2 a3 1 1 5).bind fun bt285 => (some (bt285.1, bt285.2))) = some (r1, r2) := h
 clear h
 replace H := Option.bind_eq_some_iff.mp H
 obtain ⟨⟨t285, t286⟩, A50, H⟩ := H
 replace H : (some (t285, t286)) = some (r1, r2) := H
 have A5 := Aside0.mk A50
 clear A50
 simp only [Option.some.injEq, Prod.mk.injEq] at H
 obtain ⟨rfl, rfl⟩ := H
 go_enter Tryd.func21, Tryd.ntmps21
 go_wp2_with (first | ((with_reducible refine gate_dst (N := 4) rfl ?_); refine box_event ?hg (N := 4) ?hd (cs := #[.string a0_0, .slice A0_1 l0_1.length c0_1]) (t := 24) ?hr ?_; (case hd => rfl); (case hg => rfl); (case hr => first | (go_simp; done) | (go_simp; rfl)); intro gb284 hg w6 hbox hb; have n0_ := Aside0.mk (below_step (bk_ HB.out) hb); have n1_ := Aside0.mk (hbox); have n2_ := Aside0.mk ((by rw [hg]; exact (below_size (bk_ HB.out)) : w.heap.size ≤ gb284)); have n3_ := Aside0.mk ((by rw [hg]; exact (below_size (bk_ HB.out)) : w.heap.size ≤ gb284)); clear HB; have HB := n0_; have BK284 := n1_; have GW284 := n2_; have GE284 := n3_; clear n0_ n1_ n2_ n3_; clear hb hbox hg; have hcz7_0 : w6.cell? ⟨gb284, 0, none⟩ = some (.string a0_0) := (blk_cell BK284.out 0).trans rfl; have hcz7_1 : w6.cell? ⟨gb284, 1, none⟩ = some (.slice A0_1 l0_1.length c0_1) := (blk_cell BK284.out 1).trans rfl; have hfz7_0 := blk_frozen BK284.out 0; have hfz7_1 := blk_frozen BK284.out 1) | ((with_reducible refine gate_callee (f := 48) rfl ?_); refine goesL_ (some 14) rfl rfl Tryd.func48 (by kernel_rfl) rfl #[.agg #[.string a0_0, .slice A0_1 l0_1.length c0_1], .string a1, .string a2, .int .i64 a3, .int .i64 1, .int .i64 1, .int .i64 5] rfl (by (try simp only [List.map_toArray, List.map_cons, List.map_nil]); first | done | rfl | (simp only [List.length_drop, List.length_take]; rfl)) ?_; (with_reducible refine (kerbsuiteref12_use.calls k a0_0 _ _ l0_1 a1 a2 a3 1 1 5 t285 t286 _ ?side1 ?side2 A5.out).mono ?_); (case side1 => repeat (first | exact (Kd.C_below HR0_1.out HB.out) | (with_reducible refine Kd.C_alloc ?_ _) | (with_reducible refine Kd.C_drewN ?_ _) | (with_reducible refine Kd.C_drew ?_))); (case side2 => exact HC0_1.out); rintro e w8 ⟨rfl, hb⟩; refine ⟨_, rfl, ?_⟩; have n0_ := Aside0.mk (blk_below (g := gb284) (o := .cells #[.string a0_0, .slice A0_1 l0_1.length c0_1] 24 (0, 0)) (bk_ BK284.out) hb); have n1_ := Aside0.mk (below_step (by repeat (first | (with_reducible first | exact HB.out | apply bA_ | apply bN_ | apply bD_ | refine bS_ ?_ GE284.out) | exact HB.out)) hb); clear BK284 HB; have BK284 := n0_; have HB := n1_; clear n0_ n1_; (try clear hb); (try clear hb2); (try clear hk); (try clear hi)))
 go_ret2
 exact ⟨by first | rfl | (simp [errW_none, errW_some] <;> rfl) | (simp [*, errW_none, errW_some] <;> rfl), by repeat (first | (with_reducible first | exact HB.out | apply bA_ | apply bN_ | apply bD_ | refine bS_ ?_ GE284.out) | exact HB.out)⟩

/-! ### database_Service: function 22 -/
def database_Service.f (k : Nat) (a0_0 : ByteArray) (l0_1 : List (S35)) (a1 : ByteArray) (a2 : ByteArray) (a3 : Int) : Option (Int × Int) := (database_usable.f k a0_0 l0_1 a1 a2 a3 2 2 6).bind fun bt288 => (some (bt288.1, bt288.2))
theorem database_Service.mono : ∀ a0 a1 a2 a3 a4 k, LeO (database_Service.f k a0 a1 a2 a3 a4) (database_Service.f (k + 1) a0 a1 a2 a3 a4) := by
 intro a0 a1 a2 a3 a4 k
 unfold database_Service.f
 repeat' first
   | (with_reducible exact database_usable.mono _ _ _ _ _ _ _ _ _)
   | (with_reducible exact LeO.refl _)
   | (with_reducible exact LeO.none _)
   | (with_reducible refine LeO.ite ?_ ?_)
   | (with_reducible refine LeO.bind ?_ (fun _ => ?_))
   | exact database_usable.mono _ _ _ _ _ _ _ _ _
   | exact LeO.none _
   | refine LeO.ite ?_ ?_
   | refine LeO.bind ?_ (fun _ => ?_)
set_option maxHeartbeats 8000000 in
set_option maxRecDepth 100000 in
theorem database_Service.calls (k : Nat) (a0_0 : ByteArray) (A0_1 : Option Addr) (c0_1 : Nat) (l0_1 : List (S35)) (a1 : ByteArray) (a2 : ByteArray) (a3 : Int) (r1 : Int) (r2 : Int) (w : World) (hr0_1 : Kd.C k35 w A0_1 l0_1.length l0_1) (hc0_1 : l0_1.length ≤ c0_1) (h : database_Service.f k a0_0 l0_1 a1 a2 a3 = some (r1, r2)) :
  Calls Tryd.prog 22 #[.agg #[.string a0_0, .slice A0_1 l0_1.length c0_1], .string a1, .string a2, .int .i64 a3] w fun e w' => e = .returned (.tuple #[.int .i64 r1, .int .i64 r2]) ∧ Below w.heap.size w w' := by
 have hu24 := Tryd.underlying24
 have HR0_1 := Aside0.mk hr0_1
 have HC0_1 := Aside0.mk hc0_1
 clear hr0_1 hc0_1
 have HB := Aside0.mk (Below.refl w.heap.size w)
 have H : ((database_usable.f k a0_0 l0_1 a1 a2 a3 2 2 6).bind fun bt288 => (some (bt288.1, bt288.2))) = some (r1, r2) := h
 clear h
 replace H := Option.bind_eq_some_iff.mp H
 obtain ⟨⟨t288, t289⟩, A50, H⟩ := H
 replace H : (some (t288, t289)) = some (r1, r2) := H
 have A5 := Aside0.mk A50
 clear A50
 simp only [Option.some.injEq, Prod.mk.injEq] at H
 obtain ⟨rfl, rfl⟩ := H
 go_enter Tryd.func22, Tryd.ntmps22
 go_wp2_with (first | ((with_reducible refine gate_dst (N := 4) rfl ?_); refine box_event ?hg (N := 4) ?hd (cs := #[.string a0_0, .slice A0_1 l0_1.length c0_1]) (t := 24) ?hr ?_; (case hd => rfl); (case hg => rfl); (case hr => first | (go_simp; done) | (go_simp; rfl)); intro gb287 hg w6 hbox hb; have n0_ := Aside0.mk (below_step (bk_ HB.out) hb); have n1_ := Aside0.mk (hbox); have n2_ := Aside0.mk ((by rw [hg]; exact (below_size (bk_ HB.out)) : w.heap.size ≤ gb287)); have n3_ := Aside0.mk ((by rw [hg]; exact (below_size (bk_ HB.out)) : w.heap.size ≤ gb287)); clear HB; have HB := n0_; have BK287 := n1_; have GW287 := n2_; have GE287 := n3_; clear n0_ n1_ n2_ n3_; clear hb hbox hg; have hcz7_0 : w6.cell? ⟨gb287, 0, none⟩ = some (.string a0_0) := (blk_cell BK287.out 0).trans rfl; have hcz7_1 : w6.cell? ⟨gb287, 1, none⟩ = some (.slice A0_1 l0_1.length c0_1) := (blk_cell BK287.out 1).trans rfl; have hfz7_0 := blk_frozen BK287.out 0; have hfz7_1 := blk_frozen BK287.out 1) | ((with_reducible refine gate_callee (f := 47) rfl ?_); refine goesL_ (some 14) rfl rfl Tryd.func47 (by kernel_rfl) rfl #[.agg #[.string a0_0, .slice A0_1 l0_1.length c0_1], .string a1, .string a2, .int .i64 a3, .int .i64 2, .int .i64 2, .int .i64 6] rfl (by (try simp only [List.map_toArray, List.map_cons, List.map_nil]); first | done | rfl | (simp only [List.length_drop, List.length_take]; rfl)) ?_; (with_reducible refine (database_usable.calls k a0_0 _ _ l0_1 a1 a2 a3 2 2 6 t288 t289 _ ?side1 ?side2 A5.out).mono ?_); (case side1 => repeat (first | exact (Kd.C_below HR0_1.out HB.out) | (with_reducible refine Kd.C_alloc ?_ _) | (with_reducible refine Kd.C_drewN ?_ _) | (with_reducible refine Kd.C_drew ?_))); (case side2 => exact HC0_1.out); rintro e w8 ⟨rfl, hb⟩; refine ⟨_, rfl, ?_⟩; have n0_ := Aside0.mk (blk_below (g := gb287) (o := .cells #[.string a0_0, .slice A0_1 l0_1.length c0_1] 24 (0, 0)) (bk_ BK287.out) hb); have n1_ := Aside0.mk (below_step (by repeat (first | (with_reducible first | exact HB.out | apply bA_ | apply bN_ | apply bD_ | refine bS_ ?_ GE287.out) | exact HB.out)) hb); clear BK287 HB; have BK287 := n0_; have HB := n1_; clear n0_ n1_; (try clear hb); (try clear hb2); (try clear hk); (try clear hi)))
 go_ret2
 exact ⟨by first | rfl | (simp [errW_none, errW_some] <;> rfl) | (simp [*, errW_none, errW_some] <;> rfl), by repeat (first | (with_reducible first | exact HB.out | apply bA_ | apply bN_ | apply bD_ | refine bS_ ?_ GE287.out) | exact HB.out)⟩

/-! ### kerbsuiteref12_Service: function 23 -/
def kerbsuiteref12_Service.f (k : Nat) (a0_0 : ByteArray) (l0_1 : List (S35)) (a1 : ByteArray) (a2 : ByteArray) (a3 : Int) : Option (Int × Int) := (kerbsuiteref12_use.f k a0_0 l0_1 a1 a2 a3 2 2 6).bind fun bt291 => (some (bt291.1, bt291.2))
theorem kerbsuiteref12_Service.mono : ∀ a0 a1 a2 a3 a4 k, LeO (kerbsuiteref12_Service.f k a0 a1 a2 a3 a4) (kerbsuiteref12_Service.f (k + 1) a0 a1 a2 a3 a4) := by
 intro a0 a1 a2 a3 a4 k
 unfold kerbsuiteref12_Service.f
 repeat' first
   | (with_reducible exact kerbsuiteref12_use.mono _ _ _ _ _ _ _ _ _)
   | (with_reducible exact LeO.refl _)
   | (with_reducible exact LeO.none _)
   | (with_reducible refine LeO.ite ?_ ?_)
   | (with_reducible refine LeO.bind ?_ (fun _ => ?_))
   | exact kerbsuiteref12_use.mono _ _ _ _ _ _ _ _ _
   | exact LeO.none _
   | refine LeO.ite ?_ ?_
   | refine LeO.bind ?_ (fun _ => ?_)
set_option maxHeartbeats 8000000 in
set_option maxRecDepth 100000 in
theorem kerbsuiteref12_Service.calls (k : Nat) (a0_0 : ByteArray) (A0_1 : Option Addr) (c0_1 : Nat) (l0_1 : List (S35)) (a1 : ByteArray) (a2 : ByteArray) (a3 : Int) (r1 : Int) (r2 : Int) (w : World) (hr0_1 : Kd.C k35 w A0_1 l0_1.length l0_1) (hc0_1 : l0_1.length ≤ c0_1) (h : kerbsuiteref12_Service.f k a0_0 l0_1 a1 a2 a3 = some (r1, r2)) :
  Calls Tryd.prog 23 #[.agg #[.string a0_0, .slice A0_1 l0_1.length c0_1], .string a1, .string a2, .int .i64 a3] w fun e w' => e = .returned (.tuple #[.int .i64 r1, .int .i64 r2]) ∧ Below w.heap.size w w' := by
 have hu24 := Tryd.underlying24
 have HR0_1 := Aside0.mk hr0_1
 have HC0_1 := Aside0.mk hc0_1
 clear hr0_1 hc0_1
 have HB := Aside0.mk (Below.refl w.heap.size w)
 have H : ((kerbsuiteref12_use.f k a0_0 l0_1 a1 a2 a3 2 2 6).bind fun bt291 => (some (bt291.1, bt291.2))) = some (r1, r2) := h
 clear h
 replace H := Option.bind_eq_some_iff.mp H
 obtain ⟨⟨t291, t292⟩, A50, H⟩ := H
 replace H : (some (t291, t292)) = some (r1, r2) := H
 have A5 := Aside0.mk A50
 clear A50
 simp only [Option.some.injEq, Prod.mk.injEq] at H
 obtain ⟨rfl, rfl⟩ := H
 go_enter Tryd.func23, Tryd.ntmps23
 go_wp2_with (first | ((with_reducible refine gate_dst (N := 4) rfl ?_); refine box_event ?hg (N := 4) ?hd (cs := #[.string a0_0, .slice A0_1 l0_1.length c0_1]) (t := 24) ?hr ?_; (case hd => rfl); (case hg => rfl); (case hr => first | (go_simp; done) | (go_simp; rfl)); intro gb290 hg w6 hbox hb; have n0_ := Aside0.mk (below_step (bk_ HB.out) hb); have n1_ := Aside0.mk (hbox); have n2_ := Aside0.mk ((by rw [hg]; exact (below_size (bk_ HB.out)) : w.heap.size ≤ gb290)); have n3_ := Aside0.mk ((by rw [hg]; exact (below_size (bk_ HB.out)) : w.heap.size ≤ gb290)); clear HB; have HB := n0_; have BK290 := n1_; have GW290 := n2_; have GE290 := n3_; clear n0_ n1_ n2_ n3_; clear hb hbox hg; have hcz7_0 : w6.cell? ⟨gb290, 0, none⟩ = some (.string a0_0) := (blk_cell BK290.out 0).trans rfl; have hcz7_1 : w6.cell? ⟨gb290, 1, none⟩ = some (.slice A0_1 l0_1.length c0_1) := (blk_cell BK290.out 1).trans rfl; have hfz7_0 := blk_frozen BK290.out 0; have hfz7_1 := blk_frozen BK290.out 1) | ((with_reducible refine gate_callee (f := 48) rfl ?_); refine goesL_ (some 14) rfl rfl Tryd.func48 (by kernel_rfl) rfl #[.agg #[.string a0_0, .slice A0_1 l0_1.length c0_1], .string a1, .string a2, .int .i64 a3, .int .i64 2, .int .i64 2, .int .i64 6] rfl (by (try simp only [List.map_toArray, List.map_cons, List.map_nil]); first | done | rfl | (simp only [List.length_drop, List.length_take]; rfl)) ?_; (with_reducible refine (kerbsuiteref12_use.calls k a0_0 _ _ l0_1 a1 a2 a3 2 2 6 t291 t292 _ ?side1 ?side2 A5.out).mono ?_); (case side1 => repeat (first | exact (Kd.C_below HR0_1.out HB.out) | (with_reducible refine Kd.C_alloc ?_ _) | (with_reducible refine Kd.C_drewN ?_ _) | (with_reducible refine Kd.C_drew ?_))); (case side2 => exact HC0_1.out); rintro e w8 ⟨rfl, hb⟩; refine ⟨_, rfl, ?_⟩; have n0_ := Aside0.mk (blk_below (g := gb290) (o := .cells #[.string a0_0, .slice A0_1 l0_1.length c0_1] 24 (0, 0)) (bk_ BK290.out) hb); have n1_ := Aside0.mk (below_step (by repeat (first | (with_reducible first | exact HB.out | apply bA_ | apply bN_ | apply bD_ | refine bS_ ?_ GE290.out) | exact HB.out)) hb); clear BK290 HB; have BK290 := n0_; have HB := n1_; clear n0_ n1_; (try clear hb); (try clear hb2); (try clear hk); (try clear hi)))
 go_ret2
 exact ⟨by first | rfl | (simp [errW_none, errW_some] <;> rfl) | (simp [*, errW_none, errW_some] <;> rfl), by repeat (first | (with_reducible first | exact HB.out | apply bA_ | apply bN_ | apply bD_ | refine bS_ ?_ GE290.out) | exact HB.out)⟩

end Go.Proofs.YthfdfoigoomaoaaDoor.PDb
