/- The walks of functions of the translation: each call returns what the plain function beside it says. -/
import Derived.Test.YthfdfoigoomaoaaDoorPDbx0
import Derived.Test.YthfdfoigoomaoaaDoorPDbx1
namespace Go.Proofs.YthfdfoigoomaoaaDoor.PDb
open Go.RowKit Go.Proofs.YthfdfoigoomaoaaDoorW.PrintWords Go.Proofs.YthfdfoigoomaoaaDoorW.PrintLast Go.Proofs.YthfdfoigoomaoaaDoorW.PrintMore Go.Proofs.YthfdfoigoomaoaaDoor.Aid
attribute [local go_sem] max2_int min2_int max_two min_two max_three min_three max_four min_four aid_str_gtr aid_str_leq   -- for this text's walks alone
set_option linter.unusedVariables false
set_option linter.unusedSimpArgs false

/-! ### database_CheckEntry: function 14 -/
mutual
def database_CheckEntry.j0 : Nat → Bool → ByteArray → ByteArray → Int → Int → Int → Int → Int → Int → Int → Option (Int)
 | 0, _, _, _, _, _, _, _, _, _, _ => none
 | k + 1, x3, x112000, x112001, x112002, x112003, x112004, x112005, x112006, x112007, x112008 => if x3 = true then (some 103) else (if x112002 = 0 then (database_CheckEntry.j1 k false x112000 x112001 x112002 x112003 x112004 x112005 x112006 x112007 x112008) else ((key_Valid.f x112002).bind fun t114 => (database_CheckEntry.j1 k (!t114) x112000 x112001 x112002 x112003 x112004 x112005 x112006 x112007 x112008)))
def database_CheckEntry.j1 : Nat → Bool → ByteArray → ByteArray → Int → Int → Int → Int → Int → Int → Int → Option (Int)
 | 0, _, _, _, _, _, _, _, _, _, _ => none
 | k + 1, x14, x112000, x112001, x112002, x112003, x112004, x112005, x112006, x112007, x112008 => if x14 = true then (some 10) else ((database_outside.f x112003 255).bind fun t115 => (if t115 = true then (some 104) else ((database_outside.f x112004 4294967295).bind fun t116 => (if t116 = true then (some 104) else ((database_outside.f x112008 4294967295).bind fun t117 => (if t117 = true then (some 104) else ((database_outside.f x112005 255).bind fun t118 => (if t118 = true then (some 104) else ((database_outside.f x112006 3).bind fun t119 => (if t119 = true then (some 104) else ((database_outside.f x112007 20).bind fun t120 => (if t120 = true then (some 104) else (some 0)))))))))))))
end
def database_CheckEntry.f (k : Nat) (a0_0 : ByteArray) (a0_1 : ByteArray) (a0_2 : Int) (a0_3 : Int) (a0_4 : Int) (a0_5 : Int) (a0_6 : Int) (a0_7 : Int) (a0_8 : Int) : Option (Int) := (principal_ValidName.f k a0_0).bind fun t112 => (if t112 = true then ((principal_ValidInstance.f k a0_1).bind fun t113 => (database_CheckEntry.j0 k (!t113) a0_0 a0_1 a0_2 a0_3 a0_4 a0_5 a0_6 a0_7 a0_8)) else (database_CheckEntry.j0 k true a0_0 a0_1 a0_2 a0_3 a0_4 a0_5 a0_6 a0_7 a0_8))
theorem database_CheckEntry.mono_l : ∀ k, (∀ y0 y1 y2 y3 y4 y5 y6 y7 y8 y9, LeO (database_CheckEntry.j0 k y0 y1 y2 y3 y4 y5 y6 y7 y8 y9) (database_CheckEntry.j0 (k + 1) y0 y1 y2 y3 y4 y5 y6 y7 y8 y9)) ∧ (∀ y0 y1 y2 y3 y4 y5 y6 y7 y8 y9, LeO (database_CheckEntry.j1 k y0 y1 y2 y3 y4 y5 y6 y7 y8 y9) (database_CheckEntry.j1 (k + 1) y0 y1 y2 y3 y4 y5 y6 y7 y8 y9))
 | 0 => ⟨fun _ _ _ _ _ _ _ _ _ _ r h => by simp [database_CheckEntry.j0] at h, fun _ _ _ _ _ _ _ _ _ _ r h => by simp [database_CheckEntry.j1] at h⟩
 | k + 1 => by
  obtain ⟨ih0, ih1⟩ := database_CheckEntry.mono_l k
  refine ⟨?_, ?_⟩
  ·intro y0 y1 y2 y3 y4 y5 y6 y7 y8 y9
   unfold database_CheckEntry.j0
   repeat' first
   | (with_reducible exact ih0 _ _ _ _ _ _ _ _ _ _)
   | (with_reducible exact ih1 _ _ _ _ _ _ _ _ _ _)
   | (with_reducible exact principal_ValidInstance.mono _ _)
   | (with_reducible exact principal_ValidName.mono _ _)
   | (with_reducible exact LeO.refl _)
   | (with_reducible exact LeO.none _)
   | (with_reducible refine LeO.ite ?_ ?_)
   | (with_reducible refine LeO.bind ?_ (fun _ => ?_))
   | exact ih0 _ _ _ _ _ _ _ _ _ _
   | exact ih1 _ _ _ _ _ _ _ _ _ _
   | exact principal_ValidInstance.mono _ _
   | exact principal_ValidName.mono _ _
   | exact LeO.none _
   | refine LeO.ite ?_ ?_
   | refine LeO.bind ?_ (fun _ => ?_)
  intro y0 y1 y2 y3 y4 y5 y6 y7 y8 y9
  unfold database_CheckEntry.j1
  repeat' first
  | (with_reducible exact ih0 _ _ _ _ _ _ _ _ _ _)
  | (with_reducible exact ih1 _ _ _ _ _ _ _ _ _ _)
  | (with_reducible exact principal_ValidInstance.mono _ _)
  | (with_reducible exact principal_ValidName.mono _ _)
  | (with_reducible exact LeO.refl _)
  | (with_reducible exact LeO.none _)
  | (with_reducible refine LeO.ite ?_ ?_)
  | (with_reducible refine LeO.bind ?_ (fun _ => ?_))
  | exact ih0 _ _ _ _ _ _ _ _ _ _
  | exact ih1 _ _ _ _ _ _ _ _ _ _
  | exact principal_ValidInstance.mono _ _
  | exact principal_ValidName.mono _ _
  | exact LeO.none _
  | refine LeO.ite ?_ ?_
  | refine LeO.bind ?_ (fun _ => ?_)
theorem database_CheckEntry.mono : ∀ a0 a1 a2 a3 a4 a5 a6 a7 a8 k, LeO (database_CheckEntry.f k a0 a1 a2 a3 a4 a5 a6 a7 a8) (database_CheckEntry.f (k + 1) a0 a1 a2 a3 a4 a5 a6 a7 a8) := by
 intro a0 a1 a2 a3 a4 a5 a6 a7 a8 k
 obtain ⟨ih0, ih1⟩ := database_CheckEntry.mono_l k
 unfold database_CheckEntry.f
 repeat' first
   | (with_reducible exact ih0 _ _ _ _ _ _ _ _ _ _)
   | (with_reducible exact ih1 _ _ _ _ _ _ _ _ _ _)
   | (with_reducible exact principal_ValidInstance.mono _ _)
   | (with_reducible exact principal_ValidName.mono _ _)
   | (with_reducible exact LeO.refl _)
   | (with_reducible exact LeO.none _)
   | (with_reducible refine LeO.ite ?_ ?_)
   | (with_reducible refine LeO.bind ?_ (fun _ => ?_))
   | exact ih0 _ _ _ _ _ _ _ _ _ _
   | exact ih1 _ _ _ _ _ _ _ _ _ _
   | exact principal_ValidInstance.mono _ _
   | exact principal_ValidName.mono _ _
   | exact LeO.none _
   | refine LeO.ite ?_ ?_
   | refine LeO.bind ?_ (fun _ => ?_)
set_option maxHeartbeats 8000000 in
set_option maxRecDepth 100000 in
theorem database_CheckEntry.calls (k : Nat) (a0_0 : ByteArray) (a0_1 : ByteArray) (a0_2 : Int) (a0_3 : Int) (a0_4 : Int) (a0_5 : Int) (a0_6 : Int) (a0_7 : Int) (a0_8 : Int) (r : Int) (w : World) (h : database_CheckEntry.f k a0_0 a0_1 a0_2 a0_3 a0_4 a0_5 a0_6 a0_7 a0_8 = some r) :
  Calls Tryd.prog 14 #[.agg #[.string a0_0, .string a0_1, .int .u64 a0_2, .int .i64 a0_3, .int .i64 a0_4, .int .i64 a0_5, .int .i64 a0_6, .int .i64 a0_7, .int .i64 a0_8]] w fun e w' => e = .returned (.int .i64 r) ∧ Below w.heap.size w w' := by
 have hu35 := Tryd.underlying35
 have HB := Aside0.mk (Below.refl w.heap.size w)
 have H : ((principal_ValidName.f k a0_0).bind fun t112 => (if t112 = true then ((principal_ValidInstance.f k a0_1).bind fun t113 => (database_CheckEntry.j0 k (!t113) a0_0 a0_1 a0_2 a0_3 a0_4 a0_5 a0_6 a0_7 a0_8)) else (database_CheckEntry.j0 k true a0_0 a0_1 a0_2 a0_3 a0_4 a0_5 a0_6 a0_7 a0_8))) = some r := h
 clear h
 have HC2 := Aside0.mk H
 clear H
 go_enter Tryd.func14, Tryd.ntmps14
 go_upto_region 1 with (first | ((with_reducible refine gate_dst (N := 1) rfl ?_); refine box_event ?hg (N := 1) ?hd (cs := #[.string a0_0, .string a0_1, .int .u64 a0_2, .int .i64 a0_3, .int .i64 a0_4, .int .i64 a0_5, .int .i64 a0_6, .int .i64 a0_7, .int .i64 a0_8]) (t := 35) ?hr ?_; (case hd => rfl); (case hg => rfl); (case hr => first | (go_simp; done) | (go_simp; rfl)); intro gb111 hg w3 hbox hb; have n0_ := Aside0.mk (below_step (bk_ HB.out) hb); have n1_ := Aside0.mk (hbox); have n2_ := Aside0.mk ((by rw [hg]; exact (below_size (bk_ HB.out)) : w.heap.size ≤ gb111)); have n3_ := Aside0.mk ((by rw [hg]; exact (below_size (bk_ HB.out)) : w.heap.size ≤ gb111)); clear HB; have HB := n0_; have BK111 := n1_; have GW111 := n2_; have GE111 := n3_; clear n0_ n1_ n2_ n3_; clear hb hbox hg))
 (try simp only [Act.put, sA_, sB_, sC_])
 go_cut [3] (fun v3 wc => ∃ (kq : Nat) (x3_1 : Bool), v3 = .bool x3_1 ∧ Aside0 (database_CheckEntry.j0 kq x3_1 a0_0 a0_1 a0_2 a0_3 a0_4 a0_5 a0_6 a0_7 a0_8 = some r) ∧ Aside0 (kq ≤ k) ∧ Aside0 (wc.heap[gb111]? = some (.cells #[.string a0_0, .string a0_1, .int .u64 a0_2, .int .i64 a0_3, .int .i64 a0_4, .int .i64 a0_5, .int .i64 a0_6, .int .i64 a0_7, .int .i64 a0_8] 35 (0, 0))) ∧ Aside0 (Below w.heap.size w wc))
 case first =>
  have H := HC2.out
  clear HC2
  replace H := Option.bind_eq_some_iff.mp H
  obtain ⟨t112, A40, H⟩ := H
  replace H : (if t112 = true then ((principal_ValidInstance.f k a0_1).bind fun t113 => (database_CheckEntry.j0 k (!t113) a0_0 a0_1 a0_2 a0_3 a0_4 a0_5 a0_6 a0_7 a0_8)) else (database_CheckEntry.j0 k true a0_0 a0_1 a0_2 a0_3 a0_4 a0_5 a0_6 a0_7 a0_8)) = some r := H
  have A4 := Aside0.mk A40
  clear A40
  by_cases c5 : t112 = true
  ·subst c5
   have H1 : ((principal_ValidInstance.f k a0_1).bind fun t113 => (database_CheckEntry.j0 k (!t113) a0_0 a0_1 a0_2 a0_3 a0_4 a0_5 a0_6 a0_7 a0_8)) = some r := by rw [if_pos rfl] at H; exact H
   clear H
   have H := H1
   clear H1
   replace H := Option.bind_eq_some_iff.mp H
   obtain ⟨t113, A60, H⟩ := H
   replace H : (database_CheckEntry.j0 k (!t113) a0_0 a0_1 a0_2 a0_3 a0_4 a0_5 a0_6 a0_7 a0_8) = some r := H
   have A6 := Aside0.mk A60
   clear A60
   have H' := Aside0.mk H
   clear H
   have hcz7_0 : w3.cell? ⟨gb111, 0, none⟩ = some (.string a0_0) := (blk_cell BK111.out 0).trans rfl
   have hcz7_1 : w3.cell? ⟨gb111, 1, none⟩ = some (.string a0_1) := (blk_cell BK111.out 1).trans rfl
   have hcz7_2 : w3.cell? ⟨gb111, 2, none⟩ = some (.int .u64 a0_2) := (blk_cell BK111.out 2).trans rfl
   have hcz7_3 : w3.cell? ⟨gb111, 3, none⟩ = some (.int .i64 a0_3) := (blk_cell BK111.out 3).trans rfl
   have hcz7_4 : w3.cell? ⟨gb111, 4, none⟩ = some (.int .i64 a0_4) := (blk_cell BK111.out 4).trans rfl
   have hcz7_5 : w3.cell? ⟨gb111, 5, none⟩ = some (.int .i64 a0_5) := (blk_cell BK111.out 5).trans rfl
   have hcz7_6 : w3.cell? ⟨gb111, 6, none⟩ = some (.int .i64 a0_6) := (blk_cell BK111.out 6).trans rfl
   have hcz7_7 : w3.cell? ⟨gb111, 7, none⟩ = some (.int .i64 a0_7) := (blk_cell BK111.out 7).trans rfl
   have hcz7_8 : w3.cell? ⟨gb111, 8, none⟩ = some (.int .i64 a0_8) := (blk_cell BK111.out 8).trans rfl
   have hfz7_0 := blk_frozen BK111.out 0
   have hfz7_1 := blk_frozen BK111.out 1
   have hfz7_2 := blk_frozen BK111.out 2
   have hfz7_3 := blk_frozen BK111.out 3
   have hfz7_4 := blk_frozen BK111.out 4
   have hfz7_5 := blk_frozen BK111.out 5
   have hfz7_6 := blk_frozen BK111.out 6
   have hfz7_7 := blk_frozen BK111.out 7
   have hfz7_8 := blk_frozen BK111.out 8
   go_wp2_with (first | ((with_reducible refine gate_callee (f := 39) rfl ?_); refine goesL_ (some 6) rfl rfl Tryd.func39 (by kernel_rfl) rfl #[.string a0_0] rfl (by (try simp only [List.map_toArray, List.map_cons, List.map_nil]); first | done | rfl | (simp only [List.length_drop, List.length_take]; rfl)) ?_; (with_reducible refine (principal_ValidName.calls k a0_0 true _ A4.out).mono ?_); rintro e w' ⟨rfl, ⟨nd, rfl⟩⟩; refine ⟨_, rfl, ?_⟩) | (go_at_call 40; (with_reducible refine (principal_ValidInstance.calls k a0_1 t113 _ A6.out).mono ?_); rintro e w' ⟨rfl, ⟨nd, rfl⟩⟩))
   go_meet
   case rel => exact ⟨_, (!t113), (by first | rfl | (simp; done) | (simp [*]; done)), H', ⟨by first | omega | exact Nat.le_refl _⟩, ⟨by refine bk_ ?_; exact BK111.out⟩, ⟨by repeat (first | (with_reducible first | exact HB.out | apply bA_ | apply bN_ | apply bD_ | refine bS_ ?_ GE111.out) | exact HB.out)⟩⟩
  replace c5 := Bool.eq_false_iff.mpr c5
  subst c5
  have H1 : (database_CheckEntry.j0 k true a0_0 a0_1 a0_2 a0_3 a0_4 a0_5 a0_6 a0_7 a0_8) = some r := by rw [if_neg (show ¬ (false = true) by decide)] at H; exact H
  clear H
  have H := H1
  clear H1
  have H' := Aside0.mk H
  clear H
  have hcz8_0 : w3.cell? ⟨gb111, 0, none⟩ = some (.string a0_0) := (blk_cell BK111.out 0).trans rfl
  have hcz8_1 : w3.cell? ⟨gb111, 1, none⟩ = some (.string a0_1) := (blk_cell BK111.out 1).trans rfl
  have hcz8_2 : w3.cell? ⟨gb111, 2, none⟩ = some (.int .u64 a0_2) := (blk_cell BK111.out 2).trans rfl
  have hcz8_3 : w3.cell? ⟨gb111, 3, none⟩ = some (.int .i64 a0_3) := (blk_cell BK111.out 3).trans rfl
  have hcz8_4 : w3.cell? ⟨gb111, 4, none⟩ = some (.int .i64 a0_4) := (blk_cell BK111.out 4).trans rfl
  have hcz8_5 : w3.cell? ⟨gb111, 5, none⟩ = some (.int .i64 a0_5) := (blk_cell BK111.out 5).trans rfl
  have hcz8_6 : w3.cell? ⟨gb111, 6, none⟩ = some (.int .i64 a0_6) := (blk_cell BK111.out 6).trans rfl
  have hcz8_7 : w3.cell? ⟨gb111, 7, none⟩ = some (.int .i64 a0_7) := (blk_cell BK111.out 7).trans rfl
  have hcz8_8 : w3.cell? ⟨gb111, 8, none⟩ = some (.int .i64 a0_8) := (blk_cell BK111.out 8).trans rfl
  have hfz8_0 := blk_frozen BK111.out 0
  have hfz8_1 := blk_frozen BK111.out 1
  have hfz8_2 := blk_frozen BK111.out 2
  have hfz8_3 := blk_frozen BK111.out 3
  have hfz8_4 := blk_frozen BK111.out 4
  have hfz8_5 := blk_frozen BK111.out 5
  have hfz8_6 := blk_frozen BK111.out 6
  have hfz8_7 := blk_frozen BK111.out 7
  have hfz8_8 := blk_frozen BK111.out 8
  go_wp2_with (first | ((with_reducible refine gate_callee (f := 39) rfl ?_); refine goesL_ (some 6) rfl rfl Tryd.func39 (by kernel_rfl) rfl #[.string a0_0] rfl (by (try simp only [List.map_toArray, List.map_cons, List.map_nil]); first | done | rfl | (simp only [List.length_drop, List.length_take]; rfl)) ?_; (with_reducible refine (principal_ValidName.calls k a0_0 false _ A4.out).mono ?_); rintro e w' ⟨rfl, ⟨nd, rfl⟩⟩; refine ⟨_, rfl, ?_⟩))
  go_meet
  case rel => exact ⟨_, (true), (by first | rfl | (simp; done) | (simp [*]; done)), H', ⟨by first | omega | exact Nat.le_refl _⟩, ⟨by refine bk_ ?_; exact BK111.out⟩, ⟨by repeat (first | (with_reducible first | exact HB.out | apply bA_ | apply bN_ | apply bD_ | refine bS_ ?_ GE111.out) | exact HB.out)⟩⟩
 case rest =>
  clear HC2
  try clear c1
  try clear p2
  try clear c3
  try clear c5
  try clear hcz7_0
  try clear hcz7_1
  try clear hcz7_2
  try clear hcz7_3
  try clear hcz7_4
  try clear hcz7_5
  try clear hcz7_6
  try clear hcz7_7
  try clear hcz7_8
  try clear hcz8_0
  try clear hcz8_1
  try clear hcz8_2
  try clear hcz8_3
  try clear hcz8_4
  try clear hcz8_5
  try clear hcz8_6
  try clear hcz8_7
  try clear hcz8_8
  try clear hfz7_0
  try clear hfz7_1
  try clear hfz7_2
  try clear hfz7_3
  try clear hfz7_4
  try clear hfz7_5
  try clear hfz7_6
  try clear hfz7_7
  try clear hfz7_8
  try clear hfz8_0
  try clear hfz8_1
  try clear hfz8_2
  try clear hfz8_3
  try clear hfz8_4
  try clear hfz8_5
  try clear hfz8_6
  try clear hfz8_7
  try clear hfz8_8
  obtain ⟨kq, x3_1, rfl, HA, HJ1, BK111, HB⟩ := hcut
  cases kq with
  | zero => exact absurd HA.out (by simp [database_CheckEntry.j0])
  | succ kj1 =>
   have H := HA.out
   clear HA
   simp only [database_CheckEntry.j0] at H
   by_cases c9 : x3_1 = true
   ·subst c9
    have H1 : (some 103) = some r := by rw [if_pos rfl] at H; exact H
    clear H
    have H := H1
    clear H1
    obtain rfl := Option.some.inj H
    go_wp2
    go_ret
    exact ⟨by first | rfl | (simp [errW_none, errW_some] <;> rfl) | (simp [*, errW_none, errW_some] <;> rfl), by repeat (first | (with_reducible first | exact HB.out | apply bA_ | apply bN_ | apply bD_ | refine bS_ ?_ GE111.out) | exact HB.out)⟩
   replace c9 := Bool.eq_false_iff.mpr c9
   subst c9
   have H1 : (if a0_2 = 0 then (database_CheckEntry.j1 kj1 false a0_0 a0_1 a0_2 a0_3 a0_4 a0_5 a0_6 a0_7 a0_8) else ((key_Valid.f a0_2).bind fun t114 => (database_CheckEntry.j1 kj1 (!t114) a0_0 a0_1 a0_2 a0_3 a0_4 a0_5 a0_6 a0_7 a0_8))) = some r := by rw [if_neg (show ¬ (false = true) by decide)] at H; exact H
   clear H
   have H := H1
   clear H1
   have HC10 := Aside0.mk H
   clear H
   go_upto_region 3 with (fail)
   go_cut [14] (fun v14 wc => ∃ (kq : Nat) (x14_9 : Bool), v14 = .bool x14_9 ∧ Aside0 (database_CheckEntry.j1 kq x14_9 a0_0 a0_1 a0_2 a0_3 a0_4 a0_5 a0_6 a0_7 a0_8 = some r) ∧ Aside0 (kq ≤ kj1) ∧ Aside0 (wc.heap[gb111]? = some (.cells #[.string a0_0, .string a0_1, .int .u64 a0_2, .int .i64 a0_3, .int .i64 a0_4, .int .i64 a0_5, .int .i64 a0_6, .int .i64 a0_7, .int .i64 a0_8] 35 (0, 0))) ∧ Aside0 (Below w.heap.size w wc))
   case first =>
    have H := HC10.out
    clear HC10
    by_cases c11 : a0_2 = 0
    ·rw [if_pos c11] at H
     have c11b0 : (a0_2 == 0) = true := beq_iff_eq.mpr c11
     have c11b1 : (a0_2 != 0) = false := bne_eq_false_iff_eq.mpr c11
     clear c11
     (first | rw [c11b0] | (simp only [i64_w, i32_w]; rw [c11b0]) | skip)
     have H' := Aside0.mk H
     clear H
     have hcz12_0 : wc.cell? ⟨gb111, 0, none⟩ = some (.string a0_0) := (blk_cell BK111.out 0).trans rfl
     have hcz12_1 : wc.cell? ⟨gb111, 1, none⟩ = some (.string a0_1) := (blk_cell BK111.out 1).trans rfl
     have hcz12_2 : wc.cell? ⟨gb111, 2, none⟩ = some (.int .u64 a0_2) := (blk_cell BK111.out 2).trans rfl
     have hcz12_3 : wc.cell? ⟨gb111, 3, none⟩ = some (.int .i64 a0_3) := (blk_cell BK111.out 3).trans rfl
     have hcz12_4 : wc.cell? ⟨gb111, 4, none⟩ = some (.int .i64 a0_4) := (blk_cell BK111.out 4).trans rfl
     have hcz12_5 : wc.cell? ⟨gb111, 5, none⟩ = some (.int .i64 a0_5) := (blk_cell BK111.out 5).trans rfl
     have hcz12_6 : wc.cell? ⟨gb111, 6, none⟩ = some (.int .i64 a0_6) := (blk_cell BK111.out 6).trans rfl
     have hcz12_7 : wc.cell? ⟨gb111, 7, none⟩ = some (.int .i64 a0_7) := (blk_cell BK111.out 7).trans rfl
     have hcz12_8 : wc.cell? ⟨gb111, 8, none⟩ = some (.int .i64 a0_8) := (blk_cell BK111.out 8).trans rfl
     have hfz12_0 := blk_frozen BK111.out 0
     have hfz12_1 := blk_frozen BK111.out 1
     have hfz12_2 := blk_frozen BK111.out 2
     have hfz12_3 := blk_frozen BK111.out 3
     have hfz12_4 := blk_frozen BK111.out 4
     have hfz12_5 := blk_frozen BK111.out 5
     have hfz12_6 := blk_frozen BK111.out 6
     have hfz12_7 := blk_frozen BK111.out 7
     have hfz12_8 := blk_frozen BK111.out 8
     go_wp2
     go_meet
     case rel => exact ⟨_, (false), (by first | rfl | (simp; done) | (simp [*]; done)), H', ⟨by have := HJ1.out; first | omega | exact Nat.le_refl _⟩, ⟨by refine bk_ ?_; exact BK111.out⟩, ⟨by repeat (first | (with_reducible first | exact HB.out | apply bA_ | apply bN_ | apply bD_ | refine bS_ ?_ GE111.out) | exact HB.out)⟩⟩
    rw [if_neg c11] at H
    have c11b0 : (a0_2 == 0) = false := beq_eq_false_iff_ne.mpr c11
    have c11b1 : (a0_2 != 0) = true := bne_iff_ne.mpr c11
    (first | rw [c11b0] | (simp only [i64_w, i32_w]; rw [c11b0]) | skip)
    replace H := Option.bind_eq_some_iff.mp H
    obtain ⟨t114, A130, H⟩ := H
    replace H : (database_CheckEntry.j1 kj1 (!t114) a0_0 a0_1 a0_2 a0_3 a0_4 a0_5 a0_6 a0_7 a0_8) = some r := H
    have A13 := Aside0.mk A130
    clear A130
    have H' := Aside0.mk H
    clear H
    have hcz14_0 : wc.cell? ⟨gb111, 0, none⟩ = some (.string a0_0) := (blk_cell BK111.out 0).trans rfl
    have hcz14_1 : wc.cell? ⟨gb111, 1, none⟩ = some (.string a0_1) := (blk_cell BK111.out 1).trans rfl
    have hcz14_2 : wc.cell? ⟨gb111, 2, none⟩ = some (.int .u64 a0_2) := (blk_cell BK111.out 2).trans rfl
    have hcz14_3 : wc.cell? ⟨gb111, 3, none⟩ = some (.int .i64 a0_3) := (blk_cell BK111.out 3).trans rfl
    have hcz14_4 : wc.cell? ⟨gb111, 4, none⟩ = some (.int .i64 a0_4) := (blk_cell BK111.out 4).trans rfl
    have hcz14_5 : wc.cell? ⟨gb111, 5, none⟩ = some (.int .i64 a0_5) := (blk_cell BK111.out 5).trans rfl
    have hcz14_6 : wc.cell? ⟨gb111, 6, none⟩ = some (.int .i64 a0_6) := (blk_cell BK111.out 6).trans rfl
    have hcz14_7 : wc.cell? ⟨gb111, 7, none⟩ = some (.int .i64 a0_7) := (blk_cell BK111.out 7).trans rfl
    have hcz14_8 : wc.cell? ⟨gb111, 8, none⟩ = some (.int .i64 a0_8) := (blk_cell BK111.out 8).trans rfl
    have hfz14_0 := blk_frozen BK111.out 0
    have hfz14_1 := blk_frozen BK111.out 1
    have hfz14_2 := blk_frozen BK111.out 2
    have hfz14_3 := blk_frozen BK111.out 3
    have hfz14_4 := blk_frozen BK111.out 4
    have hfz14_5 := blk_frozen BK111.out 5
    have hfz14_6 := blk_frozen BK111.out 6
    have hfz14_7 := blk_frozen BK111.out 7
    have hfz14_8 := blk_frozen BK111.out 8
    go_wp2_with (first | (go_at_call 41; (with_reducible refine (key_Valid.calls a0_2 t114 _ A13.out).mono ?_); rintro e w' ⟨rfl, ⟨nd, rfl⟩⟩))
    go_meet
    case rel => exact ⟨_, (!t114), (by first | rfl | (simp; done) | (simp [*]; done)), H', ⟨by have := HJ1.out; first | omega | exact Nat.le_refl _⟩, ⟨by refine bk_ ?_; exact BK111.out⟩, ⟨by repeat (first | (with_reducible first | exact HB.out | apply bA_ | apply bN_ | apply bD_ | refine bS_ ?_ GE111.out) | exact HB.out)⟩⟩
   case rest =>
    clear HC10
    try clear c1
    try clear p2
    try clear c3
    try clear c5
    try clear c9
    try clear c11
    try clear c11b0
    try clear c11b1
    try clear c14
    try clear hcz12_0
    try clear hcz12_1
    try clear hcz12_2
    try clear hcz12_3
    try clear hcz12_4
    try clear hcz12_5
    try clear hcz12_6
    try clear hcz12_7
    try clear hcz12_8
    try clear hcz14_0
    try clear hcz14_1
    try clear hcz14_2
    try clear hcz14_3
    try clear hcz14_4
    try clear hcz14_5
    try clear hcz14_6
    try clear hcz14_7
    try clear hcz14_8
    try clear hcz7_0
    try clear hcz7_1
    try clear hcz7_2
    try clear hcz7_3
    try clear hcz7_4
    try clear hcz7_5
    try clear hcz7_6
    try clear hcz7_7
    try clear hcz7_8
    try clear hcz8_0
    try clear hcz8_1
    try clear hcz8_2
    try clear hcz8_3
    try clear hcz8_4
    try clear hcz8_5
    try clear hcz8_6
    try clear hcz8_7
    try clear hcz8_8
    try clear hfz12_0
    try clear hfz12_1
    try clear hfz12_2
    try clear hfz12_3
    try clear hfz12_4
    try clear hfz12_5
    try clear hfz12_6
    try clear hfz12_7
    try clear hfz12_8
    try clear hfz14_0
    try clear hfz14_1
    try clear hfz14_2
    try clear hfz14_3
    try clear hfz14_4
    try clear hfz14_5
    try clear hfz14_6
    try clear hfz14_7
    try clear hfz14_8
    try clear hfz7_0
    try clear hfz7_1
    try clear hfz7_2
    try clear hfz7_3
    try clear hfz7_4
    try clear hfz7_5
    try clear hfz7_6
    try clear hfz7_7
    try clear hfz7_8
    try clear hfz8_0
    try clear hfz8_1
    try clear hfz8_2
    try clear hfz8_3
    try clear hfz8_4
    try clear hfz8_5
    try clear hfz8_6
    try clear hfz8_7
    try clear hfz8_8
    try clear p2
    obtain ⟨kq, x14_9, rfl, HA, HJ9, BK111, HB⟩ := hcut
    cases kq with
    | zero => exact absurd HA.out (by simp [database_CheckEntry.j1])
    | succ kj9 =>
     have H := HA.out
     clear HA
     simp only [database_CheckEntry.j1] at H
     by_cases c15 : x14_9 = true
     ·subst c15
      have H1 : (some 10) = some r := by rw [if_pos rfl] at H; exact H
      clear H
      have H := H1
      clear H1
      obtain rfl := Option.some.inj H
      go_wp2
      go_ret
      exact ⟨by first | rfl | (simp [errW_none, errW_some] <;> rfl) | (simp [*, errW_none, errW_some] <;> rfl), by repeat (first | (with_reducible first | exact HB.out | apply bA_ | apply bN_ | apply bD_ | refine bS_ ?_ GE111.out) | exact HB.out)⟩
     replace c15 := Bool.eq_false_iff.mpr c15
     subst c15
     have H1 : ((database_outside.f a0_3 255).bind fun t115 => (if t115 = true then (some 104) else ((database_outside.f a0_4 4294967295).bind fun t116 => (if t116 = true then (some 104) else ((database_outside.f a0_8 4294967295).bind fun t117 => (if t117 = true then (some 104) else ((database_outside.f a0_5 255).bind fun t118 => (if t118 = true then (some 104) else ((database_outside.f a0_6 3).bind fun t119 => (if t119 = true then (some 104) else ((database_outside.f a0_7 20).bind fun t120 => (if t120 = true then (some 104) else (some 0))))))))))))) = some r := by rw [if_neg (show ¬ (false = true) by decide)] at H; exact H
     clear H
     have H := H1
     clear H1
     replace H := Option.bind_eq_some_iff.mp H
     obtain ⟨t115, A160, H⟩ := H
     replace H : (if t115 = true then (some 104) else ((database_outside.f a0_4 4294967295).bind fun t116 => (if t116 = true then (some 104) else ((database_outside.f a0_8 4294967295).bind fun t117 => (if t117 = true then (some 104) else ((database_outside.f a0_5 255).bind fun t118 => (if t118 = true then (some 104) else ((database_outside.f a0_6 3).bind fun t119 => (if t119 = true then (some 104) else ((database_outside.f a0_7 20).bind fun t120 => (if t120 = true then (some 104) else (some 0)))))))))))) = some r := H
     have A16 := Aside0.mk A160
     clear A160
     by_cases c17 : t115 = true
     ·subst c17
      have H1 : (some 104) = some r := by rw [if_pos rfl] at H; exact H
      clear H
      have H := H1
      clear H1
      obtain rfl := Option.some.inj H
      have hcz18_0 : wc.cell? ⟨gb111, 0, none⟩ = some (.string a0_0) := (blk_cell BK111.out 0).trans rfl
      have hcz18_1 : wc.cell? ⟨gb111, 1, none⟩ = some (.string a0_1) := (blk_cell BK111.out 1).trans rfl
      have hcz18_2 : wc.cell? ⟨gb111, 2, none⟩ = some (.int .u64 a0_2) := (blk_cell BK111.out 2).trans rfl
      have hcz18_3 : wc.cell? ⟨gb111, 3, none⟩ = some (.int .i64 a0_3) := (blk_cell BK111.out 3).trans rfl
      have hcz18_4 : wc.cell? ⟨gb111, 4, none⟩ = some (.int .i64 a0_4) := (blk_cell BK111.out 4).trans rfl
      have hcz18_5 : wc.cell? ⟨gb111, 5, none⟩ = some (.int .i64 a0_5) := (blk_cell BK111.out 5).trans rfl
      have hcz18_6 : wc.cell? ⟨gb111, 6, none⟩ = some (.int .i64 a0_6) := (blk_cell BK111.out 6).trans rfl
      have hcz18_7 : wc.cell? ⟨gb111, 7, none⟩ = some (.int .i64 a0_7) := (blk_cell BK111.out 7).trans rfl
      have hcz18_8 : wc.cell? ⟨gb111, 8, none⟩ = some (.int .i64 a0_8) := (blk_cell BK111.out 8).trans rfl
      have hfz18_0 := blk_frozen BK111.out 0
      have hfz18_1 := blk_frozen BK111.out 1
      have hfz18_2 := blk_frozen BK111.out 2
      have hfz18_3 := blk_frozen BK111.out 3
      have hfz18_4 := blk_frozen BK111.out 4
      have hfz18_5 := blk_frozen BK111.out 5
      have hfz18_6 := blk_frozen BK111.out 6
      have hfz18_7 := blk_frozen BK111.out 7
      have hfz18_8 := blk_frozen BK111.out 8
      go_wp2_with (first | ((with_reducible refine gate_callee (f := 42) rfl ?_); refine goesL_ (some 27) rfl rfl Tryd.func42 (by kernel_rfl) rfl #[.int .i64 a0_3, .int .i64 255] rfl (by (try simp only [List.map_toArray, List.map_cons, List.map_nil]); first | done | rfl | (simp only [List.length_drop, List.length_take]; rfl)) ?_; (with_reducible refine (database_outside.calls a0_3 255 true _ A16.out).mono ?_); rintro e w' ⟨rfl, ⟨nd, rfl⟩⟩; refine ⟨_, rfl, ?_⟩))
      go_ret
      exact ⟨by first | rfl | (simp [errW_none, errW_some] <;> rfl) | (simp [*, errW_none, errW_some] <;> rfl), by repeat (first | (with_reducible first | exact HB.out | apply bA_ | apply bN_ | apply bD_ | refine bS_ ?_ GE111.out) | exact HB.out)⟩
     replace c17 := Bool.eq_false_iff.mpr c17
     subst c17
     have H1 : ((database_outside.f a0_4 4294967295).bind fun t116 => (if t116 = true then (some 104) else ((database_outside.f a0_8 4294967295).bind fun t117 => (if t117 = true then (some 104) else ((database_outside.f a0_5 255).bind fun t118 => (if t118 = true then (some 104) else ((database_outside.f a0_6 3).bind fun t119 => (if t119 = true then (some 104) else ((database_outside.f a0_7 20).bind fun t120 => (if t120 = true then (some 104) else (some 0))))))))))) = some r := by rw [if_neg (show ¬ (false = true) by decide)] at H; exact H
     clear H
     have H := H1
     clear H1
     replace H := Option.bind_eq_some_iff.mp H
     obtain ⟨t116, A190, H⟩ := H
     replace H : (if t116 = true then (some 104) else ((database_outside.f a0_8 4294967295).bind fun t117 => (if t117 = true then (some 104) else ((database_outside.f a0_5 255).bind fun t118 => (if t118 = true then (some 104) else ((database_outside.f a0_6 3).bind fun t119 => (if t119 = true then (some 104) else ((database_outside.f a0_7 20).bind fun t120 => (if t120 = true then (some 104) else (some 0)))))))))) = some r := H
     have A19 := Aside0.mk A190
     clear A190
     by_cases c20 : t116 = true
     ·subst c20
      have H1 : (some 104) = some r := by rw [if_pos rfl] at H; exact H
      clear H
      have H := H1
      clear H1
      obtain rfl := Option.some.inj H
      have hcz21_0 : wc.cell? ⟨gb111, 0, none⟩ = some (.string a0_0) := (blk_cell BK111.out 0).trans rfl
      have hcz21_1 : wc.cell? ⟨gb111, 1, none⟩ = some (.string a0_1) := (blk_cell BK111.out 1).trans rfl
      have hcz21_2 : wc.cell? ⟨gb111, 2, none⟩ = some (.int .u64 a0_2) := (blk_cell BK111.out 2).trans rfl
      have hcz21_3 : wc.cell? ⟨gb111, 3, none⟩ = some (.int .i64 a0_3) := (blk_cell BK111.out 3).trans rfl
      have hcz21_4 : wc.cell? ⟨gb111, 4, none⟩ = some (.int .i64 a0_4) := (blk_cell BK111.out 4).trans rfl
      have hcz21_5 : wc.cell? ⟨gb111, 5, none⟩ = some (.int .i64 a0_5) := (blk_cell BK111.out 5).trans rfl
      have hcz21_6 : wc.cell? ⟨gb111, 6, none⟩ = some (.int .i64 a0_6) := (blk_cell BK111.out 6).trans rfl
      have hcz21_7 : wc.cell? ⟨gb111, 7, none⟩ = some (.int .i64 a0_7) := (blk_cell BK111.out 7).trans rfl
      have hcz21_8 : wc.cell? ⟨gb111, 8, none⟩ = some (.int .i64 a0_8) := (blk_cell BK111.out 8).trans rfl
      have hfz21_0 := blk_frozen BK111.out 0
      have hfz21_1 := blk_frozen BK111.out 1
      have hfz21_2 := blk_frozen BK111.out 2
      have hfz21_3 := blk_frozen BK111.out 3
      have hfz21_4 := blk_frozen BK111.out 4
      have hfz21_5 := blk_frozen BK111.out 5
      have hfz21_6 := blk_frozen BK111.out 6
      have hfz21_7 := blk_frozen BK111.out 7
      have hfz21_8 := blk_frozen BK111.out 8
      go_wp2_with (first | ((with_reducible refine gate_callee (f := 42) rfl ?_); refine goesL_ (some 27) rfl rfl Tryd.func42 (by kernel_rfl) rfl #[.int .i64 a0_3, .int .i64 255] rfl (by (try simp only [List.map_toArray, List.map_cons, List.map_nil]); first | done | rfl | (simp only [List.length_drop, List.length_take]; rfl)) ?_; (with_reducible refine (database_outside.calls a0_3 255 false _ A16.out).mono ?_); rintro e w' ⟨rfl, ⟨nd, rfl⟩⟩; refine ⟨_, rfl, ?_⟩) | (go_at_call 42; (with_reducible refine (database_outside.calls a0_4 4294967295 true _ A19.out).mono ?_); rintro e w' ⟨rfl, ⟨nd, rfl⟩⟩))
      go_ret
      exact ⟨by first | rfl | (simp [errW_none, errW_some] <;> rfl) | (simp [*, errW_none, errW_some] <;> rfl), by repeat (first | (with_reducible first | exact HB.out | apply bA_ | apply bN_ | apply bD_ | refine bS_ ?_ GE111.out) | exact HB.out)⟩
     replace c20 := Bool.eq_false_iff.mpr c20
     subst c20
     have H1 : ((database_outside.f a0_8 4294967295).bind fun t117 => (if t117 = true then (some 104) else ((database_outside.f a0_5 255).bind fun t118 => (if t118 = true then (some 104) else ((database_outside.f a0_6 3).bind fun t119 => (if t119 = true then (some 104) else ((database_outside.f a0_7 20).bind fun t120 => (if t120 = true then (some 104) else (some 0))))))))) = some r := by rw [if_neg (show ¬ (false = true) by decide)] at H; exact H
     clear H
     have H := H1
     clear H1
     replace H := Option.bind_eq_some_iff.mp H
     obtain ⟨t117, A220, H⟩ := H
     replace H : (if t117 = true then (some 104) else ((database_outside.f a0_5 255).bind fun t118 => (if t118 = true then (some 104) else ((database_outside.f a0_6 3).bind fun t119 => (if t119 = true then (some 104) else ((database_outside.f a0_7 20).bind fun t120 => (if t120 = true then (some 104) else (some 0)))))))) = some r := H
     have A22 := Aside0.mk A220
     clear A220
     by_cases c23 : t117 = true
     ·subst c23
      have H1 : (some 104) = some r := by rw [if_pos rfl] at H; exact H
      clear H
      have H := H1
      clear H1
      obtain rfl := Option.some.inj H
      have hcz24_0 : wc.cell? ⟨gb111, 0, none⟩ = some (.string a0_0) := (blk_cell BK111.out 0).trans rfl
      have hcz24_1 : wc.cell? ⟨gb111, 1, none⟩ = some (.string a0_1) := (blk_cell BK111.out 1).trans rfl
      have hcz24_2 : wc.cell? ⟨gb111, 2, none⟩ = some (.int .u64 a0_2) := (blk_cell BK111.out 2).trans rfl
      have hcz24_3 : wc.cell? ⟨gb111, 3, none⟩ = some (.int .i64 a0_3) := (blk_cell BK111.out 3).trans rfl
      have hcz24_4 : wc.cell? ⟨gb111, 4, none⟩ = some (.int .i64 a0_4) := (blk_cell BK111.out 4).trans rfl
      have hcz24_5 : wc.cell? ⟨gb111, 5, none⟩ = some (.int .i64 a0_5) := (blk_cell BK111.out 5).trans rfl
      have hcz24_6 : wc.cell? ⟨gb111, 6, none⟩ = some (.int .i64 a0_6) := (blk_cell BK111.out 6).trans rfl
      have hcz24_7 : wc.cell? ⟨gb111, 7, none⟩ = some (.int .i64 a0_7) := (blk_cell BK111.out 7).trans rfl
      have hcz24_8 : wc.cell? ⟨gb111, 8, none⟩ = some (.int .i64 a0_8) := (blk_cell BK111.out 8).trans rfl
      have hfz24_0 := blk_frozen BK111.out 0
      have hfz24_1 := blk_frozen BK111.out 1
      have hfz24_2 := blk_frozen BK111.out 2
      have hfz24_3 := blk_frozen BK111.out 3
      have hfz24_4 := blk_frozen BK111.out 4
      have hfz24_5 := blk_frozen BK111.out 5
      have hfz24_6 := blk_frozen BK111.out 6
      have hfz24_7 := blk_frozen BK111.out 7
      have hfz24_8 := blk_frozen BK111.out 8
      go_wp2_with (first | ((with_reducible refine gate_callee (f := 42) rfl ?_); refine goesL_ (some 27) rfl rfl Tryd.func42 (by kernel_rfl) rfl #[.int .i64 a0_3, .int .i64 255] rfl (by (try simp only [List.map_toArray, List.map_cons, List.map_nil]); first | done | rfl | (simp only [List.length_drop, List.length_take]; rfl)) ?_; (with_reducible refine (database_outside.calls a0_3 255 false _ A16.out).mono ?_); rintro e w' ⟨rfl, ⟨nd, rfl⟩⟩; refine ⟨_, rfl, ?_⟩) | (go_at_call 42; (with_reducible refine (database_outside.calls a0_4 4294967295 false _ A19.out).mono ?_); rintro e w' ⟨rfl, ⟨nd, rfl⟩⟩) | (go_at_call 42; (with_reducible refine (database_outside.calls a0_8 4294967295 true _ A22.out).mono ?_); rintro e w' ⟨rfl, ⟨nd, rfl⟩⟩))
      go_ret
      exact ⟨by first | rfl | (simp [errW_none, errW_some] <;> rfl) | (simp [*, errW_none, errW_some] <;> rfl), by repeat (first | (with_reducible first | exact HB.out | apply bA_ | apply bN_ | apply bD_ | refine bS_ ?_ GE111.out) | exact HB.out)⟩
     replace c23 := Bool.eq_false_iff.mpr c23
     subst c23
     have H1 : ((database_outside.f a0_5 255).bind fun t118 => (if t118 = true then (some 104) else ((database_outside.f a0_6 3).bind fun t119 => (if t119 = true then (some 104) else ((database_outside.f a0_7 20).bind fun t120 => (if t120 = true then (some 104) else (some 0))))))) = some r := by rw [if_neg (show ¬ (false = true) by decide)] at H; exact H
     clear H
     have H := H1
     clear H1
     replace H := Option.bind_eq_some_iff.mp H
     obtain ⟨t118, A250, H⟩ := H
     replace H : (if t118 = true then (some 104) else ((database_outside.f a0_6 3).bind fun t119 => (if t119 = true then (some 104) else ((database_outside.f a0_7 20).bind fun t120 => (if t120 = true then (some 104) else (some 0)))))) = some r := H
     have A25 := Aside0.mk A250
     clear A250
     by_cases c26 : t118 = true
     ·subst c26
      have H1 : (some 104) = some r := by rw [if_pos rfl] at H; exact H
      clear H
      have H := H1
      clear H1
      obtain rfl := Option.some.inj H
      have hcz27_0 : wc.cell? ⟨gb111, 0, none⟩ = some (.string a0_0) := (blk_cell BK111.out 0).trans rfl
      have hcz27_1 : wc.cell? ⟨gb111, 1, none⟩ = some (.string a0_1) := (blk_cell BK111.out 1).trans rfl
      have hcz27_2 : wc.cell? ⟨gb111, 2, none⟩ = some (.int .u64 a0_2) := (blk_cell BK111.out 2).trans rfl
      have hcz27_3 : wc.cell? ⟨gb111, 3, none⟩ = some (.int .i64 a0_3) := (blk_cell BK111.out 3).trans rfl
      have hcz27_4 : wc.cell? ⟨gb111, 4, none⟩ = some (.int .i64 a0_4) := (blk_cell BK111.out 4).trans rfl
      have hcz27_5 : wc.cell? ⟨gb111, 5, none⟩ = some (.int .i64 a0_5) := (blk_cell BK111.out 5).trans rfl
      have hcz27_6 : wc.cell? ⟨gb111, 6, none⟩ = some (.int .i64 a0_6) := (blk_cell BK111.out 6).trans rfl
      have hcz27_7 : wc.cell? ⟨gb111, 7, none⟩ = some (.int .i64 a0_7) := (blk_cell BK111.out 7).trans rfl
      have hcz27_8 : wc.cell? ⟨gb111, 8, none⟩ = some (.int .i64 a0_8) := (blk_cell BK111.out 8).trans rfl
      have hfz27_0 := blk_frozen BK111.out 0
      have hfz27_1 := blk_frozen BK111.out 1
      have hfz27_2 := blk_frozen BK111.out 2
      have hfz27_3 := blk_frozen BK111.out 3
      have hfz27_4 := blk_frozen BK111.out 4
      have hfz27_5 := blk_frozen BK111.out 5
      have hfz27_6 := blk_frozen BK111.out 6
      have hfz27_7 := blk_frozen BK111.out 7
      have hfz27_8 := blk_frozen BK111.out 8
      go_wp2_with (first | ((with_reducible refine gate_callee (f := 42) rfl ?_); refine goesL_ (some 27) rfl rfl Tryd.func42 (by kernel_rfl) rfl #[.int .i64 a0_3, .int .i64 255] rfl (by (try simp only [List.map_toArray, List.map_cons, List.map_nil]); first | done | rfl | (simp only [List.length_drop, List.length_take]; rfl)) ?_; (with_reducible refine (database_outside.calls a0_3 255 false _ A16.out).mono ?_); rintro e w' ⟨rfl, ⟨nd, rfl⟩⟩; refine ⟨_, rfl, ?_⟩) | (go_at_call 42; (with_reducible refine (database_outside.calls a0_4 4294967295 false _ A19.out).mono ?_); rintro e w' ⟨rfl, ⟨nd, rfl⟩⟩) | (go_at_call 42; (with_reducible refine (database_outside.calls a0_8 4294967295 false _ A22.out).mono ?_); rintro e w' ⟨rfl, ⟨nd, rfl⟩⟩) | (go_at_call 42; (with_reducible refine (database_outside.calls a0_5 255 true _ A25.out).mono ?_); rintro e w' ⟨rfl, ⟨nd, rfl⟩⟩))
      go_ret
      exact ⟨by first | rfl | (simp [errW_none, errW_some] <;> rfl) | (simp [*, errW_none, errW_some] <;> rfl), by repeat (first | (with_reducible first | exact HB.out | apply bA_ | apply bN_ | apply bD_ | refine bS_ ?_ GE111.out) | exact HB.out)⟩
     replace c26 := Bool.eq_false_iff.mpr c26
     subst c26
     have H1 : ((database_outside.f a0_6 3).bind fun t119 => (if t119 = true then (some 104) else ((database_outside.f a0_7 20).bind fun t120 => (if t120 = true then (some 104) else (some 0))))) = some r := by rw [if_neg (show ¬ (false = true) by decide)] at H; exact H
     clear H
     have H := H1
     clear H1
     replace H := Option.bind_eq_some_iff.mp H
     obtain ⟨t119, A280, H⟩ := H
     replace H : (if t119 = true then (some 104) else ((database_outside.f a0_7 20).bind fun t120 => (if t120 = true then (some 104) else (some 0)))) = some r := H
     have A28 := Aside0.mk A280
     clear A280
     by_cases c29 : t119 = true
     ·subst c29
      have H1 : (some 104) = some r := by rw [if_pos rfl] at H; exact H
      clear H
      have H := H1
      clear H1
      obtain rfl := Option.some.inj H
      have hcz30_0 : wc.cell? ⟨gb111, 0, none⟩ = some (.string a0_0) := (blk_cell BK111.out 0).trans rfl
      have hcz30_1 : wc.cell? ⟨gb111, 1, none⟩ = some (.string a0_1) := (blk_cell BK111.out 1).trans rfl
      have hcz30_2 : wc.cell? ⟨gb111, 2, none⟩ = some (.int .u64 a0_2) := (blk_cell BK111.out 2).trans rfl
      have hcz30_3 : wc.cell? ⟨gb111, 3, none⟩ = some (.int .i64 a0_3) := (blk_cell BK111.out 3).trans rfl
      have hcz30_4 : wc.cell? ⟨gb111, 4, none⟩ = some (.int .i64 a0_4) := (blk_cell BK111.out 4).trans rfl
      have hcz30_5 : wc.cell? ⟨gb111, 5, none⟩ = some (.int .i64 a0_5) := (blk_cell BK111.out 5).trans rfl
      have hcz30_6 : wc.cell? ⟨gb111, 6, none⟩ = some (.int .i64 a0_6) := (blk_cell BK111.out 6).trans rfl
      have hcz30_7 : wc.cell? ⟨gb111, 7, none⟩ = some (.int .i64 a0_7) := (blk_cell BK111.out 7).trans rfl
      have hcz30_8 : wc.cell? ⟨gb111, 8, none⟩ = some (.int .i64 a0_8) := (blk_cell BK111.out 8).trans rfl
      have hfz30_0 := blk_frozen BK111.out 0
      have hfz30_1 := blk_frozen BK111.out 1
      have hfz30_2 := blk_frozen BK111.out 2
      have hfz30_3 := blk_frozen BK111.out 3
      have hfz30_4 := blk_frozen BK111.out 4
      have hfz30_5 := blk_frozen BK111.out 5
      have hfz30_6 := blk_frozen BK111.out 6
      have hfz30_7 := blk_frozen BK111.out 7
      have hfz30_8 := blk_frozen BK111.out 8
      go_wp2_with (first | ((with_reducible refine gate_callee (f := 42) rfl ?_); refine goesL_ (some 27) rfl rfl Tryd.func42 (by kernel_rfl) rfl #[.int .i64 a0_3, .int .i64 255] rfl (by (try simp only [List.map_toArray, List.map_cons, List.map_nil]); first | done | rfl | (simp only [List.length_drop, List.length_take]; rfl)) ?_; (with_reducible refine (database_outside.calls a0_3 255 false _ A16.out).mono ?_); rintro e w' ⟨rfl, ⟨nd, rfl⟩⟩; refine ⟨_, rfl, ?_⟩) | (go_at_call 42; (with_reducible refine (database_outside.calls a0_4 4294967295 false _ A19.out).mono ?_); rintro e w' ⟨rfl, ⟨nd, rfl⟩⟩) | (go_at_call 42; (with_reducible refine (database_outside.calls a0_8 4294967295 false _ A22.out).mono ?_); rintro e w' ⟨rfl, ⟨nd, rfl⟩⟩) | (go_at_call 42; (with_reducible refine (database_outside.calls a0_5 255 false _ A25.out).mono ?_); rintro e w' ⟨rfl, ⟨nd, rfl⟩⟩) | (go_at_call 42; (with_reducible refine (database_outside.calls a0_6 3 true _ A28.out).mono ?_); rintro e w' ⟨rfl, ⟨nd, rfl⟩⟩))
      go_ret
      exact ⟨by first | rfl | (simp [errW_none, errW_some] <;> rfl) | (simp [*, errW_none, errW_some] <;> rfl), by repeat (first | (with_reducible first | exact HB.out | apply bA_ | apply bN_ | apply bD_ | refine bS_ ?_ GE111.out) | exact HB.out)⟩
     replace c29 := Bool.eq_false_iff.mpr c29
     subst c29
     have H1 : ((database_outside.f a0_7 20).bind fun t120 => (if t120 = true then (some 104) else (some 0))) = some r := by rw [if_neg (show ¬ (false = true) by decide)] at H; exact H
     clear H
     have H := H1
     clear H1
     replace H := Option.bind_eq_some_iff.mp H
     obtain ⟨t120, A310, H⟩ := H
     replace H : (if t120 = true then (some 104) else (some 0)) = some r := H
     have A31 := Aside0.mk A310
     clear A310
     by_cases c32 : t120 = true
     ·subst c32
      have H1 : (some 104) = some r := by rw [if_pos rfl] at H; exact H
      clear H
      have H := H1
      clear H1
      obtain rfl := Option.some.inj H
      have hcz33_0 : wc.cell? ⟨gb111, 0, none⟩ = some (.string a0_0) := (blk_cell BK111.out 0).trans rfl
      have hcz33_1 : wc.cell? ⟨gb111, 1, none⟩ = some (.string a0_1) := (blk_cell BK111.out 1).trans rfl
      have hcz33_2 : wc.cell? ⟨gb111, 2, none⟩ = some (.int .u64 a0_2) := (blk_cell BK111.out 2).trans rfl
      have hcz33_3 : wc.cell? ⟨gb111, 3, none⟩ = some (.int .i64 a0_3) := (blk_cell BK111.out 3).trans rfl
      have hcz33_4 : wc.cell? ⟨gb111, 4, none⟩ = some (.int .i64 a0_4) := (blk_cell BK111.out 4).trans rfl
      have hcz33_5 : wc.cell? ⟨gb111, 5, none⟩ = some (.int .i64 a0_5) := (blk_cell BK111.out 5).trans rfl
      have hcz33_6 : wc.cell? ⟨gb111, 6, none⟩ = some (.int .i64 a0_6) := (blk_cell BK111.out 6).trans rfl
      have hcz33_7 : wc.cell? ⟨gb111, 7, none⟩ = some (.int .i64 a0_7) := (blk_cell BK111.out 7).trans rfl
      have hcz33_8 : wc.cell? ⟨gb111, 8, none⟩ = some (.int .i64 a0_8) := (blk_cell BK111.out 8).trans rfl
      have hfz33_0 := blk_frozen BK111.out 0
      have hfz33_1 := blk_frozen BK111.out 1
      have hfz33_2 := blk_frozen BK111.out 2
      have hfz33_3 := blk_frozen BK111.out 3
      have hfz33_4 := blk_frozen BK111.out 4
      have hfz33_5 := blk_frozen BK111.out 5
      have hfz33_6 := blk_frozen BK111.out 6
      have hfz33_7 := blk_frozen BK111.out 7
      have hfz33_8 := blk_frozen BK111.out 8
      go_wp2_with (first | ((with_reducible refine gate_callee (f := 42) rfl ?_); refine goesL_ (some 27) rfl rfl Tryd.func42 (by kernel_rfl) rfl #[.int .i64 a0_3, .int .i64 255] rfl (by (try simp only [List.map_toArray, List.map_cons, List.map_nil]); first | done | rfl | (simp only [List.length_drop, List.length_take]; rfl)) ?_; (with_reducible refine (database_outside.calls a0_3 255 false _ A16.out).mono ?_); rintro e w' ⟨rfl, ⟨nd, rfl⟩⟩; refine ⟨_, rfl, ?_⟩) | (go_at_call 42; (with_reducible refine (database_outside.calls a0_4 4294967295 false _ A19.out).mono ?_); rintro e w' ⟨rfl, ⟨nd, rfl⟩⟩) | (go_at_call 42; (with_reducible refine (database_outside.calls a0_8 4294967295 false _ A22.out).mono ?_); rintro e w' ⟨rfl, ⟨nd, rfl⟩⟩) | (go_at_call 42; (with_reducible refine (database_outside.calls a0_5 255 false _ A25.out).mono ?_); rintro e w' ⟨rfl, ⟨nd, rfl⟩⟩) | (go_at_call 42; (with_reducible refine (database_outside.calls a0_6 3 false _ A28.out).mono ?_); rintro e w' ⟨rfl, ⟨nd, rfl⟩⟩) | (go_at_call 42; (with_reducible refine (database_outside.calls a0_7 20 true _ A31.out).mono ?_); rintro e w' ⟨rfl, ⟨nd, rfl⟩⟩))
      go_ret
      exact ⟨by first | rfl | (simp [errW_none, errW_some] <;> rfl) | (simp [*, errW_none, errW_some] <;> rfl), by repeat (first | (with_reducible first | exact HB.out | apply bA_ | apply bN_ | apply bD_ | refine bS_ ?_ GE111.out) | exact HB.out)⟩
     replace c32 := Bool.eq_false_iff.mpr c32
     subst c32
     have H1 : (some 0) = some r := by rw [if_neg (show ¬ (false = true) by decide)] at H; exact H
     clear H
     have H := H1
     clear H1
     obtain rfl := Option.some.inj H
     have hcz34_0 : wc.cell? ⟨gb111, 0, none⟩ = some (.string a0_0) := (blk_cell BK111.out 0).trans rfl
     have hcz34_1 : wc.cell? ⟨gb111, 1, none⟩ = some (.string a0_1) := (blk_cell BK111.out 1).trans rfl
     have hcz34_2 : wc.cell? ⟨gb111, 2, none⟩ = some (.int .u64 a0_2) := (blk_cell BK111.out 2).trans rfl
     have hcz34_3 : wc.cell? ⟨gb111, 3, none⟩ = some (.int .i64 a0_3) := (blk_cell BK111.out 3).trans rfl
     have hcz34_4 : wc.cell? ⟨gb111, 4, none⟩ = some (.int .i64 a0_4) := (blk_cell BK111.out 4).trans rfl
     have hcz34_5 : wc.cell? ⟨gb111, 5, none⟩ = some (.int .i64 a0_5) := (blk_cell BK111.out 5).trans rfl
     have hcz34_6 : wc.cell? ⟨gb111, 6, none⟩ = some (.int .i64 a0_6) := (blk_cell BK111.out 6).trans rfl
     have hcz34_7 : wc.cell? ⟨gb111, 7, none⟩ = some (.int .i64 a0_7) := (blk_cell BK111.out 7).trans rfl
     have hcz34_8 : wc.cell? ⟨gb111, 8, none⟩ = some (.int .i64 a0_8) := (blk_cell BK111.out 8).trans rfl
     have hfz34_0 := blk_frozen BK111.out 0
     have hfz34_1 := blk_frozen BK111.out 1
     have hfz34_2 := blk_frozen BK111.out 2
     have hfz34_3 := blk_frozen BK111.out 3
     have hfz34_4 := blk_frozen BK111.out 4
     have hfz34_5 := blk_frozen BK111.out 5
     have hfz34_6 := blk_frozen BK111.out 6
     have hfz34_7 := blk_frozen BK111.out 7
     have hfz34_8 := blk_frozen BK111.out 8
     go_wp2_with (first | ((with_reducible refine gate_callee (f := 42) rfl ?_); refine goesL_ (some 27) rfl rfl Tryd.func42 (by kernel_rfl) rfl #[.int .i64 a0_3, .int .i64 255] rfl (by (try simp only [List.map_toArray, List.map_cons, List.map_nil]); first | done | rfl | (simp only [List.length_drop, List.length_take]; rfl)) ?_; (with_reducible refine (database_outside.calls a0_3 255 false _ A16.out).mono ?_); rintro e w' ⟨rfl, ⟨nd, rfl⟩⟩; refine ⟨_, rfl, ?_⟩) | (go_at_call 42; (with_reducible refine (database_outside.calls a0_4 4294967295 false _ A19.out).mono ?_); rintro e w' ⟨rfl, ⟨nd, rfl⟩⟩) | (go_at_call 42; (with_reducible refine (database_outside.calls a0_8 4294967295 false _ A22.out).mono ?_); rintro e w' ⟨rfl, ⟨nd, rfl⟩⟩) | (go_at_call 42; (with_reducible refine (database_outside.calls a0_5 255 false _ A25.out).mono ?_); rintro e w' ⟨rfl, ⟨nd, rfl⟩⟩) | (go_at_call 42; (with_reducible refine (database_outside.calls a0_6 3 false _ A28.out).mono ?_); rintro e w' ⟨rfl, ⟨nd, rfl⟩⟩) | (go_at_call 42; (with_reducible refine (database_outside.calls a0_7 20 false _ A31.out).mono ?_); rintro e w' ⟨rfl, ⟨nd, rfl⟩⟩))
     go_ret
     exact ⟨by first | rfl | (simp [errW_none, errW_some] <;> rfl) | (simp [*, errW_none, errW_some] <;> rfl), by repeat (first | (with_reducible first | exact HB.out | apply bA_ | apply bN_ | apply bD_ | refine bS_ ?_ GE111.out) | exact HB.out)⟩

/-! ### principal_ValidRealm: function 35 -/
def principal_ValidRealm.f (k : Nat) (a0 : ByteArray) : Option (Bool) := if a0.toList = ([] : List UInt8) then (some false) else ((principal_printable.f k a0 (⟨#[64]⟩ : ByteArray)).bind fun t121 => (some t121))
theorem principal_ValidRealm.mono : ∀ a0 k, LeO (principal_ValidRealm.f k a0) (principal_ValidRealm.f (k + 1) a0) := by
 intro a0 k
 unfold principal_ValidRealm.f
 repeat' first
   | (with_reducible exact principal_printable.mono _ _ _)
   | (with_reducible exact LeO.refl _)
   | (with_reducible exact LeO.none _)
   | (with_reducible refine LeO.ite ?_ ?_)
   | (with_reducible refine LeO.bind ?_ (fun _ => ?_))
   | exact principal_printable.mono _ _ _
   | exact LeO.none _
   | refine LeO.ite ?_ ?_
   | refine LeO.bind ?_ (fun _ => ?_)
set_option maxHeartbeats 8000000 in
set_option maxRecDepth 100000 in
theorem principal_ValidRealm.calls (k : Nat) (a0 : ByteArray) (r : Bool) (w : World) (h : principal_ValidRealm.f k a0 = some r) :
  Calls Tryd.prog 35 #[.string a0] w fun e w' => e = .returned (.bool r) ∧ Drawn0 w w' := by
 have H : (if a0.toList = ([] : List UInt8) then (some false) else ((principal_printable.f k a0 (⟨#[64]⟩ : ByteArray)).bind fun t121 => (some t121))) = some r := h
 clear h
 by_cases c2 : a0.toList = ([] : List UInt8)
 ·rw [if_pos c2] at H
  have c2b0 : (a0.toList == ([] : List UInt8)) = true := beq_iff_eq.mpr c2
  have c2b1 : (a0.toList != ([] : List UInt8)) = false := bne_eq_false_iff_eq.mpr c2
  clear c2
  obtain rfl := Option.some.inj H
  go_enter Tryd.func35, Tryd.ntmps35
  go_wp2
  go_ret
  exact ⟨by first | rfl | (simp; done) | (simp [*]; done), by repeat (first | exact Drawn0.refl _ | apply Drawn0.step)⟩
 rw [if_neg c2] at H
 have c2b0 : (a0.toList == ([] : List UInt8)) = false := beq_eq_false_iff_ne.mpr c2
 have c2b1 : (a0.toList != ([] : List UInt8)) = true := bne_iff_ne.mpr c2
 replace H := Option.bind_eq_some_iff.mp H
 obtain ⟨t121, A30, H⟩ := H
 replace H : (some t121) = some r := H
 have A3 := Aside0.mk A30
 clear A30
 obtain rfl := Option.some.inj H
 go_enter Tryd.func35, Tryd.ntmps35
 go_wp2_with (first | (go_at_call 59; (with_reducible refine (principal_printable.calls k a0 (⟨#[64]⟩ : ByteArray) t121 _ A3.out).mono ?_); rintro e w' ⟨rfl, ⟨nd, rfl⟩⟩))
 go_ret
 exact ⟨by first | rfl | (simp; done) | (simp [*]; done), by repeat (first | exact Drawn0.refl _ | apply Drawn0.step)⟩

-- NOT PRINTED: function 60 (cmp_Or_int)

/-! ### strings_Compare: function 61 -/
def strings_Compare.f (a0 : ByteArray) (a1 : ByteArray) : Option (Int) := some (Lib.compareBytes a0.data.toList a1.data.toList)
theorem strings_Compare.calls (a0 : ByteArray) (a1 : ByteArray) (r : Int) (w : World) (h : strings_Compare.f a0 a1 = some r) :
  Calls Tryd.prog 61 #[.string a0, .string a1] w fun e w' => e = .returned (.int .i64 r) ∧ Drawn0 w w' := by
 obtain rfl := Option.some.inj h
 exact (Tryd.strings_Compare a0 a1 w).mono fun e w' ⟨h1, h2⟩ => ⟨h1, by rw [h2]; exact Drawn0.refl _⟩

-- NOT PRINTED: function 36 (database_compare)

/-! ### database_Check: function 10 -/
def database_Check.l0 : Nat → Int → Int → Option (Int)
 | 0, _, _ => none
 | k + 1, x16, x17 => if x17 < x16 then (none) else (some 0)
def database_Check.f (k : Nat) (a0_0 : ByteArray) (l0_1 : List (S35)) : Option (Int) := (principal_ValidRealm.f k a0_0).bind fun t123 => (if t123 = true then (if (l0_1.length : Int) > 60 then (some 106) else (database_Check.l0 k (l0_1.length : Int) 0)) else (some 103))
theorem database_Check.mono_l : ∀ k, (∀ y0 y1, LeO (database_Check.l0 k y0 y1) (database_Check.l0 (k + 1) y0 y1))
 | 0 => fun _ _ r h => by simp [database_Check.l0] at h
 | k + 1 => by
  have ih0 := database_Check.mono_l k
  intro y0 y1
  unfold database_Check.l0
  repeat' first
  | (with_reducible exact ih0 _ _)
  | (with_reducible exact principal_ValidRealm.mono _ _)
  | (with_reducible exact LeO.refl _)
  | (with_reducible exact LeO.none _)
  | (with_reducible refine LeO.ite ?_ ?_)
  | (with_reducible refine LeO.bind ?_ (fun _ => ?_))
  | exact ih0 _ _
  | exact principal_ValidRealm.mono _ _
  | exact LeO.none _
  | refine LeO.ite ?_ ?_
  | refine LeO.bind ?_ (fun _ => ?_)
theorem database_Check.mono : ∀ a0 a1 k, LeO (database_Check.f k a0 a1) (database_Check.f (k + 1) a0 a1) := by
 intro a0 a1 k
 have ih0 := database_Check.mono_l k
 unfold database_Check.f
 repeat' first
   | (with_reducible exact ih0 _ _)
   | (with_reducible exact principal_ValidRealm.mono _ _)
   | (with_reducible exact LeO.refl _)
   | (with_reducible exact LeO.none _)
   | (with_reducible refine LeO.ite ?_ ?_)
   | (with_reducible refine LeO.bind ?_ (fun _ => ?_))
   | exact ih0 _ _
   | exact principal_ValidRealm.mono _ _
   | exact LeO.none _
   | refine LeO.ite ?_ ?_
   | refine LeO.bind ?_ (fun _ => ?_)
set_option maxHeartbeats 8000000 in
set_option maxRecDepth 100000 in
theorem database_Check.calls (k : Nat) (a0_0 : ByteArray) (A0_1 : Option Addr) (c0_1 : Nat) (l0_1 : List (S35)) (r : Int) (w : World) (hr0_1 : Kd.C k35 w A0_1 l0_1.length l0_1) (hc0_1 : l0_1.length ≤ c0_1) (h : database_Check.f k a0_0 l0_1 = some r) :
  Calls Tryd.prog 10 #[.agg #[.string a0_0, .slice A0_1 l0_1.length c0_1]] w fun e w' => e = .returned (.int .i64 r) ∧ Below w.heap.size w w' := by
 have hu24 := Tryd.underlying24
 have hu35 := Tryd.underlying35
 have HR0_1 := Aside0.mk hr0_1
 have HC0_1 := Aside0.mk hc0_1
 clear hr0_1 hc0_1
 have HB := Aside0.mk (Below.refl w.heap.size w)
 have H : ((principal_ValidRealm.f k a0_0).bind fun t123 => (if t123 = true then (if (l0_1.length : Int) > 60 then (some 106) else (database_Check.l0 k (l0_1.length : Int) 0)) else (some 103))) = some r := h
 clear h
 replace H := Option.bind_eq_some_iff.mp H
 obtain ⟨t123, A20, H⟩ := H
 replace H : (if t123 = true then (if (l0_1.length : Int) > 60 then (some 106) else (database_Check.l0 k (l0_1.length : Int) 0)) else (some 103)) = some r := H
 have A2 := Aside0.mk A20
 clear A20
 by_cases c3 : t123 = true
 ·subst c3
  have H1 : (if (l0_1.length : Int) > 60 then (some 106) else (database_Check.l0 k (l0_1.length : Int) 0)) = some r := by rw [if_pos rfl] at H; exact H
  clear H
  have H := H1
  clear H1
  by_cases c4 : (l0_1.length : Int) > 60
  ·rw [if_pos c4] at H
   have c4b0 : decide (60 < (l0_1.length : Int)) = true := decide_eq_true c4
   have c4b1 : decide (60 < l0_1.length) = true := decide_eq_true (by omega)
   clear c4
   obtain rfl := Option.some.inj H
   go_enter Tryd.func10, Tryd.ntmps10
   go_wp2_with (first | ((with_reducible refine gate_dst (N := 1) rfl ?_); refine box_event ?hg (N := 1) ?hd (cs := #[.string a0_0, .slice A0_1 l0_1.length c0_1]) (t := 24) ?hr ?_; (case hd => rfl); (case hg => rfl); (case hr => first | (go_simp; done) | (go_simp; rfl)); intro gb122 hg w5 hbox hb; have n0_ := Aside0.mk (below_step (bk_ HB.out) hb); have n1_ := Aside0.mk (hbox); have n2_ := Aside0.mk ((by rw [hg]; exact (below_size (bk_ HB.out)) : w.heap.size ≤ gb122)); have n3_ := Aside0.mk ((by rw [hg]; exact (below_size (bk_ HB.out)) : w.heap.size ≤ gb122)); clear HB; have HB := n0_; have BK122 := n1_; have GW122 := n2_; have GE122 := n3_; clear n0_ n1_ n2_ n3_; clear hb hbox hg; have hcz6_0 : w5.cell? ⟨gb122, 0, none⟩ = some (.string a0_0) := (blk_cell BK122.out 0).trans rfl; have hcz6_1 : w5.cell? ⟨gb122, 1, none⟩ = some (.slice A0_1 l0_1.length c0_1) := (blk_cell BK122.out 1).trans rfl; have hfz6_0 := blk_frozen BK122.out 0; have hfz6_1 := blk_frozen BK122.out 1) | ((with_reducible refine gate_callee (f := 35) rfl ?_); refine goesL_ (some 8) rfl rfl Tryd.func35 (by kernel_rfl) rfl #[.string a0_0] rfl (by (try simp only [List.map_toArray, List.map_cons, List.map_nil]); first | done | rfl | (simp only [List.length_drop, List.length_take]; rfl)) ?_; (with_reducible refine (principal_ValidRealm.calls k a0_0 true _ A2.out).mono ?_); rintro e w' ⟨rfl, ⟨nd, rfl⟩⟩; refine ⟨_, rfl, ?_⟩))
   go_ret
   exact ⟨by first | rfl | (simp [errW_none, errW_some] <;> rfl) | (simp [*, errW_none, errW_some] <;> rfl), by repeat (first | (with_reducible first | exact HB.out | apply bA_ | apply bN_ | apply bD_ | refine bS_ ?_ GE122.out) | exact HB.out)⟩
  rw [if_neg c4] at H
  have c4b0 : decide (60 < (l0_1.length : Int)) = false := decide_eq_false c4
  have c4b1 : decide (60 < l0_1.length) = false := decide_eq_false (by omega)
  clear c4
  have H' := Aside0.mk H
  clear H
  go_enter Tryd.func10, Tryd.ntmps10
  go_wp2_with (first | ((with_reducible refine gate_dst (N := 1) rfl ?_); refine box_event ?hg (N := 1) ?hd (cs := #[.string a0_0, .slice A0_1 l0_1.length c0_1]) (t := 24) ?hr ?_; (case hd => rfl); (case hg => rfl); (case hr => first | (go_simp; done) | (go_simp; rfl)); intro gb122 hg w7 hbox hb; have n0_ := Aside0.mk (below_step (bk_ HB.out) hb); have n1_ := Aside0.mk (hbox); have n2_ := Aside0.mk ((by rw [hg]; exact (below_size (bk_ HB.out)) : w.heap.size ≤ gb122)); have n3_ := Aside0.mk ((by rw [hg]; exact (below_size (bk_ HB.out)) : w.heap.size ≤ gb122)); clear HB; have HB := n0_; have BK122 := n1_; have GW122 := n2_; have GE122 := n3_; clear n0_ n1_ n2_ n3_; clear hb hbox hg; have hcz8_0 : w7.cell? ⟨gb122, 0, none⟩ = some (.string a0_0) := (blk_cell BK122.out 0).trans rfl; have hcz8_1 : w7.cell? ⟨gb122, 1, none⟩ = some (.slice A0_1 l0_1.length c0_1) := (blk_cell BK122.out 1).trans rfl; have hfz8_0 := blk_frozen BK122.out 0; have hfz8_1 := blk_frozen BK122.out 1) | ((with_reducible refine gate_callee (f := 35) rfl ?_); refine goesL_ (some 8) rfl rfl Tryd.func35 (by kernel_rfl) rfl #[.string a0_0] rfl (by (try simp only [List.map_toArray, List.map_cons, List.map_nil]); first | done | rfl | (simp only [List.length_drop, List.length_take]; rfl)) ?_; (with_reducible refine (principal_ValidRealm.calls k a0_0 true _ A2.out).mono ?_); rintro e w' ⟨rfl, ⟨nd, rfl⟩⟩; refine ⟨_, rfl, ?_⟩))
  go_loopg [17] k (fun kq v17 w' => ∃ (x17_1 : Int), v17 = .int .i64 x17_1 ∧ Aside0 (database_Check.l0 kq (l0_1.length : Int) x17_1 = some r) ∧ Aside0 (kq ≤ k) ∧ Aside0 (w'.heap[gb122]? = some (.cells #[.string a0_0, (.slice A0_1 l0_1.length c0_1)] 24 (0, 0))) ∧ Aside0 (Below w.heap.size w w'))
  case atStart => exact ⟨(0), (by first | rfl | (simp; done) | (simp [*]; done)), H', ⟨Nat.le_refl _⟩, ⟨by refine bk_ ?_; exact BK122.out⟩, ⟨by repeat (first | (with_reducible first | exact HB.out | apply bA_ | apply bN_ | apply bD_ | refine bS_ ?_ GE122.out) | exact HB.out)⟩⟩
  case round =>
   clear H'
   try clear c1
   try clear p2
   try clear c3
   try clear c4
   try clear c4b0
   try clear c4b1
   try clear hcz6_0
   try clear hcz6_1
   try clear hcz8_0
   try clear hcz8_1
   try clear hfz6_0
   try clear hfz6_1
   try clear hfz8_0
   try clear hfz8_1
   obtain ⟨x17_1, rfl, HA, HK1, BK122, HB⟩ := hrel
   cases gk with
   | zero => exact absurd HA.out (by simp [database_Check.l0])
   | succ k1 =>
    have H := HA.out
    clear HA
    simp only [database_Check.l0] at H
    by_cases c9 : x17_1 < (l0_1.length : Int)
    ·rw [if_pos c9] at H
     exact absurd H (by simp)
    rw [if_neg c9] at H
    have c9b0 : decide (x17_1 < (l0_1.length : Int)) = false := decide_eq_false c9
    clear c9
    obtain rfl := Option.some.inj H
    go_wp2
    go_ret
    exact ⟨by first | rfl | (simp [errW_none, errW_some] <;> rfl) | (simp [*, errW_none, errW_some] <;> rfl), by repeat (first | (with_reducible first | exact HB.out | apply bA_ | apply bN_ | apply bD_ | refine bS_ ?_ GE122.out) | exact HB.out)⟩
 replace c3 := Bool.eq_false_iff.mpr c3
 subst c3
 have H1 : (some 103) = some r := by rw [if_neg (show ¬ (false = true) by decide)] at H; exact H
 clear H
 have H := H1
 clear H1
 obtain rfl := Option.some.inj H
 go_enter Tryd.func10, Tryd.ntmps10
 go_wp2_with (first | ((with_reducible refine gate_dst (N := 1) rfl ?_); refine box_event ?hg (N := 1) ?hd (cs := #[.string a0_0, .slice A0_1 l0_1.length c0_1]) (t := 24) ?hr ?_; (case hd => rfl); (case hg => rfl); (case hr => first | (go_simp; done) | (go_simp; rfl)); intro gb122 hg w10 hbox hb; have n0_ := Aside0.mk (below_step (bk_ HB.out) hb); have n1_ := Aside0.mk (hbox); have n2_ := Aside0.mk ((by rw [hg]; exact (below_size (bk_ HB.out)) : w.heap.size ≤ gb122)); have n3_ := Aside0.mk ((by rw [hg]; exact (below_size (bk_ HB.out)) : w.heap.size ≤ gb122)); clear HB; have HB := n0_; have BK122 := n1_; have GW122 := n2_; have GE122 := n3_; clear n0_ n1_ n2_ n3_; clear hb hbox hg; have hcz11_0 : w10.cell? ⟨gb122, 0, none⟩ = some (.string a0_0) := (blk_cell BK122.out 0).trans rfl; have hcz11_1 : w10.cell? ⟨gb122, 1, none⟩ = some (.slice A0_1 l0_1.length c0_1) := (blk_cell BK122.out 1).trans rfl; have hfz11_0 := blk_frozen BK122.out 0; have hfz11_1 := blk_frozen BK122.out 1) | ((with_reducible refine gate_callee (f := 35) rfl ?_); refine goesL_ (some 8) rfl rfl Tryd.func35 (by kernel_rfl) rfl #[.string a0_0] rfl (by (try simp only [List.map_toArray, List.map_cons, List.map_nil]); first | done | rfl | (simp only [List.length_drop, List.length_take]; rfl)) ?_; (with_reducible refine (principal_ValidRealm.calls k a0_0 false _ A2.out).mono ?_); rintro e w' ⟨rfl, ⟨nd, rfl⟩⟩; refine ⟨_, rfl, ?_⟩))
 go_ret
 exact ⟨by first | rfl | (simp [errW_none, errW_some] <;> rfl) | (simp [*, errW_none, errW_some] <;> rfl), by repeat (first | (with_reducible first | exact HB.out | apply bA_ | apply bN_ | apply bD_ | refine bS_ ?_ GE122.out) | exact HB.out)⟩

-- NOT PRINTED: function 65 (api_Entry_65)

-- NOT PRINTED: function 82 (api_Entry_82)

-- NOT PRINTED: function 74 (api_Entry_74)

-- NOT PRINTED: function 66 (api_Entry_66)

end Go.Proofs.YthfdfoigoomaoaaDoor.PDb
