/- The walks of functions of the translation: each call returns what the plain function beside it says. -/
import Derived.Test.YthfdfoigoomaoaaDoorPDbx0
import Derived.Test.YthfdfoigoomaoaaDoorPDbx1
namespace Go.Proofs.YthfdfoigoomaoaaDoor.PDb
open Go.RowKit Go.Proofs.YthfdfoigoomaoaaDoorW.PrintWords Go.Proofs.YthfdfoigoomaoaaDoorW.PrintLast Go.Proofs.YthfdfoigoomaoaaDoorW.PrintMore Go.Proofs.YthfdfoigoomaoaaDoor.Aid
attribute [local go_sem] max2_int min2_int max_two min_two max_three min_three max_four min_four aid_str_gtr aid_str_leq   -- for this text's walks alone
set_option linter.unusedVariables false
set_option linter.unusedSimpArgs false

/-! ### kerbsuiteref12_Find: function 19 -/
def kerbsuiteref12_Find.l0 : Nat → ByteArray → ByteArray → Int → Int → Int → ByteArray → List (S35) → Option (Int × Int)
 | 0, _, _, _, _, _, _, _ => none
 | k + 1, x1, x2, x8, x9, x10, x266000, x266001 => if x10 < (x266001.length : Int) then (if 0 ≤ x10 then (if ((rd_T35 x266001 x10).f0).toList = x1.toList then (if ((rd_T35 x266001 x10).f1).toList = x2.toList then (kerbsuiteref12_Find.l0 k x1 x2 x10 (wrap64 (x9 + 1)) (wrap64 (x10 + 1)) x266000 x266001) else (kerbsuiteref12_Find.l0 k x1 x2 x8 x9 (wrap64 (x10 + 1)) x266000 x266001)) else (kerbsuiteref12_Find.l0 k x1 x2 x8 x9 (wrap64 (x10 + 1)) x266000 x266001)) else (none)) else (if x9 = 0 then (some (0, 8)) else (if x9 > 1 then (some (0, 9)) else (some (x8, 0))))
def kerbsuiteref12_Find.f (k : Nat) (a0_0 : ByteArray) (l0_1 : List (S35)) (a1 : ByteArray) (a2 : ByteArray) : Option (Int × Int) := kerbsuiteref12_Find.l0 k a1 a2 0 0 0 a0_0 l0_1
theorem kerbsuiteref12_Find.mono_l : ∀ k, (∀ y0 y1 y2 y3 y4 y5 y6, LeO (kerbsuiteref12_Find.l0 k y0 y1 y2 y3 y4 y5 y6) (kerbsuiteref12_Find.l0 (k + 1) y0 y1 y2 y3 y4 y5 y6))
 | 0 => fun _ _ _ _ _ _ _ r h => by simp [kerbsuiteref12_Find.l0] at h
 | k + 1 => by
  have ih0 := kerbsuiteref12_Find.mono_l k
  intro y0 y1 y2 y3 y4 y5 y6
  unfold kerbsuiteref12_Find.l0
  repeat' first
  | (with_reducible exact ih0 _ _ _ _ _ _ _)
  | (with_reducible exact LeO.refl _)
  | (with_reducible exact LeO.none _)
  | (with_reducible refine LeO.ite ?_ ?_)
  | (with_reducible refine LeO.bind ?_ (fun _ => ?_))
  | exact ih0 _ _ _ _ _ _ _
  | exact LeO.none _
  | refine LeO.ite ?_ ?_
  | refine LeO.bind ?_ (fun _ => ?_)
theorem kerbsuiteref12_Find.mono : ∀ a0 a1 a2 a3 k, LeO (kerbsuiteref12_Find.f k a0 a1 a2 a3) (kerbsuiteref12_Find.f (k + 1) a0 a1 a2 a3) := by
 intro a0 a1 a2 a3 k
 have ih0 := kerbsuiteref12_Find.mono_l k
 unfold kerbsuiteref12_Find.f
 repeat' first
   | (with_reducible exact ih0 _ _ _ _ _ _ _)
   | (with_reducible exact LeO.refl _)
   | (with_reducible exact LeO.none _)
   | (with_reducible refine LeO.ite ?_ ?_)
   | (with_reducible refine LeO.bind ?_ (fun _ => ?_))
   | exact ih0 _ _ _ _ _ _ _
   | exact LeO.none _
   | refine LeO.ite ?_ ?_
   | refine LeO.bind ?_ (fun _ => ?_)
set_option maxHeartbeats 8000000 in
set_option maxRecDepth 100000 in
theorem kerbsuiteref12_Find.calls (k : Nat) (a0_0 : ByteArray) (A0_1 : Option Addr) (c0_1 : Nat) (l0_1 : List (S35)) (a1 : ByteArray) (a2 : ByteArray) (r1 : Int) (r2 : Int) (w : World) (hr0_1 : Kd.C k35 w A0_1 l0_1.length l0_1) (hc0_1 : l0_1.length ≤ c0_1) (h : kerbsuiteref12_Find.f k a0_0 l0_1 a1 a2 = some (r1, r2)) :
  Calls Tryd.prog 19 #[.agg #[.string a0_0, .slice A0_1 l0_1.length c0_1], .string a1, .string a2] w fun e w' => e = .returned (.tuple #[.int .i64 r1, .int .i64 r2]) ∧ Below w.heap.size w w' := by
 have hu24 := Tryd.underlying24
 have HR0_1 := Aside0.mk hr0_1
 have HC0_1 := Aside0.mk hc0_1
 clear hr0_1 hc0_1
 have HB := Aside0.mk (Below.refl w.heap.size w)
 have H : (kerbsuiteref12_Find.l0 k a1 a2 0 0 0 a0_0 l0_1) = some (r1, r2) := h
 clear h
 have H' := Aside0.mk H
 clear H
 go_enter Tryd.func19, Tryd.ntmps19
 go_wp2_with (first | ((with_reducible refine gate_dst (N := 3) rfl ?_); refine box_event ?hg (N := 3) ?hd (cs := #[.string a0_0, .slice A0_1 l0_1.length c0_1]) (t := 24) ?hr ?_; (case hd => rfl); (case hg => rfl); (case hr => first | (go_simp; done) | (go_simp; rfl)); intro gb265 hg w4 hbox hb; have n0_ := Aside0.mk (below_step (bk_ HB.out) hb); have n1_ := Aside0.mk (hbox); have n2_ := Aside0.mk ((by rw [hg]; exact (below_size (bk_ HB.out)) : w.heap.size ≤ gb265)); have n3_ := Aside0.mk ((by rw [hg]; exact (below_size (bk_ HB.out)) : w.heap.size ≤ gb265)); clear HB; have HB := n0_; have BK265 := n1_; have GW265 := n2_; have GE265 := n3_; clear n0_ n1_ n2_ n3_; clear hb hbox hg))
 go_loopg [8, 9, 10] k (fun kq v8 v9 v10 w' => ∃ (x8_1 : Int) (x9_1 : Int) (x10_1 : Int), v8 = .int .i64 x8_1 ∧ v9 = .int .i64 x9_1 ∧ v10 = .int .i64 x10_1 ∧ Aside0 (kerbsuiteref12_Find.l0 kq a1 a2 x8_1 x9_1 x10_1 a0_0 l0_1 = some (r1, r2)) ∧ Aside0 (kq ≤ k) ∧ Aside0 (w'.heap[gb265]? = some (.cells #[.string a0_0, (.slice A0_1 l0_1.length c0_1)] 24 (0, 0))) ∧ Aside0 (Below w.heap.size w w'))
 case atStart => exact ⟨(0), (0), (0), (by first | rfl | (simp; done) | (simp [*]; done)), (by first | rfl | (simp; done) | (simp [*]; done)), (by first | rfl | (simp; done) | (simp [*]; done)), H', ⟨Nat.le_refl _⟩, ⟨by refine bk_ ?_; exact BK265.out⟩, ⟨by repeat (first | (with_reducible first | exact HB.out | apply bA_ | apply bN_ | apply bD_ | refine bS_ ?_ GE265.out) | exact HB.out)⟩⟩
 case round =>
  clear H'
  try clear c1
  try clear p2
  obtain ⟨x8_1, x9_1, x10_1, rfl, rfl, rfl, HA, HK1, BK265, HB⟩ := hrel
  cases gk with
  | zero => exact absurd HA.out (by simp [kerbsuiteref12_Find.l0])
  | succ k1 =>
   have H := HA.out
   clear HA
   simp only [kerbsuiteref12_Find.l0] at H
   by_cases c5 : x10_1 < (l0_1.length : Int)
   ·rw [if_pos c5] at H
    have c5b0 : decide (x10_1 < (l0_1.length : Int)) = true := decide_eq_true c5
    clear c5
    by_cases c6 : 0 ≤ x10_1
    ·rw [if_pos c6] at H
     have c6b0 : decide (0 ≤ x10_1) = true := decide_eq_true c6
     clear c6
     by_cases c7 : ((rd_T35 l0_1 x10_1).f0).toList = a1.toList
     ·rw [if_pos c7] at H
      have c7b0 : (((rd_T35 l0_1 x10_1).f0).toList == a1.toList) = true := beq_iff_eq.mpr c7
      have c7b1 : (((rd_T35 l0_1 x10_1).f0).toList != a1.toList) = false := bne_eq_false_iff_eq.mpr c7
      clear c7
      by_cases c8 : ((rd_T35 l0_1 x10_1).f1).toList = a2.toList
      ·rw [if_pos c8] at H
       have c8b0 : (((rd_T35 l0_1 x10_1).f1).toList == a2.toList) = true := beq_iff_eq.mpr c8
       have c8b1 : (((rd_T35 l0_1 x10_1).f1).toList != a2.toList) = false := bne_eq_false_iff_eq.mpr c8
       clear c8
       have H' := Aside0.mk H
       clear H
       have hcz9_0 : wr.cell? ⟨gb265, 0, none⟩ = some (.string a0_0) := (blk_cell BK265.out 0).trans rfl
       have hcz9_1 : wr.cell? ⟨gb265, 1, none⟩ = some (.slice A0_1 l0_1.length c0_1) := (blk_cell BK265.out 1).trans rfl
       have hfz9_0 := blk_frozen BK265.out 0
       have hfz9_1 := blk_frozen BK265.out 1
       have p266 : 0 ≤ (x10_1 : Int) := of_decide_eq_true (by first | (with_reducible assumption) | assumption)
       have q266 : x10_1 < (l0_1.length : Int) := of_decide_eq_true (by first | (with_reducible assumption) | assumption)
       obtain ⟨ad266, e266, hx266_0, hx266_1, hx266_2, hx266_3, hx266_4, hx266_5, hx266_6, hx266_7, hx266_8⟩ := at_T35 HR0_1.out x10_1 p266 q266
       cases e266
       replace hx266_0 := (HB.out.cell (World.block_lt_of_cell? w _ hx266_0)).trans hx266_0
       replace hx266_1 := (HB.out.cell (World.block_lt_of_cell? w _ hx266_1)).trans hx266_1
       replace hx266_2 := (HB.out.cell (World.block_lt_of_cell? w _ hx266_2)).trans hx266_2
       replace hx266_3 := (HB.out.cell (World.block_lt_of_cell? w _ hx266_3)).trans hx266_3
       replace hx266_4 := (HB.out.cell (World.block_lt_of_cell? w _ hx266_4)).trans hx266_4
       replace hx266_5 := (HB.out.cell (World.block_lt_of_cell? w _ hx266_5)).trans hx266_5
       replace hx266_6 := (HB.out.cell (World.block_lt_of_cell? w _ hx266_6)).trans hx266_6
       replace hx266_7 := (HB.out.cell (World.block_lt_of_cell? w _ hx266_7)).trans hx266_7
       replace hx266_8 := (HB.out.cell (World.block_lt_of_cell? w _ hx266_8)).trans hx266_8
       replace p266 := eq_true p266
       replace q266 := eq_true q266
       have p267 : 0 ≤ (x10_1 : Int) := of_decide_eq_true (by first | (with_reducible assumption) | assumption)
       have q267 : x10_1 < (l0_1.length : Int) := of_decide_eq_true (by first | (with_reducible assumption) | assumption)
       obtain ⟨ad267, e267, hx267_0, hx267_1, hx267_2, hx267_3, hx267_4, hx267_5, hx267_6, hx267_7, hx267_8⟩ := at_T35 HR0_1.out x10_1 p267 q267
       obtain rfl : ad266 = ad267 := (by injection e267)
       replace hx267_0 := (HB.out.cell (World.block_lt_of_cell? w _ hx267_0)).trans hx267_0
       replace hx267_1 := (HB.out.cell (World.block_lt_of_cell? w _ hx267_1)).trans hx267_1
       replace hx267_2 := (HB.out.cell (World.block_lt_of_cell? w _ hx267_2)).trans hx267_2
       replace hx267_3 := (HB.out.cell (World.block_lt_of_cell? w _ hx267_3)).trans hx267_3
       replace hx267_4 := (HB.out.cell (World.block_lt_of_cell? w _ hx267_4)).trans hx267_4
       replace hx267_5 := (HB.out.cell (World.block_lt_of_cell? w _ hx267_5)).trans hx267_5
       replace hx267_6 := (HB.out.cell (World.block_lt_of_cell? w _ hx267_6)).trans hx267_6
       replace hx267_7 := (HB.out.cell (World.block_lt_of_cell? w _ hx267_7)).trans hx267_7
       replace hx267_8 := (HB.out.cell (World.block_lt_of_cell? w _ hx267_8)).trans hx267_8
       replace p267 := eq_true p267
       replace q267 := eq_true q267
       go_wp2
       go_roundg k1
       case measure => have := HK1.out; omega
       case rel => exact ⟨(x10_1), (wrap64 (x9_1 + 1)), (wrap64 (x10_1 + 1)), (by first | rfl | (simp; done) | (simp [*]; done)), (by first | rfl | (simp; done) | (simp [*]; done)), (by first | rfl | (simp; done) | (simp [*]; done)), H', ⟨by have := HK1.out; omega⟩, ⟨by refine bk_ ?_; exact BK265.out⟩, ⟨by repeat (first | (with_reducible first | exact HB.out | apply bA_ | apply bN_ | apply bD_ | refine bS_ ?_ GE265.out) | exact HB.out)⟩⟩
      rw [if_neg c8] at H
      have c8b0 : (((rd_T35 l0_1 x10_1).f1).toList == a2.toList) = false := beq_eq_false_iff_ne.mpr c8
      have c8b1 : (((rd_T35 l0_1 x10_1).f1).toList != a2.toList) = true := bne_iff_ne.mpr c8
      have H' := Aside0.mk H
      clear H
      have hcz10_0 : wr.cell? ⟨gb265, 0, none⟩ = some (.string a0_0) := (blk_cell BK265.out 0).trans rfl
      have hcz10_1 : wr.cell? ⟨gb265, 1, none⟩ = some (.slice A0_1 l0_1.length c0_1) := (blk_cell BK265.out 1).trans rfl
      have hfz10_0 := blk_frozen BK265.out 0
      have hfz10_1 := blk_frozen BK265.out 1
      have p266 : 0 ≤ (x10_1 : Int) := of_decide_eq_true (by first | (with_reducible assumption) | assumption)
      have q266 : x10_1 < (l0_1.length : Int) := of_decide_eq_true (by first | (with_reducible assumption) | assumption)
      obtain ⟨ad266, e266, hx266_0, hx266_1, hx266_2, hx266_3, hx266_4, hx266_5, hx266_6, hx266_7, hx266_8⟩ := at_T35 HR0_1.out x10_1 p266 q266
      cases e266
      replace hx266_0 := (HB.out.cell (World.block_lt_of_cell? w _ hx266_0)).trans hx266_0
      replace hx266_1 := (HB.out.cell (World.block_lt_of_cell? w _ hx266_1)).trans hx266_1
      replace hx266_2 := (HB.out.cell (World.block_lt_of_cell? w _ hx266_2)).trans hx266_2
      replace hx266_3 := (HB.out.cell (World.block_lt_of_cell? w _ hx266_3)).trans hx266_3
      replace hx266_4 := (HB.out.cell (World.block_lt_of_cell? w _ hx266_4)).trans hx266_4
      replace hx266_5 := (HB.out.cell (World.block_lt_of_cell? w _ hx266_5)).trans hx266_5
      replace hx266_6 := (HB.out.cell (World.block_lt_of_cell? w _ hx266_6)).trans hx266_6
      replace hx266_7 := (HB.out.cell (World.block_lt_of_cell? w _ hx266_7)).trans hx266_7
      replace hx266_8 := (HB.out.cell (World.block_lt_of_cell? w _ hx266_8)).trans hx266_8
      replace p266 := eq_true p266
      replace q266 := eq_true q266
      have p267 : 0 ≤ (x10_1 : Int) := of_decide_eq_true (by first | (with_reducible assumption) | assumption)
      have q267 : x10_1 < (l0_1.length : Int) := of_decide_eq_true (by first | (with_reducible assumption) | assumption)
      obtain ⟨ad267, e267, hx267_0, hx267_1, hx267_2, hx267_3, hx267_4, hx267_5, hx267_6, hx267_7, hx267_8⟩ := at_T35 HR0_1.out x10_1 p267 q267
      obtain rfl : ad266 = ad267 := (by injection e267)
      replace hx267_0 := (HB.out.cell (World.block_lt_of_cell? w _ hx267_0)).trans hx267_0
      replace hx267_1 := (HB.out.cell (World.block_lt_of_cell? w _ hx267_1)).trans hx267_1
      replace hx267_2 := (HB.out.cell (World.block_lt_of_cell? w _ hx267_2)).trans hx267_2
      replace hx267_3 := (HB.out.cell (World.block_lt_of_cell? w _ hx267_3)).trans hx267_3
      replace hx267_4 := (HB.out.cell (World.block_lt_of_cell? w _ hx267_4)).trans hx267_4
      replace hx267_5 := (HB.out.cell (World.block_lt_of_cell? w _ hx267_5)).trans hx267_5
      replace hx267_6 := (HB.out.cell (World.block_lt_of_cell? w _ hx267_6)).trans hx267_6
      replace hx267_7 := (HB.out.cell (World.block_lt_of_cell? w _ hx267_7)).trans hx267_7
      replace hx267_8 := (HB.out.cell (World.block_lt_of_cell? w _ hx267_8)).trans hx267_8
      replace p267 := eq_true p267
      replace q267 := eq_true q267
      go_wp2
      go_roundg k1
      case measure => have := HK1.out; omega
      case rel => exact ⟨(x8_1), (x9_1), (wrap64 (x10_1 + 1)), (by first | rfl | (simp; done) | (simp [*]; done)), (by first | rfl | (simp; done) | (simp [*]; done)), (by first | rfl | (simp; done) | (simp [*]; done)), H', ⟨by have := HK1.out; omega⟩, ⟨by refine bk_ ?_; exact BK265.out⟩, ⟨by repeat (first | (with_reducible first | exact HB.out | apply bA_ | apply bN_ | apply bD_ | refine bS_ ?_ GE265.out) | exact HB.out)⟩⟩
     rw [if_neg c7] at H
     have c7b0 : (((rd_T35 l0_1 x10_1).f0).toList == a1.toList) = false := beq_eq_false_iff_ne.mpr c7
     have c7b1 : (((rd_T35 l0_1 x10_1).f0).toList != a1.toList) = true := bne_iff_ne.mpr c7
     have H' := Aside0.mk H
     clear H
     have hcz11_0 : wr.cell? ⟨gb265, 0, none⟩ = some (.string a0_0) := (blk_cell BK265.out 0).trans rfl
     have hcz11_1 : wr.cell? ⟨gb265, 1, none⟩ = some (.slice A0_1 l0_1.length c0_1) := (blk_cell BK265.out 1).trans rfl
     have hfz11_0 := blk_frozen BK265.out 0
     have hfz11_1 := blk_frozen BK265.out 1
     have p266 : 0 ≤ (x10_1 : Int) := of_decide_eq_true (by first | (with_reducible assumption) | assumption)
     have q266 : x10_1 < (l0_1.length : Int) := of_decide_eq_true (by first | (with_reducible assumption) | assumption)
     obtain ⟨ad266, e266, hx266_0, hx266_1, hx266_2, hx266_3, hx266_4, hx266_5, hx266_6, hx266_7, hx266_8⟩ := at_T35 HR0_1.out x10_1 p266 q266
     cases e266
     replace hx266_0 := (HB.out.cell (World.block_lt_of_cell? w _ hx266_0)).trans hx266_0
     replace hx266_1 := (HB.out.cell (World.block_lt_of_cell? w _ hx266_1)).trans hx266_1
     replace hx266_2 := (HB.out.cell (World.block_lt_of_cell? w _ hx266_2)).trans hx266_2
     replace hx266_3 := (HB.out.cell (World.block_lt_of_cell? w _ hx266_3)).trans hx266_3
     replace hx266_4 := (HB.out.cell (World.block_lt_of_cell? w _ hx266_4)).trans hx266_4
     replace hx266_5 := (HB.out.cell (World.block_lt_of_cell? w _ hx266_5)).trans hx266_5
     replace hx266_6 := (HB.out.cell (World.block_lt_of_cell? w _ hx266_6)).trans hx266_6
     replace hx266_7 := (HB.out.cell (World.block_lt_of_cell? w _ hx266_7)).trans hx266_7
     replace hx266_8 := (HB.out.cell (World.block_lt_of_cell? w _ hx266_8)).trans hx266_8
     replace p266 := eq_true p266
     replace q266 := eq_true q266
     go_wp2
     go_roundg k1
     case measure => have := HK1.out; omega
     case rel => exact ⟨(x8_1), (x9_1), (wrap64 (x10_1 + 1)), (by first | rfl | (simp; done) | (simp [*]; done)), (by first | rfl | (simp; done) | (simp [*]; done)), (by first | rfl | (simp; done) | (simp [*]; done)), H', ⟨by have := HK1.out; omega⟩, ⟨by refine bk_ ?_; exact BK265.out⟩, ⟨by repeat (first | (with_reducible first | exact HB.out | apply bA_ | apply bN_ | apply bD_ | refine bS_ ?_ GE265.out) | exact HB.out)⟩⟩
    rw [if_neg c6] at H
    exact absurd H (by simp)
   rw [if_neg c5] at H
   have c5b0 : decide (x10_1 < (l0_1.length : Int)) = false := decide_eq_false c5
   clear c5
   by_cases c12 : x9_1 = 0
   ·rw [if_pos c12] at H
    have c12b0 : (x9_1 == 0) = true := beq_iff_eq.mpr c12
    have c12b1 : (x9_1 != 0) = false := bne_eq_false_iff_eq.mpr c12
    clear c12
    simp only [Option.some.injEq, Prod.mk.injEq] at H
    obtain ⟨rfl, rfl⟩ := H
    have hcz13_0 : wr.cell? ⟨gb265, 0, none⟩ = some (.string a0_0) := (blk_cell BK265.out 0).trans rfl
    have hcz13_1 : wr.cell? ⟨gb265, 1, none⟩ = some (.slice A0_1 l0_1.length c0_1) := (blk_cell BK265.out 1).trans rfl
    have hfz13_0 := blk_frozen BK265.out 0
    have hfz13_1 := blk_frozen BK265.out 1
    go_wp2
    go_ret2
    exact ⟨by first | rfl | (simp [errW_none, errW_some] <;> rfl) | (simp [*, errW_none, errW_some] <;> rfl), by repeat (first | (with_reducible first | exact HB.out | apply bA_ | apply bN_ | apply bD_ | refine bS_ ?_ GE265.out) | exact HB.out)⟩
   rw [if_neg c12] at H
   have c12b0 : (x9_1 == 0) = false := beq_eq_false_iff_ne.mpr c12
   have c12b1 : (x9_1 != 0) = true := bne_iff_ne.mpr c12
   by_cases c14 : x9_1 > 1
   ·rw [if_pos c14] at H
    have c14b0 : decide (1 < x9_1) = true := decide_eq_true c14
    clear c14
    simp only [Option.some.injEq, Prod.mk.injEq] at H
    obtain ⟨rfl, rfl⟩ := H
    have hcz15_0 : wr.cell? ⟨gb265, 0, none⟩ = some (.string a0_0) := (blk_cell BK265.out 0).trans rfl
    have hcz15_1 : wr.cell? ⟨gb265, 1, none⟩ = some (.slice A0_1 l0_1.length c0_1) := (blk_cell BK265.out 1).trans rfl
    have hfz15_0 := blk_frozen BK265.out 0
    have hfz15_1 := blk_frozen BK265.out 1
    go_wp2
    go_ret2
    exact ⟨by first | rfl | (simp [errW_none, errW_some] <;> rfl) | (simp [*, errW_none, errW_some] <;> rfl), by repeat (first | (with_reducible first | exact HB.out | apply bA_ | apply bN_ | apply bD_ | refine bS_ ?_ GE265.out) | exact HB.out)⟩
   rw [if_neg c14] at H
   have c14b0 : decide (1 < x9_1) = false := decide_eq_false c14
   clear c14
   simp only [Option.some.injEq, Prod.mk.injEq] at H
   obtain ⟨rfl, rfl⟩ := H
   have hcz16_0 : wr.cell? ⟨gb265, 0, none⟩ = some (.string a0_0) := (blk_cell BK265.out 0).trans rfl
   have hcz16_1 : wr.cell? ⟨gb265, 1, none⟩ = some (.slice A0_1 l0_1.length c0_1) := (blk_cell BK265.out 1).trans rfl
   have hfz16_0 := blk_frozen BK265.out 0
   have hfz16_1 := blk_frozen BK265.out 1
   go_wp2
   go_ret2
   exact ⟨by first | rfl | (simp [errW_none, errW_some] <;> rfl) | (simp [*, errW_none, errW_some] <;> rfl), by repeat (first | (with_reducible first | exact HB.out | apply bA_ | apply bN_ | apply bD_ | refine bS_ ?_ GE265.out) | exact HB.out)⟩

/-! ### database_usable: function 47 -/
def database_usable.j0 : Nat → Int → Int → Int → Int → Bool → ByteArray → ByteArray → Int → Int → Int → Int → Int → Int → Int → Option (Int × Int)
 | 0, _, _, _, _, _, _, _, _, _, _, _, _, _, _ => none
 | k + 1, x4, x5, x6, x16, x39, x273000, x273001, x273002, x273003, x273004, x273005, x273006, x273007, x273008 => if x39 = true then (some (0, x5)) else (if (Go.bits .and .i64 x273006 x4) = 0 then (some (x16, 0)) else (some (0, x6)))
def database_usable.f (k : Nat) (a0_0 : ByteArray) (l0_1 : List (S35)) (a1 : ByteArray) (a2 : ByteArray) (a3 : Int) (a4 : Int) (a5 : Int) (a6 : Int) : Option (Int × Int) := (database_Find.f k a0_0 l0_1 a1 a2).bind fun bt269 => (if bt269.2 = 0 then (if 0 ≤ bt269.1 then (if bt269.1 < (l0_1.length : Int) then ((key_Valid.f ((rd_T35 l0_1 bt269.1).f2)).bind fun t273 => (if t273 = true then (if ((rd_T35 l0_1 bt269.1).f4) = 0 then (database_usable.j0 k a4 a5 a6 bt269.1 false ((rd_T35 l0_1 bt269.1).f0) ((rd_T35 l0_1 bt269.1).f1) ((rd_T35 l0_1 bt269.1).f2) ((rd_T35 l0_1 bt269.1).f3) ((rd_T35 l0_1 bt269.1).f4) ((rd_T35 l0_1 bt269.1).f5) ((rd_T35 l0_1 bt269.1).f6) ((rd_T35 l0_1 bt269.1).f7) ((rd_T35 l0_1 bt269.1).f8)) else (database_usable.j0 k a4 a5 a6 bt269.1 (decide (((rd_T35 l0_1 bt269.1).f4) ≤ a3)) ((rd_T35 l0_1 bt269.1).f0) ((rd_T35 l0_1 bt269.1).f1) ((rd_T35 l0_1 bt269.1).f2) ((rd_T35 l0_1 bt269.1).f3) ((rd_T35 l0_1 bt269.1).f4) ((rd_T35 l0_1 bt269.1).f5) ((rd_T35 l0_1 bt269.1).f6) ((rd_T35 l0_1 bt269.1).f7) ((rd_T35 l0_1 bt269.1).f8))) else (some (0, 10)))) else (none)) else (none)) else (some (0, bt269.2)))
theorem database_usable.mono_l : ∀ k, (∀ y0 y1 y2 y3 y4 y5 y6 y7 y8 y9 y10 y11 y12 y13, LeO (database_usable.j0 k y0 y1 y2 y3 y4 y5 y6 y7 y8 y9 y10 y11 y12 y13) (database_usable.j0 (k + 1) y0 y1 y2 y3 y4 y5 y6 y7 y8 y9 y10 y11 y12 y13))
 | 0 => fun _ _ _ _ _ _ _ _ _ _ _ _ _ _ r h => by simp [database_usable.j0] at h
 | k + 1 => by
  have ih0 := database_usable.mono_l k
  intro y0 y1 y2 y3 y4 y5 y6 y7 y8 y9 y10 y11 y12 y13
  unfold database_usable.j0
  repeat' first
  | (with_reducible exact ih0 _ _ _ _ _ _ _ _ _ _ _ _ _ _)
  | (with_reducible exact database_Find.mono _ _ _ _ _)
  | (with_reducible exact LeO.refl _)
  | (with_reducible exact LeO.none _)
  | (with_reducible refine LeO.ite ?_ ?_)
  | (with_reducible refine LeO.bind ?_ (fun _ => ?_))
  | exact ih0 _ _ _ _ _ _ _ _ _ _ _ _ _ _
  | exact database_Find.mono _ _ _ _ _
  | exact LeO.none _
  | refine LeO.ite ?_ ?_
  | refine LeO.bind ?_ (fun _ => ?_)
theorem database_usable.mono : ∀ a0 a1 a2 a3 a4 a5 a6 a7 k, LeO (database_usable.f k a0 a1 a2 a3 a4 a5 a6 a7) (database_usable.f (k + 1) a0 a1 a2 a3 a4 a5 a6 a7) := by
 intro a0 a1 a2 a3 a4 a5 a6 a7 k
 have ih0 := database_usable.mono_l k
 unfold database_usable.f
 repeat' first
   | (with_reducible exact ih0 _ _ _ _ _ _ _ _ _ _ _ _ _ _)
   | (with_reducible exact database_Find.mono _ _ _ _ _)
   | (with_reducible exact LeO.refl _)
   | (with_reducible exact LeO.none _)
   | (with_reducible refine LeO.ite ?_ ?_)
   | (with_reducible refine LeO.bind ?_ (fun _ => ?_))
   | exact ih0 _ _ _ _ _ _ _ _ _ _ _ _ _ _
   | exact database_Find.mono _ _ _ _ _
   | exact LeO.none _
   | refine LeO.ite ?_ ?_
   | refine LeO.bind ?_ (fun _ => ?_)
set_option maxHeartbeats 8000000 in
set_option maxRecDepth 100000 in
theorem database_usable.calls (k : Nat) (a0_0 : ByteArray) (A0_1 : Option Addr) (c0_1 : Nat) (l0_1 : List (S35)) (a1 : ByteArray) (a2 : ByteArray) (a3 : Int) (a4 : Int) (a5 : Int) (a6 : Int) (r1 : Int) (r2 : Int) (w : World) (hr0_1 : Kd.C k35 w A0_1 l0_1.length l0_1) (hc0_1 : l0_1.length ≤ c0_1) (h : database_usable.f k a0_0 l0_1 a1 a2 a3 a4 a5 a6 = some (r1, r2)) :
  Calls Tryd.prog 47 #[.agg #[.string a0_0, .slice A0_1 l0_1.length c0_1], .string a1, .string a2, .int .i64 a3, .int .i64 a4, .int .i64 a5, .int .i64 a6] w fun e w' => e = .returned (.tuple #[.int .i64 r1, .int .i64 r2]) ∧ Below w.heap.size w w' := by
 have hu24 := Tryd.underlying24
 have hu35 := Tryd.underlying35
 have HR0_1 := Aside0.mk hr0_1
 have HC0_1 := Aside0.mk hc0_1
 clear hr0_1 hc0_1
 have HB := Aside0.mk (Below.refl w.heap.size w)
 have H : ((database_Find.f k a0_0 l0_1 a1 a2).bind fun bt269 => (if bt269.2 = 0 then (if 0 ≤ bt269.1 then (if bt269.1 < (l0_1.length : Int) then ((key_Valid.f ((rd_T35 l0_1 bt269.1).f2)).bind fun t273 => (if t273 = true then (if ((rd_T35 l0_1 bt269.1).f4) = 0 then (database_usable.j0 k a4 a5 a6 bt269.1 false ((rd_T35 l0_1 bt269.1).f0) ((rd_T35 l0_1 bt269.1).f1) ((rd_T35 l0_1 bt269.1).f2) ((rd_T35 l0_1 bt269.1).f3) ((rd_T35 l0_1 bt269.1).f4) ((rd_T35 l0_1 bt269.1).f5) ((rd_T35 l0_1 bt269.1).f6) ((rd_T35 l0_1 bt269.1).f7) ((rd_T35 l0_1 bt269.1).f8)) else (database_usable.j0 k a4 a5 a6 bt269.1 (decide (((rd_T35 l0_1 bt269.1).f4) ≤ a3)) ((rd_T35 l0_1 bt269.1).f0) ((rd_T35 l0_1 bt269.1).f1) ((rd_T35 l0_1 bt269.1).f2) ((rd_T35 l0_1 bt269.1).f3) ((rd_T35 l0_1 bt269.1).f4) ((rd_T35 l0_1 bt269.1).f5) ((rd_T35 l0_1 bt269.1).f6) ((rd_T35 l0_1 bt269.1).f7) ((rd_T35 l0_1 bt269.1).f8))) else (some (0, 10)))) else (none)) else (none)) else (some (0, bt269.2)))) = some (r1, r2) := h
 clear h
 replace H := Option.bind_eq_some_iff.mp H
 obtain ⟨⟨t269, t270⟩, A80, H⟩ := H
 replace H : (if t270 = 0 then (if 0 ≤ t269 then (if t269 < (l0_1.length : Int) then ((key_Valid.f ((rd_T35 l0_1 t269).f2)).bind fun t273 => (if t273 = true then (if ((rd_T35 l0_1 t269).f4) = 0 then (database_usable.j0 k a4 a5 a6 t269 false ((rd_T35 l0_1 t269).f0) ((rd_T35 l0_1 t269).f1) ((rd_T35 l0_1 t269).f2) ((rd_T35 l0_1 t269).f3) ((rd_T35 l0_1 t269).f4) ((rd_T35 l0_1 t269).f5) ((rd_T35 l0_1 t269).f6) ((rd_T35 l0_1 t269).f7) ((rd_T35 l0_1 t269).f8)) else (database_usable.j0 k a4 a5 a6 t269 (decide (((rd_T35 l0_1 t269).f4) ≤ a3)) ((rd_T35 l0_1 t269).f0) ((rd_T35 l0_1 t269).f1) ((rd_T35 l0_1 t269).f2) ((rd_T35 l0_1 t269).f3) ((rd_T35 l0_1 t269).f4) ((rd_T35 l0_1 t269).f5) ((rd_T35 l0_1 t269).f6) ((rd_T35 l0_1 t269).f7) ((rd_T35 l0_1 t269).f8))) else (some (0, 10)))) else (none)) else (none)) else (some (0, t270))) = some (r1, r2) := H
 have A8 := Aside0.mk A80
 clear A80
 by_cases c9 : t270 = 0
 ·rw [if_pos c9] at H
  have c9b0 : (t270 == 0) = true := beq_iff_eq.mpr c9
  have c9b1 : (t270 != 0) = false := bne_eq_false_iff_eq.mpr c9
  clear c9
  by_cases c10 : 0 ≤ t269
  ·rw [if_pos c10] at H
   have c10b0 : decide (0 ≤ t269) = true := decide_eq_true c10
   clear c10
   by_cases c11 : t269 < (l0_1.length : Int)
   ·rw [if_pos c11] at H
    have c11b0 : decide (t269 < (l0_1.length : Int)) = true := decide_eq_true c11
    clear c11
    replace H := Option.bind_eq_some_iff.mp H
    obtain ⟨t273, A120, H⟩ := H
    replace H : (if t273 = true then (if ((rd_T35 l0_1 t269).f4) = 0 then (database_usable.j0 k a4 a5 a6 t269 false ((rd_T35 l0_1 t269).f0) ((rd_T35 l0_1 t269).f1) ((rd_T35 l0_1 t269).f2) ((rd_T35 l0_1 t269).f3) ((rd_T35 l0_1 t269).f4) ((rd_T35 l0_1 t269).f5) ((rd_T35 l0_1 t269).f6) ((rd_T35 l0_1 t269).f7) ((rd_T35 l0_1 t269).f8)) else (database_usable.j0 k a4 a5 a6 t269 (decide (((rd_T35 l0_1 t269).f4) ≤ a3)) ((rd_T35 l0_1 t269).f0) ((rd_T35 l0_1 t269).f1) ((rd_T35 l0_1 t269).f2) ((rd_T35 l0_1 t269).f3) ((rd_T35 l0_1 t269).f4) ((rd_T35 l0_1 t269).f5) ((rd_T35 l0_1 t269).f6) ((rd_T35 l0_1 t269).f7) ((rd_T35 l0_1 t269).f8))) else (some (0, 10))) = some (r1, r2) := H
    have A12 := Aside0.mk A120
    clear A120
    by_cases c13 : t273 = true
    ·subst c13
     have H1 : (if ((rd_T35 l0_1 t269).f4) = 0 then (database_usable.j0 k a4 a5 a6 t269 false ((rd_T35 l0_1 t269).f0) ((rd_T35 l0_1 t269).f1) ((rd_T35 l0_1 t269).f2) ((rd_T35 l0_1 t269).f3) ((rd_T35 l0_1 t269).f4) ((rd_T35 l0_1 t269).f5) ((rd_T35 l0_1 t269).f6) ((rd_T35 l0_1 t269).f7) ((rd_T35 l0_1 t269).f8)) else (database_usable.j0 k a4 a5 a6 t269 (decide (((rd_T35 l0_1 t269).f4) ≤ a3)) ((rd_T35 l0_1 t269).f0) ((rd_T35 l0_1 t269).f1) ((rd_T35 l0_1 t269).f2) ((rd_T35 l0_1 t269).f3) ((rd_T35 l0_1 t269).f4) ((rd_T35 l0_1 t269).f5) ((rd_T35 l0_1 t269).f6) ((rd_T35 l0_1 t269).f7) ((rd_T35 l0_1 t269).f8))) = some (r1, r2) := by rw [if_pos rfl] at H; exact H
     clear H
     have H := H1
     clear H1
     have HC14 := Aside0.mk H
     clear H
     go_enter Tryd.func47, Tryd.ntmps47
     go_upto_region 7 with (first | ((with_reducible refine gate_dst (N := 7) rfl ?_); refine box_event ?hg (N := 7) ?hd (cs := #[.string a0_0, .slice A0_1 l0_1.length c0_1]) (t := 24) ?hr ?_; (case hd => rfl); (case hg => rfl); (case hr => first | (go_simp; done) | (go_simp; rfl)); intro gb268 hg w15 hbox hb; have n0_ := Aside0.mk (below_step (bk_ HB.out) hb); have n1_ := Aside0.mk (hbox); have n2_ := Aside0.mk ((by rw [hg]; exact (below_size (bk_ HB.out)) : w.heap.size ≤ gb268)); have n3_ := Aside0.mk ((by rw [hg]; exact (below_size (bk_ HB.out)) : w.heap.size ≤ gb268)); clear HB; have HB := n0_; have BK268 := n1_; have GW268 := n2_; have GE268 := n3_; clear n0_ n1_ n2_ n3_; clear hb hbox hg; have hcz16_0 : w15.cell? ⟨gb268, 0, none⟩ = some (.string a0_0) := (blk_cell BK268.out 0).trans rfl; have hcz16_1 : w15.cell? ⟨gb268, 1, none⟩ = some (.slice A0_1 l0_1.length c0_1) := (blk_cell BK268.out 1).trans rfl; have hfz16_0 := blk_frozen BK268.out 0; have hfz16_1 := blk_frozen BK268.out 1) | ((with_reducible refine gate_callee (f := 18) rfl ?_); refine goesL_ (some 23) rfl rfl Tryd.func18 (by kernel_rfl) rfl #[.agg #[.string a0_0, .slice A0_1 l0_1.length c0_1], .string a1, .string a2] rfl (by (try simp only [List.map_toArray, List.map_cons, List.map_nil]); first | done | rfl | (simp only [List.length_drop, List.length_take]; rfl)) ?_; (with_reducible refine (database_Find.calls k a0_0 _ _ l0_1 a1 a2 t269 t270 _ ?side1 ?side2 A8.out).mono ?_); (case side1 => repeat (first | exact (Kd.C_below HR0_1.out HB.out) | (with_reducible refine Kd.C_alloc ?_ _) | (with_reducible refine Kd.C_drewN ?_ _) | (with_reducible refine Kd.C_drew ?_))); (case side2 => exact HC0_1.out); rintro e w17 ⟨rfl, hb⟩; refine ⟨_, rfl, ?_⟩; have n0_ := Aside0.mk (blk_below (g := gb268) (o := .cells #[.string a0_0, .slice A0_1 l0_1.length c0_1] 24 (0, 0)) (bk_ BK268.out) hb); have n1_ := Aside0.mk (below_step (by repeat (first | (with_reducible first | exact HB.out | apply bA_ | apply bN_ | apply bD_ | refine bS_ ?_ GE268.out) | exact HB.out)) hb); clear BK268 HB; have BK268 := n0_; have HB := n1_; clear n0_ n1_; (try clear hb); (try clear hb2); (try clear hk); (try clear hi); have hcz18_0 : w17.cell? ⟨gb268, 0, none⟩ = some (.string a0_0) := (blk_cell BK268.out 0).trans rfl; have hcz18_1 : w17.cell? ⟨gb268, 1, none⟩ = some (.slice A0_1 l0_1.length c0_1) := (blk_cell BK268.out 1).trans rfl; have hfz18_0 := blk_frozen BK268.out 0; have hfz18_1 := blk_frozen BK268.out 1; have p271 : 0 ≤ (t269 : Int) := of_decide_eq_true (by first | (with_reducible assumption) | assumption); have q271 : t269 < (l0_1.length : Int) := of_decide_eq_true (by first | (with_reducible assumption) | assumption); obtain ⟨ad271, e271, hx271_0, hx271_1, hx271_2, hx271_3, hx271_4, hx271_5, hx271_6, hx271_7, hx271_8⟩ := at_T35 HR0_1.out t269 p271 q271; cases e271; replace hx271_0 := (HB.out.cell (World.block_lt_of_cell? w _ hx271_0)).trans hx271_0; replace hx271_1 := (HB.out.cell (World.block_lt_of_cell? w _ hx271_1)).trans hx271_1; replace hx271_2 := (HB.out.cell (World.block_lt_of_cell? w _ hx271_2)).trans hx271_2; replace hx271_3 := (HB.out.cell (World.block_lt_of_cell? w _ hx271_3)).trans hx271_3; replace hx271_4 := (HB.out.cell (World.block_lt_of_cell? w _ hx271_4)).trans hx271_4; replace hx271_5 := (HB.out.cell (World.block_lt_of_cell? w _ hx271_5)).trans hx271_5; replace hx271_6 := (HB.out.cell (World.block_lt_of_cell? w _ hx271_6)).trans hx271_6; replace hx271_7 := (HB.out.cell (World.block_lt_of_cell? w _ hx271_7)).trans hx271_7; replace hx271_8 := (HB.out.cell (World.block_lt_of_cell? w _ hx271_8)).trans hx271_8; replace p271 := eq_true p271; replace q271 := eq_true q271) | ((with_reducible refine gate_dst (N := 18) rfl ?_); refine box_event ?hg (N := 18) ?hd (cs := #[.string (⟨#[]⟩ : ByteArray), .string (⟨#[]⟩ : ByteArray), .int .u64 0, .int .i64 0, .int .i64 0, .int .i64 0, .int .i64 0, .int .i64 0, .int .i64 0]) (t := 35) ?hr ?_; (case hd => rfl); (case hg => rfl); (case hr => first | (go_simp; done) | (go_simp; rfl)); intro gb272 hg w19 hbox hb; have n0_ := Aside0.mk (blk_below (g := gb268) (o := .cells #[.string a0_0, .slice (some ad271) l0_1.length c0_1] 24 (0, 0)) (bk_ BK268.out) hb); have n1_ := Aside0.mk (below_step (by repeat (first | (with_reducible first | exact HB.out | apply bA_ | apply bN_ | apply bD_ | refine bS_ ?_ GE268.out) | exact HB.out)) hb); have n2_ := Aside0.mk (hbox); have n3_ := Aside0.mk ((by rw [hg]; exact (below_size (by repeat (first | (with_reducible first | exact HB.out | apply bA_ | apply bN_ | apply bD_ | refine bS_ ?_ GE268.out) | exact HB.out))) : w.heap.size ≤ gb272)); have n4_ := Aside0.mk ((by rw [hg]; exact (below_size (by repeat (first | (with_reducible first | exact HB.out | apply bA_ | apply bN_ | apply bD_ | refine bS_ ?_ GE268.out) | exact HB.out))) : w.heap.size ≤ gb272)); have n5_ := Aside0.mk ((by rw [hg]; exact Nat.ne_of_lt (blk_lt (g := gb268) (o := .cells #[.string a0_0, .slice (some ad271) l0_1.length c0_1] 24 (0, 0)) (bk_ BK268.out)) : gb268 ≠ gb272)); have n6_ := Aside0.mk ((by rw [hg]; exact Nat.ne_of_gt (blk_lt (g := gb268) (o := .cells #[.string a0_0, .slice (some ad271) l0_1.length c0_1] 24 (0, 0)) (bk_ BK268.out)) : gb272 ≠ gb268)); clear BK268 HB; have BK268 := n0_; have HB := n1_; have BK272 := n2_; have GW272 := n3_; have GE272 := n4_; have NB268_272 := n5_; have NB272_268 := n6_; clear n0_ n1_ n2_ n3_ n4_ n5_ n6_; clear hb hbox hg; have hnb20 := NB272_268.out; have hnc20 := NB268_272.out; have hcz21_0 : w19.cell? ⟨gb272, 0, none⟩ = some (.string (⟨#[]⟩ : ByteArray)) := (blk_cell BK272.out 0).trans rfl; have hcz21_1 : w19.cell? ⟨gb272, 1, none⟩ = some (.string (⟨#[]⟩ : ByteArray)) := (blk_cell BK272.out 1).trans rfl; have hcz21_2 : w19.cell? ⟨gb272, 2, none⟩ = some (.int .u64 0) := (blk_cell BK272.out 2).trans rfl; have hcz21_3 : w19.cell? ⟨gb272, 3, none⟩ = some (.int .i64 0) := (blk_cell BK272.out 3).trans rfl; have hcz21_4 : w19.cell? ⟨gb272, 4, none⟩ = some (.int .i64 0) := (blk_cell BK272.out 4).trans rfl; have hcz21_5 : w19.cell? ⟨gb272, 5, none⟩ = some (.int .i64 0) := (blk_cell BK272.out 5).trans rfl; have hcz21_6 : w19.cell? ⟨gb272, 6, none⟩ = some (.int .i64 0) := (blk_cell BK272.out 6).trans rfl; have hcz21_7 : w19.cell? ⟨gb272, 7, none⟩ = some (.int .i64 0) := (blk_cell BK272.out 7).trans rfl; have hcz21_8 : w19.cell? ⟨gb272, 8, none⟩ = some (.int .i64 0) := (blk_cell BK272.out 8).trans rfl; have hfz21_0 := blk_frozen BK272.out 0; have hfz21_1 := blk_frozen BK272.out 1; have hfz21_2 := blk_frozen BK272.out 2; have hfz21_3 := blk_frozen BK272.out 3; have hfz21_4 := blk_frozen BK272.out 4; have hfz21_5 := blk_frozen BK272.out 5; have hfz21_6 := blk_frozen BK272.out 6; have hfz21_7 := blk_frozen BK272.out 7; have hfz21_8 := blk_frozen BK272.out 8) | ((with_reducible refine gate_callee (f := 41) rfl ?_); refine goesL_ (some 37) rfl rfl Tryd.func41 (by kernel_rfl) rfl #[.int .u64 ((rd_T35 l0_1 t269).f2)] rfl (by (try simp only [List.map_toArray, List.map_cons, List.map_nil]); first | done | rfl | (simp only [List.length_drop, List.length_take]; rfl)) ?_; (with_reducible refine (key_Valid.calls ((rd_T35 l0_1 t269).f2) true _ A12.out).mono ?_); rintro e w' ⟨rfl, ⟨nd, rfl⟩⟩; refine ⟨_, rfl, ?_⟩))
     (try simp only [Act.put, sA_, sB_, sC_])
     go_cut [39] (fun v39 wc => ∃ (kq : Nat) (x39_13 : Bool), v39 = .bool x39_13 ∧ Aside0 (database_usable.j0 kq a4 a5 a6 t269 x39_13 ((rd_T35 l0_1 t269).f0) ((rd_T35 l0_1 t269).f1) ((rd_T35 l0_1 t269).f2) ((rd_T35 l0_1 t269).f3) ((rd_T35 l0_1 t269).f4) ((rd_T35 l0_1 t269).f5) ((rd_T35 l0_1 t269).f6) ((rd_T35 l0_1 t269).f7) ((rd_T35 l0_1 t269).f8) = some (r1, r2)) ∧ Aside0 (kq ≤ k) ∧ Aside0 (wc.heap[gb268]? = some (.cells #[.string a0_0, (.slice (some ad271) l0_1.length c0_1)] 24 (0, 0))) ∧ Aside0 (wc.heap[gb272]? = some (.cells #[.string ((rd_T35 l0_1 t269).f0), .string ((rd_T35 l0_1 t269).f1), .int .u64 ((rd_T35 l0_1 t269).f2), .int .i64 ((rd_T35 l0_1 t269).f3), .int .i64 ((rd_T35 l0_1 t269).f4), .int .i64 ((rd_T35 l0_1 t269).f5), .int .i64 ((rd_T35 l0_1 t269).f6), .int .i64 ((rd_T35 l0_1 t269).f7), .int .i64 ((rd_T35 l0_1 t269).f8)] 35 (0, 0))) ∧ Aside0 (Below w.heap.size w wc))
     case first =>
      have H := HC14.out
      clear HC14
      by_cases c22 : ((rd_T35 l0_1 t269).f4) = 0
      ·rw [if_pos c22] at H
       have c22b0 : (((rd_T35 l0_1 t269).f4) == 0) = true := beq_iff_eq.mpr c22
       have c22b1 : (((rd_T35 l0_1 t269).f4) != 0) = false := bne_eq_false_iff_eq.mpr c22
       clear c22
       (first | rw [c22b0] | (simp only [i64_w, i32_w]; rw [c22b0]) | skip)
       have H' := Aside0.mk H
       clear H
       have hnb23 := NB272_268.out
       have hnc23 := NB268_272.out
       have hcz24_0 : w19.cell? ⟨gb272, 0, none⟩ = some (.string (⟨#[]⟩ : ByteArray)) := (blk_cell BK272.out 0).trans rfl
       have hcz24_1 : w19.cell? ⟨gb272, 1, none⟩ = some (.string (⟨#[]⟩ : ByteArray)) := (blk_cell BK272.out 1).trans rfl
       have hcz24_2 : w19.cell? ⟨gb272, 2, none⟩ = some (.int .u64 0) := (blk_cell BK272.out 2).trans rfl
       have hcz24_3 : w19.cell? ⟨gb272, 3, none⟩ = some (.int .i64 0) := (blk_cell BK272.out 3).trans rfl
       have hcz24_4 : w19.cell? ⟨gb272, 4, none⟩ = some (.int .i64 0) := (blk_cell BK272.out 4).trans rfl
       have hcz24_5 : w19.cell? ⟨gb272, 5, none⟩ = some (.int .i64 0) := (blk_cell BK272.out 5).trans rfl
       have hcz24_6 : w19.cell? ⟨gb272, 6, none⟩ = some (.int .i64 0) := (blk_cell BK272.out 6).trans rfl
       have hcz24_7 : w19.cell? ⟨gb272, 7, none⟩ = some (.int .i64 0) := (blk_cell BK272.out 7).trans rfl
       have hcz24_8 : w19.cell? ⟨gb272, 8, none⟩ = some (.int .i64 0) := (blk_cell BK272.out 8).trans rfl
       have hfz24_0 := blk_frozen BK272.out 0
       have hfz24_1 := blk_frozen BK272.out 1
       have hfz24_2 := blk_frozen BK272.out 2
       have hfz24_3 := blk_frozen BK272.out 3
       have hfz24_4 := blk_frozen BK272.out 4
       have hfz24_5 := blk_frozen BK272.out 5
       have hfz24_6 := blk_frozen BK272.out 6
       have hfz24_7 := blk_frozen BK272.out 7
       have hfz24_8 := blk_frozen BK272.out 8
       go_wp2
       go_meet
       case rel => exact ⟨_, (false), (by first | rfl | (simp; done) | (simp [*]; done)), H', ⟨by first | omega | exact Nat.le_refl _⟩, ⟨by refine bk_ ?_; refine blk_far ?_ NB268_272.out _; refine bk_ ?_; refine blk_far ?_ NB268_272.out _; refine bk_ ?_; refine blk_far ?_ NB268_272.out _; refine bk_ ?_; refine blk_far ?_ NB268_272.out _; refine bk_ ?_; refine blk_far ?_ NB268_272.out _; refine bk_ ?_; refine blk_far ?_ NB268_272.out _; refine bk_ ?_; refine blk_far ?_ NB268_272.out _; refine bk_ ?_; refine blk_far ?_ NB268_272.out _; refine bk_ ?_; refine blk_far ?_ NB268_272.out _; refine bk_ ?_; exact BK268.out⟩, ⟨by refine bk_ ?_; refine blk_put (cs := #[.string ((rd_T35 l0_1 t269).f0), .string ((rd_T35 l0_1 t269).f1), .int .u64 ((rd_T35 l0_1 t269).f2), .int .i64 ((rd_T35 l0_1 t269).f3), .int .i64 ((rd_T35 l0_1 t269).f4), .int .i64 ((rd_T35 l0_1 t269).f5), .int .i64 ((rd_T35 l0_1 t269).f6), .int .i64 ((rd_T35 l0_1 t269).f7), .int .i64 0]) ?_ 8 _ rfl; refine bk_ ?_; refine blk_put (cs := #[.string ((rd_T35 l0_1 t269).f0), .string ((rd_T35 l0_1 t269).f1), .int .u64 ((rd_T35 l0_1 t269).f2), .int .i64 ((rd_T35 l0_1 t269).f3), .int .i64 ((rd_T35 l0_1 t269).f4), .int .i64 ((rd_T35 l0_1 t269).f5), .int .i64 ((rd_T35 l0_1 t269).f6), .int .i64 0, .int .i64 0]) ?_ 7 _ rfl; refine bk_ ?_; refine blk_put (cs := #[.string ((rd_T35 l0_1 t269).f0), .string ((rd_T35 l0_1 t269).f1), .int .u64 ((rd_T35 l0_1 t269).f2), .int .i64 ((rd_T35 l0_1 t269).f3), .int .i64 ((rd_T35 l0_1 t269).f4), .int .i64 ((rd_T35 l0_1 t269).f5), .int .i64 0, .int .i64 0, .int .i64 0]) ?_ 6 _ rfl; refine bk_ ?_; refine blk_put (cs := #[.string ((rd_T35 l0_1 t269).f0), .string ((rd_T35 l0_1 t269).f1), .int .u64 ((rd_T35 l0_1 t269).f2), .int .i64 ((rd_T35 l0_1 t269).f3), .int .i64 ((rd_T35 l0_1 t269).f4), .int .i64 0, .int .i64 0, .int .i64 0, .int .i64 0]) ?_ 5 _ rfl; refine bk_ ?_; refine blk_put (cs := #[.string ((rd_T35 l0_1 t269).f0), .string ((rd_T35 l0_1 t269).f1), .int .u64 ((rd_T35 l0_1 t269).f2), .int .i64 ((rd_T35 l0_1 t269).f3), .int .i64 0, .int .i64 0, .int .i64 0, .int .i64 0, .int .i64 0]) ?_ 4 _ rfl; refine bk_ ?_; refine blk_put (cs := #[.string ((rd_T35 l0_1 t269).f0), .string ((rd_T35 l0_1 t269).f1), .int .u64 ((rd_T35 l0_1 t269).f2), .int .i64 0, .int .i64 0, .int .i64 0, .int .i64 0, .int .i64 0, .int .i64 0]) ?_ 3 _ rfl; refine bk_ ?_; refine blk_put (cs := #[.string ((rd_T35 l0_1 t269).f0), .string ((rd_T35 l0_1 t269).f1), .int .u64 0, .int .i64 0, .int .i64 0, .int .i64 0, .int .i64 0, .int .i64 0, .int .i64 0]) ?_ 2 _ rfl; refine bk_ ?_; refine blk_put (cs := #[.string ((rd_T35 l0_1 t269).f0), .string (⟨#[]⟩ : ByteArray), .int .u64 0, .int .i64 0, .int .i64 0, .int .i64 0, .int .i64 0, .int .i64 0, .int .i64 0]) ?_ 1 _ rfl; refine bk_ ?_; refine blk_put (cs := #[.string (⟨#[]⟩ : ByteArray), .string (⟨#[]⟩ : ByteArray), .int .u64 0, .int .i64 0, .int .i64 0, .int .i64 0, .int .i64 0, .int .i64 0, .int .i64 0]) ?_ 0 _ rfl; refine bk_ ?_; exact BK272.out⟩, ⟨by repeat (first | (with_reducible first | exact HB.out | apply bA_ | apply bN_ | apply bD_ | refine bS_ ?_ GE268.out | refine bS_ ?_ GE272.out) | exact HB.out)⟩⟩
      rw [if_neg c22] at H
      have c22b0 : (((rd_T35 l0_1 t269).f4) == 0) = false := beq_eq_false_iff_ne.mpr c22
      have c22b1 : (((rd_T35 l0_1 t269).f4) != 0) = true := bne_iff_ne.mpr c22
      (first | rw [c22b0] | (simp only [i64_w, i32_w]; rw [c22b0]) | skip)
      have H' := Aside0.mk H
      clear H
      have hnb25 := NB272_268.out
      have hnc25 := NB268_272.out
      have hcz26_0 : w19.cell? ⟨gb272, 0, none⟩ = some (.string (⟨#[]⟩ : ByteArray)) := (blk_cell BK272.out 0).trans rfl
      have hcz26_1 : w19.cell? ⟨gb272, 1, none⟩ = some (.string (⟨#[]⟩ : ByteArray)) := (blk_cell BK272.out 1).trans rfl
      have hcz26_2 : w19.cell? ⟨gb272, 2, none⟩ = some (.int .u64 0) := (blk_cell BK272.out 2).trans rfl
      have hcz26_3 : w19.cell? ⟨gb272, 3, none⟩ = some (.int .i64 0) := (blk_cell BK272.out 3).trans rfl
      have hcz26_4 : w19.cell? ⟨gb272, 4, none⟩ = some (.int .i64 0) := (blk_cell BK272.out 4).trans rfl
      have hcz26_5 : w19.cell? ⟨gb272, 5, none⟩ = some (.int .i64 0) := (blk_cell BK272.out 5).trans rfl
      have hcz26_6 : w19.cell? ⟨gb272, 6, none⟩ = some (.int .i64 0) := (blk_cell BK272.out 6).trans rfl
      have hcz26_7 : w19.cell? ⟨gb272, 7, none⟩ = some (.int .i64 0) := (blk_cell BK272.out 7).trans rfl
      have hcz26_8 : w19.cell? ⟨gb272, 8, none⟩ = some (.int .i64 0) := (blk_cell BK272.out 8).trans rfl
      have hfz26_0 := blk_frozen BK272.out 0
      have hfz26_1 := blk_frozen BK272.out 1
      have hfz26_2 := blk_frozen BK272.out 2
      have hfz26_3 := blk_frozen BK272.out 3
      have hfz26_4 := blk_frozen BK272.out 4
      have hfz26_5 := blk_frozen BK272.out 5
      have hfz26_6 := blk_frozen BK272.out 6
      have hfz26_7 := blk_frozen BK272.out 7
      have hfz26_8 := blk_frozen BK272.out 8
      go_wp2
      go_meet
      case rel => exact ⟨_, (decide (((rd_T35 l0_1 t269).f4) ≤ a3)), (by first | rfl | (simp; done) | (simp [*]; done)), H', ⟨by first | omega | exact Nat.le_refl _⟩, ⟨by refine bk_ ?_; refine blk_far ?_ NB268_272.out _; refine bk_ ?_; refine blk_far ?_ NB268_272.out _; refine bk_ ?_; refine blk_far ?_ NB268_272.out _; refine bk_ ?_; refine blk_far ?_ NB268_272.out _; refine bk_ ?_; refine blk_far ?_ NB268_272.out _; refine bk_ ?_; refine blk_far ?_ NB268_272.out _; refine bk_ ?_; refine blk_far ?_ NB268_272.out _; refine bk_ ?_; refine blk_far ?_ NB268_272.out _; refine bk_ ?_; refine blk_far ?_ NB268_272.out _; refine bk_ ?_; exact BK268.out⟩, ⟨by refine bk_ ?_; refine blk_put (cs := #[.string ((rd_T35 l0_1 t269).f0), .string ((rd_T35 l0_1 t269).f1), .int .u64 ((rd_T35 l0_1 t269).f2), .int .i64 ((rd_T35 l0_1 t269).f3), .int .i64 ((rd_T35 l0_1 t269).f4), .int .i64 ((rd_T35 l0_1 t269).f5), .int .i64 ((rd_T35 l0_1 t269).f6), .int .i64 ((rd_T35 l0_1 t269).f7), .int .i64 0]) ?_ 8 _ rfl; refine bk_ ?_; refine blk_put (cs := #[.string ((rd_T35 l0_1 t269).f0), .string ((rd_T35 l0_1 t269).f1), .int .u64 ((rd_T35 l0_1 t269).f2), .int .i64 ((rd_T35 l0_1 t269).f3), .int .i64 ((rd_T35 l0_1 t269).f4), .int .i64 ((rd_T35 l0_1 t269).f5), .int .i64 ((rd_T35 l0_1 t269).f6), .int .i64 0, .int .i64 0]) ?_ 7 _ rfl; refine bk_ ?_; refine blk_put (cs := #[.string ((rd_T35 l0_1 t269).f0), .string ((rd_T35 l0_1 t269).f1), .int .u64 ((rd_T35 l0_1 t269).f2), .int .i64 ((rd_T35 l0_1 t269).f3), .int .i64 ((rd_T35 l0_1 t269).f4), .int .i64 ((rd_T35 l0_1 t269).f5), .int .i64 0, .int .i64 0, .int .i64 0]) ?_ 6 _ rfl; refine bk_ ?_; refine blk_put (cs := #[.string ((rd_T35 l0_1 t269).f0), .string ((rd_T35 l0_1 t269).f1), .int .u64 ((rd_T35 l0_1 t269).f2), .int .i64 ((rd_T35 l0_1 t269).f3), .int .i64 ((rd_T35 l0_1 t269).f4), .int .i64 0, .int .i64 0, .int .i64 0, .int .i64 0]) ?_ 5 _ rfl; refine bk_ ?_; refine blk_put (cs := #[.string ((rd_T35 l0_1 t269).f0), .string ((rd_T35 l0_1 t269).f1), .int .u64 ((rd_T35 l0_1 t269).f2), .int .i64 ((rd_T35 l0_1 t269).f3), .int .i64 0, .int .i64 0, .int .i64 0, .int .i64 0, .int .i64 0]) ?_ 4 _ rfl; refine bk_ ?_; refine blk_put (cs := #[.string ((rd_T35 l0_1 t269).f0), .string ((rd_T35 l0_1 t269).f1), .int .u64 ((rd_T35 l0_1 t269).f2), .int .i64 0, .int .i64 0, .int .i64 0, .int .i64 0, .int .i64 0, .int .i64 0]) ?_ 3 _ rfl; refine bk_ ?_; refine blk_put (cs := #[.string ((rd_T35 l0_1 t269).f0), .string ((rd_T35 l0_1 t269).f1), .int .u64 0, .int .i64 0, .int .i64 0, .int .i64 0, .int .i64 0, .int .i64 0, .int .i64 0]) ?_ 2 _ rfl; refine bk_ ?_; refine blk_put (cs := #[.string ((rd_T35 l0_1 t269).f0), .string (⟨#[]⟩ : ByteArray), .int .u64 0, .int .i64 0, .int .i64 0, .int .i64 0, .int .i64 0, .int .i64 0, .int .i64 0]) ?_ 1 _ rfl; refine bk_ ?_; refine blk_put (cs := #[.string (⟨#[]⟩ : ByteArray), .string (⟨#[]⟩ : ByteArray), .int .u64 0, .int .i64 0, .int .i64 0, .int .i64 0, .int .i64 0, .int .i64 0, .int .i64 0]) ?_ 0 _ rfl; refine bk_ ?_; exact BK272.out⟩, ⟨by repeat (first | (with_reducible first | exact HB.out | apply bA_ | apply bN_ | apply bD_ | refine bS_ ?_ GE268.out | refine bS_ ?_ GE272.out) | exact HB.out)⟩⟩
     case rest =>
      clear HC14
      try clear c1
      try clear c2
      try clear p2
      try clear q2
      try clear hx2
      try clear c4
      try clear c9
      try clear c9b0
      try clear c9b1
      try clear c10
      try clear c10b0
      try clear c11
      try clear c11b0
      try clear c13
      try clear c18
      try clear c20
      try clear c22
      try clear c22b0
      try clear c22b1
      try clear c23
      try clear c25
      try clear hcz16_0
      try clear hcz16_1
      try clear hcz18_0
      try clear hcz18_1
      try clear hcz21_0
      try clear hcz21_1
      try clear hcz21_2
      try clear hcz21_3
      try clear hcz21_4
      try clear hcz21_5
      try clear hcz21_6
      try clear hcz21_7
      try clear hcz21_8
      try clear hcz24_0
      try clear hcz24_1
      try clear hcz24_2
      try clear hcz24_3
      try clear hcz24_4
      try clear hcz24_5
      try clear hcz24_6
      try clear hcz24_7
      try clear hcz24_8
      try clear hcz26_0
      try clear hcz26_1
      try clear hcz26_2
      try clear hcz26_3
      try clear hcz26_4
      try clear hcz26_5
      try clear hcz26_6
      try clear hcz26_7
      try clear hcz26_8
      try clear hfz16_0
      try clear hfz16_1
      try clear hfz18_0
      try clear hfz18_1
      try clear hfz21_0
      try clear hfz21_1
      try clear hfz21_2
      try clear hfz21_3
      try clear hfz21_4
      try clear hfz21_5
      try clear hfz21_6
      try clear hfz21_7
      try clear hfz21_8
      try clear hfz24_0
      try clear hfz24_1
      try clear hfz24_2
      try clear hfz24_3
      try clear hfz24_4
      try clear hfz24_5
      try clear hfz24_6
      try clear hfz24_7
      try clear hfz24_8
      try clear hfz26_0
      try clear hfz26_1
      try clear hfz26_2
      try clear hfz26_3
      try clear hfz26_4
      try clear hfz26_5
      try clear hfz26_6
      try clear hfz26_7
      try clear hfz26_8
      try clear hx271_0
      try clear hx271_1
      try clear hx271_2
      try clear hx271_3
      try clear hx271_4
      try clear hx271_5
      try clear hx271_6
      try clear hx271_7
      try clear hx271_8
      try clear p271
      try clear q271
      obtain ⟨kq, x39_13, rfl, HA, HJ13, BK268, BK272, HB⟩ := hcut
      cases kq with
      | zero => exact absurd HA.out (by simp [database_usable.j0])
      | succ kj13 =>
       have H := HA.out
       clear HA
       simp only [database_usable.j0] at H
       by_cases c27 : x39_13 = true
       ·subst c27
        have H1 : (some (0, a5)) = some (r1, r2) := by rw [if_pos rfl] at H; exact H
        clear H
        have H := H1
        clear H1
        simp only [Option.some.injEq, Prod.mk.injEq] at H
        obtain ⟨rfl, rfl⟩ := H
        go_wp2
        go_ret2
        exact ⟨by first | rfl | (simp [errW_none, errW_some] <;> rfl) | (simp [*, errW_none, errW_some] <;> rfl), by repeat (first | (with_reducible first | exact HB.out | apply bA_ | apply bN_ | apply bD_ | refine bS_ ?_ GE268.out | refine bS_ ?_ GE272.out) | exact HB.out)⟩
       replace c27 := Bool.eq_false_iff.mpr c27
       subst c27
       have H1 : (if (Go.bits .and .i64 ((rd_T35 l0_1 t269).f6) a4) = 0 then (some (t269, 0)) else (some (0, a6))) = some (r1, r2) := by rw [if_neg (show ¬ (false = true) by decide)] at H; exact H
       clear H
       have H := H1
       clear H1
       by_cases c28 : (Go.bits .and .i64 ((rd_T35 l0_1 t269).f6) a4) = 0
       ·rw [if_pos c28] at H
        have c28b0 : ((Go.bits .and .i64 ((rd_T35 l0_1 t269).f6) a4) == 0) = true := beq_iff_eq.mpr c28
        have c28b1 : ((Go.bits .and .i64 ((rd_T35 l0_1 t269).f6) a4) != 0) = false := bne_eq_false_iff_eq.mpr c28
        clear c28
        simp only [Option.some.injEq, Prod.mk.injEq] at H
        obtain ⟨rfl, rfl⟩ := H
        have hnb29 := NB272_268.out
        have hnc29 := NB268_272.out
        have hcz30_0 : wc.cell? ⟨gb272, 0, none⟩ = some (.string ((rd_T35 l0_1 t269).f0)) := (blk_cell BK272.out 0).trans rfl
        have hcz30_1 : wc.cell? ⟨gb272, 1, none⟩ = some (.string ((rd_T35 l0_1 t269).f1)) := (blk_cell BK272.out 1).trans rfl
        have hcz30_2 : wc.cell? ⟨gb272, 2, none⟩ = some (.int .u64 ((rd_T35 l0_1 t269).f2)) := (blk_cell BK272.out 2).trans rfl
        have hcz30_3 : wc.cell? ⟨gb272, 3, none⟩ = some (.int .i64 ((rd_T35 l0_1 t269).f3)) := (blk_cell BK272.out 3).trans rfl
        have hcz30_4 : wc.cell? ⟨gb272, 4, none⟩ = some (.int .i64 ((rd_T35 l0_1 t269).f4)) := (blk_cell BK272.out 4).trans rfl
        have hcz30_5 : wc.cell? ⟨gb272, 5, none⟩ = some (.int .i64 ((rd_T35 l0_1 t269).f5)) := (blk_cell BK272.out 5).trans rfl
        have hcz30_6 : wc.cell? ⟨gb272, 6, none⟩ = some (.int .i64 ((rd_T35 l0_1 t269).f6)) := (blk_cell BK272.out 6).trans rfl
        have hcz30_7 : wc.cell? ⟨gb272, 7, none⟩ = some (.int .i64 ((rd_T35 l0_1 t269).f7)) := (blk_cell BK272.out 7).trans rfl
        have hcz30_8 : wc.cell? ⟨gb272, 8, none⟩ = some (.int .i64 ((rd_T35 l0_1 t269).f8)) := (blk_cell BK272.out 8).trans rfl
        have hfz30_0 := blk_frozen BK272.out 0
        have hfz30_1 := blk_frozen BK272.out 1
        have hfz30_2 := blk_frozen BK272.out 2
        have hfz30_3 := blk_frozen BK272.out 3
        have hfz30_4 := blk_frozen BK272.out 4
        have hfz30_5 := blk_frozen BK272.out 5
        have hfz30_6 := blk_frozen BK272.out 6
        have hfz30_7 := blk_frozen BK272.out 7
        have hfz30_8 := blk_frozen BK272.out 8
        go_wp2
        go_ret2
        exact ⟨by first | rfl | (simp [errW_none, errW_some] <;> rfl) | (simp [*, errW_none, errW_some] <;> rfl), by repeat (first | (with_reducible first | exact HB.out | apply bA_ | apply bN_ | apply bD_ | refine bS_ ?_ GE268.out | refine bS_ ?_ GE272.out) | exact HB.out)⟩
       rw [if_neg c28] at H
       have c28b0 : ((Go.bits .and .i64 ((rd_T35 l0_1 t269).f6) a4) == 0) = false := beq_eq_false_iff_ne.mpr c28
       have c28b1 : ((Go.bits .and .i64 ((rd_T35 l0_1 t269).f6) a4) != 0) = true := bne_iff_ne.mpr c28
       simp only [Option.some.injEq, Prod.mk.injEq] at H
       obtain ⟨rfl, rfl⟩ := H
       have hnb31 := NB272_268.out
       have hnc31 := NB268_272.out
       have hcz32_0 : wc.cell? ⟨gb272, 0, none⟩ = some (.string ((rd_T35 l0_1 t269).f0)) := (blk_cell BK272.out 0).trans rfl
       have hcz32_1 : wc.cell? ⟨gb272, 1, none⟩ = some (.string ((rd_T35 l0_1 t269).f1)) := (blk_cell BK272.out 1).trans rfl
       have hcz32_2 : wc.cell? ⟨gb272, 2, none⟩ = some (.int .u64 ((rd_T35 l0_1 t269).f2)) := (blk_cell BK272.out 2).trans rfl
       have hcz32_3 : wc.cell? ⟨gb272, 3, none⟩ = some (.int .i64 ((rd_T35 l0_1 t269).f3)) := (blk_cell BK272.out 3).trans rfl
       have hcz32_4 : wc.cell? ⟨gb272, 4, none⟩ = some (.int .i64 ((rd_T35 l0_1 t269).f4)) := (blk_cell BK272.out 4).trans rfl
       have hcz32_5 : wc.cell? ⟨gb272, 5, none⟩ = some (.int .i64 ((rd_T35 l0_1 t269).f5)) := (blk_cell BK272.out 5).trans rfl
       have hcz32_6 : wc.cell? ⟨gb272, 6, none⟩ = some (.int .i64 ((rd_T35 l0_1 t269).f6)) := (blk_cell BK272.out 6).trans rfl
       have hcz32_7 : wc.cell? ⟨gb272, 7, none⟩ = some (.int .i64 ((rd_T35 l0_1 t269).f7)) := (blk_cell BK272.out 7).trans rfl
       have hcz32_8 : wc.cell? ⟨gb272, 8, none⟩ = some (.int .i64 ((rd_T35 l0_1 t269).f8)) := (blk_cell BK272.out 8).trans rfl
       have hfz32_0 := blk_frozen BK272.out 0
       have hfz32_1 := blk_frozen BK272.out 1
       have hfz32_2 := blk_frozen BK272.out 2
       have hfz32_3 := blk_frozen BK272.out 3
       have hfz32_4 := blk_frozen BK272.out 4
       have hfz32_5 := blk_frozen BK272.out 5
       have hfz32_6 := blk_frozen BK272.out 6
       have hfz32_7 := blk_frozen BK272.out 7
       have hfz32_8 := blk_frozen BK272.out 8
       go_wp2
       go_ret2
       exact ⟨by first | rfl | (simp [errW_none, errW_some] <;> rfl) | (simp [*, errW_none, errW_some] <;> rfl), by repeat (first | (with_reducible first | exact HB.out | apply bA_ | apply bN_ | apply bD_ | refine bS_ ?_ GE268.out | refine bS_ ?_ GE272.out) | exact HB.out)⟩
    replace c13 := Bool.eq_false_iff.mpr c13
    subst c13
    have H1 : (some (0, 10)) = some (r1, r2) := by rw [if_neg (show ¬ (false = true) by decide)] at H; exact H
    clear H
    have H := H1
    clear H1
    simp only [Option.some.injEq, Prod.mk.injEq] at H
    obtain ⟨rfl, rfl⟩ := H
    go_enter Tryd.func47, Tryd.ntmps47
    go_wp2_with (first | ((with_reducible refine gate_dst (N := 7) rfl ?_); refine box_event ?hg (N := 7) ?hd (cs := #[.string a0_0, .slice A0_1 l0_1.length c0_1]) (t := 24) ?hr ?_; (case hd => rfl); (case hg => rfl); (case hr => first | (go_simp; done) | (go_simp; rfl)); intro gb268 hg w33 hbox hb; have n0_ := Aside0.mk (below_step (bk_ HB.out) hb); have n1_ := Aside0.mk (hbox); have n2_ := Aside0.mk ((by rw [hg]; exact (below_size (bk_ HB.out)) : w.heap.size ≤ gb268)); have n3_ := Aside0.mk ((by rw [hg]; exact (below_size (bk_ HB.out)) : w.heap.size ≤ gb268)); clear HB; have HB := n0_; have BK268 := n1_; have GW268 := n2_; have GE268 := n3_; clear n0_ n1_ n2_ n3_; clear hb hbox hg; have hcz34_0 : w33.cell? ⟨gb268, 0, none⟩ = some (.string a0_0) := (blk_cell BK268.out 0).trans rfl; have hcz34_1 : w33.cell? ⟨gb268, 1, none⟩ = some (.slice A0_1 l0_1.length c0_1) := (blk_cell BK268.out 1).trans rfl; have hfz34_0 := blk_frozen BK268.out 0; have hfz34_1 := blk_frozen BK268.out 1) | ((with_reducible refine gate_callee (f := 18) rfl ?_); refine goesL_ (some 23) rfl rfl Tryd.func18 (by kernel_rfl) rfl #[.agg #[.string a0_0, .slice A0_1 l0_1.length c0_1], .string a1, .string a2] rfl (by (try simp only [List.map_toArray, List.map_cons, List.map_nil]); first | done | rfl | (simp only [List.length_drop, List.length_take]; rfl)) ?_; (with_reducible refine (database_Find.calls k a0_0 _ _ l0_1 a1 a2 t269 t270 _ ?side1 ?side2 A8.out).mono ?_); (case side1 => repeat (first | exact (Kd.C_below HR0_1.out HB.out) | (with_reducible refine Kd.C_alloc ?_ _) | (with_reducible refine Kd.C_drewN ?_ _) | (with_reducible refine Kd.C_drew ?_))); (case side2 => exact HC0_1.out); rintro e w35 ⟨rfl, hb⟩; refine ⟨_, rfl, ?_⟩; have n0_ := Aside0.mk (blk_below (g := gb268) (o := .cells #[.string a0_0, .slice A0_1 l0_1.length c0_1] 24 (0, 0)) (bk_ BK268.out) hb); have n1_ := Aside0.mk (below_step (by repeat (first | (with_reducible first | exact HB.out | apply bA_ | apply bN_ | apply bD_ | refine bS_ ?_ GE268.out) | exact HB.out)) hb); clear BK268 HB; have BK268 := n0_; have HB := n1_; clear n0_ n1_; (try clear hb); (try clear hb2); (try clear hk); (try clear hi); have hcz36_0 : w35.cell? ⟨gb268, 0, none⟩ = some (.string a0_0) := (blk_cell BK268.out 0).trans rfl; have hcz36_1 : w35.cell? ⟨gb268, 1, none⟩ = some (.slice A0_1 l0_1.length c0_1) := (blk_cell BK268.out 1).trans rfl; have hfz36_0 := blk_frozen BK268.out 0; have hfz36_1 := blk_frozen BK268.out 1; have p271 : 0 ≤ (t269 : Int) := of_decide_eq_true (by first | (with_reducible assumption) | assumption); have q271 : t269 < (l0_1.length : Int) := of_decide_eq_true (by first | (with_reducible assumption) | assumption); obtain ⟨ad271, e271, hx271_0, hx271_1, hx271_2, hx271_3, hx271_4, hx271_5, hx271_6, hx271_7, hx271_8⟩ := at_T35 HR0_1.out t269 p271 q271; cases e271; replace hx271_0 := (HB.out.cell (World.block_lt_of_cell? w _ hx271_0)).trans hx271_0; replace hx271_1 := (HB.out.cell (World.block_lt_of_cell? w _ hx271_1)).trans hx271_1; replace hx271_2 := (HB.out.cell (World.block_lt_of_cell? w _ hx271_2)).trans hx271_2; replace hx271_3 := (HB.out.cell (World.block_lt_of_cell? w _ hx271_3)).trans hx271_3; replace hx271_4 := (HB.out.cell (World.block_lt_of_cell? w _ hx271_4)).trans hx271_4; replace hx271_5 := (HB.out.cell (World.block_lt_of_cell? w _ hx271_5)).trans hx271_5; replace hx271_6 := (HB.out.cell (World.block_lt_of_cell? w _ hx271_6)).trans hx271_6; replace hx271_7 := (HB.out.cell (World.block_lt_of_cell? w _ hx271_7)).trans hx271_7; replace hx271_8 := (HB.out.cell (World.block_lt_of_cell? w _ hx271_8)).trans hx271_8; replace p271 := eq_true p271; replace q271 := eq_true q271) | ((with_reducible refine gate_dst (N := 18) rfl ?_); refine box_event ?hg (N := 18) ?hd (cs := #[.string (⟨#[]⟩ : ByteArray), .string (⟨#[]⟩ : ByteArray), .int .u64 0, .int .i64 0, .int .i64 0, .int .i64 0, .int .i64 0, .int .i64 0, .int .i64 0]) (t := 35) ?hr ?_; (case hd => rfl); (case hg => rfl); (case hr => first | (go_simp; done) | (go_simp; rfl)); intro gb272 hg w37 hbox hb; have n0_ := Aside0.mk (blk_below (g := gb268) (o := .cells #[.string a0_0, .slice (some ad271) l0_1.length c0_1] 24 (0, 0)) (bk_ BK268.out) hb); have n1_ := Aside0.mk (below_step (by repeat (first | (with_reducible first | exact HB.out | apply bA_ | apply bN_ | apply bD_ | refine bS_ ?_ GE268.out) | exact HB.out)) hb); have n2_ := Aside0.mk (hbox); have n3_ := Aside0.mk ((by rw [hg]; exact (below_size (by repeat (first | (with_reducible first | exact HB.out | apply bA_ | apply bN_ | apply bD_ | refine bS_ ?_ GE268.out) | exact HB.out))) : w.heap.size ≤ gb272)); have n4_ := Aside0.mk ((by rw [hg]; exact (below_size (by repeat (first | (with_reducible first | exact HB.out | apply bA_ | apply bN_ | apply bD_ | refine bS_ ?_ GE268.out) | exact HB.out))) : w.heap.size ≤ gb272)); have n5_ := Aside0.mk ((by rw [hg]; exact Nat.ne_of_lt (blk_lt (g := gb268) (o := .cells #[.string a0_0, .slice (some ad271) l0_1.length c0_1] 24 (0, 0)) (bk_ BK268.out)) : gb268 ≠ gb272)); have n6_ := Aside0.mk ((by rw [hg]; exact Nat.ne_of_gt (blk_lt (g := gb268) (o := .cells #[.string a0_0, .slice (some ad271) l0_1.length c0_1] 24 (0, 0)) (bk_ BK268.out)) : gb272 ≠ gb268)); clear BK268 HB; have BK268 := n0_; have HB := n1_; have BK272 := n2_; have GW272 := n3_; have GE272 := n4_; have NB268_272 := n5_; have NB272_268 := n6_; clear n0_ n1_ n2_ n3_ n4_ n5_ n6_; clear hb hbox hg; have hnb38 := NB272_268.out; have hnc38 := NB268_272.out; have hcz39_0 : w37.cell? ⟨gb272, 0, none⟩ = some (.string (⟨#[]⟩ : ByteArray)) := (blk_cell BK272.out 0).trans rfl; have hcz39_1 : w37.cell? ⟨gb272, 1, none⟩ = some (.string (⟨#[]⟩ : ByteArray)) := (blk_cell BK272.out 1).trans rfl; have hcz39_2 : w37.cell? ⟨gb272, 2, none⟩ = some (.int .u64 0) := (blk_cell BK272.out 2).trans rfl; have hcz39_3 : w37.cell? ⟨gb272, 3, none⟩ = some (.int .i64 0) := (blk_cell BK272.out 3).trans rfl; have hcz39_4 : w37.cell? ⟨gb272, 4, none⟩ = some (.int .i64 0) := (blk_cell BK272.out 4).trans rfl; have hcz39_5 : w37.cell? ⟨gb272, 5, none⟩ = some (.int .i64 0) := (blk_cell BK272.out 5).trans rfl; have hcz39_6 : w37.cell? ⟨gb272, 6, none⟩ = some (.int .i64 0) := (blk_cell BK272.out 6).trans rfl; have hcz39_7 : w37.cell? ⟨gb272, 7, none⟩ = some (.int .i64 0) := (blk_cell BK272.out 7).trans rfl; have hcz39_8 : w37.cell? ⟨gb272, 8, none⟩ = some (.int .i64 0) := (blk_cell BK272.out 8).trans rfl; have hfz39_0 := blk_frozen BK272.out 0; have hfz39_1 := blk_frozen BK272.out 1; have hfz39_2 := blk_frozen BK272.out 2; have hfz39_3 := blk_frozen BK272.out 3; have hfz39_4 := blk_frozen BK272.out 4; have hfz39_5 := blk_frozen BK272.out 5; have hfz39_6 := blk_frozen BK272.out 6; have hfz39_7 := blk_frozen BK272.out 7; have hfz39_8 := blk_frozen BK272.out 8) | ((with_reducible refine gate_callee (f := 41) rfl ?_); refine goesL_ (some 37) rfl rfl Tryd.func41 (by kernel_rfl) rfl #[.int .u64 ((rd_T35 l0_1 t269).f2)] rfl (by (try simp only [List.map_toArray, List.map_cons, List.map_nil]); first | done | rfl | (simp only [List.length_drop, List.length_take]; rfl)) ?_; (with_reducible refine (key_Valid.calls ((rd_T35 l0_1 t269).f2) false _ A12.out).mono ?_); rintro e w' ⟨rfl, ⟨nd, rfl⟩⟩; refine ⟨_, rfl, ?_⟩))
    go_ret2
    exact ⟨by first | rfl | (simp [errW_none, errW_some] <;> rfl) | (simp [*, errW_none, errW_some] <;> rfl), by repeat (first | (with_reducible first | exact HB.out | apply bA_ | apply bN_ | apply bD_ | refine bS_ ?_ GE268.out | refine bS_ ?_ GE272.out) | exact HB.out)⟩
   rw [if_neg c11] at H
   exact absurd H (by simp)
  rw [if_neg c10] at H
  exact absurd H (by simp)
 rw [if_neg c9] at H
 have c9b0 : (t270 == 0) = false := beq_eq_false_iff_ne.mpr c9
 have c9b1 : (t270 != 0) = true := bne_iff_ne.mpr c9
 simp only [Option.some.injEq, Prod.mk.injEq] at H
 obtain ⟨rfl, rfl⟩ := H
 go_enter Tryd.func47, Tryd.ntmps47
 go_wp2_with (first | ((with_reducible refine gate_dst (N := 7) rfl ?_); refine box_event ?hg (N := 7) ?hd (cs := #[.string a0_0, .slice A0_1 l0_1.length c0_1]) (t := 24) ?hr ?_; (case hd => rfl); (case hg => rfl); (case hr => first | (go_simp; done) | (go_simp; rfl)); intro gb268 hg w40 hbox hb; have n0_ := Aside0.mk (below_step (bk_ HB.out) hb); have n1_ := Aside0.mk (hbox); have n2_ := Aside0.mk ((by rw [hg]; exact (below_size (bk_ HB.out)) : w.heap.size ≤ gb268)); have n3_ := Aside0.mk ((by rw [hg]; exact (below_size (bk_ HB.out)) : w.heap.size ≤ gb268)); clear HB; have HB := n0_; have BK268 := n1_; have GW268 := n2_; have GE268 := n3_; clear n0_ n1_ n2_ n3_; clear hb hbox hg; have hcz41_0 : w40.cell? ⟨gb268, 0, none⟩ = some (.string a0_0) := (blk_cell BK268.out 0).trans rfl; have hcz41_1 : w40.cell? ⟨gb268, 1, none⟩ = some (.slice A0_1 l0_1.length c0_1) := (blk_cell BK268.out 1).trans rfl; have hfz41_0 := blk_frozen BK268.out 0; have hfz41_1 := blk_frozen BK268.out 1) | ((with_reducible refine gate_callee (f := 18) rfl ?_); refine goesL_ (some 23) rfl rfl Tryd.func18 (by kernel_rfl) rfl #[.agg #[.string a0_0, .slice A0_1 l0_1.length c0_1], .string a1, .string a2] rfl (by (try simp only [List.map_toArray, List.map_cons, List.map_nil]); first | done | rfl | (simp only [List.length_drop, List.length_take]; rfl)) ?_; (with_reducible refine (database_Find.calls k a0_0 _ _ l0_1 a1 a2 t269 t270 _ ?side1 ?side2 A8.out).mono ?_); (case side1 => repeat (first | exact (Kd.C_below HR0_1.out HB.out) | (with_reducible refine Kd.C_alloc ?_ _) | (with_reducible refine Kd.C_drewN ?_ _) | (with_reducible refine Kd.C_drew ?_))); (case side2 => exact HC0_1.out); rintro e w42 ⟨rfl, hb⟩; refine ⟨_, rfl, ?_⟩; have n0_ := Aside0.mk (blk_below (g := gb268) (o := .cells #[.string a0_0, .slice A0_1 l0_1.length c0_1] 24 (0, 0)) (bk_ BK268.out) hb); have n1_ := Aside0.mk (below_step (by repeat (first | (with_reducible first | exact HB.out | apply bA_ | apply bN_ | apply bD_ | refine bS_ ?_ GE268.out) | exact HB.out)) hb); clear BK268 HB; have BK268 := n0_; have HB := n1_; clear n0_ n1_; (try clear hb); (try clear hb2); (try clear hk); (try clear hi)))
 go_ret2
 exact ⟨by first | rfl | (simp [errW_none, errW_some] <;> rfl) | (simp [*, errW_none, errW_some] <;> rfl), by repeat (first | (with_reducible first | exact HB.out | apply bA_ | apply bN_ | apply bD_ | refine bS_ ?_ GE268.out) | exact HB.out)⟩

/-! ### database_Client: function 20 -/
def database_Client.f (k : Nat) (a0_0 : ByteArray) (l0_1 : List (S35)) (a1 : ByteArray) (a2 : ByteArray) (a3 : Int) : Option (Int × Int) := (database_usable.f k a0_0 l0_1 a1 a2 a3 1 1 5).bind fun bt275 => (some (bt275.1, bt275.2))
theorem database_Client.mono : ∀ a0 a1 a2 a3 a4 k, LeO (database_Client.f k a0 a1 a2 a3 a4) (database_Client.f (k + 1) a0 a1 a2 a3 a4) := by
 intro a0 a1 a2 a3 a4 k
 unfold database_Client.f
 repeat' first
   | (with_reducible exact database_usable.mono _ _ _ _ _ _ _ _ _)
   | (with_reducible exact LeO.refl _)
   | (with_reducible exact LeO.none _)
   | (with_reducible refine LeO.ite ?_ ?_)
   | (with_reducible refine LeO.bind ?_ (fun _ => ?_))
   | exact database_usable.mono _ _ _ _ _ _ _ _ _
   | exact LeO.none _
   | refine LeO.ite ?_ ?_
   | refine LeO.bind ?_ (fun _ => ?_)
set_option maxHeartbeats 8000000 in
set_option maxRecDepth 100000 in
theorem database_Client.calls (k : Nat) (a0_0 : ByteArray) (A0_1 : Option Addr) (c0_1 : Nat) (l0_1 : List (S35)) (a1 : ByteArray) (a2 : ByteArray) (a3 : Int) (r1 : Int) (r2 : Int) (w : World) (hr0_1 : Kd.C k35 w A0_1 l0_1.length l0_1) (hc0_1 : l0_1.length ≤ c0_1) (h : database_Client.f k a0_0 l0_1 a1 a2 a3 = some (r1, r2)) :
  Calls Tryd.prog 20 #[.agg #[.string a0_0, .slice A0_1 l0_1.length c0_1], .string a1, .string a2, .int .i64 a3] w fun e w' => e = .returned (.tuple #[.int .i64 r1, .int .i64 r2]) ∧ Below w.heap.size w w' := by
 have hu24 := Tryd.underlying24
 have HR0_1 := Aside0.mk hr0_1
 have HC0_1 := Aside0.mk hc0_1
 clear hr0_1 hc0_1
 have HB := Aside0.mk (Below.refl w.heap.size w)
 have H : ((database_usable.f k a0_0 l0_1 a1 a2 a3 1 1 5).bind fun bt275 => (some (bt275.1, bt275.2))) = some (r1, r2) := h
 clear h
 replace H := Option.bind_eq_some_iff.mp H
 obtain ⟨⟨t275, t276⟩, A50, H⟩ := H
 replace H : (some (t275, t276)) = some (r1, r2) := H
 have A5 := Aside0.mk A50
 clear A50
 simp only [Option.some.injEq, Prod.mk.injEq] at H
 obtain ⟨rfl, rfl⟩ := H
 go_enter Tryd.func20, Tryd.ntmps20
 go_wp2_with (first | ((with_reducible refine gate_dst (N := 4) rfl ?_); refine box_event ?hg (N := 4) ?hd (cs := #[.string a0_0, .slice A0_1 l0_1.length c0_1]) (t := 24) ?hr ?_; (case hd => rfl); (case hg => rfl); (case hr => first | (go_simp; done) | (go_simp; rfl)); intro gb274 hg w6 hbox hb; have n0_ := Aside0.mk (below_step (bk_ HB.out) hb); have n1_ := Aside0.mk (hbox); have n2_ := Aside0.mk ((by rw [hg]; exact (below_size (bk_ HB.out)) : w.heap.size ≤ gb274)); have n3_ := Aside0.mk ((by rw [hg]; exact (below_size (bk_ HB.out)) : w.heap.size ≤ gb274)); clear HB; have HB := n0_; have BK274 := n1_; have GW274 := n2_; have GE274 := n3_; clear n0_ n1_ n2_ n3_; clear hb hbox hg; have hcz7_0 : w6.cell? ⟨gb274, 0, none⟩ = some (.string a0_0) := (blk_cell BK274.out 0).trans rfl; have hcz7_1 : w6.cell? ⟨gb274, 1, none⟩ = some (.slice A0_1 l0_1.length c0_1) := (blk_cell BK274.out 1).trans rfl; have hfz7_0 := blk_frozen BK274.out 0; have hfz7_1 := blk_frozen BK274.out 1) | ((with_reducible refine gate_callee (f := 47) rfl ?_); refine goesL_ (some 14) rfl rfl Tryd.func47 (by kernel_rfl) rfl #[.agg #[.string a0_0, .slice A0_1 l0_1.length c0_1], .string a1, .string a2, .int .i64 a3, .int .i64 1, .int .i64 1, .int .i64 5] rfl (by (try simp only [List.map_toArray, List.map_cons, List.map_nil]); first | done | rfl | (simp only [List.length_drop, List.length_take]; rfl)) ?_; (with_reducible refine (database_usable.calls k a0_0 _ _ l0_1 a1 a2 a3 1 1 5 t275 t276 _ ?side1 ?side2 A5.out).mono ?_); (case side1 => repeat (first | exact (Kd.C_below HR0_1.out HB.out) | (with_reducible refine Kd.C_alloc ?_ _) | (with_reducible refine Kd.C_drewN ?_ _) | (with_reducible refine Kd.C_drew ?_))); (case side2 => exact HC0_1.out); rintro e w8 ⟨rfl, hb⟩; refine ⟨_, rfl, ?_⟩; have n0_ := Aside0.mk (blk_below (g := gb274) (o := .cells #[.string a0_0, .slice A0_1 l0_1.length c0_1] 24 (0, 0)) (bk_ BK274.out) hb); have n1_ := Aside0.mk (below_step (by repeat (first | (with_reducible first | exact HB.out | apply bA_ | apply bN_ | apply bD_ | refine bS_ ?_ GE274.out) | exact HB.out)) hb); clear BK274 HB; have BK274 := n0_; have HB := n1_; clear n0_ n1_; (try clear hb); (try clear hb2); (try clear hk); (try clear hi)))
 go_ret2
 exact ⟨by first | rfl | (simp [errW_none, errW_some] <;> rfl) | (simp [*, errW_none, errW_some] <;> rfl), by repeat (first | (with_reducible first | exact HB.out | apply bA_ | apply bN_ | apply bD_ | refine bS_ ?_ GE274.out) | exact HB.out)⟩

/-! ### kerbsuiteref3_Make: function 64 -/
def kerbsuiteref3_Make.f (a0 : Int) (a1 : Int) : Option (Int) := if a0 = 1 then (if a1 < 1 then (some 0) else (if a1 > 4294967295 then (some 0) else (some (Go.bits .or .u64 (IntKind.u64.wrap ((IntKind.u64.wrap (a0)) * 72057594037927936)) (IntKind.u64.wrap (a1)))))) else (if a0 = 2 then (if a1 < 1 then (some 0) else (if a1 > 4294967295 then (some 0) else (some (Go.bits .or .u64 (IntKind.u64.wrap ((IntKind.u64.wrap (a0)) * 72057594037927936)) (IntKind.u64.wrap (a1)))))) else (some 0))
set_option maxHeartbeats 8000000 in
set_option maxRecDepth 100000 in
theorem kerbsuiteref3_Make.calls (a0 : Int) (a1 : Int) (r : Int) (w : World) (h : kerbsuiteref3_Make.f a0 a1 = some r) :
  Calls Tryd.prog 64 #[.int .i64 a0, .int .i64 a1] w fun e w' => e = .returned (.int .u64 r) ∧ Drawn0 w w' := by
 have H : (if a0 = 1 then (if a1 < 1 then (some 0) else (if a1 > 4294967295 then (some 0) else (some (Go.bits .or .u64 (IntKind.u64.wrap ((IntKind.u64.wrap (a0)) * 72057594037927936)) (IntKind.u64.wrap (a1)))))) else (if a0 = 2 then (if a1 < 1 then (some 0) else (if a1 > 4294967295 then (some 0) else (some (Go.bits .or .u64 (IntKind.u64.wrap ((IntKind.u64.wrap (a0)) * 72057594037927936)) (IntKind.u64.wrap (a1)))))) else (some 0))) = some r := h
 clear h
 by_cases c3 : a0 = 1
 ·rw [if_pos c3] at H
  have c3b0 : (a0 == 1) = true := beq_iff_eq.mpr c3
  have c3b1 : (a0 != 1) = false := bne_eq_false_iff_eq.mpr c3
  clear c3
  by_cases c4 : a1 < 1
  ·rw [if_pos c4] at H
   have c4b0 : decide (a1 < 1) = true := decide_eq_true c4
   clear c4
   obtain rfl := Option.some.inj H
   go_enter Tryd.func64, Tryd.ntmps64
   go_wp2
   go_ret
   exact ⟨by first | rfl | (simp; done) | (simp [*]; done), by repeat (first | exact Drawn0.refl _ | apply Drawn0.step)⟩
  rw [if_neg c4] at H
  have c4b0 : decide (a1 < 1) = false := decide_eq_false c4
  clear c4
  by_cases c5 : a1 > 4294967295
  ·rw [if_pos c5] at H
   have c5b0 : decide (4294967295 < a1) = true := decide_eq_true c5
   clear c5
   obtain rfl := Option.some.inj H
   go_enter Tryd.func64, Tryd.ntmps64
   go_wp2
   go_ret
   exact ⟨by first | rfl | (simp; done) | (simp [*]; done), by repeat (first | exact Drawn0.refl _ | apply Drawn0.step)⟩
  rw [if_neg c5] at H
  have c5b0 : decide (4294967295 < a1) = false := decide_eq_false c5
  clear c5
  obtain rfl := Option.some.inj H
  go_enter Tryd.func64, Tryd.ntmps64
  go_wp2
  go_ret
  exact ⟨by first | rfl | (simp; done) | (simp [*]; done), by repeat (first | exact Drawn0.refl _ | apply Drawn0.step)⟩
 rw [if_neg c3] at H
 have c3b0 : (a0 == 1) = false := beq_eq_false_iff_ne.mpr c3
 have c3b1 : (a0 != 1) = true := bne_iff_ne.mpr c3
 by_cases c6 : a0 = 2
 ·rw [if_pos c6] at H
  have c6b0 : (a0 == 2) = true := beq_iff_eq.mpr c6
  have c6b1 : (a0 != 2) = false := bne_eq_false_iff_eq.mpr c6
  clear c6
  by_cases c7 : a1 < 1
  ·rw [if_pos c7] at H
   have c7b0 : decide (a1 < 1) = true := decide_eq_true c7
   clear c7
   obtain rfl := Option.some.inj H
   go_enter Tryd.func64, Tryd.ntmps64
   go_wp2
   go_ret
   exact ⟨by first | rfl | (simp; done) | (simp [*]; done), by repeat (first | exact Drawn0.refl _ | apply Drawn0.step)⟩
  rw [if_neg c7] at H
  have c7b0 : decide (a1 < 1) = false := decide_eq_false c7
  clear c7
  by_cases c8 : a1 > 4294967295
  ·rw [if_pos c8] at H
   have c8b0 : decide (4294967295 < a1) = true := decide_eq_true c8
   clear c8
   obtain rfl := Option.some.inj H
   go_enter Tryd.func64, Tryd.ntmps64
   go_wp2
   go_ret
   exact ⟨by first | rfl | (simp; done) | (simp [*]; done), by repeat (first | exact Drawn0.refl _ | apply Drawn0.step)⟩
  rw [if_neg c8] at H
  have c8b0 : decide (4294967295 < a1) = false := decide_eq_false c8
  clear c8
  obtain rfl := Option.some.inj H
  go_enter Tryd.func64, Tryd.ntmps64
  go_wp2
  go_ret
  exact ⟨by first | rfl | (simp; done) | (simp [*]; done), by repeat (first | exact Drawn0.refl _ | apply Drawn0.step)⟩
 rw [if_neg c6] at H
 have c6b0 : (a0 == 2) = false := beq_eq_false_iff_ne.mpr c6
 have c6b1 : (a0 != 2) = true := bne_iff_ne.mpr c6
 obtain rfl := Option.some.inj H
 go_enter Tryd.func64, Tryd.ntmps64
 go_wp2
 go_ret
 exact ⟨by first | rfl | (simp; done) | (simp [*]; done), by repeat (first | exact Drawn0.refl _ | apply Drawn0.step)⟩

/-! ### kerbsuiteref3_Valid: function 45 -/
def kerbsuiteref3_Valid.f (a0 : Int) : Option (Bool) := if a0 = 0 then (some false) else ((kerbsuiteref3_Make.f (wrap64 (a0 / 72057594037927936)) (wrap64 (Go.bits .and .u64 a0 72057594037927935))).bind fun t277 => (some (t277 == a0)))
set_option maxHeartbeats 8000000 in
set_option maxRecDepth 100000 in
theorem kerbsuiteref3_Valid.calls (a0 : Int) (r : Bool) (w : World) (h : kerbsuiteref3_Valid.f a0 = some r) :
  Calls Tryd.prog 45 #[.int .u64 a0] w fun e w' => e = .returned (.bool r) ∧ Drawn0 w w' := by
 have H : (if a0 = 0 then (some false) else ((kerbsuiteref3_Make.f (wrap64 (a0 / 72057594037927936)) (wrap64 (Go.bits .and .u64 a0 72057594037927935))).bind fun t277 => (some (t277 == a0)))) = some r := h
 clear h
 by_cases c2 : a0 = 0
 ·rw [if_pos c2] at H
  have c2b0 : (a0 == 0) = true := beq_iff_eq.mpr c2
  have c2b1 : (a0 != 0) = false := bne_eq_false_iff_eq.mpr c2
  clear c2
  obtain rfl := Option.some.inj H
  go_enter Tryd.func45, Tryd.ntmps45
  go_wp2
  go_ret
  exact ⟨by first | rfl | (simp; done) | (simp [*]; done), by repeat (first | exact Drawn0.refl _ | apply Drawn0.step)⟩
 rw [if_neg c2] at H
 have c2b0 : (a0 == 0) = false := beq_eq_false_iff_ne.mpr c2
 have c2b1 : (a0 != 0) = true := bne_iff_ne.mpr c2
 replace H := Option.bind_eq_some_iff.mp H
 obtain ⟨t277, A30, H⟩ := H
 replace H : (some (t277 == a0)) = some r := H
 have A3 := Aside0.mk A30
 clear A30
 obtain rfl := Option.some.inj H
 go_enter Tryd.func45, Tryd.ntmps45
 go_wp2_with (first | (go_at_call 64; (with_reducible refine (kerbsuiteref3_Make.calls (wrap64 (a0 / 72057594037927936)) (wrap64 (Go.bits .and .u64 a0 72057594037927935)) t277 _ A3.out).mono ?_); rintro e w' ⟨rfl, ⟨nd, rfl⟩⟩))
 go_ret
 exact ⟨by first | rfl | (simp; done) | (simp [*]; done), by repeat (first | exact Drawn0.refl _ | apply Drawn0.step)⟩

end Go.Proofs.YthfdfoigoomaoaaDoor.PDb
