/- The walks of functions of the translation: each call returns what the plain function beside it says. -/
import Derived.Test.YtmgcfnialfjphaaPPrinx0
import Derived.Test.YtmgcfnialfjphaaPPrinx1
import Derived.Test.YtmgcfnialfjphaaPPrinx2
import Derived.Test.YtmgcfnialfjphaaPPrinx8
namespace Go.Proofs.Ytmgcfnialfjphaa.PPrin
open Go.RowKit Go.Proofs.YtmgcfnialfjphaaW.PrintWords Go.Proofs.YtmgcfnialfjphaaW.PrintLast Go.Proofs.YtmgcfnialfjphaaW.PrintMore Go.Proofs.Ytmgcfnialfjphaa.Aid
attribute [local go_sem] max2_int min2_int max_two min_two max_three min_three max_four min_four aid_str_gtr   -- for this text's walks alone
set_option linter.unusedVariables false
set_option linter.unusedSimpArgs false

attribute [local go_sem high] eqA23
/-! ### kerbsuitelaw1_PrincipalOrder: function 7 -/
mutual
def kerbsuitelaw1_PrincipalOrder.j0 : Nat → Int → Bool → ByteArray → ByteArray → ByteArray → ByteArray → ByteArray → ByteArray → ByteArray → ByteArray → ByteArray → Option (Bool)
 | 0, _, _, _, _, _, _, _, _, _, _, _ => none
 | k + 1, x3, x23, x234000, x234001, x234002, x235000, x235001, x235002, x236000, x236001, x236002 => if x23 = true then (some true) else (if (Int.tmod x3 4) > 0 then (kerbsuitelaw1_PrincipalOrder.j1 k x3 x234000 x234001 x234002 x235000 x235001 x234002 x236000 x236001 x236002) else (kerbsuitelaw1_PrincipalOrder.j1 k x3 x234000 x234001 x234002 x235000 x235001 x235002 x236000 x236001 x236002))
def kerbsuitelaw1_PrincipalOrder.j1 : Nat → Int → ByteArray → ByteArray → ByteArray → ByteArray → ByteArray → ByteArray → ByteArray → ByteArray → ByteArray → Option (Bool)
 | 0, _, _, _, _, _, _, _, _, _, _ => none
 | k + 1, x3, x234000, x234001, x234002, x235000, x235001, x235002, x236000, x236001, x236002 => if (Int.tmod x3 4) > 1 then (kerbsuitelaw1_PrincipalOrder.j2 k x3 x234000 x234001 x234002 x234000 x235001 x235002 x236000 x236001 x236002) else (kerbsuitelaw1_PrincipalOrder.j2 k x3 x234000 x234001 x234002 x235000 x235001 x235002 x236000 x236001 x236002)
def kerbsuitelaw1_PrincipalOrder.j2 : Nat → Int → ByteArray → ByteArray → ByteArray → ByteArray → ByteArray → ByteArray → ByteArray → ByteArray → ByteArray → Option (Bool)
 | 0, _, _, _, _, _, _, _, _, _, _ => none
 | k + 1, x3, x234000, x234001, x234002, x235000, x235001, x235002, x236000, x236001, x236002 => if (Int.tmod x3 4) > 2 then (kerbsuitelaw1_PrincipalOrder.j3 k x234000 x234001 x234002 x235000 x235001 x235002 x235000 x235001 x235002) else (kerbsuitelaw1_PrincipalOrder.j3 k x234000 x234001 x234002 x235000 x235001 x235002 x236000 x236001 x236002)
def kerbsuitelaw1_PrincipalOrder.j3 : Nat → ByteArray → ByteArray → ByteArray → ByteArray → ByteArray → ByteArray → ByteArray → ByteArray → ByteArray → Option (Bool)
 | 0, _, _, _, _, _, _, _, _, _ => none
 | k + 1, x234000, x234001, x234002, x235000, x235001, x235002, x236000, x236001, x236002 => (principal_Compare.f x234000 x234001 x234002 x235000 x235001 x235002).bind fun t240 => ((principal_Compare.f x235000 x235001 x235002 x236000 x236001 x236002).bind fun t241 => ((principal_Compare.f x234000 x234001 x234002 x236000 x236001 x236002).bind fun t242 => ((kerbsuiteref1_Compare.f x234000 x234001 x234002 x235000 x235001 x235002).bind fun t243 => (if t240 = t243 then ((kerbsuiteref1_Compare.f x235000 x235001 x235002 x236000 x236001 x236002).bind fun t244 => (if t241 = t244 then ((kerbsuiteref1_Compare.f x234000 x234001 x234002 x236000 x236001 x236002).bind fun t245 => (if t242 = t245 then ((principal_Compare.f x235000 x235001 x235002 x234000 x234001 x234002).bind fun t246 => (if t246 = (wrap64 (-t240)) then (if ((t240 == 0) != (x234000.toList == x235000.toList && (x234001.toList == x235001.toList && (x234002.toList == x235002.toList)))) = true then (some false) else (if t240 > 0 then (some true) else (if t241 > 0 then (some true) else (some (decide (t242 ≤ 0)))))) else (some false))) else (some false))) else (some false))) else (some false)))))
end
def kerbsuitelaw1_PrincipalOrder.f (k : Nat) (a0_0 : ByteArray) (a0_1 : ByteArray) (a0_2 : ByteArray) (a1_0 : ByteArray) (a1_1 : ByteArray) (a1_2 : ByteArray) (a2_0 : ByteArray) (a2_1 : ByteArray) (a2_2 : ByteArray) (a3 : Int) : Option (Bool) := (kerbsuitelaw1_awake.f k).bind fun t236 => (if t236 = true then ((kerbsuitelaw1_long.f a0_0 a0_1 a0_2).bind fun t237 => (if t237 = true then (kerbsuitelaw1_PrincipalOrder.j0 k a3 true a0_0 a0_1 a0_2 a1_0 a1_1 a1_2 a2_0 a2_1 a2_2) else ((kerbsuitelaw1_long.f a1_0 a1_1 a1_2).bind fun t238 => (if t238 = true then (kerbsuitelaw1_PrincipalOrder.j0 k a3 true a0_0 a0_1 a0_2 a1_0 a1_1 a1_2 a2_0 a2_1 a2_2) else ((kerbsuitelaw1_long.f a2_0 a2_1 a2_2).bind fun t239 => (kerbsuitelaw1_PrincipalOrder.j0 k a3 t239 a0_0 a0_1 a0_2 a1_0 a1_1 a1_2 a2_0 a2_1 a2_2)))))) else (some false))
theorem kerbsuitelaw1_PrincipalOrder.mono_l : ∀ k, (∀ y0 y1 y2 y3 y4 y5 y6 y7 y8 y9 y10, LeO (kerbsuitelaw1_PrincipalOrder.j0 k y0 y1 y2 y3 y4 y5 y6 y7 y8 y9 y10) (kerbsuitelaw1_PrincipalOrder.j0 (k + 1) y0 y1 y2 y3 y4 y5 y6 y7 y8 y9 y10)) ∧ (∀ y0 y1 y2 y3 y4 y5 y6 y7 y8 y9, LeO (kerbsuitelaw1_PrincipalOrder.j1 k y0 y1 y2 y3 y4 y5 y6 y7 y8 y9) (kerbsuitelaw1_PrincipalOrder.j1 (k + 1) y0 y1 y2 y3 y4 y5 y6 y7 y8 y9)) ∧ (∀ y0 y1 y2 y3 y4 y5 y6 y7 y8 y9, LeO (kerbsuitelaw1_PrincipalOrder.j2 k y0 y1 y2 y3 y4 y5 y6 y7 y8 y9) (kerbsuitelaw1_PrincipalOrder.j2 (k + 1) y0 y1 y2 y3 y4 y5 y6 y7 y8 y9)) ∧ (∀ y0 y1 y2 y3 y4 y5 y6 y7 y8, LeO (kerbsuitelaw1_PrincipalOrder.j3 k y0 y1 y2 y3 y4 y5 y6 y7 y8) (kerbsuitelaw1_PrincipalOrder.j3 (k + 1) y0 y1 y2 y3 y4 y5 y6 y7 y8))
 | 0 => ⟨fun _ _ _ _ _ _ _ _ _ _ _ r h => by simp [kerbsuitelaw1_PrincipalOrder.j0] at h, fun _ _ _ _ _ _ _ _ _ _ r h => by simp [kerbsuitelaw1_PrincipalOrder.j1] at h, fun _ _ _ _ _ _ _ _ _ _ r h => by simp [kerbsuitelaw1_PrincipalOrder.j2] at h, fun _ _ _ _ _ _ _ _ _ r h => by simp [kerbsuitelaw1_PrincipalOrder.j3] at h⟩
 | k + 1 => by
  obtain ⟨ih0, ih1, ih2, ih3⟩ := kerbsuitelaw1_PrincipalOrder.mono_l k
  refine ⟨?_, ?_, ?_, ?_⟩
  ·intro y0 y1 y2 y3 y4 y5 y6 y7 y8 y9 y10
   unfold kerbsuitelaw1_PrincipalOrder.j0
   repeat' first
   | (with_reducible exact ih0 _ _ _ _ _ _ _ _ _ _ _)
   | (with_reducible exact ih1 _ _ _ _ _ _ _ _ _ _)
   | (with_reducible exact ih2 _ _ _ _ _ _ _ _ _ _)
   | (with_reducible exact ih3 _ _ _ _ _ _ _ _ _)
   | (with_reducible exact kerbsuitelaw1_awake.mono _)
   | (with_reducible exact LeO.refl _)
   | (with_reducible exact LeO.none _)
   | (with_reducible refine LeO.ite ?_ ?_)
   | (with_reducible refine LeO.bind ?_ (fun _ => ?_))
   | exact ih0 _ _ _ _ _ _ _ _ _ _ _
   | exact ih1 _ _ _ _ _ _ _ _ _ _
   | exact ih2 _ _ _ _ _ _ _ _ _ _
   | exact ih3 _ _ _ _ _ _ _ _ _
   | exact kerbsuitelaw1_awake.mono _
   | exact LeO.none _
   | refine LeO.ite ?_ ?_
   | refine LeO.bind ?_ (fun _ => ?_)
  ·intro y0 y1 y2 y3 y4 y5 y6 y7 y8 y9
   unfold kerbsuitelaw1_PrincipalOrder.j1
   repeat' first
   | (with_reducible exact ih0 _ _ _ _ _ _ _ _ _ _ _)
   | (with_reducible exact ih1 _ _ _ _ _ _ _ _ _ _)
   | (with_reducible exact ih2 _ _ _ _ _ _ _ _ _ _)
   | (with_reducible exact ih3 _ _ _ _ _ _ _ _ _)
   | (with_reducible exact kerbsuitelaw1_awake.mono _)
   | (with_reducible exact LeO.refl _)
   | (with_reducible exact LeO.none _)
   | (with_reducible refine LeO.ite ?_ ?_)
   | (with_reducible refine LeO.bind ?_ (fun _ => ?_))
   | exact ih0 _ _ _ _ _ _ _ _ _ _ _
   | exact ih1 _ _ _ _ _ _ _ _ _ _
   | exact ih2 _ _ _ _ _ _ _ _ _ _
   | exact ih3 _ _ _ _ _ _ _ _ _
   | exact kerbsuitelaw1_awake.mono _
   | exact LeO.none _
   | refine LeO.ite ?_ ?_
   | refine LeO.bind ?_ (fun _ => ?_)
  ·intro y0 y1 y2 y3 y4 y5 y6 y7 y8 y9
   unfold kerbsuitelaw1_PrincipalOrder.j2
   repeat' first
   | (with_reducible exact ih0 _ _ _ _ _ _ _ _ _ _ _)
   | (with_reducible exact ih1 _ _ _ _ _ _ _ _ _ _)
   | (with_reducible exact ih2 _ _ _ _ _ _ _ _ _ _)
   | (with_reducible exact ih3 _ _ _ _ _ _ _ _ _)
   | (with_reducible exact kerbsuitelaw1_awake.mono _)
   | (with_reducible exact LeO.refl _)
   | (with_reducible exact LeO.none _)
   | (with_reducible refine LeO.ite ?_ ?_)
   | (with_reducible refine LeO.bind ?_ (fun _ => ?_))
   | exact ih0 _ _ _ _ _ _ _ _ _ _ _
   | exact ih1 _ _ _ _ _ _ _ _ _ _
   | exact ih2 _ _ _ _ _ _ _ _ _ _
   | exact ih3 _ _ _ _ _ _ _ _ _
   | exact kerbsuitelaw1_awake.mono _
   | exact LeO.none _
   | refine LeO.ite ?_ ?_
   | refine LeO.bind ?_ (fun _ => ?_)
  ·intro y0 y1 y2 y3 y4 y5 y6 y7 y8
   unfold kerbsuitelaw1_PrincipalOrder.j3
   repeat' first
   | (with_reducible exact ih0 _ _ _ _ _ _ _ _ _ _ _)
   | (with_reducible exact ih1 _ _ _ _ _ _ _ _ _ _)
   | (with_reducible exact ih2 _ _ _ _ _ _ _ _ _ _)
   | (with_reducible exact ih3 _ _ _ _ _ _ _ _ _)
   | (with_reducible exact kerbsuitelaw1_awake.mono _)
   | (with_reducible exact LeO.refl _)
   | (with_reducible exact LeO.none _)
   | (with_reducible refine LeO.ite ?_ ?_)
   | (with_reducible refine LeO.bind ?_ (fun _ => ?_))
   | exact ih0 _ _ _ _ _ _ _ _ _ _ _
   | exact ih1 _ _ _ _ _ _ _ _ _ _
   | exact ih2 _ _ _ _ _ _ _ _ _ _
   | exact ih3 _ _ _ _ _ _ _ _ _
   | exact kerbsuitelaw1_awake.mono _
   | exact LeO.none _
   | refine LeO.ite ?_ ?_
   | refine LeO.bind ?_ (fun _ => ?_)
theorem kerbsuitelaw1_PrincipalOrder.mono : ∀ a0 a1 a2 a3 a4 a5 a6 a7 a8 a9 k, LeO (kerbsuitelaw1_PrincipalOrder.f k a0 a1 a2 a3 a4 a5 a6 a7 a8 a9) (kerbsuitelaw1_PrincipalOrder.f (k + 1) a0 a1 a2 a3 a4 a5 a6 a7 a8 a9) := by
 intro a0 a1 a2 a3 a4 a5 a6 a7 a8 a9 k
 obtain ⟨ih0, ih1, ih2, ih3⟩ := kerbsuitelaw1_PrincipalOrder.mono_l k
 unfold kerbsuitelaw1_PrincipalOrder.f
 repeat' first
   | (with_reducible exact ih0 _ _ _ _ _ _ _ _ _ _ _)
   | (with_reducible exact ih1 _ _ _ _ _ _ _ _ _ _)
   | (with_reducible exact ih2 _ _ _ _ _ _ _ _ _ _)
   | (with_reducible exact ih3 _ _ _ _ _ _ _ _ _)
   | (with_reducible exact kerbsuitelaw1_awake.mono _)
   | (with_reducible exact LeO.refl _)
   | (with_reducible exact LeO.none _)
   | (with_reducible refine LeO.ite ?_ ?_)
   | (with_reducible refine LeO.bind ?_ (fun _ => ?_))
   | exact ih0 _ _ _ _ _ _ _ _ _ _ _
   | exact ih1 _ _ _ _ _ _ _ _ _ _
   | exact ih2 _ _ _ _ _ _ _ _ _ _
   | exact ih3 _ _ _ _ _ _ _ _ _
   | exact kerbsuitelaw1_awake.mono _
   | exact LeO.none _
   | refine LeO.ite ?_ ?_
   | refine LeO.bind ?_ (fun _ => ?_)
def kerbsuitelaw1_PrincipalOrder.T11 : Bool × List (List Nat × List Nat) := (true,[([], []), ([], []), ([0, 1], [0, 1]), ([], []), ([], []), ([3, 4, 2], [3, 4]), ([], []), ([], []), ([6, 7, 5], [6, 7]), ([2, 8, 0, 1, 2], [2]), ([5, 9, 0, 1, 2, 3, 4, 5, 9], [5]), ([8, 10, 0, 1, 2, 3, 4, 5, 6, 7, 8, 9, 10], [8])])
def kerbsuitelaw1_PrincipalOrder.B11 : List Nat := [0, 0, 3, 0, 0, 31, 0, 0, 255, 511, 1023, 2047]
theorem kerbsuitelaw1_PrincipalOrder.tab11 : rtab .any (opsOf Try.f7 11) = kerbsuitelaw1_PrincipalOrder.T11 := by kernel_rfl
theorem kerbsuitelaw1_PrincipalOrder.bits11 : waitsOk kerbsuitelaw1_PrincipalOrder.T11.2 kerbsuitelaw1_PrincipalOrder.B11 = true := by kernel_rfl
set_option maxHeartbeats 8000000 in
set_option maxRecDepth 100000 in
theorem kerbsuitelaw1_PrincipalOrder.calls (k : Nat) (a0_0 : ByteArray) (a0_1 : ByteArray) (a0_2 : ByteArray) (a1_0 : ByteArray) (a1_1 : ByteArray) (a1_2 : ByteArray) (a2_0 : ByteArray) (a2_1 : ByteArray) (a2_2 : ByteArray) (a3 : Int) (r : Bool) (w : World) (h : kerbsuitelaw1_PrincipalOrder.f k a0_0 a0_1 a0_2 a1_0 a1_1 a1_2 a2_0 a2_1 a2_2 a3 = some r) :
  Calls Try.prog 7 #[.agg #[.string a0_0, .string a0_1, .string a0_2], .agg #[.string a1_0, .string a1_1, .string a1_2], .agg #[.string a2_0, .string a2_1, .string a2_2], .int .u8 a3] w fun e w' => e = .returned (.bool r) ∧ Below w.heap.size w w' := by
 have hu23 := Try.underlying23
 have HB := Aside0.mk (Below.refl w.heap.size w)
 have H : ((kerbsuitelaw1_awake.f k).bind fun t236 => (if t236 = true then ((kerbsuitelaw1_long.f a0_0 a0_1 a0_2).bind fun t237 => (if t237 = true then (kerbsuitelaw1_PrincipalOrder.j0 k a3 true a0_0 a0_1 a0_2 a1_0 a1_1 a1_2 a2_0 a2_1 a2_2) else ((kerbsuitelaw1_long.f a1_0 a1_1 a1_2).bind fun t238 => (if t238 = true then (kerbsuitelaw1_PrincipalOrder.j0 k a3 true a0_0 a0_1 a0_2 a1_0 a1_1 a1_2 a2_0 a2_1 a2_2) else ((kerbsuitelaw1_long.f a2_0 a2_1 a2_2).bind fun t239 => (kerbsuitelaw1_PrincipalOrder.j0 k a3 t239 a0_0 a0_1 a0_2 a1_0 a1_1 a1_2 a2_0 a2_1 a2_2)))))) else (some false))) = some r := h
 clear h
 replace H := Option.bind_eq_some_iff.mp H
 obtain ⟨t236, A50, H⟩ := H
 replace H : (if t236 = true then ((kerbsuitelaw1_long.f a0_0 a0_1 a0_2).bind fun t237 => (if t237 = true then (kerbsuitelaw1_PrincipalOrder.j0 k a3 true a0_0 a0_1 a0_2 a1_0 a1_1 a1_2 a2_0 a2_1 a2_2) else ((kerbsuitelaw1_long.f a1_0 a1_1 a1_2).bind fun t238 => (if t238 = true then (kerbsuitelaw1_PrincipalOrder.j0 k a3 true a0_0 a0_1 a0_2 a1_0 a1_1 a1_2 a2_0 a2_1 a2_2) else ((kerbsuitelaw1_long.f a2_0 a2_1 a2_2).bind fun t239 => (kerbsuitelaw1_PrincipalOrder.j0 k a3 t239 a0_0 a0_1 a0_2 a1_0 a1_1 a1_2 a2_0 a2_1 a2_2)))))) else (some false)) = some r := H
 have A5 := Aside0.mk A50
 clear A50
 by_cases c6 : t236 = true
 ·subst c6
  have H1 : ((kerbsuitelaw1_long.f a0_0 a0_1 a0_2).bind fun t237 => (if t237 = true then (kerbsuitelaw1_PrincipalOrder.j0 k a3 true a0_0 a0_1 a0_2 a1_0 a1_1 a1_2 a2_0 a2_1 a2_2) else ((kerbsuitelaw1_long.f a1_0 a1_1 a1_2).bind fun t238 => (if t238 = true then (kerbsuitelaw1_PrincipalOrder.j0 k a3 true a0_0 a0_1 a0_2 a1_0 a1_1 a1_2 a2_0 a2_1 a2_2) else ((kerbsuitelaw1_long.f a2_0 a2_1 a2_2).bind fun t239 => (kerbsuitelaw1_PrincipalOrder.j0 k a3 t239 a0_0 a0_1 a0_2 a1_0 a1_1 a1_2 a2_0 a2_1 a2_2)))))) = some r := by rw [if_pos rfl] at H; exact H
  clear H
  have H := H1
  clear H1
  have HC7 := Aside0.mk H
  clear H
  go_enter Try.func7, Try.ntmps7
  go_upto_region 3 with (first | ((with_reducible refine gate_dst (N := 4) rfl ?_); refine box_event ?hg (N := 4) ?hd (cs := #[.string a0_0, .string a0_1, .string a0_2]) (t := 23) ?hr ?_; (case hd => rfl); (case hg => rfl); (case hr => first | (go_simp; done) | (go_simp; rfl)); intro gb233 hg w8 hbox hb; have n0_ := Aside0.mk (below_step (by repeat (first | (with_reducible first | exact HB.out | apply below_alloc | apply pw_below_drewN | apply below_drew1) | exact HB.out)) hb); have n1_ := Aside0.mk (hbox); have n2_ := Aside0.mk ((by rw [hg]; exact (below_size (by repeat (first | (with_reducible first | exact HB.out | apply below_alloc | apply pw_below_drewN | apply below_drew1) | exact HB.out))) : w.heap.size ≤ gb233)); have n3_ := Aside0.mk ((by rw [hg]; exact (below_size (by repeat (first | (with_reducible first | exact HB.out | apply below_alloc | apply pw_below_drewN | apply below_drew1) | exact HB.out))) : w.heap.size ≤ gb233)); clear HB; have HB := n0_; have BK233 := n1_; have GW233 := n2_; have GE233 := n3_; clear n0_ n1_ n2_ n3_; clear hb hbox hg) | ((with_reducible refine gate_dst (N := 5) rfl ?_); refine box_event ?hg (N := 5) ?hd (cs := #[.string a1_0, .string a1_1, .string a1_2]) (t := 23) ?hr ?_; (case hd => rfl); (case hg => rfl); (case hr => first | (go_simp; done) | (go_simp; rfl)); intro gb234 hg w9 hbox hb; have n0_ := Aside0.mk (blk_below (g := gb233) (o := .cells #[.string a0_0, .string a0_1, .string a0_2] 23 (0, 0)) (by (with_reducible repeat (first | refine blk_drewN ?_ _ | refine blk_drew ?_ | refine blk_alloc ?_ _)); exact BK233.out) hb); have n1_ := Aside0.mk (below_step (by repeat (first | (with_reducible first | exact HB.out | apply below_alloc | apply pw_below_drewN | apply below_drew1 | refine below_set ?_ GE233.out) | exact HB.out)) hb); have n2_ := Aside0.mk (hbox); have n3_ := Aside0.mk ((by rw [hg]; exact (below_size (by repeat (first | (with_reducible first | exact HB.out | apply below_alloc | apply pw_below_drewN | apply below_drew1 | refine below_set ?_ GE233.out) | exact HB.out))) : w.heap.size ≤ gb234)); have n4_ := Aside0.mk ((by rw [hg]; exact (below_size (by repeat (first | (with_reducible first | exact HB.out | apply below_alloc | apply pw_below_drewN | apply below_drew1 | refine below_set ?_ GE233.out) | exact HB.out))) : w.heap.size ≤ gb234)); have n5_ := Aside0.mk ((by rw [hg]; exact Nat.ne_of_lt (blk_lt (g := gb233) (o := .cells #[.string a0_0, .string a0_1, .string a0_2] 23 (0, 0)) (by (with_reducible repeat (first | refine blk_drewN ?_ _ | refine blk_drew ?_ | refine blk_alloc ?_ _)); exact BK233.out)) : gb233 ≠ gb234)); have n6_ := Aside0.mk ((by rw [hg]; exact Nat.ne_of_gt (blk_lt (g := gb233) (o := .cells #[.string a0_0, .string a0_1, .string a0_2] 23 (0, 0)) (by (with_reducible repeat (first | refine blk_drewN ?_ _ | refine blk_drew ?_ | refine blk_alloc ?_ _)); exact BK233.out)) : gb234 ≠ gb233)); clear BK233; clear HB; have BK233 := n0_; have HB := n1_; have BK234 := n2_; have GW234 := n3_; have GE234 := n4_; have NB233_234 := n5_; have NB234_233 := n6_; clear n0_ n1_ n2_ n3_ n4_ n5_ n6_; clear hb hbox hg) | ((with_reducible refine gate_dst (N := 6) rfl ?_); refine box_event ?hg (N := 6) ?hd (cs := #[.string a2_0, .string a2_1, .string a2_2]) (t := 23) ?hr ?_; (case hd => rfl); (case hg => rfl); (case hr => first | (go_simp; done) | (go_simp; rfl)); intro gb235 hg w10 hbox hb; have n0_ := Aside0.mk (blk_below (g := gb233) (o := .cells #[.string a0_0, .string a0_1, .string a0_2] 23 (0, 0)) (by (with_reducible repeat (first | refine blk_drewN ?_ _ | refine blk_drew ?_ | refine blk_alloc ?_ _)); exact BK233.out) hb); have n1_ := Aside0.mk (blk_below (g := gb234) (o := .cells #[.string a1_0, .string a1_1, .string a1_2] 23 (0, 0)) (by (with_reducible repeat (first | refine blk_drewN ?_ _ | refine blk_drew ?_ | refine blk_alloc ?_ _)); exact BK234.out) hb); have n2_ := Aside0.mk (below_step (by repeat (first | (with_reducible first | exact HB.out | apply below_alloc | apply pw_below_drewN | apply below_drew1 | refine below_set ?_ GE233.out | refine below_set ?_ GE234.out) | exact HB.out)) hb); have n3_ := Aside0.mk (hbox); have n4_ := Aside0.mk ((by rw [hg]; exact (below_size (by repeat (first | (with_reducible first | exact HB.out | apply below_alloc | apply pw_below_drewN | apply below_drew1 | refine below_set ?_ GE233.out | refine below_set ?_ GE234.out) | exact HB.out))) : w.heap.size ≤ gb235)); have n5_ := Aside0.mk ((by rw [hg]; exact (below_size (by repeat (first | (with_reducible first | exact HB.out | apply below_alloc | apply pw_below_drewN | apply below_drew1 | refine below_set ?_ GE233.out | refine below_set ?_ GE234.out) | exact HB.out))) : w.heap.size ≤ gb235)); have n6_ := Aside0.mk ((by rw [hg]; exact Nat.ne_of_lt (blk_lt (g := gb233) (o := .cells #[.string a0_0, .string a0_1, .string a0_2] 23 (0, 0)) (by (with_reducible repeat (first | refine blk_drewN ?_ _ | refine blk_drew ?_ | refine blk_alloc ?_ _)); exact BK233.out)) : gb233 ≠ gb235)); have n7_ := Aside0.mk ((by rw [hg]; exact Nat.ne_of_gt (blk_lt (g := gb233) (o := .cells #[.string a0_0, .string a0_1, .string a0_2] 23 (0, 0)) (by (with_reducible repeat (first | refine blk_drewN ?_ _ | refine blk_drew ?_ | refine blk_alloc ?_ _)); exact BK233.out)) : gb235 ≠ gb233)); have n8_ := Aside0.mk ((by rw [hg]; exact Nat.ne_of_lt (blk_lt (g := gb234) (o := .cells #[.string a1_0, .string a1_1, .string a1_2] 23 (0, 0)) (by (with_reducible repeat (first | refine blk_drewN ?_ _ | refine blk_drew ?_ | refine blk_alloc ?_ _)); exact BK234.out)) : gb234 ≠ gb235)); have n9_ := Aside0.mk ((by rw [hg]; exact Nat.ne_of_gt (blk_lt (g := gb234) (o := .cells #[.string a1_0, .string a1_1, .string a1_2] 23 (0, 0)) (by (with_reducible repeat (first | refine blk_drewN ?_ _ | refine blk_drew ?_ | refine blk_alloc ?_ _)); exact BK234.out)) : gb235 ≠ gb234)); clear BK233; clear BK234; clear HB; have BK233 := n0_; have BK234 := n1_; have HB := n2_; have BK235 := n3_; have GW235 := n4_; have GE235 := n5_; have NB233_235 := n6_; have NB235_233 := n7_; have NB234_235 := n8_; have NB235_234 := n9_; clear n0_ n1_ n2_ n3_ n4_ n5_ n6_ n7_ n8_ n9_; clear hb hbox hg) | ((with_reducible refine gate_callee (f := 8) rfl ?_); refine goesL_ (some 12) rfl rfl Try.func8 (by kernel_rfl) rfl #[] rfl (by (try simp only [List.map_toArray, List.map_cons, List.map_nil]); first | done | rfl | (simp only [List.length_drop, List.length_take]; rfl)) ?_; (with_reducible refine (kerbsuitelaw1_awake.calls k  true _ A5.out).mono ?_); rintro e w11 ⟨rfl, hb⟩; refine ⟨_, rfl, ?_⟩; have n0_ := Aside0.mk (blk_below (g := gb233) (o := .cells #[.string a0_0, .string a0_1, .string a0_2] 23 (0, 0)) (by (with_reducible repeat (first | refine blk_drewN ?_ _ | refine blk_drew ?_ | refine blk_alloc ?_ _)); exact BK233.out) hb); have n1_ := Aside0.mk (blk_below (g := gb234) (o := .cells #[.string a1_0, .string a1_1, .string a1_2] 23 (0, 0)) (by (with_reducible repeat (first | refine blk_drewN ?_ _ | refine blk_drew ?_ | refine blk_alloc ?_ _)); exact BK234.out) hb); have n2_ := Aside0.mk (blk_below (g := gb235) (o := .cells #[.string a2_0, .string a2_1, .string a2_2] 23 (0, 0)) (by (with_reducible repeat (first | refine blk_drewN ?_ _ | refine blk_drew ?_ | refine blk_alloc ?_ _)); exact BK235.out) hb); have n3_ := Aside0.mk (below_step (by repeat (first | (with_reducible first | exact HB.out | apply below_alloc | apply pw_below_drewN | apply below_drew1 | refine below_set ?_ GE233.out | refine below_set ?_ GE234.out | refine below_set ?_ GE235.out) | exact HB.out)) hb); clear BK233; clear BK234; clear BK235; clear HB; have BK233 := n0_; have BK234 := n1_; have BK235 := n2_; have HB := n3_; clear n0_ n1_ n2_ n3_; (try clear hb); (try clear hb2); (try clear hk); (try clear hi)))
  (try simp only [Act.put, List.setIfInBounds_toArray, List.set_cons_zero, List.set_cons_succ])
  go_cut [23] (fun v23 wc => ∃ (kq : Nat) (x23_6 : Bool), v23 = .bool x23_6 ∧ Aside0 (kerbsuitelaw1_PrincipalOrder.j0 kq a3 x23_6 a0_0 a0_1 a0_2 a1_0 a1_1 a1_2 a2_0 a2_1 a2_2 = some r) ∧ Aside0 (kq ≤ k) ∧ Aside0 (wc.heap[gb233]? = some (.cells #[.string a0_0, .string a0_1, .string a0_2] 23 (0, 0))) ∧ Aside0 (wc.heap[gb234]? = some (.cells #[.string a1_0, .string a1_1, .string a1_2] 23 (0, 0))) ∧ Aside0 (wc.heap[gb235]? = some (.cells #[.string a2_0, .string a2_1, .string a2_2] 23 (0, 0))) ∧ Aside0 (Below w.heap.size w wc))
  case first =>
   have H := HC7.out
   clear HC7
   replace H := Option.bind_eq_some_iff.mp H
   obtain ⟨t237, A120, H⟩ := H
   replace H : (if t237 = true then (kerbsuitelaw1_PrincipalOrder.j0 k a3 true a0_0 a0_1 a0_2 a1_0 a1_1 a1_2 a2_0 a2_1 a2_2) else ((kerbsuitelaw1_long.f a1_0 a1_1 a1_2).bind fun t238 => (if t238 = true then (kerbsuitelaw1_PrincipalOrder.j0 k a3 true a0_0 a0_1 a0_2 a1_0 a1_1 a1_2 a2_0 a2_1 a2_2) else ((kerbsuitelaw1_long.f a2_0 a2_1 a2_2).bind fun t239 => (kerbsuitelaw1_PrincipalOrder.j0 k a3 t239 a0_0 a0_1 a0_2 a1_0 a1_1 a1_2 a2_0 a2_1 a2_2))))) = some r := H
   have A12 := Aside0.mk A120
   clear A120
   by_cases c13 : t237 = true
   ·subst c13
    have H1 : (kerbsuitelaw1_PrincipalOrder.j0 k a3 true a0_0 a0_1 a0_2 a1_0 a1_1 a1_2 a2_0 a2_1 a2_2) = some r := by rw [if_pos rfl] at H; exact H
    clear H
    have H := H1
    clear H1
    have H' := Aside0.mk H
    clear H
    have hnb14 := NB233_234.out
    have hnc14 := NB234_233.out
    have hnb15 := NB233_235.out
    have hnc15 := NB235_233.out
    have hcz16_0 : w11.cell? ⟨gb233, 0, none⟩ = some (.string a0_0) := (blk_cell BK233.out 0).trans rfl
    have hcz16_1 : w11.cell? ⟨gb233, 1, none⟩ = some (.string a0_1) := (blk_cell BK233.out 1).trans rfl
    have hcz16_2 : w11.cell? ⟨gb233, 2, none⟩ = some (.string a0_2) := (blk_cell BK233.out 2).trans rfl
    have hfz16_0 := blk_frozen BK233.out 0
    have hfz16_1 := blk_frozen BK233.out 1
    have hfz16_2 := blk_frozen BK233.out 2
    go_wp2_with (first | ((with_reducible refine gate_callee (f := 9) rfl ?_); refine goesL_ (some 15) rfl rfl Try.func9 (by kernel_rfl) rfl #[.agg #[.string a0_0, .string a0_1, .string a0_2]] rfl (by (try simp only [List.map_toArray, List.map_cons, List.map_nil]); first | done | rfl | (simp only [List.length_drop, List.length_take]; rfl)) ?_; (with_reducible refine (kerbsuitelaw1_long.calls a0_0 a0_1 a0_2 true _ A12.out).mono ?_); rintro e w17 ⟨rfl, hb⟩; refine ⟨_, rfl, ?_⟩; have n0_ := Aside0.mk (blk_below (g := gb233) (o := .cells #[.string a0_0, .string a0_1, .string a0_2] 23 (0, 0)) (by (with_reducible repeat (first | refine blk_drewN ?_ _ | refine blk_drew ?_ | refine blk_alloc ?_ _)); exact BK233.out) hb); have n1_ := Aside0.mk (blk_below (g := gb234) (o := .cells #[.string a1_0, .string a1_1, .string a1_2] 23 (0, 0)) (by (with_reducible repeat (first | refine blk_drewN ?_ _ | refine blk_drew ?_ | refine blk_alloc ?_ _)); exact BK234.out) hb); have n2_ := Aside0.mk (blk_below (g := gb235) (o := .cells #[.string a2_0, .string a2_1, .string a2_2] 23 (0, 0)) (by (with_reducible repeat (first | refine blk_drewN ?_ _ | refine blk_drew ?_ | refine blk_alloc ?_ _)); exact BK235.out) hb); have n3_ := Aside0.mk (below_step (by repeat (first | (with_reducible first | exact HB.out | apply below_alloc | apply pw_below_drewN | apply below_drew1 | refine below_set ?_ GE233.out | refine below_set ?_ GE234.out | refine below_set ?_ GE235.out) | exact HB.out)) hb); clear BK233; clear BK234; clear BK235; clear HB; have BK233 := n0_; have BK234 := n1_; have BK235 := n2_; have HB := n3_; clear n0_ n1_ n2_ n3_; (try clear hb); (try clear hb2); (try clear hk); (try clear hi)))
    go_meet
    case rel => exact ⟨_, (true), (by first | rfl | (simp; done) | (simp [*]; done)), H', ⟨by first | omega | exact Nat.le_refl _⟩, ⟨by (with_reducible repeat (first | refine blk_drewN ?_ _ | refine blk_drew ?_ | refine blk_alloc ?_ _)); exact BK233.out⟩, ⟨by (with_reducible repeat (first | refine blk_drewN ?_ _ | refine blk_drew ?_ | refine blk_alloc ?_ _)); exact BK234.out⟩, ⟨by (with_reducible repeat (first | refine blk_drewN ?_ _ | refine blk_drew ?_ | refine blk_alloc ?_ _)); exact BK235.out⟩, ⟨by repeat (first | (with_reducible first | exact HB.out | apply below_alloc | apply pw_below_drewN | apply below_drew1 | refine below_set ?_ GE233.out | refine below_set ?_ GE234.out | refine below_set ?_ GE235.out) | exact HB.out)⟩⟩
   ·replace c13 := Bool.eq_false_iff.mpr c13
    subst c13
    have H1 : ((kerbsuitelaw1_long.f a1_0 a1_1 a1_2).bind fun t238 => (if t238 = true then (kerbsuitelaw1_PrincipalOrder.j0 k a3 true a0_0 a0_1 a0_2 a1_0 a1_1 a1_2 a2_0 a2_1 a2_2) else ((kerbsuitelaw1_long.f a2_0 a2_1 a2_2).bind fun t239 => (kerbsuitelaw1_PrincipalOrder.j0 k a3 t239 a0_0 a0_1 a0_2 a1_0 a1_1 a1_2 a2_0 a2_1 a2_2)))) = some r := by rw [if_neg (show ¬ (false = true) by decide)] at H; exact H
    clear H
    have H := H1
    clear H1
    replace H := Option.bind_eq_some_iff.mp H
    obtain ⟨t238, A180, H⟩ := H
    replace H : (if t238 = true then (kerbsuitelaw1_PrincipalOrder.j0 k a3 true a0_0 a0_1 a0_2 a1_0 a1_1 a1_2 a2_0 a2_1 a2_2) else ((kerbsuitelaw1_long.f a2_0 a2_1 a2_2).bind fun t239 => (kerbsuitelaw1_PrincipalOrder.j0 k a3 t239 a0_0 a0_1 a0_2 a1_0 a1_1 a1_2 a2_0 a2_1 a2_2))) = some r := H
    have A18 := Aside0.mk A180
    clear A180
    by_cases c19 : t238 = true
    ·subst c19
     have H1 : (kerbsuitelaw1_PrincipalOrder.j0 k a3 true a0_0 a0_1 a0_2 a1_0 a1_1 a1_2 a2_0 a2_1 a2_2) = some r := by rw [if_pos rfl] at H; exact H
     clear H
     have H := H1
     clear H1
     have H' := Aside0.mk H
     clear H
     have hnb20 := NB233_234.out
     have hnc20 := NB234_233.out
     have hnb21 := NB233_235.out
     have hnc21 := NB235_233.out
     have hcz22_0 : w11.cell? ⟨gb233, 0, none⟩ = some (.string a0_0) := (blk_cell BK233.out 0).trans rfl
     have hcz22_1 : w11.cell? ⟨gb233, 1, none⟩ = some (.string a0_1) := (blk_cell BK233.out 1).trans rfl
     have hcz22_2 : w11.cell? ⟨gb233, 2, none⟩ = some (.string a0_2) := (blk_cell BK233.out 2).trans rfl
     have hfz22_0 := blk_frozen BK233.out 0
     have hfz22_1 := blk_frozen BK233.out 1
     have hfz22_2 := blk_frozen BK233.out 2
     go_wp2_with (first | ((with_reducible refine gate_callee (f := 9) rfl ?_); refine goesL_ (some 15) rfl rfl Try.func9 (by kernel_rfl) rfl #[.agg #[.string a0_0, .string a0_1, .string a0_2]] rfl (by (try simp only [List.map_toArray, List.map_cons, List.map_nil]); first | done | rfl | (simp only [List.length_drop, List.length_take]; rfl)) ?_; (with_reducible refine (kerbsuitelaw1_long.calls a0_0 a0_1 a0_2 false _ A12.out).mono ?_); rintro e w23 ⟨rfl, hb⟩; refine ⟨_, rfl, ?_⟩; have n0_ := Aside0.mk (blk_below (g := gb233) (o := .cells #[.string a0_0, .string a0_1, .string a0_2] 23 (0, 0)) (by (with_reducible repeat (first | refine blk_drewN ?_ _ | refine blk_drew ?_ | refine blk_alloc ?_ _)); exact BK233.out) hb); have n1_ := Aside0.mk (blk_below (g := gb234) (o := .cells #[.string a1_0, .string a1_1, .string a1_2] 23 (0, 0)) (by (with_reducible repeat (first | refine blk_drewN ?_ _ | refine blk_drew ?_ | refine blk_alloc ?_ _)); exact BK234.out) hb); have n2_ := Aside0.mk (blk_below (g := gb235) (o := .cells #[.string a2_0, .string a2_1, .string a2_2] 23 (0, 0)) (by (with_reducible repeat (first | refine blk_drewN ?_ _ | refine blk_drew ?_ | refine blk_alloc ?_ _)); exact BK235.out) hb); have n3_ := Aside0.mk (below_step (by repeat (first | (with_reducible first | exact HB.out | apply below_alloc | apply pw_below_drewN | apply below_drew1 | refine below_set ?_ GE233.out | refine below_set ?_ GE234.out | refine below_set ?_ GE235.out) | exact HB.out)) hb); clear BK233; clear BK234; clear BK235; clear HB; have BK233 := n0_; have BK234 := n1_; have BK235 := n2_; have HB := n3_; clear n0_ n1_ n2_ n3_; (try clear hb); (try clear hb2); (try clear hk); (try clear hi); have hnb24 := NB234_235.out; have hnc24 := NB235_234.out; have hcz25_0 : w23.cell? ⟨gb234, 0, none⟩ = some (.string a1_0) := (blk_cell BK234.out 0).trans rfl; have hcz25_1 : w23.cell? ⟨gb234, 1, none⟩ = some (.string a1_1) := (blk_cell BK234.out 1).trans rfl; have hcz25_2 : w23.cell? ⟨gb234, 2, none⟩ = some (.string a1_2) := (blk_cell BK234.out 2).trans rfl; have hfz25_0 := blk_frozen BK234.out 0; have hfz25_1 := blk_frozen BK234.out 1; have hfz25_2 := blk_frozen BK234.out 2) | (go_at_call 9; (with_reducible refine (kerbsuitelaw1_long.calls a1_0 a1_1 a1_2 true _ A18.out).mono ?_); rintro e w26 ⟨rfl, hb⟩; have n0_ := Aside0.mk (blk_below (g := gb233) (o := .cells #[.string a0_0, .string a0_1, .string a0_2] 23 (0, 0)) (by (with_reducible repeat (first | refine blk_drewN ?_ _ | refine blk_drew ?_ | refine blk_alloc ?_ _)); exact BK233.out) hb); have n1_ := Aside0.mk (blk_below (g := gb234) (o := .cells #[.string a1_0, .string a1_1, .string a1_2] 23 (0, 0)) (by (with_reducible repeat (first | refine blk_drewN ?_ _ | refine blk_drew ?_ | refine blk_alloc ?_ _)); exact BK234.out) hb); have n2_ := Aside0.mk (blk_below (g := gb235) (o := .cells #[.string a2_0, .string a2_1, .string a2_2] 23 (0, 0)) (by (with_reducible repeat (first | refine blk_drewN ?_ _ | refine blk_drew ?_ | refine blk_alloc ?_ _)); exact BK235.out) hb); have n3_ := Aside0.mk (below_step (by repeat (first | (with_reducible first | exact HB.out | apply below_alloc | apply pw_below_drewN | apply below_drew1 | refine below_set ?_ GE233.out | refine below_set ?_ GE234.out | refine below_set ?_ GE235.out) | exact HB.out)) hb); clear BK233; clear BK234; clear BK235; clear HB; have BK233 := n0_; have BK234 := n1_; have BK235 := n2_; have HB := n3_; clear n0_ n1_ n2_ n3_; (try clear hb); (try clear hb2); (try clear hk); (try clear hi)))
     go_meet
     case rel => exact ⟨_, (true), (by first | rfl | (simp; done) | (simp [*]; done)), H', ⟨by first | omega | exact Nat.le_refl _⟩, ⟨by (with_reducible repeat (first | refine blk_drewN ?_ _ | refine blk_drew ?_ | refine blk_alloc ?_ _)); exact BK233.out⟩, ⟨by (with_reducible repeat (first | refine blk_drewN ?_ _ | refine blk_drew ?_ | refine blk_alloc ?_ _)); exact BK234.out⟩, ⟨by (with_reducible repeat (first | refine blk_drewN ?_ _ | refine blk_drew ?_ | refine blk_alloc ?_ _)); exact BK235.out⟩, ⟨by repeat (first | (with_reducible first | exact HB.out | apply below_alloc | apply pw_below_drewN | apply below_drew1 | refine below_set ?_ GE233.out | refine below_set ?_ GE234.out | refine below_set ?_ GE235.out) | exact HB.out)⟩⟩
    ·replace c19 := Bool.eq_false_iff.mpr c19
     subst c19
     have H1 : ((kerbsuitelaw1_long.f a2_0 a2_1 a2_2).bind fun t239 => (kerbsuitelaw1_PrincipalOrder.j0 k a3 t239 a0_0 a0_1 a0_2 a1_0 a1_1 a1_2 a2_0 a2_1 a2_2)) = some r := by rw [if_neg (show ¬ (false = true) by decide)] at H; exact H
     clear H
     have H := H1
     clear H1
     replace H := Option.bind_eq_some_iff.mp H
     obtain ⟨t239, A270, H⟩ := H
     replace H : (kerbsuitelaw1_PrincipalOrder.j0 k a3 t239 a0_0 a0_1 a0_2 a1_0 a1_1 a1_2 a2_0 a2_1 a2_2) = some r := H
     have A27 := Aside0.mk A270
     clear A270
     have H' := Aside0.mk H
     clear H
     have hnb28 := NB233_234.out
     have hnc28 := NB234_233.out
     have hnb29 := NB233_235.out
     have hnc29 := NB235_233.out
     have hcz30_0 : w11.cell? ⟨gb233, 0, none⟩ = some (.string a0_0) := (blk_cell BK233.out 0).trans rfl
     have hcz30_1 : w11.cell? ⟨gb233, 1, none⟩ = some (.string a0_1) := (blk_cell BK233.out 1).trans rfl
     have hcz30_2 : w11.cell? ⟨gb233, 2, none⟩ = some (.string a0_2) := (blk_cell BK233.out 2).trans rfl
     have hfz30_0 := blk_frozen BK233.out 0
     have hfz30_1 := blk_frozen BK233.out 1
     have hfz30_2 := blk_frozen BK233.out 2
     go_wp2_with (first | ((with_reducible refine gate_callee (f := 9) rfl ?_); refine goesL_ (some 15) rfl rfl Try.func9 (by kernel_rfl) rfl #[.agg #[.string a0_0, .string a0_1, .string a0_2]] rfl (by (try simp only [List.map_toArray, List.map_cons, List.map_nil]); first | done | rfl | (simp only [List.length_drop, List.length_take]; rfl)) ?_; (with_reducible refine (kerbsuitelaw1_long.calls a0_0 a0_1 a0_2 false _ A12.out).mono ?_); rintro e w31 ⟨rfl, hb⟩; refine ⟨_, rfl, ?_⟩; have n0_ := Aside0.mk (blk_below (g := gb233) (o := .cells #[.string a0_0, .string a0_1, .string a0_2] 23 (0, 0)) (by (with_reducible repeat (first | refine blk_drewN ?_ _ | refine blk_drew ?_ | refine blk_alloc ?_ _)); exact BK233.out) hb); have n1_ := Aside0.mk (blk_below (g := gb234) (o := .cells #[.string a1_0, .string a1_1, .string a1_2] 23 (0, 0)) (by (with_reducible repeat (first | refine blk_drewN ?_ _ | refine blk_drew ?_ | refine blk_alloc ?_ _)); exact BK234.out) hb); have n2_ := Aside0.mk (blk_below (g := gb235) (o := .cells #[.string a2_0, .string a2_1, .string a2_2] 23 (0, 0)) (by (with_reducible repeat (first | refine blk_drewN ?_ _ | refine blk_drew ?_ | refine blk_alloc ?_ _)); exact BK235.out) hb); have n3_ := Aside0.mk (below_step (by repeat (first | (with_reducible first | exact HB.out | apply below_alloc | apply pw_below_drewN | apply below_drew1 | refine below_set ?_ GE233.out | refine below_set ?_ GE234.out | refine below_set ?_ GE235.out) | exact HB.out)) hb); clear BK233; clear BK234; clear BK235; clear HB; have BK233 := n0_; have BK234 := n1_; have BK235 := n2_; have HB := n3_; clear n0_ n1_ n2_ n3_; (try clear hb); (try clear hb2); (try clear hk); (try clear hi); have hnb32 := NB234_235.out; have hnc32 := NB235_234.out; have hcz33_0 : w31.cell? ⟨gb234, 0, none⟩ = some (.string a1_0) := (blk_cell BK234.out 0).trans rfl; have hcz33_1 : w31.cell? ⟨gb234, 1, none⟩ = some (.string a1_1) := (blk_cell BK234.out 1).trans rfl; have hcz33_2 : w31.cell? ⟨gb234, 2, none⟩ = some (.string a1_2) := (blk_cell BK234.out 2).trans rfl; have hfz33_0 := blk_frozen BK234.out 0; have hfz33_1 := blk_frozen BK234.out 1; have hfz33_2 := blk_frozen BK234.out 2) | (go_at_call 9; (with_reducible refine (kerbsuitelaw1_long.calls a1_0 a1_1 a1_2 false _ A18.out).mono ?_); rintro e w34 ⟨rfl, hb⟩; have n0_ := Aside0.mk (blk_below (g := gb233) (o := .cells #[.string a0_0, .string a0_1, .string a0_2] 23 (0, 0)) (by (with_reducible repeat (first | refine blk_drewN ?_ _ | refine blk_drew ?_ | refine blk_alloc ?_ _)); exact BK233.out) hb); have n1_ := Aside0.mk (blk_below (g := gb234) (o := .cells #[.string a1_0, .string a1_1, .string a1_2] 23 (0, 0)) (by (with_reducible repeat (first | refine blk_drewN ?_ _ | refine blk_drew ?_ | refine blk_alloc ?_ _)); exact BK234.out) hb); have n2_ := Aside0.mk (blk_below (g := gb235) (o := .cells #[.string a2_0, .string a2_1, .string a2_2] 23 (0, 0)) (by (with_reducible repeat (first | refine blk_drewN ?_ _ | refine blk_drew ?_ | refine blk_alloc ?_ _)); exact BK235.out) hb); have n3_ := Aside0.mk (below_step (by repeat (first | (with_reducible first | exact HB.out | apply below_alloc | apply pw_below_drewN | apply below_drew1 | refine below_set ?_ GE233.out | refine below_set ?_ GE234.out | refine below_set ?_ GE235.out) | exact HB.out)) hb); clear BK233; clear BK234; clear BK235; clear HB; have BK233 := n0_; have BK234 := n1_; have BK235 := n2_; have HB := n3_; clear n0_ n1_ n2_ n3_; (try clear hb); (try clear hb2); (try clear hk); (try clear hi); have hcz35_0 : w34.cell? ⟨gb235, 0, none⟩ = some (.string a2_0) := (blk_cell BK235.out 0).trans rfl; have hcz35_1 : w34.cell? ⟨gb235, 1, none⟩ = some (.string a2_1) := (blk_cell BK235.out 1).trans rfl; have hcz35_2 : w34.cell? ⟨gb235, 2, none⟩ = some (.string a2_2) := (blk_cell BK235.out 2).trans rfl; have hfz35_0 := blk_frozen BK235.out 0; have hfz35_1 := blk_frozen BK235.out 1; have hfz35_2 := blk_frozen BK235.out 2) | (go_at_call 9; (with_reducible refine (kerbsuitelaw1_long.calls a2_0 a2_1 a2_2 t239 _ A27.out).mono ?_); rintro e w36 ⟨rfl, hb⟩; have n0_ := Aside0.mk (blk_below (g := gb233) (o := .cells #[.string a0_0, .string a0_1, .string a0_2] 23 (0, 0)) (by (with_reducible repeat (first | refine blk_drewN ?_ _ | refine blk_drew ?_ | refine blk_alloc ?_ _)); exact BK233.out) hb); have n1_ := Aside0.mk (blk_below (g := gb234) (o := .cells #[.string a1_0, .string a1_1, .string a1_2] 23 (0, 0)) (by (with_reducible repeat (first | refine blk_drewN ?_ _ | refine blk_drew ?_ | refine blk_alloc ?_ _)); exact BK234.out) hb); have n2_ := Aside0.mk (blk_below (g := gb235) (o := .cells #[.string a2_0, .string a2_1, .string a2_2] 23 (0, 0)) (by (with_reducible repeat (first | refine blk_drewN ?_ _ | refine blk_drew ?_ | refine blk_alloc ?_ _)); exact BK235.out) hb); have n3_ := Aside0.mk (below_step (by repeat (first | (with_reducible first | exact HB.out | apply below_alloc | apply pw_below_drewN | apply below_drew1 | refine below_set ?_ GE233.out | refine below_set ?_ GE234.out | refine below_set ?_ GE235.out) | exact HB.out)) hb); clear BK233; clear BK234; clear BK235; clear HB; have BK233 := n0_; have BK234 := n1_; have BK235 := n2_; have HB := n3_; clear n0_ n1_ n2_ n3_; (try clear hb); (try clear hb2); (try clear hk); (try clear hi)))
     go_meet
     case rel => exact ⟨_, (t239), (by first | rfl | (simp; done) | (simp [*]; done)), H', ⟨by first | omega | exact Nat.le_refl _⟩, ⟨by (with_reducible repeat (first | refine blk_drewN ?_ _ | refine blk_drew ?_ | refine blk_alloc ?_ _)); exact BK233.out⟩, ⟨by (with_reducible repeat (first | refine blk_drewN ?_ _ | refine blk_drew ?_ | refine blk_alloc ?_ _)); exact BK234.out⟩, ⟨by (with_reducible repeat (first | refine blk_drewN ?_ _ | refine blk_drew ?_ | refine blk_alloc ?_ _)); exact BK235.out⟩, ⟨by repeat (first | (with_reducible first | exact HB.out | apply below_alloc | apply pw_below_drewN | apply below_drew1 | refine below_set ?_ GE233.out | refine below_set ?_ GE234.out | refine below_set ?_ GE235.out) | exact HB.out)⟩⟩
  case rest =>
   clear HC7
   try clear c1
   try clear c2
   try clear p2
   try clear c3
   try clear c6
   try clear c7
   try clear c8
   try clear c9
   try clear c13
   try clear c14
   try clear c15
   try clear c19
   try clear c20
   try clear c21
   try clear c24
   try clear c28
   try clear c29
   try clear c32
   try clear hcz16_0
   try clear hcz16_1
   try clear hcz16_2
   try clear hcz22_0
   try clear hcz22_1
   try clear hcz22_2
   try clear hcz25_0
   try clear hcz25_1
   try clear hcz25_2
   try clear hcz30_0
   try clear hcz30_1
   try clear hcz30_2
   try clear hcz33_0
   try clear hcz33_1
   try clear hcz33_2
   try clear hcz35_0
   try clear hcz35_1
   try clear hcz35_2
   try clear hfz16_0
   try clear hfz16_1
   try clear hfz16_2
   try clear hfz22_0
   try clear hfz22_1
   try clear hfz22_2
   try clear hfz25_0
   try clear hfz25_1
   try clear hfz25_2
   try clear hfz30_0
   try clear hfz30_1
   try clear hfz30_2
   try clear hfz33_0
   try clear hfz33_1
   try clear hfz33_2
   try clear hfz35_0
   try clear hfz35_1
   try clear hfz35_2
   obtain ⟨kq, x23_6, rfl, HA, HJ6, BK233, BK234, BK235, HB⟩ := hcut
   cases kq with
   | zero => exact absurd HA.out (by simp [kerbsuitelaw1_PrincipalOrder.j0])
   | succ kj6 =>
    have H := HA.out
    clear HA
    simp only [kerbsuitelaw1_PrincipalOrder.j0] at H
    by_cases c37 : x23_6 = true
    ·subst c37
     have H1 : (some true) = some r := by rw [if_pos rfl] at H; exact H
     clear H
     have H := H1
     clear H1
     obtain rfl := Option.some.inj H
     go_wp2
     go_ret
     exact ⟨by first | rfl | (simp [errW_none, errW_some] <;> rfl) | (simp [*, errW_none, errW_some] <;> rfl), by repeat (first | (with_reducible first | exact HB.out | apply below_alloc | apply pw_below_drewN | apply below_drew1 | refine below_set ?_ GE233.out | refine below_set ?_ GE234.out | refine below_set ?_ GE235.out) | exact HB.out)⟩
    ·replace c37 := Bool.eq_false_iff.mpr c37
     subst c37
     have H1 : (if (Int.tmod a3 4) > 0 then (kerbsuitelaw1_PrincipalOrder.j1 kj6 a3 a0_0 a0_1 a0_2 a1_0 a1_1 a0_2 a2_0 a2_1 a2_2) else (kerbsuitelaw1_PrincipalOrder.j1 kj6 a3 a0_0 a0_1 a0_2 a1_0 a1_1 a1_2 a2_0 a2_1 a2_2)) = some r := by rw [if_neg (show ¬ (false = true) by decide)] at H; exact H
     clear H
     have H := H1
     clear H1
     have HC38 := Aside0.mk H
     clear H
     go_upto_if 26 with (fail)
     go_cut [] (fun wc => ∃ (kq : Nat) (x235002_37 : ByteArray), Aside0 (kerbsuitelaw1_PrincipalOrder.j1 kq a3 a0_0 a0_1 a0_2 a1_0 a1_1 x235002_37 a2_0 a2_1 a2_2 = some r) ∧ Aside0 (kq ≤ kj6) ∧ Aside0 (wc.heap[gb233]? = some (.cells #[.string a0_0, .string a0_1, .string a0_2] 23 (0, 0))) ∧ Aside0 (wc.heap[gb234]? = some (.cells #[.string a1_0, .string a1_1, .string x235002_37] 23 (0, 0))) ∧ Aside0 (wc.heap[gb235]? = some (.cells #[.string a2_0, .string a2_1, .string a2_2] 23 (0, 0))) ∧ Aside0 (Below w.heap.size w wc))
     case first =>
      have H := HC38.out
      clear HC38
      by_cases c39 : (Int.tmod a3 4) > 0
      ·rw [if_pos c39] at H
       have c39b0 : decide (0 < (Int.tmod a3 4)) = true := decide_eq_true c39
       clear c39
       (first | rw [c39b0] | (simp only [i64_w, i32_w]; rw [c39b0]) | skip)
       have H' := Aside0.mk H
       clear H
       have hnb40 := NB233_234.out
       have hnc40 := NB234_233.out
       have hnb41 := NB233_235.out
       have hnc41 := NB235_233.out
       have hcz42_0 : wc.cell? ⟨gb233, 0, none⟩ = some (.string a0_0) := (blk_cell BK233.out 0).trans rfl
       have hcz42_1 : wc.cell? ⟨gb233, 1, none⟩ = some (.string a0_1) := (blk_cell BK233.out 1).trans rfl
       have hcz42_2 : wc.cell? ⟨gb233, 2, none⟩ = some (.string a0_2) := (blk_cell BK233.out 2).trans rfl
       have hfz42_0 := blk_frozen BK233.out 0
       have hfz42_1 := blk_frozen BK233.out 1
       have hfz42_2 := blk_frozen BK233.out 2
       have hnb43 := NB234_235.out
       have hnc43 := NB235_234.out
       have hcz44_0 : wc.cell? ⟨gb234, 0, none⟩ = some (.string a1_0) := (blk_cell BK234.out 0).trans rfl
       have hcz44_1 : wc.cell? ⟨gb234, 1, none⟩ = some (.string a1_1) := (blk_cell BK234.out 1).trans rfl
       have hcz44_2 : wc.cell? ⟨gb234, 2, none⟩ = some (.string a1_2) := (blk_cell BK234.out 2).trans rfl
       have hfz44_0 := blk_frozen BK234.out 0
       have hfz44_1 := blk_frozen BK234.out 1
       have hfz44_2 := blk_frozen BK234.out 2
       go_wp2
       go_meet
       case rel => exact ⟨_, (a0_2), H', ⟨by have := HJ6.out; first | omega | exact Nat.le_refl _⟩, ⟨by (with_reducible repeat (first | refine blk_drewN ?_ _ | refine blk_drew ?_ | refine blk_alloc ?_ _)); refine blk_far ?_ NB233_234.out _; (with_reducible repeat (first | refine blk_drewN ?_ _ | refine blk_drew ?_ | refine blk_alloc ?_ _)); exact BK233.out⟩, ⟨by (with_reducible repeat (first | refine blk_drewN ?_ _ | refine blk_drew ?_ | refine blk_alloc ?_ _)); refine blk_put (cs := #[.string a1_0, .string a1_1, .string a1_2]) ?_ 2 _ rfl; (with_reducible repeat (first | refine blk_drewN ?_ _ | refine blk_drew ?_ | refine blk_alloc ?_ _)); exact BK234.out⟩, ⟨by (with_reducible repeat (first | refine blk_drewN ?_ _ | refine blk_drew ?_ | refine blk_alloc ?_ _)); refine blk_far ?_ NB235_234.out _; (with_reducible repeat (first | refine blk_drewN ?_ _ | refine blk_drew ?_ | refine blk_alloc ?_ _)); exact BK235.out⟩, ⟨by repeat (first | (with_reducible first | exact HB.out | apply below_alloc | apply pw_below_drewN | apply below_drew1 | refine below_set ?_ GE233.out | refine below_set ?_ GE234.out | refine below_set ?_ GE235.out) | exact HB.out)⟩⟩
      ·rw [if_neg c39] at H
       have c39b0 : decide (0 < (Int.tmod a3 4)) = false := decide_eq_false c39
       clear c39
       (first | rw [c39b0] | (simp only [i64_w, i32_w]; rw [c39b0]) | skip)
       have H' := Aside0.mk H
       clear H
       go_wp2
       go_meet
       case rel => exact ⟨_, (a1_2), H', ⟨by have := HJ6.out; first | omega | exact Nat.le_refl _⟩, ⟨by (with_reducible repeat (first | refine blk_drewN ?_ _ | refine blk_drew ?_ | refine blk_alloc ?_ _)); exact BK233.out⟩, ⟨by (with_reducible repeat (first | refine blk_drewN ?_ _ | refine blk_drew ?_ | refine blk_alloc ?_ _)); exact BK234.out⟩, ⟨by (with_reducible repeat (first | refine blk_drewN ?_ _ | refine blk_drew ?_ | refine blk_alloc ?_ _)); exact BK235.out⟩, ⟨by repeat (first | (with_reducible first | exact HB.out | apply below_alloc | apply pw_below_drewN | apply below_drew1 | refine below_set ?_ GE233.out | refine below_set ?_ GE234.out | refine below_set ?_ GE235.out) | exact HB.out)⟩⟩
     case rest =>
      clear HC38
      try clear c1
      try clear c2
      try clear p2
      try clear c3
      try clear c4
      try clear c6
      try clear c7
      try clear c8
      try clear c9
      try clear c13
      try clear c14
      try clear c15
      try clear c19
      try clear c20
      try clear c21
      try clear c24
      try clear c28
      try clear c29
      try clear c32
      try clear c37
      try clear c39
      try clear c39b0
      try clear c40
      try clear c41
      try clear c43
      try clear hcz16_0
      try clear hcz16_1
      try clear hcz16_2
      try clear hcz22_0
      try clear hcz22_1
      try clear hcz22_2
      try clear hcz25_0
      try clear hcz25_1
      try clear hcz25_2
      try clear hcz30_0
      try clear hcz30_1
      try clear hcz30_2
      try clear hcz33_0
      try clear hcz33_1
      try clear hcz33_2
      try clear hcz35_0
      try clear hcz35_1
      try clear hcz35_2
      try clear hcz42_0
      try clear hcz42_1
      try clear hcz42_2
      try clear hcz44_0
      try clear hcz44_1
      try clear hcz44_2
      try clear hfz16_0
      try clear hfz16_1
      try clear hfz16_2
      try clear hfz22_0
      try clear hfz22_1
      try clear hfz22_2
      try clear hfz25_0
      try clear hfz25_1
      try clear hfz25_2
      try clear hfz30_0
      try clear hfz30_1
      try clear hfz30_2
      try clear hfz33_0
      try clear hfz33_1
      try clear hfz33_2
      try clear hfz35_0
      try clear hfz35_1
      try clear hfz35_2
      try clear hfz42_0
      try clear hfz42_1
      try clear hfz42_2
      try clear hfz44_0
      try clear hfz44_1
      try clear hfz44_2
      try clear p2
      obtain ⟨kq, x235002_37, HA, HJ37, BK233, BK234, BK235, HB⟩ := hcut
      cases kq with
      | zero => exact absurd HA.out (by simp [kerbsuitelaw1_PrincipalOrder.j1])
      | succ kj37 =>
       have H := HA.out
       clear HA
       simp only [kerbsuitelaw1_PrincipalOrder.j1] at H
       have HC45 := Aside0.mk H
       clear H
       go_upto_if 32 with (fail)
       go_cut [] (fun wc => ∃ (kq : Nat) (x235000_44 : ByteArray), Aside0 (kerbsuitelaw1_PrincipalOrder.j2 kq a3 a0_0 a0_1 a0_2 x235000_44 a1_1 x235002_37 a2_0 a2_1 a2_2 = some r) ∧ Aside0 (kq ≤ kj37) ∧ Aside0 (wc.heap[gb233]? = some (.cells #[.string a0_0, .string a0_1, .string a0_2] 23 (0, 0))) ∧ Aside0 (wc.heap[gb234]? = some (.cells #[.string x235000_44, .string a1_1, .string x235002_37] 23 (0, 0))) ∧ Aside0 (wc.heap[gb235]? = some (.cells #[.string a2_0, .string a2_1, .string a2_2] 23 (0, 0))) ∧ Aside0 (Below w.heap.size w wc))
       case first =>
        have H := HC45.out
        clear HC45
        by_cases c46 : (Int.tmod a3 4) > 1
        ·rw [if_pos c46] at H
         have c46b0 : decide (1 < (Int.tmod a3 4)) = true := decide_eq_true c46
         clear c46
         (first | rw [c46b0] | (simp only [i64_w, i32_w]; rw [c46b0]) | skip)
         have H' := Aside0.mk H
         clear H
         have hnb47 := NB233_234.out
         have hnc47 := NB234_233.out
         have hnb48 := NB233_235.out
         have hnc48 := NB235_233.out
         have hcz49_0 : wc.cell? ⟨gb233, 0, none⟩ = some (.string a0_0) := (blk_cell BK233.out 0).trans rfl
         have hcz49_1 : wc.cell? ⟨gb233, 1, none⟩ = some (.string a0_1) := (blk_cell BK233.out 1).trans rfl
         have hcz49_2 : wc.cell? ⟨gb233, 2, none⟩ = some (.string a0_2) := (blk_cell BK233.out 2).trans rfl
         have hfz49_0 := blk_frozen BK233.out 0
         have hfz49_1 := blk_frozen BK233.out 1
         have hfz49_2 := blk_frozen BK233.out 2
         have hnb50 := NB234_235.out
         have hnc50 := NB235_234.out
         have hcz51_0 : wc.cell? ⟨gb234, 0, none⟩ = some (.string a1_0) := (blk_cell BK234.out 0).trans rfl
         have hcz51_1 : wc.cell? ⟨gb234, 1, none⟩ = some (.string a1_1) := (blk_cell BK234.out 1).trans rfl
         have hcz51_2 : wc.cell? ⟨gb234, 2, none⟩ = some (.string x235002_37) := (blk_cell BK234.out 2).trans rfl
         have hfz51_0 := blk_frozen BK234.out 0
         have hfz51_1 := blk_frozen BK234.out 1
         have hfz51_2 := blk_frozen BK234.out 2
         go_wp2
         go_meet
         case rel => exact ⟨_, (a0_0), H', ⟨by have := HJ6.out; have := HJ37.out; first | omega | exact Nat.le_refl _⟩, ⟨by (with_reducible repeat (first | refine blk_drewN ?_ _ | refine blk_drew ?_ | refine blk_alloc ?_ _)); refine blk_far ?_ NB233_234.out _; (with_reducible repeat (first | refine blk_drewN ?_ _ | refine blk_drew ?_ | refine blk_alloc ?_ _)); exact BK233.out⟩, ⟨by (with_reducible repeat (first | refine blk_drewN ?_ _ | refine blk_drew ?_ | refine blk_alloc ?_ _)); refine blk_put (cs := #[.string a1_0, .string a1_1, .string x235002_37]) ?_ 0 _ rfl; (with_reducible repeat (first | refine blk_drewN ?_ _ | refine blk_drew ?_ | refine blk_alloc ?_ _)); exact BK234.out⟩, ⟨by (with_reducible repeat (first | refine blk_drewN ?_ _ | refine blk_drew ?_ | refine blk_alloc ?_ _)); refine blk_far ?_ NB235_234.out _; (with_reducible repeat (first | refine blk_drewN ?_ _ | refine blk_drew ?_ | refine blk_alloc ?_ _)); exact BK235.out⟩, ⟨by repeat (first | (with_reducible first | exact HB.out | apply below_alloc | apply pw_below_drewN | apply below_drew1 | refine below_set ?_ GE233.out | refine below_set ?_ GE234.out | refine below_set ?_ GE235.out) | exact HB.out)⟩⟩
        ·rw [if_neg c46] at H
         have c46b0 : decide (1 < (Int.tmod a3 4)) = false := decide_eq_false c46
         clear c46
         (first | rw [c46b0] | (simp only [i64_w, i32_w]; rw [c46b0]) | skip)
         have H' := Aside0.mk H
         clear H
         go_wp2
         go_meet
         case rel => exact ⟨_, (a1_0), H', ⟨by have := HJ6.out; have := HJ37.out; first | omega | exact Nat.le_refl _⟩, ⟨by (with_reducible repeat (first | refine blk_drewN ?_ _ | refine blk_drew ?_ | refine blk_alloc ?_ _)); exact BK233.out⟩, ⟨by (with_reducible repeat (first | refine blk_drewN ?_ _ | refine blk_drew ?_ | refine blk_alloc ?_ _)); exact BK234.out⟩, ⟨by (with_reducible repeat (first | refine blk_drewN ?_ _ | refine blk_drew ?_ | refine blk_alloc ?_ _)); exact BK235.out⟩, ⟨by repeat (first | (with_reducible first | exact HB.out | apply below_alloc | apply pw_below_drewN | apply below_drew1 | refine below_set ?_ GE233.out | refine below_set ?_ GE234.out | refine below_set ?_ GE235.out) | exact HB.out)⟩⟩
       case rest =>
        clear HC45
        try clear c1
        try clear c2
        try clear p2
        try clear c3
        try clear c4
        try clear c5
        try clear c6
        try clear c7
        try clear c8
        try clear c9
        try clear c13
        try clear c14
        try clear c15
        try clear c19
        try clear c20
        try clear c21
        try clear c24
        try clear c28
        try clear c29
        try clear c32
        try clear c37
        try clear c39
        try clear c39b0
        try clear c40
        try clear c41
        try clear c43
        try clear c46
        try clear c46b0
        try clear c47
        try clear c48
        try clear c50
        try clear hcz16_0
        try clear hcz16_1
        try clear hcz16_2
        try clear hcz22_0
        try clear hcz22_1
        try clear hcz22_2
        try clear hcz25_0
        try clear hcz25_1
        try clear hcz25_2
        try clear hcz30_0
        try clear hcz30_1
        try clear hcz30_2
        try clear hcz33_0
        try clear hcz33_1
        try clear hcz33_2
        try clear hcz35_0
        try clear hcz35_1
        try clear hcz35_2
        try clear hcz42_0
        try clear hcz42_1
        try clear hcz42_2
        try clear hcz44_0
        try clear hcz44_1
        try clear hcz44_2
        try clear hcz49_0
        try clear hcz49_1
        try clear hcz49_2
        try clear hcz51_0
        try clear hcz51_1
        try clear hcz51_2
        try clear hfz16_0
        try clear hfz16_1
        try clear hfz16_2
        try clear hfz22_0
        try clear hfz22_1
        try clear hfz22_2
        try clear hfz25_0
        try clear hfz25_1
        try clear hfz25_2
        try clear hfz30_0
        try clear hfz30_1
        try clear hfz30_2
        try clear hfz33_0
        try clear hfz33_1
        try clear hfz33_2
        try clear hfz35_0
        try clear hfz35_1
        try clear hfz35_2
        try clear hfz42_0
        try clear hfz42_1
        try clear hfz42_2
        try clear hfz44_0
        try clear hfz44_1
        try clear hfz44_2
        try clear hfz49_0
        try clear hfz49_1
        try clear hfz49_2
        try clear hfz51_0
        try clear hfz51_1
        try clear hfz51_2
        try clear p2
        obtain ⟨kq, x235000_44, HA, HJ44, BK233, BK234, BK235, HB⟩ := hcut
        cases kq with
        | zero => exact absurd HA.out (by simp [kerbsuitelaw1_PrincipalOrder.j2])
        | succ kj44 =>
         have H := HA.out
         clear HA
         simp only [kerbsuitelaw1_PrincipalOrder.j2] at H
         have HC52 := Aside0.mk H
         clear H
         go_upto_if 38 with (fail)
         go_cut [] (fun wc => ∃ (kq : Nat) (x236000_51 : ByteArray) (x236001_51 : ByteArray) (x236002_51 : ByteArray), Aside0 (kerbsuitelaw1_PrincipalOrder.j3 kq a0_0 a0_1 a0_2 x235000_44 a1_1 x235002_37 x236000_51 x236001_51 x236002_51 = some r) ∧ Aside0 (kq ≤ kj44) ∧ Aside0 (wc.heap[gb233]? = some (.cells #[.string a0_0, .string a0_1, .string a0_2] 23 (0, 0))) ∧ Aside0 (wc.heap[gb234]? = some (.cells #[.string x235000_44, .string a1_1, .string x235002_37] 23 (0, 0))) ∧ Aside0 (wc.heap[gb235]? = some (.cells #[.string x236000_51, .string x236001_51, .string x236002_51] 23 (0, 0))) ∧ Aside0 (Below w.heap.size w wc))
         case first =>
          have H := HC52.out
          clear HC52
          by_cases c53 : (Int.tmod a3 4) > 2
          ·rw [if_pos c53] at H
           have c53b0 : decide (2 < (Int.tmod a3 4)) = true := decide_eq_true c53
           clear c53
           (first | rw [c53b0] | (simp only [i64_w, i32_w]; rw [c53b0]) | skip)
           have H' := Aside0.mk H
           clear H
           have hnb54 := NB234_233.out
           have hnc54 := NB233_234.out
           have hnb55 := NB234_235.out
           have hnc55 := NB235_234.out
           have hcz56_0 : wc.cell? ⟨gb234, 0, none⟩ = some (.string x235000_44) := (blk_cell BK234.out 0).trans rfl
           have hcz56_1 : wc.cell? ⟨gb234, 1, none⟩ = some (.string a1_1) := (blk_cell BK234.out 1).trans rfl
           have hcz56_2 : wc.cell? ⟨gb234, 2, none⟩ = some (.string x235002_37) := (blk_cell BK234.out 2).trans rfl
           have hfz56_0 := blk_frozen BK234.out 0
           have hfz56_1 := blk_frozen BK234.out 1
           have hfz56_2 := blk_frozen BK234.out 2
           have hnb57 := NB235_233.out
           have hnc57 := NB233_235.out
           have hcz58_0 : wc.cell? ⟨gb235, 0, none⟩ = some (.string a2_0) := (blk_cell BK235.out 0).trans rfl
           have hcz58_1 : wc.cell? ⟨gb235, 1, none⟩ = some (.string a2_1) := (blk_cell BK235.out 1).trans rfl
           have hcz58_2 : wc.cell? ⟨gb235, 2, none⟩ = some (.string a2_2) := (blk_cell BK235.out 2).trans rfl
           have hfz58_0 := blk_frozen BK235.out 0
           have hfz58_1 := blk_frozen BK235.out 1
           have hfz58_2 := blk_frozen BK235.out 2
           go_wp2
           go_meet
           case rel => exact ⟨_, (x235000_44), (a1_1), (x235002_37), H', ⟨by have := HJ6.out; have := HJ37.out; have := HJ44.out; first | omega | exact Nat.le_refl _⟩, ⟨by (with_reducible repeat (first | refine blk_drewN ?_ _ | refine blk_drew ?_ | refine blk_alloc ?_ _)); refine blk_far ?_ NB233_235.out _; (with_reducible repeat (first | refine blk_drewN ?_ _ | refine blk_drew ?_ | refine blk_alloc ?_ _)); refine blk_far ?_ NB233_235.out _; (with_reducible repeat (first | refine blk_drewN ?_ _ | refine blk_drew ?_ | refine blk_alloc ?_ _)); refine blk_far ?_ NB233_235.out _; (with_reducible repeat (first | refine blk_drewN ?_ _ | refine blk_drew ?_ | refine blk_alloc ?_ _)); exact BK233.out⟩, ⟨by (with_reducible repeat (first | refine blk_drewN ?_ _ | refine blk_drew ?_ | refine blk_alloc ?_ _)); refine blk_far ?_ NB234_235.out _; (with_reducible repeat (first | refine blk_drewN ?_ _ | refine blk_drew ?_ | refine blk_alloc ?_ _)); refine blk_far ?_ NB234_235.out _; (with_reducible repeat (first | refine blk_drewN ?_ _ | refine blk_drew ?_ | refine blk_alloc ?_ _)); refine blk_far ?_ NB234_235.out _; (with_reducible repeat (first | refine blk_drewN ?_ _ | refine blk_drew ?_ | refine blk_alloc ?_ _)); exact BK234.out⟩, ⟨by (with_reducible repeat (first | refine blk_drewN ?_ _ | refine blk_drew ?_ | refine blk_alloc ?_ _)); refine blk_put (cs := #[.string x235000_44, .string a1_1, .string a2_2]) ?_ 2 _ rfl; (with_reducible repeat (first | refine blk_drewN ?_ _ | refine blk_drew ?_ | refine blk_alloc ?_ _)); refine blk_put (cs := #[.string x235000_44, .string a2_1, .string a2_2]) ?_ 1 _ rfl; (with_reducible repeat (first | refine blk_drewN ?_ _ | refine blk_drew ?_ | refine blk_alloc ?_ _)); refine blk_put (cs := #[.string a2_0, .string a2_1, .string a2_2]) ?_ 0 _ rfl; (with_reducible repeat (first | refine blk_drewN ?_ _ | refine blk_drew ?_ | refine blk_alloc ?_ _)); exact BK235.out⟩, ⟨by repeat (first | (with_reducible first | exact HB.out | apply below_alloc | apply pw_below_drewN | apply below_drew1 | refine below_set ?_ GE233.out | refine below_set ?_ GE234.out | refine below_set ?_ GE235.out) | exact HB.out)⟩⟩
          ·rw [if_neg c53] at H
           have c53b0 : decide (2 < (Int.tmod a3 4)) = false := decide_eq_false c53
           clear c53
           (first | rw [c53b0] | (simp only [i64_w, i32_w]; rw [c53b0]) | skip)
           have H' := Aside0.mk H
           clear H
           go_wp2
           go_meet
           case rel => exact ⟨_, (a2_0), (a2_1), (a2_2), H', ⟨by have := HJ6.out; have := HJ37.out; have := HJ44.out; first | omega | exact Nat.le_refl _⟩, ⟨by (with_reducible repeat (first | refine blk_drewN ?_ _ | refine blk_drew ?_ | refine blk_alloc ?_ _)); exact BK233.out⟩, ⟨by (with_reducible repeat (first | refine blk_drewN ?_ _ | refine blk_drew ?_ | refine blk_alloc ?_ _)); exact BK234.out⟩, ⟨by (with_reducible repeat (first | refine blk_drewN ?_ _ | refine blk_drew ?_ | refine blk_alloc ?_ _)); exact BK235.out⟩, ⟨by repeat (first | (with_reducible first | exact HB.out | apply below_alloc | apply pw_below_drewN | apply below_drew1 | refine below_set ?_ GE233.out | refine below_set ?_ GE234.out | refine below_set ?_ GE235.out) | exact HB.out)⟩⟩
         case rest =>
          clear HC52
          try clear c1
          try clear c2
          try clear p2
          try clear c3
          try clear c4
          try clear c5
          try clear c6
          try clear c7
          try clear c8
          try clear c9
          try clear c13
          try clear c14
          try clear c15
          try clear c19
          try clear c20
          try clear c21
          try clear c24
          try clear c28
          try clear c29
          try clear c32
          try clear c37
          try clear c39
          try clear c39b0
          try clear c40
          try clear c41
          try clear c43
          try clear c46
          try clear c46b0
          try clear c47
          try clear c48
          try clear c50
          try clear c53
          try clear c53b0
          try clear c54
          try clear c55
          try clear c57
          try clear hcz16_0
          try clear hcz16_1
          try clear hcz16_2
          try clear hcz22_0
          try clear hcz22_1
          try clear hcz22_2
          try clear hcz25_0
          try clear hcz25_1
          try clear hcz25_2
          try clear hcz30_0
          try clear hcz30_1
          try clear hcz30_2
          try clear hcz33_0
          try clear hcz33_1
          try clear hcz33_2
          try clear hcz35_0
          try clear hcz35_1
          try clear hcz35_2
          try clear hcz42_0
          try clear hcz42_1
          try clear hcz42_2
          try clear hcz44_0
          try clear hcz44_1
          try clear hcz44_2
          try clear hcz49_0
          try clear hcz49_1
          try clear hcz49_2
          try clear hcz51_0
          try clear hcz51_1
          try clear hcz51_2
          try clear hcz56_0
          try clear hcz56_1
          try clear hcz56_2
          try clear hcz58_0
          try clear hcz58_1
          try clear hcz58_2
          try clear hfz16_0
          try clear hfz16_1
          try clear hfz16_2
          try clear hfz22_0
          try clear hfz22_1
          try clear hfz22_2
          try clear hfz25_0
          try clear hfz25_1
          try clear hfz25_2
          try clear hfz30_0
          try clear hfz30_1
          try clear hfz30_2
          try clear hfz33_0
          try clear hfz33_1
          try clear hfz33_2
          try clear hfz35_0
          try clear hfz35_1
          try clear hfz35_2
          try clear hfz42_0
          try clear hfz42_1
          try clear hfz42_2
          try clear hfz44_0
          try clear hfz44_1
          try clear hfz44_2
          try clear hfz49_0
          try clear hfz49_1
          try clear hfz49_2
          try clear hfz51_0
          try clear hfz51_1
          try clear hfz51_2
          try clear hfz56_0
          try clear hfz56_1
          try clear hfz56_2
          try clear hfz58_0
          try clear hfz58_1
          try clear hfz58_2
          try clear p2
          obtain ⟨kq, x236000_51, x236001_51, x236002_51, HA, HJ51, BK233, BK234, BK235, HB⟩ := hcut
          cases kq with
          | zero => exact absurd HA.out (by simp [kerbsuitelaw1_PrincipalOrder.j3])
          | succ kj51 =>
           have H := HA.out
           clear HA
           simp only [kerbsuitelaw1_PrincipalOrder.j3] at H
           replace H := Option.bind_eq_some_iff.mp H
           obtain ⟨t240, A590, H⟩ := H
           replace H : ((principal_Compare.f x235000_44 a1_1 x235002_37 x236000_51 x236001_51 x236002_51).bind fun t241 => ((principal_Compare.f a0_0 a0_1 a0_2 x236000_51 x236001_51 x236002_51).bind fun t242 => ((kerbsuiteref1_Compare.f a0_0 a0_1 a0_2 x235000_44 a1_1 x235002_37).bind fun t243 => (if t240 = t243 then ((kerbsuiteref1_Compare.f x235000_44 a1_1 x235002_37 x236000_51 x236001_51 x236002_51).bind fun t244 => (if t241 = t244 then ((kerbsuiteref1_Compare.f a0_0 a0_1 a0_2 x236000_51 x236001_51 x236002_51).bind fun t245 => (if t242 = t245 then ((principal_Compare.f x235000_44 a1_1 x235002_37 a0_0 a0_1 a0_2).bind fun t246 => (if t246 = (wrap64 (-t240)) then (if ((t240 == 0) != (a0_0.toList == x235000_44.toList && (a0_1.toList == a1_1.toList && (a0_2.toList == x235002_37.toList)))) = true then (some false) else (if t240 > 0 then (some true) else (if t241 > 0 then (some true) else (some (decide (t242 ≤ 0)))))) else (some false))) else (some false))) else (some false))) else (some false))))) = some r := H
           have A59 := Aside0.mk A590
           clear A590
           replace H := Option.bind_eq_some_iff.mp H
           obtain ⟨t241, A600, H⟩ := H
           replace H : ((principal_Compare.f a0_0 a0_1 a0_2 x236000_51 x236001_51 x236002_51).bind fun t242 => ((kerbsuiteref1_Compare.f a0_0 a0_1 a0_2 x235000_44 a1_1 x235002_37).bind fun t243 => (if t240 = t243 then ((kerbsuiteref1_Compare.f x235000_44 a1_1 x235002_37 x236000_51 x236001_51 x236002_51).bind fun t244 => (if t241 = t244 then ((kerbsuiteref1_Compare.f a0_0 a0_1 a0_2 x236000_51 x236001_51 x236002_51).bind fun t245 => (if t242 = t245 then ((principal_Compare.f x235000_44 a1_1 x235002_37 a0_0 a0_1 a0_2).bind fun t246 => (if t246 = (wrap64 (-t240)) then (if ((t240 == 0) != (a0_0.toList == x235000_44.toList && (a0_1.toList == a1_1.toList && (a0_2.toList == x235002_37.toList)))) = true then (some false) else (if t240 > 0 then (some true) else (if t241 > 0 then (some true) else (some (decide (t242 ≤ 0)))))) else (some false))) else (some false))) else (some false))) else (some false)))) = some r := H
           have A60 := Aside0.mk A600
           clear A600
           replace H := Option.bind_eq_some_iff.mp H
           obtain ⟨t242, A610, H⟩ := H
           replace H : ((kerbsuiteref1_Compare.f a0_0 a0_1 a0_2 x235000_44 a1_1 x235002_37).bind fun t243 => (if t240 = t243 then ((kerbsuiteref1_Compare.f x235000_44 a1_1 x235002_37 x236000_51 x236001_51 x236002_51).bind fun t244 => (if t241 = t244 then ((kerbsuiteref1_Compare.f a0_0 a0_1 a0_2 x236000_51 x236001_51 x236002_51).bind fun t245 => (if t242 = t245 then ((principal_Compare.f x235000_44 a1_1 x235002_37 a0_0 a0_1 a0_2).bind fun t246 => (if t246 = (wrap64 (-t240)) then (if ((t240 == 0) != (a0_0.toList == x235000_44.toList && (a0_1.toList == a1_1.toList && (a0_2.toList == x235002_37.toList)))) = true then (some false) else (if t240 > 0 then (some true) else (if t241 > 0 then (some true) else (some (decide (t242 ≤ 0)))))) else (some false))) else (some false))) else (some false))) else (some false))) = some r := H
           have A61 := Aside0.mk A610
           clear A610
           replace H := Option.bind_eq_some_iff.mp H
           obtain ⟨t243, A620, H⟩ := H
           replace H : (if t240 = t243 then ((kerbsuiteref1_Compare.f x235000_44 a1_1 x235002_37 x236000_51 x236001_51 x236002_51).bind fun t244 => (if t241 = t244 then ((kerbsuiteref1_Compare.f a0_0 a0_1 a0_2 x236000_51 x236001_51 x236002_51).bind fun t245 => (if t242 = t245 then ((principal_Compare.f x235000_44 a1_1 x235002_37 a0_0 a0_1 a0_2).bind fun t246 => (if t246 = (wrap64 (-t240)) then (if ((t240 == 0) != (a0_0.toList == x235000_44.toList && (a0_1.toList == a1_1.toList && (a0_2.toList == x235002_37.toList)))) = true then (some false) else (if t240 > 0 then (some true) else (if t241 > 0 then (some true) else (some (decide (t242 ≤ 0)))))) else (some false))) else (some false))) else (some false))) else (some false)) = some r := H
           have A62 := Aside0.mk A620
           clear A620
           by_cases c63 : t240 = t243
           ·rw [if_pos c63] at H
            have c63b0 : (t240 == t243) = true := beq_iff_eq.mpr c63
            have c63b1 : (t240 != t243) = false := bne_eq_false_iff_eq.mpr c63
            clear c63
            replace H := Option.bind_eq_some_iff.mp H
            obtain ⟨t244, A640, H⟩ := H
            replace H : (if t241 = t244 then ((kerbsuiteref1_Compare.f a0_0 a0_1 a0_2 x236000_51 x236001_51 x236002_51).bind fun t245 => (if t242 = t245 then ((principal_Compare.f x235000_44 a1_1 x235002_37 a0_0 a0_1 a0_2).bind fun t246 => (if t246 = (wrap64 (-t240)) then (if ((t240 == 0) != (a0_0.toList == x235000_44.toList && (a0_1.toList == a1_1.toList && (a0_2.toList == x235002_37.toList)))) = true then (some false) else (if t240 > 0 then (some true) else (if t241 > 0 then (some true) else (some (decide (t242 ≤ 0)))))) else (some false))) else (some false))) else (some false)) = some r := H
            have A64 := Aside0.mk A640
            clear A640
            by_cases c65 : t241 = t244
            ·rw [if_pos c65] at H
             have c65b0 : (t241 == t244) = true := beq_iff_eq.mpr c65
             have c65b1 : (t241 != t244) = false := bne_eq_false_iff_eq.mpr c65
             clear c65
             replace H := Option.bind_eq_some_iff.mp H
             obtain ⟨t245, A660, H⟩ := H
             replace H : (if t242 = t245 then ((principal_Compare.f x235000_44 a1_1 x235002_37 a0_0 a0_1 a0_2).bind fun t246 => (if t246 = (wrap64 (-t240)) then (if ((t240 == 0) != (a0_0.toList == x235000_44.toList && (a0_1.toList == a1_1.toList && (a0_2.toList == x235002_37.toList)))) = true then (some false) else (if t240 > 0 then (some true) else (if t241 > 0 then (some true) else (some (decide (t242 ≤ 0)))))) else (some false))) else (some false)) = some r := H
             have A66 := Aside0.mk A660
             clear A660
             by_cases c67 : t242 = t245
             ·rw [if_pos c67] at H
              have c67b0 : (t242 == t245) = true := beq_iff_eq.mpr c67
              have c67b1 : (t242 != t245) = false := bne_eq_false_iff_eq.mpr c67
              clear c67
              replace H := Option.bind_eq_some_iff.mp H
              obtain ⟨t246, A680, H⟩ := H
              replace H : (if t246 = (wrap64 (-t240)) then (if ((t240 == 0) != (a0_0.toList == x235000_44.toList && (a0_1.toList == a1_1.toList && (a0_2.toList == x235002_37.toList)))) = true then (some false) else (if t240 > 0 then (some true) else (if t241 > 0 then (some true) else (some (decide (t242 ≤ 0)))))) else (some false)) = some r := H
              have A68 := Aside0.mk A680
              clear A680
              by_cases c69 : t246 = (wrap64 (-t240))
              ·rw [if_pos c69] at H
               have c69b0 : (t246 == (wrap64 (-t240))) = true := beq_iff_eq.mpr c69
               have c69b1 : (t246 != (wrap64 (-t240))) = false := bne_eq_false_iff_eq.mpr c69
               clear c69
               by_cases c70 : ((t240 == 0) != (a0_0.toList == x235000_44.toList && (a0_1.toList == a1_1.toList && (a0_2.toList == x235002_37.toList)))) = true
               ·rw [if_pos c70] at H
                have c70b0 : ((t240 == 0) != (a0_0.toList == x235000_44.toList && (a0_1.toList == a1_1.toList && (a0_2.toList == x235002_37.toList)))) = true := c70
                (try (have c70b1 : decide ((t240 == 0) = (a0_0.toList == x235000_44.toList && (a0_1.toList == a1_1.toList && (a0_2.toList == x235002_37.toList)))) = false := by simpa using c70))
                (try (have c70b2 : ((t240 == 0) == (a0_0.toList == x235000_44.toList && (a0_1.toList == a1_1.toList && (a0_2.toList == x235002_37.toList)))) = false := by simpa using c70))
                (try (have c70b3 : ¬ ((t240 == 0) = (a0_0.toList == x235000_44.toList && (a0_1.toList == a1_1.toList && (a0_2.toList == x235002_37.toList)))) := by simpa using c70))
                clear c70
                obtain rfl := Option.some.inj H
                try go_wp2
                have n0_ := Aside0.mk (blk_drew BK233.out)
                have n1_ := Aside0.mk (blk_drew BK234.out)
                have n2_ := Aside0.mk (blk_drew BK235.out)
                have n3_ := Aside0.mk (below_drew1 HB.out)
                clear BK233
                clear BK234
                clear BK235
                clear HB
                have BK233 := n0_
                have BK234 := n1_
                have BK235 := n2_
                have HB := n3_
                clear n0_ n1_ n2_ n3_
                refine start_ (n := 12) (S := fun w' => w'.cell? ⟨gb233, 0, none⟩ = some (.string a0_0) ∧ w'.cell? ⟨gb233, 1, none⟩ = some (.string a0_1) ∧ w'.cell? ⟨gb233, 2, none⟩ = some (.string a0_2) ∧ w'.cell? ⟨gb234, 0, none⟩ = some (.string x235000_44) ∧ w'.cell? ⟨gb234, 1, none⟩ = some (.string a1_1) ∧ w'.cell? ⟨gb234, 2, none⟩ = some (.string x235002_37) ∧ w'.cell? ⟨gb235, 0, none⟩ = some (.string x236000_51) ∧ w'.cell? ⟨gb235, 1, none⟩ = some (.string x236001_51) ∧ w'.cell? ⟨gb235, 2, none⟩ = some (.string x236002_51)) (ds := []) #[false,false,false,false,false,false,false,false,false,false,false,false] (by kernel_rfl) rfl rfl ⟨(blk_cell BK233.out 0).trans rfl, (blk_cell BK233.out 1).trans rfl, (blk_cell BK233.out 2).trans rfl, (blk_cell BK234.out 0).trans rfl, (blk_cell BK234.out 1).trans rfl, (blk_cell BK234.out 2).trans rfl, (blk_cell BK235.out 0).trans rfl, (blk_cell BK235.out 1).trans rfl, (blk_cell BK235.out 2).trans rfl⟩ (fun hHeld => ?_); refine with_tabW kerbsuitelaw1_PrincipalOrder.tab11 kerbsuitelaw1_PrincipalOrder.bits11 (fun HT_ HW_ => ?_)
                generalize wc.drew = w71 at BK233 BK234 BK235 HB hHeld ⊢
                refine take_ (i := 0) (N := some 40) (v := ?_) (a' := ?_) (bo_ 12 1) rfl rfl (take_ofW HT_.out HW_.out (by kernel_rfl)) (fun _ _ _ h => h) (Or.inl ⟨by rfl, ?_⟩) hHeld ?_ ?_
                rotate_left; (· rintro w' ⟨s0, s1, s2, s3, s4, s5, s6, s7, s8⟩; go_simp; with_reducible rfl)
                rotate_left; (· simp only [Act.put,List.setIfInBounds_toArray,List.set_cons_zero,List.set_cons_succ,i64_w,i32_w]; rfl)
                refine take_ (i := 1) (N := some 41) (v := ?_) (a' := ?_) (bo_ 12 3) rfl rfl (take_ofW HT_.out HW_.out (by kernel_rfl)) (fun _ _ _ h => h) (Or.inl ⟨by rfl, ?_⟩) hHeld ?_ ?_
                rotate_left; (· rintro w' ⟨s0, s1, s2, s3, s4, s5, s6, s7, s8⟩; go_simp; with_reducible rfl)
                rotate_left; (· simp only [Act.put,List.setIfInBounds_toArray,List.set_cons_zero,List.set_cons_succ,i64_w,i32_w]; rfl)
                refine take_ (i := 3) (N := some 43) (v := ?_) (a' := ?_) (bo_ 12 11) rfl rfl (take_ofW HT_.out HW_.out (by kernel_rfl)) (fun _ _ _ h => h) (Or.inl ⟨by rfl, ?_⟩) hHeld ?_ ?_
                rotate_left; (· rintro w' ⟨s0, s1, s2, s3, s4, s5, s6, s7, s8⟩; go_simp; with_reducible rfl)
                rotate_left; (· simp only [Act.put,List.setIfInBounds_toArray,List.set_cons_zero,List.set_cons_succ,i64_w,i32_w]; rfl)
                refine take_ (i := 4) (N := some 44) (v := ?_) (a' := ?_) (bo_ 12 27) rfl rfl (take_ofW HT_.out HW_.out (by kernel_rfl)) (fun _ _ _ h => h) (Or.inl ⟨by rfl, ?_⟩) hHeld ?_ ?_
                rotate_left; (· rintro w' ⟨s0, s1, s2, s3, s4, s5, s6, s7, s8⟩; go_simp; with_reducible rfl)
                rotate_left; (· simp only [Act.put,List.setIfInBounds_toArray,List.set_cons_zero,List.set_cons_succ,i64_w,i32_w]; rfl)
                refine take_ (i := 6) (N := some 46) (v := ?_) (a' := ?_) (bo_ 12 91) rfl rfl (take_ofW HT_.out HW_.out (by kernel_rfl)) (fun _ _ _ h => h) (Or.inl ⟨by rfl, ?_⟩) hHeld ?_ ?_
                rotate_left; (· rintro w' ⟨s0, s1, s2, s3, s4, s5, s6, s7, s8⟩; go_simp; with_reducible rfl)
                rotate_left; (· simp only [Act.put,List.setIfInBounds_toArray,List.set_cons_zero,List.set_cons_succ,i64_w,i32_w]; rfl)
                refine take_ (i := 7) (N := some 47) (v := ?_) (a' := ?_) (bo_ 12 219) rfl rfl (take_ofW HT_.out HW_.out (by kernel_rfl)) (fun _ _ _ h => h) (Or.inl ⟨by rfl, ?_⟩) hHeld ?_ ?_
                rotate_left; (· rintro w' ⟨s0, s1, s2, s3, s4, s5, s6, s7, s8⟩; go_simp; with_reducible rfl)
                rotate_left; (· simp only [Act.put,List.setIfInBounds_toArray,List.set_cons_zero,List.set_cons_succ,i64_w,i32_w]; rfl)
                refine one_ (i := 2) (N := some 42) (bo_ 12 223) rfl rfl (one_of HT_.out (by kernel_rfl)) (by decide) (fun K hK => ?_)
                refine goes_ Try.func25 (by kernel_rfl) rfl #[.agg #[.string a0_0, .string a0_1, .string a0_2], .agg #[.string x235000_44, .string a1_1, .string x235002_37]] (by rfl) rfl rfl (by (try simp only [List.map_toArray, List.map_cons, List.map_nil]); first | done | rfl | (simp only [List.length_drop, List.length_take]; rfl)) ?_
                with_reducible refine (principal_Compare.calls a0_0 a0_1 a0_2 x235000_44 a1_1 x235002_37 t240 _ A59.out).mono ?_
                rintro e w72 ⟨rfl, hb⟩
                refine ⟨_, rfl, ?_⟩
                have n0_ := Aside0.mk (blk_below (g := gb233) (o := .cells #[.string a0_0, .string a0_1, .string a0_2] 23 (0, 0)) (by (with_reducible repeat (first | refine blk_drewN ?_ _ | refine blk_drew ?_ | refine blk_alloc ?_ _)); exact BK233.out) hb)
                have n1_ := Aside0.mk (blk_below (g := gb234) (o := .cells #[.string x235000_44, .string a1_1, .string x235002_37] 23 (0, 0)) (by (with_reducible repeat (first | refine blk_drewN ?_ _ | refine blk_drew ?_ | refine blk_alloc ?_ _)); exact BK234.out) hb)
                have n2_ := Aside0.mk (blk_below (g := gb235) (o := .cells #[.string x236000_51, .string x236001_51, .string x236002_51] 23 (0, 0)) (by (with_reducible repeat (first | refine blk_drewN ?_ _ | refine blk_drew ?_ | refine blk_alloc ?_ _)); exact BK235.out) hb)
                have n3_ := Aside0.mk (below_step (by repeat (first | (with_reducible first | exact HB.out | apply below_alloc | apply pw_below_drewN | apply below_drew1 | refine below_set ?_ GE233.out | refine below_set ?_ GE234.out | refine below_set ?_ GE235.out) | exact HB.out)) hb)
                clear BK233
                clear BK234
                clear BK235
                clear HB
                have BK233 := n0_
                have BK234 := n1_
                have BK235 := n2_
                have HB := n3_
                clear n0_ n1_ n2_ n3_
                (try clear hb)
                (try clear hb2)
                (try clear hk)
                (try clear hi)
                refine hK.out _ _ ⟨(blk_cell BK233.out 0).trans rfl, (blk_cell BK233.out 1).trans rfl, (blk_cell BK233.out 2).trans rfl, (blk_cell BK234.out 0).trans rfl, (blk_cell BK234.out 1).trans rfl, (blk_cell BK234.out 2).trans rfl, (blk_cell BK235.out 0).trans rfl, (blk_cell BK235.out 1).trans rfl, (blk_cell BK235.out 2).trans rfl⟩ (fun hHeld => ?_)
                clear hK K
                refine norm_ (a' := ?_) ?_ ?_
                rotate_left; (· show Act.put _ (some 42) _ = _; simp only [Act.put,List.setIfInBounds_toArray,List.set_cons_zero,List.set_cons_succ,i64_w,i32_w]; rfl)
                refine one_ (i := 5) (N := some 45) (bo_ 12 255) rfl rfl (one_of HT_.out (by kernel_rfl)) (by decide) (fun K hK => ?_)
                refine goes_ Try.func25 (by kernel_rfl) rfl #[.agg #[.string x235000_44, .string a1_1, .string x235002_37], .agg #[.string x236000_51, .string x236001_51, .string x236002_51]] (by rfl) rfl rfl (by (try simp only [List.map_toArray, List.map_cons, List.map_nil]); first | done | rfl | (simp only [List.length_drop, List.length_take]; rfl)) ?_
                with_reducible refine (principal_Compare.calls x235000_44 a1_1 x235002_37 x236000_51 x236001_51 x236002_51 t241 _ A60.out).mono ?_
                rintro e w73 ⟨rfl, hb⟩
                refine ⟨_, rfl, ?_⟩
                have n0_ := Aside0.mk (blk_below (g := gb233) (o := .cells #[.string a0_0, .string a0_1, .string a0_2] 23 (0, 0)) (by (with_reducible repeat (first | refine blk_drewN ?_ _ | refine blk_drew ?_ | refine blk_alloc ?_ _)); exact BK233.out) hb)
                have n1_ := Aside0.mk (blk_below (g := gb234) (o := .cells #[.string x235000_44, .string a1_1, .string x235002_37] 23 (0, 0)) (by (with_reducible repeat (first | refine blk_drewN ?_ _ | refine blk_drew ?_ | refine blk_alloc ?_ _)); exact BK234.out) hb)
                have n2_ := Aside0.mk (blk_below (g := gb235) (o := .cells #[.string x236000_51, .string x236001_51, .string x236002_51] 23 (0, 0)) (by (with_reducible repeat (first | refine blk_drewN ?_ _ | refine blk_drew ?_ | refine blk_alloc ?_ _)); exact BK235.out) hb)
                have n3_ := Aside0.mk (below_step (by repeat (first | (with_reducible first | exact HB.out | apply below_alloc | apply pw_below_drewN | apply below_drew1 | refine below_set ?_ GE233.out | refine below_set ?_ GE234.out | refine below_set ?_ GE235.out) | exact HB.out)) hb)
                clear BK233
                clear BK234
                clear BK235
                clear HB
                have BK233 := n0_
                have BK234 := n1_
                have BK235 := n2_
                have HB := n3_
                clear n0_ n1_ n2_ n3_
                (try clear hb)
                (try clear hb2)
                (try clear hk)
                (try clear hi)
                refine hK.out _ _ ⟨(blk_cell BK233.out 0).trans rfl, (blk_cell BK233.out 1).trans rfl, (blk_cell BK233.out 2).trans rfl, (blk_cell BK234.out 0).trans rfl, (blk_cell BK234.out 1).trans rfl, (blk_cell BK234.out 2).trans rfl, (blk_cell BK235.out 0).trans rfl, (blk_cell BK235.out 1).trans rfl, (blk_cell BK235.out 2).trans rfl⟩ (fun hHeld => ?_)
                clear hK K
                refine norm_ (a' := ?_) ?_ ?_
                rotate_left; (· show Act.put _ (some 45) _ = _; simp only [Act.put,List.setIfInBounds_toArray,List.set_cons_zero,List.set_cons_succ,i64_w,i32_w]; rfl)
                refine one_ (i := 8) (N := some 48) (bo_ 12 511) rfl rfl (one_of HT_.out (by kernel_rfl)) (by decide) (fun K hK => ?_)
                refine goes_ Try.func25 (by kernel_rfl) rfl #[.agg #[.string a0_0, .string a0_1, .string a0_2], .agg #[.string x236000_51, .string x236001_51, .string x236002_51]] (by rfl) rfl rfl (by (try simp only [List.map_toArray, List.map_cons, List.map_nil]); first | done | rfl | (simp only [List.length_drop, List.length_take]; rfl)) ?_
                with_reducible refine (principal_Compare.calls a0_0 a0_1 a0_2 x236000_51 x236001_51 x236002_51 t242 _ A61.out).mono ?_
                rintro e w74 ⟨rfl, hb⟩
                refine ⟨_, rfl, ?_⟩
                have n0_ := Aside0.mk (blk_below (g := gb233) (o := .cells #[.string a0_0, .string a0_1, .string a0_2] 23 (0, 0)) (by (with_reducible repeat (first | refine blk_drewN ?_ _ | refine blk_drew ?_ | refine blk_alloc ?_ _)); exact BK233.out) hb)
                have n1_ := Aside0.mk (blk_below (g := gb234) (o := .cells #[.string x235000_44, .string a1_1, .string x235002_37] 23 (0, 0)) (by (with_reducible repeat (first | refine blk_drewN ?_ _ | refine blk_drew ?_ | refine blk_alloc ?_ _)); exact BK234.out) hb)
                have n2_ := Aside0.mk (blk_below (g := gb235) (o := .cells #[.string x236000_51, .string x236001_51, .string x236002_51] 23 (0, 0)) (by (with_reducible repeat (first | refine blk_drewN ?_ _ | refine blk_drew ?_ | refine blk_alloc ?_ _)); exact BK235.out) hb)
                have n3_ := Aside0.mk (below_step (by repeat (first | (with_reducible first | exact HB.out | apply below_alloc | apply pw_below_drewN | apply below_drew1 | refine below_set ?_ GE233.out | refine below_set ?_ GE234.out | refine below_set ?_ GE235.out) | exact HB.out)) hb)
                clear BK233
                clear BK234
                clear BK235
                clear HB
                have BK233 := n0_
                have BK234 := n1_
                have BK235 := n2_
                have HB := n3_
                clear n0_ n1_ n2_ n3_
                (try clear hb)
                (try clear hb2)
                (try clear hk)
                (try clear hi)
                refine hK.out _ _ ⟨(blk_cell BK233.out 0).trans rfl, (blk_cell BK233.out 1).trans rfl, (blk_cell BK233.out 2).trans rfl, (blk_cell BK234.out 0).trans rfl, (blk_cell BK234.out 1).trans rfl, (blk_cell BK234.out 2).trans rfl, (blk_cell BK235.out 0).trans rfl, (blk_cell BK235.out 1).trans rfl, (blk_cell BK235.out 2).trans rfl⟩ (fun hHeld => ?_)
                clear hK K
                refine norm_ (a' := ?_) ?_ ?_
                rotate_left; (· show Act.put _ (some 48) _ = _; simp only [Act.put,List.setIfInBounds_toArray,List.set_cons_zero,List.set_cons_succ,i64_w,i32_w]; rfl)
                refine pure_ (i := 9) (N := some 9) (v := ?_) (a' := ?_) (bo_ 12 1023) rfl rfl (any_of HT_.out (by kernel_rfl)) (fun _ _ _ h => h) (Or.inl ⟨by rfl, ?_⟩) ?_ ?_
                rotate_left; (· intro w'; go_simp; with_reducible rfl)
                rotate_left; (· simp only [Act.put,List.setIfInBounds_toArray,List.set_cons_zero,List.set_cons_succ,i64_w,i32_w]; rfl)
                refine pure_ (i := 10) (N := some 10) (v := ?_) (a' := ?_) (bo_ 12 2047) rfl rfl (any_of HT_.out (by kernel_rfl)) (fun _ _ _ h => h) (Or.inl ⟨by rfl, ?_⟩) ?_ ?_
                rotate_left; (· intro w'; go_simp; with_reducible rfl)
                rotate_left; (· simp only [Act.put,List.setIfInBounds_toArray,List.set_cons_zero,List.set_cons_succ,i64_w,i32_w]; rfl)
                refine pure_ (i := 11) (N := some 11) (v := ?_) (a' := ?_) (bo_ 12 4095) rfl rfl (any_of HT_.out (by kernel_rfl)) (fun _ _ _ h => h) (Or.inl ⟨by rfl, ?_⟩) ?_ ?_
                rotate_left; (· intro w'; go_simp; with_reducible rfl)
                rotate_left; (· simp only [Act.put,List.setIfInBounds_toArray,List.set_cons_zero,List.set_cons_succ,i64_w,i32_w]; rfl)
                refine done_ (done_of HT_.out (by kernel_rfl)) ?_
                have hnb75 := NB233_234.out
                have hnc75 := NB234_233.out
                have hnb76 := NB233_235.out
                have hnc76 := NB235_233.out
                have hcz77_0 : w74.cell? ⟨gb233, 0, none⟩ = some (.string a0_0) := (blk_cell BK233.out 0).trans rfl
                have hcz77_1 : w74.cell? ⟨gb233, 1, none⟩ = some (.string a0_1) := (blk_cell BK233.out 1).trans rfl
                have hcz77_2 : w74.cell? ⟨gb233, 2, none⟩ = some (.string a0_2) := (blk_cell BK233.out 2).trans rfl
                have hfz77_0 := blk_frozen BK233.out 0
                have hfz77_1 := blk_frozen BK233.out 1
                have hfz77_2 := blk_frozen BK233.out 2
                have hnb78 := NB234_235.out
                have hnc78 := NB235_234.out
                have hcz79_0 : w74.cell? ⟨gb234, 0, none⟩ = some (.string x235000_44) := (blk_cell BK234.out 0).trans rfl
                have hcz79_1 : w74.cell? ⟨gb234, 1, none⟩ = some (.string a1_1) := (blk_cell BK234.out 1).trans rfl
                have hcz79_2 : w74.cell? ⟨gb234, 2, none⟩ = some (.string x235002_37) := (blk_cell BK234.out 2).trans rfl
                have hfz79_0 := blk_frozen BK234.out 0
                have hfz79_1 := blk_frozen BK234.out 1
                have hfz79_2 := blk_frozen BK234.out 2
                try go_wp2_with (first | ((with_reducible refine gate_callee (f := 26) rfl ?_); refine goesL_ (some 52) rfl rfl Try.func26 (by kernel_rfl) rfl #[.agg #[.string a0_0, .string a0_1, .string a0_2], .agg #[.string x235000_44, .string a1_1, .string x235002_37]] rfl (by (try simp only [List.map_toArray, List.map_cons, List.map_nil]); first | done | rfl | (simp only [List.length_drop, List.length_take]; rfl)) ?_; (with_reducible refine (kerbsuiteref1_Compare.calls a0_0 a0_1 a0_2 x235000_44 a1_1 x235002_37 t243 _ A62.out).mono ?_); rintro e w80 ⟨rfl, hb⟩; refine ⟨_, rfl, ?_⟩; have n0_ := Aside0.mk (blk_below (g := gb233) (o := .cells #[.string a0_0, .string a0_1, .string a0_2] 23 (0, 0)) (by (with_reducible repeat (first | refine blk_drewN ?_ _ | refine blk_drew ?_ | refine blk_alloc ?_ _)); exact BK233.out) hb); have n1_ := Aside0.mk (blk_below (g := gb234) (o := .cells #[.string x235000_44, .string a1_1, .string x235002_37] 23 (0, 0)) (by (with_reducible repeat (first | refine blk_drewN ?_ _ | refine blk_drew ?_ | refine blk_alloc ?_ _)); exact BK234.out) hb); have n2_ := Aside0.mk (blk_below (g := gb235) (o := .cells #[.string x236000_51, .string x236001_51, .string x236002_51] 23 (0, 0)) (by (with_reducible repeat (first | refine blk_drewN ?_ _ | refine blk_drew ?_ | refine blk_alloc ?_ _)); exact BK235.out) hb); have n3_ := Aside0.mk (below_step (by repeat (first | (with_reducible first | exact HB.out | apply below_alloc | apply pw_below_drewN | apply below_drew1 | refine below_set ?_ GE233.out | refine below_set ?_ GE234.out | refine below_set ?_ GE235.out) | exact HB.out)) hb); clear BK233; clear BK234; clear BK235; clear HB; have BK233 := n0_; have BK234 := n1_; have BK235 := n2_; have HB := n3_; clear n0_ n1_ n2_ n3_; (try clear hb); (try clear hb2); (try clear hk); (try clear hi); have hcz81_0 : w80.cell? ⟨gb234, 0, none⟩ = some (.string x235000_44) := (blk_cell BK234.out 0).trans rfl; have hcz81_1 : w80.cell? ⟨gb234, 1, none⟩ = some (.string a1_1) := (blk_cell BK234.out 1).trans rfl; have hcz81_2 : w80.cell? ⟨gb234, 2, none⟩ = some (.string x235002_37) := (blk_cell BK234.out 2).trans rfl; have hfz81_0 := blk_frozen BK234.out 0; have hfz81_1 := blk_frozen BK234.out 1; have hfz81_2 := blk_frozen BK234.out 2; have hcz82_0 : w80.cell? ⟨gb235, 0, none⟩ = some (.string x236000_51) := (blk_cell BK235.out 0).trans rfl; have hcz82_1 : w80.cell? ⟨gb235, 1, none⟩ = some (.string x236001_51) := (blk_cell BK235.out 1).trans rfl; have hcz82_2 : w80.cell? ⟨gb235, 2, none⟩ = some (.string x236002_51) := (blk_cell BK235.out 2).trans rfl; have hfz82_0 := blk_frozen BK235.out 0; have hfz82_1 := blk_frozen BK235.out 1; have hfz82_2 := blk_frozen BK235.out 2) | (go_at_call 26; (with_reducible refine (kerbsuiteref1_Compare.calls x235000_44 a1_1 x235002_37 x236000_51 x236001_51 x236002_51 t244 _ A64.out).mono ?_); rintro e w83 ⟨rfl, hb⟩; have n0_ := Aside0.mk (blk_below (g := gb233) (o := .cells #[.string a0_0, .string a0_1, .string a0_2] 23 (0, 0)) (by (with_reducible repeat (first | refine blk_drewN ?_ _ | refine blk_drew ?_ | refine blk_alloc ?_ _)); exact BK233.out) hb); have n1_ := Aside0.mk (blk_below (g := gb234) (o := .cells #[.string x235000_44, .string a1_1, .string x235002_37] 23 (0, 0)) (by (with_reducible repeat (first | refine blk_drewN ?_ _ | refine blk_drew ?_ | refine blk_alloc ?_ _)); exact BK234.out) hb); have n2_ := Aside0.mk (blk_below (g := gb235) (o := .cells #[.string x236000_51, .string x236001_51, .string x236002_51] 23 (0, 0)) (by (with_reducible repeat (first | refine blk_drewN ?_ _ | refine blk_drew ?_ | refine blk_alloc ?_ _)); exact BK235.out) hb); have n3_ := Aside0.mk (below_step (by repeat (first | (with_reducible first | exact HB.out | apply below_alloc | apply pw_below_drewN | apply below_drew1 | refine below_set ?_ GE233.out | refine below_set ?_ GE234.out | refine below_set ?_ GE235.out) | exact HB.out)) hb); clear BK233; clear BK234; clear BK235; clear HB; have BK233 := n0_; have BK234 := n1_; have BK235 := n2_; have HB := n3_; clear n0_ n1_ n2_ n3_; (try clear hb); (try clear hb2); (try clear hk); (try clear hi); have hcz84_0 : w83.cell? ⟨gb233, 0, none⟩ = some (.string a0_0) := (blk_cell BK233.out 0).trans rfl; have hcz84_1 : w83.cell? ⟨gb233, 1, none⟩ = some (.string a0_1) := (blk_cell BK233.out 1).trans rfl; have hcz84_2 : w83.cell? ⟨gb233, 2, none⟩ = some (.string a0_2) := (blk_cell BK233.out 2).trans rfl; have hfz84_0 := blk_frozen BK233.out 0; have hfz84_1 := blk_frozen BK233.out 1; have hfz84_2 := blk_frozen BK233.out 2; have hcz85_0 : w83.cell? ⟨gb235, 0, none⟩ = some (.string x236000_51) := (blk_cell BK235.out 0).trans rfl; have hcz85_1 : w83.cell? ⟨gb235, 1, none⟩ = some (.string x236001_51) := (blk_cell BK235.out 1).trans rfl; have hcz85_2 : w83.cell? ⟨gb235, 2, none⟩ = some (.string x236002_51) := (blk_cell BK235.out 2).trans rfl; have hfz85_0 := blk_frozen BK235.out 0; have hfz85_1 := blk_frozen BK235.out 1; have hfz85_2 := blk_frozen BK235.out 2) | (go_at_call 26; (with_reducible refine (kerbsuiteref1_Compare.calls a0_0 a0_1 a0_2 x236000_51 x236001_51 x236002_51 t245 _ A66.out).mono ?_); rintro e w86 ⟨rfl, hb⟩; have n0_ := Aside0.mk (blk_below (g := gb233) (o := .cells #[.string a0_0, .string a0_1, .string a0_2] 23 (0, 0)) (by (with_reducible repeat (first | refine blk_drewN ?_ _ | refine blk_drew ?_ | refine blk_alloc ?_ _)); exact BK233.out) hb); have n1_ := Aside0.mk (blk_below (g := gb234) (o := .cells #[.string x235000_44, .string a1_1, .string x235002_37] 23 (0, 0)) (by (with_reducible repeat (first | refine blk_drewN ?_ _ | refine blk_drew ?_ | refine blk_alloc ?_ _)); exact BK234.out) hb); have n2_ := Aside0.mk (blk_below (g := gb235) (o := .cells #[.string x236000_51, .string x236001_51, .string x236002_51] 23 (0, 0)) (by (with_reducible repeat (first | refine blk_drewN ?_ _ | refine blk_drew ?_ | refine blk_alloc ?_ _)); exact BK235.out) hb); have n3_ := Aside0.mk (below_step (by repeat (first | (with_reducible first | exact HB.out | apply below_alloc | apply pw_below_drewN | apply below_drew1 | refine below_set ?_ GE233.out | refine below_set ?_ GE234.out | refine below_set ?_ GE235.out) | exact HB.out)) hb); clear BK233; clear BK234; clear BK235; clear HB; have BK233 := n0_; have BK234 := n1_; have BK235 := n2_; have HB := n3_; clear n0_ n1_ n2_ n3_; (try clear hb); (try clear hb2); (try clear hk); (try clear hi); have hcz87_0 : w86.cell? ⟨gb234, 0, none⟩ = some (.string x235000_44) := (blk_cell BK234.out 0).trans rfl; have hcz87_1 : w86.cell? ⟨gb234, 1, none⟩ = some (.string a1_1) := (blk_cell BK234.out 1).trans rfl; have hcz87_2 : w86.cell? ⟨gb234, 2, none⟩ = some (.string x235002_37) := (blk_cell BK234.out 2).trans rfl; have hfz87_0 := blk_frozen BK234.out 0; have hfz87_1 := blk_frozen BK234.out 1; have hfz87_2 := blk_frozen BK234.out 2; have hcz88_0 : w86.cell? ⟨gb233, 0, none⟩ = some (.string a0_0) := (blk_cell BK233.out 0).trans rfl; have hcz88_1 : w86.cell? ⟨gb233, 1, none⟩ = some (.string a0_1) := (blk_cell BK233.out 1).trans rfl; have hcz88_2 : w86.cell? ⟨gb233, 2, none⟩ = some (.string a0_2) := (blk_cell BK233.out 2).trans rfl; have hfz88_0 := blk_frozen BK233.out 0; have hfz88_1 := blk_frozen BK233.out 1; have hfz88_2 := blk_frozen BK233.out 2) | (go_at_call 25; (with_reducible refine (principal_Compare.calls x235000_44 a1_1 x235002_37 a0_0 a0_1 a0_2 t246 _ A68.out).mono ?_); rintro e w89 ⟨rfl, hb⟩; have n0_ := Aside0.mk (blk_below (g := gb233) (o := .cells #[.string a0_0, .string a0_1, .string a0_2] 23 (0, 0)) (by (with_reducible repeat (first | refine blk_drewN ?_ _ | refine blk_drew ?_ | refine blk_alloc ?_ _)); exact BK233.out) hb); have n1_ := Aside0.mk (blk_below (g := gb234) (o := .cells #[.string x235000_44, .string a1_1, .string x235002_37] 23 (0, 0)) (by (with_reducible repeat (first | refine blk_drewN ?_ _ | refine blk_drew ?_ | refine blk_alloc ?_ _)); exact BK234.out) hb); have n2_ := Aside0.mk (blk_below (g := gb235) (o := .cells #[.string x236000_51, .string x236001_51, .string x236002_51] 23 (0, 0)) (by (with_reducible repeat (first | refine blk_drewN ?_ _ | refine blk_drew ?_ | refine blk_alloc ?_ _)); exact BK235.out) hb); have n3_ := Aside0.mk (below_step (by repeat (first | (with_reducible first | exact HB.out | apply below_alloc | apply pw_below_drewN | apply below_drew1 | refine below_set ?_ GE233.out | refine below_set ?_ GE234.out | refine below_set ?_ GE235.out) | exact HB.out)) hb); clear BK233; clear BK234; clear BK235; clear HB; have BK233 := n0_; have BK234 := n1_; have BK235 := n2_; have HB := n3_; clear n0_ n1_ n2_ n3_; (try clear hb); (try clear hb2); (try clear hk); (try clear hi); have hcz90_0 : w89.cell? ⟨gb233, 0, none⟩ = some (.string a0_0) := (blk_cell BK233.out 0).trans rfl; have hcz90_1 : w89.cell? ⟨gb233, 1, none⟩ = some (.string a0_1) := (blk_cell BK233.out 1).trans rfl; have hcz90_2 : w89.cell? ⟨gb233, 2, none⟩ = some (.string a0_2) := (blk_cell BK233.out 2).trans rfl; have hfz90_0 := blk_frozen BK233.out 0; have hfz90_1 := blk_frozen BK233.out 1; have hfz90_2 := blk_frozen BK233.out 2; have hcz91_0 : w89.cell? ⟨gb234, 0, none⟩ = some (.string x235000_44) := (blk_cell BK234.out 0).trans rfl; have hcz91_1 : w89.cell? ⟨gb234, 1, none⟩ = some (.string a1_1) := (blk_cell BK234.out 1).trans rfl; have hcz91_2 : w89.cell? ⟨gb234, 2, none⟩ = some (.string x235002_37) := (blk_cell BK234.out 2).trans rfl; have hfz91_0 := blk_frozen BK234.out 0; have hfz91_1 := blk_frozen BK234.out 1; have hfz91_2 := blk_frozen BK234.out 2))
                go_ret
                exact ⟨by first | rfl | (simp [errW_none, errW_some] <;> rfl) | (simp [*, errW_none, errW_some] <;> rfl), by repeat (first | (with_reducible first | exact HB.out | apply below_alloc | apply pw_below_drewN | apply below_drew1 | refine below_set ?_ GE233.out | refine below_set ?_ GE234.out | refine below_set ?_ GE235.out) | exact HB.out)⟩
               ·rw [if_neg c70] at H
                have c70b0 : ((t240 == 0) != (a0_0.toList == x235000_44.toList && (a0_1.toList == a1_1.toList && (a0_2.toList == x235002_37.toList)))) = false := by simpa using c70
                (try (have c70b1 : decide ((t240 == 0) = (a0_0.toList == x235000_44.toList && (a0_1.toList == a1_1.toList && (a0_2.toList == x235002_37.toList)))) = true := by simpa using c70))
                (try (have c70b2 : ((t240 == 0) == (a0_0.toList == x235000_44.toList && (a0_1.toList == a1_1.toList && (a0_2.toList == x235002_37.toList)))) = true := by simpa using c70))
                clear c70
                by_cases c92 : t240 > 0
                ·rw [if_pos c92] at H
                 have c92b0 : decide (0 < t240) = true := decide_eq_true c92
                 clear c92
                 obtain rfl := Option.some.inj H
                 try go_wp2
                 have n0_ := Aside0.mk (blk_drew BK233.out)
                 have n1_ := Aside0.mk (blk_drew BK234.out)
                 have n2_ := Aside0.mk (blk_drew BK235.out)
                 have n3_ := Aside0.mk (below_drew1 HB.out)
                 clear BK233
                 clear BK234
                 clear BK235
                 clear HB
                 have BK233 := n0_
                 have BK234 := n1_
                 have BK235 := n2_
                 have HB := n3_
                 clear n0_ n1_ n2_ n3_
                 refine start_ (n := 12) (S := fun w' => w'.cell? ⟨gb233, 0, none⟩ = some (.string a0_0) ∧ w'.cell? ⟨gb233, 1, none⟩ = some (.string a0_1) ∧ w'.cell? ⟨gb233, 2, none⟩ = some (.string a0_2) ∧ w'.cell? ⟨gb234, 0, none⟩ = some (.string x235000_44) ∧ w'.cell? ⟨gb234, 1, none⟩ = some (.string a1_1) ∧ w'.cell? ⟨gb234, 2, none⟩ = some (.string x235002_37) ∧ w'.cell? ⟨gb235, 0, none⟩ = some (.string x236000_51) ∧ w'.cell? ⟨gb235, 1, none⟩ = some (.string x236001_51) ∧ w'.cell? ⟨gb235, 2, none⟩ = some (.string x236002_51)) (ds := []) #[false,false,false,false,false,false,false,false,false,false,false,false] (by kernel_rfl) rfl rfl ⟨(blk_cell BK233.out 0).trans rfl, (blk_cell BK233.out 1).trans rfl, (blk_cell BK233.out 2).trans rfl, (blk_cell BK234.out 0).trans rfl, (blk_cell BK234.out 1).trans rfl, (blk_cell BK234.out 2).trans rfl, (blk_cell BK235.out 0).trans rfl, (blk_cell BK235.out 1).trans rfl, (blk_cell BK235.out 2).trans rfl⟩ (fun hHeld => ?_); refine with_tabW kerbsuitelaw1_PrincipalOrder.tab11 kerbsuitelaw1_PrincipalOrder.bits11 (fun HT_ HW_ => ?_)
                 generalize wc.drew = w93 at BK233 BK234 BK235 HB hHeld ⊢
                 refine take_ (i := 0) (N := some 40) (v := ?_) (a' := ?_) (bo_ 12 1) rfl rfl (take_ofW HT_.out HW_.out (by kernel_rfl)) (fun _ _ _ h => h) (Or.inl ⟨by rfl, ?_⟩) hHeld ?_ ?_
                 rotate_left; (· rintro w' ⟨s0, s1, s2, s3, s4, s5, s6, s7, s8⟩; go_simp; with_reducible rfl)
                 rotate_left; (· simp only [Act.put,List.setIfInBounds_toArray,List.set_cons_zero,List.set_cons_succ,i64_w,i32_w]; rfl)
                 refine take_ (i := 1) (N := some 41) (v := ?_) (a' := ?_) (bo_ 12 3) rfl rfl (take_ofW HT_.out HW_.out (by kernel_rfl)) (fun _ _ _ h => h) (Or.inl ⟨by rfl, ?_⟩) hHeld ?_ ?_
                 rotate_left; (· rintro w' ⟨s0, s1, s2, s3, s4, s5, s6, s7, s8⟩; go_simp; with_reducible rfl)
                 rotate_left; (· simp only [Act.put,List.setIfInBounds_toArray,List.set_cons_zero,List.set_cons_succ,i64_w,i32_w]; rfl)
                 refine take_ (i := 3) (N := some 43) (v := ?_) (a' := ?_) (bo_ 12 11) rfl rfl (take_ofW HT_.out HW_.out (by kernel_rfl)) (fun _ _ _ h => h) (Or.inl ⟨by rfl, ?_⟩) hHeld ?_ ?_
                 rotate_left; (· rintro w' ⟨s0, s1, s2, s3, s4, s5, s6, s7, s8⟩; go_simp; with_reducible rfl)
                 rotate_left; (· simp only [Act.put,List.setIfInBounds_toArray,List.set_cons_zero,List.set_cons_succ,i64_w,i32_w]; rfl)
                 refine take_ (i := 4) (N := some 44) (v := ?_) (a' := ?_) (bo_ 12 27) rfl rfl (take_ofW HT_.out HW_.out (by kernel_rfl)) (fun _ _ _ h => h) (Or.inl ⟨by rfl, ?_⟩) hHeld ?_ ?_
                 rotate_left; (· rintro w' ⟨s0, s1, s2, s3, s4, s5, s6, s7, s8⟩; go_simp; with_reducible rfl)
                 rotate_left; (· simp only [Act.put,List.setIfInBounds_toArray,List.set_cons_zero,List.set_cons_succ,i64_w,i32_w]; rfl)
                 refine take_ (i := 6) (N := some 46) (v := ?_) (a' := ?_) (bo_ 12 91) rfl rfl (take_ofW HT_.out HW_.out (by kernel_rfl)) (fun _ _ _ h => h) (Or.inl ⟨by rfl, ?_⟩) hHeld ?_ ?_
                 rotate_left; (· rintro w' ⟨s0, s1, s2, s3, s4, s5, s6, s7, s8⟩; go_simp; with_reducible rfl)
                 rotate_left; (· simp only [Act.put,List.setIfInBounds_toArray,List.set_cons_zero,List.set_cons_succ,i64_w,i32_w]; rfl)
                 refine take_ (i := 7) (N := some 47) (v := ?_) (a' := ?_) (bo_ 12 219) rfl rfl (take_ofW HT_.out HW_.out (by kernel_rfl)) (fun _ _ _ h => h) (Or.inl ⟨by rfl, ?_⟩) hHeld ?_ ?_
                 rotate_left; (· rintro w' ⟨s0, s1, s2, s3, s4, s5, s6, s7, s8⟩; go_simp; with_reducible rfl)
                 rotate_left; (· simp only [Act.put,List.setIfInBounds_toArray,List.set_cons_zero,List.set_cons_succ,i64_w,i32_w]; rfl)
                 refine one_ (i := 2) (N := some 42) (bo_ 12 223) rfl rfl (one_of HT_.out (by kernel_rfl)) (by decide) (fun K hK => ?_)
                 refine goes_ Try.func25 (by kernel_rfl) rfl #[.agg #[.string a0_0, .string a0_1, .string a0_2], .agg #[.string x235000_44, .string a1_1, .string x235002_37]] (by rfl) rfl rfl (by (try simp only [List.map_toArray, List.map_cons, List.map_nil]); first | done | rfl | (simp only [List.length_drop, List.length_take]; rfl)) ?_
                 with_reducible refine (principal_Compare.calls a0_0 a0_1 a0_2 x235000_44 a1_1 x235002_37 t240 _ A59.out).mono ?_
                 rintro e w94 ⟨rfl, hb⟩
                 refine ⟨_, rfl, ?_⟩
                 have n0_ := Aside0.mk (blk_below (g := gb233) (o := .cells #[.string a0_0, .string a0_1, .string a0_2] 23 (0, 0)) (by (with_reducible repeat (first | refine blk_drewN ?_ _ | refine blk_drew ?_ | refine blk_alloc ?_ _)); exact BK233.out) hb)
                 have n1_ := Aside0.mk (blk_below (g := gb234) (o := .cells #[.string x235000_44, .string a1_1, .string x235002_37] 23 (0, 0)) (by (with_reducible repeat (first | refine blk_drewN ?_ _ | refine blk_drew ?_ | refine blk_alloc ?_ _)); exact BK234.out) hb)
                 have n2_ := Aside0.mk (blk_below (g := gb235) (o := .cells #[.string x236000_51, .string x236001_51, .string x236002_51] 23 (0, 0)) (by (with_reducible repeat (first | refine blk_drewN ?_ _ | refine blk_drew ?_ | refine blk_alloc ?_ _)); exact BK235.out) hb)
                 have n3_ := Aside0.mk (below_step (by repeat (first | (with_reducible first | exact HB.out | apply below_alloc | apply pw_below_drewN | apply below_drew1 | refine below_set ?_ GE233.out | refine below_set ?_ GE234.out | refine below_set ?_ GE235.out) | exact HB.out)) hb)
                 clear BK233
                 clear BK234
                 clear BK235
                 clear HB
                 have BK233 := n0_
                 have BK234 := n1_
                 have BK235 := n2_
                 have HB := n3_
                 clear n0_ n1_ n2_ n3_
                 (try clear hb)
                 (try clear hb2)
                 (try clear hk)
                 (try clear hi)
                 refine hK.out _ _ ⟨(blk_cell BK233.out 0).trans rfl, (blk_cell BK233.out 1).trans rfl, (blk_cell BK233.out 2).trans rfl, (blk_cell BK234.out 0).trans rfl, (blk_cell BK234.out 1).trans rfl, (blk_cell BK234.out 2).trans rfl, (blk_cell BK235.out 0).trans rfl, (blk_cell BK235.out 1).trans rfl, (blk_cell BK235.out 2).trans rfl⟩ (fun hHeld => ?_)
                 clear hK K
                 refine norm_ (a' := ?_) ?_ ?_
                 rotate_left; (· show Act.put _ (some 42) _ = _; simp only [Act.put,List.setIfInBounds_toArray,List.set_cons_zero,List.set_cons_succ,i64_w,i32_w]; rfl)
                 refine one_ (i := 5) (N := some 45) (bo_ 12 255) rfl rfl (one_of HT_.out (by kernel_rfl)) (by decide) (fun K hK => ?_)
                 refine goes_ Try.func25 (by kernel_rfl) rfl #[.agg #[.string x235000_44, .string a1_1, .string x235002_37], .agg #[.string x236000_51, .string x236001_51, .string x236002_51]] (by rfl) rfl rfl (by (try simp only [List.map_toArray, List.map_cons, List.map_nil]); first | done | rfl | (simp only [List.length_drop, List.length_take]; rfl)) ?_
                 with_reducible refine (principal_Compare.calls x235000_44 a1_1 x235002_37 x236000_51 x236001_51 x236002_51 t241 _ A60.out).mono ?_
                 rintro e w95 ⟨rfl, hb⟩
                 refine ⟨_, rfl, ?_⟩
                 have n0_ := Aside0.mk (blk_below (g := gb233) (o := .cells #[.string a0_0, .string a0_1, .string a0_2] 23 (0, 0)) (by (with_reducible repeat (first | refine blk_drewN ?_ _ | refine blk_drew ?_ | refine blk_alloc ?_ _)); exact BK233.out) hb)
                 have n1_ := Aside0.mk (blk_below (g := gb234) (o := .cells #[.string x235000_44, .string a1_1, .string x235002_37] 23 (0, 0)) (by (with_reducible repeat (first | refine blk_drewN ?_ _ | refine blk_drew ?_ | refine blk_alloc ?_ _)); exact BK234.out) hb)
                 have n2_ := Aside0.mk (blk_below (g := gb235) (o := .cells #[.string x236000_51, .string x236001_51, .string x236002_51] 23 (0, 0)) (by (with_reducible repeat (first | refine blk_drewN ?_ _ | refine blk_drew ?_ | refine blk_alloc ?_ _)); exact BK235.out) hb)
                 have n3_ := Aside0.mk (below_step (by repeat (first | (with_reducible first | exact HB.out | apply below_alloc | apply pw_below_drewN | apply below_drew1 | refine below_set ?_ GE233.out | refine below_set ?_ GE234.out | refine below_set ?_ GE235.out) | exact HB.out)) hb)
                 clear BK233
                 clear BK234
                 clear BK235
                 clear HB
                 have BK233 := n0_
                 have BK234 := n1_
                 have BK235 := n2_
                 have HB := n3_
                 clear n0_ n1_ n2_ n3_
                 (try clear hb)
                 (try clear hb2)
                 (try clear hk)
                 (try clear hi)
                 refine hK.out _ _ ⟨(blk_cell BK233.out 0).trans rfl, (blk_cell BK233.out 1).trans rfl, (blk_cell BK233.out 2).trans rfl, (blk_cell BK234.out 0).trans rfl, (blk_cell BK234.out 1).trans rfl, (blk_cell BK234.out 2).trans rfl, (blk_cell BK235.out 0).trans rfl, (blk_cell BK235.out 1).trans rfl, (blk_cell BK235.out 2).trans rfl⟩ (fun hHeld => ?_)
                 clear hK K
                 refine norm_ (a' := ?_) ?_ ?_
                 rotate_left; (· show Act.put _ (some 45) _ = _; simp only [Act.put,List.setIfInBounds_toArray,List.set_cons_zero,List.set_cons_succ,i64_w,i32_w]; rfl)
                 refine one_ (i := 8) (N := some 48) (bo_ 12 511) rfl rfl (one_of HT_.out (by kernel_rfl)) (by decide) (fun K hK => ?_)
                 refine goes_ Try.func25 (by kernel_rfl) rfl #[.agg #[.string a0_0, .string a0_1, .string a0_2], .agg #[.string x236000_51, .string x236001_51, .string x236002_51]] (by rfl) rfl rfl (by (try simp only [List.map_toArray, List.map_cons, List.map_nil]); first | done | rfl | (simp only [List.length_drop, List.length_take]; rfl)) ?_
                 with_reducible refine (principal_Compare.calls a0_0 a0_1 a0_2 x236000_51 x236001_51 x236002_51 t242 _ A61.out).mono ?_
                 rintro e w96 ⟨rfl, hb⟩
                 refine ⟨_, rfl, ?_⟩
                 have n0_ := Aside0.mk (blk_below (g := gb233) (o := .cells #[.string a0_0, .string a0_1, .string a0_2] 23 (0, 0)) (by (with_reducible repeat (first | refine blk_drewN ?_ _ | refine blk_drew ?_ | refine blk_alloc ?_ _)); exact BK233.out) hb)
                 have n1_ := Aside0.mk (blk_below (g := gb234) (o := .cells #[.string x235000_44, .string a1_1, .string x235002_37] 23 (0, 0)) (by (with_reducible repeat (first | refine blk_drewN ?_ _ | refine blk_drew ?_ | refine blk_alloc ?_ _)); exact BK234.out) hb)
                 have n2_ := Aside0.mk (blk_below (g := gb235) (o := .cells #[.string x236000_51, .string x236001_51, .string x236002_51] 23 (0, 0)) (by (with_reducible repeat (first | refine blk_drewN ?_ _ | refine blk_drew ?_ | refine blk_alloc ?_ _)); exact BK235.out) hb)
                 have n3_ := Aside0.mk (below_step (by repeat (first | (with_reducible first | exact HB.out | apply below_alloc | apply pw_below_drewN | apply below_drew1 | refine below_set ?_ GE233.out | refine below_set ?_ GE234.out | refine below_set ?_ GE235.out) | exact HB.out)) hb)
                 clear BK233
                 clear BK234
                 clear BK235
                 clear HB
                 have BK233 := n0_
                 have BK234 := n1_
                 have BK235 := n2_
                 have HB := n3_
                 clear n0_ n1_ n2_ n3_
                 (try clear hb)
                 (try clear hb2)
                 (try clear hk)
                 (try clear hi)
                 refine hK.out _ _ ⟨(blk_cell BK233.out 0).trans rfl, (blk_cell BK233.out 1).trans rfl, (blk_cell BK233.out 2).trans rfl, (blk_cell BK234.out 0).trans rfl, (blk_cell BK234.out 1).trans rfl, (blk_cell BK234.out 2).trans rfl, (blk_cell BK235.out 0).trans rfl, (blk_cell BK235.out 1).trans rfl, (blk_cell BK235.out 2).trans rfl⟩ (fun hHeld => ?_)
                 clear hK K
                 refine norm_ (a' := ?_) ?_ ?_
                 rotate_left; (· show Act.put _ (some 48) _ = _; simp only [Act.put,List.setIfInBounds_toArray,List.set_cons_zero,List.set_cons_succ,i64_w,i32_w]; rfl)
                 refine pure_ (i := 9) (N := some 9) (v := ?_) (a' := ?_) (bo_ 12 1023) rfl rfl (any_of HT_.out (by kernel_rfl)) (fun _ _ _ h => h) (Or.inl ⟨by rfl, ?_⟩) ?_ ?_
                 rotate_left; (· intro w'; go_simp; with_reducible rfl)
                 rotate_left; (· simp only [Act.put,List.setIfInBounds_toArray,List.set_cons_zero,List.set_cons_succ,i64_w,i32_w]; rfl)
                 refine pure_ (i := 10) (N := some 10) (v := ?_) (a' := ?_) (bo_ 12 2047) rfl rfl (any_of HT_.out (by kernel_rfl)) (fun _ _ _ h => h) (Or.inl ⟨by rfl, ?_⟩) ?_ ?_
                 rotate_left; (· intro w'; go_simp; with_reducible rfl)
                 rotate_left; (· simp only [Act.put,List.setIfInBounds_toArray,List.set_cons_zero,List.set_cons_succ,i64_w,i32_w]; rfl)
                 refine pure_ (i := 11) (N := some 11) (v := ?_) (a' := ?_) (bo_ 12 4095) rfl rfl (any_of HT_.out (by kernel_rfl)) (fun _ _ _ h => h) (Or.inl ⟨by rfl, ?_⟩) ?_ ?_
                 rotate_left; (· intro w'; go_simp; with_reducible rfl)
                 rotate_left; (· simp only [Act.put,List.setIfInBounds_toArray,List.set_cons_zero,List.set_cons_succ,i64_w,i32_w]; rfl)
                 refine done_ (done_of HT_.out (by kernel_rfl)) ?_
                 have hnb97 := NB233_234.out
                 have hnc97 := NB234_233.out
                 have hnb98 := NB233_235.out
                 have hnc98 := NB235_233.out
                 have hcz99_0 : w96.cell? ⟨gb233, 0, none⟩ = some (.string a0_0) := (blk_cell BK233.out 0).trans rfl
                 have hcz99_1 : w96.cell? ⟨gb233, 1, none⟩ = some (.string a0_1) := (blk_cell BK233.out 1).trans rfl
                 have hcz99_2 : w96.cell? ⟨gb233, 2, none⟩ = some (.string a0_2) := (blk_cell BK233.out 2).trans rfl
                 have hfz99_0 := blk_frozen BK233.out 0
                 have hfz99_1 := blk_frozen BK233.out 1
                 have hfz99_2 := blk_frozen BK233.out 2
                 have hnb100 := NB234_235.out
                 have hnc100 := NB235_234.out
                 have hcz101_0 : w96.cell? ⟨gb234, 0, none⟩ = some (.string x235000_44) := (blk_cell BK234.out 0).trans rfl
                 have hcz101_1 : w96.cell? ⟨gb234, 1, none⟩ = some (.string a1_1) := (blk_cell BK234.out 1).trans rfl
                 have hcz101_2 : w96.cell? ⟨gb234, 2, none⟩ = some (.string x235002_37) := (blk_cell BK234.out 2).trans rfl
                 have hfz101_0 := blk_frozen BK234.out 0
                 have hfz101_1 := blk_frozen BK234.out 1
                 have hfz101_2 := blk_frozen BK234.out 2
                 try go_wp2_with (first | ((with_reducible refine gate_callee (f := 26) rfl ?_); refine goesL_ (some 52) rfl rfl Try.func26 (by kernel_rfl) rfl #[.agg #[.string a0_0, .string a0_1, .string a0_2], .agg #[.string x235000_44, .string a1_1, .string x235002_37]] rfl (by (try simp only [List.map_toArray, List.map_cons, List.map_nil]); first | done | rfl | (simp only [List.length_drop, List.length_take]; rfl)) ?_; (with_reducible refine (kerbsuiteref1_Compare.calls a0_0 a0_1 a0_2 x235000_44 a1_1 x235002_37 t243 _ A62.out).mono ?_); rintro e w102 ⟨rfl, hb⟩; refine ⟨_, rfl, ?_⟩; have n0_ := Aside0.mk (blk_below (g := gb233) (o := .cells #[.string a0_0, .string a0_1, .string a0_2] 23 (0, 0)) (by (with_reducible repeat (first | refine blk_drewN ?_ _ | refine blk_drew ?_ | refine blk_alloc ?_ _)); exact BK233.out) hb); have n1_ := Aside0.mk (blk_below (g := gb234) (o := .cells #[.string x235000_44, .string a1_1, .string x235002_37] 23 (0, 0)) (by (with_reducible repeat (first | refine blk_drewN ?_ _ | refine blk_drew ?_ | refine blk_alloc ?_ _)); exact BK234.out) hb); have n2_ := Aside0.mk (blk_below (g := gb235) (o := .cells #[.string x236000_51, .string x236001_51, .string x236002_51] 23 (0, 0)) (by (with_reducible repeat (first | refine blk_drewN ?_ _ | refine blk_drew ?_ | refine blk_alloc ?_ _)); exact BK235.out) hb); have n3_ := Aside0.mk (below_step (by repeat (first | (with_reducible first | exact HB.out | apply below_alloc | apply pw_below_drewN | apply below_drew1 | refine below_set ?_ GE233.out | refine below_set ?_ GE234.out | refine below_set ?_ GE235.out) | exact HB.out)) hb); clear BK233; clear BK234; clear BK235; clear HB; have BK233 := n0_; have BK234 := n1_; have BK235 := n2_; have HB := n3_; clear n0_ n1_ n2_ n3_; (try clear hb); (try clear hb2); (try clear hk); (try clear hi); have hcz103_0 : w102.cell? ⟨gb234, 0, none⟩ = some (.string x235000_44) := (blk_cell BK234.out 0).trans rfl; have hcz103_1 : w102.cell? ⟨gb234, 1, none⟩ = some (.string a1_1) := (blk_cell BK234.out 1).trans rfl; have hcz103_2 : w102.cell? ⟨gb234, 2, none⟩ = some (.string x235002_37) := (blk_cell BK234.out 2).trans rfl; have hfz103_0 := blk_frozen BK234.out 0; have hfz103_1 := blk_frozen BK234.out 1; have hfz103_2 := blk_frozen BK234.out 2; have hcz104_0 : w102.cell? ⟨gb235, 0, none⟩ = some (.string x236000_51) := (blk_cell BK235.out 0).trans rfl; have hcz104_1 : w102.cell? ⟨gb235, 1, none⟩ = some (.string x236001_51) := (blk_cell BK235.out 1).trans rfl; have hcz104_2 : w102.cell? ⟨gb235, 2, none⟩ = some (.string x236002_51) := (blk_cell BK235.out 2).trans rfl; have hfz104_0 := blk_frozen BK235.out 0; have hfz104_1 := blk_frozen BK235.out 1; have hfz104_2 := blk_frozen BK235.out 2) | (go_at_call 26; (with_reducible refine (kerbsuiteref1_Compare.calls x235000_44 a1_1 x235002_37 x236000_51 x236001_51 x236002_51 t244 _ A64.out).mono ?_); rintro e w105 ⟨rfl, hb⟩; have n0_ := Aside0.mk (blk_below (g := gb233) (o := .cells #[.string a0_0, .string a0_1, .string a0_2] 23 (0, 0)) (by (with_reducible repeat (first | refine blk_drewN ?_ _ | refine blk_drew ?_ | refine blk_alloc ?_ _)); exact BK233.out) hb); have n1_ := Aside0.mk (blk_below (g := gb234) (o := .cells #[.string x235000_44, .string a1_1, .string x235002_37] 23 (0, 0)) (by (with_reducible repeat (first | refine blk_drewN ?_ _ | refine blk_drew ?_ | refine blk_alloc ?_ _)); exact BK234.out) hb); have n2_ := Aside0.mk (blk_below (g := gb235) (o := .cells #[.string x236000_51, .string x236001_51, .string x236002_51] 23 (0, 0)) (by (with_reducible repeat (first | refine blk_drewN ?_ _ | refine blk_drew ?_ | refine blk_alloc ?_ _)); exact BK235.out) hb); have n3_ := Aside0.mk (below_step (by repeat (first | (with_reducible first | exact HB.out | apply below_alloc | apply pw_below_drewN | apply below_drew1 | refine below_set ?_ GE233.out | refine below_set ?_ GE234.out | refine below_set ?_ GE235.out) | exact HB.out)) hb); clear BK233; clear BK234; clear BK235; clear HB; have BK233 := n0_; have BK234 := n1_; have BK235 := n2_; have HB := n3_; clear n0_ n1_ n2_ n3_; (try clear hb); (try clear hb2); (try clear hk); (try clear hi); have hcz106_0 : w105.cell? ⟨gb233, 0, none⟩ = some (.string a0_0) := (blk_cell BK233.out 0).trans rfl; have hcz106_1 : w105.cell? ⟨gb233, 1, none⟩ = some (.string a0_1) := (blk_cell BK233.out 1).trans rfl; have hcz106_2 : w105.cell? ⟨gb233, 2, none⟩ = some (.string a0_2) := (blk_cell BK233.out 2).trans rfl; have hfz106_0 := blk_frozen BK233.out 0; have hfz106_1 := blk_frozen BK233.out 1; have hfz106_2 := blk_frozen BK233.out 2; have hcz107_0 : w105.cell? ⟨gb235, 0, none⟩ = some (.string x236000_51) := (blk_cell BK235.out 0).trans rfl; have hcz107_1 : w105.cell? ⟨gb235, 1, none⟩ = some (.string x236001_51) := (blk_cell BK235.out 1).trans rfl; have hcz107_2 : w105.cell? ⟨gb235, 2, none⟩ = some (.string x236002_51) := (blk_cell BK235.out 2).trans rfl; have hfz107_0 := blk_frozen BK235.out 0; have hfz107_1 := blk_frozen BK235.out 1; have hfz107_2 := blk_frozen BK235.out 2) | (go_at_call 26; (with_reducible refine (kerbsuiteref1_Compare.calls a0_0 a0_1 a0_2 x236000_51 x236001_51 x236002_51 t245 _ A66.out).mono ?_); rintro e w108 ⟨rfl, hb⟩; have n0_ := Aside0.mk (blk_below (g := gb233) (o := .cells #[.string a0_0, .string a0_1, .string a0_2] 23 (0, 0)) (by (with_reducible repeat (first | refine blk_drewN ?_ _ | refine blk_drew ?_ | refine blk_alloc ?_ _)); exact BK233.out) hb); have n1_ := Aside0.mk (blk_below (g := gb234) (o := .cells #[.string x235000_44, .string a1_1, .string x235002_37] 23 (0, 0)) (by (with_reducible repeat (first | refine blk_drewN ?_ _ | refine blk_drew ?_ | refine blk_alloc ?_ _)); exact BK234.out) hb); have n2_ := Aside0.mk (blk_below (g := gb235) (o := .cells #[.string x236000_51, .string x236001_51, .string x236002_51] 23 (0, 0)) (by (with_reducible repeat (first | refine blk_drewN ?_ _ | refine blk_drew ?_ | refine blk_alloc ?_ _)); exact BK235.out) hb); have n3_ := Aside0.mk (below_step (by repeat (first | (with_reducible first | exact HB.out | apply below_alloc | apply pw_below_drewN | apply below_drew1 | refine below_set ?_ GE233.out | refine below_set ?_ GE234.out | refine below_set ?_ GE235.out) | exact HB.out)) hb); clear BK233; clear BK234; clear BK235; clear HB; have BK233 := n0_; have BK234 := n1_; have BK235 := n2_; have HB := n3_; clear n0_ n1_ n2_ n3_; (try clear hb); (try clear hb2); (try clear hk); (try clear hi); have hcz109_0 : w108.cell? ⟨gb234, 0, none⟩ = some (.string x235000_44) := (blk_cell BK234.out 0).trans rfl; have hcz109_1 : w108.cell? ⟨gb234, 1, none⟩ = some (.string a1_1) := (blk_cell BK234.out 1).trans rfl; have hcz109_2 : w108.cell? ⟨gb234, 2, none⟩ = some (.string x235002_37) := (blk_cell BK234.out 2).trans rfl; have hfz109_0 := blk_frozen BK234.out 0; have hfz109_1 := blk_frozen BK234.out 1; have hfz109_2 := blk_frozen BK234.out 2; have hcz110_0 : w108.cell? ⟨gb233, 0, none⟩ = some (.string a0_0) := (blk_cell BK233.out 0).trans rfl; have hcz110_1 : w108.cell? ⟨gb233, 1, none⟩ = some (.string a0_1) := (blk_cell BK233.out 1).trans rfl; have hcz110_2 : w108.cell? ⟨gb233, 2, none⟩ = some (.string a0_2) := (blk_cell BK233.out 2).trans rfl; have hfz110_0 := blk_frozen BK233.out 0; have hfz110_1 := blk_frozen BK233.out 1; have hfz110_2 := blk_frozen BK233.out 2) | (go_at_call 25; (with_reducible refine (principal_Compare.calls x235000_44 a1_1 x235002_37 a0_0 a0_1 a0_2 t246 _ A68.out).mono ?_); rintro e w111 ⟨rfl, hb⟩; have n0_ := Aside0.mk (blk_below (g := gb233) (o := .cells #[.string a0_0, .string a0_1, .string a0_2] 23 (0, 0)) (by (with_reducible repeat (first | refine blk_drewN ?_ _ | refine blk_drew ?_ | refine blk_alloc ?_ _)); exact BK233.out) hb); have n1_ := Aside0.mk (blk_below (g := gb234) (o := .cells #[.string x235000_44, .string a1_1, .string x235002_37] 23 (0, 0)) (by (with_reducible repeat (first | refine blk_drewN ?_ _ | refine blk_drew ?_ | refine blk_alloc ?_ _)); exact BK234.out) hb); have n2_ := Aside0.mk (blk_below (g := gb235) (o := .cells #[.string x236000_51, .string x236001_51, .string x236002_51] 23 (0, 0)) (by (with_reducible repeat (first | refine blk_drewN ?_ _ | refine blk_drew ?_ | refine blk_alloc ?_ _)); exact BK235.out) hb); have n3_ := Aside0.mk (below_step (by repeat (first | (with_reducible first | exact HB.out | apply below_alloc | apply pw_below_drewN | apply below_drew1 | refine below_set ?_ GE233.out | refine below_set ?_ GE234.out | refine below_set ?_ GE235.out) | exact HB.out)) hb); clear BK233; clear BK234; clear BK235; clear HB; have BK233 := n0_; have BK234 := n1_; have BK235 := n2_; have HB := n3_; clear n0_ n1_ n2_ n3_; (try clear hb); (try clear hb2); (try clear hk); (try clear hi); have hcz112_0 : w111.cell? ⟨gb233, 0, none⟩ = some (.string a0_0) := (blk_cell BK233.out 0).trans rfl; have hcz112_1 : w111.cell? ⟨gb233, 1, none⟩ = some (.string a0_1) := (blk_cell BK233.out 1).trans rfl; have hcz112_2 : w111.cell? ⟨gb233, 2, none⟩ = some (.string a0_2) := (blk_cell BK233.out 2).trans rfl; have hfz112_0 := blk_frozen BK233.out 0; have hfz112_1 := blk_frozen BK233.out 1; have hfz112_2 := blk_frozen BK233.out 2; have hcz113_0 : w111.cell? ⟨gb234, 0, none⟩ = some (.string x235000_44) := (blk_cell BK234.out 0).trans rfl; have hcz113_1 : w111.cell? ⟨gb234, 1, none⟩ = some (.string a1_1) := (blk_cell BK234.out 1).trans rfl; have hcz113_2 : w111.cell? ⟨gb234, 2, none⟩ = some (.string x235002_37) := (blk_cell BK234.out 2).trans rfl; have hfz113_0 := blk_frozen BK234.out 0; have hfz113_1 := blk_frozen BK234.out 1; have hfz113_2 := blk_frozen BK234.out 2))
                 go_ret
                 exact ⟨by first | rfl | (simp [errW_none, errW_some] <;> rfl) | (simp [*, errW_none, errW_some] <;> rfl), by repeat (first | (with_reducible first | exact HB.out | apply below_alloc | apply pw_below_drewN | apply below_drew1 | refine below_set ?_ GE233.out | refine below_set ?_ GE234.out | refine below_set ?_ GE235.out) | exact HB.out)⟩
                ·rw [if_neg c92] at H
                 have c92b0 : decide (0 < t240) = false := decide_eq_false c92
                 clear c92
                 by_cases c114 : t241 > 0
                 ·rw [if_pos c114] at H
                  have c114b0 : decide (0 < t241) = true := decide_eq_true c114
                  clear c114
                  obtain rfl := Option.some.inj H
                  try go_wp2
                  have n0_ := Aside0.mk (blk_drew BK233.out)
                  have n1_ := Aside0.mk (blk_drew BK234.out)
                  have n2_ := Aside0.mk (blk_drew BK235.out)
                  have n3_ := Aside0.mk (below_drew1 HB.out)
                  clear BK233
                  clear BK234
                  clear BK235
                  clear HB
                  have BK233 := n0_
                  have BK234 := n1_
                  have BK235 := n2_
                  have HB := n3_
                  clear n0_ n1_ n2_ n3_
                  refine start_ (n := 12) (S := fun w' => w'.cell? ⟨gb233, 0, none⟩ = some (.string a0_0) ∧ w'.cell? ⟨gb233, 1, none⟩ = some (.string a0_1) ∧ w'.cell? ⟨gb233, 2, none⟩ = some (.string a0_2) ∧ w'.cell? ⟨gb234, 0, none⟩ = some (.string x235000_44) ∧ w'.cell? ⟨gb234, 1, none⟩ = some (.string a1_1) ∧ w'.cell? ⟨gb234, 2, none⟩ = some (.string x235002_37) ∧ w'.cell? ⟨gb235, 0, none⟩ = some (.string x236000_51) ∧ w'.cell? ⟨gb235, 1, none⟩ = some (.string x236001_51) ∧ w'.cell? ⟨gb235, 2, none⟩ = some (.string x236002_51)) (ds := []) #[false,false,false,false,false,false,false,false,false,false,false,false] (by kernel_rfl) rfl rfl ⟨(blk_cell BK233.out 0).trans rfl, (blk_cell BK233.out 1).trans rfl, (blk_cell BK233.out 2).trans rfl, (blk_cell BK234.out 0).trans rfl, (blk_cell BK234.out 1).trans rfl, (blk_cell BK234.out 2).trans rfl, (blk_cell BK235.out 0).trans rfl, (blk_cell BK235.out 1).trans rfl, (blk_cell BK235.out 2).trans rfl⟩ (fun hHeld => ?_); refine with_tabW kerbsuitelaw1_PrincipalOrder.tab11 kerbsuitelaw1_PrincipalOrder.bits11 (fun HT_ HW_ => ?_)
                  generalize wc.drew = w115 at BK233 BK234 BK235 HB hHeld ⊢
                  refine take_ (i := 0) (N := some 40) (v := ?_) (a' := ?_) (bo_ 12 1) rfl rfl (take_ofW HT_.out HW_.out (by kernel_rfl)) (fun _ _ _ h => h) (Or.inl ⟨by rfl, ?_⟩) hHeld ?_ ?_
                  rotate_left; (· rintro w' ⟨s0, s1, s2, s3, s4, s5, s6, s7, s8⟩; go_simp; with_reducible rfl)
                  rotate_left; (· simp only [Act.put,List.setIfInBounds_toArray,List.set_cons_zero,List.set_cons_succ,i64_w,i32_w]; rfl)
                  refine take_ (i := 1) (N := some 41) (v := ?_) (a' := ?_) (bo_ 12 3) rfl rfl (take_ofW HT_.out HW_.out (by kernel_rfl)) (fun _ _ _ h => h) (Or.inl ⟨by rfl, ?_⟩) hHeld ?_ ?_
                  rotate_left; (· rintro w' ⟨s0, s1, s2, s3, s4, s5, s6, s7, s8⟩; go_simp; with_reducible rfl)
                  rotate_left; (· simp only [Act.put,List.setIfInBounds_toArray,List.set_cons_zero,List.set_cons_succ,i64_w,i32_w]; rfl)
                  refine take_ (i := 3) (N := some 43) (v := ?_) (a' := ?_) (bo_ 12 11) rfl rfl (take_ofW HT_.out HW_.out (by kernel_rfl)) (fun _ _ _ h => h) (Or.inl ⟨by rfl, ?_⟩) hHeld ?_ ?_
                  rotate_left; (· rintro w' ⟨s0, s1, s2, s3, s4, s5, s6, s7, s8⟩; go_simp; with_reducible rfl)
                  rotate_left; (· simp only [Act.put,List.setIfInBounds_toArray,List.set_cons_zero,List.set_cons_succ,i64_w,i32_w]; rfl)
                  refine take_ (i := 4) (N := some 44) (v := ?_) (a' := ?_) (bo_ 12 27) rfl rfl (take_ofW HT_.out HW_.out (by kernel_rfl)) (fun _ _ _ h => h) (Or.inl ⟨by rfl, ?_⟩) hHeld ?_ ?_
                  rotate_left; (· rintro w' ⟨s0, s1, s2, s3, s4, s5, s6, s7, s8⟩; go_simp; with_reducible rfl)
                  rotate_left; (· simp only [Act.put,List.setIfInBounds_toArray,List.set_cons_zero,List.set_cons_succ,i64_w,i32_w]; rfl)
                  refine take_ (i := 6) (N := some 46) (v := ?_) (a' := ?_) (bo_ 12 91) rfl rfl (take_ofW HT_.out HW_.out (by kernel_rfl)) (fun _ _ _ h => h) (Or.inl ⟨by rfl, ?_⟩) hHeld ?_ ?_
                  rotate_left; (· rintro w' ⟨s0, s1, s2, s3, s4, s5, s6, s7, s8⟩; go_simp; with_reducible rfl)
                  rotate_left; (· simp only [Act.put,List.setIfInBounds_toArray,List.set_cons_zero,List.set_cons_succ,i64_w,i32_w]; rfl)
                  refine take_ (i := 7) (N := some 47) (v := ?_) (a' := ?_) (bo_ 12 219) rfl rfl (take_ofW HT_.out HW_.out (by kernel_rfl)) (fun _ _ _ h => h) (Or.inl ⟨by rfl, ?_⟩) hHeld ?_ ?_
                  rotate_left; (· rintro w' ⟨s0, s1, s2, s3, s4, s5, s6, s7, s8⟩; go_simp; with_reducible rfl)
                  rotate_left; (· simp only [Act.put,List.setIfInBounds_toArray,List.set_cons_zero,List.set_cons_succ,i64_w,i32_w]; rfl)
                  refine one_ (i := 2) (N := some 42) (bo_ 12 223) rfl rfl (one_of HT_.out (by kernel_rfl)) (by decide) (fun K hK => ?_)
                  refine goes_ Try.func25 (by kernel_rfl) rfl #[.agg #[.string a0_0, .string a0_1, .string a0_2], .agg #[.string x235000_44, .string a1_1, .string x235002_37]] (by rfl) rfl rfl (by (try simp only [List.map_toArray, List.map_cons, List.map_nil]); first | done | rfl | (simp only [List.length_drop, List.length_take]; rfl)) ?_
                  with_reducible refine (principal_Compare.calls a0_0 a0_1 a0_2 x235000_44 a1_1 x235002_37 t240 _ A59.out).mono ?_
                  rintro e w116 ⟨rfl, hb⟩
                  refine ⟨_, rfl, ?_⟩
                  have n0_ := Aside0.mk (blk_below (g := gb233) (o := .cells #[.string a0_0, .string a0_1, .string a0_2] 23 (0, 0)) (by (with_reducible repeat (first | refine blk_drewN ?_ _ | refine blk_drew ?_ | refine blk_alloc ?_ _)); exact BK233.out) hb)
                  have n1_ := Aside0.mk (blk_below (g := gb234) (o := .cells #[.string x235000_44, .string a1_1, .string x235002_37] 23 (0, 0)) (by (with_reducible repeat (first | refine blk_drewN ?_ _ | refine blk_drew ?_ | refine blk_alloc ?_ _)); exact BK234.out) hb)
                  have n2_ := Aside0.mk (blk_below (g := gb235) (o := .cells #[.string x236000_51, .string x236001_51, .string x236002_51] 23 (0, 0)) (by (with_reducible repeat (first | refine blk_drewN ?_ _ | refine blk_drew ?_ | refine blk_alloc ?_ _)); exact BK235.out) hb)
                  have n3_ := Aside0.mk (below_step (by repeat (first | (with_reducible first | exact HB.out | apply below_alloc | apply pw_below_drewN | apply below_drew1 | refine below_set ?_ GE233.out | refine below_set ?_ GE234.out | refine below_set ?_ GE235.out) | exact HB.out)) hb)
                  clear BK233
                  clear BK234
                  clear BK235
                  clear HB
                  have BK233 := n0_
                  have BK234 := n1_
                  have BK235 := n2_
                  have HB := n3_
                  clear n0_ n1_ n2_ n3_
                  (try clear hb)
                  (try clear hb2)
                  (try clear hk)
                  (try clear hi)
                  refine hK.out _ _ ⟨(blk_cell BK233.out 0).trans rfl, (blk_cell BK233.out 1).trans rfl, (blk_cell BK233.out 2).trans rfl, (blk_cell BK234.out 0).trans rfl, (blk_cell BK234.out 1).trans rfl, (blk_cell BK234.out 2).trans rfl, (blk_cell BK235.out 0).trans rfl, (blk_cell BK235.out 1).trans rfl, (blk_cell BK235.out 2).trans rfl⟩ (fun hHeld => ?_)
                  clear hK K
                  refine norm_ (a' := ?_) ?_ ?_
                  rotate_left; (· show Act.put _ (some 42) _ = _; simp only [Act.put,List.setIfInBounds_toArray,List.set_cons_zero,List.set_cons_succ,i64_w,i32_w]; rfl)
                  refine one_ (i := 5) (N := some 45) (bo_ 12 255) rfl rfl (one_of HT_.out (by kernel_rfl)) (by decide) (fun K hK => ?_)
                  refine goes_ Try.func25 (by kernel_rfl) rfl #[.agg #[.string x235000_44, .string a1_1, .string x235002_37], .agg #[.string x236000_51, .string x236001_51, .string x236002_51]] (by rfl) rfl rfl (by (try simp only [List.map_toArray, List.map_cons, List.map_nil]); first | done | rfl | (simp only [List.length_drop, List.length_take]; rfl)) ?_
                  with_reducible refine (principal_Compare.calls x235000_44 a1_1 x235002_37 x236000_51 x236001_51 x236002_51 t241 _ A60.out).mono ?_
                  rintro e w117 ⟨rfl, hb⟩
                  refine ⟨_, rfl, ?_⟩
                  have n0_ := Aside0.mk (blk_below (g := gb233) (o := .cells #[.string a0_0, .string a0_1, .string a0_2] 23 (0, 0)) (by (with_reducible repeat (first | refine blk_drewN ?_ _ | refine blk_drew ?_ | refine blk_alloc ?_ _)); exact BK233.out) hb)
                  have n1_ := Aside0.mk (blk_below (g := gb234) (o := .cells #[.string x235000_44, .string a1_1, .string x235002_37] 23 (0, 0)) (by (with_reducible repeat (first | refine blk_drewN ?_ _ | refine blk_drew ?_ | refine blk_alloc ?_ _)); exact BK234.out) hb)
                  have n2_ := Aside0.mk (blk_below (g := gb235) (o := .cells #[.string x236000_51, .string x236001_51, .string x236002_51] 23 (0, 0)) (by (with_reducible repeat (first | refine blk_drewN ?_ _ | refine blk_drew ?_ | refine blk_alloc ?_ _)); exact BK235.out) hb)
                  have n3_ := Aside0.mk (below_step (by repeat (first | (with_reducible first | exact HB.out | apply below_alloc | apply pw_below_drewN | apply below_drew1 | refine below_set ?_ GE233.out | refine below_set ?_ GE234.out | refine below_set ?_ GE235.out) | exact HB.out)) hb)
                  clear BK233
                  clear BK234
                  clear BK235
                  clear HB
                  have BK233 := n0_
                  have BK234 := n1_
                  have BK235 := n2_
                  have HB := n3_
                  clear n0_ n1_ n2_ n3_
                  (try clear hb)
                  (try clear hb2)
                  (try clear hk)
                  (try clear hi)
                  refine hK.out _ _ ⟨(blk_cell BK233.out 0).trans rfl, (blk_cell BK233.out 1).trans rfl, (blk_cell BK233.out 2).trans rfl, (blk_cell BK234.out 0).trans rfl, (blk_cell BK234.out 1).trans rfl, (blk_cell BK234.out 2).trans rfl, (blk_cell BK235.out 0).trans rfl, (blk_cell BK235.out 1).trans rfl, (blk_cell BK235.out 2).trans rfl⟩ (fun hHeld => ?_)
                  clear hK K
                  refine norm_ (a' := ?_) ?_ ?_
                  rotate_left; (· show Act.put _ (some 45) _ = _; simp only [Act.put,List.setIfInBounds_toArray,List.set_cons_zero,List.set_cons_succ,i64_w,i32_w]; rfl)
                  refine one_ (i := 8) (N := some 48) (bo_ 12 511) rfl rfl (one_of HT_.out (by kernel_rfl)) (by decide) (fun K hK => ?_)
                  refine goes_ Try.func25 (by kernel_rfl) rfl #[.agg #[.string a0_0, .string a0_1, .string a0_2], .agg #[.string x236000_51, .string x236001_51, .string x236002_51]] (by rfl) rfl rfl (by (try simp only [List.map_toArray, List.map_cons, List.map_nil]); first | done | rfl | (simp only [List.length_drop, List.length_take]; rfl)) ?_
                  with_reducible refine (principal_Compare.calls a0_0 a0_1 a0_2 x236000_51 x236001_51 x236002_51 t242 _ A61.out).mono ?_
                  rintro e w118 ⟨rfl, hb⟩
                  refine ⟨_, rfl, ?_⟩
                  have n0_ := Aside0.mk (blk_below (g := gb233) (o := .cells #[.string a0_0, .string a0_1, .string a0_2] 23 (0, 0)) (by (with_reducible repeat (first | refine blk_drewN ?_ _ | refine blk_drew ?_ | refine blk_alloc ?_ _)); exact BK233.out) hb)
                  have n1_ := Aside0.mk (blk_below (g := gb234) (o := .cells #[.string x235000_44, .string a1_1, .string x235002_37] 23 (0, 0)) (by (with_reducible repeat (first | refine blk_drewN ?_ _ | refine blk_drew ?_ | refine blk_alloc ?_ _)); exact BK234.out) hb)
                  have n2_ := Aside0.mk (blk_below (g := gb235) (o := .cells #[.string x236000_51, .string x236001_51, .string x236002_51] 23 (0, 0)) (by (with_reducible repeat (first | refine blk_drewN ?_ _ | refine blk_drew ?_ | refine blk_alloc ?_ _)); exact BK235.out) hb)
                  have n3_ := Aside0.mk (below_step (by repeat (first | (with_reducible first | exact HB.out | apply below_alloc | apply pw_below_drewN | apply below_drew1 | refine below_set ?_ GE233.out | refine below_set ?_ GE234.out | refine below_set ?_ GE235.out) | exact HB.out)) hb)
                  clear BK233
                  clear BK234
                  clear BK235
                  clear HB
                  have BK233 := n0_
                  have BK234 := n1_
                  have BK235 := n2_
                  have HB := n3_
                  clear n0_ n1_ n2_ n3_
                  (try clear hb)
                  (try clear hb2)
                  (try clear hk)
                  (try clear hi)
                  refine hK.out _ _ ⟨(blk_cell BK233.out 0).trans rfl, (blk_cell BK233.out 1).trans rfl, (blk_cell BK233.out 2).trans rfl, (blk_cell BK234.out 0).trans rfl, (blk_cell BK234.out 1).trans rfl, (blk_cell BK234.out 2).trans rfl, (blk_cell BK235.out 0).trans rfl, (blk_cell BK235.out 1).trans rfl, (blk_cell BK235.out 2).trans rfl⟩ (fun hHeld => ?_)
                  clear hK K
                  refine norm_ (a' := ?_) ?_ ?_
                  rotate_left; (· show Act.put _ (some 48) _ = _; simp only [Act.put,List.setIfInBounds_toArray,List.set_cons_zero,List.set_cons_succ,i64_w,i32_w]; rfl)
                  refine pure_ (i := 9) (N := some 9) (v := ?_) (a' := ?_) (bo_ 12 1023) rfl rfl (any_of HT_.out (by kernel_rfl)) (fun _ _ _ h => h) (Or.inl ⟨by rfl, ?_⟩) ?_ ?_
                  rotate_left; (· intro w'; go_simp; with_reducible rfl)
                  rotate_left; (· simp only [Act.put,List.setIfInBounds_toArray,List.set_cons_zero,List.set_cons_succ,i64_w,i32_w]; rfl)
                  refine pure_ (i := 10) (N := some 10) (v := ?_) (a' := ?_) (bo_ 12 2047) rfl rfl (any_of HT_.out (by kernel_rfl)) (fun _ _ _ h => h) (Or.inl ⟨by rfl, ?_⟩) ?_ ?_
                  rotate_left; (· intro w'; go_simp; with_reducible rfl)
                  rotate_left; (· simp only [Act.put,List.setIfInBounds_toArray,List.set_cons_zero,List.set_cons_succ,i64_w,i32_w]; rfl)
                  refine pure_ (i := 11) (N := some 11) (v := ?_) (a' := ?_) (bo_ 12 4095) rfl rfl (any_of HT_.out (by kernel_rfl)) (fun _ _ _ h => h) (Or.inl ⟨by rfl, ?_⟩) ?_ ?_
                  rotate_left; (· intro w'; go_simp; with_reducible rfl)
                  rotate_left; (· simp only [Act.put,List.setIfInBounds_toArray,List.set_cons_zero,List.set_cons_succ,i64_w,i32_w]; rfl)
                  refine done_ (done_of HT_.out (by kernel_rfl)) ?_
                  have hnb119 := NB233_234.out
                  have hnc119 := NB234_233.out
                  have hnb120 := NB233_235.out
                  have hnc120 := NB235_233.out
                  have hcz121_0 : w118.cell? ⟨gb233, 0, none⟩ = some (.string a0_0) := (blk_cell BK233.out 0).trans rfl
                  have hcz121_1 : w118.cell? ⟨gb233, 1, none⟩ = some (.string a0_1) := (blk_cell BK233.out 1).trans rfl
                  have hcz121_2 : w118.cell? ⟨gb233, 2, none⟩ = some (.string a0_2) := (blk_cell BK233.out 2).trans rfl
                  have hfz121_0 := blk_frozen BK233.out 0
                  have hfz121_1 := blk_frozen BK233.out 1
                  have hfz121_2 := blk_frozen BK233.out 2
                  have hnb122 := NB234_235.out
                  have hnc122 := NB235_234.out
                  have hcz123_0 : w118.cell? ⟨gb234, 0, none⟩ = some (.string x235000_44) := (blk_cell BK234.out 0).trans rfl
                  have hcz123_1 : w118.cell? ⟨gb234, 1, none⟩ = some (.string a1_1) := (blk_cell BK234.out 1).trans rfl
                  have hcz123_2 : w118.cell? ⟨gb234, 2, none⟩ = some (.string x235002_37) := (blk_cell BK234.out 2).trans rfl
                  have hfz123_0 := blk_frozen BK234.out 0
                  have hfz123_1 := blk_frozen BK234.out 1
                  have hfz123_2 := blk_frozen BK234.out 2
                  try go_wp2_with (first | ((with_reducible refine gate_callee (f := 26) rfl ?_); refine goesL_ (some 52) rfl rfl Try.func26 (by kernel_rfl) rfl #[.agg #[.string a0_0, .string a0_1, .string a0_2], .agg #[.string x235000_44, .string a1_1, .string x235002_37]] rfl (by (try simp only [List.map_toArray, List.map_cons, List.map_nil]); first | done | rfl | (simp only [List.length_drop, List.length_take]; rfl)) ?_; (with_reducible refine (kerbsuiteref1_Compare.calls a0_0 a0_1 a0_2 x235000_44 a1_1 x235002_37 t243 _ A62.out).mono ?_); rintro e w124 ⟨rfl, hb⟩; refine ⟨_, rfl, ?_⟩; have n0_ := Aside0.mk (blk_below (g := gb233) (o := .cells #[.string a0_0, .string a0_1, .string a0_2] 23 (0, 0)) (by (with_reducible repeat (first | refine blk_drewN ?_ _ | refine blk_drew ?_ | refine blk_alloc ?_ _)); exact BK233.out) hb); have n1_ := Aside0.mk (blk_below (g := gb234) (o := .cells #[.string x235000_44, .string a1_1, .string x235002_37] 23 (0, 0)) (by (with_reducible repeat (first | refine blk_drewN ?_ _ | refine blk_drew ?_ | refine blk_alloc ?_ _)); exact BK234.out) hb); have n2_ := Aside0.mk (blk_below (g := gb235) (o := .cells #[.string x236000_51, .string x236001_51, .string x236002_51] 23 (0, 0)) (by (with_reducible repeat (first | refine blk_drewN ?_ _ | refine blk_drew ?_ | refine blk_alloc ?_ _)); exact BK235.out) hb); have n3_ := Aside0.mk (below_step (by repeat (first | (with_reducible first | exact HB.out | apply below_alloc | apply pw_below_drewN | apply below_drew1 | refine below_set ?_ GE233.out | refine below_set ?_ GE234.out | refine below_set ?_ GE235.out) | exact HB.out)) hb); clear BK233; clear BK234; clear BK235; clear HB; have BK233 := n0_; have BK234 := n1_; have BK235 := n2_; have HB := n3_; clear n0_ n1_ n2_ n3_; (try clear hb); (try clear hb2); (try clear hk); (try clear hi); have hcz125_0 : w124.cell? ⟨gb234, 0, none⟩ = some (.string x235000_44) := (blk_cell BK234.out 0).trans rfl; have hcz125_1 : w124.cell? ⟨gb234, 1, none⟩ = some (.string a1_1) := (blk_cell BK234.out 1).trans rfl; have hcz125_2 : w124.cell? ⟨gb234, 2, none⟩ = some (.string x235002_37) := (blk_cell BK234.out 2).trans rfl; have hfz125_0 := blk_frozen BK234.out 0; have hfz125_1 := blk_frozen BK234.out 1; have hfz125_2 := blk_frozen BK234.out 2; have hcz126_0 : w124.cell? ⟨gb235, 0, none⟩ = some (.string x236000_51) := (blk_cell BK235.out 0).trans rfl; have hcz126_1 : w124.cell? ⟨gb235, 1, none⟩ = some (.string x236001_51) := (blk_cell BK235.out 1).trans rfl; have hcz126_2 : w124.cell? ⟨gb235, 2, none⟩ = some (.string x236002_51) := (blk_cell BK235.out 2).trans rfl; have hfz126_0 := blk_frozen BK235.out 0; have hfz126_1 := blk_frozen BK235.out 1; have hfz126_2 := blk_frozen BK235.out 2) | (go_at_call 26; (with_reducible refine (kerbsuiteref1_Compare.calls x235000_44 a1_1 x235002_37 x236000_51 x236001_51 x236002_51 t244 _ A64.out).mono ?_); rintro e w127 ⟨rfl, hb⟩; have n0_ := Aside0.mk (blk_below (g := gb233) (o := .cells #[.string a0_0, .string a0_1, .string a0_2] 23 (0, 0)) (by (with_reducible repeat (first | refine blk_drewN ?_ _ | refine blk_drew ?_ | refine blk_alloc ?_ _)); exact BK233.out) hb); have n1_ := Aside0.mk (blk_below (g := gb234) (o := .cells #[.string x235000_44, .string a1_1, .string x235002_37] 23 (0, 0)) (by (with_reducible repeat (first | refine blk_drewN ?_ _ | refine blk_drew ?_ | refine blk_alloc ?_ _)); exact BK234.out) hb); have n2_ := Aside0.mk (blk_below (g := gb235) (o := .cells #[.string x236000_51, .string x236001_51, .string x236002_51] 23 (0, 0)) (by (with_reducible repeat (first | refine blk_drewN ?_ _ | refine blk_drew ?_ | refine blk_alloc ?_ _)); exact BK235.out) hb); have n3_ := Aside0.mk (below_step (by repeat (first | (with_reducible first | exact HB.out | apply below_alloc | apply pw_below_drewN | apply below_drew1 | refine below_set ?_ GE233.out | refine below_set ?_ GE234.out | refine below_set ?_ GE235.out) | exact HB.out)) hb); clear BK233; clear BK234; clear BK235; clear HB; have BK233 := n0_; have BK234 := n1_; have BK235 := n2_; have HB := n3_; clear n0_ n1_ n2_ n3_; (try clear hb); (try clear hb2); (try clear hk); (try clear hi); have hcz128_0 : w127.cell? ⟨gb233, 0, none⟩ = some (.string a0_0) := (blk_cell BK233.out 0).trans rfl; have hcz128_1 : w127.cell? ⟨gb233, 1, none⟩ = some (.string a0_1) := (blk_cell BK233.out 1).trans rfl; have hcz128_2 : w127.cell? ⟨gb233, 2, none⟩ = some (.string a0_2) := (blk_cell BK233.out 2).trans rfl; have hfz128_0 := blk_frozen BK233.out 0; have hfz128_1 := blk_frozen BK233.out 1; have hfz128_2 := blk_frozen BK233.out 2; have hcz129_0 : w127.cell? ⟨gb235, 0, none⟩ = some (.string x236000_51) := (blk_cell BK235.out 0).trans rfl; have hcz129_1 : w127.cell? ⟨gb235, 1, none⟩ = some (.string x236001_51) := (blk_cell BK235.out 1).trans rfl; have hcz129_2 : w127.cell? ⟨gb235, 2, none⟩ = some (.string x236002_51) := (blk_cell BK235.out 2).trans rfl; have hfz129_0 := blk_frozen BK235.out 0; have hfz129_1 := blk_frozen BK235.out 1; have hfz129_2 := blk_frozen BK235.out 2) | (go_at_call 26; (with_reducible refine (kerbsuiteref1_Compare.calls a0_0 a0_1 a0_2 x236000_51 x236001_51 x236002_51 t245 _ A66.out).mono ?_); rintro e w130 ⟨rfl, hb⟩; have n0_ := Aside0.mk (blk_below (g := gb233) (o := .cells #[.string a0_0, .string a0_1, .string a0_2] 23 (0, 0)) (by (with_reducible repeat (first | refine blk_drewN ?_ _ | refine blk_drew ?_ | refine blk_alloc ?_ _)); exact BK233.out) hb); have n1_ := Aside0.mk (blk_below (g := gb234) (o := .cells #[.string x235000_44, .string a1_1, .string x235002_37] 23 (0, 0)) (by (with_reducible repeat (first | refine blk_drewN ?_ _ | refine blk_drew ?_ | refine blk_alloc ?_ _)); exact BK234.out) hb); have n2_ := Aside0.mk (blk_below (g := gb235) (o := .cells #[.string x236000_51, .string x236001_51, .string x236002_51] 23 (0, 0)) (by (with_reducible repeat (first | refine blk_drewN ?_ _ | refine blk_drew ?_ | refine blk_alloc ?_ _)); exact BK235.out) hb); have n3_ := Aside0.mk (below_step (by repeat (first | (with_reducible first | exact HB.out | apply below_alloc | apply pw_below_drewN | apply below_drew1 | refine below_set ?_ GE233.out | refine below_set ?_ GE234.out | refine below_set ?_ GE235.out) | exact HB.out)) hb); clear BK233; clear BK234; clear BK235; clear HB; have BK233 := n0_; have BK234 := n1_; have BK235 := n2_; have HB := n3_; clear n0_ n1_ n2_ n3_; (try clear hb); (try clear hb2); (try clear hk); (try clear hi); have hcz131_0 : w130.cell? ⟨gb234, 0, none⟩ = some (.string x235000_44) := (blk_cell BK234.out 0).trans rfl; have hcz131_1 : w130.cell? ⟨gb234, 1, none⟩ = some (.string a1_1) := (blk_cell BK234.out 1).trans rfl; have hcz131_2 : w130.cell? ⟨gb234, 2, none⟩ = some (.string x235002_37) := (blk_cell BK234.out 2).trans rfl; have hfz131_0 := blk_frozen BK234.out 0; have hfz131_1 := blk_frozen BK234.out 1; have hfz131_2 := blk_frozen BK234.out 2; have hcz132_0 : w130.cell? ⟨gb233, 0, none⟩ = some (.string a0_0) := (blk_cell BK233.out 0).trans rfl; have hcz132_1 : w130.cell? ⟨gb233, 1, none⟩ = some (.string a0_1) := (blk_cell BK233.out 1).trans rfl; have hcz132_2 : w130.cell? ⟨gb233, 2, none⟩ = some (.string a0_2) := (blk_cell BK233.out 2).trans rfl; have hfz132_0 := blk_frozen BK233.out 0; have hfz132_1 := blk_frozen BK233.out 1; have hfz132_2 := blk_frozen BK233.out 2) | (go_at_call 25; (with_reducible refine (principal_Compare.calls x235000_44 a1_1 x235002_37 a0_0 a0_1 a0_2 t246 _ A68.out).mono ?_); rintro e w133 ⟨rfl, hb⟩; have n0_ := Aside0.mk (blk_below (g := gb233) (o := .cells #[.string a0_0, .string a0_1, .string a0_2] 23 (0, 0)) (by (with_reducible repeat (first | refine blk_drewN ?_ _ | refine blk_drew ?_ | refine blk_alloc ?_ _)); exact BK233.out) hb); have n1_ := Aside0.mk (blk_below (g := gb234) (o := .cells #[.string x235000_44, .string a1_1, .string x235002_37] 23 (0, 0)) (by (with_reducible repeat (first | refine blk_drewN ?_ _ | refine blk_drew ?_ | refine blk_alloc ?_ _)); exact BK234.out) hb); have n2_ := Aside0.mk (blk_below (g := gb235) (o := .cells #[.string x236000_51, .string x236001_51, .string x236002_51] 23 (0, 0)) (by (with_reducible repeat (first | refine blk_drewN ?_ _ | refine blk_drew ?_ | refine blk_alloc ?_ _)); exact BK235.out) hb); have n3_ := Aside0.mk (below_step (by repeat (first | (with_reducible first | exact HB.out | apply below_alloc | apply pw_below_drewN | apply below_drew1 | refine below_set ?_ GE233.out | refine below_set ?_ GE234.out | refine below_set ?_ GE235.out) | exact HB.out)) hb); clear BK233; clear BK234; clear BK235; clear HB; have BK233 := n0_; have BK234 := n1_; have BK235 := n2_; have HB := n3_; clear n0_ n1_ n2_ n3_; (try clear hb); (try clear hb2); (try clear hk); (try clear hi); have hcz134_0 : w133.cell? ⟨gb233, 0, none⟩ = some (.string a0_0) := (blk_cell BK233.out 0).trans rfl; have hcz134_1 : w133.cell? ⟨gb233, 1, none⟩ = some (.string a0_1) := (blk_cell BK233.out 1).trans rfl; have hcz134_2 : w133.cell? ⟨gb233, 2, none⟩ = some (.string a0_2) := (blk_cell BK233.out 2).trans rfl; have hfz134_0 := blk_frozen BK233.out 0; have hfz134_1 := blk_frozen BK233.out 1; have hfz134_2 := blk_frozen BK233.out 2; have hcz135_0 : w133.cell? ⟨gb234, 0, none⟩ = some (.string x235000_44) := (blk_cell BK234.out 0).trans rfl; have hcz135_1 : w133.cell? ⟨gb234, 1, none⟩ = some (.string a1_1) := (blk_cell BK234.out 1).trans rfl; have hcz135_2 : w133.cell? ⟨gb234, 2, none⟩ = some (.string x235002_37) := (blk_cell BK234.out 2).trans rfl; have hfz135_0 := blk_frozen BK234.out 0; have hfz135_1 := blk_frozen BK234.out 1; have hfz135_2 := blk_frozen BK234.out 2))
                  go_ret
                  exact ⟨by first | rfl | (simp [errW_none, errW_some] <;> rfl) | (simp [*, errW_none, errW_some] <;> rfl), by repeat (first | (with_reducible first | exact HB.out | apply below_alloc | apply pw_below_drewN | apply below_drew1 | refine below_set ?_ GE233.out | refine below_set ?_ GE234.out | refine below_set ?_ GE235.out) | exact HB.out)⟩
                 ·rw [if_neg c114] at H
                  have c114b0 : decide (0 < t241) = false := decide_eq_false c114
                  clear c114
                  obtain rfl := Option.some.inj H
                  try go_wp2
                  have n0_ := Aside0.mk (blk_drew BK233.out)
                  have n1_ := Aside0.mk (blk_drew BK234.out)
                  have n2_ := Aside0.mk (blk_drew BK235.out)
                  have n3_ := Aside0.mk (below_drew1 HB.out)
                  clear BK233
                  clear BK234
                  clear BK235
                  clear HB
                  have BK233 := n0_
                  have BK234 := n1_
                  have BK235 := n2_
                  have HB := n3_
                  clear n0_ n1_ n2_ n3_
                  refine start_ (n := 12) (S := fun w' => w'.cell? ⟨gb233, 0, none⟩ = some (.string a0_0) ∧ w'.cell? ⟨gb233, 1, none⟩ = some (.string a0_1) ∧ w'.cell? ⟨gb233, 2, none⟩ = some (.string a0_2) ∧ w'.cell? ⟨gb234, 0, none⟩ = some (.string x235000_44) ∧ w'.cell? ⟨gb234, 1, none⟩ = some (.string a1_1) ∧ w'.cell? ⟨gb234, 2, none⟩ = some (.string x235002_37) ∧ w'.cell? ⟨gb235, 0, none⟩ = some (.string x236000_51) ∧ w'.cell? ⟨gb235, 1, none⟩ = some (.string x236001_51) ∧ w'.cell? ⟨gb235, 2, none⟩ = some (.string x236002_51)) (ds := []) #[false,false,false,false,false,false,false,false,false,false,false,false] (by kernel_rfl) rfl rfl ⟨(blk_cell BK233.out 0).trans rfl, (blk_cell BK233.out 1).trans rfl, (blk_cell BK233.out 2).trans rfl, (blk_cell BK234.out 0).trans rfl, (blk_cell BK234.out 1).trans rfl, (blk_cell BK234.out 2).trans rfl, (blk_cell BK235.out 0).trans rfl, (blk_cell BK235.out 1).trans rfl, (blk_cell BK235.out 2).trans rfl⟩ (fun hHeld => ?_); refine with_tabW kerbsuitelaw1_PrincipalOrder.tab11 kerbsuitelaw1_PrincipalOrder.bits11 (fun HT_ HW_ => ?_)
                  generalize wc.drew = w136 at BK233 BK234 BK235 HB hHeld ⊢
                  refine take_ (i := 0) (N := some 40) (v := ?_) (a' := ?_) (bo_ 12 1) rfl rfl (take_ofW HT_.out HW_.out (by kernel_rfl)) (fun _ _ _ h => h) (Or.inl ⟨by rfl, ?_⟩) hHeld ?_ ?_
                  rotate_left; (· rintro w' ⟨s0, s1, s2, s3, s4, s5, s6, s7, s8⟩; go_simp; with_reducible rfl)
                  rotate_left; (· simp only [Act.put,List.setIfInBounds_toArray,List.set_cons_zero,List.set_cons_succ,i64_w,i32_w]; rfl)
                  refine take_ (i := 1) (N := some 41) (v := ?_) (a' := ?_) (bo_ 12 3) rfl rfl (take_ofW HT_.out HW_.out (by kernel_rfl)) (fun _ _ _ h => h) (Or.inl ⟨by rfl, ?_⟩) hHeld ?_ ?_
                  rotate_left; (· rintro w' ⟨s0, s1, s2, s3, s4, s5, s6, s7, s8⟩; go_simp; with_reducible rfl)
                  rotate_left; (· simp only [Act.put,List.setIfInBounds_toArray,List.set_cons_zero,List.set_cons_succ,i64_w,i32_w]; rfl)
                  refine take_ (i := 3) (N := some 43) (v := ?_) (a' := ?_) (bo_ 12 11) rfl rfl (take_ofW HT_.out HW_.out (by kernel_rfl)) (fun _ _ _ h => h) (Or.inl ⟨by rfl, ?_⟩) hHeld ?_ ?_
                  rotate_left; (· rintro w' ⟨s0, s1, s2, s3, s4, s5, s6, s7, s8⟩; go_simp; with_reducible rfl)
                  rotate_left; (· simp only [Act.put,List.setIfInBounds_toArray,List.set_cons_zero,List.set_cons_succ,i64_w,i32_w]; rfl)
                  refine take_ (i := 4) (N := some 44) (v := ?_) (a' := ?_) (bo_ 12 27) rfl rfl (take_ofW HT_.out HW_.out (by kernel_rfl)) (fun _ _ _ h => h) (Or.inl ⟨by rfl, ?_⟩) hHeld ?_ ?_
                  rotate_left; (· rintro w' ⟨s0, s1, s2, s3, s4, s5, s6, s7, s8⟩; go_simp; with_reducible rfl)
                  rotate_left; (· simp only [Act.put,List.setIfInBounds_toArray,List.set_cons_zero,List.set_cons_succ,i64_w,i32_w]; rfl)
                  refine take_ (i := 6) (N := some 46) (v := ?_) (a' := ?_) (bo_ 12 91) rfl rfl (take_ofW HT_.out HW_.out (by kernel_rfl)) (fun _ _ _ h => h) (Or.inl ⟨by rfl, ?_⟩) hHeld ?_ ?_
                  rotate_left; (· rintro w' ⟨s0, s1, s2, s3, s4, s5, s6, s7, s8⟩; go_simp; with_reducible rfl)
                  rotate_left; (· simp only [Act.put,List.setIfInBounds_toArray,List.set_cons_zero,List.set_cons_succ,i64_w,i32_w]; rfl)
                  refine take_ (i := 7) (N := some 47) (v := ?_) (a' := ?_) (bo_ 12 219) rfl rfl (take_ofW HT_.out HW_.out (by kernel_rfl)) (fun _ _ _ h => h) (Or.inl ⟨by rfl, ?_⟩) hHeld ?_ ?_
                  rotate_left; (· rintro w' ⟨s0, s1, s2, s3, s4, s5, s6, s7, s8⟩; go_simp; with_reducible rfl)
                  rotate_left; (· simp only [Act.put,List.setIfInBounds_toArray,List.set_cons_zero,List.set_cons_succ,i64_w,i32_w]; rfl)
                  refine one_ (i := 2) (N := some 42) (bo_ 12 223) rfl rfl (one_of HT_.out (by kernel_rfl)) (by decide) (fun K hK => ?_)
                  refine goes_ Try.func25 (by kernel_rfl) rfl #[.agg #[.string a0_0, .string a0_1, .string a0_2], .agg #[.string x235000_44, .string a1_1, .string x235002_37]] (by rfl) rfl rfl (by (try simp only [List.map_toArray, List.map_cons, List.map_nil]); first | done | rfl | (simp only [List.length_drop, List.length_take]; rfl)) ?_
                  with_reducible refine (principal_Compare.calls a0_0 a0_1 a0_2 x235000_44 a1_1 x235002_37 t240 _ A59.out).mono ?_
                  rintro e w137 ⟨rfl, hb⟩
                  refine ⟨_, rfl, ?_⟩
                  have n0_ := Aside0.mk (blk_below (g := gb233) (o := .cells #[.string a0_0, .string a0_1, .string a0_2] 23 (0, 0)) (by (with_reducible repeat (first | refine blk_drewN ?_ _ | refine blk_drew ?_ | refine blk_alloc ?_ _)); exact BK233.out) hb)
                  have n1_ := Aside0.mk (blk_below (g := gb234) (o := .cells #[.string x235000_44, .string a1_1, .string x235002_37] 23 (0, 0)) (by (with_reducible repeat (first | refine blk_drewN ?_ _ | refine blk_drew ?_ | refine blk_alloc ?_ _)); exact BK234.out) hb)
                  have n2_ := Aside0.mk (blk_below (g := gb235) (o := .cells #[.string x236000_51, .string x236001_51, .string x236002_51] 23 (0, 0)) (by (with_reducible repeat (first | refine blk_drewN ?_ _ | refine blk_drew ?_ | refine blk_alloc ?_ _)); exact BK235.out) hb)
                  have n3_ := Aside0.mk (below_step (by repeat (first | (with_reducible first | exact HB.out | apply below_alloc | apply pw_below_drewN | apply below_drew1 | refine below_set ?_ GE233.out | refine below_set ?_ GE234.out | refine below_set ?_ GE235.out) | exact HB.out)) hb)
                  clear BK233
                  clear BK234
                  clear BK235
                  clear HB
                  have BK233 := n0_
                  have BK234 := n1_
                  have BK235 := n2_
                  have HB := n3_
                  clear n0_ n1_ n2_ n3_
                  (try clear hb)
                  (try clear hb2)
                  (try clear hk)
                  (try clear hi)
                  refine hK.out _ _ ⟨(blk_cell BK233.out 0).trans rfl, (blk_cell BK233.out 1).trans rfl, (blk_cell BK233.out 2).trans rfl, (blk_cell BK234.out 0).trans rfl, (blk_cell BK234.out 1).trans rfl, (blk_cell BK234.out 2).trans rfl, (blk_cell BK235.out 0).trans rfl, (blk_cell BK235.out 1).trans rfl, (blk_cell BK235.out 2).trans rfl⟩ (fun hHeld => ?_)
                  clear hK K
                  refine norm_ (a' := ?_) ?_ ?_
                  rotate_left; (· show Act.put _ (some 42) _ = _; simp only [Act.put,List.setIfInBounds_toArray,List.set_cons_zero,List.set_cons_succ,i64_w,i32_w]; rfl)
                  refine one_ (i := 5) (N := some 45) (bo_ 12 255) rfl rfl (one_of HT_.out (by kernel_rfl)) (by decide) (fun K hK => ?_)
                  refine goes_ Try.func25 (by kernel_rfl) rfl #[.agg #[.string x235000_44, .string a1_1, .string x235002_37], .agg #[.string x236000_51, .string x236001_51, .string x236002_51]] (by rfl) rfl rfl (by (try simp only [List.map_toArray, List.map_cons, List.map_nil]); first | done | rfl | (simp only [List.length_drop, List.length_take]; rfl)) ?_
                  with_reducible refine (principal_Compare.calls x235000_44 a1_1 x235002_37 x236000_51 x236001_51 x236002_51 t241 _ A60.out).mono ?_
                  rintro e w138 ⟨rfl, hb⟩
                  refine ⟨_, rfl, ?_⟩
                  have n0_ := Aside0.mk (blk_below (g := gb233) (o := .cells #[.string a0_0, .string a0_1, .string a0_2] 23 (0, 0)) (by (with_reducible repeat (first | refine blk_drewN ?_ _ | refine blk_drew ?_ | refine blk_alloc ?_ _)); exact BK233.out) hb)
                  have n1_ := Aside0.mk (blk_below (g := gb234) (o := .cells #[.string x235000_44, .string a1_1, .string x235002_37] 23 (0, 0)) (by (with_reducible repeat (first | refine blk_drewN ?_ _ | refine blk_drew ?_ | refine blk_alloc ?_ _)); exact BK234.out) hb)
                  have n2_ := Aside0.mk (blk_below (g := gb235) (o := .cells #[.string x236000_51, .string x236001_51, .string x236002_51] 23 (0, 0)) (by (with_reducible repeat (first | refine blk_drewN ?_ _ | refine blk_drew ?_ | refine blk_alloc ?_ _)); exact BK235.out) hb)
                  have n3_ := Aside0.mk (below_step (by repeat (first | (with_reducible first | exact HB.out | apply below_alloc | apply pw_below_drewN | apply below_drew1 | refine below_set ?_ GE233.out | refine below_set ?_ GE234.out | refine below_set ?_ GE235.out) | exact HB.out)) hb)
                  clear BK233
                  clear BK234
                  clear BK235
                  clear HB
                  have BK233 := n0_
                  have BK234 := n1_
                  have BK235 := n2_
                  have HB := n3_
                  clear n0_ n1_ n2_ n3_
                  (try clear hb)
                  (try clear hb2)
                  (try clear hk)
                  (try clear hi)
                  refine hK.out _ _ ⟨(blk_cell BK233.out 0).trans rfl, (blk_cell BK233.out 1).trans rfl, (blk_cell BK233.out 2).trans rfl, (blk_cell BK234.out 0).trans rfl, (blk_cell BK234.out 1).trans rfl, (blk_cell BK234.out 2).trans rfl, (blk_cell BK235.out 0).trans rfl, (blk_cell BK235.out 1).trans rfl, (blk_cell BK235.out 2).trans rfl⟩ (fun hHeld => ?_)
                  clear hK K
                  refine norm_ (a' := ?_) ?_ ?_
                  rotate_left; (· show Act.put _ (some 45) _ = _; simp only [Act.put,List.setIfInBounds_toArray,List.set_cons_zero,List.set_cons_succ,i64_w,i32_w]; rfl)
                  refine one_ (i := 8) (N := some 48) (bo_ 12 511) rfl rfl (one_of HT_.out (by kernel_rfl)) (by decide) (fun K hK => ?_)
                  refine goes_ Try.func25 (by kernel_rfl) rfl #[.agg #[.string a0_0, .string a0_1, .string a0_2], .agg #[.string x236000_51, .string x236001_51, .string x236002_51]] (by rfl) rfl rfl (by (try simp only [List.map_toArray, List.map_cons, List.map_nil]); first | done | rfl | (simp only [List.length_drop, List.length_take]; rfl)) ?_
                  with_reducible refine (principal_Compare.calls a0_0 a0_1 a0_2 x236000_51 x236001_51 x236002_51 t242 _ A61.out).mono ?_
                  rintro e w139 ⟨rfl, hb⟩
                  refine ⟨_, rfl, ?_⟩
                  have n0_ := Aside0.mk (blk_below (g := gb233) (o := .cells #[.string a0_0, .string a0_1, .string a0_2] 23 (0, 0)) (by (with_reducible repeat (first | refine blk_drewN ?_ _ | refine blk_drew ?_ | refine blk_alloc ?_ _)); exact BK233.out) hb)
                  have n1_ := Aside0.mk (blk_below (g := gb234) (o := .cells #[.string x235000_44, .string a1_1, .string x235002_37] 23 (0, 0)) (by (with_reducible repeat (first | refine blk_drewN ?_ _ | refine blk_drew ?_ | refine blk_alloc ?_ _)); exact BK234.out) hb)
                  have n2_ := Aside0.mk (blk_below (g := gb235) (o := .cells #[.string x236000_51, .string x236001_51, .string x236002_51] 23 (0, 0)) (by (with_reducible repeat (first | refine blk_drewN ?_ _ | refine blk_drew ?_ | refine blk_alloc ?_ _)); exact BK235.out) hb)
                  have n3_ := Aside0.mk (below_step (by repeat (first | (with_reducible first | exact HB.out | apply below_alloc | apply pw_below_drewN | apply below_drew1 | refine below_set ?_ GE233.out | refine below_set ?_ GE234.out | refine below_set ?_ GE235.out) | exact HB.out)) hb)
                  clear BK233
                  clear BK234
                  clear BK235
                  clear HB
                  have BK233 := n0_
                  have BK234 := n1_
                  have BK235 := n2_
                  have HB := n3_
                  clear n0_ n1_ n2_ n3_
                  (try clear hb)
                  (try clear hb2)
                  (try clear hk)
                  (try clear hi)
                  refine hK.out _ _ ⟨(blk_cell BK233.out 0).trans rfl, (blk_cell BK233.out 1).trans rfl, (blk_cell BK233.out 2).trans rfl, (blk_cell BK234.out 0).trans rfl, (blk_cell BK234.out 1).trans rfl, (blk_cell BK234.out 2).trans rfl, (blk_cell BK235.out 0).trans rfl, (blk_cell BK235.out 1).trans rfl, (blk_cell BK235.out 2).trans rfl⟩ (fun hHeld => ?_)
                  clear hK K
                  refine norm_ (a' := ?_) ?_ ?_
                  rotate_left; (· show Act.put _ (some 48) _ = _; simp only [Act.put,List.setIfInBounds_toArray,List.set_cons_zero,List.set_cons_succ,i64_w,i32_w]; rfl)
                  refine pure_ (i := 9) (N := some 9) (v := ?_) (a' := ?_) (bo_ 12 1023) rfl rfl (any_of HT_.out (by kernel_rfl)) (fun _ _ _ h => h) (Or.inl ⟨by rfl, ?_⟩) ?_ ?_
                  rotate_left; (· intro w'; go_simp; with_reducible rfl)
                  rotate_left; (· simp only [Act.put,List.setIfInBounds_toArray,List.set_cons_zero,List.set_cons_succ,i64_w,i32_w]; rfl)
                  refine pure_ (i := 10) (N := some 10) (v := ?_) (a' := ?_) (bo_ 12 2047) rfl rfl (any_of HT_.out (by kernel_rfl)) (fun _ _ _ h => h) (Or.inl ⟨by rfl, ?_⟩) ?_ ?_
                  rotate_left; (· intro w'; go_simp; with_reducible rfl)
                  rotate_left; (· simp only [Act.put,List.setIfInBounds_toArray,List.set_cons_zero,List.set_cons_succ,i64_w,i32_w]; rfl)
                  refine pure_ (i := 11) (N := some 11) (v := ?_) (a' := ?_) (bo_ 12 4095) rfl rfl (any_of HT_.out (by kernel_rfl)) (fun _ _ _ h => h) (Or.inl ⟨by rfl, ?_⟩) ?_ ?_
                  rotate_left; (· intro w'; go_simp; with_reducible rfl)
                  rotate_left; (· simp only [Act.put,List.setIfInBounds_toArray,List.set_cons_zero,List.set_cons_succ,i64_w,i32_w]; rfl)
                  refine done_ (done_of HT_.out (by kernel_rfl)) ?_
                  have hnb140 := NB233_234.out
                  have hnc140 := NB234_233.out
                  have hnb141 := NB233_235.out
                  have hnc141 := NB235_233.out
                  have hcz142_0 : w139.cell? ⟨gb233, 0, none⟩ = some (.string a0_0) := (blk_cell BK233.out 0).trans rfl
                  have hcz142_1 : w139.cell? ⟨gb233, 1, none⟩ = some (.string a0_1) := (blk_cell BK233.out 1).trans rfl
                  have hcz142_2 : w139.cell? ⟨gb233, 2, none⟩ = some (.string a0_2) := (blk_cell BK233.out 2).trans rfl
                  have hfz142_0 := blk_frozen BK233.out 0
                  have hfz142_1 := blk_frozen BK233.out 1
                  have hfz142_2 := blk_frozen BK233.out 2
                  have hnb143 := NB234_235.out
                  have hnc143 := NB235_234.out
                  have hcz144_0 : w139.cell? ⟨gb234, 0, none⟩ = some (.string x235000_44) := (blk_cell BK234.out 0).trans rfl
                  have hcz144_1 : w139.cell? ⟨gb234, 1, none⟩ = some (.string a1_1) := (blk_cell BK234.out 1).trans rfl
                  have hcz144_2 : w139.cell? ⟨gb234, 2, none⟩ = some (.string x235002_37) := (blk_cell BK234.out 2).trans rfl
                  have hfz144_0 := blk_frozen BK234.out 0
                  have hfz144_1 := blk_frozen BK234.out 1
                  have hfz144_2 := blk_frozen BK234.out 2
                  try go_wp2_with (first | ((with_reducible refine gate_callee (f := 26) rfl ?_); refine goesL_ (some 52) rfl rfl Try.func26 (by kernel_rfl) rfl #[.agg #[.string a0_0, .string a0_1, .string a0_2], .agg #[.string x235000_44, .string a1_1, .string x235002_37]] rfl (by (try simp only [List.map_toArray, List.map_cons, List.map_nil]); first | done | rfl | (simp only [List.length_drop, List.length_take]; rfl)) ?_; (with_reducible refine (kerbsuiteref1_Compare.calls a0_0 a0_1 a0_2 x235000_44 a1_1 x235002_37 t243 _ A62.out).mono ?_); rintro e w145 ⟨rfl, hb⟩; refine ⟨_, rfl, ?_⟩; have n0_ := Aside0.mk (blk_below (g := gb233) (o := .cells #[.string a0_0, .string a0_1, .string a0_2] 23 (0, 0)) (by (with_reducible repeat (first | refine blk_drewN ?_ _ | refine blk_drew ?_ | refine blk_alloc ?_ _)); exact BK233.out) hb); have n1_ := Aside0.mk (blk_below (g := gb234) (o := .cells #[.string x235000_44, .string a1_1, .string x235002_37] 23 (0, 0)) (by (with_reducible repeat (first | refine blk_drewN ?_ _ | refine blk_drew ?_ | refine blk_alloc ?_ _)); exact BK234.out) hb); have n2_ := Aside0.mk (blk_below (g := gb235) (o := .cells #[.string x236000_51, .string x236001_51, .string x236002_51] 23 (0, 0)) (by (with_reducible repeat (first | refine blk_drewN ?_ _ | refine blk_drew ?_ | refine blk_alloc ?_ _)); exact BK235.out) hb); have n3_ := Aside0.mk (below_step (by repeat (first | (with_reducible first | exact HB.out | apply below_alloc | apply pw_below_drewN | apply below_drew1 | refine below_set ?_ GE233.out | refine below_set ?_ GE234.out | refine below_set ?_ GE235.out) | exact HB.out)) hb); clear BK233; clear BK234; clear BK235; clear HB; have BK233 := n0_; have BK234 := n1_; have BK235 := n2_; have HB := n3_; clear n0_ n1_ n2_ n3_; (try clear hb); (try clear hb2); (try clear hk); (try clear hi); have hcz146_0 : w145.cell? ⟨gb234, 0, none⟩ = some (.string x235000_44) := (blk_cell BK234.out 0).trans rfl; have hcz146_1 : w145.cell? ⟨gb234, 1, none⟩ = some (.string a1_1) := (blk_cell BK234.out 1).trans rfl; have hcz146_2 : w145.cell? ⟨gb234, 2, none⟩ = some (.string x235002_37) := (blk_cell BK234.out 2).trans rfl; have hfz146_0 := blk_frozen BK234.out 0; have hfz146_1 := blk_frozen BK234.out 1; have hfz146_2 := blk_frozen BK234.out 2; have hcz147_0 : w145.cell? ⟨gb235, 0, none⟩ = some (.string x236000_51) := (blk_cell BK235.out 0).trans rfl; have hcz147_1 : w145.cell? ⟨gb235, 1, none⟩ = some (.string x236001_51) := (blk_cell BK235.out 1).trans rfl; have hcz147_2 : w145.cell? ⟨gb235, 2, none⟩ = some (.string x236002_51) := (blk_cell BK235.out 2).trans rfl; have hfz147_0 := blk_frozen BK235.out 0; have hfz147_1 := blk_frozen BK235.out 1; have hfz147_2 := blk_frozen BK235.out 2) | (go_at_call 26; (with_reducible refine (kerbsuiteref1_Compare.calls x235000_44 a1_1 x235002_37 x236000_51 x236001_51 x236002_51 t244 _ A64.out).mono ?_); rintro e w148 ⟨rfl, hb⟩; have n0_ := Aside0.mk (blk_below (g := gb233) (o := .cells #[.string a0_0, .string a0_1, .string a0_2] 23 (0, 0)) (by (with_reducible repeat (first | refine blk_drewN ?_ _ | refine blk_drew ?_ | refine blk_alloc ?_ _)); exact BK233.out) hb); have n1_ := Aside0.mk (blk_below (g := gb234) (o := .cells #[.string x235000_44, .string a1_1, .string x235002_37] 23 (0, 0)) (by (with_reducible repeat (first | refine blk_drewN ?_ _ | refine blk_drew ?_ | refine blk_alloc ?_ _)); exact BK234.out) hb); have n2_ := Aside0.mk (blk_below (g := gb235) (o := .cells #[.string x236000_51, .string x236001_51, .string x236002_51] 23 (0, 0)) (by (with_reducible repeat (first | refine blk_drewN ?_ _ | refine blk_drew ?_ | refine blk_alloc ?_ _)); exact BK235.out) hb); have n3_ := Aside0.mk (below_step (by repeat (first | (with_reducible first | exact HB.out | apply below_alloc | apply pw_below_drewN | apply below_drew1 | refine below_set ?_ GE233.out | refine below_set ?_ GE234.out | refine below_set ?_ GE235.out) | exact HB.out)) hb); clear BK233; clear BK234; clear BK235; clear HB; have BK233 := n0_; have BK234 := n1_; have BK235 := n2_; have HB := n3_; clear n0_ n1_ n2_ n3_; (try clear hb); (try clear hb2); (try clear hk); (try clear hi); have hcz149_0 : w148.cell? ⟨gb233, 0, none⟩ = some (.string a0_0) := (blk_cell BK233.out 0).trans rfl; have hcz149_1 : w148.cell? ⟨gb233, 1, none⟩ = some (.string a0_1) := (blk_cell BK233.out 1).trans rfl; have hcz149_2 : w148.cell? ⟨gb233, 2, none⟩ = some (.string a0_2) := (blk_cell BK233.out 2).trans rfl; have hfz149_0 := blk_frozen BK233.out 0; have hfz149_1 := blk_frozen BK233.out 1; have hfz149_2 := blk_frozen BK233.out 2; have hcz150_0 : w148.cell? ⟨gb235, 0, none⟩ = some (.string x236000_51) := (blk_cell BK235.out 0).trans rfl; have hcz150_1 : w148.cell? ⟨gb235, 1, none⟩ = some (.string x236001_51) := (blk_cell BK235.out 1).trans rfl; have hcz150_2 : w148.cell? ⟨gb235, 2, none⟩ = some (.string x236002_51) := (blk_cell BK235.out 2).trans rfl; have hfz150_0 := blk_frozen BK235.out 0; have hfz150_1 := blk_frozen BK235.out 1; have hfz150_2 := blk_frozen BK235.out 2) | (go_at_call 26; (with_reducible refine (kerbsuiteref1_Compare.calls a0_0 a0_1 a0_2 x236000_51 x236001_51 x236002_51 t245 _ A66.out).mono ?_); rintro e w151 ⟨rfl, hb⟩; have n0_ := Aside0.mk (blk_below (g := gb233) (o := .cells #[.string a0_0, .string a0_1, .string a0_2] 23 (0, 0)) (by (with_reducible repeat (first | refine blk_drewN ?_ _ | refine blk_drew ?_ | refine blk_alloc ?_ _)); exact BK233.out) hb); have n1_ := Aside0.mk (blk_below (g := gb234) (o := .cells #[.string x235000_44, .string a1_1, .string x235002_37] 23 (0, 0)) (by (with_reducible repeat (first | refine blk_drewN ?_ _ | refine blk_drew ?_ | refine blk_alloc ?_ _)); exact BK234.out) hb); have n2_ := Aside0.mk (blk_below (g := gb235) (o := .cells #[.string x236000_51, .string x236001_51, .string x236002_51] 23 (0, 0)) (by (with_reducible repeat (first | refine blk_drewN ?_ _ | refine blk_drew ?_ | refine blk_alloc ?_ _)); exact BK235.out) hb); have n3_ := Aside0.mk (below_step (by repeat (first | (with_reducible first | exact HB.out | apply below_alloc | apply pw_below_drewN | apply below_drew1 | refine below_set ?_ GE233.out | refine below_set ?_ GE234.out | refine below_set ?_ GE235.out) | exact HB.out)) hb); clear BK233; clear BK234; clear BK235; clear HB; have BK233 := n0_; have BK234 := n1_; have BK235 := n2_; have HB := n3_; clear n0_ n1_ n2_ n3_; (try clear hb); (try clear hb2); (try clear hk); (try clear hi); have hcz152_0 : w151.cell? ⟨gb234, 0, none⟩ = some (.string x235000_44) := (blk_cell BK234.out 0).trans rfl; have hcz152_1 : w151.cell? ⟨gb234, 1, none⟩ = some (.string a1_1) := (blk_cell BK234.out 1).trans rfl; have hcz152_2 : w151.cell? ⟨gb234, 2, none⟩ = some (.string x235002_37) := (blk_cell BK234.out 2).trans rfl; have hfz152_0 := blk_frozen BK234.out 0; have hfz152_1 := blk_frozen BK234.out 1; have hfz152_2 := blk_frozen BK234.out 2; have hcz153_0 : w151.cell? ⟨gb233, 0, none⟩ = some (.string a0_0) := (blk_cell BK233.out 0).trans rfl; have hcz153_1 : w151.cell? ⟨gb233, 1, none⟩ = some (.string a0_1) := (blk_cell BK233.out 1).trans rfl; have hcz153_2 : w151.cell? ⟨gb233, 2, none⟩ = some (.string a0_2) := (blk_cell BK233.out 2).trans rfl; have hfz153_0 := blk_frozen BK233.out 0; have hfz153_1 := blk_frozen BK233.out 1; have hfz153_2 := blk_frozen BK233.out 2) | (go_at_call 25; (with_reducible refine (principal_Compare.calls x235000_44 a1_1 x235002_37 a0_0 a0_1 a0_2 t246 _ A68.out).mono ?_); rintro e w154 ⟨rfl, hb⟩; have n0_ := Aside0.mk (blk_below (g := gb233) (o := .cells #[.string a0_0, .string a0_1, .string a0_2] 23 (0, 0)) (by (with_reducible repeat (first | refine blk_drewN ?_ _ | refine blk_drew ?_ | refine blk_alloc ?_ _)); exact BK233.out) hb); have n1_ := Aside0.mk (blk_below (g := gb234) (o := .cells #[.string x235000_44, .string a1_1, .string x235002_37] 23 (0, 0)) (by (with_reducible repeat (first | refine blk_drewN ?_ _ | refine blk_drew ?_ | refine blk_alloc ?_ _)); exact BK234.out) hb); have n2_ := Aside0.mk (blk_below (g := gb235) (o := .cells #[.string x236000_51, .string x236001_51, .string x236002_51] 23 (0, 0)) (by (with_reducible repeat (first | refine blk_drewN ?_ _ | refine blk_drew ?_ | refine blk_alloc ?_ _)); exact BK235.out) hb); have n3_ := Aside0.mk (below_step (by repeat (first | (with_reducible first | exact HB.out | apply below_alloc | apply pw_below_drewN | apply below_drew1 | refine below_set ?_ GE233.out | refine below_set ?_ GE234.out | refine below_set ?_ GE235.out) | exact HB.out)) hb); clear BK233; clear BK234; clear BK235; clear HB; have BK233 := n0_; have BK234 := n1_; have BK235 := n2_; have HB := n3_; clear n0_ n1_ n2_ n3_; (try clear hb); (try clear hb2); (try clear hk); (try clear hi); have hcz155_0 : w154.cell? ⟨gb233, 0, none⟩ = some (.string a0_0) := (blk_cell BK233.out 0).trans rfl; have hcz155_1 : w154.cell? ⟨gb233, 1, none⟩ = some (.string a0_1) := (blk_cell BK233.out 1).trans rfl; have hcz155_2 : w154.cell? ⟨gb233, 2, none⟩ = some (.string a0_2) := (blk_cell BK233.out 2).trans rfl; have hfz155_0 := blk_frozen BK233.out 0; have hfz155_1 := blk_frozen BK233.out 1; have hfz155_2 := blk_frozen BK233.out 2; have hcz156_0 : w154.cell? ⟨gb234, 0, none⟩ = some (.string x235000_44) := (blk_cell BK234.out 0).trans rfl; have hcz156_1 : w154.cell? ⟨gb234, 1, none⟩ = some (.string a1_1) := (blk_cell BK234.out 1).trans rfl; have hcz156_2 : w154.cell? ⟨gb234, 2, none⟩ = some (.string x235002_37) := (blk_cell BK234.out 2).trans rfl; have hfz156_0 := blk_frozen BK234.out 0; have hfz156_1 := blk_frozen BK234.out 1; have hfz156_2 := blk_frozen BK234.out 2))
                  go_ret
                  exact ⟨by first | rfl | (simp [errW_none, errW_some] <;> rfl) | (simp [*, errW_none, errW_some] <;> rfl), by repeat (first | (with_reducible first | exact HB.out | apply below_alloc | apply pw_below_drewN | apply below_drew1 | refine below_set ?_ GE233.out | refine below_set ?_ GE234.out | refine below_set ?_ GE235.out) | exact HB.out)⟩
              ·rw [if_neg c69] at H
               have c69b0 : (t246 == (wrap64 (-t240))) = false := beq_eq_false_iff_ne.mpr c69
               have c69b1 : (t246 != (wrap64 (-t240))) = true := bne_iff_ne.mpr c69
               obtain rfl := Option.some.inj H
               try go_wp2
               have n0_ := Aside0.mk (blk_drew BK233.out)
               have n1_ := Aside0.mk (blk_drew BK234.out)
               have n2_ := Aside0.mk (blk_drew BK235.out)
               have n3_ := Aside0.mk (below_drew1 HB.out)
               clear BK233
               clear BK234
               clear BK235
               clear HB
               have BK233 := n0_
               have BK234 := n1_
               have BK235 := n2_
               have HB := n3_
               clear n0_ n1_ n2_ n3_
               refine start_ (n := 12) (S := fun w' => w'.cell? ⟨gb233, 0, none⟩ = some (.string a0_0) ∧ w'.cell? ⟨gb233, 1, none⟩ = some (.string a0_1) ∧ w'.cell? ⟨gb233, 2, none⟩ = some (.string a0_2) ∧ w'.cell? ⟨gb234, 0, none⟩ = some (.string x235000_44) ∧ w'.cell? ⟨gb234, 1, none⟩ = some (.string a1_1) ∧ w'.cell? ⟨gb234, 2, none⟩ = some (.string x235002_37) ∧ w'.cell? ⟨gb235, 0, none⟩ = some (.string x236000_51) ∧ w'.cell? ⟨gb235, 1, none⟩ = some (.string x236001_51) ∧ w'.cell? ⟨gb235, 2, none⟩ = some (.string x236002_51)) (ds := []) #[false,false,false,false,false,false,false,false,false,false,false,false] (by kernel_rfl) rfl rfl ⟨(blk_cell BK233.out 0).trans rfl, (blk_cell BK233.out 1).trans rfl, (blk_cell BK233.out 2).trans rfl, (blk_cell BK234.out 0).trans rfl, (blk_cell BK234.out 1).trans rfl, (blk_cell BK234.out 2).trans rfl, (blk_cell BK235.out 0).trans rfl, (blk_cell BK235.out 1).trans rfl, (blk_cell BK235.out 2).trans rfl⟩ (fun hHeld => ?_); refine with_tabW kerbsuitelaw1_PrincipalOrder.tab11 kerbsuitelaw1_PrincipalOrder.bits11 (fun HT_ HW_ => ?_)
               generalize wc.drew = w157 at BK233 BK234 BK235 HB hHeld ⊢
               refine take_ (i := 0) (N := some 40) (v := ?_) (a' := ?_) (bo_ 12 1) rfl rfl (take_ofW HT_.out HW_.out (by kernel_rfl)) (fun _ _ _ h => h) (Or.inl ⟨by rfl, ?_⟩) hHeld ?_ ?_
               rotate_left; (· rintro w' ⟨s0, s1, s2, s3, s4, s5, s6, s7, s8⟩; go_simp; with_reducible rfl)
               rotate_left; (· simp only [Act.put,List.setIfInBounds_toArray,List.set_cons_zero,List.set_cons_succ,i64_w,i32_w]; rfl)
               refine take_ (i := 1) (N := some 41) (v := ?_) (a' := ?_) (bo_ 12 3) rfl rfl (take_ofW HT_.out HW_.out (by kernel_rfl)) (fun _ _ _ h => h) (Or.inl ⟨by rfl, ?_⟩) hHeld ?_ ?_
               rotate_left; (· rintro w' ⟨s0, s1, s2, s3, s4, s5, s6, s7, s8⟩; go_simp; with_reducible rfl)
               rotate_left; (· simp only [Act.put,List.setIfInBounds_toArray,List.set_cons_zero,List.set_cons_succ,i64_w,i32_w]; rfl)
               refine take_ (i := 3) (N := some 43) (v := ?_) (a' := ?_) (bo_ 12 11) rfl rfl (take_ofW HT_.out HW_.out (by kernel_rfl)) (fun _ _ _ h => h) (Or.inl ⟨by rfl, ?_⟩) hHeld ?_ ?_
               rotate_left; (· rintro w' ⟨s0, s1, s2, s3, s4, s5, s6, s7, s8⟩; go_simp; with_reducible rfl)
               rotate_left; (· simp only [Act.put,List.setIfInBounds_toArray,List.set_cons_zero,List.set_cons_succ,i64_w,i32_w]; rfl)
               refine take_ (i := 4) (N := some 44) (v := ?_) (a' := ?_) (bo_ 12 27) rfl rfl (take_ofW HT_.out HW_.out (by kernel_rfl)) (fun _ _ _ h => h) (Or.inl ⟨by rfl, ?_⟩) hHeld ?_ ?_
               rotate_left; (· rintro w' ⟨s0, s1, s2, s3, s4, s5, s6, s7, s8⟩; go_simp; with_reducible rfl)
               rotate_left; (· simp only [Act.put,List.setIfInBounds_toArray,List.set_cons_zero,List.set_cons_succ,i64_w,i32_w]; rfl)
               refine take_ (i := 6) (N := some 46) (v := ?_) (a' := ?_) (bo_ 12 91) rfl rfl (take_ofW HT_.out HW_.out (by kernel_rfl)) (fun _ _ _ h => h) (Or.inl ⟨by rfl, ?_⟩) hHeld ?_ ?_
               rotate_left; (· rintro w' ⟨s0, s1, s2, s3, s4, s5, s6, s7, s8⟩; go_simp; with_reducible rfl)
               rotate_left; (· simp only [Act.put,List.setIfInBounds_toArray,List.set_cons_zero,List.set_cons_succ,i64_w,i32_w]; rfl)
               refine take_ (i := 7) (N := some 47) (v := ?_) (a' := ?_) (bo_ 12 219) rfl rfl (take_ofW HT_.out HW_.out (by kernel_rfl)) (fun _ _ _ h => h) (Or.inl ⟨by rfl, ?_⟩) hHeld ?_ ?_
               rotate_left; (· rintro w' ⟨s0, s1, s2, s3, s4, s5, s6, s7, s8⟩; go_simp; with_reducible rfl)
               rotate_left; (· simp only [Act.put,List.setIfInBounds_toArray,List.set_cons_zero,List.set_cons_succ,i64_w,i32_w]; rfl)
               refine one_ (i := 2) (N := some 42) (bo_ 12 223) rfl rfl (one_of HT_.out (by kernel_rfl)) (by decide) (fun K hK => ?_)
               refine goes_ Try.func25 (by kernel_rfl) rfl #[.agg #[.string a0_0, .string a0_1, .string a0_2], .agg #[.string x235000_44, .string a1_1, .string x235002_37]] (by rfl) rfl rfl (by (try simp only [List.map_toArray, List.map_cons, List.map_nil]); first | done | rfl | (simp only [List.length_drop, List.length_take]; rfl)) ?_
               with_reducible refine (principal_Compare.calls a0_0 a0_1 a0_2 x235000_44 a1_1 x235002_37 t240 _ A59.out).mono ?_
               rintro e w158 ⟨rfl, hb⟩
               refine ⟨_, rfl, ?_⟩
               have n0_ := Aside0.mk (blk_below (g := gb233) (o := .cells #[.string a0_0, .string a0_1, .string a0_2] 23 (0, 0)) (by (with_reducible repeat (first | refine blk_drewN ?_ _ | refine blk_drew ?_ | refine blk_alloc ?_ _)); exact BK233.out) hb)
               have n1_ := Aside0.mk (blk_below (g := gb234) (o := .cells #[.string x235000_44, .string a1_1, .string x235002_37] 23 (0, 0)) (by (with_reducible repeat (first | refine blk_drewN ?_ _ | refine blk_drew ?_ | refine blk_alloc ?_ _)); exact BK234.out) hb)
               have n2_ := Aside0.mk (blk_below (g := gb235) (o := .cells #[.string x236000_51, .string x236001_51, .string x236002_51] 23 (0, 0)) (by (with_reducible repeat (first | refine blk_drewN ?_ _ | refine blk_drew ?_ | refine blk_alloc ?_ _)); exact BK235.out) hb)
               have n3_ := Aside0.mk (below_step (by repeat (first | (with_reducible first | exact HB.out | apply below_alloc | apply pw_below_drewN | apply below_drew1 | refine below_set ?_ GE233.out | refine below_set ?_ GE234.out | refine below_set ?_ GE235.out) | exact HB.out)) hb)
               clear BK233
               clear BK234
               clear BK235
               clear HB
               have BK233 := n0_
               have BK234 := n1_
               have BK235 := n2_
               have HB := n3_
               clear n0_ n1_ n2_ n3_
               (try clear hb)
               (try clear hb2)
               (try clear hk)
               (try clear hi)
               refine hK.out _ _ ⟨(blk_cell BK233.out 0).trans rfl, (blk_cell BK233.out 1).trans rfl, (blk_cell BK233.out 2).trans rfl, (blk_cell BK234.out 0).trans rfl, (blk_cell BK234.out 1).trans rfl, (blk_cell BK234.out 2).trans rfl, (blk_cell BK235.out 0).trans rfl, (blk_cell BK235.out 1).trans rfl, (blk_cell BK235.out 2).trans rfl⟩ (fun hHeld => ?_)
               clear hK K
               refine norm_ (a' := ?_) ?_ ?_
               rotate_left; (· show Act.put _ (some 42) _ = _; simp only [Act.put,List.setIfInBounds_toArray,List.set_cons_zero,List.set_cons_succ,i64_w,i32_w]; rfl)
               refine one_ (i := 5) (N := some 45) (bo_ 12 255) rfl rfl (one_of HT_.out (by kernel_rfl)) (by decide) (fun K hK => ?_)
               refine goes_ Try.func25 (by kernel_rfl) rfl #[.agg #[.string x235000_44, .string a1_1, .string x235002_37], .agg #[.string x236000_51, .string x236001_51, .string x236002_51]] (by rfl) rfl rfl (by (try simp only [List.map_toArray, List.map_cons, List.map_nil]); first | done | rfl | (simp only [List.length_drop, List.length_take]; rfl)) ?_
               with_reducible refine (principal_Compare.calls x235000_44 a1_1 x235002_37 x236000_51 x236001_51 x236002_51 t241 _ A60.out).mono ?_
               rintro e w159 ⟨rfl, hb⟩
               refine ⟨_, rfl, ?_⟩
               have n0_ := Aside0.mk (blk_below (g := gb233) (o := .cells #[.string a0_0, .string a0_1, .string a0_2] 23 (0, 0)) (by (with_reducible repeat (first | refine blk_drewN ?_ _ | refine blk_drew ?_ | refine blk_alloc ?_ _)); exact BK233.out) hb)
               have n1_ := Aside0.mk (blk_below (g := gb234) (o := .cells #[.string x235000_44, .string a1_1, .string x235002_37] 23 (0, 0)) (by (with_reducible repeat (first | refine blk_drewN ?_ _ | refine blk_drew ?_ | refine blk_alloc ?_ _)); exact BK234.out) hb)
               have n2_ := Aside0.mk (blk_below (g := gb235) (o := .cells #[.string x236000_51, .string x236001_51, .string x236002_51] 23 (0, 0)) (by (with_reducible repeat (first | refine blk_drewN ?_ _ | refine blk_drew ?_ | refine blk_alloc ?_ _)); exact BK235.out) hb)
               have n3_ := Aside0.mk (below_step (by repeat (first | (with_reducible first | exact HB.out | apply below_alloc | apply pw_below_drewN | apply below_drew1 | refine below_set ?_ GE233.out | refine below_set ?_ GE234.out | refine below_set ?_ GE235.out) | exact HB.out)) hb)
               clear BK233
               clear BK234
               clear BK235
               clear HB
               have BK233 := n0_
               have BK234 := n1_
               have BK235 := n2_
               have HB := n3_
               clear n0_ n1_ n2_ n3_
               (try clear hb)
               (try clear hb2)
               (try clear hk)
               (try clear hi)
               refine hK.out _ _ ⟨(blk_cell BK233.out 0).trans rfl, (blk_cell BK233.out 1).trans rfl, (blk_cell BK233.out 2).trans rfl, (blk_cell BK234.out 0).trans rfl, (blk_cell BK234.out 1).trans rfl, (blk_cell BK234.out 2).trans rfl, (blk_cell BK235.out 0).trans rfl, (blk_cell BK235.out 1).trans rfl, (blk_cell BK235.out 2).trans rfl⟩ (fun hHeld => ?_)
               clear hK K
               refine norm_ (a' := ?_) ?_ ?_
               rotate_left; (· show Act.put _ (some 45) _ = _; simp only [Act.put,List.setIfInBounds_toArray,List.set_cons_zero,List.set_cons_succ,i64_w,i32_w]; rfl)
               refine one_ (i := 8) (N := some 48) (bo_ 12 511) rfl rfl (one_of HT_.out (by kernel_rfl)) (by decide) (fun K hK => ?_)
               refine goes_ Try.func25 (by kernel_rfl) rfl #[.agg #[.string a0_0, .string a0_1, .string a0_2], .agg #[.string x236000_51, .string x236001_51, .string x236002_51]] (by rfl) rfl rfl (by (try simp only [List.map_toArray, List.map_cons, List.map_nil]); first | done | rfl | (simp only [List.length_drop, List.length_take]; rfl)) ?_
               with_reducible refine (principal_Compare.calls a0_0 a0_1 a0_2 x236000_51 x236001_51 x236002_51 t242 _ A61.out).mono ?_
               rintro e w160 ⟨rfl, hb⟩
               refine ⟨_, rfl, ?_⟩
               have n0_ := Aside0.mk (blk_below (g := gb233) (o := .cells #[.string a0_0, .string a0_1, .string a0_2] 23 (0, 0)) (by (with_reducible repeat (first | refine blk_drewN ?_ _ | refine blk_drew ?_ | refine blk_alloc ?_ _)); exact BK233.out) hb)
               have n1_ := Aside0.mk (blk_below (g := gb234) (o := .cells #[.string x235000_44, .string a1_1, .string x235002_37] 23 (0, 0)) (by (with_reducible repeat (first | refine blk_drewN ?_ _ | refine blk_drew ?_ | refine blk_alloc ?_ _)); exact BK234.out) hb)
               have n2_ := Aside0.mk (blk_below (g := gb235) (o := .cells #[.string x236000_51, .string x236001_51, .string x236002_51] 23 (0, 0)) (by (with_reducible repeat (first | refine blk_drewN ?_ _ | refine blk_drew ?_ | refine blk_alloc ?_ _)); exact BK235.out) hb)
               have n3_ := Aside0.mk (below_step (by repeat (first | (with_reducible first | exact HB.out | apply below_alloc | apply pw_below_drewN | apply below_drew1 | refine below_set ?_ GE233.out | refine below_set ?_ GE234.out | refine below_set ?_ GE235.out) | exact HB.out)) hb)
               clear BK233
               clear BK234
               clear BK235
               clear HB
               have BK233 := n0_
               have BK234 := n1_
               have BK235 := n2_
               have HB := n3_
               clear n0_ n1_ n2_ n3_
               (try clear hb)
               (try clear hb2)
               (try clear hk)
               (try clear hi)
               refine hK.out _ _ ⟨(blk_cell BK233.out 0).trans rfl, (blk_cell BK233.out 1).trans rfl, (blk_cell BK233.out 2).trans rfl, (blk_cell BK234.out 0).trans rfl, (blk_cell BK234.out 1).trans rfl, (blk_cell BK234.out 2).trans rfl, (blk_cell BK235.out 0).trans rfl, (blk_cell BK235.out 1).trans rfl, (blk_cell BK235.out 2).trans rfl⟩ (fun hHeld => ?_)
               clear hK K
               refine norm_ (a' := ?_) ?_ ?_
               rotate_left; (· show Act.put _ (some 48) _ = _; simp only [Act.put,List.setIfInBounds_toArray,List.set_cons_zero,List.set_cons_succ,i64_w,i32_w]; rfl)
               refine pure_ (i := 9) (N := some 9) (v := ?_) (a' := ?_) (bo_ 12 1023) rfl rfl (any_of HT_.out (by kernel_rfl)) (fun _ _ _ h => h) (Or.inl ⟨by rfl, ?_⟩) ?_ ?_
               rotate_left; (· intro w'; go_simp; with_reducible rfl)
               rotate_left; (· simp only [Act.put,List.setIfInBounds_toArray,List.set_cons_zero,List.set_cons_succ,i64_w,i32_w]; rfl)
               refine pure_ (i := 10) (N := some 10) (v := ?_) (a' := ?_) (bo_ 12 2047) rfl rfl (any_of HT_.out (by kernel_rfl)) (fun _ _ _ h => h) (Or.inl ⟨by rfl, ?_⟩) ?_ ?_
               rotate_left; (· intro w'; go_simp; with_reducible rfl)
               rotate_left; (· simp only [Act.put,List.setIfInBounds_toArray,List.set_cons_zero,List.set_cons_succ,i64_w,i32_w]; rfl)
               refine pure_ (i := 11) (N := some 11) (v := ?_) (a' := ?_) (bo_ 12 4095) rfl rfl (any_of HT_.out (by kernel_rfl)) (fun _ _ _ h => h) (Or.inl ⟨by rfl, ?_⟩) ?_ ?_
               rotate_left; (· intro w'; go_simp; with_reducible rfl)
               rotate_left; (· simp only [Act.put,List.setIfInBounds_toArray,List.set_cons_zero,List.set_cons_succ,i64_w,i32_w]; rfl)
               refine done_ (done_of HT_.out (by kernel_rfl)) ?_
               have hnb161 := NB233_234.out
               have hnc161 := NB234_233.out
               have hnb162 := NB233_235.out
               have hnc162 := NB235_233.out
               have hcz163_0 : w160.cell? ⟨gb233, 0, none⟩ = some (.string a0_0) := (blk_cell BK233.out 0).trans rfl
               have hcz163_1 : w160.cell? ⟨gb233, 1, none⟩ = some (.string a0_1) := (blk_cell BK233.out 1).trans rfl
               have hcz163_2 : w160.cell? ⟨gb233, 2, none⟩ = some (.string a0_2) := (blk_cell BK233.out 2).trans rfl
               have hfz163_0 := blk_frozen BK233.out 0
               have hfz163_1 := blk_frozen BK233.out 1
               have hfz163_2 := blk_frozen BK233.out 2
               have hnb164 := NB234_235.out
               have hnc164 := NB235_234.out
               have hcz165_0 : w160.cell? ⟨gb234, 0, none⟩ = some (.string x235000_44) := (blk_cell BK234.out 0).trans rfl
               have hcz165_1 : w160.cell? ⟨gb234, 1, none⟩ = some (.string a1_1) := (blk_cell BK234.out 1).trans rfl
               have hcz165_2 : w160.cell? ⟨gb234, 2, none⟩ = some (.string x235002_37) := (blk_cell BK234.out 2).trans rfl
               have hfz165_0 := blk_frozen BK234.out 0
               have hfz165_1 := blk_frozen BK234.out 1
               have hfz165_2 := blk_frozen BK234.out 2
               try go_wp2_with (first | ((with_reducible refine gate_callee (f := 26) rfl ?_); refine goesL_ (some 52) rfl rfl Try.func26 (by kernel_rfl) rfl #[.agg #[.string a0_0, .string a0_1, .string a0_2], .agg #[.string x235000_44, .string a1_1, .string x235002_37]] rfl (by (try simp only [List.map_toArray, List.map_cons, List.map_nil]); first | done | rfl | (simp only [List.length_drop, List.length_take]; rfl)) ?_; (with_reducible refine (kerbsuiteref1_Compare.calls a0_0 a0_1 a0_2 x235000_44 a1_1 x235002_37 t243 _ A62.out).mono ?_); rintro e w166 ⟨rfl, hb⟩; refine ⟨_, rfl, ?_⟩; have n0_ := Aside0.mk (blk_below (g := gb233) (o := .cells #[.string a0_0, .string a0_1, .string a0_2] 23 (0, 0)) (by (with_reducible repeat (first | refine blk_drewN ?_ _ | refine blk_drew ?_ | refine blk_alloc ?_ _)); exact BK233.out) hb); have n1_ := Aside0.mk (blk_below (g := gb234) (o := .cells #[.string x235000_44, .string a1_1, .string x235002_37] 23 (0, 0)) (by (with_reducible repeat (first | refine blk_drewN ?_ _ | refine blk_drew ?_ | refine blk_alloc ?_ _)); exact BK234.out) hb); have n2_ := Aside0.mk (blk_below (g := gb235) (o := .cells #[.string x236000_51, .string x236001_51, .string x236002_51] 23 (0, 0)) (by (with_reducible repeat (first | refine blk_drewN ?_ _ | refine blk_drew ?_ | refine blk_alloc ?_ _)); exact BK235.out) hb); have n3_ := Aside0.mk (below_step (by repeat (first | (with_reducible first | exact HB.out | apply below_alloc | apply pw_below_drewN | apply below_drew1 | refine below_set ?_ GE233.out | refine below_set ?_ GE234.out | refine below_set ?_ GE235.out) | exact HB.out)) hb); clear BK233; clear BK234; clear BK235; clear HB; have BK233 := n0_; have BK234 := n1_; have BK235 := n2_; have HB := n3_; clear n0_ n1_ n2_ n3_; (try clear hb); (try clear hb2); (try clear hk); (try clear hi); have hcz167_0 : w166.cell? ⟨gb234, 0, none⟩ = some (.string x235000_44) := (blk_cell BK234.out 0).trans rfl; have hcz167_1 : w166.cell? ⟨gb234, 1, none⟩ = some (.string a1_1) := (blk_cell BK234.out 1).trans rfl; have hcz167_2 : w166.cell? ⟨gb234, 2, none⟩ = some (.string x235002_37) := (blk_cell BK234.out 2).trans rfl; have hfz167_0 := blk_frozen BK234.out 0; have hfz167_1 := blk_frozen BK234.out 1; have hfz167_2 := blk_frozen BK234.out 2; have hcz168_0 : w166.cell? ⟨gb235, 0, none⟩ = some (.string x236000_51) := (blk_cell BK235.out 0).trans rfl; have hcz168_1 : w166.cell? ⟨gb235, 1, none⟩ = some (.string x236001_51) := (blk_cell BK235.out 1).trans rfl; have hcz168_2 : w166.cell? ⟨gb235, 2, none⟩ = some (.string x236002_51) := (blk_cell BK235.out 2).trans rfl; have hfz168_0 := blk_frozen BK235.out 0; have hfz168_1 := blk_frozen BK235.out 1; have hfz168_2 := blk_frozen BK235.out 2) | (go_at_call 26; (with_reducible refine (kerbsuiteref1_Compare.calls x235000_44 a1_1 x235002_37 x236000_51 x236001_51 x236002_51 t244 _ A64.out).mono ?_); rintro e w169 ⟨rfl, hb⟩; have n0_ := Aside0.mk (blk_below (g := gb233) (o := .cells #[.string a0_0, .string a0_1, .string a0_2] 23 (0, 0)) (by (with_reducible repeat (first | refine blk_drewN ?_ _ | refine blk_drew ?_ | refine blk_alloc ?_ _)); exact BK233.out) hb); have n1_ := Aside0.mk (blk_below (g := gb234) (o := .cells #[.string x235000_44, .string a1_1, .string x235002_37] 23 (0, 0)) (by (with_reducible repeat (first | refine blk_drewN ?_ _ | refine blk_drew ?_ | refine blk_alloc ?_ _)); exact BK234.out) hb); have n2_ := Aside0.mk (blk_below (g := gb235) (o := .cells #[.string x236000_51, .string x236001_51, .string x236002_51] 23 (0, 0)) (by (with_reducible repeat (first | refine blk_drewN ?_ _ | refine blk_drew ?_ | refine blk_alloc ?_ _)); exact BK235.out) hb); have n3_ := Aside0.mk (below_step (by repeat (first | (with_reducible first | exact HB.out | apply below_alloc | apply pw_below_drewN | apply below_drew1 | refine below_set ?_ GE233.out | refine below_set ?_ GE234.out | refine below_set ?_ GE235.out) | exact HB.out)) hb); clear BK233; clear BK234; clear BK235; clear HB; have BK233 := n0_; have BK234 := n1_; have BK235 := n2_; have HB := n3_; clear n0_ n1_ n2_ n3_; (try clear hb); (try clear hb2); (try clear hk); (try clear hi); have hcz170_0 : w169.cell? ⟨gb233, 0, none⟩ = some (.string a0_0) := (blk_cell BK233.out 0).trans rfl; have hcz170_1 : w169.cell? ⟨gb233, 1, none⟩ = some (.string a0_1) := (blk_cell BK233.out 1).trans rfl; have hcz170_2 : w169.cell? ⟨gb233, 2, none⟩ = some (.string a0_2) := (blk_cell BK233.out 2).trans rfl; have hfz170_0 := blk_frozen BK233.out 0; have hfz170_1 := blk_frozen BK233.out 1; have hfz170_2 := blk_frozen BK233.out 2; have hcz171_0 : w169.cell? ⟨gb235, 0, none⟩ = some (.string x236000_51) := (blk_cell BK235.out 0).trans rfl; have hcz171_1 : w169.cell? ⟨gb235, 1, none⟩ = some (.string x236001_51) := (blk_cell BK235.out 1).trans rfl; have hcz171_2 : w169.cell? ⟨gb235, 2, none⟩ = some (.string x236002_51) := (blk_cell BK235.out 2).trans rfl; have hfz171_0 := blk_frozen BK235.out 0; have hfz171_1 := blk_frozen BK235.out 1; have hfz171_2 := blk_frozen BK235.out 2) | (go_at_call 26; (with_reducible refine (kerbsuiteref1_Compare.calls a0_0 a0_1 a0_2 x236000_51 x236001_51 x236002_51 t245 _ A66.out).mono ?_); rintro e w172 ⟨rfl, hb⟩; have n0_ := Aside0.mk (blk_below (g := gb233) (o := .cells #[.string a0_0, .string a0_1, .string a0_2] 23 (0, 0)) (by (with_reducible repeat (first | refine blk_drewN ?_ _ | refine blk_drew ?_ | refine blk_alloc ?_ _)); exact BK233.out) hb); have n1_ := Aside0.mk (blk_below (g := gb234) (o := .cells #[.string x235000_44, .string a1_1, .string x235002_37] 23 (0, 0)) (by (with_reducible repeat (first | refine blk_drewN ?_ _ | refine blk_drew ?_ | refine blk_alloc ?_ _)); exact BK234.out) hb); have n2_ := Aside0.mk (blk_below (g := gb235) (o := .cells #[.string x236000_51, .string x236001_51, .string x236002_51] 23 (0, 0)) (by (with_reducible repeat (first | refine blk_drewN ?_ _ | refine blk_drew ?_ | refine blk_alloc ?_ _)); exact BK235.out) hb); have n3_ := Aside0.mk (below_step (by repeat (first | (with_reducible first | exact HB.out | apply below_alloc | apply pw_below_drewN | apply below_drew1 | refine below_set ?_ GE233.out | refine below_set ?_ GE234.out | refine below_set ?_ GE235.out) | exact HB.out)) hb); clear BK233; clear BK234; clear BK235; clear HB; have BK233 := n0_; have BK234 := n1_; have BK235 := n2_; have HB := n3_; clear n0_ n1_ n2_ n3_; (try clear hb); (try clear hb2); (try clear hk); (try clear hi); have hcz173_0 : w172.cell? ⟨gb234, 0, none⟩ = some (.string x235000_44) := (blk_cell BK234.out 0).trans rfl; have hcz173_1 : w172.cell? ⟨gb234, 1, none⟩ = some (.string a1_1) := (blk_cell BK234.out 1).trans rfl; have hcz173_2 : w172.cell? ⟨gb234, 2, none⟩ = some (.string x235002_37) := (blk_cell BK234.out 2).trans rfl; have hfz173_0 := blk_frozen BK234.out 0; have hfz173_1 := blk_frozen BK234.out 1; have hfz173_2 := blk_frozen BK234.out 2; have hcz174_0 : w172.cell? ⟨gb233, 0, none⟩ = some (.string a0_0) := (blk_cell BK233.out 0).trans rfl; have hcz174_1 : w172.cell? ⟨gb233, 1, none⟩ = some (.string a0_1) := (blk_cell BK233.out 1).trans rfl; have hcz174_2 : w172.cell? ⟨gb233, 2, none⟩ = some (.string a0_2) := (blk_cell BK233.out 2).trans rfl; have hfz174_0 := blk_frozen BK233.out 0; have hfz174_1 := blk_frozen BK233.out 1; have hfz174_2 := blk_frozen BK233.out 2) | (go_at_call 25; (with_reducible refine (principal_Compare.calls x235000_44 a1_1 x235002_37 a0_0 a0_1 a0_2 t246 _ A68.out).mono ?_); rintro e w175 ⟨rfl, hb⟩; have n0_ := Aside0.mk (blk_below (g := gb233) (o := .cells #[.string a0_0, .string a0_1, .string a0_2] 23 (0, 0)) (by (with_reducible repeat (first | refine blk_drewN ?_ _ | refine blk_drew ?_ | refine blk_alloc ?_ _)); exact BK233.out) hb); have n1_ := Aside0.mk (blk_below (g := gb234) (o := .cells #[.string x235000_44, .string a1_1, .string x235002_37] 23 (0, 0)) (by (with_reducible repeat (first | refine blk_drewN ?_ _ | refine blk_drew ?_ | refine blk_alloc ?_ _)); exact BK234.out) hb); have n2_ := Aside0.mk (blk_below (g := gb235) (o := .cells #[.string x236000_51, .string x236001_51, .string x236002_51] 23 (0, 0)) (by (with_reducible repeat (first | refine blk_drewN ?_ _ | refine blk_drew ?_ | refine blk_alloc ?_ _)); exact BK235.out) hb); have n3_ := Aside0.mk (below_step (by repeat (first | (with_reducible first | exact HB.out | apply below_alloc | apply pw_below_drewN | apply below_drew1 | refine below_set ?_ GE233.out | refine below_set ?_ GE234.out | refine below_set ?_ GE235.out) | exact HB.out)) hb); clear BK233; clear BK234; clear BK235; clear HB; have BK233 := n0_; have BK234 := n1_; have BK235 := n2_; have HB := n3_; clear n0_ n1_ n2_ n3_; (try clear hb); (try clear hb2); (try clear hk); (try clear hi)))
               go_ret
               exact ⟨by first | rfl | (simp [errW_none, errW_some] <;> rfl) | (simp [*, errW_none, errW_some] <;> rfl), by repeat (first | (with_reducible first | exact HB.out | apply below_alloc | apply pw_below_drewN | apply below_drew1 | refine below_set ?_ GE233.out | refine below_set ?_ GE234.out | refine below_set ?_ GE235.out) | exact HB.out)⟩
             ·rw [if_neg c67] at H
              have c67b0 : (t242 == t245) = false := beq_eq_false_iff_ne.mpr c67
              have c67b1 : (t242 != t245) = true := bne_iff_ne.mpr c67
              obtain rfl := Option.some.inj H
              try go_wp2
              have n0_ := Aside0.mk (blk_drew BK233.out)
              have n1_ := Aside0.mk (blk_drew BK234.out)
              have n2_ := Aside0.mk (blk_drew BK235.out)
              have n3_ := Aside0.mk (below_drew1 HB.out)
              clear BK233
              clear BK234
              clear BK235
              clear HB
              have BK233 := n0_
              have BK234 := n1_
              have BK235 := n2_
              have HB := n3_
              clear n0_ n1_ n2_ n3_
              refine start_ (n := 12) (S := fun w' => w'.cell? ⟨gb233, 0, none⟩ = some (.string a0_0) ∧ w'.cell? ⟨gb233, 1, none⟩ = some (.string a0_1) ∧ w'.cell? ⟨gb233, 2, none⟩ = some (.string a0_2) ∧ w'.cell? ⟨gb234, 0, none⟩ = some (.string x235000_44) ∧ w'.cell? ⟨gb234, 1, none⟩ = some (.string a1_1) ∧ w'.cell? ⟨gb234, 2, none⟩ = some (.string x235002_37) ∧ w'.cell? ⟨gb235, 0, none⟩ = some (.string x236000_51) ∧ w'.cell? ⟨gb235, 1, none⟩ = some (.string x236001_51) ∧ w'.cell? ⟨gb235, 2, none⟩ = some (.string x236002_51)) (ds := []) #[false,false,false,false,false,false,false,false,false,false,false,false] (by kernel_rfl) rfl rfl ⟨(blk_cell BK233.out 0).trans rfl, (blk_cell BK233.out 1).trans rfl, (blk_cell BK233.out 2).trans rfl, (blk_cell BK234.out 0).trans rfl, (blk_cell BK234.out 1).trans rfl, (blk_cell BK234.out 2).trans rfl, (blk_cell BK235.out 0).trans rfl, (blk_cell BK235.out 1).trans rfl, (blk_cell BK235.out 2).trans rfl⟩ (fun hHeld => ?_); refine with_tabW kerbsuitelaw1_PrincipalOrder.tab11 kerbsuitelaw1_PrincipalOrder.bits11 (fun HT_ HW_ => ?_)
              generalize wc.drew = w176 at BK233 BK234 BK235 HB hHeld ⊢
              refine take_ (i := 0) (N := some 40) (v := ?_) (a' := ?_) (bo_ 12 1) rfl rfl (take_ofW HT_.out HW_.out (by kernel_rfl)) (fun _ _ _ h => h) (Or.inl ⟨by rfl, ?_⟩) hHeld ?_ ?_
              rotate_left; (· rintro w' ⟨s0, s1, s2, s3, s4, s5, s6, s7, s8⟩; go_simp; with_reducible rfl)
              rotate_left; (· simp only [Act.put,List.setIfInBounds_toArray,List.set_cons_zero,List.set_cons_succ,i64_w,i32_w]; rfl)
              refine take_ (i := 1) (N := some 41) (v := ?_) (a' := ?_) (bo_ 12 3) rfl rfl (take_ofW HT_.out HW_.out (by kernel_rfl)) (fun _ _ _ h => h) (Or.inl ⟨by rfl, ?_⟩) hHeld ?_ ?_
              rotate_left; (· rintro w' ⟨s0, s1, s2, s3, s4, s5, s6, s7, s8⟩; go_simp; with_reducible rfl)
              rotate_left; (· simp only [Act.put,List.setIfInBounds_toArray,List.set_cons_zero,List.set_cons_succ,i64_w,i32_w]; rfl)
              refine take_ (i := 3) (N := some 43) (v := ?_) (a' := ?_) (bo_ 12 11) rfl rfl (take_ofW HT_.out HW_.out (by kernel_rfl)) (fun _ _ _ h => h) (Or.inl ⟨by rfl, ?_⟩) hHeld ?_ ?_
              rotate_left; (· rintro w' ⟨s0, s1, s2, s3, s4, s5, s6, s7, s8⟩; go_simp; with_reducible rfl)
              rotate_left; (· simp only [Act.put,List.setIfInBounds_toArray,List.set_cons_zero,List.set_cons_succ,i64_w,i32_w]; rfl)
              refine take_ (i := 4) (N := some 44) (v := ?_) (a' := ?_) (bo_ 12 27) rfl rfl (take_ofW HT_.out HW_.out (by kernel_rfl)) (fun _ _ _ h => h) (Or.inl ⟨by rfl, ?_⟩) hHeld ?_ ?_
              rotate_left; (· rintro w' ⟨s0, s1, s2, s3, s4, s5, s6, s7, s8⟩; go_simp; with_reducible rfl)
              rotate_left; (· simp only [Act.put,List.setIfInBounds_toArray,List.set_cons_zero,List.set_cons_succ,i64_w,i32_w]; rfl)
              refine take_ (i := 6) (N := some 46) (v := ?_) (a' := ?_) (bo_ 12 91) rfl rfl (take_ofW HT_.out HW_.out (by kernel_rfl)) (fun _ _ _ h => h) (Or.inl ⟨by rfl, ?_⟩) hHeld ?_ ?_
              rotate_left; (· rintro w' ⟨s0, s1, s2, s3, s4, s5, s6, s7, s8⟩; go_simp; with_reducible rfl)
              rotate_left; (· simp only [Act.put,List.setIfInBounds_toArray,List.set_cons_zero,List.set_cons_succ,i64_w,i32_w]; rfl)
              refine take_ (i := 7) (N := some 47) (v := ?_) (a' := ?_) (bo_ 12 219) rfl rfl (take_ofW HT_.out HW_.out (by kernel_rfl)) (fun _ _ _ h => h) (Or.inl ⟨by rfl, ?_⟩) hHeld ?_ ?_
              rotate_left; (· rintro w' ⟨s0, s1, s2, s3, s4, s5, s6, s7, s8⟩; go_simp; with_reducible rfl)
              rotate_left; (· simp only [Act.put,List.setIfInBounds_toArray,List.set_cons_zero,List.set_cons_succ,i64_w,i32_w]; rfl)
              refine one_ (i := 2) (N := some 42) (bo_ 12 223) rfl rfl (one_of HT_.out (by kernel_rfl)) (by decide) (fun K hK => ?_)
              refine goes_ Try.func25 (by kernel_rfl) rfl #[.agg #[.string a0_0, .string a0_1, .string a0_2], .agg #[.string x235000_44, .string a1_1, .string x235002_37]] (by rfl) rfl rfl (by (try simp only [List.map_toArray, List.map_cons, List.map_nil]); first | done | rfl | (simp only [List.length_drop, List.length_take]; rfl)) ?_
              with_reducible refine (principal_Compare.calls a0_0 a0_1 a0_2 x235000_44 a1_1 x235002_37 t240 _ A59.out).mono ?_
              rintro e w177 ⟨rfl, hb⟩
              refine ⟨_, rfl, ?_⟩
              have n0_ := Aside0.mk (blk_below (g := gb233) (o := .cells #[.string a0_0, .string a0_1, .string a0_2] 23 (0, 0)) (by (with_reducible repeat (first | refine blk_drewN ?_ _ | refine blk_drew ?_ | refine blk_alloc ?_ _)); exact BK233.out) hb)
              have n1_ := Aside0.mk (blk_below (g := gb234) (o := .cells #[.string x235000_44, .string a1_1, .string x235002_37] 23 (0, 0)) (by (with_reducible repeat (first | refine blk_drewN ?_ _ | refine blk_drew ?_ | refine blk_alloc ?_ _)); exact BK234.out) hb)
              have n2_ := Aside0.mk (blk_below (g := gb235) (o := .cells #[.string x236000_51, .string x236001_51, .string x236002_51] 23 (0, 0)) (by (with_reducible repeat (first | refine blk_drewN ?_ _ | refine blk_drew ?_ | refine blk_alloc ?_ _)); exact BK235.out) hb)
              have n3_ := Aside0.mk (below_step (by repeat (first | (with_reducible first | exact HB.out | apply below_alloc | apply pw_below_drewN | apply below_drew1 | refine below_set ?_ GE233.out | refine below_set ?_ GE234.out | refine below_set ?_ GE235.out) | exact HB.out)) hb)
              clear BK233
              clear BK234
              clear BK235
              clear HB
              have BK233 := n0_
              have BK234 := n1_
              have BK235 := n2_
              have HB := n3_
              clear n0_ n1_ n2_ n3_
              (try clear hb)
              (try clear hb2)
              (try clear hk)
              (try clear hi)
              refine hK.out _ _ ⟨(blk_cell BK233.out 0).trans rfl, (blk_cell BK233.out 1).trans rfl, (blk_cell BK233.out 2).trans rfl, (blk_cell BK234.out 0).trans rfl, (blk_cell BK234.out 1).trans rfl, (blk_cell BK234.out 2).trans rfl, (blk_cell BK235.out 0).trans rfl, (blk_cell BK235.out 1).trans rfl, (blk_cell BK235.out 2).trans rfl⟩ (fun hHeld => ?_)
              clear hK K
              refine norm_ (a' := ?_) ?_ ?_
              rotate_left; (· show Act.put _ (some 42) _ = _; simp only [Act.put,List.setIfInBounds_toArray,List.set_cons_zero,List.set_cons_succ,i64_w,i32_w]; rfl)
              refine one_ (i := 5) (N := some 45) (bo_ 12 255) rfl rfl (one_of HT_.out (by kernel_rfl)) (by decide) (fun K hK => ?_)
              refine goes_ Try.func25 (by kernel_rfl) rfl #[.agg #[.string x235000_44, .string a1_1, .string x235002_37], .agg #[.string x236000_51, .string x236001_51, .string x236002_51]] (by rfl) rfl rfl (by (try simp only [List.map_toArray, List.map_cons, List.map_nil]); first | done | rfl | (simp only [List.length_drop, List.length_take]; rfl)) ?_
              with_reducible refine (principal_Compare.calls x235000_44 a1_1 x235002_37 x236000_51 x236001_51 x236002_51 t241 _ A60.out).mono ?_
              rintro e w178 ⟨rfl, hb⟩
              refine ⟨_, rfl, ?_⟩
              have n0_ := Aside0.mk (blk_below (g := gb233) (o := .cells #[.string a0_0, .string a0_1, .string a0_2] 23 (0, 0)) (by (with_reducible repeat (first | refine blk_drewN ?_ _ | refine blk_drew ?_ | refine blk_alloc ?_ _)); exact BK233.out) hb)
              have n1_ := Aside0.mk (blk_below (g := gb234) (o := .cells #[.string x235000_44, .string a1_1, .string x235002_37] 23 (0, 0)) (by (with_reducible repeat (first | refine blk_drewN ?_ _ | refine blk_drew ?_ | refine blk_alloc ?_ _)); exact BK234.out) hb)
              have n2_ := Aside0.mk (blk_below (g := gb235) (o := .cells #[.string x236000_51, .string x236001_51, .string x236002_51] 23 (0, 0)) (by (with_reducible repeat (first | refine blk_drewN ?_ _ | refine blk_drew ?_ | refine blk_alloc ?_ _)); exact BK235.out) hb)
              have n3_ := Aside0.mk (below_step (by repeat (first | (with_reducible first | exact HB.out | apply below_alloc | apply pw_below_drewN | apply below_drew1 | refine below_set ?_ GE233.out | refine below_set ?_ GE234.out | refine below_set ?_ GE235.out) | exact HB.out)) hb)
              clear BK233
              clear BK234
              clear BK235
              clear HB
              have BK233 := n0_
              have BK234 := n1_
              have BK235 := n2_
              have HB := n3_
              clear n0_ n1_ n2_ n3_
              (try clear hb)
              (try clear hb2)
              (try clear hk)
              (try clear hi)
              refine hK.out _ _ ⟨(blk_cell BK233.out 0).trans rfl, (blk_cell BK233.out 1).trans rfl, (blk_cell BK233.out 2).trans rfl, (blk_cell BK234.out 0).trans rfl, (blk_cell BK234.out 1).trans rfl, (blk_cell BK234.out 2).trans rfl, (blk_cell BK235.out 0).trans rfl, (blk_cell BK235.out 1).trans rfl, (blk_cell BK235.out 2).trans rfl⟩ (fun hHeld => ?_)
              clear hK K
              refine norm_ (a' := ?_) ?_ ?_
              rotate_left; (· show Act.put _ (some 45) _ = _; simp only [Act.put,List.setIfInBounds_toArray,List.set_cons_zero,List.set_cons_succ,i64_w,i32_w]; rfl)
              refine one_ (i := 8) (N := some 48) (bo_ 12 511) rfl rfl (one_of HT_.out (by kernel_rfl)) (by decide) (fun K hK => ?_)
              refine goes_ Try.func25 (by kernel_rfl) rfl #[.agg #[.string a0_0, .string a0_1, .string a0_2], .agg #[.string x236000_51, .string x236001_51, .string x236002_51]] (by rfl) rfl rfl (by (try simp only [List.map_toArray, List.map_cons, List.map_nil]); first | done | rfl | (simp only [List.length_drop, List.length_take]; rfl)) ?_
              with_reducible refine (principal_Compare.calls a0_0 a0_1 a0_2 x236000_51 x236001_51 x236002_51 t242 _ A61.out).mono ?_
              rintro e w179 ⟨rfl, hb⟩
              refine ⟨_, rfl, ?_⟩
              have n0_ := Aside0.mk (blk_below (g := gb233) (o := .cells #[.string a0_0, .string a0_1, .string a0_2] 23 (0, 0)) (by (with_reducible repeat (first | refine blk_drewN ?_ _ | refine blk_drew ?_ | refine blk_alloc ?_ _)); exact BK233.out) hb)
              have n1_ := Aside0.mk (blk_below (g := gb234) (o := .cells #[.string x235000_44, .string a1_1, .string x235002_37] 23 (0, 0)) (by (with_reducible repeat (first | refine blk_drewN ?_ _ | refine blk_drew ?_ | refine blk_alloc ?_ _)); exact BK234.out) hb)
              have n2_ := Aside0.mk (blk_below (g := gb235) (o := .cells #[.string x236000_51, .string x236001_51, .string x236002_51] 23 (0, 0)) (by (with_reducible repeat (first | refine blk_drewN ?_ _ | refine blk_drew ?_ | refine blk_alloc ?_ _)); exact BK235.out) hb)
              have n3_ := Aside0.mk (below_step (by repeat (first | (with_reducible first | exact HB.out | apply below_alloc | apply pw_below_drewN | apply below_drew1 | refine below_set ?_ GE233.out | refine below_set ?_ GE234.out | refine below_set ?_ GE235.out) | exact HB.out)) hb)
              clear BK233
              clear BK234
              clear BK235
              clear HB
              have BK233 := n0_
              have BK234 := n1_
              have BK235 := n2_
              have HB := n3_
              clear n0_ n1_ n2_ n3_
              (try clear hb)
              (try clear hb2)
              (try clear hk)
              (try clear hi)
              refine hK.out _ _ ⟨(blk_cell BK233.out 0).trans rfl, (blk_cell BK233.out 1).trans rfl, (blk_cell BK233.out 2).trans rfl, (blk_cell BK234.out 0).trans rfl, (blk_cell BK234.out 1).trans rfl, (blk_cell BK234.out 2).trans rfl, (blk_cell BK235.out 0).trans rfl, (blk_cell BK235.out 1).trans rfl, (blk_cell BK235.out 2).trans rfl⟩ (fun hHeld => ?_)
              clear hK K
              refine norm_ (a' := ?_) ?_ ?_
              rotate_left; (· show Act.put _ (some 48) _ = _; simp only [Act.put,List.setIfInBounds_toArray,List.set_cons_zero,List.set_cons_succ,i64_w,i32_w]; rfl)
              refine pure_ (i := 9) (N := some 9) (v := ?_) (a' := ?_) (bo_ 12 1023) rfl rfl (any_of HT_.out (by kernel_rfl)) (fun _ _ _ h => h) (Or.inl ⟨by rfl, ?_⟩) ?_ ?_
              rotate_left; (· intro w'; go_simp; with_reducible rfl)
              rotate_left; (· simp only [Act.put,List.setIfInBounds_toArray,List.set_cons_zero,List.set_cons_succ,i64_w,i32_w]; rfl)
              refine pure_ (i := 10) (N := some 10) (v := ?_) (a' := ?_) (bo_ 12 2047) rfl rfl (any_of HT_.out (by kernel_rfl)) (fun _ _ _ h => h) (Or.inl ⟨by rfl, ?_⟩) ?_ ?_
              rotate_left; (· intro w'; go_simp; with_reducible rfl)
              rotate_left; (· simp only [Act.put,List.setIfInBounds_toArray,List.set_cons_zero,List.set_cons_succ,i64_w,i32_w]; rfl)
              refine pure_ (i := 11) (N := some 11) (v := ?_) (a' := ?_) (bo_ 12 4095) rfl rfl (any_of HT_.out (by kernel_rfl)) (fun _ _ _ h => h) (Or.inl ⟨by rfl, ?_⟩) ?_ ?_
              rotate_left; (· intro w'; go_simp; with_reducible rfl)
              rotate_left; (· simp only [Act.put,List.setIfInBounds_toArray,List.set_cons_zero,List.set_cons_succ,i64_w,i32_w]; rfl)
              refine done_ (done_of HT_.out (by kernel_rfl)) ?_
              have hnb180 := NB233_234.out
              have hnc180 := NB234_233.out
              have hnb181 := NB233_235.out
              have hnc181 := NB235_233.out
              have hcz182_0 : w179.cell? ⟨gb233, 0, none⟩ = some (.string a0_0) := (blk_cell BK233.out 0).trans rfl
              have hcz182_1 : w179.cell? ⟨gb233, 1, none⟩ = some (.string a0_1) := (blk_cell BK233.out 1).trans rfl
              have hcz182_2 : w179.cell? ⟨gb233, 2, none⟩ = some (.string a0_2) := (blk_cell BK233.out 2).trans rfl
              have hfz182_0 := blk_frozen BK233.out 0
              have hfz182_1 := blk_frozen BK233.out 1
              have hfz182_2 := blk_frozen BK233.out 2
              have hnb183 := NB234_235.out
              have hnc183 := NB235_234.out
              have hcz184_0 : w179.cell? ⟨gb234, 0, none⟩ = some (.string x235000_44) := (blk_cell BK234.out 0).trans rfl
              have hcz184_1 : w179.cell? ⟨gb234, 1, none⟩ = some (.string a1_1) := (blk_cell BK234.out 1).trans rfl
              have hcz184_2 : w179.cell? ⟨gb234, 2, none⟩ = some (.string x235002_37) := (blk_cell BK234.out 2).trans rfl
              have hfz184_0 := blk_frozen BK234.out 0
              have hfz184_1 := blk_frozen BK234.out 1
              have hfz184_2 := blk_frozen BK234.out 2
              try go_wp2_with (first | ((with_reducible refine gate_callee (f := 26) rfl ?_); refine goesL_ (some 52) rfl rfl Try.func26 (by kernel_rfl) rfl #[.agg #[.string a0_0, .string a0_1, .string a0_2], .agg #[.string x235000_44, .string a1_1, .string x235002_37]] rfl (by (try simp only [List.map_toArray, List.map_cons, List.map_nil]); first | done | rfl | (simp only [List.length_drop, List.length_take]; rfl)) ?_; (with_reducible refine (kerbsuiteref1_Compare.calls a0_0 a0_1 a0_2 x235000_44 a1_1 x235002_37 t243 _ A62.out).mono ?_); rintro e w185 ⟨rfl, hb⟩; refine ⟨_, rfl, ?_⟩; have n0_ := Aside0.mk (blk_below (g := gb233) (o := .cells #[.string a0_0, .string a0_1, .string a0_2] 23 (0, 0)) (by (with_reducible repeat (first | refine blk_drewN ?_ _ | refine blk_drew ?_ | refine blk_alloc ?_ _)); exact BK233.out) hb); have n1_ := Aside0.mk (blk_below (g := gb234) (o := .cells #[.string x235000_44, .string a1_1, .string x235002_37] 23 (0, 0)) (by (with_reducible repeat (first | refine blk_drewN ?_ _ | refine blk_drew ?_ | refine blk_alloc ?_ _)); exact BK234.out) hb); have n2_ := Aside0.mk (blk_below (g := gb235) (o := .cells #[.string x236000_51, .string x236001_51, .string x236002_51] 23 (0, 0)) (by (with_reducible repeat (first | refine blk_drewN ?_ _ | refine blk_drew ?_ | refine blk_alloc ?_ _)); exact BK235.out) hb); have n3_ := Aside0.mk (below_step (by repeat (first | (with_reducible first | exact HB.out | apply below_alloc | apply pw_below_drewN | apply below_drew1 | refine below_set ?_ GE233.out | refine below_set ?_ GE234.out | refine below_set ?_ GE235.out) | exact HB.out)) hb); clear BK233; clear BK234; clear BK235; clear HB; have BK233 := n0_; have BK234 := n1_; have BK235 := n2_; have HB := n3_; clear n0_ n1_ n2_ n3_; (try clear hb); (try clear hb2); (try clear hk); (try clear hi); have hcz186_0 : w185.cell? ⟨gb234, 0, none⟩ = some (.string x235000_44) := (blk_cell BK234.out 0).trans rfl; have hcz186_1 : w185.cell? ⟨gb234, 1, none⟩ = some (.string a1_1) := (blk_cell BK234.out 1).trans rfl; have hcz186_2 : w185.cell? ⟨gb234, 2, none⟩ = some (.string x235002_37) := (blk_cell BK234.out 2).trans rfl; have hfz186_0 := blk_frozen BK234.out 0; have hfz186_1 := blk_frozen BK234.out 1; have hfz186_2 := blk_frozen BK234.out 2; have hcz187_0 : w185.cell? ⟨gb235, 0, none⟩ = some (.string x236000_51) := (blk_cell BK235.out 0).trans rfl; have hcz187_1 : w185.cell? ⟨gb235, 1, none⟩ = some (.string x236001_51) := (blk_cell BK235.out 1).trans rfl; have hcz187_2 : w185.cell? ⟨gb235, 2, none⟩ = some (.string x236002_51) := (blk_cell BK235.out 2).trans rfl; have hfz187_0 := blk_frozen BK235.out 0; have hfz187_1 := blk_frozen BK235.out 1; have hfz187_2 := blk_frozen BK235.out 2) | (go_at_call 26; (with_reducible refine (kerbsuiteref1_Compare.calls x235000_44 a1_1 x235002_37 x236000_51 x236001_51 x236002_51 t244 _ A64.out).mono ?_); rintro e w188 ⟨rfl, hb⟩; have n0_ := Aside0.mk (blk_below (g := gb233) (o := .cells #[.string a0_0, .string a0_1, .string a0_2] 23 (0, 0)) (by (with_reducible repeat (first | refine blk_drewN ?_ _ | refine blk_drew ?_ | refine blk_alloc ?_ _)); exact BK233.out) hb); have n1_ := Aside0.mk (blk_below (g := gb234) (o := .cells #[.string x235000_44, .string a1_1, .string x235002_37] 23 (0, 0)) (by (with_reducible repeat (first | refine blk_drewN ?_ _ | refine blk_drew ?_ | refine blk_alloc ?_ _)); exact BK234.out) hb); have n2_ := Aside0.mk (blk_below (g := gb235) (o := .cells #[.string x236000_51, .string x236001_51, .string x236002_51] 23 (0, 0)) (by (with_reducible repeat (first | refine blk_drewN ?_ _ | refine blk_drew ?_ | refine blk_alloc ?_ _)); exact BK235.out) hb); have n3_ := Aside0.mk (below_step (by repeat (first | (with_reducible first | exact HB.out | apply below_alloc | apply pw_below_drewN | apply below_drew1 | refine below_set ?_ GE233.out | refine below_set ?_ GE234.out | refine below_set ?_ GE235.out) | exact HB.out)) hb); clear BK233; clear BK234; clear BK235; clear HB; have BK233 := n0_; have BK234 := n1_; have BK235 := n2_; have HB := n3_; clear n0_ n1_ n2_ n3_; (try clear hb); (try clear hb2); (try clear hk); (try clear hi); have hcz189_0 : w188.cell? ⟨gb233, 0, none⟩ = some (.string a0_0) := (blk_cell BK233.out 0).trans rfl; have hcz189_1 : w188.cell? ⟨gb233, 1, none⟩ = some (.string a0_1) := (blk_cell BK233.out 1).trans rfl; have hcz189_2 : w188.cell? ⟨gb233, 2, none⟩ = some (.string a0_2) := (blk_cell BK233.out 2).trans rfl; have hfz189_0 := blk_frozen BK233.out 0; have hfz189_1 := blk_frozen BK233.out 1; have hfz189_2 := blk_frozen BK233.out 2; have hcz190_0 : w188.cell? ⟨gb235, 0, none⟩ = some (.string x236000_51) := (blk_cell BK235.out 0).trans rfl; have hcz190_1 : w188.cell? ⟨gb235, 1, none⟩ = some (.string x236001_51) := (blk_cell BK235.out 1).trans rfl; have hcz190_2 : w188.cell? ⟨gb235, 2, none⟩ = some (.string x236002_51) := (blk_cell BK235.out 2).trans rfl; have hfz190_0 := blk_frozen BK235.out 0; have hfz190_1 := blk_frozen BK235.out 1; have hfz190_2 := blk_frozen BK235.out 2) | (go_at_call 26; (with_reducible refine (kerbsuiteref1_Compare.calls a0_0 a0_1 a0_2 x236000_51 x236001_51 x236002_51 t245 _ A66.out).mono ?_); rintro e w191 ⟨rfl, hb⟩; have n0_ := Aside0.mk (blk_below (g := gb233) (o := .cells #[.string a0_0, .string a0_1, .string a0_2] 23 (0, 0)) (by (with_reducible repeat (first | refine blk_drewN ?_ _ | refine blk_drew ?_ | refine blk_alloc ?_ _)); exact BK233.out) hb); have n1_ := Aside0.mk (blk_below (g := gb234) (o := .cells #[.string x235000_44, .string a1_1, .string x235002_37] 23 (0, 0)) (by (with_reducible repeat (first | refine blk_drewN ?_ _ | refine blk_drew ?_ | refine blk_alloc ?_ _)); exact BK234.out) hb); have n2_ := Aside0.mk (blk_below (g := gb235) (o := .cells #[.string x236000_51, .string x236001_51, .string x236002_51] 23 (0, 0)) (by (with_reducible repeat (first | refine blk_drewN ?_ _ | refine blk_drew ?_ | refine blk_alloc ?_ _)); exact BK235.out) hb); have n3_ := Aside0.mk (below_step (by repeat (first | (with_reducible first | exact HB.out | apply below_alloc | apply pw_below_drewN | apply below_drew1 | refine below_set ?_ GE233.out | refine below_set ?_ GE234.out | refine below_set ?_ GE235.out) | exact HB.out)) hb); clear BK233; clear BK234; clear BK235; clear HB; have BK233 := n0_; have BK234 := n1_; have BK235 := n2_; have HB := n3_; clear n0_ n1_ n2_ n3_; (try clear hb); (try clear hb2); (try clear hk); (try clear hi)))
              go_ret
              exact ⟨by first | rfl | (simp [errW_none, errW_some] <;> rfl) | (simp [*, errW_none, errW_some] <;> rfl), by repeat (first | (with_reducible first | exact HB.out | apply below_alloc | apply pw_below_drewN | apply below_drew1 | refine below_set ?_ GE233.out | refine below_set ?_ GE234.out | refine below_set ?_ GE235.out) | exact HB.out)⟩
            ·rw [if_neg c65] at H
             have c65b0 : (t241 == t244) = false := beq_eq_false_iff_ne.mpr c65
             have c65b1 : (t241 != t244) = true := bne_iff_ne.mpr c65
             obtain rfl := Option.some.inj H
             try go_wp2
             have n0_ := Aside0.mk (blk_drew BK233.out)
             have n1_ := Aside0.mk (blk_drew BK234.out)
             have n2_ := Aside0.mk (blk_drew BK235.out)
             have n3_ := Aside0.mk (below_drew1 HB.out)
             clear BK233
             clear BK234
             clear BK235
             clear HB
             have BK233 := n0_
             have BK234 := n1_
             have BK235 := n2_
             have HB := n3_
             clear n0_ n1_ n2_ n3_
             refine start_ (n := 12) (S := fun w' => w'.cell? ⟨gb233, 0, none⟩ = some (.string a0_0) ∧ w'.cell? ⟨gb233, 1, none⟩ = some (.string a0_1) ∧ w'.cell? ⟨gb233, 2, none⟩ = some (.string a0_2) ∧ w'.cell? ⟨gb234, 0, none⟩ = some (.string x235000_44) ∧ w'.cell? ⟨gb234, 1, none⟩ = some (.string a1_1) ∧ w'.cell? ⟨gb234, 2, none⟩ = some (.string x235002_37) ∧ w'.cell? ⟨gb235, 0, none⟩ = some (.string x236000_51) ∧ w'.cell? ⟨gb235, 1, none⟩ = some (.string x236001_51) ∧ w'.cell? ⟨gb235, 2, none⟩ = some (.string x236002_51)) (ds := []) #[false,false,false,false,false,false,false,false,false,false,false,false] (by kernel_rfl) rfl rfl ⟨(blk_cell BK233.out 0).trans rfl, (blk_cell BK233.out 1).trans rfl, (blk_cell BK233.out 2).trans rfl, (blk_cell BK234.out 0).trans rfl, (blk_cell BK234.out 1).trans rfl, (blk_cell BK234.out 2).trans rfl, (blk_cell BK235.out 0).trans rfl, (blk_cell BK235.out 1).trans rfl, (blk_cell BK235.out 2).trans rfl⟩ (fun hHeld => ?_); refine with_tabW kerbsuitelaw1_PrincipalOrder.tab11 kerbsuitelaw1_PrincipalOrder.bits11 (fun HT_ HW_ => ?_)
             generalize wc.drew = w192 at BK233 BK234 BK235 HB hHeld ⊢
             refine take_ (i := 0) (N := some 40) (v := ?_) (a' := ?_) (bo_ 12 1) rfl rfl (take_ofW HT_.out HW_.out (by kernel_rfl)) (fun _ _ _ h => h) (Or.inl ⟨by rfl, ?_⟩) hHeld ?_ ?_
             rotate_left; (· rintro w' ⟨s0, s1, s2, s3, s4, s5, s6, s7, s8⟩; go_simp; with_reducible rfl)
             rotate_left; (· simp only [Act.put,List.setIfInBounds_toArray,List.set_cons_zero,List.set_cons_succ,i64_w,i32_w]; rfl)
             refine take_ (i := 1) (N := some 41) (v := ?_) (a' := ?_) (bo_ 12 3) rfl rfl (take_ofW HT_.out HW_.out (by kernel_rfl)) (fun _ _ _ h => h) (Or.inl ⟨by rfl, ?_⟩) hHeld ?_ ?_
             rotate_left; (· rintro w' ⟨s0, s1, s2, s3, s4, s5, s6, s7, s8⟩; go_simp; with_reducible rfl)
             rotate_left; (· simp only [Act.put,List.setIfInBounds_toArray,List.set_cons_zero,List.set_cons_succ,i64_w,i32_w]; rfl)
             refine take_ (i := 3) (N := some 43) (v := ?_) (a' := ?_) (bo_ 12 11) rfl rfl (take_ofW HT_.out HW_.out (by kernel_rfl)) (fun _ _ _ h => h) (Or.inl ⟨by rfl, ?_⟩) hHeld ?_ ?_
             rotate_left; (· rintro w' ⟨s0, s1, s2, s3, s4, s5, s6, s7, s8⟩; go_simp; with_reducible rfl)
             rotate_left; (· simp only [Act.put,List.setIfInBounds_toArray,List.set_cons_zero,List.set_cons_succ,i64_w,i32_w]; rfl)
             refine take_ (i := 4) (N := some 44) (v := ?_) (a' := ?_) (bo_ 12 27) rfl rfl (take_ofW HT_.out HW_.out (by kernel_rfl)) (fun _ _ _ h => h) (Or.inl ⟨by rfl, ?_⟩) hHeld ?_ ?_
             rotate_left; (· rintro w' ⟨s0, s1, s2, s3, s4, s5, s6, s7, s8⟩; go_simp; with_reducible rfl)
             rotate_left; (· simp only [Act.put,List.setIfInBounds_toArray,List.set_cons_zero,List.set_cons_succ,i64_w,i32_w]; rfl)
             refine take_ (i := 6) (N := some 46) (v := ?_) (a' := ?_) (bo_ 12 91) rfl rfl (take_ofW HT_.out HW_.out (by kernel_rfl)) (fun _ _ _ h => h) (Or.inl ⟨by rfl, ?_⟩) hHeld ?_ ?_
             rotate_left; (· rintro w' ⟨s0, s1, s2, s3, s4, s5, s6, s7, s8⟩; go_simp; with_reducible rfl)
             rotate_left; (· simp only [Act.put,List.setIfInBounds_toArray,List.set_cons_zero,List.set_cons_succ,i64_w,i32_w]; rfl)
             refine take_ (i := 7) (N := some 47) (v := ?_) (a' := ?_) (bo_ 12 219) rfl rfl (take_ofW HT_.out HW_.out (by kernel_rfl)) (fun _ _ _ h => h) (Or.inl ⟨by rfl, ?_⟩) hHeld ?_ ?_
             rotate_left; (· rintro w' ⟨s0, s1, s2, s3, s4, s5, s6, s7, s8⟩; go_simp; with_reducible rfl)
             rotate_left; (· simp only [Act.put,List.setIfInBounds_toArray,List.set_cons_zero,List.set_cons_succ,i64_w,i32_w]; rfl)
             refine one_ (i := 2) (N := some 42) (bo_ 12 223) rfl rfl (one_of HT_.out (by kernel_rfl)) (by decide) (fun K hK => ?_)
             refine goes_ Try.func25 (by kernel_rfl) rfl #[.agg #[.string a0_0, .string a0_1, .string a0_2], .agg #[.string x235000_44, .string a1_1, .string x235002_37]] (by rfl) rfl rfl (by (try simp only [List.map_toArray, List.map_cons, List.map_nil]); first | done | rfl | (simp only [List.length_drop, List.length_take]; rfl)) ?_
             with_reducible refine (principal_Compare.calls a0_0 a0_1 a0_2 x235000_44 a1_1 x235002_37 t240 _ A59.out).mono ?_
             rintro e w193 ⟨rfl, hb⟩
             refine ⟨_, rfl, ?_⟩
             have n0_ := Aside0.mk (blk_below (g := gb233) (o := .cells #[.string a0_0, .string a0_1, .string a0_2] 23 (0, 0)) (by (with_reducible repeat (first | refine blk_drewN ?_ _ | refine blk_drew ?_ | refine blk_alloc ?_ _)); exact BK233.out) hb)
             have n1_ := Aside0.mk (blk_below (g := gb234) (o := .cells #[.string x235000_44, .string a1_1, .string x235002_37] 23 (0, 0)) (by (with_reducible repeat (first | refine blk_drewN ?_ _ | refine blk_drew ?_ | refine blk_alloc ?_ _)); exact BK234.out) hb)
             have n2_ := Aside0.mk (blk_below (g := gb235) (o := .cells #[.string x236000_51, .string x236001_51, .string x236002_51] 23 (0, 0)) (by (with_reducible repeat (first | refine blk_drewN ?_ _ | refine blk_drew ?_ | refine blk_alloc ?_ _)); exact BK235.out) hb)
             have n3_ := Aside0.mk (below_step (by repeat (first | (with_reducible first | exact HB.out | apply below_alloc | apply pw_below_drewN | apply below_drew1 | refine below_set ?_ GE233.out | refine below_set ?_ GE234.out | refine below_set ?_ GE235.out) | exact HB.out)) hb)
             clear BK233
             clear BK234
             clear BK235
             clear HB
             have BK233 := n0_
             have BK234 := n1_
             have BK235 := n2_
             have HB := n3_
             clear n0_ n1_ n2_ n3_
             (try clear hb)
             (try clear hb2)
             (try clear hk)
             (try clear hi)
             refine hK.out _ _ ⟨(blk_cell BK233.out 0).trans rfl, (blk_cell BK233.out 1).trans rfl, (blk_cell BK233.out 2).trans rfl, (blk_cell BK234.out 0).trans rfl, (blk_cell BK234.out 1).trans rfl, (blk_cell BK234.out 2).trans rfl, (blk_cell BK235.out 0).trans rfl, (blk_cell BK235.out 1).trans rfl, (blk_cell BK235.out 2).trans rfl⟩ (fun hHeld => ?_)
             clear hK K
             refine norm_ (a' := ?_) ?_ ?_
             rotate_left; (· show Act.put _ (some 42) _ = _; simp only [Act.put,List.setIfInBounds_toArray,List.set_cons_zero,List.set_cons_succ,i64_w,i32_w]; rfl)
             refine one_ (i := 5) (N := some 45) (bo_ 12 255) rfl rfl (one_of HT_.out (by kernel_rfl)) (by decide) (fun K hK => ?_)
             refine goes_ Try.func25 (by kernel_rfl) rfl #[.agg #[.string x235000_44, .string a1_1, .string x235002_37], .agg #[.string x236000_51, .string x236001_51, .string x236002_51]] (by rfl) rfl rfl (by (try simp only [List.map_toArray, List.map_cons, List.map_nil]); first | done | rfl | (simp only [List.length_drop, List.length_take]; rfl)) ?_
             with_reducible refine (principal_Compare.calls x235000_44 a1_1 x235002_37 x236000_51 x236001_51 x236002_51 t241 _ A60.out).mono ?_
             rintro e w194 ⟨rfl, hb⟩
             refine ⟨_, rfl, ?_⟩
             have n0_ := Aside0.mk (blk_below (g := gb233) (o := .cells #[.string a0_0, .string a0_1, .string a0_2] 23 (0, 0)) (by (with_reducible repeat (first | refine blk_drewN ?_ _ | refine blk_drew ?_ | refine blk_alloc ?_ _)); exact BK233.out) hb)
             have n1_ := Aside0.mk (blk_below (g := gb234) (o := .cells #[.string x235000_44, .string a1_1, .string x235002_37] 23 (0, 0)) (by (with_reducible repeat (first | refine blk_drewN ?_ _ | refine blk_drew ?_ | refine blk_alloc ?_ _)); exact BK234.out) hb)
             have n2_ := Aside0.mk (blk_below (g := gb235) (o := .cells #[.string x236000_51, .string x236001_51, .string x236002_51] 23 (0, 0)) (by (with_reducible repeat (first | refine blk_drewN ?_ _ | refine blk_drew ?_ | refine blk_alloc ?_ _)); exact BK235.out) hb)
             have n3_ := Aside0.mk (below_step (by repeat (first | (with_reducible first | exact HB.out | apply below_alloc | apply pw_below_drewN | apply below_drew1 | refine below_set ?_ GE233.out | refine below_set ?_ GE234.out | refine below_set ?_ GE235.out) | exact HB.out)) hb)
             clear BK233
             clear BK234
             clear BK235
             clear HB
             have BK233 := n0_
             have BK234 := n1_
             have BK235 := n2_
             have HB := n3_
             clear n0_ n1_ n2_ n3_
             (try clear hb)
             (try clear hb2)
             (try clear hk)
             (try clear hi)
             refine hK.out _ _ ⟨(blk_cell BK233.out 0).trans rfl, (blk_cell BK233.out 1).trans rfl, (blk_cell BK233.out 2).trans rfl, (blk_cell BK234.out 0).trans rfl, (blk_cell BK234.out 1).trans rfl, (blk_cell BK234.out 2).trans rfl, (blk_cell BK235.out 0).trans rfl, (blk_cell BK235.out 1).trans rfl, (blk_cell BK235.out 2).trans rfl⟩ (fun hHeld => ?_)
             clear hK K
             refine norm_ (a' := ?_) ?_ ?_
             rotate_left; (· show Act.put _ (some 45) _ = _; simp only [Act.put,List.setIfInBounds_toArray,List.set_cons_zero,List.set_cons_succ,i64_w,i32_w]; rfl)
             refine one_ (i := 8) (N := some 48) (bo_ 12 511) rfl rfl (one_of HT_.out (by kernel_rfl)) (by decide) (fun K hK => ?_)
             refine goes_ Try.func25 (by kernel_rfl) rfl #[.agg #[.string a0_0, .string a0_1, .string a0_2], .agg #[.string x236000_51, .string x236001_51, .string x236002_51]] (by rfl) rfl rfl (by (try simp only [List.map_toArray, List.map_cons, List.map_nil]); first | done | rfl | (simp only [List.length_drop, List.length_take]; rfl)) ?_
             with_reducible refine (principal_Compare.calls a0_0 a0_1 a0_2 x236000_51 x236001_51 x236002_51 t242 _ A61.out).mono ?_
             rintro e w195 ⟨rfl, hb⟩
             refine ⟨_, rfl, ?_⟩
             have n0_ := Aside0.mk (blk_below (g := gb233) (o := .cells #[.string a0_0, .string a0_1, .string a0_2] 23 (0, 0)) (by (with_reducible repeat (first | refine blk_drewN ?_ _ | refine blk_drew ?_ | refine blk_alloc ?_ _)); exact BK233.out) hb)
             have n1_ := Aside0.mk (blk_below (g := gb234) (o := .cells #[.string x235000_44, .string a1_1, .string x235002_37] 23 (0, 0)) (by (with_reducible repeat (first | refine blk_drewN ?_ _ | refine blk_drew ?_ | refine blk_alloc ?_ _)); exact BK234.out) hb)
             have n2_ := Aside0.mk (blk_below (g := gb235) (o := .cells #[.string x236000_51, .string x236001_51, .string x236002_51] 23 (0, 0)) (by (with_reducible repeat (first | refine blk_drewN ?_ _ | refine blk_drew ?_ | refine blk_alloc ?_ _)); exact BK235.out) hb)
             have n3_ := Aside0.mk (below_step (by repeat (first | (with_reducible first | exact HB.out | apply below_alloc | apply pw_below_drewN | apply below_drew1 | refine below_set ?_ GE233.out | refine below_set ?_ GE234.out | refine below_set ?_ GE235.out) | exact HB.out)) hb)
             clear BK233
             clear BK234
             clear BK235
             clear HB
             have BK233 := n0_
             have BK234 := n1_
             have BK235 := n2_
             have HB := n3_
             clear n0_ n1_ n2_ n3_
             (try clear hb)
             (try clear hb2)
             (try clear hk)
             (try clear hi)
             refine hK.out _ _ ⟨(blk_cell BK233.out 0).trans rfl, (blk_cell BK233.out 1).trans rfl, (blk_cell BK233.out 2).trans rfl, (blk_cell BK234.out 0).trans rfl, (blk_cell BK234.out 1).trans rfl, (blk_cell BK234.out 2).trans rfl, (blk_cell BK235.out 0).trans rfl, (blk_cell BK235.out 1).trans rfl, (blk_cell BK235.out 2).trans rfl⟩ (fun hHeld => ?_)
             clear hK K
             refine norm_ (a' := ?_) ?_ ?_
             rotate_left; (· show Act.put _ (some 48) _ = _; simp only [Act.put,List.setIfInBounds_toArray,List.set_cons_zero,List.set_cons_succ,i64_w,i32_w]; rfl)
             refine pure_ (i := 9) (N := some 9) (v := ?_) (a' := ?_) (bo_ 12 1023) rfl rfl (any_of HT_.out (by kernel_rfl)) (fun _ _ _ h => h) (Or.inl ⟨by rfl, ?_⟩) ?_ ?_
             rotate_left; (· intro w'; go_simp; with_reducible rfl)
             rotate_left; (· simp only [Act.put,List.setIfInBounds_toArray,List.set_cons_zero,List.set_cons_succ,i64_w,i32_w]; rfl)
             refine pure_ (i := 10) (N := some 10) (v := ?_) (a' := ?_) (bo_ 12 2047) rfl rfl (any_of HT_.out (by kernel_rfl)) (fun _ _ _ h => h) (Or.inl ⟨by rfl, ?_⟩) ?_ ?_
             rotate_left; (· intro w'; go_simp; with_reducible rfl)
             rotate_left; (· simp only [Act.put,List.setIfInBounds_toArray,List.set_cons_zero,List.set_cons_succ,i64_w,i32_w]; rfl)
             refine pure_ (i := 11) (N := some 11) (v := ?_) (a' := ?_) (bo_ 12 4095) rfl rfl (any_of HT_.out (by kernel_rfl)) (fun _ _ _ h => h) (Or.inl ⟨by rfl, ?_⟩) ?_ ?_
             rotate_left; (· intro w'; go_simp; with_reducible rfl)
             rotate_left; (· simp only [Act.put,List.setIfInBounds_toArray,List.set_cons_zero,List.set_cons_succ,i64_w,i32_w]; rfl)
             refine done_ (done_of HT_.out (by kernel_rfl)) ?_
             have hnb196 := NB233_234.out
             have hnc196 := NB234_233.out
             have hnb197 := NB233_235.out
             have hnc197 := NB235_233.out
             have hcz198_0 : w195.cell? ⟨gb233, 0, none⟩ = some (.string a0_0) := (blk_cell BK233.out 0).trans rfl
             have hcz198_1 : w195.cell? ⟨gb233, 1, none⟩ = some (.string a0_1) := (blk_cell BK233.out 1).trans rfl
             have hcz198_2 : w195.cell? ⟨gb233, 2, none⟩ = some (.string a0_2) := (blk_cell BK233.out 2).trans rfl
             have hfz198_0 := blk_frozen BK233.out 0
             have hfz198_1 := blk_frozen BK233.out 1
             have hfz198_2 := blk_frozen BK233.out 2
             have hnb199 := NB234_235.out
             have hnc199 := NB235_234.out
             have hcz200_0 : w195.cell? ⟨gb234, 0, none⟩ = some (.string x235000_44) := (blk_cell BK234.out 0).trans rfl
             have hcz200_1 : w195.cell? ⟨gb234, 1, none⟩ = some (.string a1_1) := (blk_cell BK234.out 1).trans rfl
             have hcz200_2 : w195.cell? ⟨gb234, 2, none⟩ = some (.string x235002_37) := (blk_cell BK234.out 2).trans rfl
             have hfz200_0 := blk_frozen BK234.out 0
             have hfz200_1 := blk_frozen BK234.out 1
             have hfz200_2 := blk_frozen BK234.out 2
             try go_wp2_with (first | ((with_reducible refine gate_callee (f := 26) rfl ?_); refine goesL_ (some 52) rfl rfl Try.func26 (by kernel_rfl) rfl #[.agg #[.string a0_0, .string a0_1, .string a0_2], .agg #[.string x235000_44, .string a1_1, .string x235002_37]] rfl (by (try simp only [List.map_toArray, List.map_cons, List.map_nil]); first | done | rfl | (simp only [List.length_drop, List.length_take]; rfl)) ?_; (with_reducible refine (kerbsuiteref1_Compare.calls a0_0 a0_1 a0_2 x235000_44 a1_1 x235002_37 t243 _ A62.out).mono ?_); rintro e w201 ⟨rfl, hb⟩; refine ⟨_, rfl, ?_⟩; have n0_ := Aside0.mk (blk_below (g := gb233) (o := .cells #[.string a0_0, .string a0_1, .string a0_2] 23 (0, 0)) (by (with_reducible repeat (first | refine blk_drewN ?_ _ | refine blk_drew ?_ | refine blk_alloc ?_ _)); exact BK233.out) hb); have n1_ := Aside0.mk (blk_below (g := gb234) (o := .cells #[.string x235000_44, .string a1_1, .string x235002_37] 23 (0, 0)) (by (with_reducible repeat (first | refine blk_drewN ?_ _ | refine blk_drew ?_ | refine blk_alloc ?_ _)); exact BK234.out) hb); have n2_ := Aside0.mk (blk_below (g := gb235) (o := .cells #[.string x236000_51, .string x236001_51, .string x236002_51] 23 (0, 0)) (by (with_reducible repeat (first | refine blk_drewN ?_ _ | refine blk_drew ?_ | refine blk_alloc ?_ _)); exact BK235.out) hb); have n3_ := Aside0.mk (below_step (by repeat (first | (with_reducible first | exact HB.out | apply below_alloc | apply pw_below_drewN | apply below_drew1 | refine below_set ?_ GE233.out | refine below_set ?_ GE234.out | refine below_set ?_ GE235.out) | exact HB.out)) hb); clear BK233; clear BK234; clear BK235; clear HB; have BK233 := n0_; have BK234 := n1_; have BK235 := n2_; have HB := n3_; clear n0_ n1_ n2_ n3_; (try clear hb); (try clear hb2); (try clear hk); (try clear hi); have hcz202_0 : w201.cell? ⟨gb234, 0, none⟩ = some (.string x235000_44) := (blk_cell BK234.out 0).trans rfl; have hcz202_1 : w201.cell? ⟨gb234, 1, none⟩ = some (.string a1_1) := (blk_cell BK234.out 1).trans rfl; have hcz202_2 : w201.cell? ⟨gb234, 2, none⟩ = some (.string x235002_37) := (blk_cell BK234.out 2).trans rfl; have hfz202_0 := blk_frozen BK234.out 0; have hfz202_1 := blk_frozen BK234.out 1; have hfz202_2 := blk_frozen BK234.out 2; have hcz203_0 : w201.cell? ⟨gb235, 0, none⟩ = some (.string x236000_51) := (blk_cell BK235.out 0).trans rfl; have hcz203_1 : w201.cell? ⟨gb235, 1, none⟩ = some (.string x236001_51) := (blk_cell BK235.out 1).trans rfl; have hcz203_2 : w201.cell? ⟨gb235, 2, none⟩ = some (.string x236002_51) := (blk_cell BK235.out 2).trans rfl; have hfz203_0 := blk_frozen BK235.out 0; have hfz203_1 := blk_frozen BK235.out 1; have hfz203_2 := blk_frozen BK235.out 2) | (go_at_call 26; (with_reducible refine (kerbsuiteref1_Compare.calls x235000_44 a1_1 x235002_37 x236000_51 x236001_51 x236002_51 t244 _ A64.out).mono ?_); rintro e w204 ⟨rfl, hb⟩; have n0_ := Aside0.mk (blk_below (g := gb233) (o := .cells #[.string a0_0, .string a0_1, .string a0_2] 23 (0, 0)) (by (with_reducible repeat (first | refine blk_drewN ?_ _ | refine blk_drew ?_ | refine blk_alloc ?_ _)); exact BK233.out) hb); have n1_ := Aside0.mk (blk_below (g := gb234) (o := .cells #[.string x235000_44, .string a1_1, .string x235002_37] 23 (0, 0)) (by (with_reducible repeat (first | refine blk_drewN ?_ _ | refine blk_drew ?_ | refine blk_alloc ?_ _)); exact BK234.out) hb); have n2_ := Aside0.mk (blk_below (g := gb235) (o := .cells #[.string x236000_51, .string x236001_51, .string x236002_51] 23 (0, 0)) (by (with_reducible repeat (first | refine blk_drewN ?_ _ | refine blk_drew ?_ | refine blk_alloc ?_ _)); exact BK235.out) hb); have n3_ := Aside0.mk (below_step (by repeat (first | (with_reducible first | exact HB.out | apply below_alloc | apply pw_below_drewN | apply below_drew1 | refine below_set ?_ GE233.out | refine below_set ?_ GE234.out | refine below_set ?_ GE235.out) | exact HB.out)) hb); clear BK233; clear BK234; clear BK235; clear HB; have BK233 := n0_; have BK234 := n1_; have BK235 := n2_; have HB := n3_; clear n0_ n1_ n2_ n3_; (try clear hb); (try clear hb2); (try clear hk); (try clear hi)))
             go_ret
             exact ⟨by first | rfl | (simp [errW_none, errW_some] <;> rfl) | (simp [*, errW_none, errW_some] <;> rfl), by repeat (first | (with_reducible first | exact HB.out | apply below_alloc | apply pw_below_drewN | apply below_drew1 | refine below_set ?_ GE233.out | refine below_set ?_ GE234.out | refine below_set ?_ GE235.out) | exact HB.out)⟩
           ·rw [if_neg c63] at H
            have c63b0 : (t240 == t243) = false := beq_eq_false_iff_ne.mpr c63
            have c63b1 : (t240 != t243) = true := bne_iff_ne.mpr c63
            obtain rfl := Option.some.inj H
            try go_wp2
            have n0_ := Aside0.mk (blk_drew BK233.out)
            have n1_ := Aside0.mk (blk_drew BK234.out)
            have n2_ := Aside0.mk (blk_drew BK235.out)
            have n3_ := Aside0.mk (below_drew1 HB.out)
            clear BK233
            clear BK234
            clear BK235
            clear HB
            have BK233 := n0_
            have BK234 := n1_
            have BK235 := n2_
            have HB := n3_
            clear n0_ n1_ n2_ n3_
            refine start_ (n := 12) (S := fun w' => w'.cell? ⟨gb233, 0, none⟩ = some (.string a0_0) ∧ w'.cell? ⟨gb233, 1, none⟩ = some (.string a0_1) ∧ w'.cell? ⟨gb233, 2, none⟩ = some (.string a0_2) ∧ w'.cell? ⟨gb234, 0, none⟩ = some (.string x235000_44) ∧ w'.cell? ⟨gb234, 1, none⟩ = some (.string a1_1) ∧ w'.cell? ⟨gb234, 2, none⟩ = some (.string x235002_37) ∧ w'.cell? ⟨gb235, 0, none⟩ = some (.string x236000_51) ∧ w'.cell? ⟨gb235, 1, none⟩ = some (.string x236001_51) ∧ w'.cell? ⟨gb235, 2, none⟩ = some (.string x236002_51)) (ds := []) #[false,false,false,false,false,false,false,false,false,false,false,false] (by kernel_rfl) rfl rfl ⟨(blk_cell BK233.out 0).trans rfl, (blk_cell BK233.out 1).trans rfl, (blk_cell BK233.out 2).trans rfl, (blk_cell BK234.out 0).trans rfl, (blk_cell BK234.out 1).trans rfl, (blk_cell BK234.out 2).trans rfl, (blk_cell BK235.out 0).trans rfl, (blk_cell BK235.out 1).trans rfl, (blk_cell BK235.out 2).trans rfl⟩ (fun hHeld => ?_); refine with_tabW kerbsuitelaw1_PrincipalOrder.tab11 kerbsuitelaw1_PrincipalOrder.bits11 (fun HT_ HW_ => ?_)
            generalize wc.drew = w205 at BK233 BK234 BK235 HB hHeld ⊢
            refine take_ (i := 0) (N := some 40) (v := ?_) (a' := ?_) (bo_ 12 1) rfl rfl (take_ofW HT_.out HW_.out (by kernel_rfl)) (fun _ _ _ h => h) (Or.inl ⟨by rfl, ?_⟩) hHeld ?_ ?_
            rotate_left; (· rintro w' ⟨s0, s1, s2, s3, s4, s5, s6, s7, s8⟩; go_simp; with_reducible rfl)
            rotate_left; (· simp only [Act.put,List.setIfInBounds_toArray,List.set_cons_zero,List.set_cons_succ,i64_w,i32_w]; rfl)
            refine take_ (i := 1) (N := some 41) (v := ?_) (a' := ?_) (bo_ 12 3) rfl rfl (take_ofW HT_.out HW_.out (by kernel_rfl)) (fun _ _ _ h => h) (Or.inl ⟨by rfl, ?_⟩) hHeld ?_ ?_
            rotate_left; (· rintro w' ⟨s0, s1, s2, s3, s4, s5, s6, s7, s8⟩; go_simp; with_reducible rfl)
            rotate_left; (· simp only [Act.put,List.setIfInBounds_toArray,List.set_cons_zero,List.set_cons_succ,i64_w,i32_w]; rfl)
            refine take_ (i := 3) (N := some 43) (v := ?_) (a' := ?_) (bo_ 12 11) rfl rfl (take_ofW HT_.out HW_.out (by kernel_rfl)) (fun _ _ _ h => h) (Or.inl ⟨by rfl, ?_⟩) hHeld ?_ ?_
            rotate_left; (· rintro w' ⟨s0, s1, s2, s3, s4, s5, s6, s7, s8⟩; go_simp; with_reducible rfl)
            rotate_left; (· simp only [Act.put,List.setIfInBounds_toArray,List.set_cons_zero,List.set_cons_succ,i64_w,i32_w]; rfl)
            refine take_ (i := 4) (N := some 44) (v := ?_) (a' := ?_) (bo_ 12 27) rfl rfl (take_ofW HT_.out HW_.out (by kernel_rfl)) (fun _ _ _ h => h) (Or.inl ⟨by rfl, ?_⟩) hHeld ?_ ?_
            rotate_left; (· rintro w' ⟨s0, s1, s2, s3, s4, s5, s6, s7, s8⟩; go_simp; with_reducible rfl)
            rotate_left; (· simp only [Act.put,List.setIfInBounds_toArray,List.set_cons_zero,List.set_cons_succ,i64_w,i32_w]; rfl)
            refine take_ (i := 6) (N := some 46) (v := ?_) (a' := ?_) (bo_ 12 91) rfl rfl (take_ofW HT_.out HW_.out (by kernel_rfl)) (fun _ _ _ h => h) (Or.inl ⟨by rfl, ?_⟩) hHeld ?_ ?_
            rotate_left; (· rintro w' ⟨s0, s1, s2, s3, s4, s5, s6, s7, s8⟩; go_simp; with_reducible rfl)
            rotate_left; (· simp only [Act.put,List.setIfInBounds_toArray,List.set_cons_zero,List.set_cons_succ,i64_w,i32_w]; rfl)
            refine take_ (i := 7) (N := some 47) (v := ?_) (a' := ?_) (bo_ 12 219) rfl rfl (take_ofW HT_.out HW_.out (by kernel_rfl)) (fun _ _ _ h => h) (Or.inl ⟨by rfl, ?_⟩) hHeld ?_ ?_
            rotate_left; (· rintro w' ⟨s0, s1, s2, s3, s4, s5, s6, s7, s8⟩; go_simp; with_reducible rfl)
            rotate_left; (· simp only [Act.put,List.setIfInBounds_toArray,List.set_cons_zero,List.set_cons_succ,i64_w,i32_w]; rfl)
            refine one_ (i := 2) (N := some 42) (bo_ 12 223) rfl rfl (one_of HT_.out (by kernel_rfl)) (by decide) (fun K hK => ?_)
            refine goes_ Try.func25 (by kernel_rfl) rfl #[.agg #[.string a0_0, .string a0_1, .string a0_2], .agg #[.string x235000_44, .string a1_1, .string x235002_37]] (by rfl) rfl rfl (by (try simp only [List.map_toArray, List.map_cons, List.map_nil]); first | done | rfl | (simp only [List.length_drop, List.length_take]; rfl)) ?_
            with_reducible refine (principal_Compare.calls a0_0 a0_1 a0_2 x235000_44 a1_1 x235002_37 t240 _ A59.out).mono ?_
            rintro e w206 ⟨rfl, hb⟩
            refine ⟨_, rfl, ?_⟩
            have n0_ := Aside0.mk (blk_below (g := gb233) (o := .cells #[.string a0_0, .string a0_1, .string a0_2] 23 (0, 0)) (by (with_reducible repeat (first | refine blk_drewN ?_ _ | refine blk_drew ?_ | refine blk_alloc ?_ _)); exact BK233.out) hb)
            have n1_ := Aside0.mk (blk_below (g := gb234) (o := .cells #[.string x235000_44, .string a1_1, .string x235002_37] 23 (0, 0)) (by (with_reducible repeat (first | refine blk_drewN ?_ _ | refine blk_drew ?_ | refine blk_alloc ?_ _)); exact BK234.out) hb)
            have n2_ := Aside0.mk (blk_below (g := gb235) (o := .cells #[.string x236000_51, .string x236001_51, .string x236002_51] 23 (0, 0)) (by (with_reducible repeat (first | refine blk_drewN ?_ _ | refine blk_drew ?_ | refine blk_alloc ?_ _)); exact BK235.out) hb)
            have n3_ := Aside0.mk (below_step (by repeat (first | (with_reducible first | exact HB.out | apply below_alloc | apply pw_below_drewN | apply below_drew1 | refine below_set ?_ GE233.out | refine below_set ?_ GE234.out | refine below_set ?_ GE235.out) | exact HB.out)) hb)
            clear BK233
            clear BK234
            clear BK235
            clear HB
            have BK233 := n0_
            have BK234 := n1_
            have BK235 := n2_
            have HB := n3_
            clear n0_ n1_ n2_ n3_
            (try clear hb)
            (try clear hb2)
            (try clear hk)
            (try clear hi)
            refine hK.out _ _ ⟨(blk_cell BK233.out 0).trans rfl, (blk_cell BK233.out 1).trans rfl, (blk_cell BK233.out 2).trans rfl, (blk_cell BK234.out 0).trans rfl, (blk_cell BK234.out 1).trans rfl, (blk_cell BK234.out 2).trans rfl, (blk_cell BK235.out 0).trans rfl, (blk_cell BK235.out 1).trans rfl, (blk_cell BK235.out 2).trans rfl⟩ (fun hHeld => ?_)
            clear hK K
            refine norm_ (a' := ?_) ?_ ?_
            rotate_left; (· show Act.put _ (some 42) _ = _; simp only [Act.put,List.setIfInBounds_toArray,List.set_cons_zero,List.set_cons_succ,i64_w,i32_w]; rfl)
            refine one_ (i := 5) (N := some 45) (bo_ 12 255) rfl rfl (one_of HT_.out (by kernel_rfl)) (by decide) (fun K hK => ?_)
            refine goes_ Try.func25 (by kernel_rfl) rfl #[.agg #[.string x235000_44, .string a1_1, .string x235002_37], .agg #[.string x236000_51, .string x236001_51, .string x236002_51]] (by rfl) rfl rfl (by (try simp only [List.map_toArray, List.map_cons, List.map_nil]); first | done | rfl | (simp only [List.length_drop, List.length_take]; rfl)) ?_
            with_reducible refine (principal_Compare.calls x235000_44 a1_1 x235002_37 x236000_51 x236001_51 x236002_51 t241 _ A60.out).mono ?_
            rintro e w207 ⟨rfl, hb⟩
            refine ⟨_, rfl, ?_⟩
            have n0_ := Aside0.mk (blk_below (g := gb233) (o := .cells #[.string a0_0, .string a0_1, .string a0_2] 23 (0, 0)) (by (with_reducible repeat (first | refine blk_drewN ?_ _ | refine blk_drew ?_ | refine blk_alloc ?_ _)); exact BK233.out) hb)
            have n1_ := Aside0.mk (blk_below (g := gb234) (o := .cells #[.string x235000_44, .string a1_1, .string x235002_37] 23 (0, 0)) (by (with_reducible repeat (first | refine blk_drewN ?_ _ | refine blk_drew ?_ | refine blk_alloc ?_ _)); exact BK234.out) hb)
            have n2_ := Aside0.mk (blk_below (g := gb235) (o := .cells #[.string x236000_51, .string x236001_51, .string x236002_51] 23 (0, 0)) (by (with_reducible repeat (first | refine blk_drewN ?_ _ | refine blk_drew ?_ | refine blk_alloc ?_ _)); exact BK235.out) hb)
            have n3_ := Aside0.mk (below_step (by repeat (first | (with_reducible first | exact HB.out | apply below_alloc | apply pw_below_drewN | apply below_drew1 | refine below_set ?_ GE233.out | refine below_set ?_ GE234.out | refine below_set ?_ GE235.out) | exact HB.out)) hb)
            clear BK233
            clear BK234
            clear BK235
            clear HB
            have BK233 := n0_
            have BK234 := n1_
            have BK235 := n2_
            have HB := n3_
            clear n0_ n1_ n2_ n3_
            (try clear hb)
            (try clear hb2)
            (try clear hk)
            (try clear hi)
            refine hK.out _ _ ⟨(blk_cell BK233.out 0).trans rfl, (blk_cell BK233.out 1).trans rfl, (blk_cell BK233.out 2).trans rfl, (blk_cell BK234.out 0).trans rfl, (blk_cell BK234.out 1).trans rfl, (blk_cell BK234.out 2).trans rfl, (blk_cell BK235.out 0).trans rfl, (blk_cell BK235.out 1).trans rfl, (blk_cell BK235.out 2).trans rfl⟩ (fun hHeld => ?_)
            clear hK K
            refine norm_ (a' := ?_) ?_ ?_
            rotate_left; (· show Act.put _ (some 45) _ = _; simp only [Act.put,List.setIfInBounds_toArray,List.set_cons_zero,List.set_cons_succ,i64_w,i32_w]; rfl)
            refine one_ (i := 8) (N := some 48) (bo_ 12 511) rfl rfl (one_of HT_.out (by kernel_rfl)) (by decide) (fun K hK => ?_)
            refine goes_ Try.func25 (by kernel_rfl) rfl #[.agg #[.string a0_0, .string a0_1, .string a0_2], .agg #[.string x236000_51, .string x236001_51, .string x236002_51]] (by rfl) rfl rfl (by (try simp only [List.map_toArray, List.map_cons, List.map_nil]); first | done | rfl | (simp only [List.length_drop, List.length_take]; rfl)) ?_
            with_reducible refine (principal_Compare.calls a0_0 a0_1 a0_2 x236000_51 x236001_51 x236002_51 t242 _ A61.out).mono ?_
            rintro e w208 ⟨rfl, hb⟩
            refine ⟨_, rfl, ?_⟩
            have n0_ := Aside0.mk (blk_below (g := gb233) (o := .cells #[.string a0_0, .string a0_1, .string a0_2] 23 (0, 0)) (by (with_reducible repeat (first | refine blk_drewN ?_ _ | refine blk_drew ?_ | refine blk_alloc ?_ _)); exact BK233.out) hb)
            have n1_ := Aside0.mk (blk_below (g := gb234) (o := .cells #[.string x235000_44, .string a1_1, .string x235002_37] 23 (0, 0)) (by (with_reducible repeat (first | refine blk_drewN ?_ _ | refine blk_drew ?_ | refine blk_alloc ?_ _)); exact BK234.out) hb)
            have n2_ := Aside0.mk (blk_below (g := gb235) (o := .cells #[.string x236000_51, .string x236001_51, .string x236002_51] 23 (0, 0)) (by (with_reducible repeat (first | refine blk_drewN ?_ _ | refine blk_drew ?_ | refine blk_alloc ?_ _)); exact BK235.out) hb)
            have n3_ := Aside0.mk (below_step (by repeat (first | (with_reducible first | exact HB.out | apply below_alloc | apply pw_below_drewN | apply below_drew1 | refine below_set ?_ GE233.out | refine below_set ?_ GE234.out | refine below_set ?_ GE235.out) | exact HB.out)) hb)
            clear BK233
            clear BK234
            clear BK235
            clear HB
            have BK233 := n0_
            have BK234 := n1_
            have BK235 := n2_
            have HB := n3_
            clear n0_ n1_ n2_ n3_
            (try clear hb)
            (try clear hb2)
            (try clear hk)
            (try clear hi)
            refine hK.out _ _ ⟨(blk_cell BK233.out 0).trans rfl, (blk_cell BK233.out 1).trans rfl, (blk_cell BK233.out 2).trans rfl, (blk_cell BK234.out 0).trans rfl, (blk_cell BK234.out 1).trans rfl, (blk_cell BK234.out 2).trans rfl, (blk_cell BK235.out 0).trans rfl, (blk_cell BK235.out 1).trans rfl, (blk_cell BK235.out 2).trans rfl⟩ (fun hHeld => ?_)
            clear hK K
            refine norm_ (a' := ?_) ?_ ?_
            rotate_left; (· show Act.put _ (some 48) _ = _; simp only [Act.put,List.setIfInBounds_toArray,List.set_cons_zero,List.set_cons_succ,i64_w,i32_w]; rfl)
            refine pure_ (i := 9) (N := some 9) (v := ?_) (a' := ?_) (bo_ 12 1023) rfl rfl (any_of HT_.out (by kernel_rfl)) (fun _ _ _ h => h) (Or.inl ⟨by rfl, ?_⟩) ?_ ?_
            rotate_left; (· intro w'; go_simp; with_reducible rfl)
            rotate_left; (· simp only [Act.put,List.setIfInBounds_toArray,List.set_cons_zero,List.set_cons_succ,i64_w,i32_w]; rfl)
            refine pure_ (i := 10) (N := some 10) (v := ?_) (a' := ?_) (bo_ 12 2047) rfl rfl (any_of HT_.out (by kernel_rfl)) (fun _ _ _ h => h) (Or.inl ⟨by rfl, ?_⟩) ?_ ?_
            rotate_left; (· intro w'; go_simp; with_reducible rfl)
            rotate_left; (· simp only [Act.put,List.setIfInBounds_toArray,List.set_cons_zero,List.set_cons_succ,i64_w,i32_w]; rfl)
            refine pure_ (i := 11) (N := some 11) (v := ?_) (a' := ?_) (bo_ 12 4095) rfl rfl (any_of HT_.out (by kernel_rfl)) (fun _ _ _ h => h) (Or.inl ⟨by rfl, ?_⟩) ?_ ?_
            rotate_left; (· intro w'; go_simp; with_reducible rfl)
            rotate_left; (· simp only [Act.put,List.setIfInBounds_toArray,List.set_cons_zero,List.set_cons_succ,i64_w,i32_w]; rfl)
            refine done_ (done_of HT_.out (by kernel_rfl)) ?_
            have hnb209 := NB233_234.out
            have hnc209 := NB234_233.out
            have hnb210 := NB233_235.out
            have hnc210 := NB235_233.out
            have hcz211_0 : w208.cell? ⟨gb233, 0, none⟩ = some (.string a0_0) := (blk_cell BK233.out 0).trans rfl
            have hcz211_1 : w208.cell? ⟨gb233, 1, none⟩ = some (.string a0_1) := (blk_cell BK233.out 1).trans rfl
            have hcz211_2 : w208.cell? ⟨gb233, 2, none⟩ = some (.string a0_2) := (blk_cell BK233.out 2).trans rfl
            have hfz211_0 := blk_frozen BK233.out 0
            have hfz211_1 := blk_frozen BK233.out 1
            have hfz211_2 := blk_frozen BK233.out 2
            have hnb212 := NB234_235.out
            have hnc212 := NB235_234.out
            have hcz213_0 : w208.cell? ⟨gb234, 0, none⟩ = some (.string x235000_44) := (blk_cell BK234.out 0).trans rfl
            have hcz213_1 : w208.cell? ⟨gb234, 1, none⟩ = some (.string a1_1) := (blk_cell BK234.out 1).trans rfl
            have hcz213_2 : w208.cell? ⟨gb234, 2, none⟩ = some (.string x235002_37) := (blk_cell BK234.out 2).trans rfl
            have hfz213_0 := blk_frozen BK234.out 0
            have hfz213_1 := blk_frozen BK234.out 1
            have hfz213_2 := blk_frozen BK234.out 2
            try go_wp2_with (first | ((with_reducible refine gate_callee (f := 26) rfl ?_); refine goesL_ (some 52) rfl rfl Try.func26 (by kernel_rfl) rfl #[.agg #[.string a0_0, .string a0_1, .string a0_2], .agg #[.string x235000_44, .string a1_1, .string x235002_37]] rfl (by (try simp only [List.map_toArray, List.map_cons, List.map_nil]); first | done | rfl | (simp only [List.length_drop, List.length_take]; rfl)) ?_; (with_reducible refine (kerbsuiteref1_Compare.calls a0_0 a0_1 a0_2 x235000_44 a1_1 x235002_37 t243 _ A62.out).mono ?_); rintro e w214 ⟨rfl, hb⟩; refine ⟨_, rfl, ?_⟩; have n0_ := Aside0.mk (blk_below (g := gb233) (o := .cells #[.string a0_0, .string a0_1, .string a0_2] 23 (0, 0)) (by (with_reducible repeat (first | refine blk_drewN ?_ _ | refine blk_drew ?_ | refine blk_alloc ?_ _)); exact BK233.out) hb); have n1_ := Aside0.mk (blk_below (g := gb234) (o := .cells #[.string x235000_44, .string a1_1, .string x235002_37] 23 (0, 0)) (by (with_reducible repeat (first | refine blk_drewN ?_ _ | refine blk_drew ?_ | refine blk_alloc ?_ _)); exact BK234.out) hb); have n2_ := Aside0.mk (blk_below (g := gb235) (o := .cells #[.string x236000_51, .string x236001_51, .string x236002_51] 23 (0, 0)) (by (with_reducible repeat (first | refine blk_drewN ?_ _ | refine blk_drew ?_ | refine blk_alloc ?_ _)); exact BK235.out) hb); have n3_ := Aside0.mk (below_step (by repeat (first | (with_reducible first | exact HB.out | apply below_alloc | apply pw_below_drewN | apply below_drew1 | refine below_set ?_ GE233.out | refine below_set ?_ GE234.out | refine below_set ?_ GE235.out) | exact HB.out)) hb); clear BK233; clear BK234; clear BK235; clear HB; have BK233 := n0_; have BK234 := n1_; have BK235 := n2_; have HB := n3_; clear n0_ n1_ n2_ n3_; (try clear hb); (try clear hb2); (try clear hk); (try clear hi)))
            go_ret
            exact ⟨by first | rfl | (simp [errW_none, errW_some] <;> rfl) | (simp [*, errW_none, errW_some] <;> rfl), by repeat (first | (with_reducible first | exact HB.out | apply below_alloc | apply pw_below_drewN | apply below_drew1 | refine below_set ?_ GE233.out | refine below_set ?_ GE234.out | refine below_set ?_ GE235.out) | exact HB.out)⟩
 ·replace c6 := Bool.eq_false_iff.mpr c6
  subst c6
  have H1 : (some false) = some r := by rw [if_neg (show ¬ (false = true) by decide)] at H; exact H
  clear H
  have H := H1
  clear H1
  obtain rfl := Option.some.inj H
  go_enter Try.func7, Try.ntmps7
  go_wp2_with (first | ((with_reducible refine gate_dst (N := 4) rfl ?_); refine box_event ?hg (N := 4) ?hd (cs := #[.string a0_0, .string a0_1, .string a0_2]) (t := 23) ?hr ?_; (case hd => rfl); (case hg => rfl); (case hr => first | (go_simp; done) | (go_simp; rfl)); intro gb233 hg w215 hbox hb; have n0_ := Aside0.mk (below_step (by repeat (first | (with_reducible first | exact HB.out | apply below_alloc | apply pw_below_drewN | apply below_drew1) | exact HB.out)) hb); have n1_ := Aside0.mk (hbox); have n2_ := Aside0.mk ((by rw [hg]; exact (below_size (by repeat (first | (with_reducible first | exact HB.out | apply below_alloc | apply pw_below_drewN | apply below_drew1) | exact HB.out))) : w.heap.size ≤ gb233)); have n3_ := Aside0.mk ((by rw [hg]; exact (below_size (by repeat (first | (with_reducible first | exact HB.out | apply below_alloc | apply pw_below_drewN | apply below_drew1) | exact HB.out))) : w.heap.size ≤ gb233)); clear HB; have HB := n0_; have BK233 := n1_; have GW233 := n2_; have GE233 := n3_; clear n0_ n1_ n2_ n3_; clear hb hbox hg) | ((with_reducible refine gate_dst (N := 5) rfl ?_); refine box_event ?hg (N := 5) ?hd (cs := #[.string a1_0, .string a1_1, .string a1_2]) (t := 23) ?hr ?_; (case hd => rfl); (case hg => rfl); (case hr => first | (go_simp; done) | (go_simp; rfl)); intro gb234 hg w216 hbox hb; have n0_ := Aside0.mk (blk_below (g := gb233) (o := .cells #[.string a0_0, .string a0_1, .string a0_2] 23 (0, 0)) (by (with_reducible repeat (first | refine blk_drewN ?_ _ | refine blk_drew ?_ | refine blk_alloc ?_ _)); exact BK233.out) hb); have n1_ := Aside0.mk (below_step (by repeat (first | (with_reducible first | exact HB.out | apply below_alloc | apply pw_below_drewN | apply below_drew1 | refine below_set ?_ GE233.out) | exact HB.out)) hb); have n2_ := Aside0.mk (hbox); have n3_ := Aside0.mk ((by rw [hg]; exact (below_size (by repeat (first | (with_reducible first | exact HB.out | apply below_alloc | apply pw_below_drewN | apply below_drew1 | refine below_set ?_ GE233.out) | exact HB.out))) : w.heap.size ≤ gb234)); have n4_ := Aside0.mk ((by rw [hg]; exact (below_size (by repeat (first | (with_reducible first | exact HB.out | apply below_alloc | apply pw_below_drewN | apply below_drew1 | refine below_set ?_ GE233.out) | exact HB.out))) : w.heap.size ≤ gb234)); have n5_ := Aside0.mk ((by rw [hg]; exact Nat.ne_of_lt (blk_lt (g := gb233) (o := .cells #[.string a0_0, .string a0_1, .string a0_2] 23 (0, 0)) (by (with_reducible repeat (first | refine blk_drewN ?_ _ | refine blk_drew ?_ | refine blk_alloc ?_ _)); exact BK233.out)) : gb233 ≠ gb234)); have n6_ := Aside0.mk ((by rw [hg]; exact Nat.ne_of_gt (blk_lt (g := gb233) (o := .cells #[.string a0_0, .string a0_1, .string a0_2] 23 (0, 0)) (by (with_reducible repeat (first | refine blk_drewN ?_ _ | refine blk_drew ?_ | refine blk_alloc ?_ _)); exact BK233.out)) : gb234 ≠ gb233)); clear BK233; clear HB; have BK233 := n0_; have HB := n1_; have BK234 := n2_; have GW234 := n3_; have GE234 := n4_; have NB233_234 := n5_; have NB234_233 := n6_; clear n0_ n1_ n2_ n3_ n4_ n5_ n6_; clear hb hbox hg) | ((with_reducible refine gate_dst (N := 6) rfl ?_); refine box_event ?hg (N := 6) ?hd (cs := #[.string a2_0, .string a2_1, .string a2_2]) (t := 23) ?hr ?_; (case hd => rfl); (case hg => rfl); (case hr => first | (go_simp; done) | (go_simp; rfl)); intro gb235 hg w217 hbox hb; have n0_ := Aside0.mk (blk_below (g := gb233) (o := .cells #[.string a0_0, .string a0_1, .string a0_2] 23 (0, 0)) (by (with_reducible repeat (first | refine blk_drewN ?_ _ | refine blk_drew ?_ | refine blk_alloc ?_ _)); exact BK233.out) hb); have n1_ := Aside0.mk (blk_below (g := gb234) (o := .cells #[.string a1_0, .string a1_1, .string a1_2] 23 (0, 0)) (by (with_reducible repeat (first | refine blk_drewN ?_ _ | refine blk_drew ?_ | refine blk_alloc ?_ _)); exact BK234.out) hb); have n2_ := Aside0.mk (below_step (by repeat (first | (with_reducible first | exact HB.out | apply below_alloc | apply pw_below_drewN | apply below_drew1 | refine below_set ?_ GE233.out | refine below_set ?_ GE234.out) | exact HB.out)) hb); have n3_ := Aside0.mk (hbox); have n4_ := Aside0.mk ((by rw [hg]; exact (below_size (by repeat (first | (with_reducible first | exact HB.out | apply below_alloc | apply pw_below_drewN | apply below_drew1 | refine below_set ?_ GE233.out | refine below_set ?_ GE234.out) | exact HB.out))) : w.heap.size ≤ gb235)); have n5_ := Aside0.mk ((by rw [hg]; exact (below_size (by repeat (first | (with_reducible first | exact HB.out | apply below_alloc | apply pw_below_drewN | apply below_drew1 | refine below_set ?_ GE233.out | refine below_set ?_ GE234.out) | exact HB.out))) : w.heap.size ≤ gb235)); have n6_ := Aside0.mk ((by rw [hg]; exact Nat.ne_of_lt (blk_lt (g := gb233) (o := .cells #[.string a0_0, .string a0_1, .string a0_2] 23 (0, 0)) (by (with_reducible repeat (first | refine blk_drewN ?_ _ | refine blk_drew ?_ | refine blk_alloc ?_ _)); exact BK233.out)) : gb233 ≠ gb235)); have n7_ := Aside0.mk ((by rw [hg]; exact Nat.ne_of_gt (blk_lt (g := gb233) (o := .cells #[.string a0_0, .string a0_1, .string a0_2] 23 (0, 0)) (by (with_reducible repeat (first | refine blk_drewN ?_ _ | refine blk_drew ?_ | refine blk_alloc ?_ _)); exact BK233.out)) : gb235 ≠ gb233)); have n8_ := Aside0.mk ((by rw [hg]; exact Nat.ne_of_lt (blk_lt (g := gb234) (o := .cells #[.string a1_0, .string a1_1, .string a1_2] 23 (0, 0)) (by (with_reducible repeat (first | refine blk_drewN ?_ _ | refine blk_drew ?_ | refine blk_alloc ?_ _)); exact BK234.out)) : gb234 ≠ gb235)); have n9_ := Aside0.mk ((by rw [hg]; exact Nat.ne_of_gt (blk_lt (g := gb234) (o := .cells #[.string a1_0, .string a1_1, .string a1_2] 23 (0, 0)) (by (with_reducible repeat (first | refine blk_drewN ?_ _ | refine blk_drew ?_ | refine blk_alloc ?_ _)); exact BK234.out)) : gb235 ≠ gb234)); clear BK233; clear BK234; clear HB; have BK233 := n0_; have BK234 := n1_; have HB := n2_; have BK235 := n3_; have GW235 := n4_; have GE235 := n5_; have NB233_235 := n6_; have NB235_233 := n7_; have NB234_235 := n8_; have NB235_234 := n9_; clear n0_ n1_ n2_ n3_ n4_ n5_ n6_ n7_ n8_ n9_; clear hb hbox hg) | ((with_reducible refine gate_callee (f := 8) rfl ?_); refine goesL_ (some 12) rfl rfl Try.func8 (by kernel_rfl) rfl #[] rfl (by (try simp only [List.map_toArray, List.map_cons, List.map_nil]); first | done | rfl | (simp only [List.length_drop, List.length_take]; rfl)) ?_; (with_reducible refine (kerbsuitelaw1_awake.calls k  false _ A5.out).mono ?_); rintro e w218 ⟨rfl, hb⟩; refine ⟨_, rfl, ?_⟩; have n0_ := Aside0.mk (blk_below (g := gb233) (o := .cells #[.string a0_0, .string a0_1, .string a0_2] 23 (0, 0)) (by (with_reducible repeat (first | refine blk_drewN ?_ _ | refine blk_drew ?_ | refine blk_alloc ?_ _)); exact BK233.out) hb); have n1_ := Aside0.mk (blk_below (g := gb234) (o := .cells #[.string a1_0, .string a1_1, .string a1_2] 23 (0, 0)) (by (with_reducible repeat (first | refine blk_drewN ?_ _ | refine blk_drew ?_ | refine blk_alloc ?_ _)); exact BK234.out) hb); have n2_ := Aside0.mk (blk_below (g := gb235) (o := .cells #[.string a2_0, .string a2_1, .string a2_2] 23 (0, 0)) (by (with_reducible repeat (first | refine blk_drewN ?_ _ | refine blk_drew ?_ | refine blk_alloc ?_ _)); exact BK235.out) hb); have n3_ := Aside0.mk (below_step (by repeat (first | (with_reducible first | exact HB.out | apply below_alloc | apply pw_below_drewN | apply below_drew1 | refine below_set ?_ GE233.out | refine below_set ?_ GE234.out | refine below_set ?_ GE235.out) | exact HB.out)) hb); clear BK233; clear BK234; clear BK235; clear HB; have BK233 := n0_; have BK234 := n1_; have BK235 := n2_; have HB := n3_; clear n0_ n1_ n2_ n3_; (try clear hb); (try clear hb2); (try clear hk); (try clear hi)))
  go_ret
  exact ⟨by first | rfl | (simp [errW_none, errW_some] <;> rfl) | (simp [*, errW_none, errW_some] <;> rfl), by repeat (first | (with_reducible first | exact HB.out | apply below_alloc | apply pw_below_drewN | apply below_drew1 | refine below_set ?_ GE233.out | refine below_set ?_ GE234.out | refine below_set ?_ GE235.out) | exact HB.out)⟩

/-- The one plain statement that is left of kerbsuitelaw1_PrincipalOrder. -/
def kerbsuitelaw1_PrincipalOrder.Pure : Prop := ∀ (a0_0 : ByteArray) (a0_1 : ByteArray) (a0_2 : ByteArray) (a1_0 : ByteArray) (a1_1 : ByteArray) (a1_2 : ByteArray) (a2_0 : ByteArray) (a2_1 : ByteArray) (a2_2 : ByteArray) (a3 : Int), a0_0.size ≤ maxLen → a0_1.size ≤ maxLen → a0_2.size ≤ maxLen → a1_0.size ≤ maxLen → a1_1.size ≤ maxLen → a1_2.size ≤ maxLen → a2_0.size ≤ maxLen → a2_1.size ≤ maxLen → a2_2.size ≤ maxLen → (Lit.int .u8 a3).wf = true → ∃ k, kerbsuitelaw1_PrincipalOrder.f k a0_0 a0_1 a0_2 a1_0 a1_1 a1_2 a2_0 a2_1 a2_2 a3 = some true
theorem kerbsuitelaw1_PrincipalOrder.walk (P : kerbsuitelaw1_PrincipalOrder.Pure) (a0_0 : ByteArray) (a0_1 : ByteArray) (a0_2 : ByteArray) (a1_0 : ByteArray) (a1_1 : ByteArray) (a1_2 : ByteArray) (a2_0 : ByteArray) (a2_1 : ByteArray) (a2_2 : ByteArray) (a3 : Int) (w : World) (q0_0_0 : a0_0.size ≤ maxLen) (q0_1_0 : a0_1.size ≤ maxLen) (q0_2_0 : a0_2.size ≤ maxLen) (q1_0_0 : a1_0.size ≤ maxLen) (q1_1_0 : a1_1.size ≤ maxLen) (q1_2_0 : a1_2.size ≤ maxLen) (q2_0_0 : a2_0.size ≤ maxLen) (q2_1_0 : a2_1.size ≤ maxLen) (q2_2_0 : a2_2.size ≤ maxLen) (q3_0 : (Lit.int .u8 a3).wf = true) :
  Calls Try.prog 7 #[.agg #[.string a0_0, .string a0_1, .string a0_2], .agg #[.string a1_0, .string a1_1, .string a1_2], .agg #[.string a2_0, .string a2_1, .string a2_2], .int .u8 a3] w fun e w' => e = .returned (.bool true) ∧ Below w.heap.size w w' := by
 obtain ⟨k, h⟩ := P a0_0 a0_1 a0_2 a1_0 a1_1 a1_2 a2_0 a2_1 a2_2 a3 q0_0_0 q0_1_0 q0_2_0 q1_0_0 q1_1_0 q1_2_0 q2_0_0 q2_1_0 q2_2_0 q3_0
 refine (kerbsuitelaw1_PrincipalOrder.calls k a0_0 a0_1 a0_2 a1_0 a1_1 a1_2 a2_0 a2_1 a2_2 a3 true w h).mono ?_
 rintro e w' ⟨rfl, hd⟩
 exact ⟨rfl, hd⟩

end Go.Proofs.Ytmgcfnialfjphaa.PPrin
