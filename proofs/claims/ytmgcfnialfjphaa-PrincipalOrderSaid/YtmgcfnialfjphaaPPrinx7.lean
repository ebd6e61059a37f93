/- The walks of functions of the translation: each call returns what the plain function beside it says. -/
import Derived.Test.YtmgcfnialfjphaaPPrinx0
import Derived.Test.YtmgcfnialfjphaaPPrinx1
import Derived.Test.YtmgcfnialfjphaaPPrinx2
import Derived.Test.YtmgcfnialfjphaaPPrinx6
namespace Go.Proofs.Ytmgcfnialfjphaa.PPrin
open Go.RowKit Go.Proofs.YtmgcfnialfjphaaW.PrintWords Go.Proofs.YtmgcfnialfjphaaW.PrintLast Go.Proofs.YtmgcfnialfjphaaW.PrintMore Go.Proofs.Ytmgcfnialfjphaa.Aid
attribute [local go_sem] max2_int min2_int max_two min_two max_three min_three max_four min_four aid_str_gtr   -- for this text's walks alone
set_option linter.unusedVariables false
set_option linter.unusedSimpArgs false

attribute [local go_sem high] eqA23
/-! ### kerbsuitelaw1_PrincipalTgs: function 5 -/
def kerbsuitelaw1_PrincipalTgs.j0 : Nat → ByteArray → ByteArray → Bool → ByteArray → ByteArray → ByteArray → Option (Bool)
 | 0, _, _, _, _, _, _ => none
 | k + 1, x0, x1, x21, x199000, x199001, x199002 => if x21 = true then (some true) else ((principal_Tgs.f x0 x1).bind fun bt201 => (if (bt201.1.toList == ([107, 114, 98, 116, 103, 116] : List UInt8) && (bt201.2.1.toList == x1.toList && (bt201.2.2.toList == x0.toList))) = true then ((principal_IsTgs.f bt201.1 bt201.2.1 bt201.2.2).bind fun t205 => (if t205 = true then ((principal_IsTgs.f x199000 x199001 x199002).bind fun t206 => (some (t206 == (x199000.toList == ([107, 114, 98, 116, 103, 116] : List UInt8))))) else (some false))) else (some false)))
def kerbsuitelaw1_PrincipalTgs.f (k : Nat) (a0 : ByteArray) (a1 : ByteArray) (a2_0 : ByteArray) (a2_1 : ByteArray) (a2_2 : ByteArray) : Option (Bool) := (kerbsuitelaw1_awake.f k).bind fun t199 => (if t199 = true then (if (a0.size : Int) > 100 then (kerbsuitelaw1_PrincipalTgs.j0 k a0 a1 true a2_0 a2_1 a2_2) else (if (a1.size : Int) > 100 then (kerbsuitelaw1_PrincipalTgs.j0 k a0 a1 true a2_0 a2_1 a2_2) else ((kerbsuitelaw1_long.f a2_0 a2_1 a2_2).bind fun t200 => (kerbsuitelaw1_PrincipalTgs.j0 k a0 a1 t200 a2_0 a2_1 a2_2)))) else (some false))
theorem kerbsuitelaw1_PrincipalTgs.mono_l : ∀ k, (∀ y0 y1 y2 y3 y4 y5, LeO (kerbsuitelaw1_PrincipalTgs.j0 k y0 y1 y2 y3 y4 y5) (kerbsuitelaw1_PrincipalTgs.j0 (k + 1) y0 y1 y2 y3 y4 y5))
 | 0 => fun _ _ _ _ _ _ r h => by simp [kerbsuitelaw1_PrincipalTgs.j0] at h
 | k + 1 => by
  have ih0 := kerbsuitelaw1_PrincipalTgs.mono_l k
  ·intro y0 y1 y2 y3 y4 y5
   unfold kerbsuitelaw1_PrincipalTgs.j0
   repeat' first
   | (with_reducible exact ih0 _ _ _ _ _ _)
   | (with_reducible exact kerbsuitelaw1_awake.mono _)
   | (with_reducible exact LeO.refl _)
   | (with_reducible exact LeO.none _)
   | (with_reducible refine LeO.ite ?_ ?_)
   | (with_reducible refine LeO.bind ?_ (fun _ => ?_))
   | exact ih0 _ _ _ _ _ _
   | exact kerbsuitelaw1_awake.mono _
   | exact LeO.none _
   | refine LeO.ite ?_ ?_
   | refine LeO.bind ?_ (fun _ => ?_)
theorem kerbsuitelaw1_PrincipalTgs.mono : ∀ a0 a1 a2 a3 a4 k, LeO (kerbsuitelaw1_PrincipalTgs.f k a0 a1 a2 a3 a4) (kerbsuitelaw1_PrincipalTgs.f (k + 1) a0 a1 a2 a3 a4) := by
 intro a0 a1 a2 a3 a4 k
 have ih0 := kerbsuitelaw1_PrincipalTgs.mono_l k
 unfold kerbsuitelaw1_PrincipalTgs.f
 repeat' first
   | (with_reducible exact ih0 _ _ _ _ _ _)
   | (with_reducible exact kerbsuitelaw1_awake.mono _)
   | (with_reducible exact LeO.refl _)
   | (with_reducible exact LeO.none _)
   | (with_reducible refine LeO.ite ?_ ?_)
   | (with_reducible refine LeO.bind ?_ (fun _ => ?_))
   | exact ih0 _ _ _ _ _ _
   | exact kerbsuitelaw1_awake.mono _
   | exact LeO.none _
   | refine LeO.ite ?_ ?_
   | refine LeO.bind ?_ (fun _ => ?_)
def kerbsuitelaw1_PrincipalTgs.T6 : Bool × List (List Nat × List Nat) := (true,[([], []), ([], []), ([], []), ([1, 2], [1, 2]), ([0, 3], [0, 3]), ([4], [4]), ([5], [5]), ([6, 5, 5], [5, 6]), ([5, 7], [5, 7]), ([8, 7], [8]), ([9], [9]), ([10, 9, 9], [9, 10]), ([9], [9]), ([12, 9], [9, 12]), ([13, 9], [9, 13]), ([11, 14, 9], [9, 11, 14]), ([9, 15], [9, 15]), ([16, 11, 0, 1, 2, 3, 4, 5, 6, 7, 8, 9, 10, 11, 12, 13, 14, 15, 16], [16])])
def kerbsuitelaw1_PrincipalTgs.B6 : List Nat := [0, 0, 0, 6, 15, 31, 63, 127, 255, 511, 1023, 2047, 1023, 5119, 13311, 32767, 65535, 131071]
theorem kerbsuitelaw1_PrincipalTgs.tab6 : rtab .any (opsOf Try.f5 6) = kerbsuitelaw1_PrincipalTgs.T6 := by kernel_rfl
theorem kerbsuitelaw1_PrincipalTgs.bits6 : waitsOk kerbsuitelaw1_PrincipalTgs.T6.2 kerbsuitelaw1_PrincipalTgs.B6 = true := by kernel_rfl
set_option maxHeartbeats 8000000 in
set_option maxRecDepth 100000 in
theorem kerbsuitelaw1_PrincipalTgs.calls (k : Nat) (a0 : ByteArray) (a1 : ByteArray) (a2_0 : ByteArray) (a2_1 : ByteArray) (a2_2 : ByteArray) (r : Bool) (w : World) (h : kerbsuitelaw1_PrincipalTgs.f k a0 a1 a2_0 a2_1 a2_2 = some r) :
  Calls Try.prog 5 #[.string a0, .string a1, .agg #[.string a2_0, .string a2_1, .string a2_2]] w fun e w' => e = .returned (.bool r) ∧ Below w.heap.size w w' := by
 have hu23 := Try.underlying23
 have HB := Aside0.mk (Below.refl w.heap.size w)
 have H : ((kerbsuitelaw1_awake.f k).bind fun t199 => (if t199 = true then (if (a0.size : Int) > 100 then (kerbsuitelaw1_PrincipalTgs.j0 k a0 a1 true a2_0 a2_1 a2_2) else (if (a1.size : Int) > 100 then (kerbsuitelaw1_PrincipalTgs.j0 k a0 a1 true a2_0 a2_1 a2_2) else ((kerbsuitelaw1_long.f a2_0 a2_1 a2_2).bind fun t200 => (kerbsuitelaw1_PrincipalTgs.j0 k a0 a1 t200 a2_0 a2_1 a2_2)))) else (some false))) = some r := h
 clear h
 replace H := Option.bind_eq_some_iff.mp H
 obtain ⟨t199, A40, H⟩ := H
 replace H : (if t199 = true then (if (a0.size : Int) > 100 then (kerbsuitelaw1_PrincipalTgs.j0 k a0 a1 true a2_0 a2_1 a2_2) else (if (a1.size : Int) > 100 then (kerbsuitelaw1_PrincipalTgs.j0 k a0 a1 true a2_0 a2_1 a2_2) else ((kerbsuitelaw1_long.f a2_0 a2_1 a2_2).bind fun t200 => (kerbsuitelaw1_PrincipalTgs.j0 k a0 a1 t200 a2_0 a2_1 a2_2)))) else (some false)) = some r := H
 have A4 := Aside0.mk A40
 clear A40
 by_cases c5 : t199 = true
 ·subst c5
  have H1 : (if (a0.size : Int) > 100 then (kerbsuitelaw1_PrincipalTgs.j0 k a0 a1 true a2_0 a2_1 a2_2) else (if (a1.size : Int) > 100 then (kerbsuitelaw1_PrincipalTgs.j0 k a0 a1 true a2_0 a2_1 a2_2) else ((kerbsuitelaw1_long.f a2_0 a2_1 a2_2).bind fun t200 => (kerbsuitelaw1_PrincipalTgs.j0 k a0 a1 t200 a2_0 a2_1 a2_2)))) = some r := by rw [if_pos rfl] at H; exact H
  clear H
  have H := H1
  clear H1
  have HC6 := Aside0.mk H
  clear H
  go_enter Try.func5, Try.ntmps5
  go_upto_region 3 with (first | ((with_reducible refine gate_dst (N := 5) rfl ?_); (try (refine gate_guard (by rfl) ?_; dsimp only)); refine box_event ?hg (N := 5) ?hd (cs := #[.string a2_0, .string a2_1, .string a2_2]) (t := 23) ?hr ?_; (case hd => rfl); (case hg => rfl); (case hr => first | (go_simp; done) | (go_simp; rfl)); intro gb198 hg w7 hbox hb; have n0_ := Aside0.mk (below_step (by repeat (first | (with_reducible first | exact HB.out | apply below_alloc | apply pw_below_drewN | apply below_drew1) | exact HB.out)) hb); have n1_ := Aside0.mk (hbox); have n2_ := Aside0.mk ((by rw [hg]; exact (below_size (by repeat (first | (with_reducible first | exact HB.out | apply below_alloc | apply pw_below_drewN | apply below_drew1) | exact HB.out))) : w.heap.size ≤ gb198)); have n3_ := Aside0.mk ((by rw [hg]; exact (below_size (by repeat (first | (with_reducible first | exact HB.out | apply below_alloc | apply pw_below_drewN | apply below_drew1) | exact HB.out))) : w.heap.size ≤ gb198)); clear HB; have HB := n0_; have BK198 := n1_; have GW198 := n2_; have GE198 := n3_; clear n0_ n1_ n2_ n3_; clear hb hbox hg) | ((with_reducible refine gate_callee (f := 8) rfl ?_); refine goesL_ (some 8) rfl rfl Try.func8 (by kernel_rfl) rfl #[] rfl (by (try simp only [List.map_toArray, List.map_cons, List.map_nil]); first | done | rfl | (simp only [List.length_drop, List.length_take]; rfl)) ?_; (with_reducible refine (kerbsuitelaw1_awake.calls k  true _ A4.out).mono ?_); rintro e w8 ⟨rfl, hb⟩; refine ⟨_, rfl, ?_⟩; have n0_ := Aside0.mk (blk_below (g := gb198) (o := .cells #[.string a2_0, .string a2_1, .string a2_2] 23 (0, 0)) (by (with_reducible repeat (first | refine blk_drewN ?_ _ | refine blk_drew ?_ | refine blk_alloc ?_ _)); exact BK198.out) hb); have n1_ := Aside0.mk (below_step (by repeat (first | (with_reducible first | exact HB.out | apply below_alloc | apply pw_below_drewN | apply below_drew1 | refine below_set ?_ GE198.out) | exact HB.out)) hb); clear BK198; clear HB; have BK198 := n0_; have HB := n1_; clear n0_ n1_; (try clear hb); (try clear hb2); (try clear hk); (try clear hi)))
  (try simp only [Act.put, List.setIfInBounds_toArray, List.set_cons_zero, List.set_cons_succ])
  go_cut [21] (fun v21 wc => ∃ (kq : Nat) (x21_5 : Bool), v21 = .bool x21_5 ∧ Aside0 (kerbsuitelaw1_PrincipalTgs.j0 kq a0 a1 x21_5 a2_0 a2_1 a2_2 = some r) ∧ Aside0 (kq ≤ k) ∧ Aside0 (wc.heap[gb198]? = some (.cells #[.string a2_0, .string a2_1, .string a2_2] 23 (0, 0))) ∧ Aside0 (Below w.heap.size w wc))
  case first =>
   have H := HC6.out
   clear HC6
   by_cases c9 : (a0.size : Int) > 100
   ·rw [if_pos c9] at H
    have c9b0 : decide (100 < (a0.size : Int)) = true := decide_eq_true c9
    have c9b1 : decide (100 < a0.size) = true := decide_eq_true (by omega)
    clear c9
    (first | rw [c9b0] | (simp only [i64_w, i32_w]; rw [c9b0]) | skip)
    have H' := Aside0.mk H
    clear H
    go_wp2
    go_meet
    case rel => exact ⟨_, (true), (by first | rfl | (simp; done) | (simp [*]; done)), H', ⟨by first | omega | exact Nat.le_refl _⟩, ⟨by (with_reducible repeat (first | refine blk_drewN ?_ _ | refine blk_drew ?_ | refine blk_alloc ?_ _)); exact BK198.out⟩, ⟨by repeat (first | (with_reducible first | exact HB.out | apply below_alloc | apply pw_below_drewN | apply below_drew1 | refine below_set ?_ GE198.out) | exact HB.out)⟩⟩
   ·rw [if_neg c9] at H
    have c9b0 : decide (100 < (a0.size : Int)) = false := decide_eq_false c9
    have c9b1 : decide (100 < a0.size) = false := decide_eq_false (by omega)
    clear c9
    (first | rw [c9b0] | (simp only [i64_w, i32_w]; rw [c9b0]) | skip)
    by_cases c10 : (a1.size : Int) > 100
    ·rw [if_pos c10] at H
     have c10b0 : decide (100 < (a1.size : Int)) = true := decide_eq_true c10
     have c10b1 : decide (100 < a1.size) = true := decide_eq_true (by omega)
     clear c10
     have H' := Aside0.mk H
     clear H
     go_wp2
     go_meet
     case rel => exact ⟨_, (true), (by first | rfl | (simp; done) | (simp [*]; done)), H', ⟨by first | omega | exact Nat.le_refl _⟩, ⟨by (with_reducible repeat (first | refine blk_drewN ?_ _ | refine blk_drew ?_ | refine blk_alloc ?_ _)); exact BK198.out⟩, ⟨by repeat (first | (with_reducible first | exact HB.out | apply below_alloc | apply pw_below_drewN | apply below_drew1 | refine below_set ?_ GE198.out) | exact HB.out)⟩⟩
    ·rw [if_neg c10] at H
     have c10b0 : decide (100 < (a1.size : Int)) = false := decide_eq_false c10
     have c10b1 : decide (100 < a1.size) = false := decide_eq_false (by omega)
     clear c10
     replace H := Option.bind_eq_some_iff.mp H
     obtain ⟨t200, A110, H⟩ := H
     replace H : (kerbsuitelaw1_PrincipalTgs.j0 k a0 a1 t200 a2_0 a2_1 a2_2) = some r := H
     have A11 := Aside0.mk A110
     clear A110
     have H' := Aside0.mk H
     clear H
     have hcz12_0 : w8.cell? ⟨gb198, 0, none⟩ = some (.string a2_0) := (blk_cell BK198.out 0).trans rfl
     have hcz12_1 : w8.cell? ⟨gb198, 1, none⟩ = some (.string a2_1) := (blk_cell BK198.out 1).trans rfl
     have hcz12_2 : w8.cell? ⟨gb198, 2, none⟩ = some (.string a2_2) := (blk_cell BK198.out 2).trans rfl
     have hfz12_0 := blk_frozen BK198.out 0
     have hfz12_1 := blk_frozen BK198.out 1
     have hfz12_2 := blk_frozen BK198.out 2
     go_wp2_with (first | (go_at_call 9; (with_reducible refine (kerbsuitelaw1_long.calls a2_0 a2_1 a2_2 t200 _ A11.out).mono ?_); rintro e w13 ⟨rfl, hb⟩; have n0_ := Aside0.mk (blk_below (g := gb198) (o := .cells #[.string a2_0, .string a2_1, .string a2_2] 23 (0, 0)) (by (with_reducible repeat (first | refine blk_drewN ?_ _ | refine blk_drew ?_ | refine blk_alloc ?_ _)); exact BK198.out) hb); have n1_ := Aside0.mk (below_step (by repeat (first | (with_reducible first | exact HB.out | apply below_alloc | apply pw_below_drewN | apply below_drew1 | refine below_set ?_ GE198.out) | exact HB.out)) hb); clear BK198; clear HB; have BK198 := n0_; have HB := n1_; clear n0_ n1_; (try clear hb); (try clear hb2); (try clear hk); (try clear hi)))
     go_meet
     case rel => exact ⟨_, (t200), (by first | rfl | (simp; done) | (simp [*]; done)), H', ⟨by first | omega | exact Nat.le_refl _⟩, ⟨by (with_reducible repeat (first | refine blk_drewN ?_ _ | refine blk_drew ?_ | refine blk_alloc ?_ _)); exact BK198.out⟩, ⟨by repeat (first | (with_reducible first | exact HB.out | apply below_alloc | apply pw_below_drewN | apply below_drew1 | refine below_set ?_ GE198.out) | exact HB.out)⟩⟩
  case rest =>
   clear HC6
   try clear c1
   try clear p2
   try clear c5
   try clear c8
   try clear c9
   try clear c9b0
   try clear c9b1
   try clear c10
   try clear c10b0
   try clear c10b1
   try clear hcz12_0
   try clear hcz12_1
   try clear hcz12_2
   try clear hfz12_0
   try clear hfz12_1
   try clear hfz12_2
   obtain ⟨kq, x21_5, rfl, HA, HJ5, BK198, HB⟩ := hcut
   cases kq with
   | zero => exact absurd HA.out (by simp [kerbsuitelaw1_PrincipalTgs.j0])
   | succ kj5 =>
    have H := HA.out
    clear HA
    simp only [kerbsuitelaw1_PrincipalTgs.j0] at H
    by_cases c14 : x21_5 = true
    ·subst c14
     have H1 : (some true) = some r := by rw [if_pos rfl] at H; exact H
     clear H
     have H := H1
     clear H1
     obtain rfl := Option.some.inj H
     go_wp2
     go_ret
     exact ⟨by first | rfl | (simp [errW_none, errW_some] <;> rfl) | (simp [*, errW_none, errW_some] <;> rfl), by repeat (first | (with_reducible first | exact HB.out | apply below_alloc | apply pw_below_drewN | apply below_drew1 | refine below_set ?_ GE198.out) | exact HB.out)⟩
    ·replace c14 := Bool.eq_false_iff.mpr c14
     subst c14
     have H1 : ((principal_Tgs.f a0 a1).bind fun bt201 => (if (bt201.1.toList == ([107, 114, 98, 116, 103, 116] : List UInt8) && (bt201.2.1.toList == a1.toList && (bt201.2.2.toList == a0.toList))) = true then ((principal_IsTgs.f bt201.1 bt201.2.1 bt201.2.2).bind fun t205 => (if t205 = true then ((principal_IsTgs.f a2_0 a2_1 a2_2).bind fun t206 => (some (t206 == (a2_0.toList == ([107, 114, 98, 116, 103, 116] : List UInt8))))) else (some false))) else (some false))) = some r := by rw [if_neg (show ¬ (false = true) by decide)] at H; exact H
     clear H
     have H := H1
     clear H1
     replace H := Option.bind_eq_some_iff.mp H
     obtain ⟨⟨t201, t202, t203⟩, A150, H⟩ := H
     replace H : (if (t201.toList == ([107, 114, 98, 116, 103, 116] : List UInt8) && (t202.toList == a1.toList && (t203.toList == a0.toList))) = true then ((principal_IsTgs.f t201 t202 t203).bind fun t205 => (if t205 = true then ((principal_IsTgs.f a2_0 a2_1 a2_2).bind fun t206 => (some (t206 == (a2_0.toList == ([107, 114, 98, 116, 103, 116] : List UInt8))))) else (some false))) else (some false)) = some r := H
     have A15 := Aside0.mk A150
     clear A150
     by_cases c16 : (t201.toList == ([107, 114, 98, 116, 103, 116] : List UInt8) && (t202.toList == a1.toList && (t203.toList == a0.toList))) = true
     ·rw [if_pos c16] at H
      have c16b0 : (t201.toList == ([107, 114, 98, 116, 103, 116] : List UInt8) && (t202.toList == a1.toList && (t203.toList == a0.toList))) = true := c16
      (try (have c16b1 : decide (t201.toList = ([107, 114, 98, 116, 103, 116] : List UInt8) && (t202.toList == a1.toList && (t203.toList == a0.toList))) = true := by simpa using c16))
      (try (have c16b2 : (t201.toList == ([107, 114, 98, 116, 103, 116] : List UInt8) && (t202.toList == a1.toList && (t203.toList == a0.toList))) = true := by simpa using c16))
      clear c16
      replace H := Option.bind_eq_some_iff.mp H
      obtain ⟨t205, A170, H⟩ := H
      replace H : (if t205 = true then ((principal_IsTgs.f a2_0 a2_1 a2_2).bind fun t206 => (some (t206 == (a2_0.toList == ([107, 114, 98, 116, 103, 116] : List UInt8))))) else (some false)) = some r := H
      have A17 := Aside0.mk A170
      clear A170
      by_cases c18 : t205 = true
      ·subst c18
       have H1 : ((principal_IsTgs.f a2_0 a2_1 a2_2).bind fun t206 => (some (t206 == (a2_0.toList == ([107, 114, 98, 116, 103, 116] : List UInt8))))) = some r := by rw [if_pos rfl] at H; exact H
       clear H
       have H := H1
       clear H1
       replace H := Option.bind_eq_some_iff.mp H
       obtain ⟨t206, A190, H⟩ := H
       replace H : (some (t206 == (a2_0.toList == ([107, 114, 98, 116, 103, 116] : List UInt8)))) = some r := H
       have A19 := Aside0.mk A190
       clear A190
       obtain rfl := Option.some.inj H
       try go_wp2_with (first | ((with_reducible refine gate_callee (f := 21) rfl ?_); refine goesL_ (some 24) rfl rfl Try.func21 (by kernel_rfl) rfl #[.string a0, .string a1] rfl (by (try simp only [List.map_toArray, List.map_cons, List.map_nil]); first | done | rfl | (simp only [List.length_drop, List.length_take]; rfl)) ?_; (with_reducible refine (principal_Tgs.calls a0 a1 t201 t202 t203 _ A15.out).mono ?_); rintro e w20 ⟨rfl, hb⟩; refine ⟨_, rfl, ?_⟩; have n0_ := Aside0.mk (blk_below (g := gb198) (o := .cells #[.string a2_0, .string a2_1, .string a2_2] 23 (0, 0)) (by (with_reducible repeat (first | refine blk_drewN ?_ _ | refine blk_drew ?_ | refine blk_alloc ?_ _)); exact BK198.out) hb); have n1_ := Aside0.mk (below_step (by repeat (first | (with_reducible first | exact HB.out | apply below_alloc | apply pw_below_drewN | apply below_drew1 | refine below_set ?_ GE198.out) | exact HB.out)) hb); clear BK198; clear HB; have BK198 := n0_; have HB := n1_; clear n0_ n1_; (try clear hb); (try clear hb2); (try clear hk); (try clear hi)) | ((with_reducible refine gate_dst (N := 7) rfl ?_); (try (refine gate_guard (by rfl) ?_; dsimp only)); refine box_event ?hg (N := 7) ?hd (cs := #[.string (⟨#[]⟩ : ByteArray), .string (⟨#[]⟩ : ByteArray), .string (⟨#[]⟩ : ByteArray)]) (t := 23) ?hr ?_; (case hd => rfl); (case hg => rfl); (case hr => first | (go_simp; done) | (go_simp; rfl)); intro gb204 hg w21 hbox hb; have n0_ := Aside0.mk (blk_below (g := gb198) (o := .cells #[.string a2_0, .string a2_1, .string a2_2] 23 (0, 0)) (by (with_reducible repeat (first | refine blk_drewN ?_ _ | refine blk_drew ?_ | refine blk_alloc ?_ _)); exact BK198.out) hb); have n1_ := Aside0.mk (below_step (by repeat (first | (with_reducible first | exact HB.out | apply below_alloc | apply pw_below_drewN | apply below_drew1 | refine below_set ?_ GE198.out) | exact HB.out)) hb); have n2_ := Aside0.mk (hbox); have n3_ := Aside0.mk ((by rw [hg]; exact (below_size (by repeat (first | (with_reducible first | exact HB.out | apply below_alloc | apply pw_below_drewN | apply below_drew1 | refine below_set ?_ GE198.out) | exact HB.out))) : w.heap.size ≤ gb204)); have n4_ := Aside0.mk ((by rw [hg]; exact (below_size (by repeat (first | (with_reducible first | exact HB.out | apply below_alloc | apply pw_below_drewN | apply below_drew1 | refine below_set ?_ GE198.out) | exact HB.out))) : w.heap.size ≤ gb204)); have n5_ := Aside0.mk ((by rw [hg]; exact Nat.ne_of_lt (blk_lt (g := gb198) (o := .cells #[.string a2_0, .string a2_1, .string a2_2] 23 (0, 0)) (by (with_reducible repeat (first | refine blk_drewN ?_ _ | refine blk_drew ?_ | refine blk_alloc ?_ _)); exact BK198.out)) : gb198 ≠ gb204)); have n6_ := Aside0.mk ((by rw [hg]; exact Nat.ne_of_gt (blk_lt (g := gb198) (o := .cells #[.string a2_0, .string a2_1, .string a2_2] 23 (0, 0)) (by (with_reducible repeat (first | refine blk_drewN ?_ _ | refine blk_drew ?_ | refine blk_alloc ?_ _)); exact BK198.out)) : gb204 ≠ gb198)); clear BK198; clear HB; have BK198 := n0_; have HB := n1_; have BK204 := n2_; have GW204 := n3_; have GE204 := n4_; have NB198_204 := n5_; have NB204_198 := n6_; clear n0_ n1_ n2_ n3_ n4_ n5_ n6_; clear hb hbox hg; have hnb22 := NB204_198.out; have hnc22 := NB198_204.out; have hcz23_0 : w21.cell? ⟨gb204, 0, none⟩ = some (.string (⟨#[]⟩ : ByteArray)) := (blk_cell BK204.out 0).trans rfl; have hcz23_1 : w21.cell? ⟨gb204, 1, none⟩ = some (.string (⟨#[]⟩ : ByteArray)) := (blk_cell BK204.out 1).trans rfl; have hcz23_2 : w21.cell? ⟨gb204, 2, none⟩ = some (.string (⟨#[]⟩ : ByteArray)) := (blk_cell BK204.out 2).trans rfl; have hfz23_0 := blk_frozen BK204.out 0; have hfz23_1 := blk_frozen BK204.out 1; have hfz23_2 := blk_frozen BK204.out 2))
       have n0_ : Aside0 ((((w21.setCell ⟨gb204, 0, none⟩ (.string t201)).setCell ⟨gb204, 1, none⟩ (.string t202)).setCell ⟨gb204, 2, none⟩ (.string t203)).heap[gb198]? = some (.cells #[.string a2_0, .string a2_1, .string a2_2] 23 (0, 0))) := ⟨by (with_reducible repeat (first | refine blk_drewN ?_ _ | refine blk_drew ?_ | refine blk_alloc ?_ _)); refine blk_far ?_ NB198_204.out _; (with_reducible repeat (first | refine blk_drewN ?_ _ | refine blk_drew ?_ | refine blk_alloc ?_ _)); refine blk_far ?_ NB198_204.out _; (with_reducible repeat (first | refine blk_drewN ?_ _ | refine blk_drew ?_ | refine blk_alloc ?_ _)); refine blk_far ?_ NB198_204.out _; (with_reducible repeat (first | refine blk_drewN ?_ _ | refine blk_drew ?_ | refine blk_alloc ?_ _)); exact BK198.out⟩
       have n1_ : Aside0 ((((w21.setCell ⟨gb204, 0, none⟩ (.string t201)).setCell ⟨gb204, 1, none⟩ (.string t202)).setCell ⟨gb204, 2, none⟩ (.string t203)).heap[gb204]? = some (.cells #[.string t201, .string t202, .string t203] 23 (0, 0))) := ⟨by (with_reducible repeat (first | refine blk_drewN ?_ _ | refine blk_drew ?_ | refine blk_alloc ?_ _)); refine blk_put (cs := #[.string t201, .string t202, .string (⟨#[]⟩ : ByteArray)]) ?_ 2 _ rfl; (with_reducible repeat (first | refine blk_drewN ?_ _ | refine blk_drew ?_ | refine blk_alloc ?_ _)); refine blk_put (cs := #[.string t201, .string (⟨#[]⟩ : ByteArray), .string (⟨#[]⟩ : ByteArray)]) ?_ 1 _ rfl; (with_reducible repeat (first | refine blk_drewN ?_ _ | refine blk_drew ?_ | refine blk_alloc ?_ _)); refine blk_put (cs := #[.string (⟨#[]⟩ : ByteArray), .string (⟨#[]⟩ : ByteArray), .string (⟨#[]⟩ : ByteArray)]) ?_ 0 _ rfl; (with_reducible repeat (first | refine blk_drewN ?_ _ | refine blk_drew ?_ | refine blk_alloc ?_ _)); exact BK204.out⟩
       have n2_ : Aside0 (Below w.heap.size w (((w21.setCell ⟨gb204, 0, none⟩ (.string t201)).setCell ⟨gb204, 1, none⟩ (.string t202)).setCell ⟨gb204, 2, none⟩ (.string t203))) := ⟨by repeat (first | (with_reducible first | exact HB.out | apply below_alloc | apply pw_below_drewN | apply below_drew1 | refine below_set ?_ GE198.out | refine below_set ?_ GE204.out) | exact HB.out)⟩
       (try clear BK198)
       (try clear BK204)
       (try clear HB)
       generalize (((w21.setCell ⟨gb204, 0, none⟩ (.string t201)).setCell ⟨gb204, 1, none⟩ (.string t202)).setCell ⟨gb204, 2, none⟩ (.string t203)) = w24 at n0_ n1_ n2_ ⊢
       have BK198 := n0_
       have BK204 := n1_
       have HB := n2_
       clear n0_ n1_ n2_
       have n0_ := Aside0.mk (blk_drew BK198.out)
       have n1_ := Aside0.mk (blk_drew BK204.out)
       have n2_ := Aside0.mk (below_drew1 HB.out)
       clear BK198
       clear BK204
       clear HB
       have BK198 := n0_
       have BK204 := n1_
       have HB := n2_
       clear n0_ n1_ n2_
       refine start_ (n := 18) (S := fun w' => w'.cell? ⟨gb204, 0, none⟩ = some (.string t201) ∧ w'.cell? ⟨gb204, 1, none⟩ = some (.string t202) ∧ w'.cell? ⟨gb204, 2, none⟩ = some (.string t203) ∧ w'.cell? ⟨gb198, 0, none⟩ = some (.string a2_0) ∧ w'.cell? ⟨gb198, 1, none⟩ = some (.string a2_1) ∧ w'.cell? ⟨gb198, 2, none⟩ = some (.string a2_2)) (ds := []) #[false,false,false,false,false,false,false,false,false,false,false,false,false,false,false,false,false,false] (by kernel_rfl) rfl rfl ⟨(blk_cell BK204.out 0).trans rfl, (blk_cell BK204.out 1).trans rfl, (blk_cell BK204.out 2).trans rfl, (blk_cell BK198.out 0).trans rfl, (blk_cell BK198.out 1).trans rfl, (blk_cell BK198.out 2).trans rfl⟩ (fun hHeld => ?_); refine with_tabW kerbsuitelaw1_PrincipalTgs.tab6 kerbsuitelaw1_PrincipalTgs.bits6 (fun HT_ HW_ => ?_)
       generalize w24.drew = w25 at BK198 BK204 HB hHeld ⊢
       refine pure_ (i := 1) (N := some 26) (v := ?_) (a' := ?_) (bo_ 18 2) rfl rfl (any_of HT_.out (by kernel_rfl)) (fun _ _ _ h => h) (Or.inl ⟨by rfl, ?_⟩) ?_ ?_
       rotate_left; (· intro w'; go_simp; with_reducible rfl)
       rotate_left; (· simp only [Act.put,List.setIfInBounds_toArray,List.set_cons_zero,List.set_cons_succ,i64_w,i32_w]; rfl)
       refine pure_ (i := 2) (N := some 27) (v := ?_) (a' := ?_) (bo_ 18 6) rfl rfl (any_of HT_.out (by kernel_rfl)) (fun _ _ _ h => h) (Or.inl ⟨by rfl, ?_⟩) ?_ ?_
       rotate_left; (· intro w'; go_simp; with_reducible rfl)
       rotate_left; (· simp only [Act.put,List.setIfInBounds_toArray,List.set_cons_zero,List.set_cons_succ,i64_w,i32_w]; rfl)
       refine pure_ (i := 3) (N := some 28) (v := ?_) (a' := ?_) (bo_ 18 14) rfl rfl (any_of HT_.out (by kernel_rfl)) (fun _ _ _ h => h) (Or.inl ⟨by rfl, ?_⟩) ?_ ?_
       rotate_left; (· intro w'; go_simp; with_reducible rfl)
       rotate_left; (· simp only [Act.put,List.setIfInBounds_toArray,List.set_cons_zero,List.set_cons_succ,i64_w,i32_w]; rfl)
       refine take_ (i := 0) (N := some 25) (v := ?_) (a' := ?_) (bo_ 18 15) rfl rfl (take_ofW HT_.out HW_.out (by kernel_rfl)) (fun _ _ _ h => h) (Or.inl ⟨by rfl, ?_⟩) hHeld ?_ ?_
       rotate_left; (· rintro w' ⟨s0, s1, s2, s3, s4, s5⟩; go_simp; with_reducible rfl)
       rotate_left; (· simp only [Act.put,List.setIfInBounds_toArray,List.set_cons_zero,List.set_cons_succ,i64_w,i32_w]; rfl)
       refine pure_ (i := 4) (N := some 29) (v := ?_) (a' := ?_) (bo_ 18 31) rfl rfl (any_of HT_.out (by kernel_rfl)) (fun _ _ _ h => h) (Or.inl ⟨by rfl, ?_⟩) ?_ ?_
       rotate_left; (· intro w'; go_simp; with_reducible rfl)
       rotate_left; (· simp only [Act.put,List.setIfInBounds_toArray,List.set_cons_zero,List.set_cons_succ,i64_w,i32_w]; rfl)
       refine pure_ (i := 5) (N := some 30) (v := ?_) (a' := ?_) (bo_ 18 63) rfl rfl (any_of HT_.out (by kernel_rfl)) (fun _ _ _ h => h) (Or.inl ⟨by rfl, ?_⟩) ?_ ?_
       rotate_left; (· intro w'; go_simp; with_reducible rfl)
       rotate_left; (· simp only [Act.put,List.setIfInBounds_toArray,List.set_cons_zero,List.set_cons_succ,i64_w,i32_w]; rfl)
       refine take_ (i := 6) (N := some 31) (v := ?_) (a' := ?_) (bo_ 18 127) rfl rfl (take_ofW HT_.out HW_.out (by kernel_rfl)) (fun _ _ _ h => h) (Or.inl ⟨by rfl, ?_⟩) hHeld ?_ ?_
       rotate_left; (· rintro w' ⟨s0, s1, s2, s3, s4, s5⟩; go_simp; with_reducible rfl)
       rotate_left; (· simp only [Act.put,List.setIfInBounds_toArray,List.set_cons_zero,List.set_cons_succ,i64_w,i32_w]; rfl)
       refine one_ (i := 7) (N := some 32) (bo_ 18 255) rfl rfl (one_of HT_.out (by kernel_rfl)) (by decide) (fun K hK => ?_)
       refine goes_ Try.func22 (by kernel_rfl) rfl #[.agg #[.string t201, .string t202, .string t203]] (by rfl) rfl rfl (by (try simp only [List.map_toArray, List.map_cons, List.map_nil]); first | done | rfl | (simp only [List.length_drop, List.length_take]; rfl)) ?_
       with_reducible refine (principal_IsTgs.calls t201 t202 t203 true _ A17.out).mono ?_
       rintro e w26 ⟨rfl, hb⟩
       refine ⟨_, rfl, ?_⟩
       have n0_ := Aside0.mk (blk_below (g := gb198) (o := .cells #[.string a2_0, .string a2_1, .string a2_2] 23 (0, 0)) (by (with_reducible repeat (first | refine blk_drewN ?_ _ | refine blk_drew ?_ | refine blk_alloc ?_ _)); exact BK198.out) hb)
       have n1_ := Aside0.mk (blk_below (g := gb204) (o := .cells #[.string t201, .string t202, .string t203] 23 (0, 0)) (by (with_reducible repeat (first | refine blk_drewN ?_ _ | refine blk_drew ?_ | refine blk_alloc ?_ _)); exact BK204.out) hb)
       have n2_ := Aside0.mk (below_step (by repeat (first | (with_reducible first | exact HB.out | apply below_alloc | apply pw_below_drewN | apply below_drew1 | refine below_set ?_ GE198.out | refine below_set ?_ GE204.out) | exact HB.out)) hb)
       clear BK198
       clear BK204
       clear HB
       have BK198 := n0_
       have BK204 := n1_
       have HB := n2_
       clear n0_ n1_ n2_
       (try clear hb)
       (try clear hb2)
       (try clear hk)
       (try clear hi)
       refine hK.out _ _ ⟨(blk_cell BK204.out 0).trans rfl, (blk_cell BK204.out 1).trans rfl, (blk_cell BK204.out 2).trans rfl, (blk_cell BK198.out 0).trans rfl, (blk_cell BK198.out 1).trans rfl, (blk_cell BK198.out 2).trans rfl⟩ (fun hHeld => ?_)
       clear hK K
       refine norm_ (a' := ?_) ?_ ?_
       rotate_left; (· show Act.put _ (some 32) _ = _; simp only [Act.put,List.setIfInBounds_toArray,List.set_cons_zero,List.set_cons_succ,i64_w,i32_w]; rfl)
       refine pure_ (i := 8) (N := some 33) (v := ?_) (a' := ?_) (bo_ 18 511) rfl rfl (any_of HT_.out (by kernel_rfl)) (fun _ _ _ h => h) (Or.inl ⟨by rfl, ?_⟩) ?_ ?_
       rotate_left; (· intro w'; go_simp; with_reducible rfl)
       rotate_left; (· simp only [Act.put,List.setIfInBounds_toArray,List.set_cons_zero,List.set_cons_succ,i64_w,i32_w]; rfl)
       refine pure_ (i := 9) (N := some 34) (v := ?_) (a' := ?_) (bo_ 18 1023) rfl rfl (any_of HT_.out (by kernel_rfl)) (fun _ _ _ h => h) (Or.inl ⟨by rfl, ?_⟩) ?_ ?_
       rotate_left; (· intro w'; go_simp; with_reducible rfl)
       rotate_left; (· simp only [Act.put,List.setIfInBounds_toArray,List.set_cons_zero,List.set_cons_succ,i64_w,i32_w]; rfl)
       refine pure_ (i := 12) (N := some 37) (v := ?_) (a' := ?_) (bo_ 18 5119) rfl rfl (any_of HT_.out (by kernel_rfl)) (fun _ _ _ h => h) (Or.inl ⟨by rfl, ?_⟩) ?_ ?_
       rotate_left; (· intro w'; go_simp; with_reducible rfl)
       rotate_left; (· simp only [Act.put,List.setIfInBounds_toArray,List.set_cons_zero,List.set_cons_succ,i64_w,i32_w]; rfl)
       refine take_ (i := 10) (N := some 35) (v := ?_) (a' := ?_) (bo_ 18 6143) rfl rfl (take_ofW HT_.out HW_.out (by kernel_rfl)) (fun _ _ _ h => h) (Or.inl ⟨by rfl, ?_⟩) hHeld ?_ ?_
       rotate_left; (· rintro w' ⟨s0, s1, s2, s3, s4, s5⟩; go_simp; with_reducible rfl)
       rotate_left; (· simp only [Act.put,List.setIfInBounds_toArray,List.set_cons_zero,List.set_cons_succ,i64_w,i32_w]; rfl)
       refine take_ (i := 13) (N := some 38) (v := ?_) (a' := ?_) (bo_ 18 14335) rfl rfl (take_ofW HT_.out HW_.out (by kernel_rfl)) (fun _ _ _ h => h) (Or.inl ⟨by rfl, ?_⟩) hHeld ?_ ?_
       rotate_left; (· rintro w' ⟨s0, s1, s2, s3, s4, s5⟩; go_simp; with_reducible rfl)
       rotate_left; (· simp only [Act.put,List.setIfInBounds_toArray,List.set_cons_zero,List.set_cons_succ,i64_w,i32_w]; rfl)
       refine pure_ (i := 14) (N := some 39) (v := ?_) (a' := ?_) (bo_ 18 30719) rfl rfl (any_of HT_.out (by kernel_rfl)) (fun _ _ _ h => h) (Or.inl ⟨by rfl, ?_⟩) ?_ ?_
       rotate_left; (· intro w'; go_simp; with_reducible rfl)
       rotate_left; (· simp only [Act.put,List.setIfInBounds_toArray,List.set_cons_zero,List.set_cons_succ,i64_w,i32_w]; rfl)
       refine one_ (i := 11) (N := some 36) (bo_ 18 32767) rfl rfl (one_of HT_.out (by kernel_rfl)) (by decide) (fun K hK => ?_)
       refine goes_ Try.func22 (by kernel_rfl) rfl #[.agg #[.string a2_0, .string a2_1, .string a2_2]] (by rfl) rfl rfl (by (try simp only [List.map_toArray, List.map_cons, List.map_nil]); first | done | rfl | (simp only [List.length_drop, List.length_take]; rfl)) ?_
       with_reducible refine (principal_IsTgs.calls a2_0 a2_1 a2_2 t206 _ A19.out).mono ?_
       rintro e w27 ⟨rfl, hb⟩
       refine ⟨_, rfl, ?_⟩
       have n0_ := Aside0.mk (blk_below (g := gb198) (o := .cells #[.string a2_0, .string a2_1, .string a2_2] 23 (0, 0)) (by (with_reducible repeat (first | refine blk_drewN ?_ _ | refine blk_drew ?_ | refine blk_alloc ?_ _)); exact BK198.out) hb)
       have n1_ := Aside0.mk (blk_below (g := gb204) (o := .cells #[.string t201, .string t202, .string t203] 23 (0, 0)) (by (with_reducible repeat (first | refine blk_drewN ?_ _ | refine blk_drew ?_ | refine blk_alloc ?_ _)); exact BK204.out) hb)
       have n2_ := Aside0.mk (below_step (by repeat (first | (with_reducible first | exact HB.out | apply below_alloc | apply pw_below_drewN | apply below_drew1 | refine below_set ?_ GE198.out | refine below_set ?_ GE204.out) | exact HB.out)) hb)
       clear BK198
       clear BK204
       clear HB
       have BK198 := n0_
       have BK204 := n1_
       have HB := n2_
       clear n0_ n1_ n2_
       (try clear hb)
       (try clear hb2)
       (try clear hk)
       (try clear hi)
       refine hK.out _ _ ⟨(blk_cell BK204.out 0).trans rfl, (blk_cell BK204.out 1).trans rfl, (blk_cell BK204.out 2).trans rfl, (blk_cell BK198.out 0).trans rfl, (blk_cell BK198.out 1).trans rfl, (blk_cell BK198.out 2).trans rfl⟩ (fun hHeld => ?_)
       clear hK K
       refine norm_ (a' := ?_) ?_ ?_
       rotate_left; (· show Act.put _ (some 36) _ = _; simp only [Act.put,List.setIfInBounds_toArray,List.set_cons_zero,List.set_cons_succ,i64_w,i32_w]; rfl)
       refine pure_ (i := 15) (N := some 40) (v := ?_) (a' := ?_) (bo_ 18 65535) rfl rfl (any_of HT_.out (by kernel_rfl)) (fun _ _ _ h => h) (Or.inl ⟨by rfl, ?_⟩) ?_ ?_
       rotate_left; (· intro w'; go_simp; with_reducible rfl)
       rotate_left; (· simp only [Act.put,List.setIfInBounds_toArray,List.set_cons_zero,List.set_cons_succ,i64_w,i32_w]; rfl)
       refine pure_ (i := 16) (N := some 41) (v := ?_) (a' := ?_) (bo_ 18 131071) rfl rfl (any_of HT_.out (by kernel_rfl)) (fun _ _ _ h => h) (Or.inl ⟨by rfl, ?_⟩) ?_ ?_
       rotate_left; (· intro w'; go_simp; with_reducible rfl)
       rotate_left; (· simp only [Act.put,List.setIfInBounds_toArray,List.set_cons_zero,List.set_cons_succ,i64_w,i32_w]; rfl)
       refine pure_ (i := 17) (N := some 6) (v := ?_) (a' := ?_) (bo_ 18 262143) rfl rfl (any_of HT_.out (by kernel_rfl)) (fun _ _ _ h => h) (Or.inl ⟨by rfl, ?_⟩) ?_ ?_
       rotate_left; (· intro w'; go_simp; with_reducible rfl)
       rotate_left; (· simp only [Act.put,List.setIfInBounds_toArray,List.set_cons_zero,List.set_cons_succ,i64_w,i32_w]; rfl)
       refine done_ (done_of HT_.out (by kernel_rfl)) ?_
       try go_wp2
       go_ret
       exact ⟨by first | rfl | (simp [errW_none, errW_some] <;> rfl) | (simp [*, errW_none, errW_some] <;> rfl), by repeat (first | (with_reducible first | exact HB.out | apply below_alloc | apply pw_below_drewN | apply below_drew1 | refine below_set ?_ GE198.out | refine below_set ?_ GE204.out) | exact HB.out)⟩
      ·replace c18 := Bool.eq_false_iff.mpr c18
       subst c18
       have H1 : (some false) = some r := by rw [if_neg (show ¬ (false = true) by decide)] at H; exact H
       clear H
       have H := H1
       clear H1
       obtain rfl := Option.some.inj H
       try go_wp2_with (first | ((with_reducible refine gate_callee (f := 21) rfl ?_); refine goesL_ (some 24) rfl rfl Try.func21 (by kernel_rfl) rfl #[.string a0, .string a1] rfl (by (try simp only [List.map_toArray, List.map_cons, List.map_nil]); first | done | rfl | (simp only [List.length_drop, List.length_take]; rfl)) ?_; (with_reducible refine (principal_Tgs.calls a0 a1 t201 t202 t203 _ A15.out).mono ?_); rintro e w28 ⟨rfl, hb⟩; refine ⟨_, rfl, ?_⟩; have n0_ := Aside0.mk (blk_below (g := gb198) (o := .cells #[.string a2_0, .string a2_1, .string a2_2] 23 (0, 0)) (by (with_reducible repeat (first | refine blk_drewN ?_ _ | refine blk_drew ?_ | refine blk_alloc ?_ _)); exact BK198.out) hb); have n1_ := Aside0.mk (below_step (by repeat (first | (with_reducible first | exact HB.out | apply below_alloc | apply pw_below_drewN | apply below_drew1 | refine below_set ?_ GE198.out) | exact HB.out)) hb); clear BK198; clear HB; have BK198 := n0_; have HB := n1_; clear n0_ n1_; (try clear hb); (try clear hb2); (try clear hk); (try clear hi)) | ((with_reducible refine gate_dst (N := 7) rfl ?_); (try (refine gate_guard (by rfl) ?_; dsimp only)); refine box_event ?hg (N := 7) ?hd (cs := #[.string (⟨#[]⟩ : ByteArray), .string (⟨#[]⟩ : ByteArray), .string (⟨#[]⟩ : ByteArray)]) (t := 23) ?hr ?_; (case hd => rfl); (case hg => rfl); (case hr => first | (go_simp; done) | (go_simp; rfl)); intro gb204 hg w29 hbox hb; have n0_ := Aside0.mk (blk_below (g := gb198) (o := .cells #[.string a2_0, .string a2_1, .string a2_2] 23 (0, 0)) (by (with_reducible repeat (first | refine blk_drewN ?_ _ | refine blk_drew ?_ | refine blk_alloc ?_ _)); exact BK198.out) hb); have n1_ := Aside0.mk (below_step (by repeat (first | (with_reducible first | exact HB.out | apply below_alloc | apply pw_below_drewN | apply below_drew1 | refine below_set ?_ GE198.out) | exact HB.out)) hb); have n2_ := Aside0.mk (hbox); have n3_ := Aside0.mk ((by rw [hg]; exact (below_size (by repeat (first | (with_reducible first | exact HB.out | apply below_alloc | apply pw_below_drewN | apply below_drew1 | refine below_set ?_ GE198.out) | exact HB.out))) : w.heap.size ≤ gb204)); have n4_ := Aside0.mk ((by rw [hg]; exact (below_size (by repeat (first | (with_reducible first | exact HB.out | apply below_alloc | apply pw_below_drewN | apply below_drew1 | refine below_set ?_ GE198.out) | exact HB.out))) : w.heap.size ≤ gb204)); have n5_ := Aside0.mk ((by rw [hg]; exact Nat.ne_of_lt (blk_lt (g := gb198) (o := .cells #[.string a2_0, .string a2_1, .string a2_2] 23 (0, 0)) (by (with_reducible repeat (first | refine blk_drewN ?_ _ | refine blk_drew ?_ | refine blk_alloc ?_ _)); exact BK198.out)) : gb198 ≠ gb204)); have n6_ := Aside0.mk ((by rw [hg]; exact Nat.ne_of_gt (blk_lt (g := gb198) (o := .cells #[.string a2_0, .string a2_1, .string a2_2] 23 (0, 0)) (by (with_reducible repeat (first | refine blk_drewN ?_ _ | refine blk_drew ?_ | refine blk_alloc ?_ _)); exact BK198.out)) : gb204 ≠ gb198)); clear BK198; clear HB; have BK198 := n0_; have HB := n1_; have BK204 := n2_; have GW204 := n3_; have GE204 := n4_; have NB198_204 := n5_; have NB204_198 := n6_; clear n0_ n1_ n2_ n3_ n4_ n5_ n6_; clear hb hbox hg; have hnb30 := NB204_198.out; have hnc30 := NB198_204.out; have hcz31_0 : w29.cell? ⟨gb204, 0, none⟩ = some (.string (⟨#[]⟩ : ByteArray)) := (blk_cell BK204.out 0).trans rfl; have hcz31_1 : w29.cell? ⟨gb204, 1, none⟩ = some (.string (⟨#[]⟩ : ByteArray)) := (blk_cell BK204.out 1).trans rfl; have hcz31_2 : w29.cell? ⟨gb204, 2, none⟩ = some (.string (⟨#[]⟩ : ByteArray)) := (blk_cell BK204.out 2).trans rfl; have hfz31_0 := blk_frozen BK204.out 0; have hfz31_1 := blk_frozen BK204.out 1; have hfz31_2 := blk_frozen BK204.out 2))
       have n0_ : Aside0 ((((w29.setCell ⟨gb204, 0, none⟩ (.string t201)).setCell ⟨gb204, 1, none⟩ (.string t202)).setCell ⟨gb204, 2, none⟩ (.string t203)).heap[gb198]? = some (.cells #[.string a2_0, .string a2_1, .string a2_2] 23 (0, 0))) := ⟨by (with_reducible repeat (first | refine blk_drewN ?_ _ | refine blk_drew ?_ | refine blk_alloc ?_ _)); refine blk_far ?_ NB198_204.out _; (with_reducible repeat (first | refine blk_drewN ?_ _ | refine blk_drew ?_ | refine blk_alloc ?_ _)); refine blk_far ?_ NB198_204.out _; (with_reducible repeat (first | refine blk_drewN ?_ _ | refine blk_drew ?_ | refine blk_alloc ?_ _)); refine blk_far ?_ NB198_204.out _; (with_reducible repeat (first | refine blk_drewN ?_ _ | refine blk_drew ?_ | refine blk_alloc ?_ _)); exact BK198.out⟩
       have n1_ : Aside0 ((((w29.setCell ⟨gb204, 0, none⟩ (.string t201)).setCell ⟨gb204, 1, none⟩ (.string t202)).setCell ⟨gb204, 2, none⟩ (.string t203)).heap[gb204]? = some (.cells #[.string t201, .string t202, .string t203] 23 (0, 0))) := ⟨by (with_reducible repeat (first | refine blk_drewN ?_ _ | refine blk_drew ?_ | refine blk_alloc ?_ _)); refine blk_put (cs := #[.string t201, .string t202, .string (⟨#[]⟩ : ByteArray)]) ?_ 2 _ rfl; (with_reducible repeat (first | refine blk_drewN ?_ _ | refine blk_drew ?_ | refine blk_alloc ?_ _)); refine blk_put (cs := #[.string t201, .string (⟨#[]⟩ : ByteArray), .string (⟨#[]⟩ : ByteArray)]) ?_ 1 _ rfl; (with_reducible repeat (first | refine blk_drewN ?_ _ | refine blk_drew ?_ | refine blk_alloc ?_ _)); refine blk_put (cs := #[.string (⟨#[]⟩ : ByteArray), .string (⟨#[]⟩ : ByteArray), .string (⟨#[]⟩ : ByteArray)]) ?_ 0 _ rfl; (with_reducible repeat (first | refine blk_drewN ?_ _ | refine blk_drew ?_ | refine blk_alloc ?_ _)); exact BK204.out⟩
       have n2_ : Aside0 (Below w.heap.size w (((w29.setCell ⟨gb204, 0, none⟩ (.string t201)).setCell ⟨gb204, 1, none⟩ (.string t202)).setCell ⟨gb204, 2, none⟩ (.string t203))) := ⟨by repeat (first | (with_reducible first | exact HB.out | apply below_alloc | apply pw_below_drewN | apply below_drew1 | refine below_set ?_ GE198.out | refine below_set ?_ GE204.out) | exact HB.out)⟩
       (try clear BK198)
       (try clear BK204)
       (try clear HB)
       generalize (((w29.setCell ⟨gb204, 0, none⟩ (.string t201)).setCell ⟨gb204, 1, none⟩ (.string t202)).setCell ⟨gb204, 2, none⟩ (.string t203)) = w32 at n0_ n1_ n2_ ⊢
       have BK198 := n0_
       have BK204 := n1_
       have HB := n2_
       clear n0_ n1_ n2_
       have n0_ := Aside0.mk (blk_drew BK198.out)
       have n1_ := Aside0.mk (blk_drew BK204.out)
       have n2_ := Aside0.mk (below_drew1 HB.out)
       clear BK198
       clear BK204
       clear HB
       have BK198 := n0_
       have BK204 := n1_
       have HB := n2_
       clear n0_ n1_ n2_
       refine start_ (n := 18) (S := fun w' => w'.cell? ⟨gb204, 0, none⟩ = some (.string t201) ∧ w'.cell? ⟨gb204, 1, none⟩ = some (.string t202) ∧ w'.cell? ⟨gb204, 2, none⟩ = some (.string t203)) (ds := []) #[false,false,false,false,false,false,false,false,false,false,false,false,false,false,false,false,false,false] (by kernel_rfl) rfl rfl ⟨(blk_cell BK204.out 0).trans rfl, (blk_cell BK204.out 1).trans rfl, (blk_cell BK204.out 2).trans rfl⟩ (fun hHeld => ?_); refine with_tabW kerbsuitelaw1_PrincipalTgs.tab6 kerbsuitelaw1_PrincipalTgs.bits6 (fun HT_ HW_ => ?_)
       generalize w32.drew = w33 at BK198 BK204 HB hHeld ⊢
       refine pure_ (i := 1) (N := some 26) (v := ?_) (a' := ?_) (bo_ 18 2) rfl rfl (any_of HT_.out (by kernel_rfl)) (fun _ _ _ h => h) (Or.inl ⟨by rfl, ?_⟩) ?_ ?_
       rotate_left; (· intro w'; go_simp; with_reducible rfl)
       rotate_left; (· simp only [Act.put,List.setIfInBounds_toArray,List.set_cons_zero,List.set_cons_succ,i64_w,i32_w]; rfl)
       refine pure_ (i := 2) (N := some 27) (v := ?_) (a' := ?_) (bo_ 18 6) rfl rfl (any_of HT_.out (by kernel_rfl)) (fun _ _ _ h => h) (Or.inl ⟨by rfl, ?_⟩) ?_ ?_
       rotate_left; (· intro w'; go_simp; with_reducible rfl)
       rotate_left; (· simp only [Act.put,List.setIfInBounds_toArray,List.set_cons_zero,List.set_cons_succ,i64_w,i32_w]; rfl)
       refine pure_ (i := 3) (N := some 28) (v := ?_) (a' := ?_) (bo_ 18 14) rfl rfl (any_of HT_.out (by kernel_rfl)) (fun _ _ _ h => h) (Or.inl ⟨by rfl, ?_⟩) ?_ ?_
       rotate_left; (· intro w'; go_simp; with_reducible rfl)
       rotate_left; (· simp only [Act.put,List.setIfInBounds_toArray,List.set_cons_zero,List.set_cons_succ,i64_w,i32_w]; rfl)
       refine take_ (i := 0) (N := some 25) (v := ?_) (a' := ?_) (bo_ 18 15) rfl rfl (take_ofW HT_.out HW_.out (by kernel_rfl)) (fun _ _ _ h => h) (Or.inl ⟨by rfl, ?_⟩) hHeld ?_ ?_
       rotate_left; (· rintro w' ⟨s0, s1, s2⟩; go_simp; with_reducible rfl)
       rotate_left; (· simp only [Act.put,List.setIfInBounds_toArray,List.set_cons_zero,List.set_cons_succ,i64_w,i32_w]; rfl)
       refine pure_ (i := 4) (N := some 29) (v := ?_) (a' := ?_) (bo_ 18 31) rfl rfl (any_of HT_.out (by kernel_rfl)) (fun _ _ _ h => h) (Or.inl ⟨by rfl, ?_⟩) ?_ ?_
       rotate_left; (· intro w'; go_simp; with_reducible rfl)
       rotate_left; (· simp only [Act.put,List.setIfInBounds_toArray,List.set_cons_zero,List.set_cons_succ,i64_w,i32_w]; rfl)
       refine pure_ (i := 5) (N := some 30) (v := ?_) (a' := ?_) (bo_ 18 63) rfl rfl (any_of HT_.out (by kernel_rfl)) (fun _ _ _ h => h) (Or.inl ⟨by rfl, ?_⟩) ?_ ?_
       rotate_left; (· intro w'; go_simp; with_reducible rfl)
       rotate_left; (· simp only [Act.put,List.setIfInBounds_toArray,List.set_cons_zero,List.set_cons_succ,i64_w,i32_w]; rfl)
       refine take_ (i := 6) (N := some 31) (v := ?_) (a' := ?_) (bo_ 18 127) rfl rfl (take_ofW HT_.out HW_.out (by kernel_rfl)) (fun _ _ _ h => h) (Or.inl ⟨by rfl, ?_⟩) hHeld ?_ ?_
       rotate_left; (· rintro w' ⟨s0, s1, s2⟩; go_simp; with_reducible rfl)
       rotate_left; (· simp only [Act.put,List.setIfInBounds_toArray,List.set_cons_zero,List.set_cons_succ,i64_w,i32_w]; rfl)
       refine one_ (i := 7) (N := some 32) (bo_ 18 255) rfl rfl (one_of HT_.out (by kernel_rfl)) (by decide) (fun K hK => ?_)
       refine goes_ Try.func22 (by kernel_rfl) rfl #[.agg #[.string t201, .string t202, .string t203]] (by rfl) rfl rfl (by (try simp only [List.map_toArray, List.map_cons, List.map_nil]); first | done | rfl | (simp only [List.length_drop, List.length_take]; rfl)) ?_
       with_reducible refine (principal_IsTgs.calls t201 t202 t203 false _ A17.out).mono ?_
       rintro e w34 ⟨rfl, hb⟩
       refine ⟨_, rfl, ?_⟩
       have n0_ := Aside0.mk (blk_below (g := gb198) (o := .cells #[.string a2_0, .string a2_1, .string a2_2] 23 (0, 0)) (by (with_reducible repeat (first | refine blk_drewN ?_ _ | refine blk_drew ?_ | refine blk_alloc ?_ _)); exact BK198.out) hb)
       have n1_ := Aside0.mk (blk_below (g := gb204) (o := .cells #[.string t201, .string t202, .string t203] 23 (0, 0)) (by (with_reducible repeat (first | refine blk_drewN ?_ _ | refine blk_drew ?_ | refine blk_alloc ?_ _)); exact BK204.out) hb)
       have n2_ := Aside0.mk (below_step (by repeat (first | (with_reducible first | exact HB.out | apply below_alloc | apply pw_below_drewN | apply below_drew1 | refine below_set ?_ GE198.out | refine below_set ?_ GE204.out) | exact HB.out)) hb)
       clear BK198
       clear BK204
       clear HB
       have BK198 := n0_
       have BK204 := n1_
       have HB := n2_
       clear n0_ n1_ n2_
       (try clear hb)
       (try clear hb2)
       (try clear hk)
       (try clear hi)
       refine hK.out _ _ ⟨(blk_cell BK204.out 0).trans rfl, (blk_cell BK204.out 1).trans rfl, (blk_cell BK204.out 2).trans rfl⟩ (fun hHeld => ?_)
       clear hK K
       refine norm_ (a' := ?_) ?_ ?_
       rotate_left; (· show Act.put _ (some 32) _ = _; simp only [Act.put,List.setIfInBounds_toArray,List.set_cons_zero,List.set_cons_succ,i64_w,i32_w]; rfl)
       refine pure_ (i := 8) (N := some 33) (v := ?_) (a' := ?_) (bo_ 18 511) rfl rfl (any_of HT_.out (by kernel_rfl)) (fun _ _ _ h => h) (Or.inl ⟨by rfl, ?_⟩) ?_ ?_
       rotate_left; (· intro w'; go_simp; with_reducible rfl)
       rotate_left; (· simp only [Act.put,List.setIfInBounds_toArray,List.set_cons_zero,List.set_cons_succ,i64_w,i32_w]; rfl)
       refine pure_ (i := 9) (N := some 34) (v := ?_) (a' := ?_) (bo_ 18 1023) rfl rfl (any_of HT_.out (by kernel_rfl)) (fun _ _ _ h => h) (Or.inl ⟨by rfl, ?_⟩) ?_ ?_
       rotate_left; (· intro w'; go_simp; with_reducible rfl)
       rotate_left; (· simp only [Act.put,List.setIfInBounds_toArray,List.set_cons_zero,List.set_cons_succ,i64_w,i32_w]; rfl)
       refine pure_ (i := 10) (N := some 35) (v := undef) (a' := ?_) (bo_ 18 2047) rfl rfl (any_of HT_.out (by kernel_rfl)) (fun _ _ _ h => h) (Or.inr ⟨by rfl, rfl⟩) ?_ ?_
       rotate_left; (· simp only [Act.put,List.setIfInBounds_toArray,List.set_cons_zero,List.set_cons_succ,i64_w,i32_w]; rfl)
       refine pure_ (i := 11) (N := some 36) (v := undef) (a' := ?_) (bo_ 18 4095) rfl rfl (any_of HT_.out (by kernel_rfl)) (fun _ _ _ h => h) (Or.inr ⟨by rfl, rfl⟩) ?_ ?_
       rotate_left; (· simp only [Act.put,List.setIfInBounds_toArray,List.set_cons_zero,List.set_cons_succ,i64_w,i32_w]; rfl)
       refine pure_ (i := 12) (N := some 37) (v := undef) (a' := ?_) (bo_ 18 8191) rfl rfl (any_of HT_.out (by kernel_rfl)) (fun _ _ _ h => h) (Or.inr ⟨by rfl, rfl⟩) ?_ ?_
       rotate_left; (· simp only [Act.put,List.setIfInBounds_toArray,List.set_cons_zero,List.set_cons_succ,i64_w,i32_w]; rfl)
       refine pure_ (i := 13) (N := some 38) (v := undef) (a' := ?_) (bo_ 18 16383) rfl rfl (any_of HT_.out (by kernel_rfl)) (fun _ _ _ h => h) (Or.inr ⟨by rfl, rfl⟩) ?_ ?_
       rotate_left; (· simp only [Act.put,List.setIfInBounds_toArray,List.set_cons_zero,List.set_cons_succ,i64_w,i32_w]; rfl)
       refine pure_ (i := 14) (N := some 39) (v := undef) (a' := ?_) (bo_ 18 32767) rfl rfl (any_of HT_.out (by kernel_rfl)) (fun _ _ _ h => h) (Or.inr ⟨by rfl, rfl⟩) ?_ ?_
       rotate_left; (· simp only [Act.put,List.setIfInBounds_toArray,List.set_cons_zero,List.set_cons_succ,i64_w,i32_w]; rfl)
       refine pure_ (i := 15) (N := some 40) (v := undef) (a' := ?_) (bo_ 18 65535) rfl rfl (any_of HT_.out (by kernel_rfl)) (fun _ _ _ h => h) (Or.inr ⟨by rfl, rfl⟩) ?_ ?_
       rotate_left; (· simp only [Act.put,List.setIfInBounds_toArray,List.set_cons_zero,List.set_cons_succ,i64_w,i32_w]; rfl)
       refine pure_ (i := 16) (N := some 41) (v := ?_) (a' := ?_) (bo_ 18 131071) rfl rfl (any_of HT_.out (by kernel_rfl)) (fun _ _ _ h => h) (Or.inl ⟨by rfl, ?_⟩) ?_ ?_
       rotate_left; (· intro w'; go_simp; with_reducible rfl)
       rotate_left; (· simp only [Act.put,List.setIfInBounds_toArray,List.set_cons_zero,List.set_cons_succ,i64_w,i32_w]; rfl)
       refine pure_ (i := 17) (N := some 6) (v := ?_) (a' := ?_) (bo_ 18 262143) rfl rfl (any_of HT_.out (by kernel_rfl)) (fun _ _ _ h => h) (Or.inl ⟨by rfl, ?_⟩) ?_ ?_
       rotate_left; (· intro w'; go_simp; with_reducible rfl)
       rotate_left; (· simp only [Act.put,List.setIfInBounds_toArray,List.set_cons_zero,List.set_cons_succ,i64_w,i32_w]; rfl)
       refine done_ (done_of HT_.out (by kernel_rfl)) ?_
       try go_wp2
       go_ret
       exact ⟨by first | rfl | (simp [errW_none, errW_some] <;> rfl) | (simp [*, errW_none, errW_some] <;> rfl), by repeat (first | (with_reducible first | exact HB.out | apply below_alloc | apply pw_below_drewN | apply below_drew1 | refine below_set ?_ GE198.out | refine below_set ?_ GE204.out) | exact HB.out)⟩
     ·rw [if_neg c16] at H
      have c16b0 : (t201.toList == ([107, 114, 98, 116, 103, 116] : List UInt8) && (t202.toList == a1.toList && (t203.toList == a0.toList))) = false := by simpa using c16
      (try (have c16b1 : decide (t201.toList = ([107, 114, 98, 116, 103, 116] : List UInt8) && (t202.toList == a1.toList && (t203.toList == a0.toList))) = false := by simpa using c16))
      (try (have c16b2 : (t201.toList == ([107, 114, 98, 116, 103, 116] : List UInt8) && (t202.toList == a1.toList && (t203.toList == a0.toList))) = false := by simpa using c16))
      (try (have c16b3 : ¬ (t201.toList = ([107, 114, 98, 116, 103, 116] : List UInt8) && (t202.toList == a1.toList && (t203.toList == a0.toList))) := by simpa using c16))
      clear c16
      obtain rfl := Option.some.inj H
      try go_wp2_with (first | ((with_reducible refine gate_callee (f := 21) rfl ?_); refine goesL_ (some 24) rfl rfl Try.func21 (by kernel_rfl) rfl #[.string a0, .string a1] rfl (by (try simp only [List.map_toArray, List.map_cons, List.map_nil]); first | done | rfl | (simp only [List.length_drop, List.length_take]; rfl)) ?_; (with_reducible refine (principal_Tgs.calls a0 a1 t201 t202 t203 _ A15.out).mono ?_); rintro e w35 ⟨rfl, hb⟩; refine ⟨_, rfl, ?_⟩; have n0_ := Aside0.mk (blk_below (g := gb198) (o := .cells #[.string a2_0, .string a2_1, .string a2_2] 23 (0, 0)) (by (with_reducible repeat (first | refine blk_drewN ?_ _ | refine blk_drew ?_ | refine blk_alloc ?_ _)); exact BK198.out) hb); have n1_ := Aside0.mk (below_step (by repeat (first | (with_reducible first | exact HB.out | apply below_alloc | apply pw_below_drewN | apply below_drew1 | refine below_set ?_ GE198.out) | exact HB.out)) hb); clear BK198; clear HB; have BK198 := n0_; have HB := n1_; clear n0_ n1_; (try clear hb); (try clear hb2); (try clear hk); (try clear hi)) | ((with_reducible refine gate_dst (N := 7) rfl ?_); (try (refine gate_guard (by rfl) ?_; dsimp only)); refine box_event ?hg (N := 7) ?hd (cs := #[.string (⟨#[]⟩ : ByteArray), .string (⟨#[]⟩ : ByteArray), .string (⟨#[]⟩ : ByteArray)]) (t := 23) ?hr ?_; (case hd => rfl); (case hg => rfl); (case hr => first | (go_simp; done) | (go_simp; rfl)); intro gb204 hg w36 hbox hb; have n0_ := Aside0.mk (blk_below (g := gb198) (o := .cells #[.string a2_0, .string a2_1, .string a2_2] 23 (0, 0)) (by (with_reducible repeat (first | refine blk_drewN ?_ _ | refine blk_drew ?_ | refine blk_alloc ?_ _)); exact BK198.out) hb); have n1_ := Aside0.mk (below_step (by repeat (first | (with_reducible first | exact HB.out | apply below_alloc | apply pw_below_drewN | apply below_drew1 | refine below_set ?_ GE198.out) | exact HB.out)) hb); have n2_ := Aside0.mk (hbox); have n3_ := Aside0.mk ((by rw [hg]; exact (below_size (by repeat (first | (with_reducible first | exact HB.out | apply below_alloc | apply pw_below_drewN | apply below_drew1 | refine below_set ?_ GE198.out) | exact HB.out))) : w.heap.size ≤ gb204)); have n4_ := Aside0.mk ((by rw [hg]; exact (below_size (by repeat (first | (with_reducible first | exact HB.out | apply below_alloc | apply pw_below_drewN | apply below_drew1 | refine below_set ?_ GE198.out) | exact HB.out))) : w.heap.size ≤ gb204)); have n5_ := Aside0.mk ((by rw [hg]; exact Nat.ne_of_lt (blk_lt (g := gb198) (o := .cells #[.string a2_0, .string a2_1, .string a2_2] 23 (0, 0)) (by (with_reducible repeat (first | refine blk_drewN ?_ _ | refine blk_drew ?_ | refine blk_alloc ?_ _)); exact BK198.out)) : gb198 ≠ gb204)); have n6_ := Aside0.mk ((by rw [hg]; exact Nat.ne_of_gt (blk_lt (g := gb198) (o := .cells #[.string a2_0, .string a2_1, .string a2_2] 23 (0, 0)) (by (with_reducible repeat (first | refine blk_drewN ?_ _ | refine blk_drew ?_ | refine blk_alloc ?_ _)); exact BK198.out)) : gb204 ≠ gb198)); clear BK198; clear HB; have BK198 := n0_; have HB := n1_; have BK204 := n2_; have GW204 := n3_; have GE204 := n4_; have NB198_204 := n5_; have NB204_198 := n6_; clear n0_ n1_ n2_ n3_ n4_ n5_ n6_; clear hb hbox hg; have hnb37 := NB204_198.out; have hnc37 := NB198_204.out; have hcz38_0 : w36.cell? ⟨gb204, 0, none⟩ = some (.string (⟨#[]⟩ : ByteArray)) := (blk_cell BK204.out 0).trans rfl; have hcz38_1 : w36.cell? ⟨gb204, 1, none⟩ = some (.string (⟨#[]⟩ : ByteArray)) := (blk_cell BK204.out 1).trans rfl; have hcz38_2 : w36.cell? ⟨gb204, 2, none⟩ = some (.string (⟨#[]⟩ : ByteArray)) := (blk_cell BK204.out 2).trans rfl; have hfz38_0 := blk_frozen BK204.out 0; have hfz38_1 := blk_frozen BK204.out 1; have hfz38_2 := blk_frozen BK204.out 2))
      have n0_ : Aside0 ((((w36.setCell ⟨gb204, 0, none⟩ (.string t201)).setCell ⟨gb204, 1, none⟩ (.string t202)).setCell ⟨gb204, 2, none⟩ (.string t203)).heap[gb198]? = some (.cells #[.string a2_0, .string a2_1, .string a2_2] 23 (0, 0))) := ⟨by (with_reducible repeat (first | refine blk_drewN ?_ _ | refine blk_drew ?_ | refine blk_alloc ?_ _)); refine blk_far ?_ NB198_204.out _; (with_reducible repeat (first | refine blk_drewN ?_ _ | refine blk_drew ?_ | refine blk_alloc ?_ _)); refine blk_far ?_ NB198_204.out _; (with_reducible repeat (first | refine blk_drewN ?_ _ | refine blk_drew ?_ | refine blk_alloc ?_ _)); refine blk_far ?_ NB198_204.out _; (with_reducible repeat (first | refine blk_drewN ?_ _ | refine blk_drew ?_ | refine blk_alloc ?_ _)); exact BK198.out⟩
      have n1_ : Aside0 ((((w36.setCell ⟨gb204, 0, none⟩ (.string t201)).setCell ⟨gb204, 1, none⟩ (.string t202)).setCell ⟨gb204, 2, none⟩ (.string t203)).heap[gb204]? = some (.cells #[.string t201, .string t202, .string t203] 23 (0, 0))) := ⟨by (with_reducible repeat (first | refine blk_drewN ?_ _ | refine blk_drew ?_ | refine blk_alloc ?_ _)); refine blk_put (cs := #[.string t201, .string t202, .string (⟨#[]⟩ : ByteArray)]) ?_ 2 _ rfl; (with_reducible repeat (first | refine blk_drewN ?_ _ | refine blk_drew ?_ | refine blk_alloc ?_ _)); refine blk_put (cs := #[.string t201, .string (⟨#[]⟩ : ByteArray), .string (⟨#[]⟩ : ByteArray)]) ?_ 1 _ rfl; (with_reducible repeat (first | refine blk_drewN ?_ _ | refine blk_drew ?_ | refine blk_alloc ?_ _)); refine blk_put (cs := #[.string (⟨#[]⟩ : ByteArray), .string (⟨#[]⟩ : ByteArray), .string (⟨#[]⟩ : ByteArray)]) ?_ 0 _ rfl; (with_reducible repeat (first | refine blk_drewN ?_ _ | refine blk_drew ?_ | refine blk_alloc ?_ _)); exact BK204.out⟩
      have n2_ : Aside0 (Below w.heap.size w (((w36.setCell ⟨gb204, 0, none⟩ (.string t201)).setCell ⟨gb204, 1, none⟩ (.string t202)).setCell ⟨gb204, 2, none⟩ (.string t203))) := ⟨by repeat (first | (with_reducible first | exact HB.out | apply below_alloc | apply pw_below_drewN | apply below_drew1 | refine below_set ?_ GE198.out | refine below_set ?_ GE204.out) | exact HB.out)⟩
      (try clear BK198)
      (try clear BK204)
      (try clear HB)
      generalize (((w36.setCell ⟨gb204, 0, none⟩ (.string t201)).setCell ⟨gb204, 1, none⟩ (.string t202)).setCell ⟨gb204, 2, none⟩ (.string t203)) = w39 at n0_ n1_ n2_ ⊢
      have BK198 := n0_
      have BK204 := n1_
      have HB := n2_
      clear n0_ n1_ n2_
      have n0_ := Aside0.mk (blk_drew BK198.out)
      have n1_ := Aside0.mk (blk_drew BK204.out)
      have n2_ := Aside0.mk (below_drew1 HB.out)
      clear BK198
      clear BK204
      clear HB
      have BK198 := n0_
      have BK204 := n1_
      have HB := n2_
      clear n0_ n1_ n2_
      refine start_ (n := 18) (S := fun w' => w'.cell? ⟨gb204, 0, none⟩ = some (.string t201) ∧ w'.cell? ⟨gb204, 1, none⟩ = some (.string t202) ∧ w'.cell? ⟨gb204, 2, none⟩ = some (.string t203)) (ds := []) #[false,false,false,false,false,false,false,false,false,false,false,false,false,false,false,false,false,false] (by kernel_rfl) rfl rfl ⟨(blk_cell BK204.out 0).trans rfl, (blk_cell BK204.out 1).trans rfl, (blk_cell BK204.out 2).trans rfl⟩ (fun hHeld => ?_); refine with_tabW kerbsuitelaw1_PrincipalTgs.tab6 kerbsuitelaw1_PrincipalTgs.bits6 (fun HT_ HW_ => ?_)
      generalize w39.drew = w40 at BK198 BK204 HB hHeld ⊢
      refine pure_ (i := 1) (N := some 26) (v := ?_) (a' := ?_) (bo_ 18 2) rfl rfl (any_of HT_.out (by kernel_rfl)) (fun _ _ _ h => h) (Or.inl ⟨by rfl, ?_⟩) ?_ ?_
      rotate_left; (· intro w'; go_simp; with_reducible rfl)
      rotate_left; (· simp only [Act.put,List.setIfInBounds_toArray,List.set_cons_zero,List.set_cons_succ,i64_w,i32_w]; rfl)
      refine pure_ (i := 2) (N := some 27) (v := ?_) (a' := ?_) (bo_ 18 6) rfl rfl (any_of HT_.out (by kernel_rfl)) (fun _ _ _ h => h) (Or.inl ⟨by rfl, ?_⟩) ?_ ?_
      rotate_left; (· intro w'; go_simp; with_reducible rfl)
      rotate_left; (· simp only [Act.put,List.setIfInBounds_toArray,List.set_cons_zero,List.set_cons_succ,i64_w,i32_w]; rfl)
      refine pure_ (i := 3) (N := some 28) (v := ?_) (a' := ?_) (bo_ 18 14) rfl rfl (any_of HT_.out (by kernel_rfl)) (fun _ _ _ h => h) (Or.inl ⟨by rfl, ?_⟩) ?_ ?_
      rotate_left; (· intro w'; go_simp; with_reducible rfl)
      rotate_left; (· simp only [Act.put,List.setIfInBounds_toArray,List.set_cons_zero,List.set_cons_succ,i64_w,i32_w]; rfl)
      refine take_ (i := 0) (N := some 25) (v := ?_) (a' := ?_) (bo_ 18 15) rfl rfl (take_ofW HT_.out HW_.out (by kernel_rfl)) (fun _ _ _ h => h) (Or.inl ⟨by rfl, ?_⟩) hHeld ?_ ?_
      rotate_left; (· rintro w' ⟨s0, s1, s2⟩; go_simp; with_reducible rfl)
      rotate_left; (· simp only [Act.put,List.setIfInBounds_toArray,List.set_cons_zero,List.set_cons_succ,i64_w,i32_w]; rfl)
      refine pure_ (i := 4) (N := some 29) (v := ?_) (a' := ?_) (bo_ 18 31) rfl rfl (any_of HT_.out (by kernel_rfl)) (fun _ _ _ h => h) (Or.inl ⟨by rfl, ?_⟩) ?_ ?_
      rotate_left; (· intro w'; go_simp; with_reducible rfl)
      rotate_left; (· simp only [Act.put,List.setIfInBounds_toArray,List.set_cons_zero,List.set_cons_succ,i64_w,i32_w]; rfl)
      refine pure_ (i := 5) (N := some 30) (v := ?_) (a' := ?_) (bo_ 18 63) rfl rfl (any_of HT_.out (by kernel_rfl)) (fun _ _ _ h => h) (Or.inl ⟨by rfl, ?_⟩) ?_ ?_
      rotate_left; (· intro w'; go_simp; with_reducible rfl)
      rotate_left; (· simp only [Act.put,List.setIfInBounds_toArray,List.set_cons_zero,List.set_cons_succ,i64_w,i32_w]; rfl)
      refine pure_ (i := 6) (N := some 31) (v := undef) (a' := ?_) (bo_ 18 127) rfl rfl (any_of HT_.out (by kernel_rfl)) (fun _ _ _ h => h) (Or.inr ⟨by rfl, rfl⟩) ?_ ?_
      rotate_left; (· simp only [Act.put,List.setIfInBounds_toArray,List.set_cons_zero,List.set_cons_succ,i64_w,i32_w]; rfl)
      refine pure_ (i := 7) (N := some 32) (v := undef) (a' := ?_) (bo_ 18 255) rfl rfl (any_of HT_.out (by kernel_rfl)) (fun _ _ _ h => h) (Or.inr ⟨by rfl, rfl⟩) ?_ ?_
      rotate_left; (· simp only [Act.put,List.setIfInBounds_toArray,List.set_cons_zero,List.set_cons_succ,i64_w,i32_w]; rfl)
      refine pure_ (i := 8) (N := some 33) (v := ?_) (a' := ?_) (bo_ 18 511) rfl rfl (any_of HT_.out (by kernel_rfl)) (fun _ _ _ h => h) (Or.inl ⟨by rfl, ?_⟩) ?_ ?_
      rotate_left; (· intro w'; go_simp; with_reducible rfl)
      rotate_left; (· simp only [Act.put,List.setIfInBounds_toArray,List.set_cons_zero,List.set_cons_succ,i64_w,i32_w]; rfl)
      refine pure_ (i := 9) (N := some 34) (v := ?_) (a' := ?_) (bo_ 18 1023) rfl rfl (any_of HT_.out (by kernel_rfl)) (fun _ _ _ h => h) (Or.inl ⟨by rfl, ?_⟩) ?_ ?_
      rotate_left; (· intro w'; go_simp; with_reducible rfl)
      rotate_left; (· simp only [Act.put,List.setIfInBounds_toArray,List.set_cons_zero,List.set_cons_succ,i64_w,i32_w]; rfl)
      refine pure_ (i := 10) (N := some 35) (v := undef) (a' := ?_) (bo_ 18 2047) rfl rfl (any_of HT_.out (by kernel_rfl)) (fun _ _ _ h => h) (Or.inr ⟨by rfl, rfl⟩) ?_ ?_
      rotate_left; (· simp only [Act.put,List.setIfInBounds_toArray,List.set_cons_zero,List.set_cons_succ,i64_w,i32_w]; rfl)
      refine pure_ (i := 11) (N := some 36) (v := undef) (a' := ?_) (bo_ 18 4095) rfl rfl (any_of HT_.out (by kernel_rfl)) (fun _ _ _ h => h) (Or.inr ⟨by rfl, rfl⟩) ?_ ?_
      rotate_left; (· simp only [Act.put,List.setIfInBounds_toArray,List.set_cons_zero,List.set_cons_succ,i64_w,i32_w]; rfl)
      refine pure_ (i := 12) (N := some 37) (v := undef) (a' := ?_) (bo_ 18 8191) rfl rfl (any_of HT_.out (by kernel_rfl)) (fun _ _ _ h => h) (Or.inr ⟨by rfl, rfl⟩) ?_ ?_
      rotate_left; (· simp only [Act.put,List.setIfInBounds_toArray,List.set_cons_zero,List.set_cons_succ,i64_w,i32_w]; rfl)
      refine pure_ (i := 13) (N := some 38) (v := undef) (a' := ?_) (bo_ 18 16383) rfl rfl (any_of HT_.out (by kernel_rfl)) (fun _ _ _ h => h) (Or.inr ⟨by rfl, rfl⟩) ?_ ?_
      rotate_left; (· simp only [Act.put,List.setIfInBounds_toArray,List.set_cons_zero,List.set_cons_succ,i64_w,i32_w]; rfl)
      refine pure_ (i := 14) (N := some 39) (v := undef) (a' := ?_) (bo_ 18 32767) rfl rfl (any_of HT_.out (by kernel_rfl)) (fun _ _ _ h => h) (Or.inr ⟨by rfl, rfl⟩) ?_ ?_
      rotate_left; (· simp only [Act.put,List.setIfInBounds_toArray,List.set_cons_zero,List.set_cons_succ,i64_w,i32_w]; rfl)
      refine pure_ (i := 15) (N := some 40) (v := undef) (a' := ?_) (bo_ 18 65535) rfl rfl (any_of HT_.out (by kernel_rfl)) (fun _ _ _ h => h) (Or.inr ⟨by rfl, rfl⟩) ?_ ?_
      rotate_left; (· simp only [Act.put,List.setIfInBounds_toArray,List.set_cons_zero,List.set_cons_succ,i64_w,i32_w]; rfl)
      refine pure_ (i := 16) (N := some 41) (v := ?_) (a' := ?_) (bo_ 18 131071) rfl rfl (any_of HT_.out (by kernel_rfl)) (fun _ _ _ h => h) (Or.inl ⟨by rfl, ?_⟩) ?_ ?_
      rotate_left; (· intro w'; go_simp; with_reducible rfl)
      rotate_left; (· simp only [Act.put,List.setIfInBounds_toArray,List.set_cons_zero,List.set_cons_succ,i64_w,i32_w]; rfl)
      refine pure_ (i := 17) (N := some 6) (v := ?_) (a' := ?_) (bo_ 18 262143) rfl rfl (any_of HT_.out (by kernel_rfl)) (fun _ _ _ h => h) (Or.inl ⟨by rfl, ?_⟩) ?_ ?_
      rotate_left; (· intro w'; go_simp; with_reducible rfl)
      rotate_left; (· simp only [Act.put,List.setIfInBounds_toArray,List.set_cons_zero,List.set_cons_succ,i64_w,i32_w]; rfl)
      refine done_ (done_of HT_.out (by kernel_rfl)) ?_
      try go_wp2
      go_ret
      exact ⟨by first | rfl | (simp [errW_none, errW_some] <;> rfl) | (simp [*, errW_none, errW_some] <;> rfl), by repeat (first | (with_reducible first | exact HB.out | apply below_alloc | apply pw_below_drewN | apply below_drew1 | refine below_set ?_ GE198.out | refine below_set ?_ GE204.out) | exact HB.out)⟩
 ·replace c5 := Bool.eq_false_iff.mpr c5
  subst c5
  have H1 : (some false) = some r := by rw [if_neg (show ¬ (false = true) by decide)] at H; exact H
  clear H
  have H := H1
  clear H1
  obtain rfl := Option.some.inj H
  go_enter Try.func5, Try.ntmps5
  go_wp2_with (first | ((with_reducible refine gate_dst (N := 5) rfl ?_); (try (refine gate_guard (by rfl) ?_; dsimp only)); refine box_event ?hg (N := 5) ?hd (cs := #[.string a2_0, .string a2_1, .string a2_2]) (t := 23) ?hr ?_; (case hd => rfl); (case hg => rfl); (case hr => first | (go_simp; done) | (go_simp; rfl)); intro gb198 hg w41 hbox hb; have n0_ := Aside0.mk (below_step (by repeat (first | (with_reducible first | exact HB.out | apply below_alloc | apply pw_below_drewN | apply below_drew1) | exact HB.out)) hb); have n1_ := Aside0.mk (hbox); have n2_ := Aside0.mk ((by rw [hg]; exact (below_size (by repeat (first | (with_reducible first | exact HB.out | apply below_alloc | apply pw_below_drewN | apply below_drew1) | exact HB.out))) : w.heap.size ≤ gb198)); have n3_ := Aside0.mk ((by rw [hg]; exact (below_size (by repeat (first | (with_reducible first | exact HB.out | apply below_alloc | apply pw_below_drewN | apply below_drew1) | exact HB.out))) : w.heap.size ≤ gb198)); clear HB; have HB := n0_; have BK198 := n1_; have GW198 := n2_; have GE198 := n3_; clear n0_ n1_ n2_ n3_; clear hb hbox hg) | ((with_reducible refine gate_callee (f := 8) rfl ?_); refine goesL_ (some 8) rfl rfl Try.func8 (by kernel_rfl) rfl #[] rfl (by (try simp only [List.map_toArray, List.map_cons, List.map_nil]); first | done | rfl | (simp only [List.length_drop, List.length_take]; rfl)) ?_; (with_reducible refine (kerbsuitelaw1_awake.calls k  false _ A4.out).mono ?_); rintro e w42 ⟨rfl, hb⟩; refine ⟨_, rfl, ?_⟩; have n0_ := Aside0.mk (blk_below (g := gb198) (o := .cells #[.string a2_0, .string a2_1, .string a2_2] 23 (0, 0)) (by (with_reducible repeat (first | refine blk_drewN ?_ _ | refine blk_drew ?_ | refine blk_alloc ?_ _)); exact BK198.out) hb); have n1_ := Aside0.mk (below_step (by repeat (first | (with_reducible first | exact HB.out | apply below_alloc | apply pw_below_drewN | apply below_drew1 | refine below_set ?_ GE198.out) | exact HB.out)) hb); clear BK198; clear HB; have BK198 := n0_; have HB := n1_; clear n0_ n1_; (try clear hb); (try clear hb2); (try clear hk); (try clear hi)))
  go_ret
  exact ⟨by first | rfl | (simp [errW_none, errW_some] <;> rfl) | (simp [*, errW_none, errW_some] <;> rfl), by repeat (first | (with_reducible first | exact HB.out | apply below_alloc | apply pw_below_drewN | apply below_drew1 | refine below_set ?_ GE198.out) | exact HB.out)⟩

/-- The one plain statement that is left of kerbsuitelaw1_PrincipalTgs. -/
def kerbsuitelaw1_PrincipalTgs.Pure : Prop := ∀ (a0 : ByteArray) (a1 : ByteArray) (a2_0 : ByteArray) (a2_1 : ByteArray) (a2_2 : ByteArray), a0.size ≤ 140737488351232 → a1.size ≤ 140737488351232 → a2_0.size ≤ maxLen → a2_1.size ≤ maxLen → a2_2.size ≤ maxLen → ∃ k, kerbsuitelaw1_PrincipalTgs.f k a0 a1 a2_0 a2_1 a2_2 = some true
theorem kerbsuitelaw1_PrincipalTgs.walk (P : kerbsuitelaw1_PrincipalTgs.Pure) (a0 : ByteArray) (a1 : ByteArray) (a2_0 : ByteArray) (a2_1 : ByteArray) (a2_2 : ByteArray) (w : World) (q0_0 : a0.size ≤ 140737488351232) (q1_0 : a1.size ≤ 140737488351232) (q2_0_0 : a2_0.size ≤ maxLen) (q2_1_0 : a2_1.size ≤ maxLen) (q2_2_0 : a2_2.size ≤ maxLen) :
  Calls Try.prog 5 #[.string a0, .string a1, .agg #[.string a2_0, .string a2_1, .string a2_2]] w fun e w' => e = .returned (.bool true) ∧ Below w.heap.size w w' := by
 obtain ⟨k, h⟩ := P a0 a1 a2_0 a2_1 a2_2 q0_0 q1_0 q2_0_0 q2_1_0 q2_2_0
 refine (kerbsuitelaw1_PrincipalTgs.calls k a0 a1 a2_0 a2_1 a2_2 true w h).mono ?_
 rintro e w' ⟨rfl, hd⟩
 exact ⟨rfl, hd⟩

/-! ### principal_Format: function 23 -/
def principal_Format.f (k : Nat) (a0_0 : ByteArray) (a0_1 : ByteArray) (a0_2 : ByteArray) : Option (ByteArray × Int) := (principal_Valid.f k a0_0 a0_1 a0_2).bind fun t208 => (if t208 = true then (if a0_1.toList = ([] : List UInt8) then (if a0_0.size + 1 ≤ 9223372036854775807 then (if (a0_0 ++ (⟨#[64]⟩ : ByteArray)).size + a0_2.size ≤ 9223372036854775807 then (some ((a0_0 ++ (⟨#[64]⟩ : ByteArray)) ++ a0_2, 0)) else (none)) else (none)) else (if a0_0.size + 1 ≤ 9223372036854775807 then (if (a0_0 ++ (⟨#[46]⟩ : ByteArray)).size + a0_1.size ≤ 9223372036854775807 then (if ((a0_0 ++ (⟨#[46]⟩ : ByteArray)) ++ a0_1).size + 1 ≤ 9223372036854775807 then (if (((a0_0 ++ (⟨#[46]⟩ : ByteArray)) ++ a0_1) ++ (⟨#[64]⟩ : ByteArray)).size + a0_2.size ≤ 9223372036854775807 then (some ((((a0_0 ++ (⟨#[46]⟩ : ByteArray)) ++ a0_1) ++ (⟨#[64]⟩ : ByteArray)) ++ a0_2, 0)) else (none)) else (none)) else (none)) else (none))) else (some ((⟨#[]⟩ : ByteArray), 103)))
theorem principal_Format.mono : ∀ a0 a1 a2 k, LeO (principal_Format.f k a0 a1 a2) (principal_Format.f (k + 1) a0 a1 a2) := by
 intro a0 a1 a2 k
 unfold principal_Format.f
 repeat' first
   | (with_reducible exact principal_Valid.mono _ _ _ _)
   | (with_reducible exact LeO.refl _)
   | (with_reducible exact LeO.none _)
   | (with_reducible refine LeO.ite ?_ ?_)
   | (with_reducible refine LeO.bind ?_ (fun _ => ?_))
   | exact principal_Valid.mono _ _ _ _
   | exact LeO.none _
   | refine LeO.ite ?_ ?_
   | refine LeO.bind ?_ (fun _ => ?_)
set_option maxHeartbeats 8000000 in
set_option maxRecDepth 100000 in
theorem principal_Format.calls (k : Nat) (a0_0 : ByteArray) (a0_1 : ByteArray) (a0_2 : ByteArray) (r1 : ByteArray) (r2 : Int) (w : World) (h : principal_Format.f k a0_0 a0_1 a0_2 = some (r1, r2)) :
  Calls Try.prog 23 #[.agg #[.string a0_0, .string a0_1, .string a0_2]] w fun e w' => e = .returned (.tuple #[.string r1, .int .i64 r2]) ∧ Below w.heap.size w w' := by
 have hu23 := Try.underlying23
 have HB := Aside0.mk (Below.refl w.heap.size w)
 have H : ((principal_Valid.f k a0_0 a0_1 a0_2).bind fun t208 => (if t208 = true then (if a0_1.toList = ([] : List UInt8) then (if a0_0.size + 1 ≤ 9223372036854775807 then (if (a0_0 ++ (⟨#[64]⟩ : ByteArray)).size + a0_2.size ≤ 9223372036854775807 then (some ((a0_0 ++ (⟨#[64]⟩ : ByteArray)) ++ a0_2, 0)) else (none)) else (none)) else (if a0_0.size + 1 ≤ 9223372036854775807 then (if (a0_0 ++ (⟨#[46]⟩ : ByteArray)).size + a0_1.size ≤ 9223372036854775807 then (if ((a0_0 ++ (⟨#[46]⟩ : ByteArray)) ++ a0_1).size + 1 ≤ 9223372036854775807 then (if (((a0_0 ++ (⟨#[46]⟩ : ByteArray)) ++ a0_1) ++ (⟨#[64]⟩ : ByteArray)).size + a0_2.size ≤ 9223372036854775807 then (some ((((a0_0 ++ (⟨#[46]⟩ : ByteArray)) ++ a0_1) ++ (⟨#[64]⟩ : ByteArray)) ++ a0_2, 0)) else (none)) else (none)) else (none)) else (none))) else (some ((⟨#[]⟩ : ByteArray), 103)))) = some (r1, r2) := h
 clear h
 replace H := Option.bind_eq_some_iff.mp H
 obtain ⟨t208, A20, H⟩ := H
 replace H : (if t208 = true then (if a0_1.toList = ([] : List UInt8) then (if a0_0.size + 1 ≤ 9223372036854775807 then (if (a0_0 ++ (⟨#[64]⟩ : ByteArray)).size + a0_2.size ≤ 9223372036854775807 then (some ((a0_0 ++ (⟨#[64]⟩ : ByteArray)) ++ a0_2, 0)) else (none)) else (none)) else (if a0_0.size + 1 ≤ 9223372036854775807 then (if (a0_0 ++ (⟨#[46]⟩ : ByteArray)).size + a0_1.size ≤ 9223372036854775807 then (if ((a0_0 ++ (⟨#[46]⟩ : ByteArray)) ++ a0_1).size + 1 ≤ 9223372036854775807 then (if (((a0_0 ++ (⟨#[46]⟩ : ByteArray)) ++ a0_1) ++ (⟨#[64]⟩ : ByteArray)).size + a0_2.size ≤ 9223372036854775807 then (some ((((a0_0 ++ (⟨#[46]⟩ : ByteArray)) ++ a0_1) ++ (⟨#[64]⟩ : ByteArray)) ++ a0_2, 0)) else (none)) else (none)) else (none)) else (none))) else (some ((⟨#[]⟩ : ByteArray), 103))) = some (r1, r2) := H
 have A2 := Aside0.mk A20
 clear A20
 by_cases c3 : t208 = true
 ·subst c3
  have H1 : (if a0_1.toList = ([] : List UInt8) then (if a0_0.size + 1 ≤ 9223372036854775807 then (if (a0_0 ++ (⟨#[64]⟩ : ByteArray)).size + a0_2.size ≤ 9223372036854775807 then (some ((a0_0 ++ (⟨#[64]⟩ : ByteArray)) ++ a0_2, 0)) else (none)) else (none)) else (if a0_0.size + 1 ≤ 9223372036854775807 then (if (a0_0 ++ (⟨#[46]⟩ : ByteArray)).size + a0_1.size ≤ 9223372036854775807 then (if ((a0_0 ++ (⟨#[46]⟩ : ByteArray)) ++ a0_1).size + 1 ≤ 9223372036854775807 then (if (((a0_0 ++ (⟨#[46]⟩ : ByteArray)) ++ a0_1) ++ (⟨#[64]⟩ : ByteArray)).size + a0_2.size ≤ 9223372036854775807 then (some ((((a0_0 ++ (⟨#[46]⟩ : ByteArray)) ++ a0_1) ++ (⟨#[64]⟩ : ByteArray)) ++ a0_2, 0)) else (none)) else (none)) else (none)) else (none))) = some (r1, r2) := by rw [if_pos rfl] at H; exact H
  clear H
  have H := H1
  clear H1
  by_cases c4 : a0_1.toList = ([] : List UInt8)
  ·rw [if_pos c4] at H
   have c4b0 : (a0_1.toList == ([] : List UInt8)) = true := beq_iff_eq.mpr c4
   have c4b1 : (a0_1.toList != ([] : List UInt8)) = false := bne_eq_false_iff_eq.mpr c4
   clear c4
   by_cases c5 : a0_0.size + 1 ≤ 9223372036854775807
   ·rw [if_pos c5] at H
    have c5b0 := eq_true c5
    have c5b1 : decide (a0_0.size + 1 ≤ 9223372036854775807) = true := decide_eq_true c5
    try have c5b2 : (9223372036854775807 < a0_0.size + 1) = False := eq_false (Nat.not_lt.2 c5)
    by_cases c6 : (a0_0 ++ (⟨#[64]⟩ : ByteArray)).size + a0_2.size ≤ 9223372036854775807
    ·rw [if_pos c6] at H
     have c6b0 := eq_true c6
     have c6b1 : decide ((a0_0 ++ (⟨#[64]⟩ : ByteArray)).size + a0_2.size ≤ 9223372036854775807) = true := decide_eq_true c6
     try have c6b2 : (9223372036854775807 < (a0_0 ++ (⟨#[64]⟩ : ByteArray)).size + a0_2.size) = False := eq_false (Nat.not_lt.2 c6)
     try (have c6b3 : (9223372036854775807 < a0_0.size + 1 + a0_2.size) = False := eq_false (Nat.not_lt.2 (by have h_ := c6; simp only [ByteArray.size_append] at h_; exact h_)))
     simp only [Option.some.injEq, Prod.mk.injEq] at H
     obtain ⟨rfl, rfl⟩ := H
     go_enter Try.func23, Try.ntmps23
     go_wp2_with (first | ((with_reducible refine gate_dst (N := 1) rfl ?_); refine box_event ?hg (N := 1) ?hd (cs := #[.string a0_0, .string a0_1, .string a0_2]) (t := 23) ?hr ?_; (case hd => rfl); (case hg => rfl); (case hr => first | (go_simp; done) | (go_simp; rfl)); intro gb207 hg w7 hbox hb; have n0_ := Aside0.mk (below_step (by repeat (first | (with_reducible first | exact HB.out | apply below_alloc | apply pw_below_drewN | apply below_drew1) | exact HB.out)) hb); have n1_ := Aside0.mk (hbox); have n2_ := Aside0.mk ((by rw [hg]; exact (below_size (by repeat (first | (with_reducible first | exact HB.out | apply below_alloc | apply pw_below_drewN | apply below_drew1) | exact HB.out))) : w.heap.size ≤ gb207)); have n3_ := Aside0.mk ((by rw [hg]; exact (below_size (by repeat (first | (with_reducible first | exact HB.out | apply below_alloc | apply pw_below_drewN | apply below_drew1) | exact HB.out))) : w.heap.size ≤ gb207)); clear HB; have HB := n0_; have BK207 := n1_; have GW207 := n2_; have GE207 := n3_; clear n0_ n1_ n2_ n3_; clear hb hbox hg; have hcz8_0 : w7.cell? ⟨gb207, 0, none⟩ = some (.string a0_0) := (blk_cell BK207.out 0).trans rfl; have hcz8_1 : w7.cell? ⟨gb207, 1, none⟩ = some (.string a0_1) := (blk_cell BK207.out 1).trans rfl; have hcz8_2 : w7.cell? ⟨gb207, 2, none⟩ = some (.string a0_2) := (blk_cell BK207.out 2).trans rfl; have hfz8_0 := blk_frozen BK207.out 0; have hfz8_1 := blk_frozen BK207.out 1; have hfz8_2 := blk_frozen BK207.out 2) | ((with_reducible refine gate_callee (f := 17) rfl ?_); refine goesL_ (some 6) rfl rfl Try.func17 (by kernel_rfl) rfl #[.agg #[.string a0_0, .string a0_1, .string a0_2]] rfl (by (try simp only [List.map_toArray, List.map_cons, List.map_nil]); first | done | rfl | (simp only [List.length_drop, List.length_take]; rfl)) ?_; (with_reducible refine (principal_Valid.calls k a0_0 a0_1 a0_2 true _ A2.out).mono ?_); rintro e w9 ⟨rfl, hb⟩; refine ⟨_, rfl, ?_⟩; have n0_ := Aside0.mk (blk_below (g := gb207) (o := .cells #[.string a0_0, .string a0_1, .string a0_2] 23 (0, 0)) (by (with_reducible repeat (first | refine blk_drewN ?_ _ | refine blk_drew ?_ | refine blk_alloc ?_ _)); exact BK207.out) hb); have n1_ := Aside0.mk (below_step (by repeat (first | (with_reducible first | exact HB.out | apply below_alloc | apply pw_below_drewN | apply below_drew1 | refine below_set ?_ GE207.out) | exact HB.out)) hb); clear BK207; clear HB; have BK207 := n0_; have HB := n1_; clear n0_ n1_; (try clear hb); (try clear hb2); (try clear hk); (try clear hi); have hcz10_0 : w9.cell? ⟨gb207, 0, none⟩ = some (.string a0_0) := (blk_cell BK207.out 0).trans rfl; have hcz10_1 : w9.cell? ⟨gb207, 1, none⟩ = some (.string a0_1) := (blk_cell BK207.out 1).trans rfl; have hcz10_2 : w9.cell? ⟨gb207, 2, none⟩ = some (.string a0_2) := (blk_cell BK207.out 2).trans rfl; have hfz10_0 := blk_frozen BK207.out 0; have hfz10_1 := blk_frozen BK207.out 1; have hfz10_2 := blk_frozen BK207.out 2))
     go_ret2
     exact ⟨by first | rfl | (simp [errW_none, errW_some] <;> rfl) | (simp [*, errW_none, errW_some] <;> rfl), by repeat (first | (with_reducible first | exact HB.out | apply below_alloc | apply pw_below_drewN | apply below_drew1 | refine below_set ?_ GE207.out) | exact HB.out)⟩
    ·rw [if_neg c6] at H
     exact absurd H (by simp)
   ·rw [if_neg c5] at H
    exact absurd H (by simp)
  ·rw [if_neg c4] at H
   have c4b0 : (a0_1.toList == ([] : List UInt8)) = false := beq_eq_false_iff_ne.mpr c4
   have c4b1 : (a0_1.toList != ([] : List UInt8)) = true := bne_iff_ne.mpr c4
   by_cases c11 : a0_0.size + 1 ≤ 9223372036854775807
   ·rw [if_pos c11] at H
    have c11b0 := eq_true c11
    have c11b1 : decide (a0_0.size + 1 ≤ 9223372036854775807) = true := decide_eq_true c11
    try have c11b2 : (9223372036854775807 < a0_0.size + 1) = False := eq_false (Nat.not_lt.2 c11)
    by_cases c12 : (a0_0 ++ (⟨#[46]⟩ : ByteArray)).size + a0_1.size ≤ 9223372036854775807
    ·rw [if_pos c12] at H
     have c12b0 := eq_true c12
     have c12b1 : decide ((a0_0 ++ (⟨#[46]⟩ : ByteArray)).size + a0_1.size ≤ 9223372036854775807) = true := decide_eq_true c12
     try have c12b2 : (9223372036854775807 < (a0_0 ++ (⟨#[46]⟩ : ByteArray)).size + a0_1.size) = False := eq_false (Nat.not_lt.2 c12)
     try (have c12b3 : (9223372036854775807 < a0_0.size + 1 + a0_1.size) = False := eq_false (Nat.not_lt.2 (by have h_ := c12; simp only [ByteArray.size_append] at h_; exact h_)))
     by_cases c13 : ((a0_0 ++ (⟨#[46]⟩ : ByteArray)) ++ a0_1).size + 1 ≤ 9223372036854775807
     ·rw [if_pos c13] at H
      have c13b0 := eq_true c13
      have c13b1 : decide (((a0_0 ++ (⟨#[46]⟩ : ByteArray)) ++ a0_1).size + 1 ≤ 9223372036854775807) = true := decide_eq_true c13
      try have c13b2 : (9223372036854775807 < ((a0_0 ++ (⟨#[46]⟩ : ByteArray)) ++ a0_1).size + 1) = False := eq_false (Nat.not_lt.2 c13)
      try (have c13b3 : (9223372036854775807 < a0_0.size + 1 + a0_1.size + 1) = False := eq_false (Nat.not_lt.2 (by have h_ := c13; simp only [ByteArray.size_append] at h_; exact h_)))
      by_cases c14 : (((a0_0 ++ (⟨#[46]⟩ : ByteArray)) ++ a0_1) ++ (⟨#[64]⟩ : ByteArray)).size + a0_2.size ≤ 9223372036854775807
      ·rw [if_pos c14] at H
       have c14b0 := eq_true c14
       have c14b1 : decide ((((a0_0 ++ (⟨#[46]⟩ : ByteArray)) ++ a0_1) ++ (⟨#[64]⟩ : ByteArray)).size + a0_2.size ≤ 9223372036854775807) = true := decide_eq_true c14
       try have c14b2 : (9223372036854775807 < (((a0_0 ++ (⟨#[46]⟩ : ByteArray)) ++ a0_1) ++ (⟨#[64]⟩ : ByteArray)).size + a0_2.size) = False := eq_false (Nat.not_lt.2 c14)
       try (have c14b3 : (9223372036854775807 < a0_0.size + 1 + a0_1.size + 1 + a0_2.size) = False := eq_false (Nat.not_lt.2 (by have h_ := c14; simp only [ByteArray.size_append] at h_; exact h_)))
       simp only [Option.some.injEq, Prod.mk.injEq] at H
       obtain ⟨rfl, rfl⟩ := H
       go_enter Try.func23, Try.ntmps23
       go_wp2_with (first | ((with_reducible refine gate_dst (N := 1) rfl ?_); refine box_event ?hg (N := 1) ?hd (cs := #[.string a0_0, .string a0_1, .string a0_2]) (t := 23) ?hr ?_; (case hd => rfl); (case hg => rfl); (case hr => first | (go_simp; done) | (go_simp; rfl)); intro gb207 hg w15 hbox hb; have n0_ := Aside0.mk (below_step (by repeat (first | (with_reducible first | exact HB.out | apply below_alloc | apply pw_below_drewN | apply below_drew1) | exact HB.out)) hb); have n1_ := Aside0.mk (hbox); have n2_ := Aside0.mk ((by rw [hg]; exact (below_size (by repeat (first | (with_reducible first | exact HB.out | apply below_alloc | apply pw_below_drewN | apply below_drew1) | exact HB.out))) : w.heap.size ≤ gb207)); have n3_ := Aside0.mk ((by rw [hg]; exact (below_size (by repeat (first | (with_reducible first | exact HB.out | apply below_alloc | apply pw_below_drewN | apply below_drew1) | exact HB.out))) : w.heap.size ≤ gb207)); clear HB; have HB := n0_; have BK207 := n1_; have GW207 := n2_; have GE207 := n3_; clear n0_ n1_ n2_ n3_; clear hb hbox hg; have hcz16_0 : w15.cell? ⟨gb207, 0, none⟩ = some (.string a0_0) := (blk_cell BK207.out 0).trans rfl; have hcz16_1 : w15.cell? ⟨gb207, 1, none⟩ = some (.string a0_1) := (blk_cell BK207.out 1).trans rfl; have hcz16_2 : w15.cell? ⟨gb207, 2, none⟩ = some (.string a0_2) := (blk_cell BK207.out 2).trans rfl; have hfz16_0 := blk_frozen BK207.out 0; have hfz16_1 := blk_frozen BK207.out 1; have hfz16_2 := blk_frozen BK207.out 2) | ((with_reducible refine gate_callee (f := 17) rfl ?_); refine goesL_ (some 6) rfl rfl Try.func17 (by kernel_rfl) rfl #[.agg #[.string a0_0, .string a0_1, .string a0_2]] rfl (by (try simp only [List.map_toArray, List.map_cons, List.map_nil]); first | done | rfl | (simp only [List.length_drop, List.length_take]; rfl)) ?_; (with_reducible refine (principal_Valid.calls k a0_0 a0_1 a0_2 true _ A2.out).mono ?_); rintro e w17 ⟨rfl, hb⟩; refine ⟨_, rfl, ?_⟩; have n0_ := Aside0.mk (blk_below (g := gb207) (o := .cells #[.string a0_0, .string a0_1, .string a0_2] 23 (0, 0)) (by (with_reducible repeat (first | refine blk_drewN ?_ _ | refine blk_drew ?_ | refine blk_alloc ?_ _)); exact BK207.out) hb); have n1_ := Aside0.mk (below_step (by repeat (first | (with_reducible first | exact HB.out | apply below_alloc | apply pw_below_drewN | apply below_drew1 | refine below_set ?_ GE207.out) | exact HB.out)) hb); clear BK207; clear HB; have BK207 := n0_; have HB := n1_; clear n0_ n1_; (try clear hb); (try clear hb2); (try clear hk); (try clear hi); have hcz18_0 : w17.cell? ⟨gb207, 0, none⟩ = some (.string a0_0) := (blk_cell BK207.out 0).trans rfl; have hcz18_1 : w17.cell? ⟨gb207, 1, none⟩ = some (.string a0_1) := (blk_cell BK207.out 1).trans rfl; have hcz18_2 : w17.cell? ⟨gb207, 2, none⟩ = some (.string a0_2) := (blk_cell BK207.out 2).trans rfl; have hfz18_0 := blk_frozen BK207.out 0; have hfz18_1 := blk_frozen BK207.out 1; have hfz18_2 := blk_frozen BK207.out 2))
       go_ret2
       exact ⟨by first | rfl | (simp [errW_none, errW_some] <;> rfl) | (simp [*, errW_none, errW_some] <;> rfl), by repeat (first | (with_reducible first | exact HB.out | apply below_alloc | apply pw_below_drewN | apply below_drew1 | refine below_set ?_ GE207.out) | exact HB.out)⟩
      ·rw [if_neg c14] at H
       exact absurd H (by simp)
     ·rw [if_neg c13] at H
      exact absurd H (by simp)
    ·rw [if_neg c12] at H
     exact absurd H (by simp)
   ·rw [if_neg c11] at H
    exact absurd H (by simp)
 ·replace c3 := Bool.eq_false_iff.mpr c3
  subst c3
  have H1 : (some ((⟨#[]⟩ : ByteArray), 103)) = some (r1, r2) := by rw [if_neg (show ¬ (false = true) by decide)] at H; exact H
  clear H
  have H := H1
  clear H1
  simp only [Option.some.injEq, Prod.mk.injEq] at H
  obtain ⟨rfl, rfl⟩ := H
  go_enter Try.func23, Try.ntmps23
  go_wp2_with (first | ((with_reducible refine gate_dst (N := 1) rfl ?_); refine box_event ?hg (N := 1) ?hd (cs := #[.string a0_0, .string a0_1, .string a0_2]) (t := 23) ?hr ?_; (case hd => rfl); (case hg => rfl); (case hr => first | (go_simp; done) | (go_simp; rfl)); intro gb207 hg w19 hbox hb; have n0_ := Aside0.mk (below_step (by repeat (first | (with_reducible first | exact HB.out | apply below_alloc | apply pw_below_drewN | apply below_drew1) | exact HB.out)) hb); have n1_ := Aside0.mk (hbox); have n2_ := Aside0.mk ((by rw [hg]; exact (below_size (by repeat (first | (with_reducible first | exact HB.out | apply below_alloc | apply pw_below_drewN | apply below_drew1) | exact HB.out))) : w.heap.size ≤ gb207)); have n3_ := Aside0.mk ((by rw [hg]; exact (below_size (by repeat (first | (with_reducible first | exact HB.out | apply below_alloc | apply pw_below_drewN | apply below_drew1) | exact HB.out))) : w.heap.size ≤ gb207)); clear HB; have HB := n0_; have BK207 := n1_; have GW207 := n2_; have GE207 := n3_; clear n0_ n1_ n2_ n3_; clear hb hbox hg; have hcz20_0 : w19.cell? ⟨gb207, 0, none⟩ = some (.string a0_0) := (blk_cell BK207.out 0).trans rfl; have hcz20_1 : w19.cell? ⟨gb207, 1, none⟩ = some (.string a0_1) := (blk_cell BK207.out 1).trans rfl; have hcz20_2 : w19.cell? ⟨gb207, 2, none⟩ = some (.string a0_2) := (blk_cell BK207.out 2).trans rfl; have hfz20_0 := blk_frozen BK207.out 0; have hfz20_1 := blk_frozen BK207.out 1; have hfz20_2 := blk_frozen BK207.out 2) | ((with_reducible refine gate_callee (f := 17) rfl ?_); refine goesL_ (some 6) rfl rfl Try.func17 (by kernel_rfl) rfl #[.agg #[.string a0_0, .string a0_1, .string a0_2]] rfl (by (try simp only [List.map_toArray, List.map_cons, List.map_nil]); first | done | rfl | (simp only [List.length_drop, List.length_take]; rfl)) ?_; (with_reducible refine (principal_Valid.calls k a0_0 a0_1 a0_2 false _ A2.out).mono ?_); rintro e w21 ⟨rfl, hb⟩; refine ⟨_, rfl, ?_⟩; have n0_ := Aside0.mk (blk_below (g := gb207) (o := .cells #[.string a0_0, .string a0_1, .string a0_2] 23 (0, 0)) (by (with_reducible repeat (first | refine blk_drewN ?_ _ | refine blk_drew ?_ | refine blk_alloc ?_ _)); exact BK207.out) hb); have n1_ := Aside0.mk (below_step (by repeat (first | (with_reducible first | exact HB.out | apply below_alloc | apply pw_below_drewN | apply below_drew1 | refine below_set ?_ GE207.out) | exact HB.out)) hb); clear BK207; clear HB; have BK207 := n0_; have HB := n1_; clear n0_ n1_; (try clear hb); (try clear hb2); (try clear hk); (try clear hi)))
  go_ret2
  exact ⟨by first | rfl | (simp [errW_none, errW_some] <;> rfl) | (simp [*, errW_none, errW_some] <;> rfl), by repeat (first | (with_reducible first | exact HB.out | apply below_alloc | apply pw_below_drewN | apply below_drew1 | refine below_set ?_ GE207.out) | exact HB.out)⟩

end Go.Proofs.Ytmgcfnialfjphaa.PPrin
