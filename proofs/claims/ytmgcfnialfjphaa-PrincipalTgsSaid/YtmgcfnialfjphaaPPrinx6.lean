/- The walks of functions of the translation: each call returns what the plain function beside it says. -/
import Derived.Test.YtmgcfnialfjphaaPPrinx0
import Derived.Test.YtmgcfnialfjphaaPPrinx1
import Derived.Test.YtmgcfnialfjphaaPPrinx2
import Derived.Test.YtmgcfnialfjphaaPPrinx5
namespace Go.Proofs.Ytmgcfnialfjphaa.PPrin
open Go.RowKit Go.Proofs.YtmgcfnialfjphaaW.PrintWords Go.Proofs.YtmgcfnialfjphaaW.PrintLast Go.Proofs.YtmgcfnialfjphaaW.PrintMore Go.Proofs.Ytmgcfnialfjphaa.Aid
attribute [local go_sem] max2_int min2_int max_two min_two max_three min_three max_four min_four aid_str_gtr   -- for this text's walks alone
set_option linter.unusedVariables false
set_option linter.unusedSimpArgs false

attribute [local go_sem high] eqA23
/-! ### kerbsuitelaw1_PrincipalParses: function 4 -/
mutual
def kerbsuitelaw1_PrincipalParses.j0 : Nat → ByteArray → ByteArray → List Int → Bool → Option (Bool)
 | 0, _, _, _, _ => none
 | k + 1, x0, x1, x2, x31 => if x31 = true then (some true) else (kerbsuitelaw1_PrincipalParses.l0 k x0 x1 x2 (⟨#[]⟩ : ByteArray) 0)
def kerbsuitelaw1_PrincipalParses.l0 : Nat → ByteArray → ByteArray → List Int → ByteArray → Int → Option (Bool)
 | 0, _, _, _, _, _ => none
 | k + 1, x0, x1, x2, x7, x8 => if x8 < (x2.length : Int) then ((some (([(⟨#[97, 110, 110]⟩ : ByteArray), (⟨#[46]⟩ : ByteArray), (⟨#[64]⟩ : ByteArray), (⟨#[120]⟩ : ByteArray), (⟨#[77, 73, 84]⟩ : ByteArray), (⟨#[57]⟩ : ByteArray), (⟨#[]⟩ : ByteArray), (⟨#[32]⟩ : ByteArray)] : List ByteArray) : List ByteArray)).bind fun y172 => (if 0 ≤ x8 then (if 0 ≤ (Int.tmod (rd x2 x8) 8) then (if (Int.tmod (rd x2 x8) 8) < (y172.length : Int) then (if x7.size + (rdOf ByteArray.empty y172 (Int.tmod (rd x2 x8) 8)).size ≤ 9223372036854775807 then (kerbsuitelaw1_PrincipalParses.l0 k x0 x1 x2 (x7 ++ (rdOf ByteArray.empty y172 (Int.tmod (rd x2 x8) 8))) (wrap64 (x8 + 1))) else (none)) else (none)) else (none)) else (none))) else (if x7.size + 1 ≤ 9223372036854775807 then (if (x7 ++ (⟨#[64]⟩ : ByteArray)).size + x1.size ≤ 9223372036854775807 then (kerbsuitelaw1_PrincipalParses.l1 k x1 (([x0, x7, (x7 ++ (⟨#[64]⟩ : ByteArray)) ++ x1] : List ByteArray)) 0) else (none)) else (none))
def kerbsuitelaw1_PrincipalParses.l1 : Nat → ByteArray → List ByteArray → Int → Option (Bool)
 | 0, _, _, _ => none
 | k + 1, x1, x9, x10 => if x10 < (x9.length : Int) then (kerbsuitelaw1_PrincipalParses.l2 k x1 x9 x10 0) else (some true)
def kerbsuitelaw1_PrincipalParses.l2 : Nat → ByteArray → List ByteArray → Int → Int → Option (Bool)
 | 0, _, _, _, _ => none
 | k + 1, x1, x9, x10, x11 => if x11 < 2 then ((some (([x1, (⟨#[65, 84, 72, 69, 78, 65]⟩ : ByteArray)] : List ByteArray) : List ByteArray)).bind fun y180 => (if 0 ≤ x11 then (if x11 < (y180.length : Int) then (if 0 ≤ x10 then (if x10 < (x9.length : Int) then ((principal_Parse.f k (rdOf ByteArray.empty x9 x10) (rdOf ByteArray.empty y180 x11)).bind fun bt185 => ((kerbsuiteref1_Parse.f k (rdOf ByteArray.empty x9 x10) (rdOf ByteArray.empty y180 x11)).bind fun bt191 => (if (!(bt185.1.toList == bt191.1.toList) || (!(bt185.2.1.toList == bt191.2.1.toList) || (!(bt185.2.2.1.toList == bt191.2.2.1.toList)))) = true then (some false) else (if bt185.2.2.2 = bt191.2.2.2 then (kerbsuitelaw1_PrincipalParses.l2 k x1 x9 x10 (wrap64 (x11 + 1))) else (some false))))) else (none)) else (none)) else (none)) else (none))) else (kerbsuitelaw1_PrincipalParses.l1 k x1 x9 (wrap64 (x10 + 1)))
end
def kerbsuitelaw1_PrincipalParses.f (k : Nat) (a0 : ByteArray) (a1 : ByteArray) (l2 : List Int) : Option (Bool) := (kerbsuitelaw1_awake.f k).bind fun t171 => (if t171 = true then (if (a0.size : Int) > 200 then (kerbsuitelaw1_PrincipalParses.j0 k a0 a1 l2 true) else (if (a1.size : Int) > 100 then (kerbsuitelaw1_PrincipalParses.j0 k a0 a1 l2 true) else (kerbsuitelaw1_PrincipalParses.j0 k a0 a1 l2 (decide ((l2.length : Int) > 40))))) else (some false))
theorem kerbsuitelaw1_PrincipalParses.mono_l : ∀ k, (∀ y0 y1 y2 y3, LeO (kerbsuitelaw1_PrincipalParses.j0 k y0 y1 y2 y3) (kerbsuitelaw1_PrincipalParses.j0 (k + 1) y0 y1 y2 y3)) ∧ (∀ y0 y1 y2 y3 y4, LeO (kerbsuitelaw1_PrincipalParses.l0 k y0 y1 y2 y3 y4) (kerbsuitelaw1_PrincipalParses.l0 (k + 1) y0 y1 y2 y3 y4)) ∧ (∀ y0 y1 y2, LeO (kerbsuitelaw1_PrincipalParses.l1 k y0 y1 y2) (kerbsuitelaw1_PrincipalParses.l1 (k + 1) y0 y1 y2)) ∧ (∀ y0 y1 y2 y3, LeO (kerbsuitelaw1_PrincipalParses.l2 k y0 y1 y2 y3) (kerbsuitelaw1_PrincipalParses.l2 (k + 1) y0 y1 y2 y3))
 | 0 => ⟨fun _ _ _ _ r h => by simp [kerbsuitelaw1_PrincipalParses.j0] at h, fun _ _ _ _ _ r h => by simp [kerbsuitelaw1_PrincipalParses.l0] at h, fun _ _ _ r h => by simp [kerbsuitelaw1_PrincipalParses.l1] at h, fun _ _ _ _ r h => by simp [kerbsuitelaw1_PrincipalParses.l2] at h⟩
 | k + 1 => by
  obtain ⟨ih0, ih1, ih2, ih3⟩ := kerbsuitelaw1_PrincipalParses.mono_l k
  refine ⟨?_, ?_, ?_, ?_⟩
  ·intro y0 y1 y2 y3
   unfold kerbsuitelaw1_PrincipalParses.j0
   repeat' first
   | (with_reducible exact ih0 _ _ _ _)
   | (with_reducible exact ih1 _ _ _ _ _)
   | (with_reducible exact ih2 _ _ _)
   | (with_reducible exact ih3 _ _ _ _)
   | (with_reducible exact kerbsuitelaw1_awake.mono _)
   | (with_reducible exact kerbsuiteref1_Parse.mono _ _ _)
   | (with_reducible exact principal_Parse.mono _ _ _)
   | (with_reducible exact LeO.refl _)
   | (with_reducible exact LeO.none _)
   | (with_reducible refine LeO.ite ?_ ?_)
   | (with_reducible refine LeO.bind ?_ (fun _ => ?_))
   | exact ih0 _ _ _ _
   | exact ih1 _ _ _ _ _
   | exact ih2 _ _ _
   | exact ih3 _ _ _ _
   | exact kerbsuitelaw1_awake.mono _
   | exact kerbsuiteref1_Parse.mono _ _ _
   | exact principal_Parse.mono _ _ _
   | exact LeO.none _
   | refine LeO.ite ?_ ?_
   | refine LeO.bind ?_ (fun _ => ?_)
  ·intro y0 y1 y2 y3 y4
   unfold kerbsuitelaw1_PrincipalParses.l0
   repeat' first
   | (with_reducible exact ih0 _ _ _ _)
   | (with_reducible exact ih1 _ _ _ _ _)
   | (with_reducible exact ih2 _ _ _)
   | (with_reducible exact ih3 _ _ _ _)
   | (with_reducible exact kerbsuitelaw1_awake.mono _)
   | (with_reducible exact kerbsuiteref1_Parse.mono _ _ _)
   | (with_reducible exact principal_Parse.mono _ _ _)
   | (with_reducible exact LeO.refl _)
   | (with_reducible exact LeO.none _)
   | (with_reducible refine LeO.ite ?_ ?_)
   | (with_reducible refine LeO.bind ?_ (fun _ => ?_))
   | exact ih0 _ _ _ _
   | exact ih1 _ _ _ _ _
   | exact ih2 _ _ _
   | exact ih3 _ _ _ _
   | exact kerbsuitelaw1_awake.mono _
   | exact kerbsuiteref1_Parse.mono _ _ _
   | exact principal_Parse.mono _ _ _
   | exact LeO.none _
   | refine LeO.ite ?_ ?_
   | refine LeO.bind ?_ (fun _ => ?_)
  ·intro y0 y1 y2
   unfold kerbsuitelaw1_PrincipalParses.l1
   repeat' first
   | (with_reducible exact ih0 _ _ _ _)
   | (with_reducible exact ih1 _ _ _ _ _)
   | (with_reducible exact ih2 _ _ _)
   | (with_reducible exact ih3 _ _ _ _)
   | (with_reducible exact kerbsuitelaw1_awake.mono _)
   | (with_reducible exact kerbsuiteref1_Parse.mono _ _ _)
   | (with_reducible exact principal_Parse.mono _ _ _)
   | (with_reducible exact LeO.refl _)
   | (with_reducible exact LeO.none _)
   | (with_reducible refine LeO.ite ?_ ?_)
   | (with_reducible refine LeO.bind ?_ (fun _ => ?_))
   | exact ih0 _ _ _ _
   | exact ih1 _ _ _ _ _
   | exact ih2 _ _ _
   | exact ih3 _ _ _ _
   | exact kerbsuitelaw1_awake.mono _
   | exact kerbsuiteref1_Parse.mono _ _ _
   | exact principal_Parse.mono _ _ _
   | exact LeO.none _
   | refine LeO.ite ?_ ?_
   | refine LeO.bind ?_ (fun _ => ?_)
  ·intro y0 y1 y2 y3
   unfold kerbsuitelaw1_PrincipalParses.l2
   repeat' first
   | (with_reducible exact ih0 _ _ _ _)
   | (with_reducible exact ih1 _ _ _ _ _)
   | (with_reducible exact ih2 _ _ _)
   | (with_reducible exact ih3 _ _ _ _)
   | (with_reducible exact kerbsuitelaw1_awake.mono _)
   | (with_reducible exact kerbsuiteref1_Parse.mono _ _ _)
   | (with_reducible exact principal_Parse.mono _ _ _)
   | (with_reducible exact LeO.refl _)
   | (with_reducible exact LeO.none _)
   | (with_reducible refine LeO.ite ?_ ?_)
   | (with_reducible refine LeO.bind ?_ (fun _ => ?_))
   | exact ih0 _ _ _ _
   | exact ih1 _ _ _ _ _
   | exact ih2 _ _ _
   | exact ih3 _ _ _ _
   | exact kerbsuitelaw1_awake.mono _
   | exact kerbsuiteref1_Parse.mono _ _ _
   | exact principal_Parse.mono _ _ _
   | exact LeO.none _
   | refine LeO.ite ?_ ?_
   | refine LeO.bind ?_ (fun _ => ?_)
theorem kerbsuitelaw1_PrincipalParses.mono : ∀ a0 a1 a2 k, LeO (kerbsuitelaw1_PrincipalParses.f k a0 a1 a2) (kerbsuitelaw1_PrincipalParses.f (k + 1) a0 a1 a2) := by
 intro a0 a1 a2 k
 obtain ⟨ih0, ih1, ih2, ih3⟩ := kerbsuitelaw1_PrincipalParses.mono_l k
 unfold kerbsuitelaw1_PrincipalParses.f
 repeat' first
   | (with_reducible exact ih0 _ _ _ _)
   | (with_reducible exact ih1 _ _ _ _ _)
   | (with_reducible exact ih2 _ _ _)
   | (with_reducible exact ih3 _ _ _ _)
   | (with_reducible exact kerbsuitelaw1_awake.mono _)
   | (with_reducible exact kerbsuiteref1_Parse.mono _ _ _)
   | (with_reducible exact principal_Parse.mono _ _ _)
   | (with_reducible exact LeO.refl _)
   | (with_reducible exact LeO.none _)
   | (with_reducible refine LeO.ite ?_ ?_)
   | (with_reducible refine LeO.bind ?_ (fun _ => ?_))
   | exact ih0 _ _ _ _
   | exact ih1 _ _ _ _ _
   | exact ih2 _ _ _
   | exact ih3 _ _ _ _
   | exact kerbsuitelaw1_awake.mono _
   | exact kerbsuiteref1_Parse.mono _ _ _
   | exact principal_Parse.mono _ _ _
   | exact LeO.none _
   | refine LeO.ite ?_ ?_
   | refine LeO.bind ?_ (fun _ => ?_)
set_option maxHeartbeats 8000000 in
set_option maxRecDepth 100000 in
theorem kerbsuitelaw1_PrincipalParses.calls (k : Nat) (a0 : ByteArray) (a1 : ByteArray) (A2 : Option Addr) (c2 : Nat) (l2 : List Int) (r : Bool) (w : World) (hr2 : Kd.C (Kd.int .u8) w A2 l2.length l2) (hc2 : l2.length ≤ c2) (h : kerbsuitelaw1_PrincipalParses.f k a0 a1 l2 = some r) :
  Calls Try.prog 4 #[.string a0, .string a1, .slice A2 l2.length c2] w fun e w' => e = .returned (.bool r) ∧ Below w.heap.size w w' := by
 have hu23 := Try.underlying23
 have HR2 := Aside0.mk hr2
 have HC2 := Aside0.mk hc2
 clear hr2 hc2
 have HB := Aside0.mk (Below.refl w.heap.size w)
 have H : ((kerbsuitelaw1_awake.f k).bind fun t171 => (if t171 = true then (if (a0.size : Int) > 200 then (kerbsuitelaw1_PrincipalParses.j0 k a0 a1 l2 true) else (if (a1.size : Int) > 100 then (kerbsuitelaw1_PrincipalParses.j0 k a0 a1 l2 true) else (kerbsuitelaw1_PrincipalParses.j0 k a0 a1 l2 (decide ((l2.length : Int) > 40))))) else (some false))) = some r := h
 clear h
 replace H := Option.bind_eq_some_iff.mp H
 obtain ⟨t171, A40, H⟩ := H
 replace H : (if t171 = true then (if (a0.size : Int) > 200 then (kerbsuitelaw1_PrincipalParses.j0 k a0 a1 l2 true) else (if (a1.size : Int) > 100 then (kerbsuitelaw1_PrincipalParses.j0 k a0 a1 l2 true) else (kerbsuitelaw1_PrincipalParses.j0 k a0 a1 l2 (decide ((l2.length : Int) > 40))))) else (some false)) = some r := H
 have A4 := Aside0.mk A40
 clear A40
 by_cases c5 : t171 = true
 ·subst c5
  have H1 : (if (a0.size : Int) > 200 then (kerbsuitelaw1_PrincipalParses.j0 k a0 a1 l2 true) else (if (a1.size : Int) > 100 then (kerbsuitelaw1_PrincipalParses.j0 k a0 a1 l2 true) else (kerbsuitelaw1_PrincipalParses.j0 k a0 a1 l2 (decide ((l2.length : Int) > 40))))) = some r := by rw [if_pos rfl] at H; exact H
  clear H
  have H := H1
  clear H1
  have HC6 := Aside0.mk H
  clear H
  go_enter Try.func4, Try.ntmps4
  go_upto_region 3 with (first | ((with_reducible refine gate_callee (f := 8) rfl ?_); refine goesL_ (some 17) rfl rfl Try.func8 (by kernel_rfl) rfl #[] rfl (by (try simp only [List.map_toArray, List.map_cons, List.map_nil]); first | done | rfl | (simp only [List.length_drop, List.length_take]; rfl)) ?_; (with_reducible refine (kerbsuitelaw1_awake.calls k  true _ A4.out).mono ?_); rintro e w7 ⟨rfl, hb⟩; refine ⟨_, rfl, ?_⟩; have n0_ := Aside0.mk (below_step (by repeat (first | (with_reducible first | exact HB.out | apply below_alloc | apply pw_below_drewN | apply below_drew1) | exact HB.out)) hb); clear HB; have HB := n0_; clear n0_; (try clear hb); (try clear hb2); (try clear hk); (try clear hi)))
  (try simp only [Act.put, List.setIfInBounds_toArray, List.set_cons_zero, List.set_cons_succ])
  go_cut [31] (fun v31 wc => ∃ (kq : Nat) (x31_5 : Bool), v31 = .bool x31_5 ∧ Aside0 (kerbsuitelaw1_PrincipalParses.j0 kq a0 a1 l2 x31_5 = some r) ∧ Aside0 (kq ≤ k) ∧ Aside0 (Below w.heap.size w wc))
  case first =>
   have H := HC6.out
   clear HC6
   by_cases c8 : (a0.size : Int) > 200
   ·rw [if_pos c8] at H
    have c8b0 : decide (200 < (a0.size : Int)) = true := decide_eq_true c8
    have c8b1 : decide (200 < a0.size) = true := decide_eq_true (by omega)
    clear c8
    (first | rw [c8b0] | (simp only [i64_w, i32_w]; rw [c8b0]) | skip)
    have H' := Aside0.mk H
    clear H
    go_wp2
    go_meet
    case rel => exact ⟨_, (true), (by first | rfl | (simp; done) | (simp [*]; done)), H', ⟨by first | omega | exact Nat.le_refl _⟩, ⟨by repeat (first | (with_reducible first | exact HB.out | apply below_alloc | apply pw_below_drewN | apply below_drew1) | exact HB.out)⟩⟩
   ·rw [if_neg c8] at H
    have c8b0 : decide (200 < (a0.size : Int)) = false := decide_eq_false c8
    have c8b1 : decide (200 < a0.size) = false := decide_eq_false (by omega)
    clear c8
    (first | rw [c8b0] | (simp only [i64_w, i32_w]; rw [c8b0]) | skip)
    by_cases c9 : (a1.size : Int) > 100
    ·rw [if_pos c9] at H
     have c9b0 : decide (100 < (a1.size : Int)) = true := decide_eq_true c9
     have c9b1 : decide (100 < a1.size) = true := decide_eq_true (by omega)
     clear c9
     have H' := Aside0.mk H
     clear H
     go_wp2
     go_meet
     case rel => exact ⟨_, (true), (by first | rfl | (simp; done) | (simp [*]; done)), H', ⟨by first | omega | exact Nat.le_refl _⟩, ⟨by repeat (first | (with_reducible first | exact HB.out | apply below_alloc | apply pw_below_drewN | apply below_drew1) | exact HB.out)⟩⟩
    ·rw [if_neg c9] at H
     have c9b0 : decide (100 < (a1.size : Int)) = false := decide_eq_false c9
     have c9b1 : decide (100 < a1.size) = false := decide_eq_false (by omega)
     clear c9
     have H' := Aside0.mk H
     clear H
     go_wp2
     go_meet
     case rel => exact ⟨_, (decide ((l2.length : Int) > 40)), (by first | rfl | (simp; done) | (simp [*]; done)), H', ⟨by first | omega | exact Nat.le_refl _⟩, ⟨by repeat (first | (with_reducible first | exact HB.out | apply below_alloc | apply pw_below_drewN | apply below_drew1) | exact HB.out)⟩⟩
  case rest =>
   clear HC6
   try clear c2
   try clear p2
   try clear c4
   try clear c5
   try clear c8
   try clear c8b0
   try clear c8b1
   try clear c9
   try clear c9b0
   try clear c9b1
   obtain ⟨kq, x31_5, rfl, HA, HJ5, HB⟩ := hcut
   cases kq with
   | zero => exact absurd HA.out (by simp [kerbsuitelaw1_PrincipalParses.j0])
   | succ kj5 =>
    have H := HA.out
    clear HA
    simp only [kerbsuitelaw1_PrincipalParses.j0] at H
    by_cases c10 : x31_5 = true
    ·subst c10
     have H1 : (some true) = some r := by rw [if_pos rfl] at H; exact H
     clear H
     have H := H1
     clear H1
     obtain rfl := Option.some.inj H
     go_wp2
     go_ret
     exact ⟨by first | rfl | (simp [errW_none, errW_some] <;> rfl) | (simp [*, errW_none, errW_some] <;> rfl), by repeat (first | (with_reducible first | exact HB.out | apply below_alloc | apply pw_below_drewN | apply below_drew1) | exact HB.out)⟩
    ·replace c10 := Bool.eq_false_iff.mpr c10
     subst c10
     have H1 : (kerbsuitelaw1_PrincipalParses.l0 kj5 a0 a1 l2 (⟨#[]⟩ : ByteArray) 0) = some r := by rw [if_neg (show ¬ (false = true) by decide)] at H; exact H
     clear H
     have H := H1
     clear H1
     have H' := Aside0.mk H
     clear H
     go_wp2
     go_loopg [7, 8] kj5 (fun kq v7 v8 w' => ∃ (x7_2 : ByteArray) (x8_2 : Int), v7 = .string x7_2 ∧ v8 = .int .i64 x8_2 ∧ Aside0 (kerbsuitelaw1_PrincipalParses.l0 kq a0 a1 l2 x7_2 x8_2 = some r) ∧ Aside0 (kq ≤ kj5) ∧ Aside0 (Below w.heap.size w w'))
     case atStart => exact ⟨((⟨#[]⟩ : ByteArray)), (0), (by first | rfl | (simp; done) | (simp [*]; done)), (by first | rfl | (simp; done) | (simp [*]; done)), H', ⟨Nat.le_refl _⟩, ⟨by repeat (first | (with_reducible first | exact HB.out | apply below_alloc | apply pw_below_drewN | apply below_drew1) | exact HB.out)⟩⟩
     case round =>
      clear H'
      try clear c1
      try clear c2
      try clear p2
      try clear c4
      try clear c5
      try clear c8
      try clear c8b0
      try clear c8b1
      try clear c9
      try clear c9b0
      try clear c9b1
      try clear c10
      try clear p2
      obtain ⟨x7_2, x8_2, rfl, rfl, HA, HK2, HB⟩ := hrel
      cases gk with
      | zero => exact absurd HA.out (by simp [kerbsuitelaw1_PrincipalParses.l0])
      | succ k2 =>
       have H := HA.out
       clear HA
       simp only [kerbsuitelaw1_PrincipalParses.l0] at H
       by_cases c11 : x8_2 < (l2.length : Int)
       ·rw [if_pos c11] at H
        have c11b0 : decide (x8_2 < (l2.length : Int)) = true := decide_eq_true c11
        clear c11
        obtain ⟨y172, hy172⟩ : ∃ y_ : List ByteArray, y_ = (([(⟨#[97, 110, 110]⟩ : ByteArray), (⟨#[46]⟩ : ByteArray), (⟨#[64]⟩ : ByteArray), (⟨#[120]⟩ : ByteArray), (⟨#[77, 73, 84]⟩ : ByteArray), (⟨#[57]⟩ : ByteArray), (⟨#[]⟩ : ByteArray), (⟨#[32]⟩ : ByteArray)] : List ByteArray)) := ⟨_, rfl⟩
        replace H : (if 0 ≤ x8_2 then (if 0 ≤ (Int.tmod (rd l2 x8_2) 8) then (if (Int.tmod (rd l2 x8_2) 8) < (y172.length : Int) then (if x7_2.size + (rdOf ByteArray.empty y172 (Int.tmod (rd l2 x8_2) 8)).size ≤ 9223372036854775807 then (kerbsuitelaw1_PrincipalParses.l0 k2 a0 a1 l2 (x7_2 ++ (rdOf ByteArray.empty y172 (Int.tmod (rd l2 x8_2) 8))) (wrap64 (x8_2 + 1))) else (none)) else (none)) else (none)) else (none)) = some r := by first | (rw [hy172]; with_reducible exact H) | (have H2_ := (Option.bind_some _ _).symm.trans H; rw [hy172]; with_reducible exact H2_) | (have H2_ := (Option.bind_some _ _).symm.trans H; with_reducible exact H2_) | with_reducible exact H | (rw [hy172]; exact H) | exact H
        have Ny172 := Aside0.mk hy172
        clear hy172
        by_cases c12 : 0 ≤ x8_2
        ·rw [if_pos c12] at H
         have c12b0 : decide (0 ≤ x8_2) = true := decide_eq_true c12
         clear c12
         obtain ⟨ji13, hji13⟩ : ∃ j_ : Int, (Int.tmod (rd l2 x8_2) 8) = j_ := ⟨_, rfl⟩
         replace H : (if 0 ≤ (ji13) then (if (ji13) < (y172.length : Int) then (if x7_2.size + (rdOf ByteArray.empty y172 (ji13)).size ≤ 9223372036854775807 then (kerbsuitelaw1_PrincipalParses.l0 k2 a0 a1 l2 (x7_2 ++ (rdOf ByteArray.empty y172 (ji13))) (wrap64 (x8_2 + 1))) else (none)) else (none)) else (none)) = some r := by first | (rw [hji13] at H; exact H) | (simp only [hji13] at H ⊢; exact H)
         by_cases c14 : 0 ≤ (ji13)
         ·rw [if_pos c14] at H
          have c14b0 : decide (0 ≤ (ji13)) = true := decide_eq_true c14
          clear c14
          by_cases c15 : (ji13) < (y172.length : Int)
          ·rw [if_pos c15] at H
           have c15b0 : decide ((ji13) < (y172.length : Int)) = true := decide_eq_true c15
           clear c15
           by_cases c16 : x7_2.size + (rdOf ByteArray.empty y172 (ji13)).size ≤ 9223372036854775807
           ·rw [if_pos c16] at H
            have c16b0 := eq_true c16
            have c16b1 : decide (x7_2.size + (rdOf ByteArray.empty y172 (ji13)).size ≤ 9223372036854775807) = true := decide_eq_true c16
            try have c16b2 : (9223372036854775807 < x7_2.size + (rdOf ByteArray.empty y172 (ji13)).size) = False := eq_false (Nat.not_lt.2 c16)
            have H' := Aside0.mk H
            clear H
            go_wp2_with (first | ((with_reducible refine gate_dst (N := 39) rfl ?_); (try (refine gate_guard (by rfl) ?_; dsimp only)); refine Kd.R_lit Kd.string _ 9 ?hg (N := 39) ?hd (xs := ([(⟨#[97, 110, 110]⟩ : ByteArray), (⟨#[46]⟩ : ByteArray), (⟨#[64]⟩ : ByteArray), (⟨#[120]⟩ : ByteArray), (⟨#[77, 73, 84]⟩ : ByteArray), (⟨#[57]⟩ : ByteArray), (⟨#[]⟩ : ByteArray), (⟨#[32]⟩ : ByteArray)] : List ByteArray)) (inner := [.string (⟨#[97, 110, 110]⟩ : ByteArray), .string (⟨#[46]⟩ : ByteArray), .string (⟨#[64]⟩ : ByteArray), .string (⟨#[120]⟩ : ByteArray), .string (⟨#[77, 73, 84]⟩ : ByteArray), .string (⟨#[57]⟩ : ByteArray), .string (⟨#[]⟩ : ByteArray), .string (⟨#[32]⟩ : ByteArray)]) (ok := fun _ => True) (okp := fun _ => True) ?hr ?hp (fun _ hk => hk) trivial (Below.refl _ _) (Nat.le_refl _) (by simp) ?_; (case hd => rfl); (case hg => rfl); (case hr => first | (go_simp; done) | (go_simp; rfl)); (case hp => exact (Reps.one (show Kd.M Kd.string _ _ _ (⟨#[97, 110, 110]⟩ : ByteArray) [.string (⟨#[97, 110, 110]⟩ : ByteArray)] from rfl) (Reps.one (show Kd.M Kd.string _ _ _ (⟨#[46]⟩ : ByteArray) [.string (⟨#[46]⟩ : ByteArray)] from rfl) (Reps.one (show Kd.M Kd.string _ _ _ (⟨#[64]⟩ : ByteArray) [.string (⟨#[64]⟩ : ByteArray)] from rfl) (Reps.one (show Kd.M Kd.string _ _ _ (⟨#[120]⟩ : ByteArray) [.string (⟨#[120]⟩ : ByteArray)] from rfl) (Reps.one (show Kd.M Kd.string _ _ _ (⟨#[77, 73, 84]⟩ : ByteArray) [.string (⟨#[77, 73, 84]⟩ : ByteArray)] from rfl) (Reps.one (show Kd.M Kd.string _ _ _ (⟨#[57]⟩ : ByteArray) [.string (⟨#[57]⟩ : ByteArray)] from rfl) (Reps.one (show Kd.M Kd.string _ _ _ (⟨#[]⟩ : ByteArray) [.string (⟨#[]⟩ : ByteArray)] from rfl) (Reps.one (show Kd.M Kd.string _ _ _ (⟨#[32]⟩ : ByteArray) [.string (⟨#[32]⟩ : ByteArray)] from rfl) (Reps.none _ _)))))))))); intro v173 w17 ho18 hb hg_ hnew_; clear hg_ hnew_; (first | rw [← Ny172.out] at ho18 | (simp only [Int.reduceToNat] at ho18; rw [← Ny172.out] at ho18)); have n0_ := Aside0.mk (Kd.R_lower ho18 (below_size (by repeat (first | (with_reducible first | exact HB.out | apply below_alloc | apply pw_below_drewN | apply below_drew1) | exact HB.out)))); have n1_ := Aside0.mk (below_step (by repeat (first | (with_reducible first | exact HB.out | apply below_alloc | apply pw_below_drewN | apply below_drew1) | exact HB.out)) hb); clear HB; have HO174 := n0_; have HB := n1_; clear n0_ n1_; clear hb ho18; have p175 : 0 ≤ (x8_2 : Int) := of_decide_eq_true (by first | (with_reducible assumption) | assumption); have q175 : x8_2 < (l2.length : Int) := of_decide_eq_true (by first | (with_reducible assumption) | assumption); obtain ⟨ad175, e175, hx175_0⟩ := Kd.at_int HR2.out x8_2 p175 q175; cases e175; replace hx175_0 := (HB.out.cell (World.block_lt_of_cell? w _ hx175_0)).trans hx175_0; replace p175 := eq_true p175; replace q175 := eq_true q175; obtain ⟨Ao19, co19, eo19⟩ := Kd.R_slice HO174.out; subst eo19; have p176 : 0 ≤ ((ji13) : Int) := of_decide_eq_true (by first | (with_reducible assumption) | assumption); have q176 : (ji13) < (y172.length : Int) := of_decide_eq_true (by first | (with_reducible assumption) | assumption); obtain ⟨ad176, e176, hx176_0⟩ := Kd.at_string (Kd.R_reads' HO174.out).2.2 (ji13) p176 q176; cases e176; replace p176 := eq_true p176; replace q176 := eq_true q176))
            go_roundg k2
            case measure => have := HJ5.out; have := HK2.out; omega
            case rel => exact ⟨(x7_2 ++ (rdOf ByteArray.empty y172 (ji13))), (wrap64 (x8_2 + 1)), (by first | rfl | (simp; done) | (simp only [← hji13] <;> (first | rfl | simp)) | (simp [*]; done)), (by first | rfl | (simp; done) | (simp [*]; done)), H', ⟨by have := HJ5.out; have := HK2.out; omega⟩, ⟨by repeat (first | (with_reducible first | exact HB.out | apply below_alloc | apply pw_below_drewN | apply below_drew1) | exact HB.out)⟩⟩
           ·rw [if_neg c16] at H
            exact absurd H (by simp)
          ·rw [if_neg c15] at H
           exact absurd H (by simp)
         ·rw [if_neg c14] at H
          exact absurd H (by simp)
        ·rw [if_neg c12] at H
         exact absurd H (by simp)
       ·rw [if_neg c11] at H
        have c11b0 : decide (x8_2 < (l2.length : Int)) = false := decide_eq_false c11
        clear c11
        by_cases c20 : x7_2.size + 1 ≤ 9223372036854775807
        ·rw [if_pos c20] at H
         have c20b0 := eq_true c20
         have c20b1 : decide (x7_2.size + 1 ≤ 9223372036854775807) = true := decide_eq_true c20
         try have c20b2 : (9223372036854775807 < x7_2.size + 1) = False := eq_false (Nat.not_lt.2 c20)
         by_cases c21 : (x7_2 ++ (⟨#[64]⟩ : ByteArray)).size + a1.size ≤ 9223372036854775807
         ·rw [if_pos c21] at H
          have c21b0 := eq_true c21
          have c21b1 : decide ((x7_2 ++ (⟨#[64]⟩ : ByteArray)).size + a1.size ≤ 9223372036854775807) = true := decide_eq_true c21
          try have c21b2 : (9223372036854775807 < (x7_2 ++ (⟨#[64]⟩ : ByteArray)).size + a1.size) = False := eq_false (Nat.not_lt.2 c21)
          try (have c21b3 : (9223372036854775807 < x7_2.size + 1 + a1.size) = False := eq_false (Nat.not_lt.2 (by have h_ := c21; simp only [ByteArray.size_append] at h_; exact h_)))
          obtain ⟨y177, hy177⟩ : ∃ y_ : List ByteArray, y_ = (([a0, x7_2, (x7_2 ++ (⟨#[64]⟩ : ByteArray)) ++ a1] : List ByteArray)) := ⟨_, rfl⟩
          replace H : (kerbsuitelaw1_PrincipalParses.l1 k2 a1 y177 0) = some r := by first | (rw [hy177]; with_reducible exact H) | (have H2_ := (Option.bind_some _ _).symm.trans H; rw [hy177]; with_reducible exact H2_) | (have H2_ := (Option.bind_some _ _).symm.trans H; with_reducible exact H2_) | with_reducible exact H | (rw [hy177]; exact H) | exact H
          have Ny177 := Aside0.mk hy177
          clear hy177
          have H' := Aside0.mk H
          clear H
          go_wp2_with (first | ((with_reducible refine gate_dst (N := 54) rfl ?_); (try (refine gate_guard (by rfl) ?_; dsimp only)); refine Kd.R_lit Kd.string _ 9 ?hg (N := 54) ?hd (xs := ([a0, x7_2, (x7_2 ++ (⟨#[64]⟩ : ByteArray)) ++ a1] : List ByteArray)) (inner := [.string a0, .string x7_2, .string ((x7_2 ++ (⟨#[64]⟩ : ByteArray)) ++ a1)]) (ok := fun _ => True) (okp := fun _ => True) ?hr ?hp (fun _ hk => hk) trivial (Below.refl _ _) (Nat.le_refl _) (by simp) ?_; (case hd => rfl); (case hg => rfl); (case hr => first | (go_simp; done) | (go_simp; rfl)); (case hp => exact (Reps.one (show Kd.M Kd.string _ _ _ a0 [.string a0] from rfl) (Reps.one (show Kd.M Kd.string _ _ _ x7_2 [.string x7_2] from rfl) (Reps.one (show Kd.M Kd.string _ _ _ ((x7_2 ++ (⟨#[64]⟩ : ByteArray)) ++ a1) [.string ((x7_2 ++ (⟨#[64]⟩ : ByteArray)) ++ a1)] from rfl) (Reps.none _ _))))); intro v178 w22 ho23 hb hg_ hnew_; clear hg_ hnew_; (first | rw [← Ny177.out] at ho23 | (simp only [Int.reduceToNat] at ho23; rw [← Ny177.out] at ho23)); have n0_ := Aside0.mk (Kd.R_lower ho23 (below_size (by repeat (first | (with_reducible first | exact HB.out | apply below_alloc | apply pw_below_drewN | apply below_drew1) | exact HB.out)))); have n1_ := Aside0.mk (below_step (by repeat (first | (with_reducible first | exact HB.out | apply below_alloc | apply pw_below_drewN | apply below_drew1) | exact HB.out)) hb); clear HB; have HO179 := n0_; have HB := n1_; clear n0_ n1_; clear hb ho23))
          go_loopg [10] k2 (fun kq v10 w' => ∃ (x10_3 : Int), v10 = .int .i64 x10_3 ∧ Aside0 (kerbsuitelaw1_PrincipalParses.l1 kq a1 y177 x10_3 = some r) ∧ Aside0 (kq ≤ k2) ∧ Aside0 (Kd.R Kd.string 9 w' w.heap.size (fun _ => True) v178 y177) ∧ Aside0 (Below w.heap.size w w'))
          case atStart => exact ⟨(0), (by first | rfl | (simp; done) | (simp [*]; done)), H', ⟨Nat.le_refl _⟩, ⟨by (with_reducible repeat (first | apply Kd.R_alloc | apply Kd.R_drewN | apply Kd.R_drew)); exact HO179.out⟩, ⟨by repeat (first | (with_reducible first | exact HB.out | apply below_alloc | apply pw_below_drewN | apply below_drew1) | exact HB.out)⟩⟩
          case round =>
           clear H'
           try clear c1
           try clear p1
           try clear q1
           try clear hx1
           try clear c2
           try clear p2
           try clear c4
           try clear c5
           try clear p6
           try clear c8
           try clear c8b0
           try clear c8b1
           try clear c9
           try clear c9b0
           try clear c9b1
           try clear c10
           try clear c11
           try clear c11b0
           try clear c12
           try clear c12b0
           try clear c14
           try clear c14b0
           try clear c15
           try clear c15b0
           try clear c16
           try clear c16b0
           try clear c16b1
           try clear c16b2
           try clear p17
           try clear q17
           try clear hx17
           try clear c20
           try clear c20b0
           try clear c20b1
           try clear c20b2
           try clear c21
           try clear c21b0
           try clear c21b1
           try clear c21b2
           try clear hx175_0
           try clear hx176_0
           try clear p175
           try clear p176
           try clear p2
           try clear q175
           try clear q176
           obtain ⟨x10_3, rfl, HA, HK3, HO_9, HB⟩ := hrel
           cases gk with
           | zero => exact absurd HA.out (by simp [kerbsuitelaw1_PrincipalParses.l1])
           | succ k3 =>
            have H := HA.out
            clear HA
            simp only [kerbsuitelaw1_PrincipalParses.l1] at H
            by_cases c24 : x10_3 < (y177.length : Int)
            ·rw [if_pos c24] at H
             have c24b0 : decide (x10_3 < (y177.length : Int)) = true := decide_eq_true c24
             clear c24
             have H' := Aside0.mk H
             clear H
             obtain ⟨Ao25, co25, eo25⟩ := Kd.R_slice HO_9.out
             subst eo25
             go_wp2
             go_loopg [11] k3 (fun kq v11 w' => ∃ (x11_4 : Int), v11 = .int .i64 x11_4 ∧ Aside0 (kerbsuitelaw1_PrincipalParses.l2 kq a1 y177 x10_3 x11_4 = some r) ∧ Aside0 (kq ≤ k3) ∧ Aside0 (Kd.R Kd.string 9 w' w.heap.size (fun _ => True) (.slice Ao25 y177.length co25) y177) ∧ Aside0 (Below w.heap.size w w'))
             case atStart => exact ⟨(0), (by first | rfl | (simp; done) | (simp [*]; done)), H', ⟨Nat.le_refl _⟩, ⟨by (with_reducible repeat (first | apply Kd.R_alloc | apply Kd.R_drewN | apply Kd.R_drew)); exact HO_9.out⟩, ⟨by repeat (first | (with_reducible first | exact HB.out | apply below_alloc | apply pw_below_drewN | apply below_drew1) | exact HB.out)⟩⟩
             case round =>
              clear H'
              try clear c1
              try clear p1
              try clear q1
              try clear hx1
              try clear c2
              try clear p2
              try clear c4
              try clear c5
              try clear p6
              try clear c8
              try clear c8b0
              try clear c8b1
              try clear c9
              try clear c9b0
              try clear c9b1
              try clear c10
              try clear c11
              try clear c11b0
              try clear c12
              try clear c12b0
              try clear c14
              try clear c14b0
              try clear c15
              try clear c15b0
              try clear c16
              try clear c16b0
              try clear c16b1
              try clear c16b2
              try clear p17
              try clear q17
              try clear hx17
              try clear c20
              try clear c20b0
              try clear c20b1
              try clear c20b2
              try clear c21
              try clear c21b0
              try clear c21b1
              try clear c21b2
              try clear c24
              try clear c24b0
              try clear hx175_0
              try clear hx176_0
              try clear p1
              try clear p17
              try clear p175
              try clear p176
              try clear p2
              try clear p6
              try clear q1
              try clear q17
              try clear q175
              try clear q176
              obtain ⟨x11_4, rfl, HA, HK4, HO_9, HB⟩ := hrel
              cases gk with
              | zero => exact absurd HA.out (by simp [kerbsuitelaw1_PrincipalParses.l2])
              | succ k4 =>
               have H := HA.out
               clear HA
               simp only [kerbsuitelaw1_PrincipalParses.l2] at H
               by_cases c26 : x11_4 < 2
               ·rw [if_pos c26] at H
                have c26b0 : decide (x11_4 < 2) = true := decide_eq_true c26
                clear c26
                obtain ⟨y180, hy180⟩ : ∃ y_ : List ByteArray, y_ = (([a1, (⟨#[65, 84, 72, 69, 78, 65]⟩ : ByteArray)] : List ByteArray)) := ⟨_, rfl⟩
                replace H : (if 0 ≤ x11_4 then (if x11_4 < (y180.length : Int) then (if 0 ≤ x10_3 then (if x10_3 < (y177.length : Int) then ((principal_Parse.f k4 (rdOf ByteArray.empty y177 x10_3) (rdOf ByteArray.empty y180 x11_4)).bind fun bt185 => ((kerbsuiteref1_Parse.f k4 (rdOf ByteArray.empty y177 x10_3) (rdOf ByteArray.empty y180 x11_4)).bind fun bt191 => (if (!(bt185.1.toList == bt191.1.toList) || (!(bt185.2.1.toList == bt191.2.1.toList) || (!(bt185.2.2.1.toList == bt191.2.2.1.toList)))) = true then (some false) else (if bt185.2.2.2 = bt191.2.2.2 then (kerbsuitelaw1_PrincipalParses.l2 k4 a1 y177 x10_3 (wrap64 (x11_4 + 1))) else (some false))))) else (none)) else (none)) else (none)) else (none)) = some r := by first | (rw [hy180]; with_reducible exact H) | (have H2_ := (Option.bind_some _ _).symm.trans H; rw [hy180]; with_reducible exact H2_) | (have H2_ := (Option.bind_some _ _).symm.trans H; with_reducible exact H2_) | with_reducible exact H | (rw [hy180]; exact H) | exact H
                have Ny180 := Aside0.mk hy180
                clear hy180
                by_cases c27 : 0 ≤ x11_4
                ·rw [if_pos c27] at H
                 have c27b0 : decide (0 ≤ x11_4) = true := decide_eq_true c27
                 clear c27
                 by_cases c28 : x11_4 < (y180.length : Int)
                 ·rw [if_pos c28] at H
                  have c28b0 : decide (x11_4 < (y180.length : Int)) = true := decide_eq_true c28
                  clear c28
                  by_cases c29 : 0 ≤ x10_3
                  ·rw [if_pos c29] at H
                   have c29b0 : decide (0 ≤ x10_3) = true := decide_eq_true c29
                   clear c29
                   by_cases c30 : x10_3 < (y177.length : Int)
                   ·rw [if_pos c30] at H
                    have c30b0 : decide (x10_3 < (y177.length : Int)) = true := decide_eq_true c30
                    clear c30
                    replace H := Option.bind_eq_some_iff.mp H
                    obtain ⟨⟨t185, t186, t187, t188⟩, A310, H⟩ := H
                    replace H : ((kerbsuiteref1_Parse.f k4 (rdOf ByteArray.empty y177 x10_3) (rdOf ByteArray.empty y180 x11_4)).bind fun bt191 => (if (!(t185.toList == bt191.1.toList) || (!(t186.toList == bt191.2.1.toList) || (!(t187.toList == bt191.2.2.1.toList)))) = true then (some false) else (if t188 = bt191.2.2.2 then (kerbsuitelaw1_PrincipalParses.l2 k4 a1 y177 x10_3 (wrap64 (x11_4 + 1))) else (some false)))) = some r := H
                    have A31 := Aside0.mk A310
                    clear A310
                    replace H := Option.bind_eq_some_iff.mp H
                    obtain ⟨⟨t191, t192, t193, t194⟩, A320, H⟩ := H
                    replace H : (if (!(t185.toList == t191.toList) || (!(t186.toList == t192.toList) || (!(t187.toList == t193.toList)))) = true then (some false) else (if t188 = t194 then (kerbsuitelaw1_PrincipalParses.l2 k4 a1 y177 x10_3 (wrap64 (x11_4 + 1))) else (some false))) = some r := H
                    have A32 := Aside0.mk A320
                    clear A320
                    by_cases c33 : (!(t185.toList == t191.toList) || (!(t186.toList == t192.toList) || (!(t187.toList == t193.toList)))) = true
                    ·rw [if_pos c33] at H
                     have c33b0 : (!(t185.toList == t191.toList) || (!(t186.toList == t192.toList) || (!(t187.toList == t193.toList)))) = true := c33
                     clear c33
                     obtain rfl := Option.some.inj H
                     go_wp2_with (first | ((with_reducible refine gate_dst (N := 66) rfl ?_); (try (refine gate_guard (by rfl) ?_; dsimp only)); refine Kd.R_lit Kd.string _ 9 ?hg (N := 66) ?hd (xs := ([a1, (⟨#[65, 84, 72, 69, 78, 65]⟩ : ByteArray)] : List ByteArray)) (inner := [.string a1, .string (⟨#[65, 84, 72, 69, 78, 65]⟩ : ByteArray)]) (ok := fun _ => True) (okp := fun _ => True) ?hr ?hp (fun _ hk => hk) trivial (Below.refl _ _) (Nat.le_refl _) (by simp) ?_; (case hd => rfl); (case hg => rfl); (case hr => first | (go_simp; done) | (go_simp; rfl)); (case hp => exact (Reps.one (show Kd.M Kd.string _ _ _ a1 [.string a1] from rfl) (Reps.one (show Kd.M Kd.string _ _ _ (⟨#[65, 84, 72, 69, 78, 65]⟩ : ByteArray) [.string (⟨#[65, 84, 72, 69, 78, 65]⟩ : ByteArray)] from rfl) (Reps.none _ _)))); intro v181 w34 ho35 hb hg_ hnew_; clear hg_ hnew_; (first | rw [← Ny180.out] at ho35 | (simp only [Int.reduceToNat] at ho35; rw [← Ny180.out] at ho35)); have n0_ := Aside0.mk (Kd.R_elder' (by (with_reducible repeat (first | apply Kd.R_alloc | apply Kd.R_drewN | apply Kd.R_drew)); exact HO_9.out) (Kd.R_base ho35) hb); have n1_ := Aside0.mk (Kd.R_lower (Kd.R_new' ho35 (Kd.R_lt (by (with_reducible repeat (first | apply Kd.R_alloc | apply Kd.R_drewN | apply Kd.R_drew)); exact HO_9.out))) (below_size (by repeat (first | (with_reducible first | exact HB.out | apply below_alloc | apply pw_below_drewN | apply below_drew1) | exact HB.out)))); have n2_ := Aside0.mk (below_step (by repeat (first | (with_reducible first | exact HB.out | apply below_alloc | apply pw_below_drewN | apply below_drew1) | exact HB.out)) hb); clear HO_9; clear HB; have HO_9 := n0_; have HO182 := n1_; have HB := n2_; clear n0_ n1_ n2_; clear hb ho35; obtain ⟨Ao36, co36, eo36⟩ := Kd.R_slice HO182.out; subst eo36; have p183 : 0 ≤ (x11_4 : Int) := of_decide_eq_true (by first | (with_reducible assumption) | assumption); have q183 : x11_4 < (y180.length : Int) := of_decide_eq_true (by first | (with_reducible assumption) | assumption); obtain ⟨ad183, e183, hx183_0⟩ := Kd.at_string (Kd.R_reads' HO182.out).2.2 x11_4 p183 q183; cases e183; replace p183 := eq_true p183; replace q183 := eq_true q183; have p184 : 0 ≤ (x10_3 : Int) := of_decide_eq_true (by first | (with_reducible assumption) | assumption); have q184 : x10_3 < (y177.length : Int) := of_decide_eq_true (by first | (with_reducible assumption) | assumption); obtain ⟨ad184, e184, hx184_0⟩ := Kd.at_string (Kd.R_reads' HO_9.out).2.2 x10_3 p184 q184; cases e184; replace p184 := eq_true p184; replace q184 := eq_true q184) | ((with_reducible refine gate_callee (f := 19) rfl ?_); refine goesL_ (some 76) rfl rfl Try.func19 (by kernel_rfl) rfl #[.string (rdOf ByteArray.empty y177 x10_3), .string (rdOf ByteArray.empty y180 x11_4)] rfl (by (try simp only [List.map_toArray, List.map_cons, List.map_nil]); first | done | rfl | (simp only [List.length_drop, List.length_take]; rfl)) ?_; (with_reducible refine (principal_Parse.calls k4 (rdOf ByteArray.empty y177 x10_3) (rdOf ByteArray.empty y180 x11_4) t185 t186 t187 t188 _ A31.out).mono ?_); rintro e w37 ⟨rfl, hb⟩; refine ⟨_, rfl, ?_⟩; have n0_ := Aside0.mk (Kd.R_below (by (with_reducible repeat (first | apply Kd.R_alloc | apply Kd.R_drewN | apply Kd.R_drew)); exact HO_9.out) hb); have n1_ := Aside0.mk (Kd.R_below (by (with_reducible repeat (first | apply Kd.R_alloc | apply Kd.R_drewN | apply Kd.R_drew)); exact HO182.out) hb); have n2_ := Aside0.mk (below_step (by repeat (first | (with_reducible first | exact HB.out | apply below_alloc | apply pw_below_drewN | apply below_drew1) | exact HB.out)) hb); clear HO_9; clear HO182; clear HB; have HO_9 := n0_; have HO182 := n1_; have HB := n2_; clear n0_ n1_ n2_; (try clear hb); (try clear hb2); (try clear hk); (try clear hi)) | ((with_reducible refine gate_dst (N := 13) rfl ?_); (try (refine gate_guard (by rfl) ?_; dsimp only)); refine box_event ?hg (N := 13) ?hd (cs := #[.string (⟨#[]⟩ : ByteArray), .string (⟨#[]⟩ : ByteArray), .string (⟨#[]⟩ : ByteArray)]) (t := 23) ?hr ?_; (case hd => rfl); (case hg => rfl); (case hr => first | (go_simp; done) | (go_simp; rfl)); intro gb189 hg w38 hbox hb; have n0_ := Aside0.mk (Kd.R_below (by (with_reducible repeat (first | apply Kd.R_alloc | apply Kd.R_drewN | apply Kd.R_drew)); exact HO_9.out) hb); have n1_ := Aside0.mk (Kd.R_below (by (with_reducible repeat (first | apply Kd.R_alloc | apply Kd.R_drewN | apply Kd.R_drew)); exact HO182.out) hb); have n2_ := Aside0.mk (below_step (by repeat (first | (with_reducible first | exact HB.out | apply below_alloc | apply pw_below_drewN | apply below_drew1) | exact HB.out)) hb); have n3_ := Aside0.mk (hbox); have n4_ := Aside0.mk ((by rw [hg]; exact (below_size (by repeat (first | (with_reducible first | exact HB.out | apply below_alloc | apply pw_below_drewN | apply below_drew1) | exact HB.out))) : w.heap.size ≤ gb189)); have n5_ := Aside0.mk ((by rw [hg]; exact (below_size (by repeat (first | (with_reducible first | exact HB.out | apply below_alloc | apply pw_below_drewN | apply below_drew1) | exact HB.out))) : w.heap.size ≤ gb189)); clear HO_9; clear HO182; clear HB; have HO_9 := n0_; have HO182 := n1_; have HB := n2_; have BK189 := n3_; have GW189 := n4_; have GE189 := n5_; clear n0_ n1_ n2_ n3_ n4_ n5_; clear hb hbox hg; have hcz39_0 : w38.cell? ⟨gb189, 0, none⟩ = some (.string (⟨#[]⟩ : ByteArray)) := (blk_cell BK189.out 0).trans rfl; have hcz39_1 : w38.cell? ⟨gb189, 1, none⟩ = some (.string (⟨#[]⟩ : ByteArray)) := (blk_cell BK189.out 1).trans rfl; have hcz39_2 : w38.cell? ⟨gb189, 2, none⟩ = some (.string (⟨#[]⟩ : ByteArray)) := (blk_cell BK189.out 2).trans rfl; have hfz39_0 := blk_frozen BK189.out 0; have hfz39_1 := blk_frozen BK189.out 1; have hfz39_2 := blk_frozen BK189.out 2; have p190 : 0 ≤ (x10_3 : Int) := of_decide_eq_true (by first | (with_reducible assumption) | assumption); have q190 : x10_3 < (y177.length : Int) := of_decide_eq_true (by first | (with_reducible assumption) | assumption); obtain ⟨ad190, e190, hx190_0⟩ := Kd.at_string (Kd.R_reads' HO_9.out).2.2 x10_3 p190 q190; obtain rfl : ad184 = ad190 := (by injection e190); have hn190_0 : ad184.block ≠ gb189 := Kd.own_blk (Kd.R_ne HO_9.out BK189.out (by decide)); have hn190_1 : ad184.block ≠ gb189 := Kd.own_blk (Kd.R_ne HO_9.out BK189.out (by decide)); have hn190_2 : ad184.block ≠ gb189 := Kd.own_blk (Kd.R_ne HO_9.out BK189.out (by decide)); replace hx190_0 := (cell_far (p := ⟨gb189, 0, none⟩) (by first | (rw [add_block]; exact hn190_0) | (show (Addr.add _ _).block ≠ _; rw [add_block]; exact hn190_0) | exact hn190_0) (.string t185)).trans hx190_0; replace hx190_0 := (cell_far (p := ⟨gb189, 1, none⟩) (by first | (rw [add_block]; exact hn190_1) | (show (Addr.add _ _).block ≠ _; rw [add_block]; exact hn190_1) | exact hn190_1) (.string t186)).trans hx190_0; replace hx190_0 := (cell_far (p := ⟨gb189, 2, none⟩) (by first | (rw [add_block]; exact hn190_2) | (show (Addr.add _ _).block ≠ _; rw [add_block]; exact hn190_2) | exact hn190_2) (.string t187)).trans hx190_0; clear hn190_0; clear hn190_1; clear hn190_2; replace p190 := eq_true p190; replace q190 := eq_true q190) | ((with_reducible refine gate_callee (f := 20) rfl ?_); refine goesL_ (some 85) rfl rfl Try.func20 (by kernel_rfl) rfl #[.string (rdOf ByteArray.empty y177 x10_3), .string (rdOf ByteArray.empty y180 x11_4)] rfl (by (try simp only [List.map_toArray, List.map_cons, List.map_nil]); first | done | rfl | (simp only [List.length_drop, List.length_take]; rfl)) ?_; (with_reducible refine (kerbsuiteref1_Parse.calls k4 (rdOf ByteArray.empty y177 x10_3) (rdOf ByteArray.empty y180 x11_4) t191 t192 t193 t194 _ A32.out).mono ?_); rintro e w40 ⟨rfl, hb⟩; refine ⟨_, rfl, ?_⟩; have n0_ := Aside0.mk (Kd.R_below (by (with_reducible repeat (first | apply Kd.R_alloc | apply Kd.R_drewN | apply Kd.R_drew)); exact (Kd.R_mono (Kd.R_far (p := ⟨gb189, 2, none⟩) (Kd.R_far (p := ⟨gb189, 1, none⟩) (Kd.R_far (p := ⟨gb189, 0, none⟩) (Kd.R_types HO_9.out BK189.out (by decide)) (fun _ hk => hk.2) (.string t185)) (fun _ hk => hk.2) (.string t186)) (fun _ hk => hk.2) (.string t187)) (fun _ h_ => h_.1))) hb); have n1_ := Aside0.mk (Kd.R_below (by (with_reducible repeat (first | apply Kd.R_alloc | apply Kd.R_drewN | apply Kd.R_drew)); exact (Kd.R_mono (Kd.R_far (p := ⟨gb189, 2, none⟩) (Kd.R_far (p := ⟨gb189, 1, none⟩) (Kd.R_far (p := ⟨gb189, 0, none⟩) (Kd.R_types HO182.out BK189.out (by decide)) (fun _ hk => hk.2) (.string t185)) (fun _ hk => hk.2) (.string t186)) (fun _ hk => hk.2) (.string t187)) (fun _ h_ => h_.1))) hb); have n2_ := Aside0.mk (blk_below (g := gb189) (o := .cells #[.string t185, .string t186, .string t187] 23 (0, 0)) (by (with_reducible repeat (first | refine blk_drewN ?_ _ | refine blk_drew ?_ | refine blk_alloc ?_ _)); refine blk_put (cs := #[.string t185, .string t186, .string (⟨#[]⟩ : ByteArray)]) ?_ 2 _ rfl; (with_reducible repeat (first | refine blk_drewN ?_ _ | refine blk_drew ?_ | refine blk_alloc ?_ _)); refine blk_put (cs := #[.string t185, .string (⟨#[]⟩ : ByteArray), .string (⟨#[]⟩ : ByteArray)]) ?_ 1 _ rfl; (with_reducible repeat (first | refine blk_drewN ?_ _ | refine blk_drew ?_ | refine blk_alloc ?_ _)); refine blk_put (cs := #[.string (⟨#[]⟩ : ByteArray), .string (⟨#[]⟩ : ByteArray), .string (⟨#[]⟩ : ByteArray)]) ?_ 0 _ rfl; (with_reducible repeat (first | refine blk_drewN ?_ _ | refine blk_drew ?_ | refine blk_alloc ?_ _)); exact BK189.out) hb); have n3_ := Aside0.mk (below_step (by repeat (first | (with_reducible first | exact HB.out | apply below_alloc | apply pw_below_drewN | apply below_drew1 | refine below_set ?_ GE189.out) | exact HB.out)) hb); clear HO_9; clear HO182; clear BK189; clear HB; have HO_9 := n0_; have HO182 := n1_; have BK189 := n2_; have HB := n3_; clear n0_ n1_ n2_ n3_; (try clear hb); (try clear hb2); (try clear hk); (try clear hi)) | ((with_reducible refine gate_dst (N := 15) rfl ?_); (try (refine gate_guard (by rfl) ?_; dsimp only)); refine box_event ?hg (N := 15) ?hd (cs := #[.string (⟨#[]⟩ : ByteArray), .string (⟨#[]⟩ : ByteArray), .string (⟨#[]⟩ : ByteArray)]) (t := 23) ?hr ?_; (case hd => rfl); (case hg => rfl); (case hr => first | (go_simp; done) | (go_simp; rfl)); intro gb195 hg w41 hbox hb; have n0_ := Aside0.mk (Kd.R_below (by (with_reducible repeat (first | apply Kd.R_alloc | apply Kd.R_drewN | apply Kd.R_drew)); exact HO_9.out) hb); have n1_ := Aside0.mk (Kd.R_below (by (with_reducible repeat (first | apply Kd.R_alloc | apply Kd.R_drewN | apply Kd.R_drew)); exact HO182.out) hb); have n2_ := Aside0.mk (blk_below (g := gb189) (o := .cells #[.string t185, .string t186, .string t187] 23 (0, 0)) (by (with_reducible repeat (first | refine blk_drewN ?_ _ | refine blk_drew ?_ | refine blk_alloc ?_ _)); exact BK189.out) hb); have n3_ := Aside0.mk (below_step (by repeat (first | (with_reducible first | exact HB.out | apply below_alloc | apply pw_below_drewN | apply below_drew1 | refine below_set ?_ GE189.out) | exact HB.out)) hb); have n4_ := Aside0.mk (hbox); have n5_ := Aside0.mk ((by rw [hg]; exact (below_size (by repeat (first | (with_reducible first | exact HB.out | apply below_alloc | apply pw_below_drewN | apply below_drew1 | refine below_set ?_ GE189.out) | exact HB.out))) : w.heap.size ≤ gb195)); have n6_ := Aside0.mk ((by rw [hg]; exact (below_size (by repeat (first | (with_reducible first | exact HB.out | apply below_alloc | apply pw_below_drewN | apply below_drew1 | refine below_set ?_ GE189.out) | exact HB.out))) : w.heap.size ≤ gb195)); have n7_ := Aside0.mk ((by rw [hg]; exact Nat.ne_of_lt (blk_lt (g := gb189) (o := .cells #[.string t185, .string t186, .string t187] 23 (0, 0)) (by (with_reducible repeat (first | refine blk_drewN ?_ _ | refine blk_drew ?_ | refine blk_alloc ?_ _)); exact BK189.out)) : gb189 ≠ gb195)); have n8_ := Aside0.mk ((by rw [hg]; exact Nat.ne_of_gt (blk_lt (g := gb189) (o := .cells #[.string t185, .string t186, .string t187] 23 (0, 0)) (by (with_reducible repeat (first | refine blk_drewN ?_ _ | refine blk_drew ?_ | refine blk_alloc ?_ _)); exact BK189.out)) : gb195 ≠ gb189)); clear HO_9; clear HO182; clear BK189; clear HB; have HO_9 := n0_; have HO182 := n1_; have BK189 := n2_; have HB := n3_; have BK195 := n4_; have GW195 := n5_; have GE195 := n6_; have NB189_195 := n7_; have NB195_189 := n8_; clear n0_ n1_ n2_ n3_ n4_ n5_ n6_ n7_ n8_; clear hb hbox hg; have hnb42 := NB195_189.out; have hnc42 := NB189_195.out; have hcz43_0 : w41.cell? ⟨gb195, 0, none⟩ = some (.string (⟨#[]⟩ : ByteArray)) := (blk_cell BK195.out 0).trans rfl; have hcz43_1 : w41.cell? ⟨gb195, 1, none⟩ = some (.string (⟨#[]⟩ : ByteArray)) := (blk_cell BK195.out 1).trans rfl; have hcz43_2 : w41.cell? ⟨gb195, 2, none⟩ = some (.string (⟨#[]⟩ : ByteArray)) := (blk_cell BK195.out 2).trans rfl; have hfz43_0 := blk_frozen BK195.out 0; have hfz43_1 := blk_frozen BK195.out 1; have hfz43_2 := blk_frozen BK195.out 2; have hcz44_0 : w41.cell? ⟨gb189, 0, none⟩ = some (.string t185) := (blk_cell BK189.out 0).trans rfl; have hcz44_1 : w41.cell? ⟨gb189, 1, none⟩ = some (.string t186) := (blk_cell BK189.out 1).trans rfl; have hcz44_2 : w41.cell? ⟨gb189, 2, none⟩ = some (.string t187) := (blk_cell BK189.out 2).trans rfl; have hfz44_0 := blk_frozen BK189.out 0; have hfz44_1 := blk_frozen BK189.out 1; have hfz44_2 := blk_frozen BK189.out 2))
                     go_ret
                     exact ⟨by first | rfl | (simp [errW_none, errW_some] <;> rfl) | (simp [*, errW_none, errW_some] <;> rfl), by repeat (first | (with_reducible first | exact HB.out | apply below_alloc | apply pw_below_drewN | apply below_drew1 | refine below_set ?_ GE189.out | refine below_set ?_ GE195.out) | exact HB.out)⟩
                    ·rw [if_neg c33] at H
                     have c33b0 : (!(t185.toList == t191.toList) || (!(t186.toList == t192.toList) || (!(t187.toList == t193.toList)))) = false := by simpa using c33
                     clear c33
                     by_cases c45 : t188 = t194
                     ·rw [if_pos c45] at H
                      have c45b0 : (t188 == t194) = true := beq_iff_eq.mpr c45
                      have c45b1 : (t188 != t194) = false := bne_eq_false_iff_eq.mpr c45
                      clear c45
                      have H' := Aside0.mk H
                      clear H
                      go_wp2_with (first | ((with_reducible refine gate_dst (N := 66) rfl ?_); (try (refine gate_guard (by rfl) ?_; dsimp only)); refine Kd.R_lit Kd.string _ 9 ?hg (N := 66) ?hd (xs := ([a1, (⟨#[65, 84, 72, 69, 78, 65]⟩ : ByteArray)] : List ByteArray)) (inner := [.string a1, .string (⟨#[65, 84, 72, 69, 78, 65]⟩ : ByteArray)]) (ok := fun _ => True) (okp := fun _ => True) ?hr ?hp (fun _ hk => hk) trivial (Below.refl _ _) (Nat.le_refl _) (by simp) ?_; (case hd => rfl); (case hg => rfl); (case hr => first | (go_simp; done) | (go_simp; rfl)); (case hp => exact (Reps.one (show Kd.M Kd.string _ _ _ a1 [.string a1] from rfl) (Reps.one (show Kd.M Kd.string _ _ _ (⟨#[65, 84, 72, 69, 78, 65]⟩ : ByteArray) [.string (⟨#[65, 84, 72, 69, 78, 65]⟩ : ByteArray)] from rfl) (Reps.none _ _)))); intro v181 w46 ho47 hb hg_ hnew_; clear hg_ hnew_; (first | rw [← Ny180.out] at ho47 | (simp only [Int.reduceToNat] at ho47; rw [← Ny180.out] at ho47)); have n0_ := Aside0.mk (Kd.R_elder' (by (with_reducible repeat (first | apply Kd.R_alloc | apply Kd.R_drewN | apply Kd.R_drew)); exact HO_9.out) (Kd.R_base ho47) hb); have n1_ := Aside0.mk (Kd.R_lower (Kd.R_new' ho47 (Kd.R_lt (by (with_reducible repeat (first | apply Kd.R_alloc | apply Kd.R_drewN | apply Kd.R_drew)); exact HO_9.out))) (below_size (by repeat (first | (with_reducible first | exact HB.out | apply below_alloc | apply pw_below_drewN | apply below_drew1) | exact HB.out)))); have n2_ := Aside0.mk (below_step (by repeat (first | (with_reducible first | exact HB.out | apply below_alloc | apply pw_below_drewN | apply below_drew1) | exact HB.out)) hb); clear HO_9; clear HB; have HO_9 := n0_; have HO182 := n1_; have HB := n2_; clear n0_ n1_ n2_; clear hb ho47; obtain ⟨Ao48, co48, eo48⟩ := Kd.R_slice HO182.out; subst eo48; have p183 : 0 ≤ (x11_4 : Int) := of_decide_eq_true (by first | (with_reducible assumption) | assumption); have q183 : x11_4 < (y180.length : Int) := of_decide_eq_true (by first | (with_reducible assumption) | assumption); obtain ⟨ad183, e183, hx183_0⟩ := Kd.at_string (Kd.R_reads' HO182.out).2.2 x11_4 p183 q183; cases e183; replace p183 := eq_true p183; replace q183 := eq_true q183; have p184 : 0 ≤ (x10_3 : Int) := of_decide_eq_true (by first | (with_reducible assumption) | assumption); have q184 : x10_3 < (y177.length : Int) := of_decide_eq_true (by first | (with_reducible assumption) | assumption); obtain ⟨ad184, e184, hx184_0⟩ := Kd.at_string (Kd.R_reads' HO_9.out).2.2 x10_3 p184 q184; cases e184; replace p184 := eq_true p184; replace q184 := eq_true q184) | ((with_reducible refine gate_callee (f := 19) rfl ?_); refine goesL_ (some 76) rfl rfl Try.func19 (by kernel_rfl) rfl #[.string (rdOf ByteArray.empty y177 x10_3), .string (rdOf ByteArray.empty y180 x11_4)] rfl (by (try simp only [List.map_toArray, List.map_cons, List.map_nil]); first | done | rfl | (simp only [List.length_drop, List.length_take]; rfl)) ?_; (with_reducible refine (principal_Parse.calls k4 (rdOf ByteArray.empty y177 x10_3) (rdOf ByteArray.empty y180 x11_4) t185 t186 t187 t188 _ A31.out).mono ?_); rintro e w49 ⟨rfl, hb⟩; refine ⟨_, rfl, ?_⟩; have n0_ := Aside0.mk (Kd.R_below (by (with_reducible repeat (first | apply Kd.R_alloc | apply Kd.R_drewN | apply Kd.R_drew)); exact HO_9.out) hb); have n1_ := Aside0.mk (Kd.R_below (by (with_reducible repeat (first | apply Kd.R_alloc | apply Kd.R_drewN | apply Kd.R_drew)); exact HO182.out) hb); have n2_ := Aside0.mk (below_step (by repeat (first | (with_reducible first | exact HB.out | apply below_alloc | apply pw_below_drewN | apply below_drew1) | exact HB.out)) hb); clear HO_9; clear HO182; clear HB; have HO_9 := n0_; have HO182 := n1_; have HB := n2_; clear n0_ n1_ n2_; (try clear hb); (try clear hb2); (try clear hk); (try clear hi)) | ((with_reducible refine gate_dst (N := 13) rfl ?_); (try (refine gate_guard (by rfl) ?_; dsimp only)); refine box_event ?hg (N := 13) ?hd (cs := #[.string (⟨#[]⟩ : ByteArray), .string (⟨#[]⟩ : ByteArray), .string (⟨#[]⟩ : ByteArray)]) (t := 23) ?hr ?_; (case hd => rfl); (case hg => rfl); (case hr => first | (go_simp; done) | (go_simp; rfl)); intro gb189 hg w50 hbox hb; have n0_ := Aside0.mk (Kd.R_below (by (with_reducible repeat (first | apply Kd.R_alloc | apply Kd.R_drewN | apply Kd.R_drew)); exact HO_9.out) hb); have n1_ := Aside0.mk (Kd.R_below (by (with_reducible repeat (first | apply Kd.R_alloc | apply Kd.R_drewN | apply Kd.R_drew)); exact HO182.out) hb); have n2_ := Aside0.mk (below_step (by repeat (first | (with_reducible first | exact HB.out | apply below_alloc | apply pw_below_drewN | apply below_drew1) | exact HB.out)) hb); have n3_ := Aside0.mk (hbox); have n4_ := Aside0.mk ((by rw [hg]; exact (below_size (by repeat (first | (with_reducible first | exact HB.out | apply below_alloc | apply pw_below_drewN | apply below_drew1) | exact HB.out))) : w.heap.size ≤ gb189)); have n5_ := Aside0.mk ((by rw [hg]; exact (below_size (by repeat (first | (with_reducible first | exact HB.out | apply below_alloc | apply pw_below_drewN | apply below_drew1) | exact HB.out))) : w.heap.size ≤ gb189)); clear HO_9; clear HO182; clear HB; have HO_9 := n0_; have HO182 := n1_; have HB := n2_; have BK189 := n3_; have GW189 := n4_; have GE189 := n5_; clear n0_ n1_ n2_ n3_ n4_ n5_; clear hb hbox hg; have hcz51_0 : w50.cell? ⟨gb189, 0, none⟩ = some (.string (⟨#[]⟩ : ByteArray)) := (blk_cell BK189.out 0).trans rfl; have hcz51_1 : w50.cell? ⟨gb189, 1, none⟩ = some (.string (⟨#[]⟩ : ByteArray)) := (blk_cell BK189.out 1).trans rfl; have hcz51_2 : w50.cell? ⟨gb189, 2, none⟩ = some (.string (⟨#[]⟩ : ByteArray)) := (blk_cell BK189.out 2).trans rfl; have hfz51_0 := blk_frozen BK189.out 0; have hfz51_1 := blk_frozen BK189.out 1; have hfz51_2 := blk_frozen BK189.out 2; have p190 : 0 ≤ (x10_3 : Int) := of_decide_eq_true (by first | (with_reducible assumption) | assumption); have q190 : x10_3 < (y177.length : Int) := of_decide_eq_true (by first | (with_reducible assumption) | assumption); obtain ⟨ad190, e190, hx190_0⟩ := Kd.at_string (Kd.R_reads' HO_9.out).2.2 x10_3 p190 q190; obtain rfl : ad184 = ad190 := (by injection e190); have hn190_0 : ad184.block ≠ gb189 := Kd.own_blk (Kd.R_ne HO_9.out BK189.out (by decide)); have hn190_1 : ad184.block ≠ gb189 := Kd.own_blk (Kd.R_ne HO_9.out BK189.out (by decide)); have hn190_2 : ad184.block ≠ gb189 := Kd.own_blk (Kd.R_ne HO_9.out BK189.out (by decide)); replace hx190_0 := (cell_far (p := ⟨gb189, 0, none⟩) (by first | (rw [add_block]; exact hn190_0) | (show (Addr.add _ _).block ≠ _; rw [add_block]; exact hn190_0) | exact hn190_0) (.string t185)).trans hx190_0; replace hx190_0 := (cell_far (p := ⟨gb189, 1, none⟩) (by first | (rw [add_block]; exact hn190_1) | (show (Addr.add _ _).block ≠ _; rw [add_block]; exact hn190_1) | exact hn190_1) (.string t186)).trans hx190_0; replace hx190_0 := (cell_far (p := ⟨gb189, 2, none⟩) (by first | (rw [add_block]; exact hn190_2) | (show (Addr.add _ _).block ≠ _; rw [add_block]; exact hn190_2) | exact hn190_2) (.string t187)).trans hx190_0; clear hn190_0; clear hn190_1; clear hn190_2; replace p190 := eq_true p190; replace q190 := eq_true q190) | ((with_reducible refine gate_callee (f := 20) rfl ?_); refine goesL_ (some 85) rfl rfl Try.func20 (by kernel_rfl) rfl #[.string (rdOf ByteArray.empty y177 x10_3), .string (rdOf ByteArray.empty y180 x11_4)] rfl (by (try simp only [List.map_toArray, List.map_cons, List.map_nil]); first | done | rfl | (simp only [List.length_drop, List.length_take]; rfl)) ?_; (with_reducible refine (kerbsuiteref1_Parse.calls k4 (rdOf ByteArray.empty y177 x10_3) (rdOf ByteArray.empty y180 x11_4) t191 t192 t193 t194 _ A32.out).mono ?_); rintro e w52 ⟨rfl, hb⟩; refine ⟨_, rfl, ?_⟩; have n0_ := Aside0.mk (Kd.R_below (by (with_reducible repeat (first | apply Kd.R_alloc | apply Kd.R_drewN | apply Kd.R_drew)); exact (Kd.R_mono (Kd.R_far (p := ⟨gb189, 2, none⟩) (Kd.R_far (p := ⟨gb189, 1, none⟩) (Kd.R_far (p := ⟨gb189, 0, none⟩) (Kd.R_types HO_9.out BK189.out (by decide)) (fun _ hk => hk.2) (.string t185)) (fun _ hk => hk.2) (.string t186)) (fun _ hk => hk.2) (.string t187)) (fun _ h_ => h_.1))) hb); have n1_ := Aside0.mk (Kd.R_below (by (with_reducible repeat (first | apply Kd.R_alloc | apply Kd.R_drewN | apply Kd.R_drew)); exact (Kd.R_mono (Kd.R_far (p := ⟨gb189, 2, none⟩) (Kd.R_far (p := ⟨gb189, 1, none⟩) (Kd.R_far (p := ⟨gb189, 0, none⟩) (Kd.R_types HO182.out BK189.out (by decide)) (fun _ hk => hk.2) (.string t185)) (fun _ hk => hk.2) (.string t186)) (fun _ hk => hk.2) (.string t187)) (fun _ h_ => h_.1))) hb); have n2_ := Aside0.mk (blk_below (g := gb189) (o := .cells #[.string t185, .string t186, .string t187] 23 (0, 0)) (by (with_reducible repeat (first | refine blk_drewN ?_ _ | refine blk_drew ?_ | refine blk_alloc ?_ _)); refine blk_put (cs := #[.string t185, .string t186, .string (⟨#[]⟩ : ByteArray)]) ?_ 2 _ rfl; (with_reducible repeat (first | refine blk_drewN ?_ _ | refine blk_drew ?_ | refine blk_alloc ?_ _)); refine blk_put (cs := #[.string t185, .string (⟨#[]⟩ : ByteArray), .string (⟨#[]⟩ : ByteArray)]) ?_ 1 _ rfl; (with_reducible repeat (first | refine blk_drewN ?_ _ | refine blk_drew ?_ | refine blk_alloc ?_ _)); refine blk_put (cs := #[.string (⟨#[]⟩ : ByteArray), .string (⟨#[]⟩ : ByteArray), .string (⟨#[]⟩ : ByteArray)]) ?_ 0 _ rfl; (with_reducible repeat (first | refine blk_drewN ?_ _ | refine blk_drew ?_ | refine blk_alloc ?_ _)); exact BK189.out) hb); have n3_ := Aside0.mk (below_step (by repeat (first | (with_reducible first | exact HB.out | apply below_alloc | apply pw_below_drewN | apply below_drew1 | refine below_set ?_ GE189.out) | exact HB.out)) hb); clear HO_9; clear HO182; clear BK189; clear HB; have HO_9 := n0_; have HO182 := n1_; have BK189 := n2_; have HB := n3_; clear n0_ n1_ n2_ n3_; (try clear hb); (try clear hb2); (try clear hk); (try clear hi)) | ((with_reducible refine gate_dst (N := 15) rfl ?_); (try (refine gate_guard (by rfl) ?_; dsimp only)); refine box_event ?hg (N := 15) ?hd (cs := #[.string (⟨#[]⟩ : ByteArray), .string (⟨#[]⟩ : ByteArray), .string (⟨#[]⟩ : ByteArray)]) (t := 23) ?hr ?_; (case hd => rfl); (case hg => rfl); (case hr => first | (go_simp; done) | (go_simp; rfl)); intro gb195 hg w53 hbox hb; have n0_ := Aside0.mk (Kd.R_below (by (with_reducible repeat (first | apply Kd.R_alloc | apply Kd.R_drewN | apply Kd.R_drew)); exact HO_9.out) hb); have n1_ := Aside0.mk (Kd.R_below (by (with_reducible repeat (first | apply Kd.R_alloc | apply Kd.R_drewN | apply Kd.R_drew)); exact HO182.out) hb); have n2_ := Aside0.mk (blk_below (g := gb189) (o := .cells #[.string t185, .string t186, .string t187] 23 (0, 0)) (by (with_reducible repeat (first | refine blk_drewN ?_ _ | refine blk_drew ?_ | refine blk_alloc ?_ _)); exact BK189.out) hb); have n3_ := Aside0.mk (below_step (by repeat (first | (with_reducible first | exact HB.out | apply below_alloc | apply pw_below_drewN | apply below_drew1 | refine below_set ?_ GE189.out) | exact HB.out)) hb); have n4_ := Aside0.mk (hbox); have n5_ := Aside0.mk ((by rw [hg]; exact (below_size (by repeat (first | (with_reducible first | exact HB.out | apply below_alloc | apply pw_below_drewN | apply below_drew1 | refine below_set ?_ GE189.out) | exact HB.out))) : w.heap.size ≤ gb195)); have n6_ := Aside0.mk ((by rw [hg]; exact (below_size (by repeat (first | (with_reducible first | exact HB.out | apply below_alloc | apply pw_below_drewN | apply below_drew1 | refine below_set ?_ GE189.out) | exact HB.out))) : w.heap.size ≤ gb195)); have n7_ := Aside0.mk ((by rw [hg]; exact Nat.ne_of_lt (blk_lt (g := gb189) (o := .cells #[.string t185, .string t186, .string t187] 23 (0, 0)) (by (with_reducible repeat (first | refine blk_drewN ?_ _ | refine blk_drew ?_ | refine blk_alloc ?_ _)); exact BK189.out)) : gb189 ≠ gb195)); have n8_ := Aside0.mk ((by rw [hg]; exact Nat.ne_of_gt (blk_lt (g := gb189) (o := .cells #[.string t185, .string t186, .string t187] 23 (0, 0)) (by (with_reducible repeat (first | refine blk_drewN ?_ _ | refine blk_drew ?_ | refine blk_alloc ?_ _)); exact BK189.out)) : gb195 ≠ gb189)); clear HO_9; clear HO182; clear BK189; clear HB; have HO_9 := n0_; have HO182 := n1_; have BK189 := n2_; have HB := n3_; have BK195 := n4_; have GW195 := n5_; have GE195 := n6_; have NB189_195 := n7_; have NB195_189 := n8_; clear n0_ n1_ n2_ n3_ n4_ n5_ n6_ n7_ n8_; clear hb hbox hg; have hnb54 := NB195_189.out; have hnc54 := NB189_195.out; have hcz55_0 : w53.cell? ⟨gb195, 0, none⟩ = some (.string (⟨#[]⟩ : ByteArray)) := (blk_cell BK195.out 0).trans rfl; have hcz55_1 : w53.cell? ⟨gb195, 1, none⟩ = some (.string (⟨#[]⟩ : ByteArray)) := (blk_cell BK195.out 1).trans rfl; have hcz55_2 : w53.cell? ⟨gb195, 2, none⟩ = some (.string (⟨#[]⟩ : ByteArray)) := (blk_cell BK195.out 2).trans rfl; have hfz55_0 := blk_frozen BK195.out 0; have hfz55_1 := blk_frozen BK195.out 1; have hfz55_2 := blk_frozen BK195.out 2; have hcz56_0 : w53.cell? ⟨gb189, 0, none⟩ = some (.string t185) := (blk_cell BK189.out 0).trans rfl; have hcz56_1 : w53.cell? ⟨gb189, 1, none⟩ = some (.string t186) := (blk_cell BK189.out 1).trans rfl; have hcz56_2 : w53.cell? ⟨gb189, 2, none⟩ = some (.string t187) := (blk_cell BK189.out 2).trans rfl; have hfz56_0 := blk_frozen BK189.out 0; have hfz56_1 := blk_frozen BK189.out 1; have hfz56_2 := blk_frozen BK189.out 2))
                      go_roundg k4
                      case measure => have := HJ5.out; have := HK2.out; have := HK3.out; have := HK4.out; omega
                      case rel => exact ⟨(wrap64 (x11_4 + 1)), (by first | rfl | (simp; done) | (simp [*]; done)), H', ⟨by have := HJ5.out; have := HK2.out; have := HK3.out; have := HK4.out; omega⟩, ⟨by (with_reducible repeat (first | apply Kd.R_alloc | apply Kd.R_drewN | apply Kd.R_drew)); exact Kd.R_mono (Kd.R_far (p := ⟨gb195, 2, none⟩) (Kd.R_far (p := ⟨gb195, 1, none⟩) (Kd.R_far (p := ⟨gb195, 0, none⟩) (Kd.R_types HO_9.out BK195.out (by decide)) (fun _ hk => hk.2) (.string t191)) (fun _ hk => hk.2) (.string t192)) (fun _ hk => hk.2) (.string t193)) (fun _ hk => trivial)⟩, ⟨by repeat (first | (with_reducible first | exact HB.out | apply below_alloc | apply pw_below_drewN | apply below_drew1 | refine below_set ?_ GE189.out | refine below_set ?_ GE195.out) | exact HB.out)⟩⟩
                     ·rw [if_neg c45] at H
                      have c45b0 : (t188 == t194) = false := beq_eq_false_iff_ne.mpr c45
                      have c45b1 : (t188 != t194) = true := bne_iff_ne.mpr c45
                      obtain rfl := Option.some.inj H
                      go_wp2_with (first | ((with_reducible refine gate_dst (N := 66) rfl ?_); (try (refine gate_guard (by rfl) ?_; dsimp only)); refine Kd.R_lit Kd.string _ 9 ?hg (N := 66) ?hd (xs := ([a1, (⟨#[65, 84, 72, 69, 78, 65]⟩ : ByteArray)] : List ByteArray)) (inner := [.string a1, .string (⟨#[65, 84, 72, 69, 78, 65]⟩ : ByteArray)]) (ok := fun _ => True) (okp := fun _ => True) ?hr ?hp (fun _ hk => hk) trivial (Below.refl _ _) (Nat.le_refl _) (by simp) ?_; (case hd => rfl); (case hg => rfl); (case hr => first | (go_simp; done) | (go_simp; rfl)); (case hp => exact (Reps.one (show Kd.M Kd.string _ _ _ a1 [.string a1] from rfl) (Reps.one (show Kd.M Kd.string _ _ _ (⟨#[65, 84, 72, 69, 78, 65]⟩ : ByteArray) [.string (⟨#[65, 84, 72, 69, 78, 65]⟩ : ByteArray)] from rfl) (Reps.none _ _)))); intro v181 w57 ho58 hb hg_ hnew_; clear hg_ hnew_; (first | rw [← Ny180.out] at ho58 | (simp only [Int.reduceToNat] at ho58; rw [← Ny180.out] at ho58)); have n0_ := Aside0.mk (Kd.R_elder' (by (with_reducible repeat (first | apply Kd.R_alloc | apply Kd.R_drewN | apply Kd.R_drew)); exact HO_9.out) (Kd.R_base ho58) hb); have n1_ := Aside0.mk (Kd.R_lower (Kd.R_new' ho58 (Kd.R_lt (by (with_reducible repeat (first | apply Kd.R_alloc | apply Kd.R_drewN | apply Kd.R_drew)); exact HO_9.out))) (below_size (by repeat (first | (with_reducible first | exact HB.out | apply below_alloc | apply pw_below_drewN | apply below_drew1) | exact HB.out)))); have n2_ := Aside0.mk (below_step (by repeat (first | (with_reducible first | exact HB.out | apply below_alloc | apply pw_below_drewN | apply below_drew1) | exact HB.out)) hb); clear HO_9; clear HB; have HO_9 := n0_; have HO182 := n1_; have HB := n2_; clear n0_ n1_ n2_; clear hb ho58; obtain ⟨Ao59, co59, eo59⟩ := Kd.R_slice HO182.out; subst eo59; have p183 : 0 ≤ (x11_4 : Int) := of_decide_eq_true (by first | (with_reducible assumption) | assumption); have q183 : x11_4 < (y180.length : Int) := of_decide_eq_true (by first | (with_reducible assumption) | assumption); obtain ⟨ad183, e183, hx183_0⟩ := Kd.at_string (Kd.R_reads' HO182.out).2.2 x11_4 p183 q183; cases e183; replace p183 := eq_true p183; replace q183 := eq_true q183; have p184 : 0 ≤ (x10_3 : Int) := of_decide_eq_true (by first | (with_reducible assumption) | assumption); have q184 : x10_3 < (y177.length : Int) := of_decide_eq_true (by first | (with_reducible assumption) | assumption); obtain ⟨ad184, e184, hx184_0⟩ := Kd.at_string (Kd.R_reads' HO_9.out).2.2 x10_3 p184 q184; cases e184; replace p184 := eq_true p184; replace q184 := eq_true q184) | ((with_reducible refine gate_callee (f := 19) rfl ?_); refine goesL_ (some 76) rfl rfl Try.func19 (by kernel_rfl) rfl #[.string (rdOf ByteArray.empty y177 x10_3), .string (rdOf ByteArray.empty y180 x11_4)] rfl (by (try simp only [List.map_toArray, List.map_cons, List.map_nil]); first | done | rfl | (simp only [List.length_drop, List.length_take]; rfl)) ?_; (with_reducible refine (principal_Parse.calls k4 (rdOf ByteArray.empty y177 x10_3) (rdOf ByteArray.empty y180 x11_4) t185 t186 t187 t188 _ A31.out).mono ?_); rintro e w60 ⟨rfl, hb⟩; refine ⟨_, rfl, ?_⟩; have n0_ := Aside0.mk (Kd.R_below (by (with_reducible repeat (first | apply Kd.R_alloc | apply Kd.R_drewN | apply Kd.R_drew)); exact HO_9.out) hb); have n1_ := Aside0.mk (Kd.R_below (by (with_reducible repeat (first | apply Kd.R_alloc | apply Kd.R_drewN | apply Kd.R_drew)); exact HO182.out) hb); have n2_ := Aside0.mk (below_step (by repeat (first | (with_reducible first | exact HB.out | apply below_alloc | apply pw_below_drewN | apply below_drew1) | exact HB.out)) hb); clear HO_9; clear HO182; clear HB; have HO_9 := n0_; have HO182 := n1_; have HB := n2_; clear n0_ n1_ n2_; (try clear hb); (try clear hb2); (try clear hk); (try clear hi)) | ((with_reducible refine gate_dst (N := 13) rfl ?_); (try (refine gate_guard (by rfl) ?_; dsimp only)); refine box_event ?hg (N := 13) ?hd (cs := #[.string (⟨#[]⟩ : ByteArray), .string (⟨#[]⟩ : ByteArray), .string (⟨#[]⟩ : ByteArray)]) (t := 23) ?hr ?_; (case hd => rfl); (case hg => rfl); (case hr => first | (go_simp; done) | (go_simp; rfl)); intro gb189 hg w61 hbox hb; have n0_ := Aside0.mk (Kd.R_below (by (with_reducible repeat (first | apply Kd.R_alloc | apply Kd.R_drewN | apply Kd.R_drew)); exact HO_9.out) hb); have n1_ := Aside0.mk (Kd.R_below (by (with_reducible repeat (first | apply Kd.R_alloc | apply Kd.R_drewN | apply Kd.R_drew)); exact HO182.out) hb); have n2_ := Aside0.mk (below_step (by repeat (first | (with_reducible first | exact HB.out | apply below_alloc | apply pw_below_drewN | apply below_drew1) | exact HB.out)) hb); have n3_ := Aside0.mk (hbox); have n4_ := Aside0.mk ((by rw [hg]; exact (below_size (by repeat (first | (with_reducible first | exact HB.out | apply below_alloc | apply pw_below_drewN | apply below_drew1) | exact HB.out))) : w.heap.size ≤ gb189)); have n5_ := Aside0.mk ((by rw [hg]; exact (below_size (by repeat (first | (with_reducible first | exact HB.out | apply below_alloc | apply pw_below_drewN | apply below_drew1) | exact HB.out))) : w.heap.size ≤ gb189)); clear HO_9; clear HO182; clear HB; have HO_9 := n0_; have HO182 := n1_; have HB := n2_; have BK189 := n3_; have GW189 := n4_; have GE189 := n5_; clear n0_ n1_ n2_ n3_ n4_ n5_; clear hb hbox hg; have hcz62_0 : w61.cell? ⟨gb189, 0, none⟩ = some (.string (⟨#[]⟩ : ByteArray)) := (blk_cell BK189.out 0).trans rfl; have hcz62_1 : w61.cell? ⟨gb189, 1, none⟩ = some (.string (⟨#[]⟩ : ByteArray)) := (blk_cell BK189.out 1).trans rfl; have hcz62_2 : w61.cell? ⟨gb189, 2, none⟩ = some (.string (⟨#[]⟩ : ByteArray)) := (blk_cell BK189.out 2).trans rfl; have hfz62_0 := blk_frozen BK189.out 0; have hfz62_1 := blk_frozen BK189.out 1; have hfz62_2 := blk_frozen BK189.out 2; have p190 : 0 ≤ (x10_3 : Int) := of_decide_eq_true (by first | (with_reducible assumption) | assumption); have q190 : x10_3 < (y177.length : Int) := of_decide_eq_true (by first | (with_reducible assumption) | assumption); obtain ⟨ad190, e190, hx190_0⟩ := Kd.at_string (Kd.R_reads' HO_9.out).2.2 x10_3 p190 q190; obtain rfl : ad184 = ad190 := (by injection e190); have hn190_0 : ad184.block ≠ gb189 := Kd.own_blk (Kd.R_ne HO_9.out BK189.out (by decide)); have hn190_1 : ad184.block ≠ gb189 := Kd.own_blk (Kd.R_ne HO_9.out BK189.out (by decide)); have hn190_2 : ad184.block ≠ gb189 := Kd.own_blk (Kd.R_ne HO_9.out BK189.out (by decide)); replace hx190_0 := (cell_far (p := ⟨gb189, 0, none⟩) (by first | (rw [add_block]; exact hn190_0) | (show (Addr.add _ _).block ≠ _; rw [add_block]; exact hn190_0) | exact hn190_0) (.string t185)).trans hx190_0; replace hx190_0 := (cell_far (p := ⟨gb189, 1, none⟩) (by first | (rw [add_block]; exact hn190_1) | (show (Addr.add _ _).block ≠ _; rw [add_block]; exact hn190_1) | exact hn190_1) (.string t186)).trans hx190_0; replace hx190_0 := (cell_far (p := ⟨gb189, 2, none⟩) (by first | (rw [add_block]; exact hn190_2) | (show (Addr.add _ _).block ≠ _; rw [add_block]; exact hn190_2) | exact hn190_2) (.string t187)).trans hx190_0; clear hn190_0; clear hn190_1; clear hn190_2; replace p190 := eq_true p190; replace q190 := eq_true q190) | ((with_reducible refine gate_callee (f := 20) rfl ?_); refine goesL_ (some 85) rfl rfl Try.func20 (by kernel_rfl) rfl #[.string (rdOf ByteArray.empty y177 x10_3), .string (rdOf ByteArray.empty y180 x11_4)] rfl (by (try simp only [List.map_toArray, List.map_cons, List.map_nil]); first | done | rfl | (simp only [List.length_drop, List.length_take]; rfl)) ?_; (with_reducible refine (kerbsuiteref1_Parse.calls k4 (rdOf ByteArray.empty y177 x10_3) (rdOf ByteArray.empty y180 x11_4) t191 t192 t193 t194 _ A32.out).mono ?_); rintro e w63 ⟨rfl, hb⟩; refine ⟨_, rfl, ?_⟩; have n0_ := Aside0.mk (Kd.R_below (by (with_reducible repeat (first | apply Kd.R_alloc | apply Kd.R_drewN | apply Kd.R_drew)); exact (Kd.R_mono (Kd.R_far (p := ⟨gb189, 2, none⟩) (Kd.R_far (p := ⟨gb189, 1, none⟩) (Kd.R_far (p := ⟨gb189, 0, none⟩) (Kd.R_types HO_9.out BK189.out (by decide)) (fun _ hk => hk.2) (.string t185)) (fun _ hk => hk.2) (.string t186)) (fun _ hk => hk.2) (.string t187)) (fun _ h_ => h_.1))) hb); have n1_ := Aside0.mk (Kd.R_below (by (with_reducible repeat (first | apply Kd.R_alloc | apply Kd.R_drewN | apply Kd.R_drew)); exact (Kd.R_mono (Kd.R_far (p := ⟨gb189, 2, none⟩) (Kd.R_far (p := ⟨gb189, 1, none⟩) (Kd.R_far (p := ⟨gb189, 0, none⟩) (Kd.R_types HO182.out BK189.out (by decide)) (fun _ hk => hk.2) (.string t185)) (fun _ hk => hk.2) (.string t186)) (fun _ hk => hk.2) (.string t187)) (fun _ h_ => h_.1))) hb); have n2_ := Aside0.mk (blk_below (g := gb189) (o := .cells #[.string t185, .string t186, .string t187] 23 (0, 0)) (by (with_reducible repeat (first | refine blk_drewN ?_ _ | refine blk_drew ?_ | refine blk_alloc ?_ _)); refine blk_put (cs := #[.string t185, .string t186, .string (⟨#[]⟩ : ByteArray)]) ?_ 2 _ rfl; (with_reducible repeat (first | refine blk_drewN ?_ _ | refine blk_drew ?_ | refine blk_alloc ?_ _)); refine blk_put (cs := #[.string t185, .string (⟨#[]⟩ : ByteArray), .string (⟨#[]⟩ : ByteArray)]) ?_ 1 _ rfl; (with_reducible repeat (first | refine blk_drewN ?_ _ | refine blk_drew ?_ | refine blk_alloc ?_ _)); refine blk_put (cs := #[.string (⟨#[]⟩ : ByteArray), .string (⟨#[]⟩ : ByteArray), .string (⟨#[]⟩ : ByteArray)]) ?_ 0 _ rfl; (with_reducible repeat (first | refine blk_drewN ?_ _ | refine blk_drew ?_ | refine blk_alloc ?_ _)); exact BK189.out) hb); have n3_ := Aside0.mk (below_step (by repeat (first | (with_reducible first | exact HB.out | apply below_alloc | apply pw_below_drewN | apply below_drew1 | refine below_set ?_ GE189.out) | exact HB.out)) hb); clear HO_9; clear HO182; clear BK189; clear HB; have HO_9 := n0_; have HO182 := n1_; have BK189 := n2_; have HB := n3_; clear n0_ n1_ n2_ n3_; (try clear hb); (try clear hb2); (try clear hk); (try clear hi)) | ((with_reducible refine gate_dst (N := 15) rfl ?_); (try (refine gate_guard (by rfl) ?_; dsimp only)); refine box_event ?hg (N := 15) ?hd (cs := #[.string (⟨#[]⟩ : ByteArray), .string (⟨#[]⟩ : ByteArray), .string (⟨#[]⟩ : ByteArray)]) (t := 23) ?hr ?_; (case hd => rfl); (case hg => rfl); (case hr => first | (go_simp; done) | (go_simp; rfl)); intro gb195 hg w64 hbox hb; have n0_ := Aside0.mk (Kd.R_below (by (with_reducible repeat (first | apply Kd.R_alloc | apply Kd.R_drewN | apply Kd.R_drew)); exact HO_9.out) hb); have n1_ := Aside0.mk (Kd.R_below (by (with_reducible repeat (first | apply Kd.R_alloc | apply Kd.R_drewN | apply Kd.R_drew)); exact HO182.out) hb); have n2_ := Aside0.mk (blk_below (g := gb189) (o := .cells #[.string t185, .string t186, .string t187] 23 (0, 0)) (by (with_reducible repeat (first | refine blk_drewN ?_ _ | refine blk_drew ?_ | refine blk_alloc ?_ _)); exact BK189.out) hb); have n3_ := Aside0.mk (below_step (by repeat (first | (with_reducible first | exact HB.out | apply below_alloc | apply pw_below_drewN | apply below_drew1 | refine below_set ?_ GE189.out) | exact HB.out)) hb); have n4_ := Aside0.mk (hbox); have n5_ := Aside0.mk ((by rw [hg]; exact (below_size (by repeat (first | (with_reducible first | exact HB.out | apply below_alloc | apply pw_below_drewN | apply below_drew1 | refine below_set ?_ GE189.out) | exact HB.out))) : w.heap.size ≤ gb195)); have n6_ := Aside0.mk ((by rw [hg]; exact (below_size (by repeat (first | (with_reducible first | exact HB.out | apply below_alloc | apply pw_below_drewN | apply below_drew1 | refine below_set ?_ GE189.out) | exact HB.out))) : w.heap.size ≤ gb195)); have n7_ := Aside0.mk ((by rw [hg]; exact Nat.ne_of_lt (blk_lt (g := gb189) (o := .cells #[.string t185, .string t186, .string t187] 23 (0, 0)) (by (with_reducible repeat (first | refine blk_drewN ?_ _ | refine blk_drew ?_ | refine blk_alloc ?_ _)); exact BK189.out)) : gb189 ≠ gb195)); have n8_ := Aside0.mk ((by rw [hg]; exact Nat.ne_of_gt (blk_lt (g := gb189) (o := .cells #[.string t185, .string t186, .string t187] 23 (0, 0)) (by (with_reducible repeat (first | refine blk_drewN ?_ _ | refine blk_drew ?_ | refine blk_alloc ?_ _)); exact BK189.out)) : gb195 ≠ gb189)); clear HO_9; clear HO182; clear BK189; clear HB; have HO_9 := n0_; have HO182 := n1_; have BK189 := n2_; have HB := n3_; have BK195 := n4_; have GW195 := n5_; have GE195 := n6_; have NB189_195 := n7_; have NB195_189 := n8_; clear n0_ n1_ n2_ n3_ n4_ n5_ n6_ n7_ n8_; clear hb hbox hg; have hnb65 := NB195_189.out; have hnc65 := NB189_195.out; have hcz66_0 : w64.cell? ⟨gb195, 0, none⟩ = some (.string (⟨#[]⟩ : ByteArray)) := (blk_cell BK195.out 0).trans rfl; have hcz66_1 : w64.cell? ⟨gb195, 1, none⟩ = some (.string (⟨#[]⟩ : ByteArray)) := (blk_cell BK195.out 1).trans rfl; have hcz66_2 : w64.cell? ⟨gb195, 2, none⟩ = some (.string (⟨#[]⟩ : ByteArray)) := (blk_cell BK195.out 2).trans rfl; have hfz66_0 := blk_frozen BK195.out 0; have hfz66_1 := blk_frozen BK195.out 1; have hfz66_2 := blk_frozen BK195.out 2; have hcz67_0 : w64.cell? ⟨gb189, 0, none⟩ = some (.string t185) := (blk_cell BK189.out 0).trans rfl; have hcz67_1 : w64.cell? ⟨gb189, 1, none⟩ = some (.string t186) := (blk_cell BK189.out 1).trans rfl; have hcz67_2 : w64.cell? ⟨gb189, 2, none⟩ = some (.string t187) := (blk_cell BK189.out 2).trans rfl; have hfz67_0 := blk_frozen BK189.out 0; have hfz67_1 := blk_frozen BK189.out 1; have hfz67_2 := blk_frozen BK189.out 2))
                      go_ret
                      exact ⟨by first | rfl | (simp [errW_none, errW_some] <;> rfl) | (simp [*, errW_none, errW_some] <;> rfl), by repeat (first | (with_reducible first | exact HB.out | apply below_alloc | apply pw_below_drewN | apply below_drew1 | refine below_set ?_ GE189.out | refine below_set ?_ GE195.out) | exact HB.out)⟩
                   ·rw [if_neg c30] at H
                    exact absurd H (by simp)
                  ·rw [if_neg c29] at H
                   exact absurd H (by simp)
                 ·rw [if_neg c28] at H
                  exact absurd H (by simp)
                ·rw [if_neg c27] at H
                 exact absurd H (by simp)
               ·rw [if_neg c26] at H
                have c26b0 : decide (x11_4 < 2) = false := decide_eq_false c26
                clear c26
                have H' := Aside0.mk H
                clear H
                go_wp2
                go_roundg k4
                case measure => have := HJ5.out; have := HK2.out; have := HK3.out; have := HK4.out; omega
                case rel => exact ⟨(wrap64 (x10_3 + 1)), (by first | rfl | (simp; done) | (simp [*]; done)), H', ⟨by have := HJ5.out; have := HK2.out; have := HK3.out; have := HK4.out; omega⟩, ⟨by (with_reducible repeat (first | apply Kd.R_alloc | apply Kd.R_drewN | apply Kd.R_drew)); exact HO_9.out⟩, ⟨by repeat (first | (with_reducible first | exact HB.out | apply below_alloc | apply pw_below_drewN | apply below_drew1) | exact HB.out)⟩⟩
            ·rw [if_neg c24] at H
             have c24b0 : decide (x10_3 < (y177.length : Int)) = false := decide_eq_false c24
             clear c24
             obtain rfl := Option.some.inj H
             obtain ⟨Ao68, co68, eo68⟩ := Kd.R_slice HO_9.out
             subst eo68
             go_wp2
             go_ret
             exact ⟨by first | rfl | (simp [errW_none, errW_some] <;> rfl) | (simp [*, errW_none, errW_some] <;> rfl), by repeat (first | (with_reducible first | exact HB.out | apply below_alloc | apply pw_below_drewN | apply below_drew1) | exact HB.out)⟩
         ·rw [if_neg c21] at H
          exact absurd H (by simp)
        ·rw [if_neg c20] at H
         exact absurd H (by simp)
 ·replace c5 := Bool.eq_false_iff.mpr c5
  subst c5
  have H1 : (some false) = some r := by rw [if_neg (show ¬ (false = true) by decide)] at H; exact H
  clear H
  have H := H1
  clear H1
  obtain rfl := Option.some.inj H
  go_enter Try.func4, Try.ntmps4
  go_wp2_with (first | ((with_reducible refine gate_callee (f := 8) rfl ?_); refine goesL_ (some 17) rfl rfl Try.func8 (by kernel_rfl) rfl #[] rfl (by (try simp only [List.map_toArray, List.map_cons, List.map_nil]); first | done | rfl | (simp only [List.length_drop, List.length_take]; rfl)) ?_; (with_reducible refine (kerbsuitelaw1_awake.calls k  false _ A4.out).mono ?_); rintro e w69 ⟨rfl, hb⟩; refine ⟨_, rfl, ?_⟩; have n0_ := Aside0.mk (below_step (by repeat (first | (with_reducible first | exact HB.out | apply below_alloc | apply pw_below_drewN | apply below_drew1) | exact HB.out)) hb); clear HB; have HB := n0_; clear n0_; (try clear hb); (try clear hb2); (try clear hk); (try clear hi)))
  go_ret
  exact ⟨by first | rfl | (simp [errW_none, errW_some] <;> rfl) | (simp [*, errW_none, errW_some] <;> rfl), by repeat (first | (with_reducible first | exact HB.out | apply below_alloc | apply pw_below_drewN | apply below_drew1) | exact HB.out)⟩

/-- The one plain statement that is left of kerbsuitelaw1_PrincipalParses. -/
def kerbsuitelaw1_PrincipalParses.Pure : Prop := ∀ (a0 : ByteArray) (a1 : ByteArray) (l2 : List Int), a0.size ≤ 140737488351232 → a1.size ≤ 140737488351232 → l2.length ≤ maxLen → l2.length * 1 ≤ 140737488351232 → (∀ x ∈ l2, (Lit.int .u8 x).wf = true) → ∃ k, kerbsuitelaw1_PrincipalParses.f k a0 a1 l2 = some true
theorem kerbsuitelaw1_PrincipalParses.walk (P : kerbsuitelaw1_PrincipalParses.Pure) (a0 : ByteArray) (a1 : ByteArray) (A2 : Option Addr) (c2 : Nat) (l2 : List Int) (w : World) (q0_0 : a0.size ≤ 140737488351232) (q1_0 : a1.size ≤ 140737488351232) (hr2 : Kd.C (Kd.int .u8) w A2 l2.length l2) (hc2 : l2.length ≤ c2) (q2_0 : l2.length ≤ maxLen) (q2_1 : l2.length * 1 ≤ 140737488351232) (q2_2 : (∀ x ∈ l2, (Lit.int .u8 x).wf = true)) :
  Calls Try.prog 4 #[.string a0, .string a1, .slice A2 l2.length c2] w fun e w' => e = .returned (.bool true) ∧ Below w.heap.size w w' := by
 obtain ⟨k, h⟩ := P a0 a1 l2 q0_0 q1_0 q2_0 q2_1 q2_2
 refine (kerbsuitelaw1_PrincipalParses.calls k a0 a1 A2 c2 l2 true w hr2 hc2 h).mono ?_
 rintro e w' ⟨rfl, hd⟩
 exact ⟨rfl, hd⟩

/-! ### principal_Tgs: function 21 -/
def principal_Tgs.f (a0 : ByteArray) (a1 : ByteArray) : Option (ByteArray × ByteArray × ByteArray) := some ((⟨#[107, 114, 98, 116, 103, 116]⟩ : ByteArray), a1, a0)
set_option maxHeartbeats 8000000 in
set_option maxRecDepth 100000 in
theorem principal_Tgs.calls (a0 : ByteArray) (a1 : ByteArray) (r1 : ByteArray) (r2 : ByteArray) (r3 : ByteArray) (w : World) (h : principal_Tgs.f a0 a1 = some (r1, r2, r3)) :
  Calls Try.prog 21 #[.string a0, .string a1] w fun e w' => e = .returned (.agg #[.string r1, .string r2, .string r3]) ∧ Below w.heap.size w w' := by
 have hu23 := Try.underlying23
 have HB := Aside0.mk (Below.refl w.heap.size w)
 have H : (some ((⟨#[107, 114, 98, 116, 103, 116]⟩ : ByteArray), a1, a0)) = some (r1, r2, r3) := h
 clear h
 simp only [Option.some.injEq, Prod.mk.injEq] at H
 obtain ⟨rfl, rfl, rfl⟩ := H
 go_enter Try.func21, Try.ntmps21
 go_wp2_with (first | ((with_reducible refine gate_dst (N := 4) rfl ?_); refine box_event ?hg (N := 4) ?hd (cs := #[.string (⟨#[]⟩ : ByteArray), .string (⟨#[]⟩ : ByteArray), .string (⟨#[]⟩ : ByteArray)]) (t := 23) ?hr ?_; (case hd => rfl); (case hg => rfl); (case hr => first | (go_simp; done) | (go_simp; rfl)); intro gb196 hg w3 hbox hb; have n0_ := Aside0.mk (below_step (by repeat (first | (with_reducible first | exact HB.out | apply below_alloc | apply pw_below_drewN | apply below_drew1) | exact HB.out)) hb); have n1_ := Aside0.mk (hbox); have n2_ := Aside0.mk ((by rw [hg]; exact (below_size (by repeat (first | (with_reducible first | exact HB.out | apply below_alloc | apply pw_below_drewN | apply below_drew1) | exact HB.out))) : w.heap.size ≤ gb196)); have n3_ := Aside0.mk ((by rw [hg]; exact (below_size (by repeat (first | (with_reducible first | exact HB.out | apply below_alloc | apply pw_below_drewN | apply below_drew1) | exact HB.out))) : w.heap.size ≤ gb196)); clear HB; have HB := n0_; have BK196 := n1_; have GW196 := n2_; have GE196 := n3_; clear n0_ n1_ n2_ n3_; clear hb hbox hg; have hcz4_0 : w3.cell? ⟨gb196, 0, none⟩ = some (.string (⟨#[]⟩ : ByteArray)) := (blk_cell BK196.out 0).trans rfl; have hcz4_1 : w3.cell? ⟨gb196, 1, none⟩ = some (.string (⟨#[]⟩ : ByteArray)) := (blk_cell BK196.out 1).trans rfl; have hcz4_2 : w3.cell? ⟨gb196, 2, none⟩ = some (.string (⟨#[]⟩ : ByteArray)) := (blk_cell BK196.out 2).trans rfl; have hfz4_0 := blk_frozen BK196.out 0; have hfz4_1 := blk_frozen BK196.out 1; have hfz4_2 := blk_frozen BK196.out 2))
 refine bodyPost_ret (results_cell_row rfl _ _ gb196 23 #[.string (⟨#[107, 114, 98, 116, 103, 116]⟩ : ByteArray), .string a1, .string a0] (0, 0) _ rfl (by (with_reducible repeat (first | refine blk_drewN ?_ _ | refine blk_drew ?_ | refine blk_alloc ?_ _)); refine blk_put (cs := #[.string (⟨#[107, 114, 98, 116, 103, 116]⟩ : ByteArray), .string a1, .string (⟨#[]⟩ : ByteArray)]) ?_ 2 _ rfl; (with_reducible repeat (first | refine blk_drewN ?_ _ | refine blk_drew ?_ | refine blk_alloc ?_ _)); refine blk_put (cs := #[.string (⟨#[107, 114, 98, 116, 103, 116]⟩ : ByteArray), .string (⟨#[]⟩ : ByteArray), .string (⟨#[]⟩ : ByteArray)]) ?_ 1 _ rfl; (with_reducible repeat (first | refine blk_drewN ?_ _ | refine blk_drew ?_ | refine blk_alloc ?_ _)); refine blk_put (cs := #[.string (⟨#[]⟩ : ByteArray), .string (⟨#[]⟩ : ByteArray), .string (⟨#[]⟩ : ByteArray)]) ?_ 0 _ rfl; (with_reducible repeat (first | refine blk_drewN ?_ _ | refine blk_drew ?_ | refine blk_alloc ?_ _)); exact BK196.out) Try.underlying23 rfl (by kernel_rfl)) rfl ?_
 exact ⟨by first | rfl | (simp [errW_none, errW_some] <;> rfl) | (simp [*, errW_none, errW_some] <;> rfl), by repeat (first | (with_reducible first | exact HB.out | apply below_alloc | apply pw_below_drewN | apply below_drew1 | refine below_set ?_ GE196.out) | exact HB.out)⟩

/-! ### principal_IsTgs: function 22 -/
def principal_IsTgs.f (a0_0 : ByteArray) (a0_1 : ByteArray) (a0_2 : ByteArray) : Option (Bool) := some (a0_0.toList == ([107, 114, 98, 116, 103, 116] : List UInt8))
set_option maxHeartbeats 8000000 in
set_option maxRecDepth 100000 in
theorem principal_IsTgs.calls (a0_0 : ByteArray) (a0_1 : ByteArray) (a0_2 : ByteArray) (r : Bool) (w : World) (h : principal_IsTgs.f a0_0 a0_1 a0_2 = some r) :
  Calls Try.prog 22 #[.agg #[.string a0_0, .string a0_1, .string a0_2]] w fun e w' => e = .returned (.bool r) ∧ Below w.heap.size w w' := by
 have hu23 := Try.underlying23
 have HB := Aside0.mk (Below.refl w.heap.size w)
 have H : (some (a0_0.toList == ([107, 114, 98, 116, 103, 116] : List UInt8))) = some r := h
 clear h
 obtain rfl := Option.some.inj H
 go_enter Try.func22, Try.ntmps22
 go_wp2_with (first | ((with_reducible refine gate_dst (N := 1) rfl ?_); refine box_event ?hg (N := 1) ?hd (cs := #[.string a0_0, .string a0_1, .string a0_2]) (t := 23) ?hr ?_; (case hd => rfl); (case hg => rfl); (case hr => first | (go_simp; done) | (go_simp; rfl)); intro gb197 hg w2 hbox hb; have n0_ := Aside0.mk (below_step (by repeat (first | (with_reducible first | exact HB.out | apply below_alloc | apply pw_below_drewN | apply below_drew1) | exact HB.out)) hb); have n1_ := Aside0.mk (hbox); have n2_ := Aside0.mk ((by rw [hg]; exact (below_size (by repeat (first | (with_reducible first | exact HB.out | apply below_alloc | apply pw_below_drewN | apply below_drew1) | exact HB.out))) : w.heap.size ≤ gb197)); have n3_ := Aside0.mk ((by rw [hg]; exact (below_size (by repeat (first | (with_reducible first | exact HB.out | apply below_alloc | apply pw_below_drewN | apply below_drew1) | exact HB.out))) : w.heap.size ≤ gb197)); clear HB; have HB := n0_; have BK197 := n1_; have GW197 := n2_; have GE197 := n3_; clear n0_ n1_ n2_ n3_; clear hb hbox hg; have hcz3_0 : w2.cell? ⟨gb197, 0, none⟩ = some (.string a0_0) := (blk_cell BK197.out 0).trans rfl; have hcz3_1 : w2.cell? ⟨gb197, 1, none⟩ = some (.string a0_1) := (blk_cell BK197.out 1).trans rfl; have hcz3_2 : w2.cell? ⟨gb197, 2, none⟩ = some (.string a0_2) := (blk_cell BK197.out 2).trans rfl; have hfz3_0 := blk_frozen BK197.out 0; have hfz3_1 := blk_frozen BK197.out 1; have hfz3_2 := blk_frozen BK197.out 2))
 go_ret
 exact ⟨by first | rfl | (simp [errW_none, errW_some] <;> rfl) | (simp [*, errW_none, errW_some] <;> rfl), by repeat (first | (with_reducible first | exact HB.out | apply below_alloc | apply pw_below_drewN | apply below_drew1 | refine below_set ?_ GE197.out) | exact HB.out)⟩

end Go.Proofs.Ytmgcfnialfjphaa.PPrin
