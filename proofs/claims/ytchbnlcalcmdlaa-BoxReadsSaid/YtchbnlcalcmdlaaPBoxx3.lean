/- The walks of functions of the translation: each call returns what the plain function beside it says. -/
import Derived.Test.YtchbnlcalcmdlaaPBoxx0
import Derived.Test.YtchbnlcalcmdlaaPBoxx1
import Derived.Test.YtchbnlcalcmdlaaPBoxx2
namespace Go.Proofs.Ytchbnlcalcmdlaa.PBox
open Go.RowKit Go.Proofs.YtchbnlcalcmdlaaW.PrintWords Go.Proofs.YtchbnlcalcmdlaaW.PrintLast Go.Proofs.YtchbnlcalcmdlaaW.PrintMore Go.Proofs.Ytchbnlcalcmdlaa.Aid
attribute [local go_sem] max2_int min2_int max_two min_two max_three min_three max_four min_four aid_str_gtr   -- for this text's walks alone
set_option linter.unusedVariables false
set_option linter.unusedSimpArgs false

/-! ### kerbsuiteref3_Bytes: function 25 -/
def kerbsuiteref3_Bytes.l0 : Nat → Int → List Int → Int → Option (List Int)
 | 0, _, _, _ => none
 | k + 1, x0, x3, x4 => if x4 ≥ 0 then (if 0 ≤ (IntKind.u64.wrap (wrap64 (8 * x4))) then (if x3.length < 140737488355328 then (kerbsuiteref3_Bytes.l0 k x0 (x3 ++ [(shr .u64 x0 (IntKind.u64.wrap (wrap64 (8 * x4)))) % 256]) (wrap64 (x4 - 1))) else (none)) else (none)) else (some x3)
def kerbsuiteref3_Bytes.f (k : Nat) (a0 : Int) : Option (List Int) := kerbsuiteref3_Bytes.l0 k a0 ([] : List Int) 7
theorem kerbsuiteref3_Bytes.mono_l : ∀ k, (∀ y0 y1 y2, LeO (kerbsuiteref3_Bytes.l0 k y0 y1 y2) (kerbsuiteref3_Bytes.l0 (k + 1) y0 y1 y2))
 | 0 => fun _ _ _ r h => by simp [kerbsuiteref3_Bytes.l0] at h
 | k + 1 => by
  have ih0 := kerbsuiteref3_Bytes.mono_l k
  ·intro y0 y1 y2
   unfold kerbsuiteref3_Bytes.l0
   repeat' first
   | (with_reducible exact ih0 _ _ _)
   | (with_reducible exact LeO.refl _)
   | (with_reducible exact LeO.none _)
   | (with_reducible refine LeO.ite ?_ ?_)
   | (with_reducible refine LeO.bind ?_ (fun _ => ?_))
   | exact ih0 _ _ _
   | exact LeO.none _
   | refine LeO.ite ?_ ?_
   | refine LeO.bind ?_ (fun _ => ?_)
theorem kerbsuiteref3_Bytes.mono : ∀ a0 k, LeO (kerbsuiteref3_Bytes.f k a0) (kerbsuiteref3_Bytes.f (k + 1) a0) := by
 intro a0 k
 have ih0 := kerbsuiteref3_Bytes.mono_l k
 unfold kerbsuiteref3_Bytes.f
 repeat' first
   | (with_reducible exact ih0 _ _ _)
   | (with_reducible exact LeO.refl _)
   | (with_reducible exact LeO.none _)
   | (with_reducible refine LeO.ite ?_ ?_)
   | (with_reducible refine LeO.bind ?_ (fun _ => ?_))
   | exact ih0 _ _ _
   | exact LeO.none _
   | refine LeO.ite ?_ ?_
   | refine LeO.bind ?_ (fun _ => ?_)
set_option maxHeartbeats 8000000 in
set_option maxRecDepth 100000 in
theorem kerbsuiteref3_Bytes.calls (k : Nat) (a0 : Int) (r : List Int) (w : World) (h : kerbsuiteref3_Bytes.f k a0 = some r) :
  Calls Try.prog 25 #[.int .u64 a0] w fun e w' => ∃ v0_ : Value, e = .returned (v0_) ∧ Kd.R (Kd.int .u8) 5 w' w.heap.size (fun _ => True) v0_ r ∧ Below w.heap.size w w' := by
 have HB := Aside0.mk (Below.refl w.heap.size w)
 have H : (kerbsuiteref3_Bytes.l0 k a0 ([] : List Int) 7) = some r := h
 clear h
 have H' := Aside0.mk H
 clear H
 go_enter Try.func25, Try.ntmps25
 go_wp2
 go_loopg [3, 4] k (fun kq v3 v4 w' => ∃ (x3_1 : List Int) (x4_1 : Int), v4 = .int .i64 x4_1 ∧ Aside0 (kerbsuiteref3_Bytes.l0 kq a0 x3_1 x4_1 = some r) ∧ Aside0 (kq ≤ k) ∧ Aside0 (Kd.R (Kd.int .u8) 5 w' w.heap.size (fun _ => True) v3 x3_1) ∧ Aside0 (Below w.heap.size w w'))
 case atStart => exact ⟨(([] : List Int)), (7), (by first | rfl | (simp; done) | (simp [*]; done)), H', ⟨Nat.le_refl _⟩, ⟨by first | exact Kd.R_nil _ _ _ _ _ | exact Kd.N_nil _ _ _ _ _ | exact Kd.V_nil _ _ _ _ _ | exact Kd.Q_nil _ _ _ _ _ | exact Kd.S_nil _ _ _ _ _⟩, ⟨by repeat (first | (with_reducible first | exact HB.out | apply below_alloc | apply pw_below_drewN | apply below_drew1) | exact HB.out)⟩⟩
 case round =>
  clear H'
  obtain ⟨x3_1, x4_1, rfl, HA, HK1, HO_3, HB⟩ := hrel
  cases gk with
  | zero => exact absurd HA.out (by simp [kerbsuiteref3_Bytes.l0])
  | succ k1 =>
   have H := HA.out
   clear HA
   simp only [kerbsuiteref3_Bytes.l0] at H
   by_cases c2 : x4_1 ≥ 0
   ·rw [if_pos c2] at H
    have c2b0 : decide (0 ≤ x4_1) = true := decide_eq_true c2
    clear c2
    obtain ⟨ji3, hji3⟩ : ∃ j_ : Int, (IntKind.u64.wrap (wrap64 (8 * x4_1))) = j_ := ⟨_, rfl⟩
    replace H : (if 0 ≤ (ji3) then (if x3_1.length < 140737488355328 then (kerbsuiteref3_Bytes.l0 k1 a0 (x3_1 ++ [(shr .u64 a0 (ji3)) % 256]) (wrap64 (x4_1 - 1))) else (none)) else (none)) = some r := by first | (rw [hji3] at H; exact H) | (simp only [hji3] at H ⊢; exact H)
    by_cases c4 : 0 ≤ (ji3)
    ·rw [if_pos c4] at H
     have c4b0 := eq_true c4
     have c4b1 : decide (0 ≤ (ji3)) = true := decide_eq_true c4
     clear c4
     obtain ⟨ji5, hji5⟩ : ∃ j_ : Int, (shr .u64 a0 (ji3)) = j_ := ⟨_, rfl⟩
     replace H : (if x3_1.length < 140737488355328 then (kerbsuiteref3_Bytes.l0 k1 a0 (x3_1 ++ [(ji5) % 256]) (wrap64 (x4_1 - 1))) else (none)) = some r := by first | (rw [hji5] at H; exact H) | (simp only [hji5] at H ⊢; exact H)
     have hji5_ : (a0 / 2 ^ min (ji3).toNat 64) = ji5 := hji5
     have hji5z : (ji3) ≤ 64 → (a0 / 2 ^ (ji3).toNat) = ji5 := shr_small hji5
     by_cases c6 : x3_1.length < 140737488355328
     ·rw [if_pos c6] at H
      have LMc6 := Aside0.mk c6
      clear c6
      obtain ⟨y170, hy170⟩ : ∃ y_ : List Int, y_ = (x3_1 ++ [(ji5) % 256]) := ⟨_, rfl⟩
      replace H : (kerbsuiteref3_Bytes.l0 k1 a0 y170 (wrap64 (x4_1 - 1))) = some r := by first | (rw [hy170]; with_reducible exact H) | (have H2_ := (Option.bind_some _ _).symm.trans H; rw [hy170]; with_reducible exact H2_) | (have H2_ := (Option.bind_some _ _).symm.trans H; with_reducible exact H2_) | with_reducible exact H | (rw [hy170]; exact H) | exact H
      have Ny170 := Aside0.mk hy170
      clear hy170
      have H' := Aside0.mk H
      clear H
      go_wp2_with (first | ((with_reducible refine gate_builtin (b := .append) (xs := #[.tmp 9, .tmp 16]) rfl ?_); at_builtin; refine Kd.R_append (Kd.int .u8) (w0 := w) w.heap.size rfl (.tmp 9) (.tmp 16) 24 5 (.int .u8 0) 1 rfl Try.underlying24 info5 rfl (by decide) (by omega) u3 x3_1 ((ji5) % 256) [.int .u8 ((ji5) % 256)] (fun _ => True) (fun _ => False) rfl rfl ?aP (fun _ hk => hk.elim) ?aF ?aO ?aB ?aS ?aL ?_; (case aP => exact rfl); (case aB => exact (by repeat (first | (with_reducible first | exact HB.out | apply below_alloc | apply pw_below_drewN | apply below_drew1) | exact HB.out))); (case aF => exact (fun _ _ => trivial)); (case aO => exact (by (with_reducible repeat (first | apply Kd.R_alloc | apply Kd.R_drewN | apply Kd.R_drew)); exact HO_3.out)); (case aS => exact (below_size (by repeat (first | (with_reducible first | exact HB.out | apply below_alloc | apply pw_below_drewN | apply below_drew1) | exact HB.out)))); (case aL => have := LMc6.out; omega); intro v171 w7 ho hb hg hat; rw [← Ny170.out] at ho; have n0_ := Aside0.mk (hb); have n1_ := Aside0.mk (ho); clear HB; clear HO_3; have HB := n0_; have HO172 := n1_; clear n0_ n1_; clear ho hb hg hat))
      go_roundg k1
      case measure => have := HK1.out; omega
      case rel => exact ⟨(y170), (wrap64 (x4_1 - 1)), (by first | rfl | (simp; done) | (simp [*]; done)), H', ⟨by have := HK1.out; omega⟩, ⟨by (with_reducible repeat (first | apply Kd.R_alloc | apply Kd.R_drewN | apply Kd.R_drew)); exact HO172.out⟩, ⟨by repeat (first | (with_reducible first | exact HB.out | apply below_alloc | apply pw_below_drewN | apply below_drew1) | exact HB.out)⟩⟩
     ·rw [if_neg c6] at H
      exact absurd H (by simp)
    ·rw [if_neg c4] at H
     exact absurd H (by simp)
   ·rw [if_neg c2] at H
    have c2b0 : decide (0 ≤ x4_1) = false := decide_eq_false c2
    clear c2
    obtain rfl := Option.some.inj H
    go_wp2
    go_ret
    exact ⟨_, by first | rfl | (simp [errW_none, errW_some] <;> rfl) | (simp [*, errW_none, errW_some] <;> rfl), by (with_reducible repeat (first | apply Kd.R_alloc | apply Kd.R_drewN | apply Kd.R_drew)); exact HO_3.out, by repeat (first | (with_reducible first | exact HB.out | apply below_alloc | apply pw_below_drewN | apply below_drew1) | exact HB.out)⟩

/-! ### kerbsuiteref4_Make: function 12 -/
def kerbsuiteref4_Make.j0 : Nat → Int → Int → List Int → Bool → Option (List Int × Int)
 | 0, _, _, _, _ => none
 | k + 1, x0, x1, x2, x14 => if x14 = true then (some (([] : List Int), 104)) else ((kerbsuiteref3_Valid.f x1).bind fun t173 => (if t173 = true then (if (x2.length : Int) > 1000 then (some (([] : List Int), 105)) else ((some (([66, (x0) % 256] : List Int) : List Int)).bind fun y174 => ((kerbsuiteref3_Bytes.f k x1).bind fun t177 => (if y174.length + t177.length < 140737488355328 then ((some (y174 ++ t177 : List Int)).bind fun y180 => ((some (([((x2.length : Int) / 256) % 256, ((x2.length : Int)) % 256] : List Int) : List Int)).bind fun y183 => (if y180.length + y183.length < 140737488355328 then ((some (y180 ++ y183 : List Int)).bind fun y186 => (if y186.length + x2.length < 140737488355328 then (some ((y186 ++ x2), 0)) else (none))) else (none)))) else (none))))) else (some (([] : List Int), 10))))
def kerbsuiteref4_Make.f (k : Nat) (a0 : Int) (a1 : Int) (l2 : List Int) : Option (List Int × Int) := if a0 < 1 then (kerbsuiteref4_Make.j0 k a0 a1 l2 true) else (kerbsuiteref4_Make.j0 k a0 a1 l2 (decide (a0 > 10)))
theorem kerbsuiteref4_Make.mono_l : ∀ k, (∀ y0 y1 y2 y3, LeO (kerbsuiteref4_Make.j0 k y0 y1 y2 y3) (kerbsuiteref4_Make.j0 (k + 1) y0 y1 y2 y3))
 | 0 => fun _ _ _ _ r h => by simp [kerbsuiteref4_Make.j0] at h
 | k + 1 => by
  have ih0 := kerbsuiteref4_Make.mono_l k
  ·intro y0 y1 y2 y3
   unfold kerbsuiteref4_Make.j0
   repeat' first
   | (with_reducible exact ih0 _ _ _ _)
   | (with_reducible exact kerbsuiteref3_Bytes.mono _ _)
   | (with_reducible exact LeO.refl _)
   | (with_reducible exact LeO.none _)
   | (with_reducible refine LeO.ite ?_ ?_)
   | (with_reducible refine LeO.bind ?_ (fun _ => ?_))
   | exact ih0 _ _ _ _
   | exact kerbsuiteref3_Bytes.mono _ _
   | exact LeO.none _
   | refine LeO.ite ?_ ?_
   | refine LeO.bind ?_ (fun _ => ?_)
theorem kerbsuiteref4_Make.mono : ∀ a0 a1 a2 k, LeO (kerbsuiteref4_Make.f k a0 a1 a2) (kerbsuiteref4_Make.f (k + 1) a0 a1 a2) := by
 intro a0 a1 a2 k
 have ih0 := kerbsuiteref4_Make.mono_l k
 unfold kerbsuiteref4_Make.f
 repeat' first
   | (with_reducible exact ih0 _ _ _ _)
   | (with_reducible exact kerbsuiteref3_Bytes.mono _ _)
   | (with_reducible exact LeO.refl _)
   | (with_reducible exact LeO.none _)
   | (with_reducible refine LeO.ite ?_ ?_)
   | (with_reducible refine LeO.bind ?_ (fun _ => ?_))
   | exact ih0 _ _ _ _
   | exact kerbsuiteref3_Bytes.mono _ _
   | exact LeO.none _
   | refine LeO.ite ?_ ?_
   | refine LeO.bind ?_ (fun _ => ?_)
set_option maxHeartbeats 8000000 in
set_option maxRecDepth 100000 in
theorem kerbsuiteref4_Make.calls (k : Nat) (a0 : Int) (a1 : Int) (A2 : Option Addr) (c2 : Nat) (l2 : List Int) (r1 : List Int) (r2 : Int) (w : World) (hr2 : Kd.C (Kd.int .u8) w A2 l2.length l2) (hc2 : l2.length ≤ c2) (h : kerbsuiteref4_Make.f k a0 a1 l2 = some (r1, r2)) :
  Calls Try.prog 12 #[.int .i64 a0, .int .u64 a1, .slice A2 l2.length c2] w fun e w' => ∃ v0_ : Value, e = .returned (.tuple #[v0_, .int .i64 r2]) ∧ Kd.R (Kd.int .u8) 5 w' w.heap.size (fun _ => True) v0_ r1 ∧ Below w.heap.size w w' := by
 have HR2 := Aside0.mk hr2
 have HC2 := Aside0.mk hc2
 clear hr2 hc2
 have HB := Aside0.mk (Below.refl w.heap.size w)
 have H : (if a0 < 1 then (kerbsuiteref4_Make.j0 k a0 a1 l2 true) else (kerbsuiteref4_Make.j0 k a0 a1 l2 (decide (a0 > 10)))) = some (r1, r2) := h
 clear h
 have HC4 := Aside0.mk H
 clear H
 go_enter Try.func12, Try.ntmps12
 go_upto_region 1 with (fail)
 go_cut [14] (fun v14 wc => ∃ (kq : Nat) (x14_3 : Bool), v14 = .bool x14_3 ∧ Aside0 (kerbsuiteref4_Make.j0 kq a0 a1 l2 x14_3 = some (r1, r2)) ∧ Aside0 (kq ≤ k) ∧ Aside0 (Below w.heap.size w wc))
 case first =>
  have H := HC4.out
  clear HC4
  by_cases c5 : a0 < 1
  ·rw [if_pos c5] at H
   have c5b0 : decide (a0 < 1) = true := decide_eq_true c5
   clear c5
   (first | rw [c5b0] | (simp only [i64_w, i32_w]; rw [c5b0]) | skip)
   have H' := Aside0.mk H
   clear H
   go_wp2
   go_meet
   case rel => exact ⟨_, (true), (by first | rfl | (simp; done) | (simp [*]; done)), H', ⟨by first | omega | exact Nat.le_refl _⟩, ⟨by repeat (first | (with_reducible first | exact HB.out | apply below_alloc | apply pw_below_drewN | apply below_drew1) | exact HB.out)⟩⟩
  ·rw [if_neg c5] at H
   have c5b0 : decide (a0 < 1) = false := decide_eq_false c5
   clear c5
   (first | rw [c5b0] | (simp only [i64_w, i32_w]; rw [c5b0]) | skip)
   have H' := Aside0.mk H
   clear H
   go_wp2
   go_meet
   case rel => exact ⟨_, (decide (a0 > 10)), (by first | rfl | (simp; done) | (simp [*]; done)), H', ⟨by first | omega | exact Nat.le_refl _⟩, ⟨by repeat (first | (with_reducible first | exact HB.out | apply below_alloc | apply pw_below_drewN | apply below_drew1) | exact HB.out)⟩⟩
 case rest =>
  clear HC4
  try clear c1
  try clear c2
  try clear p2
  try clear c5
  try clear c5b0
  obtain ⟨kq, x14_3, rfl, HA, HJ3, HB⟩ := hcut
  cases kq with
  | zero => exact absurd HA.out (by simp [kerbsuiteref4_Make.j0])
  | succ kj3 =>
   have H := HA.out
   clear HA
   simp only [kerbsuiteref4_Make.j0] at H
   by_cases c6 : x14_3 = true
   ·subst c6
    have H1 : (some (([] : List Int), 104)) = some (r1, r2) := by rw [if_pos rfl] at H; exact H
    clear H
    have H := H1
    clear H1
    simp only [Option.some.injEq, Prod.mk.injEq] at H
    obtain ⟨rfl, rfl⟩ := H
    go_wp2
    go_ret2
    exact ⟨_, by first | rfl | (simp [errW_none, errW_some] <;> rfl) | (simp [*, errW_none, errW_some] <;> rfl), by first | exact Kd.R_nil _ _ _ _ _ | exact Kd.N_nil _ _ _ _ _ | exact Kd.V_nil _ _ _ _ _ | exact Kd.Q_nil _ _ _ _ _ | exact Kd.S_nil _ _ _ _ _, by repeat (first | (with_reducible first | exact HB.out | apply below_alloc | apply pw_below_drewN | apply below_drew1) | exact HB.out)⟩
   ·replace c6 := Bool.eq_false_iff.mpr c6
    subst c6
    have H1 : ((kerbsuiteref3_Valid.f a1).bind fun t173 => (if t173 = true then (if (l2.length : Int) > 1000 then (some (([] : List Int), 105)) else ((some (([66, (a0) % 256] : List Int) : List Int)).bind fun y174 => ((kerbsuiteref3_Bytes.f kj3 a1).bind fun t177 => (if y174.length + t177.length < 140737488355328 then ((some (y174 ++ t177 : List Int)).bind fun y180 => ((some (([((l2.length : Int) / 256) % 256, ((l2.length : Int)) % 256] : List Int) : List Int)).bind fun y183 => (if y180.length + y183.length < 140737488355328 then ((some (y180 ++ y183 : List Int)).bind fun y186 => (if y186.length + l2.length < 140737488355328 then (some ((y186 ++ l2), 0)) else (none))) else (none)))) else (none))))) else (some (([] : List Int), 10)))) = some (r1, r2) := by rw [if_neg (show ¬ (false = true) by decide)] at H; exact H
    clear H
    have H := H1
    clear H1
    replace H := Option.bind_eq_some_iff.mp H
    obtain ⟨t173, A70, H⟩ := H
    replace H : (if t173 = true then (if (l2.length : Int) > 1000 then (some (([] : List Int), 105)) else ((some (([66, (a0) % 256] : List Int) : List Int)).bind fun y174 => ((kerbsuiteref3_Bytes.f kj3 a1).bind fun t177 => (if y174.length + t177.length < 140737488355328 then ((some (y174 ++ t177 : List Int)).bind fun y180 => ((some (([((l2.length : Int) / 256) % 256, ((l2.length : Int)) % 256] : List Int) : List Int)).bind fun y183 => (if y180.length + y183.length < 140737488355328 then ((some (y180 ++ y183 : List Int)).bind fun y186 => (if y186.length + l2.length < 140737488355328 then (some ((y186 ++ l2), 0)) else (none))) else (none)))) else (none))))) else (some (([] : List Int), 10))) = some (r1, r2) := H
    have A7 := Aside0.mk A70
    clear A70
    by_cases c8 : t173 = true
    ·subst c8
     have H1 : (if (l2.length : Int) > 1000 then (some (([] : List Int), 105)) else ((some (([66, (a0) % 256] : List Int) : List Int)).bind fun y174 => ((kerbsuiteref3_Bytes.f kj3 a1).bind fun t177 => (if y174.length + t177.length < 140737488355328 then ((some (y174 ++ t177 : List Int)).bind fun y180 => ((some (([((l2.length : Int) / 256) % 256, ((l2.length : Int)) % 256] : List Int) : List Int)).bind fun y183 => (if y180.length + y183.length < 140737488355328 then ((some (y180 ++ y183 : List Int)).bind fun y186 => (if y186.length + l2.length < 140737488355328 then (some ((y186 ++ l2), 0)) else (none))) else (none)))) else (none))))) = some (r1, r2) := by rw [if_pos rfl] at H; exact H
     clear H
     have H := H1
     clear H1
     by_cases c9 : (l2.length : Int) > 1000
     ·rw [if_pos c9] at H
      have c9b0 : decide (1000 < (l2.length : Int)) = true := decide_eq_true c9
      have c9b1 : decide (1000 < l2.length) = true := decide_eq_true (by omega)
      clear c9
      simp only [Option.some.injEq, Prod.mk.injEq] at H
      obtain ⟨rfl, rfl⟩ := H
      go_wp2_with (first | ((with_reducible refine gate_callee (f := 24) rfl ?_); refine goesL_ (some 16) rfl rfl Try.func24 (by kernel_rfl) rfl #[.int .u64 a1] rfl (by (try simp only [List.map_toArray, List.map_cons, List.map_nil]); first | done | rfl | (simp only [List.length_drop, List.length_take]; rfl)) ?_; (with_reducible refine (kerbsuiteref3_Valid.calls a1 true _ A7.out).mono ?_); rintro e w' ⟨rfl, ⟨nd, rfl⟩⟩; refine ⟨_, rfl, ?_⟩))
      go_ret2
      exact ⟨_, by first | rfl | (simp [errW_none, errW_some] <;> rfl) | (simp [*, errW_none, errW_some] <;> rfl), by first | exact Kd.R_nil _ _ _ _ _ | exact Kd.N_nil _ _ _ _ _ | exact Kd.V_nil _ _ _ _ _ | exact Kd.Q_nil _ _ _ _ _ | exact Kd.S_nil _ _ _ _ _, by repeat (first | (with_reducible first | exact HB.out | apply below_alloc | apply pw_below_drewN | apply below_drew1) | exact HB.out)⟩
     ·rw [if_neg c9] at H
      have c9b0 : decide (1000 < (l2.length : Int)) = false := decide_eq_false c9
      have c9b1 : decide (1000 < l2.length) = false := decide_eq_false (by omega)
      clear c9
      obtain ⟨y174, hy174⟩ : ∃ y_ : List Int, y_ = (([66, (a0) % 256] : List Int)) := ⟨_, rfl⟩
      replace H : ((kerbsuiteref3_Bytes.f kj3 a1).bind fun t177 => (if y174.length + t177.length < 140737488355328 then ((some (y174 ++ t177 : List Int)).bind fun y180 => ((some (([((l2.length : Int) / 256) % 256, ((l2.length : Int)) % 256] : List Int) : List Int)).bind fun y183 => (if y180.length + y183.length < 140737488355328 then ((some (y180 ++ y183 : List Int)).bind fun y186 => (if y186.length + l2.length < 140737488355328 then (some ((y186 ++ l2), 0)) else (none))) else (none)))) else (none))) = some (r1, r2) := by first | (rw [hy174]; with_reducible exact H) | (have H2_ := (Option.bind_some _ _).symm.trans H; rw [hy174]; with_reducible exact H2_) | (have H2_ := (Option.bind_some _ _).symm.trans H; with_reducible exact H2_) | with_reducible exact H | (rw [hy174]; exact H) | exact H
      have Ny174 := Aside0.mk hy174
      clear hy174
      replace H := Option.bind_eq_some_iff.mp H
      obtain ⟨t177, A100, H⟩ := H
      replace H : (if y174.length + t177.length < 140737488355328 then ((some (y174 ++ t177 : List Int)).bind fun y180 => ((some (([((l2.length : Int) / 256) % 256, ((l2.length : Int)) % 256] : List Int) : List Int)).bind fun y183 => (if y180.length + y183.length < 140737488355328 then ((some (y180 ++ y183 : List Int)).bind fun y186 => (if y186.length + l2.length < 140737488355328 then (some ((y186 ++ l2), 0)) else (none))) else (none)))) else (none)) = some (r1, r2) := H
      have A10 := Aside0.mk A100
      clear A100
      by_cases c11 : y174.length + t177.length < 140737488355328
      ·rw [if_pos c11] at H
       have LMc11 := Aside0.mk c11
       clear c11
       obtain ⟨y180, hy180⟩ : ∃ y_ : List Int, y_ = (y174 ++ t177) := ⟨_, rfl⟩
       replace H : ((some (([((l2.length : Int) / 256) % 256, ((l2.length : Int)) % 256] : List Int) : List Int)).bind fun y183 => (if y180.length + y183.length < 140737488355328 then ((some (y180 ++ y183 : List Int)).bind fun y186 => (if y186.length + l2.length < 140737488355328 then (some ((y186 ++ l2), 0)) else (none))) else (none))) = some (r1, r2) := by first | (rw [hy180]; with_reducible exact H) | (have H2_ := (Option.bind_some _ _).symm.trans H; rw [hy180]; with_reducible exact H2_) | (have H2_ := (Option.bind_some _ _).symm.trans H; with_reducible exact H2_) | with_reducible exact H | (rw [hy180]; exact H) | exact H
       have Ny180 := Aside0.mk hy180
       clear hy180
       obtain ⟨y183, hy183⟩ : ∃ y_ : List Int, y_ = (([((l2.length : Int) / 256) % 256, ((l2.length : Int)) % 256] : List Int)) := ⟨_, rfl⟩
       replace H : (if y180.length + y183.length < 140737488355328 then ((some (y180 ++ y183 : List Int)).bind fun y186 => (if y186.length + l2.length < 140737488355328 then (some ((y186 ++ l2), 0)) else (none))) else (none)) = some (r1, r2) := by first | (rw [hy183]; with_reducible exact H) | (have H2_ := (Option.bind_some _ _).symm.trans H; rw [hy183]; with_reducible exact H2_) | (have H2_ := (Option.bind_some _ _).symm.trans H; with_reducible exact H2_) | with_reducible exact H | (rw [hy183]; exact H) | exact H
       have Ny183 := Aside0.mk hy183
       clear hy183
       by_cases c12 : y180.length + y183.length < 140737488355328
       ·rw [if_pos c12] at H
        have LMc12 := Aside0.mk c12
        clear c12
        obtain ⟨y186, hy186⟩ : ∃ y_ : List Int, y_ = (y180 ++ y183) := ⟨_, rfl⟩
        replace H : (if y186.length + l2.length < 140737488355328 then (some ((y186 ++ l2), 0)) else (none)) = some (r1, r2) := by first | (rw [hy186]; with_reducible exact H) | (have H2_ := (Option.bind_some _ _).symm.trans H; rw [hy186]; with_reducible exact H2_) | (have H2_ := (Option.bind_some _ _).symm.trans H; with_reducible exact H2_) | with_reducible exact H | (rw [hy186]; exact H) | exact H
        have Ny186 := Aside0.mk hy186
        clear hy186
        by_cases c13 : y186.length + l2.length < 140737488355328
        ·rw [if_pos c13] at H
         have LMc13 := Aside0.mk c13
         clear c13
         obtain ⟨y189, hy189⟩ : ∃ y_ : List Int, y_ = (y186 ++ l2) := ⟨_, rfl⟩
         replace H : (some (y189, 0)) = some (r1, r2) := by first | (rw [hy189]; with_reducible exact H) | (have H2_ := (Option.bind_some _ _).symm.trans H; rw [hy189]; with_reducible exact H2_) | (have H2_ := (Option.bind_some _ _).symm.trans H; with_reducible exact H2_) | with_reducible exact H | (rw [hy189]; exact H) | exact H
         have Ny189 := Aside0.mk hy189
         clear hy189
         simp only [Option.some.injEq, Prod.mk.injEq] at H
         obtain ⟨rfl, rfl⟩ := H
         go_wp2_with (first | ((with_reducible refine gate_callee (f := 24) rfl ?_); refine goesL_ (some 16) rfl rfl Try.func24 (by kernel_rfl) rfl #[.int .u64 a1] rfl (by (try simp only [List.map_toArray, List.map_cons, List.map_nil]); first | done | rfl | (simp only [List.length_drop, List.length_take]; rfl)) ?_; (with_reducible refine (kerbsuiteref3_Valid.calls a1 true _ A7.out).mono ?_); rintro e w' ⟨rfl, ⟨nd, rfl⟩⟩; refine ⟨_, rfl, ?_⟩) | ((with_reducible refine gate_dst (N := 23) rfl ?_); refine Kd.R_lit (Kd.int .u8) _ 5 ?hg (N := 23) ?hd (xs := ([66, (a0) % 256] : List Int)) (inner := [.int .u8 66, .int .u8 ((a0) % 256)]) (ok := fun _ => True) (okp := fun _ => True) ?hr ?hp (fun _ hk => hk) trivial (Below.refl _ _) (Nat.le_refl _) (by simp) ?_; (case hd => rfl); (case hg => rfl); (case hr => first | (go_simp; done) | (go_simp; rfl)); (case hp => exact (Reps.one (show Kd.M (Kd.int .u8) _ _ _ 66 [.int .u8 66] from rfl) (Reps.one (show Kd.M (Kd.int .u8) _ _ _ ((a0) % 256) [.int .u8 ((a0) % 256)] from rfl) (Reps.none _ _)))); intro v175 w14 ho15 hb hg_ hnew_; clear hg_ hnew_; (first | rw [← Ny174.out] at ho15 | (simp only [Int.reduceToNat] at ho15; rw [← Ny174.out] at ho15)); have n0_ := Aside0.mk (Kd.R_lower ho15 (below_size (by repeat (first | (with_reducible first | exact HB.out | apply below_alloc | apply pw_below_drewN | apply below_drew1) | exact HB.out)))); have n1_ := Aside0.mk (below_step (by repeat (first | (with_reducible first | exact HB.out | apply below_alloc | apply pw_below_drewN | apply below_drew1) | exact HB.out)) hb); clear HB; have HO176 := n0_; have HB := n1_; clear n0_ n1_; clear hb ho15) | ((with_reducible refine gate_callee (f := 25) rfl ?_); refine goesL_ (some 25) rfl rfl Try.func25 (by kernel_rfl) rfl #[.int .u64 a1] rfl (by (try simp only [List.map_toArray, List.map_cons, List.map_nil]); first | done | rfl | (simp only [List.length_drop, List.length_take]; rfl)) ?_; (with_reducible refine (kerbsuiteref3_Bytes.calls kj3 a1 t177 _ A10.out).mono ?_); rintro e w16 ⟨v178, rfl, ho0, hb⟩; refine ⟨_, rfl, ?_⟩; have n0_ := Aside0.mk (Kd.R_elder' (by (with_reducible repeat (first | apply Kd.R_alloc | apply Kd.R_drewN | apply Kd.R_drew)); exact HO176.out) (Kd.R_base ho0) hb); have n1_ := Aside0.mk (Kd.R_lower (Kd.R_new' ho0 (Kd.R_lt (by (with_reducible repeat (first | apply Kd.R_alloc | apply Kd.R_drewN | apply Kd.R_drew)); exact HO176.out))) (below_size (by repeat (first | (with_reducible first | exact HB.out | apply below_alloc | apply pw_below_drewN | apply below_drew1) | exact HB.out)))); have n2_ := Aside0.mk (below_step (by repeat (first | (with_reducible first | exact HB.out | apply below_alloc | apply pw_below_drewN | apply below_drew1) | exact HB.out)) hb); clear HO176; clear HB; have HO176 := n0_; have HO179 := n1_; have HB := n2_; clear n0_ n1_ n2_; (try clear hb); (try clear hb2); (try clear hk); (try clear hi); (try clear ho0); obtain ⟨Ao18, co18, eo18⟩ := Kd.R_slice HO179.out; subst eo18) | ((with_reducible refine gate_builtin (b := .append) (xs := #[.tmp 23, .tmp 25]) rfl ?_); at_builtin; refine Kd.R_append_rows (Kd.int .u8) (w0 := w) w.heap.size rfl (.tmp 23) (.tmp 25) 24 5 (.int .u8 0) 1 rfl Try.underlying24 info5 rfl (by decide) (by omega) v175 y174 t177 _ _ _ (fun k_ => some k_ ≠ (.slice Ao18 t177.length co18 : Value).ownBlock) (fun _ => False) rfl rfl ?aO ?aR (fun _ _ h => h) (fun _ h => h.elim) ?aF ?aB ?aS ?aL ?_; (case aR => repeat (first | exact (Kd.R_reads' HO179.out).2.2 | (with_reducible refine Kd.C_alloc ?_ _) | (with_reducible refine Kd.C_drewN ?_ _) | (with_reducible refine Kd.C_drew ?_))); (case aB => exact (by repeat (first | (with_reducible first | exact HB.out | apply below_alloc | apply pw_below_drewN | apply below_drew1) | exact HB.out))); (case aF => exact (fun k_ hk => Kd.fresh' (Kd.R_lt (by (with_reducible repeat (first | apply Kd.R_alloc | apply Kd.R_drewN | apply Kd.R_drew)); exact HO179.out)) k_ hk)); (case aO => exact (by (with_reducible repeat (first | apply Kd.R_alloc | apply Kd.R_drewN | apply Kd.R_drew)); exact Kd.R_mono HO176.out (fun _ hk => hk.2))); (case aS => exact (below_size (by repeat (first | (with_reducible first | exact HB.out | apply below_alloc | apply pw_below_drewN | apply below_drew1) | exact HB.out)))); (case aL => have := LMc11.out; omega); intro v181 w17 ho hb hg hat; rw [← Ny180.out] at ho; have n0_ := Aside0.mk (Kd.R_after (ok := (fun _ => True)) (by (with_reducible repeat (first | apply Kd.R_alloc | apply Kd.R_drewN | apply Kd.R_drew)); exact HO179.out) hg hat); have n1_ := Aside0.mk (hb); have n2_ := Aside0.mk (ho); clear HO179; clear HB; clear HO176; have HO179 := n0_; have HB := n1_; have HO182 := n2_; clear n0_ n1_ n2_; clear ho hb hg hat) | ((with_reducible refine gate_dst (N := 35) rfl ?_); refine Kd.R_lit (Kd.int .u8) _ 5 ?hg (N := 35) ?hd (xs := ([((l2.length : Int) / 256) % 256, ((l2.length : Int)) % 256] : List Int)) (inner := [.int .u8 (((l2.length : Int) / 256) % 256), .int .u8 (((l2.length : Int)) % 256)]) (ok := fun _ => True) (okp := fun _ => True) ?hr ?hp (fun _ hk => hk) trivial (Below.refl _ _) (Nat.le_refl _) (by simp) ?_; (case hd => rfl); (case hg => rfl); (case hr => first | (go_simp; done) | (go_simp; rfl)); (case hp => exact (Reps.one (show Kd.M (Kd.int .u8) _ _ _ (((l2.length : Int) / 256) % 256) [.int .u8 (((l2.length : Int) / 256) % 256)] from rfl) (Reps.one (show Kd.M (Kd.int .u8) _ _ _ (((l2.length : Int)) % 256) [.int .u8 (((l2.length : Int)) % 256)] from rfl) (Reps.none _ _)))); intro v184 w19 ho20 hb hg_ hnew_; clear hg_ hnew_; (first | rw [← Ny183.out] at ho20 | (simp only [Int.reduceToNat] at ho20; rw [← Ny183.out] at ho20)); have n0_ := Aside0.mk (Kd.R_elder' (by (with_reducible repeat (first | apply Kd.R_alloc | apply Kd.R_drewN | apply Kd.R_drew)); exact HO179.out) (Kd.R_base ho20) hb); have n1_ := Aside0.mk (Kd.R_elder' (by (with_reducible repeat (first | apply Kd.R_alloc | apply Kd.R_drewN | apply Kd.R_drew)); exact HO182.out) (Kd.R_base ho20) hb); have n2_ := Aside0.mk (Kd.R_lower (Kd.R_new' (Kd.R_new' ho20 (Kd.R_lt (by (with_reducible repeat (first | apply Kd.R_alloc | apply Kd.R_drewN | apply Kd.R_drew)); exact HO179.out))) (Kd.R_lt (by (with_reducible repeat (first | apply Kd.R_alloc | apply Kd.R_drewN | apply Kd.R_drew)); exact HO182.out))) (below_size (by repeat (first | (with_reducible first | exact HB.out | apply below_alloc | apply pw_below_drewN | apply below_drew1) | exact HB.out)))); have n3_ := Aside0.mk (below_step (by repeat (first | (with_reducible first | exact HB.out | apply below_alloc | apply pw_below_drewN | apply below_drew1) | exact HB.out)) hb); clear HO179; clear HO182; clear HB; have HO179 := n0_; have HO182 := n1_; have HO185 := n2_; have HB := n3_; clear n0_ n1_ n2_ n3_; clear hb ho20; obtain ⟨Ao22, co22, eo22⟩ := Kd.R_slice HO185.out; subst eo22) | ((with_reducible refine gate_builtin (b := .append) (xs := #[.tmp 27, .tmp 35]) rfl ?_); at_builtin; refine Kd.R_append_rows (Kd.int .u8) (w0 := w) w.heap.size rfl (.tmp 27) (.tmp 35) 24 5 (.int .u8 0) 1 rfl Try.underlying24 info5 rfl (by decide) (by omega) v181 y180 y183 _ _ _ (fun k_ => some k_ ≠ (.slice Ao18 t177.length co18 : Value).ownBlock ∧ some k_ ≠ (.slice Ao22 y183.length co22 : Value).ownBlock) (fun _ => False) rfl rfl ?aO ?aR (fun _ _ h => h) (fun _ h => h.elim) ?aF ?aB ?aS ?aL ?_; (case aR => repeat (first | exact (Kd.R_reads' HO185.out).2.2 | (with_reducible refine Kd.C_alloc ?_ _) | (with_reducible refine Kd.C_drewN ?_ _) | (with_reducible refine Kd.C_drew ?_))); (case aB => exact (by repeat (first | (with_reducible first | exact HB.out | apply below_alloc | apply pw_below_drewN | apply below_drew1) | exact HB.out))); (case aF => exact (fun k_ hk => ⟨Kd.fresh' (Kd.R_lt (by (with_reducible repeat (first | apply Kd.R_alloc | apply Kd.R_drewN | apply Kd.R_drew)); exact HO179.out)) k_ hk, Kd.fresh' (Kd.R_lt (by (with_reducible repeat (first | apply Kd.R_alloc | apply Kd.R_drewN | apply Kd.R_drew)); exact HO185.out)) k_ hk⟩)); (case aO => exact (by (with_reducible repeat (first | apply Kd.R_alloc | apply Kd.R_drewN | apply Kd.R_drew)); exact HO182.out)); (case aS => exact (below_size (by repeat (first | (with_reducible first | exact HB.out | apply below_alloc | apply pw_below_drewN | apply below_drew1) | exact HB.out)))); (case aL => have := LMc12.out; omega); intro v187 w21 ho hb hg hat; rw [← Ny186.out] at ho; have n0_ := Aside0.mk (Kd.R_after (ok := (fun k_ => some k_ ≠ (.slice Ao22 y183.length co22 : Value).ownBlock)) (by (with_reducible repeat (first | apply Kd.R_alloc | apply Kd.R_drewN | apply Kd.R_drew)); exact Kd.R_mono HO179.out (fun _ hk => ⟨hk.2, hk.1.2⟩)) hg hat); have n1_ := Aside0.mk (Kd.R_after (ok := (fun k_ => some k_ ≠ (.slice Ao18 t177.length co18 : Value).ownBlock)) (by (with_reducible repeat (first | apply Kd.R_alloc | apply Kd.R_drewN | apply Kd.R_drew)); exact Kd.R_mono HO185.out (fun _ hk => ⟨hk.1.2, hk.2⟩)) hg hat); have n2_ := Aside0.mk (hb); have n3_ := Aside0.mk (ho); clear HO179; clear HO185; clear HB; clear HO182; have HO179 := n0_; have HO185 := n1_; have HB := n2_; have HO188 := n3_; clear n0_ n1_ n2_ n3_; clear ho hb hg hat) | ((with_reducible refine gate_builtin (b := .append) (xs := #[.tmp 37, .tmp 38]) rfl ?_); at_builtin; refine Kd.R_append_rows (Kd.int .u8) (w0 := w) w.heap.size rfl (.tmp 37) (.tmp 38) 24 5 (.int .u8 0) 1 rfl Try.underlying24 info5 rfl (by decide) (by omega) v187 y186 l2 _ _ _ (fun k_ => some k_ ≠ (.slice Ao18 t177.length co18 : Value).ownBlock ∧ some k_ ≠ (.slice Ao22 y183.length co22 : Value).ownBlock) (fun _ => False) rfl rfl ?aO ?aR (fun _ _ h => h) (fun _ h => h.elim) ?aF ?aB ?aS ?aL ?_; (case aR => repeat (first | exact (Kd.C_below HR2.out HB.out) | (with_reducible refine Kd.C_alloc ?_ _) | (with_reducible refine Kd.C_drewN ?_ _) | (with_reducible refine Kd.C_drew ?_))); (case aB => exact (by repeat (first | (with_reducible first | exact HB.out | apply below_alloc | apply pw_below_drewN | apply below_drew1) | exact HB.out))); (case aF => exact (fun k_ hk => ⟨Kd.fresh' (Kd.R_lt (by (with_reducible repeat (first | apply Kd.R_alloc | apply Kd.R_drewN | apply Kd.R_drew)); exact HO179.out)) k_ hk, Kd.fresh' (Kd.R_lt (by (with_reducible repeat (first | apply Kd.R_alloc | apply Kd.R_drewN | apply Kd.R_drew)); exact HO185.out)) k_ hk⟩)); (case aO => exact (by (with_reducible repeat (first | apply Kd.R_alloc | apply Kd.R_drewN | apply Kd.R_drew)); exact HO188.out)); (case aS => exact (below_size (by repeat (first | (with_reducible first | exact HB.out | apply below_alloc | apply pw_below_drewN | apply below_drew1) | exact HB.out)))); (case aL => have := LMc13.out; omega); intro v190 w23 ho hb hg hat; rw [← Ny189.out] at ho; have n0_ := Aside0.mk (Kd.R_after (ok := (fun k_ => some k_ ≠ (.slice Ao22 y183.length co22 : Value).ownBlock)) (by (with_reducible repeat (first | apply Kd.R_alloc | apply Kd.R_drewN | apply Kd.R_drew)); exact HO179.out) hg hat); have n1_ := Aside0.mk (Kd.R_after (ok := (fun k_ => some k_ ≠ (.slice Ao18 t177.length co18 : Value).ownBlock)) (by (with_reducible repeat (first | apply Kd.R_alloc | apply Kd.R_drewN | apply Kd.R_drew)); exact HO185.out) hg hat); have n2_ := Aside0.mk (hb); have n3_ := Aside0.mk (ho); clear HO179; clear HO185; clear HB; clear HO188; have HO179 := n0_; have HO185 := n1_; have HB := n2_; have HO191 := n3_; clear n0_ n1_ n2_ n3_; clear ho hb hg hat))
         go_ret2
         exact ⟨_, by first | rfl | (simp [errW_none, errW_some] <;> rfl) | (simp [*, errW_none, errW_some] <;> rfl), by (with_reducible repeat (first | apply Kd.R_alloc | apply Kd.R_drewN | apply Kd.R_drew)); exact Kd.R_mono HO191.out (fun _ hk => trivial), by repeat (first | (with_reducible first | exact HB.out | apply below_alloc | apply pw_below_drewN | apply below_drew1) | exact HB.out)⟩
        ·rw [if_neg c13] at H
         exact absurd H (by simp)
       ·rw [if_neg c12] at H
        exact absurd H (by simp)
      ·rw [if_neg c11] at H
       exact absurd H (by simp)
    ·replace c8 := Bool.eq_false_iff.mpr c8
     subst c8
     have H1 : (some (([] : List Int), 10)) = some (r1, r2) := by rw [if_neg (show ¬ (false = true) by decide)] at H; exact H
     clear H
     have H := H1
     clear H1
     simp only [Option.some.injEq, Prod.mk.injEq] at H
     obtain ⟨rfl, rfl⟩ := H
     go_wp2_with (first | ((with_reducible refine gate_callee (f := 24) rfl ?_); refine goesL_ (some 16) rfl rfl Try.func24 (by kernel_rfl) rfl #[.int .u64 a1] rfl (by (try simp only [List.map_toArray, List.map_cons, List.map_nil]); first | done | rfl | (simp only [List.length_drop, List.length_take]; rfl)) ?_; (with_reducible refine (kerbsuiteref3_Valid.calls a1 false _ A7.out).mono ?_); rintro e w' ⟨rfl, ⟨nd, rfl⟩⟩; refine ⟨_, rfl, ?_⟩))
     go_ret2
     exact ⟨_, by first | rfl | (simp [errW_none, errW_some] <;> rfl) | (simp [*, errW_none, errW_some] <;> rfl), by first | exact Kd.R_nil _ _ _ _ _ | exact Kd.N_nil _ _ _ _ _ | exact Kd.V_nil _ _ _ _ _ | exact Kd.Q_nil _ _ _ _ _ | exact Kd.S_nil _ _ _ _ _, by repeat (first | (with_reducible first | exact HB.out | apply below_alloc | apply pw_below_drewN | apply below_drew1) | exact HB.out)⟩

/-! ### kerbsuitelaw4_BoxMakes: function 3 -/
def kerbsuitelaw4_BoxMakes.l0 : Nat → Int → Int → Int → Int → List Int → Int → Option (Bool)
 | 0, _, _, _, _, _, _ => none
 | k + 1, x0, x1, x3, x4, x13, x14 => if x14 < 4 then ((some (([x0, Int.tmod (wrap64 (x3)) 12] : List Int) : List Int)).bind fun y196 => (if 0 ≤ (Int.tmod x14 2) then (if (Int.tmod x14 2) < (y196.length : Int) then ((kerbsuitedata_Long.f (wrap64 (x4))).bind fun t200 => ((some (([x1, t200] : List Int) : List Int)).bind fun y201 => (if 0 ≤ (wrap64 (Int.tdiv x14 2)) then (if (wrap64 (Int.tdiv x14 2)) < (y201.length : Int) then ((box_Make.f k (rd y196 (Int.tmod x14 2)) (rd y201 (wrap64 (Int.tdiv x14 2))) x13).bind fun bt205 => ((kerbsuiteref4_Make.f k (rd y196 (Int.tmod x14 2)) (rd y201 (wrap64 (Int.tdiv x14 2))) x13).bind fun bt209 => (if (strOfNums bt205.1).toList = (strOfNums bt209.1).toList then (if bt205.2 = bt209.2 then (kerbsuitelaw4_BoxMakes.l0 k x0 x1 x3 x4 x13 (wrap64 (x14 + 1))) else (some false)) else (some false)))) else (none)) else (none)))) else (none)) else (none))) else (some true)
def kerbsuitelaw4_BoxMakes.f (k : Nat) (a0 : Int) (a1 : Int) (l2 : List Int) (a3 : Int) (a4 : Int) (a5 : Int) : Option (Bool) := (kerbsuitelaw4_awake.f k).bind fun t192 => (if t192 = true then (if (l2.length : Int) > 900 then (some true) else ((kerbsuitelaw4_body.f k l2 a5).bind fun t193 => (kerbsuitelaw4_BoxMakes.l0 k a0 a1 a3 a4 t193 0))) else (some false))
theorem kerbsuitelaw4_BoxMakes.mono_l : ∀ k, (∀ y0 y1 y2 y3 y4 y5, LeO (kerbsuitelaw4_BoxMakes.l0 k y0 y1 y2 y3 y4 y5) (kerbsuitelaw4_BoxMakes.l0 (k + 1) y0 y1 y2 y3 y4 y5))
 | 0 => fun _ _ _ _ _ _ r h => by simp [kerbsuitelaw4_BoxMakes.l0] at h
 | k + 1 => by
  have ih0 := kerbsuitelaw4_BoxMakes.mono_l k
  ·intro y0 y1 y2 y3 y4 y5
   unfold kerbsuitelaw4_BoxMakes.l0
   repeat' first
   | (with_reducible exact ih0 _ _ _ _ _ _)
   | (with_reducible exact box_Make.mono _ _ _ _)
   | (with_reducible exact kerbsuitelaw4_awake.mono _)
   | (with_reducible exact kerbsuitelaw4_body.mono _ _ _)
   | (with_reducible exact kerbsuiteref4_Make.mono _ _ _ _)
   | (with_reducible exact LeO.refl _)
   | (with_reducible exact LeO.none _)
   | (with_reducible refine LeO.ite ?_ ?_)
   | (with_reducible refine LeO.bind ?_ (fun _ => ?_))
   | exact ih0 _ _ _ _ _ _
   | exact box_Make.mono _ _ _ _
   | exact kerbsuitelaw4_awake.mono _
   | exact kerbsuitelaw4_body.mono _ _ _
   | exact kerbsuiteref4_Make.mono _ _ _ _
   | exact LeO.none _
   | refine LeO.ite ?_ ?_
   | refine LeO.bind ?_ (fun _ => ?_)
theorem kerbsuitelaw4_BoxMakes.mono : ∀ a0 a1 a2 a3 a4 a5 k, LeO (kerbsuitelaw4_BoxMakes.f k a0 a1 a2 a3 a4 a5) (kerbsuitelaw4_BoxMakes.f (k + 1) a0 a1 a2 a3 a4 a5) := by
 intro a0 a1 a2 a3 a4 a5 k
 have ih0 := kerbsuitelaw4_BoxMakes.mono_l k
 unfold kerbsuitelaw4_BoxMakes.f
 repeat' first
   | (with_reducible exact ih0 _ _ _ _ _ _)
   | (with_reducible exact box_Make.mono _ _ _ _)
   | (with_reducible exact kerbsuitelaw4_awake.mono _)
   | (with_reducible exact kerbsuitelaw4_body.mono _ _ _)
   | (with_reducible exact kerbsuiteref4_Make.mono _ _ _ _)
   | (with_reducible exact LeO.refl _)
   | (with_reducible exact LeO.none _)
   | (with_reducible refine LeO.ite ?_ ?_)
   | (with_reducible refine LeO.bind ?_ (fun _ => ?_))
   | exact ih0 _ _ _ _ _ _
   | exact box_Make.mono _ _ _ _
   | exact kerbsuitelaw4_awake.mono _
   | exact kerbsuitelaw4_body.mono _ _ _
   | exact kerbsuiteref4_Make.mono _ _ _ _
   | exact LeO.none _
   | refine LeO.ite ?_ ?_
   | refine LeO.bind ?_ (fun _ => ?_)
set_option maxHeartbeats 8000000 in
set_option maxRecDepth 100000 in
theorem kerbsuitelaw4_BoxMakes.calls (k : Nat) (a0 : Int) (a1 : Int) (A2 : Option Addr) (c2 : Nat) (l2 : List Int) (a3 : Int) (a4 : Int) (a5 : Int) (r : Bool) (w : World) (hr2 : Kd.C (Kd.int .u8) w A2 l2.length l2) (hc2 : l2.length ≤ c2) (h : kerbsuitelaw4_BoxMakes.f k a0 a1 l2 a3 a4 a5 = some r) :
  Calls Try.prog 3 #[.int .i64 a0, .int .u64 a1, .slice A2 l2.length c2, .int .u8 a3, .int .u8 a4, .int .u16 a5] w fun e w' => e = .returned (.bool r) ∧ Below w.heap.size w w' := by
 have HR2 := Aside0.mk hr2
 have HC2 := Aside0.mk hc2
 clear hr2 hc2
 have HB := Aside0.mk (Below.refl w.heap.size w)
 have H : ((kerbsuitelaw4_awake.f k).bind fun t192 => (if t192 = true then (if (l2.length : Int) > 900 then (some true) else ((kerbsuitelaw4_body.f k l2 a5).bind fun t193 => (kerbsuitelaw4_BoxMakes.l0 k a0 a1 a3 a4 t193 0))) else (some false))) = some r := h
 clear h
 replace H := Option.bind_eq_some_iff.mp H
 obtain ⟨t192, A70, H⟩ := H
 replace H : (if t192 = true then (if (l2.length : Int) > 900 then (some true) else ((kerbsuitelaw4_body.f k l2 a5).bind fun t193 => (kerbsuitelaw4_BoxMakes.l0 k a0 a1 a3 a4 t193 0))) else (some false)) = some r := H
 have A7 := Aside0.mk A70
 clear A70
 by_cases c8 : t192 = true
 ·subst c8
  have H1 : (if (l2.length : Int) > 900 then (some true) else ((kerbsuitelaw4_body.f k l2 a5).bind fun t193 => (kerbsuitelaw4_BoxMakes.l0 k a0 a1 a3 a4 t193 0))) = some r := by rw [if_pos rfl] at H; exact H
  clear H
  have H := H1
  clear H1
  by_cases c9 : (l2.length : Int) > 900
  ·rw [if_pos c9] at H
   have c9b0 : decide (900 < (l2.length : Int)) = true := decide_eq_true c9
   have c9b1 : decide (900 < l2.length) = true := decide_eq_true (by omega)
   clear c9
   obtain rfl := Option.some.inj H
   go_enter Try.func3, Try.ntmps3
   go_wp2_with (first | ((with_reducible refine gate_callee (f := 8) rfl ?_); refine goesL_ (some 21) rfl rfl Try.func8 (by kernel_rfl) rfl #[] rfl (by (try simp only [List.map_toArray, List.map_cons, List.map_nil]); first | done | rfl | (simp only [List.length_drop, List.length_take]; rfl)) ?_; (with_reducible refine (kerbsuitelaw4_awake.calls k  true _ A7.out).mono ?_); rintro e w10 ⟨rfl, hb⟩; refine ⟨_, rfl, ?_⟩; have n0_ := Aside0.mk (below_step (by repeat (first | (with_reducible first | exact HB.out | apply below_alloc | apply pw_below_drewN | apply below_drew1) | exact HB.out)) hb); clear HB; have HB := n0_; clear n0_; (try clear hb); (try clear hb2); (try clear hk); (try clear hi)))
   go_ret
   exact ⟨by first | rfl | (simp [errW_none, errW_some] <;> rfl) | (simp [*, errW_none, errW_some] <;> rfl), by repeat (first | (with_reducible first | exact HB.out | apply below_alloc | apply pw_below_drewN | apply below_drew1) | exact HB.out)⟩
  ·rw [if_neg c9] at H
   have c9b0 : decide (900 < (l2.length : Int)) = false := decide_eq_false c9
   have c9b1 : decide (900 < l2.length) = false := decide_eq_false (by omega)
   clear c9
   replace H := Option.bind_eq_some_iff.mp H
   obtain ⟨t193, A110, H⟩ := H
   replace H : (kerbsuitelaw4_BoxMakes.l0 k a0 a1 a3 a4 t193 0) = some r := H
   have A11 := Aside0.mk A110
   clear A110
   have H' := Aside0.mk H
   clear H
   go_enter Try.func3, Try.ntmps3
   go_wp2_with (first | ((with_reducible refine gate_callee (f := 8) rfl ?_); refine goesL_ (some 21) rfl rfl Try.func8 (by kernel_rfl) rfl #[] rfl (by (try simp only [List.map_toArray, List.map_cons, List.map_nil]); first | done | rfl | (simp only [List.length_drop, List.length_take]; rfl)) ?_; (with_reducible refine (kerbsuitelaw4_awake.calls k  true _ A7.out).mono ?_); rintro e w12 ⟨rfl, hb⟩; refine ⟨_, rfl, ?_⟩; have n0_ := Aside0.mk (below_step (by repeat (first | (with_reducible first | exact HB.out | apply below_alloc | apply pw_below_drewN | apply below_drew1) | exact HB.out)) hb); clear HB; have HB := n0_; clear n0_; (try clear hb); (try clear hb2); (try clear hk); (try clear hi)) | ((with_reducible refine gate_callee (f := 9) rfl ?_); refine goesL_ (some 28) rfl rfl Try.func9 (by kernel_rfl) rfl #[.slice A2 l2.length c2, .int .u16 a5] rfl (by (try simp only [List.map_toArray, List.map_cons, List.map_nil]); first | done | rfl | (simp only [List.length_drop, List.length_take]; rfl)) ?_; (with_reducible refine (kerbsuitelaw4_body.calls k _ _ l2 a5 t193 _ ?side1 ?side2 A11.out).mono ?_); (case side1 => repeat (first | exact (Kd.C_below HR2.out HB.out) | (with_reducible refine Kd.C_alloc ?_ _) | (with_reducible refine Kd.C_drewN ?_ _) | (with_reducible refine Kd.C_drew ?_))); (case side2 => exact HC2.out); rintro e w13 ⟨v194, rfl, ho0, hb⟩; refine ⟨_, rfl, ?_⟩; have n0_ := Aside0.mk (Kd.R_lower ho0 (below_size (by repeat (first | (with_reducible first | exact HB.out | apply below_alloc | apply pw_below_drewN | apply below_drew1) | exact HB.out)))); have n1_ := Aside0.mk (below_step (by repeat (first | (with_reducible first | exact HB.out | apply below_alloc | apply pw_below_drewN | apply below_drew1) | exact HB.out)) hb); clear HB; have HO195 := n0_; have HB := n1_; clear n0_ n1_; (try clear hb); (try clear hb2); (try clear hk); (try clear hi); (try clear ho0)))
   go_loopg [14] k (fun kq v14 w' => ∃ (x14_1 : Int), v14 = .int .i64 x14_1 ∧ Aside0 (kerbsuitelaw4_BoxMakes.l0 kq a0 a1 a3 a4 t193 x14_1 = some r) ∧ Aside0 (kq ≤ k) ∧ Aside0 (Kd.R (Kd.int .u8) 5 w' w.heap.size (fun _ => True) v194 t193) ∧ Aside0 (Below w.heap.size w w'))
   case atStart => exact ⟨(0), (by first | rfl | (simp; done) | (simp [*]; done)), H', ⟨Nat.le_refl _⟩, ⟨by (with_reducible repeat (first | apply Kd.R_alloc | apply Kd.R_drewN | apply Kd.R_drew)); exact HO195.out⟩, ⟨by repeat (first | (with_reducible first | exact HB.out | apply below_alloc | apply pw_below_drewN | apply below_drew1) | exact HB.out)⟩⟩
   case round =>
    clear H'
    try clear c2
    try clear p2
    try clear c3
    try clear c8
    try clear c9
    try clear c9b0
    try clear c9b1
    obtain ⟨x14_1, rfl, HA, HK1, HO_13, HB⟩ := hrel
    cases gk with
    | zero => exact absurd HA.out (by simp [kerbsuitelaw4_BoxMakes.l0])
    | succ k1 =>
     have H := HA.out
     clear HA
     simp only [kerbsuitelaw4_BoxMakes.l0] at H
     by_cases c14 : x14_1 < 4
     ·rw [if_pos c14] at H
      have c14b0 : decide (x14_1 < 4) = true := decide_eq_true c14
      clear c14
      obtain ⟨y196, hy196⟩ : ∃ y_ : List Int, y_ = (([a0, Int.tmod (wrap64 (a3)) 12] : List Int)) := ⟨_, rfl⟩
      replace H : (if 0 ≤ (Int.tmod x14_1 2) then (if (Int.tmod x14_1 2) < (y196.length : Int) then ((kerbsuitedata_Long.f (wrap64 (a4))).bind fun t200 => ((some (([a1, t200] : List Int) : List Int)).bind fun y201 => (if 0 ≤ (wrap64 (Int.tdiv x14_1 2)) then (if (wrap64 (Int.tdiv x14_1 2)) < (y201.length : Int) then ((box_Make.f k1 (rd y196 (Int.tmod x14_1 2)) (rd y201 (wrap64 (Int.tdiv x14_1 2))) t193).bind fun bt205 => ((kerbsuiteref4_Make.f k1 (rd y196 (Int.tmod x14_1 2)) (rd y201 (wrap64 (Int.tdiv x14_1 2))) t193).bind fun bt209 => (if (strOfNums bt205.1).toList = (strOfNums bt209.1).toList then (if bt205.2 = bt209.2 then (kerbsuitelaw4_BoxMakes.l0 k1 a0 a1 a3 a4 t193 (wrap64 (x14_1 + 1))) else (some false)) else (some false)))) else (none)) else (none)))) else (none)) else (none)) = some r := by first | (rw [hy196]; with_reducible exact H) | (have H2_ := (Option.bind_some _ _).symm.trans H; rw [hy196]; with_reducible exact H2_) | (have H2_ := (Option.bind_some _ _).symm.trans H; with_reducible exact H2_) | with_reducible exact H | (rw [hy196]; exact H) | exact H
      have Ny196 := Aside0.mk hy196
      clear hy196
      obtain ⟨ji15, hji15⟩ : ∃ j_ : Int, (Int.tmod x14_1 2) = j_ := ⟨_, rfl⟩
      replace H : (if 0 ≤ (ji15) then (if (ji15) < (y196.length : Int) then ((kerbsuitedata_Long.f (wrap64 (a4))).bind fun t200 => ((some (([a1, t200] : List Int) : List Int)).bind fun y201 => (if 0 ≤ (wrap64 (Int.tdiv x14_1 2)) then (if (wrap64 (Int.tdiv x14_1 2)) < (y201.length : Int) then ((box_Make.f k1 (rd y196 (ji15)) (rd y201 (wrap64 (Int.tdiv x14_1 2))) t193).bind fun bt205 => ((kerbsuiteref4_Make.f k1 (rd y196 (ji15)) (rd y201 (wrap64 (Int.tdiv x14_1 2))) t193).bind fun bt209 => (if (strOfNums bt205.1).toList = (strOfNums bt209.1).toList then (if bt205.2 = bt209.2 then (kerbsuitelaw4_BoxMakes.l0 k1 a0 a1 a3 a4 t193 (wrap64 (x14_1 + 1))) else (some false)) else (some false)))) else (none)) else (none)))) else (none)) else (none)) = some r := by first | (rw [hji15] at H; exact H) | (simp only [hji15] at H ⊢; exact H)
      by_cases c16 : 0 ≤ (ji15)
      ·rw [if_pos c16] at H
       have c16b0 : decide (0 ≤ (ji15)) = true := decide_eq_true c16
       clear c16
       by_cases c17 : (ji15) < (y196.length : Int)
       ·rw [if_pos c17] at H
        have c17b0 : decide ((ji15) < (y196.length : Int)) = true := decide_eq_true c17
        clear c17
        replace H := Option.bind_eq_some_iff.mp H
        obtain ⟨t200, A180, H⟩ := H
        replace H : ((some (([a1, t200] : List Int) : List Int)).bind fun y201 => (if 0 ≤ (wrap64 (Int.tdiv x14_1 2)) then (if (wrap64 (Int.tdiv x14_1 2)) < (y201.length : Int) then ((box_Make.f k1 (rd y196 (ji15)) (rd y201 (wrap64 (Int.tdiv x14_1 2))) t193).bind fun bt205 => ((kerbsuiteref4_Make.f k1 (rd y196 (ji15)) (rd y201 (wrap64 (Int.tdiv x14_1 2))) t193).bind fun bt209 => (if (strOfNums bt205.1).toList = (strOfNums bt209.1).toList then (if bt205.2 = bt209.2 then (kerbsuitelaw4_BoxMakes.l0 k1 a0 a1 a3 a4 t193 (wrap64 (x14_1 + 1))) else (some false)) else (some false)))) else (none)) else (none))) = some r := H
        have A18 := Aside0.mk A180
        clear A180
        obtain ⟨y201, hy201⟩ : ∃ y_ : List Int, y_ = (([a1, t200] : List Int)) := ⟨_, rfl⟩
        replace H : (if 0 ≤ (wrap64 (Int.tdiv x14_1 2)) then (if (wrap64 (Int.tdiv x14_1 2)) < (y201.length : Int) then ((box_Make.f k1 (rd y196 (ji15)) (rd y201 (wrap64 (Int.tdiv x14_1 2))) t193).bind fun bt205 => ((kerbsuiteref4_Make.f k1 (rd y196 (ji15)) (rd y201 (wrap64 (Int.tdiv x14_1 2))) t193).bind fun bt209 => (if (strOfNums bt205.1).toList = (strOfNums bt209.1).toList then (if bt205.2 = bt209.2 then (kerbsuitelaw4_BoxMakes.l0 k1 a0 a1 a3 a4 t193 (wrap64 (x14_1 + 1))) else (some false)) else (some false)))) else (none)) else (none)) = some r := by first | (rw [hy201]; with_reducible exact H) | (have H2_ := (Option.bind_some _ _).symm.trans H; rw [hy201]; with_reducible exact H2_) | (have H2_ := (Option.bind_some _ _).symm.trans H; with_reducible exact H2_) | with_reducible exact H | (rw [hy201]; exact H) | exact H
        have Ny201 := Aside0.mk hy201
        clear hy201
        obtain ⟨ji19, hji19⟩ : ∃ j_ : Int, (wrap64 (Int.tdiv x14_1 2)) = j_ := ⟨_, rfl⟩
        replace H : (if 0 ≤ (ji19) then (if (ji19) < (y201.length : Int) then ((box_Make.f k1 (rd y196 (ji15)) (rd y201 (ji19)) t193).bind fun bt205 => ((kerbsuiteref4_Make.f k1 (rd y196 (ji15)) (rd y201 (ji19)) t193).bind fun bt209 => (if (strOfNums bt205.1).toList = (strOfNums bt209.1).toList then (if bt205.2 = bt209.2 then (kerbsuitelaw4_BoxMakes.l0 k1 a0 a1 a3 a4 t193 (wrap64 (x14_1 + 1))) else (some false)) else (some false)))) else (none)) else (none)) = some r := by first | (rw [hji19] at H; exact H) | (simp only [hji19] at H ⊢; exact H)
        (try rw [hji19] at A18)
        have hji19w : (IntKind.i64.wrap (Int.tdiv x14_1 2)) = ji19 := (i64_w _).trans hji19
        by_cases c20 : 0 ≤ (ji19)
        ·rw [if_pos c20] at H
         have c20b0 : decide (0 ≤ (ji19)) = true := decide_eq_true c20
         clear c20
         by_cases c21 : (ji19) < (y201.length : Int)
         ·rw [if_pos c21] at H
          have c21b0 : decide ((ji19) < (y201.length : Int)) = true := decide_eq_true c21
          clear c21
          replace H := Option.bind_eq_some_iff.mp H
          obtain ⟨⟨t205, t206⟩, A220, H⟩ := H
          replace H : ((kerbsuiteref4_Make.f k1 (rd y196 (ji15)) (rd y201 (ji19)) t193).bind fun bt209 => (if (strOfNums t205).toList = (strOfNums bt209.1).toList then (if t206 = bt209.2 then (kerbsuitelaw4_BoxMakes.l0 k1 a0 a1 a3 a4 t193 (wrap64 (x14_1 + 1))) else (some false)) else (some false))) = some r := H
          have A22 := Aside0.mk A220
          clear A220
          replace H := Option.bind_eq_some_iff.mp H
          obtain ⟨⟨t209, t210⟩, A230, H⟩ := H
          replace H : (if (strOfNums t205).toList = (strOfNums t209).toList then (if t206 = t210 then (kerbsuitelaw4_BoxMakes.l0 k1 a0 a1 a3 a4 t193 (wrap64 (x14_1 + 1))) else (some false)) else (some false)) = some r := H
          have A23 := Aside0.mk A230
          clear A230
          by_cases c24 : (strOfNums t205).toList = (strOfNums t209).toList
          ·rw [if_pos c24] at H
           have c24b0 : ((strOfNums t205).toList == (strOfNums t209).toList) = true := beq_iff_eq.mpr c24
           have c24b1 : ((strOfNums t205).toList != (strOfNums t209).toList) = false := bne_eq_false_iff_eq.mpr c24
           clear c24
           by_cases c25 : t206 = t210
           ·rw [if_pos c25] at H
            have c25b0 : (t206 == t210) = true := beq_iff_eq.mpr c25
            have c25b1 : (t206 != t210) = false := bne_eq_false_iff_eq.mpr c25
            clear c25
            have H' := Aside0.mk H
            clear H
            go_wp2_with (first | ((with_reducible refine gate_dst (N := 37) rfl ?_); refine Kd.R_lit (Kd.int .i64) _ 3 ?hg (N := 37) ?hd (xs := ([a0, Int.tmod (wrap64 (a3)) 12] : List Int)) (inner := [.int .i64 a0, .int .i64 (Int.tmod (wrap64 (a3)) 12)]) (ok := fun _ => True) (okp := fun _ => True) ?hr ?hp (fun _ hk => hk) trivial (Below.refl _ _) (Nat.le_refl _) (by simp) ?_; (case hd => rfl); (case hg => rfl); (case hr => first | (go_simp; done) | (go_simp; rfl)); (case hp => exact (Reps.one (show Kd.M (Kd.int .i64) _ _ _ a0 [.int .i64 a0] from rfl) (Reps.one (show Kd.M (Kd.int .i64) _ _ _ (Int.tmod (wrap64 (a3)) 12) [.int .i64 (Int.tmod (wrap64 (a3)) 12)] from rfl) (Reps.none _ _)))); intro v197 w26 ho27 hb hg_ hnew_; clear hg_ hnew_; (first | rw [← Ny196.out] at ho27 | (simp only [Int.reduceToNat] at ho27; rw [← Ny196.out] at ho27)); have n0_ := Aside0.mk (Kd.R_below (by (with_reducible repeat (first | apply Kd.R_alloc | apply Kd.R_drewN | apply Kd.R_drew)); exact HO_13.out) hb); have n1_ := Aside0.mk (Kd.R_lower ho27 (below_size (by repeat (first | (with_reducible first | exact HB.out | apply below_alloc | apply pw_below_drewN | apply below_drew1) | exact HB.out)))); have n2_ := Aside0.mk (below_step (by repeat (first | (with_reducible first | exact HB.out | apply below_alloc | apply pw_below_drewN | apply below_drew1) | exact HB.out)) hb); clear HO_13; clear HB; have HO_13 := n0_; have HO198 := n1_; have HB := n2_; clear n0_ n1_ n2_; clear hb ho27; obtain ⟨Ao28, co28, eo28⟩ := Kd.R_slice HO198.out; subst eo28; have p199 : 0 ≤ ((ji15) : Int) := of_decide_eq_true (by first | (with_reducible assumption) | assumption); have q199 : (ji15) < (y196.length : Int) := of_decide_eq_true (by first | (with_reducible assumption) | assumption); obtain ⟨ad199, e199, hx199_0⟩ := Kd.at_int (Kd.R_reads' HO198.out).2.2 (ji15) p199 q199; cases e199; replace p199 := eq_true p199; replace q199 := eq_true q199) | ((with_reducible refine gate_callee (f := 10) rfl ?_); refine goesL_ (some 45) rfl rfl Try.func10 (by kernel_rfl) rfl #[.int .i64 (wrap64 (a4))] rfl (by (try simp only [List.map_toArray, List.map_cons, List.map_nil]); first | done | rfl | (simp only [List.length_drop, List.length_take]; rfl)) ?_; (with_reducible refine (kerbsuitedata_Long.calls (wrap64 (a4)) t200 _ A18.out).mono ?_); rintro e w' ⟨rfl, ⟨nd, rfl⟩⟩; refine ⟨_, rfl, ?_⟩) | ((with_reducible refine gate_dst (N := 46) rfl ?_); refine Kd.R_lit (Kd.int .u64) _ 23 ?hg (N := 46) ?hd (xs := ([a1, t200] : List Int)) (inner := [.int .u64 a1, .int .u64 t200]) (ok := fun _ => True) (okp := fun _ => True) ?hr ?hp (fun _ hk => hk) trivial (Below.refl _ _) (Nat.le_refl _) (by simp) ?_; (case hd => rfl); (case hg => rfl); (case hr => first | (go_simp; done) | (go_simp; rfl)); (case hp => exact (Reps.one (show Kd.M (Kd.int .u64) _ _ _ a1 [.int .u64 a1] from rfl) (Reps.one (show Kd.M (Kd.int .u64) _ _ _ t200 [.int .u64 t200] from rfl) (Reps.none _ _)))); intro v202 w29 ho30 hb hg_ hnew_; clear hg_ hnew_; (first | rw [← Ny201.out] at ho30 | (simp only [Int.reduceToNat] at ho30; rw [← Ny201.out] at ho30)); have n0_ := Aside0.mk (Kd.R_below (by (with_reducible repeat (first | apply Kd.R_alloc | apply Kd.R_drewN | apply Kd.R_drew)); exact HO_13.out) hb); have n1_ := Aside0.mk (Kd.R_below (by (with_reducible repeat (first | apply Kd.R_alloc | apply Kd.R_drewN | apply Kd.R_drew)); exact HO198.out) hb); have n2_ := Aside0.mk (Kd.R_lower ho30 (below_size (by repeat (first | (with_reducible first | exact HB.out | apply below_alloc | apply pw_below_drewN | apply below_drew1) | exact HB.out)))); have n3_ := Aside0.mk (below_step (by repeat (first | (with_reducible first | exact HB.out | apply below_alloc | apply pw_below_drewN | apply below_drew1) | exact HB.out)) hb); clear HO_13; clear HO198; clear HB; have HO_13 := n0_; have HO198 := n1_; have HO203 := n2_; have HB := n3_; clear n0_ n1_ n2_ n3_; clear hb ho30; obtain ⟨Ao31, co31, eo31⟩ := Kd.R_slice HO203.out; subst eo31; have p204 : 0 ≤ ((ji19) : Int) := of_decide_eq_true (by first | (with_reducible assumption) | assumption); have q204 : (ji19) < (y201.length : Int) := of_decide_eq_true (by first | (with_reducible assumption) | assumption); obtain ⟨ad204, e204, hx204_0⟩ := Kd.at_int (Kd.R_reads' HO203.out).2.2 (ji19) p204 q204; cases e204; replace p204 := eq_true p204; replace q204 := eq_true q204; obtain ⟨Ao32, co32, eo32⟩ := Kd.R_slice HO_13.out; subst eo32) | ((with_reducible refine gate_callee (f := 11) rfl ?_); refine goesL_ (some 55) rfl rfl Try.func11 (by kernel_rfl) rfl #[.int .i64 (rd y196 (ji15)), .int .u64 (rd y201 (ji19)), .slice Ao32 t193.length co32] rfl (by (try simp only [List.map_toArray, List.map_cons, List.map_nil]); first | done | (simp only [hji15, hji19]; rfl) | rfl | (simp only [List.length_drop, List.length_take]; rfl)) ?_; (with_reducible refine (box_Make.calls k1 (rd y196 (ji15)) (rd y201 (ji19)) _ _ t193 t205 t206 _ ?side1 ?side2 A22.out).mono ?_); (case side1 => repeat (first | exact (Kd.R_reads' HO_13.out).2.2 | (with_reducible refine Kd.C_alloc ?_ _) | (with_reducible refine Kd.C_drewN ?_ _) | (with_reducible refine Kd.C_drew ?_))); (case side2 => exact (Kd.R_reads' HO_13.out).2.1); rintro e w33 ⟨v207, rfl, ho0, hb⟩; refine ⟨_, rfl, ?_⟩; have n0_ := Aside0.mk (Kd.R_elder' (by (with_reducible repeat (first | apply Kd.R_alloc | apply Kd.R_drewN | apply Kd.R_drew)); exact HO_13.out) (Kd.R_base ho0) hb); have n1_ := Aside0.mk (Kd.R_below (by (with_reducible repeat (first | apply Kd.R_alloc | apply Kd.R_drewN | apply Kd.R_drew)); exact HO198.out) hb); have n2_ := Aside0.mk (Kd.R_below (by (with_reducible repeat (first | apply Kd.R_alloc | apply Kd.R_drewN | apply Kd.R_drew)); exact HO203.out) hb); have n3_ := Aside0.mk (Kd.R_lower (Kd.R_new' ho0 (Kd.R_lt (by (with_reducible repeat (first | apply Kd.R_alloc | apply Kd.R_drewN | apply Kd.R_drew)); exact HO_13.out))) (below_size (by repeat (first | (with_reducible first | exact HB.out | apply below_alloc | apply pw_below_drewN | apply below_drew1) | exact HB.out)))); have n4_ := Aside0.mk (below_step (by repeat (first | (with_reducible first | exact HB.out | apply below_alloc | apply pw_below_drewN | apply below_drew1) | exact HB.out)) hb); clear HO_13; clear HO198; clear HO203; clear HB; have HO_13 := n0_; have HO198 := n1_; have HO203 := n2_; have HO208 := n3_; have HB := n4_; clear n0_ n1_ n2_ n3_ n4_; (try clear hb); (try clear hb2); (try clear hk); (try clear hi); (try clear ho0)) | ((with_reducible refine gate_callee (f := 12) rfl ?_); refine goesL_ (some 62) rfl rfl Try.func12 (by kernel_rfl) rfl #[.int .i64 (rd y196 (ji15)), .int .u64 (rd y201 (ji19)), .slice Ao32 t193.length co32] rfl (by (try simp only [List.map_toArray, List.map_cons, List.map_nil]); first | done | (simp only [hji15, hji19]; rfl) | rfl | (simp only [List.length_drop, List.length_take]; rfl)) ?_; (with_reducible refine (kerbsuiteref4_Make.calls k1 (rd y196 (ji15)) (rd y201 (ji19)) _ _ t193 t209 t210 _ ?side1 ?side2 A23.out).mono ?_); (case side1 => repeat (first | exact (Kd.R_reads' HO_13.out).2.2 | (with_reducible refine Kd.C_alloc ?_ _) | (with_reducible refine Kd.C_drewN ?_ _) | (with_reducible refine Kd.C_drew ?_))); (case side2 => exact (Kd.R_reads' HO_13.out).2.1); rintro e w34 ⟨v211, rfl, ho0, hb⟩; refine ⟨_, rfl, ?_⟩; have n0_ := Aside0.mk (Kd.R_elder' (by (with_reducible repeat (first | apply Kd.R_alloc | apply Kd.R_drewN | apply Kd.R_drew)); exact HO_13.out) (Kd.R_base ho0) hb); have n1_ := Aside0.mk (Kd.R_below (by (with_reducible repeat (first | apply Kd.R_alloc | apply Kd.R_drewN | apply Kd.R_drew)); exact HO198.out) hb); have n2_ := Aside0.mk (Kd.R_below (by (with_reducible repeat (first | apply Kd.R_alloc | apply Kd.R_drewN | apply Kd.R_drew)); exact HO203.out) hb); have n3_ := Aside0.mk (Kd.R_elder' (by (with_reducible repeat (first | apply Kd.R_alloc | apply Kd.R_drewN | apply Kd.R_drew)); exact HO208.out) (Kd.R_base ho0) hb); have n4_ := Aside0.mk (Kd.R_lower (Kd.R_new' (Kd.R_new' ho0 (Kd.R_lt (by (with_reducible repeat (first | apply Kd.R_alloc | apply Kd.R_drewN | apply Kd.R_drew)); exact HO_13.out))) (Kd.R_lt (by (with_reducible repeat (first | apply Kd.R_alloc | apply Kd.R_drewN | apply Kd.R_drew)); exact HO208.out))) (below_size (by repeat (first | (with_reducible first | exact HB.out | apply below_alloc | apply pw_below_drewN | apply below_drew1) | exact HB.out)))); have n5_ := Aside0.mk (below_step (by repeat (first | (with_reducible first | exact HB.out | apply below_alloc | apply pw_below_drewN | apply below_drew1) | exact HB.out)) hb); clear HO_13; clear HO198; clear HO203; clear HO208; clear HB; have HO_13 := n0_; have HO198 := n1_; have HO203 := n2_; have HO208 := n3_; have HO212 := n4_; have HB := n5_; clear n0_ n1_ n2_ n3_ n4_ n5_; (try clear hb); (try clear hb2); (try clear hk); (try clear hi); (try clear ho0); have hcv35 := own_string (P := Try.prog) Try.underlying24 Try.underlying5 Try.underlying9 (Kd.own_of_R HO208.out); have hcv36 := own_string (P := Try.prog) Try.underlying24 Try.underlying5 Try.underlying9 (Kd.own_of_R HO212.out)))
            go_roundg k1
            case measure => have := HK1.out; omega
            case rel => exact ⟨(wrap64 (x14_1 + 1)), (by first | rfl | (simp; done) | (simp [*]; done)), H', ⟨by have := HK1.out; omega⟩, ⟨by (with_reducible repeat (first | apply Kd.R_alloc | apply Kd.R_drewN | apply Kd.R_drew)); exact Kd.R_mono HO_13.out (fun _ hk => trivial)⟩, ⟨by repeat (first | (with_reducible first | exact HB.out | apply below_alloc | apply pw_below_drewN | apply below_drew1) | exact HB.out)⟩⟩
           ·rw [if_neg c25] at H
            have c25b0 : (t206 == t210) = false := beq_eq_false_iff_ne.mpr c25
            have c25b1 : (t206 != t210) = true := bne_iff_ne.mpr c25
            obtain rfl := Option.some.inj H
            go_wp2_with (first | ((with_reducible refine gate_dst (N := 37) rfl ?_); refine Kd.R_lit (Kd.int .i64) _ 3 ?hg (N := 37) ?hd (xs := ([a0, Int.tmod (wrap64 (a3)) 12] : List Int)) (inner := [.int .i64 a0, .int .i64 (Int.tmod (wrap64 (a3)) 12)]) (ok := fun _ => True) (okp := fun _ => True) ?hr ?hp (fun _ hk => hk) trivial (Below.refl _ _) (Nat.le_refl _) (by simp) ?_; (case hd => rfl); (case hg => rfl); (case hr => first | (go_simp; done) | (go_simp; rfl)); (case hp => exact (Reps.one (show Kd.M (Kd.int .i64) _ _ _ a0 [.int .i64 a0] from rfl) (Reps.one (show Kd.M (Kd.int .i64) _ _ _ (Int.tmod (wrap64 (a3)) 12) [.int .i64 (Int.tmod (wrap64 (a3)) 12)] from rfl) (Reps.none _ _)))); intro v197 w37 ho38 hb hg_ hnew_; clear hg_ hnew_; (first | rw [← Ny196.out] at ho38 | (simp only [Int.reduceToNat] at ho38; rw [← Ny196.out] at ho38)); have n0_ := Aside0.mk (Kd.R_below (by (with_reducible repeat (first | apply Kd.R_alloc | apply Kd.R_drewN | apply Kd.R_drew)); exact HO_13.out) hb); have n1_ := Aside0.mk (Kd.R_lower ho38 (below_size (by repeat (first | (with_reducible first | exact HB.out | apply below_alloc | apply pw_below_drewN | apply below_drew1) | exact HB.out)))); have n2_ := Aside0.mk (below_step (by repeat (first | (with_reducible first | exact HB.out | apply below_alloc | apply pw_below_drewN | apply below_drew1) | exact HB.out)) hb); clear HO_13; clear HB; have HO_13 := n0_; have HO198 := n1_; have HB := n2_; clear n0_ n1_ n2_; clear hb ho38; obtain ⟨Ao39, co39, eo39⟩ := Kd.R_slice HO198.out; subst eo39; have p199 : 0 ≤ ((ji15) : Int) := of_decide_eq_true (by first | (with_reducible assumption) | assumption); have q199 : (ji15) < (y196.length : Int) := of_decide_eq_true (by first | (with_reducible assumption) | assumption); obtain ⟨ad199, e199, hx199_0⟩ := Kd.at_int (Kd.R_reads' HO198.out).2.2 (ji15) p199 q199; cases e199; replace p199 := eq_true p199; replace q199 := eq_true q199) | ((with_reducible refine gate_callee (f := 10) rfl ?_); refine goesL_ (some 45) rfl rfl Try.func10 (by kernel_rfl) rfl #[.int .i64 (wrap64 (a4))] rfl (by (try simp only [List.map_toArray, List.map_cons, List.map_nil]); first | done | rfl | (simp only [List.length_drop, List.length_take]; rfl)) ?_; (with_reducible refine (kerbsuitedata_Long.calls (wrap64 (a4)) t200 _ A18.out).mono ?_); rintro e w' ⟨rfl, ⟨nd, rfl⟩⟩; refine ⟨_, rfl, ?_⟩) | ((with_reducible refine gate_dst (N := 46) rfl ?_); refine Kd.R_lit (Kd.int .u64) _ 23 ?hg (N := 46) ?hd (xs := ([a1, t200] : List Int)) (inner := [.int .u64 a1, .int .u64 t200]) (ok := fun _ => True) (okp := fun _ => True) ?hr ?hp (fun _ hk => hk) trivial (Below.refl _ _) (Nat.le_refl _) (by simp) ?_; (case hd => rfl); (case hg => rfl); (case hr => first | (go_simp; done) | (go_simp; rfl)); (case hp => exact (Reps.one (show Kd.M (Kd.int .u64) _ _ _ a1 [.int .u64 a1] from rfl) (Reps.one (show Kd.M (Kd.int .u64) _ _ _ t200 [.int .u64 t200] from rfl) (Reps.none _ _)))); intro v202 w40 ho41 hb hg_ hnew_; clear hg_ hnew_; (first | rw [← Ny201.out] at ho41 | (simp only [Int.reduceToNat] at ho41; rw [← Ny201.out] at ho41)); have n0_ := Aside0.mk (Kd.R_below (by (with_reducible repeat (first | apply Kd.R_alloc | apply Kd.R_drewN | apply Kd.R_drew)); exact HO_13.out) hb); have n1_ := Aside0.mk (Kd.R_below (by (with_reducible repeat (first | apply Kd.R_alloc | apply Kd.R_drewN | apply Kd.R_drew)); exact HO198.out) hb); have n2_ := Aside0.mk (Kd.R_lower ho41 (below_size (by repeat (first | (with_reducible first | exact HB.out | apply below_alloc | apply pw_below_drewN | apply below_drew1) | exact HB.out)))); have n3_ := Aside0.mk (below_step (by repeat (first | (with_reducible first | exact HB.out | apply below_alloc | apply pw_below_drewN | apply below_drew1) | exact HB.out)) hb); clear HO_13; clear HO198; clear HB; have HO_13 := n0_; have HO198 := n1_; have HO203 := n2_; have HB := n3_; clear n0_ n1_ n2_ n3_; clear hb ho41; obtain ⟨Ao42, co42, eo42⟩ := Kd.R_slice HO203.out; subst eo42; have p204 : 0 ≤ ((ji19) : Int) := of_decide_eq_true (by first | (with_reducible assumption) | assumption); have q204 : (ji19) < (y201.length : Int) := of_decide_eq_true (by first | (with_reducible assumption) | assumption); obtain ⟨ad204, e204, hx204_0⟩ := Kd.at_int (Kd.R_reads' HO203.out).2.2 (ji19) p204 q204; cases e204; replace p204 := eq_true p204; replace q204 := eq_true q204; obtain ⟨Ao43, co43, eo43⟩ := Kd.R_slice HO_13.out; subst eo43) | ((with_reducible refine gate_callee (f := 11) rfl ?_); refine goesL_ (some 55) rfl rfl Try.func11 (by kernel_rfl) rfl #[.int .i64 (rd y196 (ji15)), .int .u64 (rd y201 (ji19)), .slice Ao43 t193.length co43] rfl (by (try simp only [List.map_toArray, List.map_cons, List.map_nil]); first | done | (simp only [hji15, hji19]; rfl) | rfl | (simp only [List.length_drop, List.length_take]; rfl)) ?_; (with_reducible refine (box_Make.calls k1 (rd y196 (ji15)) (rd y201 (ji19)) _ _ t193 t205 t206 _ ?side1 ?side2 A22.out).mono ?_); (case side1 => repeat (first | exact (Kd.R_reads' HO_13.out).2.2 | (with_reducible refine Kd.C_alloc ?_ _) | (with_reducible refine Kd.C_drewN ?_ _) | (with_reducible refine Kd.C_drew ?_))); (case side2 => exact (Kd.R_reads' HO_13.out).2.1); rintro e w44 ⟨v207, rfl, ho0, hb⟩; refine ⟨_, rfl, ?_⟩; have n0_ := Aside0.mk (Kd.R_elder' (by (with_reducible repeat (first | apply Kd.R_alloc | apply Kd.R_drewN | apply Kd.R_drew)); exact HO_13.out) (Kd.R_base ho0) hb); have n1_ := Aside0.mk (Kd.R_below (by (with_reducible repeat (first | apply Kd.R_alloc | apply Kd.R_drewN | apply Kd.R_drew)); exact HO198.out) hb); have n2_ := Aside0.mk (Kd.R_below (by (with_reducible repeat (first | apply Kd.R_alloc | apply Kd.R_drewN | apply Kd.R_drew)); exact HO203.out) hb); have n3_ := Aside0.mk (Kd.R_lower (Kd.R_new' ho0 (Kd.R_lt (by (with_reducible repeat (first | apply Kd.R_alloc | apply Kd.R_drewN | apply Kd.R_drew)); exact HO_13.out))) (below_size (by repeat (first | (with_reducible first | exact HB.out | apply below_alloc | apply pw_below_drewN | apply below_drew1) | exact HB.out)))); have n4_ := Aside0.mk (below_step (by repeat (first | (with_reducible first | exact HB.out | apply below_alloc | apply pw_below_drewN | apply below_drew1) | exact HB.out)) hb); clear HO_13; clear HO198; clear HO203; clear HB; have HO_13 := n0_; have HO198 := n1_; have HO203 := n2_; have HO208 := n3_; have HB := n4_; clear n0_ n1_ n2_ n3_ n4_; (try clear hb); (try clear hb2); (try clear hk); (try clear hi); (try clear ho0)) | ((with_reducible refine gate_callee (f := 12) rfl ?_); refine goesL_ (some 62) rfl rfl Try.func12 (by kernel_rfl) rfl #[.int .i64 (rd y196 (ji15)), .int .u64 (rd y201 (ji19)), .slice Ao43 t193.length co43] rfl (by (try simp only [List.map_toArray, List.map_cons, List.map_nil]); first | done | (simp only [hji15, hji19]; rfl) | rfl | (simp only [List.length_drop, List.length_take]; rfl)) ?_; (with_reducible refine (kerbsuiteref4_Make.calls k1 (rd y196 (ji15)) (rd y201 (ji19)) _ _ t193 t209 t210 _ ?side1 ?side2 A23.out).mono ?_); (case side1 => repeat (first | exact (Kd.R_reads' HO_13.out).2.2 | (with_reducible refine Kd.C_alloc ?_ _) | (with_reducible refine Kd.C_drewN ?_ _) | (with_reducible refine Kd.C_drew ?_))); (case side2 => exact (Kd.R_reads' HO_13.out).2.1); rintro e w45 ⟨v211, rfl, ho0, hb⟩; refine ⟨_, rfl, ?_⟩; have n0_ := Aside0.mk (Kd.R_elder' (by (with_reducible repeat (first | apply Kd.R_alloc | apply Kd.R_drewN | apply Kd.R_drew)); exact HO_13.out) (Kd.R_base ho0) hb); have n1_ := Aside0.mk (Kd.R_below (by (with_reducible repeat (first | apply Kd.R_alloc | apply Kd.R_drewN | apply Kd.R_drew)); exact HO198.out) hb); have n2_ := Aside0.mk (Kd.R_below (by (with_reducible repeat (first | apply Kd.R_alloc | apply Kd.R_drewN | apply Kd.R_drew)); exact HO203.out) hb); have n3_ := Aside0.mk (Kd.R_elder' (by (with_reducible repeat (first | apply Kd.R_alloc | apply Kd.R_drewN | apply Kd.R_drew)); exact HO208.out) (Kd.R_base ho0) hb); have n4_ := Aside0.mk (Kd.R_lower (Kd.R_new' (Kd.R_new' ho0 (Kd.R_lt (by (with_reducible repeat (first | apply Kd.R_alloc | apply Kd.R_drewN | apply Kd.R_drew)); exact HO_13.out))) (Kd.R_lt (by (with_reducible repeat (first | apply Kd.R_alloc | apply Kd.R_drewN | apply Kd.R_drew)); exact HO208.out))) (below_size (by repeat (first | (with_reducible first | exact HB.out | apply below_alloc | apply pw_below_drewN | apply below_drew1) | exact HB.out)))); have n5_ := Aside0.mk (below_step (by repeat (first | (with_reducible first | exact HB.out | apply below_alloc | apply pw_below_drewN | apply below_drew1) | exact HB.out)) hb); clear HO_13; clear HO198; clear HO203; clear HO208; clear HB; have HO_13 := n0_; have HO198 := n1_; have HO203 := n2_; have HO208 := n3_; have HO212 := n4_; have HB := n5_; clear n0_ n1_ n2_ n3_ n4_ n5_; (try clear hb); (try clear hb2); (try clear hk); (try clear hi); (try clear ho0); have hcv46 := own_string (P := Try.prog) Try.underlying24 Try.underlying5 Try.underlying9 (Kd.own_of_R HO208.out); have hcv47 := own_string (P := Try.prog) Try.underlying24 Try.underlying5 Try.underlying9 (Kd.own_of_R HO212.out)))
            go_ret
            exact ⟨by first | rfl | (simp [errW_none, errW_some] <;> rfl) | (simp only [← hji15, ← hji19]; first | rfl | (simp [errW_none, errW_some] <;> rfl)) | (simp [*, errW_none, errW_some] <;> rfl), by repeat (first | (with_reducible first | exact HB.out | apply below_alloc | apply pw_below_drewN | apply below_drew1) | exact HB.out)⟩
          ·rw [if_neg c24] at H
           have c24b0 : ((strOfNums t205).toList == (strOfNums t209).toList) = false := beq_eq_false_iff_ne.mpr c24
           have c24b1 : ((strOfNums t205).toList != (strOfNums t209).toList) = true := bne_iff_ne.mpr c24
           obtain rfl := Option.some.inj H
           go_wp2_with (first | ((with_reducible refine gate_dst (N := 37) rfl ?_); refine Kd.R_lit (Kd.int .i64) _ 3 ?hg (N := 37) ?hd (xs := ([a0, Int.tmod (wrap64 (a3)) 12] : List Int)) (inner := [.int .i64 a0, .int .i64 (Int.tmod (wrap64 (a3)) 12)]) (ok := fun _ => True) (okp := fun _ => True) ?hr ?hp (fun _ hk => hk) trivial (Below.refl _ _) (Nat.le_refl _) (by simp) ?_; (case hd => rfl); (case hg => rfl); (case hr => first | (go_simp; done) | (go_simp; rfl)); (case hp => exact (Reps.one (show Kd.M (Kd.int .i64) _ _ _ a0 [.int .i64 a0] from rfl) (Reps.one (show Kd.M (Kd.int .i64) _ _ _ (Int.tmod (wrap64 (a3)) 12) [.int .i64 (Int.tmod (wrap64 (a3)) 12)] from rfl) (Reps.none _ _)))); intro v197 w48 ho49 hb hg_ hnew_; clear hg_ hnew_; (first | rw [← Ny196.out] at ho49 | (simp only [Int.reduceToNat] at ho49; rw [← Ny196.out] at ho49)); have n0_ := Aside0.mk (Kd.R_below (by (with_reducible repeat (first | apply Kd.R_alloc | apply Kd.R_drewN | apply Kd.R_drew)); exact HO_13.out) hb); have n1_ := Aside0.mk (Kd.R_lower ho49 (below_size (by repeat (first | (with_reducible first | exact HB.out | apply below_alloc | apply pw_below_drewN | apply below_drew1) | exact HB.out)))); have n2_ := Aside0.mk (below_step (by repeat (first | (with_reducible first | exact HB.out | apply below_alloc | apply pw_below_drewN | apply below_drew1) | exact HB.out)) hb); clear HO_13; clear HB; have HO_13 := n0_; have HO198 := n1_; have HB := n2_; clear n0_ n1_ n2_; clear hb ho49; obtain ⟨Ao50, co50, eo50⟩ := Kd.R_slice HO198.out; subst eo50; have p199 : 0 ≤ ((ji15) : Int) := of_decide_eq_true (by first | (with_reducible assumption) | assumption); have q199 : (ji15) < (y196.length : Int) := of_decide_eq_true (by first | (with_reducible assumption) | assumption); obtain ⟨ad199, e199, hx199_0⟩ := Kd.at_int (Kd.R_reads' HO198.out).2.2 (ji15) p199 q199; cases e199; replace p199 := eq_true p199; replace q199 := eq_true q199) | ((with_reducible refine gate_callee (f := 10) rfl ?_); refine goesL_ (some 45) rfl rfl Try.func10 (by kernel_rfl) rfl #[.int .i64 (wrap64 (a4))] rfl (by (try simp only [List.map_toArray, List.map_cons, List.map_nil]); first | done | rfl | (simp only [List.length_drop, List.length_take]; rfl)) ?_; (with_reducible refine (kerbsuitedata_Long.calls (wrap64 (a4)) t200 _ A18.out).mono ?_); rintro e w' ⟨rfl, ⟨nd, rfl⟩⟩; refine ⟨_, rfl, ?_⟩) | ((with_reducible refine gate_dst (N := 46) rfl ?_); refine Kd.R_lit (Kd.int .u64) _ 23 ?hg (N := 46) ?hd (xs := ([a1, t200] : List Int)) (inner := [.int .u64 a1, .int .u64 t200]) (ok := fun _ => True) (okp := fun _ => True) ?hr ?hp (fun _ hk => hk) trivial (Below.refl _ _) (Nat.le_refl _) (by simp) ?_; (case hd => rfl); (case hg => rfl); (case hr => first | (go_simp; done) | (go_simp; rfl)); (case hp => exact (Reps.one (show Kd.M (Kd.int .u64) _ _ _ a1 [.int .u64 a1] from rfl) (Reps.one (show Kd.M (Kd.int .u64) _ _ _ t200 [.int .u64 t200] from rfl) (Reps.none _ _)))); intro v202 w51 ho52 hb hg_ hnew_; clear hg_ hnew_; (first | rw [← Ny201.out] at ho52 | (simp only [Int.reduceToNat] at ho52; rw [← Ny201.out] at ho52)); have n0_ := Aside0.mk (Kd.R_below (by (with_reducible repeat (first | apply Kd.R_alloc | apply Kd.R_drewN | apply Kd.R_drew)); exact HO_13.out) hb); have n1_ := Aside0.mk (Kd.R_below (by (with_reducible repeat (first | apply Kd.R_alloc | apply Kd.R_drewN | apply Kd.R_drew)); exact HO198.out) hb); have n2_ := Aside0.mk (Kd.R_lower ho52 (below_size (by repeat (first | (with_reducible first | exact HB.out | apply below_alloc | apply pw_below_drewN | apply below_drew1) | exact HB.out)))); have n3_ := Aside0.mk (below_step (by repeat (first | (with_reducible first | exact HB.out | apply below_alloc | apply pw_below_drewN | apply below_drew1) | exact HB.out)) hb); clear HO_13; clear HO198; clear HB; have HO_13 := n0_; have HO198 := n1_; have HO203 := n2_; have HB := n3_; clear n0_ n1_ n2_ n3_; clear hb ho52; obtain ⟨Ao53, co53, eo53⟩ := Kd.R_slice HO203.out; subst eo53; have p204 : 0 ≤ ((ji19) : Int) := of_decide_eq_true (by first | (with_reducible assumption) | assumption); have q204 : (ji19) < (y201.length : Int) := of_decide_eq_true (by first | (with_reducible assumption) | assumption); obtain ⟨ad204, e204, hx204_0⟩ := Kd.at_int (Kd.R_reads' HO203.out).2.2 (ji19) p204 q204; cases e204; replace p204 := eq_true p204; replace q204 := eq_true q204; obtain ⟨Ao54, co54, eo54⟩ := Kd.R_slice HO_13.out; subst eo54) | ((with_reducible refine gate_callee (f := 11) rfl ?_); refine goesL_ (some 55) rfl rfl Try.func11 (by kernel_rfl) rfl #[.int .i64 (rd y196 (ji15)), .int .u64 (rd y201 (ji19)), .slice Ao54 t193.length co54] rfl (by (try simp only [List.map_toArray, List.map_cons, List.map_nil]); first | done | (simp only [hji15, hji19]; rfl) | rfl | (simp only [List.length_drop, List.length_take]; rfl)) ?_; (with_reducible refine (box_Make.calls k1 (rd y196 (ji15)) (rd y201 (ji19)) _ _ t193 t205 t206 _ ?side1 ?side2 A22.out).mono ?_); (case side1 => repeat (first | exact (Kd.R_reads' HO_13.out).2.2 | (with_reducible refine Kd.C_alloc ?_ _) | (with_reducible refine Kd.C_drewN ?_ _) | (with_reducible refine Kd.C_drew ?_))); (case side2 => exact (Kd.R_reads' HO_13.out).2.1); rintro e w55 ⟨v207, rfl, ho0, hb⟩; refine ⟨_, rfl, ?_⟩; have n0_ := Aside0.mk (Kd.R_elder' (by (with_reducible repeat (first | apply Kd.R_alloc | apply Kd.R_drewN | apply Kd.R_drew)); exact HO_13.out) (Kd.R_base ho0) hb); have n1_ := Aside0.mk (Kd.R_below (by (with_reducible repeat (first | apply Kd.R_alloc | apply Kd.R_drewN | apply Kd.R_drew)); exact HO198.out) hb); have n2_ := Aside0.mk (Kd.R_below (by (with_reducible repeat (first | apply Kd.R_alloc | apply Kd.R_drewN | apply Kd.R_drew)); exact HO203.out) hb); have n3_ := Aside0.mk (Kd.R_lower (Kd.R_new' ho0 (Kd.R_lt (by (with_reducible repeat (first | apply Kd.R_alloc | apply Kd.R_drewN | apply Kd.R_drew)); exact HO_13.out))) (below_size (by repeat (first | (with_reducible first | exact HB.out | apply below_alloc | apply pw_below_drewN | apply below_drew1) | exact HB.out)))); have n4_ := Aside0.mk (below_step (by repeat (first | (with_reducible first | exact HB.out | apply below_alloc | apply pw_below_drewN | apply below_drew1) | exact HB.out)) hb); clear HO_13; clear HO198; clear HO203; clear HB; have HO_13 := n0_; have HO198 := n1_; have HO203 := n2_; have HO208 := n3_; have HB := n4_; clear n0_ n1_ n2_ n3_ n4_; (try clear hb); (try clear hb2); (try clear hk); (try clear hi); (try clear ho0)) | ((with_reducible refine gate_callee (f := 12) rfl ?_); refine goesL_ (some 62) rfl rfl Try.func12 (by kernel_rfl) rfl #[.int .i64 (rd y196 (ji15)), .int .u64 (rd y201 (ji19)), .slice Ao54 t193.length co54] rfl (by (try simp only [List.map_toArray, List.map_cons, List.map_nil]); first | done | (simp only [hji15, hji19]; rfl) | rfl | (simp only [List.length_drop, List.length_take]; rfl)) ?_; (with_reducible refine (kerbsuiteref4_Make.calls k1 (rd y196 (ji15)) (rd y201 (ji19)) _ _ t193 t209 t210 _ ?side1 ?side2 A23.out).mono ?_); (case side1 => repeat (first | exact (Kd.R_reads' HO_13.out).2.2 | (with_reducible refine Kd.C_alloc ?_ _) | (with_reducible refine Kd.C_drewN ?_ _) | (with_reducible refine Kd.C_drew ?_))); (case side2 => exact (Kd.R_reads' HO_13.out).2.1); rintro e w56 ⟨v211, rfl, ho0, hb⟩; refine ⟨_, rfl, ?_⟩; have n0_ := Aside0.mk (Kd.R_elder' (by (with_reducible repeat (first | apply Kd.R_alloc | apply Kd.R_drewN | apply Kd.R_drew)); exact HO_13.out) (Kd.R_base ho0) hb); have n1_ := Aside0.mk (Kd.R_below (by (with_reducible repeat (first | apply Kd.R_alloc | apply Kd.R_drewN | apply Kd.R_drew)); exact HO198.out) hb); have n2_ := Aside0.mk (Kd.R_below (by (with_reducible repeat (first | apply Kd.R_alloc | apply Kd.R_drewN | apply Kd.R_drew)); exact HO203.out) hb); have n3_ := Aside0.mk (Kd.R_elder' (by (with_reducible repeat (first | apply Kd.R_alloc | apply Kd.R_drewN | apply Kd.R_drew)); exact HO208.out) (Kd.R_base ho0) hb); have n4_ := Aside0.mk (Kd.R_lower (Kd.R_new' (Kd.R_new' ho0 (Kd.R_lt (by (with_reducible repeat (first | apply Kd.R_alloc | apply Kd.R_drewN | apply Kd.R_drew)); exact HO_13.out))) (Kd.R_lt (by (with_reducible repeat (first | apply Kd.R_alloc | apply Kd.R_drewN | apply Kd.R_drew)); exact HO208.out))) (below_size (by repeat (first | (with_reducible first | exact HB.out | apply below_alloc | apply pw_below_drewN | apply below_drew1) | exact HB.out)))); have n5_ := Aside0.mk (below_step (by repeat (first | (with_reducible first | exact HB.out | apply below_alloc | apply pw_below_drewN | apply below_drew1) | exact HB.out)) hb); clear HO_13; clear HO198; clear HO203; clear HO208; clear HB; have HO_13 := n0_; have HO198 := n1_; have HO203 := n2_; have HO208 := n3_; have HO212 := n4_; have HB := n5_; clear n0_ n1_ n2_ n3_ n4_ n5_; (try clear hb); (try clear hb2); (try clear hk); (try clear hi); (try clear ho0); have hcv57 := own_string (P := Try.prog) Try.underlying24 Try.underlying5 Try.underlying9 (Kd.own_of_R HO208.out); have hcv58 := own_string (P := Try.prog) Try.underlying24 Try.underlying5 Try.underlying9 (Kd.own_of_R HO212.out)))
           go_ret
           exact ⟨by first | rfl | (simp [errW_none, errW_some] <;> rfl) | (simp only [← hji15, ← hji19]; first | rfl | (simp [errW_none, errW_some] <;> rfl)) | (simp [*, errW_none, errW_some] <;> rfl), by repeat (first | (with_reducible first | exact HB.out | apply below_alloc | apply pw_below_drewN | apply below_drew1) | exact HB.out)⟩
         ·rw [if_neg c21] at H
          exact absurd H (by simp)
        ·rw [if_neg c20] at H
         exact absurd H (by simp)
       ·rw [if_neg c17] at H
        exact absurd H (by simp)
      ·rw [if_neg c16] at H
       exact absurd H (by simp)
     ·rw [if_neg c14] at H
      have c14b0 : decide (x14_1 < 4) = false := decide_eq_false c14
      clear c14
      obtain rfl := Option.some.inj H
      go_wp2
      go_ret
      exact ⟨by first | rfl | (simp [errW_none, errW_some] <;> rfl) | (simp [*, errW_none, errW_some] <;> rfl), by repeat (first | (with_reducible first | exact HB.out | apply below_alloc | apply pw_below_drewN | apply below_drew1) | exact HB.out)⟩
 ·replace c8 := Bool.eq_false_iff.mpr c8
  subst c8
  have H1 : (some false) = some r := by rw [if_neg (show ¬ (false = true) by decide)] at H; exact H
  clear H
  have H := H1
  clear H1
  obtain rfl := Option.some.inj H
  go_enter Try.func3, Try.ntmps3
  go_wp2_with (first | ((with_reducible refine gate_callee (f := 8) rfl ?_); refine goesL_ (some 21) rfl rfl Try.func8 (by kernel_rfl) rfl #[] rfl (by (try simp only [List.map_toArray, List.map_cons, List.map_nil]); first | done | rfl | (simp only [List.length_drop, List.length_take]; rfl)) ?_; (with_reducible refine (kerbsuitelaw4_awake.calls k  false _ A7.out).mono ?_); rintro e w59 ⟨rfl, hb⟩; refine ⟨_, rfl, ?_⟩; have n0_ := Aside0.mk (below_step (by repeat (first | (with_reducible first | exact HB.out | apply below_alloc | apply pw_below_drewN | apply below_drew1) | exact HB.out)) hb); clear HB; have HB := n0_; clear n0_; (try clear hb); (try clear hb2); (try clear hk); (try clear hi)))
  go_ret
  exact ⟨by first | rfl | (simp [errW_none, errW_some] <;> rfl) | (simp [*, errW_none, errW_some] <;> rfl), by repeat (first | (with_reducible first | exact HB.out | apply below_alloc | apply pw_below_drewN | apply below_drew1) | exact HB.out)⟩

/-- The one plain statement that is left of kerbsuitelaw4_BoxMakes. -/
def kerbsuitelaw4_BoxMakes.Pure : Prop := ∀ (a0 : Int) (a1 : Int) (l2 : List Int) (a3 : Int) (a4 : Int) (a5 : Int), (Lit.int .i64 a0).wf = true → (Lit.int .u64 a1).wf = true → l2.length ≤ maxLen → l2.length * 1 ≤ 140737488351232 → (∀ x ∈ l2, (Lit.int .u8 x).wf = true) → (Lit.int .u8 a3).wf = true → (Lit.int .u8 a4).wf = true → (Lit.int .u16 a5).wf = true → ∃ k, kerbsuitelaw4_BoxMakes.f k a0 a1 l2 a3 a4 a5 = some true
theorem kerbsuitelaw4_BoxMakes.walk (P : kerbsuitelaw4_BoxMakes.Pure) (a0 : Int) (a1 : Int) (A2 : Option Addr) (c2 : Nat) (l2 : List Int) (a3 : Int) (a4 : Int) (a5 : Int) (w : World) (q0_0 : (Lit.int .i64 a0).wf = true) (q1_0 : (Lit.int .u64 a1).wf = true) (hr2 : Kd.C (Kd.int .u8) w A2 l2.length l2) (hc2 : l2.length ≤ c2) (q2_0 : l2.length ≤ maxLen) (q2_1 : l2.length * 1 ≤ 140737488351232) (q2_2 : (∀ x ∈ l2, (Lit.int .u8 x).wf = true)) (q3_0 : (Lit.int .u8 a3).wf = true) (q4_0 : (Lit.int .u8 a4).wf = true) (q5_0 : (Lit.int .u16 a5).wf = true) :
  Calls Try.prog 3 #[.int .i64 a0, .int .u64 a1, .slice A2 l2.length c2, .int .u8 a3, .int .u8 a4, .int .u16 a5] w fun e w' => e = .returned (.bool true) ∧ Below w.heap.size w w' := by
 obtain ⟨k, h⟩ := P a0 a1 l2 a3 a4 a5 q0_0 q1_0 q2_0 q2_1 q2_2 q3_0 q4_0 q5_0
 refine (kerbsuitelaw4_BoxMakes.calls k a0 a1 A2 c2 l2 a3 a4 a5 true w hr2 hc2 h).mono ?_
 rintro e w' ⟨rfl, hd⟩
 exact ⟨rfl, hd⟩

/-! ### kerbsuitedata_Session: function 13 -/
def kerbsuitedata_Session.f (a0 : Int) : Option (Int) := some (Go.bits .or .u64 144115188075855872 (IntKind.u64.wrap (wrap64 (1 + a0))))
set_option maxHeartbeats 8000000 in
set_option maxRecDepth 100000 in
theorem kerbsuitedata_Session.calls (a0 : Int) (r : Int) (w : World) (h : kerbsuitedata_Session.f a0 = some r) :
  Calls Try.prog 13 #[.int .i64 a0] w fun e w' => e = .returned (.int .u64 r) ∧ Drawn0 w w' := by
 have H : (some (Go.bits .or .u64 144115188075855872 (IntKind.u64.wrap (wrap64 (1 + a0))))) = some r := h
 clear h
 obtain rfl := Option.some.inj H
 go_enter Try.func13, Try.ntmps13
 go_wp2
 go_ret
 exact ⟨by first | rfl | (simp; done) | (simp [*]; done), by repeat (first | exact Drawn0.refl _ | apply Drawn0.step)⟩

/-! ### kerbsuitedata_Spoil: function 14 -/
def kerbsuitedata_Spoil.f (l0 : List Int) (a1 : Int) : Option (List Int) := (some (([] : List Int) : List Int)).bind fun y213 => (if y213.length + l0.length < 140737488355328 then ((some (y213 ++ l0 : List Int)).bind fun y216 => (if (y216.length : Int) = 0 then (some y216) else (if (Int.tmod a1 4) = 0 then (if 0 ≤ (Int.tmod (wrap64 (IntKind.u16.wrap (Int.tdiv a1 8))) (y216.length : Int)) then (if (Int.tmod (wrap64 (IntKind.u16.wrap (Int.tdiv a1 8))) (y216.length : Int)) < (y216.length : Int) then (if 0 ≤ (IntKind.u64.wrap (Int.tmod a1 7)) then (some (y216.set ((Int.tmod (wrap64 (IntKind.u16.wrap (Int.tdiv a1 8))) (y216.length : Int)) : Int).toNat (Go.bits .xor .u8 (rd y216 (Int.tmod (wrap64 (IntKind.u16.wrap (Int.tdiv a1 8))) (y216.length : Int))) (shl .u8 1 (IntKind.u64.wrap (Int.tmod a1 7)))))) else (none)) else (none)) else (none)) else (if (Int.tmod a1 4) = 1 then (if 0 ≤ (Int.tmod (wrap64 (IntKind.u16.wrap (Int.tdiv a1 8))) (y216.length : Int)) then (if (Int.tmod (wrap64 (IntKind.u16.wrap (Int.tdiv a1 8))) (y216.length : Int)) ≤ (y216.length : Int) then (if 0 ≤ (wrap64 ((Int.tmod (wrap64 (IntKind.u16.wrap (Int.tdiv a1 8))) (y216.length : Int)) + 1)) then (if (wrap64 ((Int.tmod (wrap64 (IntKind.u16.wrap (Int.tdiv a1 8))) (y216.length : Int)) + 1)) ≤ (y216.length : Int) then (some (y216.eraseIdx ((Int.tmod (wrap64 (IntKind.u16.wrap (Int.tdiv a1 8))) (y216.length : Int)) : Int).toNat)) else (none)) else (none)) else (none)) else (none)) else (if (Int.tmod a1 4) = 2 then (if y216.length < 140737488355328 then (some (y216 ++ [(a1) % 256])) else (none)) else (some y216)))))) else (none))
def kerbsuitedata_Spoil.T9 : Bool × List (List Nat × List Nat) := (true,[([], []), ([], []), ([0, 1], [0, 1]), ([], []), ([], []), ([4], [4]), ([3, 5], [3, 5]), ([2, 6], [2, 6]), ([7, 7, 0, 1, 2, 3, 4, 5, 6, 7], [0, 3, 7])])
def kerbsuitedata_Spoil.B9 : List Nat := [0, 0, 3, 0, 0, 16, 56, 127, 255]
theorem kerbsuitedata_Spoil.tab9 : rtab .any (opsOf Try.f14 9) = kerbsuitedata_Spoil.T9 := by kernel_rfl
theorem kerbsuitedata_Spoil.bits9 : waitsOk kerbsuitedata_Spoil.T9.2 kerbsuitedata_Spoil.B9 = true := by kernel_rfl
set_option maxHeartbeats 8000000 in
set_option maxRecDepth 100000 in
theorem kerbsuitedata_Spoil.calls (A0 : Option Addr) (c0 : Nat) (l0 : List Int) (a1 : Int) (r : List Int) (w : World) (hr0 : Kd.C (Kd.int .u8) w A0 l0.length l0) (hc0 : l0.length ≤ c0) (h : kerbsuitedata_Spoil.f l0 a1 = some r) :
  Calls Try.prog 14 #[.slice A0 l0.length c0, .int .u16 a1] w fun e w' => ∃ v0_ : Value, e = .returned (v0_) ∧ Kd.R (Kd.int .u8) 5 w' w.heap.size (fun _ => True) v0_ r ∧ Below w.heap.size w w' := by
 have HR0 := Aside0.mk hr0
 have HC0 := Aside0.mk hc0
 clear hr0 hc0
 have HB := Aside0.mk (Below.refl w.heap.size w)
 have H : ((some (([] : List Int) : List Int)).bind fun y213 => (if y213.length + l0.length < 140737488355328 then ((some (y213 ++ l0 : List Int)).bind fun y216 => (if (y216.length : Int) = 0 then (some y216) else (if (Int.tmod a1 4) = 0 then (if 0 ≤ (Int.tmod (wrap64 (IntKind.u16.wrap (Int.tdiv a1 8))) (y216.length : Int)) then (if (Int.tmod (wrap64 (IntKind.u16.wrap (Int.tdiv a1 8))) (y216.length : Int)) < (y216.length : Int) then (if 0 ≤ (IntKind.u64.wrap (Int.tmod a1 7)) then (some (y216.set ((Int.tmod (wrap64 (IntKind.u16.wrap (Int.tdiv a1 8))) (y216.length : Int)) : Int).toNat (Go.bits .xor .u8 (rd y216 (Int.tmod (wrap64 (IntKind.u16.wrap (Int.tdiv a1 8))) (y216.length : Int))) (shl .u8 1 (IntKind.u64.wrap (Int.tmod a1 7)))))) else (none)) else (none)) else (none)) else (if (Int.tmod a1 4) = 1 then (if 0 ≤ (Int.tmod (wrap64 (IntKind.u16.wrap (Int.tdiv a1 8))) (y216.length : Int)) then (if (Int.tmod (wrap64 (IntKind.u16.wrap (Int.tdiv a1 8))) (y216.length : Int)) ≤ (y216.length : Int) then (if 0 ≤ (wrap64 ((Int.tmod (wrap64 (IntKind.u16.wrap (Int.tdiv a1 8))) (y216.length : Int)) + 1)) then (if (wrap64 ((Int.tmod (wrap64 (IntKind.u16.wrap (Int.tdiv a1 8))) (y216.length : Int)) + 1)) ≤ (y216.length : Int) then (some (y216.eraseIdx ((Int.tmod (wrap64 (IntKind.u16.wrap (Int.tdiv a1 8))) (y216.length : Int)) : Int).toNat)) else (none)) else (none)) else (none)) else (none)) else (if (Int.tmod a1 4) = 2 then (if y216.length < 140737488355328 then (some (y216 ++ [(a1) % 256])) else (none)) else (some y216)))))) else (none))) = some r := h
 clear h
 obtain ⟨y213, hy213⟩ : ∃ y_ : List Int, y_ = (([] : List Int)) := ⟨_, rfl⟩
 replace H : (if y213.length + l0.length < 140737488355328 then ((some (y213 ++ l0 : List Int)).bind fun y216 => (if (y216.length : Int) = 0 then (some y216) else (if (Int.tmod a1 4) = 0 then (if 0 ≤ (Int.tmod (wrap64 (IntKind.u16.wrap (Int.tdiv a1 8))) (y216.length : Int)) then (if (Int.tmod (wrap64 (IntKind.u16.wrap (Int.tdiv a1 8))) (y216.length : Int)) < (y216.length : Int) then (if 0 ≤ (IntKind.u64.wrap (Int.tmod a1 7)) then (some (y216.set ((Int.tmod (wrap64 (IntKind.u16.wrap (Int.tdiv a1 8))) (y216.length : Int)) : Int).toNat (Go.bits .xor .u8 (rd y216 (Int.tmod (wrap64 (IntKind.u16.wrap (Int.tdiv a1 8))) (y216.length : Int))) (shl .u8 1 (IntKind.u64.wrap (Int.tmod a1 7)))))) else (none)) else (none)) else (none)) else (if (Int.tmod a1 4) = 1 then (if 0 ≤ (Int.tmod (wrap64 (IntKind.u16.wrap (Int.tdiv a1 8))) (y216.length : Int)) then (if (Int.tmod (wrap64 (IntKind.u16.wrap (Int.tdiv a1 8))) (y216.length : Int)) ≤ (y216.length : Int) then (if 0 ≤ (wrap64 ((Int.tmod (wrap64 (IntKind.u16.wrap (Int.tdiv a1 8))) (y216.length : Int)) + 1)) then (if (wrap64 ((Int.tmod (wrap64 (IntKind.u16.wrap (Int.tdiv a1 8))) (y216.length : Int)) + 1)) ≤ (y216.length : Int) then (some (y216.eraseIdx ((Int.tmod (wrap64 (IntKind.u16.wrap (Int.tdiv a1 8))) (y216.length : Int)) : Int).toNat)) else (none)) else (none)) else (none)) else (none)) else (if (Int.tmod a1 4) = 2 then (if y216.length < 140737488355328 then (some (y216 ++ [(a1) % 256])) else (none)) else (some y216)))))) else (none)) = some r := by first | (rw [hy213]; with_reducible exact H) | (have H2_ := (Option.bind_some _ _).symm.trans H; rw [hy213]; with_reducible exact H2_) | (have H2_ := (Option.bind_some _ _).symm.trans H; with_reducible exact H2_) | with_reducible exact H | (rw [hy213]; exact H) | exact H
 have Ny213 := Aside0.mk hy213
 clear hy213
 by_cases c3 : y213.length + l0.length < 140737488355328
 ·rw [if_pos c3] at H
  have LMc3 := Aside0.mk c3
  clear c3
  obtain ⟨y216, hy216⟩ : ∃ y_ : List Int, y_ = (y213 ++ l0) := ⟨_, rfl⟩
  replace H : (if (y216.length : Int) = 0 then (some y216) else (if (Int.tmod a1 4) = 0 then (if 0 ≤ (Int.tmod (wrap64 (IntKind.u16.wrap (Int.tdiv a1 8))) (y216.length : Int)) then (if (Int.tmod (wrap64 (IntKind.u16.wrap (Int.tdiv a1 8))) (y216.length : Int)) < (y216.length : Int) then (if 0 ≤ (IntKind.u64.wrap (Int.tmod a1 7)) then (some (y216.set ((Int.tmod (wrap64 (IntKind.u16.wrap (Int.tdiv a1 8))) (y216.length : Int)) : Int).toNat (Go.bits .xor .u8 (rd y216 (Int.tmod (wrap64 (IntKind.u16.wrap (Int.tdiv a1 8))) (y216.length : Int))) (shl .u8 1 (IntKind.u64.wrap (Int.tmod a1 7)))))) else (none)) else (none)) else (none)) else (if (Int.tmod a1 4) = 1 then (if 0 ≤ (Int.tmod (wrap64 (IntKind.u16.wrap (Int.tdiv a1 8))) (y216.length : Int)) then (if (Int.tmod (wrap64 (IntKind.u16.wrap (Int.tdiv a1 8))) (y216.length : Int)) ≤ (y216.length : Int) then (if 0 ≤ (wrap64 ((Int.tmod (wrap64 (IntKind.u16.wrap (Int.tdiv a1 8))) (y216.length : Int)) + 1)) then (if (wrap64 ((Int.tmod (wrap64 (IntKind.u16.wrap (Int.tdiv a1 8))) (y216.length : Int)) + 1)) ≤ (y216.length : Int) then (some (y216.eraseIdx ((Int.tmod (wrap64 (IntKind.u16.wrap (Int.tdiv a1 8))) (y216.length : Int)) : Int).toNat)) else (none)) else (none)) else (none)) else (none)) else (if (Int.tmod a1 4) = 2 then (if y216.length < 140737488355328 then (some (y216 ++ [(a1) % 256])) else (none)) else (some y216))))) = some r := by first | (rw [hy216]; with_reducible exact H) | (have H2_ := (Option.bind_some _ _).symm.trans H; rw [hy216]; with_reducible exact H2_) | (have H2_ := (Option.bind_some _ _).symm.trans H; with_reducible exact H2_) | with_reducible exact H | (rw [hy216]; exact H) | exact H
  have Ny216 := Aside0.mk hy216
  clear hy216
  by_cases c4 : (y216.length : Int) = 0
  ·rw [if_pos c4] at H
   have c4b0 : ((y216.length : Int) == 0) = true := beq_iff_eq.mpr c4
   have c4b1 : ((y216.length : Int) != 0) = false := bne_eq_false_iff_eq.mpr c4
   clear c4
   obtain rfl := Option.some.inj H
   go_enter Try.func14, Try.ntmps14
   go_wp2_with (first | ((with_reducible refine gate_dst (N := 7) rfl ?_); refine Kd.R_lit (Kd.int .u8) _ 5 ?hg (N := 7) ?hd (xs := ([] : List Int)) (inner := []) (ok := fun _ => True) (okp := fun _ => True) ?hr ?hp (fun _ hk => hk) trivial (Below.refl _ _) (Nat.le_refl _) (by simp) ?_; (case hd => rfl); (case hg => rfl); (case hr => first | (go_simp; done) | (go_simp; rfl)); (case hp => exact (Reps.none _ _)); intro v214 w5 ho6 hb hg_ hnew_; clear hg_ hnew_; (first | rw [← Ny213.out] at ho6 | (simp only [Int.reduceToNat] at ho6; rw [← Ny213.out] at ho6)); have n0_ := Aside0.mk (Kd.R_lower ho6 (below_size (by repeat (first | (with_reducible first | exact HB.out | apply below_alloc | apply pw_below_drewN | apply below_drew1) | exact HB.out)))); have n1_ := Aside0.mk (below_step (by repeat (first | (with_reducible first | exact HB.out | apply below_alloc | apply pw_below_drewN | apply below_drew1) | exact HB.out)) hb); clear HB; have HO215 := n0_; have HB := n1_; clear n0_ n1_; clear hb ho6) | ((with_reducible refine gate_builtin (b := .append) (xs := #[.tmp 7, .tmp 8]) rfl ?_); at_builtin; refine Kd.R_append_rows (Kd.int .u8) (w0 := w) w.heap.size rfl (.tmp 7) (.tmp 8) 24 5 (.int .u8 0) 1 rfl Try.underlying24 info5 rfl (by decide) (by omega) v214 y213 l0 _ _ _ (fun _ => True) (fun _ => False) rfl rfl ?aO ?aR (fun _ _ h => h) (fun _ h => h.elim) ?aF ?aB ?aS ?aL ?_; (case aR => repeat (first | exact (Kd.C_below HR0.out HB.out) | (with_reducible refine Kd.C_alloc ?_ _) | (with_reducible refine Kd.C_drewN ?_ _) | (with_reducible refine Kd.C_drew ?_))); (case aB => exact (by repeat (first | (with_reducible first | exact HB.out | apply below_alloc | apply pw_below_drewN | apply below_drew1) | exact HB.out))); (case aF => exact (fun _ _ => trivial)); (case aO => exact (by (with_reducible repeat (first | apply Kd.R_alloc | apply Kd.R_drewN | apply Kd.R_drew)); exact HO215.out)); (case aS => exact (below_size (by repeat (first | (with_reducible first | exact HB.out | apply below_alloc | apply pw_below_drewN | apply below_drew1) | exact HB.out)))); (case aL => have := LMc3.out; omega); intro v217 w7 ho hb hg hat; rw [← Ny216.out] at ho; have n0_ := Aside0.mk (hb); have n1_ := Aside0.mk (ho); clear HB; clear HO215; have HB := n0_; have HO218 := n1_; clear n0_ n1_; clear ho hb hg hat; obtain ⟨Ao8, co8, eo8⟩ := Kd.R_slice HO218.out; subst eo8))
   go_ret
   exact ⟨_, by first | rfl | (simp [errW_none, errW_some] <;> rfl) | (simp [*, errW_none, errW_some] <;> rfl), by (with_reducible repeat (first | apply Kd.R_alloc | apply Kd.R_drewN | apply Kd.R_drew)); exact HO218.out, by repeat (first | (with_reducible first | exact HB.out | apply below_alloc | apply pw_below_drewN | apply below_drew1) | exact HB.out)⟩
  ·rw [if_neg c4] at H
   have c4b0 : ((y216.length : Int) == 0) = false := beq_eq_false_iff_ne.mpr c4
   have c4b1 : ((y216.length : Int) != 0) = true := bne_iff_ne.mpr c4
   have c4b2 : ¬ (y216 = []) := fun h_ => c4 (by rw [h_]; rfl)
   by_cases c9 : (Int.tmod a1 4) = 0
   ·rw [if_pos c9] at H
    have c9b0 : ((Int.tmod a1 4) == 0) = true := beq_iff_eq.mpr c9
    have c9b1 : ((Int.tmod a1 4) != 0) = false := bne_eq_false_iff_eq.mpr c9
    clear c9
    obtain ⟨ji10, hji10⟩ : ∃ j_ : Int, (Int.tmod (wrap64 (IntKind.u16.wrap (Int.tdiv a1 8))) (y216.length : Int)) = j_ := ⟨_, rfl⟩
    replace H : (if 0 ≤ (ji10) then (if (ji10) < (y216.length : Int) then (if 0 ≤ (IntKind.u64.wrap (Int.tmod a1 7)) then (some (y216.set ((ji10) : Int).toNat (Go.bits .xor .u8 (rd y216 (ji10)) (shl .u8 1 (IntKind.u64.wrap (Int.tmod a1 7)))))) else (none)) else (none)) else (none)) = some r := by first | (rw [hji10] at H; exact H) | (simp only [hji10] at H ⊢; exact H)
    by_cases c11 : 0 ≤ (ji10)
    ·rw [if_pos c11] at H
     have c11b0 : decide (0 ≤ (ji10)) = true := decide_eq_true c11
     clear c11
     by_cases c12 : (ji10) < (y216.length : Int)
     ·rw [if_pos c12] at H
      have c12b0 : decide ((ji10) < (y216.length : Int)) = true := decide_eq_true c12
      clear c12
      obtain ⟨ji13, hji13⟩ : ∃ j_ : Int, (IntKind.u64.wrap (Int.tmod a1 7)) = j_ := ⟨_, rfl⟩
      replace H : (if 0 ≤ (ji13) then (some (y216.set ((ji10) : Int).toNat (Go.bits .xor .u8 (rd y216 (ji10)) (shl .u8 1 (ji13))))) else (none)) = some r := by first | (rw [hji13] at H; exact H) | (simp only [hji13] at H ⊢; exact H)
      by_cases c14 : 0 ≤ (ji13)
      ·rw [if_pos c14] at H
       have c14b0 := eq_true c14
       have c14b1 : decide (0 ≤ (ji13)) = true := decide_eq_true c14
       clear c14
       obtain ⟨ji15, hji15⟩ : ∃ j_ : Int, (shl .u8 1 (ji13)) = j_ := ⟨_, rfl⟩
       replace H : (some (y216.set ((ji10) : Int).toNat (Go.bits .xor .u8 (rd y216 (ji10)) (ji15)))) = some r := by first | (rw [hji15] at H; exact H) | (simp only [hji15] at H ⊢; exact H)
       have hji15_ : (IntKind.u8.wrap (1 * 2 ^ min (ji13).toNat 8)) = ji15 := hji15
       have hji15z : (ji13) ≤ 8 → (IntKind.u8.wrap (1 * 2 ^ (ji13).toNat)) = ji15 := shl_small hji15
       have hji15u : (IntKind.u8.wrap (2 ^ min (ji13).toNat 8)) = ji15 := by have h_ := hji15_; rw [Int.one_mul] at h_; exact h_
       have hji15v : (ji13) ≤ 8 → (IntKind.u8.wrap (2 ^ (ji13).toNat)) = ji15 := fun hle_ => by have h_ := hji15z hle_; rw [Int.one_mul] at h_; exact h_
       obtain ⟨y220, hy220⟩ : ∃ y_ : List Int, y_ = (y216.set ((ji10) : Int).toNat (Go.bits .xor .u8 (rd y216 (ji10)) (ji15))) := ⟨_, rfl⟩
       replace H : (some y220) = some r := by first | (rw [hy220]; with_reducible exact H) | (have H2_ := (Option.bind_some _ _).symm.trans H; rw [hy220]; with_reducible exact H2_) | (have H2_ := (Option.bind_some _ _).symm.trans H; with_reducible exact H2_) | with_reducible exact H | (rw [hy220]; exact H) | exact H
       have Ny220 := Aside0.mk hy220
       clear hy220
       obtain rfl := Option.some.inj H
       go_enter Try.func14, Try.ntmps14
       go_wp2_with (first | ((with_reducible refine gate_dst (N := 7) rfl ?_); refine Kd.R_lit (Kd.int .u8) _ 5 ?hg (N := 7) ?hd (xs := ([] : List Int)) (inner := []) (ok := fun _ => True) (okp := fun _ => True) ?hr ?hp (fun _ hk => hk) trivial (Below.refl _ _) (Nat.le_refl _) (by simp) ?_; (case hd => rfl); (case hg => rfl); (case hr => first | (go_simp; done) | (go_simp; rfl)); (case hp => exact (Reps.none _ _)); intro v214 w17 ho18 hb hg_ hnew_; clear hg_ hnew_; (first | rw [← Ny213.out] at ho18 | (simp only [Int.reduceToNat] at ho18; rw [← Ny213.out] at ho18)); have n0_ := Aside0.mk (Kd.R_lower ho18 (below_size (by repeat (first | (with_reducible first | exact HB.out | apply below_alloc | apply pw_below_drewN | apply below_drew1) | exact HB.out)))); have n1_ := Aside0.mk (below_step (by repeat (first | (with_reducible first | exact HB.out | apply below_alloc | apply pw_below_drewN | apply below_drew1) | exact HB.out)) hb); clear HB; have HO215 := n0_; have HB := n1_; clear n0_ n1_; clear hb ho18) | ((with_reducible refine gate_builtin (b := .append) (xs := #[.tmp 7, .tmp 8]) rfl ?_); at_builtin; refine Kd.R_append_rows (Kd.int .u8) (w0 := w) w.heap.size rfl (.tmp 7) (.tmp 8) 24 5 (.int .u8 0) 1 rfl Try.underlying24 info5 rfl (by decide) (by omega) v214 y213 l0 _ _ _ (fun _ => True) (fun _ => False) rfl rfl ?aO ?aR (fun _ _ h => h) (fun _ h => h.elim) ?aF ?aB ?aS ?aL ?_; (case aR => repeat (first | exact (Kd.C_below HR0.out HB.out) | (with_reducible refine Kd.C_alloc ?_ _) | (with_reducible refine Kd.C_drewN ?_ _) | (with_reducible refine Kd.C_drew ?_))); (case aB => exact (by repeat (first | (with_reducible first | exact HB.out | apply below_alloc | apply pw_below_drewN | apply below_drew1) | exact HB.out))); (case aF => exact (fun _ _ => trivial)); (case aO => exact (by (with_reducible repeat (first | apply Kd.R_alloc | apply Kd.R_drewN | apply Kd.R_drew)); exact HO215.out)); (case aS => exact (below_size (by repeat (first | (with_reducible first | exact HB.out | apply below_alloc | apply pw_below_drewN | apply below_drew1) | exact HB.out)))); (case aL => have := LMc3.out; omega); intro v217 w19 ho hb hg hat; rw [← Ny216.out] at ho; have n0_ := Aside0.mk (hb); have n1_ := Aside0.mk (ho); clear HB; clear HO215; have HB := n0_; have HO218 := n1_; clear n0_ n1_; clear ho hb hg hat; obtain ⟨Ao20, co20, eo20⟩ := Kd.R_slice HO218.out; subst eo20; have p219 : 0 ≤ ((ji10) : Int) := of_decide_eq_true (by first | (with_reducible assumption) | assumption); have q219 : (ji10) < (y216.length : Int) := of_decide_eq_true (by first | (with_reducible assumption) | assumption); obtain ⟨ad219, e219, hx219_0⟩ := Kd.at_int (Kd.R_reads' HO218.out).2.2 (ji10) p219 q219; cases e219; replace p219 := eq_true p219; replace q219 := eq_true q219; have p16 : 0 ≤ ((ji10) : Int) := of_decide_eq_true (by first | (with_reducible assumption) | assumption); have q16 : ((ji10) : Int) < ((y216.length : Int) : Int) := of_decide_eq_true (by first | (with_reducible assumption) | assumption); obtain ⟨go16, co16, eo16, gb16, gl16, cl16, HG16⟩ := Kd.R_form HO218.out (by omega); (first | cases eo16 | (injection eo16 with ea_ en_ ec_; (first | subst ea_ | (injection ea_ with ea_; subst ea_)); subst ec_; clear en_)); have GB16 := Aside0.mk gb16; have GG16 := Aside0.mk HG16; clear gb16 gl16 HG16; (first | simp only [add_plain] at hx219_0 | skip); obtain ⟨hx16_0, hf16_0⟩ := Kd.R_celln 0 HO218.out ((ji10) : Int) p16 q16; replace p16 := eq_true p16; replace q16 := eq_true q16; obtain ⟨hy21_, hz21_⟩ := Kd.R_celln 0 HO218.out ((ji10) : Int) (of_decide_eq_true (by first | (with_reducible assumption) | assumption)) (of_decide_eq_true (by first | (with_reducible assumption) | assumption)); have HP21 := Kd.R_putg HO218.out ((ji10) : Int) (Go.bits .xor .u8 (rd y216 (ji10)) (ji15))) | ((with_reducible refine gate_store (t := 5) (p := 33) rfl ?_); refine store_event (t := 5) (p := 33) (v := ?vo_w22) (w1 := (w19.setCell ⟨go16, ((ji10) : Int).toNat, none⟩ (.int .u8 (Go.bits .xor .u8 (rd y216 (ji10)) (ji15))))) ?hg ?ho ?hn ?hr ?_; (case ho => rfl); (case hg => rfl); (case hn => rfl); (case hr => first | (go_simp; done) | (go_simp; rfl)); intro w22 hw; have hg : w19.grownBy w22 (some go16) := (by rw [hw]; exact HP21.2); have hp_ : Kd.R (Kd.int .u8) 5 w22 w.heap.size (fun _ => True) (.slice (some ⟨go16, 0, none⟩) y216.length co20) y220 := (by rw [hw, Ny220.out]; exact HP21.1); clear HP21; have n0_ := Aside0.mk (hp_); have n1_ := Aside0.mk ((by rw [hw]; exact below_set (HB.out) GB16.out : Below w.heap.size w w22)); clear HO218; clear HB; have HO218 := n0_; have HB := n1_; clear n0_ n1_; clear hg hw hp_))
       go_ret
       exact ⟨_, by first | rfl | (simp [errW_none, errW_some] <;> rfl) | (simp only [← hji10, ← hji13, ← hji15]; first | rfl | (simp [errW_none, errW_some] <;> rfl)) | (simp [*, errW_none, errW_some] <;> rfl), by (with_reducible repeat (first | apply Kd.R_alloc | apply Kd.R_drewN | apply Kd.R_drew)); exact HO218.out, by repeat (first | (with_reducible first | exact HB.out | apply below_alloc | apply pw_below_drewN | apply below_drew1) | exact HB.out)⟩
      ·rw [if_neg c14] at H
       exact absurd H (by simp)
     ·rw [if_neg c12] at H
      exact absurd H (by simp)
    ·rw [if_neg c11] at H
     exact absurd H (by simp)
   ·rw [if_neg c9] at H
    have c9b0 : ((Int.tmod a1 4) == 0) = false := beq_eq_false_iff_ne.mpr c9
    have c9b1 : ((Int.tmod a1 4) != 0) = true := bne_iff_ne.mpr c9
    by_cases c23 : (Int.tmod a1 4) = 1
    ·rw [if_pos c23] at H
     have c23b0 : ((Int.tmod a1 4) == 1) = true := beq_iff_eq.mpr c23
     have c23b1 : ((Int.tmod a1 4) != 1) = false := bne_eq_false_iff_eq.mpr c23
     clear c23
     obtain ⟨ji24, hji24⟩ : ∃ j_ : Int, (Int.tmod (wrap64 (IntKind.u16.wrap (Int.tdiv a1 8))) (y216.length : Int)) = j_ := ⟨_, rfl⟩
     replace H : (if 0 ≤ (ji24) then (if (ji24) ≤ (y216.length : Int) then (if 0 ≤ (wrap64 ((ji24) + 1)) then (if (wrap64 ((ji24) + 1)) ≤ (y216.length : Int) then (some (y216.eraseIdx ((ji24) : Int).toNat)) else (none)) else (none)) else (none)) else (none)) = some r := by first | (rw [hji24] at H; exact H) | (simp only [hji24] at H ⊢; exact H)
     by_cases c25 : 0 ≤ (ji24)
     ·rw [if_pos c25] at H
      have c25b0 := eq_true c25
      have c25b1 : decide (0 ≤ (ji24)) = true := decide_eq_true c25
      clear c25
      by_cases c26 : (ji24) ≤ (y216.length : Int)
      ·rw [if_pos c26] at H
       have c26b0 := eq_true c26
       have c26b1 : decide ((ji24) ≤ (y216.length : Int)) = true := decide_eq_true c26
       clear c26
       obtain ⟨y221, hy221⟩ : ∃ y_ : List Int, y_ = (y216.take ((ji24) : Int).toNat) := ⟨_, rfl⟩
       replace H : (if 0 ≤ (wrap64 ((ji24) + 1)) then (if (wrap64 ((ji24) + 1)) ≤ (y216.length : Int) then (some (y216.eraseIdx ((ji24) : Int).toNat)) else (none)) else (none)) = some r := by first | (rw [hy221]; with_reducible exact H) | (have H2_ := (Option.bind_some _ _).symm.trans H; rw [hy221]; with_reducible exact H2_) | (have H2_ := (Option.bind_some _ _).symm.trans H; with_reducible exact H2_) | with_reducible exact H | (rw [hy221]; exact H) | exact H
       have Ny221 := Aside0.mk hy221
       clear hy221
       obtain ⟨ji27, hji27⟩ : ∃ j_ : Int, (wrap64 ((ji24) + 1)) = j_ := ⟨_, rfl⟩
       replace H : (if 0 ≤ (ji27) then (if (ji27) ≤ (y216.length : Int) then (some (y216.eraseIdx ((ji24) : Int).toNat)) else (none)) else (none)) = some r := by first | (rw [hji27] at H; exact H) | (simp only [hji27] at H ⊢; exact H)
       have hji27w : (IntKind.i64.wrap ((ji24) + 1)) = ji27 := (i64_w _).trans hji27
       by_cases c28 : 0 ≤ (ji27)
       ·rw [if_pos c28] at H
        have c28b0 := eq_true c28
        have c28b1 : decide (0 ≤ (ji27)) = true := decide_eq_true c28
        clear c28
        by_cases c29 : (ji27) ≤ (y216.length : Int)
        ·rw [if_pos c29] at H
         have c29b0 := eq_true c29
         have c29b1 : decide ((ji27) ≤ (y216.length : Int)) = true := decide_eq_true c29
         clear c29
         obtain ⟨y225, hy225⟩ : ∃ y_ : List Int, y_ = (y216.drop ((ji27) : Int).toNat) := ⟨_, rfl⟩
         replace H : (some (y216.eraseIdx ((ji24) : Int).toNat)) = some r := by first | (rw [hy225]; with_reducible exact H) | (have H2_ := (Option.bind_some _ _).symm.trans H; rw [hy225]; with_reducible exact H2_) | (have H2_ := (Option.bind_some _ _).symm.trans H; with_reducible exact H2_) | with_reducible exact H | (rw [hy225]; exact H) | exact H
         have Ny225 := Aside0.mk hy225
         clear hy225
         obtain ⟨y229, hy229⟩ : ∃ y_ : List Int, y_ = (y216.eraseIdx ((ji24) : Int).toNat) := ⟨_, rfl⟩
         replace H : (some y229) = some r := by first | (rw [hy229]; with_reducible exact H) | (have H2_ := (Option.bind_some _ _).symm.trans H; rw [hy229]; with_reducible exact H2_) | (have H2_ := (Option.bind_some _ _).symm.trans H; with_reducible exact H2_) | with_reducible exact H | (rw [hy229]; exact H) | exact H
         have Ny229 := Aside0.mk hy229
         clear hy229
         obtain rfl := Option.some.inj H
         go_enter Try.func14, Try.ntmps14
         try go_wp2_with (first | ((with_reducible refine gate_dst (N := 7) rfl ?_); refine Kd.R_lit (Kd.int .u8) _ 5 ?hg (N := 7) ?hd (xs := ([] : List Int)) (inner := []) (ok := fun _ => True) (okp := fun _ => True) ?hr ?hp (fun _ hk => hk) trivial (Below.refl _ _) (Nat.le_refl _) (by simp) ?_; (case hd => rfl); (case hg => rfl); (case hr => first | (go_simp; done) | (go_simp; rfl)); (case hp => exact (Reps.none _ _)); intro v214 w30 ho31 hb hg_ hnew_; clear hg_ hnew_; (first | rw [← Ny213.out] at ho31 | (simp only [Int.reduceToNat] at ho31; rw [← Ny213.out] at ho31)); have n0_ := Aside0.mk (Kd.R_lower ho31 (below_size (by repeat (first | (with_reducible first | exact HB.out | apply below_alloc | apply pw_below_drewN | apply below_drew1) | exact HB.out)))); have n1_ := Aside0.mk (below_step (by repeat (first | (with_reducible first | exact HB.out | apply below_alloc | apply pw_below_drewN | apply below_drew1) | exact HB.out)) hb); clear HB; have HO215 := n0_; have HB := n1_; clear n0_ n1_; clear hb ho31) | ((with_reducible refine gate_builtin (b := .append) (xs := #[.tmp 7, .tmp 8]) rfl ?_); at_builtin; refine Kd.R_append_rows (Kd.int .u8) (w0 := w) w.heap.size rfl (.tmp 7) (.tmp 8) 24 5 (.int .u8 0) 1 rfl Try.underlying24 info5 rfl (by decide) (by omega) v214 y213 l0 _ _ _ (fun _ => True) (fun _ => False) rfl rfl ?aO ?aR (fun _ _ h => h) (fun _ h => h.elim) ?aF ?aB ?aS ?aL ?_; (case aR => repeat (first | exact (Kd.C_below HR0.out HB.out) | (with_reducible refine Kd.C_alloc ?_ _) | (with_reducible refine Kd.C_drewN ?_ _) | (with_reducible refine Kd.C_drew ?_))); (case aB => exact (by repeat (first | (with_reducible first | exact HB.out | apply below_alloc | apply pw_below_drewN | apply below_drew1) | exact HB.out))); (case aF => exact (fun _ _ => trivial)); (case aO => exact (by (with_reducible repeat (first | apply Kd.R_alloc | apply Kd.R_drewN | apply Kd.R_drew)); exact HO215.out)); (case aS => exact (below_size (by repeat (first | (with_reducible first | exact HB.out | apply below_alloc | apply pw_below_drewN | apply below_drew1) | exact HB.out)))); (case aL => have := LMc3.out; omega); intro v217 w32 ho hb hg hat; rw [← Ny216.out] at ho; have n0_ := Aside0.mk (hb); have n1_ := Aside0.mk (ho); clear HB; clear HO215; have HB := n0_; have HO218 := n1_; clear n0_ n1_; clear ho hb hg hat; obtain ⟨Ao33, co33, eo33⟩ := Kd.R_slice HO218.out; subst eo33))
         have n0_ := Aside0.mk (Kd.R_drew HO218.out)
         have n1_ := Aside0.mk (below_drew1 HB.out)
         clear HO218
         clear HB
         have HO218 := n0_
         have HB := n1_
         clear n0_ n1_
         have q35 : ((ji24) : Int) ≤ ((y216.length : Int) : Int) := of_decide_eq_true (by first | (with_reducible assumption) | assumption)
         obtain ⟨i035, hi035, _, hsz35, _⟩ := info_parts info5
         have hroom35 : y216.length ≤ co33 := (Kd.R_reads' HO218.out).2.1
         have hC35 : Kd.C (Kd.int .u8) _ Ao33 y216.length y216 := (Kd.R_reads' HO218.out).2.2
         have hcut35 := cut_to (P := Try.prog) 24 5 .i64 Try.underlying24 hi035 Ao33 y216.length co33 (ji24) (of_decide_eq_true (by first | (with_reducible assumption) | assumption)) q35 hroom35
         have hr35 := Kd.C_take (m := ((ji24) : Int).toNat) hC35 (by omega)
         have hy35 : y221.length = ((ji24) : Int).toNat := (by rw [Ny221.out, List.length_take]; omega)
         rw [← Ny221.out] at hr35
         rw [← hy35] at hcut35
         have HR224 := Aside0.mk hr35
         have HC224 := Aside0.mk (show y221.length ≤ co33 from by omega)
         clear hr35 hC35 hroom35 hi035 hsz35
         have KY35 := Aside0.mk hy35
         clear hy35
         have KL35 := Aside0.mk (show ((ji24) : Int).toNat ≤ y216.length from by omega)
         replace q35 := eq_true q35
         have q36 : ((ji27) : Int) ≤ ((y216.length : Int) : Int) := of_decide_eq_true (by first | (with_reducible assumption) | assumption)
         obtain ⟨i036, hi036, _, hsz36, _⟩ := info_parts info5
         have hroom36 : y216.length ≤ co33 := (Kd.R_reads' HO218.out).2.1
         have hC36 : Kd.C (Kd.int .u8) _ Ao33 y216.length y216 := (Kd.R_reads' HO218.out).2.2
         have q036 : (0 : Int) ≤ ((ji27) : Int) := of_decide_eq_true (by first | (with_reducible assumption) | assumption)
         have hcut36 := cut_from (P := Try.prog) 24 5 .i64 Try.underlying24 hi036 1 hsz36 Ao33 y216.length co33 (ji27) q036 q36
         have hr36 := Kd.C_drop (m := ((ji27) : Int).toNat) (c := co33) hC36 (by omega) hroom36
         obtain ⟨A36, hA36⟩ : ∃ A1, A1 = (if co33 = ((ji27) : Int).toNat then Ao33 else (Ao33 : Option Addr).map (·.add (((ji27) : Int).toNat * 1))) := ⟨_, rfl⟩
         obtain ⟨c36, hc36⟩ : ∃ c1, c1 = co33 - ((ji27) : Int).toNat := ⟨_, rfl⟩
         have hy36 : y225.length = y216.length - ((ji27) : Int).toNat := (by rw [Ny225.out, List.length_drop] <;> omega)
         rw [show (y216).drop ((ji27) : Int).toNat = y225 from Ny225.out.symm] at hr36
         replace hr36 : Kd.C (Kd.int .u8) _ A36 y225.length y225 := (by rw [hA36]; exact hr36)
         rw [← hy36, ← hA36, ← hc36] at hcut36
         have HR228 := Aside0.mk hr36
         have HC228 := Aside0.mk (show y225.length ≤ c36 from by rw [hy36, hc36]; exact Nat.sub_le_sub_right hroom36 _)
         clear hr36 hC36 hroom36 hi036 hsz36 hc36
         have KY36 := Aside0.mk hy36
         have KA36 := Aside0.mk hA36
         clear hy36 hA36
         have KL36 := Aside0.mk (show ((ji27) : Int).toNat ≤ y216.length from by omega)
         replace q36 := eq_true q36
         obtain ⟨go38, co38, eo38, gb38, gl38, cl38, HG38⟩ := Kd.R_form HO218.out (by have hj_ : 0 ≤ ((ji24) : Int) := of_decide_eq_true (by first | (with_reducible assumption) | assumption); have hl_ : (ji27 : Int) ≤ (y216.length : Int) := of_decide_eq_true (by first | (with_reducible assumption) | assumption); have hh_ : ((ji24) : Int) ≤ (y216.length : Int) := of_decide_eq_true (by first | (with_reducible assumption) | assumption); rw [← hji27] at hl_; unfold wrap64 at hl_; omega)
         (first | cases eo38 | (injection eo38 with ea_ en_ ec_; (first | subst ea_ | (injection ea_ with ea_; subst ea_)); subst ec_; clear en_))
         have GB38 := Aside0.mk gb38
         have GG38 := Aside0.mk HG38
         clear gb38 gl38 HG38
         refine start_ (n := 9) (S := fun w' => True) (ds := []) #[false,false,false,false,false,false,false,false,false] (by kernel_rfl) rfl rfl trivial (fun hHeld => ?_); refine with_tabW kerbsuitedata_Spoil.tab9 kerbsuitedata_Spoil.bits9 (fun HT_ HW_ => ?_)
         generalize w32.drew = w34 at HO218 HB GG38 HR224 HR228 hHeld ⊢
         refine pure_ (i := 0) (N := some 36) (v := ?_) (a' := ?_) (bo_ 9 1) rfl rfl (any_of HT_.out (by kernel_rfl)) (fun _ _ _ h => h) (Or.inl ⟨by rfl, ?_⟩) ?_ ?_
         rotate_left; (· intro w'; go_simp; with_reducible rfl)
         rotate_left; (· simp only [Act.put,List.setIfInBounds_toArray,List.set_cons_zero,List.set_cons_succ,i64_w,i32_w]; rfl)
         refine pure_ (i := 1) (N := some 37) (v := ?_) (a' := ?_) (bo_ 9 3) rfl rfl (any_of HT_.out (by kernel_rfl)) (fun _ _ _ h => h) (Or.inl ⟨by rfl, ?_⟩) ?_ ?_
         rotate_left; (· intro w'; go_simp; with_reducible rfl)
         rotate_left; (· simp only [Act.put,List.setIfInBounds_toArray,List.set_cons_zero,List.set_cons_succ,i64_w,i32_w]; rfl)
         refine pure_ (i := 2) (N := some 38) (v := ?_) (a' := ?_) (bo_ 9 7) rfl rfl (any_of HT_.out (by kernel_rfl)) (fun _ _ _ h => h) (Or.inl ⟨by rfl, ?_⟩) ?_ ?_
         rotate_left; (· intro w'; go_simp; with_reducible rfl)
         rotate_left; (· simp only [Act.put,List.setIfInBounds_toArray,List.set_cons_zero,List.set_cons_succ,i64_w,i32_w]; rfl)
         refine pure_ (i := 3) (N := some 39) (v := ?_) (a' := ?_) (bo_ 9 15) rfl rfl (any_of HT_.out (by kernel_rfl)) (fun _ _ _ h => h) (Or.inl ⟨by rfl, ?_⟩) ?_ ?_
         rotate_left; (· intro w'; go_simp; with_reducible rfl)
         rotate_left; (· simp only [Act.put,List.setIfInBounds_toArray,List.set_cons_zero,List.set_cons_succ,i64_w,i32_w]; rfl)
         refine pure_ (i := 4) (N := some 40) (v := ?_) (a' := ?_) (bo_ 9 31) rfl rfl (any_of HT_.out (by kernel_rfl)) (fun _ _ _ h => h) (Or.inl ⟨by rfl, ?_⟩) ?_ ?_
         rotate_left; (· intro w'; go_simp; with_reducible rfl)
         rotate_left; (· simp only [Act.put,List.setIfInBounds_toArray,List.set_cons_zero,List.set_cons_succ,i64_w,i32_w]; rfl)
         refine pure_ (i := 5) (N := some 41) (v := ?_) (a' := ?_) (bo_ 9 63) rfl rfl (any_of HT_.out (by kernel_rfl)) (fun _ _ _ h => h) (Or.inl ⟨by rfl, ?_⟩) ?_ ?_
         rotate_left; (· intro w'; go_simp; with_reducible rfl)
         rotate_left; (· simp only [Act.put,List.setIfInBounds_toArray,List.set_cons_zero,List.set_cons_succ,i64_w,i32_w]; rfl)
         refine pure_ (i := 6) (N := some 42) (v := ?_) (a' := ?_) (bo_ 9 127) rfl rfl (any_of HT_.out (by kernel_rfl)) (fun _ _ _ h => h) (Or.inl ⟨by rfl, ?_⟩) ?_ ?_
         rotate_left; (· intro w'; go_simp; with_reducible rfl)
         rotate_left; (· simp only [Act.put,List.setIfInBounds_toArray,List.set_cons_zero,List.set_cons_succ,i64_w,i32_w]; rfl)
         refine one_ (i := 7) (N := some 43) (bo_ 9 255) rfl rfl (one_of HT_.out (by kernel_rfl)) (by decide) (fun K hK => ?_)
         have hj_ : 0 ≤ ((ji24) : Int) := of_decide_eq_true (by first | (with_reducible assumption) | assumption)
         have hl_ : (ji27 : Int) ≤ (y216.length : Int) := of_decide_eq_true (by first | (with_reducible assumption) | assumption)
         have hh_ : ((ji24) : Int) ≤ (y216.length : Int) := of_decide_eq_true (by first | (with_reducible assumption) | assumption)
         have hb_ := (Kd.R_reads' HO218.out).2.2.2.1
         have h0_ : (0 : Int) ≤ (ji27 : Int) := of_decide_eq_true (by first | (with_reducible assumption) | assumption)
         have hy1_ := KY35.out
         have hk_ : (ji27 : Int).toNat = y221.length + 1 := (by have hw_ : (ji27 : Int) = (ji24) + 1 := (by have h00_ := h0_; rw [← hji27] at h00_ ⊢; unfold wrap64 at h00_ ⊢; omega); rw [hw_]; omega)
         refine Kd.R_delete_step (Kd.int .u8) (w0 := w) w.heap.size (by rfl) (.tmp 38) (.tmp 42) 24 5 rfl Try.underlying24 (by kernel_rfl) (g := go38) (n := y216.length) (c := co33) (k := y221.length) rfl rfl ?hA ?hm (by (with_reducible repeat (first | apply Kd.R_alloc | apply Kd.R_drewN | apply Kd.R_drew)); exact HO218.out) ?hk (by repeat (first | (with_reducible first | exact HB.out | apply below_alloc | apply pw_below_drewN | apply below_drew1) | exact HB.out)) (below_size (by repeat (first | (with_reducible first | exact HB.out | apply below_alloc | apply pw_below_drewN | apply below_drew1) | exact HB.out))) ?_
         (case hA => have ha_ := KA36.out; rw [hk_] at ha_; exact ha_)
         (case hm => have ha_ := KY36.out; omega)
         (case hk => omega)
         intro w37 ho hb hg
         clear hj_ hl_ hh_ hb_ hk_ h0_
         rw [hy1_, ← Ny229.out] at ho
         clear hy1_
         have hn_ : y216.length - 1 = y229.length := (by have := (Kd.R_reads' ho).1; omega)
         rw [hn_] at ho ⊢
         clear hn_
         have n0_ := Aside0.mk (ho)
         have n1_ := Aside0.mk (hb)
         clear HO218
         clear HB
         have HO218 := n0_
         have HB := n1_
         clear n0_ n1_
         clear ho hb hg
         refine hK.out _ _ trivial (fun hHeld => ?_)
         clear hK K
         refine norm_ (a' := ?_) ?_ ?_
         rotate_left; (· show Act.put _ (some 43) _ = _; simp only [Act.put,List.setIfInBounds_toArray,List.set_cons_zero,List.set_cons_succ,i64_w,i32_w]; rfl)
         refine pure_ (i := 8) (N := some 5) (v := ?_) (a' := ?_) (bo_ 9 511) rfl rfl (any_of HT_.out (by kernel_rfl)) (fun _ _ _ h => h) (Or.inl ⟨by rfl, ?_⟩) ?_ ?_
         rotate_left; (· intro w'; go_simp; with_reducible rfl)
         rotate_left; (· simp only [Act.put,List.setIfInBounds_toArray,List.set_cons_zero,List.set_cons_succ,i64_w,i32_w]; rfl)
         refine done_ (done_of HT_.out (by kernel_rfl)) ?_
         try go_wp2
         go_ret
         exact ⟨_, by first | rfl | (simp [errW_none, errW_some] <;> rfl) | (simp only [← hji24, ← hji27]; first | rfl | (simp [errW_none, errW_some] <;> rfl)) | (simp [*, errW_none, errW_some] <;> rfl), by (with_reducible repeat (first | apply Kd.R_alloc | apply Kd.R_drewN | apply Kd.R_drew)); exact HO218.out, by repeat (first | (with_reducible first | exact HB.out | apply below_alloc | apply pw_below_drewN | apply below_drew1) | exact HB.out)⟩
        ·rw [if_neg c29] at H
         exact absurd H (by simp)
       ·rw [if_neg c28] at H
        exact absurd H (by simp)
      ·rw [if_neg c26] at H
       exact absurd H (by simp)
     ·rw [if_neg c25] at H
      exact absurd H (by simp)
    ·rw [if_neg c23] at H
     have c23b0 : ((Int.tmod a1 4) == 1) = false := beq_eq_false_iff_ne.mpr c23
     have c23b1 : ((Int.tmod a1 4) != 1) = true := bne_iff_ne.mpr c23
     by_cases c39 : (Int.tmod a1 4) = 2
     ·rw [if_pos c39] at H
      have c39b0 : ((Int.tmod a1 4) == 2) = true := beq_iff_eq.mpr c39
      have c39b1 : ((Int.tmod a1 4) != 2) = false := bne_eq_false_iff_eq.mpr c39
      clear c39
      by_cases c40 : y216.length < 140737488355328
      ·rw [if_pos c40] at H
       have LMc40 := Aside0.mk c40
       clear c40
       obtain ⟨y232, hy232⟩ : ∃ y_ : List Int, y_ = (y216 ++ [(a1) % 256]) := ⟨_, rfl⟩
       replace H : (some y232) = some r := by first | (rw [hy232]; with_reducible exact H) | (have H2_ := (Option.bind_some _ _).symm.trans H; rw [hy232]; with_reducible exact H2_) | (have H2_ := (Option.bind_some _ _).symm.trans H; with_reducible exact H2_) | with_reducible exact H | (rw [hy232]; exact H) | exact H
       have Ny232 := Aside0.mk hy232
       clear hy232
       obtain rfl := Option.some.inj H
       go_enter Try.func14, Try.ntmps14
       go_wp2_with (first | ((with_reducible refine gate_dst (N := 7) rfl ?_); refine Kd.R_lit (Kd.int .u8) _ 5 ?hg (N := 7) ?hd (xs := ([] : List Int)) (inner := []) (ok := fun _ => True) (okp := fun _ => True) ?hr ?hp (fun _ hk => hk) trivial (Below.refl _ _) (Nat.le_refl _) (by simp) ?_; (case hd => rfl); (case hg => rfl); (case hr => first | (go_simp; done) | (go_simp; rfl)); (case hp => exact (Reps.none _ _)); intro v214 w41 ho42 hb hg_ hnew_; clear hg_ hnew_; (first | rw [← Ny213.out] at ho42 | (simp only [Int.reduceToNat] at ho42; rw [← Ny213.out] at ho42)); have n0_ := Aside0.mk (Kd.R_lower ho42 (below_size (by repeat (first | (with_reducible first | exact HB.out | apply below_alloc | apply pw_below_drewN | apply below_drew1) | exact HB.out)))); have n1_ := Aside0.mk (below_step (by repeat (first | (with_reducible first | exact HB.out | apply below_alloc | apply pw_below_drewN | apply below_drew1) | exact HB.out)) hb); clear HB; have HO215 := n0_; have HB := n1_; clear n0_ n1_; clear hb ho42) | ((with_reducible refine gate_builtin (b := .append) (xs := #[.tmp 7, .tmp 8]) rfl ?_); at_builtin; refine Kd.R_append_rows (Kd.int .u8) (w0 := w) w.heap.size rfl (.tmp 7) (.tmp 8) 24 5 (.int .u8 0) 1 rfl Try.underlying24 info5 rfl (by decide) (by omega) v214 y213 l0 _ _ _ (fun _ => True) (fun _ => False) rfl rfl ?aO ?aR (fun _ _ h => h) (fun _ h => h.elim) ?aF ?aB ?aS ?aL ?_; (case aR => repeat (first | exact (Kd.C_below HR0.out HB.out) | (with_reducible refine Kd.C_alloc ?_ _) | (with_reducible refine Kd.C_drewN ?_ _) | (with_reducible refine Kd.C_drew ?_))); (case aB => exact (by repeat (first | (with_reducible first | exact HB.out | apply below_alloc | apply pw_below_drewN | apply below_drew1) | exact HB.out))); (case aF => exact (fun _ _ => trivial)); (case aO => exact (by (with_reducible repeat (first | apply Kd.R_alloc | apply Kd.R_drewN | apply Kd.R_drew)); exact HO215.out)); (case aS => exact (below_size (by repeat (first | (with_reducible first | exact HB.out | apply below_alloc | apply pw_below_drewN | apply below_drew1) | exact HB.out)))); (case aL => have := LMc3.out; omega); intro v217 w43 ho hb hg hat; rw [← Ny216.out] at ho; have n0_ := Aside0.mk (hb); have n1_ := Aside0.mk (ho); clear HB; clear HO215; have HB := n0_; have HO218 := n1_; clear n0_ n1_; clear ho hb hg hat; obtain ⟨Ao44, co44, eo44⟩ := Kd.R_slice HO218.out; subst eo44) | ((with_reducible refine gate_builtin (b := .append) (xs := #[.tmp 46, .tmp 49]) rfl ?_); at_builtin; refine Kd.R_append (Kd.int .u8) (w0 := w) w.heap.size rfl (.tmp 46) (.tmp 49) 24 5 (.int .u8 0) 1 rfl Try.underlying24 info5 rfl (by decide) (by omega) (.slice Ao44 y216.length co44) y216 ((a1) % 256) [.int .u8 ((a1) % 256)] (fun _ => True) (fun _ => False) rfl rfl ?aP (fun _ hk => hk.elim) ?aF ?aO ?aB ?aS ?aL ?_; (case aP => exact rfl); (case aB => exact (by repeat (first | (with_reducible first | exact HB.out | apply below_alloc | apply pw_below_drewN | apply below_drew1) | exact HB.out))); (case aF => exact (fun _ _ => trivial)); (case aO => exact (by (with_reducible repeat (first | apply Kd.R_alloc | apply Kd.R_drewN | apply Kd.R_drew)); exact HO218.out)); (case aS => exact (below_size (by repeat (first | (with_reducible first | exact HB.out | apply below_alloc | apply pw_below_drewN | apply below_drew1) | exact HB.out)))); (case aL => have := LMc40.out; omega); intro v233 w45 ho hb hg hat; rw [← Ny232.out] at ho; have n0_ := Aside0.mk (hb); have n1_ := Aside0.mk (ho); clear HB; clear HO218; have HB := n0_; have HO234 := n1_; clear n0_ n1_; clear ho hb hg hat))
       go_ret
       exact ⟨_, by first | rfl | (simp [errW_none, errW_some] <;> rfl) | (simp [*, errW_none, errW_some] <;> rfl), by (with_reducible repeat (first | apply Kd.R_alloc | apply Kd.R_drewN | apply Kd.R_drew)); exact HO234.out, by repeat (first | (with_reducible first | exact HB.out | apply below_alloc | apply pw_below_drewN | apply below_drew1) | exact HB.out)⟩
      ·rw [if_neg c40] at H
       exact absurd H (by simp)
     ·rw [if_neg c39] at H
      have c39b0 : ((Int.tmod a1 4) == 2) = false := beq_eq_false_iff_ne.mpr c39
      have c39b1 : ((Int.tmod a1 4) != 2) = true := bne_iff_ne.mpr c39
      obtain rfl := Option.some.inj H
      go_enter Try.func14, Try.ntmps14
      go_wp2_with (first | ((with_reducible refine gate_dst (N := 7) rfl ?_); refine Kd.R_lit (Kd.int .u8) _ 5 ?hg (N := 7) ?hd (xs := ([] : List Int)) (inner := []) (ok := fun _ => True) (okp := fun _ => True) ?hr ?hp (fun _ hk => hk) trivial (Below.refl _ _) (Nat.le_refl _) (by simp) ?_; (case hd => rfl); (case hg => rfl); (case hr => first | (go_simp; done) | (go_simp; rfl)); (case hp => exact (Reps.none _ _)); intro v214 w46 ho47 hb hg_ hnew_; clear hg_ hnew_; (first | rw [← Ny213.out] at ho47 | (simp only [Int.reduceToNat] at ho47; rw [← Ny213.out] at ho47)); have n0_ := Aside0.mk (Kd.R_lower ho47 (below_size (by repeat (first | (with_reducible first | exact HB.out | apply below_alloc | apply pw_below_drewN | apply below_drew1) | exact HB.out)))); have n1_ := Aside0.mk (below_step (by repeat (first | (with_reducible first | exact HB.out | apply below_alloc | apply pw_below_drewN | apply below_drew1) | exact HB.out)) hb); clear HB; have HO215 := n0_; have HB := n1_; clear n0_ n1_; clear hb ho47) | ((with_reducible refine gate_builtin (b := .append) (xs := #[.tmp 7, .tmp 8]) rfl ?_); at_builtin; refine Kd.R_append_rows (Kd.int .u8) (w0 := w) w.heap.size rfl (.tmp 7) (.tmp 8) 24 5 (.int .u8 0) 1 rfl Try.underlying24 info5 rfl (by decide) (by omega) v214 y213 l0 _ _ _ (fun _ => True) (fun _ => False) rfl rfl ?aO ?aR (fun _ _ h => h) (fun _ h => h.elim) ?aF ?aB ?aS ?aL ?_; (case aR => repeat (first | exact (Kd.C_below HR0.out HB.out) | (with_reducible refine Kd.C_alloc ?_ _) | (with_reducible refine Kd.C_drewN ?_ _) | (with_reducible refine Kd.C_drew ?_))); (case aB => exact (by repeat (first | (with_reducible first | exact HB.out | apply below_alloc | apply pw_below_drewN | apply below_drew1) | exact HB.out))); (case aF => exact (fun _ _ => trivial)); (case aO => exact (by (with_reducible repeat (first | apply Kd.R_alloc | apply Kd.R_drewN | apply Kd.R_drew)); exact HO215.out)); (case aS => exact (below_size (by repeat (first | (with_reducible first | exact HB.out | apply below_alloc | apply pw_below_drewN | apply below_drew1) | exact HB.out)))); (case aL => have := LMc3.out; omega); intro v217 w48 ho hb hg hat; rw [← Ny216.out] at ho; have n0_ := Aside0.mk (hb); have n1_ := Aside0.mk (ho); clear HB; clear HO215; have HB := n0_; have HO218 := n1_; clear n0_ n1_; clear ho hb hg hat; obtain ⟨Ao49, co49, eo49⟩ := Kd.R_slice HO218.out; subst eo49))
      go_ret
      exact ⟨_, by first | rfl | (simp [errW_none, errW_some] <;> rfl) | (simp [*, errW_none, errW_some] <;> rfl), by (with_reducible repeat (first | apply Kd.R_alloc | apply Kd.R_drewN | apply Kd.R_drew)); exact HO218.out, by repeat (first | (with_reducible first | exact HB.out | apply below_alloc | apply pw_below_drewN | apply below_drew1) | exact HB.out)⟩
 ·rw [if_neg c3] at H
  exact absurd H (by simp)

end Go.Proofs.Ytchbnlcalcmdlaa.PBox
