/- The walks of functions of the translation: each call returns what the plain function beside it says. -/
import Derived.Test.YthfdfoigoomaoaaDoorPDbx0
namespace Go.Proofs.YthfdfoigoomaoaaDoor.PDb
open Go.RowKit Go.Proofs.YthfdfoigoomaoaaDoorW.PrintWords Go.Proofs.YthfdfoigoomaoaaDoorW.PrintLast Go.Proofs.YthfdfoigoomaoaaDoorW.PrintMore Go.Proofs.YthfdfoigoomaoaaDoor.Aid
attribute [local go_sem] max2_int min2_int max_two min_two max_three min_three max_four min_four aid_str_gtr aid_str_leq   -- for this text's walks alone
set_option linter.unusedVariables false
set_option linter.unusedSimpArgs false

/-! ### kerbsuiteref1_text: function 62 -/
mutual
def kerbsuiteref1_text.l0 : Nat → ByteArray → ByteArray → Int → Option (Bool)
 | 0, _, _, _ => none
 | k + 1, x0, x1, x5 => if x5 < (x0.size : Int) then (if 0 ≤ x5 then (if (bt x0 x5) < 33 then (kerbsuiteref1_text.j1 k x0 x1 x5 true) else (kerbsuiteref1_text.j1 k x0 x1 x5 (decide ((bt x0 x5) > 126)))) else (none)) else (some (decide ((x0.size : Int) ≤ 39)))
def kerbsuiteref1_text.j1 : Nat → ByteArray → ByteArray → Int → Bool → Option (Bool)
 | 0, _, _, _, _ => none
 | k + 1, x0, x1, x5, hb => if hb = true then (some false) else (kerbsuiteref1_text.l1 k x0 x1 x5 0)
def kerbsuiteref1_text.l1 : Nat → ByteArray → ByteArray → Int → Int → Option (Bool)
 | 0, _, _, _, _ => none
 | k + 1, x0, x1, x5, x6 => if x6 < (x1.size : Int) then (if 0 ≤ x5 then (if x5 < (x0.size : Int) then (if 0 ≤ x6 then (if (bt x0 x5) = (bt x1 x6) then (some false) else (kerbsuiteref1_text.l1 k x0 x1 x5 (wrap64 (x6 + 1)))) else (none)) else (none)) else (none)) else (kerbsuiteref1_text.l0 k x0 x1 (wrap64 (x5 + 1)))
end
def kerbsuiteref1_text.f (k : Nat) (a0 : ByteArray) (a1 : ByteArray) : Option (Bool) := kerbsuiteref1_text.l0 k a0 a1 0
set_option maxHeartbeats 8000000 in
set_option maxRecDepth 100000 in
theorem kerbsuiteref1_text.calls (k : Nat) (a0 : ByteArray) (a1 : ByteArray) (r : Bool) (w : World) (h : kerbsuiteref1_text.f k a0 a1 = some r) :
  Calls Tryd.prog 62 #[.string a0, .string a1] w fun e w' => e = .returned (.bool r) ∧ Drawn0 w w' := by
 have H : (kerbsuiteref1_text.l0 k a0 a1 0) = some r := h
 clear h
 have H' := aM_ H
 clear H
 go_enter Tryd.func62, Tryd.ntmps62
 go_wp2
 repeat (go_quiet (fail); try go_wp2)
 go_loopg [5] k (fun kq v5 w' => ∃ (ba : Int), v5 = .int .i64 ba ∧ Aside0 (kerbsuiteref1_text.l0 kq a0 a1 ba = some r) ∧ Aside0 (kq ≤ k) ∧ Drawn0 w w')
 case atStart => exact ⟨(0), rS_, H', ⟨Nat.le_refl _⟩, by repeat (first | exact Drawn0.refl _ | apply Drawn0.step)⟩
 case round =>
  clear H'
  try clear p2
  obtain ⟨ba, rfl, HA, sa, ⟨m1, rfl⟩⟩ := hrel
  cases gk with
  | zero => exact absurd HA.out (by simp [kerbsuiteref1_text.l0])
  | succ k1 =>
   have H := HA.out
   clear HA
   simp only [kerbsuiteref1_text.l0] at H
   by_cases c3 : ba < (a0.size : Int)
   ·rw [if_pos c3] at H
    have fa : decide (ba < (a0.size : Int)) = true := decide_eq_true c3
    clear c3
    have Oa := aM_ H
    clear H
    go_upto_region 4 with (fail)
    repeat (go_quiet (fail); go_upto_region 4 with (fail))
    go_cut [22] (fun ib wc => ∃ (kq : Nat) (pa : Bool), ib = .bool pa ∧ Aside0 (kerbsuiteref1_text.j1 kq a0 a1 ba pa = some r) ∧ Aside0 (kq ≤ k1) ∧ Drawn0 w wc)
    case first =>
     have H := Oa.out
     clear Oa
     by_cases c5 : 0 ≤ ba
     ·rw [if_pos c5] at H
      have la : decide (0 ≤ ba) = true := decide_eq_true c5
      clear c5
      (first | rw [la] | (simp only [i64_w, i32_w]; rw [la]) | skip)
      by_cases c7 : (bt a0 ba) < 33
      ·rw [if_pos c7] at H
       have qa : decide ((bt a0 ba) < 33) = true := decide_eq_true c7
       clear c7
       have H' := aM_ H
       clear H
       have p6 : 0 ≤ (ba : Int) := dT_
       have q6 : ba < (a0.size : Int) := dT_
       have Pa := bt_at a0 ba
       replace p6 := eq_true p6
       replace q6 := eq_true q6
       go_wp2
       repeat (go_quiet (fail); try go_wp2)
       go_meet
       case rel => exact ⟨_, (true), rS_, H', ⟨by have := sa.out; first | omega | exact Nat.le_refl _⟩, by repeat (first | exact Drawn0.refl _ | apply Drawn0.step)⟩
      rw [if_neg c7] at H
      have qa : decide ((bt a0 ba) < 33) = false := decide_eq_false c7
      clear c7
      have H' := aM_ H
      clear H
      have p6 : 0 ≤ (ba : Int) := dT_
      have q6 : ba < (a0.size : Int) := dT_
      have Pa := bt_at a0 ba
      replace p6 := eq_true p6
      replace q6 := eq_true q6
      have p8 : 0 ≤ (ba : Int) := dT_
      have q8 : ba < (a0.size : Int) := dT_
      have Xa := bt_at a0 ba
      replace p8 := eq_true p8
      replace q8 := eq_true q8
      go_wp2
      repeat (go_quiet (fail); try go_wp2)
      go_meet
      case rel => exact ⟨_, (decide ((bt a0 ba) > 126)), rS_, H', ⟨by have := sa.out; first | omega | exact Nat.le_refl _⟩, by repeat (first | exact Drawn0.refl _ | apply Drawn0.step)⟩
     rw [if_neg c5] at H
     exact absurd H (by simp)
    case rest =>
     clear Oa
     try clear p2
     try clear c3
     try clear fa
     try clear c5
     try clear la
     try clear c6
     try clear p6
     try clear q6
     try clear Pa
     try clear c7
     try clear qa
     try clear p8
     try clear q8
     try clear Xa
     try clear p2
     try clear p6
     try clear p8
     try clear q6
     try clear q8
     obtain ⟨kq, pa, rfl, HA, Fa, ⟨mc3, rfl⟩⟩ := hcut
     cases kq with
     | zero => exact absurd HA.out (by simp [kerbsuiteref1_text.j1])
     | succ Qa =>
      have H := HA.out
      clear HA
      simp only [kerbsuiteref1_text.j1] at H
      by_cases c9 : pa = true
      ·subst c9
       have H1 : (some false) = some r := by rw [if_pos rfl] at H; exact H
       clear H
       have H := H1
       clear H1
       obtain rfl := Option.some.inj H
       go_wp2
       repeat (go_quiet (fail); try go_wp2)
       go_ret
       exact ⟨by first | rfl | (simp; done) | (simp [*]; done), by repeat (first | exact Drawn0.refl _ | apply Drawn0.step)⟩
      replace c9 := Bool.eq_false_iff.mpr c9
      subst c9
      have H1 : (kerbsuiteref1_text.l1 Qa a0 a1 ba 0) = some r := by rw [if_neg (show ¬ (false = true) by decide)] at H; exact H
      clear H
      have H := H1
      clear H1
      have H' := aM_ H
      clear H
      go_wp2
      repeat (go_quiet (fail); try go_wp2)
      go_loopg [6] Qa (fun kq v6 w' => ∃ (da : Int), v6 = .int .i64 da ∧ Aside0 (kerbsuiteref1_text.l1 kq a0 a1 ba da = some r) ∧ Aside0 (kq ≤ Qa) ∧ Drawn0 w w')
      case atStart => exact ⟨(0), rS_, H', ⟨Nat.le_refl _⟩, by repeat (first | exact Drawn0.refl _ | apply Drawn0.step)⟩
      case round =>
       clear H'
       try clear p2
       try clear c3
       try clear fa
       try clear c5
       try clear la
       try clear c6
       try clear p6
       try clear q6
       try clear Pa
       try clear c7
       try clear qa
       try clear p8
       try clear q8
       try clear Xa
       try clear c9
       try clear p2
       try clear p6
       try clear p8
       try clear q6
       try clear q8
       obtain ⟨da, rfl, HA, Ga, ⟨m3, rfl⟩⟩ := hrel
       cases gk with
       | zero => exact absurd HA.out (by simp [kerbsuiteref1_text.l1])
       | succ k3 =>
        have H := HA.out
        clear HA
        simp only [kerbsuiteref1_text.l1] at H
        by_cases ta : da < (a1.size : Int)
        ·rw [if_pos ta] at H
         have Ua : decide (da < (a1.size : Int)) = true := decide_eq_true ta
         clear ta
         by_cases Ha : 0 ≤ ba
         ·rw [if_pos Ha] at H
          have jb : decide (0 ≤ ba) = true := decide_eq_true Ha
          clear Ha
          by_cases Ia : ba < (a0.size : Int)
          ·rw [if_pos Ia] at H
           have kb : decide (ba < (a0.size : Int)) = true := decide_eq_true Ia
           clear Ia
           by_cases Ja : 0 ≤ da
           ·rw [if_pos Ja] at H
            have lb : decide (0 ≤ da) = true := decide_eq_true Ja
            clear Ja
            by_cases ra : (bt a0 ba) = (bt a1 da)
            ·rw [if_pos ra] at H
             have Va : ((bt a0 ba) == (bt a1 da)) = true := beq_iff_eq.mpr ra
             have Wa : ((bt a0 ba) != (bt a1 da)) = false := bne_eq_false_iff_eq.mpr ra
             clear ra
             obtain rfl := Option.some.inj H
             have ya : 0 ≤ (ba : Int) := dT_
             have za : ba < (a0.size : Int) := dT_
             have Za := bt_at a0 ba
             replace ya := eq_true ya
             replace za := eq_true za
             have Aa : 0 ≤ (da : Int) := dT_
             have Ba : da < (a1.size : Int) := dT_
             have ab := bt_at a1 da
             replace Aa := eq_true Aa
             replace Ba := eq_true Ba
             go_wp2
             repeat (go_quiet (fail); try go_wp2)
             go_ret
             exact ⟨by first | rfl | (simp; done) | (simp [*]; done), by repeat (first | exact Drawn0.refl _ | apply Drawn0.step)⟩
            rw [if_neg ra] at H
            have Va : ((bt a0 ba) == (bt a1 da)) = false := beq_eq_false_iff_ne.mpr ra
            have Wa : ((bt a0 ba) != (bt a1 da)) = true := bne_iff_ne.mpr ra
            have H' := aM_ H
            clear H
            have ya : 0 ≤ (ba : Int) := dT_
            have za : ba < (a0.size : Int) := dT_
            have Za := bt_at a0 ba
            replace ya := eq_true ya
            replace za := eq_true za
            have Aa : 0 ≤ (da : Int) := dT_
            have Ba : da < (a1.size : Int) := dT_
            have ab := bt_at a1 da
            replace Aa := eq_true Aa
            replace Ba := eq_true Ba
            go_wp2
            repeat (go_quiet (fail); try go_wp2)
            go_roundg k3
            case measure => have := sa.out; have := Fa.out; have := Ga.out; omega
            case rel => exact ⟨(wrap64 (da + 1)), rS_, H', ⟨by have := sa.out; have := Fa.out; have := Ga.out; omega⟩, by repeat (first | exact Drawn0.refl _ | apply Drawn0.step)⟩
           rw [if_neg Ja] at H
           exact absurd H (by simp)
          rw [if_neg Ia] at H
          exact absurd H (by simp)
         rw [if_neg Ha] at H
         exact absurd H (by simp)
        rw [if_neg ta] at H
        have Ua : decide (da < (a1.size : Int)) = false := decide_eq_false ta
        clear ta
        have H' := aM_ H
        clear H
        go_wp2
        repeat (go_quiet (fail); try go_wp2)
        go_roundg k3
        case measure => have := sa.out; have := Fa.out; have := Ga.out; omega
        case rel => exact ⟨(wrap64 (ba + 1)), rS_, H', ⟨by have := sa.out; have := Fa.out; have := Ga.out; omega⟩, by repeat (first | exact Drawn0.refl _ | apply Drawn0.step)⟩
   rw [if_neg c3] at H
   have fa : decide (ba < (a0.size : Int)) = false := decide_eq_false c3
   clear c3
   obtain rfl := Option.some.inj H
   go_wp2
   repeat (go_quiet (fail); try go_wp2)
   go_ret
   exact ⟨by first | rfl | (simp; done) | (simp [*]; done), by repeat (first | exact Drawn0.refl _ | apply Drawn0.step)⟩

/-! ### kerbsuiteref1_ValidName: function 43 -/
def kerbsuiteref1_ValidName.f (k : Nat) (a0 : ByteArray) : Option (Bool) := if (a0.size : Int) > 0 then ((kerbsuiteref1_text.f k a0 (⟨#[46, 64]⟩ : ByteArray)).bind fun ma => (some ma)) else (some false)
set_option maxHeartbeats 8000000 in
set_option maxRecDepth 100000 in
theorem kerbsuiteref1_ValidName.calls (k : Nat) (a0 : ByteArray) (r : Bool) (w : World) (h : kerbsuiteref1_ValidName.f k a0 = some r) :
  Calls Tryd.prog 43 #[.string a0] w fun e w' => e = .returned (.bool r) ∧ Drawn0 w w' := by
 have H : (if (a0.size : Int) > 0 then ((kerbsuiteref1_text.f k a0 (⟨#[46, 64]⟩ : ByteArray)).bind fun ma => (some ma)) else (some false)) = some r := h
 clear h
 by_cases c2 : (a0.size : Int) > 0
 ·rw [if_pos c2] at H
  have Da : decide (0 < (a0.size : Int)) = true := decide_eq_true c2
  have Ea : decide (0 < a0.size) = true := decide_eq_true (by omega)
  clear c2
  replace H := Option.bind_eq_some_iff.mp H
  obtain ⟨ma, Ca, H⟩ := H
  replace H : (some ma) = some r := H
  have A3 := aM_ Ca
  clear Ca
  obtain rfl := Option.some.inj H
  go_enter Tryd.func43, Tryd.ntmps43
  go_wp2_with (first | (go_at_call 62; (with_reducible refine (kerbsuiteref1_text.calls k a0 (⟨#[46, 64]⟩ : ByteArray) ma _ A3.out).mono ?_); rintro e w' ⟨rfl, ⟨nd, rfl⟩⟩))
  go_ret
  exact ⟨by first | rfl | (simp; done) | (simp [*]; done), by repeat (first | exact Drawn0.refl _ | apply Drawn0.step)⟩
 rw [if_neg c2] at H
 have Da : decide (0 < (a0.size : Int)) = false := decide_eq_false c2
 have Ea : decide (0 < a0.size) = false := decide_eq_false (by omega)
 clear c2
 obtain rfl := Option.some.inj H
 go_enter Tryd.func43, Tryd.ntmps43
 go_wp2
 go_ret
 exact ⟨by first | rfl | (simp; done) | (simp [*]; done), by repeat (first | exact Drawn0.refl _ | apply Drawn0.step)⟩

/-! ### kerbsuiteref1_ValidInstance: function 44 -/
def kerbsuiteref1_ValidInstance.f (k : Nat) (a0 : ByteArray) : Option (Bool) := (kerbsuiteref1_text.f k a0 (⟨#[64]⟩ : ByteArray)).bind fun na => (some na)
set_option maxHeartbeats 8000000 in
set_option maxRecDepth 100000 in
theorem kerbsuiteref1_ValidInstance.calls (k : Nat) (a0 : ByteArray) (r : Bool) (w : World) (h : kerbsuiteref1_ValidInstance.f k a0 = some r) :
  Calls Tryd.prog 44 #[.string a0] w fun e w' => e = .returned (.bool r) ∧ Drawn0 w w' := by
 have H : ((kerbsuiteref1_text.f k a0 (⟨#[64]⟩ : ByteArray)).bind fun na => (some na)) = some r := h
 clear h
 replace H := Option.bind_eq_some_iff.mp H
 obtain ⟨na, Ya, H⟩ := H
 replace H : (some na) = some r := H
 have A2 := aM_ Ya
 clear Ya
 obtain rfl := Option.some.inj H
 go_enter Tryd.func44, Tryd.ntmps44
 go_wp2_with (first | ((with_reducible refine gate_callee (f := 62) rfl ?_); refine goesL_ (some 4) rfl rfl Tryd.func62 (by kernel_rfl) rfl #[.string a0, .string (⟨#[64]⟩ : ByteArray)] rfl aR_ ?_; (with_reducible refine (kerbsuiteref1_text.calls k a0 (⟨#[64]⟩ : ByteArray) na _ A2.out).mono ?_); rintro e w' ⟨rfl, ⟨nd, rfl⟩⟩; refine ⟨_, rfl, ?_⟩))
 go_ret
 exact ⟨by first | rfl | (simp; done) | (simp [*]; done), by repeat (first | exact Drawn0.refl _ | apply Drawn0.step)⟩

/-! ### kerbsuiteref3_Make: function 64 -/
def kerbsuiteref3_Make.f (a0 : Int) (a1 : Int) : Option (Int) := if a0 = 1 then (if a1 < 1 then (some 0) else (if a1 > 4294967295 then (some 0) else (some (Go.bits .or .u64 (IntKind.u64.wrap ((IntKind.u64.wrap (a0)) * 72057594037927936)) (IntKind.u64.wrap (a1)))))) else (if a0 = 2 then (if a1 < 1 then (some 0) else (if a1 > 4294967295 then (some 0) else (some (Go.bits .or .u64 (IntKind.u64.wrap ((IntKind.u64.wrap (a0)) * 72057594037927936)) (IntKind.u64.wrap (a1)))))) else (some 0))
set_option maxHeartbeats 8000000 in
set_option maxRecDepth 100000 in
theorem kerbsuiteref3_Make.calls (a0 : Int) (a1 : Int) (r : Int) (w : World) (h : kerbsuiteref3_Make.f a0 a1 = some r) :
  Calls Tryd.prog 64 #[.int .i64 a0, .int .i64 a1] w fun e w' => e = .returned (.int .u64 r) ∧ Drawn0 w w' := by
 have H : (if a0 = 1 then (if a1 < 1 then (some 0) else (if a1 > 4294967295 then (some 0) else (some (Go.bits .or .u64 (IntKind.u64.wrap ((IntKind.u64.wrap (a0)) * 72057594037927936)) (IntKind.u64.wrap (a1)))))) else (if a0 = 2 then (if a1 < 1 then (some 0) else (if a1 > 4294967295 then (some 0) else (some (Go.bits .or .u64 (IntKind.u64.wrap ((IntKind.u64.wrap (a0)) * 72057594037927936)) (IntKind.u64.wrap (a1)))))) else (some 0))) = some r := h
 clear h
 by_cases c3 : a0 = 1
 ·rw [if_pos c3] at H
  have fa : (a0 == 1) = true := beq_iff_eq.mpr c3
  have cb : (a0 != 1) = false := bne_eq_false_iff_eq.mpr c3
  clear c3
  by_cases c4 : a1 < 1
  ·rw [if_pos c4] at H
   have db : decide (a1 < 1) = true := decide_eq_true c4
   clear c4
   obtain rfl := Option.some.inj H
   go_enter Tryd.func64, Tryd.ntmps64
   go_wp2
   go_ret
   exact ⟨by first | rfl | (simp; done) | (simp [*]; done), by repeat (first | exact Drawn0.refl _ | apply Drawn0.step)⟩
  rw [if_neg c4] at H
  have db : decide (a1 < 1) = false := decide_eq_false c4
  clear c4
  by_cases c5 : a1 > 4294967295
  ·rw [if_pos c5] at H
   have la : decide (4294967295 < a1) = true := decide_eq_true c5
   clear c5
   obtain rfl := Option.some.inj H
   go_enter Tryd.func64, Tryd.ntmps64
   go_wp2
   go_ret
   exact ⟨by first | rfl | (simp; done) | (simp [*]; done), by repeat (first | exact Drawn0.refl _ | apply Drawn0.step)⟩
  rw [if_neg c5] at H
  have la : decide (4294967295 < a1) = false := decide_eq_false c5
  clear c5
  obtain rfl := Option.some.inj H
  go_enter Tryd.func64, Tryd.ntmps64
  go_wp2
  go_ret
  exact ⟨by first | rfl | (simp; done) | (simp [*]; done), by repeat (first | exact Drawn0.refl _ | apply Drawn0.step)⟩
 rw [if_neg c3] at H
 have fa : (a0 == 1) = false := beq_eq_false_iff_ne.mpr c3
 have cb : (a0 != 1) = true := bne_iff_ne.mpr c3
 by_cases c6 : a0 = 2
 ·rw [if_pos c6] at H
  have eb : (a0 == 2) = true := beq_iff_eq.mpr c6
  have fb : (a0 != 2) = false := bne_eq_false_iff_eq.mpr c6
  clear c6
  by_cases c7 : a1 < 1
  ·rw [if_pos c7] at H
   have qa : decide (a1 < 1) = true := decide_eq_true c7
   clear c7
   obtain rfl := Option.some.inj H
   go_enter Tryd.func64, Tryd.ntmps64
   go_wp2
   go_ret
   exact ⟨by first | rfl | (simp; done) | (simp [*]; done), by repeat (first | exact Drawn0.refl _ | apply Drawn0.step)⟩
  rw [if_neg c7] at H
  have qa : decide (a1 < 1) = false := decide_eq_false c7
  clear c7
  by_cases c8 : a1 > 4294967295
  ·rw [if_pos c8] at H
   have gb : decide (4294967295 < a1) = true := decide_eq_true c8
   clear c8
   obtain rfl := Option.some.inj H
   go_enter Tryd.func64, Tryd.ntmps64
   go_wp2
   go_ret
   exact ⟨by first | rfl | (simp; done) | (simp [*]; done), by repeat (first | exact Drawn0.refl _ | apply Drawn0.step)⟩
  rw [if_neg c8] at H
  have gb : decide (4294967295 < a1) = false := decide_eq_false c8
  clear c8
  obtain rfl := Option.some.inj H
  go_enter Tryd.func64, Tryd.ntmps64
  go_wp2
  go_ret
  exact ⟨by first | rfl | (simp; done) | (simp [*]; done), by repeat (first | exact Drawn0.refl _ | apply Drawn0.step)⟩
 rw [if_neg c6] at H
 have eb : (a0 == 2) = false := beq_eq_false_iff_ne.mpr c6
 have fb : (a0 != 2) = true := bne_iff_ne.mpr c6
 obtain rfl := Option.some.inj H
 go_enter Tryd.func64, Tryd.ntmps64
 go_wp2
 go_ret
 exact ⟨by first | rfl | (simp; done) | (simp [*]; done), by repeat (first | exact Drawn0.refl _ | apply Drawn0.step)⟩

/-! ### kerbsuiteref3_Valid: function 45 -/
def kerbsuiteref3_Valid.f (a0 : Int) : Option (Bool) := if a0 = 0 then (some false) else ((kerbsuiteref3_Make.f (wrap64 (a0 / 72057594037927936)) (wrap64 (Go.bits .and .u64 a0 72057594037927935))).bind fun oa => (some (oa == a0)))
set_option maxHeartbeats 8000000 in
set_option maxRecDepth 100000 in
theorem kerbsuiteref3_Valid.calls (a0 : Int) (r : Bool) (w : World) (h : kerbsuiteref3_Valid.f a0 = some r) :
  Calls Tryd.prog 45 #[.int .u64 a0] w fun e w' => e = .returned (.bool r) ∧ Drawn0 w w' := by
 have H : (if a0 = 0 then (some false) else ((kerbsuiteref3_Make.f (wrap64 (a0 / 72057594037927936)) (wrap64 (Go.bits .and .u64 a0 72057594037927935))).bind fun oa => (some (oa == a0)))) = some r := h
 clear h
 by_cases c2 : a0 = 0
 ·rw [if_pos c2] at H
  have Da : (a0 == 0) = true := beq_iff_eq.mpr c2
  have Ea : (a0 != 0) = false := bne_eq_false_iff_eq.mpr c2
  clear c2
  obtain rfl := Option.some.inj H
  go_enter Tryd.func45, Tryd.ntmps45
  go_wp2
  go_ret
  exact ⟨by first | rfl | (simp; done) | (simp [*]; done), by repeat (first | exact Drawn0.refl _ | apply Drawn0.step)⟩
 rw [if_neg c2] at H
 have Da : (a0 == 0) = false := beq_eq_false_iff_ne.mpr c2
 have Ea : (a0 != 0) = true := bne_iff_ne.mpr c2
 replace H := Option.bind_eq_some_iff.mp H
 obtain ⟨oa, Ca, H⟩ := H
 replace H : (some (oa == a0)) = some r := H
 have A3 := aM_ Ca
 clear Ca
 obtain rfl := Option.some.inj H
 go_enter Tryd.func45, Tryd.ntmps45
 go_wp2_with (first | (go_at_call 64; (with_reducible refine (kerbsuiteref3_Make.calls (wrap64 (a0 / 72057594037927936)) (wrap64 (Go.bits .and .u64 a0 72057594037927935)) oa _ A3.out).mono ?_); rintro e w' ⟨rfl, ⟨nd, rfl⟩⟩))
 go_ret
 exact ⟨by first | rfl | (simp; done) | (simp [*]; done), by repeat (first | exact Drawn0.refl _ | apply Drawn0.step)⟩

/-! ### kerbsuiteref12_within: function 46 -/
def kerbsuiteref12_within.f (a0 : Int) (a1 : Int) : Option (Bool) := if a0 ≥ 0 then (some (decide (a0 ≤ a1))) else (some false)
set_option maxHeartbeats 8000000 in
set_option maxRecDepth 100000 in
theorem kerbsuiteref12_within.calls (a0 : Int) (a1 : Int) (r : Bool) (w : World) (h : kerbsuiteref12_within.f a0 a1 = some r) :
  Calls Tryd.prog 46 #[.int .i64 a0, .int .i64 a1] w fun e w' => e = .returned (.bool r) ∧ Drawn0 w w' := by
 have H : (if a0 ≥ 0 then (some (decide (a0 ≤ a1))) else (some false)) = some r := h
 clear h
 by_cases c3 : a0 ≥ 0
 ·rw [if_pos c3] at H
  have fa : decide (0 ≤ a0) = true := decide_eq_true c3
  clear c3
  obtain rfl := Option.some.inj H
  go_enter Tryd.func46, Tryd.ntmps46
  go_wp2
  go_ret
  exact ⟨by first | rfl | (simp; done) | (simp [*]; done), by repeat (first | exact Drawn0.refl _ | apply Drawn0.step)⟩
 rw [if_neg c3] at H
 have fa : decide (0 ≤ a0) = false := decide_eq_false c3
 clear c3
 obtain rfl := Option.some.inj H
 go_enter Tryd.func46, Tryd.ntmps46
 go_wp2
 go_ret
 exact ⟨by first | rfl | (simp; done) | (simp [*]; done), by repeat (first | exact Drawn0.refl _ | apply Drawn0.step)⟩

end Go.Proofs.YthfdfoigoomaoaaDoor.PDb
