/- The walks of functions of the translation: each call returns what the plain function beside it says. -/
import Derived.Test.YthfdfoigoomaoaaDoorPDbx0
import Derived.Test.YthfdfoigoomaoaaDoorPDbx1
import Derived.Test.YthfdfoigoomaoaaDoorPDbx2
import Derived.Test.YthfdfoigoomaoaaDoorPDbx4
import Derived.Test.YthfdfoigoomaoaaDoorPDbx6
import Derived.Test.YthfdfoigoomaoaaDoorPDbx7
import Derived.Test.YthfdfoigoomaoaaDoorPDbx8
import Derived.Test.YthfdfoigoomaoaaDoorPDbx10
import Derived.Test.YthfdfoigoomaoaaDoorPDbx11
namespace Go.Proofs.YthfdfoigoomaoaaDoor.PDb
open Go.RowKit Go.Proofs.YthfdfoigoomaoaaDoorW.PrintWords Go.Proofs.YthfdfoigoomaoaaDoorW.PrintLast Go.Proofs.YthfdfoigoomaoaaDoorW.PrintMore Go.Proofs.YthfdfoigoomaoaaDoor.Aid
attribute [local go_sem] max2_int min2_int max_two min_two max_three min_three max_four min_four aid_str_gtr aid_str_leq   -- for this text's walks alone
set_option linter.unusedVariables false
set_option linter.unusedSimpArgs false

attribute [local go_sem high] eqA35
/-! ### kerbsuitelaw12_DatabaseKeeps: function 5 -/
mutual
def kerbsuitelaw12_DatabaseKeeps.j0 : Nat → List Int → List Int → Int → Bool → Option (Bool)
 | 0, _, _, _, _ => none
 | k + 1, x0, x1, x2, rl => if rl = true then (some true) else ((kerbsuitedata_Database.f k x0 0).bind fun Ta => ((kerbsuitedata_Entry.f k x1 0).bind fun ga => ((database_Find.f k Ta.1 Ta.2 ga.1 ga.2.1).bind fun zb => ((database_Add.f k Ta.1 Ta.2 ga.1 ga.2.1 ga.2.2.1 ga.2.2.2.1 ga.2.2.2.2.1 ga.2.2.2.2.2.1 ga.2.2.2.2.2.2.1 ga.2.2.2.2.2.2.2.1 ga.2.2.2.2.2.2.2.2.1).bind fun na => (if (Ta.2.length : Int) = 60 then (some (na.2.2 == 106)) else ((database_Find.f k na.1 na.2.1 ga.1 ga.2.1).bind fun sa => (if na.2.2 = 0 then ((database_Check.f k na.1 na.2.1).bind fun rb => (if rb = 0 then (kerbsuitelaw12_DatabaseKeeps.j1 k x2 zb.2 sa.1 sa.2 ((na.2.1.length : Int) != (wrap64 ((Ta.2.length : Int) + 1))) Ta.1 Ta.2 ga.1 ga.2.1 ga.2.2.1 ga.2.2.2.1 ga.2.2.2.2.1 ga.2.2.2.2.2.1 ga.2.2.2.2.2.2.1 ga.2.2.2.2.2.2.2.1 ga.2.2.2.2.2.2.2.2.1 na.1 na.2.1) else (kerbsuitelaw12_DatabaseKeeps.j1 k x2 zb.2 sa.1 sa.2 true Ta.1 Ta.2 ga.1 ga.2.1 ga.2.2.1 ga.2.2.2.1 ga.2.2.2.2.1 ga.2.2.2.2.2.1 ga.2.2.2.2.2.2.1 ga.2.2.2.2.2.2.2.1 ga.2.2.2.2.2.2.2.2.1 na.1 na.2.1))) else (kerbsuitelaw12_DatabaseKeeps.j1 k x2 zb.2 sa.1 sa.2 true Ta.1 Ta.2 ga.1 ga.2.1 ga.2.2.1 ga.2.2.2.1 ga.2.2.2.2.1 ga.2.2.2.2.2.1 ga.2.2.2.2.2.2.1 ga.2.2.2.2.2.2.2.1 ga.2.2.2.2.2.2.2.2.1 na.1 na.2.1))))))))
def kerbsuitelaw12_DatabaseKeeps.j1 : Nat → Int → Int → Int → Int → Bool → ByteArray → List (S35) → ByteArray → ByteArray → Int → Int → Int → Int → Int → Int → Int → ByteArray → List (S35) → Option (Bool)
 | 0, _, _, _, _, _, _, _, _, _, _, _, _, _, _, _, _, _, _ => none
 | k + 1, x2, sl, Yb, fk, tl, Ra, pa, Ff, Gf, Hf, If, Jf, Kf, Lf, Mf, Nf, ql, wb => if tl = true then (some false) else (if sl = 8 then (if fk = 0 then (if Yb < 0 then (kerbsuitelaw12_DatabaseKeeps.j2 k x2 true Ra pa) else (if Yb ≥ (wb.length : Int) then (kerbsuitelaw12_DatabaseKeeps.j2 k x2 true Ra pa) else (if 0 ≤ Yb then (if Yb < (wb.length : Int) then (if (!((((rd_T35 wb Yb).f0).toList) == Ff.toList) || (!((((rd_T35 wb Yb).f1).toList) == Gf.toList) || (!(((rd_T35 wb Yb).f2) == Hf) || (!(((rd_T35 wb Yb).f3) == If) || (!(((rd_T35 wb Yb).f4) == Jf) || (!(((rd_T35 wb Yb).f5) == Kf) || (!(((rd_T35 wb Yb).f6) == Lf) || (!(((rd_T35 wb Yb).f7) == Mf) || (!(((rd_T35 wb Yb).f8) == Nf)))))))))) = true then (kerbsuitelaw12_DatabaseKeeps.j2 k x2 true Ra pa) else (kerbsuitelaw12_DatabaseKeeps.j2 k x2 false Ra pa)) else (none)) else (none)))) else (kerbsuitelaw12_DatabaseKeeps.j2 k x2 true Ra pa)) else (kerbsuitelaw12_DatabaseKeeps.j2 k x2 (fk != 9) Ra pa))
def kerbsuitelaw12_DatabaseKeeps.j2 : Nat → Int → Bool → ByteArray → List (S35) → Option (Bool)
 | 0, _, _, _, _ => none
 | k + 1, x2, Ok, Ra, pa => if Ok = true then (some false) else (if (pa.length : Int) = 0 then (some true) else ((kerbsuitedata_Long.f (wrap64 (x2))).bind fun Gb => ((database_Rekey.f k Ra pa (Int.tmod (wrap64 (x2)) (pa.length : Int)) Gb).bind fun Aa => (if Aa.2.2 = 0 then ((database_Check.f k Aa.1 Aa.2.1).bind fun Bb => (if Bb = 0 then (kerbsuitelaw12_DatabaseKeeps.j3 k x2 (Int.tmod (wrap64 (x2)) (pa.length : Int)) ((Aa.2.1.length : Int) != (pa.length : Int)) Ra pa Aa.1 Aa.2.1) else (kerbsuitelaw12_DatabaseKeeps.j3 k x2 (Int.tmod (wrap64 (x2)) (pa.length : Int)) true Ra pa Aa.1 Aa.2.1))) else (kerbsuitelaw12_DatabaseKeeps.j3 k x2 (Int.tmod (wrap64 (x2)) (pa.length : Int)) true Ra pa Aa.1 Aa.2.1)))))
def kerbsuitelaw12_DatabaseKeeps.j3 : Nat → Int → Int → Bool → ByteArray → List (S35) → ByteArray → List (S35) → Option (Bool)
 | 0, _, _, _, _, _, _, _ => none
 | k + 1, x2, Dd, Pk, Ra, pa, Pb, Ya => if Pk = true then (some false) else (kerbsuitelaw12_DatabaseKeeps.l0 k x2 Dd 0 Ra pa Pb Ya)
def kerbsuitelaw12_DatabaseKeeps.l0 : Nat → Int → Int → Int → ByteArray → List (S35) → ByteArray → List (S35) → Option (Bool)
 | 0, _, _, _, _, _, _, _ => none
 | k + 1, x2, Dd, db, Ra, pa, Pb, Ya => if db < (pa.length : Int) then (if 0 ≤ db then (if db = Dd then ((kerbsuitedata_Long.f (wrap64 (x2))).bind fun Ed => (kerbsuitelaw12_DatabaseKeeps.j5 k x2 Dd db Ra pa Pb Ya ((rd_T35 pa db).f0) ((rd_T35 pa db).f1) Ed (wrap64 ((Int.tmod ((rd_T35 pa db).f3) 255) + 1)) ((rd_T35 pa db).f4) ((rd_T35 pa db).f5) ((rd_T35 pa db).f6) ((rd_T35 pa db).f7) ((rd_T35 pa db).f8))) else (kerbsuitelaw12_DatabaseKeeps.j5 k x2 Dd db Ra pa Pb Ya ((rd_T35 pa db).f0) ((rd_T35 pa db).f1) ((rd_T35 pa db).f2) ((rd_T35 pa db).f3) ((rd_T35 pa db).f4) ((rd_T35 pa db).f5) ((rd_T35 pa db).f6) ((rd_T35 pa db).f7) ((rd_T35 pa db).f8))) else (none)) else (some true)
def kerbsuitelaw12_DatabaseKeeps.j5 : Nat → Int → Int → Int → ByteArray → List (S35) → ByteArray → List (S35) → ByteArray → ByteArray → Int → Int → Int → Int → Int → Int → Int → Option (Bool)
 | 0, _, _, _, _, _, _, _, _, _, _, _, _, _, _, _, _ => none
 | k + 1, x2, Dd, db, Ra, pa, Pb, Ya, Of, Pf, Qf, Rf, Sf, Tf, Uf, Vf, Wf => if 0 ≤ db then (if db < (Ya.length : Int) then (if (!((((rd_T35 Ya db).f0).toList) == Of.toList) || (!((((rd_T35 Ya db).f1).toList) == Pf.toList) || (!(((rd_T35 Ya db).f2) == Qf) || (!(((rd_T35 Ya db).f3) == Rf) || (!(((rd_T35 Ya db).f4) == Sf) || (!(((rd_T35 Ya db).f5) == Tf) || (!(((rd_T35 Ya db).f6) == Uf) || (!(((rd_T35 Ya db).f7) == Vf) || (!(((rd_T35 Ya db).f8) == Wf)))))))))) = true then (some false) else (kerbsuitelaw12_DatabaseKeeps.l0 k x2 Dd (wrap64 (db + 1)) Ra pa Pb Ya)) else (none)) else (none)
end
def kerbsuitelaw12_DatabaseKeeps.f (k : Nat) (l0 : List Int) (l1 : List Int) (a2 : Int) : Option (Bool) := (kerbsuitelaw12_awake.f k).bind fun ld => (if ld = true then (if (l0.length : Int) > 300 then (kerbsuitelaw12_DatabaseKeeps.j0 k l0 l1 a2 true) else (kerbsuitelaw12_DatabaseKeeps.j0 k l0 l1 a2 (decide ((l1.length : Int) > 20)))) else (some false))
def kerbsuitelaw12_DatabaseKeeps.T14 : Bool × List (List Nat × List Nat) := (true,[([], []), ([0], [0]), ([1], [1]), ([2], [2]), ([3, 2], [2, 3]), ([4, 2, 2], [2, 4]), ([5], [5]), ([6, 5], [5, 6]), ([5, 7, 2], [2, 5, 7]), ([8, 5, 2], [2, 8]), ([9], [9]), ([9], [9]), ([11, 9], [9, 11]), ([12, 9], [9, 12]), ([10, 13, 9], [9, 10, 13]), ([9, 14, 2], [2, 9, 14]), ([15, 9, 2], [2, 15]), ([16], [16]), ([17, 16], [16, 17]), ([16], [16]), ([18, 19, 16], [16, 18, 19]), ([20, 16], [16, 20]), ([16], [16]), ([21, 22, 16], [16, 21, 22]), ([16, 23, 2], [2, 16, 23]), ([2, 24], [2, 24]), ([25, 16], [25]), ([26], [26]), ([27, 26], [26, 27]), ([28, 26, 26], [26, 28]), ([29], [29]), ([30, 29], [29, 30]), ([29, 31, 26], [26, 29, 31]), ([26, 32], [26, 32])])
def kerbsuitelaw12_DatabaseKeeps.B14 : List Nat := [0, 1, 3, 7, 15, 31, 63, 127, 255, 511, 1023, 1023, 3071, 7167, 16383, 32767, 65535, 131071, 262143, 131071, 1048575, 2097151, 131071, 8388607, 16777215, 33554431, 67108863, 134217727, 268435455, 536870911, 1073741823, 2147483647, 4294967295, 8589934591]
theorem kerbsuitelaw12_DatabaseKeeps.tab14 : rtab .any (opsOf Tryd.f5 14) = kerbsuitelaw12_DatabaseKeeps.T14 := by kernel_rfl
theorem kerbsuitelaw12_DatabaseKeeps.bits14 : waitsOk kerbsuitelaw12_DatabaseKeeps.T14.2 kerbsuitelaw12_DatabaseKeeps.B14 = true := by kernel_rfl
def kerbsuitelaw12_DatabaseKeeps.T19 : Bool × List (List Nat × List Nat) := (true,[([], []), ([], []), ([], []), ([2], [2]), ([3], [3]), ([0, 1, 4, 4], [0, 1, 4]), ([5], [5]), ([6], [6]), ([6], [6]), ([], []), ([9, 7, 5, 0, 1, 2, 3, 4, 5, 6, 7, 9], [7, 9]), ([8, 10, 0, 1, 2, 3, 4, 5, 6, 7, 8, 9, 10], [8])])
def kerbsuitelaw12_DatabaseKeeps.B19 : List Nat := [0, 0, 0, 4, 12, 31, 63, 127, 127, 0, 767, 2047]
theorem kerbsuitelaw12_DatabaseKeeps.tab19 : rtab .any (opsOf Tryd.f5 19) = kerbsuitelaw12_DatabaseKeeps.T19 := by kernel_rfl
theorem kerbsuitelaw12_DatabaseKeeps.bits19 : waitsOk kerbsuitelaw12_DatabaseKeeps.T19.2 kerbsuitelaw12_DatabaseKeeps.B19 = true := by kernel_rfl
set_option maxHeartbeats 60000000 in
set_option maxRecDepth 100000 in
theorem kerbsuitelaw12_DatabaseKeeps.calls (k : Nat) (A0 : Option Addr) (c0 : Nat) (l0 : List Int) (A1 : Option Addr) (c1 : Nat) (l1 : List Int) (a2 : Int) (r : Bool) (w : World) (hr0 : Kd.C (Kd.int .u8) w A0 l0.length l0) (hc0 : l0.length ≤ c0) (hr1 : Kd.C (Kd.int .u8) w A1 l1.length l1) (hc1 : l1.length ≤ c1) (h : kerbsuitelaw12_DatabaseKeeps.f k l0 l1 a2 = some r) :
  Calls Tryd.prog 5 #[.slice A0 l0.length c0, .slice A1 l1.length c1, .int .u8 a2] w fun e w' => e = .returned (.bool r) ∧ Below w.heap.size w w' := by
 have hu24 := Tryd.underlying24
 have hu52 := Tryd.underlying52
 have hu35 := Tryd.underlying35
 have ik := aM_ hr0
 have jk := aM_ hc0
 clear hr0 hc0
 have kk := aM_ hr1
 have Vn := aM_ hc1
 clear hr1 hc1
 have HB := aM_ (Below.refl w.heap.size w)
 have H : ((kerbsuitelaw12_awake.f k).bind fun ld => (if ld = true then (if (l0.length : Int) > 300 then (kerbsuitelaw12_DatabaseKeeps.j0 k l0 l1 a2 true) else (kerbsuitelaw12_DatabaseKeeps.j0 k l0 l1 a2 (decide ((l1.length : Int) > 20)))) else (some false))) = some r := h
 clear h
 replace H := Option.bind_eq_some_iff.mp H
 obtain ⟨ld, lk, H⟩ := H
 replace H : (if ld = true then (if (l0.length : Int) > 300 then (kerbsuitelaw12_DatabaseKeeps.j0 k l0 l1 a2 true) else (kerbsuitelaw12_DatabaseKeeps.j0 k l0 l1 a2 (decide ((l1.length : Int) > 20)))) else (some false)) = some r := H
 have A4 := aM_ lk
 clear lk
 by_cases c5 : ld = true
 rotate_left
 ·replace c5 := Bool.eq_false_iff.mpr c5
  subst c5
  have H1 : (some false) = some r := by rw [if_neg (show ¬ (false = true) by decide)] at H; exact H
  clear H
  have H := H1
  clear H1
  obtain rfl := Option.some.inj H
  go_enter Tryd.func5, Tryd.ntmps5
  go_wp2_with (first | ((with_reducible refine gate_callee (f := 7) rfl ?_); refine gC_ (some 20) 7 #[] Tryd.func7 ?_; (with_reducible refine (kerbsuitelaw12_awake.calls k  false _ A4.out).mono ?_); rintro e zn ⟨rfl, hb⟩; refine ⟨_, rfl, ?_⟩; replace HB := aM_ (below_step (bk_ HB.out) hb); clear hb))
  go_ret
  exact ⟨eW_, hB_⟩
 subst c5
 have H1 : (if (l0.length : Int) > 300 then (kerbsuitelaw12_DatabaseKeeps.j0 k l0 l1 a2 true) else (kerbsuitelaw12_DatabaseKeeps.j0 k l0 l1 a2 (decide ((l1.length : Int) > 20)))) = some r := by rw [if_pos rfl] at H; exact H
 clear H
 have H := H1
 clear H1
 have aj := aM_ H
 clear H
 go_enter Tryd.func5, Tryd.ntmps5
 go_upto_region 3 with (first | ((with_reducible refine gate_callee (f := 7) rfl ?_); refine gC_ (some 20) 7 #[] Tryd.func7 ?_; (with_reducible refine (kerbsuitelaw12_awake.calls k  true _ A4.out).mono ?_); rintro e w7 ⟨rfl, hb⟩; refine ⟨_, rfl, ?_⟩; replace HB := aM_ (below_step (bk_ HB.out) hb); clear hb))
 (try simp only [Act.put, sA_, sB_, sC_])
 go_cut [29] (fun vl wc => ∃ (kq : Nat) (yd : Bool), vl = .bool yd ∧ Aside0 (kerbsuitelaw12_DatabaseKeeps.j0 kq l0 l1 a2 yd = some r) ∧ Aside0 (kq ≤ k) ∧ Aside0 (Below w.heap.size w wc))
 case first => as_aux_lemma =>
  have H := aj.out
  clear aj
  by_cases c8 : (l0.length : Int) > 300
  ·rw [if_pos c8] at H
   have Dc : decide (300 < (l0.length : Int)) = true := decide_eq_true c8
   have re : decide (300 < l0.length) = true := decide_eq_true (by omega)
   clear c8
   (first | rw [Dc] | (simp only [i64_w, i32_w]; rw [Dc]) | skip)
   have H' := aM_ H
   clear H
   go_wp2
   go_meet
   case rel => exact ⟨_, (true), rS_, H', ⟨by first | omega | exact Nat.le_refl _⟩, ⟨hB_⟩⟩
  rw [if_neg c8] at H
  have Dc : decide (300 < (l0.length : Int)) = false := decide_eq_false c8
  have re : decide (300 < l0.length) = false := decide_eq_false (by omega)
  clear c8
  (first | rw [Dc] | (simp only [i64_w, i32_w]; rw [Dc]) | skip)
  have H' := aM_ H
  clear H
  go_wp2
  go_meet
  case rel => exact ⟨_, (decide ((l1.length : Int) > 20)), rS_, H', ⟨by first | omega | exact Nat.le_refl _⟩, ⟨hB_⟩⟩
 case rest =>
  clear aj
  try clear c1
  try clear p2
  try clear c5
  try clear c7
  try clear c8
  try clear Dc
  try clear re
  obtain ⟨kq, yd, rfl, HA, Ob, HB⟩ := hcut
  cases kq with
  | zero => exact absurd HA.out (by simp [kerbsuitelaw12_DatabaseKeeps.j0])
  | succ Ja =>
   have H := HA.out
   clear HA
   simp only [kerbsuitelaw12_DatabaseKeeps.j0] at H
   by_cases c9 : yd = true
   ·subst c9
    have H1 : (some true) = some r := by rw [if_pos rfl] at H; exact H
    clear H
    have H := H1
    clear H1
    obtain rfl := Option.some.inj H
    go_wp2
    go_ret
    exact ⟨eW_, hB_⟩
   replace c9 := Bool.eq_false_iff.mpr c9
   subst c9
   have H1 : ((kerbsuitedata_Database.f Ja l0 0).bind fun Ta => ((kerbsuitedata_Entry.f Ja l1 0).bind fun ga => ((database_Find.f Ja Ta.1 Ta.2 ga.1 ga.2.1).bind fun zb => ((database_Add.f Ja Ta.1 Ta.2 ga.1 ga.2.1 ga.2.2.1 ga.2.2.2.1 ga.2.2.2.2.1 ga.2.2.2.2.2.1 ga.2.2.2.2.2.2.1 ga.2.2.2.2.2.2.2.1 ga.2.2.2.2.2.2.2.2.1).bind fun na => (if (Ta.2.length : Int) = 60 then (some (na.2.2 == 106)) else ((database_Find.f Ja na.1 na.2.1 ga.1 ga.2.1).bind fun sa => (if na.2.2 = 0 then ((database_Check.f Ja na.1 na.2.1).bind fun rb => (if rb = 0 then (kerbsuitelaw12_DatabaseKeeps.j1 Ja a2 zb.2 sa.1 sa.2 ((na.2.1.length : Int) != (wrap64 ((Ta.2.length : Int) + 1))) Ta.1 Ta.2 ga.1 ga.2.1 ga.2.2.1 ga.2.2.2.1 ga.2.2.2.2.1 ga.2.2.2.2.2.1 ga.2.2.2.2.2.2.1 ga.2.2.2.2.2.2.2.1 ga.2.2.2.2.2.2.2.2.1 na.1 na.2.1) else (kerbsuitelaw12_DatabaseKeeps.j1 Ja a2 zb.2 sa.1 sa.2 true Ta.1 Ta.2 ga.1 ga.2.1 ga.2.2.1 ga.2.2.2.1 ga.2.2.2.2.1 ga.2.2.2.2.2.1 ga.2.2.2.2.2.2.1 ga.2.2.2.2.2.2.2.1 ga.2.2.2.2.2.2.2.2.1 na.1 na.2.1))) else (kerbsuitelaw12_DatabaseKeeps.j1 Ja a2 zb.2 sa.1 sa.2 true Ta.1 Ta.2 ga.1 ga.2.1 ga.2.2.1 ga.2.2.2.1 ga.2.2.2.2.1 ga.2.2.2.2.2.1 ga.2.2.2.2.2.2.1 ga.2.2.2.2.2.2.2.1 ga.2.2.2.2.2.2.2.2.1 na.1 na.2.1)))))))) = some r := by rw [if_neg (show ¬ (false = true) by decide)] at H; exact H
   clear H
   have H := H1
   clear H1
   replace H := Option.bind_eq_some_iff.mp H
   obtain ⟨⟨oa, aa⟩, bj, H⟩ := H
   replace H : ((kerbsuitedata_Entry.f Ja l1 0).bind fun ga => ((database_Find.f Ja oa aa ga.1 ga.2.1).bind fun zb => ((database_Add.f Ja oa aa ga.1 ga.2.1 ga.2.2.1 ga.2.2.2.1 ga.2.2.2.2.1 ga.2.2.2.2.2.1 ga.2.2.2.2.2.2.1 ga.2.2.2.2.2.2.2.1 ga.2.2.2.2.2.2.2.2.1).bind fun na => (if (aa.length : Int) = 60 then (some (na.2.2 == 106)) else ((database_Find.f Ja na.1 na.2.1 ga.1 ga.2.1).bind fun sa => (if na.2.2 = 0 then ((database_Check.f Ja na.1 na.2.1).bind fun rb => (if rb = 0 then (kerbsuitelaw12_DatabaseKeeps.j1 Ja a2 zb.2 sa.1 sa.2 ((na.2.1.length : Int) != (wrap64 ((aa.length : Int) + 1))) oa aa ga.1 ga.2.1 ga.2.2.1 ga.2.2.2.1 ga.2.2.2.2.1 ga.2.2.2.2.2.1 ga.2.2.2.2.2.2.1 ga.2.2.2.2.2.2.2.1 ga.2.2.2.2.2.2.2.2.1 na.1 na.2.1) else (kerbsuitelaw12_DatabaseKeeps.j1 Ja a2 zb.2 sa.1 sa.2 true oa aa ga.1 ga.2.1 ga.2.2.1 ga.2.2.2.1 ga.2.2.2.2.1 ga.2.2.2.2.2.1 ga.2.2.2.2.2.2.1 ga.2.2.2.2.2.2.2.1 ga.2.2.2.2.2.2.2.2.1 na.1 na.2.1))) else (kerbsuitelaw12_DatabaseKeeps.j1 Ja a2 zb.2 sa.1 sa.2 true oa aa ga.1 ga.2.1 ga.2.2.1 ga.2.2.2.1 ga.2.2.2.2.1 ga.2.2.2.2.2.1 ga.2.2.2.2.2.2.1 ga.2.2.2.2.2.2.2.1 ga.2.2.2.2.2.2.2.2.1 na.1 na.2.1))))))) = some r := H
   have mk := aM_ bj
   clear bj
   replace H := Option.bind_eq_some_iff.mp H
   obtain ⟨⟨ta, ua, Ba, Ca, Da, Ea, Fa, Ga, Ha, Fd⟩, cj, H⟩ := H
   replace H : ((database_Find.f Ja oa aa ta ua).bind fun zb => ((database_Add.f Ja oa aa ta ua Ba Ca Da Ea Fa Ga Ha).bind fun na => (if (aa.length : Int) = 60 then (some (na.2.2 == 106)) else ((database_Find.f Ja na.1 na.2.1 ta ua).bind fun sa => (if na.2.2 = 0 then ((database_Check.f Ja na.1 na.2.1).bind fun rb => (if rb = 0 then (kerbsuitelaw12_DatabaseKeeps.j1 Ja a2 zb.2 sa.1 sa.2 ((na.2.1.length : Int) != (wrap64 ((aa.length : Int) + 1))) oa aa ta ua Ba Ca Da Ea Fa Ga Ha na.1 na.2.1) else (kerbsuitelaw12_DatabaseKeeps.j1 Ja a2 zb.2 sa.1 sa.2 true oa aa ta ua Ba Ca Da Ea Fa Ga Ha na.1 na.2.1))) else (kerbsuitelaw12_DatabaseKeeps.j1 Ja a2 zb.2 sa.1 sa.2 true oa aa ta ua Ba Ca Da Ea Fa Ga Ha na.1 na.2.1)))))) = some r := H
   have nk := aM_ cj
   clear cj
   replace H := Option.bind_eq_some_iff.mp H
   obtain ⟨⟨dj, xb⟩, ej, H⟩ := H
   replace H : ((database_Add.f Ja oa aa ta ua Ba Ca Da Ea Fa Ga Ha).bind fun na => (if (aa.length : Int) = 60 then (some (na.2.2 == 106)) else ((database_Find.f Ja na.1 na.2.1 ta ua).bind fun sa => (if na.2.2 = 0 then ((database_Check.f Ja na.1 na.2.1).bind fun rb => (if rb = 0 then (kerbsuitelaw12_DatabaseKeeps.j1 Ja a2 xb sa.1 sa.2 ((na.2.1.length : Int) != (wrap64 ((aa.length : Int) + 1))) oa aa ta ua Ba Ca Da Ea Fa Ga Ha na.1 na.2.1) else (kerbsuitelaw12_DatabaseKeeps.j1 Ja a2 xb sa.1 sa.2 true oa aa ta ua Ba Ca Da Ea Fa Ga Ha na.1 na.2.1))) else (kerbsuitelaw12_DatabaseKeeps.j1 Ja a2 xb sa.1 sa.2 true oa aa ta ua Ba Ca Da Ea Fa Ga Ha na.1 na.2.1))))) = some r := H
   have pk := aM_ ej
   clear ej
   replace H := Option.bind_eq_some_iff.mp H
   obtain ⟨⟨Xa, ia, Vb⟩, fj, H⟩ := H
   replace H : (if (aa.length : Int) = 60 then (some (Vb == 106)) else ((database_Find.f Ja Xa ia ta ua).bind fun sa => (if Vb = 0 then ((database_Check.f Ja Xa ia).bind fun rb => (if rb = 0 then (kerbsuitelaw12_DatabaseKeeps.j1 Ja a2 xb sa.1 sa.2 ((ia.length : Int) != (wrap64 ((aa.length : Int) + 1))) oa aa ta ua Ba Ca Da Ea Fa Ga Ha Xa ia) else (kerbsuitelaw12_DatabaseKeeps.j1 Ja a2 xb sa.1 sa.2 true oa aa ta ua Ba Ca Da Ea Fa Ga Ha Xa ia))) else (kerbsuitelaw12_DatabaseKeeps.j1 Ja a2 xb sa.1 sa.2 true oa aa ta ua Ba Ca Da Ea Fa Ga Ha Xa ia)))) = some r := H
   have qk := aM_ fj
   clear fj
   by_cases fd : (aa.length : Int) = 60
   ·rw [if_pos fd] at H
    have mf : ((aa.length : Int) == 60) = true := beq_iff_eq.mpr fd
    have nf : ((aa.length : Int) != 60) = false := bne_eq_false_iff_eq.mpr fd
    clear fd
    obtain rfl := Option.some.inj H
    go_wp2_with (first | ((with_reducible refine gate_callee (f := 9) rfl ?_); refine gC_ (some 31) 9 #[.slice A0 l0.length c0, .int .i64 0] Tryd.func9 ?_; (with_reducible refine (kerbsuitedata_Database.calls Ja _ _ l0 0 oa aa _ ?side1 ?side2 mk.out).mono ?_); (case side1 => exact cC_ ik.out HB.out); (case side2 => exact jk.out); rintro e Wn ⟨Qk, rfl, vb, hb⟩; refine ⟨_, rfl, ?_⟩; have ra := aM_ (Kd.R_lower vb (below_size (bk_ HB.out))); replace HB := aM_ (below_step (bk_ HB.out) hb); clear hb vb) | ((with_reducible refine gate_dst (N := 7) rfl ?_); (try (refine gate_guard (by rfl) ?_; dsimp only)); refine bE_ 7 24 #[.string (⟨#[]⟩ : ByteArray), .slice none 0 0] ?_; intro bb hg Xn hbox hb; replace ra := aM_ (Kd.R_below (bk_ ra.out) hb); have ba := aM_ (hbox); have Wj := aM_ (gB_ hg HB.out); have Oa := aM_ (gB_ hg HB.out); replace HB := aM_ (below_step (bk_ HB.out) hb); clear hb hbox hg; obtain ⟨Yf, Zf⟩ := kC2_ ba.out; obtain ⟨ag, bg⟩ := kZ2_ ba.out; obtain ⟨Od, Gd, Rk⟩ := Kd.R_slice ra.out; subst Rk) | ((with_reducible refine gate_dst (N := 34) rfl ?_); (try (refine gate_guard (by rfl) ?_; dsimp only)); refine bE_ 34 52 #[.slice A1 l1.length c1, .int .i64 0] ?_; intro Cb hg Yn hbox hb; replace ra := aM_ (Kd.R_below (by refine bk_ ?_; exact (Kd.R_mono (rF_ (rF_ (Kd.R_types ra.out ba.out (by decide)))) (fun _ h_ => h_.1))) hb); have Xj := aM_ (gB_ hg HB.out); have Yj := aM_ (gB_ hg HB.out); have Eb := aM_ (nL_ hg ba.out); have ya := aM_ (nG_ hg ba.out); replace ba := aM_ (blk_below (g := bb) (o := .cells #[.string oa, .slice Od aa.length Gd] 24 (0, 0)) (by exact puts_ ba.out) hb); have la := aM_ ((⟨_, _, hbox, (by rw [hg]; exact (below_size hB_)), kk.out⟩ : IsS52 w _ Cb l1 0)); replace HB := aM_ (below_step hB_ hb); clear hb hbox hg) | ((with_reducible refine gate_callee (f := 24) rfl ?_); refine gC_ (some 35) 24 #[.pointer (some ⟨Cb, 0, none⟩)] Tryd.func24 ?_; (with_reducible refine (kerbsuitedata_Entry.calls Ja Cb l1 0 ta ua Ba Ca Da Ea Fa Ga Ha Fd w _ ?side1 ?side2 nk.out).mono ?_); (case side1 => repeat (first | (with_reducible first | exact la.out | apply IsS52.alloc | apply IsS52.drewN | apply IsS52.drew | apply IsS52.set_1 | refine IsS52.far ?_ ya.out _) | exact la.out)); (case side2 => repeat (first | (with_reducible first | exact HB.out | apply bA_ | apply bN_ | apply bD_ | refine bS_ ?_ (IsS52.ge la.out) | refine bS_ ?_ Oa.out) | exact HB.out)); rintro e Zn ⟨rfl, hi, hb, hk⟩; refine ⟨_, rfl, ?_⟩; replace ra := aM_ (Kd.R_mono (Kd.R_keep (IsS52.apart (show IsS52 w _ Cb l1 0 from by repeat (first | (with_reducible first | exact la.out | apply IsS52.alloc | apply IsS52.drewN | apply IsS52.drew | apply IsS52.set_1 | refine IsS52.far ?_ ya.out _) | exact la.out)) (bk_ ra.out) (by decide)) hk (fun _ h => h.2)) (fun _ h => h.1)); replace ba := aM_ (KeepBut.blk hk (g' := bb) (o := .cells #[.string oa, .slice Od aa.length Gd] 24 (0, 0)) (bk_ ba.out) Eb.out (by simp)); replace HB := aM_ (hb); replace la := aM_ (hi); clear hb hk hi) | ((with_reducible refine gate_dst (N := 8) rfl ?_); (try (refine gate_guard (by rfl) ?_; dsimp only)); refine bE_ 8 35 #[.string (⟨#[]⟩ : ByteArray), .string (⟨#[]⟩ : ByteArray), .int .u64 0, .int .i64 0, .int .i64 0, .int .i64 0, .int .i64 0, .int .i64 0, .int .i64 0] ?_; intro ka hg wl hbox hb; replace ra := aM_ (Kd.R_below (Kd.R_elderB (bk_ ra.out) ka (Nat.le_of_eq hg.symm)) hb); have ea := aM_ (hbox); have Zj := aM_ ((by rw [hg]; exact (below_size (by repeat (first | (with_reducible first | exact HB.out | apply bA_ | apply bN_ | apply bD_ | refine bS_ ?_ (IsS52.ge la.out) | refine bS_ ?_ Oa.out) | exact HB.out))) : w.heap.size ≤ ka)); have ib := aM_ ((by rw [hg]; exact (below_size (by repeat (first | (with_reducible first | exact HB.out | apply bA_ | apply bN_ | apply bD_ | refine bS_ ?_ (IsS52.ge la.out) | refine bS_ ?_ Oa.out) | exact HB.out))) : w.heap.size ≤ ka)); replace HB := aM_ (below_step (by repeat (first | (with_reducible first | exact HB.out | apply bA_ | apply bN_ | apply bD_ | refine bS_ ?_ (IsS52.ge la.out) | refine bS_ ?_ Oa.out) | exact HB.out)) hb); have eb := aM_ (nL_ hg ba.out); have ub := aM_ (nG_ hg ba.out); replace ba := aM_ (kG_ ba.out hb); have Za := aM_ (nI_ hg (IsS52.lt la.out)); have uc := aM_ (nJ_ hg (IsS52.lt la.out)); replace la := aM_ (IsS52.below (by repeat (first | (with_reducible first | exact la.out | apply IsS52.alloc | apply IsS52.drewN | apply IsS52.drew | apply IsS52.set_1 | refine IsS52.far ?_ ya.out _) | exact la.out)) hb); clear hb hbox hg; have Cm := ub.out; have Dm := eb.out; have Em := uc.out; have Fm := Za.out; obtain ⟨cg, dg, eg, fg, gg, ig, jg, kg, lg⟩ := kC9_ ea.out; obtain ⟨mg, ng, og, pg, qg, rg, sg, tg, ug⟩ := kZ9_ ea.out; have Gm := Eb.out; have Hm := ya.out; obtain ⟨vg, wg⟩ := kC2_ ba.out; obtain ⟨xg, yg⟩ := kZ2_ ba.out) | ((with_reducible refine gate_callee (f := 18) rfl ?_); refine gC_ (some 42) 18 #[.agg #[.string oa, .slice Od aa.length Gd], .string ta, .string ua] Tryd.func18 ?_; (with_reducible refine (database_Find.calls Ja oa _ _ aa ta ua dj xb _ ?side1 ?side2 pk.out).mono ?_); (case side1 => refine (Kd.R_reads' (e := 35) (base := w.heap.size) (ok := fun k_ => (True ∧ k_ ≠ ka)) (n := aa.length) (c := Gd) ?_).2.2; exact (by refine bk_ ?_; exact (Kd.R_mono (rF_ (rF_ (rF_ (rF_ (rF_ (rF_ (rF_ (rF_ (rF_ (Kd.R_mono ra.out (fun k_ hk => (⟨hk, hk.2⟩ : _ ∧ k_ ≠ ka)))))))))))) (fun _ h_ => h_.1)))); (case side2 => exact (Kd.R_reads' ra.out).2.1); rintro e ao ⟨rfl, hb⟩; refine ⟨_, rfl, ?_⟩; replace ra := aM_ (Kd.R_below (by refine bk_ ?_; exact (Kd.R_mono (rF_ (rF_ (rF_ (rF_ (rF_ (rF_ (rF_ (rF_ (rF_ (Kd.R_mono ra.out (fun k_ hk => (⟨hk, hk.2⟩ : _ ∧ k_ ≠ ka)))))))))))) (fun _ h_ => h_.1))) hb); replace ba := aM_ (blk_below (far_ eb.out ba.out) hb); replace ea := aM_ (blk_below (g := ka) (o := .cells #[.string ta, .string ua, .int .u64 Ba, .int .i64 Ca, .int .i64 Da, .int .i64 Ea, .int .i64 Fa, .int .i64 Ga, .int .i64 Ha] 35 (0, 0)) (by exact puts_ ea.out) hb); replace HB := aM_ (below_step (by repeat (first | (with_reducible first | exact HB.out | apply bA_ | apply bN_ | apply bD_ | refine bS_ ?_ (IsS52.ge la.out) | refine bS_ ?_ Oa.out | refine bS_ ?_ ib.out) | exact HB.out)) hb); replace la := aM_ (IsS52.below (show IsS52 w (((((((((wl.setCell ⟨ka, 0, none⟩ (.string ta)).setCell ⟨ka, 1, none⟩ (.string ua)).setCell ⟨ka, 2, none⟩ (.int .u64 Ba)).setCell ⟨ka, 3, none⟩ (.int .i64 Ca)).setCell ⟨ka, 4, none⟩ (.int .i64 Da)).setCell ⟨ka, 5, none⟩ (.int .i64 Ea)).setCell ⟨ka, 6, none⟩ (.int .i64 Fa)).setCell ⟨ka, 7, none⟩ (.int .i64 Ga)).setCell ⟨ka, 8, none⟩ (.int .i64 Ha)) Cb l1 Fd from by repeat (first | (with_reducible first | exact la.out | apply IsS52.alloc | apply IsS52.drewN | apply IsS52.drew | apply IsS52.set_1 | refine IsS52.far ?_ ya.out _ | refine IsS52.far ?_ Za.out _) | exact la.out)) hb); clear hb; obtain ⟨zg, Ag⟩ := kC2_ ba.out; obtain ⟨Bg, Cg⟩ := kZ2_ ba.out; obtain ⟨Dg, Eg, Fg, Gg, Hg, Ig, Jg, Kg, Lg⟩ := kC9_ ea.out; obtain ⟨Mg, Ng, Og, Pg, Qg, Rg, Sg, Tg, Ug⟩ := kZ9_ ea.out) | ((with_reducible refine gate_callee (f := 25) rfl ?_); refine gC_ (some 48) 25 #[.agg #[.string oa, .slice Od aa.length Gd], .agg #[.string ta, .string ua, .int .u64 Ba, .int .i64 Ca, .int .i64 Da, .int .i64 Ea, .int .i64 Fa, .int .i64 Ga, .int .i64 Ha]] Tryd.func25 ?_; (with_reducible refine (database_Add.calls Ja oa _ _ aa ta ua Ba Ca Da Ea Fa Ga Ha Xa ia Vb _ ?side1 ?side2 qk.out).mono ?_); (case side1 => exact cD_ (Kd.R_reads' ra.out).2.2); (case side2 => exact (Kd.R_reads' ra.out).2.1); rintro e bo ⟨Sk, rfl, vb, hb⟩; refine ⟨_, rfl, ?_⟩; have cb := aM_ (Kd.R_lower (Kd.R_newB (Kd.R_new' vb (Kd.R_lt (bk_ ra.out))) (gR_ ea.out)) (below_size (by repeat (first | (with_reducible first | exact HB.out | apply bA_ | apply bN_ | apply bD_ | refine bS_ ?_ (IsS52.ge la.out) | refine bS_ ?_ Oa.out | refine bS_ ?_ ib.out) | exact HB.out)))); replace ra := aM_ (Kd.R_elder' (bk_ ra.out) (Kd.R_base vb) hb); replace ba := aM_ (kG_ ba.out hb); replace ea := aM_ (kG_ ea.out hb); replace HB := aM_ (below_step (by repeat (first | (with_reducible first | exact HB.out | apply bA_ | apply bN_ | apply bD_ | refine bS_ ?_ (IsS52.ge la.out) | refine bS_ ?_ Oa.out | refine bS_ ?_ ib.out) | exact HB.out)) hb); replace la := aM_ (IsS52.below (by repeat (first | (with_reducible first | exact la.out | apply IsS52.alloc | apply IsS52.drewN | apply IsS52.drew | apply IsS52.set_1 | refine IsS52.far ?_ ya.out _ | refine IsS52.far ?_ Za.out _) | exact la.out)) hb); clear hb vb) | ((with_reducible refine gate_dst (N := 11) rfl ?_); (try (refine gate_guard (by rfl) ?_; dsimp only)); refine bE_ 11 24 #[.string (⟨#[]⟩ : ByteArray), .slice none 0 0] ?_; intro Ua hg co hbox hb; replace ra := aM_ (Kd.R_below (bk_ ra.out) hb); replace cb := aM_ (Kd.R_below (bk_ cb.out) hb); have ha := aM_ (hbox); have ak := aM_ ((by rw [hg]; exact (below_size (by repeat (first | (with_reducible first | exact HB.out | apply bA_ | apply bN_ | apply bD_ | refine bS_ ?_ (IsS52.ge la.out) | refine bS_ ?_ Oa.out | refine bS_ ?_ ib.out) | exact HB.out))) : w.heap.size ≤ Ua)); have Qb := aM_ ((by rw [hg]; exact (below_size (by repeat (first | (with_reducible first | exact HB.out | apply bA_ | apply bN_ | apply bD_ | refine bS_ ?_ (IsS52.ge la.out) | refine bS_ ?_ Oa.out | refine bS_ ?_ ib.out) | exact HB.out))) : w.heap.size ≤ Ua)); replace HB := aM_ (below_step (by repeat (first | (with_reducible first | exact HB.out | apply bA_ | apply bN_ | apply bD_ | refine bS_ ?_ (IsS52.ge la.out) | refine bS_ ?_ Oa.out | refine bS_ ?_ ib.out) | exact HB.out)) hb); have fb := aM_ (nL_ hg ba.out); have kb := aM_ (nG_ hg ba.out); replace ba := aM_ (kG_ ba.out hb); have Fb := aM_ (nL_ hg ea.out); have Jb := aM_ (nG_ hg ea.out); replace ea := aM_ (kG_ ea.out hb); have yb := aM_ (nI_ hg (IsS52.lt la.out)); have Kb := aM_ (nJ_ hg (IsS52.lt la.out)); replace la := aM_ (IsS52.below (by repeat (first | (with_reducible first | exact la.out | apply IsS52.alloc | apply IsS52.drewN | apply IsS52.drew | apply IsS52.set_1 | refine IsS52.far ?_ ya.out _ | refine IsS52.far ?_ Za.out _) | exact la.out)) hb); clear hb hbox hg; have Im := kb.out; have Jm := fb.out; have Km := Jb.out; have Lm := Fb.out; have Mm := Kb.out; have Nm := yb.out; obtain ⟨Vg, Wg⟩ := kC2_ ha.out; obtain ⟨Xg, Yg⟩ := kZ2_ ha.out; obtain ⟨Bn, Cn, Tk⟩ := Kd.R_slice cb.out; subst Tk; obtain ⟨Zg, ah⟩ := kC2_ ba.out; obtain ⟨bh, ch⟩ := kZ2_ ba.out))
    go_ret
    exact ⟨eW_, by repeat (first | (with_reducible first | exact HB.out | apply bA_ | apply bN_ | apply bD_ | refine bS_ ?_ (IsS52.ge la.out) | refine bS_ ?_ Oa.out | refine bS_ ?_ ib.out | refine bS_ ?_ Qb.out) | exact HB.out)⟩
   rw [if_neg fd] at H
   have mf : ((aa.length : Int) == 60) = false := beq_eq_false_iff_ne.mpr fd
   have nf : ((aa.length : Int) != 60) = true := bne_iff_ne.mpr fd
   replace H := Option.bind_eq_some_iff.mp H
   obtain ⟨⟨ja, Db⟩, gj, H⟩ := H
   replace H : (if Vb = 0 then ((database_Check.f Ja Xa ia).bind fun rb => (if rb = 0 then (kerbsuitelaw12_DatabaseKeeps.j1 Ja a2 xb ja Db ((ia.length : Int) != (wrap64 ((aa.length : Int) + 1))) oa aa ta ua Ba Ca Da Ea Fa Ga Ha Xa ia) else (kerbsuitelaw12_DatabaseKeeps.j1 Ja a2 xb ja Db true oa aa ta ua Ba Ca Da Ea Fa Ga Ha Xa ia))) else (kerbsuitelaw12_DatabaseKeeps.j1 Ja a2 xb ja Db true oa aa ta ua Ba Ca Da Ea Fa Ga Ha Xa ia)) = some r := H
   have xl := aM_ gj
   clear gj
   have se := aM_ H
   clear H
   go_upto_region 12 with (first | ((with_reducible refine gate_callee (f := 9) rfl ?_); refine gC_ (some 31) 9 #[.slice A0 l0.length c0, .int .i64 0] Tryd.func9 ?_; (with_reducible refine (kerbsuitedata_Database.calls Ja _ _ l0 0 oa aa _ ?side1 ?side2 mk.out).mono ?_); (case side1 => exact cC_ ik.out HB.out); (case side2 => exact jk.out); rintro e eo ⟨Qk, rfl, vb, hb⟩; refine ⟨_, rfl, ?_⟩; have ra := aM_ (Kd.R_lower vb (below_size (bk_ HB.out))); replace HB := aM_ (below_step (bk_ HB.out) hb); clear hb vb) | ((with_reducible refine gate_dst (N := 7) rfl ?_); (try (refine gate_guard (by rfl) ?_; dsimp only)); refine bE_ 7 24 #[.string (⟨#[]⟩ : ByteArray), .slice none 0 0] ?_; intro bb hg fo hbox hb; replace ra := aM_ (Kd.R_below (bk_ ra.out) hb); have ba := aM_ (hbox); have Wj := aM_ (gB_ hg HB.out); have Oa := aM_ (gB_ hg HB.out); replace HB := aM_ (below_step (bk_ HB.out) hb); clear hb hbox hg; obtain ⟨dh, eh⟩ := kC2_ ba.out; obtain ⟨fh, gh⟩ := kZ2_ ba.out; obtain ⟨Pa, Ia, Uk⟩ := Kd.R_slice ra.out; subst Uk) | ((with_reducible refine gate_dst (N := 34) rfl ?_); (try (refine gate_guard (by rfl) ?_; dsimp only)); refine bE_ 34 52 #[.slice A1 l1.length c1, .int .i64 0] ?_; intro Cb hg go hbox hb; replace ra := aM_ (Kd.R_below (by refine bk_ ?_; exact (Kd.R_mono (rF_ (rF_ (Kd.R_types ra.out ba.out (by decide)))) (fun _ h_ => h_.1))) hb); have Xj := aM_ (gB_ hg HB.out); have Yj := aM_ (gB_ hg HB.out); have Eb := aM_ (nL_ hg ba.out); have ya := aM_ (nG_ hg ba.out); replace ba := aM_ (blk_below (g := bb) (o := .cells #[.string oa, .slice Pa aa.length Ia] 24 (0, 0)) (by exact puts_ ba.out) hb); have la := aM_ ((⟨_, _, hbox, (by rw [hg]; exact (below_size hB_)), kk.out⟩ : IsS52 w _ Cb l1 0)); replace HB := aM_ (below_step hB_ hb); clear hb hbox hg) | ((with_reducible refine gate_callee (f := 24) rfl ?_); refine gC_ (some 35) 24 #[.pointer (some ⟨Cb, 0, none⟩)] Tryd.func24 ?_; (with_reducible refine (kerbsuitedata_Entry.calls Ja Cb l1 0 ta ua Ba Ca Da Ea Fa Ga Ha Fd w _ ?side1 ?side2 nk.out).mono ?_); (case side1 => repeat (first | (with_reducible first | exact la.out | apply IsS52.alloc | apply IsS52.drewN | apply IsS52.drew | apply IsS52.set_1 | refine IsS52.far ?_ ya.out _) | exact la.out)); (case side2 => repeat (first | (with_reducible first | exact HB.out | apply bA_ | apply bN_ | apply bD_ | refine bS_ ?_ (IsS52.ge la.out) | refine bS_ ?_ Oa.out) | exact HB.out)); rintro e ho ⟨rfl, hi, hb, hk⟩; refine ⟨_, rfl, ?_⟩; replace ra := aM_ (Kd.R_mono (Kd.R_keep (IsS52.apart (show IsS52 w _ Cb l1 0 from by repeat (first | (with_reducible first | exact la.out | apply IsS52.alloc | apply IsS52.drewN | apply IsS52.drew | apply IsS52.set_1 | refine IsS52.far ?_ ya.out _) | exact la.out)) (bk_ ra.out) (by decide)) hk (fun _ h => h.2)) (fun _ h => h.1)); replace ba := aM_ (KeepBut.blk hk (g' := bb) (o := .cells #[.string oa, .slice Pa aa.length Ia] 24 (0, 0)) (bk_ ba.out) Eb.out (by simp)); replace HB := aM_ (hb); replace la := aM_ (hi); clear hb hk hi) | ((with_reducible refine gate_dst (N := 8) rfl ?_); (try (refine gate_guard (by rfl) ?_; dsimp only)); refine bE_ 8 35 #[.string (⟨#[]⟩ : ByteArray), .string (⟨#[]⟩ : ByteArray), .int .u64 0, .int .i64 0, .int .i64 0, .int .i64 0, .int .i64 0, .int .i64 0, .int .i64 0] ?_; intro ka hg yl hbox hb; replace ra := aM_ (Kd.R_below (Kd.R_elderB (bk_ ra.out) ka (Nat.le_of_eq hg.symm)) hb); have ea := aM_ (hbox); have Zj := aM_ ((by rw [hg]; exact (below_size (by repeat (first | (with_reducible first | exact HB.out | apply bA_ | apply bN_ | apply bD_ | refine bS_ ?_ (IsS52.ge la.out) | refine bS_ ?_ Oa.out) | exact HB.out))) : w.heap.size ≤ ka)); have ib := aM_ ((by rw [hg]; exact (below_size (by repeat (first | (with_reducible first | exact HB.out | apply bA_ | apply bN_ | apply bD_ | refine bS_ ?_ (IsS52.ge la.out) | refine bS_ ?_ Oa.out) | exact HB.out))) : w.heap.size ≤ ka)); replace HB := aM_ (below_step (by repeat (first | (with_reducible first | exact HB.out | apply bA_ | apply bN_ | apply bD_ | refine bS_ ?_ (IsS52.ge la.out) | refine bS_ ?_ Oa.out) | exact HB.out)) hb); have eb := aM_ (nL_ hg ba.out); have ub := aM_ (nG_ hg ba.out); replace ba := aM_ (kG_ ba.out hb); have Za := aM_ (nI_ hg (IsS52.lt la.out)); have uc := aM_ (nJ_ hg (IsS52.lt la.out)); replace la := aM_ (IsS52.below (by repeat (first | (with_reducible first | exact la.out | apply IsS52.alloc | apply IsS52.drewN | apply IsS52.drew | apply IsS52.set_1 | refine IsS52.far ?_ ya.out _) | exact la.out)) hb); clear hb hbox hg; have Om := ub.out; have Pm := eb.out; have Qm := uc.out; have Rm := Za.out; obtain ⟨hh, ih, jh, kh, lh, mh, nh, oh, ph⟩ := kC9_ ea.out; obtain ⟨qh, rh, sh, th, uh, vh, wh, xh, yh⟩ := kZ9_ ea.out; have Sm := Eb.out; have Tm := ya.out; obtain ⟨zh, Ah⟩ := kC2_ ba.out; obtain ⟨Bh, Ch⟩ := kZ2_ ba.out) | ((with_reducible refine gate_callee (f := 18) rfl ?_); refine gC_ (some 42) 18 #[.agg #[.string oa, .slice Pa aa.length Ia], .string ta, .string ua] Tryd.func18 ?_; (with_reducible refine (database_Find.calls Ja oa _ _ aa ta ua dj xb _ ?side1 ?side2 pk.out).mono ?_); (case side1 => refine (Kd.R_reads' (e := 35) (base := w.heap.size) (ok := fun k_ => (True ∧ k_ ≠ ka)) (n := aa.length) (c := Ia) ?_).2.2; exact (by refine bk_ ?_; exact (Kd.R_mono (rF_ (rF_ (rF_ (rF_ (rF_ (rF_ (rF_ (rF_ (rF_ (Kd.R_mono ra.out (fun k_ hk => (⟨hk, hk.2⟩ : _ ∧ k_ ≠ ka)))))))))))) (fun _ h_ => h_.1)))); (case side2 => exact (Kd.R_reads' ra.out).2.1); rintro e io ⟨rfl, hb⟩; refine ⟨_, rfl, ?_⟩; replace ra := aM_ (Kd.R_below (by refine bk_ ?_; exact (Kd.R_mono (rF_ (rF_ (rF_ (rF_ (rF_ (rF_ (rF_ (rF_ (rF_ (Kd.R_mono ra.out (fun k_ hk => (⟨hk, hk.2⟩ : _ ∧ k_ ≠ ka)))))))))))) (fun _ h_ => h_.1))) hb); replace ba := aM_ (blk_below (far_ eb.out ba.out) hb); replace ea := aM_ (blk_below (g := ka) (o := .cells #[.string ta, .string ua, .int .u64 Ba, .int .i64 Ca, .int .i64 Da, .int .i64 Ea, .int .i64 Fa, .int .i64 Ga, .int .i64 Ha] 35 (0, 0)) (by exact puts_ ea.out) hb); replace HB := aM_ (below_step (by repeat (first | (with_reducible first | exact HB.out | apply bA_ | apply bN_ | apply bD_ | refine bS_ ?_ (IsS52.ge la.out) | refine bS_ ?_ Oa.out | refine bS_ ?_ ib.out) | exact HB.out)) hb); replace la := aM_ (IsS52.below (show IsS52 w (((((((((yl.setCell ⟨ka, 0, none⟩ (.string ta)).setCell ⟨ka, 1, none⟩ (.string ua)).setCell ⟨ka, 2, none⟩ (.int .u64 Ba)).setCell ⟨ka, 3, none⟩ (.int .i64 Ca)).setCell ⟨ka, 4, none⟩ (.int .i64 Da)).setCell ⟨ka, 5, none⟩ (.int .i64 Ea)).setCell ⟨ka, 6, none⟩ (.int .i64 Fa)).setCell ⟨ka, 7, none⟩ (.int .i64 Ga)).setCell ⟨ka, 8, none⟩ (.int .i64 Ha)) Cb l1 Fd from by repeat (first | (with_reducible first | exact la.out | apply IsS52.alloc | apply IsS52.drewN | apply IsS52.drew | apply IsS52.set_1 | refine IsS52.far ?_ ya.out _ | refine IsS52.far ?_ Za.out _) | exact la.out)) hb); clear hb; obtain ⟨Dh, Eh⟩ := kC2_ ba.out; obtain ⟨Fh, Gh⟩ := kZ2_ ba.out; obtain ⟨Hh, Ih, Jh, Kh, Lh, Mh, Nh, Oh, Ph⟩ := kC9_ ea.out; obtain ⟨Qh, Rh, Sh, Th, Uh, Vh, Wh, Xh, Yh⟩ := kZ9_ ea.out) | ((with_reducible refine gate_callee (f := 25) rfl ?_); refine gC_ (some 48) 25 #[.agg #[.string oa, .slice Pa aa.length Ia], .agg #[.string ta, .string ua, .int .u64 Ba, .int .i64 Ca, .int .i64 Da, .int .i64 Ea, .int .i64 Fa, .int .i64 Ga, .int .i64 Ha]] Tryd.func25 ?_; (with_reducible refine (database_Add.calls Ja oa _ _ aa ta ua Ba Ca Da Ea Fa Ga Ha Xa ia Vb _ ?side1 ?side2 qk.out).mono ?_); (case side1 => exact cD_ (Kd.R_reads' ra.out).2.2); (case side2 => exact (Kd.R_reads' ra.out).2.1); rintro e jo ⟨Sk, rfl, vb, hb⟩; refine ⟨_, rfl, ?_⟩; have cb := aM_ (Kd.R_lower (Kd.R_newB (Kd.R_new' vb (Kd.R_lt (bk_ ra.out))) (gR_ ea.out)) (below_size (by repeat (first | (with_reducible first | exact HB.out | apply bA_ | apply bN_ | apply bD_ | refine bS_ ?_ (IsS52.ge la.out) | refine bS_ ?_ Oa.out | refine bS_ ?_ ib.out) | exact HB.out)))); replace ra := aM_ (Kd.R_elder' (bk_ ra.out) (Kd.R_base vb) hb); replace ba := aM_ (kG_ ba.out hb); replace ea := aM_ (kG_ ea.out hb); replace HB := aM_ (below_step (by repeat (first | (with_reducible first | exact HB.out | apply bA_ | apply bN_ | apply bD_ | refine bS_ ?_ (IsS52.ge la.out) | refine bS_ ?_ Oa.out | refine bS_ ?_ ib.out) | exact HB.out)) hb); replace la := aM_ (IsS52.below (by repeat (first | (with_reducible first | exact la.out | apply IsS52.alloc | apply IsS52.drewN | apply IsS52.drew | apply IsS52.set_1 | refine IsS52.far ?_ ya.out _ | refine IsS52.far ?_ Za.out _) | exact la.out)) hb); clear hb vb) | ((with_reducible refine gate_dst (N := 11) rfl ?_); (try (refine gate_guard (by rfl) ?_; dsimp only)); refine bE_ 11 24 #[.string (⟨#[]⟩ : ByteArray), .slice none 0 0] ?_; intro Ua hg zl hbox hb; replace ra := aM_ (Kd.R_below (bk_ ra.out) hb); replace cb := aM_ (Kd.R_below (bk_ cb.out) hb); have ha := aM_ (hbox); have ak := aM_ ((by rw [hg]; exact (below_size (by repeat (first | (with_reducible first | exact HB.out | apply bA_ | apply bN_ | apply bD_ | refine bS_ ?_ (IsS52.ge la.out) | refine bS_ ?_ Oa.out | refine bS_ ?_ ib.out) | exact HB.out))) : w.heap.size ≤ Ua)); have Qb := aM_ ((by rw [hg]; exact (below_size (by repeat (first | (with_reducible first | exact HB.out | apply bA_ | apply bN_ | apply bD_ | refine bS_ ?_ (IsS52.ge la.out) | refine bS_ ?_ Oa.out | refine bS_ ?_ ib.out) | exact HB.out))) : w.heap.size ≤ Ua)); replace HB := aM_ (below_step (by repeat (first | (with_reducible first | exact HB.out | apply bA_ | apply bN_ | apply bD_ | refine bS_ ?_ (IsS52.ge la.out) | refine bS_ ?_ Oa.out | refine bS_ ?_ ib.out) | exact HB.out)) hb); have fb := aM_ (nL_ hg ba.out); have kb := aM_ (nG_ hg ba.out); replace ba := aM_ (kG_ ba.out hb); have Fb := aM_ (nL_ hg ea.out); have Jb := aM_ (nG_ hg ea.out); replace ea := aM_ (kG_ ea.out hb); have yb := aM_ (nI_ hg (IsS52.lt la.out)); have Kb := aM_ (nJ_ hg (IsS52.lt la.out)); replace la := aM_ (IsS52.below (by repeat (first | (with_reducible first | exact la.out | apply IsS52.alloc | apply IsS52.drewN | apply IsS52.drew | apply IsS52.set_1 | refine IsS52.far ?_ ya.out _ | refine IsS52.far ?_ Za.out _) | exact la.out)) hb); clear hb hbox hg; have Um := kb.out; have Vm := fb.out; have Wm := Jb.out; have Xm := Fb.out; have Ym := Kb.out; have Zm := yb.out; obtain ⟨Zh, ai⟩ := kC2_ ha.out; obtain ⟨bi, ci⟩ := kZ2_ ha.out; obtain ⟨Sa, Qa, Vk⟩ := Kd.R_slice cb.out; subst Vk; obtain ⟨di, ei⟩ := kC2_ ba.out; obtain ⟨fi, gi⟩ := kZ2_ ba.out; obtain ⟨ii, ji, ki, li, mi, ni, oi, pi, qi⟩ := kC9_ ea.out; obtain ⟨ri, si, ti, ui, vi, wi, xi, yi, zi⟩ := kZ9_ ea.out) | ((with_reducible refine gate_callee (f := 18) rfl ?_); refine gC_ (some 63) 18 #[.agg #[.string Xa, .slice Sa ia.length Qa], .string ta, .string ua] Tryd.func18 ?_; (with_reducible refine (database_Find.calls Ja Xa _ _ ia ta ua ja Db _ ?side1 ?side2 xl.out).mono ?_); (case side1 => refine (Kd.R_reads' (e := 35) (base := w.heap.size) (ok := fun k_ => ((True ∧ some k_ ≠ (.slice Pa aa.length Ia : Value).ownBlock) ∧ k_ ≠ ka)) (n := ia.length) (c := Qa) ?_).2.2; exact (by refine bk_ ?_; exact (Kd.R_mono (rF_ (rF_ (Kd.R_types cb.out ha.out (by decide)))) (fun _ h_ => h_.1)))); (case side2 => exact (Kd.R_reads' cb.out).2.1); rintro e ko ⟨rfl, hb⟩; refine ⟨_, rfl, ?_⟩; replace ra := aM_ (Kd.R_below (by refine bk_ ?_; exact (Kd.R_mono (rF_ (rF_ (Kd.R_types ra.out ha.out (by decide)))) (fun _ h_ => h_.1))) hb); replace cb := aM_ (Kd.R_below (by refine bk_ ?_; exact (Kd.R_mono (rF_ (rF_ (Kd.R_types cb.out ha.out (by decide)))) (fun _ h_ => h_.1))) hb); replace ba := aM_ (blk_below (far_ fb.out ba.out) hb); replace ea := aM_ (blk_below (far_ Fb.out ea.out) hb); replace ha := aM_ (blk_below (g := Ua) (o := .cells #[.string Xa, .slice Sa ia.length Qa] 24 (0, 0)) (by exact puts_ ha.out) hb); replace HB := aM_ (below_step (by repeat (first | (with_reducible first | exact HB.out | apply bA_ | apply bN_ | apply bD_ | refine bS_ ?_ (IsS52.ge la.out) | refine bS_ ?_ Oa.out | refine bS_ ?_ ib.out | refine bS_ ?_ Qb.out) | exact HB.out)) hb); replace la := aM_ (IsS52.below (show IsS52 w ((zl.setCell ⟨Ua, 0, none⟩ (.string Xa)).setCell ⟨Ua, 1, none⟩ (.slice Sa ia.length Qa)) Cb l1 Fd from by repeat (first | (with_reducible first | exact la.out | apply IsS52.alloc | apply IsS52.drewN | apply IsS52.drew | apply IsS52.set_1 | refine IsS52.far ?_ ya.out _ | refine IsS52.far ?_ Za.out _ | refine IsS52.far ?_ yb.out _) | exact la.out)) hb); clear hb))
   (try simp only [Act.put, sA_, sB_, sC_])
   go_cut [82] (fun Al wc => ∃ (kq : Nat) (gd : Bool), Al = .bool gd ∧ Aside0 (kerbsuitelaw12_DatabaseKeeps.j1 kq a2 xb ja Db gd oa aa ta ua Ba Ca Da Ea Fa Ga Ha Xa ia = some r) ∧ Aside0 (kq ≤ Ja) ∧ Aside0 (Kd.R k35 35 wc w.heap.size (fun k_ => some k_ ≠ ((.slice Sa ia.length Qa) : Value).ownBlock ∧ k_ ≠ ka) (.slice Pa aa.length Ia) aa) ∧ Aside0 (Kd.R k35 35 wc w.heap.size (fun k_ => some k_ ≠ ((.slice Pa aa.length Ia) : Value).ownBlock ∧ k_ ≠ ka) (.slice Sa ia.length Qa) ia) ∧ Aside0 (wc.heap[bb]? = some (.cells #[.string oa, (.slice Pa aa.length Ia)] 24 (0, 0))) ∧ Aside0 (wc.heap[ka]? = some (.cells #[.string ta, .string ua, .int .u64 Ba, .int .i64 Ca, .int .i64 Da, .int .i64 Ea, .int .i64 Fa, .int .i64 Ga, .int .i64 Ha] 35 (0, 0))) ∧ Aside0 (wc.heap[Ua]? = some (.cells #[.string Xa, (.slice Sa ia.length Qa)] 24 (0, 0))) ∧ Aside0 (Below w.heap.size w wc))
   case first => as_aux_lemma =>
    have H := se.out
    clear se
    by_cases qd : Vb = 0
    rotate_left
    ·rw [if_neg qd] at H
     have yc : (Vb == 0) = false := beq_eq_false_iff_ne.mpr qd
     have pf : (Vb != 0) = true := bne_iff_ne.mpr qd
     (first | rw [yc] | (simp only [i64_w, i32_w]; rw [yc]) | skip)
     have H' := aM_ H
     clear H
     go_wp2
     go_meet
     case rel => exact ⟨_, (true), rS_, H', ⟨by have := Ob.out; first | omega | exact Nat.le_refl _⟩, ⟨by refine bk_ ?_; exact Kd.R_mono ra.out (fun _ hk => ⟨hk.2, hk.1.2⟩)⟩, ⟨by refine bk_ ?_; exact Kd.R_mono cb.out (fun _ hk => ⟨hk.1.2, hk.2⟩)⟩, ⟨by refine bk_ ?_; exact ba.out⟩, ⟨by refine bk_ ?_; exact ea.out⟩, ⟨by refine bk_ ?_; exact ha.out⟩, ⟨by repeat (first | (with_reducible first | exact HB.out | apply bA_ | apply bN_ | apply bD_ | refine bS_ ?_ (IsS52.ge la.out) | refine bS_ ?_ Oa.out | refine bS_ ?_ ib.out | refine bS_ ?_ Qb.out) | exact HB.out)⟩⟩
    rw [if_pos qd] at H
    have yc : (Vb == 0) = true := beq_iff_eq.mpr qd
    have pf : (Vb != 0) = false := bne_eq_false_iff_eq.mpr qd
    clear qd
    (first | rw [yc] | (simp only [i64_w, i32_w]; rw [yc]) | skip)
    replace H := Option.bind_eq_some_iff.mp H
    obtain ⟨rb, hj, H⟩ := H
    replace H : (if rb = 0 then (kerbsuitelaw12_DatabaseKeeps.j1 Ja a2 xb ja Db ((ia.length : Int) != (wrap64 ((aa.length : Int) + 1))) oa aa ta ua Ba Ca Da Ea Fa Ga Ha Xa ia) else (kerbsuitelaw12_DatabaseKeeps.j1 Ja a2 xb ja Db true oa aa ta ua Ba Ca Da Ea Fa Ga Ha Xa ia)) = some r := H
    have rk := aM_ hj
    clear hj
    by_cases rd : rb = 0
    ·rw [if_pos rd] at H
     have qf : (rb == 0) = true := beq_iff_eq.mpr rd
     have rf : (rb != 0) = false := bne_eq_false_iff_eq.mpr rd
     clear rd
     have H' := aM_ H
     clear H
     have an := kb.out
     have bn := fb.out
     have cn := Jb.out
     have dn := Fb.out
     have en := Kb.out
     have fn := yb.out
     obtain ⟨Ai, Bi⟩ := kC2_ ha.out
     obtain ⟨Ci, Di⟩ := kZ2_ ha.out
     go_wp2_with (first | (go_at_call 10; (with_reducible refine (database_Check.calls Ja Xa _ _ ia rb _ ?side1 ?side2 rk.out).mono ?_); (case side1 => exact cD_ (Kd.R_reads' cb.out).2.2); (case side2 => exact (Kd.R_reads' cb.out).2.1); rintro e lo ⟨rfl, hb⟩; replace ra := aM_ (Kd.R_below (bk_ ra.out) hb); replace cb := aM_ (Kd.R_below (bk_ cb.out) hb); replace ba := aM_ (kG_ ba.out hb); replace ea := aM_ (kG_ ea.out hb); replace ha := aM_ (kG_ ha.out hb); replace HB := aM_ (below_step (by repeat (first | (with_reducible first | exact HB.out | apply bA_ | apply bN_ | apply bD_ | refine bS_ ?_ (IsS52.ge la.out) | refine bS_ ?_ Oa.out | refine bS_ ?_ ib.out | refine bS_ ?_ Qb.out) | exact HB.out)) hb); replace la := aM_ (IsS52.below (by repeat (first | (with_reducible first | exact la.out | apply IsS52.alloc | apply IsS52.drewN | apply IsS52.drew | apply IsS52.set_1 | refine IsS52.far ?_ ya.out _ | refine IsS52.far ?_ Za.out _ | refine IsS52.far ?_ yb.out _) | exact la.out)) hb); clear hb; obtain ⟨Ei, Fi⟩ := kC2_ ha.out; obtain ⟨Gi, Hi⟩ := kZ2_ ha.out; have gn := eb.out; have hn := ub.out; have jn := Eb.out; have kn := ya.out; obtain ⟨Ii, Ji⟩ := kC2_ ba.out; obtain ⟨Ki, Li⟩ := kZ2_ ba.out))
     go_meet
     case rel => exact ⟨_, (((ia.length : Int) != (wrap64 ((aa.length : Int) + 1)))), rS_, H', ⟨by have := Ob.out; first | omega | exact Nat.le_refl _⟩, ⟨by refine bk_ ?_; exact Kd.R_mono ra.out (fun _ hk => ⟨hk.2, hk.1.2⟩)⟩, ⟨by refine bk_ ?_; exact Kd.R_mono cb.out (fun _ hk => ⟨hk.1.2, hk.2⟩)⟩, ⟨by refine bk_ ?_; exact ba.out⟩, ⟨by refine bk_ ?_; exact ea.out⟩, ⟨by refine bk_ ?_; exact ha.out⟩, ⟨by repeat (first | (with_reducible first | exact HB.out | apply bA_ | apply bN_ | apply bD_ | refine bS_ ?_ (IsS52.ge la.out) | refine bS_ ?_ Oa.out | refine bS_ ?_ ib.out | refine bS_ ?_ Qb.out) | exact HB.out)⟩⟩
    rw [if_neg rd] at H
    have qf : (rb == 0) = false := beq_eq_false_iff_ne.mpr rd
    have rf : (rb != 0) = true := bne_iff_ne.mpr rd
    have H' := aM_ H
    clear H
    have ln := kb.out
    have mn := fb.out
    have nn := Jb.out
    have on := Fb.out
    have pn := Kb.out
    have qn := yb.out
    obtain ⟨Mi, Oi⟩ := kC2_ ha.out
    obtain ⟨Pi, Qi⟩ := kZ2_ ha.out
    go_wp2_with (first | (go_at_call 10; (with_reducible refine (database_Check.calls Ja Xa _ _ ia rb _ ?side1 ?side2 rk.out).mono ?_); (case side1 => exact cD_ (Kd.R_reads' cb.out).2.2); (case side2 => exact (Kd.R_reads' cb.out).2.1); rintro e mo ⟨rfl, hb⟩; replace ra := aM_ (Kd.R_below (bk_ ra.out) hb); replace cb := aM_ (Kd.R_below (bk_ cb.out) hb); replace ba := aM_ (kG_ ba.out hb); replace ea := aM_ (kG_ ea.out hb); replace ha := aM_ (kG_ ha.out hb); replace HB := aM_ (below_step (by repeat (first | (with_reducible first | exact HB.out | apply bA_ | apply bN_ | apply bD_ | refine bS_ ?_ (IsS52.ge la.out) | refine bS_ ?_ Oa.out | refine bS_ ?_ ib.out | refine bS_ ?_ Qb.out) | exact HB.out)) hb); replace la := aM_ (IsS52.below (by repeat (first | (with_reducible first | exact la.out | apply IsS52.alloc | apply IsS52.drewN | apply IsS52.drew | apply IsS52.set_1 | refine IsS52.far ?_ ya.out _ | refine IsS52.far ?_ Za.out _ | refine IsS52.far ?_ yb.out _) | exact la.out)) hb); clear hb))
    go_meet
    case rel => exact ⟨_, (true), rS_, H', ⟨by have := Ob.out; first | omega | exact Nat.le_refl _⟩, ⟨by refine bk_ ?_; exact Kd.R_mono ra.out (fun _ hk => ⟨hk.2, hk.1.2⟩)⟩, ⟨by refine bk_ ?_; exact Kd.R_mono cb.out (fun _ hk => ⟨hk.1.2, hk.2⟩)⟩, ⟨by refine bk_ ?_; exact ba.out⟩, ⟨by refine bk_ ?_; exact ea.out⟩, ⟨by refine bk_ ?_; exact ha.out⟩, ⟨by repeat (first | (with_reducible first | exact HB.out | apply bA_ | apply bN_ | apply bD_ | refine bS_ ?_ (IsS52.ge la.out) | refine bS_ ?_ Oa.out | refine bS_ ?_ ib.out | refine bS_ ?_ Qb.out) | exact HB.out)⟩⟩
   case rest =>
    clear se
    try clear c1
    try clear c2
    try clear p2
    try clear c3
    try clear c4
    try clear c5
    try clear c6
    try clear p6
    try clear c7
    try clear c8
    try clear Dc
    try clear re
    try clear c9
    try clear fd
    try clear mf
    try clear nf
    try clear no
    try clear oo
    try clear po
    try clear qo
    try clear ro
    try clear so
    try clear uo
    try clear vo
    try clear wo
    try clear xo
    try clear yo
    try clear zo
    try clear Ao
    try clear Bo
    try clear be
    try clear qd
    try clear yc
    try clear pf
    try clear rd
    try clear qf
    try clear rf
    try clear Co
    try clear Do
    try clear Eo
    try clear Fo
    try clear Ho
    try clear Io
    try clear Jo
    try clear Ko
    try clear Yf
    try clear Zf
    try clear cg
    try clear dg
    try clear eg
    try clear fg
    try clear gg
    try clear ig
    try clear jg
    try clear kg
    try clear lg
    try clear vg
    try clear wg
    try clear zg
    try clear Ag
    try clear Dg
    try clear Eg
    try clear Fg
    try clear Gg
    try clear Hg
    try clear Ig
    try clear Jg
    try clear Kg
    try clear Lg
    try clear Vg
    try clear Wg
    try clear Zg
    try clear ah
    try clear dh
    try clear eh
    try clear hh
    try clear ih
    try clear jh
    try clear kh
    try clear lh
    try clear mh
    try clear nh
    try clear oh
    try clear ph
    try clear zh
    try clear Ah
    try clear Dh
    try clear Eh
    try clear Hh
    try clear Ih
    try clear Jh
    try clear Kh
    try clear Lh
    try clear Mh
    try clear Nh
    try clear Oh
    try clear Ph
    try clear Zh
    try clear ai
    try clear di
    try clear ei
    try clear ii
    try clear ji
    try clear ki
    try clear li
    try clear mi
    try clear ni
    try clear oi
    try clear pi
    try clear qi
    try clear Ai
    try clear Bi
    try clear Ei
    try clear Fi
    try clear Ii
    try clear Ji
    try clear Mi
    try clear Oi
    try clear ag
    try clear bg
    try clear mg
    try clear ng
    try clear og
    try clear pg
    try clear qg
    try clear rg
    try clear sg
    try clear tg
    try clear ug
    try clear xg
    try clear yg
    try clear Bg
    try clear Cg
    try clear Mg
    try clear Ng
    try clear Og
    try clear Pg
    try clear Qg
    try clear Rg
    try clear Sg
    try clear Tg
    try clear Ug
    try clear Xg
    try clear Yg
    try clear bh
    try clear ch
    try clear fh
    try clear gh
    try clear qh
    try clear rh
    try clear sh
    try clear th
    try clear uh
    try clear vh
    try clear wh
    try clear xh
    try clear yh
    try clear Bh
    try clear Ch
    try clear Fh
    try clear Gh
    try clear Qh
    try clear Rh
    try clear Sh
    try clear Th
    try clear Uh
    try clear Vh
    try clear Wh
    try clear Xh
    try clear Yh
    try clear bi
    try clear ci
    try clear fi
    try clear gi
    try clear ri
    try clear si
    try clear ti
    try clear ui
    try clear vi
    try clear wi
    try clear xi
    try clear yi
    try clear zi
    try clear Ci
    try clear Di
    try clear Gi
    try clear Hi
    try clear Ki
    try clear Li
    try clear Pi
    try clear Qi
    try clear p2
    obtain ⟨kq, gd, rfl, HA, Ib, da, fa, ba, ea, ha, HB⟩ := hcut
    cases kq with
    | zero => exact absurd HA.out (by simp [kerbsuitelaw12_DatabaseKeeps.j1])
    | succ Ec =>
     have H := HA.out
     clear HA
     simp only [kerbsuitelaw12_DatabaseKeeps.j1] at H
     by_cases sf : gd = true
     ·subst sf
      have H1 : (some false) = some r := by rw [if_pos rfl] at H; exact H
      clear H
      have H := H1
      clear H1
      obtain rfl := Option.some.inj H
      go_wp2
      go_ret
      exact ⟨eW_, hB_⟩
     replace sf := Bool.eq_false_iff.mpr sf
     subst sf
     have H1 : (if xb = 8 then (if Db = 0 then (if ja < 0 then (kerbsuitelaw12_DatabaseKeeps.j2 Ec a2 true oa aa) else (if ja ≥ (ia.length : Int) then (kerbsuitelaw12_DatabaseKeeps.j2 Ec a2 true oa aa) else (if 0 ≤ ja then (if ja < (ia.length : Int) then (if (!((((rd_T35 ia ja).f0).toList) == ta.toList) || (!((((rd_T35 ia ja).f1).toList) == ua.toList) || (!(((rd_T35 ia ja).f2) == Ba) || (!(((rd_T35 ia ja).f3) == Ca) || (!(((rd_T35 ia ja).f4) == Da) || (!(((rd_T35 ia ja).f5) == Ea) || (!(((rd_T35 ia ja).f6) == Fa) || (!(((rd_T35 ia ja).f7) == Ga) || (!(((rd_T35 ia ja).f8) == Ha)))))))))) = true then (kerbsuitelaw12_DatabaseKeeps.j2 Ec a2 true oa aa) else (kerbsuitelaw12_DatabaseKeeps.j2 Ec a2 false oa aa)) else (none)) else (none)))) else (kerbsuitelaw12_DatabaseKeeps.j2 Ec a2 true oa aa)) else (kerbsuitelaw12_DatabaseKeeps.j2 Ec a2 (Db != 9) oa aa)) = some r := by rw [if_neg (show ¬ (false = true) by decide)] at H; exact H
     clear H
     have H := H1
     clear H1
     have te := aM_ H
     clear H
     go_upto_region 14 with (fail)
     go_cut [116] (fun Xk wc => ∃ (kq : Nat) (zc : Bool), Xk = .bool zc ∧ Aside0 (kerbsuitelaw12_DatabaseKeeps.j2 kq a2 zc oa aa = some r) ∧ Aside0 (kq ≤ Ec) ∧ Aside0 (Kd.R k35 35 wc w.heap.size (fun k_ => some k_ ≠ ((.slice Sa ia.length Qa) : Value).ownBlock ∧ k_ ≠ ka) (.slice Pa aa.length Ia) aa) ∧ Aside0 (Kd.R k35 35 wc w.heap.size (fun k_ => some k_ ≠ ((.slice Pa aa.length Ia) : Value).ownBlock ∧ k_ ≠ ka) (.slice Sa ia.length Qa) ia) ∧ Aside0 (wc.heap[bb]? = some (.cells #[.string oa, (.slice Pa aa.length Ia)] 24 (0, 0))) ∧ Aside0 (wc.heap[ka]? = some (.cells #[.string ta, .string ua, .int .u64 Ba, .int .i64 Ca, .int .i64 Da, .int .i64 Ea, .int .i64 Fa, .int .i64 Ga, .int .i64 Ha] 35 (0, 0))) ∧ Aside0 (wc.heap[Ua]? = some (.cells #[.string Xa, (.slice Sa ia.length Qa)] 24 (0, 0))) ∧ Aside0 (Below w.heap.size w wc))
     case first => as_aux_lemma =>
      have H := te.out
      clear te
      by_cases sd : xb = 8
      rotate_left
      ·rw [if_neg sd] at H
       have Ac : (xb == 8) = false := beq_eq_false_iff_ne.mpr sd
       have tf : (xb != 8) = true := bne_iff_ne.mpr sd
       (first | rw [Ac] | (simp only [i64_w, i32_w]; rw [Ac]) | skip)
       have H' := aM_ H
       clear H
       try go_upto_region 14 with fail
       replace da := aM_ (Kd.R_drew da.out)
       replace fa := aM_ (Kd.R_drew fa.out)
       replace ba := aM_ (blk_drew ba.out)
       replace ea := aM_ (blk_drew ea.out)
       replace ha := aM_ (blk_drew ha.out)
       replace HB := aM_ (bD_ HB.out)
       refine start_ (n := 34) (S := fun w' => True) (ds := []) (bo_ 34 0) (by kernel_rfl) rfl rfl trivial (fun hHeld => ?_); refine with_tabW kerbsuitelaw12_DatabaseKeeps.tab14 kerbsuitelaw12_DatabaseKeeps.bits14 (fun HT_ HW_ => ?_)
       generalize wc.drew = Lo at da fa ba ea ha HB hHeld ⊢
       refine pU_ 0 (some 83) (bo_ 34 1) ?_
       refine pU_ 1 (some 84) (bo_ 34 3) ?_
       refine pU_ 2 (some 85) (bo_ 34 7) ?_
       refine pV_ 3 (some 86) (bo_ 34 15) ?_
       refine pV_ 4 (some 87) (bo_ 34 31) ?_
       refine pV_ 5 (some 88) (bo_ 34 63) ?_
       refine pV_ 6 (some 89) (bo_ 34 127) ?_
       refine pV_ 7 (some 90) (bo_ 34 255) ?_
       refine pV_ 8 (some 91) (bo_ 34 511) ?_
       refine pV_ 9 (some 92) (bo_ 34 1023) ?_
       refine pV_ 10 (some 93) (bo_ 34 2047) ?_
       refine pV_ 11 (some 94) (bo_ 34 4095) ?_
       refine pV_ 12 (some 95) (bo_ 34 8191) ?_
       refine pV_ 13 (some 96) (bo_ 34 16383) ?_
       refine pV_ 14 (some 97) (bo_ 34 32767) ?_
       refine pV_ 15 (some 98) (bo_ 34 65535) ?_
       refine pV_ 16 (some 99) (bo_ 34 131071) ?_
       refine pV_ 17 (some 100) (bo_ 34 262143) ?_
       refine pV_ 18 (some 101) (bo_ 34 524287) ?_
       refine pV_ 19 (some 102) (bo_ 34 1048575) ?_
       refine pV_ 20 (some 103) (bo_ 34 2097151) ?_
       refine pV_ 21 (some 104) (bo_ 34 4194303) ?_
       refine pV_ 22 (some 105) (bo_ 34 8388607) ?_
       refine pV_ 23 (some 106) (bo_ 34 16777215) ?_
       refine pV_ 24 (some 107) (bo_ 34 33554431) ?_
       refine pU_ 25 (some 108) (bo_ 34 67108863) ?_
       refine pU_ 26 (some 109) (bo_ 34 134217727) ?_
       refine pU_ 27 (some 110) (bo_ 34 268435455) ?_
       refine pU_ 28 (some 111) (bo_ 34 536870911) ?_
       refine pU_ 29 (some 112) (bo_ 34 1073741823) ?_
       refine pU_ 30 (some 113) (bo_ 34 2147483647) ?_
       refine pU_ 31 (some 114) (bo_ 34 4294967295) ?_
       refine pU_ 32 (some 115) (bo_ 34 8589934591) ?_
       refine pU_ 33 (some 116) (bo_ 34 17179869183) ?_
       refine done_ (done_of HT_.out (by kernel_rfl)) ?_
       try go_wp2
       go_meet
       case rel => exact ⟨_, ((Db != 9)), rS_, H', ⟨by have := Ob.out; have := Ib.out; first | omega | exact Nat.le_refl _⟩, ⟨by refine bk_ ?_; exact da.out⟩, ⟨by refine bk_ ?_; exact fa.out⟩, ⟨by refine bk_ ?_; exact ba.out⟩, ⟨by refine bk_ ?_; exact ea.out⟩, ⟨by refine bk_ ?_; exact ha.out⟩, ⟨hB_⟩⟩
      rw [if_pos sd] at H
      have Ac : (xb == 8) = true := beq_iff_eq.mpr sd
      have tf : (xb != 8) = false := bne_eq_false_iff_eq.mpr sd
      clear sd
      (first | rw [Ac] | (simp only [i64_w, i32_w]; rw [Ac]) | skip)
      by_cases td : Db = 0
      rotate_left
      ·rw [if_neg td] at H
       have uf : (Db == 0) = false := beq_eq_false_iff_ne.mpr td
       have vf : (Db != 0) = true := bne_iff_ne.mpr td
       have H' := aM_ H
       clear H
       try go_upto_region 14 with fail
       replace da := aM_ (Kd.R_drew da.out)
       replace fa := aM_ (Kd.R_drew fa.out)
       replace ba := aM_ (blk_drew ba.out)
       replace ea := aM_ (blk_drew ea.out)
       replace ha := aM_ (blk_drew ha.out)
       replace HB := aM_ (bD_ HB.out)
       refine start_ (n := 34) (S := fun w' => True) (ds := []) (bo_ 34 0) (by kernel_rfl) rfl rfl trivial (fun hHeld => ?_); refine with_tabW kerbsuitelaw12_DatabaseKeeps.tab14 kerbsuitelaw12_DatabaseKeeps.bits14 (fun HT_ HW_ => ?_)
       generalize wc.drew = Mo at da fa ba ea ha HB hHeld ⊢
       refine pU_ 0 (some 83) (bo_ 34 1) ?_
       refine pU_ 1 (some 84) (bo_ 34 3) ?_
       refine pU_ 2 (some 85) (bo_ 34 7) ?_
       refine pU_ 3 (some 86) (bo_ 34 15) ?_
       refine pU_ 4 (some 87) (bo_ 34 31) ?_
       refine pU_ 5 (some 88) (bo_ 34 63) ?_
       refine pV_ 6 (some 89) (bo_ 34 127) ?_
       refine pV_ 7 (some 90) (bo_ 34 255) ?_
       refine pU_ 8 (some 91) (bo_ 34 511) ?_
       refine pU_ 9 (some 92) (bo_ 34 1023) ?_
       refine pV_ 10 (some 93) (bo_ 34 2047) ?_
       refine pV_ 11 (some 94) (bo_ 34 4095) ?_
       refine pV_ 12 (some 95) (bo_ 34 8191) ?_
       refine pV_ 13 (some 96) (bo_ 34 16383) ?_
       refine pV_ 14 (some 97) (bo_ 34 32767) ?_
       refine pU_ 15 (some 98) (bo_ 34 65535) ?_
       refine pU_ 16 (some 99) (bo_ 34 131071) ?_
       refine pV_ 17 (some 100) (bo_ 34 262143) ?_
       refine pV_ 18 (some 101) (bo_ 34 524287) ?_
       refine pV_ 19 (some 102) (bo_ 34 1048575) ?_
       refine pV_ 20 (some 103) (bo_ 34 2097151) ?_
       refine pV_ 21 (some 104) (bo_ 34 4194303) ?_
       refine pV_ 22 (some 105) (bo_ 34 8388607) ?_
       refine pV_ 23 (some 106) (bo_ 34 16777215) ?_
       refine pU_ 24 (some 107) (bo_ 34 33554431) ?_
       refine pU_ 25 (some 108) (bo_ 34 67108863) ?_
       refine pU_ 26 (some 109) (bo_ 34 134217727) ?_
       refine pV_ 27 (some 110) (bo_ 34 268435455) ?_
       refine pV_ 28 (some 111) (bo_ 34 536870911) ?_
       refine pV_ 29 (some 112) (bo_ 34 1073741823) ?_
       refine pV_ 30 (some 113) (bo_ 34 2147483647) ?_
       refine pV_ 31 (some 114) (bo_ 34 4294967295) ?_
       refine pV_ 32 (some 115) (bo_ 34 8589934591) ?_
       refine pU_ 33 (some 116) (bo_ 34 17179869183) ?_
       refine done_ (done_of HT_.out (by kernel_rfl)) ?_
       try go_wp2
       go_meet
       case rel => exact ⟨_, (true), rS_, H', ⟨by have := Ob.out; have := Ib.out; first | omega | exact Nat.le_refl _⟩, ⟨by refine bk_ ?_; exact da.out⟩, ⟨by refine bk_ ?_; exact fa.out⟩, ⟨by refine bk_ ?_; exact ba.out⟩, ⟨by refine bk_ ?_; exact ea.out⟩, ⟨by refine bk_ ?_; exact ha.out⟩, ⟨hB_⟩⟩
      rw [if_pos td] at H
      have uf : (Db == 0) = true := beq_iff_eq.mpr td
      have vf : (Db != 0) = false := bne_eq_false_iff_eq.mpr td
      clear td
      by_cases Id : ja < 0
      ·rw [if_pos Id] at H
       have bk : decide (ja < 0) = true := decide_eq_true Id
       clear Id
       have H' := aM_ H
       clear H
       try go_upto_region 14 with fail
       replace da := aM_ (Kd.R_drew da.out)
       replace fa := aM_ (Kd.R_drew fa.out)
       replace ba := aM_ (blk_drew ba.out)
       replace ea := aM_ (blk_drew ea.out)
       replace ha := aM_ (blk_drew ha.out)
       replace HB := aM_ (bD_ HB.out)
       refine start_ (n := 34) (S := fun w' => True) (ds := []) (bo_ 34 0) (by kernel_rfl) rfl rfl trivial (fun hHeld => ?_); refine with_tabW kerbsuitelaw12_DatabaseKeeps.tab14 kerbsuitelaw12_DatabaseKeeps.bits14 (fun HT_ HW_ => ?_)
       generalize wc.drew = No at da fa ba ea ha HB hHeld ⊢
       refine pU_ 0 (some 83) (bo_ 34 1) ?_
       refine pU_ 1 (some 84) (bo_ 34 3) ?_
       refine pU_ 2 (some 85) (bo_ 34 7) ?_
       refine pU_ 3 (some 86) (bo_ 34 15) ?_
       refine pU_ 4 (some 87) (bo_ 34 31) ?_
       refine pU_ 5 (some 88) (bo_ 34 63) ?_
       refine pU_ 6 (some 89) (bo_ 34 127) ?_
       refine pU_ 7 (some 90) (bo_ 34 255) ?_
       refine pU_ 8 (some 91) (bo_ 34 511) ?_
       refine pU_ 9 (some 92) (bo_ 34 1023) ?_
       refine pV_ 10 (some 93) (bo_ 34 2047) ?_
       refine pV_ 11 (some 94) (bo_ 34 4095) ?_
       refine pV_ 12 (some 95) (bo_ 34 8191) ?_
       refine pV_ 13 (some 96) (bo_ 34 16383) ?_
       refine pV_ 14 (some 97) (bo_ 34 32767) ?_
       refine pU_ 15 (some 98) (bo_ 34 65535) ?_
       refine pU_ 16 (some 99) (bo_ 34 131071) ?_
       refine pV_ 17 (some 100) (bo_ 34 262143) ?_
       refine pV_ 18 (some 101) (bo_ 34 524287) ?_
       refine pV_ 19 (some 102) (bo_ 34 1048575) ?_
       refine pV_ 20 (some 103) (bo_ 34 2097151) ?_
       refine pV_ 21 (some 104) (bo_ 34 4194303) ?_
       refine pV_ 22 (some 105) (bo_ 34 8388607) ?_
       refine pV_ 23 (some 106) (bo_ 34 16777215) ?_
       refine pU_ 24 (some 107) (bo_ 34 33554431) ?_
       refine pU_ 25 (some 108) (bo_ 34 67108863) ?_
       refine pU_ 26 (some 109) (bo_ 34 134217727) ?_
       refine pV_ 27 (some 110) (bo_ 34 268435455) ?_
       refine pV_ 28 (some 111) (bo_ 34 536870911) ?_
       refine pV_ 29 (some 112) (bo_ 34 1073741823) ?_
       refine pV_ 30 (some 113) (bo_ 34 2147483647) ?_
       refine pV_ 31 (some 114) (bo_ 34 4294967295) ?_
       refine pV_ 32 (some 115) (bo_ 34 8589934591) ?_
       refine pU_ 33 (some 116) (bo_ 34 17179869183) ?_
       refine done_ (done_of HT_.out (by kernel_rfl)) ?_
       try go_wp2
       go_meet
       case rel => exact ⟨_, (true), rS_, H', ⟨by have := Ob.out; have := Ib.out; first | omega | exact Nat.le_refl _⟩, ⟨by refine bk_ ?_; exact da.out⟩, ⟨by refine bk_ ?_; exact fa.out⟩, ⟨by refine bk_ ?_; exact ba.out⟩, ⟨by refine bk_ ?_; exact ea.out⟩, ⟨by refine bk_ ?_; exact ha.out⟩, ⟨hB_⟩⟩
      rw [if_neg Id] at H
      have bk : decide (ja < 0) = false := decide_eq_false Id
      clear Id
      by_cases Jd : ja ≥ (ia.length : Int)
      ·rw [if_pos Jd] at H
       have ck : decide ((ia.length : Int) ≤ ja) = true := decide_eq_true Jd
       clear Jd
       have H' := aM_ H
       clear H
       try go_upto_region 14 with fail
       replace da := aM_ (Kd.R_drew da.out)
       replace fa := aM_ (Kd.R_drew fa.out)
       replace ba := aM_ (blk_drew ba.out)
       replace ea := aM_ (blk_drew ea.out)
       replace ha := aM_ (blk_drew ha.out)
       replace HB := aM_ (bD_ HB.out)
       refine start_ (n := 34) (S := fun w' => w'.cell? ⟨Ua, 0, none⟩ = some (.string Xa) ∧ w'.cell? ⟨Ua, 1, none⟩ = some (.slice Sa ia.length Qa)) (ds := []) (bo_ 34 0) (by kernel_rfl) rfl rfl ⟨bc_ ha.out 0, bc_ ha.out 1⟩ (fun hHeld => ?_); refine with_tabW kerbsuitelaw12_DatabaseKeeps.tab14 kerbsuitelaw12_DatabaseKeeps.bits14 (fun HT_ HW_ => ?_)
       generalize wc.drew = Oo at da fa ba ea ha HB hHeld ⊢
       refine pU_ 0 (some 83) (bo_ 34 1) ?_
       refine pU_ 1 (some 84) (bo_ 34 3) ?_
       refine pU_ 2 (some 85) (bo_ 34 7) ?_
       refine pU_ 3 (some 86) (bo_ 34 15) ?_
       refine pU_ 4 (some 87) (bo_ 34 31) ?_
       refine pU_ 5 (some 88) (bo_ 34 63) ?_
       refine pU_ 6 (some 89) (bo_ 34 127) ?_
       refine pU_ 7 (some 90) (bo_ 34 255) ?_
       refine pU_ 8 (some 91) (bo_ 34 511) ?_
       refine pU_ 9 (some 92) (bo_ 34 1023) ?_
       refine pU_ 10 (some 93) (bo_ 34 2047) ?_
       refine pU_ 11 (some 94) (bo_ 34 4095) ?_
       refine tK_ 12 (some 95) (bo_ 34 8191) hHeld ?_
       refine pU_ 13 (some 96) (bo_ 34 16383) ?_
       refine pU_ 14 (some 97) (bo_ 34 32767) ?_
       refine pU_ 15 (some 98) (bo_ 34 65535) ?_
       refine pU_ 16 (some 99) (bo_ 34 131071) ?_
       refine pV_ 17 (some 100) (bo_ 34 262143) ?_
       refine pV_ 18 (some 101) (bo_ 34 524287) ?_
       refine pV_ 19 (some 102) (bo_ 34 1048575) ?_
       refine pV_ 20 (some 103) (bo_ 34 2097151) ?_
       refine pV_ 21 (some 104) (bo_ 34 4194303) ?_
       refine pV_ 22 (some 105) (bo_ 34 8388607) ?_
       refine pV_ 23 (some 106) (bo_ 34 16777215) ?_
       refine pU_ 24 (some 107) (bo_ 34 33554431) ?_
       refine pU_ 25 (some 108) (bo_ 34 67108863) ?_
       refine pU_ 26 (some 109) (bo_ 34 134217727) ?_
       refine pV_ 27 (some 110) (bo_ 34 268435455) ?_
       refine pV_ 28 (some 111) (bo_ 34 536870911) ?_
       refine pV_ 29 (some 112) (bo_ 34 1073741823) ?_
       refine pV_ 30 (some 113) (bo_ 34 2147483647) ?_
       refine pV_ 31 (some 114) (bo_ 34 4294967295) ?_
       refine pV_ 32 (some 115) (bo_ 34 8589934591) ?_
       refine pU_ 33 (some 116) (bo_ 34 17179869183) ?_
       refine done_ (done_of HT_.out (by kernel_rfl)) ?_
       try go_wp2
       go_meet
       case rel => exact ⟨_, (true), rS_, H', ⟨by have := Ob.out; have := Ib.out; first | omega | exact Nat.le_refl _⟩, ⟨by refine bk_ ?_; exact da.out⟩, ⟨by refine bk_ ?_; exact fa.out⟩, ⟨by refine bk_ ?_; exact ba.out⟩, ⟨by refine bk_ ?_; exact ea.out⟩, ⟨by refine bk_ ?_; exact ha.out⟩, ⟨hB_⟩⟩
      rw [if_neg Jd] at H
      have ck : decide ((ia.length : Int) ≤ ja) = false := decide_eq_false Jd
      clear Jd
      by_cases ce : 0 ≤ ja
      rotate_left
      ·rw [if_neg ce] at H
       exact absurd H (by simp)
      rw [if_pos ce] at H
      have rn : decide (0 ≤ ja) = true := decide_eq_true ce
      clear ce
      by_cases de : ja < (ia.length : Int)
      rotate_left
      ·rw [if_neg de] at H
       exact absurd H (by simp)
      rw [if_pos de] at H
      have sn : decide (ja < (ia.length : Int)) = true := decide_eq_true de
      clear de
      by_cases Ld : (!((((rd_T35 ia ja).f0).toList) == ta.toList) || (!((((rd_T35 ia ja).f1).toList) == ua.toList) || (!(((rd_T35 ia ja).f2) == Ba) || (!(((rd_T35 ia ja).f3) == Ca) || (!(((rd_T35 ia ja).f4) == Da) || (!(((rd_T35 ia ja).f5) == Ea) || (!(((rd_T35 ia ja).f6) == Fa) || (!(((rd_T35 ia ja).f7) == Ga) || (!(((rd_T35 ia ja).f8) == Ha)))))))))) = true
      ·rw [if_pos Ld] at H
       have dk : (!((((rd_T35 ia ja).f0).toList) == ta.toList) || (!((((rd_T35 ia ja).f1).toList) == ua.toList) || (!(((rd_T35 ia ja).f2) == Ba) || (!(((rd_T35 ia ja).f3) == Ca) || (!(((rd_T35 ia ja).f4) == Da) || (!(((rd_T35 ia ja).f5) == Ea) || (!(((rd_T35 ia ja).f6) == Fa) || (!(((rd_T35 ia ja).f7) == Ga) || (!(((rd_T35 ia ja).f8) == Ha)))))))))) = true := Ld
       clear Ld
       have H' := aM_ H
       clear H
       try go_upto_region 14 with fail
       replace da := aM_ (Kd.R_drew da.out)
       replace fa := aM_ (Kd.R_drew fa.out)
       replace ba := aM_ (blk_drew ba.out)
       replace ea := aM_ (blk_drew ea.out)
       replace ha := aM_ (blk_drew ha.out)
       replace HB := aM_ (bD_ HB.out)
       have Fc : 0 ≤ (ja : Int) := dT_
       have Gc : ja < (ia.length : Int) := dT_
       obtain ⟨wa, ue, Zb, ac, bc, cc, dc, ec, fc, gc, hc⟩ := at_T35 (Kd.R_reads' fa.out).2.2 ja Fc Gc
       cases ue
       replace Fc := eq_true Fc
       replace Gc := eq_true Gc
       refine start_ (n := 34) (S := fun w' => w'.cell? ⟨Ua, 0, none⟩ = some (.string Xa) ∧ w'.cell? ⟨Ua, 1, none⟩ = some (.slice (some wa) ia.length Qa) ∧ w'.cell? ⟨ka, 0, none⟩ = some (.string ta) ∧ w'.cell? ⟨ka, 1, none⟩ = some (.string ua) ∧ w'.cell? ⟨ka, 2, none⟩ = some (.int .u64 Ba) ∧ w'.cell? ⟨ka, 3, none⟩ = some (.int .i64 Ca) ∧ w'.cell? ⟨ka, 4, none⟩ = some (.int .i64 Da) ∧ w'.cell? ⟨ka, 5, none⟩ = some (.int .i64 Ea) ∧ w'.cell? ⟨ka, 6, none⟩ = some (.int .i64 Fa) ∧ w'.cell? ⟨ka, 7, none⟩ = some (.int .i64 Ga) ∧ w'.cell? ⟨ka, 8, none⟩ = some (.int .i64 Ha) ∧ w'.cell? (wa.add ((ja).toNat * 9)) = some (.string ((rd_T35 ia ja).f0)) ∧ w'.cell? ⟨(wa.add ((ja).toNat * 9)).block, (wa.add ((ja).toNat * 9)).off + 1, none⟩ = some (.string ((rd_T35 ia ja).f1)) ∧ w'.cell? ⟨(wa.add ((ja).toNat * 9)).block, (wa.add ((ja).toNat * 9)).off + 2, none⟩ = some (.int .u64 ((rd_T35 ia ja).f2)) ∧ w'.cell? ⟨(wa.add ((ja).toNat * 9)).block, (wa.add ((ja).toNat * 9)).off + 3, none⟩ = some (.int .i64 ((rd_T35 ia ja).f3)) ∧ w'.cell? ⟨(wa.add ((ja).toNat * 9)).block, (wa.add ((ja).toNat * 9)).off + 4, none⟩ = some (.int .i64 ((rd_T35 ia ja).f4)) ∧ w'.cell? ⟨(wa.add ((ja).toNat * 9)).block, (wa.add ((ja).toNat * 9)).off + 5, none⟩ = some (.int .i64 ((rd_T35 ia ja).f5)) ∧ w'.cell? ⟨(wa.add ((ja).toNat * 9)).block, (wa.add ((ja).toNat * 9)).off + 6, none⟩ = some (.int .i64 ((rd_T35 ia ja).f6)) ∧ w'.cell? ⟨(wa.add ((ja).toNat * 9)).block, (wa.add ((ja).toNat * 9)).off + 7, none⟩ = some (.int .i64 ((rd_T35 ia ja).f7)) ∧ w'.cell? ⟨(wa.add ((ja).toNat * 9)).block, (wa.add ((ja).toNat * 9)).off + 8, none⟩ = some (.int .i64 ((rd_T35 ia ja).f8))) (ds := []) (bo_ 34 0) (by kernel_rfl) rfl rfl ⟨bc_ ha.out 0, bc_ ha.out 1, bc_ ea.out 0, bc_ ea.out 1, bc_ ea.out 2, bc_ ea.out 3, bc_ ea.out 4, bc_ ea.out 5, bc_ ea.out 6, bc_ ea.out 7, bc_ ea.out 8, Zb, ac, bc, cc, dc, ec, fc, gc, hc⟩ (fun hHeld => ?_); refine with_tabW kerbsuitelaw12_DatabaseKeeps.tab14 kerbsuitelaw12_DatabaseKeeps.bits14 (fun HT_ HW_ => ?_)
       generalize wc.drew = Po at da fa ba ea ha HB Zb ac bc cc dc ec fc gc hc hHeld ⊢
       refine pU_ 0 (some 83) (bo_ 34 1) ?_
       refine pU_ 1 (some 84) (bo_ 34 3) ?_
       refine pU_ 2 (some 85) (bo_ 34 7) ?_
       refine pU_ 3 (some 86) (bo_ 34 15) ?_
       refine pU_ 4 (some 87) (bo_ 34 31) ?_
       refine pU_ 5 (some 88) (bo_ 34 63) ?_
       refine pU_ 6 (some 89) (bo_ 34 127) ?_
       refine pU_ 7 (some 90) (bo_ 34 255) ?_
       refine pU_ 8 (some 91) (bo_ 34 511) ?_
       refine pU_ 9 (some 92) (bo_ 34 1023) ?_
       refine pU_ 10 (some 93) (bo_ 34 2047) ?_
       refine pU_ 11 (some 94) (bo_ 34 4095) ?_
       refine tK_ 12 (some 95) (bo_ 34 8191) hHeld ?_
       refine pU_ 13 (some 96) (bo_ 34 16383) ?_
       refine pU_ 14 (some 97) (bo_ 34 32767) ?_
       refine pU_ 15 (some 98) (bo_ 34 65535) ?_
       refine pU_ 16 (some 99) (bo_ 34 131071) ?_
       refine pU_ 17 (some 100) (bo_ 34 262143) ?_
       refine pU_ 19 (some 102) (bo_ 34 786431) ?_
       refine tK_ 18 (some 101) (bo_ 34 1048575) hHeld ?_
       refine pU_ 20 (some 103) (bo_ 34 2097151) ?_
       refine tK_ 21 (some 104) (bo_ 34 4194303) hHeld ?_
       refine tK_ 22 (some 105) (bo_ 34 8388607) hHeld ?_
       refine pU_ 23 (some 106) (bo_ 34 16777215) ?_
       refine pU_ 24 (some 107) (bo_ 34 33554431) ?_
       refine pU_ 25 (some 108) (bo_ 34 67108863) ?_
       refine pU_ 26 (some 109) (bo_ 34 134217727) ?_
       refine pV_ 27 (some 110) (bo_ 34 268435455) ?_
       refine pV_ 28 (some 111) (bo_ 34 536870911) ?_
       refine pV_ 29 (some 112) (bo_ 34 1073741823) ?_
       refine pV_ 30 (some 113) (bo_ 34 2147483647) ?_
       refine pV_ 31 (some 114) (bo_ 34 4294967295) ?_
       refine pV_ 32 (some 115) (bo_ 34 8589934591) ?_
       refine pU_ 33 (some 116) (bo_ 34 17179869183) ?_
       refine done_ (done_of HT_.out (by kernel_rfl)) ?_
       try go_wp2
       go_meet
       case rel => exact ⟨_, (true), rS_, H', ⟨by have := Ob.out; have := Ib.out; first | omega | exact Nat.le_refl _⟩, ⟨by refine bk_ ?_; exact da.out⟩, ⟨by refine bk_ ?_; exact fa.out⟩, ⟨by refine bk_ ?_; exact ba.out⟩, ⟨by refine bk_ ?_; exact ea.out⟩, ⟨by refine bk_ ?_; exact ha.out⟩, ⟨hB_⟩⟩
      rw [if_neg Ld] at H
      have dk : (!((((rd_T35 ia ja).f0).toList) == ta.toList) || (!((((rd_T35 ia ja).f1).toList) == ua.toList) || (!(((rd_T35 ia ja).f2) == Ba) || (!(((rd_T35 ia ja).f3) == Ca) || (!(((rd_T35 ia ja).f4) == Da) || (!(((rd_T35 ia ja).f5) == Ea) || (!(((rd_T35 ia ja).f6) == Fa) || (!(((rd_T35 ia ja).f7) == Ga) || (!(((rd_T35 ia ja).f8) == Ha)))))))))) = false := by simpa using Ld
      clear Ld
      have H' := aM_ H
      clear H
      try go_upto_region 14 with fail
      replace da := aM_ (Kd.R_drew da.out)
      replace fa := aM_ (Kd.R_drew fa.out)
      replace ba := aM_ (blk_drew ba.out)
      replace ea := aM_ (blk_drew ea.out)
      replace ha := aM_ (blk_drew ha.out)
      replace HB := aM_ (bD_ HB.out)
      have Fc : 0 ≤ (ja : Int) := dT_
      have Gc : ja < (ia.length : Int) := dT_
      obtain ⟨wa, ue, Zb, ac, bc, cc, dc, ec, fc, gc, hc⟩ := at_T35 (Kd.R_reads' fa.out).2.2 ja Fc Gc
      cases ue
      replace Fc := eq_true Fc
      replace Gc := eq_true Gc
      refine start_ (n := 34) (S := fun w' => w'.cell? ⟨Ua, 0, none⟩ = some (.string Xa) ∧ w'.cell? ⟨Ua, 1, none⟩ = some (.slice (some wa) ia.length Qa) ∧ w'.cell? ⟨ka, 0, none⟩ = some (.string ta) ∧ w'.cell? ⟨ka, 1, none⟩ = some (.string ua) ∧ w'.cell? ⟨ka, 2, none⟩ = some (.int .u64 Ba) ∧ w'.cell? ⟨ka, 3, none⟩ = some (.int .i64 Ca) ∧ w'.cell? ⟨ka, 4, none⟩ = some (.int .i64 Da) ∧ w'.cell? ⟨ka, 5, none⟩ = some (.int .i64 Ea) ∧ w'.cell? ⟨ka, 6, none⟩ = some (.int .i64 Fa) ∧ w'.cell? ⟨ka, 7, none⟩ = some (.int .i64 Ga) ∧ w'.cell? ⟨ka, 8, none⟩ = some (.int .i64 Ha) ∧ w'.cell? (wa.add ((ja).toNat * 9)) = some (.string ((rd_T35 ia ja).f0)) ∧ w'.cell? ⟨(wa.add ((ja).toNat * 9)).block, (wa.add ((ja).toNat * 9)).off + 1, none⟩ = some (.string ((rd_T35 ia ja).f1)) ∧ w'.cell? ⟨(wa.add ((ja).toNat * 9)).block, (wa.add ((ja).toNat * 9)).off + 2, none⟩ = some (.int .u64 ((rd_T35 ia ja).f2)) ∧ w'.cell? ⟨(wa.add ((ja).toNat * 9)).block, (wa.add ((ja).toNat * 9)).off + 3, none⟩ = some (.int .i64 ((rd_T35 ia ja).f3)) ∧ w'.cell? ⟨(wa.add ((ja).toNat * 9)).block, (wa.add ((ja).toNat * 9)).off + 4, none⟩ = some (.int .i64 ((rd_T35 ia ja).f4)) ∧ w'.cell? ⟨(wa.add ((ja).toNat * 9)).block, (wa.add ((ja).toNat * 9)).off + 5, none⟩ = some (.int .i64 ((rd_T35 ia ja).f5)) ∧ w'.cell? ⟨(wa.add ((ja).toNat * 9)).block, (wa.add ((ja).toNat * 9)).off + 6, none⟩ = some (.int .i64 ((rd_T35 ia ja).f6)) ∧ w'.cell? ⟨(wa.add ((ja).toNat * 9)).block, (wa.add ((ja).toNat * 9)).off + 7, none⟩ = some (.int .i64 ((rd_T35 ia ja).f7)) ∧ w'.cell? ⟨(wa.add ((ja).toNat * 9)).block, (wa.add ((ja).toNat * 9)).off + 8, none⟩ = some (.int .i64 ((rd_T35 ia ja).f8))) (ds := []) (bo_ 34 0) (by kernel_rfl) rfl rfl ⟨bc_ ha.out 0, bc_ ha.out 1, bc_ ea.out 0, bc_ ea.out 1, bc_ ea.out 2, bc_ ea.out 3, bc_ ea.out 4, bc_ ea.out 5, bc_ ea.out 6, bc_ ea.out 7, bc_ ea.out 8, Zb, ac, bc, cc, dc, ec, fc, gc, hc⟩ (fun hHeld => ?_); refine with_tabW kerbsuitelaw12_DatabaseKeeps.tab14 kerbsuitelaw12_DatabaseKeeps.bits14 (fun HT_ HW_ => ?_)
      generalize wc.drew = Qo at da fa ba ea ha HB Zb ac bc cc dc ec fc gc hc hHeld ⊢
      refine pU_ 0 (some 83) (bo_ 34 1) ?_
      refine pU_ 1 (some 84) (bo_ 34 3) ?_
      refine pU_ 2 (some 85) (bo_ 34 7) ?_
      refine pU_ 3 (some 86) (bo_ 34 15) ?_
      refine pU_ 4 (some 87) (bo_ 34 31) ?_
      refine pU_ 5 (some 88) (bo_ 34 63) ?_
      refine pU_ 6 (some 89) (bo_ 34 127) ?_
      refine pU_ 7 (some 90) (bo_ 34 255) ?_
      refine pU_ 8 (some 91) (bo_ 34 511) ?_
      refine pU_ 9 (some 92) (bo_ 34 1023) ?_
      refine pU_ 10 (some 93) (bo_ 34 2047) ?_
      refine pU_ 11 (some 94) (bo_ 34 4095) ?_
      refine tK_ 12 (some 95) (bo_ 34 8191) hHeld ?_
      refine pU_ 13 (some 96) (bo_ 34 16383) ?_
      refine pU_ 14 (some 97) (bo_ 34 32767) ?_
      refine pU_ 15 (some 98) (bo_ 34 65535) ?_
      refine pU_ 16 (some 99) (bo_ 34 131071) ?_
      refine pU_ 17 (some 100) (bo_ 34 262143) ?_
      refine pU_ 19 (some 102) (bo_ 34 786431) ?_
      refine tK_ 18 (some 101) (bo_ 34 1048575) hHeld ?_
      refine pU_ 20 (some 103) (bo_ 34 2097151) ?_
      refine tK_ 21 (some 104) (bo_ 34 4194303) hHeld ?_
      refine tK_ 22 (some 105) (bo_ 34 8388607) hHeld ?_
      refine pU_ 23 (some 106) (bo_ 34 16777215) ?_
      refine pU_ 24 (some 107) (bo_ 34 33554431) ?_
      refine pU_ 25 (some 108) (bo_ 34 67108863) ?_
      refine pU_ 26 (some 109) (bo_ 34 134217727) ?_
      refine pU_ 27 (some 110) (bo_ 34 268435455) ?_
      refine pU_ 28 (some 111) (bo_ 34 536870911) ?_
      refine pU_ 29 (some 112) (bo_ 34 1073741823) ?_
      refine pV_ 30 (some 113) (bo_ 34 2147483647) ?_
      refine pV_ 31 (some 114) (bo_ 34 4294967295) ?_
      refine pU_ 32 (some 115) (bo_ 34 8589934591) ?_
      refine pU_ 33 (some 116) (bo_ 34 17179869183) ?_
      refine done_ (done_of HT_.out (by kernel_rfl)) ?_
      try go_wp2
      go_meet
      case rel => exact ⟨_, (false), rS_, H', ⟨by have := Ob.out; have := Ib.out; first | omega | exact Nat.le_refl _⟩, ⟨by refine bk_ ?_; exact da.out⟩, ⟨by refine bk_ ?_; exact fa.out⟩, ⟨by refine bk_ ?_; exact ba.out⟩, ⟨by refine bk_ ?_; exact ea.out⟩, ⟨by refine bk_ ?_; exact ha.out⟩, ⟨hB_⟩⟩
     case rest =>
      clear te
      try clear p2
      try clear c8
      try clear c9
      try clear sd
      try clear Ac
      try clear tf
      try clear td
      try clear uf
      try clear vf
      try clear ce
      try clear de
      obtain ⟨kq, zc, rfl, HA, Hc, da, fa, ba, ea, ha, HB⟩ := hcut
      cases kq with
      | zero => exact absurd HA.out (by simp [kerbsuitelaw12_DatabaseKeeps.j2])
      | succ sb =>
       have H := HA.out
       clear HA
       simp only [kerbsuitelaw12_DatabaseKeeps.j2] at H
       by_cases xf : zc = true
       ·subst xf
        have H1 : (some false) = some r := by rw [if_pos rfl] at H; exact H
        clear H
        have H := H1
        clear H1
        obtain rfl := Option.some.inj H
        go_wp2
        go_ret
        exact ⟨eW_, hB_⟩
       replace xf := Bool.eq_false_iff.mpr xf
       subst xf
       have H1 : (if (aa.length : Int) = 0 then (some true) else ((kerbsuitedata_Long.f (wrap64 (a2))).bind fun Gb => ((database_Rekey.f sb oa aa (Int.tmod (wrap64 (a2)) (aa.length : Int)) Gb).bind fun Aa => (if Aa.2.2 = 0 then ((database_Check.f sb Aa.1 Aa.2.1).bind fun Bb => (if Bb = 0 then (kerbsuitelaw12_DatabaseKeeps.j3 sb a2 (Int.tmod (wrap64 (a2)) (aa.length : Int)) ((Aa.2.1.length : Int) != (aa.length : Int)) oa aa Aa.1 Aa.2.1) else (kerbsuitelaw12_DatabaseKeeps.j3 sb a2 (Int.tmod (wrap64 (a2)) (aa.length : Int)) true oa aa Aa.1 Aa.2.1))) else (kerbsuitelaw12_DatabaseKeeps.j3 sb a2 (Int.tmod (wrap64 (a2)) (aa.length : Int)) true oa aa Aa.1 Aa.2.1))))) = some r := by rw [if_neg (show ¬ (false = true) by decide)] at H; exact H
       clear H
       have H := H1
       clear H1
       by_cases vc : (aa.length : Int) = 0
       ·rw [if_pos vc] at H
        have zd : ((aa.length : Int) == 0) = true := beq_iff_eq.mpr vc
        have Ad : ((aa.length : Int) != 0) = false := bne_eq_false_iff_eq.mpr vc
        clear vc
        obtain rfl := Option.some.inj H
        have tn := eb.out
        have un := ub.out
        have Bl := fb.out
        have Cl := kb.out
        obtain ⟨Yk, Zk⟩ := kC2_ ba.out
        obtain ⟨al, bl⟩ := kZ2_ ba.out
        go_wp2
        go_ret
        exact ⟨eW_, hB_⟩
       rw [if_neg vc] at H
       have zd : ((aa.length : Int) == 0) = false := beq_eq_false_iff_ne.mpr vc
       have Ad : ((aa.length : Int) != 0) = true := bne_iff_ne.mpr vc
       have Pd : ¬ (aa = []) := fun h_ => vc (by rw [h_]; rfl)
       replace H := Option.bind_eq_some_iff.mp H
       obtain ⟨Gb, yf, H⟩ := H
       replace H : ((database_Rekey.f sb oa aa (Int.tmod (wrap64 (a2)) (aa.length : Int)) Gb).bind fun Aa => (if Aa.2.2 = 0 then ((database_Check.f sb Aa.1 Aa.2.1).bind fun Bb => (if Bb = 0 then (kerbsuitelaw12_DatabaseKeeps.j3 sb a2 (Int.tmod (wrap64 (a2)) (aa.length : Int)) ((Aa.2.1.length : Int) != (aa.length : Int)) oa aa Aa.1 Aa.2.1) else (kerbsuitelaw12_DatabaseKeeps.j3 sb a2 (Int.tmod (wrap64 (a2)) (aa.length : Int)) true oa aa Aa.1 Aa.2.1))) else (kerbsuitelaw12_DatabaseKeeps.j3 sb a2 (Int.tmod (wrap64 (a2)) (aa.length : Int)) true oa aa Aa.1 Aa.2.1))) = some r := H
       have jj := aM_ yf
       clear yf
       replace H := Option.bind_eq_some_iff.mp H
       obtain ⟨⟨gb, ma, Mb⟩, zf, H⟩ := H
       replace H : (if Mb = 0 then ((database_Check.f sb gb ma).bind fun Bb => (if Bb = 0 then (kerbsuitelaw12_DatabaseKeeps.j3 sb a2 (Int.tmod (wrap64 (a2)) (aa.length : Int)) ((ma.length : Int) != (aa.length : Int)) oa aa gb ma) else (kerbsuitelaw12_DatabaseKeeps.j3 sb a2 (Int.tmod (wrap64 (a2)) (aa.length : Int)) true oa aa gb ma))) else (kerbsuitelaw12_DatabaseKeeps.j3 sb a2 (Int.tmod (wrap64 (a2)) (aa.length : Int)) true oa aa gb ma)) = some r := H
       have ve := aM_ zf
       clear zf
       have Qd := aM_ H
       clear H
       have Dl := eb.out
       have El := ub.out
       have Fl := fb.out
       have Gl := kb.out
       obtain ⟨Ic, Jc⟩ := kC2_ ba.out
       obtain ⟨Kc, Lc⟩ := kZ2_ ba.out
       try go_upto_region 19 with fail
       replace da := aM_ (Kd.R_drew da.out)
       replace fa := aM_ (Kd.R_drew fa.out)
       replace ba := aM_ (blk_drew ba.out)
       replace ea := aM_ (blk_drew ea.out)
       replace ha := aM_ (blk_drew ha.out)
       replace HB := aM_ (bD_ HB.out)
       refine start_ (n := 12) (S := fun w' => w'.cell? ⟨bb, 0, none⟩ = some (.string oa) ∧ w'.cell? ⟨bb, 1, none⟩ = some (.slice Pa aa.length Ia)) (ds := []) (bo_ 12 0) (by kernel_rfl) rfl rfl ⟨bc_ ba.out 0, bc_ ba.out 1⟩ (fun hHeld => ?_); refine with_tabW kerbsuitelaw12_DatabaseKeeps.tab19 kerbsuitelaw12_DatabaseKeeps.bits19 (fun HT_ HW_ => ?_)
       generalize wc.drew = Dn at da fa ba ea ha HB hHeld ⊢
       refine pU_ 1 (some 129) (bo_ 12 2) ?_
       refine pU_ 2 (some 130) (bo_ 12 6) ?_
       refine pU_ 3 (some 131) (bo_ 12 14) ?_
       refine tK_ 0 (some 128) (bo_ 12 15) hHeld ?_
       refine join_ (σ := Value × Nat) 2 (bo_ 12 1023) (fun s_ => [(132, .int .u64 Gb), (133, .tuple #[.agg #[.string gb, s_.1], .int .i64 Mb]), (16, .pointer (some ⟨s_.2, 0, none⟩)), (127, .tuple #[.agg #[.string gb, s_.1], .int .i64 Mb]), (134, .agg #[.string gb, s_.1]), (135, .int .i64 Mb)]) (fun s_ w' => (w'.cell? ⟨bb, 0, none⟩ = some (.string oa) ∧ w'.cell? ⟨bb, 1, none⟩ = some (.slice Pa aa.length Ia)) ∧ (Kd.R k35 35 w' w.heap.size (fun k_ => some k_ ≠ (.slice Pa aa.length Ia : Value).ownBlock ∧ some k_ ≠ (.slice Sa ia.length Qa : Value).ownBlock ∧ k_ ≠ ka) s_.1 ma) ∧ (Kd.R k35 35 w' w.heap.size (fun k_ => some k_ ≠ (s_.1 : Value).ownBlock ∧ some k_ ≠ (.slice Sa ia.length Qa : Value).ownBlock ∧ k_ ≠ ka) (.slice Pa aa.length Ia) aa) ∧ (Kd.R k35 35 w' w.heap.size (fun k_ => some k_ ≠ (s_.1 : Value).ownBlock ∧ some k_ ≠ (.slice Pa aa.length Ia : Value).ownBlock ∧ k_ ≠ ka) (.slice Sa ia.length Qa) ia) ∧ (w'.heap[bb]? = some (.cells #[.string oa, .slice Pa aa.length Ia] 24 (0, 0))) ∧ (w'.heap[ka]? = some (.cells #[.string ta, .string ua, .int .u64 Ba, .int .i64 Ca, .int .i64 Da, .int .i64 Ea, .int .i64 Fa, .int .i64 Ga, .int .i64 Ha] 35 (0, 0))) ∧ (w'.heap[Ua]? = some (.cells #[.string Xa, .slice Sa ia.length Qa] 24 (0, 0))) ∧ (w'.heap[s_.2]? = some (.cells #[.string (⟨#[]⟩ : ByteArray), .slice none 0 0] 24 (0, 0))) ∧ (w.heap.size ≤ s_.2) ∧ (w.heap.size ≤ s_.2) ∧ (bb ≠ s_.2) ∧ (s_.2 ≠ bb) ∧ (ka ≠ s_.2) ∧ (s_.2 ≠ ka) ∧ (Ua ≠ s_.2) ∧ (s_.2 ≠ Ua) ∧ (Below w.heap.size w w')) ?_ ?_
       rotate_left
       ·intro hCont
        refine two_ (i := 4) (j := 9) (Ni := some 132) (Nj := some 16) (bo_ 12 31) (bo_ 12 527) rfl rfl rfl rfl (two_of HT_.out (by kernel_rfl)) (by decide) (by decide) (fun K hK => ?_) (fun K hK => ?_)
        ·skip
         refine goes_ Tryd.func13 (by kernel_rfl) rfl #[.int .i64 (wrap64 (a2))] (by rfl) rfl rfl aR_ ?_
         with_reducible refine (kerbsuitedata_Long.calls (wrap64 (a2)) Gb _ jj.out).mono ?_
         rintro e w' ⟨rfl, ⟨nd, rfl⟩⟩
         refine ⟨_, rfl, ?_⟩
         refine hK.out _ _ ⟨bc_ ba.out 0, bc_ ba.out 1⟩ (fun hHeld => ?_)
         clear hK K
         refine nO_ 132 ?_
         refine two_ (i := 5) (j := 9) (Ni := some 133) (Nj := some 16) (bo_ 12 63) (bo_ 12 543) rfl rfl rfl rfl (two_of HT_.out (by kernel_rfl)) (by decide) (by decide) (fun K hK => ?_) (fun K hK => ?_)
         ·skip
          refine goes_ Tryd.func26 (by kernel_rfl) rfl #[.agg #[.string oa, .slice Pa aa.length Ia], .int .i64 (Int.tmod (wrap64 (a2)) (aa.length : Int)), .int .u64 Gb] (by rfl) rfl rfl aR_ ?_
          with_reducible refine (database_Rekey.calls sb oa _ _ aa (Int.tmod (wrap64 (a2)) (aa.length : Int)) Gb gb ma Mb _ ?side1 ?side2 ve.out).mono ?_
          (case side1 => exact cD_ (Kd.R_reads' da.out).2.2)
          (case side2 => exact (Kd.R_reads' da.out).2.1)
          rintro e kj ⟨sc, rfl, vb, hb⟩
          refine ⟨_, rfl, ?_⟩
          have jb := aM_ (Kd.R_lower (Kd.R_newB (Kd.R_new' (Kd.R_new' vb (Kd.R_lt (bk_ da.out))) (Kd.R_lt (bk_ fa.out))) (gR_ ea.out)) (below_size hB_))
          replace da := aM_ (Kd.R_elder' (bk_ da.out) (Kd.R_base vb) hb)
          replace fa := aM_ (Kd.R_elder' (bk_ fa.out) (Kd.R_base vb) hb)
          replace ba := aM_ (kG_ ba.out hb)
          replace ea := aM_ (kG_ ea.out hb)
          replace ha := aM_ (kG_ ha.out hb)
          replace HB := aM_ (below_step hB_ hb)
          clear hb vb
          refine hK.out _ _ ⟨bc_ ba.out 0, bc_ ba.out 1⟩ (fun hHeld => ?_)
          clear hK K
          refine nO_ 133 ?_
          refine pU_ 6 (some 127) (bo_ 12 127) ?_
          refine pU_ 7 (some 134) (bo_ 12 255) ?_
          refine pU_ 8 (some 135) (bo_ 12 511) ?_
          refine one_ (i := 9) (N := some 16) (bo_ 12 1023) rfl rfl (one_of HT_.out (by kernel_rfl)) (by decide) (fun K hK => ?_)
          refine box_step ?hg (N := 16) ?hd (cs := #[.string (⟨#[]⟩ : ByteArray), .slice none 0 0]) (t := 24) ?hr ?_; (case hd => rfl); (case hg => rfl); (case hr => first | (go_simp; done) | (go_simp; rfl))
          intro Ma hg lj hbox hb
          replace da := aM_ (Kd.R_below (bk_ da.out) hb)
          replace fa := aM_ (Kd.R_below (bk_ fa.out) hb)
          replace jb := aM_ (Kd.R_below (bk_ jb.out) hb)
          have qa := aM_ (hbox)
          have Bc := aM_ (gB_ hg HB.out)
          have Cc := aM_ (gB_ hg HB.out)
          replace HB := aM_ (below_step hB_ hb)
          have za := aM_ (nL_ hg ba.out)
          have ab := aM_ (nG_ hg ba.out)
          replace ba := aM_ (kG_ ba.out hb)
          have Va := aM_ (nL_ hg ea.out)
          have lb := aM_ (nG_ hg ea.out)
          replace ea := aM_ (kG_ ea.out hb)
          have Wa := aM_ (nL_ hg ha.out)
          have mb := aM_ (nG_ hg ha.out)
          replace ha := aM_ (kG_ ha.out hb)
          clear hb hbox hg
          refine hK.out _ _ ⟨bc_ ba.out 0, bc_ ba.out 1⟩ (fun hHeld => ?_)
          clear hK K
          refine nO_ 16 ?_
          exact norm_ (by simp only [putAll, Act.put, sA_, sB_, sC_]) (hCont (sc, Ma) _ ⟨hHeld, (by refine bk_ ?_; exact Kd.R_mono jb.out (fun _ hk => ⟨hk.1.1.2, ⟨hk.1.2, hk.2⟩⟩)), (by refine bk_ ?_; exact Kd.R_mono da.out (fun _ hk => ⟨hk.2, ⟨hk.1.1, hk.1.2⟩⟩)), (by refine bk_ ?_; exact Kd.R_mono fa.out (fun _ hk => ⟨hk.2, ⟨hk.1.1, hk.1.2⟩⟩)), (bk_ ba.out), (bk_ ea.out), (bk_ ha.out), (bk_ qa.out), Bc.out, Cc.out, za.out, ab.out, Va.out, lb.out, Wa.out, mb.out, hB_⟩)
         skip
         refine box_step ?hg (N := 16) ?hd (cs := #[.string (⟨#[]⟩ : ByteArray), .slice none 0 0]) (t := 24) ?hr ?_; (case hd => rfl); (case hg => rfl); (case hr => first | (go_simp; done) | (go_simp; rfl))
         intro Ma hg kj hbox hb
         replace da := aM_ (Kd.R_below (bk_ da.out) hb)
         replace fa := aM_ (Kd.R_below (bk_ fa.out) hb)
         have qa := aM_ (hbox)
         have Bc := aM_ (gB_ hg HB.out)
         have Cc := aM_ (gB_ hg HB.out)
         replace HB := aM_ (below_step hB_ hb)
         have za := aM_ (nL_ hg ba.out)
         have ab := aM_ (nG_ hg ba.out)
         replace ba := aM_ (kG_ ba.out hb)
         have Va := aM_ (nL_ hg ea.out)
         have lb := aM_ (nG_ hg ea.out)
         replace ea := aM_ (kG_ ea.out hb)
         have Wa := aM_ (nL_ hg ha.out)
         have mb := aM_ (nG_ hg ha.out)
         replace ha := aM_ (kG_ ha.out hb)
         clear hb hbox hg
         refine hK.out _ _ ⟨bc_ ba.out 0, bc_ ba.out 1⟩ (fun hHeld => ?_)
         clear hK K
         refine nO_ 16 ?_
         refine one_ (i := 5) (N := some 133) (bo_ 12 575) rfl rfl (one_of HT_.out (by kernel_rfl)) (by decide) (fun K hK => ?_)
         refine goes_ Tryd.func26 (by kernel_rfl) rfl #[.agg #[.string oa, .slice Pa aa.length Ia], .int .i64 (Int.tmod (wrap64 (a2)) (aa.length : Int)), .int .u64 Gb] (by rfl) rfl rfl aR_ ?_
         with_reducible refine (database_Rekey.calls sb oa _ _ aa (Int.tmod (wrap64 (a2)) (aa.length : Int)) Gb gb ma Mb _ ?side1 ?side2 ve.out).mono ?_
         (case side1 => exact cD_ (Kd.R_reads' da.out).2.2)
         (case side2 => exact (Kd.R_reads' da.out).2.1)
         rintro e lj ⟨sc, rfl, vb, hb⟩
         refine ⟨_, rfl, ?_⟩
         have jb := aM_ (Kd.R_lower (Kd.R_newB (Kd.R_new' (Kd.R_new' vb (Kd.R_lt (bk_ da.out))) (Kd.R_lt (bk_ fa.out))) (gR_ ea.out)) (below_size hB_))
         replace da := aM_ (Kd.R_elder' (bk_ da.out) (Kd.R_base vb) hb)
         replace fa := aM_ (Kd.R_elder' (bk_ fa.out) (Kd.R_base vb) hb)
         replace ba := aM_ (kG_ ba.out hb)
         replace ea := aM_ (kG_ ea.out hb)
         replace ha := aM_ (kG_ ha.out hb)
         replace qa := aM_ (kG_ qa.out hb)
         replace HB := aM_ (below_step hB_ hb)
         clear hb vb
         refine hK.out _ _ ⟨bc_ ba.out 0, bc_ ba.out 1⟩ (fun hHeld => ?_)
         clear hK K
         refine nO_ 133 ?_
         refine pU_ 6 (some 127) (bo_ 12 639) ?_
         refine pU_ 7 (some 134) (bo_ 12 767) ?_
         refine pU_ 8 (some 135) (bo_ 12 1023) ?_
         exact norm_ (by simp only [putAll, Act.put, sA_, sB_, sC_]) (hCont (sc, Ma) _ ⟨hHeld, (by refine bk_ ?_; exact Kd.R_mono jb.out (fun _ hk => ⟨hk.1.1.2, ⟨hk.1.2, hk.2⟩⟩)), (by refine bk_ ?_; exact Kd.R_mono da.out (fun _ hk => ⟨hk.2, ⟨hk.1.1, hk.1.2⟩⟩)), (by refine bk_ ?_; exact Kd.R_mono fa.out (fun _ hk => ⟨hk.2, ⟨hk.1.1, hk.1.2⟩⟩)), (bk_ ba.out), (bk_ ea.out), (bk_ ha.out), (bk_ qa.out), Bc.out, Cc.out, za.out, ab.out, Va.out, lb.out, Wa.out, mb.out, hB_⟩)
        skip
        refine box_step ?hg (N := 16) ?hd (cs := #[.string (⟨#[]⟩ : ByteArray), .slice none 0 0]) (t := 24) ?hr ?_; (case hd => rfl); (case hg => rfl); (case hr => first | (go_simp; done) | (go_simp; rfl))
        intro Ma hg kj hbox hb
        replace da := aM_ (Kd.R_below (bk_ da.out) hb)
        replace fa := aM_ (Kd.R_below (bk_ fa.out) hb)
        have qa := aM_ (hbox)
        have Bc := aM_ (gB_ hg HB.out)
        have Cc := aM_ (gB_ hg HB.out)
        replace HB := aM_ (below_step hB_ hb)
        have za := aM_ (nL_ hg ba.out)
        have ab := aM_ (nG_ hg ba.out)
        replace ba := aM_ (kG_ ba.out hb)
        have Va := aM_ (nL_ hg ea.out)
        have lb := aM_ (nG_ hg ea.out)
        replace ea := aM_ (kG_ ea.out hb)
        have Wa := aM_ (nL_ hg ha.out)
        have mb := aM_ (nG_ hg ha.out)
        replace ha := aM_ (kG_ ha.out hb)
        clear hb hbox hg
        refine hK.out _ _ ⟨bc_ ba.out 0, bc_ ba.out 1⟩ (fun hHeld => ?_)
        clear hK K
        refine nO_ 16 ?_
        refine one_ (i := 4) (N := some 132) (bo_ 12 543) rfl rfl (one_of HT_.out (by kernel_rfl)) (by decide) (fun K hK => ?_)
        refine goes_ Tryd.func13 (by kernel_rfl) rfl #[.int .i64 (wrap64 (a2))] (by rfl) rfl rfl aR_ ?_
        with_reducible refine (kerbsuitedata_Long.calls (wrap64 (a2)) Gb _ jj.out).mono ?_
        rintro e w' ⟨rfl, ⟨nd, rfl⟩⟩
        refine ⟨_, rfl, ?_⟩
        refine hK.out _ _ ⟨bc_ ba.out 0, bc_ ba.out 1⟩ (fun hHeld => ?_)
        clear hK K
        refine nO_ 132 ?_
        refine one_ (i := 5) (N := some 133) (bo_ 12 575) rfl rfl (one_of HT_.out (by kernel_rfl)) (by decide) (fun K hK => ?_)
        refine goes_ Tryd.func26 (by kernel_rfl) rfl #[.agg #[.string oa, .slice Pa aa.length Ia], .int .i64 (Int.tmod (wrap64 (a2)) (aa.length : Int)), .int .u64 Gb] (by rfl) rfl rfl aR_ ?_
        with_reducible refine (database_Rekey.calls sb oa _ _ aa (Int.tmod (wrap64 (a2)) (aa.length : Int)) Gb gb ma Mb _ ?side1 ?side2 ve.out).mono ?_
        (case side1 => exact cD_ (Kd.R_reads' da.out).2.2)
        (case side2 => exact (Kd.R_reads' da.out).2.1)
        rintro e lj ⟨sc, rfl, vb, hb⟩
        refine ⟨_, rfl, ?_⟩
        have jb := aM_ (Kd.R_lower (Kd.R_newB (Kd.R_new' (Kd.R_new' vb (Kd.R_lt (bk_ da.out))) (Kd.R_lt (bk_ fa.out))) (gR_ ea.out)) (below_size hB_))
        replace da := aM_ (Kd.R_elder' (bk_ da.out) (Kd.R_base vb) hb)
        replace fa := aM_ (Kd.R_elder' (bk_ fa.out) (Kd.R_base vb) hb)
        replace ba := aM_ (kG_ ba.out hb)
        replace ea := aM_ (kG_ ea.out hb)
        replace ha := aM_ (kG_ ha.out hb)
        replace qa := aM_ (kG_ qa.out hb)
        replace HB := aM_ (below_step hB_ hb)
        clear hb vb
        refine hK.out _ _ ⟨bc_ ba.out 0, bc_ ba.out 1⟩ (fun hHeld => ?_)
        clear hK K
        refine nO_ 133 ?_
        refine pU_ 6 (some 127) (bo_ 12 639) ?_
        refine pU_ 7 (some 134) (bo_ 12 767) ?_
        refine pU_ 8 (some 135) (bo_ 12 1023) ?_
        exact norm_ (by simp only [putAll, Act.put, sA_, sB_, sC_]) (hCont (sc, Ma) _ ⟨hHeld, (by refine bk_ ?_; exact Kd.R_mono jb.out (fun _ hk => ⟨hk.1.1.2, ⟨hk.1.2, hk.2⟩⟩)), (by refine bk_ ?_; exact Kd.R_mono da.out (fun _ hk => ⟨hk.2, ⟨hk.1.1, hk.1.2⟩⟩)), (by refine bk_ ?_; exact Kd.R_mono fa.out (fun _ hk => ⟨hk.2, ⟨hk.1.1, hk.1.2⟩⟩)), (bk_ ba.out), (bk_ ea.out), (bk_ ha.out), (bk_ qa.out), Bc.out, Cc.out, za.out, ab.out, Va.out, lb.out, Wa.out, mb.out, hB_⟩)
       rintro ⟨sc, Ma⟩ Nb ⟨hS_, h0_, h1_, h2_, sk, tk, uk, vk, wk, xk, yk, mj, nj, oj, pj, qj, rj⟩
       have zk : Aside0 (Kd.R k35 35 Nb w.heap.size (fun k_ => some k_ ≠ (.slice Pa aa.length Ia : Value).ownBlock ∧ some k_ ≠ (.slice Sa ia.length Qa : Value).ownBlock ∧ k_ ≠ ka) sc ma) := ⟨h0_⟩
       have Ak : Aside0 (Kd.R k35 35 Nb w.heap.size (fun k_ => some k_ ≠ (sc : Value).ownBlock ∧ some k_ ≠ (.slice Sa ia.length Qa : Value).ownBlock ∧ k_ ≠ ka) (.slice Pa aa.length Ia) aa) := ⟨h1_⟩
       have Bk : Aside0 (Kd.R k35 35 Nb w.heap.size (fun k_ => some k_ ≠ (sc : Value).ownBlock ∧ some k_ ≠ (.slice Pa aa.length Ia : Value).ownBlock ∧ k_ ≠ ka) (.slice Sa ia.length Qa) ia) := ⟨h2_⟩
       have Ck : Aside0 (Nb.heap[bb]? = some (.cells #[.string oa, .slice Pa aa.length Ia] 24 (0, 0))) := ⟨sk⟩
       have Dk : Aside0 (Nb.heap[ka]? = some (.cells #[.string ta, .string ua, .int .u64 Ba, .int .i64 Ca, .int .i64 Da, .int .i64 Ea, .int .i64 Fa, .int .i64 Ga, .int .i64 Ha] 35 (0, 0))) := ⟨tk⟩
       have Ek : Aside0 (Nb.heap[Ua]? = some (.cells #[.string Xa, .slice Sa ia.length Qa] 24 (0, 0))) := ⟨uk⟩
       have Fk : Aside0 (Nb.heap[Ma]? = some (.cells #[.string (⟨#[]⟩ : ByteArray), .slice none 0 0] 24 (0, 0))) := ⟨vk⟩
       have Gk : Aside0 (w.heap.size ≤ Ma) := ⟨wk⟩
       have Hk : Aside0 (w.heap.size ≤ Ma) := ⟨xk⟩
       have Ik : Aside0 (bb ≠ Ma) := ⟨yk⟩
       have sj : Aside0 (Ma ≠ bb) := ⟨mj⟩
       have tj : Aside0 (ka ≠ Ma) := ⟨nj⟩
       have uj : Aside0 (Ma ≠ ka) := ⟨oj⟩
       have vj : Aside0 (Ua ≠ Ma) := ⟨pj⟩
       have wj : Aside0 (Ma ≠ Ua) := ⟨qj⟩
       have xj : Aside0 (Below w.heap.size w Nb) := ⟨rj⟩
       clear da fa ba ea ha HB
       clear h0_ h1_ h2_ sk tk uk vk wk xk yk mj nj oj pj qj rj
       have jb := zk
       have da := Ak
       have fa := Bk
       have ba := Ck
       have ea := Dk
       have ha := Ek
       have qa := Fk
       have Bc := Gk
       have Cc := Hk
       have za := Ik
       have ab := sj
       have Va := tj
       have lb := uj
       have Wa := vj
       have mb := wj
       have HB := xj
       clear zk Ak Bk Ck Dk Ek Fk Gk Hk Ik sj tj uj vj wj xj
       have hHeld : Nb.cell? ⟨bb, 0, none⟩ = some (.string oa) ∧ Nb.cell? ⟨bb, 1, none⟩ = some (.slice Pa aa.length Ia) := hS_
       obtain ⟨Ab, qb, Af⟩ := Kd.R_slice jb.out
       (first | subst Af | (injection Af with f1_ f2_ f3_; have f4_ := f1_.symm; have f5_ := f3_.symm; clear f1_ f2_ f3_; subst f4_; subst f5_))
       refine nP_ ?_
       refine one_ (i := 10) (N := none) (bo_ 12 2047) rfl rfl (one_of HT_.out (by kernel_rfl)) (by decide) (fun K hK => ?_)
       have hs112 : Nb.cell? ⟨Ma, 0, none⟩ = some (.string (⟨#[]⟩ : ByteArray)) := bc_ qa.out 0
       have hfs112 := blk_frozen qa.out 0
       have hns112_0 := za.out
       have hns112_1 := Va.out
       have hns112_2 := Wa.out
       have hms112_0 := ab.out
       have hms112_1 := lb.out
       have hms112_2 := mb.out
       have hs114 : Nb.cell? ⟨Ma, 1, none⟩ = some (.slice none 0 0) := bc_ qa.out 1
       have hfs114 := blk_frozen qa.out 1
       have hns114_0 := za.out
       have hns114_1 := Va.out
       have hns114_2 := Wa.out
       have hms114_0 := ab.out
       have hms114_1 := lb.out
       have hms114_2 := mb.out
       refine skip_ (w1 := ?_) (by rfl) rfl ?_ ?_
       rotate_left; (· go_simp; rfl)
       refine hK.out _ _ ⟨((cell_far (p := ⟨Ma, _, none⟩) za.out _).trans (((cell_far (p := ⟨Ma, _, none⟩) za.out _).trans (hHeld.1)))), ((cell_far (p := ⟨Ma, _, none⟩) za.out _).trans (((cell_far (p := ⟨Ma, _, none⟩) za.out _).trans (hHeld.2))))⟩ (fun hHeld => ?_)
       clear hK K
       refine pU_ 11 (some 17) (bo_ 12 4095) ?_
       refine done_ (done_of HT_.out (by kernel_rfl)) ?_
       go_upto_region 20 with (fail)
       go_cut [151] (fun cl wc => ∃ (kq : Nat) (tc : Bool), cl = .bool tc ∧ Aside0 (kerbsuitelaw12_DatabaseKeeps.j3 kq a2 (Int.tmod (wrap64 (a2)) (aa.length : Int)) tc oa aa gb ma = some r) ∧ Aside0 (kq ≤ sb) ∧ Aside0 (Kd.R k35 35 wc w.heap.size (fun k_ => some k_ ≠ ((.slice Sa ia.length Qa) : Value).ownBlock ∧ some k_ ≠ ((.slice Ab ma.length qb) : Value).ownBlock ∧ k_ ≠ ka) (.slice Pa aa.length Ia) aa) ∧ Aside0 (Kd.R k35 35 wc w.heap.size (fun k_ => some k_ ≠ ((.slice Pa aa.length Ia) : Value).ownBlock ∧ some k_ ≠ ((.slice Ab ma.length qb) : Value).ownBlock ∧ k_ ≠ ka) (.slice Sa ia.length Qa) ia) ∧ Aside0 (Kd.R k35 35 wc w.heap.size (fun k_ => some k_ ≠ ((.slice Pa aa.length Ia) : Value).ownBlock ∧ some k_ ≠ ((.slice Sa ia.length Qa) : Value).ownBlock ∧ k_ ≠ ka) (.slice Ab ma.length qb) ma) ∧ Aside0 (wc.heap[bb]? = some (.cells #[.string oa, (.slice Pa aa.length Ia)] 24 (0, 0))) ∧ Aside0 (wc.heap[ka]? = some (.cells #[.string ta, .string ua, .int .u64 Ba, .int .i64 Ca, .int .i64 Da, .int .i64 Ea, .int .i64 Fa, .int .i64 Ga, .int .i64 Ha] 35 (0, 0))) ∧ Aside0 (wc.heap[Ua]? = some (.cells #[.string Xa, (.slice Sa ia.length Qa)] 24 (0, 0))) ∧ Aside0 (wc.heap[Ma]? = some (.cells #[.string gb, (.slice Ab ma.length qb)] 24 (0, 0))) ∧ Aside0 (Below w.heap.size w wc))
       case first => as_aux_lemma =>
        have H := Qd.out
        clear Qd
        by_cases Wb : Mb = 0
        rotate_left
        ·rw [if_neg Wb] at H
         have Lb : (Mb == 0) = false := beq_eq_false_iff_ne.mpr Wb
         have id : (Mb != 0) = true := bne_iff_ne.mpr Wb
         (first | rw [Lb] | (simp only [i64_w, i32_w]; rw [Lb]) | skip)
         have H' := aM_ H
         clear H
         go_wp2
         go_meet
         case rel => exact ⟨_, (true), rS_, H', ⟨by have := Ob.out; have := Ib.out; have := Hc.out; first | omega | exact Nat.le_refl _⟩, ⟨by refine bk_ ?_; exact Kd.R_mono (rF_ (rF_ (Kd.R_types da.out qa.out (by decide)))) (fun _ hk => ⟨hk.1.2.1, ⟨hk.1.1, hk.1.2.2⟩⟩)⟩, ⟨by refine bk_ ?_; exact Kd.R_mono (rF_ (rF_ (Kd.R_types fa.out qa.out (by decide)))) (fun _ hk => ⟨hk.1.2.1, ⟨hk.1.1, hk.1.2.2⟩⟩)⟩, ⟨by refine bk_ ?_; exact Kd.R_mono (rF_ (rF_ (Kd.R_types jb.out qa.out (by decide)))) (fun _ hk => ⟨hk.1.1, ⟨hk.1.2.1, hk.1.2.2⟩⟩)⟩, ⟨by exact far_ za.out ba.out⟩, ⟨by exact far_ Va.out ea.out⟩, ⟨by exact far_ Wa.out ha.out⟩, ⟨by exact puts_ qa.out⟩, ⟨hB_⟩⟩
        rw [if_pos Wb] at H
        have Lb : (Mb == 0) = true := beq_iff_eq.mpr Wb
        have id : (Mb != 0) = false := bne_eq_false_iff_eq.mpr Wb
        clear Wb
        (first | rw [Lb] | (simp only [i64_w, i32_w]; rw [Lb]) | skip)
        replace H := Option.bind_eq_some_iff.mp H
        obtain ⟨Bb, Bf, H⟩ := H
        replace H : (if Bb = 0 then (kerbsuitelaw12_DatabaseKeeps.j3 sb a2 (Int.tmod (wrap64 (a2)) (aa.length : Int)) ((ma.length : Int) != (aa.length : Int)) oa aa gb ma) else (kerbsuitelaw12_DatabaseKeeps.j3 sb a2 (Int.tmod (wrap64 (a2)) (aa.length : Int)) true oa aa gb ma)) = some r := H
        have yj := aM_ Bf
        clear Bf
        by_cases Xb : Bb = 0
        ·rw [if_pos Xb] at H
         have jd : (Bb == 0) = true := beq_iff_eq.mpr Xb
         have kd : (Bb != 0) = false := bne_eq_false_iff_eq.mpr Xb
         clear Xb
         have H' := aM_ H
         clear H
         have Hl := ab.out
         have Il := za.out
         have Jl := lb.out
         have Kl := Va.out
         have Ll := mb.out
         have Ml := Wa.out
         obtain ⟨Mc, Nc⟩ := kC2_ qa.out
         obtain ⟨Oc, Pc⟩ := kZ2_ qa.out
         go_wp2_with (first | (go_at_call 10; (with_reducible refine (database_Check.calls sb gb _ _ ma Bb _ ?side1 ?side2 yj.out).mono ?_); (case side1 => refine (Kd.R_reads' (e := 35) (base := w.heap.size) (ok := fun k_ => (some k_ ≠ (.slice Pa aa.length Ia : Value).ownBlock ∧ (some k_ ≠ (.slice Sa ia.length Qa : Value).ownBlock ∧ k_ ≠ ka))) (n := ma.length) (c := qb) ?_).2.2; exact (by refine bk_ ?_; exact (Kd.R_mono (rF_ (rF_ (Kd.R_types jb.out qa.out (by decide)))) (fun _ h_ => h_.1)))); (case side2 => exact (Kd.R_reads' jb.out).2.1); rintro e En ⟨rfl, hb⟩; replace da := aM_ (Kd.R_below (by refine bk_ ?_; exact (Kd.R_mono (rF_ (rF_ (Kd.R_types da.out qa.out (by decide)))) (fun _ h_ => h_.1))) hb); replace fa := aM_ (Kd.R_below (by refine bk_ ?_; exact (Kd.R_mono (rF_ (rF_ (Kd.R_types fa.out qa.out (by decide)))) (fun _ h_ => h_.1))) hb); replace jb := aM_ (Kd.R_below (by refine bk_ ?_; exact (Kd.R_mono (rF_ (rF_ (Kd.R_types jb.out qa.out (by decide)))) (fun _ h_ => h_.1))) hb); replace ba := aM_ (blk_below (far_ za.out ba.out) hb); replace ea := aM_ (blk_below (far_ Va.out ea.out) hb); replace ha := aM_ (blk_below (far_ Wa.out ha.out) hb); replace qa := aM_ (blk_below (g := Ma) (o := .cells #[.string gb, .slice Ab ma.length qb] 24 (0, 0)) (by exact puts_ qa.out) hb); replace HB := aM_ (below_step hB_ hb); clear hb; obtain ⟨Qc, Rc⟩ := kC2_ qa.out; obtain ⟨Sc, Tc⟩ := kZ2_ qa.out; have Nl := eb.out; have Ol := ub.out; have Pl := fb.out; have Ql := kb.out; obtain ⟨Uc, Vc⟩ := kC2_ ba.out; obtain ⟨Wc, Xc⟩ := kZ2_ ba.out))
         go_meet
         case rel => exact ⟨_, (((ma.length : Int) != (aa.length : Int))), rS_, H', ⟨by have := Ob.out; have := Ib.out; have := Hc.out; first | omega | exact Nat.le_refl _⟩, ⟨by refine bk_ ?_; exact Kd.R_mono da.out (fun _ hk => ⟨hk.2.1, ⟨hk.1, hk.2.2⟩⟩)⟩, ⟨by refine bk_ ?_; exact Kd.R_mono fa.out (fun _ hk => ⟨hk.2.1, ⟨hk.1, hk.2.2⟩⟩)⟩, ⟨by refine bk_ ?_; exact jb.out⟩, ⟨by refine bk_ ?_; exact ba.out⟩, ⟨by refine bk_ ?_; exact ea.out⟩, ⟨by refine bk_ ?_; exact ha.out⟩, ⟨by refine bk_ ?_; exact qa.out⟩, ⟨hB_⟩⟩
        rw [if_neg Xb] at H
        have jd : (Bb == 0) = false := beq_eq_false_iff_ne.mpr Xb
        have kd : (Bb != 0) = true := bne_iff_ne.mpr Xb
        have H' := aM_ H
        clear H
        have Rl := ab.out
        have Sl := za.out
        have Tl := lb.out
        have Ul := Va.out
        have Vl := mb.out
        have Wl := Wa.out
        obtain ⟨Yc, Zc⟩ := kC2_ qa.out
        obtain ⟨ad, bd⟩ := kZ2_ qa.out
        go_wp2_with (first | (go_at_call 10; (with_reducible refine (database_Check.calls sb gb _ _ ma Bb _ ?side1 ?side2 yj.out).mono ?_); (case side1 => refine (Kd.R_reads' (e := 35) (base := w.heap.size) (ok := fun k_ => (some k_ ≠ (.slice Pa aa.length Ia : Value).ownBlock ∧ (some k_ ≠ (.slice Sa ia.length Qa : Value).ownBlock ∧ k_ ≠ ka))) (n := ma.length) (c := qb) ?_).2.2; exact (by refine bk_ ?_; exact (Kd.R_mono (rF_ (rF_ (Kd.R_types jb.out qa.out (by decide)))) (fun _ h_ => h_.1)))); (case side2 => exact (Kd.R_reads' jb.out).2.1); rintro e Fn ⟨rfl, hb⟩; replace da := aM_ (Kd.R_below (by refine bk_ ?_; exact (Kd.R_mono (rF_ (rF_ (Kd.R_types da.out qa.out (by decide)))) (fun _ h_ => h_.1))) hb); replace fa := aM_ (Kd.R_below (by refine bk_ ?_; exact (Kd.R_mono (rF_ (rF_ (Kd.R_types fa.out qa.out (by decide)))) (fun _ h_ => h_.1))) hb); replace jb := aM_ (Kd.R_below (by refine bk_ ?_; exact (Kd.R_mono (rF_ (rF_ (Kd.R_types jb.out qa.out (by decide)))) (fun _ h_ => h_.1))) hb); replace ba := aM_ (blk_below (far_ za.out ba.out) hb); replace ea := aM_ (blk_below (far_ Va.out ea.out) hb); replace ha := aM_ (blk_below (far_ Wa.out ha.out) hb); replace qa := aM_ (blk_below (g := Ma) (o := .cells #[.string gb, .slice Ab ma.length qb] 24 (0, 0)) (by exact puts_ qa.out) hb); replace HB := aM_ (below_step hB_ hb); clear hb))
        go_meet
        case rel => exact ⟨_, (true), rS_, H', ⟨by have := Ob.out; have := Ib.out; have := Hc.out; first | omega | exact Nat.le_refl _⟩, ⟨by refine bk_ ?_; exact Kd.R_mono da.out (fun _ hk => ⟨hk.2.1, ⟨hk.1, hk.2.2⟩⟩)⟩, ⟨by refine bk_ ?_; exact Kd.R_mono fa.out (fun _ hk => ⟨hk.2.1, ⟨hk.1, hk.2.2⟩⟩)⟩, ⟨by refine bk_ ?_; exact jb.out⟩, ⟨by refine bk_ ?_; exact ba.out⟩, ⟨by refine bk_ ?_; exact ea.out⟩, ⟨by refine bk_ ?_; exact ha.out⟩, ⟨by refine bk_ ?_; exact qa.out⟩, ⟨hB_⟩⟩
       case rest =>
        clear Qd
        try clear c1
        try clear c2
        try clear p2
        try clear p6
        try clear c9
        try clear Jk
        try clear Kk
        try clear Lk
        try clear Mk
        try clear Nk
        try clear be
        try clear vc
        try clear zd
        try clear Ad
        try clear Pd
        try clear zj
        try clear Aj
        try clear Wb
        try clear Lb
        try clear id
        try clear Xb
        try clear jd
        try clear kd
        try clear Bj
        try clear Cj
        try clear Dj
        try clear Ej
        try clear Fj
        try clear Gj
        try clear Hj
        try clear Ij
        try clear Ic
        try clear Jc
        try clear Mc
        try clear Nc
        try clear Qc
        try clear Rc
        try clear Uc
        try clear Vc
        try clear Yc
        try clear Zc
        try clear Kc
        try clear Lc
        try clear Oc
        try clear Pc
        try clear Sc
        try clear Tc
        try clear Wc
        try clear Xc
        try clear ad
        try clear bd
        obtain ⟨kq, tc, rfl, HA, Bd, da, fa, Na, ba, ea, ha, qa, HB⟩ := hcut
        cases kq with
        | zero => exact absurd HA.out (by simp [kerbsuitelaw12_DatabaseKeeps.j3])
        | succ Rd =>
         have H := HA.out
         clear HA
         simp only [kerbsuitelaw12_DatabaseKeeps.j3] at H
         by_cases od : tc = true
         ·subst od
          have H1 : (some false) = some r := by rw [if_pos rfl] at H; exact H
          clear H
          have H := H1
          clear H1
          obtain rfl := Option.some.inj H
          go_wp2
          go_ret
          exact ⟨eW_, hB_⟩
         replace od := Bool.eq_false_iff.mpr od
         subst od
         have H1 : (kerbsuitelaw12_DatabaseKeeps.l0 Rd a2 (Int.tmod (wrap64 (a2)) (aa.length : Int)) 0 oa aa gb ma) = some r := by rw [if_neg (show ¬ (false = true) by decide)] at H; exact H
         clear H
         have H := H1
         clear H1
         have H' := aM_ H
         clear H
         go_wp2
         go_loopg [18] Rd (fun kq Xl w' => ∃ (ca : Int), Xl = .int .i64 ca ∧ Aside0 (kerbsuitelaw12_DatabaseKeeps.l0 kq a2 (Int.tmod (wrap64 (a2)) (aa.length : Int)) ca oa aa gb ma = some r) ∧ Aside0 (kq ≤ Rd) ∧ Aside0 (Kd.R k35 35 w' w.heap.size (fun k_ => some k_ ≠ ((.slice Sa ia.length Qa) : Value).ownBlock ∧ some k_ ≠ ((.slice Ab ma.length qb) : Value).ownBlock ∧ k_ ≠ ka) (.slice Pa aa.length Ia) aa) ∧ Aside0 (Kd.R k35 35 w' w.heap.size (fun k_ => some k_ ≠ ((.slice Pa aa.length Ia) : Value).ownBlock ∧ some k_ ≠ ((.slice Ab ma.length qb) : Value).ownBlock ∧ k_ ≠ ka) (.slice Sa ia.length Qa) ia) ∧ Aside0 (Kd.R k35 35 w' w.heap.size (fun k_ => some k_ ≠ ((.slice Pa aa.length Ia) : Value).ownBlock ∧ some k_ ≠ ((.slice Sa ia.length Qa) : Value).ownBlock ∧ k_ ≠ ka) (.slice Ab ma.length qb) ma) ∧ Aside0 (w'.heap[bb]? = some (.cells #[.string oa, (.slice Pa aa.length Ia)] 24 (0, 0))) ∧ Aside0 (w'.heap[ka]? = some (.cells #[.string ta, .string ua, .int .u64 Ba, .int .i64 Ca, .int .i64 Da, .int .i64 Ea, .int .i64 Fa, .int .i64 Ga, .int .i64 Ha] 35 (0, 0))) ∧ Aside0 (w'.heap[Ua]? = some (.cells #[.string Xa, (.slice Sa ia.length Qa)] 24 (0, 0))) ∧ Aside0 (w'.heap[Ma]? = some (.cells #[.string gb, (.slice Ab ma.length qb)] 24 (0, 0))) ∧ Aside0 (Below w.heap.size w w'))
         case atStart => exact ⟨(0), rS_, H', ⟨Nat.le_refl _⟩, ⟨by refine bk_ ?_; exact da.out⟩, ⟨by refine bk_ ?_; exact fa.out⟩, ⟨by refine bk_ ?_; exact Na.out⟩, ⟨by refine bk_ ?_; exact ba.out⟩, ⟨by refine bk_ ?_; exact ea.out⟩, ⟨by refine bk_ ?_; exact ha.out⟩, ⟨by refine bk_ ?_; exact qa.out⟩, ⟨hB_⟩⟩
         case round =>
          clear H'
          try clear c1
          try clear c2
          try clear p2
          try clear p6
          try clear c9
          try clear Jk
          try clear Kk
          try clear Lk
          try clear Mk
          try clear Nk
          try clear be
          try clear vc
          try clear zd
          try clear Ad
          try clear Pd
          try clear zj
          try clear Aj
          try clear Wb
          try clear Lb
          try clear id
          try clear Xb
          try clear jd
          try clear kd
          try clear Bj
          try clear Cj
          try clear Dj
          try clear Ej
          try clear Fj
          try clear Gj
          try clear Hj
          try clear Ij
          try clear od
          try clear Ic
          try clear Jc
          try clear Mc
          try clear Nc
          try clear Qc
          try clear Rc
          try clear Uc
          try clear Vc
          try clear Yc
          try clear Zc
          try clear Kc
          try clear Lc
          try clear Oc
          try clear Pc
          try clear Sc
          try clear Tc
          try clear Wc
          try clear Xc
          try clear ad
          try clear bd
          try clear p2
          try clear p6
          try clear be
          obtain ⟨ca, rfl, HA, Cf, da, fa, Na, ba, ea, ha, qa, HB⟩ := hrel
          cases gk with
          | zero => exact absurd HA.out (by simp [kerbsuitelaw12_DatabaseKeeps.l0])
          | succ k5 =>
           have H := HA.out
           clear HA
           simp only [kerbsuitelaw12_DatabaseKeeps.l0] at H
           by_cases cd : ca < (aa.length : Int)
           rotate_left
           ·rw [if_neg cd] at H
            have ee : decide (ca < (aa.length : Int)) = false := decide_eq_false cd
            clear cd
            obtain rfl := Option.some.inj H
            have Yl := eb.out
            have Zl := ub.out
            have am := fb.out
            have bm := kb.out
            have cm := za.out
            have dm := ab.out
            obtain ⟨dl, el⟩ := kC2_ ba.out
            obtain ⟨fl, gl⟩ := kZ2_ ba.out
            go_wp2
            go_ret
            exact ⟨eW_, hB_⟩
           rw [if_pos cd] at H
           have ee : decide (ca < (aa.length : Int)) = true := decide_eq_true cd
           clear cd
           by_cases Hd : 0 ≤ ca
           rotate_left
           ·rw [if_neg Hd] at H
            exact absurd H (by simp)
           rw [if_pos Hd] at H
           have Jj : decide (0 ≤ ca) = true := decide_eq_true Hd
           clear Hd
           have Sd := aM_ H
           clear H
           have em := eb.out
           have fm := ub.out
           have gm := fb.out
           have hm := kb.out
           have im := za.out
           have jm := ab.out
           obtain ⟨we, xe⟩ := kC2_ ba.out
           obtain ⟨ye, ze⟩ := kZ2_ ba.out
           have Td : 0 ≤ (ca : Int) := dT_
           have Ud : ca < (aa.length : Int) := dT_
           obtain ⟨Cd, hl, Ri, Si, Ti, Ui, Vi, Wi, Xi, Yi, Zi⟩ := at_T35 (Kd.R_reads' da.out).2.2 ca Td Ud
           cases hl
           replace Td := eq_true Td
           replace Ud := eq_true Ud
           go_upto_if 166 with (first | ((with_reducible refine gate_dst (N := 19) rfl ?_); (try (refine gate_guard (by rfl) ?_; dsimp only)); refine bE_ 19 35 #[.string (⟨#[]⟩ : ByteArray), .string (⟨#[]⟩ : ByteArray), .int .u64 0, .int .i64 0, .int .i64 0, .int .i64 0, .int .i64 0, .int .i64 0, .int .i64 0] ?_; intro Ka hg Gn hbox hb; replace da := aM_ (Kd.R_below (Kd.R_elderB (bk_ da.out) Ka (Nat.le_of_eq hg.symm)) hb); replace fa := aM_ (Kd.R_below (Kd.R_elderB (bk_ fa.out) Ka (Nat.le_of_eq hg.symm)) hb); replace Na := aM_ (Kd.R_below (Kd.R_elderB (bk_ Na.out) Ka (Nat.le_of_eq hg.symm)) hb); have La := aM_ (hbox); have vn := aM_ (gB_ hg HB.out); have wn := aM_ (gB_ hg HB.out); replace HB := aM_ (below_step hB_ hb); have Rb := aM_ (nL_ hg ba.out); have ud := aM_ (nG_ hg ba.out); replace ba := aM_ (kG_ ba.out hb); have Sb := aM_ (nL_ hg ea.out); have vd := aM_ (nG_ hg ea.out); replace ea := aM_ (kG_ ea.out hb); have Tb := aM_ (nL_ hg ha.out); have wd := aM_ (nG_ hg ha.out); replace ha := aM_ (kG_ ha.out hb); have Ub := aM_ (nL_ hg qa.out); have xd := aM_ (nG_ hg qa.out); replace qa := aM_ (kG_ qa.out hb); clear hb hbox hg; have km := ud.out; have lm := Rb.out; have mm := vd.out; have nm := Sb.out; have om := wd.out; have pm := Tb.out; have qm := xd.out; have rm := Ub.out; obtain ⟨Ae, Be, Ce, De, Ee, Fe, Ge, He, Ie⟩ := kC9_ La.out; obtain ⟨Je, Ke, Le, Me, Ne, Oe, Pe, Qe, Re⟩ := kZ9_ La.out))
           (try simp only [Act.put, sA_, sB_, sC_])
           go_cut [] (fun wc => ∃ (kq : Nat) (nb : Int) (ob : Int), Aside0 (kerbsuitelaw12_DatabaseKeeps.j5 kq a2 (Int.tmod (wrap64 (a2)) (aa.length : Int)) ca oa aa gb ma ((rd_T35 aa ca).f0) ((rd_T35 aa ca).f1) nb ob ((rd_T35 aa ca).f4) ((rd_T35 aa ca).f5) ((rd_T35 aa ca).f6) ((rd_T35 aa ca).f7) ((rd_T35 aa ca).f8) = some r) ∧ Aside0 (kq ≤ k5) ∧ Aside0 (Kd.R k35 35 wc w.heap.size (fun k_ => some k_ ≠ ((.slice Sa ia.length Qa) : Value).ownBlock ∧ some k_ ≠ ((.slice Ab ma.length qb) : Value).ownBlock ∧ k_ ≠ ka ∧ k_ ≠ Ka) (.slice (some Cd) aa.length Ia) aa) ∧ Aside0 (Kd.R k35 35 wc w.heap.size (fun k_ => some k_ ≠ ((.slice (some Cd) aa.length Ia) : Value).ownBlock ∧ some k_ ≠ ((.slice Ab ma.length qb) : Value).ownBlock ∧ k_ ≠ ka ∧ k_ ≠ Ka) (.slice Sa ia.length Qa) ia) ∧ Aside0 (Kd.R k35 35 wc w.heap.size (fun k_ => some k_ ≠ ((.slice (some Cd) aa.length Ia) : Value).ownBlock ∧ some k_ ≠ ((.slice Sa ia.length Qa) : Value).ownBlock ∧ k_ ≠ ka ∧ k_ ≠ Ka) (.slice Ab ma.length qb) ma) ∧ Aside0 (wc.heap[bb]? = some (.cells #[.string oa, (.slice (some Cd) aa.length Ia)] 24 (0, 0))) ∧ Aside0 (wc.heap[ka]? = some (.cells #[.string ta, .string ua, .int .u64 Ba, .int .i64 Ca, .int .i64 Da, .int .i64 Ea, .int .i64 Fa, .int .i64 Ga, .int .i64 Ha] 35 (0, 0))) ∧ Aside0 (wc.heap[Ua]? = some (.cells #[.string Xa, (.slice Sa ia.length Qa)] 24 (0, 0))) ∧ Aside0 (wc.heap[Ma]? = some (.cells #[.string gb, (.slice Ab ma.length qb)] 24 (0, 0))) ∧ Aside0 (wc.heap[Ka]? = some (.cells #[.string ((rd_T35 aa ca).f0), .string ((rd_T35 aa ca).f1), .int .u64 nb, .int .i64 ob, .int .i64 ((rd_T35 aa ca).f4), .int .i64 ((rd_T35 aa ca).f5), .int .i64 ((rd_T35 aa ca).f6), .int .i64 ((rd_T35 aa ca).f7), .int .i64 ((rd_T35 aa ca).f8)] 35 (0, 0))) ∧ Aside0 (Below w.heap.size w wc))
           case first => as_aux_lemma =>
            have H := Sd.out
            clear Sd
            by_cases xc : ca = (Int.tmod (wrap64 (a2)) (aa.length : Int))
            ·rw [if_pos xc] at H
             have ic : (ca == (Int.tmod (wrap64 (a2)) (aa.length : Int))) = true := beq_iff_eq.mpr xc
             have fe : (ca != (Int.tmod (wrap64 (a2)) (aa.length : Int))) = false := bne_eq_false_iff_eq.mpr xc
             clear xc
             (first | rw [ic] | (simp only [i64_w, i32_w]; rw [ic]) | skip)
             replace H := Option.bind_eq_some_iff.mp H
             obtain ⟨Ed, Df, H⟩ := H
             replace H : (kerbsuitelaw12_DatabaseKeeps.j5 k5 a2 (Int.tmod (wrap64 (a2)) (aa.length : Int)) ca oa aa gb ma ((rd_T35 aa ca).f0) ((rd_T35 aa ca).f1) Ed (wrap64 ((Int.tmod ((rd_T35 aa ca).f3) 255) + 1)) ((rd_T35 aa ca).f4) ((rd_T35 aa ca).f5) ((rd_T35 aa ca).f6) ((rd_T35 aa ca).f7) ((rd_T35 aa ca).f8)) = some r := H
             have il := aM_ Df
             clear Df
             have H' := aM_ H
             clear H
             refine hideC_ fun W1_ hW1_ => ?_
             have laW : W1_.heap[Ka]? = some (.cells #[.string ((rd_T35 aa ca).f0), .string ((rd_T35 aa ca).f1), .int .u64 ((rd_T35 aa ca).f2), .int .i64 ((rd_T35 aa ca).f3), .int .i64 ((rd_T35 aa ca).f4), .int .i64 ((rd_T35 aa ca).f5), .int .i64 ((rd_T35 aa ca).f6), .int .i64 ((rd_T35 aa ca).f7), .int .i64 ((rd_T35 aa ca).f8)] 35 (0, 0)) := by rw [hW1_.out]; exact puts_ La.out
             obtain ⟨lw0_, lw1_, lw2_, lw3_, lw4_, lw5_, lw6_, lw7_, lw8_⟩ := kC9_ laW
             obtain ⟨lz0_, lz1_, lz2_, lz3_, lz4_, lz5_, lz6_, lz7_, lz8_⟩ := kZ9_ laW
             clear laW
             go_wp2_with (first | ((with_reducible refine gate_callee (f := 13) rfl ?_); refine gC_ (some 169) 13 #[.int .i64 (wrap64 (a2))] Tryd.func13 ?_; (with_reducible refine (kerbsuitedata_Long.calls (wrap64 (a2)) Ed _ il.out).mono ?_); rintro e w' ⟨rfl, ⟨nd, rfl⟩⟩; refine ⟨_, rfl, ?_⟩; have sm := ud.out; have tm := Rb.out; have um := vd.out; have vm := Sb.out; have wm := wd.out; have xm := Tb.out; have ym := xd.out; have zm := Ub.out; obtain ⟨Se, Te, Ue, Ve, We, Xe, Ye, Ze, af⟩ := kC9_ La.out; obtain ⟨bf, cf, df, ef, ff, gf, hf, jf, kf⟩ := kZ9_ La.out))
             obtain ⟨hW1_⟩ := hW1_
             subst hW1_
             go_meet
             case rel => exact ⟨_, (Ed), (wrap64 ((Int.tmod ((rd_T35 aa ca).f3) 255) + 1)), H', ⟨by have := Ob.out; have := Ib.out; have := Hc.out; have := Bd.out; have := Cf.out; first | omega | exact Nat.le_refl _⟩, ⟨by refine bk_ ?_; exact Kd.R_mono (rF_ (rF_ (Kd.R_drewN (rF_ (rF_ (rF_ (rF_ (rF_ (rF_ (rF_ (rF_ (rF_ (Kd.R_mono da.out (fun k_ hk => (⟨hk, hk.2⟩ : _ ∧ k_ ≠ Ka)))))))))))) _))) (fun _ hk => ⟨hk.1.1.1, ⟨hk.1.1.2.1, ⟨hk.1.1.2.2, hk.1.2⟩⟩⟩)⟩, ⟨by refine bk_ ?_; exact Kd.R_mono (rF_ (rF_ (Kd.R_drewN (rF_ (rF_ (rF_ (rF_ (rF_ (rF_ (rF_ (rF_ (rF_ (Kd.R_mono fa.out (fun k_ hk => (⟨hk, hk.2⟩ : _ ∧ k_ ≠ Ka)))))))))))) _))) (fun _ hk => ⟨hk.1.1.1, ⟨hk.1.1.2.1, ⟨hk.1.1.2.2, hk.1.2⟩⟩⟩)⟩, ⟨by refine bk_ ?_; exact Kd.R_mono (rF_ (rF_ (Kd.R_drewN (rF_ (rF_ (rF_ (rF_ (rF_ (rF_ (rF_ (rF_ (rF_ (Kd.R_mono Na.out (fun k_ hk => (⟨hk, hk.2⟩ : _ ∧ k_ ≠ Ka)))))))))))) _))) (fun _ hk => ⟨hk.1.1.1, ⟨hk.1.1.2.1, ⟨hk.1.1.2.2, hk.1.2⟩⟩⟩)⟩, ⟨by exact far_ Rb.out ba.out⟩, ⟨by exact far_ Sb.out ea.out⟩, ⟨by exact far_ Tb.out ha.out⟩, ⟨by exact far_ Ub.out qa.out⟩, ⟨by exact puts_ La.out⟩, ⟨hB_⟩⟩
            rw [if_neg xc] at H
            have ic : (ca == (Int.tmod (wrap64 (a2)) (aa.length : Int))) = false := beq_eq_false_iff_ne.mpr xc
            have fe : (ca != (Int.tmod (wrap64 (a2)) (aa.length : Int))) = true := bne_iff_ne.mpr xc
            (first | rw [ic] | (simp only [i64_w, i32_w]; rw [ic]) | skip)
            have H' := aM_ H
            clear H
            go_wp2
            go_meet
            case rel => exact ⟨_, ((rd_T35 aa ca).f2), ((rd_T35 aa ca).f3), H', ⟨by have := Ob.out; have := Ib.out; have := Hc.out; have := Bd.out; have := Cf.out; first | omega | exact Nat.le_refl _⟩, ⟨by refine bk_ ?_; exact Kd.R_mono (rF_ (rF_ (rF_ (rF_ (rF_ (rF_ (rF_ (rF_ (rF_ (Kd.R_mono da.out (fun k_ hk => (⟨hk, hk.2⟩ : _ ∧ k_ ≠ Ka)))))))))))) (fun _ hk => ⟨hk.1.1.1, ⟨hk.1.1.2.1, ⟨hk.1.1.2.2, hk.1.2⟩⟩⟩)⟩, ⟨by refine bk_ ?_; exact Kd.R_mono (rF_ (rF_ (rF_ (rF_ (rF_ (rF_ (rF_ (rF_ (rF_ (Kd.R_mono fa.out (fun k_ hk => (⟨hk, hk.2⟩ : _ ∧ k_ ≠ Ka)))))))))))) (fun _ hk => ⟨hk.1.1.1, ⟨hk.1.1.2.1, ⟨hk.1.1.2.2, hk.1.2⟩⟩⟩)⟩, ⟨by refine bk_ ?_; exact Kd.R_mono (rF_ (rF_ (rF_ (rF_ (rF_ (rF_ (rF_ (rF_ (rF_ (Kd.R_mono Na.out (fun k_ hk => (⟨hk, hk.2⟩ : _ ∧ k_ ≠ Ka)))))))))))) (fun _ hk => ⟨hk.1.1.1, ⟨hk.1.1.2.1, ⟨hk.1.1.2.2, hk.1.2⟩⟩⟩)⟩, ⟨by exact far_ Rb.out ba.out⟩, ⟨by exact far_ Sb.out ea.out⟩, ⟨by exact far_ Tb.out ha.out⟩, ⟨by exact far_ Ub.out qa.out⟩, ⟨by exact puts_ La.out⟩, ⟨hB_⟩⟩
           case rest =>
            clear Sd
            try clear c1
            try clear c2
            try clear p2
            try clear p3
            try clear q3
            try clear Ro
            try clear p6
            try clear c9
            try clear Jk
            try clear Kk
            try clear Lk
            try clear Mk
            try clear fd
            try clear So
            try clear Nk
            try clear To
            try clear Uo
            try clear Hn
            try clear be
            try clear vc
            try clear zd
            try clear Ad
            try clear Pd
            try clear zj
            try clear Aj
            try clear Wb
            try clear Lb
            try clear id
            try clear Xb
            try clear jd
            try clear kd
            try clear Bj
            try clear Cj
            try clear Dj
            try clear Ej
            try clear Fj
            try clear Gj
            try clear Hj
            try clear Ij
            try clear od
            try clear cd
            try clear ee
            try clear Hd
            try clear Jj
            try clear In
            try clear Jn
            try clear Kn
            try clear Ln
            try clear Mn
            try clear Nn
            try clear On
            try clear xc
            try clear ic
            try clear fe
            try clear Pn
            try clear Qn
            try clear Rn
            try clear Sn
            try clear Ic
            try clear Jc
            try clear Mc
            try clear Nc
            try clear Qc
            try clear Rc
            try clear Uc
            try clear Vc
            try clear Yc
            try clear Zc
            try clear we
            try clear xe
            try clear Ae
            try clear Be
            try clear Ce
            try clear De
            try clear Ee
            try clear Fe
            try clear Ge
            try clear He
            try clear Ie
            try clear Se
            try clear Te
            try clear Ue
            try clear Ve
            try clear We
            try clear Xe
            try clear Ye
            try clear Ze
            try clear af
            try clear Kc
            try clear Lc
            try clear Oc
            try clear Pc
            try clear Sc
            try clear Tc
            try clear Wc
            try clear Xc
            try clear ad
            try clear bd
            try clear ye
            try clear ze
            try clear Je
            try clear Ke
            try clear Le
            try clear Me
            try clear Ne
            try clear Oe
            try clear Pe
            try clear Qe
            try clear Re
            try clear bf
            try clear cf
            try clear df
            try clear ef
            try clear ff
            try clear gf
            try clear hf
            try clear jf
            try clear kf
            try clear Ri
            try clear Si
            try clear Ti
            try clear Ui
            try clear Vi
            try clear Wi
            try clear Xi
            try clear Yi
            try clear Zi
            try clear p2
            try clear Td
            try clear p6
            try clear be
            try clear Ud
            obtain ⟨kq, nb, ob, HA, Ef, da, fa, Na, ba, ea, ha, qa, La, HB⟩ := hcut
            cases kq with
            | zero => exact absurd HA.out (by simp [kerbsuitelaw12_DatabaseKeeps.j5])
            | succ ek =>
             have H := HA.out
             clear HA
             simp only [kerbsuitelaw12_DatabaseKeeps.j5] at H
             by_cases Vd : 0 ≤ ca
             rotate_left
             ·rw [if_neg Vd] at H
              exact absurd H (by simp)
             rw [if_pos Vd] at H
             have Am : decide (0 ≤ ca) = true := decide_eq_true Vd
             clear Vd
             by_cases Wd : ca < (ma.length : Int)
             rotate_left
             ·rw [if_neg Wd] at H
              exact absurd H (by simp)
             rw [if_pos Wd] at H
             have Bm : decide (ca < (ma.length : Int)) = true := decide_eq_true Wd
             clear Wd
             by_cases pd : (!((((rd_T35 ma ca).f0).toList) == ((rd_T35 aa ca).f0).toList) || (!((((rd_T35 ma ca).f1).toList) == ((rd_T35 aa ca).f1).toList) || (!(((rd_T35 ma ca).f2) == nb) || (!(((rd_T35 ma ca).f3) == ob) || (!(((rd_T35 ma ca).f4) == ((rd_T35 aa ca).f4)) || (!(((rd_T35 ma ca).f5) == ((rd_T35 aa ca).f5)) || (!(((rd_T35 ma ca).f6) == ((rd_T35 aa ca).f6)) || (!(((rd_T35 ma ca).f7) == ((rd_T35 aa ca).f7)) || (!(((rd_T35 ma ca).f8) == ((rd_T35 aa ca).f8))))))))))) = true
             ·rw [if_pos pd] at H
              have Kj : (!((((rd_T35 ma ca).f0).toList) == ((rd_T35 aa ca).f0).toList) || (!((((rd_T35 ma ca).f1).toList) == ((rd_T35 aa ca).f1).toList) || (!(((rd_T35 ma ca).f2) == nb) || (!(((rd_T35 ma ca).f3) == ob) || (!(((rd_T35 ma ca).f4) == ((rd_T35 aa ca).f4)) || (!(((rd_T35 ma ca).f5) == ((rd_T35 aa ca).f5)) || (!(((rd_T35 ma ca).f6) == ((rd_T35 aa ca).f6)) || (!(((rd_T35 ma ca).f7) == ((rd_T35 aa ca).f7)) || (!(((rd_T35 ma ca).f8) == ((rd_T35 aa ca).f8))))))))))) = true := pd
              clear pd
              obtain rfl := Option.some.inj H
              try go_wp2
              replace da := aM_ (Kd.R_drew da.out)
              replace fa := aM_ (Kd.R_drew fa.out)
              replace Na := aM_ (Kd.R_drew Na.out)
              replace ba := aM_ (blk_drew ba.out)
              replace ea := aM_ (blk_drew ea.out)
              replace ha := aM_ (blk_drew ha.out)
              replace qa := aM_ (blk_drew qa.out)
              replace La := aM_ (blk_drew La.out)
              replace HB := aM_ (bD_ HB.out)
              have dd : 0 ≤ (ca : Int) := dT_
              have ed : ca < (ma.length : Int) := dT_
              obtain ⟨xa, lf, jc, kc, lc, mc, nc, oc, pc, qc, rc⟩ := at_T35 (Kd.R_reads' Na.out).2.2 ca dd ed
              cases lf
              replace dd := eq_true dd
              replace ed := eq_true ed
              refine start_ (n := 7) (S := fun w' => w'.cell? ⟨Ma, 0, none⟩ = some (.string gb) ∧ w'.cell? ⟨Ma, 1, none⟩ = some (.slice (some xa) ma.length qb) ∧ w'.cell? ⟨Ka, 0, none⟩ = some (.string ((rd_T35 aa ca).f0)) ∧ w'.cell? ⟨Ka, 1, none⟩ = some (.string ((rd_T35 aa ca).f1)) ∧ w'.cell? ⟨Ka, 2, none⟩ = some (.int .u64 nb) ∧ w'.cell? ⟨Ka, 3, none⟩ = some (.int .i64 ob) ∧ w'.cell? ⟨Ka, 4, none⟩ = some (.int .i64 ((rd_T35 aa ca).f4)) ∧ w'.cell? ⟨Ka, 5, none⟩ = some (.int .i64 ((rd_T35 aa ca).f5)) ∧ w'.cell? ⟨Ka, 6, none⟩ = some (.int .i64 ((rd_T35 aa ca).f6)) ∧ w'.cell? ⟨Ka, 7, none⟩ = some (.int .i64 ((rd_T35 aa ca).f7)) ∧ w'.cell? ⟨Ka, 8, none⟩ = some (.int .i64 ((rd_T35 aa ca).f8)) ∧ w'.cell? (xa.add ((ca).toNat * 9)) = some (.string ((rd_T35 ma ca).f0)) ∧ w'.cell? ⟨(xa.add ((ca).toNat * 9)).block, (xa.add ((ca).toNat * 9)).off + 1, none⟩ = some (.string ((rd_T35 ma ca).f1)) ∧ w'.cell? ⟨(xa.add ((ca).toNat * 9)).block, (xa.add ((ca).toNat * 9)).off + 2, none⟩ = some (.int .u64 ((rd_T35 ma ca).f2)) ∧ w'.cell? ⟨(xa.add ((ca).toNat * 9)).block, (xa.add ((ca).toNat * 9)).off + 3, none⟩ = some (.int .i64 ((rd_T35 ma ca).f3)) ∧ w'.cell? ⟨(xa.add ((ca).toNat * 9)).block, (xa.add ((ca).toNat * 9)).off + 4, none⟩ = some (.int .i64 ((rd_T35 ma ca).f4)) ∧ w'.cell? ⟨(xa.add ((ca).toNat * 9)).block, (xa.add ((ca).toNat * 9)).off + 5, none⟩ = some (.int .i64 ((rd_T35 ma ca).f5)) ∧ w'.cell? ⟨(xa.add ((ca).toNat * 9)).block, (xa.add ((ca).toNat * 9)).off + 6, none⟩ = some (.int .i64 ((rd_T35 ma ca).f6)) ∧ w'.cell? ⟨(xa.add ((ca).toNat * 9)).block, (xa.add ((ca).toNat * 9)).off + 7, none⟩ = some (.int .i64 ((rd_T35 ma ca).f7)) ∧ w'.cell? ⟨(xa.add ((ca).toNat * 9)).block, (xa.add ((ca).toNat * 9)).off + 8, none⟩ = some (.int .i64 ((rd_T35 ma ca).f8))) (ds := []) (bo_ 7 0) (by kernel_rfl) rfl rfl ⟨bc_ qa.out 0, bc_ qa.out 1, bc_ La.out 0, bc_ La.out 1, bc_ La.out 2, bc_ La.out 3, bc_ La.out 4, bc_ La.out 5, bc_ La.out 6, bc_ La.out 7, bc_ La.out 8, jc, kc, lc, mc, nc, oc, pc, qc, rc⟩ (fun hHeld => ?_)
              generalize wc.drew = Tn at da fa Na ba ea ha qa La HB jc kc lc mc nc oc pc qc rc hHeld ⊢
              refine pure_ (i := 0) (N := some 176) (v := ?_) (a' := ?_) (bo_ 7 1) rfl rfl (by kernel_rfl) (fun _ _ _ h => h) (Or.inl ⟨by rfl, ?_⟩) ?_ ?_
              rotate_left; (· intro w'; go_simp; with_reducible rfl)
              rotate_left; (· simp only [Act.put,sA_,sB_,sC_,i64_w,i32_w]; rfl)
              refine pure_ (i := 2) (N := some 178) (v := ?_) (a' := ?_) (bo_ 7 5) rfl rfl (by kernel_rfl) (fun _ _ _ h => h) (Or.inl ⟨by rfl, ?_⟩) ?_ ?_
              rotate_left; (· intro w'; go_simp; with_reducible rfl)
              rotate_left; (· simp only [Act.put,sA_,sB_,sC_,i64_w,i32_w]; rfl)
              refine take_ (i := 1) (N := some 177) (v := ?_) (a' := ?_) (bo_ 7 7) rfl rfl (by kernel_rfl) (fun _ _ _ h => h) (Or.inl ⟨by rfl, ?_⟩) hHeld ?_ ?_
              rotate_left; (· rintro w' ⟨s0, s1, s2, s3, s4, s5, s6, s7, s8, s9, he, ie, je, ke, le, me, ne, oe, pe, qe⟩; go_simp; with_reducible rfl)
              rotate_left; (· simp only [Act.put,sA_,sB_,sC_,i64_w,i32_w]; rfl)
              refine pure_ (i := 3) (N := some 179) (v := ?_) (a' := ?_) (bo_ 7 15) rfl rfl (by kernel_rfl) (fun _ _ _ h => h) (Or.inl ⟨by rfl, ?_⟩) ?_ ?_
              rotate_left; (· intro w'; go_simp; with_reducible rfl)
              rotate_left; (· simp only [Act.put,sA_,sB_,sC_,i64_w,i32_w]; rfl)
              refine take_ (i := 4) (N := some 180) (v := ?_) (a' := ?_) (bo_ 7 31) rfl rfl (by kernel_rfl) (fun _ _ _ h => h) (Or.inl ⟨by rfl, ?_⟩) hHeld ?_ ?_
              rotate_left; (· rintro w' ⟨s0, s1, s2, s3, s4, s5, s6, s7, s8, s9, he, ie, je, ke, le, me, ne, oe, pe, qe⟩; go_simp; with_reducible rfl)
              rotate_left; (· simp only [Act.put,sA_,sB_,sC_,i64_w,i32_w]; rfl)
              refine take_ (i := 5) (N := some 181) (v := ?_) (a' := ?_) (bo_ 7 63) rfl rfl (by kernel_rfl) (fun _ _ _ h => h) (Or.inl ⟨by rfl, ?_⟩) hHeld ?_ ?_
              rotate_left; (· rintro w' ⟨s0, s1, s2, s3, s4, s5, s6, s7, s8, s9, he, ie, je, ke, le, me, ne, oe, pe, qe⟩; go_simp; with_reducible rfl)
              rotate_left; (· simp only [Act.put,sA_,sB_,sC_,i64_w,i32_w]; rfl)
              refine pure_ (i := 6) (N := some 182) (v := ?_) (a' := ?_) (bo_ 7 127) rfl rfl (by kernel_rfl) (fun _ _ _ h => h) (Or.inl ⟨by rfl, ?_⟩) ?_ ?_
              rotate_left; (· intro w'; go_simp; with_reducible rfl)
              rotate_left; (· simp only [Act.put,sA_,sB_,sC_,i64_w,i32_w]; rfl)
              refine done_ (by kernel_rfl) ?_
              try go_wp2
              go_ret
              exact ⟨eW_, hB_⟩
             rw [if_neg pd] at H
             have Kj : (!((((rd_T35 ma ca).f0).toList) == ((rd_T35 aa ca).f0).toList) || (!((((rd_T35 ma ca).f1).toList) == ((rd_T35 aa ca).f1).toList) || (!(((rd_T35 ma ca).f2) == nb) || (!(((rd_T35 ma ca).f3) == ob) || (!(((rd_T35 ma ca).f4) == ((rd_T35 aa ca).f4)) || (!(((rd_T35 ma ca).f5) == ((rd_T35 aa ca).f5)) || (!(((rd_T35 ma ca).f6) == ((rd_T35 aa ca).f6)) || (!(((rd_T35 ma ca).f7) == ((rd_T35 aa ca).f7)) || (!(((rd_T35 ma ca).f8) == ((rd_T35 aa ca).f8))))))))))) = false := by simpa using pd
             clear pd
             have H' := aM_ H
             clear H
             try go_wp2
             replace da := aM_ (Kd.R_drew da.out)
             replace fa := aM_ (Kd.R_drew fa.out)
             replace Na := aM_ (Kd.R_drew Na.out)
             replace ba := aM_ (blk_drew ba.out)
             replace ea := aM_ (blk_drew ea.out)
             replace ha := aM_ (blk_drew ha.out)
             replace qa := aM_ (blk_drew qa.out)
             replace La := aM_ (blk_drew La.out)
             replace HB := aM_ (bD_ HB.out)
             have dd : 0 ≤ (ca : Int) := dT_
             have ed : ca < (ma.length : Int) := dT_
             obtain ⟨xa, lf, jc, kc, lc, mc, nc, oc, pc, qc, rc⟩ := at_T35 (Kd.R_reads' Na.out).2.2 ca dd ed
             cases lf
             replace dd := eq_true dd
             replace ed := eq_true ed
             refine start_ (n := 7) (S := fun w' => w'.cell? ⟨Ma, 0, none⟩ = some (.string gb) ∧ w'.cell? ⟨Ma, 1, none⟩ = some (.slice (some xa) ma.length qb) ∧ w'.cell? ⟨Ka, 0, none⟩ = some (.string ((rd_T35 aa ca).f0)) ∧ w'.cell? ⟨Ka, 1, none⟩ = some (.string ((rd_T35 aa ca).f1)) ∧ w'.cell? ⟨Ka, 2, none⟩ = some (.int .u64 nb) ∧ w'.cell? ⟨Ka, 3, none⟩ = some (.int .i64 ob) ∧ w'.cell? ⟨Ka, 4, none⟩ = some (.int .i64 ((rd_T35 aa ca).f4)) ∧ w'.cell? ⟨Ka, 5, none⟩ = some (.int .i64 ((rd_T35 aa ca).f5)) ∧ w'.cell? ⟨Ka, 6, none⟩ = some (.int .i64 ((rd_T35 aa ca).f6)) ∧ w'.cell? ⟨Ka, 7, none⟩ = some (.int .i64 ((rd_T35 aa ca).f7)) ∧ w'.cell? ⟨Ka, 8, none⟩ = some (.int .i64 ((rd_T35 aa ca).f8)) ∧ w'.cell? (xa.add ((ca).toNat * 9)) = some (.string ((rd_T35 ma ca).f0)) ∧ w'.cell? ⟨(xa.add ((ca).toNat * 9)).block, (xa.add ((ca).toNat * 9)).off + 1, none⟩ = some (.string ((rd_T35 ma ca).f1)) ∧ w'.cell? ⟨(xa.add ((ca).toNat * 9)).block, (xa.add ((ca).toNat * 9)).off + 2, none⟩ = some (.int .u64 ((rd_T35 ma ca).f2)) ∧ w'.cell? ⟨(xa.add ((ca).toNat * 9)).block, (xa.add ((ca).toNat * 9)).off + 3, none⟩ = some (.int .i64 ((rd_T35 ma ca).f3)) ∧ w'.cell? ⟨(xa.add ((ca).toNat * 9)).block, (xa.add ((ca).toNat * 9)).off + 4, none⟩ = some (.int .i64 ((rd_T35 ma ca).f4)) ∧ w'.cell? ⟨(xa.add ((ca).toNat * 9)).block, (xa.add ((ca).toNat * 9)).off + 5, none⟩ = some (.int .i64 ((rd_T35 ma ca).f5)) ∧ w'.cell? ⟨(xa.add ((ca).toNat * 9)).block, (xa.add ((ca).toNat * 9)).off + 6, none⟩ = some (.int .i64 ((rd_T35 ma ca).f6)) ∧ w'.cell? ⟨(xa.add ((ca).toNat * 9)).block, (xa.add ((ca).toNat * 9)).off + 7, none⟩ = some (.int .i64 ((rd_T35 ma ca).f7)) ∧ w'.cell? ⟨(xa.add ((ca).toNat * 9)).block, (xa.add ((ca).toNat * 9)).off + 8, none⟩ = some (.int .i64 ((rd_T35 ma ca).f8))) (ds := []) (bo_ 7 0) (by kernel_rfl) rfl rfl ⟨bc_ qa.out 0, bc_ qa.out 1, bc_ La.out 0, bc_ La.out 1, bc_ La.out 2, bc_ La.out 3, bc_ La.out 4, bc_ La.out 5, bc_ La.out 6, bc_ La.out 7, bc_ La.out 8, jc, kc, lc, mc, nc, oc, pc, qc, rc⟩ (fun hHeld => ?_)
             generalize wc.drew = Un at da fa Na ba ea ha qa La HB jc kc lc mc nc oc pc qc rc hHeld ⊢
             refine pure_ (i := 0) (N := some 176) (v := ?_) (a' := ?_) (bo_ 7 1) rfl rfl (by kernel_rfl) (fun _ _ _ h => h) (Or.inl ⟨by rfl, ?_⟩) ?_ ?_
             rotate_left; (· intro w'; go_simp; with_reducible rfl)
             rotate_left; (· simp only [Act.put,sA_,sB_,sC_,i64_w,i32_w]; rfl)
             refine pure_ (i := 2) (N := some 178) (v := ?_) (a' := ?_) (bo_ 7 5) rfl rfl (by kernel_rfl) (fun _ _ _ h => h) (Or.inl ⟨by rfl, ?_⟩) ?_ ?_
             rotate_left; (· intro w'; go_simp; with_reducible rfl)
             rotate_left; (· simp only [Act.put,sA_,sB_,sC_,i64_w,i32_w]; rfl)
             refine take_ (i := 1) (N := some 177) (v := ?_) (a' := ?_) (bo_ 7 7) rfl rfl (by kernel_rfl) (fun _ _ _ h => h) (Or.inl ⟨by rfl, ?_⟩) hHeld ?_ ?_
             rotate_left; (· rintro w' ⟨s0, s1, s2, s3, s4, s5, s6, s7, s8, s9, he, ie, je, ke, le, me, ne, oe, pe, qe⟩; go_simp; with_reducible rfl)
             rotate_left; (· simp only [Act.put,sA_,sB_,sC_,i64_w,i32_w]; rfl)
             refine pure_ (i := 3) (N := some 179) (v := ?_) (a' := ?_) (bo_ 7 15) rfl rfl (by kernel_rfl) (fun _ _ _ h => h) (Or.inl ⟨by rfl, ?_⟩) ?_ ?_
             rotate_left; (· intro w'; go_simp; with_reducible rfl)
             rotate_left; (· simp only [Act.put,sA_,sB_,sC_,i64_w,i32_w]; rfl)
             refine take_ (i := 4) (N := some 180) (v := ?_) (a' := ?_) (bo_ 7 31) rfl rfl (by kernel_rfl) (fun _ _ _ h => h) (Or.inl ⟨by rfl, ?_⟩) hHeld ?_ ?_
             rotate_left; (· rintro w' ⟨s0, s1, s2, s3, s4, s5, s6, s7, s8, s9, he, ie, je, ke, le, me, ne, oe, pe, qe⟩; go_simp; with_reducible rfl)
             rotate_left; (· simp only [Act.put,sA_,sB_,sC_,i64_w,i32_w]; rfl)
             refine take_ (i := 5) (N := some 181) (v := ?_) (a' := ?_) (bo_ 7 63) rfl rfl (by kernel_rfl) (fun _ _ _ h => h) (Or.inl ⟨by rfl, ?_⟩) hHeld ?_ ?_
             rotate_left; (· rintro w' ⟨s0, s1, s2, s3, s4, s5, s6, s7, s8, s9, he, ie, je, ke, le, me, ne, oe, pe, qe⟩; go_simp; with_reducible rfl)
             rotate_left; (· simp only [Act.put,sA_,sB_,sC_,i64_w,i32_w]; rfl)
             refine pure_ (i := 6) (N := some 182) (v := ?_) (a' := ?_) (bo_ 7 127) rfl rfl (by kernel_rfl) (fun _ _ _ h => h) (Or.inl ⟨by rfl, ?_⟩) ?_ ?_
             rotate_left; (· intro w'; go_simp; with_reducible rfl)
             rotate_left; (· simp only [Act.put,sA_,sB_,sC_,i64_w,i32_w]; rfl)
             refine done_ (by kernel_rfl) ?_
             try go_wp2
             go_roundg ek
             case measure => have := Ob.out; have := Ib.out; have := Hc.out; have := Bd.out; have := Cf.out; have := Ef.out; omega
             case rel => exact ⟨(wrap64 (ca + 1)), rS_, H', ⟨by have := Ob.out; have := Ib.out; have := Hc.out; have := Bd.out; have := Cf.out; have := Ef.out; omega⟩, ⟨by refine bk_ ?_; exact Kd.R_mono da.out (fun _ hk => ⟨hk.1, ⟨hk.2.1, hk.2.2.1⟩⟩)⟩, ⟨by refine bk_ ?_; exact Kd.R_mono fa.out (fun _ hk => ⟨hk.1, ⟨hk.2.1, hk.2.2.1⟩⟩)⟩, ⟨by refine bk_ ?_; exact Kd.R_mono Na.out (fun _ hk => ⟨hk.1, ⟨hk.2.1, hk.2.2.1⟩⟩)⟩, ⟨by refine bk_ ?_; exact ba.out⟩, ⟨by refine bk_ ?_; exact ea.out⟩, ⟨by refine bk_ ?_; exact ha.out⟩, ⟨by refine bk_ ?_; exact qa.out⟩, ⟨hB_⟩⟩

/-- The one plain statement that is left of kerbsuitelaw12_DatabaseKeeps. -/
def kerbsuitelaw12_DatabaseKeeps.Pure : Prop := ∀ (l0 : List Int) (l1 : List Int) (a2 : Int), l0.length ≤ maxLen → l0.length * 1 ≤ 140737488351232 → (∀ x ∈ l0, (Lit.int .u8 x).wf = true) → l1.length ≤ maxLen → l1.length * 1 ≤ 140737488351232 → (∀ x ∈ l1, (Lit.int .u8 x).wf = true) → (Lit.int .u8 a2).wf = true → ∃ k, kerbsuitelaw12_DatabaseKeeps.f k l0 l1 a2 = some true
theorem kerbsuitelaw12_DatabaseKeeps.walk (P : kerbsuitelaw12_DatabaseKeeps.Pure) (A0 : Option Addr) (c0 : Nat) (l0 : List Int) (A1 : Option Addr) (c1 : Nat) (l1 : List Int) (a2 : Int) (w : World) (hr0 : Kd.C (Kd.int .u8) w A0 l0.length l0) (hc0 : l0.length ≤ c0) (jl : l0.length ≤ maxLen) (kl : l0.length * 1 ≤ 140737488351232) (ll : (∀ x ∈ l0, (Lit.int .u8 x).wf = true)) (hr1 : Kd.C (Kd.int .u8) w A1 l1.length l1) (hc1 : l1.length ≤ c1) (ml : l1.length ≤ maxLen) (nl : l1.length * 1 ≤ 140737488351232) (ol : (∀ x ∈ l1, (Lit.int .u8 x).wf = true)) (pl : (Lit.int .u8 a2).wf = true) :
  Calls Tryd.prog 5 #[.slice A0 l0.length c0, .slice A1 l1.length c1, .int .u8 a2] w fun e w' => e = .returned (.bool true) ∧ Below w.heap.size w w' := by
 obtain ⟨k, h⟩ := P l0 l1 a2 jl kl ll ml nl ol pl
 refine (kerbsuitelaw12_DatabaseKeeps.calls k A0 c0 l0 A1 c1 l1 a2 true w hr0 hc0 hr1 hc1 h).mono ?_
 rintro e w' ⟨rfl, hd⟩
 exact ⟨rfl, hd⟩

end Go.Proofs.YthfdfoigoomaoaaDoor.PDb
