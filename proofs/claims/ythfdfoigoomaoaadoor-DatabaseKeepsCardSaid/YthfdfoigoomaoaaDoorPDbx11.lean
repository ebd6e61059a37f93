/- The walks of functions of the translation: each call returns what the plain function beside it says. -/
import Derived.Test.YthfdfoigoomaoaaDoorLate
import Derived.Test.YthfdfoigoomaoaaDoorPDbx0
import Derived.Test.YthfdfoigoomaoaaDoorPDbx2
import Derived.Test.YthfdfoigoomaoaaDoorPDbx4
import Derived.Test.YthfdfoigoomaoaaDoorPDbx5
namespace Go.Proofs.YthfdfoigoomaoaaDoor.PDb
open Go.RowKit Go.Proofs.YthfdfoigoomaoaaDoorW.PrintWords Go.Proofs.YthfdfoigoomaoaaDoorW.PrintLast Go.Proofs.YthfdfoigoomaoaaDoorW.PrintMore Go.Proofs.YthfdfoigoomaoaaDoor.Aid
attribute [local go_sem] max2_int min2_int max_two min_two max_three min_three max_four min_four aid_str_gtr aid_str_leq   -- for this text's walks alone
set_option linter.unusedVariables false
set_option linter.unusedSimpArgs false

/-! ### database_has: function 52 -/
def database_has.f (k : Nat) (da : ByteArray) (aa : List (S35)) (a1 : Int) : Option (Int) := (database_Check.f k da aa).bind fun oa => (if oa = 0 then (if a1 < 0 then (some 104) else (if a1 ≥ (aa.length : Int) then (some 104) else (some 0))) else (some oa))
set_option maxHeartbeats 8000000 in
set_option maxRecDepth 100000 in
theorem database_has.calls (k : Nat) (da : ByteArray) (ia : Option Addr) (ga : Nat) (aa : List (S35)) (a1 : Int) (r : Int) (w : World) (hr0_1 : Kd.C k35 w ia aa.length aa) (hc0_1 : aa.length ≤ ga) (h : database_has.f k da aa a1 = some r) :
  Calls Tryd.prog 52 #[.agg #[.string da, .slice ia aa.length ga], .int .i64 a1] w fun e w' => e = .returned (.int .i64 r) ∧ Below w.heap.size w w' := by
 have hu24 := Tryd.underlying24
 have la := aM_ hr0_1
 have ra := aM_ hc0_1
 clear hr0_1 hc0_1
 have HB := aM_ (Below.refl w.heap.size w)
 have H : ((database_Check.f k da aa).bind fun oa => (if oa = 0 then (if a1 < 0 then (some 104) else (if a1 ≥ (aa.length : Int) then (some 104) else (some 0))) else (some oa))) = some r := h
 clear h
 replace H := Option.bind_eq_some_iff.mp H
 obtain ⟨oa, Gc, H⟩ := H
 replace H : (if oa = 0 then (if a1 < 0 then (some 104) else (if a1 ≥ (aa.length : Int) then (some 104) else (some 0))) else (some oa)) = some r := H
 have A3 := aM_ Gc
 clear Gc
 by_cases c4 : oa = 0
 rotate_left
 ·rw [if_neg c4] at H
  have Nc : (oa == 0) = false := beq_eq_false_iff_ne.mpr c4
  have Oc : (oa != 0) = true := bne_iff_ne.mpr c4
  obtain rfl := Option.some.inj H
  go_enter Tryd.func52, Tryd.ntmps52
  go_wp2_with (first | ((with_reducible refine gate_dst (N := 2) rfl ?_); (try (refine gate_guard (by rfl) ?_; dsimp only)); refine bE_ 2 24 #[.string da, .slice ia aa.length ga] ?_; intro rb hg jf hbox hb; have ja := aM_ (hbox); have sb := aM_ (gB_ hg HB.out); have tb := aM_ (gB_ hg HB.out); replace HB := aM_ (below_step (bk_ HB.out) hb); clear hb hbox hg; obtain ⟨ad, bd⟩ := kC2_ ja.out; obtain ⟨cd, dd⟩ := kZ2_ ja.out) | ((with_reducible refine gate_callee (f := 10) rfl ?_); refine gC_ (some 7) 10 #[.agg #[.string da, .slice ia aa.length ga]] Tryd.func10 ?_; (with_reducible refine (database_Check.calls k da _ _ aa oa _ ?side1 ?side2 A3.out).mono ?_); (case side1 => exact cC_ la.out HB.out); (case side2 => exact ra.out); rintro e ig ⟨rfl, hb⟩; refine ⟨_, rfl, ?_⟩; replace ja := aM_ (kG_ ja.out hb); replace HB := aM_ (below_step hB_ hb); clear hb))
  go_ret
  exact ⟨eW_, hB_⟩
 rw [if_pos c4] at H
 have Nc : (oa == 0) = true := beq_iff_eq.mpr c4
 have Oc : (oa != 0) = false := bne_eq_false_iff_eq.mpr c4
 clear c4
 by_cases c5 : a1 < 0
 ·rw [if_pos c5] at H
  have ub : decide (a1 < 0) = true := decide_eq_true c5
  clear c5
  obtain rfl := Option.some.inj H
  go_enter Tryd.func52, Tryd.ntmps52
  go_wp2_with (first | ((with_reducible refine gate_dst (N := 2) rfl ?_); (try (refine gate_guard (by rfl) ?_; dsimp only)); refine bE_ 2 24 #[.string da, .slice ia aa.length ga] ?_; intro rb hg w6 hbox hb; have ja := aM_ (hbox); have sb := aM_ (gB_ hg HB.out); have tb := aM_ (gB_ hg HB.out); replace HB := aM_ (below_step (bk_ HB.out) hb); clear hb hbox hg; obtain ⟨kf, lf⟩ := kC2_ ja.out; obtain ⟨mf, nf⟩ := kZ2_ ja.out) | ((with_reducible refine gate_callee (f := 10) rfl ?_); refine gC_ (some 7) 10 #[.agg #[.string da, .slice ia aa.length ga]] Tryd.func10 ?_; (with_reducible refine (database_Check.calls k da _ _ aa oa _ ?side1 ?side2 A3.out).mono ?_); (case side1 => exact cC_ la.out HB.out); (case side2 => exact ra.out); rintro e w8 ⟨rfl, hb⟩; refine ⟨_, rfl, ?_⟩; replace ja := aM_ (kG_ ja.out hb); replace HB := aM_ (below_step hB_ hb); clear hb))
  go_ret
  exact ⟨eW_, hB_⟩
 rw [if_neg c5] at H
 have ub : decide (a1 < 0) = false := decide_eq_false c5
 clear c5
 by_cases c9 : a1 ≥ (aa.length : Int)
 ·rw [if_pos c9] at H
  have ec : decide ((aa.length : Int) ≤ a1) = true := decide_eq_true c9
  clear c9
  obtain rfl := Option.some.inj H
  go_enter Tryd.func52, Tryd.ntmps52
  go_wp2_with (first | ((with_reducible refine gate_dst (N := 2) rfl ?_); (try (refine gate_guard (by rfl) ?_; dsimp only)); refine bE_ 2 24 #[.string da, .slice ia aa.length ga] ?_; intro rb hg pf hbox hb; have ja := aM_ (hbox); have sb := aM_ (gB_ hg HB.out); have tb := aM_ (gB_ hg HB.out); replace HB := aM_ (below_step (bk_ HB.out) hb); clear hb hbox hg; obtain ⟨ed, fd⟩ := kC2_ ja.out; obtain ⟨gd, hd⟩ := kZ2_ ja.out) | ((with_reducible refine gate_callee (f := 10) rfl ?_); refine gC_ (some 7) 10 #[.agg #[.string da, .slice ia aa.length ga]] Tryd.func10 ?_; (with_reducible refine (database_Check.calls k da _ _ aa oa _ ?side1 ?side2 A3.out).mono ?_); (case side1 => exact cC_ la.out HB.out); (case side2 => exact ra.out); rintro e qf ⟨rfl, hb⟩; refine ⟨_, rfl, ?_⟩; replace ja := aM_ (kG_ ja.out hb); replace HB := aM_ (below_step hB_ hb); clear hb; obtain ⟨Nb, Ob⟩ := kC2_ ja.out; obtain ⟨Pb, Qb⟩ := kZ2_ ja.out))
  go_ret
  exact ⟨eW_, hB_⟩
 rw [if_neg c9] at H
 have ec : decide ((aa.length : Int) ≤ a1) = false := decide_eq_false c9
 clear c9
 obtain rfl := Option.some.inj H
 go_enter Tryd.func52, Tryd.ntmps52
 go_wp2_with (first | ((with_reducible refine gate_dst (N := 2) rfl ?_); (try (refine gate_guard (by rfl) ?_; dsimp only)); refine bE_ 2 24 #[.string da, .slice ia aa.length ga] ?_; intro rb hg Hc hbox hb; have ja := aM_ (hbox); have sb := aM_ (gB_ hg HB.out); have tb := aM_ (gB_ hg HB.out); replace HB := aM_ (below_step (bk_ HB.out) hb); clear hb hbox hg; obtain ⟨Rb, Sb⟩ := kC2_ ja.out; obtain ⟨Tb, Ub⟩ := kZ2_ ja.out) | ((with_reducible refine gate_callee (f := 10) rfl ?_); refine gC_ (some 7) 10 #[.agg #[.string da, .slice ia aa.length ga]] Tryd.func10 ?_; (with_reducible refine (database_Check.calls k da _ _ aa oa _ ?side1 ?side2 A3.out).mono ?_); (case side1 => exact cC_ la.out HB.out); (case side2 => exact ra.out); rintro e kb ⟨rfl, hb⟩; refine ⟨_, rfl, ?_⟩; replace ja := aM_ (kG_ ja.out hb); replace HB := aM_ (below_step hB_ hb); clear hb; obtain ⟨Vb, Wb⟩ := kC2_ ja.out; obtain ⟨Xb, Yb⟩ := kZ2_ ja.out))
 go_ret
 exact ⟨eW_, hB_⟩

/-! ### database_with: function 53 -/
def database_with.f (da : ByteArray) (aa : List (S35)) (a1 : Int) (va : ByteArray) (wa : ByteArray) (xa : Int) (ya : Int) (za : Int) (Aa : Int) (Ba : Int) (Ca : Int) (Da : Int) : Option (ByteArray × (List (S35))) := (api_Entry_51.f aa).bind fun ha => (if 0 ≤ a1 then (if a1 < (ha.length : Int) then (some (da, (ha.set (a1 : Int).toNat (⟨va, wa, xa, ya, za, Aa, Ba, Ca, Da⟩ : S35)))) else (none)) else (none))
set_option maxHeartbeats 8000000 in
set_option maxRecDepth 100000 in
theorem database_with.calls (da : ByteArray) (ia : Option Addr) (ga : Nat) (aa : List (S35)) (a1 : Int) (va : ByteArray) (wa : ByteArray) (xa : Int) (ya : Int) (za : Int) (Aa : Int) (Ba : Int) (Ca : Int) (Da : Int) (r1 : ByteArray) (r2 : List (S35)) (w : World) (hr0_1 : Kd.C k35 w ia aa.length aa) (hc0_1 : aa.length ≤ ga) (h : database_with.f da aa a1 va wa xa ya za Aa Ba Ca Da = some (r1, r2)) :
  Calls Tryd.prog 53 #[.agg #[.string da, .slice ia aa.length ga], .int .i64 a1, .agg #[.string va, .string wa, .int .u64 xa, .int .i64 ya, .int .i64 za, .int .i64 Aa, .int .i64 Ba, .int .i64 Ca, .int .i64 Da]] w fun e w' => ∃ Cb : Value, e = .returned (.agg #[.string r1, Cb]) ∧ Kd.R k35 35 w' w.heap.size (fun _ => True) Cb r2 ∧ Below w.heap.size w w' := by
 have hu24 := Tryd.underlying24
 have hu35 := Tryd.underlying35
 have la := aM_ hr0_1
 have ra := aM_ hc0_1
 clear hr0_1 hc0_1
 have HB := aM_ (Below.refl w.heap.size w)
 have H : ((api_Entry_51.f aa).bind fun ha => (if 0 ≤ a1 then (if a1 < (ha.length : Int) then (some (da, (ha.set (a1 : Int).toNat (⟨va, wa, xa, ya, za, Aa, Ba, Ca, Da⟩ : S35)))) else (none)) else (none))) = some (r1, r2) := h
 clear h
 replace H := Option.bind_eq_some_iff.mp H
 obtain ⟨ha, Db, H⟩ := H
 try dsimp only at H
 have A4 := aM_ Db
 clear Db
 by_cases c5 : 0 ≤ a1
 rotate_left
 ·rw [if_neg c5] at H
  exact absurd H (by simp)
 rw [if_pos c5] at H
 have ub : decide (0 ≤ a1) = true := decide_eq_true c5
 clear c5
 by_cases c6 : a1 < (ha.length : Int)
 ·rw [if_pos c6] at H
  have bg : decide (a1 < (ha.length : Int)) = true := decide_eq_true c6
  clear c6
  obtain ⟨fc, hy284⟩ : ∃ y_ : List (S35), y_ = (ha.set (a1 : Int).toNat (⟨va, wa, xa, ya, za, Aa, Ba, Ca, Da⟩ : S35)) := ⟨_, rfl⟩
  replace H : (some (da, fc)) = some (r1, r2) := by first | (rw [hy284]; with_reducible exact H) | (have H2_ := (Option.bind_some _ _).symm.trans H; rw [hy284]; with_reducible exact H2_) | (have H2_ := (Option.bind_some _ _).symm.trans H; with_reducible exact H2_) | with_reducible exact H | (rw [hy284]; exact H) | exact H
  have Ny284 := aM_ hy284
  clear hy284
  simp only [Option.some.injEq, Prod.mk.injEq] at H
  obtain ⟨rfl, rfl⟩ := H
  go_enter Tryd.func53, Tryd.ntmps53
  go_wp2_with (first | ((with_reducible refine gate_dst (N := 3) rfl ?_); refine bE_ 3 24 #[.string da, .slice ia aa.length ga] ?_; intro vb hg w8 hbox hb; have fa := aM_ (hbox); have tf := aM_ (gB_ hg HB.out); have uf := aM_ (gB_ hg HB.out); replace HB := aM_ (below_step (bk_ HB.out) hb); clear hb hbox hg) | ((with_reducible refine gate_dst (N := 5) rfl ?_); refine bE_ 5 35 #[.string va, .string wa, .int .u64 xa, .int .i64 ya, .int .i64 za, .int .i64 Aa, .int .i64 Ba, .int .i64 Ca, .int .i64 Da] ?_; intro db hg w9 hbox hb; have ma := aM_ (hbox); have vf := aM_ (gB_ hg HB.out); have wf := aM_ (gB_ hg HB.out); replace HB := aM_ (below_step hB_ hb); have Eb := aM_ (nL_ hg fa.out); have fb := aM_ (nG_ hg fa.out); replace fa := aM_ (kG_ fa.out hb); clear hb hbox hg) | ((with_reducible refine gate_dst (N := 6) rfl ?_); refine bE_ 6 24 #[.string (⟨#[]⟩ : ByteArray), .slice none 0 0] ?_; intro wb hg pf hbox hb; have sa := aM_ (hbox); have xf := aM_ (gB_ hg HB.out); have yf := aM_ (gB_ hg HB.out); replace HB := aM_ (below_step hB_ hb); have Fb := aM_ (nL_ hg fa.out); have gb := aM_ (nG_ hg fa.out); replace fa := aM_ (kG_ fa.out hb); have Gb := aM_ (nL_ hg ma.out); have Hb := aM_ (nG_ hg ma.out); replace ma := aM_ (kG_ ma.out hb); clear hb hbox hg; have zf := Eb.out; have Af := fb.out; have Bf := Fb.out; have Cf := gb.out; obtain ⟨Nb, Ob⟩ := kC2_ fa.out; obtain ⟨Pb, Qb⟩ := kZ2_ fa.out) | ((with_reducible refine gate_callee (f := 51) rfl ?_); refine gC_ (some 9) 51 #[.slice ia aa.length ga] Tryd.func51 ?_; (with_reducible refine (api_Entry_51.calls _ _ aa ha _ ?side1 ?side2 A4.out).mono ?_); (case side1 => exact cC_ la.out HB.out); (case side2 => exact ra.out); rintro e Hc ⟨cg, rfl, ib, hb⟩; refine ⟨_, rfl, ?_⟩; have na := aM_ (Kd.R_lower (Kd.R_newB ib (gR_ ma.out)) (below_size hB_)); replace fa := aM_ (kG_ fa.out hb); replace ma := aM_ (kG_ ma.out hb); replace sa := aM_ (kG_ sa.out hb); replace HB := aM_ (below_step hB_ hb); clear hb ib; obtain ⟨Jb, ab, Pc⟩ := Kd.R_slice na.out; subst Pc; obtain ⟨id, jd⟩ := kC2_ fa.out; obtain ⟨kd, ld⟩ := kZ2_ fa.out) | ((with_reducible refine gate_store (t := 22) (p := 10) rfl ?_); refine store_event (t := 22) (p := 10) (v := ?vo_w17) (w1 := (Hc.setCell ⟨vb, 1, none⟩ (.slice Jb ha.length ab))) ?hg ?ho ?hn ?hr ?_; (case ho => rfl); (case hg => rfl); (case hn => rfl); (case hr => first | (go_simp; done) | (go_simp; rfl)); intro ka hw; have Ua : Aside0 (Kd.R k35 35 ka w.heap.size (fun k_ => k_ ≠ db) (.slice Jb ha.length ab) ha) := ⟨(by rw [hw]; exact (by refine bk_ ?_; exact Kd.R_mono (rF_ (Kd.R_types na.out fa.out (by decide))) (fun _ hk => hk.1.2)))⟩; have Va : Aside0 (ka.heap[vb]? = some (.cells #[.string da, .slice Jb ha.length ab] 24 (0, 0))) := ⟨(by rw [hw]; exact (by exact puts_ fa.out))⟩; have Wa : Aside0 (ka.heap[db]? = some (.cells #[.string va, .string wa, .int .u64 xa, .int .i64 ya, .int .i64 za, .int .i64 Aa, .int .i64 Ba, .int .i64 Ca, .int .i64 Da] 35 (0, 0))) := ⟨(by rw [hw]; exact (by exact far_ fb.out ma.out))⟩; have Ic : Aside0 (ka.heap[wb]? = some (.cells #[.string (⟨#[]⟩ : ByteArray), .slice none 0 0] 24 (0, 0))) := ⟨(by rw [hw]; exact (by exact far_ gb.out sa.out))⟩; have Jc : Aside0 (Below w.heap.size w ka) := ⟨(by rw [hw]; exact hB_)⟩; clear hw na fa ma sa HB; have na := Ua; have fa := Va; have ma := Wa; have sa := Ic; have HB := Jc; clear Ua Va Wa Ic Jc; obtain ⟨md, od⟩ := kC2_ fa.out; obtain ⟨pd, qd⟩ := kZ2_ fa.out; have zc := Gb.out; have Ac := Hb.out; obtain ⟨rd, sd, td, ud, vd, wd, xd, yd, zd⟩ := kC9_ ma.out; obtain ⟨Ad, Bd, Cd, Dd, Ed, Fd, Gd, Hd, Id⟩ := kZ9_ ma.out; have p7 : 0 ≤ (a1 : Int) := dT_; have q7 : (a1 : Int) < ((ha.length : Int) : Int) := dT_; obtain ⟨go7, jg, Kc, Lc, gl7, cl7, HG7⟩ := Kd.R_form na.out (by omega); (first | cases Kc | (injection Kc with ea_ en_ ec_; (first | subst ea_ | (injection ea_ with ea_; subst ea_)); subst ec_; clear en_)); have GB7 := aM_ Lc; have GG7 := aM_ HG7; clear Lc gl7 HG7; obtain ⟨ce7, hcl7, hM7, hcc7, hfr7⟩ := Kd.R_elem na.out z35 (a1 : Int) p7 q7; obtain rfl := k35_openM hM7; have Df : ka.cell? ⟨go7, (a1 : Int).toNat * 9, none⟩ = some (.string ((rd_T35 ha a1).f0)) := hcc7 0 _ rfl; have Ef : ka.cell? ⟨go7, (a1 : Int).toNat * 9 + 1, none⟩ = some (.string ((rd_T35 ha a1).f1)) := hcc7 1 _ rfl; have Ff : ka.cell? ⟨go7, (a1 : Int).toNat * 9 + 2, none⟩ = some (.int .u64 ((rd_T35 ha a1).f2)) := hcc7 2 _ rfl; have Gf : ka.cell? ⟨go7, (a1 : Int).toNat * 9 + 3, none⟩ = some (.int .i64 ((rd_T35 ha a1).f3)) := hcc7 3 _ rfl; have Hf : ka.cell? ⟨go7, (a1 : Int).toNat * 9 + 4, none⟩ = some (.int .i64 ((rd_T35 ha a1).f4)) := hcc7 4 _ rfl; have If : ka.cell? ⟨go7, (a1 : Int).toNat * 9 + 5, none⟩ = some (.int .i64 ((rd_T35 ha a1).f5)) := hcc7 5 _ rfl; have Jf : ka.cell? ⟨go7, (a1 : Int).toNat * 9 + 6, none⟩ = some (.int .i64 ((rd_T35 ha a1).f6)) := hcc7 6 _ rfl; have Kf : ka.cell? ⟨go7, (a1 : Int).toNat * 9 + 7, none⟩ = some (.int .i64 ((rd_T35 ha a1).f7)) := hcc7 7 _ rfl; have Lf : ka.cell? ⟨go7, (a1 : Int).toNat * 9 + 8, none⟩ = some (.int .i64 ((rd_T35 ha a1).f8)) := hcc7 8 _ rfl; have hf7_0 : ka.frozen? ⟨go7, (a1 : Int).toNat * 9, none⟩ = false := hfr7 0; have hf7_1 : ka.frozen? ⟨go7, (a1 : Int).toNat * 9 + 1, none⟩ = false := hfr7 1; have hf7_2 : ka.frozen? ⟨go7, (a1 : Int).toNat * 9 + 2, none⟩ = false := hfr7 2; have hf7_3 : ka.frozen? ⟨go7, (a1 : Int).toNat * 9 + 3, none⟩ = false := hfr7 3; have hf7_4 : ka.frozen? ⟨go7, (a1 : Int).toNat * 9 + 4, none⟩ = false := hfr7 4; have hf7_5 : ka.frozen? ⟨go7, (a1 : Int).toNat * 9 + 5, none⟩ = false := hfr7 5; have hf7_6 : ka.frozen? ⟨go7, (a1 : Int).toNat * 9 + 6, none⟩ = false := hfr7 6; have hf7_7 : ka.frozen? ⟨go7, (a1 : Int).toNat * 9 + 7, none⟩ = false := hfr7 7; have hf7_8 : ka.frozen? ⟨go7, (a1 : Int).toNat * 9 + 8, none⟩ = false := hfr7 8; clear hcl7 hcc7 hfr7 hM7; replace p7 := eq_true p7; replace q7 := eq_true q7; have HX21 := aM_ (show Kd.R k35 35 ka w.heap.size (fun k_ => k_ ≠ db) (.slice (some ⟨go7, 0, none⟩) ha.length ab) ha from (bk_ na.out)); obtain ⟨ce21, hcl21, hM21, hcc21, hfr21⟩ := Kd.R_elem HX21.out z35 (a1 : Int) dT_ (by have h_ : (a1 : Int) < ((ha.length : Int) : Int) := dT_; first | exact h_ | (have e_ := (Kd.R_reads' na.out).1; omega) | simpa using h_); obtain rfl := k35_openM hM21; have HP21 := Kd.R_seg HX21.out (a1 : Int) dT_ (by have h_ : (a1 : Int) < ((ha.length : Int) : Int) := dT_; first | exact h_ | (have e_ := (Kd.R_reads' na.out).1; omega) | simpa using h_) (seg := [.string va, .string wa, .int .u64 xa, .int .i64 ya, .int .i64 za, .int .i64 Aa, .int .i64 Ba, .int .i64 Ca, .int .i64 Da]) (j := 0) hcl21 hcc21 (show 9 ≤ 9 from by decide) (x' := (⟨va, wa, xa, ya, za, Aa, Ba, Ca, Da⟩ : S35)) (k35_mkM _ _ _ (⟨va, wa, xa, ya, za, Aa, Ba, Ca, Da⟩ : S35) ) (fun _ hk => hk); have gc := hcc21 0 _ rfl; (try simp only [show (k35).sz = 9 from rfl, Nat.mul_one, Nat.add_zero] at gc); have hf21_0 := hfr21 0; (try simp only [show (k35).sz = 9 from rfl, Nat.mul_one, Nat.add_zero] at hf21_0); have hc := hcc21 1 _ rfl; (try simp only [show (k35).sz = 9 from rfl, Nat.mul_one, Nat.add_zero] at hc); have hf21_1 := hfr21 1; (try simp only [show (k35).sz = 9 from rfl, Nat.mul_one, Nat.add_zero] at hf21_1); have ic := hcc21 2 _ rfl; (try simp only [show (k35).sz = 9 from rfl, Nat.mul_one, Nat.add_zero] at ic); have hf21_2 := hfr21 2; (try simp only [show (k35).sz = 9 from rfl, Nat.mul_one, Nat.add_zero] at hf21_2); have jc := hcc21 3 _ rfl; (try simp only [show (k35).sz = 9 from rfl, Nat.mul_one, Nat.add_zero] at jc); have hf21_3 := hfr21 3; (try simp only [show (k35).sz = 9 from rfl, Nat.mul_one, Nat.add_zero] at hf21_3); have kc := hcc21 4 _ rfl; (try simp only [show (k35).sz = 9 from rfl, Nat.mul_one, Nat.add_zero] at kc); have hf21_4 := hfr21 4; (try simp only [show (k35).sz = 9 from rfl, Nat.mul_one, Nat.add_zero] at hf21_4); have lc := hcc21 5 _ rfl; (try simp only [show (k35).sz = 9 from rfl, Nat.mul_one, Nat.add_zero] at lc); have hf21_5 := hfr21 5; (try simp only [show (k35).sz = 9 from rfl, Nat.mul_one, Nat.add_zero] at hf21_5); have mc := hcc21 6 _ rfl; (try simp only [show (k35).sz = 9 from rfl, Nat.mul_one, Nat.add_zero] at mc); have hf21_6 := hfr21 6; (try simp only [show (k35).sz = 9 from rfl, Nat.mul_one, Nat.add_zero] at hf21_6); have nc := hcc21 7 _ rfl; (try simp only [show (k35).sz = 9 from rfl, Nat.mul_one, Nat.add_zero] at nc); have hf21_7 := hfr21 7; (try simp only [show (k35).sz = 9 from rfl, Nat.mul_one, Nat.add_zero] at hf21_7); have oc := hcc21 8 _ rfl; (try simp only [show (k35).sz = 9 from rfl, Nat.mul_one, Nat.add_zero] at oc); have hf21_8 := hfr21 8; (try simp only [show (k35).sz = 9 from rfl, Nat.mul_one, Nat.add_zero] at hf21_8); clear hcl21 hcc21 hfr21 hM21) | ((with_reducible refine gate_store (t := 35) (p := 15) rfl ?_); refine store_event (t := 35) (p := 15) (v := ?vo_w22) (w1 := (((((((((ka.setCell ⟨go7, (a1 : Int).toNat * 9, none⟩ (.string va)).setCell ⟨go7, (a1 : Int).toNat * 9 + 1, none⟩ (.string wa)).setCell ⟨go7, (a1 : Int).toNat * 9 + 2, none⟩ (.int .u64 xa)).setCell ⟨go7, (a1 : Int).toNat * 9 + 3, none⟩ (.int .i64 ya)).setCell ⟨go7, (a1 : Int).toNat * 9 + 4, none⟩ (.int .i64 za)).setCell ⟨go7, (a1 : Int).toNat * 9 + 5, none⟩ (.int .i64 Aa)).setCell ⟨go7, (a1 : Int).toNat * 9 + 6, none⟩ (.int .i64 Ba)).setCell ⟨go7, (a1 : Int).toNat * 9 + 7, none⟩ (.int .i64 Ca)).setCell ⟨go7, (a1 : Int).toNat * 9 + 8, none⟩ (.int .i64 Da))) ?hg ?ho ?hn ?hr ?_; (case ho => rfl); (case hg => rfl); (case hn => rfl); (case hr => first | (go_simp; done) | (go_simp; rfl)); intro pc hw; have hg : ka.grownBy pc (some go7) := (by rw [hw]; exact HP21.2); have hp_ : Kd.R k35 35 pc w.heap.size (fun k_ => k_ ≠ db) (.slice (some ⟨go7, 0, none⟩) ha.length ab) fc := (by rw [hw, Ny284.out]; exact HP21.1); clear HP21; replace fa := aM_ (blk_grown (g := vb) (o := .cells #[.string da, .slice (some ⟨go7, 0, none⟩) ha.length ab] 24 (0, 0)) (bk_ fa.out) hg (Kd.R_ne na.out fa.out (by decide))); replace ma := aM_ (blk_grown (g := db) (o := .cells #[.string va, .string wa, .int .u64 xa, .int .i64 ya, .int .i64 za, .int .i64 Aa, .int .i64 Ba, .int .i64 Ca, .int .i64 Da] 35 (0, 0)) (bk_ ma.out) hg (Kd.R_away na.out (fun _ hk => hk))); replace sa := aM_ (blk_grown (g := wb) (o := .cells #[.string (⟨#[]⟩ : ByteArray), .slice none 0 0] 24 (0, 0)) (bk_ sa.out) hg (Kd.R_ne na.out sa.out (by decide))); replace na := aM_ (hp_); replace HB := aM_ ((by rw [hw]; exact below_set (below_set (below_set (below_set (below_set (below_set (below_set (below_set (below_set (HB.out) GB7.out) GB7.out) GB7.out) GB7.out) GB7.out) GB7.out) GB7.out) GB7.out) GB7.out : Below w.heap.size w pc)); clear hg hw hp_; obtain ⟨Jd, Ld⟩ := kC2_ fa.out; obtain ⟨Md, Nd⟩ := kZ2_ fa.out; obtain ⟨ac, bc⟩ := kC2_ sa.out; obtain ⟨cc, dc⟩ := kZ2_ sa.out))
  refine bodyPost_ret (results_cell_row rfl _ _ wb 24 #[.string da, .slice (some ⟨go7, 0, none⟩) ha.length ab] (0, 0) _ rfl (by exact puts_ sa.out) Tryd.underlying24 rfl (by kernel_rfl)) rfl ?_
  exact ⟨_, eW_, by refine bk_ ?_; exact Kd.R_mono (rF_ (rF_ (Kd.R_types na.out sa.out (by decide)))) (fun _ hk => trivial), hB_⟩
 rw [if_neg c6] at H
 exact absurd H (by simp)

/-! ### database_Rekey: function 26 -/
def database_Rekey.f (k : Nat) (da : ByteArray) (aa : List (S35)) (a1 : Int) (a2 : Int) : Option (ByteArray × (List (S35)) × Int) := (database_has.f k da aa a1).bind fun ta => (if ta = 0 then ((key_Valid.f a2).bind fun lb => (if lb = true then (if 0 ≤ a1 then (if a1 < (aa.length : Int) then (if (wrap64 (((rd_T35 aa a1).f3) + 1)) > 255 then ((database_with.f da aa a1 ((rd_T35 aa a1).f0) ((rd_T35 aa a1).f1) a2 1 ((rd_T35 aa a1).f4) ((rd_T35 aa a1).f5) ((rd_T35 aa a1).f6) ((rd_T35 aa a1).f7) ((rd_T35 aa a1).f8)).bind fun Ia => (some (Ia.1, Ia.2, 0))) else ((database_with.f da aa a1 ((rd_T35 aa a1).f0) ((rd_T35 aa a1).f1) a2 (wrap64 (((rd_T35 aa a1).f3) + 1)) ((rd_T35 aa a1).f4) ((rd_T35 aa a1).f5) ((rd_T35 aa a1).f6) ((rd_T35 aa a1).f7) ((rd_T35 aa a1).f8)).bind fun Ja => (some (Ja.1, Ja.2, 0)))) else (none)) else (none)) else (some ((⟨#[]⟩ : ByteArray), ([] : List (S35)), 10)))) else (some ((⟨#[]⟩ : ByteArray), ([] : List (S35)), ta)))
set_option maxHeartbeats 8000000 in
set_option maxRecDepth 100000 in
theorem database_Rekey.calls (k : Nat) (da : ByteArray) (ia : Option Addr) (ga : Nat) (aa : List (S35)) (a1 : Int) (a2 : Int) (r1 : ByteArray) (r2 : List (S35)) (r3 : Int) (w : World) (hr0_1 : Kd.C k35 w ia aa.length aa) (hc0_1 : aa.length ≤ ga) (h : database_Rekey.f k da aa a1 a2 = some (r1, r2, r3)) :
  Calls Tryd.prog 26 #[.agg #[.string da, .slice ia aa.length ga], .int .i64 a1, .int .u64 a2] w fun e w' => ∃ Cb : Value, e = .returned (.tuple #[.agg #[.string r1, Cb], .int .i64 r3]) ∧ Kd.R k35 35 w' w.heap.size (fun _ => True) Cb r2 ∧ Below w.heap.size w w' := by
 have hu24 := Tryd.underlying24
 have hu35 := Tryd.underlying35
 have la := aM_ hr0_1
 have ra := aM_ hc0_1
 clear hr0_1 hc0_1
 have HB := aM_ (Below.refl w.heap.size w)
 have H : ((database_has.f k da aa a1).bind fun ta => (if ta = 0 then ((key_Valid.f a2).bind fun lb => (if lb = true then (if 0 ≤ a1 then (if a1 < (aa.length : Int) then (if (wrap64 (((rd_T35 aa a1).f3) + 1)) > 255 then ((database_with.f da aa a1 ((rd_T35 aa a1).f0) ((rd_T35 aa a1).f1) a2 1 ((rd_T35 aa a1).f4) ((rd_T35 aa a1).f5) ((rd_T35 aa a1).f6) ((rd_T35 aa a1).f7) ((rd_T35 aa a1).f8)).bind fun Ia => (some (Ia.1, Ia.2, 0))) else ((database_with.f da aa a1 ((rd_T35 aa a1).f0) ((rd_T35 aa a1).f1) a2 (wrap64 (((rd_T35 aa a1).f3) + 1)) ((rd_T35 aa a1).f4) ((rd_T35 aa a1).f5) ((rd_T35 aa a1).f6) ((rd_T35 aa a1).f7) ((rd_T35 aa a1).f8)).bind fun Ja => (some (Ja.1, Ja.2, 0)))) else (none)) else (none)) else (some ((⟨#[]⟩ : ByteArray), ([] : List (S35)), 10)))) else (some ((⟨#[]⟩ : ByteArray), ([] : List (S35)), ta)))) = some (r1, r2, r3) := h
 clear h
 replace H := Option.bind_eq_some_iff.mp H
 obtain ⟨ta, Db, H⟩ := H
 try dsimp only at H
 have A4 := aM_ Db
 clear Db
 by_cases c5 : ta = 0
 rotate_left
 ·rw [if_neg c5] at H
  have ub : (ta == 0) = false := beq_eq_false_iff_ne.mpr c5
  have Sc : (ta != 0) = true := bne_iff_ne.mpr c5
  simp only [Option.some.injEq, Prod.mk.injEq] at H
  obtain ⟨rfl, rfl, rfl⟩ := H
  go_enter Tryd.func26, Tryd.ntmps26
  go_wp2_with (first | ((with_reducible refine gate_dst (N := 3) rfl ?_); refine bE_ 3 24 #[.string da, .slice ia aa.length ga] ?_; intro Za hg kg hbox hb; have ca := aM_ (hbox); have xb := aM_ (gB_ hg HB.out); have yb := aM_ (gB_ hg HB.out); replace HB := aM_ (below_step (bk_ HB.out) hb); clear hb hbox hg) | ((with_reducible refine gate_dst (N := 6) rfl ?_); refine bE_ 6 24 #[.string (⟨#[]⟩ : ByteArray), .slice none 0 0] ?_; intro Ea hg lg hbox hb; have ea := aM_ (hbox); have zb := aM_ (gB_ hg HB.out); have Ab := aM_ (gB_ hg HB.out); replace HB := aM_ (below_step hB_ hb); have pa := aM_ (nL_ hg ca.out); have qa := aM_ (nG_ hg ca.out); replace ca := aM_ (kG_ ca.out hb); clear hb hbox hg; have Mf := pa.out; have Nf := qa.out; obtain ⟨Od, Pd⟩ := kC2_ ca.out; obtain ⟨Qd, Rd⟩ := kZ2_ ca.out) | ((with_reducible refine gate_callee (f := 52) rfl ?_); refine gC_ (some 12) 52 #[.agg #[.string da, .slice ia aa.length ga], .int .i64 a1] Tryd.func52 ?_; (with_reducible refine (database_has.calls k da _ _ aa a1 ta _ ?side1 ?side2 A4.out).mono ?_); (case side1 => exact cC_ la.out HB.out); (case side2 => exact ra.out); rintro e mg ⟨rfl, hb⟩; refine ⟨_, rfl, ?_⟩; replace ca := aM_ (kG_ ca.out hb); replace ea := aM_ (kG_ ea.out hb); replace HB := aM_ (below_step hB_ hb); clear hb; obtain ⟨Sd, Td⟩ := kC2_ ea.out; obtain ⟨Ud, Vd⟩ := kZ2_ ea.out))
  refine bodyPost_ret (results_ct rfl _ _ Ea 24 #[.string (⟨#[]⟩ : ByteArray), .slice none 0 0] (0, 0) _ rfl (by exact puts_ ea.out) Tryd.underlying24 rfl (by kernel_rfl)) rfl ?_
  exact ⟨_, eW_, by first | exact Kd.R_nil _ _ _ _ _ | exact Kd.N_nil _ _ _ _ _ | exact Kd.V_nil _ _ _ _ _ | exact Kd.Q_nil _ _ _ _ _ | exact Kd.S_nil _ _ _ _ _, hB_⟩
 rw [if_pos c5] at H
 have ub : (ta == 0) = true := beq_iff_eq.mpr c5
 have Sc : (ta != 0) = false := bne_eq_false_iff_eq.mpr c5
 clear c5
 replace H := Option.bind_eq_some_iff.mp H
 obtain ⟨lb, Mc, H⟩ := H
 try dsimp only at H
 have A6 := aM_ Mc
 clear Mc
 by_cases c7 : lb = true
 rotate_left
 ·replace c7 := Bool.eq_false_iff.mpr c7
  subst c7
  have H1 : (some ((⟨#[]⟩ : ByteArray), ([] : List (S35)), 10)) = some (r1, r2, r3) := by rw [if_neg (show ¬ (false = true) by decide)] at H; exact H
  clear H
  have H := H1
  clear H1
  simp only [Option.some.injEq, Prod.mk.injEq] at H
  obtain ⟨rfl, rfl, rfl⟩ := H
  go_enter Tryd.func26, Tryd.ntmps26
  go_wp2_with (first | ((with_reducible refine gate_dst (N := 3) rfl ?_); refine bE_ 3 24 #[.string da, .slice ia aa.length ga] ?_; intro Za hg ng hbox hb; have ca := aM_ (hbox); have xb := aM_ (gB_ hg HB.out); have yb := aM_ (gB_ hg HB.out); replace HB := aM_ (below_step (bk_ HB.out) hb); clear hb hbox hg) | ((with_reducible refine gate_dst (N := 6) rfl ?_); refine bE_ 6 24 #[.string (⟨#[]⟩ : ByteArray), .slice none 0 0] ?_; intro Ea hg og hbox hb; have ea := aM_ (hbox); have zb := aM_ (gB_ hg HB.out); have Ab := aM_ (gB_ hg HB.out); replace HB := aM_ (below_step hB_ hb); have pa := aM_ (nL_ hg ca.out); have qa := aM_ (nG_ hg ca.out); replace ca := aM_ (kG_ ca.out hb); clear hb hbox hg; have Of := pa.out; have Pf := qa.out; obtain ⟨Wd, Xd⟩ := kC2_ ca.out; obtain ⟨Yd, Zd⟩ := kZ2_ ca.out) | ((with_reducible refine gate_callee (f := 52) rfl ?_); refine gC_ (some 12) 52 #[.agg #[.string da, .slice ia aa.length ga], .int .i64 a1] Tryd.func52 ?_; (with_reducible refine (database_has.calls k da _ _ aa a1 ta _ ?side1 ?side2 A4.out).mono ?_); (case side1 => exact cC_ la.out HB.out); (case side2 => exact ra.out); rintro e ob ⟨rfl, hb⟩; refine ⟨_, rfl, ?_⟩; replace ca := aM_ (kG_ ca.out hb); replace ea := aM_ (kG_ ea.out hb); replace HB := aM_ (below_step hB_ hb); clear hb) | ((with_reducible refine gate_callee (f := 41) rfl ?_); refine gC_ (some 18) 41 #[.int .u64 a2] Tryd.func41 ?_; (with_reducible refine (key_Valid.calls a2 false _ A6.out).mono ?_); rintro e w' ⟨rfl, ⟨nd, rfl⟩⟩; refine ⟨_, rfl, ?_⟩; (try (rw [drewN_self ob]; generalize hq_ : World.drewN ob _ = ob; have Ua : Aside0 (ob.heap[Za]? = some (.cells #[.string da, .slice ia aa.length ga] 24 (0, 0))) := ⟨by rw [← hq_]; exact (bk_ ca.out)⟩; have Va : Aside0 (ob.heap[Ea]? = some (.cells #[.string (⟨#[]⟩ : ByteArray), .slice none 0 0] 24 (0, 0))) := ⟨by rw [← hq_]; exact (bk_ ea.out)⟩; have Wa : Aside0 (Below w.heap.size w ob) := ⟨by rw [← hq_]; exact hB_⟩; clear ca ea HB hq_; have ca := Ua; have ea := Va; have HB := Wa; clear Ua Va Wa)); obtain ⟨ae, be⟩ := kC2_ ea.out; obtain ⟨ce, de⟩ := kZ2_ ea.out))
  refine bodyPost_ret (results_ct rfl _ _ Ea 24 #[.string (⟨#[]⟩ : ByteArray), .slice none 0 0] (0, 0) _ rfl (by exact puts_ ea.out) Tryd.underlying24 rfl (by kernel_rfl)) rfl ?_
  exact ⟨_, eW_, by first | exact Kd.R_nil _ _ _ _ _ | exact Kd.N_nil _ _ _ _ _ | exact Kd.V_nil _ _ _ _ _ | exact Kd.Q_nil _ _ _ _ _ | exact Kd.S_nil _ _ _ _ _, hB_⟩
 subst c7
 have H1 : (if 0 ≤ a1 then (if a1 < (aa.length : Int) then (if (wrap64 (((rd_T35 aa a1).f3) + 1)) > 255 then ((database_with.f da aa a1 ((rd_T35 aa a1).f0) ((rd_T35 aa a1).f1) a2 1 ((rd_T35 aa a1).f4) ((rd_T35 aa a1).f5) ((rd_T35 aa a1).f6) ((rd_T35 aa a1).f7) ((rd_T35 aa a1).f8)).bind fun Ia => (some (Ia.1, Ia.2, 0))) else ((database_with.f da aa a1 ((rd_T35 aa a1).f0) ((rd_T35 aa a1).f1) a2 (wrap64 (((rd_T35 aa a1).f3) + 1)) ((rd_T35 aa a1).f4) ((rd_T35 aa a1).f5) ((rd_T35 aa a1).f6) ((rd_T35 aa a1).f7) ((rd_T35 aa a1).f8)).bind fun Ja => (some (Ja.1, Ja.2, 0)))) else (none)) else (none)) = some (r1, r2, r3) := by rw [if_pos rfl] at H; exact H
 clear H
 have H := H1
 clear H1
 by_cases c8 : 0 ≤ a1
 rotate_left
 ·rw [if_neg c8] at H
  exact absurd H (by simp)
 rw [if_pos c8] at H
 have eg : decide (0 ≤ a1) = true := decide_eq_true c8
 clear c8
 by_cases c9 : a1 < (aa.length : Int)
 rotate_left
 ·rw [if_neg c9] at H
  exact absurd H (by simp)
 rw [if_pos c9] at H
 have ec : decide (a1 < (aa.length : Int)) = true := decide_eq_true c9
 clear c9
 by_cases pb : (wrap64 (((rd_T35 aa a1).f3) + 1)) > 255
 ·rw [if_pos pb] at H
  have Dc : decide (255 < (wrap64 (((rd_T35 aa a1).f3) + 1))) = true := decide_eq_true pb
  clear pb
  replace H := Option.bind_eq_some_iff.mp H
  obtain ⟨⟨rc, sc⟩, tc, H⟩ := H
  try dsimp only at H
  have rf := aM_ tc
  clear tc
  simp only [Option.some.injEq, Prod.mk.injEq] at H
  obtain ⟨rfl, rfl, rfl⟩ := H
  go_enter Tryd.func26, Tryd.ntmps26
  go_upto_region 9 with (first | ((with_reducible refine gate_dst (N := 3) rfl ?_); refine bE_ 3 24 #[.string da, .slice ia aa.length ga] ?_; intro Za hg qf hbox hb; have ca := aM_ (hbox); have xb := aM_ (gB_ hg HB.out); have yb := aM_ (gB_ hg HB.out); replace HB := aM_ (below_step (bk_ HB.out) hb); clear hb hbox hg) | ((with_reducible refine gate_dst (N := 6) rfl ?_); refine bE_ 6 24 #[.string (⟨#[]⟩ : ByteArray), .slice none 0 0] ?_; intro Ea hg pg hbox hb; have ea := aM_ (hbox); have zb := aM_ (gB_ hg HB.out); have Ab := aM_ (gB_ hg HB.out); replace HB := aM_ (below_step hB_ hb); have pa := aM_ (nL_ hg ca.out); have qa := aM_ (nG_ hg ca.out); replace ca := aM_ (kG_ ca.out hb); clear hb hbox hg; have Qf := pa.out; have Rf := qa.out; obtain ⟨Rb, Sb⟩ := kC2_ ca.out; obtain ⟨Tb, Ub⟩ := kZ2_ ca.out) | ((with_reducible refine gate_callee (f := 52) rfl ?_); refine gC_ (some 12) 52 #[.agg #[.string da, .slice ia aa.length ga], .int .i64 a1] Tryd.func52 ?_; (with_reducible refine (database_has.calls k da _ _ aa a1 ta _ ?side1 ?side2 A4.out).mono ?_); (case side1 => exact cC_ la.out HB.out); (case side2 => exact ra.out); rintro e kb ⟨rfl, hb⟩; refine ⟨_, rfl, ?_⟩; replace ca := aM_ (kG_ ca.out hb); replace ea := aM_ (kG_ ea.out hb); replace HB := aM_ (below_step hB_ hb); clear hb) | ((with_reducible refine gate_callee (f := 41) rfl ?_); refine gC_ (some 18) 41 #[.int .u64 a2] Tryd.func41 ?_; (with_reducible refine (key_Valid.calls a2 true _ A6.out).mono ?_); rintro e w' ⟨rfl, ⟨nd, rfl⟩⟩; refine ⟨_, rfl, ?_⟩; (try (rw [drewN_self kb]; generalize hq_ : World.drewN kb _ = kb; have Ua : Aside0 (kb.heap[Za]? = some (.cells #[.string da, .slice ia aa.length ga] 24 (0, 0))) := ⟨by rw [← hq_]; exact (bk_ ca.out)⟩; have Va : Aside0 (kb.heap[Ea]? = some (.cells #[.string (⟨#[]⟩ : ByteArray), .slice none 0 0] 24 (0, 0))) := ⟨by rw [← hq_]; exact (bk_ ea.out)⟩; have Wa : Aside0 (Below w.heap.size w kb) := ⟨by rw [← hq_]; exact hB_⟩; clear ca ea HB hq_; have ca := Ua; have ea := Va; have HB := Wa; clear Ua Va Wa)); obtain ⟨Vb, Wb⟩ := kC2_ ca.out; obtain ⟨Xb, Yb⟩ := kZ2_ ca.out; have bb : 0 ≤ (a1 : Int) := dT_; have cb : a1 < (aa.length : Int) := dT_; obtain ⟨Bb, Kb, Ka, La, Ma, Na, Oa, Pa, Qa, Ra, Sa⟩ := at_T35 la.out a1 bb cb; cases Kb; replace Ka := cH_ HB.out Ka; replace La := cH_ HB.out La; replace Ma := cH_ HB.out Ma; replace Na := cH_ HB.out Na; replace Oa := cH_ HB.out Oa; replace Pa := cH_ HB.out Pa; replace Qa := cH_ HB.out Qa; replace Ra := cH_ HB.out Ra; replace Sa := cH_ HB.out Sa; replace bb := eq_true bb; replace cb := eq_true cb) | ((with_reducible refine gate_dst (N := 9) rfl ?_); refine bE_ 9 35 #[.string (⟨#[]⟩ : ByteArray), .string (⟨#[]⟩ : ByteArray), .int .u64 0, .int .i64 0, .int .i64 0, .int .i64 0, .int .i64 0, .int .i64 0, .int .i64 0] ?_; intro eb hg jf hbox hb; have ua := aM_ (hbox); have Ec := aM_ (gB_ hg HB.out); have Fc := aM_ (gB_ hg HB.out); replace HB := aM_ (below_step hB_ hb); have Fa := aM_ (nL_ hg ca.out); have Xa := aM_ (nG_ hg ca.out); replace ca := aM_ (kG_ ca.out hb); have Ga := aM_ (nL_ hg ea.out); have Ya := aM_ (nG_ hg ea.out); replace ea := aM_ (kG_ ea.out hb); clear hb hbox hg; have zc := Xa.out; have Ac := Fa.out; have Sf := Ya.out; have Tf := Ga.out; obtain ⟨ee, fe, ge, he, ie, je, ke, le, me⟩ := kC9_ ua.out; obtain ⟨ne, oe, pe, qe, re, se, te, ue, ve⟩ := kZ9_ ua.out; obtain ⟨we, xe⟩ := kC2_ ca.out; obtain ⟨ye, ze⟩ := kZ2_ ca.out))
  refine hideC_ fun W1_ hW1_ => ?_
  have laW : W1_.heap[eb]? = some (.cells #[.string ((rd_T35 aa a1).f0), .string ((rd_T35 aa a1).f1), .int .u64 a2, .int .i64 (wrap64 (((rd_T35 aa a1).f3) + 1)), .int .i64 ((rd_T35 aa a1).f4), .int .i64 ((rd_T35 aa a1).f5), .int .i64 ((rd_T35 aa a1).f6), .int .i64 ((rd_T35 aa a1).f7), .int .i64 ((rd_T35 aa a1).f8)] 35 (0, 0)) := by rw [hW1_.out]; exact puts_ ua.out
  have caW : W1_.heap[Za]? = some (.cells #[.string da, .slice (some Bb) aa.length ga] 24 (0, 0)) := by (rw [hW1_.out]; exact far_ Fa.out ca.out)
  have lw0_ := bc_ laW 0
  have lw1_ := bc_ laW 1
  have lw2_ := bc_ laW 2
  have lw3_ := bc_ laW 3
  have lw4_ := bc_ laW 4
  have lw5_ := bc_ laW 5
  have lw6_ := bc_ laW 6
  have lw7_ := bc_ laW 7
  have lw8_ := bc_ laW 8
  have lwf_ := blk_frozen laW 3
  have cw0_ := bc_ caW 0
  have cw1_ := bc_ caW 1
  clear laW caW
  go_wp2_with (first | ((with_reducible refine gate_callee (f := 53) rfl ?_); obtain ⟨hW1_⟩ := hW1_; subst hW1_; refine gC_ (some 39) 53 #[.agg #[.string da, .slice (some Bb) aa.length ga], .int .i64 a1, .agg #[.string ((rd_T35 aa a1).f0), .string ((rd_T35 aa a1).f1), .int .u64 a2, .int .i64 1, .int .i64 ((rd_T35 aa a1).f4), .int .i64 ((rd_T35 aa a1).f5), .int .i64 ((rd_T35 aa a1).f6), .int .i64 ((rd_T35 aa a1).f7), .int .i64 ((rd_T35 aa a1).f8)]] Tryd.func53 ?_; (with_reducible refine (database_with.calls da _ _ aa a1 ((rd_T35 aa a1).f0) ((rd_T35 aa a1).f1) a2 1 ((rd_T35 aa a1).f4) ((rd_T35 aa a1).f5) ((rd_T35 aa a1).f6) ((rd_T35 aa a1).f7) ((rd_T35 aa a1).f8) rc sc _ ?side1 ?side2 rf.out).mono ?_); (case side1 => exact Kd.C_below la.out hB_); (case side2 => exact ra.out); rintro e qg ⟨fg, rfl, ib, hb⟩; refine ⟨_, rfl, ?_⟩; have Lb := aM_ (Kd.R_lower (Kd.R_newB ib (g := eb) (o := .cells #[.string ((rd_T35 aa a1).f0), .string ((rd_T35 aa a1).f1), .int .u64 a2, .int .i64 1, .int .i64 ((rd_T35 aa a1).f4), .int .i64 ((rd_T35 aa a1).f5), .int .i64 ((rd_T35 aa a1).f6), .int .i64 ((rd_T35 aa a1).f7), .int .i64 ((rd_T35 aa a1).f8)] 35 (0, 0)) (by exact puts_ ua.out)) (below_size hB_)); replace ca := aM_ (blk_below (far_ Fa.out ca.out) hb); replace ea := aM_ (blk_below (far_ Ga.out ea.out) hb); replace ua := aM_ (blk_below (g := eb) (o := .cells #[.string ((rd_T35 aa a1).f0), .string ((rd_T35 aa a1).f1), .int .u64 a2, .int .i64 1, .int .i64 ((rd_T35 aa a1).f4), .int .i64 ((rd_T35 aa a1).f5), .int .i64 ((rd_T35 aa a1).f6), .int .i64 ((rd_T35 aa a1).f7), .int .i64 ((rd_T35 aa a1).f8)] 35 (0, 0)) (by exact puts_ ua.out) hb); replace HB := aM_ (below_step hB_ hb); clear hb ib; obtain ⟨ac, bc⟩ := kC2_ ea.out; obtain ⟨cc, dc⟩ := kZ2_ ea.out; obtain ⟨Uc, Vc, Wc⟩ := Kd.R_slice Lb.out; subst Wc))
  refine bodyPost_ret (results_ct rfl _ _ Ea 24 #[.string rc, .slice Uc sc.length Vc] (0, 0) _ rfl (by exact puts_ ea.out) Tryd.underlying24 rfl (by kernel_rfl)) rfl ?_
  exact ⟨_, eW_, by refine bk_ ?_; exact Kd.R_mono (rF_ (rF_ (Kd.R_types Lb.out ea.out (by decide)))) (fun _ hk => trivial), hB_⟩
 rw [if_neg pb] at H
 have Dc : decide (255 < (wrap64 (((rd_T35 aa a1).f3) + 1))) = false := decide_eq_false pb
 clear pb
 replace H := Option.bind_eq_some_iff.mp H
 obtain ⟨⟨uc, vc⟩, wc, H⟩ := H
 try dsimp only at H
 have sf := aM_ wc
 clear wc
 simp only [Option.some.injEq, Prod.mk.injEq] at H
 obtain ⟨rfl, rfl, rfl⟩ := H
 go_enter Tryd.func26, Tryd.ntmps26
 go_upto_region 9 with (first | ((with_reducible refine gate_dst (N := 3) rfl ?_); refine bE_ 3 24 #[.string da, .slice ia aa.length ga] ?_; intro Za hg rg hbox hb; have ca := aM_ (hbox); have xb := aM_ (gB_ hg HB.out); have yb := aM_ (gB_ hg HB.out); replace HB := aM_ (below_step (bk_ HB.out) hb); clear hb hbox hg) | ((with_reducible refine gate_dst (N := 6) rfl ?_); refine bE_ 6 24 #[.string (⟨#[]⟩ : ByteArray), .slice none 0 0] ?_; intro Ea hg sg hbox hb; have ea := aM_ (hbox); have zb := aM_ (gB_ hg HB.out); have Ab := aM_ (gB_ hg HB.out); replace HB := aM_ (below_step hB_ hb); have pa := aM_ (nL_ hg ca.out); have qa := aM_ (nG_ hg ca.out); replace ca := aM_ (kG_ ca.out hb); clear hb hbox hg; have Uf := pa.out; have Vf := qa.out; obtain ⟨Ae, Be⟩ := kC2_ ca.out; obtain ⟨Ce, De⟩ := kZ2_ ca.out) | ((with_reducible refine gate_callee (f := 52) rfl ?_); refine gC_ (some 12) 52 #[.agg #[.string da, .slice ia aa.length ga], .int .i64 a1] Tryd.func52 ?_; (with_reducible refine (database_has.calls k da _ _ aa a1 ta _ ?side1 ?side2 A4.out).mono ?_); (case side1 => exact cC_ la.out HB.out); (case side2 => exact ra.out); rintro e qb ⟨rfl, hb⟩; refine ⟨_, rfl, ?_⟩; replace ca := aM_ (kG_ ca.out hb); replace ea := aM_ (kG_ ea.out hb); replace HB := aM_ (below_step hB_ hb); clear hb) | ((with_reducible refine gate_callee (f := 41) rfl ?_); refine gC_ (some 18) 41 #[.int .u64 a2] Tryd.func41 ?_; (with_reducible refine (key_Valid.calls a2 true _ A6.out).mono ?_); rintro e w' ⟨rfl, ⟨nd, rfl⟩⟩; refine ⟨_, rfl, ?_⟩; (try (rw [drewN_self qb]; generalize hq_ : World.drewN qb _ = qb; have Ua : Aside0 (qb.heap[Za]? = some (.cells #[.string da, .slice ia aa.length ga] 24 (0, 0))) := ⟨by rw [← hq_]; exact (bk_ ca.out)⟩; have Va : Aside0 (qb.heap[Ea]? = some (.cells #[.string (⟨#[]⟩ : ByteArray), .slice none 0 0] 24 (0, 0))) := ⟨by rw [← hq_]; exact (bk_ ea.out)⟩; have Wa : Aside0 (Below w.heap.size w qb) := ⟨by rw [← hq_]; exact hB_⟩; clear ca ea HB hq_; have ca := Ua; have ea := Va; have HB := Wa; clear Ua Va Wa)); obtain ⟨Ee, Fe⟩ := kC2_ ca.out; obtain ⟨Ge, He⟩ := kZ2_ ca.out; have bb : 0 ≤ (a1 : Int) := dT_; have cb : a1 < (aa.length : Int) := dT_; obtain ⟨Bb, Kb, Ka, La, Ma, Na, Oa, Pa, Qa, Ra, Sa⟩ := at_T35 la.out a1 bb cb; cases Kb; replace Ka := cH_ HB.out Ka; replace La := cH_ HB.out La; replace Ma := cH_ HB.out Ma; replace Na := cH_ HB.out Na; replace Oa := cH_ HB.out Oa; replace Pa := cH_ HB.out Pa; replace Qa := cH_ HB.out Qa; replace Ra := cH_ HB.out Ra; replace Sa := cH_ HB.out Sa; replace bb := eq_true bb; replace cb := eq_true cb) | ((with_reducible refine gate_dst (N := 9) rfl ?_); refine bE_ 9 35 #[.string (⟨#[]⟩ : ByteArray), .string (⟨#[]⟩ : ByteArray), .int .u64 0, .int .i64 0, .int .i64 0, .int .i64 0, .int .i64 0, .int .i64 0, .int .i64 0] ?_; intro eb hg tg hbox hb; have ua := aM_ (hbox); have Ec := aM_ (gB_ hg HB.out); have Fc := aM_ (gB_ hg HB.out); replace HB := aM_ (below_step hB_ hb); have Fa := aM_ (nL_ hg ca.out); have Xa := aM_ (nG_ hg ca.out); replace ca := aM_ (kG_ ca.out hb); have Ga := aM_ (nL_ hg ea.out); have Ya := aM_ (nG_ hg ea.out); replace ea := aM_ (kG_ ea.out hb); clear hb hbox hg; have Wf := Xa.out; have Xf := Fa.out; have Yf := Ya.out; have Zf := Ga.out; obtain ⟨Ie, Je, Ke, Le, Me, Ne, Oe, Pe, Qe⟩ := kC9_ ua.out; obtain ⟨Re, Se, Te, Ue, Ve, We, Xe, Ye, Ze⟩ := kZ9_ ua.out; obtain ⟨af, bf⟩ := kC2_ ca.out; obtain ⟨cf, df⟩ := kZ2_ ca.out))
 refine hideC_ fun W1_ hW1_ => ?_
 have laW : W1_.heap[eb]? = some (.cells #[.string ((rd_T35 aa a1).f0), .string ((rd_T35 aa a1).f1), .int .u64 a2, .int .i64 (wrap64 (((rd_T35 aa a1).f3) + 1)), .int .i64 ((rd_T35 aa a1).f4), .int .i64 ((rd_T35 aa a1).f5), .int .i64 ((rd_T35 aa a1).f6), .int .i64 ((rd_T35 aa a1).f7), .int .i64 ((rd_T35 aa a1).f8)] 35 (0, 0)) := by rw [hW1_.out]; exact puts_ ua.out
 have caW : W1_.heap[Za]? = some (.cells #[.string da, .slice (some Bb) aa.length ga] 24 (0, 0)) := by (rw [hW1_.out]; exact far_ Fa.out ca.out)
 have lw0_ := bc_ laW 0
 have lw1_ := bc_ laW 1
 have lw2_ := bc_ laW 2
 have lw3_ := bc_ laW 3
 have lw4_ := bc_ laW 4
 have lw5_ := bc_ laW 5
 have lw6_ := bc_ laW 6
 have lw7_ := bc_ laW 7
 have lw8_ := bc_ laW 8
 have lwf_ := blk_frozen laW 3
 have cw0_ := bc_ caW 0
 have cw1_ := bc_ caW 1
 clear laW caW
 go_wp2_with (first | ((with_reducible refine gate_callee (f := 53) rfl ?_); obtain ⟨hW1_⟩ := hW1_; subst hW1_; refine gC_ (some 39) 53 #[.agg #[.string da, .slice (some Bb) aa.length ga], .int .i64 a1, .agg #[.string ((rd_T35 aa a1).f0), .string ((rd_T35 aa a1).f1), .int .u64 a2, .int .i64 (wrap64 (((rd_T35 aa a1).f3) + 1)), .int .i64 ((rd_T35 aa a1).f4), .int .i64 ((rd_T35 aa a1).f5), .int .i64 ((rd_T35 aa a1).f6), .int .i64 ((rd_T35 aa a1).f7), .int .i64 ((rd_T35 aa a1).f8)]] Tryd.func53 ?_; (with_reducible refine (database_with.calls da _ _ aa a1 ((rd_T35 aa a1).f0) ((rd_T35 aa a1).f1) a2 (wrap64 (((rd_T35 aa a1).f3) + 1)) ((rd_T35 aa a1).f4) ((rd_T35 aa a1).f5) ((rd_T35 aa a1).f6) ((rd_T35 aa a1).f7) ((rd_T35 aa a1).f8) uc vc _ ?side1 ?side2 sf.out).mono ?_); (case side1 => exact Kd.C_below la.out hB_); (case side2 => exact ra.out); rintro e ug ⟨gg, rfl, ib, hb⟩; refine ⟨_, rfl, ?_⟩; have Mb := aM_ (Kd.R_lower (Kd.R_newB ib (g := eb) (o := .cells #[.string ((rd_T35 aa a1).f0), .string ((rd_T35 aa a1).f1), .int .u64 a2, .int .i64 (wrap64 (((rd_T35 aa a1).f3) + 1)), .int .i64 ((rd_T35 aa a1).f4), .int .i64 ((rd_T35 aa a1).f5), .int .i64 ((rd_T35 aa a1).f6), .int .i64 ((rd_T35 aa a1).f7), .int .i64 ((rd_T35 aa a1).f8)] 35 (0, 0)) (by exact puts_ ua.out)) (below_size hB_)); replace ca := aM_ (blk_below (far_ Fa.out ca.out) hb); replace ea := aM_ (blk_below (far_ Ga.out ea.out) hb); replace ua := aM_ (blk_below (g := eb) (o := .cells #[.string ((rd_T35 aa a1).f0), .string ((rd_T35 aa a1).f1), .int .u64 a2, .int .i64 (wrap64 (((rd_T35 aa a1).f3) + 1)), .int .i64 ((rd_T35 aa a1).f4), .int .i64 ((rd_T35 aa a1).f5), .int .i64 ((rd_T35 aa a1).f6), .int .i64 ((rd_T35 aa a1).f7), .int .i64 ((rd_T35 aa a1).f8)] 35 (0, 0)) (by exact puts_ ua.out) hb); replace HB := aM_ (below_step hB_ hb); clear hb ib; obtain ⟨ef, ff⟩ := kC2_ ea.out; obtain ⟨gf, hf⟩ := kZ2_ ea.out; obtain ⟨Xc, Yc, Zc⟩ := Kd.R_slice Mb.out; subst Zc))
 refine bodyPost_ret (results_ct rfl _ _ Ea 24 #[.string uc, .slice Xc vc.length Yc] (0, 0) _ rfl (by exact puts_ ea.out) Tryd.underlying24 rfl (by kernel_rfl)) rfl ?_
 exact ⟨_, eW_, by refine bk_ ?_; exact Kd.R_mono (rF_ (rF_ (Kd.R_types Mb.out ea.out (by decide)))) (fun _ hk => trivial), hB_⟩

end Go.Proofs.YthfdfoigoomaoaaDoor.PDb
