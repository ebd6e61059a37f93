/- The walks of functions of the translation: each call returns what the plain function beside it says. -/
import Derived.Test.YthfdfoigoomaoaaDoorPDbx0
import Derived.Test.YthfdfoigoomaoaaDoorPDbx3
import Derived.Test.YthfdfoigoomaoaaDoorPDbx4
import Derived.Test.YthfdfoigoomaoaaDoorPDbx5
namespace Go.Proofs.YthfdfoigoomaoaaDoor.PDb
open Go.RowKit Go.Proofs.YthfdfoigoomaoaaDoorW.PrintWords Go.Proofs.YthfdfoigoomaoaaDoorW.PrintLast Go.Proofs.YthfdfoigoomaoaaDoorW.PrintMore Go.Proofs.YthfdfoigoomaoaaDoor.Aid
attribute [local go_sem] max2_int min2_int max_two min_two max_three min_three max_four min_four aid_str_gtr aid_str_leq   -- for this text's walks alone
set_option linter.unusedVariables false
set_option linter.unusedSimpArgs false

/-! ### database_Add: function 25 -/
def database_Add.l0 : Nat → Int → ByteArray → List (S35) → ByteArray → ByteArray → Int → Int → Int → Int → Int → Int → Int → Option (ByteArray × (List (S35)) × Int)
 | 0, _, _, _, _, _, _, _, _, _, _, _, _ => none
 | k + 1, x8, sb, xa, bb, cb, db, eb, fb, gb, ib, jb, kb => if x8 > 0 then (if 0 ≤ (wrap64 (x8 - 1)) then (if (wrap64 (x8 - 1)) < (xa.length : Int) then ((database_compare.f k ((rd_T35 xa (wrap64 (x8 - 1))).f0) ((rd_T35 xa (wrap64 (x8 - 1))).f1) ((rd_T35 xa (wrap64 (x8 - 1))).f2) ((rd_T35 xa (wrap64 (x8 - 1))).f3) ((rd_T35 xa (wrap64 (x8 - 1))).f4) ((rd_T35 xa (wrap64 (x8 - 1))).f5) ((rd_T35 xa (wrap64 (x8 - 1))).f6) ((rd_T35 xa (wrap64 (x8 - 1))).f7) ((rd_T35 xa (wrap64 (x8 - 1))).f8) bb cb db eb fb gb ib jb kb).bind fun Za => (if Za > 0 then (database_Add.l0 k (wrap64 (x8 - 1)) sb xa bb cb db eb fb gb ib jb kb) else ((api_Entry_51.f xa).bind fun Ta => ((api_Entry_50.f Ta x8 (([(⟨bb, cb, db, eb, fb, gb, ib, jb, kb⟩ : S35)] : List (S35)))).bind fun ab => (some (sb, ab, 0)))))) else (none)) else (none)) else ((api_Entry_51.f xa).bind fun Xa => ((api_Entry_50.f Xa x8 (([(⟨bb, cb, db, eb, fb, gb, ib, jb, kb⟩ : S35)] : List (S35)))).bind fun mb => (some (sb, mb, 0))))
def database_Add.f (k : Nat) (qa : ByteArray) (ca : List (S35)) (ga : ByteArray) (ha : ByteArray) (ia : Int) (ja : Int) (ka : Int) (la : Int) (ma : Int) (na : Int) (oa : Int) : Option (ByteArray × (List (S35)) × Int) := (database_Check.f k qa ca).bind fun Qa => (if Qa = 0 then ((database_CheckEntry.f k ga ha ia ja ka la ma na oa).bind fun Sa => (if Sa = 0 then (if (ca.length : Int) = 60 then (some ((⟨#[]⟩ : ByteArray), ([] : List (S35)), 106)) else (database_Add.l0 k (ca.length : Int) qa ca ga ha ia ja ka la ma na oa)) else (some ((⟨#[]⟩ : ByteArray), ([] : List (S35)), Sa)))) else (some ((⟨#[]⟩ : ByteArray), ([] : List (S35)), Qa)))
def database_Add.T10 : Bool × List (List Nat × List Nat) := (true,[([], []), ([0], [0]), ([1], [1]), ([2], [2]), ([3, 2], [2, 3]), ([2], [2]), ([5, 2], [2, 5]), ([4, 6, 2], [2, 4, 6]), ([7, 2], [2, 7]), ([2], [2]), ([8, 9, 2, 2], [2, 8, 9]), ([10, 2], [2, 10]), ([2, 11], [2, 11])])
def database_Add.B10 : List Nat := [0, 1, 3, 7, 15, 7, 39, 127, 255, 7, 1023, 2047, 4095]
theorem database_Add.tab10 : rtab .any (opsOf Tryd.f25 10) = database_Add.T10 := by kernel_rfl
theorem database_Add.bits10 : waitsOk database_Add.T10.2 database_Add.B10 = true := by kernel_rfl
def database_Add.T12 : Bool × List (List Nat × List Nat) := (true,[([], []), ([0], [0]), ([1], [1]), ([], []), ([], []), ([4], [4]), ([2, 3, 5, 2], [2, 3, 5]), ([0, 1, 2, 3, 4, 5, 6], []), ([7, 6, 6, 0, 1, 2, 3, 4, 5, 6], [6, 7])])
def database_Add.B12 : List Nat := [0, 1, 3, 0, 0, 16, 63, 127, 255]
theorem database_Add.tab12 : rtab .any (opsOf Tryd.f25 12) = database_Add.T12 := by kernel_rfl
theorem database_Add.bits12 : waitsOk database_Add.T12.2 database_Add.B12 = true := by kernel_rfl
set_option maxHeartbeats 8000000 in
set_option maxRecDepth 100000 in
theorem database_Add.calls (k : Nat) (qa : ByteArray) (Aa : Option Addr) (ta : Nat) (ca : List (S35)) (ga : ByteArray) (ha : ByteArray) (ia : Int) (ja : Int) (ka : Int) (la : Int) (ma : Int) (na : Int) (oa : Int) (r1 : ByteArray) (r2 : List (S35)) (r3 : Int) (w : World) (hr0_1 : Kd.C k35 w Aa ca.length ca) (hc0_1 : ca.length ≤ ta) (h : database_Add.f k qa ca ga ha ia ja ka la ma na oa = some (r1, r2, r3)) :
  Calls Tryd.prog 25 #[.agg #[.string qa, .slice Aa ca.length ta], .agg #[.string ga, .string ha, .int .u64 ia, .int .i64 ja, .int .i64 ka, .int .i64 la, .int .i64 ma, .int .i64 na, .int .i64 oa]] w fun e w' => ∃ Od : Value, e = .returned (.tuple #[.agg #[.string r1, Od], .int .i64 r3]) ∧ Kd.R k35 35 w' w.heap.size (fun _ => True) Od r2 ∧ Below w.heap.size w w' := by
 have hu24 := Tryd.underlying24
 have hu35 := Tryd.underlying35
 have Ua := aM_ hr0_1
 have Ya := aM_ hc0_1
 clear hr0_1 hc0_1
 have HB := aM_ (Below.refl w.heap.size w)
 have H : ((database_Check.f k qa ca).bind fun Qa => (if Qa = 0 then ((database_CheckEntry.f k ga ha ia ja ka la ma na oa).bind fun Sa => (if Sa = 0 then (if (ca.length : Int) = 60 then (some ((⟨#[]⟩ : ByteArray), ([] : List (S35)), 106)) else (database_Add.l0 k (ca.length : Int) qa ca ga ha ia ja ka la ma na oa)) else (some ((⟨#[]⟩ : ByteArray), ([] : List (S35)), Sa)))) else (some ((⟨#[]⟩ : ByteArray), ([] : List (S35)), Qa)))) = some (r1, r2, r3) := h
 clear h
 replace H := Option.bind_eq_some_iff.mp H
 obtain ⟨Qa, Pd, H⟩ := H
 try dsimp only at H
 have A3 := aM_ Pd
 clear Pd
 by_cases c4 : Qa = 0
 rotate_left
 ·rw [if_neg c4] at H
  have ld : (Qa == 0) = false := beq_eq_false_iff_ne.mpr c4
  have md : (Qa != 0) = true := bne_iff_ne.mpr c4
  simp only [Option.some.injEq, Prod.mk.injEq] at H
  obtain ⟨rfl, rfl, rfl⟩ := H
  go_enter Tryd.func25, Tryd.ntmps25
  go_wp2_with (first | ((with_reducible refine gate_dst (N := 2) rfl ?_); refine bE_ 2 24 #[.string qa, .slice Aa ca.length ta] ?_; intro ra hg Uf hbox hb; have ba := aM_ (hbox); have Fb := aM_ (gB_ hg HB.out); have pb := aM_ (gB_ hg HB.out); replace HB := aM_ (below_step (bk_ HB.out) hb); clear hb hbox hg) | ((with_reducible refine gate_dst (N := 3) rfl ?_); refine bE_ 3 35 #[.string ga, .string ha, .int .u64 ia, .int .i64 ja, .int .i64 ka, .int .i64 la, .int .i64 ma, .int .i64 na, .int .i64 oa] ?_; intro da hg Vf hbox hb; have aa := aM_ (hbox); have Gb := aM_ (gB_ hg HB.out); have qb := aM_ (gB_ hg HB.out); replace HB := aM_ (below_step hB_ hb); have ua := aM_ (nL_ hg ba.out); have va := aM_ (nG_ hg ba.out); replace ba := aM_ (kG_ ba.out hb); clear hb hbox hg) | ((with_reducible refine gate_dst (N := 4) rfl ?_); refine bE_ 4 24 #[.string (⟨#[]⟩ : ByteArray), .slice none 0 0] ?_; intro Fa hg Wf hbox hb; have fa := aM_ (hbox); have Hb := aM_ (gB_ hg HB.out); have rb := aM_ (gB_ hg HB.out); replace HB := aM_ (below_step hB_ hb); have wa := aM_ (nL_ hg ba.out); have sa := aM_ (nG_ hg ba.out); replace ba := aM_ (kG_ ba.out hb); have ya := aM_ (nL_ hg aa.out); have za := aM_ (nG_ hg aa.out); replace aa := aM_ (kG_ aa.out hb); clear hb hbox hg; have ef := ua.out; have ff := va.out; have gf := wa.out; have hf := sa.out; obtain ⟨Yd, Zd⟩ := kC2_ ba.out; obtain ⟨ae, be⟩ := kZ2_ ba.out) | ((with_reducible refine gate_callee (f := 10) rfl ?_); refine gC_ (some 10) 10 #[.agg #[.string qa, .slice Aa ca.length ta]] Tryd.func10 ?_; (with_reducible refine (database_Check.calls k qa _ _ ca Qa _ ?side1 ?side2 A3.out).mono ?_); (case side1 => exact cC_ Ua.out HB.out); (case side2 => exact Ya.out); rintro e Xf ⟨rfl, hb⟩; refine ⟨_, rfl, ?_⟩; replace ba := aM_ (kG_ ba.out hb); replace aa := aM_ (kG_ aa.out hb); replace fa := aM_ (kG_ fa.out hb); replace HB := aM_ (below_step hB_ hb); clear hb; have jf := za.out; have kf := ya.out; obtain ⟨ce, de⟩ := kC2_ fa.out; obtain ⟨ee, fe⟩ := kZ2_ fa.out))
  refine bodyPost_ret (results_ct rfl _ _ Fa 24 #[.string (⟨#[]⟩ : ByteArray), .slice none 0 0] (0, 0) _ rfl (by exact puts_ fa.out) Tryd.underlying24 rfl (by kernel_rfl)) rfl ?_
  exact ⟨_, eW_, by first | exact Kd.R_nil _ _ _ _ _ | exact Kd.N_nil _ _ _ _ _ | exact Kd.V_nil _ _ _ _ _ | exact Kd.Q_nil _ _ _ _ _ | exact Kd.S_nil _ _ _ _ _, hB_⟩
 rw [if_pos c4] at H
 have ld : (Qa == 0) = true := beq_iff_eq.mpr c4
 have md : (Qa != 0) = false := bne_eq_false_iff_eq.mpr c4
 clear c4
 replace H := Option.bind_eq_some_iff.mp H
 obtain ⟨Sa, Qd, H⟩ := H
 try dsimp only at H
 have A5 := aM_ Qd
 clear Qd
 by_cases c6 : Sa = 0
 rotate_left
 ·rw [if_neg c6] at H
  have nd : (Sa == 0) = false := beq_eq_false_iff_ne.mpr c6
  have od : (Sa != 0) = true := bne_iff_ne.mpr c6
  simp only [Option.some.injEq, Prod.mk.injEq] at H
  obtain ⟨rfl, rfl, rfl⟩ := H
  go_enter Tryd.func25, Tryd.ntmps25
  go_wp2_with (first | ((with_reducible refine gate_dst (N := 2) rfl ?_); refine bE_ 2 24 #[.string qa, .slice Aa ca.length ta] ?_; intro ra hg Yf hbox hb; have ba := aM_ (hbox); have Fb := aM_ (gB_ hg HB.out); have pb := aM_ (gB_ hg HB.out); replace HB := aM_ (below_step (bk_ HB.out) hb); clear hb hbox hg) | ((with_reducible refine gate_dst (N := 3) rfl ?_); refine bE_ 3 35 #[.string ga, .string ha, .int .u64 ia, .int .i64 ja, .int .i64 ka, .int .i64 la, .int .i64 ma, .int .i64 na, .int .i64 oa] ?_; intro da hg Zf hbox hb; have aa := aM_ (hbox); have Gb := aM_ (gB_ hg HB.out); have qb := aM_ (gB_ hg HB.out); replace HB := aM_ (below_step hB_ hb); have ua := aM_ (nL_ hg ba.out); have va := aM_ (nG_ hg ba.out); replace ba := aM_ (kG_ ba.out hb); clear hb hbox hg) | ((with_reducible refine gate_dst (N := 4) rfl ?_); refine bE_ 4 24 #[.string (⟨#[]⟩ : ByteArray), .slice none 0 0] ?_; intro Fa hg ag hbox hb; have fa := aM_ (hbox); have Hb := aM_ (gB_ hg HB.out); have rb := aM_ (gB_ hg HB.out); replace HB := aM_ (below_step hB_ hb); have wa := aM_ (nL_ hg ba.out); have sa := aM_ (nG_ hg ba.out); replace ba := aM_ (kG_ ba.out hb); have ya := aM_ (nL_ hg aa.out); have za := aM_ (nG_ hg aa.out); replace aa := aM_ (kG_ aa.out hb); clear hb hbox hg; have lf := ua.out; have mf := va.out; have nf := wa.out; have pf := sa.out; obtain ⟨ge, he⟩ := kC2_ ba.out; obtain ⟨ie, je⟩ := kZ2_ ba.out) | ((with_reducible refine gate_callee (f := 10) rfl ?_); refine gC_ (some 10) 10 #[.agg #[.string qa, .slice Aa ca.length ta]] Tryd.func10 ?_; (with_reducible refine (database_Check.calls k qa _ _ ca Qa _ ?side1 ?side2 A3.out).mono ?_); (case side1 => exact cC_ Ua.out HB.out); (case side2 => exact Ya.out); rintro e bg ⟨rfl, hb⟩; refine ⟨_, rfl, ?_⟩; replace ba := aM_ (kG_ ba.out hb); replace aa := aM_ (kG_ aa.out hb); replace fa := aM_ (kG_ fa.out hb); replace HB := aM_ (below_step hB_ hb); clear hb; have qf := ya.out; have rf := za.out; obtain ⟨ke, le, me, ne, oe, pe, qe, re, se⟩ := kC9_ aa.out; obtain ⟨te, ue, ve, we, xe, ye, ze, Ae, Be⟩ := kZ9_ aa.out) | ((with_reducible refine gate_callee (f := 14) rfl ?_); refine gC_ (some 16) 14 #[.agg #[.string ga, .string ha, .int .u64 ia, .int .i64 ja, .int .i64 ka, .int .i64 la, .int .i64 ma, .int .i64 na, .int .i64 oa]] Tryd.func14 ?_; (with_reducible refine (database_CheckEntry.calls k ga ha ia ja ka la ma na oa Sa _ A5.out).mono ?_); rintro e cg ⟨rfl, hb⟩; refine ⟨_, rfl, ?_⟩; replace ba := aM_ (kG_ ba.out hb); replace aa := aM_ (kG_ aa.out hb); replace fa := aM_ (kG_ fa.out hb); replace HB := aM_ (below_step hB_ hb); clear hb; obtain ⟨Ce, De⟩ := kC2_ fa.out; obtain ⟨Ee, Fe⟩ := kZ2_ fa.out))
  refine bodyPost_ret (results_ct rfl _ _ Fa 24 #[.string (⟨#[]⟩ : ByteArray), .slice none 0 0] (0, 0) _ rfl (by exact puts_ fa.out) Tryd.underlying24 rfl (by kernel_rfl)) rfl ?_
  exact ⟨_, eW_, by first | exact Kd.R_nil _ _ _ _ _ | exact Kd.N_nil _ _ _ _ _ | exact Kd.V_nil _ _ _ _ _ | exact Kd.Q_nil _ _ _ _ _ | exact Kd.S_nil _ _ _ _ _, hB_⟩
 rw [if_pos c6] at H
 have nd : (Sa == 0) = true := beq_iff_eq.mpr c6
 have od : (Sa != 0) = false := bne_eq_false_iff_eq.mpr c6
 clear c6
 by_cases c7 : (ca.length : Int) = 60
 ·rw [if_pos c7] at H
  have pd : ((ca.length : Int) == 60) = true := beq_iff_eq.mpr c7
  have qd : ((ca.length : Int) != 60) = false := bne_eq_false_iff_eq.mpr c7
  clear c7
  simp only [Option.some.injEq, Prod.mk.injEq] at H
  obtain ⟨rfl, rfl, rfl⟩ := H
  go_enter Tryd.func25, Tryd.ntmps25
  go_wp2_with (first | ((with_reducible refine gate_dst (N := 2) rfl ?_); refine bE_ 2 24 #[.string qa, .slice Aa ca.length ta] ?_; intro ra hg w8 hbox hb; have ba := aM_ (hbox); have Fb := aM_ (gB_ hg HB.out); have pb := aM_ (gB_ hg HB.out); replace HB := aM_ (below_step (bk_ HB.out) hb); clear hb hbox hg) | ((with_reducible refine gate_dst (N := 3) rfl ?_); refine bE_ 3 35 #[.string ga, .string ha, .int .u64 ia, .int .i64 ja, .int .i64 ka, .int .i64 la, .int .i64 ma, .int .i64 na, .int .i64 oa] ?_; intro da hg w9 hbox hb; have aa := aM_ (hbox); have Gb := aM_ (gB_ hg HB.out); have qb := aM_ (gB_ hg HB.out); replace HB := aM_ (below_step hB_ hb); have ua := aM_ (nL_ hg ba.out); have va := aM_ (nG_ hg ba.out); replace ba := aM_ (kG_ ba.out hb); clear hb hbox hg) | ((with_reducible refine gate_dst (N := 4) rfl ?_); refine bE_ 4 24 #[.string (⟨#[]⟩ : ByteArray), .slice none 0 0] ?_; intro Fa hg dg hbox hb; have fa := aM_ (hbox); have Hb := aM_ (gB_ hg HB.out); have rb := aM_ (gB_ hg HB.out); replace HB := aM_ (below_step hB_ hb); have wa := aM_ (nL_ hg ba.out); have sa := aM_ (nG_ hg ba.out); replace ba := aM_ (kG_ ba.out hb); have ya := aM_ (nL_ hg aa.out); have za := aM_ (nG_ hg aa.out); replace aa := aM_ (kG_ aa.out hb); clear hb hbox hg; have sf := ua.out; have tf := va.out; have uf := wa.out; have vf := sa.out; obtain ⟨gc, hc⟩ := kC2_ ba.out; obtain ⟨ic, jc⟩ := kZ2_ ba.out) | ((with_reducible refine gate_callee (f := 10) rfl ?_); refine gC_ (some 10) 10 #[.agg #[.string qa, .slice Aa ca.length ta]] Tryd.func10 ?_; (with_reducible refine (database_Check.calls k qa _ _ ca Qa _ ?side1 ?side2 A3.out).mono ?_); (case side1 => exact cC_ Ua.out HB.out); (case side2 => exact Ya.out); rintro e eg ⟨rfl, hb⟩; refine ⟨_, rfl, ?_⟩; replace ba := aM_ (kG_ ba.out hb); replace aa := aM_ (kG_ aa.out hb); replace fa := aM_ (kG_ fa.out hb); replace HB := aM_ (below_step hB_ hb); clear hb; have wf := ya.out; have xf := za.out; obtain ⟨kc, lc, mc, nc, oc, pc, qc, rc, sc⟩ := kC9_ aa.out; obtain ⟨tc, uc, vc, wc, xc, yc, zc, Ac, Bc⟩ := kZ9_ aa.out) | ((with_reducible refine gate_callee (f := 14) rfl ?_); refine gC_ (some 16) 14 #[.agg #[.string ga, .string ha, .int .u64 ia, .int .i64 ja, .int .i64 ka, .int .i64 la, .int .i64 ma, .int .i64 na, .int .i64 oa]] Tryd.func14 ?_; (with_reducible refine (database_CheckEntry.calls k ga ha ia ja ka la ma na oa Sa _ A5.out).mono ?_); rintro e fg ⟨rfl, hb⟩; refine ⟨_, rfl, ?_⟩; replace ba := aM_ (kG_ ba.out hb); replace aa := aM_ (kG_ aa.out hb); replace fa := aM_ (kG_ fa.out hb); replace HB := aM_ (below_step hB_ hb); clear hb; obtain ⟨Cc, Dc⟩ := kC2_ ba.out; obtain ⟨Ec, Fc⟩ := kZ2_ ba.out; obtain ⟨Gc, Hc⟩ := kC2_ fa.out; obtain ⟨Ic, Jc⟩ := kZ2_ fa.out))
  refine bodyPost_ret (results_ct rfl _ _ Fa 24 #[.string (⟨#[]⟩ : ByteArray), .slice none 0 0] (0, 0) _ rfl (by exact puts_ fa.out) Tryd.underlying24 rfl (by kernel_rfl)) rfl ?_
  exact ⟨_, eW_, by first | exact Kd.R_nil _ _ _ _ _ | exact Kd.N_nil _ _ _ _ _ | exact Kd.V_nil _ _ _ _ _ | exact Kd.Q_nil _ _ _ _ _ | exact Kd.S_nil _ _ _ _ _, hB_⟩
 rw [if_neg c7] at H
 have pd : ((ca.length : Int) == 60) = false := beq_eq_false_iff_ne.mpr c7
 have qd : ((ca.length : Int) != 60) = true := bne_iff_ne.mpr c7
 have H' := aM_ H
 clear H
 go_enter Tryd.func25, Tryd.ntmps25
 go_wp2_with (first | ((with_reducible refine gate_dst (N := 2) rfl ?_); refine bE_ 2 24 #[.string qa, .slice Aa ca.length ta] ?_; intro ra hg gg hbox hb; have ba := aM_ (hbox); have Fb := aM_ (gB_ hg HB.out); have pb := aM_ (gB_ hg HB.out); replace HB := aM_ (below_step (bk_ HB.out) hb); clear hb hbox hg) | ((with_reducible refine gate_dst (N := 3) rfl ?_); refine bE_ 3 35 #[.string ga, .string ha, .int .u64 ia, .int .i64 ja, .int .i64 ka, .int .i64 la, .int .i64 ma, .int .i64 na, .int .i64 oa] ?_; intro da hg ig hbox hb; have aa := aM_ (hbox); have Gb := aM_ (gB_ hg HB.out); have qb := aM_ (gB_ hg HB.out); replace HB := aM_ (below_step hB_ hb); have ua := aM_ (nL_ hg ba.out); have va := aM_ (nG_ hg ba.out); replace ba := aM_ (kG_ ba.out hb); clear hb hbox hg) | ((with_reducible refine gate_dst (N := 4) rfl ?_); refine bE_ 4 24 #[.string (⟨#[]⟩ : ByteArray), .slice none 0 0] ?_; intro Fa hg jg hbox hb; have fa := aM_ (hbox); have Hb := aM_ (gB_ hg HB.out); have rb := aM_ (gB_ hg HB.out); replace HB := aM_ (below_step hB_ hb); have wa := aM_ (nL_ hg ba.out); have sa := aM_ (nG_ hg ba.out); replace ba := aM_ (kG_ ba.out hb); have ya := aM_ (nL_ hg aa.out); have za := aM_ (nG_ hg aa.out); replace aa := aM_ (kG_ aa.out hb); clear hb hbox hg; have yf := ua.out; have zf := va.out; have Af := wa.out; have Bf := sa.out; obtain ⟨Kc, Lc⟩ := kC2_ ba.out; obtain ⟨Mc, Nc⟩ := kZ2_ ba.out) | ((with_reducible refine gate_callee (f := 10) rfl ?_); refine gC_ (some 10) 10 #[.agg #[.string qa, .slice Aa ca.length ta]] Tryd.func10 ?_; (with_reducible refine (database_Check.calls k qa _ _ ca Qa _ ?side1 ?side2 A3.out).mono ?_); (case side1 => exact cC_ Ua.out HB.out); (case side2 => exact Ya.out); rintro e kg ⟨rfl, hb⟩; refine ⟨_, rfl, ?_⟩; replace ba := aM_ (kG_ ba.out hb); replace aa := aM_ (kG_ aa.out hb); replace fa := aM_ (kG_ fa.out hb); replace HB := aM_ (below_step hB_ hb); clear hb; have Cf := ya.out; have Df := za.out; obtain ⟨Oc, Pc, Qc, Rc, Sc, Tc, Uc, Vc, Wc⟩ := kC9_ aa.out; obtain ⟨Xc, Yc, Zc, ad, bd, cd, dd, ed, fd⟩ := kZ9_ aa.out) | ((with_reducible refine gate_callee (f := 14) rfl ?_); refine gC_ (some 16) 14 #[.agg #[.string ga, .string ha, .int .u64 ia, .int .i64 ja, .int .i64 ka, .int .i64 la, .int .i64 ma, .int .i64 na, .int .i64 oa]] Tryd.func14 ?_; (with_reducible refine (database_CheckEntry.calls k ga ha ia ja ka la ma na oa Sa _ A5.out).mono ?_); rintro e lg ⟨rfl, hb⟩; refine ⟨_, rfl, ?_⟩; replace ba := aM_ (kG_ ba.out hb); replace aa := aM_ (kG_ aa.out hb); replace fa := aM_ (kG_ fa.out hb); replace HB := aM_ (below_step hB_ hb); clear hb; obtain ⟨gd, id⟩ := kC2_ ba.out; obtain ⟨jd, kd⟩ := kZ2_ ba.out))
 go_loopg [8] k (fun kq v8 w' => ∃ (Ra : Int), v8 = .int .i64 Ra ∧ Aside0 (database_Add.l0 kq Ra qa ca ga ha ia ja ka la ma na oa = some (r1, r2, r3)) ∧ Aside0 (kq ≤ k) ∧ Aside0 (w'.heap[ra]? = some (.cells #[.string qa, (.slice Aa ca.length ta)] 24 (0, 0))) ∧ Aside0 (w'.heap[da]? = some (.cells #[.string ga, .string ha, .int .u64 ia, .int .i64 ja, .int .i64 ka, .int .i64 la, .int .i64 ma, .int .i64 na, .int .i64 oa] 35 (0, 0))) ∧ Aside0 (w'.heap[Fa]? = some (.cells #[.string (⟨#[]⟩ : ByteArray), (.slice none 0 0)] 24 (0, 0))) ∧ Aside0 (Below w.heap.size w w'))
 case atStart => exact ⟨((ca.length : Int)), rS_, H', ⟨Nat.le_refl _⟩, ⟨by refine bk_ ?_; exact ba.out⟩, ⟨by refine bk_ ?_; exact aa.out⟩, ⟨by refine bk_ ?_; exact fa.out⟩, ⟨hB_⟩⟩
 case round =>
  clear H'
  try clear c1
  try clear c2
  try clear p2
  try clear c4
  try clear ld
  try clear md
  try clear c6
  try clear nd
  try clear od
  try clear c7
  try clear pd
  try clear qd
  try clear mg
  try clear ng
  try clear og
  try clear pg
  try clear qg
  try clear rg
  try clear sg
  try clear tg
  try clear ug
  try clear gc
  try clear hc
  try clear kc
  try clear lc
  try clear mc
  try clear nc
  try clear oc
  try clear pc
  try clear qc
  try clear rc
  try clear sc
  try clear Cc
  try clear Dc
  try clear Gc
  try clear Hc
  try clear Kc
  try clear Lc
  try clear Oc
  try clear Pc
  try clear Qc
  try clear Rc
  try clear Sc
  try clear Tc
  try clear Uc
  try clear Vc
  try clear Wc
  try clear gd
  try clear id
  try clear ic
  try clear jc
  try clear tc
  try clear uc
  try clear vc
  try clear wc
  try clear xc
  try clear yc
  try clear zc
  try clear Ac
  try clear Bc
  try clear Ec
  try clear Fc
  try clear Ic
  try clear Jc
  try clear Mc
  try clear Nc
  try clear Xc
  try clear Yc
  try clear Zc
  try clear ad
  try clear bd
  try clear cd
  try clear dd
  try clear ed
  try clear fd
  try clear jd
  try clear kd
  obtain ⟨Ra, rfl, HA, Rd, ba, aa, fa, HB⟩ := hrel
  cases gk with
  | zero => exact absurd HA.out (by simp [database_Add.l0])
  | succ k1 =>
   have H := HA.out
   clear HA
   simp only [database_Add.l0] at H
   by_cases Db : Ra > 0
   rotate_left
   ·rw [if_neg Db] at H
    have Md : decide (0 < Ra) = false := decide_eq_false Db
    clear Db
    replace H := Option.bind_eq_some_iff.mp H
    obtain ⟨Xa, rd, H⟩ := H
    try dsimp only at H
    have Sd := aM_ rd
    clear rd
    obtain ⟨tb, hy157⟩ : ∃ y_ : List (S35), y_ = (([(⟨ga, ha, ia, ja, ka, la, ma, na, oa⟩ : S35)] : List (S35))) := ⟨_, rfl⟩
    replace H : ((api_Entry_50.f Xa Ra tb).bind fun mb => (some (qa, mb, 0))) = some (r1, r2, r3) := by first | (rw [hy157]; with_reducible exact H) | (have H2_ := (Option.bind_some _ _).symm.trans H; rw [hy157]; with_reducible exact H2_) | (have H2_ := (Option.bind_some _ _).symm.trans H; with_reducible exact H2_) | with_reducible exact H | (rw [hy157]; exact H) | exact H
    have Ny157 := aM_ hy157
    clear hy157
    replace H := Option.bind_eq_some_iff.mp H
    obtain ⟨mb, sd, H⟩ := H
    try dsimp only at H
    have We := aM_ sd
    clear sd
    simp only [Option.some.injEq, Prod.mk.injEq] at H
    obtain ⟨rfl, rfl, rfl⟩ := H
    try go_upto_region 10 with fail
    replace ba := aM_ (blk_drew ba.out)
    replace aa := aM_ (blk_drew aa.out)
    replace fa := aM_ (blk_drew fa.out)
    replace HB := aM_ (bD_ HB.out)
    refine start_ (n := 13) (S := fun w' => True) (ds := []) (bo_ 13 0) (by kernel_rfl) rfl rfl trivial (fun hHeld => ?_); refine with_tabW database_Add.tab10 database_Add.bits10 (fun HT_ HW_ => ?_)
    generalize wr.drew = Xe at ba aa fa HB hHeld ⊢
    refine pU_ 0 (some 29) (bo_ 13 1) ?_
    refine pU_ 1 (some 30) (bo_ 13 3) ?_
    refine pU_ 2 (some 31) (bo_ 13 7) ?_
    refine pV_ 3 (some 32) (bo_ 13 15) ?_
    refine pV_ 4 (some 33) (bo_ 13 31) ?_
    refine pV_ 5 (some 34) (bo_ 13 63) ?_
    refine pV_ 6 (some 35) (bo_ 13 127) ?_
    refine pV_ 7 (some 36) (bo_ 13 255) ?_
    refine pV_ 8 (some 37) (bo_ 13 511) ?_
    refine pV_ 9 (some 38) (bo_ 13 1023) ?_
    refine pV_ 10 (some 39) (bo_ 13 2047) ?_
    refine pV_ 11 (some 40) (bo_ 13 4095) ?_
    refine pU_ 12 (some 41) (bo_ 13 8191) ?_
    refine done_ (done_of HT_.out (by kernel_rfl)) ?_
    try go_upto_region 12 with fail
    replace ba := aM_ (blk_drew ba.out)
    replace aa := aM_ (blk_drew aa.out)
    replace fa := aM_ (blk_drew fa.out)
    replace HB := aM_ (bD_ HB.out)
    refine start_ (n := 9) (S := fun w' => w'.cell? ⟨ra, 0, none⟩ = some (.string qa) ∧ w'.cell? ⟨ra, 1, none⟩ = some (.slice Aa ca.length ta) ∧ w'.cell? ⟨da, 0, none⟩ = some (.string ga) ∧ w'.cell? ⟨da, 1, none⟩ = some (.string ha) ∧ w'.cell? ⟨da, 2, none⟩ = some (.int .u64 ia) ∧ w'.cell? ⟨da, 3, none⟩ = some (.int .i64 ja) ∧ w'.cell? ⟨da, 4, none⟩ = some (.int .i64 ka) ∧ w'.cell? ⟨da, 5, none⟩ = some (.int .i64 la) ∧ w'.cell? ⟨da, 6, none⟩ = some (.int .i64 ma) ∧ w'.cell? ⟨da, 7, none⟩ = some (.int .i64 na) ∧ w'.cell? ⟨da, 8, none⟩ = some (.int .i64 oa)) (ds := [8]) (bo_ 9 0) (by kernel_rfl) rfl rfl ⟨bc_ ba.out 0, bc_ ba.out 1, bc_ aa.out 0, bc_ aa.out 1, bc_ aa.out 2, bc_ aa.out 3, bc_ aa.out 4, bc_ aa.out 5, bc_ aa.out 6, bc_ aa.out 7, bc_ aa.out 8⟩ (fun hHeld => ?_); refine with_tabW database_Add.tab12 database_Add.bits12 (fun HT_ HW_ => ?_)
    generalize Xe.drew = vg at ba aa fa HB hHeld ⊢
    refine pU_ 0 (some 44) (bo_ 9 1) ?_
    refine pU_ 3 (some 47) (bo_ 9 9) ?_
    refine tK_ 1 (some 45) (bo_ 9 11) hHeld ?_
    refine tK_ 4 (some 48) (bo_ 9 27) hHeld ?_
    refine join_ (σ := Value × Value) 3 (bo_ 9 63) (fun s_ => [(46, s_.1), (49, s_.2)]) (fun s_ w' => (w'.cell? ⟨ra, 0, none⟩ = some (.string qa) ∧ w'.cell? ⟨ra, 1, none⟩ = some (.slice Aa ca.length ta) ∧ w'.cell? ⟨da, 0, none⟩ = some (.string ga) ∧ w'.cell? ⟨da, 1, none⟩ = some (.string ha) ∧ w'.cell? ⟨da, 2, none⟩ = some (.int .u64 ia) ∧ w'.cell? ⟨da, 3, none⟩ = some (.int .i64 ja) ∧ w'.cell? ⟨da, 4, none⟩ = some (.int .i64 ka) ∧ w'.cell? ⟨da, 5, none⟩ = some (.int .i64 la) ∧ w'.cell? ⟨da, 6, none⟩ = some (.int .i64 ma) ∧ w'.cell? ⟨da, 7, none⟩ = some (.int .i64 na) ∧ w'.cell? ⟨da, 8, none⟩ = some (.int .i64 oa)) ∧ (Kd.R k35 35 w' w.heap.size (fun k_ => some k_ ≠ (s_.2 : Value).ownBlock ∧ k_ ≠ da) s_.1 Xa) ∧ (Kd.R k35 35 w' w.heap.size (fun k_ => some k_ ≠ (s_.1 : Value).ownBlock ∧ k_ ≠ da) s_.2 tb) ∧ (w'.heap[ra]? = some (.cells #[.string qa, .slice Aa ca.length ta] 24 (0, 0))) ∧ (w'.heap[da]? = some (.cells #[.string ga, .string ha, .int .u64 ia, .int .i64 ja, .int .i64 ka, .int .i64 la, .int .i64 ma, .int .i64 na, .int .i64 oa] 35 (0, 0))) ∧ (w'.heap[Fa]? = some (.cells #[.string (⟨#[]⟩ : ByteArray), .slice none 0 0] 24 (0, 0))) ∧ (Below w.heap.size w w')) ?_ ?_
    rotate_left
    ·intro hCont
     refine two_ (i := 2) (j := 5) (Ni := some 46) (Nj := some 49) (bo_ 9 31) (bo_ 9 59) rfl rfl rfl rfl (two_of HT_.out (by kernel_rfl)) (by decide) (by decide) (fun K hK => ?_) (fun K hK => ?_)
     ·skip
      refine goes_ Tryd.func51 (by kernel_rfl) rfl #[.slice Aa ca.length ta] (by rfl) rfl rfl aR_ ?_
      with_reducible refine (api_Entry_51.calls _ _ ca Xa _ ?side1 ?side2 Sd.out).mono ?_
      (case side1 => exact cC_ Ua.out HB.out)
      (case side2 => exact Ya.out)
      rintro e Ye ⟨ub, rfl, Pa, hb⟩
      refine ⟨_, rfl, ?_⟩
      have Ba := aM_ (Kd.R_lower (Kd.R_newB Pa (gR_ aa.out)) (below_size hB_))
      replace ba := aM_ (kG_ ba.out hb)
      replace aa := aM_ (kG_ aa.out hb)
      replace fa := aM_ (kG_ fa.out hb)
      replace HB := aM_ (below_step hB_ hb)
      clear hb Pa
      refine hK.out _ _ ⟨bc_ ba.out 0, bc_ ba.out 1, bc_ aa.out 0, bc_ aa.out 1, bc_ aa.out 2, bc_ aa.out 3, bc_ aa.out 4, bc_ aa.out 5, bc_ aa.out 6, bc_ aa.out 7, bc_ aa.out 8⟩ (fun hHeld => ?_)
      clear hK K
      refine nO_ 46 ?_
      refine one_ (i := 5) (N := some 49) (bo_ 9 63) rfl rfl (one_of HT_.out (by kernel_rfl)) (by decide) (fun K hK => ?_)
      refine Kd.R_lit_step k35 _ 35 ?hg (N := 49) ?hd (xs := ([(⟨ga, ha, ia, ja, ka, la, ma, na, oa⟩ : S35)] : List (S35))) (inner := [.string ga, .string ha, .int .u64 ia, .int .i64 ja, .int .i64 ka, .int .i64 la, .int .i64 ma, .int .i64 na, .int .i64 oa]) (ok := fun _ => True) (okp := fun _ => True) ?hr ?hp (fun _ hk => hk) trivial (Below.refl _ _) (Nat.le_refl _) (by simp) ?_; (case hd => rfl); (case hg => rfl); (case hr => first | (go_simp; done) | (go_simp; rfl)); (case hp => exact (Reps.c9 (show Kd.M k35 _ _ _ (⟨ga, ha, ia, ja, ka, la, ma, na, oa⟩ : S35) [.string ga, .string ha, .int .u64 ia, .int .i64 ja, .int .i64 ka, .int .i64 la, .int .i64 ma, .int .i64 na, .int .i64 oa] from (k35_mkM _ _ _ (⟨ga, ha, ia, ja, ka, la, ma, na, oa⟩ : S35) )) (Reps.none _ _)))
      intro vb wg wb hb hg_ hnew_
      clear hg_ hnew_
      (first | rw [← Ny157.out] at wb | (simp only [Int.reduceToNat] at wb; rw [← Ny157.out] at wb))
      have Ca := aM_ (Kd.R_lower (Kd.R_newB (Kd.R_new' wb (Kd.R_lt (bk_ Ba.out))) (gR_ aa.out)) (below_size hB_))
      replace Ba := aM_ (Kd.R_elder' (bk_ Ba.out) (Kd.R_base wb) hb)
      replace ba := aM_ (kG_ ba.out hb)
      replace aa := aM_ (kG_ aa.out hb)
      replace fa := aM_ (kG_ fa.out hb)
      replace HB := aM_ (below_step hB_ hb)
      clear hb wb
      refine hK.out _ _ ⟨bc_ ba.out 0, bc_ ba.out 1, bc_ aa.out 0, bc_ aa.out 1, bc_ aa.out 2, bc_ aa.out 3, bc_ aa.out 4, bc_ aa.out 5, bc_ aa.out 6, bc_ aa.out 7, bc_ aa.out 8⟩ (fun hHeld => ?_)
      clear hK K
      refine nO_ 49 ?_
      exact norm_ (by simp only [putAll, Act.put, sA_, sB_, sC_]) (hCont (ub, vb) _ ⟨hHeld, (by refine bk_ ?_; exact Kd.R_mono Ba.out (fun _ hk => ⟨hk.2, hk.1.2⟩)), (by refine bk_ ?_; exact Kd.R_mono Ca.out (fun _ hk => ⟨hk.1.2, hk.2⟩)), (bk_ ba.out), (bk_ aa.out), (bk_ fa.out), hB_⟩)
     skip
     refine Kd.R_lit_step k35 _ 35 ?hg (N := 49) ?hd (xs := ([(⟨ga, ha, ia, ja, ka, la, ma, na, oa⟩ : S35)] : List (S35))) (inner := [.string ga, .string ha, .int .u64 ia, .int .i64 ja, .int .i64 ka, .int .i64 la, .int .i64 ma, .int .i64 na, .int .i64 oa]) (ok := fun _ => True) (okp := fun _ => True) ?hr ?hp (fun _ hk => hk) trivial (Below.refl _ _) (Nat.le_refl _) (by simp) ?_; (case hd => rfl); (case hg => rfl); (case hr => first | (go_simp; done) | (go_simp; rfl)); (case hp => exact (Reps.c9 (show Kd.M k35 _ _ _ (⟨ga, ha, ia, ja, ka, la, ma, na, oa⟩ : S35) [.string ga, .string ha, .int .u64 ia, .int .i64 ja, .int .i64 ka, .int .i64 la, .int .i64 ma, .int .i64 na, .int .i64 oa] from (k35_mkM _ _ _ (⟨ga, ha, ia, ja, ka, la, ma, na, oa⟩ : S35) )) (Reps.none _ _)))
     intro vb Ye Bb hb hg_ hnew_
     clear hg_ hnew_
     (first | rw [← Ny157.out] at Bb | (simp only [Int.reduceToNat] at Bb; rw [← Ny157.out] at Bb))
     have Ca := aM_ (Kd.R_lower (Kd.R_newB Bb (gR_ aa.out)) (below_size hB_))
     replace ba := aM_ (kG_ ba.out hb)
     replace aa := aM_ (kG_ aa.out hb)
     replace fa := aM_ (kG_ fa.out hb)
     replace HB := aM_ (below_step hB_ hb)
     clear hb Bb
     refine hK.out _ _ ⟨bc_ ba.out 0, bc_ ba.out 1, bc_ aa.out 0, bc_ aa.out 1, bc_ aa.out 2, bc_ aa.out 3, bc_ aa.out 4, bc_ aa.out 5, bc_ aa.out 6, bc_ aa.out 7, bc_ aa.out 8⟩ (fun hHeld => ?_)
     clear hK K
     refine nO_ 49 ?_
     refine one_ (i := 2) (N := some 46) (bo_ 9 63) rfl rfl (one_of HT_.out (by kernel_rfl)) (by decide) (fun K hK => ?_)
     refine goes_ Tryd.func51 (by kernel_rfl) rfl #[.slice Aa ca.length ta] (by rfl) rfl rfl aR_ ?_
     with_reducible refine (api_Entry_51.calls _ _ ca Xa _ ?side1 ?side2 Sd.out).mono ?_
     (case side1 => exact cC_ Ua.out HB.out)
     (case side2 => exact Ya.out)
     rintro e xg ⟨ub, rfl, Pa, hb⟩
     refine ⟨_, rfl, ?_⟩
     have Ba := aM_ (Kd.R_lower (Kd.R_newB (Kd.R_new' Pa (Kd.R_lt (bk_ Ca.out))) (gR_ aa.out)) (below_size hB_))
     replace Ca := aM_ (Kd.R_elder' (bk_ Ca.out) (Kd.R_base Pa) hb)
     replace ba := aM_ (kG_ ba.out hb)
     replace aa := aM_ (kG_ aa.out hb)
     replace fa := aM_ (kG_ fa.out hb)
     replace HB := aM_ (below_step hB_ hb)
     clear hb Pa
     refine hK.out _ _ ⟨bc_ ba.out 0, bc_ ba.out 1, bc_ aa.out 0, bc_ aa.out 1, bc_ aa.out 2, bc_ aa.out 3, bc_ aa.out 4, bc_ aa.out 5, bc_ aa.out 6, bc_ aa.out 7, bc_ aa.out 8⟩ (fun hHeld => ?_)
     clear hK K
     refine nO_ 46 ?_
     exact norm_ (by simp only [putAll, Act.put, sA_, sB_, sC_]) (hCont (ub, vb) _ ⟨hHeld, (by refine bk_ ?_; exact Kd.R_mono Ba.out (fun _ hk => ⟨hk.1.2, hk.2⟩)), (by refine bk_ ?_; exact Kd.R_mono Ca.out (fun _ hk => ⟨hk.2, hk.1.2⟩)), (bk_ ba.out), (bk_ aa.out), (bk_ fa.out), hB_⟩)
    rintro ⟨ub, vb⟩ Va ⟨hS_, h0_, h1_, h2_, Lb, Mb, Nb⟩
    have Ob : Aside0 (Kd.R k35 35 Va w.heap.size (fun k_ => some k_ ≠ (vb : Value).ownBlock ∧ k_ ≠ da) ub Xa) := ⟨h0_⟩
    have Pb : Aside0 (Kd.R k35 35 Va w.heap.size (fun k_ => some k_ ≠ (ub : Value).ownBlock ∧ k_ ≠ da) vb tb) := ⟨h1_⟩
    have Qb : Aside0 (Va.heap[ra]? = some (.cells #[.string qa, .slice Aa ca.length ta] 24 (0, 0))) := ⟨h2_⟩
    have Rb : Aside0 (Va.heap[da]? = some (.cells #[.string ga, .string ha, .int .u64 ia, .int .i64 ja, .int .i64 ka, .int .i64 la, .int .i64 ma, .int .i64 na, .int .i64 oa] 35 (0, 0))) := ⟨Lb⟩
    have Sb : Aside0 (Va.heap[Fa]? = some (.cells #[.string (⟨#[]⟩ : ByteArray), .slice none 0 0] 24 (0, 0))) := ⟨Mb⟩
    have Tb : Aside0 (Below w.heap.size w Va) := ⟨Nb⟩
    clear ba aa fa HB
    clear h0_ h1_ h2_ Lb Mb Nb
    have Ba := Ob
    have Ca := Pb
    have ba := Qb
    have aa := Rb
    have fa := Sb
    have HB := Tb
    clear Ob Pb Qb Rb Sb Tb
    have hHeld : Va.cell? ⟨ra, 0, none⟩ = some (.string qa) ∧ Va.cell? ⟨ra, 1, none⟩ = some (.slice Aa ca.length ta) ∧ Va.cell? ⟨da, 0, none⟩ = some (.string ga) ∧ Va.cell? ⟨da, 1, none⟩ = some (.string ha) ∧ Va.cell? ⟨da, 2, none⟩ = some (.int .u64 ia) ∧ Va.cell? ⟨da, 3, none⟩ = some (.int .i64 ja) ∧ Va.cell? ⟨da, 4, none⟩ = some (.int .i64 ka) ∧ Va.cell? ⟨da, 5, none⟩ = some (.int .i64 la) ∧ Va.cell? ⟨da, 6, none⟩ = some (.int .i64 ma) ∧ Va.cell? ⟨da, 7, none⟩ = some (.int .i64 na) ∧ Va.cell? ⟨da, 8, none⟩ = some (.int .i64 oa) := hS_
    obtain ⟨Xb, Yb, td⟩ := Kd.R_slice Ba.out
    (first | subst td | (injection td with f1_ f2_ f3_; have f4_ := f1_.symm; have f5_ := f3_.symm; clear f1_ f2_ f3_; subst f4_; subst f5_))
    obtain ⟨ud, vd, wd⟩ := Kd.R_slice Ca.out
    (first | subst wd | (injection wd with f1_ f2_ f3_; have f4_ := f1_.symm; have f5_ := f3_.symm; clear f1_ f2_ f3_; subst f4_; subst f5_))
    refine nP_ ?_
    refine one_ (i := 6) (N := some 50) (bo_ 9 127) rfl rfl (one_of HT_.out (by kernel_rfl)) (by decide) (fun K hK => ?_)
    refine goes_ Tryd.func50 (by kernel_rfl) rfl #[.slice Xb Xa.length Yb, .int .i64 Ra, .slice ud tb.length vd] (by rfl) rfl rfl aR_ ?_
    with_reducible refine (api_Entry_50.calls (fun k_ => some k_ = (.slice Xb Xa.length Yb : Value).ownBlock) (.slice Xb Xa.length Yb) Xa Ra _ _ tb mb w _ ?side1 ?side2 ?side3 ?side4 We.out).mono ?_
    (case side1 => repeat (first | (with_reducible first | exact HB.out | apply bA_ | apply bN_ | apply bD_ | refine bS_ ?_ pb.out | refine bS_ ?_ qb.out | refine bS_ ?_ rb.out) | exact HB.out))
    (case side2 => exact Kd.R_tight rfl Ba.out)
    (case side3 => exact Kd.C_kept_own (Ca.out) (fun k_ hk_ hs_ => (hk_.1) hs_))
    (case side4 => exact (Kd.R_reads' Ca.out).2.1)
    rintro e Ze ⟨Wd, rfl, Pa, hb, hkp⟩
    refine ⟨_, rfl, ?_⟩
    replace ba := aM_ (blk_kept (bk_ ba.out) hkp (fun hs_ => (fun e_ => (Kd.R_ne Ba.out ba.out (by decide)) e_) hs_))
    replace fa := aM_ (blk_kept (bk_ fa.out) hkp (fun hs_ => (fun e_ => (Kd.R_ne Ba.out fa.out (by decide)) e_) hs_))
    have cc := aM_ (Kd.R_mono (ok' := fun k_ => some k_ ≠ (.slice ud tb.length vd : Value).ownBlock ∧ k_ ≠ da) Pa (fun k_ hk_ => ⟨Or.elim hk_ (fun hs_ => fun e_ => (((Ca.out).1 k_ e_.symm).1) hs_) (fun hn_ => (Kd.fresh' (Kd.R_lt (bk_ Ca.out)) k_ hn_)), Or.elim hk_ (fun hs_ => fun e_ => (Kd.R_away Ba.out (fun _ hk => hk.2)) (by rw [← e_]; exact hs_)) (fun hn_ => (Kd.freshB (g := da) (o := .cells #[.string ga, .string ha, .int .u64 ia, .int .i64 ja, .int .i64 ka, .int .i64 la, .int .i64 ma, .int .i64 na, .int .i64 oa] 35 (0, 0)) (bk_ aa.out) k_ hn_))⟩))
    replace aa := aM_ (blk_kept (bk_ aa.out) hkp (fun hs_ => (fun e_ => (Kd.R_away Ba.out (fun _ hk => hk.2)) e_) hs_))
    replace Ca := aM_ (Kd.R_mono (ok' := fun k_ => k_ ≠ da ∧ some k_ ≠ (Wd : Value).ownBlock) (Kd.R_keptB (Ca.out) hkp (fun k_ hk_ hs_ => (hk_.1) hs_)) (fun k_ hk_ => ⟨hk_.1.2, fun e_ => Or.elim (Pa.1 k_ e_.symm) (fun hs_ => hk_.2.1 hs_) (fun hn_ => Nat.not_le.2 hk_.2.2 hn_)⟩))
    replace HB := aM_ (hb)
    clear Ba
    clear hb hkp Pa
    obtain ⟨xd, yd, zd⟩ := Kd.R_slice cc.out
    (first | subst zd | (injection zd with f1_ f2_ f3_; have f4_ := f1_.symm; have f5_ := f3_.symm; clear f1_ f2_ f3_; subst f4_; subst f5_))
    refine hK.out _ _ ⟨bc_ ba.out 0, bc_ ba.out 1, bc_ aa.out 0, bc_ aa.out 1, bc_ aa.out 2, bc_ aa.out 3, bc_ aa.out 4, bc_ aa.out 5, bc_ aa.out 6, bc_ aa.out 7, bc_ aa.out 8⟩ (fun hHeld => ?_)
    clear hK K
    refine nO_ 50 ?_
    refine pU_ 7 (some 51) (bo_ 9 255) ?_
    refine last_ (i := 8) (N := none) (bo_ 9 511) rfl rfl (one_of HT_.out (by kernel_rfl)) (by decide) (fun K hK => ?_)
    have hs70 : Ze.cell? ⟨ra, 1, none⟩ = some (.slice Aa ca.length ta) := bc_ ba.out 1
    have hfs70 := blk_frozen ba.out 1
    have hns70_1 := va.out
    have hns70_2 := sa.out
    have hms70_1 := ua.out
    have hms70_2 := wa.out
    refine skip_ (w1 := ?_) (by rfl) rfl ?_ ?_
    rotate_left; (· go_simp; rfl)
    refine hK.out _ _ ?_
    clear hK K
    refine done_ (done_of HT_.out (by kernel_rfl)) ?_
    have Ef := ua.out
    have Ff := va.out
    have Gf := wa.out
    have Hf := sa.out
    obtain ⟨Ge, He⟩ := kC2_ ba.out
    obtain ⟨Ie, Je⟩ := kZ2_ ba.out
    have If := za.out
    have Jf := ya.out
    obtain ⟨Ke, Le⟩ := kC2_ fa.out
    obtain ⟨Me, Ne⟩ := kZ2_ fa.out
    try go_wp2
    refine bodyPost_ret (results_ct rfl _ _ Fa 24 #[.string qa, .slice xd mb.length yd] (0, 0) _ rfl (by refine bk_ ?_; refine blk_put (cs := #[.string qa, .slice none 0 0]) ?_ 1 _ rfl; refine bk_ ?_; refine blk_put (cs := #[.string (⟨#[]⟩ : ByteArray), .slice none 0 0]) ?_ 0 _ rfl; exact far_ sa.out fa.out) Tryd.underlying24 rfl (by kernel_rfl)) rfl ?_
    exact ⟨_, eW_, by refine bk_ ?_; exact Kd.R_mono (rF_ (rF_ (Kd.R_far (p := ⟨ra, 1, none⟩) (Kd.R_types (Kd.R_types cc.out ba.out (by decide)) fa.out (by decide)) (fun _ hk => hk.1.2) (.slice xd mb.length yd)))) (fun _ hk => trivial), hB_⟩
   rw [if_pos Db] at H
   have Md : decide (0 < Ra) = true := decide_eq_true Db
   clear Db
   obtain ⟨ea, hji32⟩ : ∃ j_ : Int, (wrap64 (Ra - 1)) = j_ := ⟨_, rfl⟩
   replace H : (if 0 ≤ (ea) then (if (ea) < (ca.length : Int) then ((database_compare.f k1 ((rd_T35 ca (ea)).f0) ((rd_T35 ca (ea)).f1) ((rd_T35 ca (ea)).f2) ((rd_T35 ca (ea)).f3) ((rd_T35 ca (ea)).f4) ((rd_T35 ca (ea)).f5) ((rd_T35 ca (ea)).f6) ((rd_T35 ca (ea)).f7) ((rd_T35 ca (ea)).f8) ga ha ia ja ka la ma na oa).bind fun Za => (if Za > 0 then (database_Add.l0 k1 ea qa ca ga ha ia ja ka la ma na oa) else ((api_Entry_51.f ca).bind fun Ta => ((api_Entry_50.f Ta Ra (([(⟨ga, ha, ia, ja, ka, la, ma, na, oa⟩ : S35)] : List (S35)))).bind fun ab => (some (qa, ab, 0)))))) else (none)) else (none)) = some (r1, r2, r3) := by first | (rw [hji32] at H; exact H) | (simp only [hji32] at H ⊢; exact H)
   have hji32w : (IntKind.i64.wrap (Ra - 1)) = ea := (i64_w _).trans hji32
   by_cases dc : 0 ≤ (ea)
   rotate_left
   ·rw [if_neg dc] at H
    exact absurd H (by simp)
   rw [if_pos dc] at H
   have Kf : decide (0 ≤ (ea)) = true := decide_eq_true dc
   clear dc
   by_cases ec : (ea) < (ca.length : Int)
   rotate_left
   ·rw [if_neg ec] at H
    exact absurd H (by simp)
   rw [if_pos ec] at H
   have Lf : decide ((ea) < (ca.length : Int)) = true := decide_eq_true ec
   clear ec
   replace H := Option.bind_eq_some_iff.mp H
   obtain ⟨Za, Ad, H⟩ := H
   try dsimp only at H
   have Td := aM_ Ad
   clear Ad
   by_cases Eb : Za > 0
   ·rw [if_pos Eb] at H
    have Nd : decide (0 < Za) = true := decide_eq_true Eb
    clear Eb
    have H' := aM_ H
    clear H
    try go_upto_region 10 with fail
    replace ba := aM_ (blk_drew ba.out)
    replace aa := aM_ (blk_drew aa.out)
    replace fa := aM_ (blk_drew fa.out)
    replace HB := aM_ (bD_ HB.out)
    have nb : 0 ≤ ((ea) : Int) := dT_
    have ob : (ea) < (ca.length : Int) := dT_
    obtain ⟨pa, Zb, Ga, Ha, Ia, Ja, Ka, La, Ma, Na, Oa⟩ := at_T35 Ua.out (ea) nb ob
    have hw143_8 := Oa
    have hw143_7 := Na
    have hw143_6 := Ma
    have hw143_5 := La
    have hw143_4 := Ka
    have hw143_3 := Ja
    have hw143_2 := Ia
    have hw143_1 := Ha
    have hw143_0 := Ga
    cases Zb
    replace Ga := cH_ HB.out Ga
    replace Ha := cH_ HB.out Ha
    replace Ia := cH_ HB.out Ia
    replace Ja := cH_ HB.out Ja
    replace Ka := cH_ HB.out Ka
    replace La := cH_ HB.out La
    replace Ma := cH_ HB.out Ma
    replace Na := cH_ HB.out Na
    replace Oa := cH_ HB.out Oa
    replace nb := eq_true nb
    replace ob := eq_true ob
    refine start_ (n := 13) (S := fun w' => w'.cell? ⟨ra, 0, none⟩ = some (.string qa) ∧ w'.cell? ⟨ra, 1, none⟩ = some (.slice (some pa) ca.length ta) ∧ w'.cell? ⟨da, 0, none⟩ = some (.string ga) ∧ w'.cell? ⟨da, 1, none⟩ = some (.string ha) ∧ w'.cell? ⟨da, 2, none⟩ = some (.int .u64 ia) ∧ w'.cell? ⟨da, 3, none⟩ = some (.int .i64 ja) ∧ w'.cell? ⟨da, 4, none⟩ = some (.int .i64 ka) ∧ w'.cell? ⟨da, 5, none⟩ = some (.int .i64 la) ∧ w'.cell? ⟨da, 6, none⟩ = some (.int .i64 ma) ∧ w'.cell? ⟨da, 7, none⟩ = some (.int .i64 na) ∧ w'.cell? ⟨da, 8, none⟩ = some (.int .i64 oa) ∧ w'.cell? (pa.add (((ea)).toNat * 9)) = some (.string ((rd_T35 ca (ea)).f0)) ∧ w'.cell? ⟨(pa.add (((ea)).toNat * 9)).block, (pa.add (((ea)).toNat * 9)).off + 1, none⟩ = some (.string ((rd_T35 ca (ea)).f1)) ∧ w'.cell? ⟨(pa.add (((ea)).toNat * 9)).block, (pa.add (((ea)).toNat * 9)).off + 2, none⟩ = some (.int .u64 ((rd_T35 ca (ea)).f2)) ∧ w'.cell? ⟨(pa.add (((ea)).toNat * 9)).block, (pa.add (((ea)).toNat * 9)).off + 3, none⟩ = some (.int .i64 ((rd_T35 ca (ea)).f3)) ∧ w'.cell? ⟨(pa.add (((ea)).toNat * 9)).block, (pa.add (((ea)).toNat * 9)).off + 4, none⟩ = some (.int .i64 ((rd_T35 ca (ea)).f4)) ∧ w'.cell? ⟨(pa.add (((ea)).toNat * 9)).block, (pa.add (((ea)).toNat * 9)).off + 5, none⟩ = some (.int .i64 ((rd_T35 ca (ea)).f5)) ∧ w'.cell? ⟨(pa.add (((ea)).toNat * 9)).block, (pa.add (((ea)).toNat * 9)).off + 6, none⟩ = some (.int .i64 ((rd_T35 ca (ea)).f6)) ∧ w'.cell? ⟨(pa.add (((ea)).toNat * 9)).block, (pa.add (((ea)).toNat * 9)).off + 7, none⟩ = some (.int .i64 ((rd_T35 ca (ea)).f7)) ∧ w'.cell? ⟨(pa.add (((ea)).toNat * 9)).block, (pa.add (((ea)).toNat * 9)).off + 8, none⟩ = some (.int .i64 ((rd_T35 ca (ea)).f8))) (ds := []) (bo_ 13 0) (by kernel_rfl) rfl rfl ⟨bc_ ba.out 0, bc_ ba.out 1, bc_ aa.out 0, bc_ aa.out 1, bc_ aa.out 2, bc_ aa.out 3, bc_ aa.out 4, bc_ aa.out 5, bc_ aa.out 6, bc_ aa.out 7, bc_ aa.out 8, (cH_ HB.out hw143_0), (cH_ HB.out hw143_1), (cH_ HB.out hw143_2), (cH_ HB.out hw143_3), (cH_ HB.out hw143_4), (cH_ HB.out hw143_5), (cH_ HB.out hw143_6), (cH_ HB.out hw143_7), (cH_ HB.out hw143_8)⟩ (fun hHeld => ?_); refine with_tabW database_Add.tab10 database_Add.bits10 (fun HT_ HW_ => ?_)
    generalize wr.drew = yg at ba aa fa HB Ga Ha Ia Ja Ka La Ma Na Oa hHeld ⊢
    refine pU_ 0 (some 29) (bo_ 13 1) ?_
    refine pU_ 1 (some 30) (bo_ 13 3) ?_
    refine pU_ 2 (some 31) (bo_ 13 7) ?_
    refine pU_ 3 (some 32) (bo_ 13 15) ?_
    refine pU_ 5 (some 34) (bo_ 13 47) ?_
    refine pU_ 6 (some 35) (bo_ 13 111) ?_
    refine tK_ 4 (some 33) (bo_ 13 127) hHeld ?_
    refine pU_ 7 (some 36) (bo_ 13 255) ?_
    refine tK_ 8 (some 37) (bo_ 13 511) hHeld ?_
    refine tK_ 9 (some 38) (bo_ 13 1023) hHeld ?_
    refine one_ (i := 10) (N := some 39) (bo_ 13 2047) rfl rfl (one_of HT_.out (by kernel_rfl)) (by decide) (fun K hK => ?_)
    refine goes_ Tryd.func36 (by kernel_rfl) rfl #[.agg #[.string ((rd_T35 ca (ea)).f0), .string ((rd_T35 ca (ea)).f1), .int .u64 ((rd_T35 ca (ea)).f2), .int .i64 ((rd_T35 ca (ea)).f3), .int .i64 ((rd_T35 ca (ea)).f4), .int .i64 ((rd_T35 ca (ea)).f5), .int .i64 ((rd_T35 ca (ea)).f6), .int .i64 ((rd_T35 ca (ea)).f7), .int .i64 ((rd_T35 ca (ea)).f8)], .agg #[.string ga, .string ha, .int .u64 ia, .int .i64 ja, .int .i64 ka, .int .i64 la, .int .i64 ma, .int .i64 na, .int .i64 oa]] (by rfl) rfl rfl (by (try simp only [List.map_toArray, List.map_cons, List.map_nil]); first | done | (simp only [hji32]; rfl) | rfl | (simp only [List.length_drop, List.length_take]; rfl)) ?_
    with_reducible refine (database_compare.calls k1 ((rd_T35 ca (ea)).f0) ((rd_T35 ca (ea)).f1) ((rd_T35 ca (ea)).f2) ((rd_T35 ca (ea)).f3) ((rd_T35 ca (ea)).f4) ((rd_T35 ca (ea)).f5) ((rd_T35 ca (ea)).f6) ((rd_T35 ca (ea)).f7) ((rd_T35 ca (ea)).f8) ga ha ia ja ka la ma na oa Za _ Td.out).mono ?_
    rintro e zg ⟨rfl, hb⟩
    refine ⟨_, rfl, ?_⟩
    replace ba := aM_ (kG_ ba.out hb)
    replace aa := aM_ (kG_ aa.out hb)
    replace fa := aM_ (kG_ fa.out hb)
    replace HB := aM_ (below_step hB_ hb)
    clear hb
    refine hK.out _ _ ⟨bc_ ba.out 0, bc_ ba.out 1, bc_ aa.out 0, bc_ aa.out 1, bc_ aa.out 2, bc_ aa.out 3, bc_ aa.out 4, bc_ aa.out 5, bc_ aa.out 6, bc_ aa.out 7, bc_ aa.out 8, (cH_ HB.out hw143_0), (cH_ HB.out hw143_1), (cH_ HB.out hw143_2), (cH_ HB.out hw143_3), (cH_ HB.out hw143_4), (cH_ HB.out hw143_5), (cH_ HB.out hw143_6), (cH_ HB.out hw143_7), (cH_ HB.out hw143_8)⟩ (fun hHeld => ?_)
    clear hK K
    refine nO_ 39 ?_
    refine pU_ 11 (some 40) (bo_ 13 4095) ?_
    refine pU_ 12 (some 41) (bo_ 13 8191) ?_
    refine done_ (done_of HT_.out (by kernel_rfl)) ?_
    try go_wp2
    go_roundg k1
    case measure => have := Rd.out; omega
    case rel => exact ⟨(ea), (by first | rfl | (simp; done) | (simp only [← hji32] <;> (first | rfl | simp)) | (simp [*]; done)), H', ⟨by have := Rd.out; omega⟩, ⟨by refine bk_ ?_; exact ba.out⟩, ⟨by refine bk_ ?_; exact aa.out⟩, ⟨by refine bk_ ?_; exact fa.out⟩, ⟨hB_⟩⟩
   rw [if_neg Eb] at H
   have Nd : decide (0 < Za) = false := decide_eq_false Eb
   clear Eb
   replace H := Option.bind_eq_some_iff.mp H
   obtain ⟨Ta, Bd, H⟩ := H
   try dsimp only at H
   have Ud := aM_ Bd
   clear Bd
   obtain ⟨xb, hy148⟩ : ∃ y_ : List (S35), y_ = (([(⟨ga, ha, ia, ja, ka, la, ma, na, oa⟩ : S35)] : List (S35))) := ⟨_, rfl⟩
   replace H : ((api_Entry_50.f Ta Ra xb).bind fun ab => (some (qa, ab, 0))) = some (r1, r2, r3) := by first | (rw [hy148]; with_reducible exact H) | (have H2_ := (Option.bind_some _ _).symm.trans H; rw [hy148]; with_reducible exact H2_) | (have H2_ := (Option.bind_some _ _).symm.trans H; with_reducible exact H2_) | with_reducible exact H | (rw [hy148]; exact H) | exact H
   have Ny148 := aM_ hy148
   clear hy148
   replace H := Option.bind_eq_some_iff.mp H
   obtain ⟨ab, Cd, H⟩ := H
   try dsimp only at H
   have af := aM_ Cd
   clear Cd
   simp only [Option.some.injEq, Prod.mk.injEq] at H
   obtain ⟨rfl, rfl, rfl⟩ := H
   try go_upto_region 10 with fail
   replace ba := aM_ (blk_drew ba.out)
   replace aa := aM_ (blk_drew aa.out)
   replace fa := aM_ (blk_drew fa.out)
   replace HB := aM_ (bD_ HB.out)
   have nb : 0 ≤ ((ea) : Int) := dT_
   have ob : (ea) < (ca.length : Int) := dT_
   obtain ⟨pa, Zb, Ga, Ha, Ia, Ja, Ka, La, Ma, Na, Oa⟩ := at_T35 Ua.out (ea) nb ob
   have hw143_8 := Oa
   have hw143_7 := Na
   have hw143_6 := Ma
   have hw143_5 := La
   have hw143_4 := Ka
   have hw143_3 := Ja
   have hw143_2 := Ia
   have hw143_1 := Ha
   have hw143_0 := Ga
   cases Zb
   replace Ga := cH_ HB.out Ga
   replace Ha := cH_ HB.out Ha
   replace Ia := cH_ HB.out Ia
   replace Ja := cH_ HB.out Ja
   replace Ka := cH_ HB.out Ka
   replace La := cH_ HB.out La
   replace Ma := cH_ HB.out Ma
   replace Na := cH_ HB.out Na
   replace Oa := cH_ HB.out Oa
   replace nb := eq_true nb
   replace ob := eq_true ob
   refine start_ (n := 13) (S := fun w' => w'.cell? ⟨ra, 0, none⟩ = some (.string qa) ∧ w'.cell? ⟨ra, 1, none⟩ = some (.slice (some pa) ca.length ta) ∧ w'.cell? ⟨da, 0, none⟩ = some (.string ga) ∧ w'.cell? ⟨da, 1, none⟩ = some (.string ha) ∧ w'.cell? ⟨da, 2, none⟩ = some (.int .u64 ia) ∧ w'.cell? ⟨da, 3, none⟩ = some (.int .i64 ja) ∧ w'.cell? ⟨da, 4, none⟩ = some (.int .i64 ka) ∧ w'.cell? ⟨da, 5, none⟩ = some (.int .i64 la) ∧ w'.cell? ⟨da, 6, none⟩ = some (.int .i64 ma) ∧ w'.cell? ⟨da, 7, none⟩ = some (.int .i64 na) ∧ w'.cell? ⟨da, 8, none⟩ = some (.int .i64 oa) ∧ w'.cell? (pa.add (((ea)).toNat * 9)) = some (.string ((rd_T35 ca (ea)).f0)) ∧ w'.cell? ⟨(pa.add (((ea)).toNat * 9)).block, (pa.add (((ea)).toNat * 9)).off + 1, none⟩ = some (.string ((rd_T35 ca (ea)).f1)) ∧ w'.cell? ⟨(pa.add (((ea)).toNat * 9)).block, (pa.add (((ea)).toNat * 9)).off + 2, none⟩ = some (.int .u64 ((rd_T35 ca (ea)).f2)) ∧ w'.cell? ⟨(pa.add (((ea)).toNat * 9)).block, (pa.add (((ea)).toNat * 9)).off + 3, none⟩ = some (.int .i64 ((rd_T35 ca (ea)).f3)) ∧ w'.cell? ⟨(pa.add (((ea)).toNat * 9)).block, (pa.add (((ea)).toNat * 9)).off + 4, none⟩ = some (.int .i64 ((rd_T35 ca (ea)).f4)) ∧ w'.cell? ⟨(pa.add (((ea)).toNat * 9)).block, (pa.add (((ea)).toNat * 9)).off + 5, none⟩ = some (.int .i64 ((rd_T35 ca (ea)).f5)) ∧ w'.cell? ⟨(pa.add (((ea)).toNat * 9)).block, (pa.add (((ea)).toNat * 9)).off + 6, none⟩ = some (.int .i64 ((rd_T35 ca (ea)).f6)) ∧ w'.cell? ⟨(pa.add (((ea)).toNat * 9)).block, (pa.add (((ea)).toNat * 9)).off + 7, none⟩ = some (.int .i64 ((rd_T35 ca (ea)).f7)) ∧ w'.cell? ⟨(pa.add (((ea)).toNat * 9)).block, (pa.add (((ea)).toNat * 9)).off + 8, none⟩ = some (.int .i64 ((rd_T35 ca (ea)).f8))) (ds := []) (bo_ 13 0) (by kernel_rfl) rfl rfl ⟨bc_ ba.out 0, bc_ ba.out 1, bc_ aa.out 0, bc_ aa.out 1, bc_ aa.out 2, bc_ aa.out 3, bc_ aa.out 4, bc_ aa.out 5, bc_ aa.out 6, bc_ aa.out 7, bc_ aa.out 8, (cH_ HB.out hw143_0), (cH_ HB.out hw143_1), (cH_ HB.out hw143_2), (cH_ HB.out hw143_3), (cH_ HB.out hw143_4), (cH_ HB.out hw143_5), (cH_ HB.out hw143_6), (cH_ HB.out hw143_7), (cH_ HB.out hw143_8)⟩ (fun hHeld => ?_); refine with_tabW database_Add.tab10 database_Add.bits10 (fun HT_ HW_ => ?_)
   generalize wr.drew = Ag at ba aa fa HB Ga Ha Ia Ja Ka La Ma Na Oa hHeld ⊢
   refine pU_ 0 (some 29) (bo_ 13 1) ?_
   refine pU_ 1 (some 30) (bo_ 13 3) ?_
   refine pU_ 2 (some 31) (bo_ 13 7) ?_
   refine pU_ 3 (some 32) (bo_ 13 15) ?_
   refine pU_ 5 (some 34) (bo_ 13 47) ?_
   refine pU_ 6 (some 35) (bo_ 13 111) ?_
   refine tK_ 4 (some 33) (bo_ 13 127) hHeld ?_
   refine pU_ 7 (some 36) (bo_ 13 255) ?_
   refine tK_ 8 (some 37) (bo_ 13 511) hHeld ?_
   refine tK_ 9 (some 38) (bo_ 13 1023) hHeld ?_
   refine one_ (i := 10) (N := some 39) (bo_ 13 2047) rfl rfl (one_of HT_.out (by kernel_rfl)) (by decide) (fun K hK => ?_)
   refine goes_ Tryd.func36 (by kernel_rfl) rfl #[.agg #[.string ((rd_T35 ca (ea)).f0), .string ((rd_T35 ca (ea)).f1), .int .u64 ((rd_T35 ca (ea)).f2), .int .i64 ((rd_T35 ca (ea)).f3), .int .i64 ((rd_T35 ca (ea)).f4), .int .i64 ((rd_T35 ca (ea)).f5), .int .i64 ((rd_T35 ca (ea)).f6), .int .i64 ((rd_T35 ca (ea)).f7), .int .i64 ((rd_T35 ca (ea)).f8)], .agg #[.string ga, .string ha, .int .u64 ia, .int .i64 ja, .int .i64 ka, .int .i64 la, .int .i64 ma, .int .i64 na, .int .i64 oa]] (by rfl) rfl rfl (by (try simp only [List.map_toArray, List.map_cons, List.map_nil]); first | done | (simp only [hji32]; rfl) | rfl | (simp only [List.length_drop, List.length_take]; rfl)) ?_
   with_reducible refine (database_compare.calls k1 ((rd_T35 ca (ea)).f0) ((rd_T35 ca (ea)).f1) ((rd_T35 ca (ea)).f2) ((rd_T35 ca (ea)).f3) ((rd_T35 ca (ea)).f4) ((rd_T35 ca (ea)).f5) ((rd_T35 ca (ea)).f6) ((rd_T35 ca (ea)).f7) ((rd_T35 ca (ea)).f8) ga ha ia ja ka la ma na oa Za _ Td.out).mono ?_
   rintro e bf ⟨rfl, hb⟩
   refine ⟨_, rfl, ?_⟩
   replace ba := aM_ (kG_ ba.out hb)
   replace aa := aM_ (kG_ aa.out hb)
   replace fa := aM_ (kG_ fa.out hb)
   replace HB := aM_ (below_step hB_ hb)
   clear hb
   refine hK.out _ _ ⟨bc_ ba.out 0, bc_ ba.out 1, bc_ aa.out 0, bc_ aa.out 1, bc_ aa.out 2, bc_ aa.out 3, bc_ aa.out 4, bc_ aa.out 5, bc_ aa.out 6, bc_ aa.out 7, bc_ aa.out 8, (cH_ HB.out hw143_0), (cH_ HB.out hw143_1), (cH_ HB.out hw143_2), (cH_ HB.out hw143_3), (cH_ HB.out hw143_4), (cH_ HB.out hw143_5), (cH_ HB.out hw143_6), (cH_ HB.out hw143_7), (cH_ HB.out hw143_8)⟩ (fun hHeld => ?_)
   clear hK K
   refine nO_ 39 ?_
   refine pU_ 11 (some 40) (bo_ 13 4095) ?_
   refine pU_ 12 (some 41) (bo_ 13 8191) ?_
   refine done_ (done_of HT_.out (by kernel_rfl)) ?_
   try go_upto_region 12 with fail
   replace ba := aM_ (blk_drew ba.out)
   replace aa := aM_ (blk_drew aa.out)
   replace fa := aM_ (blk_drew fa.out)
   replace HB := aM_ (bD_ HB.out)
   refine start_ (n := 9) (S := fun w' => w'.cell? ⟨ra, 0, none⟩ = some (.string qa) ∧ w'.cell? ⟨ra, 1, none⟩ = some (.slice (some pa) ca.length ta) ∧ w'.cell? ⟨da, 0, none⟩ = some (.string ga) ∧ w'.cell? ⟨da, 1, none⟩ = some (.string ha) ∧ w'.cell? ⟨da, 2, none⟩ = some (.int .u64 ia) ∧ w'.cell? ⟨da, 3, none⟩ = some (.int .i64 ja) ∧ w'.cell? ⟨da, 4, none⟩ = some (.int .i64 ka) ∧ w'.cell? ⟨da, 5, none⟩ = some (.int .i64 la) ∧ w'.cell? ⟨da, 6, none⟩ = some (.int .i64 ma) ∧ w'.cell? ⟨da, 7, none⟩ = some (.int .i64 na) ∧ w'.cell? ⟨da, 8, none⟩ = some (.int .i64 oa)) (ds := [8]) (bo_ 9 0) (by kernel_rfl) rfl rfl ⟨bc_ ba.out 0, bc_ ba.out 1, bc_ aa.out 0, bc_ aa.out 1, bc_ aa.out 2, bc_ aa.out 3, bc_ aa.out 4, bc_ aa.out 5, bc_ aa.out 6, bc_ aa.out 7, bc_ aa.out 8⟩ (fun hHeld => ?_); refine with_tabW database_Add.tab12 database_Add.bits12 (fun HT_ HW_ => ?_)
   generalize bf.drew = Bg at ba aa fa HB hHeld ⊢
   refine pU_ 0 (some 44) (bo_ 9 1) ?_
   refine pU_ 3 (some 47) (bo_ 9 9) ?_
   refine tK_ 1 (some 45) (bo_ 9 11) hHeld ?_
   refine tK_ 4 (some 48) (bo_ 9 27) hHeld ?_
   refine join_ (σ := Value × Value) 3 (bo_ 9 63) (fun s_ => [(46, s_.1), (49, s_.2)]) (fun s_ w' => (w'.cell? ⟨ra, 0, none⟩ = some (.string qa) ∧ w'.cell? ⟨ra, 1, none⟩ = some (.slice (some pa) ca.length ta) ∧ w'.cell? ⟨da, 0, none⟩ = some (.string ga) ∧ w'.cell? ⟨da, 1, none⟩ = some (.string ha) ∧ w'.cell? ⟨da, 2, none⟩ = some (.int .u64 ia) ∧ w'.cell? ⟨da, 3, none⟩ = some (.int .i64 ja) ∧ w'.cell? ⟨da, 4, none⟩ = some (.int .i64 ka) ∧ w'.cell? ⟨da, 5, none⟩ = some (.int .i64 la) ∧ w'.cell? ⟨da, 6, none⟩ = some (.int .i64 ma) ∧ w'.cell? ⟨da, 7, none⟩ = some (.int .i64 na) ∧ w'.cell? ⟨da, 8, none⟩ = some (.int .i64 oa)) ∧ (Kd.R k35 35 w' w.heap.size (fun k_ => some k_ ≠ (s_.2 : Value).ownBlock ∧ k_ ≠ da) s_.1 Ta) ∧ (Kd.R k35 35 w' w.heap.size (fun k_ => some k_ ≠ (s_.1 : Value).ownBlock ∧ k_ ≠ da) s_.2 xb) ∧ (w'.heap[ra]? = some (.cells #[.string qa, .slice (some pa) ca.length ta] 24 (0, 0))) ∧ (w'.heap[da]? = some (.cells #[.string ga, .string ha, .int .u64 ia, .int .i64 ja, .int .i64 ka, .int .i64 la, .int .i64 ma, .int .i64 na, .int .i64 oa] 35 (0, 0))) ∧ (w'.heap[Fa]? = some (.cells #[.string (⟨#[]⟩ : ByteArray), .slice none 0 0] 24 (0, 0))) ∧ (Below w.heap.size w w')) ?_ ?_
   rotate_left
   ·intro hCont
    refine two_ (i := 2) (j := 5) (Ni := some 46) (Nj := some 49) (bo_ 9 31) (bo_ 9 59) rfl rfl rfl rfl (two_of HT_.out (by kernel_rfl)) (by decide) (by decide) (fun K hK => ?_) (fun K hK => ?_)
    ·skip
     refine goes_ Tryd.func51 (by kernel_rfl) rfl #[.slice (some pa) ca.length ta] (by rfl) rfl rfl aR_ ?_
     with_reducible refine (api_Entry_51.calls _ _ ca Ta _ ?side1 ?side2 Ud.out).mono ?_
     (case side1 => exact cC_ Ua.out HB.out)
     (case side2 => exact Ya.out)
     rintro e cf ⟨yb, rfl, Pa, hb⟩
     refine ⟨_, rfl, ?_⟩
     have Da := aM_ (Kd.R_lower (Kd.R_newB Pa (gR_ aa.out)) (below_size hB_))
     replace ba := aM_ (kG_ ba.out hb)
     replace aa := aM_ (kG_ aa.out hb)
     replace fa := aM_ (kG_ fa.out hb)
     replace HB := aM_ (below_step hB_ hb)
     clear hb Pa
     refine hK.out _ _ ⟨bc_ ba.out 0, bc_ ba.out 1, bc_ aa.out 0, bc_ aa.out 1, bc_ aa.out 2, bc_ aa.out 3, bc_ aa.out 4, bc_ aa.out 5, bc_ aa.out 6, bc_ aa.out 7, bc_ aa.out 8⟩ (fun hHeld => ?_)
     clear hK K
     refine nO_ 46 ?_
     refine one_ (i := 5) (N := some 49) (bo_ 9 63) rfl rfl (one_of HT_.out (by kernel_rfl)) (by decide) (fun K hK => ?_)
     refine Kd.R_lit_step k35 _ 35 ?hg (N := 49) ?hd (xs := ([(⟨ga, ha, ia, ja, ka, la, ma, na, oa⟩ : S35)] : List (S35))) (inner := [.string ga, .string ha, .int .u64 ia, .int .i64 ja, .int .i64 ka, .int .i64 la, .int .i64 ma, .int .i64 na, .int .i64 oa]) (ok := fun _ => True) (okp := fun _ => True) ?hr ?hp (fun _ hk => hk) trivial (Below.refl _ _) (Nat.le_refl _) (by simp) ?_; (case hd => rfl); (case hg => rfl); (case hr => first | (go_simp; done) | (go_simp; rfl)); (case hp => exact (Reps.c9 (show Kd.M k35 _ _ _ (⟨ga, ha, ia, ja, ka, la, ma, na, oa⟩ : S35) [.string ga, .string ha, .int .u64 ia, .int .i64 ja, .int .i64 ka, .int .i64 la, .int .i64 ma, .int .i64 na, .int .i64 oa] from (k35_mkM _ _ _ (⟨ga, ha, ia, ja, ka, la, ma, na, oa⟩ : S35) )) (Reps.none _ _)))
     intro zb Cg Ab hb hg_ hnew_
     clear hg_ hnew_
     (first | rw [← Ny148.out] at Ab | (simp only [Int.reduceToNat] at Ab; rw [← Ny148.out] at Ab))
     have Ea := aM_ (Kd.R_lower (Kd.R_newB (Kd.R_new' Ab (Kd.R_lt (bk_ Da.out))) (gR_ aa.out)) (below_size hB_))
     replace Da := aM_ (Kd.R_elder' (bk_ Da.out) (Kd.R_base Ab) hb)
     replace ba := aM_ (kG_ ba.out hb)
     replace aa := aM_ (kG_ aa.out hb)
     replace fa := aM_ (kG_ fa.out hb)
     replace HB := aM_ (below_step hB_ hb)
     clear hb Ab
     refine hK.out _ _ ⟨bc_ ba.out 0, bc_ ba.out 1, bc_ aa.out 0, bc_ aa.out 1, bc_ aa.out 2, bc_ aa.out 3, bc_ aa.out 4, bc_ aa.out 5, bc_ aa.out 6, bc_ aa.out 7, bc_ aa.out 8⟩ (fun hHeld => ?_)
     clear hK K
     refine nO_ 49 ?_
     exact norm_ (by simp only [putAll, Act.put, sA_, sB_, sC_]) (hCont (yb, zb) _ ⟨hHeld, (by refine bk_ ?_; exact Kd.R_mono Da.out (fun _ hk => ⟨hk.2, hk.1.2⟩)), (by refine bk_ ?_; exact Kd.R_mono Ea.out (fun _ hk => ⟨hk.1.2, hk.2⟩)), (bk_ ba.out), (bk_ aa.out), (bk_ fa.out), hB_⟩)
    skip
    refine Kd.R_lit_step k35 _ 35 ?hg (N := 49) ?hd (xs := ([(⟨ga, ha, ia, ja, ka, la, ma, na, oa⟩ : S35)] : List (S35))) (inner := [.string ga, .string ha, .int .u64 ia, .int .i64 ja, .int .i64 ka, .int .i64 la, .int .i64 ma, .int .i64 na, .int .i64 oa]) (ok := fun _ => True) (okp := fun _ => True) ?hr ?hp (fun _ hk => hk) trivial (Below.refl _ _) (Nat.le_refl _) (by simp) ?_; (case hd => rfl); (case hg => rfl); (case hr => first | (go_simp; done) | (go_simp; rfl)); (case hp => exact (Reps.c9 (show Kd.M k35 _ _ _ (⟨ga, ha, ia, ja, ka, la, ma, na, oa⟩ : S35) [.string ga, .string ha, .int .u64 ia, .int .i64 ja, .int .i64 ka, .int .i64 la, .int .i64 ma, .int .i64 na, .int .i64 oa] from (k35_mkM _ _ _ (⟨ga, ha, ia, ja, ka, la, ma, na, oa⟩ : S35) )) (Reps.none _ _)))
    intro zb cf Cb hb hg_ hnew_
    clear hg_ hnew_
    (first | rw [← Ny148.out] at Cb | (simp only [Int.reduceToNat] at Cb; rw [← Ny148.out] at Cb))
    have Ea := aM_ (Kd.R_lower (Kd.R_newB Cb (gR_ aa.out)) (below_size hB_))
    replace ba := aM_ (kG_ ba.out hb)
    replace aa := aM_ (kG_ aa.out hb)
    replace fa := aM_ (kG_ fa.out hb)
    replace HB := aM_ (below_step hB_ hb)
    clear hb Cb
    refine hK.out _ _ ⟨bc_ ba.out 0, bc_ ba.out 1, bc_ aa.out 0, bc_ aa.out 1, bc_ aa.out 2, bc_ aa.out 3, bc_ aa.out 4, bc_ aa.out 5, bc_ aa.out 6, bc_ aa.out 7, bc_ aa.out 8⟩ (fun hHeld => ?_)
    clear hK K
    refine nO_ 49 ?_
    refine one_ (i := 2) (N := some 46) (bo_ 9 63) rfl rfl (one_of HT_.out (by kernel_rfl)) (by decide) (fun K hK => ?_)
    refine goes_ Tryd.func51 (by kernel_rfl) rfl #[.slice (some pa) ca.length ta] (by rfl) rfl rfl aR_ ?_
    with_reducible refine (api_Entry_51.calls _ _ ca Ta _ ?side1 ?side2 Ud.out).mono ?_
    (case side1 => exact cC_ Ua.out HB.out)
    (case side2 => exact Ya.out)
    rintro e Dg ⟨yb, rfl, Pa, hb⟩
    refine ⟨_, rfl, ?_⟩
    have Da := aM_ (Kd.R_lower (Kd.R_newB (Kd.R_new' Pa (Kd.R_lt (bk_ Ea.out))) (gR_ aa.out)) (below_size hB_))
    replace Ea := aM_ (Kd.R_elder' (bk_ Ea.out) (Kd.R_base Pa) hb)
    replace ba := aM_ (kG_ ba.out hb)
    replace aa := aM_ (kG_ aa.out hb)
    replace fa := aM_ (kG_ fa.out hb)
    replace HB := aM_ (below_step hB_ hb)
    clear hb Pa
    refine hK.out _ _ ⟨bc_ ba.out 0, bc_ ba.out 1, bc_ aa.out 0, bc_ aa.out 1, bc_ aa.out 2, bc_ aa.out 3, bc_ aa.out 4, bc_ aa.out 5, bc_ aa.out 6, bc_ aa.out 7, bc_ aa.out 8⟩ (fun hHeld => ?_)
    clear hK K
    refine nO_ 46 ?_
    exact norm_ (by simp only [putAll, Act.put, sA_, sB_, sC_]) (hCont (yb, zb) _ ⟨hHeld, (by refine bk_ ?_; exact Kd.R_mono Da.out (fun _ hk => ⟨hk.1.2, hk.2⟩)), (by refine bk_ ?_; exact Kd.R_mono Ea.out (fun _ hk => ⟨hk.2, hk.1.2⟩)), (bk_ ba.out), (bk_ aa.out), (bk_ fa.out), hB_⟩)
   rintro ⟨yb, zb⟩ Wa ⟨hS_, h0_, h1_, h2_, Lb, Mb, Nb⟩
   have Ob : Aside0 (Kd.R k35 35 Wa w.heap.size (fun k_ => some k_ ≠ (zb : Value).ownBlock ∧ k_ ≠ da) yb Ta) := ⟨h0_⟩
   have Pb : Aside0 (Kd.R k35 35 Wa w.heap.size (fun k_ => some k_ ≠ (yb : Value).ownBlock ∧ k_ ≠ da) zb xb) := ⟨h1_⟩
   have Qb : Aside0 (Wa.heap[ra]? = some (.cells #[.string qa, .slice (some pa) ca.length ta] 24 (0, 0))) := ⟨h2_⟩
   have Rb : Aside0 (Wa.heap[da]? = some (.cells #[.string ga, .string ha, .int .u64 ia, .int .i64 ja, .int .i64 ka, .int .i64 la, .int .i64 ma, .int .i64 na, .int .i64 oa] 35 (0, 0))) := ⟨Lb⟩
   have Sb : Aside0 (Wa.heap[Fa]? = some (.cells #[.string (⟨#[]⟩ : ByteArray), .slice none 0 0] 24 (0, 0))) := ⟨Mb⟩
   have Tb : Aside0 (Below w.heap.size w Wa) := ⟨Nb⟩
   clear ba aa fa HB
   clear h0_ h1_ h2_ Lb Mb Nb
   have Da := Ob
   have Ea := Pb
   have ba := Qb
   have aa := Rb
   have fa := Sb
   have HB := Tb
   clear Ob Pb Qb Rb Sb Tb
   have hHeld : Wa.cell? ⟨ra, 0, none⟩ = some (.string qa) ∧ Wa.cell? ⟨ra, 1, none⟩ = some (.slice (some pa) ca.length ta) ∧ Wa.cell? ⟨da, 0, none⟩ = some (.string ga) ∧ Wa.cell? ⟨da, 1, none⟩ = some (.string ha) ∧ Wa.cell? ⟨da, 2, none⟩ = some (.int .u64 ia) ∧ Wa.cell? ⟨da, 3, none⟩ = some (.int .i64 ja) ∧ Wa.cell? ⟨da, 4, none⟩ = some (.int .i64 ka) ∧ Wa.cell? ⟨da, 5, none⟩ = some (.int .i64 la) ∧ Wa.cell? ⟨da, 6, none⟩ = some (.int .i64 ma) ∧ Wa.cell? ⟨da, 7, none⟩ = some (.int .i64 na) ∧ Wa.cell? ⟨da, 8, none⟩ = some (.int .i64 oa) := hS_
   obtain ⟨ac, bc, Dd⟩ := Kd.R_slice Da.out
   (first | subst Dd | (injection Dd with f1_ f2_ f3_; have f4_ := f1_.symm; have f5_ := f3_.symm; clear f1_ f2_ f3_; subst f4_; subst f5_))
   obtain ⟨Ed, Fd, Gd⟩ := Kd.R_slice Ea.out
   (first | subst Gd | (injection Gd with f1_ f2_ f3_; have f4_ := f1_.symm; have f5_ := f3_.symm; clear f1_ f2_ f3_; subst f4_; subst f5_))
   refine nP_ ?_
   refine one_ (i := 6) (N := some 50) (bo_ 9 127) rfl rfl (one_of HT_.out (by kernel_rfl)) (by decide) (fun K hK => ?_)
   refine goes_ Tryd.func50 (by kernel_rfl) rfl #[.slice ac Ta.length bc, .int .i64 Ra, .slice Ed xb.length Fd] (by rfl) rfl rfl aR_ ?_
   with_reducible refine (api_Entry_50.calls (fun k_ => some k_ = (.slice ac Ta.length bc : Value).ownBlock) (.slice ac Ta.length bc) Ta Ra _ _ xb ab w _ ?side1 ?side2 ?side3 ?side4 af.out).mono ?_
   (case side1 => repeat (first | (with_reducible first | exact HB.out | apply bA_ | apply bN_ | apply bD_ | refine bS_ ?_ pb.out | refine bS_ ?_ qb.out | refine bS_ ?_ rb.out) | exact HB.out))
   (case side2 => exact Kd.R_tight rfl Da.out)
   (case side3 => exact Kd.C_kept_own (Ea.out) (fun k_ hk_ hs_ => (hk_.1) hs_))
   (case side4 => exact (Kd.R_reads' Ea.out).2.1)
   rintro e df ⟨Xd, rfl, Pa, hb, hkp⟩
   refine ⟨_, rfl, ?_⟩
   replace ba := aM_ (blk_kept (bk_ ba.out) hkp (fun hs_ => (fun e_ => (Kd.R_ne Da.out ba.out (by decide)) e_) hs_))
   replace fa := aM_ (blk_kept (bk_ fa.out) hkp (fun hs_ => (fun e_ => (Kd.R_ne Da.out fa.out (by decide)) e_) hs_))
   have fc := aM_ (Kd.R_mono (ok' := fun k_ => some k_ ≠ (.slice Ed xb.length Fd : Value).ownBlock ∧ k_ ≠ da) Pa (fun k_ hk_ => ⟨Or.elim hk_ (fun hs_ => fun e_ => (((Ea.out).1 k_ e_.symm).1) hs_) (fun hn_ => (Kd.fresh' (Kd.R_lt (bk_ Ea.out)) k_ hn_)), Or.elim hk_ (fun hs_ => fun e_ => (Kd.R_away Da.out (fun _ hk => hk.2)) (by rw [← e_]; exact hs_)) (fun hn_ => (Kd.freshB (g := da) (o := .cells #[.string ga, .string ha, .int .u64 ia, .int .i64 ja, .int .i64 ka, .int .i64 la, .int .i64 ma, .int .i64 na, .int .i64 oa] 35 (0, 0)) (bk_ aa.out) k_ hn_))⟩))
   replace aa := aM_ (blk_kept (bk_ aa.out) hkp (fun hs_ => (fun e_ => (Kd.R_away Da.out (fun _ hk => hk.2)) e_) hs_))
   replace Ea := aM_ (Kd.R_mono (ok' := fun k_ => k_ ≠ da ∧ some k_ ≠ (Xd : Value).ownBlock) (Kd.R_keptB (Ea.out) hkp (fun k_ hk_ hs_ => (hk_.1) hs_)) (fun k_ hk_ => ⟨hk_.1.2, fun e_ => Or.elim (Pa.1 k_ e_.symm) (fun hs_ => hk_.2.1 hs_) (fun hn_ => Nat.not_le.2 hk_.2.2 hn_)⟩))
   replace HB := aM_ (hb)
   clear Da
   clear hb hkp Pa
   obtain ⟨Hd, Id, Jd⟩ := Kd.R_slice fc.out
   (first | subst Jd | (injection Jd with f1_ f2_ f3_; have f4_ := f1_.symm; have f5_ := f3_.symm; clear f1_ f2_ f3_; subst f4_; subst f5_))
   refine hK.out _ _ ⟨bc_ ba.out 0, bc_ ba.out 1, bc_ aa.out 0, bc_ aa.out 1, bc_ aa.out 2, bc_ aa.out 3, bc_ aa.out 4, bc_ aa.out 5, bc_ aa.out 6, bc_ aa.out 7, bc_ aa.out 8⟩ (fun hHeld => ?_)
   clear hK K
   refine nO_ 50 ?_
   refine pU_ 7 (some 51) (bo_ 9 255) ?_
   refine last_ (i := 8) (N := none) (bo_ 9 511) rfl rfl (one_of HT_.out (by kernel_rfl)) (by decide) (fun K hK => ?_)
   have hs52 : df.cell? ⟨ra, 1, none⟩ = some (.slice (some pa) ca.length ta) := bc_ ba.out 1
   have hfs52 := blk_frozen ba.out 1
   have hns52_1 := va.out
   have hns52_2 := sa.out
   have hms52_1 := ua.out
   have hms52_2 := wa.out
   refine skip_ (w1 := ?_) (by rfl) rfl ?_ ?_
   rotate_left; (· go_simp; rfl)
   refine hK.out _ _ ?_
   clear hK K
   refine done_ (done_of HT_.out (by kernel_rfl)) ?_
   have Mf := ua.out
   have Nf := va.out
   have Of := wa.out
   have Pf := sa.out
   obtain ⟨Oe, Pe⟩ := kC2_ ba.out
   obtain ⟨Qe, Re⟩ := kZ2_ ba.out
   have Qf := za.out
   have Rf := ya.out
   obtain ⟨Se, Te⟩ := kC2_ fa.out
   obtain ⟨Ue, Ve⟩ := kZ2_ fa.out
   try go_wp2
   refine bodyPost_ret (results_ct rfl _ _ Fa 24 #[.string qa, .slice Hd ab.length Id] (0, 0) _ rfl (by refine bk_ ?_; refine blk_put (cs := #[.string qa, .slice none 0 0]) ?_ 1 _ rfl; refine bk_ ?_; refine blk_put (cs := #[.string (⟨#[]⟩ : ByteArray), .slice none 0 0]) ?_ 0 _ rfl; exact far_ sa.out fa.out) Tryd.underlying24 rfl (by kernel_rfl)) rfl ?_
   exact ⟨_, by first | rfl | (simp [errW_none, errW_some] <;> rfl) | (simp only [← hji32]; first | rfl | (simp [errW_none, errW_some] <;> rfl)) | (simp [*, errW_none, errW_some] <;> rfl), by refine bk_ ?_; exact Kd.R_mono (rF_ (rF_ (Kd.R_far (p := ⟨ra, 1, none⟩) (Kd.R_types (Kd.R_types fc.out ba.out (by decide)) fa.out (by decide)) (fun _ hk => hk.1.2) (.slice Hd ab.length Id)))) (fun _ hk => trivial), hB_⟩

end Go.Proofs.YthfdfoigoomaoaaDoor.PDb
