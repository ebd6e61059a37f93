/- The walks of functions of the translation: each call returns what the plain function beside it says. -/
import Derived.Test.YthfdfoigoomaoaaDoorPDbx0
import Derived.Test.YthfdfoigoomaoaaDoorPDbx3
namespace Go.Proofs.YthfdfoigoomaoaaDoor.PDb
open Go.RowKit Go.Proofs.YthfdfoigoomaoaaDoorW.PrintWords Go.Proofs.YthfdfoigoomaoaaDoorW.PrintLast Go.Proofs.YthfdfoigoomaoaaDoorW.PrintMore Go.Proofs.YthfdfoigoomaoaaDoor.Aid
attribute [local go_sem] max2_int min2_int max_two min_two max_three min_three max_four min_four aid_str_gtr aid_str_leq   -- for this text's walks alone
set_option linter.unusedVariables false
set_option linter.unusedSimpArgs false

/-! ### database_compare: function 36 -/
def database_compare.f (k : Nat) (ia : ByteArray) (Qa : ByteArray) (bb : Int) (cb : Int) (db : Int) (eb : Int) (fb : Int) (gb : Int) (ib : Int) (Sa : ByteArray) (Ra : ByteArray) (jb : Int) (kb : Int) (lb : Int) (mb : Int) (nb : Int) (ob : Int) (pb : Int) : Option (Int) := (strings_Compare.f ia Sa).bind fun La => ((strings_Compare.f Qa Ra).bind fun Ka => ((cmp_Or_int.f k (([La, Ka] : List Int))).bind fun Ma => (some Ma)))
def database_compare.T1 : Bool × List (List Nat × List Nat) := (true,[([], []), ([0], [0]), ([], []), ([2], [2]), ([1, 3], [1, 3]), ([], []), ([5], [5]), ([], []), ([7], [7]), ([6, 8, 4], [6, 8]), ([4, 9], [4, 9]), ([10, 9], [10]), ([11, 11, 0, 1, 2, 3, 4, 5, 6, 7, 8, 9, 10, 11], [11])])
def database_compare.B1 : List Nat := [0, 1, 0, 4, 15, 0, 32, 0, 128, 511, 1023, 2047, 4095]
theorem database_compare.tab1 : rtab .any (opsOf Tryd.f36 1) = database_compare.T1 := by kernel_rfl
theorem database_compare.bits1 : waitsOk database_compare.T1.2 database_compare.B1 = true := by kernel_rfl
set_option maxHeartbeats 8000000 in
set_option maxRecDepth 100000 in
theorem database_compare.calls (k : Nat) (ia : ByteArray) (Qa : ByteArray) (bb : Int) (cb : Int) (db : Int) (eb : Int) (fb : Int) (gb : Int) (ib : Int) (Sa : ByteArray) (Ra : ByteArray) (jb : Int) (kb : Int) (lb : Int) (mb : Int) (nb : Int) (ob : Int) (pb : Int) (r : Int) (w : World) (h : database_compare.f k ia Qa bb cb db eb fb gb ib Sa Ra jb kb lb mb nb ob pb = some r) :
  Calls Tryd.prog 36 #[.agg #[.string ia, .string Qa, .int .u64 bb, .int .i64 cb, .int .i64 db, .int .i64 eb, .int .i64 fb, .int .i64 gb, .int .i64 ib], .agg #[.string Sa, .string Ra, .int .u64 jb, .int .i64 kb, .int .i64 lb, .int .i64 mb, .int .i64 nb, .int .i64 ob, .int .i64 pb]] w fun e w' => e = .returned (.int .i64 r) ∧ Below w.heap.size w w' := by
 have hu35 := Tryd.underlying35
 have HB := aM_ (Below.refl w.heap.size w)
 have H : ((strings_Compare.f ia Sa).bind fun La => ((strings_Compare.f Qa Ra).bind fun Ka => ((cmp_Or_int.f k (([La, Ka] : List Int))).bind fun Ma => (some Ma)))) = some r := h
 clear h
 replace H := Option.bind_eq_some_iff.mp H
 obtain ⟨La, ec, H⟩ := H
 replace H : ((strings_Compare.f Qa Ra).bind fun Ka => ((cmp_Or_int.f k (([La, Ka] : List Int))).bind fun Ma => (some Ma))) = some r := H
 have A3 := aM_ ec
 clear ec
 replace H := Option.bind_eq_some_iff.mp H
 obtain ⟨Ka, fc, H⟩ := H
 replace H : ((cmp_Or_int.f k (([La, Ka] : List Int))).bind fun Ma => (some Ma)) = some r := H
 have A4 := aM_ fc
 clear fc
 obtain ⟨Ab, hy127⟩ : ∃ y_ : List Int, y_ = (([La, Ka] : List Int)) := ⟨_, rfl⟩
 replace H : ((cmp_Or_int.f k Ab).bind fun Ma => (some Ma)) = some r := by first | (rw [hy127]; with_reducible exact H) | (have H2_ := (Option.bind_some _ _).symm.trans H; rw [hy127]; with_reducible exact H2_) | (have H2_ := (Option.bind_some _ _).symm.trans H; with_reducible exact H2_) | with_reducible exact H | (rw [hy127]; exact H) | exact H
 have Ny127 := aM_ hy127
 clear hy127
 replace H := Option.bind_eq_some_iff.mp H
 obtain ⟨Ma, gc, H⟩ := H
 replace H : (some Ma) = some r := H
 have A5 := aM_ gc
 clear gc
 obtain rfl := Option.some.inj H
 go_enter Tryd.func36, Tryd.ntmps36
 try go_wp2_with (first | ((with_reducible refine gate_dst (N := 2) rfl ?_); refine bE_ 2 35 #[.string ia, .string Qa, .int .u64 bb, .int .i64 cb, .int .i64 db, .int .i64 eb, .int .i64 fb, .int .i64 gb, .int .i64 ib] ?_; intro Oa hg w6 hbox hb; have fa := aM_ (hbox); have Vd := aM_ (gB_ hg HB.out); have Wd := aM_ (gB_ hg HB.out); replace HB := aM_ (below_step (bk_ HB.out) hb); clear hb hbox hg) | ((with_reducible refine gate_dst (N := 3) rfl ?_); refine bE_ 3 35 #[.string Sa, .string Ra, .int .u64 jb, .int .i64 kb, .int .i64 lb, .int .i64 mb, .int .i64 nb, .int .i64 ob, .int .i64 pb] ?_; intro Pa hg w7 hbox hb; have ga := aM_ (hbox); have Xd := aM_ (gB_ hg HB.out); have Yd := aM_ (gB_ hg HB.out); replace HB := aM_ (below_step hB_ hb); have hc := aM_ (nL_ hg fa.out); have ic := aM_ (nG_ hg fa.out); replace fa := aM_ (kG_ fa.out hb); clear hb hbox hg))
 replace fa := aM_ (blk_drew fa.out)
 replace ga := aM_ (blk_drew ga.out)
 replace HB := aM_ (bD_ HB.out)
 refine start_ (n := 13) (S := fun w' => w'.cell? ⟨Oa, 0, none⟩ = some (.string ia) ∧ w'.cell? ⟨Oa, 1, none⟩ = some (.string Qa) ∧ w'.cell? ⟨Oa, 2, none⟩ = some (.int .u64 bb) ∧ w'.cell? ⟨Oa, 3, none⟩ = some (.int .i64 cb) ∧ w'.cell? ⟨Oa, 4, none⟩ = some (.int .i64 db) ∧ w'.cell? ⟨Oa, 5, none⟩ = some (.int .i64 eb) ∧ w'.cell? ⟨Oa, 6, none⟩ = some (.int .i64 fb) ∧ w'.cell? ⟨Oa, 7, none⟩ = some (.int .i64 gb) ∧ w'.cell? ⟨Oa, 8, none⟩ = some (.int .i64 ib) ∧ w'.cell? ⟨Pa, 0, none⟩ = some (.string Sa) ∧ w'.cell? ⟨Pa, 1, none⟩ = some (.string Ra) ∧ w'.cell? ⟨Pa, 2, none⟩ = some (.int .u64 jb) ∧ w'.cell? ⟨Pa, 3, none⟩ = some (.int .i64 kb) ∧ w'.cell? ⟨Pa, 4, none⟩ = some (.int .i64 lb) ∧ w'.cell? ⟨Pa, 5, none⟩ = some (.int .i64 mb) ∧ w'.cell? ⟨Pa, 6, none⟩ = some (.int .i64 nb) ∧ w'.cell? ⟨Pa, 7, none⟩ = some (.int .i64 ob) ∧ w'.cell? ⟨Pa, 8, none⟩ = some (.int .i64 pb)) (ds := []) (bo_ 13 0) (by kernel_rfl) rfl rfl ⟨bc_ fa.out 0, bc_ fa.out 1, bc_ fa.out 2, bc_ fa.out 3, bc_ fa.out 4, bc_ fa.out 5, bc_ fa.out 6, bc_ fa.out 7, bc_ fa.out 8, bc_ ga.out 0, bc_ ga.out 1, bc_ ga.out 2, bc_ ga.out 3, bc_ ga.out 4, bc_ ga.out 5, bc_ ga.out 6, bc_ ga.out 7, bc_ ga.out 8⟩ (fun hHeld => ?_); refine with_tabW database_compare.tab1 database_compare.bits1 (fun HT_ HW_ => ?_)
 generalize w7.drew = w8 at fa ga HB hHeld ⊢
 refine pU_ 0 (some 5) (bo_ 13 1) ?_
 refine pU_ 2 (some 7) (bo_ 13 5) ?_
 refine pU_ 5 (some 10) (bo_ 13 37) ?_
 refine pU_ 7 (some 12) (bo_ 13 165) ?_
 refine tK_ 1 (some 6) (bo_ 13 167) hHeld ?_
 refine tK_ 3 (some 8) (bo_ 13 175) hHeld ?_
 refine tK_ 6 (some 11) (bo_ 13 239) hHeld ?_
 refine tK_ 8 (some 13) (bo_ 13 495) hHeld ?_
 refine one_ (i := 4) (N := some 9) (bo_ 13 511) rfl rfl (one_of HT_.out (by kernel_rfl)) (by decide) (fun K hK => ?_)
 refine goes_ Tryd.func61 (by kernel_rfl) rfl #[.string ia, .string Sa] (by rfl) rfl rfl aR_ ?_
 with_reducible refine (strings_Compare.calls ia Sa La _ A3.out).mono ?_
 rintro e w' ⟨rfl, ⟨nd, rfl⟩⟩
 refine ⟨_, rfl, ?_⟩
 refine hK.out _ _ ⟨bc_ fa.out 0, bc_ fa.out 1, bc_ fa.out 2, bc_ fa.out 3, bc_ fa.out 4, bc_ fa.out 5, bc_ fa.out 6, bc_ fa.out 7, bc_ fa.out 8, bc_ ga.out 0, bc_ ga.out 1, bc_ ga.out 2, bc_ ga.out 3, bc_ ga.out 4, bc_ ga.out 5, bc_ ga.out 6, bc_ ga.out 7, bc_ ga.out 8⟩ (fun hHeld => ?_)
 clear hK K
 refine nO_ 9 ?_
 refine one_ (i := 9) (N := some 14) (bo_ 13 1023) rfl rfl (one_of HT_.out (by kernel_rfl)) (by decide) (fun K hK => ?_)
 refine goes_ Tryd.func61 (by kernel_rfl) rfl #[.string Qa, .string Ra] (by rfl) rfl rfl aR_ ?_
 with_reducible refine (strings_Compare.calls Qa Ra Ka _ A4.out).mono ?_
 rintro e w' ⟨rfl, ⟨nd, rfl⟩⟩
 refine ⟨_, rfl, ?_⟩
 refine hK.out _ _ ⟨bc_ fa.out 0, bc_ fa.out 1, bc_ fa.out 2, bc_ fa.out 3, bc_ fa.out 4, bc_ fa.out 5, bc_ fa.out 6, bc_ fa.out 7, bc_ fa.out 8, bc_ ga.out 0, bc_ ga.out 1, bc_ ga.out 2, bc_ ga.out 3, bc_ ga.out 4, bc_ ga.out 5, bc_ ga.out 6, bc_ ga.out 7, bc_ ga.out 8⟩ (fun hHeld => ?_)
 clear hK K
 refine nO_ 14 ?_
 refine one_ (i := 10) (N := some 15) (bo_ 13 2047) rfl rfl (one_of HT_.out (by kernel_rfl)) (by decide) (fun K hK => ?_)
 refine Kd.R_lit_step (Kd.int .i64) _ 3 ?hg (N := 15) ?hd (xs := ([La, Ka] : List Int)) (inner := [.int .i64 La, .int .i64 Ka]) (ok := fun _ => True) (okp := fun _ => True) ?hr ?hp (fun _ hk => hk) trivial (Below.refl _ _) (Nat.le_refl _) (by simp) ?_; (case hd => rfl); (case hg => rfl); (case hr => first | (go_simp; done) | (go_simp; rfl)); (case hp => exact (Reps.one (show Kd.M (Kd.int .i64) _ _ _ La [.int .i64 La] from rfl) (Reps.one (show Kd.M (Kd.int .i64) _ _ _ Ka [.int .i64 Ka] from rfl) (Reps.none _ _))))
 intro pe w9 qb hb hg_ hnew_
 clear hg_ hnew_
 (first | rw [← Ny127.out] at qb | (simp only [Int.reduceToNat] at qb; rw [← Ny127.out] at qb))
 have vb := aM_ (Kd.R_lower qb (below_size hB_))
 replace fa := aM_ (kG_ fa.out hb)
 replace ga := aM_ (kG_ ga.out hb)
 replace HB := aM_ (below_step hB_ hb)
 clear hb qb
 obtain ⟨lc, mc, Lb⟩ := Kd.R_slice vb.out
 (first | subst Lb | (injection Lb with f1_ f2_ f3_; have f4_ := f1_.symm; have f5_ := f3_.symm; clear f1_ f2_ f3_; subst f4_; subst f5_))
 refine hK.out _ _ ⟨bc_ fa.out 0, bc_ fa.out 1, bc_ fa.out 2, bc_ fa.out 3, bc_ fa.out 4, bc_ fa.out 5, bc_ fa.out 6, bc_ fa.out 7, bc_ fa.out 8, bc_ ga.out 0, bc_ ga.out 1, bc_ ga.out 2, bc_ ga.out 3, bc_ ga.out 4, bc_ ga.out 5, bc_ ga.out 6, bc_ ga.out 7, bc_ ga.out 8⟩ (fun hHeld => ?_)
 clear hK K
 refine nO_ 15 ?_
 refine one_ (i := 11) (N := some 16) (bo_ 13 4095) rfl rfl (one_of HT_.out (by kernel_rfl)) (by decide) (fun K hK => ?_)
 refine goes_ Tryd.func60 (by kernel_rfl) rfl #[.slice lc Ab.length mc] (by rfl) rfl rfl aR_ ?_
 with_reducible refine (cmp_Or_int.calls k _ _ Ab Ma _ ?side1 ?side2 A5.out).mono ?_
 (case side1 => exact cD_ (Kd.R_reads' vb.out).2.2)
 (case side2 => exact (Kd.R_reads' vb.out).2.1)
 rintro e w' ⟨rfl, ⟨nd, rfl⟩⟩
 refine ⟨_, rfl, ?_⟩
 refine hK.out _ _ ⟨bc_ fa.out 0, bc_ fa.out 1, bc_ fa.out 2, bc_ fa.out 3, bc_ fa.out 4, bc_ fa.out 5, bc_ fa.out 6, bc_ fa.out 7, bc_ fa.out 8, bc_ ga.out 0, bc_ ga.out 1, bc_ ga.out 2, bc_ ga.out 3, bc_ ga.out 4, bc_ ga.out 5, bc_ ga.out 6, bc_ ga.out 7, bc_ ga.out 8⟩ (fun hHeld => ?_)
 clear hK K
 refine nO_ 16 ?_
 refine pU_ 12 (some 4) (bo_ 13 8191) ?_
 refine done_ (done_of HT_.out (by kernel_rfl)) ?_
 try go_wp2
 go_ret
 exact ⟨eW_, hB_⟩

/-! ### database_Check: function 10 -/
def database_Check.l0 : Nat → List (S35) → Int → Int → ByteArray → List (S35) → Option (Int)
 | 0, _, _, _, _, _ => none
 | k + 1, Ga, Mb, ka, sb, ma => if ka < Mb then (if 0 ≤ ka then (if ka < (Ga.length : Int) then ((database_CheckEntry.f k ((rd_T35 Ga ka).f0) ((rd_T35 Ga ka).f1) ((rd_T35 Ga ka).f2) ((rd_T35 Ga ka).f3) ((rd_T35 Ga ka).f4) ((rd_T35 Ga ka).f5) ((rd_T35 Ga ka).f6) ((rd_T35 Ga ka).f7) ((rd_T35 Ga ka).f8)).bind fun Ja => (if Ja = 0 then (if ka > 0 then (if 0 ≤ (wrap64 (ka - 1)) then (if (wrap64 (ka - 1)) < (ma.length : Int) then ((database_compare.f k ((rd_T35 Ga ka).f0) ((rd_T35 Ga ka).f1) ((rd_T35 Ga ka).f2) ((rd_T35 Ga ka).f3) ((rd_T35 Ga ka).f4) ((rd_T35 Ga ka).f5) ((rd_T35 Ga ka).f6) ((rd_T35 Ga ka).f7) ((rd_T35 Ga ka).f8) ((rd_T35 ma (wrap64 (ka - 1))).f0) ((rd_T35 ma (wrap64 (ka - 1))).f1) ((rd_T35 ma (wrap64 (ka - 1))).f2) ((rd_T35 ma (wrap64 (ka - 1))).f3) ((rd_T35 ma (wrap64 (ka - 1))).f4) ((rd_T35 ma (wrap64 (ka - 1))).f5) ((rd_T35 ma (wrap64 (ka - 1))).f6) ((rd_T35 ma (wrap64 (ka - 1))).f7) ((rd_T35 ma (wrap64 (ka - 1))).f8)).bind fun Na => (if Na < 0 then (some 110) else (database_Check.l0 k Ga Mb (wrap64 (ka + 1)) sb ma))) else (none)) else (none)) else (database_Check.l0 k Ga Mb (wrap64 (ka + 1)) sb ma)) else (some Ja))) else (none)) else (none)) else (some 0)
def database_Check.f (k : Nat) (ia : ByteArray) (aa : List (S35)) : Option (Int) := (principal_ValidRealm.f k ia).bind fun Za => (if Za = true then (if (aa.length : Int) > 60 then (some 106) else (database_Check.l0 k aa (aa.length : Int) 0 ia aa)) else (some 103))
def database_Check.T11 : Bool × List (List Nat × List Nat) := (true,[([], []), ([0], [0]), ([1], [1]), ([2], [2]), ([2], [2]), ([4, 2], [2, 4]), ([2], [2]), ([6, 2], [2, 6]), ([5, 7, 2], [2, 5, 7]), ([8, 2], [2, 8]), ([3, 9, 2, 2], [2, 3, 9]), ([10, 2], [2, 10]), ([2, 11], [2, 11])])
def database_Check.B11 : List Nat := [0, 1, 3, 7, 7, 23, 7, 71, 247, 503, 1023, 2047, 4095]
theorem database_Check.tab11 : rtab .any (opsOf Tryd.f10 11) = database_Check.T11 := by kernel_rfl
theorem database_Check.bits11 : waitsOk database_Check.T11.2 database_Check.B11 = true := by kernel_rfl
set_option maxHeartbeats 8000000 in
set_option maxRecDepth 100000 in
theorem database_Check.calls (k : Nat) (ia : ByteArray) (ab : Option Addr) (Ua : Nat) (aa : List (S35)) (r : Int) (w : World) (hr0_1 : Kd.C k35 w ab aa.length aa) (hc0_1 : aa.length ≤ Ua) (h : database_Check.f k ia aa = some r) :
  Calls Tryd.prog 10 #[.agg #[.string ia, .slice ab aa.length Ua]] w fun e w' => e = .returned (.int .i64 r) ∧ Below w.heap.size w w' := by
 have hu24 := Tryd.underlying24
 have hu35 := Tryd.underlying35
 have Va := aM_ hr0_1
 have Zd := aM_ hc0_1
 clear hr0_1 hc0_1
 have HB := aM_ (Below.refl w.heap.size w)
 have H : ((principal_ValidRealm.f k ia).bind fun Za => (if Za = true then (if (aa.length : Int) > 60 then (some 106) else (database_Check.l0 k aa (aa.length : Int) 0 ia aa)) else (some 103))) = some r := h
 clear h
 replace H := Option.bind_eq_some_iff.mp H
 obtain ⟨Za, jc, H⟩ := H
 replace H : (if Za = true then (if (aa.length : Int) > 60 then (some 106) else (database_Check.l0 k aa (aa.length : Int) 0 ia aa)) else (some 103)) = some r := H
 have A2 := aM_ jc
 clear jc
 by_cases c3 : Za = true
 rotate_left
 ·replace c3 := Bool.eq_false_iff.mpr c3
  subst c3
  have H1 : (some 103) = some r := by rw [if_neg (show ¬ (false = true) by decide)] at H; exact H
  clear H
  have H := H1
  clear H1
  obtain rfl := Option.some.inj H
  go_enter Tryd.func10, Tryd.ntmps10
  go_wp2_with (first | ((with_reducible refine gate_dst (N := 1) rfl ?_); refine bE_ 1 24 #[.string ia, .slice ab aa.length Ua] ?_; intro Ta hg qe hbox hb; have ea := aM_ (hbox); have Db := aM_ (gB_ hg HB.out); have Eb := aM_ (gB_ hg HB.out); replace HB := aM_ (below_step (bk_ HB.out) hb); clear hb hbox hg; obtain ⟨pc, qc⟩ := kC2_ ea.out; obtain ⟨rc, sc⟩ := kZ2_ ea.out) | ((with_reducible refine gate_callee (f := 35) rfl ?_); refine gC_ (some 8) 35 #[.string ia] Tryd.func35 ?_; (with_reducible refine (principal_ValidRealm.calls k ia false _ A2.out).mono ?_); rintro e w' ⟨rfl, ⟨nd, rfl⟩⟩; refine ⟨_, rfl, ?_⟩))
  go_ret
  exact ⟨eW_, hB_⟩
 subst c3
 have H1 : (if (aa.length : Int) > 60 then (some 106) else (database_Check.l0 k aa (aa.length : Int) 0 ia aa)) = some r := by rw [if_pos rfl] at H; exact H
 clear H
 have H := H1
 clear H1
 by_cases c4 : (aa.length : Int) > 60
 ·rw [if_pos c4] at H
  have Ob : decide (60 < (aa.length : Int)) = true := decide_eq_true c4
  have Pb : decide (60 < aa.length) = true := decide_eq_true (by omega)
  clear c4
  obtain rfl := Option.some.inj H
  go_enter Tryd.func10, Tryd.ntmps10
  go_wp2_with (first | ((with_reducible refine gate_dst (N := 1) rfl ?_); refine bE_ 1 24 #[.string ia, .slice ab aa.length Ua] ?_; intro Ta hg w5 hbox hb; have ea := aM_ (hbox); have Db := aM_ (gB_ hg HB.out); have Eb := aM_ (gB_ hg HB.out); replace HB := aM_ (below_step (bk_ HB.out) hb); clear hb hbox hg; obtain ⟨Qb, Rb⟩ := kC2_ ea.out; obtain ⟨Sb, Tb⟩ := kZ2_ ea.out) | ((with_reducible refine gate_callee (f := 35) rfl ?_); refine gC_ (some 8) 35 #[.string ia] Tryd.func35 ?_; (with_reducible refine (principal_ValidRealm.calls k ia true _ A2.out).mono ?_); rintro e w' ⟨rfl, ⟨nd, rfl⟩⟩; refine ⟨_, rfl, ?_⟩))
  go_ret
  exact ⟨eW_, hB_⟩
 rw [if_neg c4] at H
 have Ob : decide (60 < (aa.length : Int)) = false := decide_eq_false c4
 have Pb : decide (60 < aa.length) = false := decide_eq_false (by omega)
 clear c4
 have H' := aM_ H
 clear H
 go_enter Tryd.func10, Tryd.ntmps10
 go_wp2_with (first | ((with_reducible refine gate_dst (N := 1) rfl ?_); refine bE_ 1 24 #[.string ia, .slice ab aa.length Ua] ?_; intro Ta hg w7 hbox hb; have ea := aM_ (hbox); have Db := aM_ (gB_ hg HB.out); have Eb := aM_ (gB_ hg HB.out); replace HB := aM_ (below_step (bk_ HB.out) hb); clear hb hbox hg; obtain ⟨Ub, Vb⟩ := kC2_ ea.out; obtain ⟨Wb, Xb⟩ := kZ2_ ea.out) | ((with_reducible refine gate_callee (f := 35) rfl ?_); refine gC_ (some 8) 35 #[.string ia] Tryd.func35 ?_; (with_reducible refine (principal_ValidRealm.calls k ia true _ A2.out).mono ?_); rintro e w' ⟨rfl, ⟨nd, rfl⟩⟩; refine ⟨_, rfl, ?_⟩))
 go_loopg [17] k (fun kq Rd w' => ∃ (ba : Int), Rd = .int .i64 ba ∧ Aside0 (database_Check.l0 kq aa (aa.length : Int) ba ia aa = some r) ∧ Aside0 (kq ≤ k) ∧ Aside0 (w'.heap[Ta]? = some (.cells #[.string ia, (.slice ab aa.length Ua)] 24 (0, 0))) ∧ Aside0 (Below w.heap.size w w'))
 case atStart => exact ⟨(0), rS_, H', ⟨Nat.le_refl _⟩, ⟨by refine bk_ ?_; exact ea.out⟩, ⟨hB_⟩⟩
 case round =>
  clear H'
  try clear c1
  try clear p2
  try clear c3
  try clear c4
  try clear Ob
  try clear Pb
  try clear Qb
  try clear Rb
  try clear Ub
  try clear Vb
  try clear Sb
  try clear Tb
  try clear Wb
  try clear Xb
  obtain ⟨ba, rfl, HA, Fb, ea, HB⟩ := hrel
  cases gk with
  | zero => exact absurd HA.out (by simp [database_Check.l0])
  | succ k1 =>
   have H := HA.out
   clear HA
   simp only [database_Check.l0] at H
   by_cases c9 : ba < (aa.length : Int)
   rotate_left
   ·rw [if_neg c9] at H
    have oc : decide (ba < (aa.length : Int)) = false := decide_eq_false c9
    clear c9
    obtain rfl := Option.some.inj H
    go_wp2
    go_ret
    exact ⟨eW_, hB_⟩
   rw [if_pos c9] at H
   have oc : decide (ba < (aa.length : Int)) = true := decide_eq_true c9
   clear c9
   by_cases Gb : 0 ≤ ba
   rotate_left
   ·rw [if_neg Gb] at H
    exact absurd H (by simp)
   rw [if_pos Gb] at H
   have ae : decide (0 ≤ ba) = true := decide_eq_true Gb
   clear Gb
   by_cases Hb : ba < (aa.length : Int)
   rotate_left
   ·rw [if_neg Hb] at H
    exact absurd H (by simp)
   rw [if_pos Hb] at H
   have be : decide (ba < (aa.length : Int)) = true := decide_eq_true Hb
   clear Hb
   replace H := Option.bind_eq_some_iff.mp H
   obtain ⟨Ja, Yb, H⟩ := H
   replace H : (if Ja = 0 then (if ba > 0 then (if 0 ≤ (wrap64 (ba - 1)) then (if (wrap64 (ba - 1)) < (aa.length : Int) then ((database_compare.f k1 ((rd_T35 aa ba).f0) ((rd_T35 aa ba).f1) ((rd_T35 aa ba).f2) ((rd_T35 aa ba).f3) ((rd_T35 aa ba).f4) ((rd_T35 aa ba).f5) ((rd_T35 aa ba).f6) ((rd_T35 aa ba).f7) ((rd_T35 aa ba).f8) ((rd_T35 aa (wrap64 (ba - 1))).f0) ((rd_T35 aa (wrap64 (ba - 1))).f1) ((rd_T35 aa (wrap64 (ba - 1))).f2) ((rd_T35 aa (wrap64 (ba - 1))).f3) ((rd_T35 aa (wrap64 (ba - 1))).f4) ((rd_T35 aa (wrap64 (ba - 1))).f5) ((rd_T35 aa (wrap64 (ba - 1))).f6) ((rd_T35 aa (wrap64 (ba - 1))).f7) ((rd_T35 aa (wrap64 (ba - 1))).f8)).bind fun Na => (if Na < 0 then (some 110) else (database_Check.l0 k1 aa (aa.length : Int) (wrap64 (ba + 1)) ia aa))) else (none)) else (none)) else (database_Check.l0 k1 aa (aa.length : Int) (wrap64 (ba + 1)) ia aa)) else (some Ja)) = some r := H
   have zb := aM_ Yb
   clear Yb
   by_cases rb : Ja = 0
   rotate_left
   ·rw [if_neg rb] at H
    have ac : (Ja == 0) = false := beq_eq_false_iff_ne.mpr rb
    have bc : (Ja != 0) = true := bne_iff_ne.mpr rb
    obtain rfl := Option.some.inj H
    have Ha : 0 ≤ (ba : Int) := dT_
    have Ia : ba < (aa.length : Int) := dT_
    obtain ⟨ha, Wa, na, oa, pa, qa, ra, sa, ta, ua, va⟩ := at_T35 Va.out ba Ha Ia
    cases Wa
    replace na := cH_ HB.out na
    replace oa := cH_ HB.out oa
    replace pa := cH_ HB.out pa
    replace qa := cH_ HB.out qa
    replace ra := cH_ HB.out ra
    replace sa := cH_ HB.out sa
    replace ta := cH_ HB.out ta
    replace ua := cH_ HB.out ua
    replace va := cH_ HB.out va
    replace Ha := eq_true Ha
    replace Ia := eq_true Ia
    go_wp2_with (first | ((with_reducible refine gate_dst (N := 4) rfl ?_); refine bE_ 4 35 #[.string (⟨#[]⟩ : ByteArray), .string (⟨#[]⟩ : ByteArray), .int .u64 0, .int .i64 0, .int .i64 0, .int .i64 0, .int .i64 0, .int .i64 0, .int .i64 0] ?_; intro ja hg re hbox hb; have da := aM_ (hbox); have wb := aM_ (gB_ hg HB.out); have xb := aM_ (gB_ hg HB.out); replace HB := aM_ (below_step hB_ hb); have la := aM_ (nL_ hg ea.out); have wa := aM_ (nG_ hg ea.out); replace ea := aM_ (kG_ ea.out hb); clear hb hbox hg; have ce := wa.out; have de := la.out; obtain ⟨tc, uc, vc, wc, xc, yc, zc, Ac, Bc⟩ := kC9_ da.out; obtain ⟨Cc, Dc, Ec, Fc, Gc, Hc, Ic, Jc, Kc⟩ := kZ9_ da.out) | ((with_reducible refine gate_callee (f := 14) rfl ?_); refine gC_ (some 23) 14 #[.agg #[.string ((rd_T35 aa ba).f0), .string ((rd_T35 aa ba).f1), .int .u64 ((rd_T35 aa ba).f2), .int .i64 ((rd_T35 aa ba).f3), .int .i64 ((rd_T35 aa ba).f4), .int .i64 ((rd_T35 aa ba).f5), .int .i64 ((rd_T35 aa ba).f6), .int .i64 ((rd_T35 aa ba).f7), .int .i64 ((rd_T35 aa ba).f8)]] Tryd.func14 ?_; (with_reducible refine (database_CheckEntry.calls k1 ((rd_T35 aa ba).f0) ((rd_T35 aa ba).f1) ((rd_T35 aa ba).f2) ((rd_T35 aa ba).f3) ((rd_T35 aa ba).f4) ((rd_T35 aa ba).f5) ((rd_T35 aa ba).f6) ((rd_T35 aa ba).f7) ((rd_T35 aa ba).f8) Ja _ zb.out).mono ?_); rintro e se ⟨rfl, hb⟩; refine ⟨_, rfl, ?_⟩; replace ea := aM_ (blk_below (far_ la.out ea.out) hb); replace da := aM_ (blk_below (g := ja) (o := .cells #[.string ((rd_T35 aa ba).f0), .string ((rd_T35 aa ba).f1), .int .u64 ((rd_T35 aa ba).f2), .int .i64 ((rd_T35 aa ba).f3), .int .i64 ((rd_T35 aa ba).f4), .int .i64 ((rd_T35 aa ba).f5), .int .i64 ((rd_T35 aa ba).f6), .int .i64 ((rd_T35 aa ba).f7), .int .i64 ((rd_T35 aa ba).f8)] 35 (0, 0)) (by exact puts_ da.out) hb); replace HB := aM_ (below_step hB_ hb); clear hb))
    go_ret
    exact ⟨eW_, hB_⟩
   rw [if_pos rb] at H
   have ac : (Ja == 0) = true := beq_iff_eq.mpr rb
   have bc : (Ja != 0) = false := bne_eq_false_iff_eq.mpr rb
   clear rb
   by_cases tb : ba > 0
   rotate_left
   ·rw [if_neg tb] at H
    have cc : decide (0 < ba) = false := decide_eq_false tb
    clear tb
    have H' := aM_ H
    clear H
    have Ha : 0 ≤ (ba : Int) := dT_
    have Ia : ba < (aa.length : Int) := dT_
    obtain ⟨ha, Wa, na, oa, pa, qa, ra, sa, ta, ua, va⟩ := at_T35 Va.out ba Ha Ia
    cases Wa
    replace na := cH_ HB.out na
    replace oa := cH_ HB.out oa
    replace pa := cH_ HB.out pa
    replace qa := cH_ HB.out qa
    replace ra := cH_ HB.out ra
    replace sa := cH_ HB.out sa
    replace ta := cH_ HB.out ta
    replace ua := cH_ HB.out ua
    replace va := cH_ HB.out va
    replace Ha := eq_true Ha
    replace Ia := eq_true Ia
    try go_wp2_with (first | ((with_reducible refine gate_dst (N := 4) rfl ?_); refine bE_ 4 35 #[.string (⟨#[]⟩ : ByteArray), .string (⟨#[]⟩ : ByteArray), .int .u64 0, .int .i64 0, .int .i64 0, .int .i64 0, .int .i64 0, .int .i64 0, .int .i64 0] ?_; intro ja hg te hbox hb; have da := aM_ (hbox); have wb := aM_ (gB_ hg HB.out); have xb := aM_ (gB_ hg HB.out); replace HB := aM_ (below_step hB_ hb); have la := aM_ (nL_ hg ea.out); have wa := aM_ (nG_ hg ea.out); replace ea := aM_ (kG_ ea.out hb); clear hb hbox hg; have ee := wa.out; have fe := la.out; obtain ⟨Lc, Mc, Nc, Oc, Pc, Qc, Rc, Sc, Tc⟩ := kC9_ da.out; obtain ⟨Uc, Vc, Wc, Xc, Yc, Zc, ad, bd, cd⟩ := kZ9_ da.out) | ((with_reducible refine gate_callee (f := 14) rfl ?_); refine gC_ (some 23) 14 #[.agg #[.string ((rd_T35 aa ba).f0), .string ((rd_T35 aa ba).f1), .int .u64 ((rd_T35 aa ba).f2), .int .i64 ((rd_T35 aa ba).f3), .int .i64 ((rd_T35 aa ba).f4), .int .i64 ((rd_T35 aa ba).f5), .int .i64 ((rd_T35 aa ba).f6), .int .i64 ((rd_T35 aa ba).f7), .int .i64 ((rd_T35 aa ba).f8)]] Tryd.func14 ?_; (with_reducible refine (database_CheckEntry.calls k1 ((rd_T35 aa ba).f0) ((rd_T35 aa ba).f1) ((rd_T35 aa ba).f2) ((rd_T35 aa ba).f3) ((rd_T35 aa ba).f4) ((rd_T35 aa ba).f5) ((rd_T35 aa ba).f6) ((rd_T35 aa ba).f7) ((rd_T35 aa ba).f8) Ja _ zb.out).mono ?_); rintro e Sd ⟨rfl, hb⟩; refine ⟨_, rfl, ?_⟩; replace ea := aM_ (blk_below (far_ la.out ea.out) hb); replace da := aM_ (blk_below (g := ja) (o := .cells #[.string ((rd_T35 aa ba).f0), .string ((rd_T35 aa ba).f1), .int .u64 ((rd_T35 aa ba).f2), .int .i64 ((rd_T35 aa ba).f3), .int .i64 ((rd_T35 aa ba).f4), .int .i64 ((rd_T35 aa ba).f5), .int .i64 ((rd_T35 aa ba).f6), .int .i64 ((rd_T35 aa ba).f7), .int .i64 ((rd_T35 aa ba).f8)] 35 (0, 0)) (by exact puts_ da.out) hb); replace HB := aM_ (below_step hB_ hb); clear hb))
    replace ea := aM_ (blk_drew ea.out)
    replace da := aM_ (blk_drew da.out)
    replace HB := aM_ (bD_ HB.out)
    refine start_ (n := 13) (S := fun w' => True) (ds := []) (bo_ 13 0) (by kernel_rfl) rfl rfl trivial (fun hHeld => ?_); refine with_tabW database_Check.tab11 database_Check.bits11 (fun HT_ HW_ => ?_)
    generalize Sd.drew = ue at ea da HB hHeld ⊢
    refine pU_ 0 (some 27) (bo_ 13 1) ?_
    refine pU_ 1 (some 28) (bo_ 13 3) ?_
    refine pU_ 2 (some 29) (bo_ 13 7) ?_
    refine pV_ 3 (some 30) (bo_ 13 15) ?_
    refine pV_ 4 (some 31) (bo_ 13 31) ?_
    refine pV_ 5 (some 32) (bo_ 13 63) ?_
    refine pV_ 6 (some 33) (bo_ 13 127) ?_
    refine pV_ 7 (some 34) (bo_ 13 255) ?_
    refine pV_ 8 (some 35) (bo_ 13 511) ?_
    refine pV_ 9 (some 36) (bo_ 13 1023) ?_
    refine pV_ 10 (some 37) (bo_ 13 2047) ?_
    refine pV_ 11 (some 38) (bo_ 13 4095) ?_
    refine pU_ 12 (some 39) (bo_ 13 8191) ?_
    refine done_ (done_of HT_.out (by kernel_rfl)) ?_
    try go_wp2
    go_roundg k1
    case measure => have := Fb.out; omega
    case rel => exact ⟨(wrap64 (ba + 1)), rS_, H', ⟨by have := Fb.out; omega⟩, ⟨by refine bk_ ?_; exact ea.out⟩, ⟨hB_⟩⟩
   rw [if_pos tb] at H
   have cc : decide (0 < ba) = true := decide_eq_true tb
   clear tb
   obtain ⟨ca, hji15⟩ : ∃ j_ : Int, (wrap64 (ba - 1)) = j_ := ⟨_, rfl⟩
   replace H : (if 0 ≤ (ca) then (if (ca) < (aa.length : Int) then ((database_compare.f k1 ((rd_T35 aa ba).f0) ((rd_T35 aa ba).f1) ((rd_T35 aa ba).f2) ((rd_T35 aa ba).f3) ((rd_T35 aa ba).f4) ((rd_T35 aa ba).f5) ((rd_T35 aa ba).f6) ((rd_T35 aa ba).f7) ((rd_T35 aa ba).f8) ((rd_T35 aa (ca)).f0) ((rd_T35 aa (ca)).f1) ((rd_T35 aa (ca)).f2) ((rd_T35 aa (ca)).f3) ((rd_T35 aa (ca)).f4) ((rd_T35 aa (ca)).f5) ((rd_T35 aa (ca)).f6) ((rd_T35 aa (ca)).f7) ((rd_T35 aa (ca)).f8)).bind fun Na => (if Na < 0 then (some 110) else (database_Check.l0 k1 aa (aa.length : Int) (wrap64 (ba + 1)) ia aa))) else (none)) else (none)) = some r := by first | (rw [hji15] at H; exact H) | (simp only [hji15] at H ⊢; exact H)
   (try rw [hji15] at zb)
   have hji15w : (IntKind.i64.wrap (ba - 1)) = ca := (i64_w _).trans hji15
   by_cases Ib : 0 ≤ (ca)
   rotate_left
   ·rw [if_neg Ib] at H
    exact absurd H (by simp)
   rw [if_pos Ib] at H
   have ge : decide (0 ≤ (ca)) = true := decide_eq_true Ib
   clear Ib
   by_cases Jb : (ca) < (aa.length : Int)
   rotate_left
   ·rw [if_neg Jb] at H
    exact absurd H (by simp)
   rw [if_pos Jb] at H
   have he : decide ((ca) < (aa.length : Int)) = true := decide_eq_true Jb
   clear Jb
   replace H := Option.bind_eq_some_iff.mp H
   obtain ⟨Na, Zb, H⟩ := H
   replace H : (if Na < 0 then (some 110) else (database_Check.l0 k1 aa (aa.length : Int) (wrap64 (ba + 1)) ia aa)) = some r := H
   have kc := aM_ Zb
   clear Zb
   by_cases ub : Na < 0
   ·rw [if_pos ub] at H
    have dc : decide (Na < 0) = true := decide_eq_true ub
    clear ub
    obtain rfl := Option.some.inj H
    have Ha : 0 ≤ (ba : Int) := dT_
    have Ia : ba < (aa.length : Int) := dT_
    obtain ⟨ha, Wa, na, oa, pa, qa, ra, sa, ta, ua, va⟩ := at_T35 Va.out ba Ha Ia
    cases Wa
    replace na := cH_ HB.out na
    replace oa := cH_ HB.out oa
    replace pa := cH_ HB.out pa
    replace qa := cH_ HB.out qa
    replace ra := cH_ HB.out ra
    replace sa := cH_ HB.out sa
    replace ta := cH_ HB.out ta
    replace ua := cH_ HB.out ua
    replace va := cH_ HB.out va
    replace Ha := eq_true Ha
    replace Ia := eq_true Ia
    try go_wp2_with (first | ((with_reducible refine gate_dst (N := 4) rfl ?_); refine bE_ 4 35 #[.string (⟨#[]⟩ : ByteArray), .string (⟨#[]⟩ : ByteArray), .int .u64 0, .int .i64 0, .int .i64 0, .int .i64 0, .int .i64 0, .int .i64 0, .int .i64 0] ?_; intro ja hg ve hbox hb; have da := aM_ (hbox); have wb := aM_ (gB_ hg HB.out); have xb := aM_ (gB_ hg HB.out); replace HB := aM_ (below_step hB_ hb); have la := aM_ (nL_ hg ea.out); have wa := aM_ (nG_ hg ea.out); replace ea := aM_ (kG_ ea.out hb); clear hb hbox hg; have ie := wa.out; have je := la.out; obtain ⟨dd, ed, fd, gd, id, jd, kd, ld, md⟩ := kC9_ da.out; obtain ⟨od, pd, qd, rd, sd, td, ud, vd, wd⟩ := kZ9_ da.out) | ((with_reducible refine gate_callee (f := 14) rfl ?_); refine gC_ (some 23) 14 #[.agg #[.string ((rd_T35 aa ba).f0), .string ((rd_T35 aa ba).f1), .int .u64 ((rd_T35 aa ba).f2), .int .i64 ((rd_T35 aa ba).f3), .int .i64 ((rd_T35 aa ba).f4), .int .i64 ((rd_T35 aa ba).f5), .int .i64 ((rd_T35 aa ba).f6), .int .i64 ((rd_T35 aa ba).f7), .int .i64 ((rd_T35 aa ba).f8)]] Tryd.func14 ?_; (with_reducible refine (database_CheckEntry.calls k1 ((rd_T35 aa ba).f0) ((rd_T35 aa ba).f1) ((rd_T35 aa ba).f2) ((rd_T35 aa ba).f3) ((rd_T35 aa ba).f4) ((rd_T35 aa ba).f5) ((rd_T35 aa ba).f6) ((rd_T35 aa ba).f7) ((rd_T35 aa ba).f8) Ja _ zb.out).mono ?_); rintro e Td ⟨rfl, hb⟩; refine ⟨_, rfl, ?_⟩; replace ea := aM_ (blk_below (far_ la.out ea.out) hb); replace da := aM_ (blk_below (g := ja) (o := .cells #[.string ((rd_T35 aa ba).f0), .string ((rd_T35 aa ba).f1), .int .u64 ((rd_T35 aa ba).f2), .int .i64 ((rd_T35 aa ba).f3), .int .i64 ((rd_T35 aa ba).f4), .int .i64 ((rd_T35 aa ba).f5), .int .i64 ((rd_T35 aa ba).f6), .int .i64 ((rd_T35 aa ba).f7), .int .i64 ((rd_T35 aa ba).f8)] 35 (0, 0)) (by exact puts_ da.out) hb); replace HB := aM_ (below_step hB_ hb); clear hb))
    replace ea := aM_ (blk_drew ea.out)
    replace da := aM_ (blk_drew da.out)
    replace HB := aM_ (bD_ HB.out)
    have Xa : 0 ≤ ((ca) : Int) := dT_
    have Ya : (ca) < (aa.length : Int) := dT_
    obtain ⟨yb, Cb, xa, ya, za, Aa, Ba, Ca, Da, Ea, Fa⟩ := at_T35 Va.out (ca) Xa Ya
    have hw136_8 := Fa
    have hw136_7 := Ea
    have hw136_6 := Da
    have hw136_5 := Ca
    have hw136_4 := Ba
    have hw136_3 := Aa
    have hw136_2 := za
    have hw136_1 := ya
    have hw136_0 := xa
    obtain rfl : ha = yb := (by injection Cb)
    replace xa := cH_ HB.out xa
    replace ya := cH_ HB.out ya
    replace za := cH_ HB.out za
    replace Aa := cH_ HB.out Aa
    replace Ba := cH_ HB.out Ba
    replace Ca := cH_ HB.out Ca
    replace Da := cH_ HB.out Da
    replace Ea := cH_ HB.out Ea
    replace Fa := cH_ HB.out Fa
    replace Xa := eq_true Xa
    replace Ya := eq_true Ya
    refine start_ (n := 13) (S := fun w' => w'.cell? ⟨ja, 0, none⟩ = some (.string ((rd_T35 aa ba).f0)) ∧ w'.cell? ⟨ja, 1, none⟩ = some (.string ((rd_T35 aa ba).f1)) ∧ w'.cell? ⟨ja, 2, none⟩ = some (.int .u64 ((rd_T35 aa ba).f2)) ∧ w'.cell? ⟨ja, 3, none⟩ = some (.int .i64 ((rd_T35 aa ba).f3)) ∧ w'.cell? ⟨ja, 4, none⟩ = some (.int .i64 ((rd_T35 aa ba).f4)) ∧ w'.cell? ⟨ja, 5, none⟩ = some (.int .i64 ((rd_T35 aa ba).f5)) ∧ w'.cell? ⟨ja, 6, none⟩ = some (.int .i64 ((rd_T35 aa ba).f6)) ∧ w'.cell? ⟨ja, 7, none⟩ = some (.int .i64 ((rd_T35 aa ba).f7)) ∧ w'.cell? ⟨ja, 8, none⟩ = some (.int .i64 ((rd_T35 aa ba).f8)) ∧ w'.cell? ⟨Ta, 0, none⟩ = some (.string ia) ∧ w'.cell? ⟨Ta, 1, none⟩ = some (.slice (some ha) aa.length Ua) ∧ w'.cell? (ha.add (((ca)).toNat * 9)) = some (.string ((rd_T35 aa (ca)).f0)) ∧ w'.cell? ⟨(ha.add (((ca)).toNat * 9)).block, (ha.add (((ca)).toNat * 9)).off + 1, none⟩ = some (.string ((rd_T35 aa (ca)).f1)) ∧ w'.cell? ⟨(ha.add (((ca)).toNat * 9)).block, (ha.add (((ca)).toNat * 9)).off + 2, none⟩ = some (.int .u64 ((rd_T35 aa (ca)).f2)) ∧ w'.cell? ⟨(ha.add (((ca)).toNat * 9)).block, (ha.add (((ca)).toNat * 9)).off + 3, none⟩ = some (.int .i64 ((rd_T35 aa (ca)).f3)) ∧ w'.cell? ⟨(ha.add (((ca)).toNat * 9)).block, (ha.add (((ca)).toNat * 9)).off + 4, none⟩ = some (.int .i64 ((rd_T35 aa (ca)).f4)) ∧ w'.cell? ⟨(ha.add (((ca)).toNat * 9)).block, (ha.add (((ca)).toNat * 9)).off + 5, none⟩ = some (.int .i64 ((rd_T35 aa (ca)).f5)) ∧ w'.cell? ⟨(ha.add (((ca)).toNat * 9)).block, (ha.add (((ca)).toNat * 9)).off + 6, none⟩ = some (.int .i64 ((rd_T35 aa (ca)).f6)) ∧ w'.cell? ⟨(ha.add (((ca)).toNat * 9)).block, (ha.add (((ca)).toNat * 9)).off + 7, none⟩ = some (.int .i64 ((rd_T35 aa (ca)).f7)) ∧ w'.cell? ⟨(ha.add (((ca)).toNat * 9)).block, (ha.add (((ca)).toNat * 9)).off + 8, none⟩ = some (.int .i64 ((rd_T35 aa (ca)).f8))) (ds := []) (bo_ 13 0) (by kernel_rfl) rfl rfl ⟨bc_ da.out 0, bc_ da.out 1, bc_ da.out 2, bc_ da.out 3, bc_ da.out 4, bc_ da.out 5, bc_ da.out 6, bc_ da.out 7, bc_ da.out 8, bc_ ea.out 0, bc_ ea.out 1, (cH_ HB.out hw136_0), (cH_ HB.out hw136_1), (cH_ HB.out hw136_2), (cH_ HB.out hw136_3), (cH_ HB.out hw136_4), (cH_ HB.out hw136_5), (cH_ HB.out hw136_6), (cH_ HB.out hw136_7), (cH_ HB.out hw136_8)⟩ (fun hHeld => ?_); refine with_tabW database_Check.tab11 database_Check.bits11 (fun HT_ HW_ => ?_)
    generalize Td.drew = we at ea da HB xa ya za Aa Ba Ca Da Ea Fa hHeld ⊢
    refine pU_ 0 (some 27) (bo_ 13 1) ?_
    refine pU_ 1 (some 28) (bo_ 13 3) ?_
    refine pU_ 2 (some 29) (bo_ 13 7) ?_
    refine pU_ 4 (some 31) (bo_ 13 23) ?_
    refine pU_ 6 (some 33) (bo_ 13 87) ?_
    refine pU_ 7 (some 34) (bo_ 13 215) ?_
    refine tK_ 3 (some 30) (bo_ 13 223) hHeld ?_
    refine tK_ 5 (some 32) (bo_ 13 255) hHeld ?_
    refine pU_ 8 (some 35) (bo_ 13 511) ?_
    refine tK_ 9 (some 36) (bo_ 13 1023) hHeld ?_
    refine one_ (i := 10) (N := some 37) (bo_ 13 2047) rfl rfl (one_of HT_.out (by kernel_rfl)) (by decide) (fun K hK => ?_)
    refine goes_ Tryd.func36 (by kernel_rfl) rfl #[.agg #[.string ((rd_T35 aa ba).f0), .string ((rd_T35 aa ba).f1), .int .u64 ((rd_T35 aa ba).f2), .int .i64 ((rd_T35 aa ba).f3), .int .i64 ((rd_T35 aa ba).f4), .int .i64 ((rd_T35 aa ba).f5), .int .i64 ((rd_T35 aa ba).f6), .int .i64 ((rd_T35 aa ba).f7), .int .i64 ((rd_T35 aa ba).f8)], .agg #[.string ((rd_T35 aa (ca)).f0), .string ((rd_T35 aa (ca)).f1), .int .u64 ((rd_T35 aa (ca)).f2), .int .i64 ((rd_T35 aa (ca)).f3), .int .i64 ((rd_T35 aa (ca)).f4), .int .i64 ((rd_T35 aa (ca)).f5), .int .i64 ((rd_T35 aa (ca)).f6), .int .i64 ((rd_T35 aa (ca)).f7), .int .i64 ((rd_T35 aa (ca)).f8)]] (by rfl) rfl rfl (by (try simp only [List.map_toArray, List.map_cons, List.map_nil]); first | done | (simp only [hji15]; rfl) | rfl | (simp only [List.length_drop, List.length_take]; rfl)) ?_
    with_reducible refine (database_compare.calls k1 ((rd_T35 aa ba).f0) ((rd_T35 aa ba).f1) ((rd_T35 aa ba).f2) ((rd_T35 aa ba).f3) ((rd_T35 aa ba).f4) ((rd_T35 aa ba).f5) ((rd_T35 aa ba).f6) ((rd_T35 aa ba).f7) ((rd_T35 aa ba).f8) ((rd_T35 aa (ca)).f0) ((rd_T35 aa (ca)).f1) ((rd_T35 aa (ca)).f2) ((rd_T35 aa (ca)).f3) ((rd_T35 aa (ca)).f4) ((rd_T35 aa (ca)).f5) ((rd_T35 aa (ca)).f6) ((rd_T35 aa (ca)).f7) ((rd_T35 aa (ca)).f8) Na _ kc.out).mono ?_
    rintro e xe ⟨rfl, hb⟩
    refine ⟨_, rfl, ?_⟩
    replace ea := aM_ (kG_ ea.out hb)
    replace da := aM_ (kG_ da.out hb)
    replace HB := aM_ (below_step hB_ hb)
    clear hb
    refine hK.out _ _ ⟨bc_ da.out 0, bc_ da.out 1, bc_ da.out 2, bc_ da.out 3, bc_ da.out 4, bc_ da.out 5, bc_ da.out 6, bc_ da.out 7, bc_ da.out 8, bc_ ea.out 0, bc_ ea.out 1, (cH_ HB.out hw136_0), (cH_ HB.out hw136_1), (cH_ HB.out hw136_2), (cH_ HB.out hw136_3), (cH_ HB.out hw136_4), (cH_ HB.out hw136_5), (cH_ HB.out hw136_6), (cH_ HB.out hw136_7), (cH_ HB.out hw136_8)⟩ (fun hHeld => ?_)
    clear hK K
    refine nO_ 37 ?_
    refine pU_ 11 (some 38) (bo_ 13 4095) ?_
    refine pU_ 12 (some 39) (bo_ 13 8191) ?_
    refine done_ (done_of HT_.out (by kernel_rfl)) ?_
    try go_wp2
    go_ret
    exact ⟨by first | rfl | (simp [errW_none, errW_some] <;> rfl) | (simp only [← hji15]; first | rfl | (simp [errW_none, errW_some] <;> rfl)) | (simp [*, errW_none, errW_some] <;> rfl), hB_⟩
   rw [if_neg ub] at H
   have dc : decide (Na < 0) = false := decide_eq_false ub
   clear ub
   have H' := aM_ H
   clear H
   have Ha : 0 ≤ (ba : Int) := dT_
   have Ia : ba < (aa.length : Int) := dT_
   obtain ⟨ha, Wa, na, oa, pa, qa, ra, sa, ta, ua, va⟩ := at_T35 Va.out ba Ha Ia
   cases Wa
   replace na := cH_ HB.out na
   replace oa := cH_ HB.out oa
   replace pa := cH_ HB.out pa
   replace qa := cH_ HB.out qa
   replace ra := cH_ HB.out ra
   replace sa := cH_ HB.out sa
   replace ta := cH_ HB.out ta
   replace ua := cH_ HB.out ua
   replace va := cH_ HB.out va
   replace Ha := eq_true Ha
   replace Ia := eq_true Ia
   try go_wp2_with (first | ((with_reducible refine gate_dst (N := 4) rfl ?_); refine bE_ 4 35 #[.string (⟨#[]⟩ : ByteArray), .string (⟨#[]⟩ : ByteArray), .int .u64 0, .int .i64 0, .int .i64 0, .int .i64 0, .int .i64 0, .int .i64 0, .int .i64 0] ?_; intro ja hg ye hbox hb; have da := aM_ (hbox); have wb := aM_ (gB_ hg HB.out); have xb := aM_ (gB_ hg HB.out); replace HB := aM_ (below_step hB_ hb); have la := aM_ (nL_ hg ea.out); have wa := aM_ (nG_ hg ea.out); replace ea := aM_ (kG_ ea.out hb); clear hb hbox hg; have ke := wa.out; have le := la.out; obtain ⟨xd, yd, zd, Ad, Bd, Cd, Dd, Ed, Fd⟩ := kC9_ da.out; obtain ⟨Gd, Hd, Id, Jd, Ld, Md, Nd, Od, Pd⟩ := kZ9_ da.out) | ((with_reducible refine gate_callee (f := 14) rfl ?_); refine gC_ (some 23) 14 #[.agg #[.string ((rd_T35 aa ba).f0), .string ((rd_T35 aa ba).f1), .int .u64 ((rd_T35 aa ba).f2), .int .i64 ((rd_T35 aa ba).f3), .int .i64 ((rd_T35 aa ba).f4), .int .i64 ((rd_T35 aa ba).f5), .int .i64 ((rd_T35 aa ba).f6), .int .i64 ((rd_T35 aa ba).f7), .int .i64 ((rd_T35 aa ba).f8)]] Tryd.func14 ?_; (with_reducible refine (database_CheckEntry.calls k1 ((rd_T35 aa ba).f0) ((rd_T35 aa ba).f1) ((rd_T35 aa ba).f2) ((rd_T35 aa ba).f3) ((rd_T35 aa ba).f4) ((rd_T35 aa ba).f5) ((rd_T35 aa ba).f6) ((rd_T35 aa ba).f7) ((rd_T35 aa ba).f8) Ja _ zb.out).mono ?_); rintro e Ud ⟨rfl, hb⟩; refine ⟨_, rfl, ?_⟩; replace ea := aM_ (blk_below (far_ la.out ea.out) hb); replace da := aM_ (blk_below (g := ja) (o := .cells #[.string ((rd_T35 aa ba).f0), .string ((rd_T35 aa ba).f1), .int .u64 ((rd_T35 aa ba).f2), .int .i64 ((rd_T35 aa ba).f3), .int .i64 ((rd_T35 aa ba).f4), .int .i64 ((rd_T35 aa ba).f5), .int .i64 ((rd_T35 aa ba).f6), .int .i64 ((rd_T35 aa ba).f7), .int .i64 ((rd_T35 aa ba).f8)] 35 (0, 0)) (by exact puts_ da.out) hb); replace HB := aM_ (below_step hB_ hb); clear hb))
   replace ea := aM_ (blk_drew ea.out)
   replace da := aM_ (blk_drew da.out)
   replace HB := aM_ (bD_ HB.out)
   have Xa : 0 ≤ ((ca) : Int) := dT_
   have Ya : (ca) < (aa.length : Int) := dT_
   obtain ⟨yb, Cb, xa, ya, za, Aa, Ba, Ca, Da, Ea, Fa⟩ := at_T35 Va.out (ca) Xa Ya
   have hw136_8 := Fa
   have hw136_7 := Ea
   have hw136_6 := Da
   have hw136_5 := Ca
   have hw136_4 := Ba
   have hw136_3 := Aa
   have hw136_2 := za
   have hw136_1 := ya
   have hw136_0 := xa
   obtain rfl : ha = yb := (by injection Cb)
   replace xa := cH_ HB.out xa
   replace ya := cH_ HB.out ya
   replace za := cH_ HB.out za
   replace Aa := cH_ HB.out Aa
   replace Ba := cH_ HB.out Ba
   replace Ca := cH_ HB.out Ca
   replace Da := cH_ HB.out Da
   replace Ea := cH_ HB.out Ea
   replace Fa := cH_ HB.out Fa
   replace Xa := eq_true Xa
   replace Ya := eq_true Ya
   refine start_ (n := 13) (S := fun w' => w'.cell? ⟨ja, 0, none⟩ = some (.string ((rd_T35 aa ba).f0)) ∧ w'.cell? ⟨ja, 1, none⟩ = some (.string ((rd_T35 aa ba).f1)) ∧ w'.cell? ⟨ja, 2, none⟩ = some (.int .u64 ((rd_T35 aa ba).f2)) ∧ w'.cell? ⟨ja, 3, none⟩ = some (.int .i64 ((rd_T35 aa ba).f3)) ∧ w'.cell? ⟨ja, 4, none⟩ = some (.int .i64 ((rd_T35 aa ba).f4)) ∧ w'.cell? ⟨ja, 5, none⟩ = some (.int .i64 ((rd_T35 aa ba).f5)) ∧ w'.cell? ⟨ja, 6, none⟩ = some (.int .i64 ((rd_T35 aa ba).f6)) ∧ w'.cell? ⟨ja, 7, none⟩ = some (.int .i64 ((rd_T35 aa ba).f7)) ∧ w'.cell? ⟨ja, 8, none⟩ = some (.int .i64 ((rd_T35 aa ba).f8)) ∧ w'.cell? ⟨Ta, 0, none⟩ = some (.string ia) ∧ w'.cell? ⟨Ta, 1, none⟩ = some (.slice (some ha) aa.length Ua) ∧ w'.cell? (ha.add (((ca)).toNat * 9)) = some (.string ((rd_T35 aa (ca)).f0)) ∧ w'.cell? ⟨(ha.add (((ca)).toNat * 9)).block, (ha.add (((ca)).toNat * 9)).off + 1, none⟩ = some (.string ((rd_T35 aa (ca)).f1)) ∧ w'.cell? ⟨(ha.add (((ca)).toNat * 9)).block, (ha.add (((ca)).toNat * 9)).off + 2, none⟩ = some (.int .u64 ((rd_T35 aa (ca)).f2)) ∧ w'.cell? ⟨(ha.add (((ca)).toNat * 9)).block, (ha.add (((ca)).toNat * 9)).off + 3, none⟩ = some (.int .i64 ((rd_T35 aa (ca)).f3)) ∧ w'.cell? ⟨(ha.add (((ca)).toNat * 9)).block, (ha.add (((ca)).toNat * 9)).off + 4, none⟩ = some (.int .i64 ((rd_T35 aa (ca)).f4)) ∧ w'.cell? ⟨(ha.add (((ca)).toNat * 9)).block, (ha.add (((ca)).toNat * 9)).off + 5, none⟩ = some (.int .i64 ((rd_T35 aa (ca)).f5)) ∧ w'.cell? ⟨(ha.add (((ca)).toNat * 9)).block, (ha.add (((ca)).toNat * 9)).off + 6, none⟩ = some (.int .i64 ((rd_T35 aa (ca)).f6)) ∧ w'.cell? ⟨(ha.add (((ca)).toNat * 9)).block, (ha.add (((ca)).toNat * 9)).off + 7, none⟩ = some (.int .i64 ((rd_T35 aa (ca)).f7)) ∧ w'.cell? ⟨(ha.add (((ca)).toNat * 9)).block, (ha.add (((ca)).toNat * 9)).off + 8, none⟩ = some (.int .i64 ((rd_T35 aa (ca)).f8))) (ds := []) (bo_ 13 0) (by kernel_rfl) rfl rfl ⟨bc_ da.out 0, bc_ da.out 1, bc_ da.out 2, bc_ da.out 3, bc_ da.out 4, bc_ da.out 5, bc_ da.out 6, bc_ da.out 7, bc_ da.out 8, bc_ ea.out 0, bc_ ea.out 1, (cH_ HB.out hw136_0), (cH_ HB.out hw136_1), (cH_ HB.out hw136_2), (cH_ HB.out hw136_3), (cH_ HB.out hw136_4), (cH_ HB.out hw136_5), (cH_ HB.out hw136_6), (cH_ HB.out hw136_7), (cH_ HB.out hw136_8)⟩ (fun hHeld => ?_); refine with_tabW database_Check.tab11 database_Check.bits11 (fun HT_ HW_ => ?_)
   generalize Ud.drew = ze at ea da HB xa ya za Aa Ba Ca Da Ea Fa hHeld ⊢
   refine pU_ 0 (some 27) (bo_ 13 1) ?_
   refine pU_ 1 (some 28) (bo_ 13 3) ?_
   refine pU_ 2 (some 29) (bo_ 13 7) ?_
   refine pU_ 4 (some 31) (bo_ 13 23) ?_
   refine pU_ 6 (some 33) (bo_ 13 87) ?_
   refine pU_ 7 (some 34) (bo_ 13 215) ?_
   refine tK_ 3 (some 30) (bo_ 13 223) hHeld ?_
   refine tK_ 5 (some 32) (bo_ 13 255) hHeld ?_
   refine pU_ 8 (some 35) (bo_ 13 511) ?_
   refine tK_ 9 (some 36) (bo_ 13 1023) hHeld ?_
   refine one_ (i := 10) (N := some 37) (bo_ 13 2047) rfl rfl (one_of HT_.out (by kernel_rfl)) (by decide) (fun K hK => ?_)
   refine goes_ Tryd.func36 (by kernel_rfl) rfl #[.agg #[.string ((rd_T35 aa ba).f0), .string ((rd_T35 aa ba).f1), .int .u64 ((rd_T35 aa ba).f2), .int .i64 ((rd_T35 aa ba).f3), .int .i64 ((rd_T35 aa ba).f4), .int .i64 ((rd_T35 aa ba).f5), .int .i64 ((rd_T35 aa ba).f6), .int .i64 ((rd_T35 aa ba).f7), .int .i64 ((rd_T35 aa ba).f8)], .agg #[.string ((rd_T35 aa (ca)).f0), .string ((rd_T35 aa (ca)).f1), .int .u64 ((rd_T35 aa (ca)).f2), .int .i64 ((rd_T35 aa (ca)).f3), .int .i64 ((rd_T35 aa (ca)).f4), .int .i64 ((rd_T35 aa (ca)).f5), .int .i64 ((rd_T35 aa (ca)).f6), .int .i64 ((rd_T35 aa (ca)).f7), .int .i64 ((rd_T35 aa (ca)).f8)]] (by rfl) rfl rfl (by (try simp only [List.map_toArray, List.map_cons, List.map_nil]); first | done | (simp only [hji15]; rfl) | rfl | (simp only [List.length_drop, List.length_take]; rfl)) ?_
   with_reducible refine (database_compare.calls k1 ((rd_T35 aa ba).f0) ((rd_T35 aa ba).f1) ((rd_T35 aa ba).f2) ((rd_T35 aa ba).f3) ((rd_T35 aa ba).f4) ((rd_T35 aa ba).f5) ((rd_T35 aa ba).f6) ((rd_T35 aa ba).f7) ((rd_T35 aa ba).f8) ((rd_T35 aa (ca)).f0) ((rd_T35 aa (ca)).f1) ((rd_T35 aa (ca)).f2) ((rd_T35 aa (ca)).f3) ((rd_T35 aa (ca)).f4) ((rd_T35 aa (ca)).f5) ((rd_T35 aa (ca)).f6) ((rd_T35 aa (ca)).f7) ((rd_T35 aa (ca)).f8) Na _ kc.out).mono ?_
   rintro e Ae ⟨rfl, hb⟩
   refine ⟨_, rfl, ?_⟩
   replace ea := aM_ (kG_ ea.out hb)
   replace da := aM_ (kG_ da.out hb)
   replace HB := aM_ (below_step hB_ hb)
   clear hb
   refine hK.out _ _ ⟨bc_ da.out 0, bc_ da.out 1, bc_ da.out 2, bc_ da.out 3, bc_ da.out 4, bc_ da.out 5, bc_ da.out 6, bc_ da.out 7, bc_ da.out 8, bc_ ea.out 0, bc_ ea.out 1, (cH_ HB.out hw136_0), (cH_ HB.out hw136_1), (cH_ HB.out hw136_2), (cH_ HB.out hw136_3), (cH_ HB.out hw136_4), (cH_ HB.out hw136_5), (cH_ HB.out hw136_6), (cH_ HB.out hw136_7), (cH_ HB.out hw136_8)⟩ (fun hHeld => ?_)
   clear hK K
   refine nO_ 37 ?_
   refine pU_ 11 (some 38) (bo_ 13 4095) ?_
   refine pU_ 12 (some 39) (bo_ 13 8191) ?_
   refine done_ (done_of HT_.out (by kernel_rfl)) ?_
   try go_wp2
   go_roundg k1
   case measure => have := Fb.out; omega
   case rel => exact ⟨(wrap64 (ba + 1)), rS_, H', ⟨by have := Fb.out; omega⟩, ⟨by refine bk_ ?_; exact ea.out⟩, ⟨hB_⟩⟩

end Go.Proofs.YthfdfoigoomaoaaDoor.PDb
