/- The walks of functions of the translation: each call returns what the plain function beside it says. -/
import Derived.Test.YthfdfoigoomaoaaDoorPDbx0
import Derived.Test.YthfdfoigoomaoaaDoorPDbx2
namespace Go.Proofs.YthfdfoigoomaoaaDoor.PDb
open Go.RowKit Go.Proofs.YthfdfoigoomaoaaDoorW.PrintWords Go.Proofs.YthfdfoigoomaoaaDoorW.PrintLast Go.Proofs.YthfdfoigoomaoaaDoorW.PrintMore Go.Proofs.YthfdfoigoomaoaaDoor.Aid
attribute [local go_sem] max2_int min2_int max_two min_two max_three min_three max_four min_four aid_str_gtr aid_str_leq   -- for this text's walks alone
set_option linter.unusedVariables false
set_option linter.unusedSimpArgs false

/-! ### database_compare: function 36 -/
def database_compare.f (k : Nat) (ja : ByteArray) (Na : ByteArray) (Va : Int) (Wa : Int) (Xa : Int) (Ya : Int) (Za : Int) (ab : Int) (bb : Int) (Ua : ByteArray) (Ta : ByteArray) (pb : Int) (qb : Int) (rb : Int) (sb : Int) (tb : Int) (ub : Int) (vb : Int) : Option (Int) := (strings_Compare.f ja Ua).bind fun Qa => ((strings_Compare.f Na Ta).bind fun Pa => ((cmp_Or_int.f k (([Qa, Pa] : List Int))).bind fun Ra => (some Ra)))
def database_compare.T1 : Bool × List (List Nat × List Nat) := (true,[([], []), ([0], [0]), ([], []), ([2], [2]), ([1, 3], [1, 3]), ([], []), ([5], [5]), ([], []), ([7], [7]), ([6, 8, 4], [6, 8]), ([4, 9], [4, 9]), ([10, 9], [10]), ([11, 11, 0, 1, 2, 3, 4, 5, 6, 7, 8, 9, 10, 11], [11])])
def database_compare.B1 : List Nat := [0, 1, 0, 4, 15, 0, 32, 0, 128, 511, 1023, 2047, 4095]
theorem database_compare.tab1 : rtab .any (opsOf Tryd.f36 1) = database_compare.T1 := by kernel_rfl
theorem database_compare.bits1 : waitsOk database_compare.T1.2 database_compare.B1 = true := by kernel_rfl
set_option maxHeartbeats 8000000 in
set_option maxRecDepth 100000 in
theorem database_compare.calls (k : Nat) (ja : ByteArray) (Na : ByteArray) (Va : Int) (Wa : Int) (Xa : Int) (Ya : Int) (Za : Int) (ab : Int) (bb : Int) (Ua : ByteArray) (Ta : ByteArray) (pb : Int) (qb : Int) (rb : Int) (sb : Int) (tb : Int) (ub : Int) (vb : Int) (r : Int) (w : World) (h : database_compare.f k ja Na Va Wa Xa Ya Za ab bb Ua Ta pb qb rb sb tb ub vb = some r) :
  Calls Tryd.prog 36 #[.agg #[.string ja, .string Na, .int .u64 Va, .int .i64 Wa, .int .i64 Xa, .int .i64 Ya, .int .i64 Za, .int .i64 ab, .int .i64 bb], .agg #[.string Ua, .string Ta, .int .u64 pb, .int .i64 qb, .int .i64 rb, .int .i64 sb, .int .i64 tb, .int .i64 ub, .int .i64 vb]] w fun e w' => e = .returned (.int .i64 r) ∧ Below w.heap.size w w' := by
 have hu35 := Tryd.underlying35
 have HB := aM_ (Below.refl w.heap.size w)
 have H : ((strings_Compare.f ja Ua).bind fun Qa => ((strings_Compare.f Na Ta).bind fun Pa => ((cmp_Or_int.f k (([Qa, Pa] : List Int))).bind fun Ra => (some Ra)))) = some r := h
 clear h
 replace H := Option.bind_eq_some_iff.mp H
 obtain ⟨Qa, yc, H⟩ := H
 replace H : ((strings_Compare.f Na Ta).bind fun Pa => ((cmp_Or_int.f k (([Qa, Pa] : List Int))).bind fun Ra => (some Ra))) = some r := H
 have A3 := aM_ yc
 clear yc
 replace H := Option.bind_eq_some_iff.mp H
 obtain ⟨Pa, zc, H⟩ := H
 replace H : ((cmp_Or_int.f k (([Qa, Pa] : List Int))).bind fun Ra => (some Ra)) = some r := H
 have A4 := aM_ zc
 clear zc
 obtain ⟨Ub, hy127⟩ : ∃ y_ : List Int, y_ = (([Qa, Pa] : List Int)) := ⟨_, rfl⟩
 replace H : ((cmp_Or_int.f k Ub).bind fun Ra => (some Ra)) = some r := by first | (rw [hy127]; with_reducible exact H) | (have H2_ := (Option.bind_some _ _).symm.trans H; rw [hy127]; with_reducible exact H2_) | (have H2_ := (Option.bind_some _ _).symm.trans H; with_reducible exact H2_) | with_reducible exact H | (rw [hy127]; exact H) | exact H
 have Ny127 := aM_ hy127
 clear hy127
 replace H := Option.bind_eq_some_iff.mp H
 obtain ⟨Ra, Ac, H⟩ := H
 replace H : (some Ra) = some r := H
 have A5 := aM_ Ac
 clear Ac
 obtain rfl := Option.some.inj H
 go_enter Tryd.func36, Tryd.ntmps36
 try go_wp2_with (first | ((with_reducible refine gate_dst (N := 2) rfl ?_); refine box_event ?hg (N := 2) ?hd (cs := #[.string ja, .string Na, .int .u64 Va, .int .i64 Wa, .int .i64 Xa, .int .i64 Ya, .int .i64 Za, .int .i64 ab, .int .i64 bb]) (t := 35) ?hr ?_; (case hd => rfl); (case hg => rfl); (case hr => first | (go_simp; done) | (go_simp; rfl)); intro ya hg w6 hbox hb; have ha := aM_ (hbox); have pe := aM_ ((by rw [hg]; exact (below_size (bk_ HB.out)) : w.heap.size ≤ ya)); have qe := aM_ ((by rw [hg]; exact (below_size (bk_ HB.out)) : w.heap.size ≤ ya)); replace HB := aM_ (below_step (bk_ HB.out) hb); clear hb hbox hg) | ((with_reducible refine gate_dst (N := 3) rfl ?_); refine box_event ?hg (N := 3) ?hd (cs := #[.string Ua, .string Ta, .int .u64 pb, .int .i64 qb, .int .i64 rb, .int .i64 sb, .int .i64 tb, .int .i64 ub, .int .i64 vb]) (t := 35) ?hr ?_; (case hd => rfl); (case hg => rfl); (case hr => first | (go_simp; done) | (go_simp; rfl)); intro Ia hg w7 hbox hb; have ia := aM_ (hbox); have re := aM_ ((by rw [hg]; exact (below_size hB_) : w.heap.size ≤ Ia)); have se := aM_ ((by rw [hg]; exact (below_size hB_) : w.heap.size ≤ Ia)); replace HB := aM_ (below_step hB_ hb); have Bc := aM_ ((by rw [hg]; exact Nat.ne_of_lt (blk_lt (g := ya) (o := .cells #[.string ja, .string Na, .int .u64 Va, .int .i64 Wa, .int .i64 Xa, .int .i64 Ya, .int .i64 Za, .int .i64 ab, .int .i64 bb] 35 (0, 0)) (bk_ ha.out)) : ya ≠ Ia)); have Cc := aM_ ((by rw [hg]; exact Nat.ne_of_gt (blk_lt (g := ya) (o := .cells #[.string ja, .string Na, .int .u64 Va, .int .i64 Wa, .int .i64 Xa, .int .i64 Ya, .int .i64 Za, .int .i64 ab, .int .i64 bb] 35 (0, 0)) (bk_ ha.out)) : Ia ≠ ya)); replace ha := aM_ (blk_below (g := ya) (o := .cells #[.string ja, .string Na, .int .u64 Va, .int .i64 Wa, .int .i64 Xa, .int .i64 Ya, .int .i64 Za, .int .i64 ab, .int .i64 bb] 35 (0, 0)) (bk_ ha.out) hb); clear hb hbox hg))
 replace ha := aM_ (blk_drew ha.out)
 replace ia := aM_ (blk_drew ia.out)
 replace HB := aM_ (bD_ HB.out)
 refine start_ (n := 13) (S := fun w' => w'.cell? ⟨ya, 0, none⟩ = some (.string ja) ∧ w'.cell? ⟨ya, 1, none⟩ = some (.string Na) ∧ w'.cell? ⟨ya, 2, none⟩ = some (.int .u64 Va) ∧ w'.cell? ⟨ya, 3, none⟩ = some (.int .i64 Wa) ∧ w'.cell? ⟨ya, 4, none⟩ = some (.int .i64 Xa) ∧ w'.cell? ⟨ya, 5, none⟩ = some (.int .i64 Ya) ∧ w'.cell? ⟨ya, 6, none⟩ = some (.int .i64 Za) ∧ w'.cell? ⟨ya, 7, none⟩ = some (.int .i64 ab) ∧ w'.cell? ⟨ya, 8, none⟩ = some (.int .i64 bb) ∧ w'.cell? ⟨Ia, 0, none⟩ = some (.string Ua) ∧ w'.cell? ⟨Ia, 1, none⟩ = some (.string Ta) ∧ w'.cell? ⟨Ia, 2, none⟩ = some (.int .u64 pb) ∧ w'.cell? ⟨Ia, 3, none⟩ = some (.int .i64 qb) ∧ w'.cell? ⟨Ia, 4, none⟩ = some (.int .i64 rb) ∧ w'.cell? ⟨Ia, 5, none⟩ = some (.int .i64 sb) ∧ w'.cell? ⟨Ia, 6, none⟩ = some (.int .i64 tb) ∧ w'.cell? ⟨Ia, 7, none⟩ = some (.int .i64 ub) ∧ w'.cell? ⟨Ia, 8, none⟩ = some (.int .i64 vb)) (ds := []) (bo_ 13 0) (by kernel_rfl) rfl rfl ⟨bc_ ha.out 0, bc_ ha.out 1, bc_ ha.out 2, bc_ ha.out 3, bc_ ha.out 4, bc_ ha.out 5, bc_ ha.out 6, bc_ ha.out 7, bc_ ha.out 8, bc_ ia.out 0, bc_ ia.out 1, bc_ ia.out 2, bc_ ia.out 3, bc_ ia.out 4, bc_ ia.out 5, bc_ ia.out 6, bc_ ia.out 7, bc_ ia.out 8⟩ (fun hHeld => ?_); refine with_tabW database_compare.tab1 database_compare.bits1 (fun HT_ HW_ => ?_)
 generalize w7.drew = w8 at ha ia HB hHeld ⊢
 refine pU_ 0 (some 5) (bo_ 13 1) ?_
 refine pU_ 2 (some 7) (bo_ 13 5) ?_
 refine pU_ 5 (some 10) (bo_ 13 37) ?_
 refine pU_ 7 (some 12) (bo_ 13 165) ?_
 refine take_ (i := 1) (N := some 6) (v := ?_) (a' := ?_) (bo_ 13 167) rfl rfl (take_ofW HT_.out HW_.out (by kernel_rfl)) (fun _ _ _ h => h) (Or.inl ⟨by rfl, ?_⟩) hHeld ?_ ?_
 rotate_left; (· rintro w' ⟨s0, s1, s2, s3, s4, s5, s6, s7, s8, s9, gb, ib, jb, kb, lb, mb, nb, ob⟩; go_simp; with_reducible rfl)
 rotate_left; (· simp only [Act.put,sA_,sB_,sC_,i64_w,i32_w]; rfl)
 refine take_ (i := 3) (N := some 8) (v := ?_) (a' := ?_) (bo_ 13 175) rfl rfl (take_ofW HT_.out HW_.out (by kernel_rfl)) (fun _ _ _ h => h) (Or.inl ⟨by rfl, ?_⟩) hHeld ?_ ?_
 rotate_left; (· rintro w' ⟨s0, s1, s2, s3, s4, s5, s6, s7, s8, s9, gb, ib, jb, kb, lb, mb, nb, ob⟩; go_simp; with_reducible rfl)
 rotate_left; (· simp only [Act.put,sA_,sB_,sC_,i64_w,i32_w]; rfl)
 refine take_ (i := 6) (N := some 11) (v := ?_) (a' := ?_) (bo_ 13 239) rfl rfl (take_ofW HT_.out HW_.out (by kernel_rfl)) (fun _ _ _ h => h) (Or.inl ⟨by rfl, ?_⟩) hHeld ?_ ?_
 rotate_left; (· rintro w' ⟨s0, s1, s2, s3, s4, s5, s6, s7, s8, s9, gb, ib, jb, kb, lb, mb, nb, ob⟩; go_simp; with_reducible rfl)
 rotate_left; (· simp only [Act.put,sA_,sB_,sC_,i64_w,i32_w]; rfl)
 refine take_ (i := 8) (N := some 13) (v := ?_) (a' := ?_) (bo_ 13 495) rfl rfl (take_ofW HT_.out HW_.out (by kernel_rfl)) (fun _ _ _ h => h) (Or.inl ⟨by rfl, ?_⟩) hHeld ?_ ?_
 rotate_left; (· rintro w' ⟨s0, s1, s2, s3, s4, s5, s6, s7, s8, s9, gb, ib, jb, kb, lb, mb, nb, ob⟩; go_simp; with_reducible rfl)
 rotate_left; (· simp only [Act.put,sA_,sB_,sC_,i64_w,i32_w]; rfl)
 refine one_ (i := 4) (N := some 9) (bo_ 13 511) rfl rfl (one_of HT_.out (by kernel_rfl)) (by decide) (fun K hK => ?_)
 refine goes_ Tryd.func61 (by kernel_rfl) rfl #[.string ja, .string Ua] (by rfl) rfl rfl aR_ ?_
 with_reducible refine (strings_Compare.calls ja Ua Qa _ A3.out).mono ?_
 rintro e w' ⟨rfl, ⟨nd, rfl⟩⟩
 refine ⟨_, rfl, ?_⟩
 refine hK.out _ _ ⟨bc_ ha.out 0, bc_ ha.out 1, bc_ ha.out 2, bc_ ha.out 3, bc_ ha.out 4, bc_ ha.out 5, bc_ ha.out 6, bc_ ha.out 7, bc_ ha.out 8, bc_ ia.out 0, bc_ ia.out 1, bc_ ia.out 2, bc_ ia.out 3, bc_ ia.out 4, bc_ ia.out 5, bc_ ia.out 6, bc_ ia.out 7, bc_ ia.out 8⟩ (fun hHeld => ?_)
 clear hK K
 refine nO_ 9 ?_
 refine one_ (i := 9) (N := some 14) (bo_ 13 1023) rfl rfl (one_of HT_.out (by kernel_rfl)) (by decide) (fun K hK => ?_)
 refine goes_ Tryd.func61 (by kernel_rfl) rfl #[.string Na, .string Ta] (by rfl) rfl rfl aR_ ?_
 with_reducible refine (strings_Compare.calls Na Ta Pa _ A4.out).mono ?_
 rintro e w' ⟨rfl, ⟨nd, rfl⟩⟩
 refine ⟨_, rfl, ?_⟩
 refine hK.out _ _ ⟨bc_ ha.out 0, bc_ ha.out 1, bc_ ha.out 2, bc_ ha.out 3, bc_ ha.out 4, bc_ ha.out 5, bc_ ha.out 6, bc_ ha.out 7, bc_ ha.out 8, bc_ ia.out 0, bc_ ia.out 1, bc_ ia.out 2, bc_ ia.out 3, bc_ ia.out 4, bc_ ia.out 5, bc_ ia.out 6, bc_ ia.out 7, bc_ ia.out 8⟩ (fun hHeld => ?_)
 clear hK K
 refine nO_ 14 ?_
 refine one_ (i := 10) (N := some 15) (bo_ 13 2047) rfl rfl (one_of HT_.out (by kernel_rfl)) (by decide) (fun K hK => ?_)
 refine Kd.R_lit_step (Kd.int .i64) _ 3 ?hg (N := 15) ?hd (xs := ([Qa, Pa] : List Int)) (inner := [.int .i64 Qa, .int .i64 Pa]) (ok := fun _ => True) (okp := fun _ => True) ?hr ?hp (fun _ hk => hk) trivial (Below.refl _ _) (Nat.le_refl _) (by simp) ?_; (case hd => rfl); (case hg => rfl); (case hr => first | (go_simp; done) | (go_simp; rfl)); (case hp => exact (Reps.one (show Kd.M (Kd.int .i64) _ _ _ Qa [.int .i64 Qa] from rfl) (Reps.one (show Kd.M (Kd.int .i64) _ _ _ Pa [.int .i64 Pa] from rfl) (Reps.none _ _))))
 intro Je w9 yb hb hg_ hnew_
 clear hg_ hnew_
 (first | rw [← Ny127.out] at yb | (simp only [Int.reduceToNat] at yb; rw [← Ny127.out] at yb))
 have Nb := aM_ (Kd.R_lower yb (below_size hB_))
 replace ha := aM_ (blk_below (g := ya) (o := .cells #[.string ja, .string Na, .int .u64 Va, .int .i64 Wa, .int .i64 Xa, .int .i64 Ya, .int .i64 Za, .int .i64 ab, .int .i64 bb] 35 (0, 0)) (bk_ ha.out) hb)
 replace ia := aM_ (blk_below (g := Ia) (o := .cells #[.string Ua, .string Ta, .int .u64 pb, .int .i64 qb, .int .i64 rb, .int .i64 sb, .int .i64 tb, .int .i64 ub, .int .i64 vb] 35 (0, 0)) (bk_ ia.out) hb)
 replace HB := aM_ (below_step hB_ hb)
 clear hb yb
 obtain ⟨Fc, Gc, fc⟩ := Kd.R_slice Nb.out
 (first | subst fc | (injection fc with f1_ f2_ f3_; have f4_ := f1_.symm; have f5_ := f3_.symm; clear f1_ f2_ f3_; subst f4_; subst f5_))
 refine hK.out _ _ ⟨bc_ ha.out 0, bc_ ha.out 1, bc_ ha.out 2, bc_ ha.out 3, bc_ ha.out 4, bc_ ha.out 5, bc_ ha.out 6, bc_ ha.out 7, bc_ ha.out 8, bc_ ia.out 0, bc_ ia.out 1, bc_ ia.out 2, bc_ ia.out 3, bc_ ia.out 4, bc_ ia.out 5, bc_ ia.out 6, bc_ ia.out 7, bc_ ia.out 8⟩ (fun hHeld => ?_)
 clear hK K
 refine nO_ 15 ?_
 refine one_ (i := 11) (N := some 16) (bo_ 13 4095) rfl rfl (one_of HT_.out (by kernel_rfl)) (by decide) (fun K hK => ?_)
 refine goes_ Tryd.func60 (by kernel_rfl) rfl #[.slice Fc Ub.length Gc] (by rfl) rfl rfl aR_ ?_
 with_reducible refine (cmp_Or_int.calls k _ _ Ub Ra _ ?side1 ?side2 A5.out).mono ?_
 (case side1 => repeat (first | exact (Kd.R_reads' Nb.out).2.2 | (with_reducible refine Kd.C_alloc ?_ _) | (with_reducible refine Kd.C_drewN ?_ _) | (with_reducible refine Kd.C_drew ?_)))
 (case side2 => exact (Kd.R_reads' Nb.out).2.1)
 rintro e w' ⟨rfl, ⟨nd, rfl⟩⟩
 refine ⟨_, rfl, ?_⟩
 refine hK.out _ _ ⟨bc_ ha.out 0, bc_ ha.out 1, bc_ ha.out 2, bc_ ha.out 3, bc_ ha.out 4, bc_ ha.out 5, bc_ ha.out 6, bc_ ha.out 7, bc_ ha.out 8, bc_ ia.out 0, bc_ ia.out 1, bc_ ia.out 2, bc_ ia.out 3, bc_ ia.out 4, bc_ ia.out 5, bc_ ia.out 6, bc_ ia.out 7, bc_ ia.out 8⟩ (fun hHeld => ?_)
 clear hK K
 refine nO_ 16 ?_
 refine pU_ 12 (some 4) (bo_ 13 8191) ?_
 refine done_ (done_of HT_.out (by kernel_rfl)) ?_
 try go_wp2
 go_ret
 exact ⟨eW_, hB_⟩

/-! ### database_Check: function 10 -/
def database_Check.l0 : Nat → List (S35) → Int → Int → ByteArray → List (S35) → Option (Int)
 | 0, _, _, _, _, _ => none
 | k + 1, Ka, gc, va, Ab, xa => if va < gc then (if 0 ≤ va then (if va < (Ka.length : Int) then ((database_CheckEntry.f k ((rd_T35 Ka va).f0) ((rd_T35 Ka va).f1) ((rd_T35 Ka va).f2) ((rd_T35 Ka va).f3) ((rd_T35 Ka va).f4) ((rd_T35 Ka va).f5) ((rd_T35 Ka va).f6) ((rd_T35 Ka va).f7) ((rd_T35 Ka va).f8)).bind fun Oa => (if Oa = 0 then (if va > 0 then (if 0 ≤ (wrap64 (va - 1)) then (if (wrap64 (va - 1)) < (xa.length : Int) then ((database_compare.f k ((rd_T35 Ka va).f0) ((rd_T35 Ka va).f1) ((rd_T35 Ka va).f2) ((rd_T35 Ka va).f3) ((rd_T35 Ka va).f4) ((rd_T35 Ka va).f5) ((rd_T35 Ka va).f6) ((rd_T35 Ka va).f7) ((rd_T35 Ka va).f8) ((rd_T35 xa (wrap64 (va - 1))).f0) ((rd_T35 xa (wrap64 (va - 1))).f1) ((rd_T35 xa (wrap64 (va - 1))).f2) ((rd_T35 xa (wrap64 (va - 1))).f3) ((rd_T35 xa (wrap64 (va - 1))).f4) ((rd_T35 xa (wrap64 (va - 1))).f5) ((rd_T35 xa (wrap64 (va - 1))).f6) ((rd_T35 xa (wrap64 (va - 1))).f7) ((rd_T35 xa (wrap64 (va - 1))).f8)).bind fun Sa => (if Sa < 0 then (some 110) else (database_Check.l0 k Ka gc (wrap64 (va + 1)) Ab xa))) else (none)) else (none)) else (database_Check.l0 k Ka gc (wrap64 (va + 1)) Ab xa)) else (some Oa))) else (none)) else (none)) else (some 0)
def database_Check.f (k : Nat) (ja : ByteArray) (aa : List (S35)) : Option (Int) := (principal_ValidRealm.f k ja).bind fun wb => (if wb = true then (if (aa.length : Int) > 60 then (some 106) else (database_Check.l0 k aa (aa.length : Int) 0 ja aa)) else (some 103))
def database_Check.T11 : Bool × List (List Nat × List Nat) := (true,[([], []), ([0], [0]), ([1], [1]), ([2], [2]), ([2], [2]), ([4, 2], [2, 4]), ([2], [2]), ([6, 2], [2, 6]), ([5, 7, 2], [2, 5, 7]), ([8, 2], [2, 8]), ([3, 9, 2, 2], [2, 3, 9]), ([10, 2], [2, 10]), ([2, 11], [2, 11])])
def database_Check.B11 : List Nat := [0, 1, 3, 7, 7, 23, 7, 71, 247, 503, 1023, 2047, 4095]
theorem database_Check.tab11 : rtab .any (opsOf Tryd.f10 11) = database_Check.T11 := by kernel_rfl
theorem database_Check.bits11 : waitsOk database_Check.T11.2 database_Check.B11 = true := by kernel_rfl
set_option maxHeartbeats 8000000 in
set_option maxRecDepth 100000 in
theorem database_Check.calls (k : Nat) (ja : ByteArray) (xb : Option Addr) (wa : Nat) (aa : List (S35)) (r : Int) (w : World) (hr0_1 : Kd.C k35 w xb aa.length aa) (hc0_1 : aa.length ≤ wa) (h : database_Check.f k ja aa = some r) :
  Calls Tryd.prog 10 #[.agg #[.string ja, .slice xb aa.length wa]] w fun e w' => e = .returned (.int .i64 r) ∧ Below w.heap.size w w' := by
 have hu24 := Tryd.underlying24
 have hu35 := Tryd.underlying35
 have cb := aM_ hr0_1
 have te := aM_ hc0_1
 clear hr0_1 hc0_1
 have HB := aM_ (Below.refl w.heap.size w)
 have H : ((principal_ValidRealm.f k ja).bind fun wb => (if wb = true then (if (aa.length : Int) > 60 then (some 106) else (database_Check.l0 k aa (aa.length : Int) 0 ja aa)) else (some 103))) = some r := h
 clear h
 replace H := Option.bind_eq_some_iff.mp H
 obtain ⟨wb, Dc, H⟩ := H
 replace H : (if wb = true then (if (aa.length : Int) > 60 then (some 106) else (database_Check.l0 k aa (aa.length : Int) 0 ja aa)) else (some 103)) = some r := H
 have A2 := aM_ Dc
 clear Dc
 by_cases c3 : wb = true
 ·subst c3
  have H1 : (if (aa.length : Int) > 60 then (some 106) else (database_Check.l0 k aa (aa.length : Int) 0 ja aa)) = some r := by rw [if_pos rfl] at H; exact H
  clear H
  have H := H1
  clear H1
  by_cases c4 : (aa.length : Int) > 60
  ·rw [if_pos c4] at H
   have ic : decide (60 < (aa.length : Int)) = true := decide_eq_true c4
   have jc : decide (60 < aa.length) = true := decide_eq_true (by omega)
   clear c4
   obtain rfl := Option.some.inj H
   go_enter Tryd.func10, Tryd.ntmps10
   go_wp2_with (first | ((with_reducible refine gate_dst (N := 1) rfl ?_); refine box_event ?hg (N := 1) ?hd (cs := #[.string ja, .slice xb aa.length wa]) (t := 24) ?hr ?_; (case hd => rfl); (case hg => rfl); (case hr => first | (go_simp; done) | (go_simp; rfl)); intro la hg w5 hbox hb; have fa := aM_ (hbox); have Xb := aM_ ((by rw [hg]; exact (below_size (bk_ HB.out)) : w.heap.size ≤ la)); have Yb := aM_ ((by rw [hg]; exact (below_size (bk_ HB.out)) : w.heap.size ≤ la)); replace HB := aM_ (below_step (bk_ HB.out) hb); clear hb hbox hg; have kc := bc_ fa.out 0; have lc := bc_ fa.out 1; have mc := blk_frozen fa.out 0; have nc := blk_frozen fa.out 1) | ((with_reducible refine gate_callee (f := 35) rfl ?_); refine goesL_ (some 8) rfl rfl Tryd.func35 (by kernel_rfl) rfl #[.string ja] rfl aR_ ?_; (with_reducible refine (principal_ValidRealm.calls k ja true _ A2.out).mono ?_); rintro e w' ⟨rfl, ⟨nd, rfl⟩⟩; refine ⟨_, rfl, ?_⟩))
   go_ret
   exact ⟨eW_, hB_⟩
  rw [if_neg c4] at H
  have ic : decide (60 < (aa.length : Int)) = false := decide_eq_false c4
  have jc : decide (60 < aa.length) = false := decide_eq_false (by omega)
  clear c4
  have H' := aM_ H
  clear H
  go_enter Tryd.func10, Tryd.ntmps10
  go_wp2_with (first | ((with_reducible refine gate_dst (N := 1) rfl ?_); refine box_event ?hg (N := 1) ?hd (cs := #[.string ja, .slice xb aa.length wa]) (t := 24) ?hr ?_; (case hd => rfl); (case hg => rfl); (case hr => first | (go_simp; done) | (go_simp; rfl)); intro la hg w7 hbox hb; have fa := aM_ (hbox); have Xb := aM_ ((by rw [hg]; exact (below_size (bk_ HB.out)) : w.heap.size ≤ la)); have Yb := aM_ ((by rw [hg]; exact (below_size (bk_ HB.out)) : w.heap.size ≤ la)); replace HB := aM_ (below_step (bk_ HB.out) hb); clear hb hbox hg; have oc := bc_ fa.out 0; have pc := bc_ fa.out 1; have qc := blk_frozen fa.out 0; have rc := blk_frozen fa.out 1) | ((with_reducible refine gate_callee (f := 35) rfl ?_); refine goesL_ (some 8) rfl rfl Tryd.func35 (by kernel_rfl) rfl #[.string ja] rfl aR_ ?_; (with_reducible refine (principal_ValidRealm.calls k ja true _ A2.out).mono ?_); rintro e w' ⟨rfl, ⟨nd, rfl⟩⟩; refine ⟨_, rfl, ?_⟩))
  go_loopg [17] k (fun kq le w' => ∃ (ba : Int), le = .int .i64 ba ∧ Aside0 (database_Check.l0 kq aa (aa.length : Int) ba ja aa = some r) ∧ Aside0 (kq ≤ k) ∧ Aside0 (w'.heap[la]? = some (.cells #[.string ja, (.slice xb aa.length wa)] 24 (0, 0))) ∧ Aside0 (Below w.heap.size w w'))
  case atStart => exact ⟨(0), rS_, H', ⟨Nat.le_refl _⟩, ⟨by refine bk_ ?_; exact fa.out⟩, ⟨hB_⟩⟩
  case round =>
   clear H'
   try clear c1
   try clear p2
   try clear c3
   try clear c4
   try clear ic
   try clear jc
   try clear kc
   try clear lc
   try clear oc
   try clear pc
   try clear mc
   try clear nc
   try clear qc
   try clear rc
   obtain ⟨ba, rfl, HA, Zb, fa, HB⟩ := hrel
   cases gk with
   | zero => exact absurd HA.out (by simp [database_Check.l0])
   | succ k1 =>
    have H := HA.out
    clear HA
    simp only [database_Check.l0] at H
    by_cases c9 : ba < (aa.length : Int)
    ·rw [if_pos c9] at H
     have Ic : decide (ba < (aa.length : Int)) = true := decide_eq_true c9
     clear c9
     by_cases ac : 0 ≤ ba
     ·rw [if_pos ac] at H
      have ue : decide (0 ≤ ba) = true := decide_eq_true ac
      clear ac
      by_cases bc : ba < (aa.length : Int)
      ·rw [if_pos bc] at H
       have ve : decide (ba < (aa.length : Int)) = true := decide_eq_true bc
       clear bc
       replace H := Option.bind_eq_some_iff.mp H
       obtain ⟨Oa, sc, H⟩ := H
       replace H : (if Oa = 0 then (if ba > 0 then (if 0 ≤ (wrap64 (ba - 1)) then (if (wrap64 (ba - 1)) < (aa.length : Int) then ((database_compare.f k1 ((rd_T35 aa ba).f0) ((rd_T35 aa ba).f1) ((rd_T35 aa ba).f2) ((rd_T35 aa ba).f3) ((rd_T35 aa ba).f4) ((rd_T35 aa ba).f5) ((rd_T35 aa ba).f6) ((rd_T35 aa ba).f7) ((rd_T35 aa ba).f8) ((rd_T35 aa (wrap64 (ba - 1))).f0) ((rd_T35 aa (wrap64 (ba - 1))).f1) ((rd_T35 aa (wrap64 (ba - 1))).f2) ((rd_T35 aa (wrap64 (ba - 1))).f3) ((rd_T35 aa (wrap64 (ba - 1))).f4) ((rd_T35 aa (wrap64 (ba - 1))).f5) ((rd_T35 aa (wrap64 (ba - 1))).f6) ((rd_T35 aa (wrap64 (ba - 1))).f7) ((rd_T35 aa (wrap64 (ba - 1))).f8)).bind fun Sa => (if Sa < 0 then (some 110) else (database_Check.l0 k1 aa (aa.length : Int) (wrap64 (ba + 1)) ja aa))) else (none)) else (none)) else (database_Check.l0 k1 aa (aa.length : Int) (wrap64 (ba + 1)) ja aa)) else (some Oa)) = some r := H
       have Rb := aM_ sc
       clear sc
       by_cases zb : Oa = 0
       ·rw [if_pos zb] at H
        have uc : (Oa == 0) = true := beq_iff_eq.mpr zb
        have vc : (Oa != 0) = false := bne_eq_false_iff_eq.mpr zb
        clear zb
        by_cases Bb : ba > 0
        ·rw [if_pos Bb] at H
         have wc : decide (0 < ba) = true := decide_eq_true Bb
         clear Bb
         obtain ⟨da, hji15⟩ : ∃ j_ : Int, (wrap64 (ba - 1)) = j_ := ⟨_, rfl⟩
         replace H : (if 0 ≤ (da) then (if (da) < (aa.length : Int) then ((database_compare.f k1 ((rd_T35 aa ba).f0) ((rd_T35 aa ba).f1) ((rd_T35 aa ba).f2) ((rd_T35 aa ba).f3) ((rd_T35 aa ba).f4) ((rd_T35 aa ba).f5) ((rd_T35 aa ba).f6) ((rd_T35 aa ba).f7) ((rd_T35 aa ba).f8) ((rd_T35 aa (da)).f0) ((rd_T35 aa (da)).f1) ((rd_T35 aa (da)).f2) ((rd_T35 aa (da)).f3) ((rd_T35 aa (da)).f4) ((rd_T35 aa (da)).f5) ((rd_T35 aa (da)).f6) ((rd_T35 aa (da)).f7) ((rd_T35 aa (da)).f8)).bind fun Sa => (if Sa < 0 then (some 110) else (database_Check.l0 k1 aa (aa.length : Int) (wrap64 (ba + 1)) ja aa))) else (none)) else (none)) = some r := by first | (rw [hji15] at H; exact H) | (simp only [hji15] at H ⊢; exact H)
         (try rw [hji15] at Rb)
         have hji15w : (IntKind.i64.wrap (ba - 1)) = da := (i64_w _).trans hji15
         by_cases cc : 0 ≤ (da)
         ·rw [if_pos cc] at H
          have we : decide (0 ≤ (da)) = true := decide_eq_true cc
          clear cc
          by_cases dc : (da) < (aa.length : Int)
          ·rw [if_pos dc] at H
           have xe : decide ((da) < (aa.length : Int)) = true := decide_eq_true dc
           clear dc
           replace H := Option.bind_eq_some_iff.mp H
           obtain ⟨Sa, tc, H⟩ := H
           replace H : (if Sa < 0 then (some 110) else (database_Check.l0 k1 aa (aa.length : Int) (wrap64 (ba + 1)) ja aa)) = some r := H
           have Ec := aM_ tc
           clear tc
           by_cases Cb : Sa < 0
           ·rw [if_pos Cb] at H
            have xc : decide (Sa < 0) = true := decide_eq_true Cb
            clear Cb
            obtain rfl := Option.some.inj H
            have La : 0 ≤ (ba : Int) := dT_
            have Ma : ba < (aa.length : Int) := dT_
            obtain ⟨ga, db, ma, na, oa, pa, qa, ra, sa, ta, ua⟩ := at_T35 cb.out ba La Ma
            cases db
            replace ma := (HB.out.cell (World.block_lt_of_cell? w _ ma)).trans ma
            replace na := (HB.out.cell (World.block_lt_of_cell? w _ na)).trans na
            replace oa := (HB.out.cell (World.block_lt_of_cell? w _ oa)).trans oa
            replace pa := (HB.out.cell (World.block_lt_of_cell? w _ pa)).trans pa
            replace qa := (HB.out.cell (World.block_lt_of_cell? w _ qa)).trans qa
            replace ra := (HB.out.cell (World.block_lt_of_cell? w _ ra)).trans ra
            replace sa := (HB.out.cell (World.block_lt_of_cell? w _ sa)).trans sa
            replace ta := (HB.out.cell (World.block_lt_of_cell? w _ ta)).trans ta
            replace ua := (HB.out.cell (World.block_lt_of_cell? w _ ua)).trans ua
            replace La := eq_true La
            replace Ma := eq_true Ma
            try go_wp2_with (first | ((with_reducible refine gate_dst (N := 4) rfl ?_); refine box_event ?hg (N := 4) ?hd (cs := #[.string (⟨#[]⟩ : ByteArray), .string (⟨#[]⟩ : ByteArray), .int .u64 0, .int .i64 0, .int .i64 0, .int .i64 0, .int .i64 0, .int .i64 0, .int .i64 0]) (t := 35) ?hr ?_; (case hd => rfl); (case hg => rfl); (case hr => first | (go_simp; done) | (go_simp; rfl)); intro ka hg Ke hbox hb; have ca := aM_ (hbox); have Ob := aM_ ((by rw [hg]; exact (below_size hB_) : w.heap.size ≤ ka)); have Pb := aM_ ((by rw [hg]; exact (below_size hB_) : w.heap.size ≤ ka)); replace HB := aM_ (below_step hB_ hb); have ea := aM_ ((by rw [hg]; exact Nat.ne_of_lt (blk_lt (g := la) (o := .cells #[.string ja, .slice (some ga) aa.length wa] 24 (0, 0)) (bk_ fa.out)) : la ≠ ka)); have Ja := aM_ ((by rw [hg]; exact Nat.ne_of_gt (blk_lt (g := la) (o := .cells #[.string ja, .slice (some ga) aa.length wa] 24 (0, 0)) (bk_ fa.out)) : ka ≠ la)); replace fa := aM_ (blk_below (g := la) (o := .cells #[.string ja, .slice (some ga) aa.length wa] 24 (0, 0)) (bk_ fa.out) hb); clear hb hbox hg; have ye := Ja.out; have ze := ea.out; have Jc := bc_ ca.out 0; have Kc := bc_ ca.out 1; have Lc := bc_ ca.out 2; have Mc := bc_ ca.out 3; have Nc := bc_ ca.out 4; have Oc := bc_ ca.out 5; have Pc := bc_ ca.out 6; have Qc := bc_ ca.out 7; have Rc := bc_ ca.out 8; have Sc := blk_frozen ca.out 0; have Tc := blk_frozen ca.out 1; have Uc := blk_frozen ca.out 2; have Vc := blk_frozen ca.out 3; have Wc := blk_frozen ca.out 4; have Xc := blk_frozen ca.out 5; have Yc := blk_frozen ca.out 6; have Zc := blk_frozen ca.out 7; have ad := blk_frozen ca.out 8) | ((with_reducible refine gate_callee (f := 14) rfl ?_); refine goesL_ (some 23) rfl rfl Tryd.func14 (by kernel_rfl) rfl #[.agg #[.string ((rd_T35 aa ba).f0), .string ((rd_T35 aa ba).f1), .int .u64 ((rd_T35 aa ba).f2), .int .i64 ((rd_T35 aa ba).f3), .int .i64 ((rd_T35 aa ba).f4), .int .i64 ((rd_T35 aa ba).f5), .int .i64 ((rd_T35 aa ba).f6), .int .i64 ((rd_T35 aa ba).f7), .int .i64 ((rd_T35 aa ba).f8)]] rfl aR_ ?_; (with_reducible refine (database_CheckEntry.calls k1 ((rd_T35 aa ba).f0) ((rd_T35 aa ba).f1) ((rd_T35 aa ba).f2) ((rd_T35 aa ba).f3) ((rd_T35 aa ba).f4) ((rd_T35 aa ba).f5) ((rd_T35 aa ba).f6) ((rd_T35 aa ba).f7) ((rd_T35 aa ba).f8) Oa _ Rb.out).mono ?_); rintro e me ⟨rfl, hb⟩; refine ⟨_, rfl, ?_⟩; replace fa := aM_ (blk_below (g := la) (o := .cells #[.string ja, .slice (some ga) aa.length wa] 24 (0, 0)) (by refine bk_ ?_; refine blk_far ?_ ea.out _; refine bk_ ?_; refine blk_far ?_ ea.out _; refine bk_ ?_; refine blk_far ?_ ea.out _; refine bk_ ?_; refine blk_far ?_ ea.out _; refine bk_ ?_; refine blk_far ?_ ea.out _; refine bk_ ?_; refine blk_far ?_ ea.out _; refine bk_ ?_; refine blk_far ?_ ea.out _; refine bk_ ?_; refine blk_far ?_ ea.out _; refine bk_ ?_; refine blk_far ?_ ea.out _; refine bk_ ?_; exact fa.out) hb); replace ca := aM_ (blk_below (g := ka) (o := .cells #[.string ((rd_T35 aa ba).f0), .string ((rd_T35 aa ba).f1), .int .u64 ((rd_T35 aa ba).f2), .int .i64 ((rd_T35 aa ba).f3), .int .i64 ((rd_T35 aa ba).f4), .int .i64 ((rd_T35 aa ba).f5), .int .i64 ((rd_T35 aa ba).f6), .int .i64 ((rd_T35 aa ba).f7), .int .i64 ((rd_T35 aa ba).f8)] 35 (0, 0)) (by refine bk_ ?_; refine blk_put (cs := #[.string ((rd_T35 aa ba).f0), .string ((rd_T35 aa ba).f1), .int .u64 ((rd_T35 aa ba).f2), .int .i64 ((rd_T35 aa ba).f3), .int .i64 ((rd_T35 aa ba).f4), .int .i64 ((rd_T35 aa ba).f5), .int .i64 ((rd_T35 aa ba).f6), .int .i64 ((rd_T35 aa ba).f7), .int .i64 0]) ?_ 8 _ rfl; refine bk_ ?_; refine blk_put (cs := #[.string ((rd_T35 aa ba).f0), .string ((rd_T35 aa ba).f1), .int .u64 ((rd_T35 aa ba).f2), .int .i64 ((rd_T35 aa ba).f3), .int .i64 ((rd_T35 aa ba).f4), .int .i64 ((rd_T35 aa ba).f5), .int .i64 ((rd_T35 aa ba).f6), .int .i64 0, .int .i64 0]) ?_ 7 _ rfl; refine bk_ ?_; refine blk_put (cs := #[.string ((rd_T35 aa ba).f0), .string ((rd_T35 aa ba).f1), .int .u64 ((rd_T35 aa ba).f2), .int .i64 ((rd_T35 aa ba).f3), .int .i64 ((rd_T35 aa ba).f4), .int .i64 ((rd_T35 aa ba).f5), .int .i64 0, .int .i64 0, .int .i64 0]) ?_ 6 _ rfl; refine bk_ ?_; refine blk_put (cs := #[.string ((rd_T35 aa ba).f0), .string ((rd_T35 aa ba).f1), .int .u64 ((rd_T35 aa ba).f2), .int .i64 ((rd_T35 aa ba).f3), .int .i64 ((rd_T35 aa ba).f4), .int .i64 0, .int .i64 0, .int .i64 0, .int .i64 0]) ?_ 5 _ rfl; refine bk_ ?_; refine blk_put (cs := #[.string ((rd_T35 aa ba).f0), .string ((rd_T35 aa ba).f1), .int .u64 ((rd_T35 aa ba).f2), .int .i64 ((rd_T35 aa ba).f3), .int .i64 0, .int .i64 0, .int .i64 0, .int .i64 0, .int .i64 0]) ?_ 4 _ rfl; refine bk_ ?_; refine blk_put (cs := #[.string ((rd_T35 aa ba).f0), .string ((rd_T35 aa ba).f1), .int .u64 ((rd_T35 aa ba).f2), .int .i64 0, .int .i64 0, .int .i64 0, .int .i64 0, .int .i64 0, .int .i64 0]) ?_ 3 _ rfl; refine bk_ ?_; refine blk_put (cs := #[.string ((rd_T35 aa ba).f0), .string ((rd_T35 aa ba).f1), .int .u64 0, .int .i64 0, .int .i64 0, .int .i64 0, .int .i64 0, .int .i64 0, .int .i64 0]) ?_ 2 _ rfl; refine bk_ ?_; refine blk_put (cs := #[.string ((rd_T35 aa ba).f0), .string (⟨#[]⟩ : ByteArray), .int .u64 0, .int .i64 0, .int .i64 0, .int .i64 0, .int .i64 0, .int .i64 0, .int .i64 0]) ?_ 1 _ rfl; refine bk_ ?_; refine blk_put (cs := #[.string (⟨#[]⟩ : ByteArray), .string (⟨#[]⟩ : ByteArray), .int .u64 0, .int .i64 0, .int .i64 0, .int .i64 0, .int .i64 0, .int .i64 0, .int .i64 0]) ?_ 0 _ rfl; refine bk_ ?_; exact ca.out) hb); replace HB := aM_ (below_step hB_ hb); clear hb))
            replace fa := aM_ (blk_drew fa.out)
            replace ca := aM_ (blk_drew ca.out)
            replace HB := aM_ (bD_ HB.out)
            have eb : 0 ≤ ((da) : Int) := dT_
            have fb : (da) < (aa.length : Int) := dT_
            obtain ⟨Qb, Wb, za, Aa, Ba, Ca, Da, Ea, Fa, Ga, Ha⟩ := at_T35 cb.out (da) eb fb
            have hw136_8 := Ha
            have hw136_7 := Ga
            have hw136_6 := Fa
            have hw136_5 := Ea
            have hw136_4 := Da
            have hw136_3 := Ca
            have hw136_2 := Ba
            have hw136_1 := Aa
            have hw136_0 := za
            obtain rfl : ga = Qb := (by injection Wb)
            replace za := (HB.out.cell (World.block_lt_of_cell? w _ za)).trans za
            replace Aa := (HB.out.cell (World.block_lt_of_cell? w _ Aa)).trans Aa
            replace Ba := (HB.out.cell (World.block_lt_of_cell? w _ Ba)).trans Ba
            replace Ca := (HB.out.cell (World.block_lt_of_cell? w _ Ca)).trans Ca
            replace Da := (HB.out.cell (World.block_lt_of_cell? w _ Da)).trans Da
            replace Ea := (HB.out.cell (World.block_lt_of_cell? w _ Ea)).trans Ea
            replace Fa := (HB.out.cell (World.block_lt_of_cell? w _ Fa)).trans Fa
            replace Ga := (HB.out.cell (World.block_lt_of_cell? w _ Ga)).trans Ga
            replace Ha := (HB.out.cell (World.block_lt_of_cell? w _ Ha)).trans Ha
            replace eb := eq_true eb
            replace fb := eq_true fb
            refine start_ (n := 13) (S := fun w' => w'.cell? ⟨ka, 0, none⟩ = some (.string ((rd_T35 aa ba).f0)) ∧ w'.cell? ⟨ka, 1, none⟩ = some (.string ((rd_T35 aa ba).f1)) ∧ w'.cell? ⟨ka, 2, none⟩ = some (.int .u64 ((rd_T35 aa ba).f2)) ∧ w'.cell? ⟨ka, 3, none⟩ = some (.int .i64 ((rd_T35 aa ba).f3)) ∧ w'.cell? ⟨ka, 4, none⟩ = some (.int .i64 ((rd_T35 aa ba).f4)) ∧ w'.cell? ⟨ka, 5, none⟩ = some (.int .i64 ((rd_T35 aa ba).f5)) ∧ w'.cell? ⟨ka, 6, none⟩ = some (.int .i64 ((rd_T35 aa ba).f6)) ∧ w'.cell? ⟨ka, 7, none⟩ = some (.int .i64 ((rd_T35 aa ba).f7)) ∧ w'.cell? ⟨ka, 8, none⟩ = some (.int .i64 ((rd_T35 aa ba).f8)) ∧ w'.cell? ⟨la, 0, none⟩ = some (.string ja) ∧ w'.cell? ⟨la, 1, none⟩ = some (.slice (some ga) aa.length wa) ∧ w'.cell? (ga.add (((da)).toNat * 9)) = some (.string ((rd_T35 aa (da)).f0)) ∧ w'.cell? ⟨(ga.add (((da)).toNat * 9)).block, (ga.add (((da)).toNat * 9)).off + 1, none⟩ = some (.string ((rd_T35 aa (da)).f1)) ∧ w'.cell? ⟨(ga.add (((da)).toNat * 9)).block, (ga.add (((da)).toNat * 9)).off + 2, none⟩ = some (.int .u64 ((rd_T35 aa (da)).f2)) ∧ w'.cell? ⟨(ga.add (((da)).toNat * 9)).block, (ga.add (((da)).toNat * 9)).off + 3, none⟩ = some (.int .i64 ((rd_T35 aa (da)).f3)) ∧ w'.cell? ⟨(ga.add (((da)).toNat * 9)).block, (ga.add (((da)).toNat * 9)).off + 4, none⟩ = some (.int .i64 ((rd_T35 aa (da)).f4)) ∧ w'.cell? ⟨(ga.add (((da)).toNat * 9)).block, (ga.add (((da)).toNat * 9)).off + 5, none⟩ = some (.int .i64 ((rd_T35 aa (da)).f5)) ∧ w'.cell? ⟨(ga.add (((da)).toNat * 9)).block, (ga.add (((da)).toNat * 9)).off + 6, none⟩ = some (.int .i64 ((rd_T35 aa (da)).f6)) ∧ w'.cell? ⟨(ga.add (((da)).toNat * 9)).block, (ga.add (((da)).toNat * 9)).off + 7, none⟩ = some (.int .i64 ((rd_T35 aa (da)).f7)) ∧ w'.cell? ⟨(ga.add (((da)).toNat * 9)).block, (ga.add (((da)).toNat * 9)).off + 8, none⟩ = some (.int .i64 ((rd_T35 aa (da)).f8))) (ds := []) (bo_ 13 0) (by kernel_rfl) rfl rfl ⟨bc_ ca.out 0, bc_ ca.out 1, bc_ ca.out 2, bc_ ca.out 3, bc_ ca.out 4, bc_ ca.out 5, bc_ ca.out 6, bc_ ca.out 7, bc_ ca.out 8, bc_ fa.out 0, bc_ fa.out 1, ((HB.out.cell (World.block_lt_of_cell? w _ hw136_0)).trans hw136_0), ((HB.out.cell (World.block_lt_of_cell? w _ hw136_1)).trans hw136_1), ((HB.out.cell (World.block_lt_of_cell? w _ hw136_2)).trans hw136_2), ((HB.out.cell (World.block_lt_of_cell? w _ hw136_3)).trans hw136_3), ((HB.out.cell (World.block_lt_of_cell? w _ hw136_4)).trans hw136_4), ((HB.out.cell (World.block_lt_of_cell? w _ hw136_5)).trans hw136_5), ((HB.out.cell (World.block_lt_of_cell? w _ hw136_6)).trans hw136_6), ((HB.out.cell (World.block_lt_of_cell? w _ hw136_7)).trans hw136_7), ((HB.out.cell (World.block_lt_of_cell? w _ hw136_8)).trans hw136_8)⟩ (fun hHeld => ?_); refine with_tabW database_Check.tab11 database_Check.bits11 (fun HT_ HW_ => ?_)
            generalize me.drew = Le at fa ca HB za Aa Ba Ca Da Ea Fa Ga Ha hHeld ⊢
            refine pU_ 0 (some 27) (bo_ 13 1) ?_
            refine pU_ 1 (some 28) (bo_ 13 3) ?_
            refine pU_ 2 (some 29) (bo_ 13 7) ?_
            refine pU_ 4 (some 31) (bo_ 13 23) ?_
            refine pU_ 6 (some 33) (bo_ 13 87) ?_
            refine pU_ 7 (some 34) (bo_ 13 215) ?_
            refine take_ (i := 3) (N := some 30) (v := ?_) (a' := ?_) (bo_ 13 223) rfl rfl (take_ofW HT_.out HW_.out (by kernel_rfl)) (fun _ _ _ h => h) (Or.inl ⟨by rfl, ?_⟩) hHeld ?_ ?_
            rotate_left; (· rintro w' ⟨s0, s1, s2, s3, s4, s5, s6, s7, s8, s9, gb, ib, jb, kb, lb, mb, nb, ob, Sb, Tb⟩; go_simp; with_reducible rfl)
            rotate_left; (· simp only [Act.put,sA_,sB_,sC_,i64_w,i32_w]; rfl)
            refine take_ (i := 5) (N := some 32) (v := ?_) (a' := ?_) (bo_ 13 255) rfl rfl (take_ofW HT_.out HW_.out (by kernel_rfl)) (fun _ _ _ h => h) (Or.inl ⟨by rfl, ?_⟩) hHeld ?_ ?_
            rotate_left; (· rintro w' ⟨s0, s1, s2, s3, s4, s5, s6, s7, s8, s9, gb, ib, jb, kb, lb, mb, nb, ob, Sb, Tb⟩; go_simp; with_reducible rfl)
            rotate_left; (· simp only [Act.put,sA_,sB_,sC_,i64_w,i32_w]; rfl)
            refine pU_ 8 (some 35) (bo_ 13 511) ?_
            refine take_ (i := 9) (N := some 36) (v := ?_) (a' := ?_) (bo_ 13 1023) rfl rfl (take_ofW HT_.out HW_.out (by kernel_rfl)) (fun _ _ _ h => h) (Or.inl ⟨by rfl, ?_⟩) hHeld ?_ ?_
            rotate_left; (· rintro w' ⟨s0, s1, s2, s3, s4, s5, s6, s7, s8, s9, gb, ib, jb, kb, lb, mb, nb, ob, Sb, Tb⟩; go_simp; with_reducible rfl)
            rotate_left; (· simp only [Act.put,sA_,sB_,sC_,i64_w,i32_w]; rfl)
            refine one_ (i := 10) (N := some 37) (bo_ 13 2047) rfl rfl (one_of HT_.out (by kernel_rfl)) (by decide) (fun K hK => ?_)
            refine goes_ Tryd.func36 (by kernel_rfl) rfl #[.agg #[.string ((rd_T35 aa ba).f0), .string ((rd_T35 aa ba).f1), .int .u64 ((rd_T35 aa ba).f2), .int .i64 ((rd_T35 aa ba).f3), .int .i64 ((rd_T35 aa ba).f4), .int .i64 ((rd_T35 aa ba).f5), .int .i64 ((rd_T35 aa ba).f6), .int .i64 ((rd_T35 aa ba).f7), .int .i64 ((rd_T35 aa ba).f8)], .agg #[.string ((rd_T35 aa (da)).f0), .string ((rd_T35 aa (da)).f1), .int .u64 ((rd_T35 aa (da)).f2), .int .i64 ((rd_T35 aa (da)).f3), .int .i64 ((rd_T35 aa (da)).f4), .int .i64 ((rd_T35 aa (da)).f5), .int .i64 ((rd_T35 aa (da)).f6), .int .i64 ((rd_T35 aa (da)).f7), .int .i64 ((rd_T35 aa (da)).f8)]] (by rfl) rfl rfl (by (try simp only [List.map_toArray, List.map_cons, List.map_nil]); first | done | (simp only [hji15]; rfl) | rfl | (simp only [List.length_drop, List.length_take]; rfl)) ?_
            with_reducible refine (database_compare.calls k1 ((rd_T35 aa ba).f0) ((rd_T35 aa ba).f1) ((rd_T35 aa ba).f2) ((rd_T35 aa ba).f3) ((rd_T35 aa ba).f4) ((rd_T35 aa ba).f5) ((rd_T35 aa ba).f6) ((rd_T35 aa ba).f7) ((rd_T35 aa ba).f8) ((rd_T35 aa (da)).f0) ((rd_T35 aa (da)).f1) ((rd_T35 aa (da)).f2) ((rd_T35 aa (da)).f3) ((rd_T35 aa (da)).f4) ((rd_T35 aa (da)).f5) ((rd_T35 aa (da)).f6) ((rd_T35 aa (da)).f7) ((rd_T35 aa (da)).f8) Sa _ Ec.out).mono ?_
            rintro e Me ⟨rfl, hb⟩
            refine ⟨_, rfl, ?_⟩
            replace fa := aM_ (blk_below (g := la) (o := .cells #[.string ja, .slice (some ga) aa.length wa] 24 (0, 0)) (bk_ fa.out) hb)
            replace ca := aM_ (blk_below (g := ka) (o := .cells #[.string ((rd_T35 aa ba).f0), .string ((rd_T35 aa ba).f1), .int .u64 ((rd_T35 aa ba).f2), .int .i64 ((rd_T35 aa ba).f3), .int .i64 ((rd_T35 aa ba).f4), .int .i64 ((rd_T35 aa ba).f5), .int .i64 ((rd_T35 aa ba).f6), .int .i64 ((rd_T35 aa ba).f7), .int .i64 ((rd_T35 aa ba).f8)] 35 (0, 0)) (bk_ ca.out) hb)
            replace HB := aM_ (below_step hB_ hb)
            clear hb
            refine hK.out _ _ ⟨bc_ ca.out 0, bc_ ca.out 1, bc_ ca.out 2, bc_ ca.out 3, bc_ ca.out 4, bc_ ca.out 5, bc_ ca.out 6, bc_ ca.out 7, bc_ ca.out 8, bc_ fa.out 0, bc_ fa.out 1, ((HB.out.cell (World.block_lt_of_cell? w _ hw136_0)).trans hw136_0), ((HB.out.cell (World.block_lt_of_cell? w _ hw136_1)).trans hw136_1), ((HB.out.cell (World.block_lt_of_cell? w _ hw136_2)).trans hw136_2), ((HB.out.cell (World.block_lt_of_cell? w _ hw136_3)).trans hw136_3), ((HB.out.cell (World.block_lt_of_cell? w _ hw136_4)).trans hw136_4), ((HB.out.cell (World.block_lt_of_cell? w _ hw136_5)).trans hw136_5), ((HB.out.cell (World.block_lt_of_cell? w _ hw136_6)).trans hw136_6), ((HB.out.cell (World.block_lt_of_cell? w _ hw136_7)).trans hw136_7), ((HB.out.cell (World.block_lt_of_cell? w _ hw136_8)).trans hw136_8)⟩ (fun hHeld => ?_)
            clear hK K
            refine nO_ 37 ?_
            refine pU_ 11 (some 38) (bo_ 13 4095) ?_
            refine pU_ 12 (some 39) (bo_ 13 8191) ?_
            refine done_ (done_of HT_.out (by kernel_rfl)) ?_
            try go_wp2
            go_ret
            exact ⟨by first | rfl | (simp [errW_none, errW_some] <;> rfl) | (simp only [← hji15]; first | rfl | (simp [errW_none, errW_some] <;> rfl)) | (simp [*, errW_none, errW_some] <;> rfl), hB_⟩
           rw [if_neg Cb] at H
           have xc : decide (Sa < 0) = false := decide_eq_false Cb
           clear Cb
           have H' := aM_ H
           clear H
           have La : 0 ≤ (ba : Int) := dT_
           have Ma : ba < (aa.length : Int) := dT_
           obtain ⟨ga, db, ma, na, oa, pa, qa, ra, sa, ta, ua⟩ := at_T35 cb.out ba La Ma
           cases db
           replace ma := (HB.out.cell (World.block_lt_of_cell? w _ ma)).trans ma
           replace na := (HB.out.cell (World.block_lt_of_cell? w _ na)).trans na
           replace oa := (HB.out.cell (World.block_lt_of_cell? w _ oa)).trans oa
           replace pa := (HB.out.cell (World.block_lt_of_cell? w _ pa)).trans pa
           replace qa := (HB.out.cell (World.block_lt_of_cell? w _ qa)).trans qa
           replace ra := (HB.out.cell (World.block_lt_of_cell? w _ ra)).trans ra
           replace sa := (HB.out.cell (World.block_lt_of_cell? w _ sa)).trans sa
           replace ta := (HB.out.cell (World.block_lt_of_cell? w _ ta)).trans ta
           replace ua := (HB.out.cell (World.block_lt_of_cell? w _ ua)).trans ua
           replace La := eq_true La
           replace Ma := eq_true Ma
           try go_wp2_with (first | ((with_reducible refine gate_dst (N := 4) rfl ?_); refine box_event ?hg (N := 4) ?hd (cs := #[.string (⟨#[]⟩ : ByteArray), .string (⟨#[]⟩ : ByteArray), .int .u64 0, .int .i64 0, .int .i64 0, .int .i64 0, .int .i64 0, .int .i64 0, .int .i64 0]) (t := 35) ?hr ?_; (case hd => rfl); (case hg => rfl); (case hr => first | (go_simp; done) | (go_simp; rfl)); intro ka hg Ne hbox hb; have ca := aM_ (hbox); have Ob := aM_ ((by rw [hg]; exact (below_size hB_) : w.heap.size ≤ ka)); have Pb := aM_ ((by rw [hg]; exact (below_size hB_) : w.heap.size ≤ ka)); replace HB := aM_ (below_step hB_ hb); have ea := aM_ ((by rw [hg]; exact Nat.ne_of_lt (blk_lt (g := la) (o := .cells #[.string ja, .slice (some ga) aa.length wa] 24 (0, 0)) (bk_ fa.out)) : la ≠ ka)); have Ja := aM_ ((by rw [hg]; exact Nat.ne_of_gt (blk_lt (g := la) (o := .cells #[.string ja, .slice (some ga) aa.length wa] 24 (0, 0)) (bk_ fa.out)) : ka ≠ la)); replace fa := aM_ (blk_below (g := la) (o := .cells #[.string ja, .slice (some ga) aa.length wa] 24 (0, 0)) (bk_ fa.out) hb); clear hb hbox hg; have Ae := Ja.out; have Be := ea.out; have bd := bc_ ca.out 0; have cd := bc_ ca.out 1; have dd := bc_ ca.out 2; have ed := bc_ ca.out 3; have fd := bc_ ca.out 4; have gd := bc_ ca.out 5; have id := bc_ ca.out 6; have jd := bc_ ca.out 7; have kd := bc_ ca.out 8; have ld := blk_frozen ca.out 0; have md := blk_frozen ca.out 1; have od := blk_frozen ca.out 2; have pd := blk_frozen ca.out 3; have qd := blk_frozen ca.out 4; have rd := blk_frozen ca.out 5; have sd := blk_frozen ca.out 6; have td := blk_frozen ca.out 7; have ud := blk_frozen ca.out 8) | ((with_reducible refine gate_callee (f := 14) rfl ?_); refine goesL_ (some 23) rfl rfl Tryd.func14 (by kernel_rfl) rfl #[.agg #[.string ((rd_T35 aa ba).f0), .string ((rd_T35 aa ba).f1), .int .u64 ((rd_T35 aa ba).f2), .int .i64 ((rd_T35 aa ba).f3), .int .i64 ((rd_T35 aa ba).f4), .int .i64 ((rd_T35 aa ba).f5), .int .i64 ((rd_T35 aa ba).f6), .int .i64 ((rd_T35 aa ba).f7), .int .i64 ((rd_T35 aa ba).f8)]] rfl aR_ ?_; (with_reducible refine (database_CheckEntry.calls k1 ((rd_T35 aa ba).f0) ((rd_T35 aa ba).f1) ((rd_T35 aa ba).f2) ((rd_T35 aa ba).f3) ((rd_T35 aa ba).f4) ((rd_T35 aa ba).f5) ((rd_T35 aa ba).f6) ((rd_T35 aa ba).f7) ((rd_T35 aa ba).f8) Oa _ Rb.out).mono ?_); rintro e ne ⟨rfl, hb⟩; refine ⟨_, rfl, ?_⟩; replace fa := aM_ (blk_below (g := la) (o := .cells #[.string ja, .slice (some ga) aa.length wa] 24 (0, 0)) (by refine bk_ ?_; refine blk_far ?_ ea.out _; refine bk_ ?_; refine blk_far ?_ ea.out _; refine bk_ ?_; refine blk_far ?_ ea.out _; refine bk_ ?_; refine blk_far ?_ ea.out _; refine bk_ ?_; refine blk_far ?_ ea.out _; refine bk_ ?_; refine blk_far ?_ ea.out _; refine bk_ ?_; refine blk_far ?_ ea.out _; refine bk_ ?_; refine blk_far ?_ ea.out _; refine bk_ ?_; refine blk_far ?_ ea.out _; refine bk_ ?_; exact fa.out) hb); replace ca := aM_ (blk_below (g := ka) (o := .cells #[.string ((rd_T35 aa ba).f0), .string ((rd_T35 aa ba).f1), .int .u64 ((rd_T35 aa ba).f2), .int .i64 ((rd_T35 aa ba).f3), .int .i64 ((rd_T35 aa ba).f4), .int .i64 ((rd_T35 aa ba).f5), .int .i64 ((rd_T35 aa ba).f6), .int .i64 ((rd_T35 aa ba).f7), .int .i64 ((rd_T35 aa ba).f8)] 35 (0, 0)) (by refine bk_ ?_; refine blk_put (cs := #[.string ((rd_T35 aa ba).f0), .string ((rd_T35 aa ba).f1), .int .u64 ((rd_T35 aa ba).f2), .int .i64 ((rd_T35 aa ba).f3), .int .i64 ((rd_T35 aa ba).f4), .int .i64 ((rd_T35 aa ba).f5), .int .i64 ((rd_T35 aa ba).f6), .int .i64 ((rd_T35 aa ba).f7), .int .i64 0]) ?_ 8 _ rfl; refine bk_ ?_; refine blk_put (cs := #[.string ((rd_T35 aa ba).f0), .string ((rd_T35 aa ba).f1), .int .u64 ((rd_T35 aa ba).f2), .int .i64 ((rd_T35 aa ba).f3), .int .i64 ((rd_T35 aa ba).f4), .int .i64 ((rd_T35 aa ba).f5), .int .i64 ((rd_T35 aa ba).f6), .int .i64 0, .int .i64 0]) ?_ 7 _ rfl; refine bk_ ?_; refine blk_put (cs := #[.string ((rd_T35 aa ba).f0), .string ((rd_T35 aa ba).f1), .int .u64 ((rd_T35 aa ba).f2), .int .i64 ((rd_T35 aa ba).f3), .int .i64 ((rd_T35 aa ba).f4), .int .i64 ((rd_T35 aa ba).f5), .int .i64 0, .int .i64 0, .int .i64 0]) ?_ 6 _ rfl; refine bk_ ?_; refine blk_put (cs := #[.string ((rd_T35 aa ba).f0), .string ((rd_T35 aa ba).f1), .int .u64 ((rd_T35 aa ba).f2), .int .i64 ((rd_T35 aa ba).f3), .int .i64 ((rd_T35 aa ba).f4), .int .i64 0, .int .i64 0, .int .i64 0, .int .i64 0]) ?_ 5 _ rfl; refine bk_ ?_; refine blk_put (cs := #[.string ((rd_T35 aa ba).f0), .string ((rd_T35 aa ba).f1), .int .u64 ((rd_T35 aa ba).f2), .int .i64 ((rd_T35 aa ba).f3), .int .i64 0, .int .i64 0, .int .i64 0, .int .i64 0, .int .i64 0]) ?_ 4 _ rfl; refine bk_ ?_; refine blk_put (cs := #[.string ((rd_T35 aa ba).f0), .string ((rd_T35 aa ba).f1), .int .u64 ((rd_T35 aa ba).f2), .int .i64 0, .int .i64 0, .int .i64 0, .int .i64 0, .int .i64 0, .int .i64 0]) ?_ 3 _ rfl; refine bk_ ?_; refine blk_put (cs := #[.string ((rd_T35 aa ba).f0), .string ((rd_T35 aa ba).f1), .int .u64 0, .int .i64 0, .int .i64 0, .int .i64 0, .int .i64 0, .int .i64 0, .int .i64 0]) ?_ 2 _ rfl; refine bk_ ?_; refine blk_put (cs := #[.string ((rd_T35 aa ba).f0), .string (⟨#[]⟩ : ByteArray), .int .u64 0, .int .i64 0, .int .i64 0, .int .i64 0, .int .i64 0, .int .i64 0, .int .i64 0]) ?_ 1 _ rfl; refine bk_ ?_; refine blk_put (cs := #[.string (⟨#[]⟩ : ByteArray), .string (⟨#[]⟩ : ByteArray), .int .u64 0, .int .i64 0, .int .i64 0, .int .i64 0, .int .i64 0, .int .i64 0, .int .i64 0]) ?_ 0 _ rfl; refine bk_ ?_; exact ca.out) hb); replace HB := aM_ (below_step hB_ hb); clear hb))
           replace fa := aM_ (blk_drew fa.out)
           replace ca := aM_ (blk_drew ca.out)
           replace HB := aM_ (bD_ HB.out)
           have eb : 0 ≤ ((da) : Int) := dT_
           have fb : (da) < (aa.length : Int) := dT_
           obtain ⟨Qb, Wb, za, Aa, Ba, Ca, Da, Ea, Fa, Ga, Ha⟩ := at_T35 cb.out (da) eb fb
           have hw136_8 := Ha
           have hw136_7 := Ga
           have hw136_6 := Fa
           have hw136_5 := Ea
           have hw136_4 := Da
           have hw136_3 := Ca
           have hw136_2 := Ba
           have hw136_1 := Aa
           have hw136_0 := za
           obtain rfl : ga = Qb := (by injection Wb)
           replace za := (HB.out.cell (World.block_lt_of_cell? w _ za)).trans za
           replace Aa := (HB.out.cell (World.block_lt_of_cell? w _ Aa)).trans Aa
           replace Ba := (HB.out.cell (World.block_lt_of_cell? w _ Ba)).trans Ba
           replace Ca := (HB.out.cell (World.block_lt_of_cell? w _ Ca)).trans Ca
           replace Da := (HB.out.cell (World.block_lt_of_cell? w _ Da)).trans Da
           replace Ea := (HB.out.cell (World.block_lt_of_cell? w _ Ea)).trans Ea
           replace Fa := (HB.out.cell (World.block_lt_of_cell? w _ Fa)).trans Fa
           replace Ga := (HB.out.cell (World.block_lt_of_cell? w _ Ga)).trans Ga
           replace Ha := (HB.out.cell (World.block_lt_of_cell? w _ Ha)).trans Ha
           replace eb := eq_true eb
           replace fb := eq_true fb
           refine start_ (n := 13) (S := fun w' => w'.cell? ⟨ka, 0, none⟩ = some (.string ((rd_T35 aa ba).f0)) ∧ w'.cell? ⟨ka, 1, none⟩ = some (.string ((rd_T35 aa ba).f1)) ∧ w'.cell? ⟨ka, 2, none⟩ = some (.int .u64 ((rd_T35 aa ba).f2)) ∧ w'.cell? ⟨ka, 3, none⟩ = some (.int .i64 ((rd_T35 aa ba).f3)) ∧ w'.cell? ⟨ka, 4, none⟩ = some (.int .i64 ((rd_T35 aa ba).f4)) ∧ w'.cell? ⟨ka, 5, none⟩ = some (.int .i64 ((rd_T35 aa ba).f5)) ∧ w'.cell? ⟨ka, 6, none⟩ = some (.int .i64 ((rd_T35 aa ba).f6)) ∧ w'.cell? ⟨ka, 7, none⟩ = some (.int .i64 ((rd_T35 aa ba).f7)) ∧ w'.cell? ⟨ka, 8, none⟩ = some (.int .i64 ((rd_T35 aa ba).f8)) ∧ w'.cell? ⟨la, 0, none⟩ = some (.string ja) ∧ w'.cell? ⟨la, 1, none⟩ = some (.slice (some ga) aa.length wa) ∧ w'.cell? (ga.add (((da)).toNat * 9)) = some (.string ((rd_T35 aa (da)).f0)) ∧ w'.cell? ⟨(ga.add (((da)).toNat * 9)).block, (ga.add (((da)).toNat * 9)).off + 1, none⟩ = some (.string ((rd_T35 aa (da)).f1)) ∧ w'.cell? ⟨(ga.add (((da)).toNat * 9)).block, (ga.add (((da)).toNat * 9)).off + 2, none⟩ = some (.int .u64 ((rd_T35 aa (da)).f2)) ∧ w'.cell? ⟨(ga.add (((da)).toNat * 9)).block, (ga.add (((da)).toNat * 9)).off + 3, none⟩ = some (.int .i64 ((rd_T35 aa (da)).f3)) ∧ w'.cell? ⟨(ga.add (((da)).toNat * 9)).block, (ga.add (((da)).toNat * 9)).off + 4, none⟩ = some (.int .i64 ((rd_T35 aa (da)).f4)) ∧ w'.cell? ⟨(ga.add (((da)).toNat * 9)).block, (ga.add (((da)).toNat * 9)).off + 5, none⟩ = some (.int .i64 ((rd_T35 aa (da)).f5)) ∧ w'.cell? ⟨(ga.add (((da)).toNat * 9)).block, (ga.add (((da)).toNat * 9)).off + 6, none⟩ = some (.int .i64 ((rd_T35 aa (da)).f6)) ∧ w'.cell? ⟨(ga.add (((da)).toNat * 9)).block, (ga.add (((da)).toNat * 9)).off + 7, none⟩ = some (.int .i64 ((rd_T35 aa (da)).f7)) ∧ w'.cell? ⟨(ga.add (((da)).toNat * 9)).block, (ga.add (((da)).toNat * 9)).off + 8, none⟩ = some (.int .i64 ((rd_T35 aa (da)).f8))) (ds := []) (bo_ 13 0) (by kernel_rfl) rfl rfl ⟨bc_ ca.out 0, bc_ ca.out 1, bc_ ca.out 2, bc_ ca.out 3, bc_ ca.out 4, bc_ ca.out 5, bc_ ca.out 6, bc_ ca.out 7, bc_ ca.out 8, bc_ fa.out 0, bc_ fa.out 1, ((HB.out.cell (World.block_lt_of_cell? w _ hw136_0)).trans hw136_0), ((HB.out.cell (World.block_lt_of_cell? w _ hw136_1)).trans hw136_1), ((HB.out.cell (World.block_lt_of_cell? w _ hw136_2)).trans hw136_2), ((HB.out.cell (World.block_lt_of_cell? w _ hw136_3)).trans hw136_3), ((HB.out.cell (World.block_lt_of_cell? w _ hw136_4)).trans hw136_4), ((HB.out.cell (World.block_lt_of_cell? w _ hw136_5)).trans hw136_5), ((HB.out.cell (World.block_lt_of_cell? w _ hw136_6)).trans hw136_6), ((HB.out.cell (World.block_lt_of_cell? w _ hw136_7)).trans hw136_7), ((HB.out.cell (World.block_lt_of_cell? w _ hw136_8)).trans hw136_8)⟩ (fun hHeld => ?_); refine with_tabW database_Check.tab11 database_Check.bits11 (fun HT_ HW_ => ?_)
           generalize ne.drew = Oe at fa ca HB za Aa Ba Ca Da Ea Fa Ga Ha hHeld ⊢
           refine pU_ 0 (some 27) (bo_ 13 1) ?_
           refine pU_ 1 (some 28) (bo_ 13 3) ?_
           refine pU_ 2 (some 29) (bo_ 13 7) ?_
           refine pU_ 4 (some 31) (bo_ 13 23) ?_
           refine pU_ 6 (some 33) (bo_ 13 87) ?_
           refine pU_ 7 (some 34) (bo_ 13 215) ?_
           refine take_ (i := 3) (N := some 30) (v := ?_) (a' := ?_) (bo_ 13 223) rfl rfl (take_ofW HT_.out HW_.out (by kernel_rfl)) (fun _ _ _ h => h) (Or.inl ⟨by rfl, ?_⟩) hHeld ?_ ?_
           rotate_left; (· rintro w' ⟨s0, s1, s2, s3, s4, s5, s6, s7, s8, s9, gb, ib, jb, kb, lb, mb, nb, ob, Sb, Tb⟩; go_simp; with_reducible rfl)
           rotate_left; (· simp only [Act.put,sA_,sB_,sC_,i64_w,i32_w]; rfl)
           refine take_ (i := 5) (N := some 32) (v := ?_) (a' := ?_) (bo_ 13 255) rfl rfl (take_ofW HT_.out HW_.out (by kernel_rfl)) (fun _ _ _ h => h) (Or.inl ⟨by rfl, ?_⟩) hHeld ?_ ?_
           rotate_left; (· rintro w' ⟨s0, s1, s2, s3, s4, s5, s6, s7, s8, s9, gb, ib, jb, kb, lb, mb, nb, ob, Sb, Tb⟩; go_simp; with_reducible rfl)
           rotate_left; (· simp only [Act.put,sA_,sB_,sC_,i64_w,i32_w]; rfl)
           refine pU_ 8 (some 35) (bo_ 13 511) ?_
           refine take_ (i := 9) (N := some 36) (v := ?_) (a' := ?_) (bo_ 13 1023) rfl rfl (take_ofW HT_.out HW_.out (by kernel_rfl)) (fun _ _ _ h => h) (Or.inl ⟨by rfl, ?_⟩) hHeld ?_ ?_
           rotate_left; (· rintro w' ⟨s0, s1, s2, s3, s4, s5, s6, s7, s8, s9, gb, ib, jb, kb, lb, mb, nb, ob, Sb, Tb⟩; go_simp; with_reducible rfl)
           rotate_left; (· simp only [Act.put,sA_,sB_,sC_,i64_w,i32_w]; rfl)
           refine one_ (i := 10) (N := some 37) (bo_ 13 2047) rfl rfl (one_of HT_.out (by kernel_rfl)) (by decide) (fun K hK => ?_)
           refine goes_ Tryd.func36 (by kernel_rfl) rfl #[.agg #[.string ((rd_T35 aa ba).f0), .string ((rd_T35 aa ba).f1), .int .u64 ((rd_T35 aa ba).f2), .int .i64 ((rd_T35 aa ba).f3), .int .i64 ((rd_T35 aa ba).f4), .int .i64 ((rd_T35 aa ba).f5), .int .i64 ((rd_T35 aa ba).f6), .int .i64 ((rd_T35 aa ba).f7), .int .i64 ((rd_T35 aa ba).f8)], .agg #[.string ((rd_T35 aa (da)).f0), .string ((rd_T35 aa (da)).f1), .int .u64 ((rd_T35 aa (da)).f2), .int .i64 ((rd_T35 aa (da)).f3), .int .i64 ((rd_T35 aa (da)).f4), .int .i64 ((rd_T35 aa (da)).f5), .int .i64 ((rd_T35 aa (da)).f6), .int .i64 ((rd_T35 aa (da)).f7), .int .i64 ((rd_T35 aa (da)).f8)]] (by rfl) rfl rfl (by (try simp only [List.map_toArray, List.map_cons, List.map_nil]); first | done | (simp only [hji15]; rfl) | rfl | (simp only [List.length_drop, List.length_take]; rfl)) ?_
           with_reducible refine (database_compare.calls k1 ((rd_T35 aa ba).f0) ((rd_T35 aa ba).f1) ((rd_T35 aa ba).f2) ((rd_T35 aa ba).f3) ((rd_T35 aa ba).f4) ((rd_T35 aa ba).f5) ((rd_T35 aa ba).f6) ((rd_T35 aa ba).f7) ((rd_T35 aa ba).f8) ((rd_T35 aa (da)).f0) ((rd_T35 aa (da)).f1) ((rd_T35 aa (da)).f2) ((rd_T35 aa (da)).f3) ((rd_T35 aa (da)).f4) ((rd_T35 aa (da)).f5) ((rd_T35 aa (da)).f6) ((rd_T35 aa (da)).f7) ((rd_T35 aa (da)).f8) Sa _ Ec.out).mono ?_
           rintro e Pe ⟨rfl, hb⟩
           refine ⟨_, rfl, ?_⟩
           replace fa := aM_ (blk_below (g := la) (o := .cells #[.string ja, .slice (some ga) aa.length wa] 24 (0, 0)) (bk_ fa.out) hb)
           replace ca := aM_ (blk_below (g := ka) (o := .cells #[.string ((rd_T35 aa ba).f0), .string ((rd_T35 aa ba).f1), .int .u64 ((rd_T35 aa ba).f2), .int .i64 ((rd_T35 aa ba).f3), .int .i64 ((rd_T35 aa ba).f4), .int .i64 ((rd_T35 aa ba).f5), .int .i64 ((rd_T35 aa ba).f6), .int .i64 ((rd_T35 aa ba).f7), .int .i64 ((rd_T35 aa ba).f8)] 35 (0, 0)) (bk_ ca.out) hb)
           replace HB := aM_ (below_step hB_ hb)
           clear hb
           refine hK.out _ _ ⟨bc_ ca.out 0, bc_ ca.out 1, bc_ ca.out 2, bc_ ca.out 3, bc_ ca.out 4, bc_ ca.out 5, bc_ ca.out 6, bc_ ca.out 7, bc_ ca.out 8, bc_ fa.out 0, bc_ fa.out 1, ((HB.out.cell (World.block_lt_of_cell? w _ hw136_0)).trans hw136_0), ((HB.out.cell (World.block_lt_of_cell? w _ hw136_1)).trans hw136_1), ((HB.out.cell (World.block_lt_of_cell? w _ hw136_2)).trans hw136_2), ((HB.out.cell (World.block_lt_of_cell? w _ hw136_3)).trans hw136_3), ((HB.out.cell (World.block_lt_of_cell? w _ hw136_4)).trans hw136_4), ((HB.out.cell (World.block_lt_of_cell? w _ hw136_5)).trans hw136_5), ((HB.out.cell (World.block_lt_of_cell? w _ hw136_6)).trans hw136_6), ((HB.out.cell (World.block_lt_of_cell? w _ hw136_7)).trans hw136_7), ((HB.out.cell (World.block_lt_of_cell? w _ hw136_8)).trans hw136_8)⟩ (fun hHeld => ?_)
           clear hK K
           refine nO_ 37 ?_
           refine pU_ 11 (some 38) (bo_ 13 4095) ?_
           refine pU_ 12 (some 39) (bo_ 13 8191) ?_
           refine done_ (done_of HT_.out (by kernel_rfl)) ?_
           try go_wp2
           go_roundg k1
           case measure => have := Zb.out; omega
           case rel => exact ⟨(wrap64 (ba + 1)), rS_, H', ⟨by have := Zb.out; omega⟩, ⟨by refine bk_ ?_; exact fa.out⟩, ⟨hB_⟩⟩
          rw [if_neg dc] at H
          exact absurd H (by simp)
         rw [if_neg cc] at H
         exact absurd H (by simp)
        rw [if_neg Bb] at H
        have wc : decide (0 < ba) = false := decide_eq_false Bb
        clear Bb
        have H' := aM_ H
        clear H
        have La : 0 ≤ (ba : Int) := dT_
        have Ma : ba < (aa.length : Int) := dT_
        obtain ⟨ga, db, ma, na, oa, pa, qa, ra, sa, ta, ua⟩ := at_T35 cb.out ba La Ma
        cases db
        replace ma := (HB.out.cell (World.block_lt_of_cell? w _ ma)).trans ma
        replace na := (HB.out.cell (World.block_lt_of_cell? w _ na)).trans na
        replace oa := (HB.out.cell (World.block_lt_of_cell? w _ oa)).trans oa
        replace pa := (HB.out.cell (World.block_lt_of_cell? w _ pa)).trans pa
        replace qa := (HB.out.cell (World.block_lt_of_cell? w _ qa)).trans qa
        replace ra := (HB.out.cell (World.block_lt_of_cell? w _ ra)).trans ra
        replace sa := (HB.out.cell (World.block_lt_of_cell? w _ sa)).trans sa
        replace ta := (HB.out.cell (World.block_lt_of_cell? w _ ta)).trans ta
        replace ua := (HB.out.cell (World.block_lt_of_cell? w _ ua)).trans ua
        replace La := eq_true La
        replace Ma := eq_true Ma
        try go_wp2_with (first | ((with_reducible refine gate_dst (N := 4) rfl ?_); refine box_event ?hg (N := 4) ?hd (cs := #[.string (⟨#[]⟩ : ByteArray), .string (⟨#[]⟩ : ByteArray), .int .u64 0, .int .i64 0, .int .i64 0, .int .i64 0, .int .i64 0, .int .i64 0, .int .i64 0]) (t := 35) ?hr ?_; (case hd => rfl); (case hg => rfl); (case hr => first | (go_simp; done) | (go_simp; rfl)); intro ka hg Qe hbox hb; have ca := aM_ (hbox); have Ob := aM_ ((by rw [hg]; exact (below_size hB_) : w.heap.size ≤ ka)); have Pb := aM_ ((by rw [hg]; exact (below_size hB_) : w.heap.size ≤ ka)); replace HB := aM_ (below_step hB_ hb); have ea := aM_ ((by rw [hg]; exact Nat.ne_of_lt (blk_lt (g := la) (o := .cells #[.string ja, .slice (some ga) aa.length wa] 24 (0, 0)) (bk_ fa.out)) : la ≠ ka)); have Ja := aM_ ((by rw [hg]; exact Nat.ne_of_gt (blk_lt (g := la) (o := .cells #[.string ja, .slice (some ga) aa.length wa] 24 (0, 0)) (bk_ fa.out)) : ka ≠ la)); replace fa := aM_ (blk_below (g := la) (o := .cells #[.string ja, .slice (some ga) aa.length wa] 24 (0, 0)) (bk_ fa.out) hb); clear hb hbox hg; have Ce := Ja.out; have De := ea.out; have vd := bc_ ca.out 0; have wd := bc_ ca.out 1; have xd := bc_ ca.out 2; have yd := bc_ ca.out 3; have zd := bc_ ca.out 4; have Ad := bc_ ca.out 5; have Bd := bc_ ca.out 6; have Cd := bc_ ca.out 7; have Dd := bc_ ca.out 8; have Ed := blk_frozen ca.out 0; have Fd := blk_frozen ca.out 1; have Gd := blk_frozen ca.out 2; have Hd := blk_frozen ca.out 3; have Id := blk_frozen ca.out 4; have Jd := blk_frozen ca.out 5; have Ld := blk_frozen ca.out 6; have Md := blk_frozen ca.out 7; have Nd := blk_frozen ca.out 8) | ((with_reducible refine gate_callee (f := 14) rfl ?_); refine goesL_ (some 23) rfl rfl Tryd.func14 (by kernel_rfl) rfl #[.agg #[.string ((rd_T35 aa ba).f0), .string ((rd_T35 aa ba).f1), .int .u64 ((rd_T35 aa ba).f2), .int .i64 ((rd_T35 aa ba).f3), .int .i64 ((rd_T35 aa ba).f4), .int .i64 ((rd_T35 aa ba).f5), .int .i64 ((rd_T35 aa ba).f6), .int .i64 ((rd_T35 aa ba).f7), .int .i64 ((rd_T35 aa ba).f8)]] rfl aR_ ?_; (with_reducible refine (database_CheckEntry.calls k1 ((rd_T35 aa ba).f0) ((rd_T35 aa ba).f1) ((rd_T35 aa ba).f2) ((rd_T35 aa ba).f3) ((rd_T35 aa ba).f4) ((rd_T35 aa ba).f5) ((rd_T35 aa ba).f6) ((rd_T35 aa ba).f7) ((rd_T35 aa ba).f8) Oa _ Rb.out).mono ?_); rintro e oe ⟨rfl, hb⟩; refine ⟨_, rfl, ?_⟩; replace fa := aM_ (blk_below (g := la) (o := .cells #[.string ja, .slice (some ga) aa.length wa] 24 (0, 0)) (by refine bk_ ?_; refine blk_far ?_ ea.out _; refine bk_ ?_; refine blk_far ?_ ea.out _; refine bk_ ?_; refine blk_far ?_ ea.out _; refine bk_ ?_; refine blk_far ?_ ea.out _; refine bk_ ?_; refine blk_far ?_ ea.out _; refine bk_ ?_; refine blk_far ?_ ea.out _; refine bk_ ?_; refine blk_far ?_ ea.out _; refine bk_ ?_; refine blk_far ?_ ea.out _; refine bk_ ?_; refine blk_far ?_ ea.out _; refine bk_ ?_; exact fa.out) hb); replace ca := aM_ (blk_below (g := ka) (o := .cells #[.string ((rd_T35 aa ba).f0), .string ((rd_T35 aa ba).f1), .int .u64 ((rd_T35 aa ba).f2), .int .i64 ((rd_T35 aa ba).f3), .int .i64 ((rd_T35 aa ba).f4), .int .i64 ((rd_T35 aa ba).f5), .int .i64 ((rd_T35 aa ba).f6), .int .i64 ((rd_T35 aa ba).f7), .int .i64 ((rd_T35 aa ba).f8)] 35 (0, 0)) (by refine bk_ ?_; refine blk_put (cs := #[.string ((rd_T35 aa ba).f0), .string ((rd_T35 aa ba).f1), .int .u64 ((rd_T35 aa ba).f2), .int .i64 ((rd_T35 aa ba).f3), .int .i64 ((rd_T35 aa ba).f4), .int .i64 ((rd_T35 aa ba).f5), .int .i64 ((rd_T35 aa ba).f6), .int .i64 ((rd_T35 aa ba).f7), .int .i64 0]) ?_ 8 _ rfl; refine bk_ ?_; refine blk_put (cs := #[.string ((rd_T35 aa ba).f0), .string ((rd_T35 aa ba).f1), .int .u64 ((rd_T35 aa ba).f2), .int .i64 ((rd_T35 aa ba).f3), .int .i64 ((rd_T35 aa ba).f4), .int .i64 ((rd_T35 aa ba).f5), .int .i64 ((rd_T35 aa ba).f6), .int .i64 0, .int .i64 0]) ?_ 7 _ rfl; refine bk_ ?_; refine blk_put (cs := #[.string ((rd_T35 aa ba).f0), .string ((rd_T35 aa ba).f1), .int .u64 ((rd_T35 aa ba).f2), .int .i64 ((rd_T35 aa ba).f3), .int .i64 ((rd_T35 aa ba).f4), .int .i64 ((rd_T35 aa ba).f5), .int .i64 0, .int .i64 0, .int .i64 0]) ?_ 6 _ rfl; refine bk_ ?_; refine blk_put (cs := #[.string ((rd_T35 aa ba).f0), .string ((rd_T35 aa ba).f1), .int .u64 ((rd_T35 aa ba).f2), .int .i64 ((rd_T35 aa ba).f3), .int .i64 ((rd_T35 aa ba).f4), .int .i64 0, .int .i64 0, .int .i64 0, .int .i64 0]) ?_ 5 _ rfl; refine bk_ ?_; refine blk_put (cs := #[.string ((rd_T35 aa ba).f0), .string ((rd_T35 aa ba).f1), .int .u64 ((rd_T35 aa ba).f2), .int .i64 ((rd_T35 aa ba).f3), .int .i64 0, .int .i64 0, .int .i64 0, .int .i64 0, .int .i64 0]) ?_ 4 _ rfl; refine bk_ ?_; refine blk_put (cs := #[.string ((rd_T35 aa ba).f0), .string ((rd_T35 aa ba).f1), .int .u64 ((rd_T35 aa ba).f2), .int .i64 0, .int .i64 0, .int .i64 0, .int .i64 0, .int .i64 0, .int .i64 0]) ?_ 3 _ rfl; refine bk_ ?_; refine blk_put (cs := #[.string ((rd_T35 aa ba).f0), .string ((rd_T35 aa ba).f1), .int .u64 0, .int .i64 0, .int .i64 0, .int .i64 0, .int .i64 0, .int .i64 0, .int .i64 0]) ?_ 2 _ rfl; refine bk_ ?_; refine blk_put (cs := #[.string ((rd_T35 aa ba).f0), .string (⟨#[]⟩ : ByteArray), .int .u64 0, .int .i64 0, .int .i64 0, .int .i64 0, .int .i64 0, .int .i64 0, .int .i64 0]) ?_ 1 _ rfl; refine bk_ ?_; refine blk_put (cs := #[.string (⟨#[]⟩ : ByteArray), .string (⟨#[]⟩ : ByteArray), .int .u64 0, .int .i64 0, .int .i64 0, .int .i64 0, .int .i64 0, .int .i64 0, .int .i64 0]) ?_ 0 _ rfl; refine bk_ ?_; exact ca.out) hb); replace HB := aM_ (below_step hB_ hb); clear hb))
        replace fa := aM_ (blk_drew fa.out)
        replace ca := aM_ (blk_drew ca.out)
        replace HB := aM_ (bD_ HB.out)
        refine start_ (n := 13) (S := fun w' => True) (ds := []) (bo_ 13 0) (by kernel_rfl) rfl rfl trivial (fun hHeld => ?_); refine with_tabW database_Check.tab11 database_Check.bits11 (fun HT_ HW_ => ?_)
        generalize oe.drew = Re at fa ca HB hHeld ⊢
        refine pU_ 0 (some 27) (bo_ 13 1) ?_
        refine pU_ 1 (some 28) (bo_ 13 3) ?_
        refine pU_ 2 (some 29) (bo_ 13 7) ?_
        refine pV_ 3 (some 30) (bo_ 13 15) ?_
        refine pV_ 4 (some 31) (bo_ 13 31) ?_
        refine pV_ 5 (some 32) (bo_ 13 63) ?_
        refine pV_ 6 (some 33) (bo_ 13 127) ?_
        refine pV_ 7 (some 34) (bo_ 13 255) ?_
        refine pV_ 8 (some 35) (bo_ 13 511) ?_
        refine pV_ 9 (some 36) (bo_ 13 1023) ?_
        refine pV_ 10 (some 37) (bo_ 13 2047) ?_
        refine pV_ 11 (some 38) (bo_ 13 4095) ?_
        refine pU_ 12 (some 39) (bo_ 13 8191) ?_
        refine done_ (done_of HT_.out (by kernel_rfl)) ?_
        try go_wp2
        go_roundg k1
        case measure => have := Zb.out; omega
        case rel => exact ⟨(wrap64 (ba + 1)), rS_, H', ⟨by have := Zb.out; omega⟩, ⟨by refine bk_ ?_; exact fa.out⟩, ⟨hB_⟩⟩
       rw [if_neg zb] at H
       have uc : (Oa == 0) = false := beq_eq_false_iff_ne.mpr zb
       have vc : (Oa != 0) = true := bne_iff_ne.mpr zb
       obtain rfl := Option.some.inj H
       have La : 0 ≤ (ba : Int) := dT_
       have Ma : ba < (aa.length : Int) := dT_
       obtain ⟨ga, db, ma, na, oa, pa, qa, ra, sa, ta, ua⟩ := at_T35 cb.out ba La Ma
       cases db
       replace ma := (HB.out.cell (World.block_lt_of_cell? w _ ma)).trans ma
       replace na := (HB.out.cell (World.block_lt_of_cell? w _ na)).trans na
       replace oa := (HB.out.cell (World.block_lt_of_cell? w _ oa)).trans oa
       replace pa := (HB.out.cell (World.block_lt_of_cell? w _ pa)).trans pa
       replace qa := (HB.out.cell (World.block_lt_of_cell? w _ qa)).trans qa
       replace ra := (HB.out.cell (World.block_lt_of_cell? w _ ra)).trans ra
       replace sa := (HB.out.cell (World.block_lt_of_cell? w _ sa)).trans sa
       replace ta := (HB.out.cell (World.block_lt_of_cell? w _ ta)).trans ta
       replace ua := (HB.out.cell (World.block_lt_of_cell? w _ ua)).trans ua
       replace La := eq_true La
       replace Ma := eq_true Ma
       go_wp2_with (first | ((with_reducible refine gate_dst (N := 4) rfl ?_); refine box_event ?hg (N := 4) ?hd (cs := #[.string (⟨#[]⟩ : ByteArray), .string (⟨#[]⟩ : ByteArray), .int .u64 0, .int .i64 0, .int .i64 0, .int .i64 0, .int .i64 0, .int .i64 0, .int .i64 0]) (t := 35) ?hr ?_; (case hd => rfl); (case hg => rfl); (case hr => first | (go_simp; done) | (go_simp; rfl)); intro ka hg Se hbox hb; have ca := aM_ (hbox); have Ob := aM_ ((by rw [hg]; exact (below_size hB_) : w.heap.size ≤ ka)); have Pb := aM_ ((by rw [hg]; exact (below_size hB_) : w.heap.size ≤ ka)); replace HB := aM_ (below_step hB_ hb); have ea := aM_ ((by rw [hg]; exact Nat.ne_of_lt (blk_lt (g := la) (o := .cells #[.string ja, .slice (some ga) aa.length wa] 24 (0, 0)) (bk_ fa.out)) : la ≠ ka)); have Ja := aM_ ((by rw [hg]; exact Nat.ne_of_gt (blk_lt (g := la) (o := .cells #[.string ja, .slice (some ga) aa.length wa] 24 (0, 0)) (bk_ fa.out)) : ka ≠ la)); replace fa := aM_ (blk_below (g := la) (o := .cells #[.string ja, .slice (some ga) aa.length wa] 24 (0, 0)) (bk_ fa.out) hb); clear hb hbox hg; have Ee := Ja.out; have Fe := ea.out; have Od := bc_ ca.out 0; have Pd := bc_ ca.out 1; have Qd := bc_ ca.out 2; have Rd := bc_ ca.out 3; have Sd := bc_ ca.out 4; have Td := bc_ ca.out 5; have Ud := bc_ ca.out 6; have Vd := bc_ ca.out 7; have Wd := bc_ ca.out 8; have Xd := blk_frozen ca.out 0; have Yd := blk_frozen ca.out 1; have Zd := blk_frozen ca.out 2; have ae := blk_frozen ca.out 3; have be := blk_frozen ca.out 4; have ce := blk_frozen ca.out 5; have de := blk_frozen ca.out 6; have ee := blk_frozen ca.out 7; have fe := blk_frozen ca.out 8) | ((with_reducible refine gate_callee (f := 14) rfl ?_); refine goesL_ (some 23) rfl rfl Tryd.func14 (by kernel_rfl) rfl #[.agg #[.string ((rd_T35 aa ba).f0), .string ((rd_T35 aa ba).f1), .int .u64 ((rd_T35 aa ba).f2), .int .i64 ((rd_T35 aa ba).f3), .int .i64 ((rd_T35 aa ba).f4), .int .i64 ((rd_T35 aa ba).f5), .int .i64 ((rd_T35 aa ba).f6), .int .i64 ((rd_T35 aa ba).f7), .int .i64 ((rd_T35 aa ba).f8)]] rfl aR_ ?_; (with_reducible refine (database_CheckEntry.calls k1 ((rd_T35 aa ba).f0) ((rd_T35 aa ba).f1) ((rd_T35 aa ba).f2) ((rd_T35 aa ba).f3) ((rd_T35 aa ba).f4) ((rd_T35 aa ba).f5) ((rd_T35 aa ba).f6) ((rd_T35 aa ba).f7) ((rd_T35 aa ba).f8) Oa _ Rb.out).mono ?_); rintro e Te ⟨rfl, hb⟩; refine ⟨_, rfl, ?_⟩; replace fa := aM_ (blk_below (g := la) (o := .cells #[.string ja, .slice (some ga) aa.length wa] 24 (0, 0)) (by refine bk_ ?_; refine blk_far ?_ ea.out _; refine bk_ ?_; refine blk_far ?_ ea.out _; refine bk_ ?_; refine blk_far ?_ ea.out _; refine bk_ ?_; refine blk_far ?_ ea.out _; refine bk_ ?_; refine blk_far ?_ ea.out _; refine bk_ ?_; refine blk_far ?_ ea.out _; refine bk_ ?_; refine blk_far ?_ ea.out _; refine bk_ ?_; refine blk_far ?_ ea.out _; refine bk_ ?_; refine blk_far ?_ ea.out _; refine bk_ ?_; exact fa.out) hb); replace ca := aM_ (blk_below (g := ka) (o := .cells #[.string ((rd_T35 aa ba).f0), .string ((rd_T35 aa ba).f1), .int .u64 ((rd_T35 aa ba).f2), .int .i64 ((rd_T35 aa ba).f3), .int .i64 ((rd_T35 aa ba).f4), .int .i64 ((rd_T35 aa ba).f5), .int .i64 ((rd_T35 aa ba).f6), .int .i64 ((rd_T35 aa ba).f7), .int .i64 ((rd_T35 aa ba).f8)] 35 (0, 0)) (by refine bk_ ?_; refine blk_put (cs := #[.string ((rd_T35 aa ba).f0), .string ((rd_T35 aa ba).f1), .int .u64 ((rd_T35 aa ba).f2), .int .i64 ((rd_T35 aa ba).f3), .int .i64 ((rd_T35 aa ba).f4), .int .i64 ((rd_T35 aa ba).f5), .int .i64 ((rd_T35 aa ba).f6), .int .i64 ((rd_T35 aa ba).f7), .int .i64 0]) ?_ 8 _ rfl; refine bk_ ?_; refine blk_put (cs := #[.string ((rd_T35 aa ba).f0), .string ((rd_T35 aa ba).f1), .int .u64 ((rd_T35 aa ba).f2), .int .i64 ((rd_T35 aa ba).f3), .int .i64 ((rd_T35 aa ba).f4), .int .i64 ((rd_T35 aa ba).f5), .int .i64 ((rd_T35 aa ba).f6), .int .i64 0, .int .i64 0]) ?_ 7 _ rfl; refine bk_ ?_; refine blk_put (cs := #[.string ((rd_T35 aa ba).f0), .string ((rd_T35 aa ba).f1), .int .u64 ((rd_T35 aa ba).f2), .int .i64 ((rd_T35 aa ba).f3), .int .i64 ((rd_T35 aa ba).f4), .int .i64 ((rd_T35 aa ba).f5), .int .i64 0, .int .i64 0, .int .i64 0]) ?_ 6 _ rfl; refine bk_ ?_; refine blk_put (cs := #[.string ((rd_T35 aa ba).f0), .string ((rd_T35 aa ba).f1), .int .u64 ((rd_T35 aa ba).f2), .int .i64 ((rd_T35 aa ba).f3), .int .i64 ((rd_T35 aa ba).f4), .int .i64 0, .int .i64 0, .int .i64 0, .int .i64 0]) ?_ 5 _ rfl; refine bk_ ?_; refine blk_put (cs := #[.string ((rd_T35 aa ba).f0), .string ((rd_T35 aa ba).f1), .int .u64 ((rd_T35 aa ba).f2), .int .i64 ((rd_T35 aa ba).f3), .int .i64 0, .int .i64 0, .int .i64 0, .int .i64 0, .int .i64 0]) ?_ 4 _ rfl; refine bk_ ?_; refine blk_put (cs := #[.string ((rd_T35 aa ba).f0), .string ((rd_T35 aa ba).f1), .int .u64 ((rd_T35 aa ba).f2), .int .i64 0, .int .i64 0, .int .i64 0, .int .i64 0, .int .i64 0, .int .i64 0]) ?_ 3 _ rfl; refine bk_ ?_; refine blk_put (cs := #[.string ((rd_T35 aa ba).f0), .string ((rd_T35 aa ba).f1), .int .u64 0, .int .i64 0, .int .i64 0, .int .i64 0, .int .i64 0, .int .i64 0, .int .i64 0]) ?_ 2 _ rfl; refine bk_ ?_; refine blk_put (cs := #[.string ((rd_T35 aa ba).f0), .string (⟨#[]⟩ : ByteArray), .int .u64 0, .int .i64 0, .int .i64 0, .int .i64 0, .int .i64 0, .int .i64 0, .int .i64 0]) ?_ 1 _ rfl; refine bk_ ?_; refine blk_put (cs := #[.string (⟨#[]⟩ : ByteArray), .string (⟨#[]⟩ : ByteArray), .int .u64 0, .int .i64 0, .int .i64 0, .int .i64 0, .int .i64 0, .int .i64 0, .int .i64 0]) ?_ 0 _ rfl; refine bk_ ?_; exact ca.out) hb); replace HB := aM_ (below_step hB_ hb); clear hb))
       go_ret
       exact ⟨eW_, hB_⟩
      rw [if_neg bc] at H
      exact absurd H (by simp)
     rw [if_neg ac] at H
     exact absurd H (by simp)
    rw [if_neg c9] at H
    have Ic : decide (ba < (aa.length : Int)) = false := decide_eq_false c9
    clear c9
    obtain rfl := Option.some.inj H
    go_wp2
    go_ret
    exact ⟨eW_, hB_⟩
 replace c3 := Bool.eq_false_iff.mpr c3
 subst c3
 have H1 : (some 103) = some r := by rw [if_neg (show ¬ (false = true) by decide)] at H; exact H
 clear H
 have H := H1
 clear H1
 obtain rfl := Option.some.inj H
 go_enter Tryd.func10, Tryd.ntmps10
 go_wp2_with (first | ((with_reducible refine gate_dst (N := 1) rfl ?_); refine box_event ?hg (N := 1) ?hd (cs := #[.string ja, .slice xb aa.length wa]) (t := 24) ?hr ?_; (case hd => rfl); (case hg => rfl); (case hr => first | (go_simp; done) | (go_simp; rfl)); intro la hg Ue hbox hb; have fa := aM_ (hbox); have Xb := aM_ ((by rw [hg]; exact (below_size (bk_ HB.out)) : w.heap.size ≤ la)); have Yb := aM_ ((by rw [hg]; exact (below_size (bk_ HB.out)) : w.heap.size ≤ la)); replace HB := aM_ (below_step (bk_ HB.out) hb); clear hb hbox hg; have ge := bc_ fa.out 0; have he := bc_ fa.out 1; have ie := blk_frozen fa.out 0; have je := blk_frozen fa.out 1) | ((with_reducible refine gate_callee (f := 35) rfl ?_); refine goesL_ (some 8) rfl rfl Tryd.func35 (by kernel_rfl) rfl #[.string ja] rfl aR_ ?_; (with_reducible refine (principal_ValidRealm.calls k ja false _ A2.out).mono ?_); rintro e w' ⟨rfl, ⟨nd, rfl⟩⟩; refine ⟨_, rfl, ?_⟩))
 go_ret
 exact ⟨eW_, hB_⟩

-- NOT PRINTED: function 65 (api_Entry_65)

-- NOT PRINTED: function 82 (api_Entry_82)

-- NOT PRINTED: function 74 (api_Entry_74)

-- NOT PRINTED: function 66 (api_Entry_66)

end Go.Proofs.YthfdfoigoomaoaaDoor.PDb
