/- The walks of functions of the translation: each call returns what the plain function beside it says. -/
import Derived.Test.YthfdfoigoomaoaaDoorPDbx0
import Derived.Test.YthfdfoigoomaoaaDoorPDbx10
namespace Go.Proofs.YthfdfoigoomaoaaDoor.PDb
open Go.RowKit Go.Proofs.YthfdfoigoomaoaaDoorW.PrintWords Go.Proofs.YthfdfoigoomaoaaDoorW.PrintLast Go.Proofs.YthfdfoigoomaoaaDoorW.PrintMore Go.Proofs.YthfdfoigoomaoaaDoor.Aid
attribute [local go_sem] max2_int min2_int max_two min_two max_three min_three max_four min_four aid_str_gtr aid_str_leq   -- for this text's walks alone
set_option linter.unusedVariables false
set_option linter.unusedSimpArgs false

/-! ### kerbsuiteref12_Check: function 11 -/
def kerbsuiteref12_Check.l0 : Nat → Int → ByteArray → List (S35) → Option (Int)
 | 0, _, _, _ => none
 | k + 1, x3, jb, fa => if x3 < (fa.length : Int) then (if 0 ≤ x3 then ((kerbsuiteref12_CheckEntry.f k ((rd_T35 fa x3).f0) ((rd_T35 fa x3).f1) ((rd_T35 fa x3).f2) ((rd_T35 fa x3).f3) ((rd_T35 fa x3).f4) ((rd_T35 fa x3).f5) ((rd_T35 fa x3).f6) ((rd_T35 fa x3).f7) ((rd_T35 fa x3).f8)).bind fun Ma => (if Ma = 0 then (if x3 > 0 then (if 0 ≤ (wrap64 (x3 - 1)) then (if (wrap64 (x3 - 1)) < (fa.length : Int) then ((kerbsuiteref12_before.f ((rd_T35 fa x3).f0) ((rd_T35 fa x3).f1) ((rd_T35 fa x3).f2) ((rd_T35 fa x3).f3) ((rd_T35 fa x3).f4) ((rd_T35 fa x3).f5) ((rd_T35 fa x3).f6) ((rd_T35 fa x3).f7) ((rd_T35 fa x3).f8) ((rd_T35 fa (wrap64 (x3 - 1))).f0) ((rd_T35 fa (wrap64 (x3 - 1))).f1) ((rd_T35 fa (wrap64 (x3 - 1))).f2) ((rd_T35 fa (wrap64 (x3 - 1))).f3) ((rd_T35 fa (wrap64 (x3 - 1))).f4) ((rd_T35 fa (wrap64 (x3 - 1))).f5) ((rd_T35 fa (wrap64 (x3 - 1))).f6) ((rd_T35 fa (wrap64 (x3 - 1))).f7) ((rd_T35 fa (wrap64 (x3 - 1))).f8)).bind fun Pa => (if Pa = true then (some 110) else (kerbsuiteref12_Check.l0 k (wrap64 (x3 + 1)) jb fa))) else (none)) else (none)) else (kerbsuiteref12_Check.l0 k (wrap64 (x3 + 1)) jb fa)) else (some Ma))) else (none)) else (some 0)
def kerbsuiteref12_Check.f (k : Nat) (ga : ByteArray) (aa : List (S35)) : Option (Int) := (kerbsuiteref1_ValidRealm.f k ga).bind fun Va => (if Va = true then (if (aa.length : Int) > 60 then (some 106) else (kerbsuiteref12_Check.l0 k 0 ga aa)) else (some 103))
def kerbsuiteref12_Check.T11 : Bool × List (List Nat × List Nat) := (true,[([], []), ([0], [0]), ([1], [1]), ([2], [2]), ([3, 2], [2, 3]), ([2], [2]), ([4, 5, 2], [2, 4, 5]), ([6, 2], [2, 6]), ([2], [2]), ([8, 2], [2, 8]), ([2], [2]), ([10, 2], [2, 10]), ([9, 11, 2], [2, 9, 11]), ([12, 2], [2, 12]), ([7, 13, 2, 2], [2, 7, 13]), ([2, 14], [2, 14])])
def kerbsuiteref12_Check.B11 : List Nat := [0, 1, 3, 7, 15, 7, 63, 127, 7, 263, 7, 1031, 3847, 7943, 16383, 32767]
theorem kerbsuiteref12_Check.tab11 : rtab .any (opsOf Tryd.f11 11) = kerbsuiteref12_Check.T11 := by kernel_rfl
theorem kerbsuiteref12_Check.bits11 : waitsOk kerbsuiteref12_Check.T11.2 kerbsuiteref12_Check.B11 = true := by kernel_rfl
set_option maxHeartbeats 8000000 in
set_option maxRecDepth 100000 in
theorem kerbsuiteref12_Check.calls (k : Nat) (ga : ByteArray) (Wa : Option Addr) (Na : Nat) (aa : List (S35)) (r : Int) (w : World) (hr0_1 : Kd.C k35 w Wa aa.length aa) (hc0_1 : aa.length ≤ Na) (h : kerbsuiteref12_Check.f k ga aa = some r) :
  Calls Tryd.prog 11 #[.agg #[.string ga, .slice Wa aa.length Na]] w fun e w' => e = .returned (.int .i64 r) ∧ Below w.heap.size w w' := by
 have hu24 := Tryd.underlying24
 have hu35 := Tryd.underlying35
 have Oa := aM_ hr0_1
 have Ec := aM_ hc0_1
 clear hr0_1 hc0_1
 have HB := aM_ (Below.refl w.heap.size w)
 have H : ((kerbsuiteref1_ValidRealm.f k ga).bind fun Va => (if Va = true then (if (aa.length : Int) > 60 then (some 106) else (kerbsuiteref12_Check.l0 k 0 ga aa)) else (some 103))) = some r := h
 clear h
 replace H := Option.bind_eq_some_iff.mp H
 obtain ⟨Va, Zb, H⟩ := H
 replace H : (if Va = true then (if (aa.length : Int) > 60 then (some 106) else (kerbsuiteref12_Check.l0 k 0 ga aa)) else (some 103)) = some r := H
 have A2 := aM_ Zb
 clear Zb
 by_cases c3 : Va = true
 ·subst c3
  have H1 : (if (aa.length : Int) > 60 then (some 106) else (kerbsuiteref12_Check.l0 k 0 ga aa)) = some r := by rw [if_pos rfl] at H; exact H
  clear H
  have H := H1
  clear H1
  by_cases c4 : (aa.length : Int) > 60
  ·rw [if_pos c4] at H
   have Kb : decide (60 < (aa.length : Int)) = true := decide_eq_true c4
   have Lb : decide (60 < aa.length) = true := decide_eq_true (by omega)
   clear c4
   obtain rfl := Option.some.inj H
   go_enter Tryd.func11, Tryd.ntmps11
   go_wp2_with (first | ((with_reducible refine gate_dst (N := 1) rfl ?_); refine box_event ?hg (N := 1) ?hd (cs := #[.string ga, .slice Wa aa.length Na]) (t := 24) ?hr ?_; (case hd => rfl); (case hg => rfl); (case hr => first | (go_simp; done) | (go_simp; rfl)); intro qa hg w5 hbox hb; have ea := aM_ (hbox); have Bb := aM_ ((by rw [hg]; exact (below_size (bk_ HB.out)) : w.heap.size ≤ qa)); have Cb := aM_ ((by rw [hg]; exact (below_size (bk_ HB.out)) : w.heap.size ≤ qa)); replace HB := aM_ (below_step (bk_ HB.out) hb); clear hb hbox hg; have Mb := bc_ ea.out 0; have Nb := bc_ ea.out 1; have Ob := blk_frozen ea.out 0; have Pb := blk_frozen ea.out 1) | ((with_reducible refine gate_callee (f := 37) rfl ?_); refine goesL_ (some 7) rfl rfl Tryd.func37 (by kernel_rfl) rfl #[.string ga] rfl aR_ ?_; (with_reducible refine (kerbsuiteref1_ValidRealm.calls k ga true _ A2.out).mono ?_); rintro e w' ⟨rfl, ⟨nd, rfl⟩⟩; refine ⟨_, rfl, ?_⟩))
   go_ret
   exact ⟨eW_, hB_⟩
  rw [if_neg c4] at H
  have Kb : decide (60 < (aa.length : Int)) = false := decide_eq_false c4
  have Lb : decide (60 < aa.length) = false := decide_eq_false (by omega)
  clear c4
  have H' := aM_ H
  clear H
  go_enter Tryd.func11, Tryd.ntmps11
  go_wp2_with (first | ((with_reducible refine gate_dst (N := 1) rfl ?_); refine box_event ?hg (N := 1) ?hd (cs := #[.string ga, .slice Wa aa.length Na]) (t := 24) ?hr ?_; (case hd => rfl); (case hg => rfl); (case hr => first | (go_simp; done) | (go_simp; rfl)); intro qa hg w7 hbox hb; have ea := aM_ (hbox); have Bb := aM_ ((by rw [hg]; exact (below_size (bk_ HB.out)) : w.heap.size ≤ qa)); have Cb := aM_ ((by rw [hg]; exact (below_size (bk_ HB.out)) : w.heap.size ≤ qa)); replace HB := aM_ (below_step (bk_ HB.out) hb); clear hb hbox hg; have Qb := bc_ ea.out 0; have Rb := bc_ ea.out 1; have Sb := blk_frozen ea.out 0; have Tb := blk_frozen ea.out 1) | ((with_reducible refine gate_callee (f := 37) rfl ?_); refine goesL_ (some 7) rfl rfl Tryd.func37 (by kernel_rfl) rfl #[.string ga] rfl aR_ ?_; (with_reducible refine (kerbsuiteref1_ValidRealm.calls k ga true _ A2.out).mono ?_); rintro e w' ⟨rfl, ⟨nd, rfl⟩⟩; refine ⟨_, rfl, ?_⟩))
  go_loopg [3] k (fun kq v3 w' => ∃ (ba : Int), v3 = .int .i64 ba ∧ Aside0 (kerbsuiteref12_Check.l0 kq ba ga aa = some r) ∧ Aside0 (kq ≤ k) ∧ Aside0 (w'.heap[qa]? = some (.cells #[.string ga, (.slice Wa aa.length Na)] 24 (0, 0))) ∧ Aside0 (Below w.heap.size w w'))
  case atStart => exact ⟨(0), rS_, H', ⟨Nat.le_refl _⟩, ⟨by refine bk_ ?_; exact ea.out⟩, ⟨hB_⟩⟩
  case round =>
   clear H'
   try clear c1
   try clear p2
   try clear c3
   try clear c4
   try clear Kb
   try clear Lb
   try clear Mb
   try clear Nb
   try clear Qb
   try clear Rb
   try clear Ob
   try clear Pb
   try clear Sb
   try clear Tb
   obtain ⟨ba, rfl, HA, Db, ea, HB⟩ := hrel
   cases gk with
   | zero => exact absurd HA.out (by simp [kerbsuiteref12_Check.l0])
   | succ k1 =>
    have H := HA.out
    clear HA
    simp only [kerbsuiteref12_Check.l0] at H
    by_cases c9 : ba < (aa.length : Int)
    ·rw [if_pos c9] at H
     have cc : decide (ba < (aa.length : Int)) = true := decide_eq_true c9
     clear c9
     by_cases Eb : 0 ≤ ba
     ·rw [if_pos Eb] at H
      have Fc : decide (0 ≤ ba) = true := decide_eq_true Eb
      clear Eb
      replace H := Option.bind_eq_some_iff.mp H
      obtain ⟨Ma, Ub, H⟩ := H
      replace H : (if Ma = 0 then (if ba > 0 then (if 0 ≤ (wrap64 (ba - 1)) then (if (wrap64 (ba - 1)) < (aa.length : Int) then ((kerbsuiteref12_before.f ((rd_T35 aa ba).f0) ((rd_T35 aa ba).f1) ((rd_T35 aa ba).f2) ((rd_T35 aa ba).f3) ((rd_T35 aa ba).f4) ((rd_T35 aa ba).f5) ((rd_T35 aa ba).f6) ((rd_T35 aa ba).f7) ((rd_T35 aa ba).f8) ((rd_T35 aa (wrap64 (ba - 1))).f0) ((rd_T35 aa (wrap64 (ba - 1))).f1) ((rd_T35 aa (wrap64 (ba - 1))).f2) ((rd_T35 aa (wrap64 (ba - 1))).f3) ((rd_T35 aa (wrap64 (ba - 1))).f4) ((rd_T35 aa (wrap64 (ba - 1))).f5) ((rd_T35 aa (wrap64 (ba - 1))).f6) ((rd_T35 aa (wrap64 (ba - 1))).f7) ((rd_T35 aa (wrap64 (ba - 1))).f8)).bind fun Pa => (if Pa = true then (some 110) else (kerbsuiteref12_Check.l0 k1 (wrap64 (ba + 1)) ga aa))) else (none)) else (none)) else (kerbsuiteref12_Check.l0 k1 (wrap64 (ba + 1)) ga aa)) else (some Ma)) = some r := H
      have nb := aM_ Ub
      clear Ub
      by_cases Xa : Ma = 0
      ·rw [if_pos Xa] at H
       have Wb : (Ma == 0) = true := beq_iff_eq.mpr Xa
       have Xb : (Ma != 0) = false := bne_eq_false_iff_eq.mpr Xa
       clear Xa
       by_cases kb : ba > 0
       ·rw [if_pos kb] at H
        have Yb : decide (0 < ba) = true := decide_eq_true kb
        clear kb
        obtain ⟨ca, hji14⟩ : ∃ j_ : Int, (wrap64 (ba - 1)) = j_ := ⟨_, rfl⟩
        replace H : (if 0 ≤ (ca) then (if (ca) < (aa.length : Int) then ((kerbsuiteref12_before.f ((rd_T35 aa ba).f0) ((rd_T35 aa ba).f1) ((rd_T35 aa ba).f2) ((rd_T35 aa ba).f3) ((rd_T35 aa ba).f4) ((rd_T35 aa ba).f5) ((rd_T35 aa ba).f6) ((rd_T35 aa ba).f7) ((rd_T35 aa ba).f8) ((rd_T35 aa (ca)).f0) ((rd_T35 aa (ca)).f1) ((rd_T35 aa (ca)).f2) ((rd_T35 aa (ca)).f3) ((rd_T35 aa (ca)).f4) ((rd_T35 aa (ca)).f5) ((rd_T35 aa (ca)).f6) ((rd_T35 aa (ca)).f7) ((rd_T35 aa (ca)).f8)).bind fun Pa => (if Pa = true then (some 110) else (kerbsuiteref12_Check.l0 k1 (wrap64 (ba + 1)) ga aa))) else (none)) else (none)) = some r := by first | (rw [hji14] at H; exact H) | (simp only [hji14] at H ⊢; exact H)
        (try rw [hji14] at nb)
        have hji14w : (IntKind.i64.wrap (ba - 1)) = ca := (i64_w _).trans hji14
        by_cases Fb : 0 ≤ (ca)
        ·rw [if_pos Fb] at H
         have Gc : decide (0 ≤ (ca)) = true := decide_eq_true Fb
         clear Fb
         by_cases Gb : (ca) < (aa.length : Int)
         ·rw [if_pos Gb] at H
          have Hc : decide ((ca) < (aa.length : Int)) = true := decide_eq_true Gb
          clear Gb
          replace H := Option.bind_eq_some_iff.mp H
          obtain ⟨Pa, Vb, H⟩ := H
          replace H : (if Pa = true then (some 110) else (kerbsuiteref12_Check.l0 k1 (wrap64 (ba + 1)) ga aa)) = some r := H
          have ac := aM_ Vb
          clear Vb
          by_cases Hb : Pa = true
          ·subst Hb
           have H1 : (some 110) = some r := by rw [if_pos rfl] at H; exact H
           clear H
           have H := H1
           clear H1
           obtain rfl := Option.some.inj H
           have dc := bc_ ea.out 0
           have ec := bc_ ea.out 1
           have fc := blk_frozen ea.out 0
           have gc := blk_frozen ea.out 1
           have Ka : 0 ≤ (ba : Int) := dT_
           have La : ba < (aa.length : Int) := dT_
           obtain ⟨da, Qa, ha, ia, ja, ka, la, ma, na, oa, pa⟩ := at_T35 Oa.out ba Ka La
           cases Qa
           replace ha := (HB.out.cell (World.block_lt_of_cell? w _ ha)).trans ha
           replace ia := (HB.out.cell (World.block_lt_of_cell? w _ ia)).trans ia
           replace ja := (HB.out.cell (World.block_lt_of_cell? w _ ja)).trans ja
           replace ka := (HB.out.cell (World.block_lt_of_cell? w _ ka)).trans ka
           replace la := (HB.out.cell (World.block_lt_of_cell? w _ la)).trans la
           replace ma := (HB.out.cell (World.block_lt_of_cell? w _ ma)).trans ma
           replace na := (HB.out.cell (World.block_lt_of_cell? w _ na)).trans na
           replace oa := (HB.out.cell (World.block_lt_of_cell? w _ oa)).trans oa
           replace pa := (HB.out.cell (World.block_lt_of_cell? w _ pa)).trans pa
           replace Ka := eq_true Ka
           replace La := eq_true La
           try go_wp2_with (first | ((with_reducible refine gate_callee (f := 15) rfl ?_); refine goesL_ (some 25) rfl rfl Tryd.func15 (by kernel_rfl) rfl #[.agg #[.string ((rd_T35 aa ba).f0), .string ((rd_T35 aa ba).f1), .int .u64 ((rd_T35 aa ba).f2), .int .i64 ((rd_T35 aa ba).f3), .int .i64 ((rd_T35 aa ba).f4), .int .i64 ((rd_T35 aa ba).f5), .int .i64 ((rd_T35 aa ba).f6), .int .i64 ((rd_T35 aa ba).f7), .int .i64 ((rd_T35 aa ba).f8)]] rfl aR_ ?_; (with_reducible refine (kerbsuiteref12_CheckEntry.calls k1 ((rd_T35 aa ba).f0) ((rd_T35 aa ba).f1) ((rd_T35 aa ba).f2) ((rd_T35 aa ba).f3) ((rd_T35 aa ba).f4) ((rd_T35 aa ba).f5) ((rd_T35 aa ba).f6) ((rd_T35 aa ba).f7) ((rd_T35 aa ba).f8) Ma _ nb.out).mono ?_); rintro e Bc ⟨rfl, hb⟩; refine ⟨_, rfl, ?_⟩; replace ea := aM_ (blk_below (g := qa) (o := .cells #[.string ga, .slice (some da) aa.length Na] 24 (0, 0)) (bk_ ea.out) hb); replace HB := aM_ (below_step hB_ hb); clear hb))
           replace ea := aM_ (blk_drew ea.out)
           replace HB := aM_ (bD_ HB.out)
           have Ra : 0 ≤ (ba : Int) := dT_
           have Sa : ba < (aa.length : Int) := dT_
           obtain ⟨lb, pb, ra, sa, ta, ua, va, wa, xa, ya, za⟩ := at_T35 Oa.out ba Ra Sa
           have hw299_8 := za
           have hw299_7 := ya
           have hw299_6 := xa
           have hw299_5 := wa
           have hw299_4 := va
           have hw299_3 := ua
           have hw299_2 := ta
           have hw299_1 := sa
           have hw299_0 := ra
           obtain rfl : da = lb := (by injection pb)
           replace ra := (HB.out.cell (World.block_lt_of_cell? w _ ra)).trans ra
           replace sa := (HB.out.cell (World.block_lt_of_cell? w _ sa)).trans sa
           replace ta := (HB.out.cell (World.block_lt_of_cell? w _ ta)).trans ta
           replace ua := (HB.out.cell (World.block_lt_of_cell? w _ ua)).trans ua
           replace va := (HB.out.cell (World.block_lt_of_cell? w _ va)).trans va
           replace wa := (HB.out.cell (World.block_lt_of_cell? w _ wa)).trans wa
           replace xa := (HB.out.cell (World.block_lt_of_cell? w _ xa)).trans xa
           replace ya := (HB.out.cell (World.block_lt_of_cell? w _ ya)).trans ya
           replace za := (HB.out.cell (World.block_lt_of_cell? w _ za)).trans za
           replace Ra := eq_true Ra
           replace Sa := eq_true Sa
           have Ta : 0 ≤ ((ca) : Int) := dT_
           have Ua : (ca) < (aa.length : Int) := dT_
           obtain ⟨mb, qb, Aa, Ba, Ca, Da, Ea, Fa, Ga, Ha, Ia⟩ := at_T35 Oa.out (ca) Ta Ua
           have hw300_8 := Ia
           have hw300_7 := Ha
           have hw300_6 := Ga
           have hw300_5 := Fa
           have hw300_4 := Ea
           have hw300_3 := Da
           have hw300_2 := Ca
           have hw300_1 := Ba
           have hw300_0 := Aa
           obtain rfl : da = mb := (by injection qb)
           replace Aa := (HB.out.cell (World.block_lt_of_cell? w _ Aa)).trans Aa
           replace Ba := (HB.out.cell (World.block_lt_of_cell? w _ Ba)).trans Ba
           replace Ca := (HB.out.cell (World.block_lt_of_cell? w _ Ca)).trans Ca
           replace Da := (HB.out.cell (World.block_lt_of_cell? w _ Da)).trans Da
           replace Ea := (HB.out.cell (World.block_lt_of_cell? w _ Ea)).trans Ea
           replace Fa := (HB.out.cell (World.block_lt_of_cell? w _ Fa)).trans Fa
           replace Ga := (HB.out.cell (World.block_lt_of_cell? w _ Ga)).trans Ga
           replace Ha := (HB.out.cell (World.block_lt_of_cell? w _ Ha)).trans Ha
           replace Ia := (HB.out.cell (World.block_lt_of_cell? w _ Ia)).trans Ia
           replace Ta := eq_true Ta
           replace Ua := eq_true Ua
           refine start_ (n := 16) (S := fun w' => w'.cell? ⟨qa, 0, none⟩ = some (.string ga) ∧ w'.cell? ⟨qa, 1, none⟩ = some (.slice (some da) aa.length Na) ∧ w'.cell? (da.add ((ba).toNat * 9)) = some (.string ((rd_T35 aa ba).f0)) ∧ w'.cell? ⟨(da.add ((ba).toNat * 9)).block, (da.add ((ba).toNat * 9)).off + 1, none⟩ = some (.string ((rd_T35 aa ba).f1)) ∧ w'.cell? ⟨(da.add ((ba).toNat * 9)).block, (da.add ((ba).toNat * 9)).off + 2, none⟩ = some (.int .u64 ((rd_T35 aa ba).f2)) ∧ w'.cell? ⟨(da.add ((ba).toNat * 9)).block, (da.add ((ba).toNat * 9)).off + 3, none⟩ = some (.int .i64 ((rd_T35 aa ba).f3)) ∧ w'.cell? ⟨(da.add ((ba).toNat * 9)).block, (da.add ((ba).toNat * 9)).off + 4, none⟩ = some (.int .i64 ((rd_T35 aa ba).f4)) ∧ w'.cell? ⟨(da.add ((ba).toNat * 9)).block, (da.add ((ba).toNat * 9)).off + 5, none⟩ = some (.int .i64 ((rd_T35 aa ba).f5)) ∧ w'.cell? ⟨(da.add ((ba).toNat * 9)).block, (da.add ((ba).toNat * 9)).off + 6, none⟩ = some (.int .i64 ((rd_T35 aa ba).f6)) ∧ w'.cell? ⟨(da.add ((ba).toNat * 9)).block, (da.add ((ba).toNat * 9)).off + 7, none⟩ = some (.int .i64 ((rd_T35 aa ba).f7)) ∧ w'.cell? ⟨(da.add ((ba).toNat * 9)).block, (da.add ((ba).toNat * 9)).off + 8, none⟩ = some (.int .i64 ((rd_T35 aa ba).f8)) ∧ w'.cell? (da.add (((ca)).toNat * 9)) = some (.string ((rd_T35 aa (ca)).f0)) ∧ w'.cell? ⟨(da.add (((ca)).toNat * 9)).block, (da.add (((ca)).toNat * 9)).off + 1, none⟩ = some (.string ((rd_T35 aa (ca)).f1)) ∧ w'.cell? ⟨(da.add (((ca)).toNat * 9)).block, (da.add (((ca)).toNat * 9)).off + 2, none⟩ = some (.int .u64 ((rd_T35 aa (ca)).f2)) ∧ w'.cell? ⟨(da.add (((ca)).toNat * 9)).block, (da.add (((ca)).toNat * 9)).off + 3, none⟩ = some (.int .i64 ((rd_T35 aa (ca)).f3)) ∧ w'.cell? ⟨(da.add (((ca)).toNat * 9)).block, (da.add (((ca)).toNat * 9)).off + 4, none⟩ = some (.int .i64 ((rd_T35 aa (ca)).f4)) ∧ w'.cell? ⟨(da.add (((ca)).toNat * 9)).block, (da.add (((ca)).toNat * 9)).off + 5, none⟩ = some (.int .i64 ((rd_T35 aa (ca)).f5)) ∧ w'.cell? ⟨(da.add (((ca)).toNat * 9)).block, (da.add (((ca)).toNat * 9)).off + 6, none⟩ = some (.int .i64 ((rd_T35 aa (ca)).f6)) ∧ w'.cell? ⟨(da.add (((ca)).toNat * 9)).block, (da.add (((ca)).toNat * 9)).off + 7, none⟩ = some (.int .i64 ((rd_T35 aa (ca)).f7)) ∧ w'.cell? ⟨(da.add (((ca)).toNat * 9)).block, (da.add (((ca)).toNat * 9)).off + 8, none⟩ = some (.int .i64 ((rd_T35 aa (ca)).f8))) (ds := []) (bo_ 16 0) (by kernel_rfl) rfl rfl ⟨bc_ ea.out 0, bc_ ea.out 1, ((HB.out.cell (World.block_lt_of_cell? w _ hw299_0)).trans hw299_0), ((HB.out.cell (World.block_lt_of_cell? w _ hw299_1)).trans hw299_1), ((HB.out.cell (World.block_lt_of_cell? w _ hw299_2)).trans hw299_2), ((HB.out.cell (World.block_lt_of_cell? w _ hw299_3)).trans hw299_3), ((HB.out.cell (World.block_lt_of_cell? w _ hw299_4)).trans hw299_4), ((HB.out.cell (World.block_lt_of_cell? w _ hw299_5)).trans hw299_5), ((HB.out.cell (World.block_lt_of_cell? w _ hw299_6)).trans hw299_6), ((HB.out.cell (World.block_lt_of_cell? w _ hw299_7)).trans hw299_7), ((HB.out.cell (World.block_lt_of_cell? w _ hw299_8)).trans hw299_8), ((HB.out.cell (World.block_lt_of_cell? w _ hw300_0)).trans hw300_0), ((HB.out.cell (World.block_lt_of_cell? w _ hw300_1)).trans hw300_1), ((HB.out.cell (World.block_lt_of_cell? w _ hw300_2)).trans hw300_2), ((HB.out.cell (World.block_lt_of_cell? w _ hw300_3)).trans hw300_3), ((HB.out.cell (World.block_lt_of_cell? w _ hw300_4)).trans hw300_4), ((HB.out.cell (World.block_lt_of_cell? w _ hw300_5)).trans hw300_5), ((HB.out.cell (World.block_lt_of_cell? w _ hw300_6)).trans hw300_6), ((HB.out.cell (World.block_lt_of_cell? w _ hw300_7)).trans hw300_7), ((HB.out.cell (World.block_lt_of_cell? w _ hw300_8)).trans hw300_8)⟩ (fun hHeld => ?_); refine with_tabW kerbsuiteref12_Check.tab11 kerbsuiteref12_Check.bits11 (fun HT_ HW_ => ?_)
           generalize Bc.drew = Jc at ea HB ra sa ta ua va wa xa ya za Aa Ba Ca Da Ea Fa Ga Ha Ia hHeld ⊢
           refine pU_ 0 (some 29) (bo_ 16 1) ?_
           refine pU_ 1 (some 30) (bo_ 16 3) ?_
           refine pU_ 2 (some 31) (bo_ 16 7) ?_
           refine pU_ 3 (some 32) (bo_ 16 15) ?_
           refine pU_ 5 (some 34) (bo_ 16 47) ?_
           refine pU_ 8 (some 37) (bo_ 16 303) ?_
           refine pU_ 10 (some 39) (bo_ 16 1327) ?_
           refine pU_ 11 (some 40) (bo_ 16 3375) ?_
           refine take_ (i := 4) (N := some 33) (v := ?_) (a' := ?_) (bo_ 16 3391) rfl rfl (take_ofW HT_.out HW_.out (by kernel_rfl)) (fun _ _ _ h => h) (Or.inl ⟨by rfl, ?_⟩) hHeld ?_ ?_
           rotate_left; (· rintro w' ⟨s0, s1, s2, s3, s4, s5, s6, s7, s8, s9, Ya, Za, ab, bb, cb, db, eb, fb, gb, ib⟩; go_simp; with_reducible rfl)
           rotate_left; (· simp only [Act.put,sA_,sB_,sC_,i64_w,i32_w]; rfl)
           refine pU_ 6 (some 35) (bo_ 16 3455) ?_
           refine take_ (i := 7) (N := some 36) (v := ?_) (a' := ?_) (bo_ 16 3583) rfl rfl (take_ofW HT_.out HW_.out (by kernel_rfl)) (fun _ _ _ h => h) (Or.inl ⟨by rfl, ?_⟩) hHeld ?_ ?_
           rotate_left; (· rintro w' ⟨s0, s1, s2, s3, s4, s5, s6, s7, s8, s9, Ya, Za, ab, bb, cb, db, eb, fb, gb, ib⟩; go_simp; with_reducible rfl)
           rotate_left; (· simp only [Act.put,sA_,sB_,sC_,i64_w,i32_w]; rfl)
           refine take_ (i := 9) (N := some 38) (v := ?_) (a' := ?_) (bo_ 16 4095) rfl rfl (take_ofW HT_.out HW_.out (by kernel_rfl)) (fun _ _ _ h => h) (Or.inl ⟨by rfl, ?_⟩) hHeld ?_ ?_
           rotate_left; (· rintro w' ⟨s0, s1, s2, s3, s4, s5, s6, s7, s8, s9, Ya, Za, ab, bb, cb, db, eb, fb, gb, ib⟩; go_simp; with_reducible rfl)
           rotate_left; (· simp only [Act.put,sA_,sB_,sC_,i64_w,i32_w]; rfl)
           refine pU_ 12 (some 41) (bo_ 16 8191) ?_
           refine take_ (i := 13) (N := some 42) (v := ?_) (a' := ?_) (bo_ 16 16383) rfl rfl (take_ofW HT_.out HW_.out (by kernel_rfl)) (fun _ _ _ h => h) (Or.inl ⟨by rfl, ?_⟩) hHeld ?_ ?_
           rotate_left; (· rintro w' ⟨s0, s1, s2, s3, s4, s5, s6, s7, s8, s9, Ya, Za, ab, bb, cb, db, eb, fb, gb, ib⟩; go_simp; with_reducible rfl)
           rotate_left; (· simp only [Act.put,sA_,sB_,sC_,i64_w,i32_w]; rfl)
           refine one_ (i := 14) (N := some 43) (bo_ 16 32767) rfl rfl (one_of HT_.out (by kernel_rfl)) (by decide) (fun K hK => ?_)
           refine goes_ Tryd.func38 (by kernel_rfl) rfl #[.agg #[.string ((rd_T35 aa ba).f0), .string ((rd_T35 aa ba).f1), .int .u64 ((rd_T35 aa ba).f2), .int .i64 ((rd_T35 aa ba).f3), .int .i64 ((rd_T35 aa ba).f4), .int .i64 ((rd_T35 aa ba).f5), .int .i64 ((rd_T35 aa ba).f6), .int .i64 ((rd_T35 aa ba).f7), .int .i64 ((rd_T35 aa ba).f8)], .agg #[.string ((rd_T35 aa (ca)).f0), .string ((rd_T35 aa (ca)).f1), .int .u64 ((rd_T35 aa (ca)).f2), .int .i64 ((rd_T35 aa (ca)).f3), .int .i64 ((rd_T35 aa (ca)).f4), .int .i64 ((rd_T35 aa (ca)).f5), .int .i64 ((rd_T35 aa (ca)).f6), .int .i64 ((rd_T35 aa (ca)).f7), .int .i64 ((rd_T35 aa (ca)).f8)]] (by rfl) rfl rfl (by (try simp only [List.map_toArray, List.map_cons, List.map_nil]); first | done | (simp only [hji14]; rfl) | rfl | (simp only [List.length_drop, List.length_take]; rfl)) ?_
           with_reducible refine (kerbsuiteref12_before.calls ((rd_T35 aa ba).f0) ((rd_T35 aa ba).f1) ((rd_T35 aa ba).f2) ((rd_T35 aa ba).f3) ((rd_T35 aa ba).f4) ((rd_T35 aa ba).f5) ((rd_T35 aa ba).f6) ((rd_T35 aa ba).f7) ((rd_T35 aa ba).f8) ((rd_T35 aa (ca)).f0) ((rd_T35 aa (ca)).f1) ((rd_T35 aa (ca)).f2) ((rd_T35 aa (ca)).f3) ((rd_T35 aa (ca)).f4) ((rd_T35 aa (ca)).f5) ((rd_T35 aa (ca)).f6) ((rd_T35 aa (ca)).f7) ((rd_T35 aa (ca)).f8) true _ ac.out).mono ?_
           rintro e Kc ⟨rfl, hb⟩
           refine ⟨_, rfl, ?_⟩
           replace ea := aM_ (blk_below (g := qa) (o := .cells #[.string ga, .slice (some da) aa.length Na] 24 (0, 0)) (bk_ ea.out) hb)
           replace HB := aM_ (below_step hB_ hb)
           clear hb
           refine hK.out _ _ ⟨bc_ ea.out 0, bc_ ea.out 1, ((HB.out.cell (World.block_lt_of_cell? w _ hw299_0)).trans hw299_0), ((HB.out.cell (World.block_lt_of_cell? w _ hw299_1)).trans hw299_1), ((HB.out.cell (World.block_lt_of_cell? w _ hw299_2)).trans hw299_2), ((HB.out.cell (World.block_lt_of_cell? w _ hw299_3)).trans hw299_3), ((HB.out.cell (World.block_lt_of_cell? w _ hw299_4)).trans hw299_4), ((HB.out.cell (World.block_lt_of_cell? w _ hw299_5)).trans hw299_5), ((HB.out.cell (World.block_lt_of_cell? w _ hw299_6)).trans hw299_6), ((HB.out.cell (World.block_lt_of_cell? w _ hw299_7)).trans hw299_7), ((HB.out.cell (World.block_lt_of_cell? w _ hw299_8)).trans hw299_8), ((HB.out.cell (World.block_lt_of_cell? w _ hw300_0)).trans hw300_0), ((HB.out.cell (World.block_lt_of_cell? w _ hw300_1)).trans hw300_1), ((HB.out.cell (World.block_lt_of_cell? w _ hw300_2)).trans hw300_2), ((HB.out.cell (World.block_lt_of_cell? w _ hw300_3)).trans hw300_3), ((HB.out.cell (World.block_lt_of_cell? w _ hw300_4)).trans hw300_4), ((HB.out.cell (World.block_lt_of_cell? w _ hw300_5)).trans hw300_5), ((HB.out.cell (World.block_lt_of_cell? w _ hw300_6)).trans hw300_6), ((HB.out.cell (World.block_lt_of_cell? w _ hw300_7)).trans hw300_7), ((HB.out.cell (World.block_lt_of_cell? w _ hw300_8)).trans hw300_8)⟩ (fun hHeld => ?_)
           clear hK K
           refine nO_ 43 ?_
           refine pU_ 15 (some 44) (bo_ 16 65535) ?_
           refine done_ (done_of HT_.out (by kernel_rfl)) ?_
           try go_wp2
           go_ret
           exact ⟨by first | rfl | (simp [errW_none, errW_some] <;> rfl) | (simp only [← hji14]; first | rfl | (simp [errW_none, errW_some] <;> rfl)) | (simp [*, errW_none, errW_some] <;> rfl), hB_⟩
          replace Hb := Bool.eq_false_iff.mpr Hb
          subst Hb
          have H1 : (kerbsuiteref12_Check.l0 k1 (wrap64 (ba + 1)) ga aa) = some r := by rw [if_neg (show ¬ (false = true) by decide)] at H; exact H
          clear H
          have H := H1
          clear H1
          have H' := aM_ H
          clear H
          have hc := bc_ ea.out 0
          have ic := bc_ ea.out 1
          have jc := blk_frozen ea.out 0
          have kc := blk_frozen ea.out 1
          have Ka : 0 ≤ (ba : Int) := dT_
          have La : ba < (aa.length : Int) := dT_
          obtain ⟨da, Qa, ha, ia, ja, ka, la, ma, na, oa, pa⟩ := at_T35 Oa.out ba Ka La
          cases Qa
          replace ha := (HB.out.cell (World.block_lt_of_cell? w _ ha)).trans ha
          replace ia := (HB.out.cell (World.block_lt_of_cell? w _ ia)).trans ia
          replace ja := (HB.out.cell (World.block_lt_of_cell? w _ ja)).trans ja
          replace ka := (HB.out.cell (World.block_lt_of_cell? w _ ka)).trans ka
          replace la := (HB.out.cell (World.block_lt_of_cell? w _ la)).trans la
          replace ma := (HB.out.cell (World.block_lt_of_cell? w _ ma)).trans ma
          replace na := (HB.out.cell (World.block_lt_of_cell? w _ na)).trans na
          replace oa := (HB.out.cell (World.block_lt_of_cell? w _ oa)).trans oa
          replace pa := (HB.out.cell (World.block_lt_of_cell? w _ pa)).trans pa
          replace Ka := eq_true Ka
          replace La := eq_true La
          try go_wp2_with (first | ((with_reducible refine gate_callee (f := 15) rfl ?_); refine goesL_ (some 25) rfl rfl Tryd.func15 (by kernel_rfl) rfl #[.agg #[.string ((rd_T35 aa ba).f0), .string ((rd_T35 aa ba).f1), .int .u64 ((rd_T35 aa ba).f2), .int .i64 ((rd_T35 aa ba).f3), .int .i64 ((rd_T35 aa ba).f4), .int .i64 ((rd_T35 aa ba).f5), .int .i64 ((rd_T35 aa ba).f6), .int .i64 ((rd_T35 aa ba).f7), .int .i64 ((rd_T35 aa ba).f8)]] rfl aR_ ?_; (with_reducible refine (kerbsuiteref12_CheckEntry.calls k1 ((rd_T35 aa ba).f0) ((rd_T35 aa ba).f1) ((rd_T35 aa ba).f2) ((rd_T35 aa ba).f3) ((rd_T35 aa ba).f4) ((rd_T35 aa ba).f5) ((rd_T35 aa ba).f6) ((rd_T35 aa ba).f7) ((rd_T35 aa ba).f8) Ma _ nb.out).mono ?_); rintro e Cc ⟨rfl, hb⟩; refine ⟨_, rfl, ?_⟩; replace ea := aM_ (blk_below (g := qa) (o := .cells #[.string ga, .slice (some da) aa.length Na] 24 (0, 0)) (bk_ ea.out) hb); replace HB := aM_ (below_step hB_ hb); clear hb))
          replace ea := aM_ (blk_drew ea.out)
          replace HB := aM_ (bD_ HB.out)
          have Ra : 0 ≤ (ba : Int) := dT_
          have Sa : ba < (aa.length : Int) := dT_
          obtain ⟨lb, pb, ra, sa, ta, ua, va, wa, xa, ya, za⟩ := at_T35 Oa.out ba Ra Sa
          have hw299_8 := za
          have hw299_7 := ya
          have hw299_6 := xa
          have hw299_5 := wa
          have hw299_4 := va
          have hw299_3 := ua
          have hw299_2 := ta
          have hw299_1 := sa
          have hw299_0 := ra
          obtain rfl : da = lb := (by injection pb)
          replace ra := (HB.out.cell (World.block_lt_of_cell? w _ ra)).trans ra
          replace sa := (HB.out.cell (World.block_lt_of_cell? w _ sa)).trans sa
          replace ta := (HB.out.cell (World.block_lt_of_cell? w _ ta)).trans ta
          replace ua := (HB.out.cell (World.block_lt_of_cell? w _ ua)).trans ua
          replace va := (HB.out.cell (World.block_lt_of_cell? w _ va)).trans va
          replace wa := (HB.out.cell (World.block_lt_of_cell? w _ wa)).trans wa
          replace xa := (HB.out.cell (World.block_lt_of_cell? w _ xa)).trans xa
          replace ya := (HB.out.cell (World.block_lt_of_cell? w _ ya)).trans ya
          replace za := (HB.out.cell (World.block_lt_of_cell? w _ za)).trans za
          replace Ra := eq_true Ra
          replace Sa := eq_true Sa
          have Ta : 0 ≤ ((ca) : Int) := dT_
          have Ua : (ca) < (aa.length : Int) := dT_
          obtain ⟨mb, qb, Aa, Ba, Ca, Da, Ea, Fa, Ga, Ha, Ia⟩ := at_T35 Oa.out (ca) Ta Ua
          have hw300_8 := Ia
          have hw300_7 := Ha
          have hw300_6 := Ga
          have hw300_5 := Fa
          have hw300_4 := Ea
          have hw300_3 := Da
          have hw300_2 := Ca
          have hw300_1 := Ba
          have hw300_0 := Aa
          obtain rfl : da = mb := (by injection qb)
          replace Aa := (HB.out.cell (World.block_lt_of_cell? w _ Aa)).trans Aa
          replace Ba := (HB.out.cell (World.block_lt_of_cell? w _ Ba)).trans Ba
          replace Ca := (HB.out.cell (World.block_lt_of_cell? w _ Ca)).trans Ca
          replace Da := (HB.out.cell (World.block_lt_of_cell? w _ Da)).trans Da
          replace Ea := (HB.out.cell (World.block_lt_of_cell? w _ Ea)).trans Ea
          replace Fa := (HB.out.cell (World.block_lt_of_cell? w _ Fa)).trans Fa
          replace Ga := (HB.out.cell (World.block_lt_of_cell? w _ Ga)).trans Ga
          replace Ha := (HB.out.cell (World.block_lt_of_cell? w _ Ha)).trans Ha
          replace Ia := (HB.out.cell (World.block_lt_of_cell? w _ Ia)).trans Ia
          replace Ta := eq_true Ta
          replace Ua := eq_true Ua
          refine start_ (n := 16) (S := fun w' => w'.cell? ⟨qa, 0, none⟩ = some (.string ga) ∧ w'.cell? ⟨qa, 1, none⟩ = some (.slice (some da) aa.length Na) ∧ w'.cell? (da.add ((ba).toNat * 9)) = some (.string ((rd_T35 aa ba).f0)) ∧ w'.cell? ⟨(da.add ((ba).toNat * 9)).block, (da.add ((ba).toNat * 9)).off + 1, none⟩ = some (.string ((rd_T35 aa ba).f1)) ∧ w'.cell? ⟨(da.add ((ba).toNat * 9)).block, (da.add ((ba).toNat * 9)).off + 2, none⟩ = some (.int .u64 ((rd_T35 aa ba).f2)) ∧ w'.cell? ⟨(da.add ((ba).toNat * 9)).block, (da.add ((ba).toNat * 9)).off + 3, none⟩ = some (.int .i64 ((rd_T35 aa ba).f3)) ∧ w'.cell? ⟨(da.add ((ba).toNat * 9)).block, (da.add ((ba).toNat * 9)).off + 4, none⟩ = some (.int .i64 ((rd_T35 aa ba).f4)) ∧ w'.cell? ⟨(da.add ((ba).toNat * 9)).block, (da.add ((ba).toNat * 9)).off + 5, none⟩ = some (.int .i64 ((rd_T35 aa ba).f5)) ∧ w'.cell? ⟨(da.add ((ba).toNat * 9)).block, (da.add ((ba).toNat * 9)).off + 6, none⟩ = some (.int .i64 ((rd_T35 aa ba).f6)) ∧ w'.cell? ⟨(da.add ((ba).toNat * 9)).block, (da.add ((ba).toNat * 9)).off + 7, none⟩ = some (.int .i64 ((rd_T35 aa ba).f7)) ∧ w'.cell? ⟨(da.add ((ba).toNat * 9)).block, (da.add ((ba).toNat * 9)).off + 8, none⟩ = some (.int .i64 ((rd_T35 aa ba).f8)) ∧ w'.cell? (da.add (((ca)).toNat * 9)) = some (.string ((rd_T35 aa (ca)).f0)) ∧ w'.cell? ⟨(da.add (((ca)).toNat * 9)).block, (da.add (((ca)).toNat * 9)).off + 1, none⟩ = some (.string ((rd_T35 aa (ca)).f1)) ∧ w'.cell? ⟨(da.add (((ca)).toNat * 9)).block, (da.add (((ca)).toNat * 9)).off + 2, none⟩ = some (.int .u64 ((rd_T35 aa (ca)).f2)) ∧ w'.cell? ⟨(da.add (((ca)).toNat * 9)).block, (da.add (((ca)).toNat * 9)).off + 3, none⟩ = some (.int .i64 ((rd_T35 aa (ca)).f3)) ∧ w'.cell? ⟨(da.add (((ca)).toNat * 9)).block, (da.add (((ca)).toNat * 9)).off + 4, none⟩ = some (.int .i64 ((rd_T35 aa (ca)).f4)) ∧ w'.cell? ⟨(da.add (((ca)).toNat * 9)).block, (da.add (((ca)).toNat * 9)).off + 5, none⟩ = some (.int .i64 ((rd_T35 aa (ca)).f5)) ∧ w'.cell? ⟨(da.add (((ca)).toNat * 9)).block, (da.add (((ca)).toNat * 9)).off + 6, none⟩ = some (.int .i64 ((rd_T35 aa (ca)).f6)) ∧ w'.cell? ⟨(da.add (((ca)).toNat * 9)).block, (da.add (((ca)).toNat * 9)).off + 7, none⟩ = some (.int .i64 ((rd_T35 aa (ca)).f7)) ∧ w'.cell? ⟨(da.add (((ca)).toNat * 9)).block, (da.add (((ca)).toNat * 9)).off + 8, none⟩ = some (.int .i64 ((rd_T35 aa (ca)).f8))) (ds := []) (bo_ 16 0) (by kernel_rfl) rfl rfl ⟨bc_ ea.out 0, bc_ ea.out 1, ((HB.out.cell (World.block_lt_of_cell? w _ hw299_0)).trans hw299_0), ((HB.out.cell (World.block_lt_of_cell? w _ hw299_1)).trans hw299_1), ((HB.out.cell (World.block_lt_of_cell? w _ hw299_2)).trans hw299_2), ((HB.out.cell (World.block_lt_of_cell? w _ hw299_3)).trans hw299_3), ((HB.out.cell (World.block_lt_of_cell? w _ hw299_4)).trans hw299_4), ((HB.out.cell (World.block_lt_of_cell? w _ hw299_5)).trans hw299_5), ((HB.out.cell (World.block_lt_of_cell? w _ hw299_6)).trans hw299_6), ((HB.out.cell (World.block_lt_of_cell? w _ hw299_7)).trans hw299_7), ((HB.out.cell (World.block_lt_of_cell? w _ hw299_8)).trans hw299_8), ((HB.out.cell (World.block_lt_of_cell? w _ hw300_0)).trans hw300_0), ((HB.out.cell (World.block_lt_of_cell? w _ hw300_1)).trans hw300_1), ((HB.out.cell (World.block_lt_of_cell? w _ hw300_2)).trans hw300_2), ((HB.out.cell (World.block_lt_of_cell? w _ hw300_3)).trans hw300_3), ((HB.out.cell (World.block_lt_of_cell? w _ hw300_4)).trans hw300_4), ((HB.out.cell (World.block_lt_of_cell? w _ hw300_5)).trans hw300_5), ((HB.out.cell (World.block_lt_of_cell? w _ hw300_6)).trans hw300_6), ((HB.out.cell (World.block_lt_of_cell? w _ hw300_7)).trans hw300_7), ((HB.out.cell (World.block_lt_of_cell? w _ hw300_8)).trans hw300_8)⟩ (fun hHeld => ?_); refine with_tabW kerbsuiteref12_Check.tab11 kerbsuiteref12_Check.bits11 (fun HT_ HW_ => ?_)
          generalize Cc.drew = Lc at ea HB ra sa ta ua va wa xa ya za Aa Ba Ca Da Ea Fa Ga Ha Ia hHeld ⊢
          refine pU_ 0 (some 29) (bo_ 16 1) ?_
          refine pU_ 1 (some 30) (bo_ 16 3) ?_
          refine pU_ 2 (some 31) (bo_ 16 7) ?_
          refine pU_ 3 (some 32) (bo_ 16 15) ?_
          refine pU_ 5 (some 34) (bo_ 16 47) ?_
          refine pU_ 8 (some 37) (bo_ 16 303) ?_
          refine pU_ 10 (some 39) (bo_ 16 1327) ?_
          refine pU_ 11 (some 40) (bo_ 16 3375) ?_
          refine take_ (i := 4) (N := some 33) (v := ?_) (a' := ?_) (bo_ 16 3391) rfl rfl (take_ofW HT_.out HW_.out (by kernel_rfl)) (fun _ _ _ h => h) (Or.inl ⟨by rfl, ?_⟩) hHeld ?_ ?_
          rotate_left; (· rintro w' ⟨s0, s1, s2, s3, s4, s5, s6, s7, s8, s9, Ya, Za, ab, bb, cb, db, eb, fb, gb, ib⟩; go_simp; with_reducible rfl)
          rotate_left; (· simp only [Act.put,sA_,sB_,sC_,i64_w,i32_w]; rfl)
          refine pU_ 6 (some 35) (bo_ 16 3455) ?_
          refine take_ (i := 7) (N := some 36) (v := ?_) (a' := ?_) (bo_ 16 3583) rfl rfl (take_ofW HT_.out HW_.out (by kernel_rfl)) (fun _ _ _ h => h) (Or.inl ⟨by rfl, ?_⟩) hHeld ?_ ?_
          rotate_left; (· rintro w' ⟨s0, s1, s2, s3, s4, s5, s6, s7, s8, s9, Ya, Za, ab, bb, cb, db, eb, fb, gb, ib⟩; go_simp; with_reducible rfl)
          rotate_left; (· simp only [Act.put,sA_,sB_,sC_,i64_w,i32_w]; rfl)
          refine take_ (i := 9) (N := some 38) (v := ?_) (a' := ?_) (bo_ 16 4095) rfl rfl (take_ofW HT_.out HW_.out (by kernel_rfl)) (fun _ _ _ h => h) (Or.inl ⟨by rfl, ?_⟩) hHeld ?_ ?_
          rotate_left; (· rintro w' ⟨s0, s1, s2, s3, s4, s5, s6, s7, s8, s9, Ya, Za, ab, bb, cb, db, eb, fb, gb, ib⟩; go_simp; with_reducible rfl)
          rotate_left; (· simp only [Act.put,sA_,sB_,sC_,i64_w,i32_w]; rfl)
          refine pU_ 12 (some 41) (bo_ 16 8191) ?_
          refine take_ (i := 13) (N := some 42) (v := ?_) (a' := ?_) (bo_ 16 16383) rfl rfl (take_ofW HT_.out HW_.out (by kernel_rfl)) (fun _ _ _ h => h) (Or.inl ⟨by rfl, ?_⟩) hHeld ?_ ?_
          rotate_left; (· rintro w' ⟨s0, s1, s2, s3, s4, s5, s6, s7, s8, s9, Ya, Za, ab, bb, cb, db, eb, fb, gb, ib⟩; go_simp; with_reducible rfl)
          rotate_left; (· simp only [Act.put,sA_,sB_,sC_,i64_w,i32_w]; rfl)
          refine one_ (i := 14) (N := some 43) (bo_ 16 32767) rfl rfl (one_of HT_.out (by kernel_rfl)) (by decide) (fun K hK => ?_)
          refine goes_ Tryd.func38 (by kernel_rfl) rfl #[.agg #[.string ((rd_T35 aa ba).f0), .string ((rd_T35 aa ba).f1), .int .u64 ((rd_T35 aa ba).f2), .int .i64 ((rd_T35 aa ba).f3), .int .i64 ((rd_T35 aa ba).f4), .int .i64 ((rd_T35 aa ba).f5), .int .i64 ((rd_T35 aa ba).f6), .int .i64 ((rd_T35 aa ba).f7), .int .i64 ((rd_T35 aa ba).f8)], .agg #[.string ((rd_T35 aa (ca)).f0), .string ((rd_T35 aa (ca)).f1), .int .u64 ((rd_T35 aa (ca)).f2), .int .i64 ((rd_T35 aa (ca)).f3), .int .i64 ((rd_T35 aa (ca)).f4), .int .i64 ((rd_T35 aa (ca)).f5), .int .i64 ((rd_T35 aa (ca)).f6), .int .i64 ((rd_T35 aa (ca)).f7), .int .i64 ((rd_T35 aa (ca)).f8)]] (by rfl) rfl rfl (by (try simp only [List.map_toArray, List.map_cons, List.map_nil]); first | done | (simp only [hji14]; rfl) | rfl | (simp only [List.length_drop, List.length_take]; rfl)) ?_
          with_reducible refine (kerbsuiteref12_before.calls ((rd_T35 aa ba).f0) ((rd_T35 aa ba).f1) ((rd_T35 aa ba).f2) ((rd_T35 aa ba).f3) ((rd_T35 aa ba).f4) ((rd_T35 aa ba).f5) ((rd_T35 aa ba).f6) ((rd_T35 aa ba).f7) ((rd_T35 aa ba).f8) ((rd_T35 aa (ca)).f0) ((rd_T35 aa (ca)).f1) ((rd_T35 aa (ca)).f2) ((rd_T35 aa (ca)).f3) ((rd_T35 aa (ca)).f4) ((rd_T35 aa (ca)).f5) ((rd_T35 aa (ca)).f6) ((rd_T35 aa (ca)).f7) ((rd_T35 aa (ca)).f8) false _ ac.out).mono ?_
          rintro e Mc ⟨rfl, hb⟩
          refine ⟨_, rfl, ?_⟩
          replace ea := aM_ (blk_below (g := qa) (o := .cells #[.string ga, .slice (some da) aa.length Na] 24 (0, 0)) (bk_ ea.out) hb)
          replace HB := aM_ (below_step hB_ hb)
          clear hb
          refine hK.out _ _ ⟨bc_ ea.out 0, bc_ ea.out 1, ((HB.out.cell (World.block_lt_of_cell? w _ hw299_0)).trans hw299_0), ((HB.out.cell (World.block_lt_of_cell? w _ hw299_1)).trans hw299_1), ((HB.out.cell (World.block_lt_of_cell? w _ hw299_2)).trans hw299_2), ((HB.out.cell (World.block_lt_of_cell? w _ hw299_3)).trans hw299_3), ((HB.out.cell (World.block_lt_of_cell? w _ hw299_4)).trans hw299_4), ((HB.out.cell (World.block_lt_of_cell? w _ hw299_5)).trans hw299_5), ((HB.out.cell (World.block_lt_of_cell? w _ hw299_6)).trans hw299_6), ((HB.out.cell (World.block_lt_of_cell? w _ hw299_7)).trans hw299_7), ((HB.out.cell (World.block_lt_of_cell? w _ hw299_8)).trans hw299_8), ((HB.out.cell (World.block_lt_of_cell? w _ hw300_0)).trans hw300_0), ((HB.out.cell (World.block_lt_of_cell? w _ hw300_1)).trans hw300_1), ((HB.out.cell (World.block_lt_of_cell? w _ hw300_2)).trans hw300_2), ((HB.out.cell (World.block_lt_of_cell? w _ hw300_3)).trans hw300_3), ((HB.out.cell (World.block_lt_of_cell? w _ hw300_4)).trans hw300_4), ((HB.out.cell (World.block_lt_of_cell? w _ hw300_5)).trans hw300_5), ((HB.out.cell (World.block_lt_of_cell? w _ hw300_6)).trans hw300_6), ((HB.out.cell (World.block_lt_of_cell? w _ hw300_7)).trans hw300_7), ((HB.out.cell (World.block_lt_of_cell? w _ hw300_8)).trans hw300_8)⟩ (fun hHeld => ?_)
          clear hK K
          refine nO_ 43 ?_
          refine pU_ 15 (some 44) (bo_ 16 65535) ?_
          refine done_ (done_of HT_.out (by kernel_rfl)) ?_
          try go_wp2
          go_roundg k1
          case measure => have := Db.out; omega
          case rel => exact ⟨(wrap64 (ba + 1)), rS_, H', ⟨by have := Db.out; omega⟩, ⟨by refine bk_ ?_; exact ea.out⟩, ⟨hB_⟩⟩
         rw [if_neg Gb] at H
         exact absurd H (by simp)
        rw [if_neg Fb] at H
        exact absurd H (by simp)
       rw [if_neg kb] at H
       have Yb : decide (0 < ba) = false := decide_eq_false kb
       clear kb
       have H' := aM_ H
       clear H
       have lc := bc_ ea.out 0
       have mc := bc_ ea.out 1
       have nc := blk_frozen ea.out 0
       have oc := blk_frozen ea.out 1
       have Ka : 0 ≤ (ba : Int) := dT_
       have La : ba < (aa.length : Int) := dT_
       obtain ⟨da, Qa, ha, ia, ja, ka, la, ma, na, oa, pa⟩ := at_T35 Oa.out ba Ka La
       cases Qa
       replace ha := (HB.out.cell (World.block_lt_of_cell? w _ ha)).trans ha
       replace ia := (HB.out.cell (World.block_lt_of_cell? w _ ia)).trans ia
       replace ja := (HB.out.cell (World.block_lt_of_cell? w _ ja)).trans ja
       replace ka := (HB.out.cell (World.block_lt_of_cell? w _ ka)).trans ka
       replace la := (HB.out.cell (World.block_lt_of_cell? w _ la)).trans la
       replace ma := (HB.out.cell (World.block_lt_of_cell? w _ ma)).trans ma
       replace na := (HB.out.cell (World.block_lt_of_cell? w _ na)).trans na
       replace oa := (HB.out.cell (World.block_lt_of_cell? w _ oa)).trans oa
       replace pa := (HB.out.cell (World.block_lt_of_cell? w _ pa)).trans pa
       replace Ka := eq_true Ka
       replace La := eq_true La
       try go_wp2_with (first | ((with_reducible refine gate_callee (f := 15) rfl ?_); refine goesL_ (some 25) rfl rfl Tryd.func15 (by kernel_rfl) rfl #[.agg #[.string ((rd_T35 aa ba).f0), .string ((rd_T35 aa ba).f1), .int .u64 ((rd_T35 aa ba).f2), .int .i64 ((rd_T35 aa ba).f3), .int .i64 ((rd_T35 aa ba).f4), .int .i64 ((rd_T35 aa ba).f5), .int .i64 ((rd_T35 aa ba).f6), .int .i64 ((rd_T35 aa ba).f7), .int .i64 ((rd_T35 aa ba).f8)]] rfl aR_ ?_; (with_reducible refine (kerbsuiteref12_CheckEntry.calls k1 ((rd_T35 aa ba).f0) ((rd_T35 aa ba).f1) ((rd_T35 aa ba).f2) ((rd_T35 aa ba).f3) ((rd_T35 aa ba).f4) ((rd_T35 aa ba).f5) ((rd_T35 aa ba).f6) ((rd_T35 aa ba).f7) ((rd_T35 aa ba).f8) Ma _ nb.out).mono ?_); rintro e Dc ⟨rfl, hb⟩; refine ⟨_, rfl, ?_⟩; replace ea := aM_ (blk_below (g := qa) (o := .cells #[.string ga, .slice (some da) aa.length Na] 24 (0, 0)) (bk_ ea.out) hb); replace HB := aM_ (below_step hB_ hb); clear hb))
       replace ea := aM_ (blk_drew ea.out)
       replace HB := aM_ (bD_ HB.out)
       refine start_ (n := 16) (S := fun w' => True) (ds := []) (bo_ 16 0) (by kernel_rfl) rfl rfl trivial (fun hHeld => ?_); refine with_tabW kerbsuiteref12_Check.tab11 kerbsuiteref12_Check.bits11 (fun HT_ HW_ => ?_)
       generalize Dc.drew = Nc at ea HB hHeld ⊢
       refine pU_ 0 (some 29) (bo_ 16 1) ?_
       refine pU_ 1 (some 30) (bo_ 16 3) ?_
       refine pU_ 2 (some 31) (bo_ 16 7) ?_
       refine pV_ 3 (some 32) (bo_ 16 15) ?_
       refine pV_ 4 (some 33) (bo_ 16 31) ?_
       refine pV_ 5 (some 34) (bo_ 16 63) ?_
       refine pV_ 6 (some 35) (bo_ 16 127) ?_
       refine pV_ 7 (some 36) (bo_ 16 255) ?_
       refine pV_ 8 (some 37) (bo_ 16 511) ?_
       refine pV_ 9 (some 38) (bo_ 16 1023) ?_
       refine pV_ 10 (some 39) (bo_ 16 2047) ?_
       refine pV_ 11 (some 40) (bo_ 16 4095) ?_
       refine pV_ 12 (some 41) (bo_ 16 8191) ?_
       refine pV_ 13 (some 42) (bo_ 16 16383) ?_
       refine pV_ 14 (some 43) (bo_ 16 32767) ?_
       refine pU_ 15 (some 44) (bo_ 16 65535) ?_
       refine done_ (done_of HT_.out (by kernel_rfl)) ?_
       try go_wp2
       go_roundg k1
       case measure => have := Db.out; omega
       case rel => exact ⟨(wrap64 (ba + 1)), rS_, H', ⟨by have := Db.out; omega⟩, ⟨by refine bk_ ?_; exact ea.out⟩, ⟨hB_⟩⟩
      rw [if_neg Xa] at H
      have Wb : (Ma == 0) = false := beq_eq_false_iff_ne.mpr Xa
      have Xb : (Ma != 0) = true := bne_iff_ne.mpr Xa
      obtain rfl := Option.some.inj H
      have pc := bc_ ea.out 0
      have qc := bc_ ea.out 1
      have rc := blk_frozen ea.out 0
      have sc := blk_frozen ea.out 1
      have Ka : 0 ≤ (ba : Int) := dT_
      have La : ba < (aa.length : Int) := dT_
      obtain ⟨da, Qa, ha, ia, ja, ka, la, ma, na, oa, pa⟩ := at_T35 Oa.out ba Ka La
      cases Qa
      replace ha := (HB.out.cell (World.block_lt_of_cell? w _ ha)).trans ha
      replace ia := (HB.out.cell (World.block_lt_of_cell? w _ ia)).trans ia
      replace ja := (HB.out.cell (World.block_lt_of_cell? w _ ja)).trans ja
      replace ka := (HB.out.cell (World.block_lt_of_cell? w _ ka)).trans ka
      replace la := (HB.out.cell (World.block_lt_of_cell? w _ la)).trans la
      replace ma := (HB.out.cell (World.block_lt_of_cell? w _ ma)).trans ma
      replace na := (HB.out.cell (World.block_lt_of_cell? w _ na)).trans na
      replace oa := (HB.out.cell (World.block_lt_of_cell? w _ oa)).trans oa
      replace pa := (HB.out.cell (World.block_lt_of_cell? w _ pa)).trans pa
      replace Ka := eq_true Ka
      replace La := eq_true La
      go_wp2_with (first | ((with_reducible refine gate_callee (f := 15) rfl ?_); refine goesL_ (some 25) rfl rfl Tryd.func15 (by kernel_rfl) rfl #[.agg #[.string ((rd_T35 aa ba).f0), .string ((rd_T35 aa ba).f1), .int .u64 ((rd_T35 aa ba).f2), .int .i64 ((rd_T35 aa ba).f3), .int .i64 ((rd_T35 aa ba).f4), .int .i64 ((rd_T35 aa ba).f5), .int .i64 ((rd_T35 aa ba).f6), .int .i64 ((rd_T35 aa ba).f7), .int .i64 ((rd_T35 aa ba).f8)]] rfl aR_ ?_; (with_reducible refine (kerbsuiteref12_CheckEntry.calls k1 ((rd_T35 aa ba).f0) ((rd_T35 aa ba).f1) ((rd_T35 aa ba).f2) ((rd_T35 aa ba).f3) ((rd_T35 aa ba).f4) ((rd_T35 aa ba).f5) ((rd_T35 aa ba).f6) ((rd_T35 aa ba).f7) ((rd_T35 aa ba).f8) Ma _ nb.out).mono ?_); rintro e Oc ⟨rfl, hb⟩; refine ⟨_, rfl, ?_⟩; replace ea := aM_ (blk_below (g := qa) (o := .cells #[.string ga, .slice (some da) aa.length Na] 24 (0, 0)) (bk_ ea.out) hb); replace HB := aM_ (below_step hB_ hb); clear hb))
      go_ret
      exact ⟨eW_, hB_⟩
     rw [if_neg Eb] at H
     exact absurd H (by simp)
    rw [if_neg c9] at H
    have cc : decide (ba < (aa.length : Int)) = false := decide_eq_false c9
    clear c9
    obtain rfl := Option.some.inj H
    have tc := bc_ ea.out 0
    have uc := bc_ ea.out 1
    have vc := blk_frozen ea.out 0
    have wc := blk_frozen ea.out 1
    go_wp2
    go_ret
    exact ⟨eW_, hB_⟩
 replace c3 := Bool.eq_false_iff.mpr c3
 subst c3
 have H1 : (some 103) = some r := by rw [if_neg (show ¬ (false = true) by decide)] at H; exact H
 clear H
 have H := H1
 clear H1
 obtain rfl := Option.some.inj H
 go_enter Tryd.func11, Tryd.ntmps11
 go_wp2_with (first | ((with_reducible refine gate_dst (N := 1) rfl ?_); refine box_event ?hg (N := 1) ?hd (cs := #[.string ga, .slice Wa aa.length Na]) (t := 24) ?hr ?_; (case hd => rfl); (case hg => rfl); (case hr => first | (go_simp; done) | (go_simp; rfl)); intro qa hg Pc hbox hb; have ea := aM_ (hbox); have Bb := aM_ ((by rw [hg]; exact (below_size (bk_ HB.out)) : w.heap.size ≤ qa)); have Cb := aM_ ((by rw [hg]; exact (below_size (bk_ HB.out)) : w.heap.size ≤ qa)); replace HB := aM_ (below_step (bk_ HB.out) hb); clear hb hbox hg; have xc := bc_ ea.out 0; have yc := bc_ ea.out 1; have zc := blk_frozen ea.out 0; have Ac := blk_frozen ea.out 1) | ((with_reducible refine gate_callee (f := 37) rfl ?_); refine goesL_ (some 7) rfl rfl Tryd.func37 (by kernel_rfl) rfl #[.string ga] rfl aR_ ?_; (with_reducible refine (kerbsuiteref1_ValidRealm.calls k ga false _ A2.out).mono ?_); rintro e w' ⟨rfl, ⟨nd, rfl⟩⟩; refine ⟨_, rfl, ?_⟩))
 go_ret
 exact ⟨eW_, hB_⟩

end Go.Proofs.YthfdfoigoomaoaaDoor.PDb
