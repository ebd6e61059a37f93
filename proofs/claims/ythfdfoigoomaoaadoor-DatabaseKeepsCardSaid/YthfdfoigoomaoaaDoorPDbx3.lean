/- The walks of functions of the translation: each call returns what the plain function beside it says. -/
import Derived.Test.YthfdfoigoomaoaaDoorPDbx0
import Derived.Test.YthfdfoigoomaoaaDoorPDbx2
namespace Go.Proofs.YthfdfoigoomaoaaDoor.PDb
open Go.RowKit Go.Proofs.YthfdfoigoomaoaaDoorW.PrintWords Go.Proofs.YthfdfoigoomaoaaDoorW.PrintLast Go.Proofs.YthfdfoigoomaoaaDoorW.PrintMore Go.Proofs.YthfdfoigoomaoaaDoor.Aid
attribute [local go_sem] max2_int min2_int max_two min_two max_three min_three max_four min_four aid_str_gtr aid_str_leq   -- for this text's walks alone
set_option linter.unusedVariables false
set_option linter.unusedSimpArgs false

/-! ### database_CheckEntry: function 14 -/
mutual
def database_CheckEntry.j0 : Nat → Bool → ByteArray → ByteArray → Int → Int → Int → Int → Int → Int → Int → Option (Int)
 | 0, _, _, _, _, _, _, _, _, _, _ => none
 | k + 1, x3, Ga, Ha, sa, ua, va, wa, xa, ya, za => if x3 = true then (some 103) else (if sa = 0 then (database_CheckEntry.j1 k false Ga Ha sa ua va wa xa ya za) else ((key_Valid.f sa).bind fun Ba => (database_CheckEntry.j1 k (!Ba) Ga Ha sa ua va wa xa ya za)))
def database_CheckEntry.j1 : Nat → Bool → ByteArray → ByteArray → Int → Int → Int → Int → Int → Int → Int → Option (Int)
 | 0, _, _, _, _, _, _, _, _, _, _ => none
 | k + 1, Ef, Ga, Ha, sa, ua, va, wa, xa, ya, za => if Ef = true then (some 10) else ((database_outside.f ua 255).bind fun Ia => (if Ia = true then (some 104) else ((database_outside.f va 4294967295).bind fun ra => (if ra = true then (some 104) else ((database_outside.f za 4294967295).bind fun oa => (if oa = true then (some 104) else ((database_outside.f wa 255).bind fun na => (if na = true then (some 104) else ((database_outside.f xa 3).bind fun la => (if la = true then (some 104) else ((database_outside.f ya 20).bind fun ia => (if ia = true then (some 104) else (some 0)))))))))))))
end
def database_CheckEntry.f (k : Nat) (ja : ByteArray) (ka : ByteArray) (ha : Int) (ba : Int) (ga : Int) (ea : Int) (da : Int) (ca : Int) (fa : Int) : Option (Int) := (principal_ValidName.f k ja).bind fun Ja => (if Ja = true then ((principal_ValidInstance.f k ka).bind fun qa => (database_CheckEntry.j0 k (!qa) ja ka ha ba ga ea da ca fa)) else (database_CheckEntry.j0 k true ja ka ha ba ga ea da ca fa))
set_option maxHeartbeats 8000000 in
set_option maxRecDepth 100000 in
theorem database_CheckEntry.calls (k : Nat) (ja : ByteArray) (ka : ByteArray) (ha : Int) (ba : Int) (ga : Int) (ea : Int) (da : Int) (ca : Int) (fa : Int) (r : Int) (w : World) (h : database_CheckEntry.f k ja ka ha ba ga ea da ca fa = some r) :
  Calls Tryd.prog 14 #[.agg #[.string ja, .string ka, .int .u64 ha, .int .i64 ba, .int .i64 ga, .int .i64 ea, .int .i64 da, .int .i64 ca, .int .i64 fa]] w fun e w' => e = .returned (.int .i64 r) ∧ Below w.heap.size w w' := by
 have hu35 := Tryd.underlying35
 have HB := aM_ (Below.refl w.heap.size w)
 have H : ((principal_ValidName.f k ja).bind fun Ja => (if Ja = true then ((principal_ValidInstance.f k ka).bind fun qa => (database_CheckEntry.j0 k (!qa) ja ka ha ba ga ea da ca fa)) else (database_CheckEntry.j0 k true ja ka ha ba ga ea da ca fa))) = some r := h
 clear h
 have Fc := aM_ H
 clear H
 go_enter Tryd.func14, Tryd.ntmps14
 go_upto_region 1 with (first | ((with_reducible refine gate_dst (N := 1) rfl ?_); refine bE_ 1 35 #[.string ja, .string ka, .int .u64 ha, .int .i64 ba, .int .i64 ga, .int .i64 ea, .int .i64 da, .int .i64 ca, .int .i64 fa] ?_; intro Fb hg w3 hbox hb; have aa := aM_ (hbox); have Mf := aM_ (gB_ hg HB.out); have Nf := aM_ (gB_ hg HB.out); replace HB := aM_ (below_step (bk_ HB.out) hb); clear hb hbox hg))
 (try simp only [Act.put, sA_, sB_, sC_])
 go_cut [3] (fun v3 wc => ∃ (kq : Nat) (Pa : Bool), v3 = .bool Pa ∧ Aside0 (database_CheckEntry.j0 kq Pa ja ka ha ba ga ea da ca fa = some r) ∧ Aside0 (kq ≤ k) ∧ Aside0 (wc.heap[Fb]? = some (.cells #[.string ja, .string ka, .int .u64 ha, .int .i64 ba, .int .i64 ga, .int .i64 ea, .int .i64 da, .int .i64 ca, .int .i64 fa] 35 (0, 0))) ∧ Aside0 (Below w.heap.size w wc))
 case first =>
  have H := Fc.out
  clear Fc
  replace H := Option.bind_eq_some_iff.mp H
  obtain ⟨Ja, Tc, H⟩ := H
  replace H : (if Ja = true then ((principal_ValidInstance.f k ka).bind fun qa => (database_CheckEntry.j0 k (!qa) ja ka ha ba ga ea da ca fa)) else (database_CheckEntry.j0 k true ja ka ha ba ga ea da ca fa)) = some r := H
  have A4 := aM_ Tc
  clear Tc
  by_cases c5 : Ja = true
  ·subst c5
   have H1 : ((principal_ValidInstance.f k ka).bind fun qa => (database_CheckEntry.j0 k (!qa) ja ka ha ba ga ea da ca fa)) = some r := by rw [if_pos rfl] at H; exact H
   clear H
   have H := H1
   clear H1
   replace H := Option.bind_eq_some_iff.mp H
   obtain ⟨qa, Uc, H⟩ := H
   replace H : (database_CheckEntry.j0 k (!qa) ja ka ha ba ga ea da ca fa) = some r := H
   have A6 := aM_ Uc
   clear Uc
   have H' := aM_ H
   clear H
   obtain ⟨Qa, Ra, Sa, Ta, Ua, Va, Wa, Xa, Ya⟩ := kC9_ aa.out
   obtain ⟨Za, ab, bb, cb, db, eb, fb, gb, ib⟩ := kZ9_ aa.out
   go_wp2_with (first | ((with_reducible refine gate_callee (f := 39) rfl ?_); refine gC_ (some 6) 39 #[.string ja] Tryd.func39 ?_; (with_reducible refine (principal_ValidName.calls k ja true _ A4.out).mono ?_); rintro e w' ⟨rfl, ⟨nd, rfl⟩⟩; refine ⟨_, rfl, ?_⟩) | (go_at_call 40; (with_reducible refine (principal_ValidInstance.calls k ka qa _ A6.out).mono ?_); rintro e w' ⟨rfl, ⟨nd, rfl⟩⟩))
   go_meet
   case rel => exact ⟨_, (!qa), rS_, H', ⟨by first | omega | exact Nat.le_refl _⟩, ⟨by refine bk_ ?_; exact aa.out⟩, ⟨hB_⟩⟩
  replace c5 := Bool.eq_false_iff.mpr c5
  subst c5
  have H1 : (database_CheckEntry.j0 k true ja ka ha ba ga ea da ca fa) = some r := by rw [if_neg (show ¬ (false = true) by decide)] at H; exact H
  clear H
  have H := H1
  clear H1
  have H' := aM_ H
  clear H
  obtain ⟨jb, kb, lb, mb, nb, ob, pb, qb, rb⟩ := kC9_ aa.out
  obtain ⟨sb, tb, ub, vb, wb, xb, yb, zb, Ab⟩ := kZ9_ aa.out
  go_wp2_with (first | ((with_reducible refine gate_callee (f := 39) rfl ?_); refine gC_ (some 6) 39 #[.string ja] Tryd.func39 ?_; (with_reducible refine (principal_ValidName.calls k ja false _ A4.out).mono ?_); rintro e w' ⟨rfl, ⟨nd, rfl⟩⟩; refine ⟨_, rfl, ?_⟩))
  go_meet
  case rel => exact ⟨_, (true), rS_, H', ⟨by first | omega | exact Nat.le_refl _⟩, ⟨by refine bk_ ?_; exact aa.out⟩, ⟨hB_⟩⟩
 case rest =>
  clear Fc
  try clear c1
  try clear p2
  try clear c3
  try clear c5
  try clear Qa
  try clear Ra
  try clear Sa
  try clear Ta
  try clear Ua
  try clear Va
  try clear Wa
  try clear Xa
  try clear Ya
  try clear jb
  try clear kb
  try clear lb
  try clear mb
  try clear nb
  try clear ob
  try clear pb
  try clear qb
  try clear rb
  try clear Za
  try clear ab
  try clear bb
  try clear cb
  try clear db
  try clear eb
  try clear fb
  try clear gb
  try clear ib
  try clear sb
  try clear tb
  try clear ub
  try clear vb
  try clear wb
  try clear xb
  try clear yb
  try clear zb
  try clear Ab
  obtain ⟨kq, Pa, rfl, HA, Vc, aa, HB⟩ := hcut
  cases kq with
  | zero => exact absurd HA.out (by simp [database_CheckEntry.j0])
  | succ Gb =>
   have H := HA.out
   clear HA
   simp only [database_CheckEntry.j0] at H
   by_cases c9 : Pa = true
   ·subst c9
    have H1 : (some 103) = some r := by rw [if_pos rfl] at H; exact H
    clear H
    have H := H1
    clear H1
    obtain rfl := Option.some.inj H
    go_wp2
    go_ret
    exact ⟨eW_, hB_⟩
   replace c9 := Bool.eq_false_iff.mpr c9
   subst c9
   have H1 : (if ha = 0 then (database_CheckEntry.j1 Gb false ja ka ha ba ga ea da ca fa) else ((key_Valid.f ha).bind fun Ba => (database_CheckEntry.j1 Gb (!Ba) ja ka ha ba ga ea da ca fa))) = some r := by rw [if_neg (show ¬ (false = true) by decide)] at H; exact H
   clear H
   have H := H1
   clear H1
   have Cb := aM_ H
   clear H
   go_upto_region 3 with (fail)
   go_cut [14] (fun Hf wc => ∃ (kq : Nat) (Ma : Bool), Hf = .bool Ma ∧ Aside0 (database_CheckEntry.j1 kq Ma ja ka ha ba ga ea da ca fa = some r) ∧ Aside0 (kq ≤ Gb) ∧ Aside0 (wc.heap[Fb]? = some (.cells #[.string ja, .string ka, .int .u64 ha, .int .i64 ba, .int .i64 ga, .int .i64 ea, .int .i64 da, .int .i64 ca, .int .i64 fa] 35 (0, 0))) ∧ Aside0 (Below w.heap.size w wc))
   case first =>
    have H := Cb.out
    clear Cb
    by_cases La : ha = 0
    ·rw [if_pos La] at H
     have Aa : (ha == 0) = true := beq_iff_eq.mpr La
     have Hb : (ha != 0) = false := bne_eq_false_iff_eq.mpr La
     clear La
     (first | rw [Aa] | (simp only [i64_w, i32_w]; rw [Aa]) | skip)
     have H' := aM_ H
     clear H
     obtain ⟨Rb, Sb, Tb, Ub, Vb, Wb, Xb, Yb, Zb⟩ := kC9_ aa.out
     obtain ⟨ac, bc, cc, dc, ec, fc, gc, hc, ic⟩ := kZ9_ aa.out
     go_wp2
     go_meet
     case rel => exact ⟨_, (false), rS_, H', ⟨by have := Vc.out; first | omega | exact Nat.le_refl _⟩, ⟨by refine bk_ ?_; exact aa.out⟩, ⟨hB_⟩⟩
    rw [if_neg La] at H
    have Aa : (ha == 0) = false := beq_eq_false_iff_ne.mpr La
    have Hb : (ha != 0) = true := bne_iff_ne.mpr La
    (first | rw [Aa] | (simp only [i64_w, i32_w]; rw [Aa]) | skip)
    replace H := Option.bind_eq_some_iff.mp H
    obtain ⟨Ba, Hc, H⟩ := H
    replace H : (database_CheckEntry.j1 Gb (!Ba) ja ka ha ba ga ea da ca fa) = some r := H
    have If := aM_ Hc
    clear Hc
    have H' := aM_ H
    clear H
    obtain ⟨jc, kc, lc, mc, nc, oc, pc, qc, rc⟩ := kC9_ aa.out
    obtain ⟨sc, tc, uc, vc, xc, yc, zc, Ac, Bc⟩ := kZ9_ aa.out
    go_wp2_with (first | (go_at_call 41; (with_reducible refine (key_Valid.calls ha Ba _ If.out).mono ?_); rintro e w' ⟨rfl, ⟨nd, rfl⟩⟩))
    go_meet
    case rel => exact ⟨_, (!Ba), rS_, H', ⟨by have := Vc.out; first | omega | exact Nat.le_refl _⟩, ⟨by refine bk_ ?_; exact aa.out⟩, ⟨hB_⟩⟩
   case rest =>
    clear Cb
    try clear c1
    try clear p2
    try clear c3
    try clear c5
    try clear c9
    try clear La
    try clear Aa
    try clear Hb
    try clear Vf
    try clear Rb
    try clear Sb
    try clear Tb
    try clear Ub
    try clear Vb
    try clear Wb
    try clear Xb
    try clear Yb
    try clear Zb
    try clear jc
    try clear kc
    try clear lc
    try clear mc
    try clear nc
    try clear oc
    try clear pc
    try clear qc
    try clear rc
    try clear Qa
    try clear Ra
    try clear Sa
    try clear Ta
    try clear Ua
    try clear Va
    try clear Wa
    try clear Xa
    try clear Ya
    try clear jb
    try clear kb
    try clear lb
    try clear mb
    try clear nb
    try clear ob
    try clear pb
    try clear qb
    try clear rb
    try clear ac
    try clear bc
    try clear cc
    try clear dc
    try clear ec
    try clear fc
    try clear gc
    try clear hc
    try clear ic
    try clear sc
    try clear tc
    try clear uc
    try clear vc
    try clear xc
    try clear yc
    try clear zc
    try clear Ac
    try clear Bc
    try clear Za
    try clear ab
    try clear bb
    try clear cb
    try clear db
    try clear eb
    try clear fb
    try clear gb
    try clear ib
    try clear sb
    try clear tb
    try clear ub
    try clear vb
    try clear wb
    try clear xb
    try clear yb
    try clear zb
    try clear Ab
    try clear p2
    obtain ⟨kq, Ma, rfl, HA, Wf, aa, HB⟩ := hcut
    cases kq with
    | zero => exact absurd HA.out (by simp [database_CheckEntry.j1])
    | succ Xf =>
     have H := HA.out
     clear HA
     simp only [database_CheckEntry.j1] at H
     by_cases Ib : Ma = true
     ·subst Ib
      have H1 : (some 10) = some r := by rw [if_pos rfl] at H; exact H
      clear H
      have H := H1
      clear H1
      obtain rfl := Option.some.inj H
      go_wp2
      go_ret
      exact ⟨eW_, hB_⟩
     replace Ib := Bool.eq_false_iff.mpr Ib
     subst Ib
     have H1 : ((database_outside.f ba 255).bind fun Ia => (if Ia = true then (some 104) else ((database_outside.f ga 4294967295).bind fun ra => (if ra = true then (some 104) else ((database_outside.f fa 4294967295).bind fun oa => (if oa = true then (some 104) else ((database_outside.f ea 255).bind fun na => (if na = true then (some 104) else ((database_outside.f da 3).bind fun la => (if la = true then (some 104) else ((database_outside.f ca 20).bind fun ia => (if ia = true then (some 104) else (some 0))))))))))))) = some r := by rw [if_neg (show ¬ (false = true) by decide)] at H; exact H
     clear H
     have H := H1
     clear H1
     replace H := Option.bind_eq_some_iff.mp H
     obtain ⟨Ia, Ic, H⟩ := H
     replace H : (if Ia = true then (some 104) else ((database_outside.f ga 4294967295).bind fun ra => (if ra = true then (some 104) else ((database_outside.f fa 4294967295).bind fun oa => (if oa = true then (some 104) else ((database_outside.f ea 255).bind fun na => (if na = true then (some 104) else ((database_outside.f da 3).bind fun la => (if la = true then (some 104) else ((database_outside.f ca 20).bind fun ia => (if ia = true then (some 104) else (some 0)))))))))))) = some r := H
     have Na := aM_ Ic
     clear Ic
     by_cases Jb : Ia = true
     ·subst Jb
      have H1 : (some 104) = some r := by rw [if_pos rfl] at H; exact H
      clear H
      have H := H1
      clear H1
      obtain rfl := Option.some.inj H
      obtain ⟨dd, ed, fd, gd, hd, id, jd, kd, ld⟩ := kC9_ aa.out
      obtain ⟨md, od, pd, qd, sd, td, ud, vd, wd⟩ := kZ9_ aa.out
      go_wp2_with (first | ((with_reducible refine gate_callee (f := 42) rfl ?_); refine gC_ (some 27) 42 #[.int .i64 ba, .int .i64 255] Tryd.func42 ?_; (with_reducible refine (database_outside.calls ba 255 true _ Na.out).mono ?_); rintro e w' ⟨rfl, ⟨nd, rfl⟩⟩; refine ⟨_, rfl, ?_⟩))
      go_ret
      exact ⟨eW_, hB_⟩
     replace Jb := Bool.eq_false_iff.mpr Jb
     subst Jb
     have H1 : ((database_outside.f ga 4294967295).bind fun ra => (if ra = true then (some 104) else ((database_outside.f fa 4294967295).bind fun oa => (if oa = true then (some 104) else ((database_outside.f ea 255).bind fun na => (if na = true then (some 104) else ((database_outside.f da 3).bind fun la => (if la = true then (some 104) else ((database_outside.f ca 20).bind fun ia => (if ia = true then (some 104) else (some 0))))))))))) = some r := by rw [if_neg (show ¬ (false = true) by decide)] at H; exact H
     clear H
     have H := H1
     clear H1
     replace H := Option.bind_eq_some_iff.mp H
     obtain ⟨ra, Jc, H⟩ := H
     replace H : (if ra = true then (some 104) else ((database_outside.f fa 4294967295).bind fun oa => (if oa = true then (some 104) else ((database_outside.f ea 255).bind fun na => (if na = true then (some 104) else ((database_outside.f da 3).bind fun la => (if la = true then (some 104) else ((database_outside.f ca 20).bind fun ia => (if ia = true then (some 104) else (some 0)))))))))) = some r := H
     have Oa := aM_ Jc
     clear Jc
     by_cases Kb : ra = true
     ·subst Kb
      have H1 : (some 104) = some r := by rw [if_pos rfl] at H; exact H
      clear H
      have H := H1
      clear H1
      obtain rfl := Option.some.inj H
      obtain ⟨xd, yd, zd, Ad, Bd, Cd, Dd, Ed, Fd⟩ := kC9_ aa.out
      obtain ⟨Gd, Hd, Id, Jd, Ld, Md, Nd, Od, Pd⟩ := kZ9_ aa.out
      go_wp2_with (first | ((with_reducible refine gate_callee (f := 42) rfl ?_); refine gC_ (some 27) 42 #[.int .i64 ba, .int .i64 255] Tryd.func42 ?_; (with_reducible refine (database_outside.calls ba 255 false _ Na.out).mono ?_); rintro e w' ⟨rfl, ⟨nd, rfl⟩⟩; refine ⟨_, rfl, ?_⟩) | (go_at_call 42; (with_reducible refine (database_outside.calls ga 4294967295 true _ Oa.out).mono ?_); rintro e w' ⟨rfl, ⟨nd, rfl⟩⟩))
      go_ret
      exact ⟨eW_, hB_⟩
     replace Kb := Bool.eq_false_iff.mpr Kb
     subst Kb
     have H1 : ((database_outside.f fa 4294967295).bind fun oa => (if oa = true then (some 104) else ((database_outside.f ea 255).bind fun na => (if na = true then (some 104) else ((database_outside.f da 3).bind fun la => (if la = true then (some 104) else ((database_outside.f ca 20).bind fun ia => (if ia = true then (some 104) else (some 0))))))))) = some r := by rw [if_neg (show ¬ (false = true) by decide)] at H; exact H
     clear H
     have H := H1
     clear H1
     replace H := Option.bind_eq_some_iff.mp H
     obtain ⟨oa, Kc, H⟩ := H
     replace H : (if oa = true then (some 104) else ((database_outside.f ea 255).bind fun na => (if na = true then (some 104) else ((database_outside.f da 3).bind fun la => (if la = true then (some 104) else ((database_outside.f ca 20).bind fun ia => (if ia = true then (some 104) else (some 0)))))))) = some r := H
     have Bb := aM_ Kc
     clear Kc
     by_cases Lb : oa = true
     ·subst Lb
      have H1 : (some 104) = some r := by rw [if_pos rfl] at H; exact H
      clear H
      have H := H1
      clear H1
      obtain rfl := Option.some.inj H
      obtain ⟨Qd, Rd, Sd, Td, Ud, Vd, Wd, Xd, Yd⟩ := kC9_ aa.out
      obtain ⟨Zd, ae, be, ce, de, ee, fe, ge, he⟩ := kZ9_ aa.out
      go_wp2_with (first | ((with_reducible refine gate_callee (f := 42) rfl ?_); refine gC_ (some 27) 42 #[.int .i64 ba, .int .i64 255] Tryd.func42 ?_; (with_reducible refine (database_outside.calls ba 255 false _ Na.out).mono ?_); rintro e w' ⟨rfl, ⟨nd, rfl⟩⟩; refine ⟨_, rfl, ?_⟩) | (go_at_call 42; (with_reducible refine (database_outside.calls ga 4294967295 false _ Oa.out).mono ?_); rintro e w' ⟨rfl, ⟨nd, rfl⟩⟩) | (go_at_call 42; (with_reducible refine (database_outside.calls fa 4294967295 true _ Bb.out).mono ?_); rintro e w' ⟨rfl, ⟨nd, rfl⟩⟩))
      go_ret
      exact ⟨eW_, hB_⟩
     replace Lb := Bool.eq_false_iff.mpr Lb
     subst Lb
     have H1 : ((database_outside.f ea 255).bind fun na => (if na = true then (some 104) else ((database_outside.f da 3).bind fun la => (if la = true then (some 104) else ((database_outside.f ca 20).bind fun ia => (if ia = true then (some 104) else (some 0))))))) = some r := by rw [if_neg (show ¬ (false = true) by decide)] at H; exact H
     clear H
     have H := H1
     clear H1
     replace H := Option.bind_eq_some_iff.mp H
     obtain ⟨na, Lc, H⟩ := H
     replace H : (if na = true then (some 104) else ((database_outside.f da 3).bind fun la => (if la = true then (some 104) else ((database_outside.f ca 20).bind fun ia => (if ia = true then (some 104) else (some 0)))))) = some r := H
     have Mb := aM_ Lc
     clear Lc
     by_cases Nb : na = true
     ·subst Nb
      have H1 : (some 104) = some r := by rw [if_pos rfl] at H; exact H
      clear H
      have H := H1
      clear H1
      obtain rfl := Option.some.inj H
      obtain ⟨ie, je, ke, le, me, ne, oe, pe, qe⟩ := kC9_ aa.out
      obtain ⟨re, se, te, ue, ve, we, xe, ye, ze⟩ := kZ9_ aa.out
      go_wp2_with (first | ((with_reducible refine gate_callee (f := 42) rfl ?_); refine gC_ (some 27) 42 #[.int .i64 ba, .int .i64 255] Tryd.func42 ?_; (with_reducible refine (database_outside.calls ba 255 false _ Na.out).mono ?_); rintro e w' ⟨rfl, ⟨nd, rfl⟩⟩; refine ⟨_, rfl, ?_⟩) | (go_at_call 42; (with_reducible refine (database_outside.calls ga 4294967295 false _ Oa.out).mono ?_); rintro e w' ⟨rfl, ⟨nd, rfl⟩⟩) | (go_at_call 42; (with_reducible refine (database_outside.calls fa 4294967295 false _ Bb.out).mono ?_); rintro e w' ⟨rfl, ⟨nd, rfl⟩⟩) | (go_at_call 42; (with_reducible refine (database_outside.calls ea 255 true _ Mb.out).mono ?_); rintro e w' ⟨rfl, ⟨nd, rfl⟩⟩))
      go_ret
      exact ⟨eW_, hB_⟩
     replace Nb := Bool.eq_false_iff.mpr Nb
     subst Nb
     have H1 : ((database_outside.f da 3).bind fun la => (if la = true then (some 104) else ((database_outside.f ca 20).bind fun ia => (if ia = true then (some 104) else (some 0))))) = some r := by rw [if_neg (show ¬ (false = true) by decide)] at H; exact H
     clear H
     have H := H1
     clear H1
     replace H := Option.bind_eq_some_iff.mp H
     obtain ⟨la, Mc, H⟩ := H
     replace H : (if la = true then (some 104) else ((database_outside.f ca 20).bind fun ia => (if ia = true then (some 104) else (some 0)))) = some r := H
     have Nc := aM_ Mc
     clear Mc
     by_cases Ob : la = true
     ·subst Ob
      have H1 : (some 104) = some r := by rw [if_pos rfl] at H; exact H
      clear H
      have H := H1
      clear H1
      obtain rfl := Option.some.inj H
      obtain ⟨Ae, Be, Ce, De, Ee, Fe, Ge, He, Ie⟩ := kC9_ aa.out
      obtain ⟨Je, Ke, Le, Me, Ne, Oe, Pe, Qe, Re⟩ := kZ9_ aa.out
      go_wp2_with (first | ((with_reducible refine gate_callee (f := 42) rfl ?_); refine gC_ (some 27) 42 #[.int .i64 ba, .int .i64 255] Tryd.func42 ?_; (with_reducible refine (database_outside.calls ba 255 false _ Na.out).mono ?_); rintro e w' ⟨rfl, ⟨nd, rfl⟩⟩; refine ⟨_, rfl, ?_⟩) | (go_at_call 42; (with_reducible refine (database_outside.calls ga 4294967295 false _ Oa.out).mono ?_); rintro e w' ⟨rfl, ⟨nd, rfl⟩⟩) | (go_at_call 42; (with_reducible refine (database_outside.calls fa 4294967295 false _ Bb.out).mono ?_); rintro e w' ⟨rfl, ⟨nd, rfl⟩⟩) | (go_at_call 42; (with_reducible refine (database_outside.calls ea 255 false _ Mb.out).mono ?_); rintro e w' ⟨rfl, ⟨nd, rfl⟩⟩) | (go_at_call 42; (with_reducible refine (database_outside.calls da 3 true _ Nc.out).mono ?_); rintro e w' ⟨rfl, ⟨nd, rfl⟩⟩))
      go_ret
      exact ⟨eW_, hB_⟩
     replace Ob := Bool.eq_false_iff.mpr Ob
     subst Ob
     have H1 : ((database_outside.f ca 20).bind fun ia => (if ia = true then (some 104) else (some 0))) = some r := by rw [if_neg (show ¬ (false = true) by decide)] at H; exact H
     clear H
     have H := H1
     clear H1
     replace H := Option.bind_eq_some_iff.mp H
     obtain ⟨ia, Oc, H⟩ := H
     replace H : (if ia = true then (some 104) else (some 0)) = some r := H
     have Wc := aM_ Oc
     clear Oc
     by_cases Pb : ia = true
     ·subst Pb
      have H1 : (some 104) = some r := by rw [if_pos rfl] at H; exact H
      clear H
      have H := H1
      clear H1
      obtain rfl := Option.some.inj H
      obtain ⟨Se, Te, Ue, Ve, We, Xe, Ye, Ze, af⟩ := kC9_ aa.out
      obtain ⟨bf, cf, df, ef, ff, gf, hf, jf, kf⟩ := kZ9_ aa.out
      go_wp2_with (first | ((with_reducible refine gate_callee (f := 42) rfl ?_); refine gC_ (some 27) 42 #[.int .i64 ba, .int .i64 255] Tryd.func42 ?_; (with_reducible refine (database_outside.calls ba 255 false _ Na.out).mono ?_); rintro e w' ⟨rfl, ⟨nd, rfl⟩⟩; refine ⟨_, rfl, ?_⟩) | (go_at_call 42; (with_reducible refine (database_outside.calls ga 4294967295 false _ Oa.out).mono ?_); rintro e w' ⟨rfl, ⟨nd, rfl⟩⟩) | (go_at_call 42; (with_reducible refine (database_outside.calls fa 4294967295 false _ Bb.out).mono ?_); rintro e w' ⟨rfl, ⟨nd, rfl⟩⟩) | (go_at_call 42; (with_reducible refine (database_outside.calls ea 255 false _ Mb.out).mono ?_); rintro e w' ⟨rfl, ⟨nd, rfl⟩⟩) | (go_at_call 42; (with_reducible refine (database_outside.calls da 3 false _ Nc.out).mono ?_); rintro e w' ⟨rfl, ⟨nd, rfl⟩⟩) | (go_at_call 42; (with_reducible refine (database_outside.calls ca 20 true _ Wc.out).mono ?_); rintro e w' ⟨rfl, ⟨nd, rfl⟩⟩))
      go_ret
      exact ⟨eW_, hB_⟩
     replace Pb := Bool.eq_false_iff.mpr Pb
     subst Pb
     have H1 : (some 0) = some r := by rw [if_neg (show ¬ (false = true) by decide)] at H; exact H
     clear H
     have H := H1
     clear H1
     obtain rfl := Option.some.inj H
     obtain ⟨lf, mf, nf, pf, qf, rf, sf, tf, uf⟩ := kC9_ aa.out
     obtain ⟨vf, wf, xf, yf, zf, Af, Bf, Cf, Df⟩ := kZ9_ aa.out
     go_wp2_with (first | ((with_reducible refine gate_callee (f := 42) rfl ?_); refine gC_ (some 27) 42 #[.int .i64 ba, .int .i64 255] Tryd.func42 ?_; (with_reducible refine (database_outside.calls ba 255 false _ Na.out).mono ?_); rintro e w' ⟨rfl, ⟨nd, rfl⟩⟩; refine ⟨_, rfl, ?_⟩) | (go_at_call 42; (with_reducible refine (database_outside.calls ga 4294967295 false _ Oa.out).mono ?_); rintro e w' ⟨rfl, ⟨nd, rfl⟩⟩) | (go_at_call 42; (with_reducible refine (database_outside.calls fa 4294967295 false _ Bb.out).mono ?_); rintro e w' ⟨rfl, ⟨nd, rfl⟩⟩) | (go_at_call 42; (with_reducible refine (database_outside.calls ea 255 false _ Mb.out).mono ?_); rintro e w' ⟨rfl, ⟨nd, rfl⟩⟩) | (go_at_call 42; (with_reducible refine (database_outside.calls da 3 false _ Nc.out).mono ?_); rintro e w' ⟨rfl, ⟨nd, rfl⟩⟩) | (go_at_call 42; (with_reducible refine (database_outside.calls ca 20 false _ Wc.out).mono ?_); rintro e w' ⟨rfl, ⟨nd, rfl⟩⟩))
     go_ret
     exact ⟨eW_, hB_⟩

/-! ### principal_ValidRealm: function 35 -/
def principal_ValidRealm.f (k : Nat) (a0 : ByteArray) : Option (Bool) := if a0.toList = ([] : List UInt8) then (some false) else ((principal_printable.f k a0 (⟨#[64]⟩ : ByteArray)).bind fun Ka => (some Ka))
set_option maxHeartbeats 8000000 in
set_option maxRecDepth 100000 in
theorem principal_ValidRealm.calls (k : Nat) (a0 : ByteArray) (r : Bool) (w : World) (h : principal_ValidRealm.f k a0 = some r) :
  Calls Tryd.prog 35 #[.string a0] w fun e w' => e = .returned (.bool r) ∧ Drawn0 w w' := by
 have H : (if a0.toList = ([] : List UInt8) then (some false) else ((principal_printable.f k a0 (⟨#[64]⟩ : ByteArray)).bind fun Ka => (some Ka))) = some r := h
 clear h
 by_cases c2 : a0.toList = ([] : List UInt8)
 ·rw [if_pos c2] at H
  have Db : (a0.toList == ([] : List UInt8)) = true := beq_iff_eq.mpr c2
  have ad : (a0.toList != ([] : List UInt8)) = false := bne_eq_false_iff_eq.mpr c2
  clear c2
  obtain rfl := Option.some.inj H
  go_enter Tryd.func35, Tryd.ntmps35
  go_wp2
  go_ret
  exact ⟨by first | rfl | (simp; done) | (simp [*]; done), by repeat (first | exact Drawn0.refl _ | apply Drawn0.step)⟩
 rw [if_neg c2] at H
 have Db : (a0.toList == ([] : List UInt8)) = false := beq_eq_false_iff_ne.mpr c2
 have ad : (a0.toList != ([] : List UInt8)) = true := bne_iff_ne.mpr c2
 replace H := Option.bind_eq_some_iff.mp H
 obtain ⟨Ka, Xc, H⟩ := H
 replace H : (some Ka) = some r := H
 have A3 := aM_ Xc
 clear Xc
 obtain rfl := Option.some.inj H
 go_enter Tryd.func35, Tryd.ntmps35
 go_wp2_with (first | (go_at_call 59; (with_reducible refine (principal_printable.calls k a0 (⟨#[64]⟩ : ByteArray) Ka _ A3.out).mono ?_); rintro e w' ⟨rfl, ⟨nd, rfl⟩⟩))
 go_ret
 exact ⟨by first | rfl | (simp; done) | (simp [*]; done), by repeat (first | exact Drawn0.refl _ | apply Drawn0.step)⟩

/-! ### cmp_Or_int: function 60 -/
def cmp_Or_int.l0 : Nat → Int → List Int → Int → Int → Option (Int)
 | 0, _, _, _, _ => none
 | k + 1, x3, x6, x7, x8 => if x8 < x7 then (if 0 ≤ x8 then (if x8 < (x6.length : Int) then (if (rd x6 x8) = x3 then (cmp_Or_int.l0 k x3 x6 x7 (wrap64 (x8 + 1))) else (some (rd x6 x8))) else (none)) else (none)) else (some x3)
def cmp_Or_int.f (k : Nat) (l0 : List Int) : Option (Int) := cmp_Or_int.l0 k 0 l0 (l0.length : Int) 0
set_option maxHeartbeats 8000000 in
set_option maxRecDepth 100000 in
theorem cmp_Or_int.calls (k : Nat) (A0 : Option Addr) (c0 : Nat) (l0 : List Int) (r : Int) (w : World) (hr0 : Kd.C (Kd.int .i64) w A0 l0.length l0) (hc0 : l0.length ≤ c0) (h : cmp_Or_int.f k l0 = some r) :
  Calls Tryd.prog 60 #[.slice A0 l0.length c0] w fun e w' => e = .returned (.int .i64 r) ∧ Drawn0 w w' := by
 have Yc := aM_ hr0
 have Yf := aM_ hc0
 clear hr0 hc0
 have H : (cmp_Or_int.l0 k 0 l0 (l0.length : Int) 0) = some r := h
 clear h
 have H' := aM_ H
 clear H
 go_enter Tryd.func60, Tryd.ntmps60
 go_wp2
 go_loopg [8] k (fun kq v8 w' => ∃ (ma : Int), v8 = .int .i64 ma ∧ Aside0 (cmp_Or_int.l0 kq 0 l0 (l0.length : Int) ma = some r) ∧ Aside0 (kq ≤ k) ∧ Drawn0 w w')
 case atStart => exact ⟨(0), rS_, H', ⟨Nat.le_refl _⟩, by repeat (first | exact Drawn0.refl _ | apply Drawn0.step)⟩
 case round =>
  clear H'
  obtain ⟨ma, rfl, HA, Zc, ⟨m1, rfl⟩⟩ := hrel
  cases gk with
  | zero => exact absurd HA.out (by simp [cmp_Or_int.l0])
  | succ k1 =>
   have H := HA.out
   clear HA
   simp only [cmp_Or_int.l0] at H
   by_cases c2 : ma < (l0.length : Int)
   rotate_left
   ·rw [if_neg c2] at H
    have Db : decide (ma < (l0.length : Int)) = false := decide_eq_false c2
    clear c2
    obtain rfl := Option.some.inj H
    go_wp2
    go_ret
    exact ⟨by first | rfl | (simp; done) | (simp [*]; done), by repeat (first | exact Drawn0.refl _ | apply Drawn0.step)⟩
   rw [if_pos c2] at H
   have Db : decide (ma < (l0.length : Int)) = true := decide_eq_true c2
   clear c2
   by_cases c3 : 0 ≤ ma
   rotate_left
   ·rw [if_neg c3] at H
    exact absurd H (by simp)
   rw [if_pos c3] at H
   have Tf : decide (0 ≤ ma) = true := decide_eq_true c3
   clear c3
   by_cases c4 : ma < (l0.length : Int)
   rotate_left
   ·rw [if_neg c4] at H
    exact absurd H (by simp)
   rw [if_pos c4] at H
   have Uf : decide (ma < (l0.length : Int)) = true := decide_eq_true c4
   clear c4
   by_cases c5 : (rd l0 ma) = 0
   ·rw [if_pos c5] at H
    have bd : ((rd l0 ma) == 0) = true := beq_iff_eq.mpr c5
    have cd : ((rd l0 ma) != 0) = false := bne_eq_false_iff_eq.mpr c5
    clear c5
    have H' := aM_ H
    clear H
    have Ca : 0 ≤ (ma : Int) := dT_
    have Da : ma < (l0.length : Int) := dT_
    obtain ⟨Sc, Eb, Dc⟩ := Kd.at_int Yc.out ma Ca Da
    cases Eb
    replace Ca := eq_true Ca
    replace Da := eq_true Da
    go_wp2
    go_roundg k1
    case measure => have := Zc.out; omega
    case rel => exact ⟨(wrap64 (ma + 1)), rS_, H', ⟨by have := Zc.out; omega⟩, by repeat (first | exact Drawn0.refl _ | apply Drawn0.step)⟩
   rw [if_neg c5] at H
   have bd : ((rd l0 ma) == 0) = false := beq_eq_false_iff_ne.mpr c5
   have cd : ((rd l0 ma) != 0) = true := bne_iff_ne.mpr c5
   obtain rfl := Option.some.inj H
   have Ca : 0 ≤ (ma : Int) := dT_
   have Da : ma < (l0.length : Int) := dT_
   obtain ⟨Sc, Eb, Dc⟩ := Kd.at_int Yc.out ma Ca Da
   cases Eb
   replace Ca := eq_true Ca
   replace Da := eq_true Da
   go_wp2
   go_ret
   exact ⟨by first | rfl | (simp; done) | (simp [*]; done), by repeat (first | exact Drawn0.refl _ | apply Drawn0.step)⟩

/-! ### strings_Compare: function 61 -/
def strings_Compare.f (a0 : ByteArray) (a1 : ByteArray) : Option (Int) := some (Lib.compareBytes a0.data.toList a1.data.toList)
theorem strings_Compare.calls (a0 : ByteArray) (a1 : ByteArray) (r : Int) (w : World) (h : strings_Compare.f a0 a1 = some r) :
  Calls Tryd.prog 61 #[.string a0, .string a1] w fun e w' => e = .returned (.int .i64 r) ∧ Drawn0 w w' := by
 obtain rfl := Option.some.inj h
 exact (Tryd.strings_Compare a0 a1 w).mono fun e w' ⟨h1, h2⟩ => ⟨h1, by rw [h2]; exact Drawn0.refl _⟩

end Go.Proofs.YthfdfoigoomaoaaDoor.PDb
