/- The walks of functions of the translation: each call returns what the plain function beside it says. -/
import Derived.Test.YthfdfoigoomaoaaDoorPDbx0
namespace Go.Proofs.YthfdfoigoomaoaaDoor.PDb
open Go.RowKit Go.Proofs.YthfdfoigoomaoaaDoorW.PrintWords Go.Proofs.YthfdfoigoomaoaaDoorW.PrintLast Go.Proofs.YthfdfoigoomaoaaDoorW.PrintMore Go.Proofs.YthfdfoigoomaoaaDoor.Aid
attribute [local go_sem] max2_int min2_int max_two min_two max_three min_three max_four min_four aid_str_gtr aid_str_leq   -- for this text's walks alone
set_option linter.unusedVariables false
set_option linter.unusedSimpArgs false

/-! ### kerbsuitedata_Long: function 13 -/
def kerbsuitedata_Long.f (a0 : Int) : Option (Int) := some (Go.bits .or .u64 72057594037927936 (IntKind.u64.wrap (wrap64 (1 + a0))))
set_option maxHeartbeats 8000000 in
set_option maxRecDepth 100000 in
theorem kerbsuitedata_Long.calls (a0 : Int) (r : Int) (w : World) (h : kerbsuitedata_Long.f a0 = some r) :
  Calls Tryd.prog 13 #[.int .i64 a0] w fun e w' => e = .returned (.int .u64 r) ∧ Drawn0 w w' := by
 have H : (some (Go.bits .or .u64 72057594037927936 (IntKind.u64.wrap (wrap64 (1 + a0))))) = some r := h
 clear h
 obtain rfl := Option.some.inj H
 go_enter Tryd.func13, Tryd.ntmps13
 go_wp2
 go_ret
 exact ⟨by first | rfl | (simp; done) | (simp [*]; done), by repeat (first | exact Drawn0.refl _ | apply Drawn0.step)⟩

/-! ### database_Find: function 18 -/
mutual
def database_Find.l0 : Nat → ByteArray → ByteArray → Int → List (S35) → Int → Int → Option (Int × Int)
 | 0, _, _, _, _, _, _ => none
 | k + 1, x1, x2, x8, Ha, Va, ma => if ma < Va then (if 0 ≤ ma then (if ma < (Ha.length : Int) then (if ((rd_T35 Ha ma).f0).toList = x1.toList then (database_Find.j1 k x1 x2 x8 ma Ha Va ma (((rd_T35 Ha ma).f1).toList != x2.toList)) else (database_Find.j1 k x1 x2 x8 ma Ha Va ma true)) else (none)) else (none)) else (if x8 < 0 then (some (0, 8)) else (some (x8, 0)))
def database_Find.j1 : Nat → ByteArray → ByteArray → Int → Int → List (S35) → Int → Int → Bool → Option (Int × Int)
 | 0, _, _, _, _, _, _, _, _ => none
 | k + 1, x1, x2, x8, x9, Ha, Va, ma, cd => if cd = true then (database_Find.l0 k x1 x2 x8 Ha Va (wrap64 (ma + 1))) else (if x8 ≥ 0 then (some (0, 9)) else (database_Find.l0 k x1 x2 x9 Ha Va (wrap64 (ma + 1))))
end
def database_Find.f (k : Nat) (ua : ByteArray) (da : List (S35)) (a1 : ByteArray) (a2 : ByteArray) : Option (Int × Int) := database_Find.l0 k a1 a2 (-1) da (da.length : Int) 0
set_option maxHeartbeats 8000000 in
set_option maxRecDepth 100000 in
theorem database_Find.calls (k : Nat) (ua : ByteArray) (cb : Option Addr) (Ma : Nat) (da : List (S35)) (a1 : ByteArray) (a2 : ByteArray) (r1 : Int) (r2 : Int) (w : World) (hr0_1 : Kd.C k35 w cb da.length da) (hc0_1 : da.length ≤ Ma) (h : database_Find.f k ua da a1 a2 = some (r1, r2)) :
  Calls Tryd.prog 18 #[.agg #[.string ua, .slice cb da.length Ma], .string a1, .string a2] w fun e w' => e = .returned (.tuple #[.int .i64 r1, .int .i64 r2]) ∧ Below w.heap.size w w' := by
 have hu24 := Tryd.underlying24
 have hu35 := Tryd.underlying35
 have Lc := aM_ hr0_1
 have gd := aM_ hc0_1
 clear hr0_1 hc0_1
 have HB := aM_ (Below.refl w.heap.size w)
 have H : (database_Find.l0 k a1 a2 (-1) da (da.length : Int) 0) = some (r1, r2) := h
 clear h
 have H' := aM_ H
 clear H
 go_enter Tryd.func18, Tryd.ntmps18
 go_wp2_with (first | ((with_reducible refine gate_dst (N := 3) rfl ?_); refine bE_ 3 24 #[.string ua, .slice cb da.length Ma] ?_; intro tb hg w4 hbox hb; have fa := aM_ (hbox); have hd := aM_ (gB_ hg HB.out); have id := aM_ (gB_ hg HB.out); replace HB := aM_ (below_step (bk_ HB.out) hb); clear hb hbox hg; obtain ⟨jb, kb⟩ := kC2_ fa.out; obtain ⟨lb, mb⟩ := kZ2_ fa.out))
 go_loopg [8, 14] k (fun kq v8 dd w' => ∃ (ba : Int) (ca : Int), v8 = .int .i64 ba ∧ dd = .int .i64 ca ∧ Aside0 (database_Find.l0 kq a1 a2 ba da (da.length : Int) ca = some (r1, r2)) ∧ Aside0 (kq ≤ k) ∧ Aside0 (w'.heap[tb]? = some (.cells #[.string ua, (.slice cb da.length Ma)] 24 (0, 0))) ∧ Aside0 (Below w.heap.size w w'))
 case atStart => exact ⟨((-1)), (0), rS_, rS_, H', ⟨Nat.le_refl _⟩, ⟨by refine bk_ ?_; exact fa.out⟩, ⟨hB_⟩⟩
 case round =>
  clear H'
  try clear c1
  try clear p2
  try clear jb
  try clear kb
  try clear lb
  try clear mb
  obtain ⟨ba, ca, rfl, rfl, HA, ta, fa, HB⟩ := hrel
  cases gk with
  | zero => exact absurd HA.out (by simp [database_Find.l0])
  | succ k1 =>
   have H := HA.out
   clear HA
   simp only [database_Find.l0] at H
   by_cases c6 : ca < (da.length : Int)
   rotate_left
   ·rw [if_neg c6] at H
    have db : decide (ca < (da.length : Int)) = false := decide_eq_false c6
    clear c6
    by_cases Wa : ba < 0
    ·rw [if_pos Wa] at H
     have Mc : decide (ba < 0) = true := decide_eq_true Wa
     clear Wa
     simp only [Option.some.injEq, Prod.mk.injEq] at H
     obtain ⟨rfl, rfl⟩ := H
     go_wp2
     go_ret2
     exact ⟨eW_, hB_⟩
    rw [if_neg Wa] at H
    have Mc : decide (ba < 0) = false := decide_eq_false Wa
    clear Wa
    simp only [Option.some.injEq, Prod.mk.injEq] at H
    obtain ⟨rfl, rfl⟩ := H
    go_wp2
    go_ret2
    exact ⟨eW_, hB_⟩
   rw [if_pos c6] at H
   have db : decide (ca < (da.length : Int)) = true := decide_eq_true c6
   clear c6
   by_cases c7 : 0 ≤ ca
   rotate_left
   ·rw [if_neg c7] at H
    exact absurd H (by simp)
   rw [if_pos c7] at H
   have Pa : decide (0 ≤ ca) = true := decide_eq_true c7
   clear c7
   by_cases c8 : ca < (da.length : Int)
   rotate_left
   ·rw [if_neg c8] at H
    exact absurd H (by simp)
   rw [if_pos c8] at H
   have qb : decide (ca < (da.length : Int)) = true := decide_eq_true c8
   clear c8
   have Ec := aM_ H
   clear H
   have eb : 0 ≤ (ca : Int) := dT_
   have fb : ca < (da.length : Int) := dT_
   obtain ⟨Nc, Wc, va, wa, xa, ya, za, Aa, Ba, Ca, Da⟩ := at_T35 Lc.out ca eb fb
   cases Wc
   replace va := cH_ HB.out va
   replace wa := cH_ HB.out wa
   replace xa := cH_ HB.out xa
   replace ya := cH_ HB.out ya
   replace za := cH_ HB.out za
   replace Aa := cH_ HB.out Aa
   replace Ba := cH_ HB.out Ba
   replace Ca := cH_ HB.out Ca
   replace Da := cH_ HB.out Da
   replace eb := eq_true eb
   replace fb := eq_true fb
   go_upto_region 5 with (first | ((with_reducible refine gate_dst (N := 10) rfl ?_); refine bE_ 10 35 #[.string (⟨#[]⟩ : ByteArray), .string (⟨#[]⟩ : ByteArray), .int .u64 0, .int .i64 0, .int .i64 0, .int .i64 0, .int .i64 0, .int .i64 0, .int .i64 0] ?_; intro Oc hg ud hbox hb; have ha := aM_ (hbox); have jd := aM_ (gB_ hg HB.out); have kd := aM_ (gB_ hg HB.out); replace HB := aM_ (below_step hB_ hb); have ga := aM_ (nL_ hg fa.out); have na := aM_ (nG_ hg fa.out); replace fa := aM_ (kG_ fa.out hb); clear hb hbox hg; have ld := na.out; have md := ga.out; obtain ⟨zb, Ab, Bb, Cb, Db, Eb, Fb, Gb, Hb⟩ := kC9_ ha.out; obtain ⟨Ib, Jb, Kb, Lb, Mb, Nb, Ob, Pb, Qb⟩ := kZ9_ ha.out))
   (try simp only [Act.put, sA_, sB_, sC_])
   go_cut [28] (fun ed wc => ∃ (kq : Nat) (La : Bool), ed = .bool La ∧ Aside0 (database_Find.j1 kq a1 a2 ba ca da (da.length : Int) ca La = some (r1, r2)) ∧ Aside0 (kq ≤ k1) ∧ Aside0 (wc.heap[tb]? = some (.cells #[.string ua, (.slice (some Nc) da.length Ma)] 24 (0, 0))) ∧ Aside0 (wc.heap[Oc]? = some (.cells #[.string ((rd_T35 da ca).f0), .string ((rd_T35 da ca).f1), .int .u64 ((rd_T35 da ca).f2), .int .i64 ((rd_T35 da ca).f3), .int .i64 ((rd_T35 da ca).f4), .int .i64 ((rd_T35 da ca).f5), .int .i64 ((rd_T35 da ca).f6), .int .i64 ((rd_T35 da ca).f7), .int .i64 ((rd_T35 da ca).f8)] 35 (0, 0))) ∧ Aside0 (Below w.heap.size w wc))
   case first =>
    have H := Ec.out
    clear Ec
    by_cases Ia : ((rd_T35 da ca).f0).toList = a1.toList
    ·rw [if_pos Ia] at H
     have pa : (((rd_T35 da ca).f0).toList == a1.toList) = true := beq_iff_eq.mpr Ia
     have ub : (((rd_T35 da ca).f0).toList != a1.toList) = false := bne_eq_false_iff_eq.mpr Ia
     clear Ia
     (first | rw [pa] | (simp only [i64_w, i32_w]; rw [pa]) | skip)
     have H' := aM_ H
     clear H
     have od := na.out
     have pd := ga.out
     obtain ⟨Rb, Sb, Tb, Ub, Vb, Wb, Xb, Yb, Zb⟩ := kC9_ ha.out
     obtain ⟨ac, bc, cc, dc, ec, fc, gc, hc, ic⟩ := kZ9_ ha.out
     go_wp2
     go_meet
     case rel => exact ⟨_, ((((rd_T35 da ca).f1).toList != a2.toList)), rS_, H', ⟨by have := ta.out; first | omega | exact Nat.le_refl _⟩, ⟨by exact far_ ga.out fa.out⟩, ⟨by exact puts_ ha.out⟩, ⟨hB_⟩⟩
    rw [if_neg Ia] at H
    have pa : (((rd_T35 da ca).f0).toList == a1.toList) = false := beq_eq_false_iff_ne.mpr Ia
    have ub : (((rd_T35 da ca).f0).toList != a1.toList) = true := bne_iff_ne.mpr Ia
    (first | rw [pa] | (simp only [i64_w, i32_w]; rw [pa]) | skip)
    have H' := aM_ H
    clear H
    have qd := na.out
    have rd := ga.out
    obtain ⟨jc, kc, lc, mc, nc, oc, pc, qc, rc⟩ := kC9_ ha.out
    obtain ⟨sc, tc, uc, vc, xc, yc, zc, Ac, Bc⟩ := kZ9_ ha.out
    go_wp2
    go_meet
    case rel => exact ⟨_, (true), rS_, H', ⟨by have := ta.out; first | omega | exact Nat.le_refl _⟩, ⟨by exact far_ ga.out fa.out⟩, ⟨by exact puts_ ha.out⟩, ⟨hB_⟩⟩
   case rest =>
    clear Ec
    try clear c1
    try clear p1
    try clear q1
    try clear vd
    try clear p2
    try clear c6
    try clear db
    try clear c7
    try clear Pa
    try clear c8
    try clear qb
    try clear Xa
    try clear Ya
    try clear Fc
    try clear wd
    try clear Ia
    try clear pa
    try clear ub
    try clear xd
    try clear yd
    try clear zb
    try clear Ab
    try clear Bb
    try clear Cb
    try clear Db
    try clear Eb
    try clear Fb
    try clear Gb
    try clear Hb
    try clear Rb
    try clear Sb
    try clear Tb
    try clear Ub
    try clear Vb
    try clear Wb
    try clear Xb
    try clear Yb
    try clear Zb
    try clear jc
    try clear kc
    try clear lc
    try clear mc
    try clear nc
    try clear oc
    try clear pc
    try clear qc
    try clear rc
    try clear jb
    try clear kb
    try clear Ib
    try clear Jb
    try clear Kb
    try clear Lb
    try clear Mb
    try clear Nb
    try clear Ob
    try clear Pb
    try clear Qb
    try clear ac
    try clear bc
    try clear cc
    try clear dc
    try clear ec
    try clear fc
    try clear gc
    try clear hc
    try clear ic
    try clear sc
    try clear tc
    try clear uc
    try clear vc
    try clear xc
    try clear yc
    try clear zc
    try clear Ac
    try clear Bc
    try clear lb
    try clear mb
    try clear va
    try clear wa
    try clear xa
    try clear ya
    try clear za
    try clear Aa
    try clear Ba
    try clear Ca
    try clear Da
    try clear eb
    try clear p2
    try clear fb
    obtain ⟨kq, La, rfl, HA, vb, fa, ha, HB⟩ := hcut
    cases kq with
    | zero => exact absurd HA.out (by simp [database_Find.j1])
    | succ wb =>
     have H := HA.out
     clear HA
     simp only [database_Find.j1] at H
     by_cases xb : La = true
     ·subst xb
      have H1 : (database_Find.l0 wb a1 a2 ba da (da.length : Int) (wrap64 (ca + 1))) = some (r1, r2) := by rw [if_pos rfl] at H; exact H
      clear H
      have H := H1
      clear H1
      have H' := aM_ H
      clear H
      go_wp2
      go_roundg wb
      case measure => have := ta.out; have := vb.out; omega
      case rel => exact ⟨(ba), (wrap64 (ca + 1)), rS_, rS_, H', ⟨by have := ta.out; have := vb.out; omega⟩, ⟨by refine bk_ ?_; exact fa.out⟩, ⟨hB_⟩⟩
     replace xb := Bool.eq_false_iff.mpr xb
     subst xb
     have H1 : (if ba ≥ 0 then (some (0, 9)) else (database_Find.l0 wb a1 a2 ca da (da.length : Int) (wrap64 (ca + 1)))) = some (r1, r2) := by rw [if_neg (show ¬ (false = true) by decide)] at H; exact H
     clear H
     have H := H1
     clear H1
     by_cases Za : ba ≥ 0
     ·rw [if_pos Za] at H
      have Pc : decide (0 ≤ ba) = true := decide_eq_true Za
      clear Za
      simp only [Option.some.injEq, Prod.mk.injEq] at H
      obtain ⟨rfl, rfl⟩ := H
      go_wp2
      go_ret2
      exact ⟨eW_, hB_⟩
     rw [if_neg Za] at H
     have Pc : decide (0 ≤ ba) = false := decide_eq_false Za
     clear Za
     have H' := aM_ H
     clear H
     go_wp2
     go_roundg wb
     case measure => have := ta.out; have := vb.out; omega
     case rel => exact ⟨(ca), (wrap64 (ca + 1)), rS_, rS_, H', ⟨by have := ta.out; have := vb.out; omega⟩, ⟨by refine bk_ ?_; exact fa.out⟩, ⟨hB_⟩⟩

/-! ### strings_IndexByte: function 71 -/
def strings_IndexByte.f (a0 : ByteArray) (a1 : Int) : Option (Int) := some (Lib.indexByte a0.data.toList a1.toNat.toUInt8)
theorem strings_IndexByte.calls (a0 : ByteArray) (a1 : Int) (r : Int) (w : World) (h : strings_IndexByte.f a0 a1 = some r) :
  Calls Tryd.prog 71 #[.string a0, .int .u8 a1] w fun e w' => e = .returned (.int .i64 r) ∧ Drawn0 w w' := by
 obtain rfl := Option.some.inj h
 exact (Tryd.strings_IndexByte a0 a1 w).mono fun e w' ⟨h1, h2⟩ => ⟨h1, by rw [h2]; exact Drawn0.refl _⟩

/-! ### principal_printable: function 59 -/
def principal_printable.l0 : Nat → ByteArray → ByteArray → Int → Int → Option (Bool)
 | 0, _, _, _, _ => none
 | k + 1, x0, x1, x7, x8 => if x8 < x7 then (if 0 ≤ x8 then (if x8 < (x0.size : Int) then (if (bt x0 x8) < 33 then (some false) else (if (bt x0 x8) > 126 then (some false) else ((strings_IndexByte.f x1 (bt x0 x8)).bind fun oa => (if oa ≥ 0 then (some false) else (principal_printable.l0 k x0 x1 x7 (wrap64 (x8 + 1))))))) else (none)) else (none)) else (some (decide ((x0.size : Int) ≤ 39)))
def principal_printable.f (k : Nat) (a0 : ByteArray) (a1 : ByteArray) : Option (Bool) := principal_printable.l0 k a0 a1 (a0.size : Int) 0
set_option maxHeartbeats 8000000 in
set_option maxRecDepth 100000 in
theorem principal_printable.calls (k : Nat) (a0 : ByteArray) (a1 : ByteArray) (r : Bool) (w : World) (h : principal_printable.f k a0 a1 = some r) :
  Calls Tryd.prog 59 #[.string a0, .string a1] w fun e w' => e = .returned (.bool r) ∧ Drawn0 w w' := by
 have H : (principal_printable.l0 k a0 a1 (a0.size : Int) 0) = some r := h
 clear h
 have H' := aM_ H
 clear H
 go_enter Tryd.func59, Tryd.ntmps59
 go_wp2
 go_loopg [8] k (fun kq v8 w' => ∃ (ba : Int), v8 = .int .i64 ba ∧ Aside0 (principal_printable.l0 kq a0 a1 (a0.size : Int) ba = some r) ∧ Aside0 (kq ≤ k) ∧ Drawn0 w w')
 case atStart => exact ⟨(0), rS_, H', ⟨Nat.le_refl _⟩, by repeat (first | exact Drawn0.refl _ | apply Drawn0.step)⟩
 case round =>
  clear H'
  try clear p2
  obtain ⟨ba, rfl, HA, ta, ⟨m1, rfl⟩⟩ := hrel
  cases gk with
  | zero => exact absurd HA.out (by simp [principal_printable.l0])
  | succ k1 =>
   have H := HA.out
   clear HA
   simp only [principal_printable.l0] at H
   by_cases c3 : ba < (a0.size : Int)
   rotate_left
   ·rw [if_neg c3] at H
    have Qa : decide (ba < (a0.size : Int)) = false := decide_eq_false c3
    clear c3
    obtain rfl := Option.some.inj H
    go_wp2
    go_ret
    exact ⟨by first | rfl | (simp; done) | (simp [*]; done), by repeat (first | exact Drawn0.refl _ | apply Drawn0.step)⟩
   rw [if_pos c3] at H
   have Qa : decide (ba < (a0.size : Int)) = true := decide_eq_true c3
   clear c3
   by_cases c4 : 0 ≤ ba
   rotate_left
   ·rw [if_neg c4] at H
    exact absurd H (by simp)
   rw [if_pos c4] at H
   have gb : decide (0 ≤ ba) = true := decide_eq_true c4
   clear c4
   by_cases c5 : ba < (a0.size : Int)
   rotate_left
   ·rw [if_neg c5] at H
    exact absurd H (by simp)
   rw [if_pos c5] at H
   have Gc : decide (ba < (a0.size : Int)) = true := decide_eq_true c5
   clear c5
   by_cases c7 : (bt a0 ba) < 33
   ·rw [if_pos c7] at H
    have Pa : decide ((bt a0 ba) < 33) = true := decide_eq_true c7
    clear c7
    obtain rfl := Option.some.inj H
    have p6 : 0 ≤ (ba : Int) := dT_
    have q6 : ba < (a0.size : Int) := dT_
    have Hc := bt_at a0 ba
    replace p6 := eq_true p6
    replace q6 := eq_true q6
    go_wp2
    go_ret
    exact ⟨by first | rfl | (simp; done) | (simp [*]; done), by repeat (first | exact Drawn0.refl _ | apply Drawn0.step)⟩
   rw [if_neg c7] at H
   have Pa : decide ((bt a0 ba) < 33) = false := decide_eq_false c7
   clear c7
   by_cases c9 : (bt a0 ba) > 126
   ·rw [if_pos c9] at H
    have Xc : decide (126 < (bt a0 ba)) = true := decide_eq_true c9
    clear c9
    obtain rfl := Option.some.inj H
    have p6 : 0 ≤ (ba : Int) := dT_
    have q6 : ba < (a0.size : Int) := dT_
    have Hc := bt_at a0 ba
    replace p6 := eq_true p6
    replace q6 := eq_true q6
    have p8 : 0 ≤ (ba : Int) := dT_
    have q8 : ba < (a0.size : Int) := dT_
    have Sc := bt_at a0 ba
    replace p8 := eq_true p8
    replace q8 := eq_true q8
    go_wp2
    go_ret
    exact ⟨by first | rfl | (simp; done) | (simp [*]; done), by repeat (first | exact Drawn0.refl _ | apply Drawn0.step)⟩
   rw [if_neg c9] at H
   have Xc : decide (126 < (bt a0 ba)) = false := decide_eq_false c9
   clear c9
   replace H := Option.bind_eq_some_iff.mp H
   obtain ⟨oa, Ic, H⟩ := H
   replace H : (if oa ≥ 0 then (some false) else (principal_printable.l0 k1 a0 a1 (a0.size : Int) (wrap64 (ba + 1)))) = some r := H
   have Tc := aM_ Ic
   clear Ic
   by_cases ab : oa ≥ 0
   ·rw [if_pos ab] at H
    have Qc : decide (0 ≤ oa) = true := decide_eq_true ab
    clear ab
    obtain rfl := Option.some.inj H
    have p6 : 0 ≤ (ba : Int) := dT_
    have q6 : ba < (a0.size : Int) := dT_
    have Hc := bt_at a0 ba
    replace p6 := eq_true p6
    replace q6 := eq_true q6
    have p8 : 0 ≤ (ba : Int) := dT_
    have q8 : ba < (a0.size : Int) := dT_
    have Sc := bt_at a0 ba
    replace p8 := eq_true p8
    replace q8 := eq_true q8
    have Xa : 0 ≤ (ba : Int) := dT_
    have Ya : ba < (a0.size : Int) := dT_
    have Fc := bt_at a0 ba
    replace Xa := eq_true Xa
    replace Ya := eq_true Ya
    go_wp2_with (first | (go_at_call 71; (with_reducible refine (strings_IndexByte.calls a1 (bt a0 ba) oa _ Tc.out).mono ?_); rintro e w' ⟨rfl, ⟨nd, rfl⟩⟩))
    go_ret
    exact ⟨by first | rfl | (simp; done) | (simp [*]; done), by repeat (first | exact Drawn0.refl _ | apply Drawn0.step)⟩
   rw [if_neg ab] at H
   have Qc : decide (0 ≤ oa) = false := decide_eq_false ab
   clear ab
   have H' := aM_ H
   clear H
   have p6 : 0 ≤ (ba : Int) := dT_
   have q6 : ba < (a0.size : Int) := dT_
   have Hc := bt_at a0 ba
   replace p6 := eq_true p6
   replace q6 := eq_true q6
   have p8 : 0 ≤ (ba : Int) := dT_
   have q8 : ba < (a0.size : Int) := dT_
   have Sc := bt_at a0 ba
   replace p8 := eq_true p8
   replace q8 := eq_true q8
   have Xa : 0 ≤ (ba : Int) := dT_
   have Ya : ba < (a0.size : Int) := dT_
   have Fc := bt_at a0 ba
   replace Xa := eq_true Xa
   replace Ya := eq_true Ya
   go_wp2_with (first | (go_at_call 71; (with_reducible refine (strings_IndexByte.calls a1 (bt a0 ba) oa _ Tc.out).mono ?_); rintro e w' ⟨rfl, ⟨nd, rfl⟩⟩))
   go_roundg k1
   case measure => have := ta.out; omega
   case rel => exact ⟨(wrap64 (ba + 1)), rS_, H', ⟨by have := ta.out; omega⟩, by repeat (first | exact Drawn0.refl _ | apply Drawn0.step)⟩

/-! ### principal_ValidName: function 39 -/
def principal_ValidName.f (k : Nat) (a0 : ByteArray) : Option (Bool) := if a0.toList = ([] : List UInt8) then (some false) else ((principal_printable.f k a0 (⟨#[46, 64]⟩ : ByteArray)).bind fun Ea => (some Ea))
set_option maxHeartbeats 8000000 in
set_option maxRecDepth 100000 in
theorem principal_ValidName.calls (k : Nat) (a0 : ByteArray) (r : Bool) (w : World) (h : principal_ValidName.f k a0 = some r) :
  Calls Tryd.prog 39 #[.string a0] w fun e w' => e = .returned (.bool r) ∧ Drawn0 w w' := by
 have H : (if a0.toList = ([] : List UInt8) then (some false) else ((principal_printable.f k a0 (⟨#[46, 64]⟩ : ByteArray)).bind fun Ea => (some Ea))) = some r := h
 clear h
 by_cases c2 : a0.toList = ([] : List UInt8)
 ·rw [if_pos c2] at H
  have rb : (a0.toList == ([] : List UInt8)) = true := beq_iff_eq.mpr c2
  have sb : (a0.toList != ([] : List UInt8)) = false := bne_eq_false_iff_eq.mpr c2
  clear c2
  obtain rfl := Option.some.inj H
  go_enter Tryd.func39, Tryd.ntmps39
  go_wp2
  go_ret
  exact ⟨by first | rfl | (simp; done) | (simp [*]; done), by repeat (first | exact Drawn0.refl _ | apply Drawn0.step)⟩
 rw [if_neg c2] at H
 have rb : (a0.toList == ([] : List UInt8)) = false := beq_eq_false_iff_ne.mpr c2
 have sb : (a0.toList != ([] : List UInt8)) = true := bne_iff_ne.mpr c2
 replace H := Option.bind_eq_some_iff.mp H
 obtain ⟨Ea, pb, H⟩ := H
 replace H : (some Ea) = some r := H
 have A3 := aM_ pb
 clear pb
 obtain rfl := Option.some.inj H
 go_enter Tryd.func39, Tryd.ntmps39
 go_wp2_with (first | (go_at_call 59; (with_reducible refine (principal_printable.calls k a0 (⟨#[46, 64]⟩ : ByteArray) Ea _ A3.out).mono ?_); rintro e w' ⟨rfl, ⟨nd, rfl⟩⟩))
 go_ret
 exact ⟨by first | rfl | (simp; done) | (simp [*]; done), by repeat (first | exact Drawn0.refl _ | apply Drawn0.step)⟩

/-! ### principal_ValidInstance: function 40 -/
def principal_ValidInstance.f (k : Nat) (a0 : ByteArray) : Option (Bool) := (principal_printable.f k a0 (⟨#[64]⟩ : ByteArray)).bind fun Fa => (some Fa)
set_option maxHeartbeats 8000000 in
set_option maxRecDepth 100000 in
theorem principal_ValidInstance.calls (k : Nat) (a0 : ByteArray) (r : Bool) (w : World) (h : principal_ValidInstance.f k a0 = some r) :
  Calls Tryd.prog 40 #[.string a0] w fun e w' => e = .returned (.bool r) ∧ Drawn0 w w' := by
 have H : ((principal_printable.f k a0 (⟨#[64]⟩ : ByteArray)).bind fun Fa => (some Fa)) = some r := h
 clear h
 replace H := Option.bind_eq_some_iff.mp H
 obtain ⟨Fa, Ja, H⟩ := H
 replace H : (some Fa) = some r := H
 have A2 := aM_ Ja
 clear Ja
 obtain rfl := Option.some.inj H
 go_enter Tryd.func40, Tryd.ntmps40
 go_wp2_with (first | ((with_reducible refine gate_callee (f := 59) rfl ?_); refine gC_ (some 4) 59 #[.string a0, .string (⟨#[64]⟩ : ByteArray)] Tryd.func59 ?_; (with_reducible refine (principal_printable.calls k a0 (⟨#[64]⟩ : ByteArray) Fa _ A2.out).mono ?_); rintro e w' ⟨rfl, ⟨nd, rfl⟩⟩; refine ⟨_, rfl, ?_⟩))
 go_ret
 exact ⟨by first | rfl | (simp; done) | (simp [*]; done), by repeat (first | exact Drawn0.refl _ | apply Drawn0.step)⟩

/-! ### key_Make: function 81 -/
def key_Make.f (a0 : Int) (a1 : Int) : Option (Int) := if a0 = 1 then (if a1 < 1 then (some 0) else (if a1 > 4294967295 then (some 0) else (some (Go.bits .or .u64 (IntKind.u64.wrap ((IntKind.u64.wrap (a0)) * 72057594037927936)) (IntKind.u64.wrap (a1)))))) else (if a0 = 2 then (if a1 < 1 then (some 0) else (if a1 > 4294967295 then (some 0) else (some (Go.bits .or .u64 (IntKind.u64.wrap ((IntKind.u64.wrap (a0)) * 72057594037927936)) (IntKind.u64.wrap (a1)))))) else (some 0))
set_option maxHeartbeats 8000000 in
set_option maxRecDepth 100000 in
theorem key_Make.calls (a0 : Int) (a1 : Int) (r : Int) (w : World) (h : key_Make.f a0 a1 = some r) :
  Calls Tryd.prog 81 #[.int .i64 a0, .int .i64 a1] w fun e w' => e = .returned (.int .u64 r) ∧ Drawn0 w w' := by
 have H : (if a0 = 1 then (if a1 < 1 then (some 0) else (if a1 > 4294967295 then (some 0) else (some (Go.bits .or .u64 (IntKind.u64.wrap ((IntKind.u64.wrap (a0)) * 72057594037927936)) (IntKind.u64.wrap (a1)))))) else (if a0 = 2 then (if a1 < 1 then (some 0) else (if a1 > 4294967295 then (some 0) else (some (Go.bits .or .u64 (IntKind.u64.wrap ((IntKind.u64.wrap (a0)) * 72057594037927936)) (IntKind.u64.wrap (a1)))))) else (some 0))) = some r := h
 clear h
 by_cases c3 : a0 = 1
 ·rw [if_pos c3] at H
  have Qa : (a0 == 1) = true := beq_iff_eq.mpr c3
  have Yc : (a0 != 1) = false := bne_eq_false_iff_eq.mpr c3
  clear c3
  by_cases c4 : a1 < 1
  ·rw [if_pos c4] at H
   have gb : decide (a1 < 1) = true := decide_eq_true c4
   clear c4
   obtain rfl := Option.some.inj H
   go_enter Tryd.func81, Tryd.ntmps81
   go_wp2
   go_ret
   exact ⟨by first | rfl | (simp; done) | (simp [*]; done), by repeat (first | exact Drawn0.refl _ | apply Drawn0.step)⟩
  rw [if_neg c4] at H
  have gb : decide (a1 < 1) = false := decide_eq_false c4
  clear c4
  by_cases c5 : a1 > 4294967295
  ·rw [if_pos c5] at H
   have Gc : decide (4294967295 < a1) = true := decide_eq_true c5
   clear c5
   obtain rfl := Option.some.inj H
   go_enter Tryd.func81, Tryd.ntmps81
   go_wp2
   go_ret
   exact ⟨by first | rfl | (simp; done) | (simp [*]; done), by repeat (first | exact Drawn0.refl _ | apply Drawn0.step)⟩
  rw [if_neg c5] at H
  have Gc : decide (4294967295 < a1) = false := decide_eq_false c5
  clear c5
  obtain rfl := Option.some.inj H
  go_enter Tryd.func81, Tryd.ntmps81
  go_wp2
  go_ret
  exact ⟨by first | rfl | (simp; done) | (simp [*]; done), by repeat (first | exact Drawn0.refl _ | apply Drawn0.step)⟩
 rw [if_neg c3] at H
 have Qa : (a0 == 1) = false := beq_eq_false_iff_ne.mpr c3
 have Yc : (a0 != 1) = true := bne_iff_ne.mpr c3
 by_cases c6 : a0 = 2
 rotate_left
 ·rw [if_neg c6] at H
  have db : (a0 == 2) = false := beq_eq_false_iff_ne.mpr c6
  have Zc : (a0 != 2) = true := bne_iff_ne.mpr c6
  obtain rfl := Option.some.inj H
  go_enter Tryd.func81, Tryd.ntmps81
  go_wp2
  go_ret
  exact ⟨by first | rfl | (simp; done) | (simp [*]; done), by repeat (first | exact Drawn0.refl _ | apply Drawn0.step)⟩
 rw [if_pos c6] at H
 have db : (a0 == 2) = true := beq_iff_eq.mpr c6
 have Zc : (a0 != 2) = false := bne_eq_false_iff_eq.mpr c6
 clear c6
 by_cases c7 : a1 < 1
 ·rw [if_pos c7] at H
  have Pa : decide (a1 < 1) = true := decide_eq_true c7
  clear c7
  obtain rfl := Option.some.inj H
  go_enter Tryd.func81, Tryd.ntmps81
  go_wp2
  go_ret
  exact ⟨by first | rfl | (simp; done) | (simp [*]; done), by repeat (first | exact Drawn0.refl _ | apply Drawn0.step)⟩
 rw [if_neg c7] at H
 have Pa : decide (a1 < 1) = false := decide_eq_false c7
 clear c7
 by_cases c8 : a1 > 4294967295
 ·rw [if_pos c8] at H
  have qb : decide (4294967295 < a1) = true := decide_eq_true c8
  clear c8
  obtain rfl := Option.some.inj H
  go_enter Tryd.func81, Tryd.ntmps81
  go_wp2
  go_ret
  exact ⟨by first | rfl | (simp; done) | (simp [*]; done), by repeat (first | exact Drawn0.refl _ | apply Drawn0.step)⟩
 rw [if_neg c8] at H
 have qb : decide (4294967295 < a1) = false := decide_eq_false c8
 clear c8
 obtain rfl := Option.some.inj H
 go_enter Tryd.func81, Tryd.ntmps81
 go_wp2
 go_ret
 exact ⟨by first | rfl | (simp; done) | (simp [*]; done), by repeat (first | exact Drawn0.refl _ | apply Drawn0.step)⟩

/-! ### key_split: function 73 -/
def key_split.f (a0 : Int) : Option (Int × Int) := if a0 = 0 then (some (0, 0)) else ((key_Make.f (wrap64 (a0 / 72057594037927936)) (wrap64 (Go.bits .and .u64 a0 72057594037927935))).bind fun ia => (if ia = a0 then (some (wrap64 (a0 / 72057594037927936), wrap64 (Go.bits .and .u64 a0 72057594037927935))) else (some (0, 0))))
set_option maxHeartbeats 8000000 in
set_option maxRecDepth 100000 in
theorem key_split.calls (a0 : Int) (r1 : Int) (r2 : Int) (w : World) (h : key_split.f a0 = some (r1, r2)) :
  Calls Tryd.prog 73 #[.int .u64 a0] w fun e w' => e = .returned (.tuple #[.int .i64 r1, .int .i64 r2]) ∧ Drawn0 w w' := by
 have H : (if a0 = 0 then (some (0, 0)) else ((key_Make.f (wrap64 (a0 / 72057594037927936)) (wrap64 (Go.bits .and .u64 a0 72057594037927935))).bind fun ia => (if ia = a0 then (some (wrap64 (a0 / 72057594037927936), wrap64 (Go.bits .and .u64 a0 72057594037927935))) else (some (0, 0))))) = some (r1, r2) := h
 clear h
 by_cases c2 : a0 = 0
 ·rw [if_pos c2] at H
  have rb : (a0 == 0) = true := beq_iff_eq.mpr c2
  have sb : (a0 != 0) = false := bne_eq_false_iff_eq.mpr c2
  clear c2
  simp only [Option.some.injEq, Prod.mk.injEq] at H
  obtain ⟨rfl, rfl⟩ := H
  go_enter Tryd.func73, Tryd.ntmps73
  go_wp2
  go_ret2
  exact ⟨by first | rfl | (simp; done) | (simp [*]; done), by repeat (first | exact Drawn0.refl _ | apply Drawn0.step)⟩
 rw [if_neg c2] at H
 have rb : (a0 == 0) = false := beq_eq_false_iff_ne.mpr c2
 have sb : (a0 != 0) = true := bne_iff_ne.mpr c2
 replace H := Option.bind_eq_some_iff.mp H
 obtain ⟨ia, pb, H⟩ := H
 try dsimp only at H
 have A3 := aM_ pb
 clear pb
 by_cases c4 : ia = a0
 ·rw [if_pos c4] at H
  have gb : (ia == a0) = true := beq_iff_eq.mpr c4
  have ad : (ia != a0) = false := bne_eq_false_iff_eq.mpr c4
  clear c4
  simp only [Option.some.injEq, Prod.mk.injEq] at H
  obtain ⟨rfl, rfl⟩ := H
  go_enter Tryd.func73, Tryd.ntmps73
  go_wp2_with (first | (go_at_call 81; (with_reducible refine (key_Make.calls (wrap64 (a0 / 72057594037927936)) (wrap64 (Go.bits .and .u64 a0 72057594037927935)) ia _ A3.out).mono ?_); rintro e w' ⟨rfl, ⟨nd, rfl⟩⟩))
  go_ret2
  exact ⟨by first | rfl | (simp; done) | (simp [*]; done), by repeat (first | exact Drawn0.refl _ | apply Drawn0.step)⟩
 rw [if_neg c4] at H
 have gb : (ia == a0) = false := beq_eq_false_iff_ne.mpr c4
 have ad : (ia != a0) = true := bne_iff_ne.mpr c4
 simp only [Option.some.injEq, Prod.mk.injEq] at H
 obtain ⟨rfl, rfl⟩ := H
 go_enter Tryd.func73, Tryd.ntmps73
 go_wp2_with (first | (go_at_call 81; (with_reducible refine (key_Make.calls (wrap64 (a0 / 72057594037927936)) (wrap64 (Go.bits .and .u64 a0 72057594037927935)) ia _ A3.out).mono ?_); rintro e w' ⟨rfl, ⟨nd, rfl⟩⟩))
 go_ret2
 exact ⟨by first | rfl | (simp; done) | (simp [*]; done), by repeat (first | exact Drawn0.refl _ | apply Drawn0.step)⟩

/-! ### key_Class: function 63 -/
def key_Class.f (a0 : Int) : Option (Int) := (key_split.f a0).bind fun ib => (some ib.1)
set_option maxHeartbeats 8000000 in
set_option maxRecDepth 100000 in
theorem key_Class.calls (a0 : Int) (r : Int) (w : World) (h : key_Class.f a0 = some r) :
  Calls Tryd.prog 63 #[.int .u64 a0] w fun e w' => e = .returned (.int .i64 r) ∧ Drawn0 w w' := by
 have H : ((key_split.f a0).bind fun ib => (some ib.1)) = some r := h
 clear h
 replace H := Option.bind_eq_some_iff.mp H
 obtain ⟨⟨Kc, bd⟩, Ja, H⟩ := H
 replace H : (some Kc) = some r := H
 have A2 := aM_ Ja
 clear Ja
 obtain rfl := Option.some.inj H
 go_enter Tryd.func63, Tryd.ntmps63
 go_wp2_with (first | ((with_reducible refine gate_callee (f := 73) rfl ?_); refine gC_ (some 7) 73 #[.int .u64 a0] Tryd.func73 ?_; (with_reducible refine (key_split.calls a0 Kc bd _ A2.out).mono ?_); rintro e w' ⟨rfl, ⟨nd, rfl⟩⟩; refine ⟨_, rfl, ?_⟩))
 go_ret
 exact ⟨by first | rfl | (simp; done) | (simp [*]; done), by repeat (first | exact Drawn0.refl _ | apply Drawn0.step)⟩

/-! ### key_Valid: function 41 -/
def key_Valid.f (a0 : Int) : Option (Bool) := (key_Class.f a0).bind fun Ga => (some (Ga != 0))
set_option maxHeartbeats 8000000 in
set_option maxRecDepth 100000 in
theorem key_Valid.calls (a0 : Int) (r : Bool) (w : World) (h : key_Valid.f a0 = some r) :
  Calls Tryd.prog 41 #[.int .u64 a0] w fun e w' => e = .returned (.bool r) ∧ Drawn0 w w' := by
 have H : ((key_Class.f a0).bind fun Ga => (some (Ga != 0))) = some r := h
 clear h
 replace H := Option.bind_eq_some_iff.mp H
 obtain ⟨Ga, Ja, H⟩ := H
 replace H : (some (Ga != 0)) = some r := H
 have A2 := aM_ Ja
 clear Ja
 obtain rfl := Option.some.inj H
 go_enter Tryd.func41, Tryd.ntmps41
 go_wp2_with (first | ((with_reducible refine gate_callee (f := 63) rfl ?_); refine gC_ (some 4) 63 #[.int .u64 a0] Tryd.func63 ?_; (with_reducible refine (key_Class.calls a0 Ga _ A2.out).mono ?_); rintro e w' ⟨rfl, ⟨nd, rfl⟩⟩; refine ⟨_, rfl, ?_⟩))
 go_ret
 exact ⟨by first | rfl | (simp; done) | (simp [*]; done), by repeat (first | exact Drawn0.refl _ | apply Drawn0.step)⟩

/-! ### database_outside: function 42 -/
def database_outside.f (a0 : Int) (a1 : Int) : Option (Bool) := if a0 < 0 then (some true) else (some (decide (a0 > a1)))
set_option maxHeartbeats 8000000 in
set_option maxRecDepth 100000 in
theorem database_outside.calls (a0 : Int) (a1 : Int) (r : Bool) (w : World) (h : database_outside.f a0 a1 = some r) :
  Calls Tryd.prog 42 #[.int .i64 a0, .int .i64 a1] w fun e w' => e = .returned (.bool r) ∧ Drawn0 w w' := by
 have H : (if a0 < 0 then (some true) else (some (decide (a0 > a1)))) = some r := h
 clear h
 by_cases c3 : a0 < 0
 ·rw [if_pos c3] at H
  have Qa : decide (a0 < 0) = true := decide_eq_true c3
  clear c3
  obtain rfl := Option.some.inj H
  go_enter Tryd.func42, Tryd.ntmps42
  go_wp2
  go_ret
  exact ⟨by first | rfl | (simp; done) | (simp [*]; done), by repeat (first | exact Drawn0.refl _ | apply Drawn0.step)⟩
 rw [if_neg c3] at H
 have Qa : decide (a0 < 0) = false := decide_eq_false c3
 clear c3
 obtain rfl := Option.some.inj H
 go_enter Tryd.func42, Tryd.ntmps42
 go_wp2
 go_ret
 exact ⟨by first | rfl | (simp; done) | (simp [*]; done), by repeat (first | exact Drawn0.refl _ | apply Drawn0.step)⟩

end Go.Proofs.YthfdfoigoomaoaaDoor.PDb
