/- The walks of functions of the translation: each call returns what the plain function beside it says. -/
import Derived.Test.YthfdfoigoomaoaaDoorPDbx0
import Derived.Test.YthfdfoigoomaoaaDoorPDbx9
namespace Go.Proofs.YthfdfoigoomaoaaDoor.PDb
open Go.RowKit Go.Proofs.YthfdfoigoomaoaaDoorW.PrintWords Go.Proofs.YthfdfoigoomaoaaDoorW.PrintLast Go.Proofs.YthfdfoigoomaoaaDoorW.PrintMore Go.Proofs.YthfdfoigoomaoaaDoor.Aid
attribute [local go_sem] max2_int min2_int max_two min_two max_three min_three max_four min_four aid_str_gtr aid_str_leq   -- for this text's walks alone
set_option linter.unusedVariables false
set_option linter.unusedSimpArgs false

/-! ### kerbsuiteref12_CheckEntry: function 15 -/
mutual
def kerbsuiteref12_CheckEntry.j0 : Nat → Bool → ByteArray → ByteArray → Int → Int → Int → Int → Int → Int → Int → Option (Int)
 | 0, _, _, _, _, _, _, _, _, _, _ => none
 | k + 1, Mg, Ha, Ia, xa, za, Aa, Ba, Ca, Da, Ea => if Mg = true then (some 103) else (if xa = 0 then (kerbsuiteref12_CheckEntry.j1 k false Ha Ia xa za Aa Ba Ca Da Ea) else ((kerbsuiteref3_Valid.f xa).bind fun Ga => (kerbsuiteref12_CheckEntry.j1 k (!Ga) Ha Ia xa za Aa Ba Ca Da Ea)))
def kerbsuiteref12_CheckEntry.j1 : Nat → Bool → ByteArray → ByteArray → Int → Int → Int → Int → Int → Int → Int → Option (Int)
 | 0, _, _, _, _, _, _, _, _, _, _ => none
 | k + 1, Ng, Ha, Ia, xa, za, Aa, Ba, Ca, Da, Ea => if Ng = true then (some 10) else ((kerbsuiteref12_within.f za 255).bind fun Ja => (if Ja = true then ((kerbsuiteref12_within.f Aa 4294967295).bind fun wa => (if wa = true then ((kerbsuiteref12_within.f Ea 4294967295).bind fun sa => (if sa = true then ((kerbsuiteref12_within.f Ba 255).bind fun pa => (if pa = true then ((kerbsuiteref12_within.f Ca 3).bind fun oa => (if oa = true then ((kerbsuiteref12_within.f Da 20).bind fun na => (if na = true then (some 0) else (some 104))) else (some 104))) else (some 104))) else (some 104))) else (some 104))) else (some 104)))
end
def kerbsuiteref12_CheckEntry.f (k : Nat) (da : ByteArray) (la : ByteArray) (ka : Int) (ea : Int) (ja : Int) (ha : Int) (ga : Int) (fa : Int) (ia : Int) : Option (Int) := (kerbsuiteref1_ValidName.f k da).bind fun Ka => (if Ka = true then ((kerbsuiteref1_ValidInstance.f k la).bind fun va => (kerbsuiteref12_CheckEntry.j0 k (!va) da la ka ea ja ha ga fa ia)) else (kerbsuiteref12_CheckEntry.j0 k true da la ka ea ja ha ga fa ia))
set_option maxHeartbeats 8000000 in
set_option maxRecDepth 100000 in
theorem kerbsuiteref12_CheckEntry.calls (k : Nat) (da : ByteArray) (la : ByteArray) (ka : Int) (ea : Int) (ja : Int) (ha : Int) (ga : Int) (fa : Int) (ia : Int) (r : Int) (w : World) (h : kerbsuiteref12_CheckEntry.f k da la ka ea ja ha ga fa ia = some r) :
  Calls Tryd.prog 15 #[.agg #[.string da, .string la, .int .u64 ka, .int .i64 ea, .int .i64 ja, .int .i64 ha, .int .i64 ga, .int .i64 fa, .int .i64 ia]] w fun e w' => e = .returned (.int .i64 r) ∧ Below w.heap.size w w' := by
 have hu35 := Tryd.underlying35
 have HB := aM_ (Below.refl w.heap.size w)
 have H : ((kerbsuiteref1_ValidName.f k da).bind fun Ka => (if Ka = true then ((kerbsuiteref1_ValidInstance.f k la).bind fun va => (kerbsuiteref12_CheckEntry.j0 k (!va) da la ka ea ja ha ga fa ia)) else (kerbsuiteref12_CheckEntry.j0 k true da la ka ea ja ha ga fa ia))) = some r := h
 clear h
 have Qc := aM_ H
 clear H
 go_enter Tryd.func15, Tryd.ntmps15
 go_upto_region 1 with (first | ((with_reducible refine gate_dst (N := 1) rfl ?_); refine box_event ?hg (N := 1) ?hd (cs := #[.string da, .string la, .int .u64 ka, .int .i64 ea, .int .i64 ja, .int .i64 ha, .int .i64 ga, .int .i64 fa, .int .i64 ia]) (t := 35) ?hr ?_; (case hd => rfl); (case hg => rfl); (case hr => first | (go_simp; done) | (go_simp; rfl)); intro Wa hg w3 hbox hb; have aa := aM_ (hbox); have Tg := aM_ ((by rw [hg]; exact (below_size (bk_ HB.out)) : w.heap.size ≤ Wa)); have Ug := aM_ ((by rw [hg]; exact (below_size (bk_ HB.out)) : w.heap.size ≤ Wa)); replace HB := aM_ (below_step (bk_ HB.out) hb); clear hb hbox hg))
 (try simp only [Act.put, sA_, sB_, sC_])
 go_cut [12] (fun Og wc => ∃ (kq : Nat) (Xa : Bool), Og = .bool Xa ∧ Aside0 (kerbsuiteref12_CheckEntry.j0 kq Xa da la ka ea ja ha ga fa ia = some r) ∧ Aside0 (kq ≤ k) ∧ Aside0 (wc.heap[Wa]? = some (.cells #[.string da, .string la, .int .u64 ka, .int .i64 ea, .int .i64 ja, .int .i64 ha, .int .i64 ga, .int .i64 fa, .int .i64 ia] 35 (0, 0))) ∧ Aside0 (Below w.heap.size w wc))
 case first =>
  have H := Qc.out
  clear Qc
  replace H := Option.bind_eq_some_iff.mp H
  obtain ⟨Ka, Zc, H⟩ := H
  replace H : (if Ka = true then ((kerbsuiteref1_ValidInstance.f k la).bind fun va => (kerbsuiteref12_CheckEntry.j0 k (!va) da la ka ea ja ha ga fa ia)) else (kerbsuiteref12_CheckEntry.j0 k true da la ka ea ja ha ga fa ia)) = some r := H
  have A4 := aM_ Zc
  clear Zc
  by_cases c5 : Ka = true
  ·subst c5
   have H1 : ((kerbsuiteref1_ValidInstance.f k la).bind fun va => (kerbsuiteref12_CheckEntry.j0 k (!va) da la ka ea ja ha ga fa ia)) = some r := by rw [if_pos rfl] at H; exact H
   clear H
   have H := H1
   clear H1
   replace H := Option.bind_eq_some_iff.mp H
   obtain ⟨va, ad, H⟩ := H
   replace H : (kerbsuiteref12_CheckEntry.j0 k (!va) da la ka ea ja ha ga fa ia) = some r := H
   have A6 := aM_ ad
   clear ad
   have H' := aM_ H
   clear H
   have Za := bc_ aa.out 0
   have ab := bc_ aa.out 1
   have bb := bc_ aa.out 2
   have cb := bc_ aa.out 3
   have db := bc_ aa.out 4
   have eb := bc_ aa.out 5
   have fb := bc_ aa.out 6
   have gb := bc_ aa.out 7
   have ib := bc_ aa.out 8
   have jb := blk_frozen aa.out 0
   have kb := blk_frozen aa.out 1
   have lb := blk_frozen aa.out 2
   have mb := blk_frozen aa.out 3
   have nb := blk_frozen aa.out 4
   have ob := blk_frozen aa.out 5
   have pb := blk_frozen aa.out 6
   have qb := blk_frozen aa.out 7
   have rb := blk_frozen aa.out 8
   go_wp2_with (first | ((with_reducible refine gate_callee (f := 43) rfl ?_); refine goesL_ (some 5) rfl rfl Tryd.func43 (by kernel_rfl) rfl #[.string da] rfl aR_ ?_; (with_reducible refine (kerbsuiteref1_ValidName.calls k da true _ A4.out).mono ?_); rintro e w' ⟨rfl, ⟨nd, rfl⟩⟩; refine ⟨_, rfl, ?_⟩) | (go_at_call 44; (with_reducible refine (kerbsuiteref1_ValidInstance.calls k la va _ A6.out).mono ?_); rintro e w' ⟨rfl, ⟨nd, rfl⟩⟩))
   go_meet
   case rel => exact ⟨_, (!va), rS_, H', ⟨by first | omega | exact Nat.le_refl _⟩, ⟨by refine bk_ ?_; exact aa.out⟩, ⟨hB_⟩⟩
  replace c5 := Bool.eq_false_iff.mpr c5
  subst c5
  have H1 : (kerbsuiteref12_CheckEntry.j0 k true da la ka ea ja ha ga fa ia) = some r := by rw [if_neg (show ¬ (false = true) by decide)] at H; exact H
  clear H
  have H := H1
  clear H1
  have H' := aM_ H
  clear H
  have sb := bc_ aa.out 0
  have tb := bc_ aa.out 1
  have ub := bc_ aa.out 2
  have vb := bc_ aa.out 3
  have wb := bc_ aa.out 4
  have xb := bc_ aa.out 5
  have yb := bc_ aa.out 6
  have zb := bc_ aa.out 7
  have Ab := bc_ aa.out 8
  have Bb := blk_frozen aa.out 0
  have Cb := blk_frozen aa.out 1
  have Db := blk_frozen aa.out 2
  have Eb := blk_frozen aa.out 3
  have Fb := blk_frozen aa.out 4
  have Gb := blk_frozen aa.out 5
  have Hb := blk_frozen aa.out 6
  have Ib := blk_frozen aa.out 7
  have Jb := blk_frozen aa.out 8
  go_wp2_with (first | ((with_reducible refine gate_callee (f := 43) rfl ?_); refine goesL_ (some 5) rfl rfl Tryd.func43 (by kernel_rfl) rfl #[.string da] rfl aR_ ?_; (with_reducible refine (kerbsuiteref1_ValidName.calls k da false _ A4.out).mono ?_); rintro e w' ⟨rfl, ⟨nd, rfl⟩⟩; refine ⟨_, rfl, ?_⟩))
  go_meet
  case rel => exact ⟨_, (true), rS_, H', ⟨by first | omega | exact Nat.le_refl _⟩, ⟨by refine bk_ ?_; exact aa.out⟩, ⟨hB_⟩⟩
 case rest =>
  clear Qc
  try clear c1
  try clear p2
  try clear c4
  try clear c5
  try clear Za
  try clear ab
  try clear bb
  try clear cb
  try clear db
  try clear eb
  try clear fb
  try clear gb
  try clear ib
  try clear sb
  try clear tb
  try clear ub
  try clear vb
  try clear wb
  try clear xb
  try clear yb
  try clear zb
  try clear Ab
  try clear jb
  try clear kb
  try clear lb
  try clear mb
  try clear nb
  try clear ob
  try clear pb
  try clear qb
  try clear rb
  try clear Bb
  try clear Cb
  try clear Db
  try clear Eb
  try clear Fb
  try clear Gb
  try clear Hb
  try clear Ib
  try clear Jb
  obtain ⟨kq, Xa, rfl, HA, bd, aa, HB⟩ := hcut
  cases kq with
  | zero => exact absurd HA.out (by simp [kerbsuiteref12_CheckEntry.j0])
  | succ gc =>
   have H := HA.out
   clear HA
   simp only [kerbsuiteref12_CheckEntry.j0] at H
   by_cases c9 : Xa = true
   ·subst c9
    have H1 : (some 103) = some r := by rw [if_pos rfl] at H; exact H
    clear H
    have H := H1
    clear H1
    obtain rfl := Option.some.inj H
    go_wp2
    go_ret
    exact ⟨eW_, hB_⟩
   replace c9 := Bool.eq_false_iff.mpr c9
   subst c9
   have H1 : (if ka = 0 then (kerbsuiteref12_CheckEntry.j1 gc false da la ka ea ja ha ga fa ia) else ((kerbsuiteref3_Valid.f ka).bind fun Ga => (kerbsuiteref12_CheckEntry.j1 gc (!Ga) da la ka ea ja ha ga fa ia))) = some r := by rw [if_neg (show ¬ (false = true) by decide)] at H; exact H
   clear H
   have H := H1
   clear H1
   have fc := aM_ H
   clear H
   go_upto_region 3 with (fail)
   go_cut [21] (fun Rg wc => ∃ (kq : Nat) (Ya : Bool), Rg = .bool Ya ∧ Aside0 (kerbsuiteref12_CheckEntry.j1 kq Ya da la ka ea ja ha ga fa ia = some r) ∧ Aside0 (kq ≤ gc) ∧ Aside0 (wc.heap[Wa]? = some (.cells #[.string da, .string la, .int .u64 ka, .int .i64 ea, .int .i64 ja, .int .i64 ha, .int .i64 ga, .int .i64 fa, .int .i64 ia] 35 (0, 0))) ∧ Aside0 (Below w.heap.size w wc))
   case first =>
    have H := fc.out
    clear fc
    by_cases Va : ka = 0
    ·rw [if_pos Va] at H
     have Fa : (ka == 0) = true := beq_iff_eq.mpr Va
     have hc : (ka != 0) = false := bne_eq_false_iff_eq.mpr Va
     clear Va
     (first | rw [Fa] | (simp only [i64_w, i32_w]; rw [Fa]) | skip)
     have H' := aM_ H
     clear H
     have vc := bc_ aa.out 0
     have xc := bc_ aa.out 1
     have yc := bc_ aa.out 2
     have zc := bc_ aa.out 3
     have Ac := bc_ aa.out 4
     have Bc := bc_ aa.out 5
     have Cc := bc_ aa.out 6
     have Dc := bc_ aa.out 7
     have Ec := bc_ aa.out 8
     have Fc := blk_frozen aa.out 0
     have Gc := blk_frozen aa.out 1
     have Hc := blk_frozen aa.out 2
     have Ic := blk_frozen aa.out 3
     have Jc := blk_frozen aa.out 4
     have Kc := blk_frozen aa.out 5
     have Lc := blk_frozen aa.out 6
     have Mc := blk_frozen aa.out 7
     have Nc := blk_frozen aa.out 8
     go_wp2
     go_meet
     case rel => exact ⟨_, (false), rS_, H', ⟨by have := bd.out; first | omega | exact Nat.le_refl _⟩, ⟨by refine bk_ ?_; exact aa.out⟩, ⟨hB_⟩⟩
    rw [if_neg Va] at H
    have Fa : (ka == 0) = false := beq_eq_false_iff_ne.mpr Va
    have hc : (ka != 0) = true := bne_iff_ne.mpr Va
    (first | rw [Fa] | (simp only [i64_w, i32_w]; rw [Fa]) | skip)
    replace H := Option.bind_eq_some_iff.mp H
    obtain ⟨Ga, Rc, H⟩ := H
    replace H : (kerbsuiteref12_CheckEntry.j1 gc (!Ga) da la ka ea ja ha ga fa ia) = some r := H
    have Sg := aM_ Rc
    clear Rc
    have H' := aM_ H
    clear H
    have Lb := bc_ aa.out 0
    have Mb := bc_ aa.out 1
    have Nb := bc_ aa.out 2
    have Ob := bc_ aa.out 3
    have Pb := bc_ aa.out 4
    have Qb := bc_ aa.out 5
    have Rb := bc_ aa.out 6
    have Sb := bc_ aa.out 7
    have Tb := bc_ aa.out 8
    have Ub := blk_frozen aa.out 0
    have Vb := blk_frozen aa.out 1
    have Wb := blk_frozen aa.out 2
    have Xb := blk_frozen aa.out 3
    have Yb := blk_frozen aa.out 4
    have Zb := blk_frozen aa.out 5
    have ac := blk_frozen aa.out 6
    have bc := blk_frozen aa.out 7
    have cc := blk_frozen aa.out 8
    go_wp2_with (first | (go_at_call 45; (with_reducible refine (kerbsuiteref3_Valid.calls ka Ga _ Sg.out).mono ?_); rintro e w' ⟨rfl, ⟨nd, rfl⟩⟩))
    go_meet
    case rel => exact ⟨_, (!Ga), rS_, H', ⟨by have := bd.out; first | omega | exact Nat.le_refl _⟩, ⟨by refine bk_ ?_; exact aa.out⟩, ⟨hB_⟩⟩
   case rest =>
    clear fc
    try clear c1
    try clear p2
    try clear c4
    try clear c5
    try clear c9
    try clear Va
    try clear Fa
    try clear hc
    try clear vc
    try clear xc
    try clear yc
    try clear zc
    try clear Ac
    try clear Bc
    try clear Cc
    try clear Dc
    try clear Ec
    try clear Lb
    try clear Mb
    try clear Nb
    try clear Ob
    try clear Pb
    try clear Qb
    try clear Rb
    try clear Sb
    try clear Tb
    try clear Za
    try clear ab
    try clear bb
    try clear cb
    try clear db
    try clear eb
    try clear fb
    try clear gb
    try clear ib
    try clear sb
    try clear tb
    try clear ub
    try clear vb
    try clear wb
    try clear xb
    try clear yb
    try clear zb
    try clear Ab
    try clear Fc
    try clear Gc
    try clear Hc
    try clear Ic
    try clear Jc
    try clear Kc
    try clear Lc
    try clear Mc
    try clear Nc
    try clear Ub
    try clear Vb
    try clear Wb
    try clear Xb
    try clear Yb
    try clear Zb
    try clear ac
    try clear bc
    try clear cc
    try clear jb
    try clear kb
    try clear lb
    try clear mb
    try clear nb
    try clear ob
    try clear pb
    try clear qb
    try clear rb
    try clear Bb
    try clear Cb
    try clear Db
    try clear Eb
    try clear Fb
    try clear Gb
    try clear Hb
    try clear Ib
    try clear Jb
    try clear p2
    obtain ⟨kq, Ya, rfl, HA, fh, aa, HB⟩ := hcut
    cases kq with
    | zero => exact absurd HA.out (by simp [kerbsuiteref12_CheckEntry.j1])
    | succ gh =>
     have H := HA.out
     clear HA
     simp only [kerbsuiteref12_CheckEntry.j1] at H
     by_cases ic : Ya = true
     ·subst ic
      have H1 : (some 10) = some r := by rw [if_pos rfl] at H; exact H
      clear H
      have H := H1
      clear H1
      obtain rfl := Option.some.inj H
      go_wp2
      go_ret
      exact ⟨eW_, hB_⟩
     replace ic := Bool.eq_false_iff.mpr ic
     subst ic
     have H1 : ((kerbsuiteref12_within.f ea 255).bind fun Ja => (if Ja = true then ((kerbsuiteref12_within.f ja 4294967295).bind fun wa => (if wa = true then ((kerbsuiteref12_within.f ia 4294967295).bind fun sa => (if sa = true then ((kerbsuiteref12_within.f ha 255).bind fun pa => (if pa = true then ((kerbsuiteref12_within.f ga 3).bind fun oa => (if oa = true then ((kerbsuiteref12_within.f fa 20).bind fun na => (if na = true then (some 0) else (some 104))) else (some 104))) else (some 104))) else (some 104))) else (some 104))) else (some 104))) = some r := by rw [if_neg (show ¬ (false = true) by decide)] at H; exact H
     clear H
     have H := H1
     clear H1
     replace H := Option.bind_eq_some_iff.mp H
     obtain ⟨Ja, Sc, H⟩ := H
     replace H : (if Ja = true then ((kerbsuiteref12_within.f ja 4294967295).bind fun wa => (if wa = true then ((kerbsuiteref12_within.f ia 4294967295).bind fun sa => (if sa = true then ((kerbsuiteref12_within.f ha 255).bind fun pa => (if pa = true then ((kerbsuiteref12_within.f ga 3).bind fun oa => (if oa = true then ((kerbsuiteref12_within.f fa 20).bind fun na => (if na = true then (some 0) else (some 104))) else (some 104))) else (some 104))) else (some 104))) else (some 104))) else (some 104)) = some r := H
     have Kb := aM_ Sc
     clear Sc
     by_cases jc : Ja = true
     ·subst jc
      have H1 : ((kerbsuiteref12_within.f ja 4294967295).bind fun wa => (if wa = true then ((kerbsuiteref12_within.f ia 4294967295).bind fun sa => (if sa = true then ((kerbsuiteref12_within.f ha 255).bind fun pa => (if pa = true then ((kerbsuiteref12_within.f ga 3).bind fun oa => (if oa = true then ((kerbsuiteref12_within.f fa 20).bind fun na => (if na = true then (some 0) else (some 104))) else (some 104))) else (some 104))) else (some 104))) else (some 104))) = some r := by rw [if_pos rfl] at H; exact H
      clear H
      have H := H1
      clear H1
      replace H := Option.bind_eq_some_iff.mp H
      obtain ⟨wa, Tc, H⟩ := H
      replace H : (if wa = true then ((kerbsuiteref12_within.f ia 4294967295).bind fun sa => (if sa = true then ((kerbsuiteref12_within.f ha 255).bind fun pa => (if pa = true then ((kerbsuiteref12_within.f ga 3).bind fun oa => (if oa = true then ((kerbsuiteref12_within.f fa 20).bind fun na => (if na = true then (some 0) else (some 104))) else (some 104))) else (some 104))) else (some 104))) else (some 104)) = some r := H
      have dc := aM_ Tc
      clear Tc
      by_cases kc : wa = true
      ·subst kc
       have H1 : ((kerbsuiteref12_within.f ia 4294967295).bind fun sa => (if sa = true then ((kerbsuiteref12_within.f ha 255).bind fun pa => (if pa = true then ((kerbsuiteref12_within.f ga 3).bind fun oa => (if oa = true then ((kerbsuiteref12_within.f fa 20).bind fun na => (if na = true then (some 0) else (some 104))) else (some 104))) else (some 104))) else (some 104))) = some r := by rw [if_pos rfl] at H; exact H
       clear H
       have H := H1
       clear H1
       replace H := Option.bind_eq_some_iff.mp H
       obtain ⟨sa, Uc, H⟩ := H
       replace H : (if sa = true then ((kerbsuiteref12_within.f ha 255).bind fun pa => (if pa = true then ((kerbsuiteref12_within.f ga 3).bind fun oa => (if oa = true then ((kerbsuiteref12_within.f fa 20).bind fun na => (if na = true then (some 0) else (some 104))) else (some 104))) else (some 104))) else (some 104)) = some r := H
       have ec := aM_ Uc
       clear Uc
       by_cases lc : sa = true
       ·subst lc
        have H1 : ((kerbsuiteref12_within.f ha 255).bind fun pa => (if pa = true then ((kerbsuiteref12_within.f ga 3).bind fun oa => (if oa = true then ((kerbsuiteref12_within.f fa 20).bind fun na => (if na = true then (some 0) else (some 104))) else (some 104))) else (some 104))) = some r := by rw [if_pos rfl] at H; exact H
        clear H
        have H := H1
        clear H1
        replace H := Option.bind_eq_some_iff.mp H
        obtain ⟨pa, Vc, H⟩ := H
        replace H : (if pa = true then ((kerbsuiteref12_within.f ga 3).bind fun oa => (if oa = true then ((kerbsuiteref12_within.f fa 20).bind fun na => (if na = true then (some 0) else (some 104))) else (some 104))) else (some 104)) = some r := H
        have mc := aM_ Vc
        clear Vc
        by_cases nc : pa = true
        ·subst nc
         have H1 : ((kerbsuiteref12_within.f ga 3).bind fun oa => (if oa = true then ((kerbsuiteref12_within.f fa 20).bind fun na => (if na = true then (some 0) else (some 104))) else (some 104))) = some r := by rw [if_pos rfl] at H; exact H
         clear H
         have H := H1
         clear H1
         replace H := Option.bind_eq_some_iff.mp H
         obtain ⟨oa, Wc, H⟩ := H
         replace H : (if oa = true then ((kerbsuiteref12_within.f fa 20).bind fun na => (if na = true then (some 0) else (some 104))) else (some 104)) = some r := H
         have Xc := aM_ Wc
         clear Wc
         by_cases oc : oa = true
         ·subst oc
          have H1 : ((kerbsuiteref12_within.f fa 20).bind fun na => (if na = true then (some 0) else (some 104))) = some r := by rw [if_pos rfl] at H; exact H
          clear H
          have H := H1
          clear H1
          replace H := Option.bind_eq_some_iff.mp H
          obtain ⟨na, Yc, H⟩ := H
          replace H : (if na = true then (some 0) else (some 104)) = some r := H
          have cd := aM_ Yc
          clear Yc
          by_cases pc : na = true
          ·subst pc
           have H1 : (some 0) = some r := by rw [if_pos rfl] at H; exact H
           clear H
           have H := H1
           clear H1
           obtain rfl := Option.some.inj H
           have kd := bc_ aa.out 0
           have ld := bc_ aa.out 1
           have md := bc_ aa.out 2
           have od := bc_ aa.out 3
           have pd := bc_ aa.out 4
           have qd := bc_ aa.out 5
           have rd := bc_ aa.out 6
           have sd := bc_ aa.out 7
           have td := bc_ aa.out 8
           have ud := blk_frozen aa.out 0
           have vd := blk_frozen aa.out 1
           have wd := blk_frozen aa.out 2
           have xd := blk_frozen aa.out 3
           have yd := blk_frozen aa.out 4
           have zd := blk_frozen aa.out 5
           have Ad := blk_frozen aa.out 6
           have Bd := blk_frozen aa.out 7
           have Cd := blk_frozen aa.out 8
           go_wp2_with (first | ((with_reducible refine gate_callee (f := 46) rfl ?_); refine goesL_ (some 24) rfl rfl Tryd.func46 (by kernel_rfl) rfl #[.int .i64 ea, .int .i64 255] rfl aR_ ?_; (with_reducible refine (kerbsuiteref12_within.calls ea 255 true _ Kb.out).mono ?_); rintro e w' ⟨rfl, ⟨nd, rfl⟩⟩; refine ⟨_, rfl, ?_⟩) | (go_at_call 46; (with_reducible refine (kerbsuiteref12_within.calls ja 4294967295 true _ dc.out).mono ?_); rintro e w' ⟨rfl, ⟨nd, rfl⟩⟩) | (go_at_call 46; (with_reducible refine (kerbsuiteref12_within.calls ia 4294967295 true _ ec.out).mono ?_); rintro e w' ⟨rfl, ⟨nd, rfl⟩⟩) | (go_at_call 46; (with_reducible refine (kerbsuiteref12_within.calls ha 255 true _ mc.out).mono ?_); rintro e w' ⟨rfl, ⟨nd, rfl⟩⟩) | (go_at_call 46; (with_reducible refine (kerbsuiteref12_within.calls ga 3 true _ Xc.out).mono ?_); rintro e w' ⟨rfl, ⟨nd, rfl⟩⟩) | (go_at_call 46; (with_reducible refine (kerbsuiteref12_within.calls fa 20 true _ cd.out).mono ?_); rintro e w' ⟨rfl, ⟨nd, rfl⟩⟩))
           go_ret
           exact ⟨eW_, hB_⟩
          replace pc := Bool.eq_false_iff.mpr pc
          subst pc
          have H1 : (some 104) = some r := by rw [if_neg (show ¬ (false = true) by decide)] at H; exact H
          clear H
          have H := H1
          clear H1
          obtain rfl := Option.some.inj H
          have Dd := bc_ aa.out 0
          have Ed := bc_ aa.out 1
          have Fd := bc_ aa.out 2
          have Gd := bc_ aa.out 3
          have Hd := bc_ aa.out 4
          have Id := bc_ aa.out 5
          have Jd := bc_ aa.out 6
          have Kd := bc_ aa.out 7
          have Ld := bc_ aa.out 8
          have Md := blk_frozen aa.out 0
          have Nd := blk_frozen aa.out 1
          have Od := blk_frozen aa.out 2
          have Pd := blk_frozen aa.out 3
          have Qd := blk_frozen aa.out 4
          have Rd := blk_frozen aa.out 5
          have Sd := blk_frozen aa.out 6
          have Td := blk_frozen aa.out 7
          have Ud := blk_frozen aa.out 8
          go_wp2_with (first | ((with_reducible refine gate_callee (f := 46) rfl ?_); refine goesL_ (some 24) rfl rfl Tryd.func46 (by kernel_rfl) rfl #[.int .i64 ea, .int .i64 255] rfl aR_ ?_; (with_reducible refine (kerbsuiteref12_within.calls ea 255 true _ Kb.out).mono ?_); rintro e w' ⟨rfl, ⟨nd, rfl⟩⟩; refine ⟨_, rfl, ?_⟩) | (go_at_call 46; (with_reducible refine (kerbsuiteref12_within.calls ja 4294967295 true _ dc.out).mono ?_); rintro e w' ⟨rfl, ⟨nd, rfl⟩⟩) | (go_at_call 46; (with_reducible refine (kerbsuiteref12_within.calls ia 4294967295 true _ ec.out).mono ?_); rintro e w' ⟨rfl, ⟨nd, rfl⟩⟩) | (go_at_call 46; (with_reducible refine (kerbsuiteref12_within.calls ha 255 true _ mc.out).mono ?_); rintro e w' ⟨rfl, ⟨nd, rfl⟩⟩) | (go_at_call 46; (with_reducible refine (kerbsuiteref12_within.calls ga 3 true _ Xc.out).mono ?_); rintro e w' ⟨rfl, ⟨nd, rfl⟩⟩) | (go_at_call 46; (with_reducible refine (kerbsuiteref12_within.calls fa 20 false _ cd.out).mono ?_); rintro e w' ⟨rfl, ⟨nd, rfl⟩⟩))
          go_ret
          exact ⟨eW_, hB_⟩
         replace oc := Bool.eq_false_iff.mpr oc
         subst oc
         have H1 : (some 104) = some r := by rw [if_neg (show ¬ (false = true) by decide)] at H; exact H
         clear H
         have H := H1
         clear H1
         obtain rfl := Option.some.inj H
         have Vd := bc_ aa.out 0
         have Wd := bc_ aa.out 1
         have Xd := bc_ aa.out 2
         have Yd := bc_ aa.out 3
         have Zd := bc_ aa.out 4
         have ae := bc_ aa.out 5
         have be := bc_ aa.out 6
         have ce := bc_ aa.out 7
         have de := bc_ aa.out 8
         have ee := blk_frozen aa.out 0
         have fe := blk_frozen aa.out 1
         have ge := blk_frozen aa.out 2
         have he := blk_frozen aa.out 3
         have ie := blk_frozen aa.out 4
         have je := blk_frozen aa.out 5
         have ke := blk_frozen aa.out 6
         have le := blk_frozen aa.out 7
         have me := blk_frozen aa.out 8
         go_wp2_with (first | ((with_reducible refine gate_callee (f := 46) rfl ?_); refine goesL_ (some 24) rfl rfl Tryd.func46 (by kernel_rfl) rfl #[.int .i64 ea, .int .i64 255] rfl aR_ ?_; (with_reducible refine (kerbsuiteref12_within.calls ea 255 true _ Kb.out).mono ?_); rintro e w' ⟨rfl, ⟨nd, rfl⟩⟩; refine ⟨_, rfl, ?_⟩) | (go_at_call 46; (with_reducible refine (kerbsuiteref12_within.calls ja 4294967295 true _ dc.out).mono ?_); rintro e w' ⟨rfl, ⟨nd, rfl⟩⟩) | (go_at_call 46; (with_reducible refine (kerbsuiteref12_within.calls ia 4294967295 true _ ec.out).mono ?_); rintro e w' ⟨rfl, ⟨nd, rfl⟩⟩) | (go_at_call 46; (with_reducible refine (kerbsuiteref12_within.calls ha 255 true _ mc.out).mono ?_); rintro e w' ⟨rfl, ⟨nd, rfl⟩⟩) | (go_at_call 46; (with_reducible refine (kerbsuiteref12_within.calls ga 3 false _ Xc.out).mono ?_); rintro e w' ⟨rfl, ⟨nd, rfl⟩⟩))
         go_ret
         exact ⟨eW_, hB_⟩
        replace nc := Bool.eq_false_iff.mpr nc
        subst nc
        have H1 : (some 104) = some r := by rw [if_neg (show ¬ (false = true) by decide)] at H; exact H
        clear H
        have H := H1
        clear H1
        obtain rfl := Option.some.inj H
        have ne := bc_ aa.out 0
        have oe := bc_ aa.out 1
        have pe := bc_ aa.out 2
        have qe := bc_ aa.out 3
        have re := bc_ aa.out 4
        have se := bc_ aa.out 5
        have te := bc_ aa.out 6
        have ue := bc_ aa.out 7
        have ve := bc_ aa.out 8
        have we := blk_frozen aa.out 0
        have xe := blk_frozen aa.out 1
        have ye := blk_frozen aa.out 2
        have ze := blk_frozen aa.out 3
        have Ae := blk_frozen aa.out 4
        have Be := blk_frozen aa.out 5
        have Ce := blk_frozen aa.out 6
        have De := blk_frozen aa.out 7
        have Ee := blk_frozen aa.out 8
        go_wp2_with (first | ((with_reducible refine gate_callee (f := 46) rfl ?_); refine goesL_ (some 24) rfl rfl Tryd.func46 (by kernel_rfl) rfl #[.int .i64 ea, .int .i64 255] rfl aR_ ?_; (with_reducible refine (kerbsuiteref12_within.calls ea 255 true _ Kb.out).mono ?_); rintro e w' ⟨rfl, ⟨nd, rfl⟩⟩; refine ⟨_, rfl, ?_⟩) | (go_at_call 46; (with_reducible refine (kerbsuiteref12_within.calls ja 4294967295 true _ dc.out).mono ?_); rintro e w' ⟨rfl, ⟨nd, rfl⟩⟩) | (go_at_call 46; (with_reducible refine (kerbsuiteref12_within.calls ia 4294967295 true _ ec.out).mono ?_); rintro e w' ⟨rfl, ⟨nd, rfl⟩⟩) | (go_at_call 46; (with_reducible refine (kerbsuiteref12_within.calls ha 255 false _ mc.out).mono ?_); rintro e w' ⟨rfl, ⟨nd, rfl⟩⟩))
        go_ret
        exact ⟨eW_, hB_⟩
       replace lc := Bool.eq_false_iff.mpr lc
       subst lc
       have H1 : (some 104) = some r := by rw [if_neg (show ¬ (false = true) by decide)] at H; exact H
       clear H
       have H := H1
       clear H1
       obtain rfl := Option.some.inj H
       have Fe := bc_ aa.out 0
       have Ge := bc_ aa.out 1
       have He := bc_ aa.out 2
       have Ie := bc_ aa.out 3
       have Je := bc_ aa.out 4
       have Ke := bc_ aa.out 5
       have Le := bc_ aa.out 6
       have Me := bc_ aa.out 7
       have Ne := bc_ aa.out 8
       have Oe := blk_frozen aa.out 0
       have Pe := blk_frozen aa.out 1
       have Qe := blk_frozen aa.out 2
       have Re := blk_frozen aa.out 3
       have Se := blk_frozen aa.out 4
       have Te := blk_frozen aa.out 5
       have Ue := blk_frozen aa.out 6
       have Ve := blk_frozen aa.out 7
       have We := blk_frozen aa.out 8
       go_wp2_with (first | ((with_reducible refine gate_callee (f := 46) rfl ?_); refine goesL_ (some 24) rfl rfl Tryd.func46 (by kernel_rfl) rfl #[.int .i64 ea, .int .i64 255] rfl aR_ ?_; (with_reducible refine (kerbsuiteref12_within.calls ea 255 true _ Kb.out).mono ?_); rintro e w' ⟨rfl, ⟨nd, rfl⟩⟩; refine ⟨_, rfl, ?_⟩) | (go_at_call 46; (with_reducible refine (kerbsuiteref12_within.calls ja 4294967295 true _ dc.out).mono ?_); rintro e w' ⟨rfl, ⟨nd, rfl⟩⟩) | (go_at_call 46; (with_reducible refine (kerbsuiteref12_within.calls ia 4294967295 false _ ec.out).mono ?_); rintro e w' ⟨rfl, ⟨nd, rfl⟩⟩))
       go_ret
       exact ⟨eW_, hB_⟩
      replace kc := Bool.eq_false_iff.mpr kc
      subst kc
      have H1 : (some 104) = some r := by rw [if_neg (show ¬ (false = true) by decide)] at H; exact H
      clear H
      have H := H1
      clear H1
      obtain rfl := Option.some.inj H
      have Xe := bc_ aa.out 0
      have Ye := bc_ aa.out 1
      have Ze := bc_ aa.out 2
      have af := bc_ aa.out 3
      have bf := bc_ aa.out 4
      have cf := bc_ aa.out 5
      have df := bc_ aa.out 6
      have ef := bc_ aa.out 7
      have ff := bc_ aa.out 8
      have gf := blk_frozen aa.out 0
      have hf := blk_frozen aa.out 1
      have jf := blk_frozen aa.out 2
      have kf := blk_frozen aa.out 3
      have lf := blk_frozen aa.out 4
      have mf := blk_frozen aa.out 5
      have nf := blk_frozen aa.out 6
      have pf := blk_frozen aa.out 7
      have qf := blk_frozen aa.out 8
      go_wp2_with (first | ((with_reducible refine gate_callee (f := 46) rfl ?_); refine goesL_ (some 24) rfl rfl Tryd.func46 (by kernel_rfl) rfl #[.int .i64 ea, .int .i64 255] rfl aR_ ?_; (with_reducible refine (kerbsuiteref12_within.calls ea 255 true _ Kb.out).mono ?_); rintro e w' ⟨rfl, ⟨nd, rfl⟩⟩; refine ⟨_, rfl, ?_⟩) | (go_at_call 46; (with_reducible refine (kerbsuiteref12_within.calls ja 4294967295 false _ dc.out).mono ?_); rintro e w' ⟨rfl, ⟨nd, rfl⟩⟩))
      go_ret
      exact ⟨eW_, hB_⟩
     replace jc := Bool.eq_false_iff.mpr jc
     subst jc
     have H1 : (some 104) = some r := by rw [if_neg (show ¬ (false = true) by decide)] at H; exact H
     clear H
     have H := H1
     clear H1
     obtain rfl := Option.some.inj H
     have rf := bc_ aa.out 0
     have sf := bc_ aa.out 1
     have tf := bc_ aa.out 2
     have uf := bc_ aa.out 3
     have vf := bc_ aa.out 4
     have wf := bc_ aa.out 5
     have xf := bc_ aa.out 6
     have yf := bc_ aa.out 7
     have zf := bc_ aa.out 8
     have Af := blk_frozen aa.out 0
     have Bf := blk_frozen aa.out 1
     have Cf := blk_frozen aa.out 2
     have Df := blk_frozen aa.out 3
     have Ef := blk_frozen aa.out 4
     have Ff := blk_frozen aa.out 5
     have Gf := blk_frozen aa.out 6
     have Hf := blk_frozen aa.out 7
     have If := blk_frozen aa.out 8
     go_wp2_with (first | ((with_reducible refine gate_callee (f := 46) rfl ?_); refine goesL_ (some 24) rfl rfl Tryd.func46 (by kernel_rfl) rfl #[.int .i64 ea, .int .i64 255] rfl aR_ ?_; (with_reducible refine (kerbsuiteref12_within.calls ea 255 false _ Kb.out).mono ?_); rintro e w' ⟨rfl, ⟨nd, rfl⟩⟩; refine ⟨_, rfl, ?_⟩))
     go_ret
     exact ⟨eW_, hB_⟩

/-! ### kerbsuiteref1_ValidRealm: function 37 -/
def kerbsuiteref1_ValidRealm.f (k : Nat) (a0 : ByteArray) : Option (Bool) := if (a0.size : Int) > 0 then ((kerbsuiteref1_text.f k a0 (⟨#[64]⟩ : ByteArray)).bind fun Na => (some Na)) else (some false)
set_option maxHeartbeats 8000000 in
set_option maxRecDepth 100000 in
theorem kerbsuiteref1_ValidRealm.calls (k : Nat) (a0 : ByteArray) (r : Bool) (w : World) (h : kerbsuiteref1_ValidRealm.f k a0 = some r) :
  Calls Tryd.prog 37 #[.string a0] w fun e w' => e = .returned (.bool r) ∧ Drawn0 w w' := by
 have H : (if (a0.size : Int) > 0 then ((kerbsuiteref1_text.f k a0 (⟨#[64]⟩ : ByteArray)).bind fun Na => (some Na)) else (some false)) = some r := h
 clear h
 by_cases c2 : (a0.size : Int) > 0
 ·rw [if_pos c2] at H
  have ed : decide (0 < (a0.size : Int)) = true := decide_eq_true c2
  have fd : decide (0 < a0.size) = true := decide_eq_true (by omega)
  clear c2
  replace H := Option.bind_eq_some_iff.mp H
  obtain ⟨Na, dd, H⟩ := H
  replace H : (some Na) = some r := H
  have A3 := aM_ dd
  clear dd
  obtain rfl := Option.some.inj H
  go_enter Tryd.func37, Tryd.ntmps37
  go_wp2_with (first | (go_at_call 62; (with_reducible refine (kerbsuiteref1_text.calls k a0 (⟨#[64]⟩ : ByteArray) Na _ A3.out).mono ?_); rintro e w' ⟨rfl, ⟨nd, rfl⟩⟩))
  go_ret
  exact ⟨by first | rfl | (simp; done) | (simp [*]; done), by repeat (first | exact Drawn0.refl _ | apply Drawn0.step)⟩
 rw [if_neg c2] at H
 have ed : decide (0 < (a0.size : Int)) = false := decide_eq_false c2
 have fd : decide (0 < a0.size) = false := decide_eq_false (by omega)
 clear c2
 obtain rfl := Option.some.inj H
 go_enter Tryd.func37, Tryd.ntmps37
 go_wp2
 go_ret
 exact ⟨by first | rfl | (simp; done) | (simp [*]; done), by repeat (first | exact Drawn0.refl _ | apply Drawn0.step)⟩

/-! ### kerbsuiteref12_before: function 38 -/
def kerbsuiteref12_before.f (da : ByteArray) (la : ByteArray) (ka : Int) (ea : Int) (ja : Int) (ha : Int) (ga : Int) (fa : Int) (ia : Int) (qa : ByteArray) (ya : ByteArray) (Oa : Int) (Pa : Int) (Qa : Int) (Ra : Int) (Sa : Int) (Ta : Int) (Ua : Int) : Option (Bool) := if (Op.bytesLess da.toList qa.toList) = true then (some true) else (if da.toList = qa.toList then (some (Op.bytesLess la.toList ya.toList)) else (some false))
set_option maxHeartbeats 8000000 in
set_option maxRecDepth 100000 in
theorem kerbsuiteref12_before.calls (da : ByteArray) (la : ByteArray) (ka : Int) (ea : Int) (ja : Int) (ha : Int) (ga : Int) (fa : Int) (ia : Int) (qa : ByteArray) (ya : ByteArray) (Oa : Int) (Pa : Int) (Qa : Int) (Ra : Int) (Sa : Int) (Ta : Int) (Ua : Int) (r : Bool) (w : World) (h : kerbsuiteref12_before.f da la ka ea ja ha ga fa ia qa ya Oa Pa Qa Ra Sa Ta Ua = some r) :
  Calls Tryd.prog 38 #[.agg #[.string da, .string la, .int .u64 ka, .int .i64 ea, .int .i64 ja, .int .i64 ha, .int .i64 ga, .int .i64 fa, .int .i64 ia], .agg #[.string qa, .string ya, .int .u64 Oa, .int .i64 Pa, .int .i64 Qa, .int .i64 Ra, .int .i64 Sa, .int .i64 Ta, .int .i64 Ua]] w fun e w' => e = .returned (.bool r) ∧ Below w.heap.size w w' := by
 have hu35 := Tryd.underlying35
 have HB := aM_ (Below.refl w.heap.size w)
 have H : (if (Op.bytesLess da.toList qa.toList) = true then (some true) else (if da.toList = qa.toList then (some (Op.bytesLess la.toList ya.toList)) else (some false))) = some r := h
 clear h
 by_cases c3 : (Op.bytesLess da.toList qa.toList) = true
 ·rw [if_pos c3] at H
  have gd : (Op.bytesLess da.toList qa.toList) = true := c3
  clear c3
  obtain rfl := Option.some.inj H
  go_enter Tryd.func38, Tryd.ntmps38
  go_wp2_with (first | ((with_reducible refine gate_dst (N := 2) rfl ?_); refine box_event ?hg (N := 2) ?hd (cs := #[.string da, .string la, .int .u64 ka, .int .i64 ea, .int .i64 ja, .int .i64 ha, .int .i64 ga, .int .i64 fa, .int .i64 ia]) (t := 35) ?hr ?_; (case hd => rfl); (case hg => rfl); (case hr => first | (go_simp; done) | (go_simp; rfl)); intro ma hg w4 hbox hb; have ba := aM_ (hbox); have qc := aM_ ((by rw [hg]; exact (below_size (bk_ HB.out)) : w.heap.size ≤ ma)); have rc := aM_ ((by rw [hg]; exact (below_size (bk_ HB.out)) : w.heap.size ≤ ma)); replace HB := aM_ (below_step (bk_ HB.out) hb); clear hb hbox hg) | ((with_reducible refine gate_dst (N := 3) rfl ?_); refine box_event ?hg (N := 3) ?hd (cs := #[.string qa, .string ya, .int .u64 Oa, .int .i64 Pa, .int .i64 Qa, .int .i64 Ra, .int .i64 Sa, .int .i64 Ta, .int .i64 Ua]) (t := 35) ?hr ?_; (case hd => rfl); (case hg => rfl); (case hr => first | (go_simp; done) | (go_simp; rfl)); intro ra hg w5 hbox hb; have ca := aM_ (hbox); have sc := aM_ ((by rw [hg]; exact (below_size hB_) : w.heap.size ≤ ra)); have tc := aM_ ((by rw [hg]; exact (below_size hB_) : w.heap.size ≤ ra)); replace HB := aM_ (below_step hB_ hb); have ta := aM_ ((by rw [hg]; exact Nat.ne_of_lt (blk_lt (g := ma) (o := .cells #[.string da, .string la, .int .u64 ka, .int .i64 ea, .int .i64 ja, .int .i64 ha, .int .i64 ga, .int .i64 fa, .int .i64 ia] 35 (0, 0)) (bk_ ba.out)) : ma ≠ ra)); have ua := aM_ ((by rw [hg]; exact Nat.ne_of_gt (blk_lt (g := ma) (o := .cells #[.string da, .string la, .int .u64 ka, .int .i64 ea, .int .i64 ja, .int .i64 ha, .int .i64 ga, .int .i64 fa, .int .i64 ia] 35 (0, 0)) (bk_ ba.out)) : ra ≠ ma)); replace ba := aM_ (blk_below (g := ma) (o := .cells #[.string da, .string la, .int .u64 ka, .int .i64 ea, .int .i64 ja, .int .i64 ha, .int .i64 ga, .int .i64 fa, .int .i64 ia] 35 (0, 0)) (bk_ ba.out) hb); clear hb hbox hg; have dh := ta.out; have eh := ua.out; have Za := bc_ ba.out 0; have ab := bc_ ba.out 1; have bb := bc_ ba.out 2; have cb := bc_ ba.out 3; have db := bc_ ba.out 4; have eb := bc_ ba.out 5; have fb := bc_ ba.out 6; have gb := bc_ ba.out 7; have ib := bc_ ba.out 8; have jb := blk_frozen ba.out 0; have kb := blk_frozen ba.out 1; have lb := blk_frozen ba.out 2; have mb := blk_frozen ba.out 3; have nb := blk_frozen ba.out 4; have ob := blk_frozen ba.out 5; have pb := blk_frozen ba.out 6; have qb := blk_frozen ba.out 7; have rb := blk_frozen ba.out 8; have sb := bc_ ca.out 0; have tb := bc_ ca.out 1; have ub := bc_ ca.out 2; have vb := bc_ ca.out 3; have wb := bc_ ca.out 4; have xb := bc_ ca.out 5; have yb := bc_ ca.out 6; have zb := bc_ ca.out 7; have Ab := bc_ ca.out 8; have Bb := blk_frozen ca.out 0; have Cb := blk_frozen ca.out 1; have Db := blk_frozen ca.out 2; have Eb := blk_frozen ca.out 3; have Fb := blk_frozen ca.out 4; have Gb := blk_frozen ca.out 5; have Hb := blk_frozen ca.out 6; have Ib := blk_frozen ca.out 7; have Jb := blk_frozen ca.out 8))
  go_ret
  exact ⟨eW_, hB_⟩
 rw [if_neg c3] at H
 have gd : (Op.bytesLess da.toList qa.toList) = false := by simpa using c3
 clear c3
 by_cases c9 : da.toList = qa.toList
 ·rw [if_pos c9] at H
  have id : (da.toList == qa.toList) = true := beq_iff_eq.mpr c9
  have jd : (da.toList != qa.toList) = false := bne_eq_false_iff_eq.mpr c9
  clear c9
  obtain rfl := Option.some.inj H
  go_enter Tryd.func38, Tryd.ntmps38
  go_wp2_with (first | ((with_reducible refine gate_dst (N := 2) rfl ?_); refine box_event ?hg (N := 2) ?hd (cs := #[.string da, .string la, .int .u64 ka, .int .i64 ea, .int .i64 ja, .int .i64 ha, .int .i64 ga, .int .i64 fa, .int .i64 ia]) (t := 35) ?hr ?_; (case hd => rfl); (case hg => rfl); (case hr => first | (go_simp; done) | (go_simp; rfl)); intro ma hg hh hbox hb; have ba := aM_ (hbox); have qc := aM_ ((by rw [hg]; exact (below_size (bk_ HB.out)) : w.heap.size ≤ ma)); have rc := aM_ ((by rw [hg]; exact (below_size (bk_ HB.out)) : w.heap.size ≤ ma)); replace HB := aM_ (below_step (bk_ HB.out) hb); clear hb hbox hg) | ((with_reducible refine gate_dst (N := 3) rfl ?_); refine box_event ?hg (N := 3) ?hd (cs := #[.string qa, .string ya, .int .u64 Oa, .int .i64 Pa, .int .i64 Qa, .int .i64 Ra, .int .i64 Sa, .int .i64 Ta, .int .i64 Ua]) (t := 35) ?hr ?_; (case hd => rfl); (case hg => rfl); (case hr => first | (go_simp; done) | (go_simp; rfl)); intro ra hg ih hbox hb; have ca := aM_ (hbox); have sc := aM_ ((by rw [hg]; exact (below_size hB_) : w.heap.size ≤ ra)); have tc := aM_ ((by rw [hg]; exact (below_size hB_) : w.heap.size ≤ ra)); replace HB := aM_ (below_step hB_ hb); have ta := aM_ ((by rw [hg]; exact Nat.ne_of_lt (blk_lt (g := ma) (o := .cells #[.string da, .string la, .int .u64 ka, .int .i64 ea, .int .i64 ja, .int .i64 ha, .int .i64 ga, .int .i64 fa, .int .i64 ia] 35 (0, 0)) (bk_ ba.out)) : ma ≠ ra)); have ua := aM_ ((by rw [hg]; exact Nat.ne_of_gt (blk_lt (g := ma) (o := .cells #[.string da, .string la, .int .u64 ka, .int .i64 ea, .int .i64 ja, .int .i64 ha, .int .i64 ga, .int .i64 fa, .int .i64 ia] 35 (0, 0)) (bk_ ba.out)) : ra ≠ ma)); replace ba := aM_ (blk_below (g := ma) (o := .cells #[.string da, .string la, .int .u64 ka, .int .i64 ea, .int .i64 ja, .int .i64 ha, .int .i64 ga, .int .i64 fa, .int .i64 ia] 35 (0, 0)) (bk_ ba.out) hb); clear hb hbox hg; have Vg := ta.out; have Wg := ua.out; have Jf := bc_ ba.out 0; have Kf := bc_ ba.out 1; have Lf := bc_ ba.out 2; have Mf := bc_ ba.out 3; have Nf := bc_ ba.out 4; have Of := bc_ ba.out 5; have Pf := bc_ ba.out 6; have Qf := bc_ ba.out 7; have Rf := bc_ ba.out 8; have Sf := blk_frozen ba.out 0; have Tf := blk_frozen ba.out 1; have Uf := blk_frozen ba.out 2; have Vf := blk_frozen ba.out 3; have Wf := blk_frozen ba.out 4; have Xf := blk_frozen ba.out 5; have Yf := blk_frozen ba.out 6; have Zf := blk_frozen ba.out 7; have ag := blk_frozen ba.out 8; have Lb := bc_ ca.out 0; have Mb := bc_ ca.out 1; have Nb := bc_ ca.out 2; have Ob := bc_ ca.out 3; have Pb := bc_ ca.out 4; have Qb := bc_ ca.out 5; have Rb := bc_ ca.out 6; have Sb := bc_ ca.out 7; have Tb := bc_ ca.out 8; have Ub := blk_frozen ca.out 0; have Vb := blk_frozen ca.out 1; have Wb := blk_frozen ca.out 2; have Xb := blk_frozen ca.out 3; have Yb := blk_frozen ca.out 4; have Zb := blk_frozen ca.out 5; have ac := blk_frozen ca.out 6; have bc := blk_frozen ca.out 7; have cc := blk_frozen ca.out 8))
  go_ret
  exact ⟨eW_, hB_⟩
 rw [if_neg c9] at H
 have id : (da.toList == qa.toList) = false := beq_eq_false_iff_ne.mpr c9
 have jd : (da.toList != qa.toList) = true := bne_iff_ne.mpr c9
 obtain rfl := Option.some.inj H
 go_enter Tryd.func38, Tryd.ntmps38
 go_wp2_with (first | ((with_reducible refine gate_dst (N := 2) rfl ?_); refine box_event ?hg (N := 2) ?hd (cs := #[.string da, .string la, .int .u64 ka, .int .i64 ea, .int .i64 ja, .int .i64 ha, .int .i64 ga, .int .i64 fa, .int .i64 ia]) (t := 35) ?hr ?_; (case hd => rfl); (case hg => rfl); (case hr => first | (go_simp; done) | (go_simp; rfl)); intro ma hg jh hbox hb; have ba := aM_ (hbox); have qc := aM_ ((by rw [hg]; exact (below_size (bk_ HB.out)) : w.heap.size ≤ ma)); have rc := aM_ ((by rw [hg]; exact (below_size (bk_ HB.out)) : w.heap.size ≤ ma)); replace HB := aM_ (below_step (bk_ HB.out) hb); clear hb hbox hg) | ((with_reducible refine gate_dst (N := 3) rfl ?_); refine box_event ?hg (N := 3) ?hd (cs := #[.string qa, .string ya, .int .u64 Oa, .int .i64 Pa, .int .i64 Qa, .int .i64 Ra, .int .i64 Sa, .int .i64 Ta, .int .i64 Ua]) (t := 35) ?hr ?_; (case hd => rfl); (case hg => rfl); (case hr => first | (go_simp; done) | (go_simp; rfl)); intro ra hg kh hbox hb; have ca := aM_ (hbox); have sc := aM_ ((by rw [hg]; exact (below_size hB_) : w.heap.size ≤ ra)); have tc := aM_ ((by rw [hg]; exact (below_size hB_) : w.heap.size ≤ ra)); replace HB := aM_ (below_step hB_ hb); have ta := aM_ ((by rw [hg]; exact Nat.ne_of_lt (blk_lt (g := ma) (o := .cells #[.string da, .string la, .int .u64 ka, .int .i64 ea, .int .i64 ja, .int .i64 ha, .int .i64 ga, .int .i64 fa, .int .i64 ia] 35 (0, 0)) (bk_ ba.out)) : ma ≠ ra)); have ua := aM_ ((by rw [hg]; exact Nat.ne_of_gt (blk_lt (g := ma) (o := .cells #[.string da, .string la, .int .u64 ka, .int .i64 ea, .int .i64 ja, .int .i64 ha, .int .i64 ga, .int .i64 fa, .int .i64 ia] 35 (0, 0)) (bk_ ba.out)) : ra ≠ ma)); replace ba := aM_ (blk_below (g := ma) (o := .cells #[.string da, .string la, .int .u64 ka, .int .i64 ea, .int .i64 ja, .int .i64 ha, .int .i64 ga, .int .i64 fa, .int .i64 ia] 35 (0, 0)) (bk_ ba.out) hb); clear hb hbox hg; have Xg := ta.out; have Yg := ua.out; have bg := bc_ ba.out 0; have cg := bc_ ba.out 1; have dg := bc_ ba.out 2; have eg := bc_ ba.out 3; have fg := bc_ ba.out 4; have gg := bc_ ba.out 5; have ig := bc_ ba.out 6; have jg := bc_ ba.out 7; have kg := bc_ ba.out 8; have lg := blk_frozen ba.out 0; have mg := blk_frozen ba.out 1; have ng := blk_frozen ba.out 2; have og := blk_frozen ba.out 3; have pg := blk_frozen ba.out 4; have qg := blk_frozen ba.out 5; have rg := blk_frozen ba.out 6; have sg := blk_frozen ba.out 7; have tg := blk_frozen ba.out 8; have ug := bc_ ca.out 0; have vg := bc_ ca.out 1; have wg := bc_ ca.out 2; have xg := bc_ ca.out 3; have yg := bc_ ca.out 4; have zg := bc_ ca.out 5; have Ag := bc_ ca.out 6; have Bg := bc_ ca.out 7; have Cg := bc_ ca.out 8; have Dg := blk_frozen ca.out 0; have Eg := blk_frozen ca.out 1; have Fg := blk_frozen ca.out 2; have Gg := blk_frozen ca.out 3; have Hg := blk_frozen ca.out 4; have Ig := blk_frozen ca.out 5; have Jg := blk_frozen ca.out 6; have Kg := blk_frozen ca.out 7; have Lg := blk_frozen ca.out 8))
 go_ret
 exact ⟨eW_, hB_⟩

end Go.Proofs.YthfdfoigoomaoaaDoor.PDb
