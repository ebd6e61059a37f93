/- The walks of functions of the translation: each call returns what the plain function beside it says. -/
import Derived.Test.YthfdfoigoomaoaaDoorPDbx0
namespace Go.Proofs.YthfdfoigoomaoaaDoor.PDb
open Go.RowKit Go.Proofs.YthfdfoigoomaoaaDoorW.PrintWords Go.Proofs.YthfdfoigoomaoaaDoorW.PrintLast Go.Proofs.YthfdfoigoomaoaaDoorW.PrintMore Go.Proofs.YthfdfoigoomaoaaDoor.Aid
attribute [local go_sem] max2_int min2_int max_two min_two max_three min_three max_four min_four aid_str_gtr aid_str_leq   -- for this text's walks alone
set_option linter.unusedVariables false
set_option linter.unusedSimpArgs false

/-! ### kerbsuitelaw12_long: function 8 -/
mutual
def kerbsuitelaw12_long.j0 : Nat → Bool → ByteArray → List (S35) → Option (Bool)
 | 0, _, _, _ => none
 | k + 1, qd, pb, Ya => if qd = true then (some true) else (kerbsuitelaw12_long.l0 k 0 pb Ya)
def kerbsuitelaw12_long.l0 : Nat → Int → ByteArray → List (S35) → Option (Bool)
 | 0, _, _, _ => none
 | k + 1, x3, pb, Ya => if x3 < (Ya.length : Int) then (if 0 ≤ x3 then (if (((rd_T35 Ya x3).f0).size : Int) > 100 then (some true) else (if (((rd_T35 Ya x3).f1).size : Int) > 100 then (some true) else (kerbsuitelaw12_long.l0 k (wrap64 (x3 + 1)) pb Ya))) else (none)) else (some false)
end
def kerbsuitelaw12_long.f (k : Nat) (Ga : ByteArray) (da : List (S35)) : Option (Bool) := if (da.length : Int) > 70 then (kerbsuitelaw12_long.j0 k true Ga da) else (kerbsuitelaw12_long.j0 k (decide ((Ga.size : Int) > 100)) Ga da)
set_option maxHeartbeats 8000000 in
set_option maxRecDepth 100000 in
theorem kerbsuitelaw12_long.calls (k : Nat) (Ga : ByteArray) (tb : Option Addr) (ub : Nat) (da : List (S35)) (r : Bool) (w : World) (hr0_1 : Kd.C k35 w tb da.length da) (hc0_1 : da.length ≤ ub) (h : kerbsuitelaw12_long.f k Ga da = some r) :
  Calls Tryd.prog 8 #[.agg #[.string Ga, .slice tb da.length ub]] w fun e w' => e = .returned (.bool r) ∧ Below w.heap.size w w' := by
 have hu24 := Tryd.underlying24
 have ob := aM_ hr0_1
 have Dd := aM_ hc0_1
 clear hr0_1 hc0_1
 have HB := aM_ (Below.refl w.heap.size w)
 have H : (if (da.length : Int) > 70 then (kerbsuitelaw12_long.j0 k true Ga da) else (kerbsuitelaw12_long.j0 k (decide ((Ga.size : Int) > 100)) Ga da)) = some r := h
 clear h
 have mc := aM_ H
 clear H
 go_enter Tryd.func8, Tryd.ntmps8
 go_upto_region 1 with (first | ((with_reducible refine gate_dst (N := 1) rfl ?_); (try (refine gate_guard (by rfl) ?_; dsimp only)); refine box_event ?hg (N := 1) ?hd (cs := #[.string Ga, .slice tb da.length ub]) (t := 24) ?hr ?_; (case hd => rfl); (case hg => rfl); (case hr => first | (go_simp; done) | (go_simp; rfl)); intro qb hg w3 hbox hb; have ga := aM_ (hbox); have Ed := aM_ ((by rw [hg]; exact (below_size (bk_ HB.out)) : w.heap.size ≤ qb)); have Fd := aM_ ((by rw [hg]; exact (below_size (bk_ HB.out)) : w.heap.size ≤ qb)); replace HB := aM_ (below_step (bk_ HB.out) hb); clear hb hbox hg))
 (try simp only [Act.put, sA_, sB_, sC_])
 go_cut [13] (fun sd wc => ∃ (kq : Nat) (rb : Bool), sd = .bool rb ∧ Aside0 (kerbsuitelaw12_long.j0 kq rb Ga da = some r) ∧ Aside0 (kq ≤ k) ∧ Aside0 (wc.heap[qb]? = some (.cells #[.string Ga, (.slice tb da.length ub)] 24 (0, 0))) ∧ Aside0 (Below w.heap.size w wc))
 case first =>
  have H := mc.out
  clear mc
  by_cases c4 : (da.length : Int) > 70
  ·rw [if_pos c4] at H
   have cb : decide (70 < (da.length : Int)) = true := decide_eq_true c4
   have Sb : decide (70 < da.length) = true := decide_eq_true (by omega)
   clear c4
   (first | rw [cb] | (simp only [i64_w, i32_w]; rw [cb]) | skip)
   have H' := aM_ H
   clear H
   have Ib := bc_ ga.out 0
   have Jb := bc_ ga.out 1
   have Kb := blk_frozen ga.out 0
   have Lb := blk_frozen ga.out 1
   go_wp2
   go_meet
   case rel => exact ⟨_, (true), rS_, H', ⟨by first | omega | exact Nat.le_refl _⟩, ⟨by refine bk_ ?_; exact ga.out⟩, ⟨hB_⟩⟩
  rw [if_neg c4] at H
  have cb : decide (70 < (da.length : Int)) = false := decide_eq_false c4
  have Sb : decide (70 < da.length) = false := decide_eq_false (by omega)
  clear c4
  (first | rw [cb] | (simp only [i64_w, i32_w]; rw [cb]) | skip)
  have H' := aM_ H
  clear H
  have vb := bc_ ga.out 0
  have wb := bc_ ga.out 1
  have Mb := blk_frozen ga.out 0
  have xb := blk_frozen ga.out 1
  go_wp2
  go_meet
  case rel => exact ⟨_, (decide ((Ga.size : Int) > 100)), rS_, H', ⟨by first | omega | exact Nat.le_refl _⟩, ⟨by refine bk_ ?_; exact ga.out⟩, ⟨hB_⟩⟩
 case rest =>
  clear mc
  try clear p2
  try clear c4
  try clear cb
  try clear Sb
  try clear Ib
  try clear Jb
  try clear vb
  try clear wb
  try clear Kb
  try clear Lb
  try clear Mb
  try clear xb
  obtain ⟨kq, rb, rfl, HA, xc, ga, HB⟩ := hcut
  cases kq with
  | zero => exact absurd HA.out (by simp [kerbsuitelaw12_long.j0])
  | succ nc =>
   have H := HA.out
   clear HA
   simp only [kerbsuitelaw12_long.j0] at H
   by_cases c7 : rb = true
   ·subst c7
    have H1 : (some true) = some r := by rw [if_pos rfl] at H; exact H
    clear H
    have H := H1
    clear H1
    obtain rfl := Option.some.inj H
    go_wp2
    go_ret
    exact ⟨eW_, hB_⟩
   replace c7 := Bool.eq_false_iff.mpr c7
   subst c7
   have H1 : (kerbsuitelaw12_long.l0 nc 0 Ga da) = some r := by rw [if_neg (show ¬ (false = true) by decide)] at H; exact H
   clear H
   have H := H1
   clear H1
   have H' := aM_ H
   clear H
   go_wp2
   go_loopg [3] nc (fun kq v3 w' => ∃ (ja : Int), v3 = .int .i64 ja ∧ Aside0 (kerbsuitelaw12_long.l0 kq ja Ga da = some r) ∧ Aside0 (kq ≤ nc) ∧ Aside0 (w'.heap[qb]? = some (.cells #[.string Ga, (.slice tb da.length ub)] 24 (0, 0))) ∧ Aside0 (Below w.heap.size w w'))
   case atStart => exact ⟨(0), rS_, H', ⟨Nat.le_refl _⟩, ⟨by refine bk_ ?_; exact ga.out⟩, ⟨hB_⟩⟩
   case round =>
    clear H'
    try clear p2
    try clear c4
    try clear cb
    try clear Sb
    try clear c7
    try clear Ib
    try clear Jb
    try clear vb
    try clear wb
    try clear Kb
    try clear Lb
    try clear Mb
    try clear xb
    try clear p2
    obtain ⟨ja, rfl, HA, yc, ga, HB⟩ := hrel
    cases gk with
    | zero => exact absurd HA.out (by simp [kerbsuitelaw12_long.l0])
    | succ k2 =>
     have H := HA.out
     clear HA
     simp only [kerbsuitelaw12_long.l0] at H
     by_cases c8 : ja < (da.length : Int)
     ·rw [if_pos c8] at H
      have oc : decide (ja < (da.length : Int)) = true := decide_eq_true c8
      clear c8
      by_cases c9 : 0 ≤ ja
      ·rw [if_pos c9] at H
       have Ec : decide (0 ≤ ja) = true := decide_eq_true c9
       clear c9
       by_cases Db : (((rd_T35 da ja).f0).size : Int) > 100
       ·rw [if_pos Db] at H
        have rc : decide (100 < (((rd_T35 da ja).f0).size : Int)) = true := decide_eq_true Db
        have sc : decide (100 < ((rd_T35 da ja).f0).size) = true := decide_eq_true (by omega)
        clear Db
        obtain rfl := Option.some.inj H
        have Qc := bc_ ga.out 0
        have Rc := bc_ ga.out 1
        have Sc := blk_frozen ga.out 0
        have Tc := blk_frozen ga.out 1
        have ab : 0 ≤ (ja : Int) := dT_
        have bb : ja < (da.length : Int) := dT_
        obtain ⟨sb, zb, sa, ta, ua, va, wa, xa, ya, za, Aa⟩ := at_T35 ob.out ja ab bb
        cases zb
        replace sa := (HB.out.cell (World.block_lt_of_cell? w _ sa)).trans sa
        replace ta := (HB.out.cell (World.block_lt_of_cell? w _ ta)).trans ta
        replace ua := (HB.out.cell (World.block_lt_of_cell? w _ ua)).trans ua
        replace va := (HB.out.cell (World.block_lt_of_cell? w _ va)).trans va
        replace wa := (HB.out.cell (World.block_lt_of_cell? w _ wa)).trans wa
        replace xa := (HB.out.cell (World.block_lt_of_cell? w _ xa)).trans xa
        replace ya := (HB.out.cell (World.block_lt_of_cell? w _ ya)).trans ya
        replace za := (HB.out.cell (World.block_lt_of_cell? w _ za)).trans za
        replace Aa := (HB.out.cell (World.block_lt_of_cell? w _ Aa)).trans Aa
        replace ab := eq_true ab
        replace bb := eq_true bb
        go_wp2
        go_ret
        exact ⟨eW_, hB_⟩
       rw [if_neg Db] at H
       have rc : decide (100 < (((rd_T35 da ja).f0).size : Int)) = false := decide_eq_false Db
       have sc : decide (100 < ((rd_T35 da ja).f0).size) = false := decide_eq_false (by omega)
       clear Db
       by_cases Eb : (((rd_T35 da ja).f1).size : Int) > 100
       ·rw [if_pos Eb] at H
        have tc : decide (100 < (((rd_T35 da ja).f1).size : Int)) = true := decide_eq_true Eb
        have uc : decide (100 < ((rd_T35 da ja).f1).size) = true := decide_eq_true (by omega)
        clear Eb
        obtain rfl := Option.some.inj H
        have Uc := bc_ ga.out 0
        have Vc := bc_ ga.out 1
        have Wc := blk_frozen ga.out 0
        have Xc := blk_frozen ga.out 1
        have ab : 0 ≤ (ja : Int) := dT_
        have bb : ja < (da.length : Int) := dT_
        obtain ⟨sb, zb, sa, ta, ua, va, wa, xa, ya, za, Aa⟩ := at_T35 ob.out ja ab bb
        cases zb
        replace sa := (HB.out.cell (World.block_lt_of_cell? w _ sa)).trans sa
        replace ta := (HB.out.cell (World.block_lt_of_cell? w _ ta)).trans ta
        replace ua := (HB.out.cell (World.block_lt_of_cell? w _ ua)).trans ua
        replace va := (HB.out.cell (World.block_lt_of_cell? w _ va)).trans va
        replace wa := (HB.out.cell (World.block_lt_of_cell? w _ wa)).trans wa
        replace xa := (HB.out.cell (World.block_lt_of_cell? w _ xa)).trans xa
        replace ya := (HB.out.cell (World.block_lt_of_cell? w _ ya)).trans ya
        replace za := (HB.out.cell (World.block_lt_of_cell? w _ za)).trans za
        replace Aa := (HB.out.cell (World.block_lt_of_cell? w _ Aa)).trans Aa
        replace ab := eq_true ab
        replace bb := eq_true bb
        have jb : 0 ≤ (ja : Int) := dT_
        have kb : ja < (da.length : Int) := dT_
        obtain ⟨Hb, Tb, Na, Oa, Pa, Qa, Ra, Sa, Ta, Ua, Va⟩ := at_T35 ob.out ja jb kb
        obtain rfl : sb = Hb := (by injection Tb)
        replace Na := (HB.out.cell (World.block_lt_of_cell? w _ Na)).trans Na
        replace Oa := (HB.out.cell (World.block_lt_of_cell? w _ Oa)).trans Oa
        replace Pa := (HB.out.cell (World.block_lt_of_cell? w _ Pa)).trans Pa
        replace Qa := (HB.out.cell (World.block_lt_of_cell? w _ Qa)).trans Qa
        replace Ra := (HB.out.cell (World.block_lt_of_cell? w _ Ra)).trans Ra
        replace Sa := (HB.out.cell (World.block_lt_of_cell? w _ Sa)).trans Sa
        replace Ta := (HB.out.cell (World.block_lt_of_cell? w _ Ta)).trans Ta
        replace Ua := (HB.out.cell (World.block_lt_of_cell? w _ Ua)).trans Ua
        replace Va := (HB.out.cell (World.block_lt_of_cell? w _ Va)).trans Va
        replace jb := eq_true jb
        replace kb := eq_true kb
        go_wp2
        go_ret
        exact ⟨eW_, hB_⟩
       rw [if_neg Eb] at H
       have tc : decide (100 < (((rd_T35 da ja).f1).size : Int)) = false := decide_eq_false Eb
       have uc : decide (100 < ((rd_T35 da ja).f1).size) = false := decide_eq_false (by omega)
       clear Eb
       have H' := aM_ H
       clear H
       have cc := bc_ ga.out 0
       have dc := bc_ ga.out 1
       have ec := blk_frozen ga.out 0
       have fc := blk_frozen ga.out 1
       have ab : 0 ≤ (ja : Int) := dT_
       have bb : ja < (da.length : Int) := dT_
       obtain ⟨sb, zb, sa, ta, ua, va, wa, xa, ya, za, Aa⟩ := at_T35 ob.out ja ab bb
       cases zb
       replace sa := (HB.out.cell (World.block_lt_of_cell? w _ sa)).trans sa
       replace ta := (HB.out.cell (World.block_lt_of_cell? w _ ta)).trans ta
       replace ua := (HB.out.cell (World.block_lt_of_cell? w _ ua)).trans ua
       replace va := (HB.out.cell (World.block_lt_of_cell? w _ va)).trans va
       replace wa := (HB.out.cell (World.block_lt_of_cell? w _ wa)).trans wa
       replace xa := (HB.out.cell (World.block_lt_of_cell? w _ xa)).trans xa
       replace ya := (HB.out.cell (World.block_lt_of_cell? w _ ya)).trans ya
       replace za := (HB.out.cell (World.block_lt_of_cell? w _ za)).trans za
       replace Aa := (HB.out.cell (World.block_lt_of_cell? w _ Aa)).trans Aa
       replace ab := eq_true ab
       replace bb := eq_true bb
       have jb : 0 ≤ (ja : Int) := dT_
       have kb : ja < (da.length : Int) := dT_
       obtain ⟨Hb, Tb, Na, Oa, Pa, Qa, Ra, Sa, Ta, Ua, Va⟩ := at_T35 ob.out ja jb kb
       obtain rfl : sb = Hb := (by injection Tb)
       replace Na := (HB.out.cell (World.block_lt_of_cell? w _ Na)).trans Na
       replace Oa := (HB.out.cell (World.block_lt_of_cell? w _ Oa)).trans Oa
       replace Pa := (HB.out.cell (World.block_lt_of_cell? w _ Pa)).trans Pa
       replace Qa := (HB.out.cell (World.block_lt_of_cell? w _ Qa)).trans Qa
       replace Ra := (HB.out.cell (World.block_lt_of_cell? w _ Ra)).trans Ra
       replace Sa := (HB.out.cell (World.block_lt_of_cell? w _ Sa)).trans Sa
       replace Ta := (HB.out.cell (World.block_lt_of_cell? w _ Ta)).trans Ta
       replace Ua := (HB.out.cell (World.block_lt_of_cell? w _ Ua)).trans Ua
       replace Va := (HB.out.cell (World.block_lt_of_cell? w _ Va)).trans Va
       replace jb := eq_true jb
       replace kb := eq_true kb
       go_wp2
       go_roundg k2
       case measure => have := xc.out; have := yc.out; omega
       case rel => exact ⟨(wrap64 (ja + 1)), rS_, H', ⟨by have := xc.out; have := yc.out; omega⟩, ⟨by refine bk_ ?_; exact ga.out⟩, ⟨hB_⟩⟩
      rw [if_neg c9] at H
      exact absurd H (by simp)
     rw [if_neg c8] at H
     have oc : decide (ja < (da.length : Int)) = false := decide_eq_false c8
     clear c8
     obtain rfl := Option.some.inj H
     have gc := bc_ ga.out 0
     have hc := bc_ ga.out 1
     have ic := blk_frozen ga.out 0
     have jc := blk_frozen ga.out 1
     go_wp2
     go_ret
     exact ⟨eW_, hB_⟩

/-! ### kerbsuitedata_Realms: function 58 -/
def kerbsuitedata_Realms.f  : Option (List ByteArray) := some (([(⟨#[65, 84, 72]⟩ : ByteArray), (⟨#[66, 79, 83]⟩ : ByteArray), (⟨#[67, 65, 77]⟩ : ByteArray)] : List ByteArray))
set_option maxHeartbeats 8000000 in
set_option maxRecDepth 100000 in
theorem kerbsuitedata_Realms.calls  (r : List ByteArray) (w : World) (h : kerbsuitedata_Realms.f  = some r) :
  Calls Tryd.prog 58 #[] w fun e w' => ∃ zc : Value, e = .returned (zc) ∧ Kd.R Kd.string 9 w' w.heap.size (fun _ => True) zc r ∧ Below w.heap.size w w' := by
 have HB := aM_ (Below.refl w.heap.size w)
 have H : (some (([(⟨#[65, 84, 72]⟩ : ByteArray), (⟨#[66, 79, 83]⟩ : ByteArray), (⟨#[67, 65, 77]⟩ : ByteArray)] : List ByteArray))) = some r := h
 clear h
 obtain ⟨Fc, hy177⟩ : ∃ y_ : List ByteArray, y_ = (([(⟨#[65, 84, 72]⟩ : ByteArray), (⟨#[66, 79, 83]⟩ : ByteArray), (⟨#[67, 65, 77]⟩ : ByteArray)] : List ByteArray)) := ⟨_, rfl⟩
 replace H : (some Fc) = some r := by first | (rw [hy177]; with_reducible exact H) | (have H2_ := (Option.bind_some _ _).symm.trans H; rw [hy177]; with_reducible exact H2_) | (have H2_ := (Option.bind_some _ _).symm.trans H; with_reducible exact H2_) | with_reducible exact H | (rw [hy177]; exact H) | exact H
 have Ny177 := aM_ hy177
 clear hy177
 obtain rfl := Option.some.inj H
 go_enter Tryd.func58, Tryd.ntmps58
 go_wp2_with (first | ((with_reducible refine gate_dst (N := 1) rfl ?_); refine Kd.R_lit Kd.string _ 9 ?hg (N := 1) ?hd (xs := ([(⟨#[65, 84, 72]⟩ : ByteArray), (⟨#[66, 79, 83]⟩ : ByteArray), (⟨#[67, 65, 77]⟩ : ByteArray)] : List ByteArray)) (inner := [.string (⟨#[65, 84, 72]⟩ : ByteArray), .string (⟨#[66, 79, 83]⟩ : ByteArray), .string (⟨#[67, 65, 77]⟩ : ByteArray)]) (ok := fun _ => True) (okp := fun _ => True) ?hr ?hp (fun _ hk => hk) trivial (Below.refl _ _) (Nat.le_refl _) (by simp) ?_; (case hd => rfl); (case hg => rfl); (case hr => first | (go_simp; done) | (go_simp; rfl)); (case hp => exact (Reps.one (show Kd.M Kd.string _ _ _ (⟨#[65, 84, 72]⟩ : ByteArray) [.string (⟨#[65, 84, 72]⟩ : ByteArray)] from rfl) (Reps.one (show Kd.M Kd.string _ _ _ (⟨#[66, 79, 83]⟩ : ByteArray) [.string (⟨#[66, 79, 83]⟩ : ByteArray)] from rfl) (Reps.one (show Kd.M Kd.string _ _ _ (⟨#[67, 65, 77]⟩ : ByteArray) [.string (⟨#[67, 65, 77]⟩ : ByteArray)] from rfl) (Reps.none _ _))))); intro Td w1 Nb hb hg_ hnew_; clear hg_ hnew_; (first | rw [← Ny177.out] at Nb | (simp only [Int.reduceToNat] at Nb; rw [← Ny177.out] at Nb)); have vc := aM_ (Kd.R_lower Nb (below_size (bk_ HB.out))); replace HB := aM_ (below_step (bk_ HB.out) hb); clear hb Nb))
 go_ret
 exact ⟨_, eW_, by refine bk_ ?_; exact vc.out, hB_⟩

/-! ### kerbsuitedata_Realm: function 33 -/
def kerbsuitedata_Realm.f (a0 : Int) : Option (ByteArray) := (kerbsuitedata_Realms.f).bind fun Ka => (if 0 ≤ (Int.tmod a0 3) then (if (Int.tmod a0 3) < (Ka.length : Int) then (some (rdOf ByteArray.empty Ka (Int.tmod a0 3))) else (none)) else (none))
set_option maxHeartbeats 8000000 in
set_option maxRecDepth 100000 in
theorem kerbsuitedata_Realm.calls (a0 : Int) (r : ByteArray) (w : World) (h : kerbsuitedata_Realm.f a0 = some r) :
  Calls Tryd.prog 33 #[.int .i64 a0] w fun e w' => e = .returned (.string r) ∧ Below w.heap.size w w' := by
 have HB := aM_ (Below.refl w.heap.size w)
 have H : ((kerbsuitedata_Realms.f).bind fun Ka => (if 0 ≤ (Int.tmod a0 3) then (if (Int.tmod a0 3) < (Ka.length : Int) then (some (rdOf ByteArray.empty Ka (Int.tmod a0 3))) else (none)) else (none))) = some r := h
 clear h
 replace H := Option.bind_eq_some_iff.mp H
 obtain ⟨Ka, Ac, H⟩ := H
 replace H : (if 0 ≤ (Int.tmod a0 3) then (if (Int.tmod a0 3) < (Ka.length : Int) then (some (rdOf ByteArray.empty Ka (Int.tmod a0 3))) else (none)) else (none)) = some r := H
 have A2 := aM_ Ac
 clear Ac
 obtain ⟨ib, hji3⟩ : ∃ j_ : Int, (Int.tmod a0 3) = j_ := ⟨_, rfl⟩
 replace H : (if 0 ≤ (ib) then (if (ib) < (Ka.length : Int) then (some (rdOf ByteArray.empty Ka (ib))) else (none)) else (none)) = some r := by first | (rw [hji3] at H; exact H) | (simp only [hji3] at H ⊢; exact H)
 (try rw [hji3] at A2)
 by_cases c4 : 0 ≤ (ib)
 ·rw [if_pos c4] at H
  have cb : decide (0 ≤ (ib)) = true := decide_eq_true c4
  clear c4
  by_cases c5 : (ib) < (Ka.length : Int)
  ·rw [if_pos c5] at H
   have pc : decide ((ib) < (Ka.length : Int)) = true := decide_eq_true c5
   clear c5
   obtain rfl := Option.some.inj H
   go_enter Tryd.func33, Tryd.ntmps33
   go_wp2_with (first | ((with_reducible refine gate_callee (f := 58) rfl ?_); refine goesL_ (some 3) rfl rfl Tryd.func58 (by kernel_rfl) rfl #[] rfl aR_ ?_; (with_reducible refine (kerbsuitedata_Realms.calls  Ka _ A2.out).mono ?_); rintro e w6 ⟨Ud, rfl, Bc, hb⟩; refine ⟨_, rfl, ?_⟩; have bc := aM_ (Kd.R_lower Bc (below_size (bk_ HB.out))); replace HB := aM_ (below_step (bk_ HB.out) hb); clear hb Bc; obtain ⟨de, ee, vd⟩ := Kd.R_slice bc.out; subst vd; have Ub : 0 ≤ ((ib) : Int) := dT_; have Vb : (ib) < (Ka.length : Int) := dT_; obtain ⟨Gd, Hc, Yc⟩ := Kd.at_string (Kd.R_reads' bc.out).2.2 (ib) Ub Vb; cases Hc; replace Ub := eq_true Ub; replace Vb := eq_true Vb))
   go_ret
   exact ⟨by first | rfl | (simp [errW_none, errW_some] <;> rfl) | (simp only [← hji3]; first | rfl | (simp [errW_none, errW_some] <;> rfl)) | (simp [*, errW_none, errW_some] <;> rfl), hB_⟩
  rw [if_neg c5] at H
  exact absurd H (by simp)
 rw [if_neg c4] at H
 exact absurd H (by simp)

/-! ### kerbsuitedata_User: function 16 -/
def kerbsuitedata_User.f (a0 : Int) : Option (ByteArray × ByteArray × ByteArray) := (some (([(⟨#[97, 110, 110]⟩ : ByteArray), (⟨#[98, 111, 98]⟩ : ByteArray), (⟨#[99, 97, 116]⟩ : ByteArray)] : List ByteArray) : List ByteArray)).bind fun ma => (if 0 ≤ (Int.tmod a0 3) then (if (Int.tmod a0 3) < (ma.length : Int) then ((kerbsuitedata_Realm.f (wrap64 (Int.tdiv a0 3))).bind fun Ba => (some (rdOf ByteArray.empty ma (Int.tmod a0 3), (⟨#[]⟩ : ByteArray), Ba))) else (none)) else (none))
def kerbsuitedata_User.T1 : Bool × List (List Nat × List Nat) := (true,[([], []), ([], []), ([1], [1]), ([0, 2], [0, 2]), ([3], [3]), ([], []), ([5], [5]), ([6], [6]), ([4, 7], [4, 7]), ([8, 7, 0, 1, 2, 3, 4, 5, 6, 7, 8], [8])])
def kerbsuitedata_User.B1 : List Nat := [0, 0, 2, 7, 15, 0, 32, 96, 255, 511]
theorem kerbsuitedata_User.tab1 : rtab .any (opsOf Tryd.f16 1) = kerbsuitedata_User.T1 := by kernel_rfl
theorem kerbsuitedata_User.bits1 : waitsOk kerbsuitedata_User.T1.2 kerbsuitedata_User.B1 = true := by kernel_rfl
set_option maxHeartbeats 8000000 in
set_option maxRecDepth 100000 in
theorem kerbsuitedata_User.calls (a0 : Int) (r1 : ByteArray) (r2 : ByteArray) (r3 : ByteArray) (w : World) (h : kerbsuitedata_User.f a0 = some (r1, r2, r3)) :
  Calls Tryd.prog 16 #[.int .i64 a0] w fun e w' => e = .returned (.agg #[.string r1, .string r2, .string r3]) ∧ Below w.heap.size w w' := by
 have hu41 := Tryd.underlying41
 have HB := aM_ (Below.refl w.heap.size w)
 have H : ((some (([(⟨#[97, 110, 110]⟩ : ByteArray), (⟨#[98, 111, 98]⟩ : ByteArray), (⟨#[99, 97, 116]⟩ : ByteArray)] : List ByteArray) : List ByteArray)).bind fun ma => (if 0 ≤ (Int.tmod a0 3) then (if (Int.tmod a0 3) < (ma.length : Int) then ((kerbsuitedata_Realm.f (wrap64 (Int.tdiv a0 3))).bind fun Ba => (some (rdOf ByteArray.empty ma (Int.tmod a0 3), (⟨#[]⟩ : ByteArray), Ba))) else (none)) else (none))) = some (r1, r2, r3) := h
 clear h
 obtain ⟨ma, hy185⟩ : ∃ y_ : List ByteArray, y_ = (([(⟨#[97, 110, 110]⟩ : ByteArray), (⟨#[98, 111, 98]⟩ : ByteArray), (⟨#[99, 97, 116]⟩ : ByteArray)] : List ByteArray)) := ⟨_, rfl⟩
 replace H : (if 0 ≤ (Int.tmod a0 3) then (if (Int.tmod a0 3) < (ma.length : Int) then ((kerbsuitedata_Realm.f (wrap64 (Int.tdiv a0 3))).bind fun Ba => (some (rdOf ByteArray.empty ma (Int.tmod a0 3), (⟨#[]⟩ : ByteArray), Ba))) else (none)) else (none)) = some (r1, r2, r3) := by first | (rw [hy185]; with_reducible exact H) | (have H2_ := (Option.bind_some _ _).symm.trans H; rw [hy185]; with_reducible exact H2_) | (have H2_ := (Option.bind_some _ _).symm.trans H; with_reducible exact H2_) | with_reducible exact H | (rw [hy185]; exact H) | exact H
 have Ny185 := aM_ hy185
 clear hy185
 obtain ⟨ba, hji2⟩ : ∃ j_ : Int, (Int.tmod a0 3) = j_ := ⟨_, rfl⟩
 replace H : (if 0 ≤ (ba) then (if (ba) < (ma.length : Int) then ((kerbsuitedata_Realm.f (wrap64 (Int.tdiv a0 3))).bind fun Ba => (some (rdOf ByteArray.empty ma (ba), (⟨#[]⟩ : ByteArray), Ba))) else (none)) else (none)) = some (r1, r2, r3) := by first | (rw [hji2] at H; exact H) | (simp only [hji2] at H ⊢; exact H)
 by_cases c3 : 0 ≤ (ba)
 ·rw [if_pos c3] at H
  have Wb : decide (0 ≤ (ba)) = true := decide_eq_true c3
  clear c3
  by_cases c4 : (ba) < (ma.length : Int)
  ·rw [if_pos c4] at H
   have cb : decide ((ba) < (ma.length : Int)) = true := decide_eq_true c4
   clear c4
   replace H := Option.bind_eq_some_iff.mp H
   obtain ⟨Ba, Ob, H⟩ := H
   try dsimp only at H
   have A5 := aM_ Ob
   clear Ob
   simp only [Option.some.injEq, Prod.mk.injEq] at H
   obtain ⟨rfl, rfl, rfl⟩ := H
   go_enter Tryd.func16, Tryd.ntmps16
   try go_wp2_with (first | ((with_reducible refine gate_dst (N := 2) rfl ?_); refine box_event ?hg (N := 2) ?hd (cs := #[.string (⟨#[]⟩ : ByteArray), .string (⟨#[]⟩ : ByteArray), .string (⟨#[]⟩ : ByteArray)]) (t := 41) ?hr ?_; (case hd => rfl); (case hg => rfl); (case hr => first | (go_simp; done) | (go_simp; rfl)); intro Da hg w6 hbox hb; have fa := aM_ (hbox); have Hd := aM_ ((by rw [hg]; exact (below_size (bk_ HB.out)) : w.heap.size ≤ Da)); have Id := aM_ ((by rw [hg]; exact (below_size (bk_ HB.out)) : w.heap.size ≤ Da)); replace HB := aM_ (below_step (bk_ HB.out) hb); clear hb hbox hg))
   have pi188 : (0 ≤ ((ba) : Int)) = True := eq_true dT_
   have qi188 : ((ba) < (ma.length : Int)) = True := eq_true dT_
   replace fa := aM_ (blk_drew fa.out)
   replace HB := aM_ (bD_ HB.out)
   refine start_ (n := 10) (S := fun w' => True) (ds := []) (bo_ 10 0) (by kernel_rfl) rfl rfl trivial (fun hHeld => ?_); refine with_tabW kerbsuitedata_User.tab1 kerbsuitedata_User.bits1 (fun HT_ HW_ => ?_)
   generalize w6.drew = w7 at fa HB hHeld ⊢
   refine pU_ 1 (some 4) (bo_ 10 2) ?_
   refine pU_ 5 (some 8) (bo_ 10 34) ?_
   refine inv_at [0, 2, 3, 4, 6, 7, 8, 9] (fun wd b a w' => ∃ (qa : Value) (ca : Addr) (Ia : Value), a = putSel wd b [(0, 3, qa), (2, 5, .int .i64 ba), (3, 6, Ia), (4, 7, .string (rdOf ByteArray.empty ma (ba))), (6, 9, .int .i64 (wrap64 (Int.tdiv a0 3))), (7, 10, .string Ba), (8, 11, .agg #[.string (rdOf ByteArray.empty ma (ba)), .string (⟨#[]⟩ : ByteArray), .string Ba])] ∧ (b 9 = false → w'.heap[Da]? = some (.cells #[.string (⟨#[]⟩ : ByteArray), .string (⟨#[]⟩ : ByteArray), .string (⟨#[]⟩ : ByteArray)] 41 (0, 0))) ∧ (Below w.heap.size w w') ∧ (b 0 = true → Kd.R Kd.string 9 w' w.heap.size (fun _ => True) qa ma) ∧ (b 0 = true → ∃ c_, (qa : Value) = .slice (some ca) ma.length c_) ∧ (b 9 = true → w'.heap[Da]? = some (.cells #[.string (rdOf ByteArray.empty ma (ba)), .string (⟨#[]⟩ : ByteArray), .string Ba] 41 (0, 0))) ∧ (b 3 = true → (Ia : Value) = .pointer (some (ca.add ((ba)).toNat)))) HT_.out HW_.out (by kernel_rfl) (by kernel_rfl) ?_ ?_ ?_
   ·exact ⟨.bool false,⟨0, 0, none⟩, .bool false,by simp only [putSel, Bool.false_eq_true,if_false], fun _ => fa.out, HB.out, fun h_ => absurd h_ (by decide), fun h_ => absurd h_ (by decide), fun h_ => absurd h_ (by decide), fun h_ => absurd h_ (by decide)⟩
   ·skip
    clear fa HB
    refine steps_cons ?_ ?_
    ·rintro b a w' ⟨qa, ca, Ia, ha, ea, Q_HB, ia, aa, pa, Ca⟩ hb_ hon hoff
     refine ⟨_, rfl, fun K hK => ?_⟩
     replace ha := aM_ ha
     have fa := aM_ (ea (hoff 9 (by kernel_rfl)))
     have HB := aM_ Q_HB
     refine Kd.R_lit_step Kd.string _ 9 ?hg (N := 3) ?hd (xs := ([(⟨#[97, 110, 110]⟩ : ByteArray), (⟨#[98, 111, 98]⟩ : ByteArray), (⟨#[99, 97, 116]⟩ : ByteArray)] : List ByteArray)) (inner := [.string (⟨#[97, 110, 110]⟩ : ByteArray), .string (⟨#[98, 111, 98]⟩ : ByteArray), .string (⟨#[99, 97, 116]⟩ : ByteArray)]) (ok := fun _ => True) (okp := fun _ => True) ?hr ?hp (fun _ hk => hk) trivial (Below.refl _ _) (Nat.le_refl _) (by simp) ?_; (case hd => rfl); (case hg => rfl); (case hr => first | (go_simp; done) | (go_simp; rfl)); (case hp => exact (Reps.one (show Kd.M Kd.string _ _ _ (⟨#[97, 110, 110]⟩ : ByteArray) [.string (⟨#[97, 110, 110]⟩ : ByteArray)] from rfl) (Reps.one (show Kd.M Kd.string _ _ _ (⟨#[98, 111, 98]⟩ : ByteArray) [.string (⟨#[98, 111, 98]⟩ : ByteArray)] from rfl) (Reps.one (show Kd.M Kd.string _ _ _ (⟨#[99, 97, 116]⟩ : ByteArray) [.string (⟨#[99, 97, 116]⟩ : ByteArray)] from rfl) (Reps.none _ _)))))
     intro qa w8 Pb hb hg_ hnew_
     clear hg_ hnew_
     (first | rw [← Ny185.out] at Pb | (simp only [Int.reduceToNat] at Pb; rw [← Ny185.out] at Pb))
     have Wa := aM_ (Kd.R_lower Pb (below_size hB_))
     replace fa := aM_ (blk_below (g := Da) (o := .cells #[.string (⟨#[]⟩ : ByteArray), .string (⟨#[]⟩ : ByteArray), .string (⟨#[]⟩ : ByteArray)] 41 (0, 0)) (bk_ fa.out) hb)
     replace HB := aM_ (below_step hB_ hb)
     clear hb Pb
     obtain ⟨Wd, Jc, Kc⟩ := Kd.R_slice Wa.out
     subst Kc
     obtain ⟨ado10, fo10, _⟩ := Kd.at_string (Kd.R_reads' Wa.out).2.2 0 (by decide) (by rw [Ny185.out]; simp)
     cases fo10
     refine hK.out _ _ ⟨.slice (some ado10) ma.length Jc, ado10, Ia, (by rw [ha.out]; exact putSel_upk 0 hb_ rfl rfl rfl), fun _ => (bk_ fa.out), hB_, fun _ => (bk_ Wa.out), fun _ => ⟨_, rfl⟩, fun h0_ => absurd ((hoff 9 (by kernel_rfl)).symm.trans h0_) (by decide), fun h0_ => absurd ((hoff 3 (by kernel_rfl)).symm.trans h0_) (by decide)⟩
    refine steps_cons ?_ ?_
    ·rintro b a w' ⟨qa, ca, Ia, ha, ea, Q_HB, ia, aa, pa, Ca⟩ hb_ hon hoff
     refine ⟨_, rfl, fun K hK => ?_⟩
     have e4 : a.tmps[4]? = some (.int .i64 a0) := by rw [ha]; exact (putSel_off rfl).trans rfl
     replace ha := aM_ ha
     have fa := aM_ (ea (hoff 9 (by kernel_rfl)))
     have HB := aM_ Q_HB
     refine value_ (w1 := w') (v := .int .i64 ba) (by rfl) rfl ?_ ?_
     ·go_simp
      (try simp only [i64_w])
      try rfl
     refine hK.out _ _ ⟨qa, ca, Ia, (by rw [ha.out]; exact putSel_upk 1 hb_ rfl rfl rfl), ea, Q_HB, ia, aa, fun h0_ => absurd ((hoff 9 (by kernel_rfl)).symm.trans h0_) (by decide), fun h0_ => absurd ((hoff 3 (by kernel_rfl)).symm.trans h0_) (by decide)⟩
    refine steps_cons ?_ ?_
    ·rintro b a w' ⟨qa, ca, Ia, ha, ea, Q_HB, ia, aa, pa, Ca⟩ hb_ hon hoff
     refine ⟨_, rfl, fun K hK => ?_⟩
     have e3 : a.tmps[3]? = some (qa) := by rw [ha]; exact putSel_on (e := (0, 3, qa)) 0 rfl rfl (hon 0 (by kernel_rfl)) rfl
     have e5 : a.tmps[5]? = some (.int .i64 ba) := by rw [ha]; exact putSel_on (e := (2, 5, .int .i64 ba)) 1 rfl rfl (hon 2 (by kernel_rfl)) rfl
     replace ha := aM_ ha
     have fa := aM_ (ea (hoff 9 (by kernel_rfl)))
     have HB := aM_ Q_HB
     have Wa := aM_ (ia (hon 0 (by kernel_rfl)))
     have HA_HO187 := aM_ (aa (hon 0 (by kernel_rfl)))
     obtain ⟨c_, hv_⟩ := HA_HO187.out
     rw [hv_] at e3
     refine value_ (w1 := w') (v := .pointer (some (ca.add ((ba)).toNat))) (by rfl) rfl ?_ ?_
     ·go_simp
      (try simp only [i64_w])
      try rfl
     refine hK.out _ _ ⟨qa, ca, (.pointer (some (ca.add ((ba)).toNat))), (by rw [ha.out]; exact putSel_upk 2 hb_ rfl rfl rfl), ea, Q_HB, ia, aa, fun h0_ => absurd ((hoff 9 (by kernel_rfl)).symm.trans h0_) (by decide), fun _ => rfl⟩
    refine steps_cons ?_ ?_
    ·rintro b a w' ⟨qa, ca, Ia, ha, ea, Q_HB, ia, aa, pa, Ca⟩ hb_ hon hoff
     refine ⟨_, rfl, fun K hK => ?_⟩
     have e6 : a.tmps[6]? = some (Ia) := by rw [ha]; exact putSel_on (e := (3, 6, Ia)) 2 rfl rfl (hon 3 (by kernel_rfl)) rfl
     rw [Ca (hon 3 (by kernel_rfl))] at e6
     replace ha := aM_ ha
     have fa := aM_ (ea (hoff 9 (by kernel_rfl)))
     have HB := aM_ Q_HB
     have Wa := aM_ (ia (hon 0 (by kernel_rfl)))
     have HA_HO187 := aM_ (aa (hon 0 (by kernel_rfl)))
     obtain ⟨c_, hv_⟩ := HA_HO187.out
     have hF_ := Wa.out
     rw [hv_] at hF_
     obtain ⟨ad_, ea_, hx_⟩ := Kd.at_string (Kd.R_reads' hF_).2.2 (ba) (of_eq_true pi188) (of_eq_true qi188)
     cases ea_
     refine value_ (w1 := w') (v := .string (rdOf ByteArray.empty ma (ba))) (by rfl) rfl ?_ ?_
     ·go_simp
      (try simp only [i64_w])
      try rfl
     refine hK.out _ _ ⟨qa, ca, Ia, (by rw [ha.out]; exact putSel_upk 3 hb_ rfl rfl rfl), ea, Q_HB, ia, aa, fun h0_ => absurd ((hoff 9 (by kernel_rfl)).symm.trans h0_) (by decide), Ca⟩
    refine steps_cons ?_ ?_
    ·rintro b a w' ⟨qa, ca, Ia, ha, ea, Q_HB, ia, aa, pa, Ca⟩ hb_ hon hoff
     refine ⟨_, rfl, fun K hK => ?_⟩
     have e8 : a.tmps[8]? = some (.int .i64 a0) := by rw [ha]; exact (putSel_off rfl).trans rfl
     replace ha := aM_ ha
     have fa := aM_ (ea (hoff 9 (by kernel_rfl)))
     have HB := aM_ Q_HB
     refine value_ (w1 := w') (v := .int .i64 (wrap64 (Int.tdiv a0 3))) (by rfl) rfl ?_ ?_
     ·go_simp
      (try simp only [i64_w])
      try rfl
     refine hK.out _ _ ⟨qa, ca, Ia, (by rw [ha.out]; exact putSel_upk 4 hb_ rfl rfl rfl), ea, Q_HB, ia, aa, fun h0_ => absurd ((hoff 9 (by kernel_rfl)).symm.trans h0_) (by decide), Ca⟩
    refine steps_cons ?_ ?_
    ·rintro b a w' ⟨qa, ca, Ia, ha, ea, Q_HB, ia, aa, pa, Ca⟩ hb_ hon hoff
     refine ⟨_, rfl, fun K hK => ?_⟩
     have e9 : a.tmps[9]? = some (.int .i64 (wrap64 (Int.tdiv a0 3))) := by rw [ha]; exact putSel_on (e := (6, 9, .int .i64 (wrap64 (Int.tdiv a0 3)))) 4 rfl rfl (hon 6 (by kernel_rfl)) rfl
     replace ha := aM_ ha
     have fa := aM_ (ea (hoff 9 (by kernel_rfl)))
     have HB := aM_ Q_HB
     refine goes_ Tryd.func33 (by kernel_rfl) rfl #[.int .i64 (wrap64 (Int.tdiv a0 3))] (by rfl) rfl rfl (by first | (simp only [List.map_toArray, List.map_cons, List.map_nil, Act.eval, Array.getD_eq_getD_getElem?, Option.getD_some, e9]; done) | (simp only [List.map_toArray, List.map_cons, List.map_nil, Act.eval, Array.getD_eq_getD_getElem?, Option.getD_some, e9]; rfl)) ?_
     with_reducible refine (kerbsuitedata_Realm.calls (wrap64 (Int.tdiv a0 3)) Ba _ A5.out).mono ?_
     rintro e w8 ⟨rfl, hb⟩
     refine ⟨_, rfl, ?_⟩
     have Cc := aM_ (blk_below (g := Da) (o := .cells #[.string (⟨#[]⟩ : ByteArray), .string (⟨#[]⟩ : ByteArray), .string (⟨#[]⟩ : ByteArray)] 41 (0, 0)) (bk_ fa.out) hb)
     have Dc := aM_ (below_step hB_ hb)
     have z_HO187 := fun (h0_ : b 0 = true) => (show Kd.R Kd.string 9 w8 w.heap.size (fun _ => True) qa ma from by first | exact (Kd.R_below (by refine bk_ ?_; exact (ia h0_)) hb) | exact Kd.R_mono (Kd.R_below (by refine bk_ ?_; exact (ia h0_)) hb) (fun _ h_ => by first | trivial | exact h_ | exact h_.1))
     clear fa HB
     have fa := Cc
     have HB := Dc
     clear Cc Dc
     clear hb
     refine hK.out _ _ ⟨qa, ca, Ia, (by rw [ha.out]; exact putSel_upk 5 hb_ rfl rfl rfl), fun _ => (bk_ fa.out), hB_, z_HO187, aa, fun h0_ => absurd ((hoff 9 (by kernel_rfl)).symm.trans h0_) (by decide), Ca⟩
    refine steps_cons ?_ ?_
    ·rintro b a w' ⟨qa, ca, Ia, ha, ea, Q_HB, ia, aa, pa, Ca⟩ hb_ hon hoff
     refine ⟨_, rfl, fun K hK => ?_⟩
     have e7 : a.tmps[7]? = some (.string (rdOf ByteArray.empty ma (ba))) := by rw [ha]; exact putSel_on (e := (4, 7, .string (rdOf ByteArray.empty ma (ba)))) 3 rfl rfl (hon 4 (by kernel_rfl)) rfl
     have fe : a.tmps[10]? = some (.string Ba) := by rw [ha]; exact putSel_on (e := (7, 10, .string Ba)) 5 rfl rfl (hon 7 (by kernel_rfl)) rfl
     replace ha := aM_ ha
     have fa := aM_ (ea (hoff 9 (by kernel_rfl)))
     have HB := aM_ Q_HB
     have Wa := aM_ (ia (hon 0 (by kernel_rfl)))
     have HA_HO187 := aM_ (aa (hon 0 (by kernel_rfl)))
     refine value_ (w1 := w') (v := .agg #[.string (rdOf ByteArray.empty ma (ba)), .string (⟨#[]⟩ : ByteArray), .string Ba]) (by rfl) rfl ?_ ?_
     ·go_simp
      (try simp only [i64_w])
      try rfl
     refine hK.out _ _ ⟨qa, ca, Ia, (by rw [ha.out]; exact putSel_upk 6 hb_ rfl rfl rfl), ea, Q_HB, ia, aa, fun h0_ => absurd ((hoff 9 (by kernel_rfl)).symm.trans h0_) (by decide), Ca⟩
    refine steps_cons ?_ ?_
    ·rintro b a w' ⟨qa, ca, Ia, ha, ea, Q_HB, ia, aa, pa, Ca⟩ hb_ hon hoff
     refine ⟨_, rfl, fun K hK => ?_⟩
     have e2 : a.tmps[2]? = some (.pointer (some ⟨Da, 0, none⟩)) := by rw [ha]; exact (putSel_off rfl).trans rfl
     have he : a.tmps[11]? = some (.agg #[.string (rdOf ByteArray.empty ma (ba)), .string (⟨#[]⟩ : ByteArray), .string Ba]) := by rw [ha]; exact putSel_on (e := (8, 11, .agg #[.string (rdOf ByteArray.empty ma (ba)), .string (⟨#[]⟩ : ByteArray), .string Ba])) 6 rfl rfl (hon 8 (by kernel_rfl)) rfl
     replace ha := aM_ ha
     have fa := aM_ (ea hb_)
     have HB := aM_ Q_HB
     have Wa := aM_ (ia (hon 0 (by kernel_rfl)))
     have HA_HO187 := aM_ (aa (hon 0 (by kernel_rfl)))
     obtain ⟨Lc, Mc⟩ := HA_HO187.out
     clear HA_HO187
     subst Mc
     have hs14 : w'.cell? ⟨Da, 0, none⟩ = some (.string (⟨#[]⟩ : ByteArray)) := bc_ fa.out 0
     have hfs14 := blk_frozen fa.out 0
     have hs15 : w'.cell? ⟨Da, 1, none⟩ = some (.string (⟨#[]⟩ : ByteArray)) := bc_ fa.out 1
     have hfs15 := blk_frozen fa.out 1
     have hs16 : w'.cell? ⟨Da, 2, none⟩ = some (.string (⟨#[]⟩ : ByteArray)) := bc_ fa.out 2
     have hfs16 := blk_frozen fa.out 2
     refine skip_ (w1 := ?_) (by rfl) rfl ?_ ?_
     rotate_left; (· go_simp; rfl)
     refine hK.out _ _ ⟨.slice (some ca) ma.length Lc, ca, Ia, (by rw [ha.out]; exact putSel_none (v := undef) rfl), fun h0_ => absurd ((up_self b 9).symm.trans h0_) (by decide), hB_, fun _ => (by refine bk_ ?_; exact Kd.R_mono (Kd.R_far (p := ⟨Da, 2, none⟩) (Kd.R_far (p := ⟨Da, 1, none⟩) (Kd.R_far (p := ⟨Da, 0, none⟩) (Kd.R_types Wa.out fa.out (by decide)) (fun _ hk => hk.2) (.string (rdOf ByteArray.empty ma (ba)))) (fun _ hk => hk.2) (.string (⟨#[]⟩ : ByteArray))) (fun _ hk => hk.2) (.string Ba)) (fun _ hk => trivial)), fun _ => ⟨_, rfl⟩, fun _ => (by refine bk_ ?_; refine blk_put (cs := #[.string (rdOf ByteArray.empty ma (ba)), .string (⟨#[]⟩ : ByteArray), .string (⟨#[]⟩ : ByteArray)]) ?_ 2 _ rfl; refine bk_ ?_; refine blk_put (cs := #[.string (rdOf ByteArray.empty ma (ba)), .string (⟨#[]⟩ : ByteArray), .string (⟨#[]⟩ : ByteArray)]) ?_ 1 _ rfl; refine bk_ ?_; refine blk_put (cs := #[.string (⟨#[]⟩ : ByteArray), .string (⟨#[]⟩ : ByteArray), .string (⟨#[]⟩ : ByteArray)]) ?_ 0 _ rfl; refine bk_ ?_; exact fa.out), Ca⟩
    exact steps_nil
   rintro b a ie hall ⟨qa, ca, Ia, ha, ea, Q_HB, ia, aa, pa, Ca⟩
   clear fa HB
   have hb0_ := hall 0 (by kernel_rfl)
   have hb2_ := hall 2 (by kernel_rfl)
   have hb3_ := hall 3 (by kernel_rfl)
   have hb4_ := hall 4 (by kernel_rfl)
   have hb6_ := hall 6 (by kernel_rfl)
   have hb7_ := hall 7 (by kernel_rfl)
   have hb8_ := hall 8 (by kernel_rfl)
   have hb9_ := hall 9 (by kernel_rfl)
   subst ha
   obtain rfl := Ca hb3_
   simp only [putSel, hb0_, hb2_, hb3_, hb4_, hb6_, hb7_, hb8_, hb9_, if_true,Act.put, sA_, sB_, sC_]
   clear ea
   have HB := aM_ Q_HB
   clear Q_HB
   have Wa := aM_ (ia hb0_)
   clear ia
   have HA_HO187 := aM_ (aa hb0_)
   clear aa
   have fa := aM_ (pa hb9_)
   clear pa
   clear hall hb0_ hb2_ hb3_ hb4_ hb6_ hb7_ hb8_ hb9_
   obtain ⟨Zd, Nc⟩ := HA_HO187.out
   clear HA_HO187
   subst Nc
   try go_wp2
   refine bodyPost_ret (results_cell_row rfl _ _ Da 41 #[.string (rdOf ByteArray.empty ma (ba)), .string (⟨#[]⟩ : ByteArray), .string Ba] (0, 0) _ rfl (bk_ fa.out) Tryd.underlying41 rfl (by kernel_rfl)) rfl ?_
   exact ⟨by first | rfl | (simp [errW_none, errW_some] <;> rfl) | (simp only [← hji2]; first | rfl | (simp [errW_none, errW_some] <;> rfl)) | (simp [*, errW_none, errW_some] <;> rfl), hB_⟩
  rw [if_neg c4] at H
  exact absurd H (by simp)
 rw [if_neg c3] at H
 exact absurd H (by simp)

/-! ### kerbsuitedata_Service: function 17 -/
def kerbsuitedata_Service.f (a0 : Int) : Option (ByteArray × ByteArray × ByteArray) := (some (([(⟨(⟨#[109, 97, 105, 108]⟩ : ByteArray), (⟨#[]⟩ : ByteArray), (⟨#[]⟩ : ByteArray)⟩ : S41), (⟨(⟨#[110, 102, 115]⟩ : ByteArray), (⟨#[104, 111, 109, 101]⟩ : ByteArray), (⟨#[]⟩ : ByteArray)⟩ : S41), (⟨(⟨#[107, 114, 98, 116, 103, 116]⟩ : ByteArray), (⟨#[65, 84, 72]⟩ : ByteArray), (⟨#[]⟩ : ByteArray)⟩ : S41)] : List (S41)) : List (S41))).bind fun ka => (if 0 ≤ (Int.tmod a0 3) then (if (Int.tmod a0 3) < (ka.length : Int) then ((kerbsuitedata_Realm.f (wrap64 (Int.tdiv a0 3))).bind fun db => (some ((rd_T41 ka (Int.tmod a0 3)).f0, (rd_T41 ka (Int.tmod a0 3)).f1, db))) else (none)) else (none))
set_option maxHeartbeats 8000000 in
set_option maxRecDepth 100000 in
theorem kerbsuitedata_Service.calls (a0 : Int) (r1 : ByteArray) (r2 : ByteArray) (r3 : ByteArray) (w : World) (h : kerbsuitedata_Service.f a0 = some (r1, r2, r3)) :
  Calls Tryd.prog 17 #[.int .i64 a0] w fun e w' => e = .returned (.agg #[.string r1, .string r2, .string r3]) ∧ Below w.heap.size w w' := by
 have hu41 := Tryd.underlying41
 have HB := aM_ (Below.refl w.heap.size w)
 have H : ((some (([(⟨(⟨#[109, 97, 105, 108]⟩ : ByteArray), (⟨#[]⟩ : ByteArray), (⟨#[]⟩ : ByteArray)⟩ : S41), (⟨(⟨#[110, 102, 115]⟩ : ByteArray), (⟨#[104, 111, 109, 101]⟩ : ByteArray), (⟨#[]⟩ : ByteArray)⟩ : S41), (⟨(⟨#[107, 114, 98, 116, 103, 116]⟩ : ByteArray), (⟨#[65, 84, 72]⟩ : ByteArray), (⟨#[]⟩ : ByteArray)⟩ : S41)] : List (S41)) : List (S41))).bind fun ka => (if 0 ≤ (Int.tmod a0 3) then (if (Int.tmod a0 3) < (ka.length : Int) then ((kerbsuitedata_Realm.f (wrap64 (Int.tdiv a0 3))).bind fun db => (some ((rd_T41 ka (Int.tmod a0 3)).f0, (rd_T41 ka (Int.tmod a0 3)).f1, db))) else (none)) else (none))) = some (r1, r2, r3) := h
 clear h
 obtain ⟨ka, hy191⟩ : ∃ y_ : List (S41), y_ = (([(⟨(⟨#[109, 97, 105, 108]⟩ : ByteArray), (⟨#[]⟩ : ByteArray), (⟨#[]⟩ : ByteArray)⟩ : S41), (⟨(⟨#[110, 102, 115]⟩ : ByteArray), (⟨#[104, 111, 109, 101]⟩ : ByteArray), (⟨#[]⟩ : ByteArray)⟩ : S41), (⟨(⟨#[107, 114, 98, 116, 103, 116]⟩ : ByteArray), (⟨#[65, 84, 72]⟩ : ByteArray), (⟨#[]⟩ : ByteArray)⟩ : S41)] : List (S41))) := ⟨_, rfl⟩
 replace H : (if 0 ≤ (Int.tmod a0 3) then (if (Int.tmod a0 3) < (ka.length : Int) then ((kerbsuitedata_Realm.f (wrap64 (Int.tdiv a0 3))).bind fun db => (some ((rd_T41 ka (Int.tmod a0 3)).f0, (rd_T41 ka (Int.tmod a0 3)).f1, db))) else (none)) else (none)) = some (r1, r2, r3) := by first | (rw [hy191]; with_reducible exact H) | (have H2_ := (Option.bind_some _ _).symm.trans H; rw [hy191]; with_reducible exact H2_) | (have H2_ := (Option.bind_some _ _).symm.trans H; with_reducible exact H2_) | with_reducible exact H | (rw [hy191]; exact H) | exact H
 have Ny191 := aM_ hy191
 clear hy191
 obtain ⟨ba, hji2⟩ : ∃ j_ : Int, (Int.tmod a0 3) = j_ := ⟨_, rfl⟩
 replace H : (if 0 ≤ (ba) then (if (ba) < (ka.length : Int) then ((kerbsuitedata_Realm.f (wrap64 (Int.tdiv a0 3))).bind fun db => (some ((rd_T41 ka (ba)).f0, (rd_T41 ka (ba)).f1, db))) else (none)) else (none)) = some (r1, r2, r3) := by first | (rw [hji2] at H; exact H) | (simp only [hji2] at H ⊢; exact H)
 by_cases c3 : 0 ≤ (ba)
 ·rw [if_pos c3] at H
  have Wb : decide (0 ≤ (ba)) = true := decide_eq_true c3
  clear c3
  by_cases c4 : (ba) < (ka.length : Int)
  ·rw [if_pos c4] at H
   have cb : decide ((ba) < (ka.length : Int)) = true := decide_eq_true c4
   clear c4
   replace H := Option.bind_eq_some_iff.mp H
   obtain ⟨db, Ob, H⟩ := H
   try dsimp only at H
   have A5 := aM_ Ob
   clear Ob
   simp only [Option.some.injEq, Prod.mk.injEq] at H
   obtain ⟨rfl, rfl, rfl⟩ := H
   go_enter Tryd.func17, Tryd.ntmps17
   go_wp2_with (first | ((with_reducible refine gate_dst (N := 2) rfl ?_); refine box_event ?hg (N := 2) ?hd (cs := #[.string (⟨#[]⟩ : ByteArray), .string (⟨#[]⟩ : ByteArray), .string (⟨#[]⟩ : ByteArray)]) (t := 41) ?hr ?_; (case hd => rfl); (case hg => rfl); (case hr => first | (go_simp; done) | (go_simp; rfl)); intro La hg w6 hbox hb; have ra := aM_ (hbox); have Jd := aM_ ((by rw [hg]; exact (below_size (bk_ HB.out)) : w.heap.size ≤ La)); have Ld := aM_ ((by rw [hg]; exact (below_size (bk_ HB.out)) : w.heap.size ≤ La)); replace HB := aM_ (below_step (bk_ HB.out) hb); clear hb hbox hg) | ((with_reducible refine gate_dst (N := 7) rfl ?_); refine Kd.R_lit k41 _ 41 ?hg (N := 7) ?hd (xs := ([(⟨(⟨#[109, 97, 105, 108]⟩ : ByteArray), (⟨#[]⟩ : ByteArray), (⟨#[]⟩ : ByteArray)⟩ : S41), (⟨(⟨#[110, 102, 115]⟩ : ByteArray), (⟨#[104, 111, 109, 101]⟩ : ByteArray), (⟨#[]⟩ : ByteArray)⟩ : S41), (⟨(⟨#[107, 114, 98, 116, 103, 116]⟩ : ByteArray), (⟨#[65, 84, 72]⟩ : ByteArray), (⟨#[]⟩ : ByteArray)⟩ : S41)] : List (S41))) (inner := [.string (⟨#[109, 97, 105, 108]⟩ : ByteArray), .string (⟨#[]⟩ : ByteArray), .string (⟨#[]⟩ : ByteArray), .string (⟨#[110, 102, 115]⟩ : ByteArray), .string (⟨#[104, 111, 109, 101]⟩ : ByteArray), .string (⟨#[]⟩ : ByteArray), .string (⟨#[107, 114, 98, 116, 103, 116]⟩ : ByteArray), .string (⟨#[65, 84, 72]⟩ : ByteArray), .string (⟨#[]⟩ : ByteArray)]) (ok := fun _ => True) (okp := fun _ => True) ?hr ?hp (fun _ hk => hk) trivial (Below.refl _ _) (Nat.le_refl _) (by simp) ?_; (case hd => rfl); (case hg => rfl); (case hr => first | (go_simp; done) | (go_simp; rfl)); (case hp => exact (Reps.c3 (show Kd.M k41 _ _ _ (⟨(⟨#[109, 97, 105, 108]⟩ : ByteArray), (⟨#[]⟩ : ByteArray), (⟨#[]⟩ : ByteArray)⟩ : S41) [.string (⟨#[109, 97, 105, 108]⟩ : ByteArray), .string (⟨#[]⟩ : ByteArray), .string (⟨#[]⟩ : ByteArray)] from (k41_mkM _ _ _ (⟨(⟨#[109, 97, 105, 108]⟩ : ByteArray), (⟨#[]⟩ : ByteArray), (⟨#[]⟩ : ByteArray)⟩ : S41) )) (Reps.c3 (show Kd.M k41 _ _ _ (⟨(⟨#[110, 102, 115]⟩ : ByteArray), (⟨#[104, 111, 109, 101]⟩ : ByteArray), (⟨#[]⟩ : ByteArray)⟩ : S41) [.string (⟨#[110, 102, 115]⟩ : ByteArray), .string (⟨#[104, 111, 109, 101]⟩ : ByteArray), .string (⟨#[]⟩ : ByteArray)] from (k41_mkM _ _ _ (⟨(⟨#[110, 102, 115]⟩ : ByteArray), (⟨#[104, 111, 109, 101]⟩ : ByteArray), (⟨#[]⟩ : ByteArray)⟩ : S41) )) (Reps.c3 (show Kd.M k41 _ _ _ (⟨(⟨#[107, 114, 98, 116, 103, 116]⟩ : ByteArray), (⟨#[65, 84, 72]⟩ : ByteArray), (⟨#[]⟩ : ByteArray)⟩ : S41) [.string (⟨#[107, 114, 98, 116, 103, 116]⟩ : ByteArray), .string (⟨#[65, 84, 72]⟩ : ByteArray), .string (⟨#[]⟩ : ByteArray)] from (k41_mkM _ _ _ (⟨(⟨#[107, 114, 98, 116, 103, 116]⟩ : ByteArray), (⟨#[65, 84, 72]⟩ : ByteArray), (⟨#[]⟩ : ByteArray)⟩ : S41) )) (Reps.none _ _))))); intro ae w7 Qb hb hg_ hnew_; clear hg_ hnew_; (first | rw [← Ny191.out] at Qb | (simp only [Int.reduceToNat] at Qb; rw [← Ny191.out] at Qb)); have fb := aM_ (Kd.R_lower (Kd.R_newB Qb (g := La) (o := .cells #[.string (⟨#[]⟩ : ByteArray), .string (⟨#[]⟩ : ByteArray), .string (⟨#[]⟩ : ByteArray)] 41 (0, 0)) (bk_ ra.out)) (below_size hB_)); replace ra := aM_ (blk_below (g := La) (o := .cells #[.string (⟨#[]⟩ : ByteArray), .string (⟨#[]⟩ : ByteArray), .string (⟨#[]⟩ : ByteArray)] 41 (0, 0)) (bk_ ra.out) hb); replace HB := aM_ (below_step hB_ hb); clear hb Qb; obtain ⟨je, ke, zd⟩ := Kd.R_slice fb.out; subst zd; have Xb : 0 ≤ ((ba) : Int) := dT_; have Yb : (ba) < (ka.length : Int) := dT_; obtain ⟨Md, Oc, Zc, ad, bd⟩ := at_T41 (Kd.R_reads' fb.out).2.2 (ba) Xb Yb; cases Oc; replace Xb := eq_true Xb; replace Yb := eq_true Yb) | ((with_reducible refine gate_dst (N := 3) rfl ?_); refine box_event ?hg (N := 3) ?hd (cs := #[.string (⟨#[]⟩ : ByteArray), .string (⟨#[]⟩ : ByteArray), .string (⟨#[]⟩ : ByteArray)]) (t := 41) ?hr ?_; (case hd => rfl); (case hg => rfl); (case hr => first | (go_simp; done) | (go_simp; rfl)); intro Fa hg le hbox hb; replace fb := aM_ (Kd.R_below (Kd.R_elderB (bk_ fb.out) Fa (Nat.le_of_eq hg.symm)) hb); have Ea := aM_ (hbox); have Nd := aM_ ((by rw [hg]; exact (below_size hB_) : w.heap.size ≤ Fa)); have Od := aM_ ((by rw [hg]; exact (below_size hB_) : w.heap.size ≤ Fa)); replace HB := aM_ (below_step hB_ hb); have Xa := aM_ ((by rw [hg]; exact Nat.ne_of_lt (blk_lt (g := La) (o := .cells #[.string (⟨#[]⟩ : ByteArray), .string (⟨#[]⟩ : ByteArray), .string (⟨#[]⟩ : ByteArray)] 41 (0, 0)) (bk_ ra.out)) : La ≠ Fa)); have Rb := aM_ ((by rw [hg]; exact Nat.ne_of_gt (blk_lt (g := La) (o := .cells #[.string (⟨#[]⟩ : ByteArray), .string (⟨#[]⟩ : ByteArray), .string (⟨#[]⟩ : ByteArray)] 41 (0, 0)) (bk_ ra.out)) : Fa ≠ La)); replace ra := aM_ (blk_below (g := La) (o := .cells #[.string (⟨#[]⟩ : ByteArray), .string (⟨#[]⟩ : ByteArray), .string (⟨#[]⟩ : ByteArray)] 41 (0, 0)) (bk_ ra.out) hb); clear hb hbox hg; have Pd := Rb.out; have Qd := Xa.out; have cd := bc_ Ea.out 0; have dd := bc_ Ea.out 1; have ed := bc_ Ea.out 2; have fd := blk_frozen Ea.out 0; have gd := blk_frozen Ea.out 1; have id := blk_frozen Ea.out 2) | ((with_reducible refine gate_callee (f := 33) rfl ?_); refine goesL_ (some 14) rfl rfl Tryd.func33 (by kernel_rfl) rfl #[.int .i64 (wrap64 (Int.tdiv a0 3))] rfl aR_ ?_; (with_reducible refine (kerbsuitedata_Realm.calls (wrap64 (Int.tdiv a0 3)) db _ A5.out).mono ?_); rintro e qc ⟨rfl, hb⟩; refine ⟨_, rfl, ?_⟩; replace fb := aM_ (Kd.R_below (by refine bk_ ?_; exact (Kd.R_mono (Kd.R_far (p := ⟨Fa, 2, none⟩) (Kd.R_far (p := ⟨Fa, 1, none⟩) (Kd.R_far (p := ⟨Fa, 0, none⟩) (Kd.R_mono fb.out (fun k_ hk => (⟨hk, hk.2⟩ : _ ∧ k_ ≠ Fa))) (fun _ hk => hk.2) (.string ((rd_T41 ka (ba)).f0))) (fun _ hk => hk.2) (.string ((rd_T41 ka (ba)).f1))) (fun _ hk => hk.2) (.string ((rd_T41 ka (ba)).f2))) (fun _ h_ => h_.1))) hb); replace ra := aM_ (blk_below (g := La) (o := .cells #[.string (⟨#[]⟩ : ByteArray), .string (⟨#[]⟩ : ByteArray), .string (⟨#[]⟩ : ByteArray)] 41 (0, 0)) (by refine bk_ ?_; refine blk_far ?_ Xa.out _; refine bk_ ?_; refine blk_far ?_ Xa.out _; refine bk_ ?_; refine blk_far ?_ Xa.out _; refine bk_ ?_; exact ra.out) hb); replace Ea := aM_ (blk_below (g := Fa) (o := .cells #[.string ((rd_T41 ka (ba)).f0), .string ((rd_T41 ka (ba)).f1), .string ((rd_T41 ka (ba)).f2)] 41 (0, 0)) (by refine bk_ ?_; refine blk_put (cs := #[.string ((rd_T41 ka (ba)).f0), .string ((rd_T41 ka (ba)).f1), .string (⟨#[]⟩ : ByteArray)]) ?_ 2 _ rfl; refine bk_ ?_; refine blk_put (cs := #[.string ((rd_T41 ka (ba)).f0), .string (⟨#[]⟩ : ByteArray), .string (⟨#[]⟩ : ByteArray)]) ?_ 1 _ rfl; refine bk_ ?_; refine blk_put (cs := #[.string (⟨#[]⟩ : ByteArray), .string (⟨#[]⟩ : ByteArray), .string (⟨#[]⟩ : ByteArray)]) ?_ 0 _ rfl; refine bk_ ?_; exact Ea.out) hb); replace HB := aM_ (below_step hB_ hb); clear hb; have cc : qc.cell? ⟨Fa, 0, none⟩ = some (.string ((rd_T41 ka (ba)).f0)) := bc_ Ea.out 0; have dc : qc.cell? ⟨Fa, 1, none⟩ = some (.string ((rd_T41 ka (ba)).f1)) := bc_ Ea.out 1; have jd : qc.cell? ⟨Fa, 2, none⟩ = some (.string ((rd_T41 ka (ba)).f2)) := bc_ Ea.out 2; have ec := blk_frozen Ea.out 0; have fc := blk_frozen Ea.out 1; have kd := blk_frozen Ea.out 2; have gc := bc_ ra.out 0; have hc := bc_ ra.out 1; have ld := bc_ ra.out 2; have ic := blk_frozen ra.out 0; have jc := blk_frozen ra.out 1; have md := blk_frozen ra.out 2))
   refine bodyPost_ret (results_cell_row rfl _ _ La 41 #[.string ((rd_T41 ka (ba)).f0), .string ((rd_T41 ka (ba)).f1), .string db] (0, 0) _ rfl (by refine bk_ ?_; refine blk_put (cs := #[.string ((rd_T41 ka (ba)).f0), .string ((rd_T41 ka (ba)).f1), .string (⟨#[]⟩ : ByteArray)]) ?_ 2 _ rfl; refine bk_ ?_; refine blk_put (cs := #[.string ((rd_T41 ka (ba)).f0), .string (⟨#[]⟩ : ByteArray), .string (⟨#[]⟩ : ByteArray)]) ?_ 1 _ rfl; refine bk_ ?_; refine blk_put (cs := #[.string (⟨#[]⟩ : ByteArray), .string (⟨#[]⟩ : ByteArray), .string (⟨#[]⟩ : ByteArray)]) ?_ 0 _ rfl; refine bk_ ?_; refine blk_far ?_ Xa.out _; refine bk_ ?_; exact ra.out) Tryd.underlying41 rfl (by kernel_rfl)) rfl ?_
   exact ⟨by first | rfl | (simp [errW_none, errW_some] <;> rfl) | (simp only [← hji2]; first | rfl | (simp [errW_none, errW_some] <;> rfl)) | (simp [*, errW_none, errW_some] <;> rfl), hB_⟩
  rw [if_neg c4] at H
  exact absurd H (by simp)
 rw [if_neg c3] at H
 exact absurd H (by simp)

/-- A state of type 52 at block g of W; what its slices lead to came in by w0. -/
def IsS52 (w0 W : World) (g : Nat) (f0 : List Int) (f1 : Int) : Prop := ∃ A0 c0, W.heap[g]? = some (.cells #[.slice A0 f0.length c0, .int .i64 f1] 52 (0, 0)) ∧ w0.heap.size ≤ g ∧ Kd.C (Kd.int .u8) w0 A0 f0.length f0
theorem IsS52.grown {w0 W : World} {g : Nat} {f0 : List Int} {f1 : Int} {W1 : World} {row : Option Nat} (h : IsS52 w0 W g f0 f1) (hw : W.grownBy W1 row) (hne : some g ≠ row) : IsS52 w0 W1 g f0 f1 := by
 obtain ⟨A0, c0, hb, hg, hr0⟩ := h
 exact ⟨A0, c0, blk_grown hb hw hne, hg, hr0⟩
theorem IsS52.own_neN {w0 W : World} {g : Nat} {f0 : List Int} {f1 : Int} {α : Type} {d : Kd α} {e : Nat} {base : Nat} {ok : Nat → Prop} {v : Value} {xs : List α} (h : IsS52 w0 W g f0 f1) (ho : Kd.N d e W base ok v xs) (ht : e ≠ 52) : some g ≠ v.ownBlock := by
 obtain ⟨A0, c0, hb, hg, hr0⟩ := h
 exact Kd.N_ne ho hb ht
theorem IsS52.fresh {w0 W : World} {g : Nat} {f0 : List Int} {f1 : Int} (h : IsS52 w0 W g f0 f1) : ∀ k, W.heap.size ≤ k → k ≠ g := by
 obtain ⟨A0, c0, hb, hg, hr0⟩ := h
 exact Kd.freshB hb
theorem IsS52.kept {w0 W : World} {g : Nat} {f0 : List Int} {f1 : Int} {W1 : World} {S : Nat → Prop} (h : IsS52 w0 W g f0 f1) (hk : Kept W W1 S) (hne : ¬ S g) : IsS52 w0 W1 g f0 f1 := by
 obtain ⟨A0, c0, hb, hg, hr0⟩ := h
 exact ⟨A0, c0, blk_kept hb hk hne, hg, hr0⟩
theorem IsS52.below {w0 W : World} {g : Nat} {f0 : List Int} {f1 : Int} {W1 : World} (h : IsS52 w0 W g f0 f1) (hw : Below W.heap.size W W1) : IsS52 w0 W1 g f0 f1 := h.grown (grown_of_below hw none) (by simp)
theorem IsS52.alloc {w0 W : World} {g : Nat} {f0 : List Int} {f1 : Int} (h : IsS52 w0 W g f0 f1) (o : Obj) : IsS52 w0 (W.alloc o) g f0 f1 := h.below (bA_ (Below.refl _ _) o)
theorem IsS52.drewN {w0 W : World} {g : Nat} {f0 : List Int} {f1 : Int} (h : IsS52 w0 W g f0 f1) (m : Nat) : IsS52 w0 (W.drewN m) g f0 f1 := h
theorem IsS52.drew {w0 W : World} {g : Nat} {f0 : List Int} {f1 : Int} (h : IsS52 w0 W g f0 f1) : IsS52 w0 W.drew g f0 f1 := h
theorem IsS52.at_ {w0 W : World} {g : Nat} {f0 : List Int} {f1 : Int} {w' : World} {m : Nat} (hq : W.drewN m = w') (h : IsS52 w0 W g f0 f1) : IsS52 w0 w' g f0 f1 := by subst hq; exact IsS52.drewN h m
theorem IsS52.apart {w0 W : World} {g : Nat} {f0 : List Int} {f1 : Int} {α : Type} {d : Kd α} {e : Nat} {base : Nat} {ok : Nat → Prop} {v : Value} {xs : List α} (h : IsS52 w0 W g f0 f1) (ho : d.R e W base ok v xs) (ht : ∀ q, q ∈ e :: d.E → q ≠ 52) : d.R e W base (fun k => ok k ∧ k ≠ g) v xs := by
 obtain ⟨A0, c0, hb, hg, hr0⟩ := h
 exact Kd.R_types ho hb ht
theorem IsS52.own_ne {w0 W : World} {g : Nat} {f0 : List Int} {f1 : Int} {α : Type} {d : Kd α} {e : Nat} {base : Nat} {ok : Nat → Prop} {v : Value} {xs : List α} (h : IsS52 w0 W g f0 f1) (ho : d.R e W base ok v xs) (ht : e ≠ 52) : some g ≠ v.ownBlock := by
 obtain ⟨A0, c0, hb, hg, hr0⟩ := h
 exact Kd.R_ne ho hb ht
theorem IsS52.apartQ {w0 W : World} {g : Nat} {f0 : List Int} {f1 : Int} {α : Type} {d : Kd α} {e : Nat} {base : Nat} {ok : Nat → Prop} {v : Value} {xs : List α} (h : IsS52 w0 W g f0 f1) (ho : d.Q e W base ok v xs) (ht : ∀ q, q ∈ e :: d.E → q ≠ 52) : d.Q e W base (fun k => ok k ∧ k ≠ g) v xs := by
 obtain ⟨A0, c0, hb, hg, hr0⟩ := h
 exact Kd.Q_types ho hb ht
theorem IsS52.own_neQ {w0 W : World} {g : Nat} {f0 : List Int} {f1 : Int} {α : Type} {d : Kd α} {e : Nat} {base : Nat} {ok : Nat → Prop} {v : Value} {xs : List α} (h : IsS52 w0 W g f0 f1) (ho : d.Q e W base ok v xs) (ht : e ≠ 52) : some g ≠ v.ownBlock := by
 obtain ⟨A0, c0, hb, hg, hr0⟩ := h
 exact Kd.Q_ne ho hb ht
theorem IsS52.apartS {w0 W : World} {g : Nat} {f0 : List Int} {f1 : Int} {α : Type} {d : Kd α} {e : Nat} {base : Nat} {ok : Nat → Prop} {v : Value} {xs : List α} (h : IsS52 w0 W g f0 f1) (ho : d.S e W base ok v xs) (ht : ∀ q, q ∈ e :: d.E → q ≠ 52) : d.S e W base (fun k => ok k ∧ k ≠ g) v xs := by
 obtain ⟨A0, c0, hb, hg, hr0⟩ := h
 exact Kd.S_types ho hb ht
theorem IsS52.own_neS {w0 W : World} {g : Nat} {f0 : List Int} {f1 : Int} {α : Type} {d : Kd α} {e : Nat} {base : Nat} {ok : Nat → Prop} {v : Value} {xs : List α} (h : IsS52 w0 W g f0 f1) (ho : d.S e W base ok v xs) (ht : e ≠ 52) : some g ≠ v.ownBlock := by
 obtain ⟨A0, c0, hb, hg, hr0⟩ := h
 exact Kd.S_ne ho hb ht
theorem IsS52.lt {w0 W : World} {g : Nat} {f0 : List Int} {f1 : Int} (h : IsS52 w0 W g f0 f1) : g < W.heap.size := by
 obtain ⟨A0, c0, hb, hg, hr0⟩ := h
 exact blk_lt hb
theorem IsS52.ge {w0 W : World} {g : Nat} {f0 : List Int} {f1 : Int} (h : IsS52 w0 W g f0 f1) : w0.heap.size ≤ g := by
 obtain ⟨A0, c0, hb, hg, hr0⟩ := h
 exact hg
theorem IsS52.ne_blk {w0 W : World} {g : Nat} {f0 : List Int} {f1 : Int} {a : Nat} {cs : Array Value} {t : TypeId} {fr : Nat × Nat} (h : IsS52 w0 W g f0 f1) (hb2 : W.heap[a]? = some (.cells cs t fr)) (ht : t ≠ 52) : g ≠ a := by
 obtain ⟨A0, c0, hb, hg, hr0⟩ := h
 rintro rfl
 rw [hb] at hb2
 injection hb2 with hb2
 injection hb2 with _ ht2
 exact ht ht2.symm
theorem IsS52.far {w0 W : World} {g : Nat} {f0 : List Int} {f1 : Int} {p : Addr} (h : IsS52 w0 W g f0 f1) (hne : g ≠ p.block) (u : Value) : IsS52 w0 (W.setCell p u) g f0 f1 := by
 obtain ⟨A0, c0, hb, hg, hr0⟩ := h
 exact ⟨A0, c0, blk_far hb hne u, hg, hr0⟩
theorem cellS52_0 {W : World} {g : Nat} {A0 : Option Addr} {c0 : Nat} {f0 : List Int} {f1 : Int} (h : W.heap[g]? = some (.cells #[.slice A0 f0.length c0, .int .i64 f1] 52 (0, 0))) : W.cell? ⟨g, 0, none⟩ = some (.slice A0 f0.length c0) := (blk_cell h 0).trans rfl
theorem cellS52_1 {W : World} {g : Nat} {A0 : Option Addr} {c0 : Nat} {f0 : List Int} {f1 : Int} (h : W.heap[g]? = some (.cells #[.slice A0 f0.length c0, .int .i64 f1] 52 (0, 0))) : W.cell? ⟨g, 1, none⟩ = some (.int .i64 f1) := (blk_cell h 1).trans rfl
theorem IsS52.set_1 {w0 W : World} {g : Nat} {f0 : List Int} {f1 : Int} (h : IsS52 w0 W g f0 f1) (x : Int) : IsS52 w0 (W.setCell ⟨g, 1, none⟩ (.int .i64 x)) g f0 x := by
 obtain ⟨A0, c0, hb, hg, hr0⟩ := h
 exact ⟨A0, c0, by simpa using blk_set hb 1 (.int .i64 x), hg, hr0⟩
theorem IsS52.new (w0 W : World) (A0 : Option Addr) (c0 : Nat) (f0 : List Int) (f1 : Int) (hB : Below w0.heap.size w0 W) (hr0 : Kd.C (Kd.int .u8) w0 A0 f0.length f0) : IsS52 w0 (W.alloc (.cells #[.slice A0 f0.length c0, .int .i64 f1] 52)) W.heap.size f0 f1 := ⟨A0, c0, by simpa using heap_alloc_new W _, hB.size, hr0⟩

/-! ### kerbsuitedata_Source_Next: function 49 -/
def kerbsuitedata_Source_Next.f (Ha : List Int) (oa : Int) (a1 : Int) : Option (Int × Int) := if oa ≥ (Ha.length : Int) then (some (0, oa)) else (if a1 ≤ 0 then (some (0, oa)) else (if 0 ≤ oa then (if oa < (Ha.length : Int) then (if a1 = 0 then (none) else (some (Int.tmod (wrap64 (rd Ha oa)) a1, wrap64 (oa + 1)))) else (none)) else (none)))
set_option maxHeartbeats 8000000 in
set_option maxRecDepth 100000 in
theorem kerbsuitedata_Source_Next.calls (g : Nat) (Ha : List Int) (oa : Int) (a1 : Int) (r1 : Int) (r2 : Int) (w0 w : World) (hI : IsS52 w0 w g Ha oa) (hB : Below w0.heap.size w0 w) (h : kerbsuitedata_Source_Next.f Ha oa a1 = some (r1, r2)) :
  Calls Tryd.prog 49 #[.pointer (some ⟨g, 0, none⟩), .int .i64 a1] w fun e w' => e = .returned (.int .i64 r1) ∧ IsS52 w0 w' g Ha r2 ∧ Below w0.heap.size w0 w' ∧ KeepBut w w' g none := by
 have eb := aM_ hI
 have HK := aM_ (KeepBut.refl w g none)
 have HL := aM_ hB.size
 clear hI
 have HW0 := aM_ hB.size
 have HB := aM_ hB
 clear hB
 have H : (if oa ≥ (Ha.length : Int) then (some (0, oa)) else (if a1 ≤ 0 then (some (0, oa)) else (if 0 ≤ oa then (if oa < (Ha.length : Int) then (if a1 = 0 then (none) else (some (Int.tmod (wrap64 (rd Ha oa)) a1, wrap64 (oa + 1)))) else (none)) else (none)))) = some (r1, r2) := h
 clear h
 by_cases c3 : oa ≥ (Ha.length : Int)
 ·rw [if_pos c3] at H
  have Wb : decide ((Ha.length : Int) ≤ oa) = true := decide_eq_true c3
  clear c3
  simp only [Option.some.injEq, Prod.mk.injEq] at H
  obtain ⟨rfl, rfl⟩ := H
  obtain ⟨ASz4_0, cSz4_0, HGz4, hgz4, HSz4_0⟩ := eb.out
  have Ad := cellS52_0 HGz4
  have Bd := cellS52_1 HGz4
  have Cd := blk_frozen HGz4 1
  clear HGz4 hgz4
  go_enter Tryd.func49, Tryd.ntmps49
  go_wp2
  repeat (go_quiet (fail); try go_wp2)
  go_ret
  exact ⟨eW_, by repeat (first | (with_reducible first | exact eb.out | apply IsS52.alloc | apply IsS52.drewN | apply IsS52.drew | apply IsS52.set_1) | exact eb.out), by repeat (first | (with_reducible first | exact HB.out | apply bA_ | apply bN_ | apply bD_ | refine bS_ ?_ (IsS52.ge eb.out)) | exact HB.out), by repeat (first | (with_reducible first | exact HK.out | apply KeepBut.set_ | apply keep_drewN | apply keep_drew | apply keep_alloc) | exact HK.out)⟩
 rw [if_neg c3] at H
 have Wb : decide ((Ha.length : Int) ≤ oa) = false := decide_eq_false c3
 clear c3
 by_cases c5 : a1 ≤ 0
 ·rw [if_pos c5] at H
  have pc : decide (a1 ≤ 0) = true := decide_eq_true c5
  clear c5
  simp only [Option.some.injEq, Prod.mk.injEq] at H
  obtain ⟨rfl, rfl⟩ := H
  obtain ⟨ASz6_0, cSz6_0, HGz6, hgz6, HSz6_0⟩ := eb.out
  have vb := cellS52_0 HGz6
  have wb := cellS52_1 HGz6
  have xb := blk_frozen HGz6 1
  clear HGz6 hgz6
  go_enter Tryd.func49, Tryd.ntmps49
  go_wp2
  repeat (go_quiet (fail); try go_wp2)
  go_ret
  exact ⟨eW_, by repeat (first | (with_reducible first | exact eb.out | apply IsS52.alloc | apply IsS52.drewN | apply IsS52.drew | apply IsS52.set_1) | exact eb.out), by repeat (first | (with_reducible first | exact HB.out | apply bA_ | apply bN_ | apply bD_ | refine bS_ ?_ (IsS52.ge eb.out)) | exact HB.out), by repeat (first | (with_reducible first | exact HK.out | apply KeepBut.set_ | apply keep_drewN | apply keep_drew | apply keep_alloc) | exact HK.out)⟩
 rw [if_neg c5] at H
 have pc : decide (a1 ≤ 0) = false := decide_eq_false c5
 clear c5
 by_cases c7 : 0 ≤ oa
 ·rw [if_pos c7] at H
  have be : decide (0 ≤ oa) = true := decide_eq_true c7
  clear c7
  by_cases c8 : oa < (Ha.length : Int)
  ·rw [if_pos c8] at H
   have oc : decide (oa < (Ha.length : Int)) = true := decide_eq_true c8
   clear c8
   by_cases c9 : a1 = 0
   ·rw [if_pos c9] at H
    exact absurd H (by simp)
   rw [if_neg c9] at H
   have Ec : (a1 == 0) = false := beq_eq_false_iff_ne.mpr c9
   have ce : (a1 != 0) = true := bne_iff_ne.mpr c9
   simp only [Option.some.injEq, Prod.mk.injEq] at H
   obtain ⟨rfl, rfl⟩ := H
   obtain ⟨ASz10_0, cSz10_0, HGz10, hgz10, HSz10_0⟩ := eb.out
   have nd := cellS52_0 HGz10
   have od := cellS52_1 HGz10
   have pd := blk_frozen HGz10 1
   clear HGz10 hgz10
   have Zb : 0 ≤ (oa : Int) := dT_
   have ac : oa < (Ha.length : Int) := dT_
   obtain ⟨Rd, Pc, Fb⟩ := Kd.at_int HSz10_0 oa Zb ac
   cases Pc
   replace Fb := pw_cell_below HB.out Fb
   replace Zb := eq_true Zb
   replace ac := eq_true ac
   go_enter Tryd.func49, Tryd.ntmps49
   go_wp2
   repeat (go_quiet (fail); try go_wp2)
   go_ret
   exact ⟨eW_, by repeat (first | (with_reducible first | exact eb.out | apply IsS52.alloc | apply IsS52.drewN | apply IsS52.drew | apply IsS52.set_1) | exact eb.out), by repeat (first | (with_reducible first | exact HB.out | apply bA_ | apply bN_ | apply bD_ | refine bS_ ?_ (IsS52.ge eb.out)) | exact HB.out), by repeat (first | (with_reducible first | exact HK.out | apply KeepBut.set_ | apply keep_drewN | apply keep_drew | apply keep_alloc) | exact HK.out)⟩
  rw [if_neg c8] at H
  exact absurd H (by simp)
 rw [if_neg c7] at H
 exact absurd H (by simp)

end Go.Proofs.YthfdfoigoomaoaaDoor.PDb
