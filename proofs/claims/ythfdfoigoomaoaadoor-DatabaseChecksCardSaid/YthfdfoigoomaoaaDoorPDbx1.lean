/- The walks of functions of the translation: each call returns what the plain function beside it says. -/
import Derived.Test.YthfdfoigoomaoaaDoorPDbx0
namespace Go.Proofs.YthfdfoigoomaoaaDoor.PDb
open Go.RowKit Go.Proofs.YthfdfoigoomaoaaDoorW.PrintWords Go.Proofs.YthfdfoigoomaoaaDoorW.PrintLast Go.Proofs.YthfdfoigoomaoaaDoorW.PrintMore Go.Proofs.YthfdfoigoomaoaaDoor.Aid
attribute [local go_sem] max2_int min2_int max_two min_two max_three min_three max_four min_four aid_str_gtr aid_str_leq   -- for this text's walks alone
set_option linter.unusedVariables false
set_option linter.unusedSimpArgs false

/-! ### kerbsuitedata_Long: function 13 -/
def kerbsuitedata_Long.f (a0 : Int) : Option (Int) := some (Go.bits .or .u64 72057594037927936 (IntKind.u64.wrap (wrap64 (1 + a0))))
set_option maxHeartbeats 8000000 in
set_option maxRecDepth 100000 in
theorem kerbsuitedata_Long.calls (a0 : Int) (r : Int) (w : World) (h : kerbsuitedata_Long.f a0 = some r) :
  Calls Tryd.prog 13 #[.int .i64 a0] w fun e w' => e = .returned (.int .u64 r) ∧ Drawn0 w w' := by
 have H : (some (Go.bits .or .u64 72057594037927936 (IntKind.u64.wrap (wrap64 (1 + a0))))) = some r := h
 clear h
 obtain rfl := Option.some.inj H
 go_enter Tryd.func13, Tryd.ntmps13
 go_wp2
 go_ret
 exact ⟨by first | rfl | (simp; done) | (simp [*]; done), by repeat (first | exact Drawn0.refl _ | apply Drawn0.step)⟩

/-! ### database_Find: function 18 -/
mutual
def database_Find.l0 : Nat → ByteArray → ByteArray → Int → List (S35) → Int → Int → Option (Int × Int)
 | 0, _, _, _, _, _, _ => none
 | k + 1, x1, x2, x8, Ka, Ya, oa => if oa < Ya then (if 0 ≤ oa then (if oa < (Ka.length : Int) then (if ((rd_T35 Ka oa).f0).toList = x1.toList then (database_Find.j1 k x1 x2 x8 oa Ka Ya oa (((rd_T35 Ka oa).f1).toList != x2.toList)) else (database_Find.j1 k x1 x2 x8 oa Ka Ya oa true)) else (none)) else (none)) else (if x8 < 0 then (some (0, 8)) else (some (x8, 0)))
def database_Find.j1 : Nat → ByteArray → ByteArray → Int → Int → List (S35) → Int → Int → Bool → Option (Int × Int)
 | 0, _, _, _, _, _, _, _, _ => none
 | k + 1, x1, x2, x8, x9, Ka, Ya, oa, cd => if cd = true then (database_Find.l0 k x1 x2 x8 Ka Ya (wrap64 (oa + 1))) else (if x8 ≥ 0 then (some (0, 9)) else (database_Find.l0 k x1 x2 x9 Ka Ya (wrap64 (oa + 1))))
end
def database_Find.f (k : Nat) (la : ByteArray) (ba : List (S35)) (a1 : ByteArray) (a2 : ByteArray) : Option (Int × Int) := database_Find.l0 k a1 a2 (-1) ba (ba.length : Int) 0
set_option maxHeartbeats 8000000 in
set_option maxRecDepth 100000 in
theorem database_Find.calls (k : Nat) (la : ByteArray) (fb : Option Addr) (pa : Nat) (ba : List (S35)) (a1 : ByteArray) (a2 : ByteArray) (r1 : Int) (r2 : Int) (w : World) (hr0_1 : Kd.C k35 w fb ba.length ba) (hc0_1 : ba.length ≤ pa) (h : database_Find.f k la ba a1 a2 = some (r1, r2)) :
  Calls Tryd.prog 18 #[.agg #[.string la, .slice fb ba.length pa], .string a1, .string a2] w fun e w' => e = .returned (.tuple #[.int .i64 r1, .int .i64 r2]) ∧ Below w.heap.size w w' := by
 have hu24 := Tryd.underlying24
 have hu35 := Tryd.underlying35
 have Nc := aM_ hr0_1
 have gd := aM_ hc0_1
 clear hr0_1 hc0_1
 have HB := aM_ (Below.refl w.heap.size w)
 have H : (database_Find.l0 k a1 a2 (-1) ba (ba.length : Int) 0) = some (r1, r2) := h
 clear h
 have H' := aM_ H
 clear H
 go_enter Tryd.func18, Tryd.ntmps18
 go_wp2_with (first | ((with_reducible refine gate_dst (N := 3) rfl ?_); refine box_event ?hg (N := 3) ?hd (cs := #[.string la, .slice fb ba.length pa]) (t := 24) ?hr ?_; (case hd => rfl); (case hg => rfl); (case hr => first | (go_simp; done) | (go_simp; rfl)); intro ia hg w4 hbox hb; have ha := aM_ (hbox); have id := aM_ ((by rw [hg]; exact (below_size (bk_ HB.out)) : w.heap.size ≤ ia)); have jd := aM_ ((by rw [hg]; exact (below_size (bk_ HB.out)) : w.heap.size ≤ ia)); replace HB := aM_ (below_step (bk_ HB.out) hb); clear hb hbox hg; have mb := bc_ ha.out 0; have nb := bc_ ha.out 1; have ob := blk_frozen ha.out 0; have pb := blk_frozen ha.out 1))
 go_loopg [8, 14] k (fun kq v8 dd w' => ∃ (ea : Int) (aa : Int), v8 = .int .i64 ea ∧ dd = .int .i64 aa ∧ Aside0 (database_Find.l0 kq a1 a2 ea ba (ba.length : Int) aa = some (r1, r2)) ∧ Aside0 (kq ≤ k) ∧ Aside0 (w'.heap[ia]? = some (.cells #[.string la, (.slice fb ba.length pa)] 24 (0, 0))) ∧ Aside0 (Below w.heap.size w w'))
 case atStart => exact ⟨((-1)), (0), rS_, rS_, H', ⟨Nat.le_refl _⟩, ⟨by refine bk_ ?_; exact ha.out⟩, ⟨hB_⟩⟩
 case round =>
  clear H'
  try clear c1
  try clear p2
  try clear mb
  try clear nb
  try clear ob
  try clear pb
  obtain ⟨ea, aa, rfl, rfl, HA, Fa, ha, HB⟩ := hrel
  cases gk with
  | zero => exact absurd HA.out (by simp [database_Find.l0])
  | succ k1 =>
   have H := HA.out
   clear HA
   simp only [database_Find.l0] at H
   by_cases c6 : aa < (ba.length : Int)
   ·rw [if_pos c6] at H
    have gb : decide (aa < (ba.length : Int)) = true := decide_eq_true c6
    clear c6
    by_cases c7 : 0 ≤ aa
    ·rw [if_pos c7] at H
     have Sa : decide (0 ≤ aa) = true := decide_eq_true c7
     clear c7
     by_cases c8 : aa < (ba.length : Int)
     ·rw [if_pos c8] at H
      have tb : decide (aa < (ba.length : Int)) = true := decide_eq_true c8
      clear c8
      have Gc := aM_ H
      clear H
      have ib : 0 ≤ (aa : Int) := dT_
      have jb : aa < (ba.length : Int) := dT_
      obtain ⟨Oa, Wc, sa, ta, ua, va, wa, xa, ya, za, Aa⟩ := at_T35 Nc.out aa ib jb
      cases Wc
      replace sa := (HB.out.cell (World.block_lt_of_cell? w _ sa)).trans sa
      replace ta := (HB.out.cell (World.block_lt_of_cell? w _ ta)).trans ta
      replace ua := (HB.out.cell (World.block_lt_of_cell? w _ ua)).trans ua
      replace va := (HB.out.cell (World.block_lt_of_cell? w _ va)).trans va
      replace wa := (HB.out.cell (World.block_lt_of_cell? w _ wa)).trans wa
      replace xa := (HB.out.cell (World.block_lt_of_cell? w _ xa)).trans xa
      replace ya := (HB.out.cell (World.block_lt_of_cell? w _ ya)).trans ya
      replace za := (HB.out.cell (World.block_lt_of_cell? w _ za)).trans za
      replace Aa := (HB.out.cell (World.block_lt_of_cell? w _ Aa)).trans Aa
      replace ib := eq_true ib
      replace jb := eq_true jb
      go_upto_region 5 with (first | ((with_reducible refine gate_dst (N := 10) rfl ?_); refine box_event ?hg (N := 10) ?hd (cs := #[.string (⟨#[]⟩ : ByteArray), .string (⟨#[]⟩ : ByteArray), .int .u64 0, .int .i64 0, .int .i64 0, .int .i64 0, .int .i64 0, .int .i64 0, .int .i64 0]) (t := 35) ?hr ?_; (case hd => rfl); (case hg => rfl); (case hr => first | (go_simp; done) | (go_simp; rfl)); intro Ga hg vd hbox hb; have da := aM_ (hbox); have kd := aM_ ((by rw [hg]; exact (below_size hB_) : w.heap.size ≤ Ga)); have ld := aM_ ((by rw [hg]; exact (below_size hB_) : w.heap.size ≤ Ga)); replace HB := aM_ (below_step hB_ hb); have fa := aM_ ((by rw [hg]; exact Nat.ne_of_lt (blk_lt (g := ia) (o := .cells #[.string la, .slice (some Oa) ba.length pa] 24 (0, 0)) (bk_ ha.out)) : ia ≠ Ga)); have qa := aM_ ((by rw [hg]; exact Nat.ne_of_gt (blk_lt (g := ia) (o := .cells #[.string la, .slice (some Oa) ba.length pa] 24 (0, 0)) (bk_ ha.out)) : Ga ≠ ia)); replace ha := aM_ (blk_below (g := ia) (o := .cells #[.string la, .slice (some Oa) ba.length pa] 24 (0, 0)) (bk_ ha.out) hb); clear hb hbox hg; have md := qa.out; have od := fa.out; have Bb := bc_ da.out 0; have Cb := bc_ da.out 1; have Db := bc_ da.out 2; have Eb := bc_ da.out 3; have Fb := bc_ da.out 4; have Gb := bc_ da.out 5; have Hb := bc_ da.out 6; have Ib := bc_ da.out 7; have Jb := bc_ da.out 8; have Kb := blk_frozen da.out 0; have Lb := blk_frozen da.out 1; have Mb := blk_frozen da.out 2; have Nb := blk_frozen da.out 3; have Ob := blk_frozen da.out 4; have Pb := blk_frozen da.out 5; have Qb := blk_frozen da.out 6; have Rb := blk_frozen da.out 7; have Sb := blk_frozen da.out 8))
      (try simp only [Act.put, sA_, sB_, sC_])
      go_cut [28] (fun ed wc => ∃ (kq : Nat) (Pa : Bool), ed = .bool Pa ∧ Aside0 (database_Find.j1 kq a1 a2 ea aa ba (ba.length : Int) aa Pa = some (r1, r2)) ∧ Aside0 (kq ≤ k1) ∧ Aside0 (wc.heap[ia]? = some (.cells #[.string la, (.slice (some Oa) ba.length pa)] 24 (0, 0))) ∧ Aside0 (wc.heap[Ga]? = some (.cells #[.string ((rd_T35 ba aa).f0), .string ((rd_T35 ba aa).f1), .int .u64 ((rd_T35 ba aa).f2), .int .i64 ((rd_T35 ba aa).f3), .int .i64 ((rd_T35 ba aa).f4), .int .i64 ((rd_T35 ba aa).f5), .int .i64 ((rd_T35 ba aa).f6), .int .i64 ((rd_T35 ba aa).f7), .int .i64 ((rd_T35 ba aa).f8)] 35 (0, 0))) ∧ Aside0 (Below w.heap.size w wc))
      case first =>
       have H := Gc.out
       clear Gc
       by_cases La : ((rd_T35 ba aa).f0).toList = a1.toList
       ·rw [if_pos La] at H
        have Ba : (((rd_T35 ba aa).f0).toList == a1.toList) = true := beq_iff_eq.mpr La
        have wb : (((rd_T35 ba aa).f0).toList != a1.toList) = false := bne_eq_false_iff_eq.mpr La
        clear La
        (first | rw [Ba] | (simp only [i64_w, i32_w]; rw [Ba]) | skip)
        have H' := aM_ H
        clear H
        have pd := qa.out
        have qd := fa.out
        have Tb := bc_ da.out 0
        have Ub := bc_ da.out 1
        have Vb := bc_ da.out 2
        have Wb := bc_ da.out 3
        have Xb := bc_ da.out 4
        have Yb := bc_ da.out 5
        have Zb := bc_ da.out 6
        have ac := bc_ da.out 7
        have bc := bc_ da.out 8
        have cc := blk_frozen da.out 0
        have dc := blk_frozen da.out 1
        have ec := blk_frozen da.out 2
        have fc := blk_frozen da.out 3
        have gc := blk_frozen da.out 4
        have hc := blk_frozen da.out 5
        have ic := blk_frozen da.out 6
        have jc := blk_frozen da.out 7
        have kc := blk_frozen da.out 8
        go_wp2
        go_meet
        case rel => exact ⟨_, ((((rd_T35 ba aa).f1).toList != a2.toList)), rS_, H', ⟨by have := Fa.out; first | omega | exact Nat.le_refl _⟩, ⟨by refine bk_ ?_; refine blk_far ?_ fa.out _; refine bk_ ?_; refine blk_far ?_ fa.out _; refine bk_ ?_; refine blk_far ?_ fa.out _; refine bk_ ?_; refine blk_far ?_ fa.out _; refine bk_ ?_; refine blk_far ?_ fa.out _; refine bk_ ?_; refine blk_far ?_ fa.out _; refine bk_ ?_; refine blk_far ?_ fa.out _; refine bk_ ?_; refine blk_far ?_ fa.out _; refine bk_ ?_; refine blk_far ?_ fa.out _; refine bk_ ?_; exact ha.out⟩, ⟨by refine bk_ ?_; refine blk_put (cs := #[.string ((rd_T35 ba aa).f0), .string ((rd_T35 ba aa).f1), .int .u64 ((rd_T35 ba aa).f2), .int .i64 ((rd_T35 ba aa).f3), .int .i64 ((rd_T35 ba aa).f4), .int .i64 ((rd_T35 ba aa).f5), .int .i64 ((rd_T35 ba aa).f6), .int .i64 ((rd_T35 ba aa).f7), .int .i64 0]) ?_ 8 _ rfl; refine bk_ ?_; refine blk_put (cs := #[.string ((rd_T35 ba aa).f0), .string ((rd_T35 ba aa).f1), .int .u64 ((rd_T35 ba aa).f2), .int .i64 ((rd_T35 ba aa).f3), .int .i64 ((rd_T35 ba aa).f4), .int .i64 ((rd_T35 ba aa).f5), .int .i64 ((rd_T35 ba aa).f6), .int .i64 0, .int .i64 0]) ?_ 7 _ rfl; refine bk_ ?_; refine blk_put (cs := #[.string ((rd_T35 ba aa).f0), .string ((rd_T35 ba aa).f1), .int .u64 ((rd_T35 ba aa).f2), .int .i64 ((rd_T35 ba aa).f3), .int .i64 ((rd_T35 ba aa).f4), .int .i64 ((rd_T35 ba aa).f5), .int .i64 0, .int .i64 0, .int .i64 0]) ?_ 6 _ rfl; refine bk_ ?_; refine blk_put (cs := #[.string ((rd_T35 ba aa).f0), .string ((rd_T35 ba aa).f1), .int .u64 ((rd_T35 ba aa).f2), .int .i64 ((rd_T35 ba aa).f3), .int .i64 ((rd_T35 ba aa).f4), .int .i64 0, .int .i64 0, .int .i64 0, .int .i64 0]) ?_ 5 _ rfl; refine bk_ ?_; refine blk_put (cs := #[.string ((rd_T35 ba aa).f0), .string ((rd_T35 ba aa).f1), .int .u64 ((rd_T35 ba aa).f2), .int .i64 ((rd_T35 ba aa).f3), .int .i64 0, .int .i64 0, .int .i64 0, .int .i64 0, .int .i64 0]) ?_ 4 _ rfl; refine bk_ ?_; refine blk_put (cs := #[.string ((rd_T35 ba aa).f0), .string ((rd_T35 ba aa).f1), .int .u64 ((rd_T35 ba aa).f2), .int .i64 0, .int .i64 0, .int .i64 0, .int .i64 0, .int .i64 0, .int .i64 0]) ?_ 3 _ rfl; refine bk_ ?_; refine blk_put (cs := #[.string ((rd_T35 ba aa).f0), .string ((rd_T35 ba aa).f1), .int .u64 0, .int .i64 0, .int .i64 0, .int .i64 0, .int .i64 0, .int .i64 0, .int .i64 0]) ?_ 2 _ rfl; refine bk_ ?_; refine blk_put (cs := #[.string ((rd_T35 ba aa).f0), .string (⟨#[]⟩ : ByteArray), .int .u64 0, .int .i64 0, .int .i64 0, .int .i64 0, .int .i64 0, .int .i64 0, .int .i64 0]) ?_ 1 _ rfl; refine bk_ ?_; refine blk_put (cs := #[.string (⟨#[]⟩ : ByteArray), .string (⟨#[]⟩ : ByteArray), .int .u64 0, .int .i64 0, .int .i64 0, .int .i64 0, .int .i64 0, .int .i64 0, .int .i64 0]) ?_ 0 _ rfl; refine bk_ ?_; exact da.out⟩, ⟨hB_⟩⟩
       rw [if_neg La] at H
       have Ba : (((rd_T35 ba aa).f0).toList == a1.toList) = false := beq_eq_false_iff_ne.mpr La
       have wb : (((rd_T35 ba aa).f0).toList != a1.toList) = true := bne_iff_ne.mpr La
       (first | rw [Ba] | (simp only [i64_w, i32_w]; rw [Ba]) | skip)
       have H' := aM_ H
       clear H
       have rd := qa.out
       have sd := fa.out
       have lc := bc_ da.out 0
       have mc := bc_ da.out 1
       have nc := bc_ da.out 2
       have oc := bc_ da.out 3
       have pc := bc_ da.out 4
       have qc := bc_ da.out 5
       have rc := bc_ da.out 6
       have sc := bc_ da.out 7
       have tc := bc_ da.out 8
       have uc := blk_frozen da.out 0
       have vc := blk_frozen da.out 1
       have xc := blk_frozen da.out 2
       have yc := blk_frozen da.out 3
       have zc := blk_frozen da.out 4
       have Ac := blk_frozen da.out 5
       have Bc := blk_frozen da.out 6
       have Cc := blk_frozen da.out 7
       have Dc := blk_frozen da.out 8
       go_wp2
       go_meet
       case rel => exact ⟨_, (true), rS_, H', ⟨by have := Fa.out; first | omega | exact Nat.le_refl _⟩, ⟨by refine bk_ ?_; refine blk_far ?_ fa.out _; refine bk_ ?_; refine blk_far ?_ fa.out _; refine bk_ ?_; refine blk_far ?_ fa.out _; refine bk_ ?_; refine blk_far ?_ fa.out _; refine bk_ ?_; refine blk_far ?_ fa.out _; refine bk_ ?_; refine blk_far ?_ fa.out _; refine bk_ ?_; refine blk_far ?_ fa.out _; refine bk_ ?_; refine blk_far ?_ fa.out _; refine bk_ ?_; refine blk_far ?_ fa.out _; refine bk_ ?_; exact ha.out⟩, ⟨by refine bk_ ?_; refine blk_put (cs := #[.string ((rd_T35 ba aa).f0), .string ((rd_T35 ba aa).f1), .int .u64 ((rd_T35 ba aa).f2), .int .i64 ((rd_T35 ba aa).f3), .int .i64 ((rd_T35 ba aa).f4), .int .i64 ((rd_T35 ba aa).f5), .int .i64 ((rd_T35 ba aa).f6), .int .i64 ((rd_T35 ba aa).f7), .int .i64 0]) ?_ 8 _ rfl; refine bk_ ?_; refine blk_put (cs := #[.string ((rd_T35 ba aa).f0), .string ((rd_T35 ba aa).f1), .int .u64 ((rd_T35 ba aa).f2), .int .i64 ((rd_T35 ba aa).f3), .int .i64 ((rd_T35 ba aa).f4), .int .i64 ((rd_T35 ba aa).f5), .int .i64 ((rd_T35 ba aa).f6), .int .i64 0, .int .i64 0]) ?_ 7 _ rfl; refine bk_ ?_; refine blk_put (cs := #[.string ((rd_T35 ba aa).f0), .string ((rd_T35 ba aa).f1), .int .u64 ((rd_T35 ba aa).f2), .int .i64 ((rd_T35 ba aa).f3), .int .i64 ((rd_T35 ba aa).f4), .int .i64 ((rd_T35 ba aa).f5), .int .i64 0, .int .i64 0, .int .i64 0]) ?_ 6 _ rfl; refine bk_ ?_; refine blk_put (cs := #[.string ((rd_T35 ba aa).f0), .string ((rd_T35 ba aa).f1), .int .u64 ((rd_T35 ba aa).f2), .int .i64 ((rd_T35 ba aa).f3), .int .i64 ((rd_T35 ba aa).f4), .int .i64 0, .int .i64 0, .int .i64 0, .int .i64 0]) ?_ 5 _ rfl; refine bk_ ?_; refine blk_put (cs := #[.string ((rd_T35 ba aa).f0), .string ((rd_T35 ba aa).f1), .int .u64 ((rd_T35 ba aa).f2), .int .i64 ((rd_T35 ba aa).f3), .int .i64 0, .int .i64 0, .int .i64 0, .int .i64 0, .int .i64 0]) ?_ 4 _ rfl; refine bk_ ?_; refine blk_put (cs := #[.string ((rd_T35 ba aa).f0), .string ((rd_T35 ba aa).f1), .int .u64 ((rd_T35 ba aa).f2), .int .i64 0, .int .i64 0, .int .i64 0, .int .i64 0, .int .i64 0, .int .i64 0]) ?_ 3 _ rfl; refine bk_ ?_; refine blk_put (cs := #[.string ((rd_T35 ba aa).f0), .string ((rd_T35 ba aa).f1), .int .u64 0, .int .i64 0, .int .i64 0, .int .i64 0, .int .i64 0, .int .i64 0, .int .i64 0]) ?_ 2 _ rfl; refine bk_ ?_; refine blk_put (cs := #[.string ((rd_T35 ba aa).f0), .string (⟨#[]⟩ : ByteArray), .int .u64 0, .int .i64 0, .int .i64 0, .int .i64 0, .int .i64 0, .int .i64 0, .int .i64 0]) ?_ 1 _ rfl; refine bk_ ?_; refine blk_put (cs := #[.string (⟨#[]⟩ : ByteArray), .string (⟨#[]⟩ : ByteArray), .int .u64 0, .int .i64 0, .int .i64 0, .int .i64 0, .int .i64 0, .int .i64 0, .int .i64 0]) ?_ 0 _ rfl; refine bk_ ?_; exact da.out⟩, ⟨hB_⟩⟩
      case rest =>
       clear Gc
       try clear c1
       try clear p1
       try clear q1
       try clear wd
       try clear p2
       try clear c6
       try clear gb
       try clear c7
       try clear Sa
       try clear c8
       try clear tb
       try clear Za
       try clear ab
       try clear Hc
       try clear xd
       try clear La
       try clear Ba
       try clear wb
       try clear yd
       try clear zd
       try clear Bb
       try clear Cb
       try clear Db
       try clear Eb
       try clear Fb
       try clear Gb
       try clear Hb
       try clear Ib
       try clear Jb
       try clear Tb
       try clear Ub
       try clear Vb
       try clear Wb
       try clear Xb
       try clear Yb
       try clear Zb
       try clear ac
       try clear bc
       try clear lc
       try clear mc
       try clear nc
       try clear oc
       try clear pc
       try clear qc
       try clear rc
       try clear sc
       try clear tc
       try clear mb
       try clear nb
       try clear Kb
       try clear Lb
       try clear Mb
       try clear Nb
       try clear Ob
       try clear Pb
       try clear Qb
       try clear Rb
       try clear Sb
       try clear cc
       try clear dc
       try clear ec
       try clear fc
       try clear gc
       try clear hc
       try clear ic
       try clear jc
       try clear kc
       try clear uc
       try clear vc
       try clear xc
       try clear yc
       try clear zc
       try clear Ac
       try clear Bc
       try clear Cc
       try clear Dc
       try clear ob
       try clear pb
       try clear sa
       try clear ta
       try clear ua
       try clear va
       try clear wa
       try clear xa
       try clear ya
       try clear za
       try clear Aa
       try clear ib
       try clear p2
       try clear jb
       obtain ⟨kq, Pa, rfl, HA, xb, ha, da, HB⟩ := hcut
       cases kq with
       | zero => exact absurd HA.out (by simp [database_Find.j1])
       | succ yb =>
        have H := HA.out
        clear HA
        simp only [database_Find.j1] at H
        by_cases zb : Pa = true
        ·subst zb
         have H1 : (database_Find.l0 yb a1 a2 ea ba (ba.length : Int) (wrap64 (aa + 1))) = some (r1, r2) := by rw [if_pos rfl] at H; exact H
         clear H
         have H := H1
         clear H1
         have H' := aM_ H
         clear H
         go_wp2
         go_roundg yb
         case measure => have := Fa.out; have := xb.out; omega
         case rel => exact ⟨(ea), (wrap64 (aa + 1)), rS_, rS_, H', ⟨by have := Fa.out; have := xb.out; omega⟩, ⟨by refine bk_ ?_; exact ha.out⟩, ⟨hB_⟩⟩
        replace zb := Bool.eq_false_iff.mpr zb
        subst zb
        have H1 : (if ea ≥ 0 then (some (0, 9)) else (database_Find.l0 yb a1 a2 aa ba (ba.length : Int) (wrap64 (aa + 1)))) = some (r1, r2) := by rw [if_neg (show ¬ (false = true) by decide)] at H; exact H
        clear H
        have H := H1
        clear H1
        by_cases bb : ea ≥ 0
        ·rw [if_pos bb] at H
         have Oc : decide (0 ≤ ea) = true := decide_eq_true bb
         clear bb
         simp only [Option.some.injEq, Prod.mk.injEq] at H
         obtain ⟨rfl, rfl⟩ := H
         go_wp2
         go_ret2
         exact ⟨eW_, hB_⟩
        rw [if_neg bb] at H
        have Oc : decide (0 ≤ ea) = false := decide_eq_false bb
        clear bb
        have H' := aM_ H
        clear H
        go_wp2
        go_roundg yb
        case measure => have := Fa.out; have := xb.out; omega
        case rel => exact ⟨(aa), (wrap64 (aa + 1)), rS_, rS_, H', ⟨by have := Fa.out; have := xb.out; omega⟩, ⟨by refine bk_ ?_; exact ha.out⟩, ⟨hB_⟩⟩
     rw [if_neg c8] at H
     exact absurd H (by simp)
    rw [if_neg c7] at H
    exact absurd H (by simp)
   rw [if_neg c6] at H
   have gb : decide (aa < (ba.length : Int)) = false := decide_eq_false c6
   clear c6
   by_cases cb : ea < 0
   ·rw [if_pos cb] at H
    have Pc : decide (ea < 0) = true := decide_eq_true cb
    clear cb
    simp only [Option.some.injEq, Prod.mk.injEq] at H
    obtain ⟨rfl, rfl⟩ := H
    go_wp2
    go_ret2
    exact ⟨eW_, hB_⟩
   rw [if_neg cb] at H
   have Pc : decide (ea < 0) = false := decide_eq_false cb
   clear cb
   simp only [Option.some.injEq, Prod.mk.injEq] at H
   obtain ⟨rfl, rfl⟩ := H
   go_wp2
   go_ret2
   exact ⟨eW_, hB_⟩

/-! ### strings_IndexByte: function 71 -/
def strings_IndexByte.f (a0 : ByteArray) (a1 : Int) : Option (Int) := some (Lib.indexByte a0.data.toList a1.toNat.toUInt8)
theorem strings_IndexByte.calls (a0 : ByteArray) (a1 : Int) (r : Int) (w : World) (h : strings_IndexByte.f a0 a1 = some r) :
  Calls Tryd.prog 71 #[.string a0, .int .u8 a1] w fun e w' => e = .returned (.int .i64 r) ∧ Drawn0 w w' := by
 obtain rfl := Option.some.inj h
 exact (Tryd.strings_IndexByte a0 a1 w).mono fun e w' ⟨h1, h2⟩ => ⟨h1, by rw [h2]; exact Drawn0.refl _⟩

/-! ### principal_printable: function 59 -/
def principal_printable.l0 : Nat → ByteArray → ByteArray → Int → Int → Option (Bool)
 | 0, _, _, _, _ => none
 | k + 1, x0, x1, x7, x8 => if x8 < x7 then (if 0 ≤ x8 then (if x8 < (x0.size : Int) then (if (bt x0 x8) < 33 then (some false) else (if (bt x0 x8) > 126 then (some false) else ((strings_IndexByte.f x1 (bt x0 x8)).bind fun ra => (if ra ≥ 0 then (some false) else (principal_printable.l0 k x0 x1 x7 (wrap64 (x8 + 1))))))) else (none)) else (none)) else (some (decide ((x0.size : Int) ≤ 39)))
def principal_printable.f (k : Nat) (a0 : ByteArray) (a1 : ByteArray) : Option (Bool) := principal_printable.l0 k a0 a1 (a0.size : Int) 0
set_option maxHeartbeats 8000000 in
set_option maxRecDepth 100000 in
theorem principal_printable.calls (k : Nat) (a0 : ByteArray) (a1 : ByteArray) (r : Bool) (w : World) (h : principal_printable.f k a0 a1 = some r) :
  Calls Tryd.prog 59 #[.string a0, .string a1] w fun e w' => e = .returned (.bool r) ∧ Drawn0 w w' := by
 have H : (principal_printable.l0 k a0 a1 (a0.size : Int) 0) = some r := h
 clear h
 have H' := aM_ H
 clear H
 go_enter Tryd.func59, Tryd.ntmps59
 go_wp2
 go_loopg [8] k (fun kq v8 w' => ∃ (ea : Int), v8 = .int .i64 ea ∧ Aside0 (principal_printable.l0 kq a0 a1 (a0.size : Int) ea = some r) ∧ Aside0 (kq ≤ k) ∧ Drawn0 w w')
 case atStart => exact ⟨(0), rS_, H', ⟨Nat.le_refl _⟩, by repeat (first | exact Drawn0.refl _ | apply Drawn0.step)⟩
 case round =>
  clear H'
  try clear p2
  obtain ⟨ea, rfl, HA, Fa, ⟨m1, rfl⟩⟩ := hrel
  cases gk with
  | zero => exact absurd HA.out (by simp [principal_printable.l0])
  | succ k1 =>
   have H := HA.out
   clear HA
   simp only [principal_printable.l0] at H
   by_cases c3 : ea < (a0.size : Int)
   ·rw [if_pos c3] at H
    have Ta : decide (ea < (a0.size : Int)) = true := decide_eq_true c3
    clear c3
    by_cases c4 : 0 ≤ ea
    ·rw [if_pos c4] at H
     have kb : decide (0 ≤ ea) = true := decide_eq_true c4
     clear c4
     by_cases c5 : ea < (a0.size : Int)
     ·rw [if_pos c5] at H
      have Ic : decide (ea < (a0.size : Int)) = true := decide_eq_true c5
      clear c5
      by_cases c7 : (bt a0 ea) < 33
      ·rw [if_pos c7] at H
       have Sa : decide ((bt a0 ea) < 33) = true := decide_eq_true c7
       clear c7
       obtain rfl := Option.some.inj H
       have p6 : 0 ≤ (ea : Int) := dT_
       have q6 : ea < (a0.size : Int) := dT_
       have Jc := bt_at a0 ea
       replace p6 := eq_true p6
       replace q6 := eq_true q6
       go_wp2
       go_ret
       exact ⟨by first | rfl | (simp; done) | (simp [*]; done), by repeat (first | exact Drawn0.refl _ | apply Drawn0.step)⟩
      rw [if_neg c7] at H
      have Sa : decide ((bt a0 ea) < 33) = false := decide_eq_false c7
      clear c7
      by_cases c9 : (bt a0 ea) > 126
      ·rw [if_pos c9] at H
       have Xc : decide (126 < (bt a0 ea)) = true := decide_eq_true c9
       clear c9
       obtain rfl := Option.some.inj H
       have p6 : 0 ≤ (ea : Int) := dT_
       have q6 : ea < (a0.size : Int) := dT_
       have Jc := bt_at a0 ea
       replace p6 := eq_true p6
       replace q6 := eq_true q6
       have p8 : 0 ≤ (ea : Int) := dT_
       have q8 : ea < (a0.size : Int) := dT_
       have Sc := bt_at a0 ea
       replace p8 := eq_true p8
       replace q8 := eq_true q8
       go_wp2
       go_ret
       exact ⟨by first | rfl | (simp; done) | (simp [*]; done), by repeat (first | exact Drawn0.refl _ | apply Drawn0.step)⟩
      rw [if_neg c9] at H
      have Xc : decide (126 < (bt a0 ea)) = false := decide_eq_false c9
      clear c9
      replace H := Option.bind_eq_some_iff.mp H
      obtain ⟨ra, Kc, H⟩ := H
      replace H : (if ra ≥ 0 then (some false) else (principal_printable.l0 k1 a0 a1 (a0.size : Int) (wrap64 (ea + 1)))) = some r := H
      have Tc := aM_ Kc
      clear Kc
      by_cases db : ra ≥ 0
      ·rw [if_pos db] at H
       have Qc : decide (0 ≤ ra) = true := decide_eq_true db
       clear db
       obtain rfl := Option.some.inj H
       have p6 : 0 ≤ (ea : Int) := dT_
       have q6 : ea < (a0.size : Int) := dT_
       have Jc := bt_at a0 ea
       replace p6 := eq_true p6
       replace q6 := eq_true q6
       have p8 : 0 ≤ (ea : Int) := dT_
       have q8 : ea < (a0.size : Int) := dT_
       have Sc := bt_at a0 ea
       replace p8 := eq_true p8
       replace q8 := eq_true q8
       have Za : 0 ≤ (ea : Int) := dT_
       have ab : ea < (a0.size : Int) := dT_
       have Hc := bt_at a0 ea
       replace Za := eq_true Za
       replace ab := eq_true ab
       go_wp2_with (first | (go_at_call 71; (with_reducible refine (strings_IndexByte.calls a1 (bt a0 ea) ra _ Tc.out).mono ?_); rintro e w' ⟨rfl, ⟨nd, rfl⟩⟩))
       go_ret
       exact ⟨by first | rfl | (simp; done) | (simp [*]; done), by repeat (first | exact Drawn0.refl _ | apply Drawn0.step)⟩
      rw [if_neg db] at H
      have Qc : decide (0 ≤ ra) = false := decide_eq_false db
      clear db
      have H' := aM_ H
      clear H
      have p6 : 0 ≤ (ea : Int) := dT_
      have q6 : ea < (a0.size : Int) := dT_
      have Jc := bt_at a0 ea
      replace p6 := eq_true p6
      replace q6 := eq_true q6
      have p8 : 0 ≤ (ea : Int) := dT_
      have q8 : ea < (a0.size : Int) := dT_
      have Sc := bt_at a0 ea
      replace p8 := eq_true p8
      replace q8 := eq_true q8
      have Za : 0 ≤ (ea : Int) := dT_
      have ab : ea < (a0.size : Int) := dT_
      have Hc := bt_at a0 ea
      replace Za := eq_true Za
      replace ab := eq_true ab
      go_wp2_with (first | (go_at_call 71; (with_reducible refine (strings_IndexByte.calls a1 (bt a0 ea) ra _ Tc.out).mono ?_); rintro e w' ⟨rfl, ⟨nd, rfl⟩⟩))
      go_roundg k1
      case measure => have := Fa.out; omega
      case rel => exact ⟨(wrap64 (ea + 1)), rS_, H', ⟨by have := Fa.out; omega⟩, by repeat (first | exact Drawn0.refl _ | apply Drawn0.step)⟩
     rw [if_neg c5] at H
     exact absurd H (by simp)
    rw [if_neg c4] at H
    exact absurd H (by simp)
   rw [if_neg c3] at H
   have Ta : decide (ea < (a0.size : Int)) = false := decide_eq_false c3
   clear c3
   obtain rfl := Option.some.inj H
   go_wp2
   go_ret
   exact ⟨by first | rfl | (simp; done) | (simp [*]; done), by repeat (first | exact Drawn0.refl _ | apply Drawn0.step)⟩

/-! ### principal_ValidName: function 39 -/
def principal_ValidName.f (k : Nat) (a0 : ByteArray) : Option (Bool) := if a0.toList = ([] : List UInt8) then (some false) else ((principal_printable.f k a0 (⟨#[46, 64]⟩ : ByteArray)).bind fun Ha => (some Ha))
set_option maxHeartbeats 8000000 in
set_option maxRecDepth 100000 in
theorem principal_ValidName.calls (k : Nat) (a0 : ByteArray) (r : Bool) (w : World) (h : principal_ValidName.f k a0 = some r) :
  Calls Tryd.prog 39 #[.string a0] w fun e w' => e = .returned (.bool r) ∧ Drawn0 w w' := by
 have H : (if a0.toList = ([] : List UInt8) then (some false) else ((principal_printable.f k a0 (⟨#[46, 64]⟩ : ByteArray)).bind fun Ha => (some Ha))) = some r := h
 clear h
 by_cases c2 : a0.toList = ([] : List UInt8)
 ·rw [if_pos c2] at H
  have ub : (a0.toList == ([] : List UInt8)) = true := beq_iff_eq.mpr c2
  have vb : (a0.toList != ([] : List UInt8)) = false := bne_eq_false_iff_eq.mpr c2
  clear c2
  obtain rfl := Option.some.inj H
  go_enter Tryd.func39, Tryd.ntmps39
  go_wp2
  go_ret
  exact ⟨by first | rfl | (simp; done) | (simp [*]; done), by repeat (first | exact Drawn0.refl _ | apply Drawn0.step)⟩
 rw [if_neg c2] at H
 have ub : (a0.toList == ([] : List UInt8)) = false := beq_eq_false_iff_ne.mpr c2
 have vb : (a0.toList != ([] : List UInt8)) = true := bne_iff_ne.mpr c2
 replace H := Option.bind_eq_some_iff.mp H
 obtain ⟨Ha, sb, H⟩ := H
 replace H : (some Ha) = some r := H
 have A3 := aM_ sb
 clear sb
 obtain rfl := Option.some.inj H
 go_enter Tryd.func39, Tryd.ntmps39
 go_wp2_with (first | (go_at_call 59; (with_reducible refine (principal_printable.calls k a0 (⟨#[46, 64]⟩ : ByteArray) Ha _ A3.out).mono ?_); rintro e w' ⟨rfl, ⟨nd, rfl⟩⟩))
 go_ret
 exact ⟨by first | rfl | (simp; done) | (simp [*]; done), by repeat (first | exact Drawn0.refl _ | apply Drawn0.step)⟩

/-! ### principal_ValidInstance: function 40 -/
def principal_ValidInstance.f (k : Nat) (a0 : ByteArray) : Option (Bool) := (principal_printable.f k a0 (⟨#[64]⟩ : ByteArray)).bind fun Ia => (some Ia)
set_option maxHeartbeats 8000000 in
set_option maxRecDepth 100000 in
theorem principal_ValidInstance.calls (k : Nat) (a0 : ByteArray) (r : Bool) (w : World) (h : principal_ValidInstance.f k a0 = some r) :
  Calls Tryd.prog 40 #[.string a0] w fun e w' => e = .returned (.bool r) ∧ Drawn0 w w' := by
 have H : ((principal_printable.f k a0 (⟨#[64]⟩ : ByteArray)).bind fun Ia => (some Ia)) = some r := h
 clear h
 replace H := Option.bind_eq_some_iff.mp H
 obtain ⟨Ia, Ma, H⟩ := H
 replace H : (some Ia) = some r := H
 have A2 := aM_ Ma
 clear Ma
 obtain rfl := Option.some.inj H
 go_enter Tryd.func40, Tryd.ntmps40
 go_wp2_with (first | ((with_reducible refine gate_callee (f := 59) rfl ?_); refine goesL_ (some 4) rfl rfl Tryd.func59 (by kernel_rfl) rfl #[.string a0, .string (⟨#[64]⟩ : ByteArray)] rfl aR_ ?_; (with_reducible refine (principal_printable.calls k a0 (⟨#[64]⟩ : ByteArray) Ia _ A2.out).mono ?_); rintro e w' ⟨rfl, ⟨nd, rfl⟩⟩; refine ⟨_, rfl, ?_⟩))
 go_ret
 exact ⟨by first | rfl | (simp; done) | (simp [*]; done), by repeat (first | exact Drawn0.refl _ | apply Drawn0.step)⟩

/-! ### key_Make: function 81 -/
def key_Make.f (a0 : Int) (a1 : Int) : Option (Int) := if a0 = 1 then (if a1 < 1 then (some 0) else (if a1 > 4294967295 then (some 0) else (some (Go.bits .or .u64 (IntKind.u64.wrap ((IntKind.u64.wrap (a0)) * 72057594037927936)) (IntKind.u64.wrap (a1)))))) else (if a0 = 2 then (if a1 < 1 then (some 0) else (if a1 > 4294967295 then (some 0) else (some (Go.bits .or .u64 (IntKind.u64.wrap ((IntKind.u64.wrap (a0)) * 72057594037927936)) (IntKind.u64.wrap (a1)))))) else (some 0))
set_option maxHeartbeats 8000000 in
set_option maxRecDepth 100000 in
theorem key_Make.calls (a0 : Int) (a1 : Int) (r : Int) (w : World) (h : key_Make.f a0 a1 = some r) :
  Calls Tryd.prog 81 #[.int .i64 a0, .int .i64 a1] w fun e w' => e = .returned (.int .u64 r) ∧ Drawn0 w w' := by
 have H : (if a0 = 1 then (if a1 < 1 then (some 0) else (if a1 > 4294967295 then (some 0) else (some (Go.bits .or .u64 (IntKind.u64.wrap ((IntKind.u64.wrap (a0)) * 72057594037927936)) (IntKind.u64.wrap (a1)))))) else (if a0 = 2 then (if a1 < 1 then (some 0) else (if a1 > 4294967295 then (some 0) else (some (Go.bits .or .u64 (IntKind.u64.wrap ((IntKind.u64.wrap (a0)) * 72057594037927936)) (IntKind.u64.wrap (a1)))))) else (some 0))) = some r := h
 clear h
 by_cases c3 : a0 = 1
 ·rw [if_pos c3] at H
  have Ta : (a0 == 1) = true := beq_iff_eq.mpr c3
  have Yc : (a0 != 1) = false := bne_eq_false_iff_eq.mpr c3
  clear c3
  by_cases c4 : a1 < 1
  ·rw [if_pos c4] at H
   have kb : decide (a1 < 1) = true := decide_eq_true c4
   clear c4
   obtain rfl := Option.some.inj H
   go_enter Tryd.func81, Tryd.ntmps81
   go_wp2
   go_ret
   exact ⟨by first | rfl | (simp; done) | (simp [*]; done), by repeat (first | exact Drawn0.refl _ | apply Drawn0.step)⟩
  rw [if_neg c4] at H
  have kb : decide (a1 < 1) = false := decide_eq_false c4
  clear c4
  by_cases c5 : a1 > 4294967295
  ·rw [if_pos c5] at H
   have Ic : decide (4294967295 < a1) = true := decide_eq_true c5
   clear c5
   obtain rfl := Option.some.inj H
   go_enter Tryd.func81, Tryd.ntmps81
   go_wp2
   go_ret
   exact ⟨by first | rfl | (simp; done) | (simp [*]; done), by repeat (first | exact Drawn0.refl _ | apply Drawn0.step)⟩
  rw [if_neg c5] at H
  have Ic : decide (4294967295 < a1) = false := decide_eq_false c5
  clear c5
  obtain rfl := Option.some.inj H
  go_enter Tryd.func81, Tryd.ntmps81
  go_wp2
  go_ret
  exact ⟨by first | rfl | (simp; done) | (simp [*]; done), by repeat (first | exact Drawn0.refl _ | apply Drawn0.step)⟩
 rw [if_neg c3] at H
 have Ta : (a0 == 1) = false := beq_eq_false_iff_ne.mpr c3
 have Yc : (a0 != 1) = true := bne_iff_ne.mpr c3
 by_cases c6 : a0 = 2
 ·rw [if_pos c6] at H
  have gb : (a0 == 2) = true := beq_iff_eq.mpr c6
  have Zc : (a0 != 2) = false := bne_eq_false_iff_eq.mpr c6
  clear c6
  by_cases c7 : a1 < 1
  ·rw [if_pos c7] at H
   have Sa : decide (a1 < 1) = true := decide_eq_true c7
   clear c7
   obtain rfl := Option.some.inj H
   go_enter Tryd.func81, Tryd.ntmps81
   go_wp2
   go_ret
   exact ⟨by first | rfl | (simp; done) | (simp [*]; done), by repeat (first | exact Drawn0.refl _ | apply Drawn0.step)⟩
  rw [if_neg c7] at H
  have Sa : decide (a1 < 1) = false := decide_eq_false c7
  clear c7
  by_cases c8 : a1 > 4294967295
  ·rw [if_pos c8] at H
   have tb : decide (4294967295 < a1) = true := decide_eq_true c8
   clear c8
   obtain rfl := Option.some.inj H
   go_enter Tryd.func81, Tryd.ntmps81
   go_wp2
   go_ret
   exact ⟨by first | rfl | (simp; done) | (simp [*]; done), by repeat (first | exact Drawn0.refl _ | apply Drawn0.step)⟩
  rw [if_neg c8] at H
  have tb : decide (4294967295 < a1) = false := decide_eq_false c8
  clear c8
  obtain rfl := Option.some.inj H
  go_enter Tryd.func81, Tryd.ntmps81
  go_wp2
  go_ret
  exact ⟨by first | rfl | (simp; done) | (simp [*]; done), by repeat (first | exact Drawn0.refl _ | apply Drawn0.step)⟩
 rw [if_neg c6] at H
 have gb : (a0 == 2) = false := beq_eq_false_iff_ne.mpr c6
 have Zc : (a0 != 2) = true := bne_iff_ne.mpr c6
 obtain rfl := Option.some.inj H
 go_enter Tryd.func81, Tryd.ntmps81
 go_wp2
 go_ret
 exact ⟨by first | rfl | (simp; done) | (simp [*]; done), by repeat (first | exact Drawn0.refl _ | apply Drawn0.step)⟩

/-! ### key_split: function 73 -/
def key_split.f (a0 : Int) : Option (Int × Int) := if a0 = 0 then (some (0, 0)) else ((key_Make.f (wrap64 (a0 / 72057594037927936)) (wrap64 (Go.bits .and .u64 a0 72057594037927935))).bind fun ja => (if ja = a0 then (some (wrap64 (a0 / 72057594037927936), wrap64 (Go.bits .and .u64 a0 72057594037927935))) else (some (0, 0))))
set_option maxHeartbeats 8000000 in
set_option maxRecDepth 100000 in
theorem key_split.calls (a0 : Int) (r1 : Int) (r2 : Int) (w : World) (h : key_split.f a0 = some (r1, r2)) :
  Calls Tryd.prog 73 #[.int .u64 a0] w fun e w' => e = .returned (.tuple #[.int .i64 r1, .int .i64 r2]) ∧ Drawn0 w w' := by
 have H : (if a0 = 0 then (some (0, 0)) else ((key_Make.f (wrap64 (a0 / 72057594037927936)) (wrap64 (Go.bits .and .u64 a0 72057594037927935))).bind fun ja => (if ja = a0 then (some (wrap64 (a0 / 72057594037927936), wrap64 (Go.bits .and .u64 a0 72057594037927935))) else (some (0, 0))))) = some (r1, r2) := h
 clear h
 by_cases c2 : a0 = 0
 ·rw [if_pos c2] at H
  have ub : (a0 == 0) = true := beq_iff_eq.mpr c2
  have vb : (a0 != 0) = false := bne_eq_false_iff_eq.mpr c2
  clear c2
  simp only [Option.some.injEq, Prod.mk.injEq] at H
  obtain ⟨rfl, rfl⟩ := H
  go_enter Tryd.func73, Tryd.ntmps73
  go_wp2
  go_ret2
  exact ⟨by first | rfl | (simp; done) | (simp [*]; done), by repeat (first | exact Drawn0.refl _ | apply Drawn0.step)⟩
 rw [if_neg c2] at H
 have ub : (a0 == 0) = false := beq_eq_false_iff_ne.mpr c2
 have vb : (a0 != 0) = true := bne_iff_ne.mpr c2
 replace H := Option.bind_eq_some_iff.mp H
 obtain ⟨ja, sb, H⟩ := H
 try dsimp only at H
 have A3 := aM_ sb
 clear sb
 by_cases c4 : ja = a0
 ·rw [if_pos c4] at H
  have kb : (ja == a0) = true := beq_iff_eq.mpr c4
  have ad : (ja != a0) = false := bne_eq_false_iff_eq.mpr c4
  clear c4
  simp only [Option.some.injEq, Prod.mk.injEq] at H
  obtain ⟨rfl, rfl⟩ := H
  go_enter Tryd.func73, Tryd.ntmps73
  go_wp2_with (first | (go_at_call 81; (with_reducible refine (key_Make.calls (wrap64 (a0 / 72057594037927936)) (wrap64 (Go.bits .and .u64 a0 72057594037927935)) ja _ A3.out).mono ?_); rintro e w' ⟨rfl, ⟨nd, rfl⟩⟩))
  go_ret2
  exact ⟨by first | rfl | (simp; done) | (simp [*]; done), by repeat (first | exact Drawn0.refl _ | apply Drawn0.step)⟩
 rw [if_neg c4] at H
 have kb : (ja == a0) = false := beq_eq_false_iff_ne.mpr c4
 have ad : (ja != a0) = true := bne_iff_ne.mpr c4
 simp only [Option.some.injEq, Prod.mk.injEq] at H
 obtain ⟨rfl, rfl⟩ := H
 go_enter Tryd.func73, Tryd.ntmps73
 go_wp2_with (first | (go_at_call 81; (with_reducible refine (key_Make.calls (wrap64 (a0 / 72057594037927936)) (wrap64 (Go.bits .and .u64 a0 72057594037927935)) ja _ A3.out).mono ?_); rintro e w' ⟨rfl, ⟨nd, rfl⟩⟩))
 go_ret2
 exact ⟨by first | rfl | (simp; done) | (simp [*]; done), by repeat (first | exact Drawn0.refl _ | apply Drawn0.step)⟩

/-! ### key_Class: function 63 -/
def key_Class.f (a0 : Int) : Option (Int) := (key_split.f a0).bind fun lb => (some lb.1)
set_option maxHeartbeats 8000000 in
set_option maxRecDepth 100000 in
theorem key_Class.calls (a0 : Int) (r : Int) (w : World) (h : key_Class.f a0 = some r) :
  Calls Tryd.prog 63 #[.int .u64 a0] w fun e w' => e = .returned (.int .i64 r) ∧ Drawn0 w w' := by
 have H : ((key_split.f a0).bind fun lb => (some lb.1)) = some r := h
 clear h
 replace H := Option.bind_eq_some_iff.mp H
 obtain ⟨⟨Mc, bd⟩, Ma, H⟩ := H
 replace H : (some Mc) = some r := H
 have A2 := aM_ Ma
 clear Ma
 obtain rfl := Option.some.inj H
 go_enter Tryd.func63, Tryd.ntmps63
 go_wp2_with (first | ((with_reducible refine gate_callee (f := 73) rfl ?_); refine goesL_ (some 7) rfl rfl Tryd.func73 (by kernel_rfl) rfl #[.int .u64 a0] rfl aR_ ?_; (with_reducible refine (key_split.calls a0 Mc bd _ A2.out).mono ?_); rintro e w' ⟨rfl, ⟨nd, rfl⟩⟩; refine ⟨_, rfl, ?_⟩))
 go_ret
 exact ⟨by first | rfl | (simp; done) | (simp [*]; done), by repeat (first | exact Drawn0.refl _ | apply Drawn0.step)⟩

/-! ### key_Valid: function 41 -/
def key_Valid.f (a0 : Int) : Option (Bool) := (key_Class.f a0).bind fun Ja => (some (Ja != 0))
set_option maxHeartbeats 8000000 in
set_option maxRecDepth 100000 in
theorem key_Valid.calls (a0 : Int) (r : Bool) (w : World) (h : key_Valid.f a0 = some r) :
  Calls Tryd.prog 41 #[.int .u64 a0] w fun e w' => e = .returned (.bool r) ∧ Drawn0 w w' := by
 have H : ((key_Class.f a0).bind fun Ja => (some (Ja != 0))) = some r := h
 clear h
 replace H := Option.bind_eq_some_iff.mp H
 obtain ⟨Ja, Ma, H⟩ := H
 replace H : (some (Ja != 0)) = some r := H
 have A2 := aM_ Ma
 clear Ma
 obtain rfl := Option.some.inj H
 go_enter Tryd.func41, Tryd.ntmps41
 go_wp2_with (first | ((with_reducible refine gate_callee (f := 63) rfl ?_); refine goesL_ (some 4) rfl rfl Tryd.func63 (by kernel_rfl) rfl #[.int .u64 a0] rfl aR_ ?_; (with_reducible refine (key_Class.calls a0 Ja _ A2.out).mono ?_); rintro e w' ⟨rfl, ⟨nd, rfl⟩⟩; refine ⟨_, rfl, ?_⟩))
 go_ret
 exact ⟨by first | rfl | (simp; done) | (simp [*]; done), by repeat (first | exact Drawn0.refl _ | apply Drawn0.step)⟩

/-! ### database_outside: function 42 -/
def database_outside.f (a0 : Int) (a1 : Int) : Option (Bool) := if a0 < 0 then (some true) else (some (decide (a0 > a1)))
set_option maxHeartbeats 8000000 in
set_option maxRecDepth 100000 in
theorem database_outside.calls (a0 : Int) (a1 : Int) (r : Bool) (w : World) (h : database_outside.f a0 a1 = some r) :
  Calls Tryd.prog 42 #[.int .i64 a0, .int .i64 a1] w fun e w' => e = .returned (.bool r) ∧ Drawn0 w w' := by
 have H : (if a0 < 0 then (some true) else (some (decide (a0 > a1)))) = some r := h
 clear h
 by_cases c3 : a0 < 0
 ·rw [if_pos c3] at H
  have Ta : decide (a0 < 0) = true := decide_eq_true c3
  clear c3
  obtain rfl := Option.some.inj H
  go_enter Tryd.func42, Tryd.ntmps42
  go_wp2
  go_ret
  exact ⟨by first | rfl | (simp; done) | (simp [*]; done), by repeat (first | exact Drawn0.refl _ | apply Drawn0.step)⟩
 rw [if_neg c3] at H
 have Ta : decide (a0 < 0) = false := decide_eq_false c3
 clear c3
 obtain rfl := Option.some.inj H
 go_enter Tryd.func42, Tryd.ntmps42
 go_wp2
 go_ret
 exact ⟨by first | rfl | (simp; done) | (simp [*]; done), by repeat (first | exact Drawn0.refl _ | apply Drawn0.step)⟩

end Go.Proofs.YthfdfoigoomaoaaDoor.PDb
