/- The walks of functions of the translation: each call returns what the plain function beside it says. -/
import Derived.Test.YthfdfoigoomaoaaDoorLate
import Derived.Test.YthfdfoigoomaoaaDoorPDbx0
import Derived.Test.YthfdfoigoomaoaaDoorPDbx1
import Derived.Test.YthfdfoigoomaoaaDoorPDbx2
import Derived.Test.YthfdfoigoomaoaaDoorPDbx3
import Derived.Test.YthfdfoigoomaoaaDoorPDbx4
import Derived.Test.YthfdfoigoomaoaaDoorPDbx5
import Derived.Test.YthfdfoigoomaoaaDoorPDbx8
import Derived.Test.YthfdfoigoomaoaaDoorPDbx10
import Derived.Test.YthfdfoigoomaoaaDoorPDbx11
import Derived.Test.YthfdfoigoomaoaaDoorPDbx12
namespace Go.Proofs.YthfdfoigoomaoaaDoor.PDb
open Go.RowKit Go.Proofs.YthfdfoigoomaoaaDoorW.PrintWords Go.Proofs.YthfdfoigoomaoaaDoorW.PrintLast Go.Proofs.YthfdfoigoomaoaaDoorW.PrintMore Go.Proofs.YthfdfoigoomaoaaDoor.Aid
attribute [local go_sem] max2_int min2_int max_two min_two max_three min_three max_four min_four aid_str_gtr aid_str_leq   -- for this text's walks alone
set_option linter.unusedVariables false
set_option linter.unusedSimpArgs false

/-! ### kerbsuitelaw12_DatabaseChecks: function 3 -/
mutual
def kerbsuitelaw12_DatabaseChecks.j0 : Nat → List Int → Int → Int → Int → ByteArray → Bool → ByteArray → List (S35) → Option (Bool)
 | 0, _, _, _, _, _, _, _, _ => none
 | k + 1, x1, x2, x3, x4, x5, Zj, qf, rf => if Zj = true then (some true) else ((kerbsuitedata_Database.f k x1 (wrap64 (x3))).bind fun Vb => ((database_Check.f k Vb.1 Vb.2).bind fun nc => (if nc = 0 then ((database_Check.f k qf rf).bind fun Mc => ((kerbsuiteref12_Check.f k qf rf).bind fun tc => (kerbsuitelaw12_DatabaseChecks.j1 k x2 x3 x4 x5 (Mc != tc) Vb.1 Vb.2))) else (kerbsuitelaw12_DatabaseChecks.j1 k x2 x3 x4 x5 true Vb.1 Vb.2))))
def kerbsuitelaw12_DatabaseChecks.j1 : Nat → Int → Int → Int → ByteArray → Bool → ByteArray → List (S35) → Option (Bool)
 | 0, _, _, _, _, _, _, _ => none
 | k + 1, x2, x3, x4, x5, ak, Wb, Xb => if ak = true then (some false) else ((some (([x4, (-1), 0, 256, 255, 21, 20, 4, 4294967295, 4294967296] : List Int) : List Int)).bind fun db => (if 0 ≤ (Int.tmod (wrap64 (x3)) 10) then (if (Int.tmod (wrap64 (x3)) 10) < (db.length : Int) then ((kerbsuitedata_Long.f 2).bind fun Nc => ((kerbsuitelaw12_changed.f (⟨#[97, 110, 110]⟩ : ByteArray) (⟨#[]⟩ : ByteArray) Nc 0 0 0 0 0 0 x2 (rd db (Int.tmod (wrap64 (x3)) 10)) x5).bind fun ta => ((database_CheckEntry.f k ta.1 ta.2.1 ta.2.2.1 ta.2.2.2.1 ta.2.2.2.2.1 ta.2.2.2.2.2.1 ta.2.2.2.2.2.2.1 ta.2.2.2.2.2.2.2.1 ta.2.2.2.2.2.2.2.2).bind fun Eb => ((kerbsuiteref12_CheckEntry.f k ta.1 ta.2.1 ta.2.2.1 ta.2.2.2.1 ta.2.2.2.2.1 ta.2.2.2.2.2.1 ta.2.2.2.2.2.2.1 ta.2.2.2.2.2.2.2.1 ta.2.2.2.2.2.2.2.2).bind fun yb => (if Eb = yb then ((database_CheckEntry.f k x5 (⟨#[]⟩ : ByteArray) 0 0 0 0 0 0 0).bind fun Gb => ((kerbsuiteref12_CheckEntry.f k x5 (⟨#[]⟩ : ByteArray) 0 0 0 0 0 0 0).bind fun Fb => (kerbsuitelaw12_DatabaseChecks.j2 k x2 x3 x5 (rd db (Int.tmod (wrap64 (x3)) 10)) (Gb != Fb) Wb Xb))) else (kerbsuitelaw12_DatabaseChecks.j2 k x2 x3 x5 (rd db (Int.tmod (wrap64 (x3)) 10)) true Wb Xb)))))) else (none)) else (none)))
def kerbsuitelaw12_DatabaseChecks.j2 : Nat → Int → Int → ByteArray → Int → Bool → ByteArray → List (S35) → Option (Bool)
 | 0, _, _, _, _, _, _, _ => none
 | k + 1, x2, x3, x5, bk, ck, Wb, Xb => if ck = true then (some false) else ((some (([] : List (S35)) : List (S35))).bind fun uc => (if uc.length + Xb.length < 1599289640401 then ((some (uc ++ Xb : List (S35))).bind fun ha => (if (ha.length : Int) > 0 then (if (ha.length : Int) = 0 then (none) else (if 0 ≤ (Int.tmod (wrap64 (x2)) (ha.length : Int)) then (if (Int.tmod (wrap64 (x2)) (ha.length : Int)) < (ha.length : Int) then ((kerbsuitelaw12_changed.f ((rd_T35 ha (Int.tmod (wrap64 (x2)) (ha.length : Int))).f0) ((rd_T35 ha (Int.tmod (wrap64 (x2)) (ha.length : Int))).f1) ((rd_T35 ha (Int.tmod (wrap64 (x2)) (ha.length : Int))).f2) ((rd_T35 ha (Int.tmod (wrap64 (x2)) (ha.length : Int))).f3) ((rd_T35 ha (Int.tmod (wrap64 (x2)) (ha.length : Int))).f4) ((rd_T35 ha (Int.tmod (wrap64 (x2)) (ha.length : Int))).f5) ((rd_T35 ha (Int.tmod (wrap64 (x2)) (ha.length : Int))).f6) ((rd_T35 ha (Int.tmod (wrap64 (x2)) (ha.length : Int))).f7) ((rd_T35 ha (Int.tmod (wrap64 (x2)) (ha.length : Int))).f8) x3 bk x5).bind fun Qa => ((some (ha.set ((Int.tmod (wrap64 (x2)) (ha.length : Int)) : Int).toNat (⟨Qa.1, Qa.2.1, Qa.2.2.1, Qa.2.2.2.1, Qa.2.2.2.2.1, Qa.2.2.2.2.2.1, Qa.2.2.2.2.2.2.1, Qa.2.2.2.2.2.2.2.1, Qa.2.2.2.2.2.2.2.2⟩ : S35) : List (S35))).bind fun ga => (if 0 < (ha.length : Int) then (kerbsuitelaw12_DatabaseChecks.j3 k x3 x5 Wb Xb Wb ((ga.set (0 : Int).toNat (⟨(rd_T35 ga (Int.tmod (wrap64 (x2)) (ha.length : Int))).f0, (rd_T35 ga (Int.tmod (wrap64 (x2)) (ha.length : Int))).f1, (rd_T35 ga (Int.tmod (wrap64 (x2)) (ha.length : Int))).f2, (rd_T35 ga (Int.tmod (wrap64 (x2)) (ha.length : Int))).f3, (rd_T35 ga (Int.tmod (wrap64 (x2)) (ha.length : Int))).f4, (rd_T35 ga (Int.tmod (wrap64 (x2)) (ha.length : Int))).f5, (rd_T35 ga (Int.tmod (wrap64 (x2)) (ha.length : Int))).f6, (rd_T35 ga (Int.tmod (wrap64 (x2)) (ha.length : Int))).f7, (rd_T35 ga (Int.tmod (wrap64 (x2)) (ha.length : Int))).f8⟩ : S35)).set ((Int.tmod (wrap64 (x2)) (ha.length : Int)) : Int).toNat (⟨(rd_T35 ga 0).f0, (rd_T35 ga 0).f1, (rd_T35 ga 0).f2, (rd_T35 ga 0).f3, (rd_T35 ga 0).f4, (rd_T35 ga 0).f5, (rd_T35 ga 0).f6, (rd_T35 ga 0).f7, (rd_T35 ga 0).f8⟩ : S35))) else (none)))) else (none)) else (none))) else (kerbsuitelaw12_DatabaseChecks.j3 k x3 x5 Wb Xb Wb ha))) else (none)))
def kerbsuitelaw12_DatabaseChecks.j3 : Nat → Int → ByteArray → ByteArray → List (S35) → ByteArray → List (S35) → Option (Bool)
 | 0, _, _, _, _, _, _ => none
 | k + 1, x3, x5, Wb, Xb, ad, bd => kerbsuitelaw12_DatabaseChecks.l0 k x3 0 ad bd x5 Xb Wb ([] : List (S35))
def kerbsuitelaw12_DatabaseChecks.l0 : Nat → Int → Int → ByteArray → List (S35) → ByteArray → List (S35) → ByteArray → List (S35) → Option (Bool)
 | 0, _, _, _, _, _, _, _, _ => none
 | k + 1, x3, vi, ad, bd, be, ce, de, Fd => if vi < (wrap64 (60 + (Int.tmod (wrap64 (x3)) 2))) then (if Fd.length < 1599289640401 then (kerbsuitelaw12_DatabaseChecks.l0 k x3 (wrap64 (vi + 1)) ad bd be ce de (Fd ++ [(⟨(⟨#[97, 110, 110]⟩ : ByteArray), (⟨#[]⟩ : ByteArray), 0, 0, 0, 0, 0, 0, 0⟩ : S35)])) else (none)) else ((database_Check.f k ad bd).bind fun Oc => ((kerbsuiteref12_Check.f k ad bd).bind fun vc => (if Oc = vc then ((database_Check.f k be ce).bind fun bc => ((kerbsuiteref12_Check.f k be ce).bind fun Yb => (if bc = Yb then ((database_Check.f k de Fd).bind fun xc => ((kerbsuiteref12_Check.f k de Fd).bind fun oc => (some (xc == oc)))) else (some false)))) else (some false))))
end
def kerbsuitelaw12_DatabaseChecks.f (k : Nat) (ra : ByteArray) (pa : List (S35)) (l1 : List Int) (a2 : Int) (a3 : Int) (a4 : Int) (a5 : ByteArray) : Option (Bool) := (kerbsuitelaw12_awake.f k).bind fun ee => (if ee = true then ((kerbsuitelaw12_long.f k ra pa).bind fun Yc => (if Yc = true then (kerbsuitelaw12_DatabaseChecks.j0 k l1 a2 a3 a4 a5 true ra pa) else (if (a5.size : Int) > 100 then (kerbsuitelaw12_DatabaseChecks.j0 k l1 a2 a3 a4 a5 true ra pa) else (kerbsuitelaw12_DatabaseChecks.j0 k l1 a2 a3 a4 a5 (decide ((l1.length : Int) > 700)) ra pa)))) else (some false))
def kerbsuitelaw12_DatabaseChecks.T6 : Bool × List (List Nat × List Nat) := (true,[([], []), ([0], [0]), ([1], [1]), ([2, 1], [2]), ([3], [3]), ([4, 3, 3], [3, 4]), ([3], [3]), ([6, 5, 3], [3, 6]), ([5, 7, 3], [3, 5, 7]), ([3, 8], [3, 8])])
def kerbsuitelaw12_DatabaseChecks.B6 : List Nat := [0, 1, 3, 7, 15, 31, 15, 127, 255, 511]
theorem kerbsuitelaw12_DatabaseChecks.tab6 : rtab .any (opsOf Tryd.f3 6) = kerbsuitelaw12_DatabaseChecks.T6 := by kernel_rfl
theorem kerbsuitelaw12_DatabaseChecks.bits6 : waitsOk kerbsuitelaw12_DatabaseChecks.T6.2 kerbsuitelaw12_DatabaseChecks.B6 = true := by kernel_rfl
def kerbsuitelaw12_DatabaseChecks.T10 : Bool × List (List Nat × List Nat) := (true,[([], []), ([0], [0]), ([], []), ([2, 1], [2]), ([1, 3], [1, 3]), ([4, 3], [4]), ([5], [5]), ([6, 5], [5, 6]), ([7, 5, 5], [5, 7]), ([5], [5]), ([9, 5], [5, 9]), ([10, 8, 5], [5, 10]), ([8, 11, 5], [5, 8, 11]), ([5, 12], [5, 12])])
def kerbsuitelaw12_DatabaseChecks.B10 : List Nat := [0, 1, 0, 7, 15, 31, 63, 127, 255, 63, 575, 2047, 4095, 8191]
theorem kerbsuitelaw12_DatabaseChecks.tab10 : rtab .any (opsOf Tryd.f3 10) = kerbsuitelaw12_DatabaseChecks.T10 := by kernel_rfl
theorem kerbsuitelaw12_DatabaseChecks.bits10 : waitsOk kerbsuitelaw12_DatabaseChecks.T10.2 kerbsuitelaw12_DatabaseChecks.B10 = true := by kernel_rfl
def kerbsuitelaw12_DatabaseChecks.T12 : Bool × List (List Nat × List Nat) := (true,[([], []), ([0], [0]), ([], []), ([], []), ([3], [3]), ([2, 4], [2, 4]), ([1, 5], [1, 5]), ([], []), ([7, 6, 5, 0, 1, 2, 3, 4, 5, 6, 7], [6, 7])])
def kerbsuitelaw12_DatabaseChecks.B12 : List Nat := [0, 1, 0, 0, 8, 28, 63, 0, 255]
theorem kerbsuitelaw12_DatabaseChecks.tab12 : rtab .any (opsOf Tryd.f3 12) = kerbsuitelaw12_DatabaseChecks.T12 := by kernel_rfl
theorem kerbsuitelaw12_DatabaseChecks.bits12 : waitsOk kerbsuitelaw12_DatabaseChecks.T12.2 kerbsuitelaw12_DatabaseChecks.B12 = true := by kernel_rfl
def kerbsuitelaw12_DatabaseChecks.T15 : Bool × List (List Nat × List Nat) := (true,[([], []), ([0], [0]), ([], []), ([], []), ([3], [3]), ([], []), ([4, 5], [4, 5]), ([6], [6]), ([], []), ([], []), ([], []), ([7, 8, 9, 10], [7, 8, 9, 10]), ([1, 2, 0, 1, 2, 3, 4, 5, 6, 7, 8, 9, 10, 11], [1, 2]), ([12, 11, 11, 0, 1, 2, 3, 4, 5, 6, 7, 8, 9, 10, 11], [11, 12])])
def kerbsuitelaw12_DatabaseChecks.B15 : List Nat := [0, 1, 0, 0, 8, 0, 56, 120, 0, 0, 0, 2040, 4095, 8191]
theorem kerbsuitelaw12_DatabaseChecks.tab15 : rtab .any (opsOf Tryd.f3 15) = kerbsuitelaw12_DatabaseChecks.T15 := by kernel_rfl
theorem kerbsuitelaw12_DatabaseChecks.bits15 : waitsOk kerbsuitelaw12_DatabaseChecks.T15.2 kerbsuitelaw12_DatabaseChecks.B15 = true := by kernel_rfl
def kerbsuitelaw12_DatabaseChecks.T16 : Bool × List (List Nat × List Nat) := (true,[([], []), ([0], [0]), ([], []), ([2], [2]), ([], []), ([], []), ([5], [5]), ([], []), ([6, 7], [6, 7]), ([8], [8]), ([], []), ([10], [10]), ([11], [11]), ([12], [12]), ([1, 0, 1, 5, 6, 7, 8, 9, 13], [1]), ([14, 9, 0, 1, 5, 6, 7, 8, 9, 13], [9, 14]), ([3, 4, 0, 1, 2, 3, 4, 5, 6, 7, 8, 9, 10, 11, 12, 13, 14, 15], [3, 4]), ([16, 13, 15, 0, 1, 2, 3, 4, 5, 6, 7, 8, 9, 10, 11, 12, 13, 14, 15], [13, 16])])
def kerbsuitelaw12_DatabaseChecks.B16 : List Nat := [0, 1, 0, 4, 0, 0, 32, 0, 224, 480, 0, 1024, 3072, 7168, 16355, 32739, 65535, 131071]
theorem kerbsuitelaw12_DatabaseChecks.tab16 : rtab .any (opsOf Tryd.f3 16) = kerbsuitelaw12_DatabaseChecks.T16 := by kernel_rfl
theorem kerbsuitelaw12_DatabaseChecks.bits16 : waitsOk kerbsuitelaw12_DatabaseChecks.T16.2 kerbsuitelaw12_DatabaseChecks.B16 = true := by kernel_rfl
def kerbsuitelaw12_DatabaseChecks.T23 : Bool × List (List Nat × List Nat) := (true,[([], []), ([0], [0]), ([], []), ([2, 1], [2]), ([1, 3], [1, 3]), ([4, 3], [4]), ([5], [5]), ([6, 5, 5], [5, 6]), ([5], [5]), ([8, 7, 5], [5, 8]), ([7, 9, 5], [5, 7, 9]), ([5, 10], [5, 10]), ([11, 9], [11]), ([12], [12]), ([13, 12, 12], [12, 13]), ([12], [12]), ([15, 14, 12], [12, 15]), ([14, 16, 12], [12, 14, 16]), ([12, 17], [12, 17]), ([18, 16, 0, 1, 2, 3, 4, 5, 6, 7, 8, 9, 10, 11, 12, 13, 14, 15, 16, 17, 18], [18])])
def kerbsuitelaw12_DatabaseChecks.B23 : List Nat := [0, 1, 0, 7, 15, 31, 63, 127, 63, 511, 1023, 2047, 4095, 8191, 16383, 8191, 65535, 131071, 262143, 524287]
theorem kerbsuitelaw12_DatabaseChecks.tab23 : rtab .any (opsOf Tryd.f3 23) = kerbsuitelaw12_DatabaseChecks.T23 := by kernel_rfl
theorem kerbsuitelaw12_DatabaseChecks.bits23 : waitsOk kerbsuitelaw12_DatabaseChecks.T23.2 kerbsuitelaw12_DatabaseChecks.B23 = true := by kernel_rfl
set_option maxHeartbeats 8000000 in
set_option maxRecDepth 100000 in
theorem kerbsuitelaw12_DatabaseChecks.calls (k : Nat) (ra : ByteArray) (za : Option Addr) (Aa : Nat) (pa : List (S35)) (A1 : Option Addr) (c1 : Nat) (l1 : List Int) (a2 : Int) (a3 : Int) (a4 : Int) (a5 : ByteArray) (r : Bool) (w : World) (hr0_1 : Kd.C k35 w za pa.length pa) (hc0_1 : pa.length ≤ Aa) (hr1 : Kd.C (Kd.int .u8) w A1 l1.length l1) (hc1 : l1.length ≤ c1) (h : kerbsuitelaw12_DatabaseChecks.f k ra pa l1 a2 a3 a4 a5 = some r) :
  Calls Tryd.prog 3 #[.agg #[.string ra, .slice za pa.length Aa], .slice A1 l1.length c1, .int .u8 a2, .int .u8 a3, .int .i64 a4, .string a5] w fun e w' => e = .returned (.bool r) ∧ Below w.heap.size w w' := by
 have hu24 := Tryd.underlying24
 have hu35 := Tryd.underlying35
 have Rd := aM_ hr0_1
 have Sd := aM_ hc0_1
 clear hr0_1 hc0_1
 have dk := aM_ hr1
 have ek := aM_ hc1
 clear hr1 hc1
 have HB := aM_ (Below.refl w.heap.size w)
 have H : ((kerbsuitelaw12_awake.f k).bind fun ee => (if ee = true then ((kerbsuitelaw12_long.f k ra pa).bind fun Yc => (if Yc = true then (kerbsuitelaw12_DatabaseChecks.j0 k l1 a2 a3 a4 a5 true ra pa) else (if (a5.size : Int) > 100 then (kerbsuitelaw12_DatabaseChecks.j0 k l1 a2 a3 a4 a5 true ra pa) else (kerbsuitelaw12_DatabaseChecks.j0 k l1 a2 a3 a4 a5 (decide ((l1.length : Int) > 700)) ra pa)))) else (some false))) = some r := h
 clear h
 replace H := Option.bind_eq_some_iff.mp H
 obtain ⟨ee, wi, H⟩ := H
 replace H : (if ee = true then ((kerbsuitelaw12_long.f k ra pa).bind fun Yc => (if Yc = true then (kerbsuitelaw12_DatabaseChecks.j0 k l1 a2 a3 a4 a5 true ra pa) else (if (a5.size : Int) > 100 then (kerbsuitelaw12_DatabaseChecks.j0 k l1 a2 a3 a4 a5 true ra pa) else (kerbsuitelaw12_DatabaseChecks.j0 k l1 a2 a3 a4 a5 (decide ((l1.length : Int) > 700)) ra pa)))) else (some false)) = some r := H
 have A7 := aM_ wi
 clear wi
 by_cases c8 : ee = true
 ·subst c8
  have H1 : ((kerbsuitelaw12_long.f k ra pa).bind fun Yc => (if Yc = true then (kerbsuitelaw12_DatabaseChecks.j0 k l1 a2 a3 a4 a5 true ra pa) else (if (a5.size : Int) > 100 then (kerbsuitelaw12_DatabaseChecks.j0 k l1 a2 a3 a4 a5 true ra pa) else (kerbsuitelaw12_DatabaseChecks.j0 k l1 a2 a3 a4 a5 (decide ((l1.length : Int) > 700)) ra pa)))) = some r := by rw [if_pos rfl] at H; exact H
  clear H
  have H := H1
  clear H1
  have uh := aM_ H
  clear H
  go_enter Tryd.func3, Tryd.ntmps3
  go_upto_region 3 with (first | ((with_reducible refine gate_dst (N := 6) rfl ?_); (try (refine gate_guard (by rfl) ?_; dsimp only)); refine box_event ?hg (N := 6) ?hd (cs := #[.string ra, .slice za pa.length Aa]) (t := 24) ?hr ?_; (case hd => rfl); (case hg => rfl); (case hr => first | (go_simp; done) | (go_simp; rfl)); intro sa hg Rm hbox hb; have ea := aM_ (hbox); have mi := aM_ ((by rw [hg]; exact (below_size (bk_ HB.out)) : w.heap.size ≤ sa)); have ni := aM_ ((by rw [hg]; exact (below_size (bk_ HB.out)) : w.heap.size ≤ sa)); replace HB := aM_ (below_step (bk_ HB.out) hb); clear hb hbox hg) | ((with_reducible refine gate_callee (f := 7) rfl ?_); refine goesL_ (some 21) rfl rfl Tryd.func7 (by kernel_rfl) rfl #[] rfl aR_ ?_; (with_reducible refine (kerbsuitelaw12_awake.calls k  true _ A7.out).mono ?_); rintro e Sm ⟨rfl, hb⟩; refine ⟨_, rfl, ?_⟩; replace ea := aM_ (blk_below (g := sa) (o := .cells #[.string ra, .slice za pa.length Aa] 24 (0, 0)) (bk_ ea.out) hb); replace HB := aM_ (below_step hB_ hb); clear hb))
  (try simp only [Act.put, sA_, sB_, sC_])
  go_cut [34] (fun ik wc => ∃ (kq : Nat) (He : Bool), ik = .bool He ∧ Aside0 (kerbsuitelaw12_DatabaseChecks.j0 kq l1 a2 a3 a4 a5 He ra pa = some r) ∧ Aside0 (kq ≤ k) ∧ Aside0 (wc.heap[sa]? = some (.cells #[.string ra, (.slice za pa.length Aa)] 24 (0, 0))) ∧ Aside0 (Below w.heap.size w wc))
  case first =>
   have H := uh.out
   clear uh
   replace H := Option.bind_eq_some_iff.mp H
   obtain ⟨Yc, vh, H⟩ := H
   replace H : (if Yc = true then (kerbsuitelaw12_DatabaseChecks.j0 k l1 a2 a3 a4 a5 true ra pa) else (if (a5.size : Int) > 100 then (kerbsuitelaw12_DatabaseChecks.j0 k l1 a2 a3 a4 a5 true ra pa) else (kerbsuitelaw12_DatabaseChecks.j0 k l1 a2 a3 a4 a5 (decide ((l1.length : Int) > 700)) ra pa))) = some r := H
   have wh := aM_ vh
   clear vh
   by_cases Le : Yc = true
   ·subst Le
    have H1 : (kerbsuitelaw12_DatabaseChecks.j0 k l1 a2 a3 a4 a5 true ra pa) = some r := by rw [if_pos rfl] at H; exact H
    clear H
    have H := H1
    clear H1
    have H' := aM_ H
    clear H
    have fe := bc_ ea.out 0
    have ge := bc_ ea.out 1
    have he := blk_frozen ea.out 0
    have ie := blk_frozen ea.out 1
    go_wp2_with (first | ((with_reducible refine gate_callee (f := 8) rfl ?_); refine goesL_ (some 24) rfl rfl Tryd.func8 (by kernel_rfl) rfl #[.agg #[.string ra, .slice za pa.length Aa]] rfl aR_ ?_; (with_reducible refine (kerbsuitelaw12_long.calls k ra _ _ pa true _ ?side1 ?side2 wh.out).mono ?_); (case side1 => repeat (first | exact (Kd.C_below Rd.out HB.out) | (with_reducible refine Kd.C_alloc ?_ _) | (with_reducible refine Kd.C_drewN ?_ _) | (with_reducible refine Kd.C_drew ?_))); (case side2 => exact Sd.out); rintro e Tm ⟨rfl, hb⟩; refine ⟨_, rfl, ?_⟩; replace ea := aM_ (blk_below (g := sa) (o := .cells #[.string ra, .slice za pa.length Aa] 24 (0, 0)) (bk_ ea.out) hb); replace HB := aM_ (below_step hB_ hb); clear hb))
    go_meet
    case rel => exact ⟨_, (true), rS_, H', ⟨by first | omega | exact Nat.le_refl _⟩, ⟨by refine bk_ ?_; exact ea.out⟩, ⟨hB_⟩⟩
   replace Le := Bool.eq_false_iff.mpr Le
   subst Le
   have H1 : (if (a5.size : Int) > 100 then (kerbsuitelaw12_DatabaseChecks.j0 k l1 a2 a3 a4 a5 true ra pa) else (kerbsuitelaw12_DatabaseChecks.j0 k l1 a2 a3 a4 a5 (decide ((l1.length : Int) > 700)) ra pa)) = some r := by rw [if_neg (show ¬ (false = true) by decide)] at H; exact H
   clear H
   have H := H1
   clear H1
   by_cases Td : (a5.size : Int) > 100
   ·rw [if_pos Td] at H
    have Vc : decide (100 < (a5.size : Int)) = true := decide_eq_true Td
    have Ie : decide (100 < a5.size) = true := decide_eq_true (by omega)
    clear Td
    (first | rw [Vc] | (simp only [i64_w, i32_w]; rw [Vc]) | skip)
    have H' := aM_ H
    clear H
    have je := bc_ ea.out 0
    have ke := bc_ ea.out 1
    have le := blk_frozen ea.out 0
    have me := blk_frozen ea.out 1
    go_wp2_with (first | ((with_reducible refine gate_callee (f := 8) rfl ?_); refine goesL_ (some 24) rfl rfl Tryd.func8 (by kernel_rfl) rfl #[.agg #[.string ra, .slice za pa.length Aa]] rfl aR_ ?_; (with_reducible refine (kerbsuitelaw12_long.calls k ra _ _ pa false _ ?side1 ?side2 wh.out).mono ?_); (case side1 => repeat (first | exact (Kd.C_below Rd.out HB.out) | (with_reducible refine Kd.C_alloc ?_ _) | (with_reducible refine Kd.C_drewN ?_ _) | (with_reducible refine Kd.C_drew ?_))); (case side2 => exact Sd.out); rintro e Um ⟨rfl, hb⟩; refine ⟨_, rfl, ?_⟩; replace ea := aM_ (blk_below (g := sa) (o := .cells #[.string ra, .slice za pa.length Aa] 24 (0, 0)) (bk_ ea.out) hb); replace HB := aM_ (below_step hB_ hb); clear hb))
    go_meet
    case rel => exact ⟨_, (true), rS_, H', ⟨by first | omega | exact Nat.le_refl _⟩, ⟨by refine bk_ ?_; exact ea.out⟩, ⟨hB_⟩⟩
   rw [if_neg Td] at H
   have Vc : decide (100 < (a5.size : Int)) = false := decide_eq_false Td
   have Ie : decide (100 < a5.size) = false := decide_eq_false (by omega)
   clear Td
   (first | rw [Vc] | (simp only [i64_w, i32_w]; rw [Vc]) | skip)
   have H' := aM_ H
   clear H
   have ne := bc_ ea.out 0
   have oe := bc_ ea.out 1
   have pe := blk_frozen ea.out 0
   have qe := blk_frozen ea.out 1
   go_wp2_with (first | ((with_reducible refine gate_callee (f := 8) rfl ?_); refine goesL_ (some 24) rfl rfl Tryd.func8 (by kernel_rfl) rfl #[.agg #[.string ra, .slice za pa.length Aa]] rfl aR_ ?_; (with_reducible refine (kerbsuitelaw12_long.calls k ra _ _ pa false _ ?side1 ?side2 wh.out).mono ?_); (case side1 => repeat (first | exact (Kd.C_below Rd.out HB.out) | (with_reducible refine Kd.C_alloc ?_ _) | (with_reducible refine Kd.C_drewN ?_ _) | (with_reducible refine Kd.C_drew ?_))); (case side2 => exact Sd.out); rintro e Vm ⟨rfl, hb⟩; refine ⟨_, rfl, ?_⟩; replace ea := aM_ (blk_below (g := sa) (o := .cells #[.string ra, .slice za pa.length Aa] 24 (0, 0)) (bk_ ea.out) hb); replace HB := aM_ (below_step hB_ hb); clear hb))
   go_meet
   case rel => exact ⟨_, (decide ((l1.length : Int) > 700)), rS_, H', ⟨by first | omega | exact Nat.le_refl _⟩, ⟨by refine bk_ ?_; exact ea.out⟩, ⟨hB_⟩⟩
  case rest =>
   clear uh
   try clear c1
   try clear p2
   try clear c3
   try clear c7
   try clear c8
   try clear Le
   try clear Td
   try clear Vc
   try clear Ie
   try clear fe
   try clear ge
   try clear je
   try clear ke
   try clear ne
   try clear oe
   try clear he
   try clear ie
   try clear le
   try clear me
   try clear pe
   try clear qe
   obtain ⟨kq, He, rfl, HA, ve, ea, HB⟩ := hcut
   cases kq with
   | zero => exact absurd HA.out (by simp [kerbsuitelaw12_DatabaseChecks.j0])
   | succ Qb =>
    have H := HA.out
    clear HA
    simp only [kerbsuitelaw12_DatabaseChecks.j0] at H
    by_cases sf : He = true
    ·subst sf
     have H1 : (some true) = some r := by rw [if_pos rfl] at H; exact H
     clear H
     have H := H1
     clear H1
     obtain rfl := Option.some.inj H
     go_wp2
     go_ret
     exact ⟨eW_, hB_⟩
    replace sf := Bool.eq_false_iff.mpr sf
    subst sf
    have H1 : ((kerbsuitedata_Database.f Qb l1 (wrap64 (a3))).bind fun Vb => ((database_Check.f Qb Vb.1 Vb.2).bind fun nc => (if nc = 0 then ((database_Check.f Qb ra pa).bind fun Mc => ((kerbsuiteref12_Check.f Qb ra pa).bind fun tc => (kerbsuitelaw12_DatabaseChecks.j1 Qb a2 a3 a4 a5 (Mc != tc) Vb.1 Vb.2))) else (kerbsuitelaw12_DatabaseChecks.j1 Qb a2 a3 a4 a5 true Vb.1 Vb.2)))) = some r := by rw [if_neg (show ¬ (false = true) by decide)] at H; exact H
    clear H
    have H := H1
    clear H1
    replace H := Option.bind_eq_some_iff.mp H
    obtain ⟨⟨ia, na⟩, xh, H⟩ := H
    replace H : ((database_Check.f Qb ia na).bind fun nc => (if nc = 0 then ((database_Check.f Qb ra pa).bind fun Mc => ((kerbsuiteref12_Check.f Qb ra pa).bind fun tc => (kerbsuitelaw12_DatabaseChecks.j1 Qb a2 a3 a4 a5 (Mc != tc) ia na))) else (kerbsuitelaw12_DatabaseChecks.j1 Qb a2 a3 a4 a5 true ia na))) = some r := H
    have lk := aM_ xh
    clear xh
    have eg := aM_ H
    clear H
    go_upto_region 6 with (first | ((with_reducible refine gate_callee (f := 9) rfl ?_); refine goesL_ (some 38) rfl rfl Tryd.func9 (by kernel_rfl) rfl #[.slice A1 l1.length c1, .int .i64 (wrap64 (a3))] rfl aR_ ?_; (with_reducible refine (kerbsuitedata_Database.calls Qb _ _ l1 (wrap64 (a3)) ia na _ ?side1 ?side2 lk.out).mono ?_); (case side1 => repeat (first | exact (Kd.C_below dk.out HB.out) | (with_reducible refine Kd.C_alloc ?_ _) | (with_reducible refine Kd.C_drewN ?_ _) | (with_reducible refine Kd.C_drew ?_))); (case side2 => exact ek.out); rintro e Wm ⟨cm, rfl, xi, hb⟩; refine ⟨_, rfl, ?_⟩; have lb := aM_ (Kd.R_lower xi (below_size hB_)); replace ea := aM_ (blk_below (g := sa) (o := .cells #[.string ra, .slice za pa.length Aa] 24 (0, 0)) (bk_ ea.out) hb); replace HB := aM_ (below_step hB_ hb); clear hb xi) | ((with_reducible refine gate_dst (N := 13) rfl ?_); (try (refine gate_guard (by rfl) ?_; dsimp only)); refine box_event ?hg (N := 13) ?hd (cs := #[.string (⟨#[]⟩ : ByteArray), .slice none 0 0]) (t := 24) ?hr ?_; (case hd => rfl); (case hg => rfl); (case hr => first | (go_simp; done) | (go_simp; rfl)); intro ma hg Ld hbox hb; replace lb := aM_ (Kd.R_below (bk_ lb.out) hb); have da := aM_ (hbox); have wl := aM_ ((by rw [hg]; exact (below_size hB_) : w.heap.size ≤ ma)); have xl := aM_ ((by rw [hg]; exact (below_size hB_) : w.heap.size ≤ ma)); replace HB := aM_ (below_step hB_ hb); have lc := aM_ ((by rw [hg]; exact Nat.ne_of_lt (blk_lt (g := sa) (o := .cells #[.string ra, .slice za pa.length Aa] 24 (0, 0)) (bk_ ea.out)) : sa ≠ ma)); have we := aM_ ((by rw [hg]; exact Nat.ne_of_gt (blk_lt (g := sa) (o := .cells #[.string ra, .slice za pa.length Aa] 24 (0, 0)) (bk_ ea.out)) : ma ≠ sa)); replace ea := aM_ (blk_below (g := sa) (o := .cells #[.string ra, .slice za pa.length Aa] 24 (0, 0)) (bk_ ea.out) hb); clear hb hbox hg; have yl := we.out; have zl := lc.out; have tf := bc_ da.out 0; have uf := bc_ da.out 1; have vf := blk_frozen da.out 0; have xf := blk_frozen da.out 1; obtain ⟨Da, Ea, Ui⟩ := Kd.R_slice lb.out; subst Ui))
    (try simp only [Act.put, sA_, sB_, sC_])
    go_cut [48] (fun mk wc => ∃ (kq : Nat) (Ud : Bool), mk = .bool Ud ∧ Aside0 (kerbsuitelaw12_DatabaseChecks.j1 kq a2 a3 a4 a5 Ud ia na = some r) ∧ Aside0 (kq ≤ Qb) ∧ Aside0 (Kd.R k35 35 wc w.heap.size (fun _ => True) (.slice Da na.length Ea) na) ∧ Aside0 (wc.heap[sa]? = some (.cells #[.string ra, (.slice za pa.length Aa)] 24 (0, 0))) ∧ Aside0 (wc.heap[ma]? = some (.cells #[.string ia, (.slice Da na.length Ea)] 24 (0, 0))) ∧ Aside0 (Below w.heap.size w wc))
    case first =>
     have H := eg.out
     clear eg
     replace H := Option.bind_eq_some_iff.mp H
     obtain ⟨nc, yh, H⟩ := H
     replace H : (if nc = 0 then ((database_Check.f Qb ra pa).bind fun Mc => ((kerbsuiteref12_Check.f Qb ra pa).bind fun tc => (kerbsuitelaw12_DatabaseChecks.j1 Qb a2 a3 a4 a5 (Mc != tc) ia na))) else (kerbsuitelaw12_DatabaseChecks.j1 Qb a2 a3 a4 a5 true ia na)) = some r := H
     have yi := aM_ yh
     clear yh
     by_cases Vd : nc = 0
     ·rw [if_pos Vd] at H
      have md : (nc == 0) = true := beq_iff_eq.mpr Vd
      have Cf : (nc != 0) = false := bne_eq_false_iff_eq.mpr Vd
      clear Vd
      (first | rw [md] | (simp only [i64_w, i32_w]; rw [md]) | skip)
      replace H := Option.bind_eq_some_iff.mp H
      obtain ⟨Mc, zh, H⟩ := H
      replace H : ((kerbsuiteref12_Check.f Qb ra pa).bind fun tc => (kerbsuitelaw12_DatabaseChecks.j1 Qb a2 a3 a4 a5 (Mc != tc) ia na)) = some r := H
      have nk := aM_ zh
      clear zh
      replace H := Option.bind_eq_some_iff.mp H
      obtain ⟨tc, Ah, H⟩ := H
      replace H : (kerbsuitelaw12_DatabaseChecks.j1 Qb a2 a3 a4 a5 (Mc != tc) ia na) = some r := H
      have pk := aM_ Ah
      clear Ah
      have H' := aM_ H
      clear H
      try go_upto_region 6 with fail
      have Ab : Aside0 (Kd.R k35 35 ((Ld.setCell ⟨ma, 0, none⟩ (.string ia)).setCell ⟨ma, 1, none⟩ (.slice Da na.length Ea)) w.heap.size (fun _ => True) (.slice Da na.length Ea) na) := ⟨by refine bk_ ?_; exact Kd.R_mono (Kd.R_far (p := ⟨ma, 1, none⟩) (Kd.R_far (p := ⟨ma, 0, none⟩) (Kd.R_types lb.out da.out (by decide)) (fun _ hk => hk.2) (.string ia)) (fun _ hk => hk.2) (.slice Da na.length Ea)) (fun _ hk => trivial)⟩
      have Bb : Aside0 (((Ld.setCell ⟨ma, 0, none⟩ (.string ia)).setCell ⟨ma, 1, none⟩ (.slice Da na.length Ea)).heap[sa]? = some (.cells #[.string ra, .slice za pa.length Aa] 24 (0, 0))) := ⟨by refine bk_ ?_; refine blk_far ?_ lc.out _; refine bk_ ?_; refine blk_far ?_ lc.out _; refine bk_ ?_; exact ea.out⟩
      have Cb : Aside0 (((Ld.setCell ⟨ma, 0, none⟩ (.string ia)).setCell ⟨ma, 1, none⟩ (.slice Da na.length Ea)).heap[ma]? = some (.cells #[.string ia, .slice Da na.length Ea] 24 (0, 0))) := ⟨by refine bk_ ?_; refine blk_put (cs := #[.string ia, .slice none 0 0]) ?_ 1 _ rfl; refine bk_ ?_; refine blk_put (cs := #[.string (⟨#[]⟩ : ByteArray), .slice none 0 0]) ?_ 0 _ rfl; refine bk_ ?_; exact da.out⟩
      have Db : Aside0 (Below w.heap.size w ((Ld.setCell ⟨ma, 0, none⟩ (.string ia)).setCell ⟨ma, 1, none⟩ (.slice Da na.length Ea))) := ⟨hB_⟩
      (try clear lb)
      (try clear ea)
      (try clear da)
      (try clear HB)
      generalize ((Ld.setCell ⟨ma, 0, none⟩ (.string ia)).setCell ⟨ma, 1, none⟩ (.slice Da na.length Ea)) = qk at Ab Bb Cb Db ⊢
      have lb := Ab
      have ea := Bb
      have da := Cb
      have HB := Db
      clear Ab Bb Cb Db
      replace lb := aM_ (Kd.R_drew lb.out)
      replace ea := aM_ (blk_drew ea.out)
      replace da := aM_ (blk_drew da.out)
      replace HB := aM_ (bD_ HB.out)
      refine start_ (n := 10) (S := fun w' => w'.cell? ⟨ma, 0, none⟩ = some (.string ia) ∧ w'.cell? ⟨ma, 1, none⟩ = some (.slice Da na.length Ea) ∧ w'.cell? ⟨sa, 0, none⟩ = some (.string ra) ∧ w'.cell? ⟨sa, 1, none⟩ = some (.slice za pa.length Aa)) (ds := []) (bo_ 10 0) (by kernel_rfl) rfl rfl ⟨bc_ da.out 0, bc_ da.out 1, bc_ ea.out 0, bc_ ea.out 1⟩ (fun hHeld => ?_); refine with_tabW kerbsuitelaw12_DatabaseChecks.tab6 kerbsuitelaw12_DatabaseChecks.bits6 (fun HT_ HW_ => ?_)
      generalize qk.drew = Xm at lb ea da HB hHeld ⊢
      refine take_ (i := 0) (N := some 39) (v := ?_) (a' := ?_) (bo_ 10 1) rfl rfl (take_ofW HT_.out HW_.out (by kernel_rfl)) (fun _ _ _ h => h) (Or.inl ⟨by rfl, ?_⟩) hHeld ?_ ?_
      rotate_left; (· rintro w' ⟨s0, s1, s2, s3⟩; go_simp; with_reducible rfl)
      rotate_left; (· simp only [Act.put,sA_,sB_,sC_,i64_w,i32_w]; rfl)
      refine one_ (i := 1) (N := some 40) (bo_ 10 3) rfl rfl (one_of HT_.out (by kernel_rfl)) (by decide) (fun K hK => ?_)
      refine goes_ Tryd.func10 (by kernel_rfl) rfl #[.agg #[.string ia, .slice Da na.length Ea]] (by rfl) rfl rfl aR_ ?_
      with_reducible refine (database_Check.calls Qb ia _ _ na nc _ ?side1 ?side2 yi.out).mono ?_
      (case side1 => repeat (first | exact (Kd.R_reads' lb.out).2.2 | (with_reducible refine Kd.C_alloc ?_ _) | (with_reducible refine Kd.C_drewN ?_ _) | (with_reducible refine Kd.C_drew ?_)))
      (case side2 => exact (Kd.R_reads' lb.out).2.1)
      rintro e Ym ⟨rfl, hb⟩
      refine ⟨_, rfl, ?_⟩
      replace lb := aM_ (Kd.R_below (bk_ lb.out) hb)
      replace ea := aM_ (blk_below (g := sa) (o := .cells #[.string ra, .slice za pa.length Aa] 24 (0, 0)) (bk_ ea.out) hb)
      replace da := aM_ (blk_below (g := ma) (o := .cells #[.string ia, .slice Da na.length Ea] 24 (0, 0)) (bk_ da.out) hb)
      replace HB := aM_ (below_step hB_ hb)
      clear hb
      refine hK.out _ _ ⟨bc_ da.out 0, bc_ da.out 1, bc_ ea.out 0, bc_ ea.out 1⟩ (fun hHeld => ?_)
      clear hK K
      refine nO_ 40 ?_
      refine pU_ 2 (some 41) (bo_ 10 7) ?_
      refine pU_ 3 (some 42) (bo_ 10 15) ?_
      refine take_ (i := 4) (N := some 43) (v := ?_) (a' := ?_) (bo_ 10 31) rfl rfl (take_ofW HT_.out HW_.out (by kernel_rfl)) (fun _ _ _ h => h) (Or.inl ⟨by rfl, ?_⟩) hHeld ?_ ?_
      rotate_left; (· rintro w' ⟨s0, s1, s2, s3⟩; go_simp; with_reducible rfl)
      rotate_left; (· simp only [Act.put,sA_,sB_,sC_,i64_w,i32_w]; rfl)
      refine take_ (i := 6) (N := some 45) (v := ?_) (a' := ?_) (bo_ 10 95) rfl rfl (take_ofW HT_.out HW_.out (by kernel_rfl)) (fun _ _ _ h => h) (Or.inl ⟨by rfl, ?_⟩) hHeld ?_ ?_
      rotate_left; (· rintro w' ⟨s0, s1, s2, s3⟩; go_simp; with_reducible rfl)
      rotate_left; (· simp only [Act.put,sA_,sB_,sC_,i64_w,i32_w]; rfl)
      refine one_ (i := 5) (N := some 44) (bo_ 10 127) rfl rfl (one_of HT_.out (by kernel_rfl)) (by decide) (fun K hK => ?_)
      refine goes_ Tryd.func10 (by kernel_rfl) rfl #[.agg #[.string ra, .slice za pa.length Aa]] (by rfl) rfl rfl aR_ ?_
      with_reducible refine (database_Check.calls Qb ra _ _ pa Mc _ ?side1 ?side2 nk.out).mono ?_
      (case side1 => repeat (first | exact (Kd.C_below Rd.out HB.out) | (with_reducible refine Kd.C_alloc ?_ _) | (with_reducible refine Kd.C_drewN ?_ _) | (with_reducible refine Kd.C_drew ?_)))
      (case side2 => exact Sd.out)
      rintro e Zm ⟨rfl, hb⟩
      refine ⟨_, rfl, ?_⟩
      replace lb := aM_ (Kd.R_below (bk_ lb.out) hb)
      replace ea := aM_ (blk_below (g := sa) (o := .cells #[.string ra, .slice za pa.length Aa] 24 (0, 0)) (bk_ ea.out) hb)
      replace da := aM_ (blk_below (g := ma) (o := .cells #[.string ia, .slice Da na.length Ea] 24 (0, 0)) (bk_ da.out) hb)
      replace HB := aM_ (below_step hB_ hb)
      clear hb
      refine hK.out _ _ ⟨bc_ da.out 0, bc_ da.out 1, bc_ ea.out 0, bc_ ea.out 1⟩ (fun hHeld => ?_)
      clear hK K
      refine nO_ 44 ?_
      refine one_ (i := 7) (N := some 46) (bo_ 10 255) rfl rfl (one_of HT_.out (by kernel_rfl)) (by decide) (fun K hK => ?_)
      refine goes_ Tryd.func11 (by kernel_rfl) rfl #[.agg #[.string ra, .slice za pa.length Aa]] (by rfl) rfl rfl aR_ ?_
      with_reducible refine (kerbsuiteref12_Check.calls Qb ra _ _ pa tc _ ?side1 ?side2 pk.out).mono ?_
      (case side1 => repeat (first | exact (Kd.C_below Rd.out HB.out) | (with_reducible refine Kd.C_alloc ?_ _) | (with_reducible refine Kd.C_drewN ?_ _) | (with_reducible refine Kd.C_drew ?_)))
      (case side2 => exact Sd.out)
      rintro e an ⟨rfl, hb⟩
      refine ⟨_, rfl, ?_⟩
      replace lb := aM_ (Kd.R_below (bk_ lb.out) hb)
      replace ea := aM_ (blk_below (g := sa) (o := .cells #[.string ra, .slice za pa.length Aa] 24 (0, 0)) (bk_ ea.out) hb)
      replace da := aM_ (blk_below (g := ma) (o := .cells #[.string ia, .slice Da na.length Ea] 24 (0, 0)) (bk_ da.out) hb)
      replace HB := aM_ (below_step hB_ hb)
      clear hb
      refine hK.out _ _ ⟨bc_ da.out 0, bc_ da.out 1, bc_ ea.out 0, bc_ ea.out 1⟩ (fun hHeld => ?_)
      clear hK K
      refine nO_ 46 ?_
      refine pU_ 8 (some 47) (bo_ 10 511) ?_
      refine pU_ 9 (some 48) (bo_ 10 1023) ?_
      refine done_ (done_of HT_.out (by kernel_rfl)) ?_
      try go_wp2
      go_meet
      case rel => exact ⟨_, ((Mc != tc)), rS_, H', ⟨by have := ve.out; first | omega | exact Nat.le_refl _⟩, ⟨by refine bk_ ?_; exact lb.out⟩, ⟨by refine bk_ ?_; exact ea.out⟩, ⟨by refine bk_ ?_; exact da.out⟩, ⟨hB_⟩⟩
     rw [if_neg Vd] at H
     have md : (nc == 0) = false := beq_eq_false_iff_ne.mpr Vd
     have Cf : (nc != 0) = true := bne_iff_ne.mpr Vd
     (first | rw [md] | (simp only [i64_w, i32_w]; rw [md]) | skip)
     have H' := aM_ H
     clear H
     try go_upto_region 6 with fail
     have Ab : Aside0 (Kd.R k35 35 ((Ld.setCell ⟨ma, 0, none⟩ (.string ia)).setCell ⟨ma, 1, none⟩ (.slice Da na.length Ea)) w.heap.size (fun _ => True) (.slice Da na.length Ea) na) := ⟨by refine bk_ ?_; exact Kd.R_mono (Kd.R_far (p := ⟨ma, 1, none⟩) (Kd.R_far (p := ⟨ma, 0, none⟩) (Kd.R_types lb.out da.out (by decide)) (fun _ hk => hk.2) (.string ia)) (fun _ hk => hk.2) (.slice Da na.length Ea)) (fun _ hk => trivial)⟩
     have Bb : Aside0 (((Ld.setCell ⟨ma, 0, none⟩ (.string ia)).setCell ⟨ma, 1, none⟩ (.slice Da na.length Ea)).heap[sa]? = some (.cells #[.string ra, .slice za pa.length Aa] 24 (0, 0))) := ⟨by refine bk_ ?_; refine blk_far ?_ lc.out _; refine bk_ ?_; refine blk_far ?_ lc.out _; refine bk_ ?_; exact ea.out⟩
     have Cb : Aside0 (((Ld.setCell ⟨ma, 0, none⟩ (.string ia)).setCell ⟨ma, 1, none⟩ (.slice Da na.length Ea)).heap[ma]? = some (.cells #[.string ia, .slice Da na.length Ea] 24 (0, 0))) := ⟨by refine bk_ ?_; refine blk_put (cs := #[.string ia, .slice none 0 0]) ?_ 1 _ rfl; refine bk_ ?_; refine blk_put (cs := #[.string (⟨#[]⟩ : ByteArray), .slice none 0 0]) ?_ 0 _ rfl; refine bk_ ?_; exact da.out⟩
     have Db : Aside0 (Below w.heap.size w ((Ld.setCell ⟨ma, 0, none⟩ (.string ia)).setCell ⟨ma, 1, none⟩ (.slice Da na.length Ea))) := ⟨hB_⟩
     (try clear lb)
     (try clear ea)
     (try clear da)
     (try clear HB)
     generalize ((Ld.setCell ⟨ma, 0, none⟩ (.string ia)).setCell ⟨ma, 1, none⟩ (.slice Da na.length Ea)) = rk at Ab Bb Cb Db ⊢
     have lb := Ab
     have ea := Bb
     have da := Cb
     have HB := Db
     clear Ab Bb Cb Db
     replace lb := aM_ (Kd.R_drew lb.out)
     replace ea := aM_ (blk_drew ea.out)
     replace da := aM_ (blk_drew da.out)
     replace HB := aM_ (bD_ HB.out)
     refine start_ (n := 10) (S := fun w' => w'.cell? ⟨ma, 0, none⟩ = some (.string ia) ∧ w'.cell? ⟨ma, 1, none⟩ = some (.slice Da na.length Ea)) (ds := []) (bo_ 10 0) (by kernel_rfl) rfl rfl ⟨bc_ da.out 0, bc_ da.out 1⟩ (fun hHeld => ?_); refine with_tabW kerbsuitelaw12_DatabaseChecks.tab6 kerbsuitelaw12_DatabaseChecks.bits6 (fun HT_ HW_ => ?_)
     generalize rk.drew = bn at lb ea da HB hHeld ⊢
     refine take_ (i := 0) (N := some 39) (v := ?_) (a' := ?_) (bo_ 10 1) rfl rfl (take_ofW HT_.out HW_.out (by kernel_rfl)) (fun _ _ _ h => h) (Or.inl ⟨by rfl, ?_⟩) hHeld ?_ ?_
     rotate_left; (· rintro w' ⟨s0, s1⟩; go_simp; with_reducible rfl)
     rotate_left; (· simp only [Act.put,sA_,sB_,sC_,i64_w,i32_w]; rfl)
     refine one_ (i := 1) (N := some 40) (bo_ 10 3) rfl rfl (one_of HT_.out (by kernel_rfl)) (by decide) (fun K hK => ?_)
     refine goes_ Tryd.func10 (by kernel_rfl) rfl #[.agg #[.string ia, .slice Da na.length Ea]] (by rfl) rfl rfl aR_ ?_
     with_reducible refine (database_Check.calls Qb ia _ _ na nc _ ?side1 ?side2 yi.out).mono ?_
     (case side1 => repeat (first | exact (Kd.R_reads' lb.out).2.2 | (with_reducible refine Kd.C_alloc ?_ _) | (with_reducible refine Kd.C_drewN ?_ _) | (with_reducible refine Kd.C_drew ?_)))
     (case side2 => exact (Kd.R_reads' lb.out).2.1)
     rintro e cn ⟨rfl, hb⟩
     refine ⟨_, rfl, ?_⟩
     replace lb := aM_ (Kd.R_below (bk_ lb.out) hb)
     replace ea := aM_ (blk_below (g := sa) (o := .cells #[.string ra, .slice za pa.length Aa] 24 (0, 0)) (bk_ ea.out) hb)
     replace da := aM_ (blk_below (g := ma) (o := .cells #[.string ia, .slice Da na.length Ea] 24 (0, 0)) (bk_ da.out) hb)
     replace HB := aM_ (below_step hB_ hb)
     clear hb
     refine hK.out _ _ ⟨bc_ da.out 0, bc_ da.out 1⟩ (fun hHeld => ?_)
     clear hK K
     refine nO_ 40 ?_
     refine pU_ 2 (some 41) (bo_ 10 7) ?_
     refine pU_ 3 (some 42) (bo_ 10 15) ?_
     refine pV_ 4 (some 43) (bo_ 10 31) ?_
     refine pV_ 5 (some 44) (bo_ 10 63) ?_
     refine pV_ 6 (some 45) (bo_ 10 127) ?_
     refine pV_ 7 (some 46) (bo_ 10 255) ?_
     refine pV_ 8 (some 47) (bo_ 10 511) ?_
     refine pU_ 9 (some 48) (bo_ 10 1023) ?_
     refine done_ (done_of HT_.out (by kernel_rfl)) ?_
     try go_wp2
     go_meet
     case rel => exact ⟨_, (true), rS_, H', ⟨by have := ve.out; first | omega | exact Nat.le_refl _⟩, ⟨by refine bk_ ?_; exact lb.out⟩, ⟨by refine bk_ ?_; exact ea.out⟩, ⟨by refine bk_ ?_; exact da.out⟩, ⟨hB_⟩⟩
    case rest =>
     clear eg
     try clear c1
     try clear c2
     try clear p2
     try clear c3
     try clear p6
     try clear c7
     try clear c8
     try clear c9
     try clear Bh
     try clear zi
     try clear Le
     try clear Td
     try clear Vc
     try clear Ie
     try clear sf
     try clear tk
     try clear Vd
     try clear md
     try clear Cf
     try clear fe
     try clear ge
     try clear je
     try clear ke
     try clear ne
     try clear oe
     try clear tf
     try clear uf
     try clear he
     try clear ie
     try clear le
     try clear me
     try clear pe
     try clear qe
     try clear vf
     try clear xf
     try clear p2
     obtain ⟨kq, Ud, rfl, HA, re, ca, ea, da, HB⟩ := hcut
     cases kq with
     | zero => exact absurd HA.out (by simp [kerbsuitelaw12_DatabaseChecks.j1])
     | succ ab =>
      have H := HA.out
      clear HA
      simp only [kerbsuitelaw12_DatabaseChecks.j1] at H
      by_cases Kf : Ud = true
      ·subst Kf
       have H1 : (some false) = some r := by rw [if_pos rfl] at H; exact H
       clear H
       have H := H1
       clear H1
       obtain rfl := Option.some.inj H
       go_wp2
       go_ret
       exact ⟨eW_, hB_⟩
      replace Kf := Bool.eq_false_iff.mpr Kf
      subst Kf
      have H1 : ((some (([a4, (-1), 0, 256, 255, 21, 20, 4, 4294967295, 4294967296] : List Int) : List Int)).bind fun db => (if 0 ≤ (Int.tmod (wrap64 (a3)) 10) then (if (Int.tmod (wrap64 (a3)) 10) < (db.length : Int) then ((kerbsuitedata_Long.f 2).bind fun Nc => ((kerbsuitelaw12_changed.f (⟨#[97, 110, 110]⟩ : ByteArray) (⟨#[]⟩ : ByteArray) Nc 0 0 0 0 0 0 a2 (rd db (Int.tmod (wrap64 (a3)) 10)) a5).bind fun ta => ((database_CheckEntry.f ab ta.1 ta.2.1 ta.2.2.1 ta.2.2.2.1 ta.2.2.2.2.1 ta.2.2.2.2.2.1 ta.2.2.2.2.2.2.1 ta.2.2.2.2.2.2.2.1 ta.2.2.2.2.2.2.2.2).bind fun Eb => ((kerbsuiteref12_CheckEntry.f ab ta.1 ta.2.1 ta.2.2.1 ta.2.2.2.1 ta.2.2.2.2.1 ta.2.2.2.2.2.1 ta.2.2.2.2.2.2.1 ta.2.2.2.2.2.2.2.1 ta.2.2.2.2.2.2.2.2).bind fun yb => (if Eb = yb then ((database_CheckEntry.f ab a5 (⟨#[]⟩ : ByteArray) 0 0 0 0 0 0 0).bind fun Gb => ((kerbsuiteref12_CheckEntry.f ab a5 (⟨#[]⟩ : ByteArray) 0 0 0 0 0 0 0).bind fun Fb => (kerbsuitelaw12_DatabaseChecks.j2 ab a2 a3 a5 (rd db (Int.tmod (wrap64 (a3)) 10)) (Gb != Fb) ia na))) else (kerbsuitelaw12_DatabaseChecks.j2 ab a2 a3 a5 (rd db (Int.tmod (wrap64 (a3)) 10)) true ia na)))))) else (none)) else (none))) = some r := by rw [if_neg (show ¬ (false = true) by decide)] at H; exact H
      clear H
      have H := H1
      clear H1
      obtain ⟨db, hy315⟩ : ∃ y_ : List Int, y_ = (([a4, (-1), 0, 256, 255, 21, 20, 4, 4294967295, 4294967296] : List Int)) := ⟨_, rfl⟩
      replace H : (if 0 ≤ (Int.tmod (wrap64 (a3)) 10) then (if (Int.tmod (wrap64 (a3)) 10) < (db.length : Int) then ((kerbsuitedata_Long.f 2).bind fun Nc => ((kerbsuitelaw12_changed.f (⟨#[97, 110, 110]⟩ : ByteArray) (⟨#[]⟩ : ByteArray) Nc 0 0 0 0 0 0 a2 (rd db (Int.tmod (wrap64 (a3)) 10)) a5).bind fun ta => ((database_CheckEntry.f ab ta.1 ta.2.1 ta.2.2.1 ta.2.2.2.1 ta.2.2.2.2.1 ta.2.2.2.2.2.1 ta.2.2.2.2.2.2.1 ta.2.2.2.2.2.2.2.1 ta.2.2.2.2.2.2.2.2).bind fun Eb => ((kerbsuiteref12_CheckEntry.f ab ta.1 ta.2.1 ta.2.2.1 ta.2.2.2.1 ta.2.2.2.2.1 ta.2.2.2.2.2.1 ta.2.2.2.2.2.2.1 ta.2.2.2.2.2.2.2.1 ta.2.2.2.2.2.2.2.2).bind fun yb => (if Eb = yb then ((database_CheckEntry.f ab a5 (⟨#[]⟩ : ByteArray) 0 0 0 0 0 0 0).bind fun Gb => ((kerbsuiteref12_CheckEntry.f ab a5 (⟨#[]⟩ : ByteArray) 0 0 0 0 0 0 0).bind fun Fb => (kerbsuitelaw12_DatabaseChecks.j2 ab a2 a3 a5 (rd db (Int.tmod (wrap64 (a3)) 10)) (Gb != Fb) ia na))) else (kerbsuitelaw12_DatabaseChecks.j2 ab a2 a3 a5 (rd db (Int.tmod (wrap64 (a3)) 10)) true ia na)))))) else (none)) else (none)) = some r := by first | (rw [hy315]; with_reducible exact H) | (have H2_ := (Option.bind_some _ _).symm.trans H; rw [hy315]; with_reducible exact H2_) | (have H2_ := (Option.bind_some _ _).symm.trans H; with_reducible exact H2_) | with_reducible exact H | (rw [hy315]; exact H) | exact H
      have Ny315 := aM_ hy315
      clear hy315
      obtain ⟨qb, hji42⟩ : ∃ j_ : Int, (Int.tmod (wrap64 (a3)) 10) = j_ := ⟨_, rfl⟩
      replace H : (if 0 ≤ (qb) then (if (qb) < (db.length : Int) then ((kerbsuitedata_Long.f 2).bind fun Nc => ((kerbsuitelaw12_changed.f (⟨#[97, 110, 110]⟩ : ByteArray) (⟨#[]⟩ : ByteArray) Nc 0 0 0 0 0 0 a2 (rd db (qb)) a5).bind fun ta => ((database_CheckEntry.f ab ta.1 ta.2.1 ta.2.2.1 ta.2.2.2.1 ta.2.2.2.2.1 ta.2.2.2.2.2.1 ta.2.2.2.2.2.2.1 ta.2.2.2.2.2.2.2.1 ta.2.2.2.2.2.2.2.2).bind fun Eb => ((kerbsuiteref12_CheckEntry.f ab ta.1 ta.2.1 ta.2.2.1 ta.2.2.2.1 ta.2.2.2.2.1 ta.2.2.2.2.2.1 ta.2.2.2.2.2.2.1 ta.2.2.2.2.2.2.2.1 ta.2.2.2.2.2.2.2.2).bind fun yb => (if Eb = yb then ((database_CheckEntry.f ab a5 (⟨#[]⟩ : ByteArray) 0 0 0 0 0 0 0).bind fun Gb => ((kerbsuiteref12_CheckEntry.f ab a5 (⟨#[]⟩ : ByteArray) 0 0 0 0 0 0 0).bind fun Fb => (kerbsuitelaw12_DatabaseChecks.j2 ab a2 a3 a5 (rd db (qb)) (Gb != Fb) ia na))) else (kerbsuitelaw12_DatabaseChecks.j2 ab a2 a3 a5 (rd db (qb)) true ia na)))))) else (none)) else (none)) = some r := by first | (rw [hji42] at H; exact H) | (simp only [hji42] at H ⊢; exact H)
      by_cases Lf : 0 ≤ (qb)
      ·rw [if_pos Lf] at H
       have oi : decide (0 ≤ (qb)) = true := decide_eq_true Lf
       clear Lf
       by_cases Mf : (qb) < (db.length : Int)
       ·rw [if_pos Mf] at H
        have pi : decide ((qb) < (db.length : Int)) = true := decide_eq_true Mf
        clear Mf
        replace H := Option.bind_eq_some_iff.mp H
        obtain ⟨Nc, Ch, H⟩ := H
        replace H : ((kerbsuitelaw12_changed.f (⟨#[97, 110, 110]⟩ : ByteArray) (⟨#[]⟩ : ByteArray) Nc 0 0 0 0 0 0 a2 (rd db (qb)) a5).bind fun ta => ((database_CheckEntry.f ab ta.1 ta.2.1 ta.2.2.1 ta.2.2.2.1 ta.2.2.2.2.1 ta.2.2.2.2.2.1 ta.2.2.2.2.2.2.1 ta.2.2.2.2.2.2.2.1 ta.2.2.2.2.2.2.2.2).bind fun Eb => ((kerbsuiteref12_CheckEntry.f ab ta.1 ta.2.1 ta.2.2.1 ta.2.2.2.1 ta.2.2.2.2.1 ta.2.2.2.2.2.1 ta.2.2.2.2.2.2.1 ta.2.2.2.2.2.2.2.1 ta.2.2.2.2.2.2.2.2).bind fun yb => (if Eb = yb then ((database_CheckEntry.f ab a5 (⟨#[]⟩ : ByteArray) 0 0 0 0 0 0 0).bind fun Gb => ((kerbsuiteref12_CheckEntry.f ab a5 (⟨#[]⟩ : ByteArray) 0 0 0 0 0 0 0).bind fun Fb => (kerbsuitelaw12_DatabaseChecks.j2 ab a2 a3 a5 (rd db (qb)) (Gb != Fb) ia na))) else (kerbsuitelaw12_DatabaseChecks.j2 ab a2 a3 a5 (rd db (qb)) true ia na))))) = some r := H
        have uk := aM_ Ch
        clear Ch
        replace H := Option.bind_eq_some_iff.mp H
        obtain ⟨⟨Ba, Ca, Fa, Ga, Ha, Ja, Ka, La, Oa⟩, Dh, H⟩ := H
        replace H : ((database_CheckEntry.f ab Ba Ca Fa Ga Ha Ja Ka La Oa).bind fun Eb => ((kerbsuiteref12_CheckEntry.f ab Ba Ca Fa Ga Ha Ja Ka La Oa).bind fun yb => (if Eb = yb then ((database_CheckEntry.f ab a5 (⟨#[]⟩ : ByteArray) 0 0 0 0 0 0 0).bind fun Gb => ((kerbsuiteref12_CheckEntry.f ab a5 (⟨#[]⟩ : ByteArray) 0 0 0 0 0 0 0).bind fun Fb => (kerbsuitelaw12_DatabaseChecks.j2 ab a2 a3 a5 (rd db (qb)) (Gb != Fb) ia na))) else (kerbsuitelaw12_DatabaseChecks.j2 ab a2 a3 a5 (rd db (qb)) true ia na)))) = some r := H
        have vk := aM_ Dh
        clear Dh
        have fg := aM_ H
        clear H
        go_upto_region 10 with (first | ((with_reducible refine gate_dst (N := 50) rfl ?_); (try (refine gate_guard (by rfl) ?_; dsimp only)); refine Kd.R_lit (Kd.int .i64) _ 3 ?hg (N := 50) ?hd (xs := ([a4, (-1), 0, 256, 255, 21, 20, 4, 4294967295, 4294967296] : List Int)) (inner := [.int .i64 a4, .int .i64 (-1), .int .i64 0, .int .i64 256, .int .i64 255, .int .i64 21, .int .i64 20, .int .i64 4, .int .i64 4294967295, .int .i64 4294967296]) (ok := fun _ => True) (okp := fun _ => True) ?hr ?hp (fun _ hk => hk) trivial (Below.refl _ _) (Nat.le_refl _) (by simp) ?_; (case hd => rfl); (case hg => rfl); (case hr => first | (go_simp; done) | (go_simp; rfl)); (case hp => exact (Reps.one (show Kd.M (Kd.int .i64) _ _ _ a4 [.int .i64 a4] from rfl) (Reps.one (show Kd.M (Kd.int .i64) _ _ _ (-1) [.int .i64 (-1)] from rfl) (Reps.one (show Kd.M (Kd.int .i64) _ _ _ 0 [.int .i64 0] from rfl) (Reps.one (show Kd.M (Kd.int .i64) _ _ _ 256 [.int .i64 256] from rfl) (Reps.one (show Kd.M (Kd.int .i64) _ _ _ 255 [.int .i64 255] from rfl) (Reps.one (show Kd.M (Kd.int .i64) _ _ _ 21 [.int .i64 21] from rfl) (Reps.one (show Kd.M (Kd.int .i64) _ _ _ 20 [.int .i64 20] from rfl) (Reps.one (show Kd.M (Kd.int .i64) _ _ _ 4 [.int .i64 4] from rfl) (Reps.one (show Kd.M (Kd.int .i64) _ _ _ 4294967295 [.int .i64 4294967295] from rfl) (Reps.one (show Kd.M (Kd.int .i64) _ _ _ 4294967296 [.int .i64 4294967296] from rfl) (Reps.none _ _)))))))))))); intro em xe Me hb hg_ hnew_; clear hg_ hnew_; (first | rw [← Ny315.out] at Me | (simp only [Int.reduceToNat] at Me; rw [← Ny315.out] at Me)); replace ca := aM_ (Kd.R_below (bk_ ca.out) hb); have kb := aM_ (Kd.R_lower Me (below_size hB_)); replace ea := aM_ (blk_below (g := sa) (o := .cells #[.string ra, .slice za pa.length Aa] 24 (0, 0)) (bk_ ea.out) hb); replace da := aM_ (blk_below (g := ma) (o := .cells #[.string ia, .slice Da na.length Ea] 24 (0, 0)) (bk_ da.out) hb); replace HB := aM_ (below_step hB_ hb); clear hb Me; obtain ⟨fm, gg, Wi⟩ := Kd.R_slice kb.out; subst Wi; have Df : 0 ≤ ((qb) : Int) := dT_; have Ef : (qb) < (db.length : Int) := dT_; obtain ⟨Ff, Xi, bh⟩ := Kd.at_int (Kd.R_reads' kb.out).2.2 (qb) Df Ef; cases Xi; replace Df := eq_true Df; replace Ef := eq_true Ef) | ((with_reducible refine gate_callee (f := 13) rfl ?_); refine goesL_ (some 56) rfl rfl Tryd.func13 (by kernel_rfl) rfl #[.int .i64 2] rfl aR_ ?_; (with_reducible refine (kerbsuitedata_Long.calls 2 Nc _ uk.out).mono ?_); rintro e w' ⟨rfl, ⟨nd, rfl⟩⟩; refine ⟨_, rfl, ?_⟩; (try (rw [drewN_self xe]; generalize hq_ : World.drewN xe _ = xe; have Ab : Aside0 (Kd.R (Kd.int .i64) 3 xe w.heap.size (fun _ => True) (.slice (some Ff) db.length gg) db) := ⟨by rw [← hq_]; exact (bk_ kb.out)⟩; have Bb : Aside0 (Kd.R k35 35 xe w.heap.size (fun _ => True) (.slice Da na.length Ea) na) := ⟨by rw [← hq_]; exact (bk_ ca.out)⟩; have Cb : Aside0 (xe.heap[sa]? = some (.cells #[.string ra, .slice za pa.length Aa] 24 (0, 0))) := ⟨by rw [← hq_]; exact (bk_ ea.out)⟩; have Db : Aside0 (xe.heap[ma]? = some (.cells #[.string ia, .slice Da na.length Ea] 24 (0, 0))) := ⟨by rw [← hq_]; exact (bk_ da.out)⟩; have ac : Aside0 (Below w.heap.size w xe) := ⟨by rw [← hq_]; exact hB_⟩; clear kb ca ea da HB hq_; have kb := Ab; have ca := Bb; have ea := Cb; have da := Db; have HB := ac; clear Ab Bb Cb Db ac))) | ((with_reducible refine gate_callee (f := 12) rfl ?_); refine goesL_ (some 61) rfl rfl Tryd.func12 (by kernel_rfl) rfl #[.agg #[.string (⟨#[97, 110, 110]⟩ : ByteArray), .string (⟨#[]⟩ : ByteArray), .int .u64 Nc, .int .i64 0, .int .i64 0, .int .i64 0, .int .i64 0, .int .i64 0, .int .i64 0], .int .u8 a2, .int .i64 (rd db (qb)), .string a5] rfl (by (try simp only [List.map_toArray, List.map_cons, List.map_nil]); first | done | (simp only [hji42]; rfl) | rfl | (simp only [List.length_drop, List.length_take]; rfl)) ?_; (with_reducible refine (kerbsuitelaw12_changed.calls (⟨#[97, 110, 110]⟩ : ByteArray) (⟨#[]⟩ : ByteArray) Nc 0 0 0 0 0 0 a2 (rd db (qb)) a5 Ba Ca Fa Ga Ha Ja Ka La Oa _ vk.out).mono ?_); rintro e dn ⟨rfl, hb⟩; refine ⟨_, rfl, ?_⟩; replace ca := aM_ (Kd.R_below (bk_ ca.out) hb); replace kb := aM_ (Kd.R_below (bk_ kb.out) hb); replace ea := aM_ (blk_below (g := sa) (o := .cells #[.string ra, .slice za pa.length Aa] 24 (0, 0)) (bk_ ea.out) hb); replace da := aM_ (blk_below (g := ma) (o := .cells #[.string ia, .slice Da na.length Ea] 24 (0, 0)) (bk_ da.out) hb); replace HB := aM_ (below_step hB_ hb); clear hb) | ((with_reducible refine gate_dst (N := 15) rfl ?_); (try (refine gate_guard (by rfl) ?_; dsimp only)); refine box_event ?hg (N := 15) ?hd (cs := #[.string (⟨#[]⟩ : ByteArray), .string (⟨#[]⟩ : ByteArray), .int .u64 0, .int .i64 0, .int .i64 0, .int .i64 0, .int .i64 0, .int .i64 0, .int .i64 0]) (t := 35) ?hr ?_; (case hd => rfl); (case hg => rfl); (case hr => first | (go_simp; done) | (go_simp; rfl)); intro aa hg Wc hbox hb; replace ca := aM_ (Kd.R_below (Kd.R_elderB (bk_ ca.out) aa (Nat.le_of_eq hg.symm)) hb); replace kb := aM_ (Kd.R_below (bk_ kb.out) hb); have fa := aM_ (hbox); have Al := aM_ ((by rw [hg]; exact (below_size hB_) : w.heap.size ≤ aa)); have Bl := aM_ ((by rw [hg]; exact (below_size hB_) : w.heap.size ≤ aa)); replace HB := aM_ (below_step hB_ hb); have ib := aM_ ((by rw [hg]; exact Nat.ne_of_lt (blk_lt (g := sa) (o := .cells #[.string ra, .slice za pa.length Aa] 24 (0, 0)) (bk_ ea.out)) : sa ≠ aa)); have Nf := aM_ ((by rw [hg]; exact Nat.ne_of_gt (blk_lt (g := sa) (o := .cells #[.string ra, .slice za pa.length Aa] 24 (0, 0)) (bk_ ea.out)) : aa ≠ sa)); replace ea := aM_ (blk_below (g := sa) (o := .cells #[.string ra, .slice za pa.length Aa] 24 (0, 0)) (bk_ ea.out) hb); have fb := aM_ ((by rw [hg]; exact Nat.ne_of_lt (blk_lt (g := ma) (o := .cells #[.string ia, .slice Da na.length Ea] 24 (0, 0)) (bk_ da.out)) : ma ≠ aa)); have ye := aM_ ((by rw [hg]; exact Nat.ne_of_gt (blk_lt (g := ma) (o := .cells #[.string ia, .slice Da na.length Ea] 24 (0, 0)) (bk_ da.out)) : aa ≠ ma)); replace da := aM_ (blk_below (g := ma) (o := .cells #[.string ia, .slice Da na.length Ea] 24 (0, 0)) (bk_ da.out) hb); clear hb hbox hg; have Cl := Nf.out; have Dl := ib.out; have El := ye.out; have Fl := fb.out; have ch := bc_ fa.out 0; have dh := bc_ fa.out 1; have eh := bc_ fa.out 2; have fh := bc_ fa.out 3; have gh := bc_ fa.out 4; have hh := bc_ fa.out 5; have ih := bc_ fa.out 6; have jh := bc_ fa.out 7; have kh := bc_ fa.out 8; have lh := blk_frozen fa.out 0; have mh := blk_frozen fa.out 1; have nh := blk_frozen fa.out 2; have oh := blk_frozen fa.out 3; have ph := blk_frozen fa.out 4; have qh := blk_frozen fa.out 5; have rh := blk_frozen fa.out 6; have sh := blk_frozen fa.out 7; have th := blk_frozen fa.out 8))
        (try simp only [Act.put, sA_, sB_, sC_])
        go_cut [75] (fun wk wc => ∃ (kq : Nat) (Wd : Bool), wk = .bool Wd ∧ Aside0 (kerbsuitelaw12_DatabaseChecks.j2 kq a2 a3 a5 (rd db (qb)) Wd ia na = some r) ∧ Aside0 (kq ≤ ab) ∧ Aside0 (Kd.R k35 35 wc w.heap.size (fun k_ => k_ ≠ aa) (.slice Da na.length Ea) na) ∧ Aside0 (wc.heap[sa]? = some (.cells #[.string ra, (.slice za pa.length Aa)] 24 (0, 0))) ∧ Aside0 (wc.heap[ma]? = some (.cells #[.string ia, (.slice Da na.length Ea)] 24 (0, 0))) ∧ Aside0 (wc.heap[aa]? = some (.cells #[.string Ba, .string Ca, .int .u64 Fa, .int .i64 Ga, .int .i64 Ha, .int .i64 Ja, .int .i64 Ka, .int .i64 La, .int .i64 Oa] 35 (0, 0))) ∧ Aside0 (Below w.heap.size w wc))
        case first =>
         have H := fg.out
         clear fg
         replace H := Option.bind_eq_some_iff.mp H
         obtain ⟨Eb, Eh, H⟩ := H
         replace H : ((kerbsuiteref12_CheckEntry.f ab Ba Ca Fa Ga Ha Ja Ka La Oa).bind fun yb => (if Eb = yb then ((database_CheckEntry.f ab a5 (⟨#[]⟩ : ByteArray) 0 0 0 0 0 0 0).bind fun Gb => ((kerbsuiteref12_CheckEntry.f ab a5 (⟨#[]⟩ : ByteArray) 0 0 0 0 0 0 0).bind fun Fb => (kerbsuitelaw12_DatabaseChecks.j2 ab a2 a3 a5 (rd db (qb)) (Gb != Fb) ia na))) else (kerbsuitelaw12_DatabaseChecks.j2 ab a2 a3 a5 (rd db (qb)) true ia na))) = some r := H
         have Ai := aM_ Eh
         clear Eh
         replace H := Option.bind_eq_some_iff.mp H
         obtain ⟨yb, Fh, H⟩ := H
         replace H : (if Eb = yb then ((database_CheckEntry.f ab a5 (⟨#[]⟩ : ByteArray) 0 0 0 0 0 0 0).bind fun Gb => ((kerbsuiteref12_CheckEntry.f ab a5 (⟨#[]⟩ : ByteArray) 0 0 0 0 0 0 0).bind fun Fb => (kerbsuitelaw12_DatabaseChecks.j2 ab a2 a3 a5 (rd db (qb)) (Gb != Fb) ia na))) else (kerbsuitelaw12_DatabaseChecks.j2 ab a2 a3 a5 (rd db (qb)) true ia na)) = some r := H
         have Bi := aM_ Fh
         clear Fh
         by_cases ze : Eb = yb
         ·rw [if_pos ze] at H
          have Gd : (Eb == yb) = true := beq_iff_eq.mpr ze
          have Eg : (Eb != yb) = false := bne_eq_false_iff_eq.mpr ze
          clear ze
          (first | rw [Gd] | (simp only [i64_w, i32_w]; rw [Gd]) | skip)
          replace H := Option.bind_eq_some_iff.mp H
          obtain ⟨Gb, Gh, H⟩ := H
          replace H : ((kerbsuiteref12_CheckEntry.f ab a5 (⟨#[]⟩ : ByteArray) 0 0 0 0 0 0 0).bind fun Fb => (kerbsuitelaw12_DatabaseChecks.j2 ab a2 a3 a5 (rd db (qb)) (Gb != Fb) ia na)) = some r := H
          have xk := aM_ Gh
          clear Gh
          replace H := Option.bind_eq_some_iff.mp H
          obtain ⟨Fb, Hh, H⟩ := H
          replace H : (kerbsuitelaw12_DatabaseChecks.j2 ab a2 a3 a5 (rd db (qb)) (Gb != Fb) ia na) = some r := H
          have yk := aM_ Hh
          clear Hh
          have H' := aM_ H
          clear H
          try go_upto_region 10 with fail
          have Ab : Aside0 (Kd.R k35 35 (((((((((Wc.setCell ⟨aa, 0, none⟩ (.string Ba)).setCell ⟨aa, 1, none⟩ (.string Ca)).setCell ⟨aa, 2, none⟩ (.int .u64 Fa)).setCell ⟨aa, 3, none⟩ (.int .i64 Ga)).setCell ⟨aa, 4, none⟩ (.int .i64 Ha)).setCell ⟨aa, 5, none⟩ (.int .i64 Ja)).setCell ⟨aa, 6, none⟩ (.int .i64 Ka)).setCell ⟨aa, 7, none⟩ (.int .i64 La)).setCell ⟨aa, 8, none⟩ (.int .i64 Oa)) w.heap.size (fun k_ => k_ ≠ aa) (.slice Da na.length Ea) na) := ⟨by refine bk_ ?_; exact Kd.R_mono (Kd.R_far (p := ⟨aa, 8, none⟩) (Kd.R_far (p := ⟨aa, 7, none⟩) (Kd.R_far (p := ⟨aa, 6, none⟩) (Kd.R_far (p := ⟨aa, 5, none⟩) (Kd.R_far (p := ⟨aa, 4, none⟩) (Kd.R_far (p := ⟨aa, 3, none⟩) (Kd.R_far (p := ⟨aa, 2, none⟩) (Kd.R_far (p := ⟨aa, 1, none⟩) (Kd.R_far (p := ⟨aa, 0, none⟩) (Kd.R_mono ca.out (fun k_ hk => (⟨hk, hk.2⟩ : _ ∧ k_ ≠ aa))) (fun _ hk => hk.2) (.string Ba)) (fun _ hk => hk.2) (.string Ca)) (fun _ hk => hk.2) (.int .u64 Fa)) (fun _ hk => hk.2) (.int .i64 Ga)) (fun _ hk => hk.2) (.int .i64 Ha)) (fun _ hk => hk.2) (.int .i64 Ja)) (fun _ hk => hk.2) (.int .i64 Ka)) (fun _ hk => hk.2) (.int .i64 La)) (fun _ hk => hk.2) (.int .i64 Oa)) (fun _ hk => hk.1.2)⟩
          have Bb : Aside0 (Kd.R (Kd.int .i64) 3 (((((((((Wc.setCell ⟨aa, 0, none⟩ (.string Ba)).setCell ⟨aa, 1, none⟩ (.string Ca)).setCell ⟨aa, 2, none⟩ (.int .u64 Fa)).setCell ⟨aa, 3, none⟩ (.int .i64 Ga)).setCell ⟨aa, 4, none⟩ (.int .i64 Ha)).setCell ⟨aa, 5, none⟩ (.int .i64 Ja)).setCell ⟨aa, 6, none⟩ (.int .i64 Ka)).setCell ⟨aa, 7, none⟩ (.int .i64 La)).setCell ⟨aa, 8, none⟩ (.int .i64 Oa)) w.heap.size (fun _ => True) (.slice (some Ff) db.length gg) db) := ⟨by refine bk_ ?_; exact Kd.R_mono (Kd.R_far (p := ⟨aa, 8, none⟩) (Kd.R_far (p := ⟨aa, 7, none⟩) (Kd.R_far (p := ⟨aa, 6, none⟩) (Kd.R_far (p := ⟨aa, 5, none⟩) (Kd.R_far (p := ⟨aa, 4, none⟩) (Kd.R_far (p := ⟨aa, 3, none⟩) (Kd.R_far (p := ⟨aa, 2, none⟩) (Kd.R_far (p := ⟨aa, 1, none⟩) (Kd.R_far (p := ⟨aa, 0, none⟩) (Kd.R_types kb.out fa.out (by decide)) (fun _ hk => hk.2) (.string Ba)) (fun _ hk => hk.2) (.string Ca)) (fun _ hk => hk.2) (.int .u64 Fa)) (fun _ hk => hk.2) (.int .i64 Ga)) (fun _ hk => hk.2) (.int .i64 Ha)) (fun _ hk => hk.2) (.int .i64 Ja)) (fun _ hk => hk.2) (.int .i64 Ka)) (fun _ hk => hk.2) (.int .i64 La)) (fun _ hk => hk.2) (.int .i64 Oa)) (fun _ hk => trivial)⟩
          have Cb : Aside0 ((((((((((Wc.setCell ⟨aa, 0, none⟩ (.string Ba)).setCell ⟨aa, 1, none⟩ (.string Ca)).setCell ⟨aa, 2, none⟩ (.int .u64 Fa)).setCell ⟨aa, 3, none⟩ (.int .i64 Ga)).setCell ⟨aa, 4, none⟩ (.int .i64 Ha)).setCell ⟨aa, 5, none⟩ (.int .i64 Ja)).setCell ⟨aa, 6, none⟩ (.int .i64 Ka)).setCell ⟨aa, 7, none⟩ (.int .i64 La)).setCell ⟨aa, 8, none⟩ (.int .i64 Oa)).heap[sa]? = some (.cells #[.string ra, .slice za pa.length Aa] 24 (0, 0))) := ⟨by refine bk_ ?_; refine blk_far ?_ ib.out _; refine bk_ ?_; refine blk_far ?_ ib.out _; refine bk_ ?_; refine blk_far ?_ ib.out _; refine bk_ ?_; refine blk_far ?_ ib.out _; refine bk_ ?_; refine blk_far ?_ ib.out _; refine bk_ ?_; refine blk_far ?_ ib.out _; refine bk_ ?_; refine blk_far ?_ ib.out _; refine bk_ ?_; refine blk_far ?_ ib.out _; refine bk_ ?_; refine blk_far ?_ ib.out _; refine bk_ ?_; exact ea.out⟩
          have Db : Aside0 ((((((((((Wc.setCell ⟨aa, 0, none⟩ (.string Ba)).setCell ⟨aa, 1, none⟩ (.string Ca)).setCell ⟨aa, 2, none⟩ (.int .u64 Fa)).setCell ⟨aa, 3, none⟩ (.int .i64 Ga)).setCell ⟨aa, 4, none⟩ (.int .i64 Ha)).setCell ⟨aa, 5, none⟩ (.int .i64 Ja)).setCell ⟨aa, 6, none⟩ (.int .i64 Ka)).setCell ⟨aa, 7, none⟩ (.int .i64 La)).setCell ⟨aa, 8, none⟩ (.int .i64 Oa)).heap[ma]? = some (.cells #[.string ia, .slice Da na.length Ea] 24 (0, 0))) := ⟨by refine bk_ ?_; refine blk_far ?_ fb.out _; refine bk_ ?_; refine blk_far ?_ fb.out _; refine bk_ ?_; refine blk_far ?_ fb.out _; refine bk_ ?_; refine blk_far ?_ fb.out _; refine bk_ ?_; refine blk_far ?_ fb.out _; refine bk_ ?_; refine blk_far ?_ fb.out _; refine bk_ ?_; refine blk_far ?_ fb.out _; refine bk_ ?_; refine blk_far ?_ fb.out _; refine bk_ ?_; refine blk_far ?_ fb.out _; refine bk_ ?_; exact da.out⟩
          have ac : Aside0 ((((((((((Wc.setCell ⟨aa, 0, none⟩ (.string Ba)).setCell ⟨aa, 1, none⟩ (.string Ca)).setCell ⟨aa, 2, none⟩ (.int .u64 Fa)).setCell ⟨aa, 3, none⟩ (.int .i64 Ga)).setCell ⟨aa, 4, none⟩ (.int .i64 Ha)).setCell ⟨aa, 5, none⟩ (.int .i64 Ja)).setCell ⟨aa, 6, none⟩ (.int .i64 Ka)).setCell ⟨aa, 7, none⟩ (.int .i64 La)).setCell ⟨aa, 8, none⟩ (.int .i64 Oa)).heap[aa]? = some (.cells #[.string Ba, .string Ca, .int .u64 Fa, .int .i64 Ga, .int .i64 Ha, .int .i64 Ja, .int .i64 Ka, .int .i64 La, .int .i64 Oa] 35 (0, 0))) := ⟨by refine bk_ ?_; refine blk_put (cs := #[.string Ba, .string Ca, .int .u64 Fa, .int .i64 Ga, .int .i64 Ha, .int .i64 Ja, .int .i64 Ka, .int .i64 La, .int .i64 0]) ?_ 8 _ rfl; refine bk_ ?_; refine blk_put (cs := #[.string Ba, .string Ca, .int .u64 Fa, .int .i64 Ga, .int .i64 Ha, .int .i64 Ja, .int .i64 Ka, .int .i64 0, .int .i64 0]) ?_ 7 _ rfl; refine bk_ ?_; refine blk_put (cs := #[.string Ba, .string Ca, .int .u64 Fa, .int .i64 Ga, .int .i64 Ha, .int .i64 Ja, .int .i64 0, .int .i64 0, .int .i64 0]) ?_ 6 _ rfl; refine bk_ ?_; refine blk_put (cs := #[.string Ba, .string Ca, .int .u64 Fa, .int .i64 Ga, .int .i64 Ha, .int .i64 0, .int .i64 0, .int .i64 0, .int .i64 0]) ?_ 5 _ rfl; refine bk_ ?_; refine blk_put (cs := #[.string Ba, .string Ca, .int .u64 Fa, .int .i64 Ga, .int .i64 0, .int .i64 0, .int .i64 0, .int .i64 0, .int .i64 0]) ?_ 4 _ rfl; refine bk_ ?_; refine blk_put (cs := #[.string Ba, .string Ca, .int .u64 Fa, .int .i64 0, .int .i64 0, .int .i64 0, .int .i64 0, .int .i64 0, .int .i64 0]) ?_ 3 _ rfl; refine bk_ ?_; refine blk_put (cs := #[.string Ba, .string Ca, .int .u64 0, .int .i64 0, .int .i64 0, .int .i64 0, .int .i64 0, .int .i64 0, .int .i64 0]) ?_ 2 _ rfl; refine bk_ ?_; refine blk_put (cs := #[.string Ba, .string (⟨#[]⟩ : ByteArray), .int .u64 0, .int .i64 0, .int .i64 0, .int .i64 0, .int .i64 0, .int .i64 0, .int .i64 0]) ?_ 1 _ rfl; refine bk_ ?_; refine blk_put (cs := #[.string (⟨#[]⟩ : ByteArray), .string (⟨#[]⟩ : ByteArray), .int .u64 0, .int .i64 0, .int .i64 0, .int .i64 0, .int .i64 0, .int .i64 0, .int .i64 0]) ?_ 0 _ rfl; refine bk_ ?_; exact fa.out⟩
          have sc : Aside0 (Below w.heap.size w (((((((((Wc.setCell ⟨aa, 0, none⟩ (.string Ba)).setCell ⟨aa, 1, none⟩ (.string Ca)).setCell ⟨aa, 2, none⟩ (.int .u64 Fa)).setCell ⟨aa, 3, none⟩ (.int .i64 Ga)).setCell ⟨aa, 4, none⟩ (.int .i64 Ha)).setCell ⟨aa, 5, none⟩ (.int .i64 Ja)).setCell ⟨aa, 6, none⟩ (.int .i64 Ka)).setCell ⟨aa, 7, none⟩ (.int .i64 La)).setCell ⟨aa, 8, none⟩ (.int .i64 Oa))) := ⟨hB_⟩
          (try clear ca)
          (try clear kb)
          (try clear ea)
          (try clear da)
          (try clear fa)
          (try clear HB)
          generalize (((((((((Wc.setCell ⟨aa, 0, none⟩ (.string Ba)).setCell ⟨aa, 1, none⟩ (.string Ca)).setCell ⟨aa, 2, none⟩ (.int .u64 Fa)).setCell ⟨aa, 3, none⟩ (.int .i64 Ga)).setCell ⟨aa, 4, none⟩ (.int .i64 Ha)).setCell ⟨aa, 5, none⟩ (.int .i64 Ja)).setCell ⟨aa, 6, none⟩ (.int .i64 Ka)).setCell ⟨aa, 7, none⟩ (.int .i64 La)).setCell ⟨aa, 8, none⟩ (.int .i64 Oa)) = zk at Ab Bb Cb Db ac sc ⊢
          have ca := Ab
          have kb := Bb
          have ea := Cb
          have da := Db
          have fa := ac
          have HB := sc
          clear Ab Bb Cb Db ac sc
          replace ca := aM_ (Kd.R_drew ca.out)
          replace kb := aM_ (Kd.R_drew kb.out)
          replace ea := aM_ (blk_drew ea.out)
          replace da := aM_ (blk_drew da.out)
          replace fa := aM_ (blk_drew fa.out)
          replace HB := aM_ (bD_ HB.out)
          refine start_ (n := 14) (S := fun w' => w'.cell? ⟨aa, 0, none⟩ = some (.string Ba) ∧ w'.cell? ⟨aa, 1, none⟩ = some (.string Ca) ∧ w'.cell? ⟨aa, 2, none⟩ = some (.int .u64 Fa) ∧ w'.cell? ⟨aa, 3, none⟩ = some (.int .i64 Ga) ∧ w'.cell? ⟨aa, 4, none⟩ = some (.int .i64 Ha) ∧ w'.cell? ⟨aa, 5, none⟩ = some (.int .i64 Ja) ∧ w'.cell? ⟨aa, 6, none⟩ = some (.int .i64 Ka) ∧ w'.cell? ⟨aa, 7, none⟩ = some (.int .i64 La) ∧ w'.cell? ⟨aa, 8, none⟩ = some (.int .i64 Oa)) (ds := []) (bo_ 14 0) (by kernel_rfl) rfl rfl ⟨bc_ fa.out 0, bc_ fa.out 1, bc_ fa.out 2, bc_ fa.out 3, bc_ fa.out 4, bc_ fa.out 5, bc_ fa.out 6, bc_ fa.out 7, bc_ fa.out 8⟩ (fun hHeld => ?_); refine with_tabW kerbsuitelaw12_DatabaseChecks.tab10 kerbsuitelaw12_DatabaseChecks.bits10 (fun HT_ HW_ => ?_)
          generalize zk.drew = en at ca kb ea da fa HB hHeld ⊢
          refine take_ (i := 0) (N := some 62) (v := ?_) (a' := ?_) (bo_ 14 1) rfl rfl (take_ofW HT_.out HW_.out (by kernel_rfl)) (fun _ _ _ h => h) (Or.inl ⟨by rfl, ?_⟩) hHeld ?_ ?_
          rotate_left; (· rintro w' ⟨s0, s1, s2, s3, s4, s5, s6, s7, s8⟩; go_simp; with_reducible rfl)
          rotate_left; (· simp only [Act.put,sA_,sB_,sC_,i64_w,i32_w]; rfl)
          refine take_ (i := 2) (N := some 64) (v := ?_) (a' := ?_) (bo_ 14 5) rfl rfl (take_ofW HT_.out HW_.out (by kernel_rfl)) (fun _ _ _ h => h) (Or.inl ⟨by rfl, ?_⟩) hHeld ?_ ?_
          rotate_left; (· rintro w' ⟨s0, s1, s2, s3, s4, s5, s6, s7, s8⟩; go_simp; with_reducible rfl)
          rotate_left; (· simp only [Act.put,sA_,sB_,sC_,i64_w,i32_w]; rfl)
          refine one_ (i := 1) (N := some 63) (bo_ 14 7) rfl rfl (one_of HT_.out (by kernel_rfl)) (by decide) (fun K hK => ?_)
          refine goes_ Tryd.func14 (by kernel_rfl) rfl #[.agg #[.string Ba, .string Ca, .int .u64 Fa, .int .i64 Ga, .int .i64 Ha, .int .i64 Ja, .int .i64 Ka, .int .i64 La, .int .i64 Oa]] (by rfl) rfl rfl aR_ ?_
          with_reducible refine (database_CheckEntry.calls ab Ba Ca Fa Ga Ha Ja Ka La Oa Eb _ Ai.out).mono ?_
          rintro e fn ⟨rfl, hb⟩
          refine ⟨_, rfl, ?_⟩
          replace ca := aM_ (Kd.R_below (bk_ ca.out) hb)
          replace kb := aM_ (Kd.R_below (bk_ kb.out) hb)
          replace ea := aM_ (blk_below (g := sa) (o := .cells #[.string ra, .slice za pa.length Aa] 24 (0, 0)) (bk_ ea.out) hb)
          replace da := aM_ (blk_below (g := ma) (o := .cells #[.string ia, .slice Da na.length Ea] 24 (0, 0)) (bk_ da.out) hb)
          replace fa := aM_ (blk_below (g := aa) (o := .cells #[.string Ba, .string Ca, .int .u64 Fa, .int .i64 Ga, .int .i64 Ha, .int .i64 Ja, .int .i64 Ka, .int .i64 La, .int .i64 Oa] 35 (0, 0)) (bk_ fa.out) hb)
          replace HB := aM_ (below_step hB_ hb)
          clear hb
          refine hK.out _ _ ⟨bc_ fa.out 0, bc_ fa.out 1, bc_ fa.out 2, bc_ fa.out 3, bc_ fa.out 4, bc_ fa.out 5, bc_ fa.out 6, bc_ fa.out 7, bc_ fa.out 8⟩ (fun hHeld => ?_)
          clear hK K
          refine nO_ 63 ?_
          refine one_ (i := 3) (N := some 65) (bo_ 14 15) rfl rfl (one_of HT_.out (by kernel_rfl)) (by decide) (fun K hK => ?_)
          refine goes_ Tryd.func15 (by kernel_rfl) rfl #[.agg #[.string Ba, .string Ca, .int .u64 Fa, .int .i64 Ga, .int .i64 Ha, .int .i64 Ja, .int .i64 Ka, .int .i64 La, .int .i64 Oa]] (by rfl) rfl rfl aR_ ?_
          with_reducible refine (kerbsuiteref12_CheckEntry.calls ab Ba Ca Fa Ga Ha Ja Ka La Oa yb _ Bi.out).mono ?_
          rintro e gn ⟨rfl, hb⟩
          refine ⟨_, rfl, ?_⟩
          replace ca := aM_ (Kd.R_below (bk_ ca.out) hb)
          replace kb := aM_ (Kd.R_below (bk_ kb.out) hb)
          replace ea := aM_ (blk_below (g := sa) (o := .cells #[.string ra, .slice za pa.length Aa] 24 (0, 0)) (bk_ ea.out) hb)
          replace da := aM_ (blk_below (g := ma) (o := .cells #[.string ia, .slice Da na.length Ea] 24 (0, 0)) (bk_ da.out) hb)
          replace fa := aM_ (blk_below (g := aa) (o := .cells #[.string Ba, .string Ca, .int .u64 Fa, .int .i64 Ga, .int .i64 Ha, .int .i64 Ja, .int .i64 Ka, .int .i64 La, .int .i64 Oa] 35 (0, 0)) (bk_ fa.out) hb)
          replace HB := aM_ (below_step hB_ hb)
          clear hb
          refine hK.out _ _ ⟨bc_ fa.out 0, bc_ fa.out 1, bc_ fa.out 2, bc_ fa.out 3, bc_ fa.out 4, bc_ fa.out 5, bc_ fa.out 6, bc_ fa.out 7, bc_ fa.out 8⟩ (fun hHeld => ?_)
          clear hK K
          refine nO_ 65 ?_
          refine pU_ 4 (some 66) (bo_ 14 31) ?_
          refine pU_ 5 (some 67) (bo_ 14 63) ?_
          refine pU_ 6 (some 68) (bo_ 14 127) ?_
          refine pU_ 7 (some 69) (bo_ 14 255) ?_
          refine pU_ 9 (some 71) (bo_ 14 767) ?_
          refine pU_ 10 (some 72) (bo_ 14 1791) ?_
          refine one_ (i := 8) (N := some 70) (bo_ 14 2047) rfl rfl (one_of HT_.out (by kernel_rfl)) (by decide) (fun K hK => ?_)
          refine goes_ Tryd.func14 (by kernel_rfl) rfl #[.agg #[.string a5, .string (⟨#[]⟩ : ByteArray), .int .u64 0, .int .i64 0, .int .i64 0, .int .i64 0, .int .i64 0, .int .i64 0, .int .i64 0]] (by rfl) rfl rfl aR_ ?_
          with_reducible refine (database_CheckEntry.calls ab a5 (⟨#[]⟩ : ByteArray) 0 0 0 0 0 0 0 Gb _ xk.out).mono ?_
          rintro e hn ⟨rfl, hb⟩
          refine ⟨_, rfl, ?_⟩
          replace ca := aM_ (Kd.R_below (bk_ ca.out) hb)
          replace kb := aM_ (Kd.R_below (bk_ kb.out) hb)
          replace ea := aM_ (blk_below (g := sa) (o := .cells #[.string ra, .slice za pa.length Aa] 24 (0, 0)) (bk_ ea.out) hb)
          replace da := aM_ (blk_below (g := ma) (o := .cells #[.string ia, .slice Da na.length Ea] 24 (0, 0)) (bk_ da.out) hb)
          replace fa := aM_ (blk_below (g := aa) (o := .cells #[.string Ba, .string Ca, .int .u64 Fa, .int .i64 Ga, .int .i64 Ha, .int .i64 Ja, .int .i64 Ka, .int .i64 La, .int .i64 Oa] 35 (0, 0)) (bk_ fa.out) hb)
          replace HB := aM_ (below_step hB_ hb)
          clear hb
          refine hK.out _ _ ⟨bc_ fa.out 0, bc_ fa.out 1, bc_ fa.out 2, bc_ fa.out 3, bc_ fa.out 4, bc_ fa.out 5, bc_ fa.out 6, bc_ fa.out 7, bc_ fa.out 8⟩ (fun hHeld => ?_)
          clear hK K
          refine nO_ 70 ?_
          refine one_ (i := 11) (N := some 73) (bo_ 14 4095) rfl rfl (one_of HT_.out (by kernel_rfl)) (by decide) (fun K hK => ?_)
          refine goes_ Tryd.func15 (by kernel_rfl) rfl #[.agg #[.string a5, .string (⟨#[]⟩ : ByteArray), .int .u64 0, .int .i64 0, .int .i64 0, .int .i64 0, .int .i64 0, .int .i64 0, .int .i64 0]] (by rfl) rfl rfl aR_ ?_
          with_reducible refine (kerbsuiteref12_CheckEntry.calls ab a5 (⟨#[]⟩ : ByteArray) 0 0 0 0 0 0 0 Fb _ yk.out).mono ?_
          rintro e jn ⟨rfl, hb⟩
          refine ⟨_, rfl, ?_⟩
          replace ca := aM_ (Kd.R_below (bk_ ca.out) hb)
          replace kb := aM_ (Kd.R_below (bk_ kb.out) hb)
          replace ea := aM_ (blk_below (g := sa) (o := .cells #[.string ra, .slice za pa.length Aa] 24 (0, 0)) (bk_ ea.out) hb)
          replace da := aM_ (blk_below (g := ma) (o := .cells #[.string ia, .slice Da na.length Ea] 24 (0, 0)) (bk_ da.out) hb)
          replace fa := aM_ (blk_below (g := aa) (o := .cells #[.string Ba, .string Ca, .int .u64 Fa, .int .i64 Ga, .int .i64 Ha, .int .i64 Ja, .int .i64 Ka, .int .i64 La, .int .i64 Oa] 35 (0, 0)) (bk_ fa.out) hb)
          replace HB := aM_ (below_step hB_ hb)
          clear hb
          refine hK.out _ _ ⟨bc_ fa.out 0, bc_ fa.out 1, bc_ fa.out 2, bc_ fa.out 3, bc_ fa.out 4, bc_ fa.out 5, bc_ fa.out 6, bc_ fa.out 7, bc_ fa.out 8⟩ (fun hHeld => ?_)
          clear hK K
          refine nO_ 73 ?_
          refine pU_ 12 (some 74) (bo_ 14 8191) ?_
          refine pU_ 13 (some 75) (bo_ 14 16383) ?_
          refine done_ (done_of HT_.out (by kernel_rfl)) ?_
          try go_wp2
          go_meet
          case rel => exact ⟨_, ((Gb != Fb)), rS_, H', ⟨by have := ve.out; have := re.out; first | omega | exact Nat.le_refl _⟩, ⟨by refine bk_ ?_; exact ca.out⟩, ⟨by refine bk_ ?_; exact ea.out⟩, ⟨by refine bk_ ?_; exact da.out⟩, ⟨by refine bk_ ?_; exact fa.out⟩, ⟨hB_⟩⟩
         rw [if_neg ze] at H
         have Gd : (Eb == yb) = false := beq_eq_false_iff_ne.mpr ze
         have Eg : (Eb != yb) = true := bne_iff_ne.mpr ze
         (first | rw [Gd] | (simp only [i64_w, i32_w]; rw [Gd]) | skip)
         have H' := aM_ H
         clear H
         try go_upto_region 10 with fail
         have Ab : Aside0 (Kd.R k35 35 (((((((((Wc.setCell ⟨aa, 0, none⟩ (.string Ba)).setCell ⟨aa, 1, none⟩ (.string Ca)).setCell ⟨aa, 2, none⟩ (.int .u64 Fa)).setCell ⟨aa, 3, none⟩ (.int .i64 Ga)).setCell ⟨aa, 4, none⟩ (.int .i64 Ha)).setCell ⟨aa, 5, none⟩ (.int .i64 Ja)).setCell ⟨aa, 6, none⟩ (.int .i64 Ka)).setCell ⟨aa, 7, none⟩ (.int .i64 La)).setCell ⟨aa, 8, none⟩ (.int .i64 Oa)) w.heap.size (fun k_ => k_ ≠ aa) (.slice Da na.length Ea) na) := ⟨by refine bk_ ?_; exact Kd.R_mono (Kd.R_far (p := ⟨aa, 8, none⟩) (Kd.R_far (p := ⟨aa, 7, none⟩) (Kd.R_far (p := ⟨aa, 6, none⟩) (Kd.R_far (p := ⟨aa, 5, none⟩) (Kd.R_far (p := ⟨aa, 4, none⟩) (Kd.R_far (p := ⟨aa, 3, none⟩) (Kd.R_far (p := ⟨aa, 2, none⟩) (Kd.R_far (p := ⟨aa, 1, none⟩) (Kd.R_far (p := ⟨aa, 0, none⟩) (Kd.R_mono ca.out (fun k_ hk => (⟨hk, hk.2⟩ : _ ∧ k_ ≠ aa))) (fun _ hk => hk.2) (.string Ba)) (fun _ hk => hk.2) (.string Ca)) (fun _ hk => hk.2) (.int .u64 Fa)) (fun _ hk => hk.2) (.int .i64 Ga)) (fun _ hk => hk.2) (.int .i64 Ha)) (fun _ hk => hk.2) (.int .i64 Ja)) (fun _ hk => hk.2) (.int .i64 Ka)) (fun _ hk => hk.2) (.int .i64 La)) (fun _ hk => hk.2) (.int .i64 Oa)) (fun _ hk => hk.1.2)⟩
         have Bb : Aside0 (Kd.R (Kd.int .i64) 3 (((((((((Wc.setCell ⟨aa, 0, none⟩ (.string Ba)).setCell ⟨aa, 1, none⟩ (.string Ca)).setCell ⟨aa, 2, none⟩ (.int .u64 Fa)).setCell ⟨aa, 3, none⟩ (.int .i64 Ga)).setCell ⟨aa, 4, none⟩ (.int .i64 Ha)).setCell ⟨aa, 5, none⟩ (.int .i64 Ja)).setCell ⟨aa, 6, none⟩ (.int .i64 Ka)).setCell ⟨aa, 7, none⟩ (.int .i64 La)).setCell ⟨aa, 8, none⟩ (.int .i64 Oa)) w.heap.size (fun _ => True) (.slice (some Ff) db.length gg) db) := ⟨by refine bk_ ?_; exact Kd.R_mono (Kd.R_far (p := ⟨aa, 8, none⟩) (Kd.R_far (p := ⟨aa, 7, none⟩) (Kd.R_far (p := ⟨aa, 6, none⟩) (Kd.R_far (p := ⟨aa, 5, none⟩) (Kd.R_far (p := ⟨aa, 4, none⟩) (Kd.R_far (p := ⟨aa, 3, none⟩) (Kd.R_far (p := ⟨aa, 2, none⟩) (Kd.R_far (p := ⟨aa, 1, none⟩) (Kd.R_far (p := ⟨aa, 0, none⟩) (Kd.R_types kb.out fa.out (by decide)) (fun _ hk => hk.2) (.string Ba)) (fun _ hk => hk.2) (.string Ca)) (fun _ hk => hk.2) (.int .u64 Fa)) (fun _ hk => hk.2) (.int .i64 Ga)) (fun _ hk => hk.2) (.int .i64 Ha)) (fun _ hk => hk.2) (.int .i64 Ja)) (fun _ hk => hk.2) (.int .i64 Ka)) (fun _ hk => hk.2) (.int .i64 La)) (fun _ hk => hk.2) (.int .i64 Oa)) (fun _ hk => trivial)⟩
         have Cb : Aside0 ((((((((((Wc.setCell ⟨aa, 0, none⟩ (.string Ba)).setCell ⟨aa, 1, none⟩ (.string Ca)).setCell ⟨aa, 2, none⟩ (.int .u64 Fa)).setCell ⟨aa, 3, none⟩ (.int .i64 Ga)).setCell ⟨aa, 4, none⟩ (.int .i64 Ha)).setCell ⟨aa, 5, none⟩ (.int .i64 Ja)).setCell ⟨aa, 6, none⟩ (.int .i64 Ka)).setCell ⟨aa, 7, none⟩ (.int .i64 La)).setCell ⟨aa, 8, none⟩ (.int .i64 Oa)).heap[sa]? = some (.cells #[.string ra, .slice za pa.length Aa] 24 (0, 0))) := ⟨by refine bk_ ?_; refine blk_far ?_ ib.out _; refine bk_ ?_; refine blk_far ?_ ib.out _; refine bk_ ?_; refine blk_far ?_ ib.out _; refine bk_ ?_; refine blk_far ?_ ib.out _; refine bk_ ?_; refine blk_far ?_ ib.out _; refine bk_ ?_; refine blk_far ?_ ib.out _; refine bk_ ?_; refine blk_far ?_ ib.out _; refine bk_ ?_; refine blk_far ?_ ib.out _; refine bk_ ?_; refine blk_far ?_ ib.out _; refine bk_ ?_; exact ea.out⟩
         have Db : Aside0 ((((((((((Wc.setCell ⟨aa, 0, none⟩ (.string Ba)).setCell ⟨aa, 1, none⟩ (.string Ca)).setCell ⟨aa, 2, none⟩ (.int .u64 Fa)).setCell ⟨aa, 3, none⟩ (.int .i64 Ga)).setCell ⟨aa, 4, none⟩ (.int .i64 Ha)).setCell ⟨aa, 5, none⟩ (.int .i64 Ja)).setCell ⟨aa, 6, none⟩ (.int .i64 Ka)).setCell ⟨aa, 7, none⟩ (.int .i64 La)).setCell ⟨aa, 8, none⟩ (.int .i64 Oa)).heap[ma]? = some (.cells #[.string ia, .slice Da na.length Ea] 24 (0, 0))) := ⟨by refine bk_ ?_; refine blk_far ?_ fb.out _; refine bk_ ?_; refine blk_far ?_ fb.out _; refine bk_ ?_; refine blk_far ?_ fb.out _; refine bk_ ?_; refine blk_far ?_ fb.out _; refine bk_ ?_; refine blk_far ?_ fb.out _; refine bk_ ?_; refine blk_far ?_ fb.out _; refine bk_ ?_; refine blk_far ?_ fb.out _; refine bk_ ?_; refine blk_far ?_ fb.out _; refine bk_ ?_; refine blk_far ?_ fb.out _; refine bk_ ?_; exact da.out⟩
         have ac : Aside0 ((((((((((Wc.setCell ⟨aa, 0, none⟩ (.string Ba)).setCell ⟨aa, 1, none⟩ (.string Ca)).setCell ⟨aa, 2, none⟩ (.int .u64 Fa)).setCell ⟨aa, 3, none⟩ (.int .i64 Ga)).setCell ⟨aa, 4, none⟩ (.int .i64 Ha)).setCell ⟨aa, 5, none⟩ (.int .i64 Ja)).setCell ⟨aa, 6, none⟩ (.int .i64 Ka)).setCell ⟨aa, 7, none⟩ (.int .i64 La)).setCell ⟨aa, 8, none⟩ (.int .i64 Oa)).heap[aa]? = some (.cells #[.string Ba, .string Ca, .int .u64 Fa, .int .i64 Ga, .int .i64 Ha, .int .i64 Ja, .int .i64 Ka, .int .i64 La, .int .i64 Oa] 35 (0, 0))) := ⟨by refine bk_ ?_; refine blk_put (cs := #[.string Ba, .string Ca, .int .u64 Fa, .int .i64 Ga, .int .i64 Ha, .int .i64 Ja, .int .i64 Ka, .int .i64 La, .int .i64 0]) ?_ 8 _ rfl; refine bk_ ?_; refine blk_put (cs := #[.string Ba, .string Ca, .int .u64 Fa, .int .i64 Ga, .int .i64 Ha, .int .i64 Ja, .int .i64 Ka, .int .i64 0, .int .i64 0]) ?_ 7 _ rfl; refine bk_ ?_; refine blk_put (cs := #[.string Ba, .string Ca, .int .u64 Fa, .int .i64 Ga, .int .i64 Ha, .int .i64 Ja, .int .i64 0, .int .i64 0, .int .i64 0]) ?_ 6 _ rfl; refine bk_ ?_; refine blk_put (cs := #[.string Ba, .string Ca, .int .u64 Fa, .int .i64 Ga, .int .i64 Ha, .int .i64 0, .int .i64 0, .int .i64 0, .int .i64 0]) ?_ 5 _ rfl; refine bk_ ?_; refine blk_put (cs := #[.string Ba, .string Ca, .int .u64 Fa, .int .i64 Ga, .int .i64 0, .int .i64 0, .int .i64 0, .int .i64 0, .int .i64 0]) ?_ 4 _ rfl; refine bk_ ?_; refine blk_put (cs := #[.string Ba, .string Ca, .int .u64 Fa, .int .i64 0, .int .i64 0, .int .i64 0, .int .i64 0, .int .i64 0, .int .i64 0]) ?_ 3 _ rfl; refine bk_ ?_; refine blk_put (cs := #[.string Ba, .string Ca, .int .u64 0, .int .i64 0, .int .i64 0, .int .i64 0, .int .i64 0, .int .i64 0, .int .i64 0]) ?_ 2 _ rfl; refine bk_ ?_; refine blk_put (cs := #[.string Ba, .string (⟨#[]⟩ : ByteArray), .int .u64 0, .int .i64 0, .int .i64 0, .int .i64 0, .int .i64 0, .int .i64 0, .int .i64 0]) ?_ 1 _ rfl; refine bk_ ?_; refine blk_put (cs := #[.string (⟨#[]⟩ : ByteArray), .string (⟨#[]⟩ : ByteArray), .int .u64 0, .int .i64 0, .int .i64 0, .int .i64 0, .int .i64 0, .int .i64 0, .int .i64 0]) ?_ 0 _ rfl; refine bk_ ?_; exact fa.out⟩
         have sc : Aside0 (Below w.heap.size w (((((((((Wc.setCell ⟨aa, 0, none⟩ (.string Ba)).setCell ⟨aa, 1, none⟩ (.string Ca)).setCell ⟨aa, 2, none⟩ (.int .u64 Fa)).setCell ⟨aa, 3, none⟩ (.int .i64 Ga)).setCell ⟨aa, 4, none⟩ (.int .i64 Ha)).setCell ⟨aa, 5, none⟩ (.int .i64 Ja)).setCell ⟨aa, 6, none⟩ (.int .i64 Ka)).setCell ⟨aa, 7, none⟩ (.int .i64 La)).setCell ⟨aa, 8, none⟩ (.int .i64 Oa))) := ⟨hB_⟩
         (try clear ca)
         (try clear kb)
         (try clear ea)
         (try clear da)
         (try clear fa)
         (try clear HB)
         generalize (((((((((Wc.setCell ⟨aa, 0, none⟩ (.string Ba)).setCell ⟨aa, 1, none⟩ (.string Ca)).setCell ⟨aa, 2, none⟩ (.int .u64 Fa)).setCell ⟨aa, 3, none⟩ (.int .i64 Ga)).setCell ⟨aa, 4, none⟩ (.int .i64 Ha)).setCell ⟨aa, 5, none⟩ (.int .i64 Ja)).setCell ⟨aa, 6, none⟩ (.int .i64 Ka)).setCell ⟨aa, 7, none⟩ (.int .i64 La)).setCell ⟨aa, 8, none⟩ (.int .i64 Oa)) = Ak at Ab Bb Cb Db ac sc ⊢
         have ca := Ab
         have kb := Bb
         have ea := Cb
         have da := Db
         have fa := ac
         have HB := sc
         clear Ab Bb Cb Db ac sc
         replace ca := aM_ (Kd.R_drew ca.out)
         replace kb := aM_ (Kd.R_drew kb.out)
         replace ea := aM_ (blk_drew ea.out)
         replace da := aM_ (blk_drew da.out)
         replace fa := aM_ (blk_drew fa.out)
         replace HB := aM_ (bD_ HB.out)
         refine start_ (n := 14) (S := fun w' => w'.cell? ⟨aa, 0, none⟩ = some (.string Ba) ∧ w'.cell? ⟨aa, 1, none⟩ = some (.string Ca) ∧ w'.cell? ⟨aa, 2, none⟩ = some (.int .u64 Fa) ∧ w'.cell? ⟨aa, 3, none⟩ = some (.int .i64 Ga) ∧ w'.cell? ⟨aa, 4, none⟩ = some (.int .i64 Ha) ∧ w'.cell? ⟨aa, 5, none⟩ = some (.int .i64 Ja) ∧ w'.cell? ⟨aa, 6, none⟩ = some (.int .i64 Ka) ∧ w'.cell? ⟨aa, 7, none⟩ = some (.int .i64 La) ∧ w'.cell? ⟨aa, 8, none⟩ = some (.int .i64 Oa)) (ds := []) (bo_ 14 0) (by kernel_rfl) rfl rfl ⟨bc_ fa.out 0, bc_ fa.out 1, bc_ fa.out 2, bc_ fa.out 3, bc_ fa.out 4, bc_ fa.out 5, bc_ fa.out 6, bc_ fa.out 7, bc_ fa.out 8⟩ (fun hHeld => ?_); refine with_tabW kerbsuitelaw12_DatabaseChecks.tab10 kerbsuitelaw12_DatabaseChecks.bits10 (fun HT_ HW_ => ?_)
         generalize Ak.drew = kn at ca kb ea da fa HB hHeld ⊢
         refine take_ (i := 0) (N := some 62) (v := ?_) (a' := ?_) (bo_ 14 1) rfl rfl (take_ofW HT_.out HW_.out (by kernel_rfl)) (fun _ _ _ h => h) (Or.inl ⟨by rfl, ?_⟩) hHeld ?_ ?_
         rotate_left; (· rintro w' ⟨s0, s1, s2, s3, s4, s5, s6, s7, s8⟩; go_simp; with_reducible rfl)
         rotate_left; (· simp only [Act.put,sA_,sB_,sC_,i64_w,i32_w]; rfl)
         refine take_ (i := 2) (N := some 64) (v := ?_) (a' := ?_) (bo_ 14 5) rfl rfl (take_ofW HT_.out HW_.out (by kernel_rfl)) (fun _ _ _ h => h) (Or.inl ⟨by rfl, ?_⟩) hHeld ?_ ?_
         rotate_left; (· rintro w' ⟨s0, s1, s2, s3, s4, s5, s6, s7, s8⟩; go_simp; with_reducible rfl)
         rotate_left; (· simp only [Act.put,sA_,sB_,sC_,i64_w,i32_w]; rfl)
         refine one_ (i := 1) (N := some 63) (bo_ 14 7) rfl rfl (one_of HT_.out (by kernel_rfl)) (by decide) (fun K hK => ?_)
         refine goes_ Tryd.func14 (by kernel_rfl) rfl #[.agg #[.string Ba, .string Ca, .int .u64 Fa, .int .i64 Ga, .int .i64 Ha, .int .i64 Ja, .int .i64 Ka, .int .i64 La, .int .i64 Oa]] (by rfl) rfl rfl aR_ ?_
         with_reducible refine (database_CheckEntry.calls ab Ba Ca Fa Ga Ha Ja Ka La Oa Eb _ Ai.out).mono ?_
         rintro e ln ⟨rfl, hb⟩
         refine ⟨_, rfl, ?_⟩
         replace ca := aM_ (Kd.R_below (bk_ ca.out) hb)
         replace kb := aM_ (Kd.R_below (bk_ kb.out) hb)
         replace ea := aM_ (blk_below (g := sa) (o := .cells #[.string ra, .slice za pa.length Aa] 24 (0, 0)) (bk_ ea.out) hb)
         replace da := aM_ (blk_below (g := ma) (o := .cells #[.string ia, .slice Da na.length Ea] 24 (0, 0)) (bk_ da.out) hb)
         replace fa := aM_ (blk_below (g := aa) (o := .cells #[.string Ba, .string Ca, .int .u64 Fa, .int .i64 Ga, .int .i64 Ha, .int .i64 Ja, .int .i64 Ka, .int .i64 La, .int .i64 Oa] 35 (0, 0)) (bk_ fa.out) hb)
         replace HB := aM_ (below_step hB_ hb)
         clear hb
         refine hK.out _ _ ⟨bc_ fa.out 0, bc_ fa.out 1, bc_ fa.out 2, bc_ fa.out 3, bc_ fa.out 4, bc_ fa.out 5, bc_ fa.out 6, bc_ fa.out 7, bc_ fa.out 8⟩ (fun hHeld => ?_)
         clear hK K
         refine nO_ 63 ?_
         refine one_ (i := 3) (N := some 65) (bo_ 14 15) rfl rfl (one_of HT_.out (by kernel_rfl)) (by decide) (fun K hK => ?_)
         refine goes_ Tryd.func15 (by kernel_rfl) rfl #[.agg #[.string Ba, .string Ca, .int .u64 Fa, .int .i64 Ga, .int .i64 Ha, .int .i64 Ja, .int .i64 Ka, .int .i64 La, .int .i64 Oa]] (by rfl) rfl rfl aR_ ?_
         with_reducible refine (kerbsuiteref12_CheckEntry.calls ab Ba Ca Fa Ga Ha Ja Ka La Oa yb _ Bi.out).mono ?_
         rintro e mn ⟨rfl, hb⟩
         refine ⟨_, rfl, ?_⟩
         replace ca := aM_ (Kd.R_below (bk_ ca.out) hb)
         replace kb := aM_ (Kd.R_below (bk_ kb.out) hb)
         replace ea := aM_ (blk_below (g := sa) (o := .cells #[.string ra, .slice za pa.length Aa] 24 (0, 0)) (bk_ ea.out) hb)
         replace da := aM_ (blk_below (g := ma) (o := .cells #[.string ia, .slice Da na.length Ea] 24 (0, 0)) (bk_ da.out) hb)
         replace fa := aM_ (blk_below (g := aa) (o := .cells #[.string Ba, .string Ca, .int .u64 Fa, .int .i64 Ga, .int .i64 Ha, .int .i64 Ja, .int .i64 Ka, .int .i64 La, .int .i64 Oa] 35 (0, 0)) (bk_ fa.out) hb)
         replace HB := aM_ (below_step hB_ hb)
         clear hb
         refine hK.out _ _ ⟨bc_ fa.out 0, bc_ fa.out 1, bc_ fa.out 2, bc_ fa.out 3, bc_ fa.out 4, bc_ fa.out 5, bc_ fa.out 6, bc_ fa.out 7, bc_ fa.out 8⟩ (fun hHeld => ?_)
         clear hK K
         refine nO_ 65 ?_
         refine pU_ 4 (some 66) (bo_ 14 31) ?_
         refine pU_ 5 (some 67) (bo_ 14 63) ?_
         refine pV_ 6 (some 68) (bo_ 14 127) ?_
         refine pV_ 7 (some 69) (bo_ 14 255) ?_
         refine pV_ 8 (some 70) (bo_ 14 511) ?_
         refine pV_ 9 (some 71) (bo_ 14 1023) ?_
         refine pV_ 10 (some 72) (bo_ 14 2047) ?_
         refine pV_ 11 (some 73) (bo_ 14 4095) ?_
         refine pV_ 12 (some 74) (bo_ 14 8191) ?_
         refine pU_ 13 (some 75) (bo_ 14 16383) ?_
         refine done_ (done_of HT_.out (by kernel_rfl)) ?_
         try go_wp2
         go_meet
         case rel => exact ⟨_, (true), rS_, H', ⟨by have := ve.out; have := re.out; first | omega | exact Nat.le_refl _⟩, ⟨by refine bk_ ?_; exact ca.out⟩, ⟨by refine bk_ ?_; exact ea.out⟩, ⟨by refine bk_ ?_; exact da.out⟩, ⟨by refine bk_ ?_; exact fa.out⟩, ⟨hB_⟩⟩
        case rest =>
         clear fg
         try clear c1
         try clear c2
         try clear p2
         try clear c3
         try clear p3
         try clear q3
         try clear Ci
         try clear c4
         try clear c5
         try clear p6
         try clear c7
         try clear c8
         try clear c9
         try clear Bh
         try clear zi
         try clear Di
         try clear Le
         try clear nn
         try clear on
         try clear Td
         try clear Vc
         try clear Ie
         try clear sf
         try clear tk
         try clear Vd
         try clear md
         try clear Cf
         try clear pn
         try clear qn
         try clear gm
         try clear Kf
         try clear Lf
         try clear oi
         try clear Mf
         try clear pi
         try clear rn
         try clear sn
         try clear ze
         try clear Gd
         try clear Eg
         try clear tn
         try clear fe
         try clear ge
         try clear je
         try clear ke
         try clear ne
         try clear oe
         try clear tf
         try clear uf
         try clear ch
         try clear dh
         try clear eh
         try clear fh
         try clear gh
         try clear hh
         try clear ih
         try clear jh
         try clear kh
         try clear he
         try clear ie
         try clear le
         try clear me
         try clear pe
         try clear qe
         try clear vf
         try clear xf
         try clear lh
         try clear mh
         try clear nh
         try clear oh
         try clear ph
         try clear qh
         try clear rh
         try clear sh
         try clear th
         try clear bh
         try clear p2
         try clear Df
         try clear p6
         try clear Ef
         obtain ⟨kq, Wd, rfl, HA, Gf, ca, ea, da, fa, HB⟩ := hcut
         cases kq with
         | zero => exact absurd HA.out (by simp [kerbsuitelaw12_DatabaseChecks.j2])
         | succ Pc =>
          have H := HA.out
          clear HA
          simp only [kerbsuitelaw12_DatabaseChecks.j2] at H
          by_cases Fg : Wd = true
          ·subst Fg
           have H1 : (some false) = some r := by rw [if_pos rfl] at H; exact H
           clear H
           have H := H1
           clear H1
           obtain rfl := Option.some.inj H
           go_wp2
           go_ret
           exact ⟨by first | rfl | (simp [errW_none, errW_some] <;> rfl) | (simp only [← hji42]; first | rfl | (simp [errW_none, errW_some] <;> rfl)) | (simp [*, errW_none, errW_some] <;> rfl), hB_⟩
          replace Fg := Bool.eq_false_iff.mpr Fg
          subst Fg
          have H1 : ((some (([] : List (S35)) : List (S35))).bind fun uc => (if uc.length + na.length < 1599289640401 then ((some (uc ++ na : List (S35))).bind fun ha => (if (ha.length : Int) > 0 then (if (ha.length : Int) = 0 then (none) else (if 0 ≤ (Int.tmod (wrap64 (a2)) (ha.length : Int)) then (if (Int.tmod (wrap64 (a2)) (ha.length : Int)) < (ha.length : Int) then ((kerbsuitelaw12_changed.f ((rd_T35 ha (Int.tmod (wrap64 (a2)) (ha.length : Int))).f0) ((rd_T35 ha (Int.tmod (wrap64 (a2)) (ha.length : Int))).f1) ((rd_T35 ha (Int.tmod (wrap64 (a2)) (ha.length : Int))).f2) ((rd_T35 ha (Int.tmod (wrap64 (a2)) (ha.length : Int))).f3) ((rd_T35 ha (Int.tmod (wrap64 (a2)) (ha.length : Int))).f4) ((rd_T35 ha (Int.tmod (wrap64 (a2)) (ha.length : Int))).f5) ((rd_T35 ha (Int.tmod (wrap64 (a2)) (ha.length : Int))).f6) ((rd_T35 ha (Int.tmod (wrap64 (a2)) (ha.length : Int))).f7) ((rd_T35 ha (Int.tmod (wrap64 (a2)) (ha.length : Int))).f8) a3 (rd db (qb)) a5).bind fun Qa => ((some (ha.set ((Int.tmod (wrap64 (a2)) (ha.length : Int)) : Int).toNat (⟨Qa.1, Qa.2.1, Qa.2.2.1, Qa.2.2.2.1, Qa.2.2.2.2.1, Qa.2.2.2.2.2.1, Qa.2.2.2.2.2.2.1, Qa.2.2.2.2.2.2.2.1, Qa.2.2.2.2.2.2.2.2⟩ : S35) : List (S35))).bind fun ga => (if 0 < (ha.length : Int) then (kerbsuitelaw12_DatabaseChecks.j3 Pc a3 a5 ia na ia ((ga.set (0 : Int).toNat (⟨(rd_T35 ga (Int.tmod (wrap64 (a2)) (ha.length : Int))).f0, (rd_T35 ga (Int.tmod (wrap64 (a2)) (ha.length : Int))).f1, (rd_T35 ga (Int.tmod (wrap64 (a2)) (ha.length : Int))).f2, (rd_T35 ga (Int.tmod (wrap64 (a2)) (ha.length : Int))).f3, (rd_T35 ga (Int.tmod (wrap64 (a2)) (ha.length : Int))).f4, (rd_T35 ga (Int.tmod (wrap64 (a2)) (ha.length : Int))).f5, (rd_T35 ga (Int.tmod (wrap64 (a2)) (ha.length : Int))).f6, (rd_T35 ga (Int.tmod (wrap64 (a2)) (ha.length : Int))).f7, (rd_T35 ga (Int.tmod (wrap64 (a2)) (ha.length : Int))).f8⟩ : S35)).set ((Int.tmod (wrap64 (a2)) (ha.length : Int)) : Int).toNat (⟨(rd_T35 ga 0).f0, (rd_T35 ga 0).f1, (rd_T35 ga 0).f2, (rd_T35 ga 0).f3, (rd_T35 ga 0).f4, (rd_T35 ga 0).f5, (rd_T35 ga 0).f6, (rd_T35 ga 0).f7, (rd_T35 ga 0).f8⟩ : S35))) else (none)))) else (none)) else (none))) else (kerbsuitelaw12_DatabaseChecks.j3 Pc a3 a5 ia na ia ha))) else (none))) = some r := by rw [if_neg (show ¬ (false = true) by decide)] at H; exact H
          clear H
          have H := H1
          clear H1
          obtain ⟨uc, hy334⟩ : ∃ y_ : List (S35), y_ = (([] : List (S35))) := ⟨_, rfl⟩
          replace H : (if uc.length + na.length < 1599289640401 then ((some (uc ++ na : List (S35))).bind fun ha => (if (ha.length : Int) > 0 then (if (ha.length : Int) = 0 then (none) else (if 0 ≤ (Int.tmod (wrap64 (a2)) (ha.length : Int)) then (if (Int.tmod (wrap64 (a2)) (ha.length : Int)) < (ha.length : Int) then ((kerbsuitelaw12_changed.f ((rd_T35 ha (Int.tmod (wrap64 (a2)) (ha.length : Int))).f0) ((rd_T35 ha (Int.tmod (wrap64 (a2)) (ha.length : Int))).f1) ((rd_T35 ha (Int.tmod (wrap64 (a2)) (ha.length : Int))).f2) ((rd_T35 ha (Int.tmod (wrap64 (a2)) (ha.length : Int))).f3) ((rd_T35 ha (Int.tmod (wrap64 (a2)) (ha.length : Int))).f4) ((rd_T35 ha (Int.tmod (wrap64 (a2)) (ha.length : Int))).f5) ((rd_T35 ha (Int.tmod (wrap64 (a2)) (ha.length : Int))).f6) ((rd_T35 ha (Int.tmod (wrap64 (a2)) (ha.length : Int))).f7) ((rd_T35 ha (Int.tmod (wrap64 (a2)) (ha.length : Int))).f8) a3 (rd db (qb)) a5).bind fun Qa => ((some (ha.set ((Int.tmod (wrap64 (a2)) (ha.length : Int)) : Int).toNat (⟨Qa.1, Qa.2.1, Qa.2.2.1, Qa.2.2.2.1, Qa.2.2.2.2.1, Qa.2.2.2.2.2.1, Qa.2.2.2.2.2.2.1, Qa.2.2.2.2.2.2.2.1, Qa.2.2.2.2.2.2.2.2⟩ : S35) : List (S35))).bind fun ga => (if 0 < (ha.length : Int) then (kerbsuitelaw12_DatabaseChecks.j3 Pc a3 a5 ia na ia ((ga.set (0 : Int).toNat (⟨(rd_T35 ga (Int.tmod (wrap64 (a2)) (ha.length : Int))).f0, (rd_T35 ga (Int.tmod (wrap64 (a2)) (ha.length : Int))).f1, (rd_T35 ga (Int.tmod (wrap64 (a2)) (ha.length : Int))).f2, (rd_T35 ga (Int.tmod (wrap64 (a2)) (ha.length : Int))).f3, (rd_T35 ga (Int.tmod (wrap64 (a2)) (ha.length : Int))).f4, (rd_T35 ga (Int.tmod (wrap64 (a2)) (ha.length : Int))).f5, (rd_T35 ga (Int.tmod (wrap64 (a2)) (ha.length : Int))).f6, (rd_T35 ga (Int.tmod (wrap64 (a2)) (ha.length : Int))).f7, (rd_T35 ga (Int.tmod (wrap64 (a2)) (ha.length : Int))).f8⟩ : S35)).set ((Int.tmod (wrap64 (a2)) (ha.length : Int)) : Int).toNat (⟨(rd_T35 ga 0).f0, (rd_T35 ga 0).f1, (rd_T35 ga 0).f2, (rd_T35 ga 0).f3, (rd_T35 ga 0).f4, (rd_T35 ga 0).f5, (rd_T35 ga 0).f6, (rd_T35 ga 0).f7, (rd_T35 ga 0).f8⟩ : S35))) else (none)))) else (none)) else (none))) else (kerbsuitelaw12_DatabaseChecks.j3 Pc a3 a5 ia na ia ha))) else (none)) = some r := by first | (rw [hy334]; with_reducible exact H) | (have H2_ := (Option.bind_some _ _).symm.trans H; rw [hy334]; with_reducible exact H2_) | (have H2_ := (Option.bind_some _ _).symm.trans H; with_reducible exact H2_) | with_reducible exact H | (rw [hy334]; exact H) | exact H
          have Ny334 := aM_ hy334
          clear hy334
          by_cases Gg : uc.length + na.length < 1599289640401
          ·rw [if_pos Gg] at H
           have Hf := aM_ Gg
           clear Gg
           obtain ⟨ha, hy337⟩ : ∃ y_ : List (S35), y_ = (uc ++ na) := ⟨_, rfl⟩
           replace H : (if (ha.length : Int) > 0 then (if (ha.length : Int) = 0 then (none) else (if 0 ≤ (Int.tmod (wrap64 (a2)) (ha.length : Int)) then (if (Int.tmod (wrap64 (a2)) (ha.length : Int)) < (ha.length : Int) then ((kerbsuitelaw12_changed.f ((rd_T35 ha (Int.tmod (wrap64 (a2)) (ha.length : Int))).f0) ((rd_T35 ha (Int.tmod (wrap64 (a2)) (ha.length : Int))).f1) ((rd_T35 ha (Int.tmod (wrap64 (a2)) (ha.length : Int))).f2) ((rd_T35 ha (Int.tmod (wrap64 (a2)) (ha.length : Int))).f3) ((rd_T35 ha (Int.tmod (wrap64 (a2)) (ha.length : Int))).f4) ((rd_T35 ha (Int.tmod (wrap64 (a2)) (ha.length : Int))).f5) ((rd_T35 ha (Int.tmod (wrap64 (a2)) (ha.length : Int))).f6) ((rd_T35 ha (Int.tmod (wrap64 (a2)) (ha.length : Int))).f7) ((rd_T35 ha (Int.tmod (wrap64 (a2)) (ha.length : Int))).f8) a3 (rd db (qb)) a5).bind fun Qa => ((some (ha.set ((Int.tmod (wrap64 (a2)) (ha.length : Int)) : Int).toNat (⟨Qa.1, Qa.2.1, Qa.2.2.1, Qa.2.2.2.1, Qa.2.2.2.2.1, Qa.2.2.2.2.2.1, Qa.2.2.2.2.2.2.1, Qa.2.2.2.2.2.2.2.1, Qa.2.2.2.2.2.2.2.2⟩ : S35) : List (S35))).bind fun ga => (if 0 < (ha.length : Int) then (kerbsuitelaw12_DatabaseChecks.j3 Pc a3 a5 ia na ia ((ga.set (0 : Int).toNat (⟨(rd_T35 ga (Int.tmod (wrap64 (a2)) (ha.length : Int))).f0, (rd_T35 ga (Int.tmod (wrap64 (a2)) (ha.length : Int))).f1, (rd_T35 ga (Int.tmod (wrap64 (a2)) (ha.length : Int))).f2, (rd_T35 ga (Int.tmod (wrap64 (a2)) (ha.length : Int))).f3, (rd_T35 ga (Int.tmod (wrap64 (a2)) (ha.length : Int))).f4, (rd_T35 ga (Int.tmod (wrap64 (a2)) (ha.length : Int))).f5, (rd_T35 ga (Int.tmod (wrap64 (a2)) (ha.length : Int))).f6, (rd_T35 ga (Int.tmod (wrap64 (a2)) (ha.length : Int))).f7, (rd_T35 ga (Int.tmod (wrap64 (a2)) (ha.length : Int))).f8⟩ : S35)).set ((Int.tmod (wrap64 (a2)) (ha.length : Int)) : Int).toNat (⟨(rd_T35 ga 0).f0, (rd_T35 ga 0).f1, (rd_T35 ga 0).f2, (rd_T35 ga 0).f3, (rd_T35 ga 0).f4, (rd_T35 ga 0).f5, (rd_T35 ga 0).f6, (rd_T35 ga 0).f7, (rd_T35 ga 0).f8⟩ : S35))) else (none)))) else (none)) else (none))) else (kerbsuitelaw12_DatabaseChecks.j3 Pc a3 a5 ia na ia ha)) = some r := by first | (rw [hy337]; with_reducible exact H) | (have H2_ := (Option.bind_some _ _).symm.trans H; rw [hy337]; with_reducible exact H2_) | (have H2_ := (Option.bind_some _ _).symm.trans H; with_reducible exact H2_) | with_reducible exact H | (rw [hy337]; exact H) | exact H
           have Ny337 := aM_ hy337
           clear hy337
           have ig := aM_ H
           clear H
           try go_upto_region 12 with fail
           replace ca := aM_ (Kd.R_drew ca.out)
           replace ea := aM_ (blk_drew ea.out)
           replace da := aM_ (blk_drew da.out)
           replace fa := aM_ (blk_drew fa.out)
           replace HB := aM_ (bD_ HB.out)
           refine start_ (n := 9) (S := fun w' => w'.cell? ⟨ma, 0, none⟩ = some (.string ia) ∧ w'.cell? ⟨ma, 1, none⟩ = some (.slice Da na.length Ea)) (ds := []) (bo_ 9 0) (by kernel_rfl) rfl rfl ⟨bc_ da.out 0, bc_ da.out 1⟩ (fun hHeld => ?_); refine with_tabW kerbsuitelaw12_DatabaseChecks.tab12 kerbsuitelaw12_DatabaseChecks.bits12 (fun HT_ HW_ => ?_)
           generalize wc.drew = un at ca ea da fa HB hHeld ⊢
           refine pU_ 0 (some 76) (bo_ 9 1) ?_
           refine pU_ 3 (some 79) (bo_ 9 9) ?_
           refine take_ (i := 1) (N := some 77) (v := ?_) (a' := ?_) (bo_ 9 11) rfl rfl (take_ofW HT_.out HW_.out (by kernel_rfl)) (fun _ _ _ h => h) (Or.inl ⟨by rfl, ?_⟩) hHeld ?_ ?_
           rotate_left; (· rintro w' ⟨s0, s1⟩; go_simp; with_reducible rfl)
           rotate_left; (· simp only [Act.put,sA_,sB_,sC_,i64_w,i32_w]; rfl)
           refine take_ (i := 4) (N := some 80) (v := ?_) (a' := ?_) (bo_ 9 27) rfl rfl (take_ofW HT_.out HW_.out (by kernel_rfl)) (fun _ _ _ h => h) (Or.inl ⟨by rfl, ?_⟩) hHeld ?_ ?_
           rotate_left; (· rintro w' ⟨s0, s1⟩; go_simp; with_reducible rfl)
           rotate_left; (· simp only [Act.put,sA_,sB_,sC_,i64_w,i32_w]; rfl)
           refine join_ (σ := Value × Value × Nat) 1 (bo_ 9 255) (fun s_ => [(78, s_.1), (81, s_.2.1), (16, .pointer (some ⟨s_.2.2, 0, none⟩)), (82, .agg #[.string ia, s_.2.1])]) (fun s_ w' => (w'.cell? ⟨ma, 0, none⟩ = some (.string ia) ∧ w'.cell? ⟨ma, 1, none⟩ = some (.slice Da na.length Ea)) ∧ (Kd.R k35 35 w' w.heap.size (fun k_ => some k_ ≠ (.slice Da na.length Ea : Value).ownBlock ∧ k_ ≠ aa) s_.2.1 ha) ∧ (Kd.R k35 35 w' w.heap.size (fun k_ => some k_ ≠ (s_.2.1 : Value).ownBlock ∧ k_ ≠ aa) (.slice Da na.length Ea) na) ∧ (w'.heap[sa]? = some (.cells #[.string ra, .slice za pa.length Aa] 24 (0, 0))) ∧ (w'.heap[ma]? = some (.cells #[.string ia, .slice Da na.length Ea] 24 (0, 0))) ∧ (w'.heap[aa]? = some (.cells #[.string Ba, .string Ca, .int .u64 Fa, .int .i64 Ga, .int .i64 Ha, .int .i64 Ja, .int .i64 Ka, .int .i64 La, .int .i64 Oa] 35 (0, 0))) ∧ (w'.heap[s_.2.2]? = some (.cells #[.string (⟨#[]⟩ : ByteArray), .slice none 0 0] 24 (0, 0))) ∧ (w.heap.size ≤ s_.2.2) ∧ (w.heap.size ≤ s_.2.2) ∧ (sa ≠ s_.2.2) ∧ (s_.2.2 ≠ sa) ∧ (ma ≠ s_.2.2) ∧ (s_.2.2 ≠ ma) ∧ (aa ≠ s_.2.2) ∧ (s_.2.2 ≠ aa) ∧ (Below w.heap.size w w')) ?_ ?_
           rotate_left
           ·intro hCont
            refine two_ (i := 2) (j := 7) (Ni := some 78) (Nj := some 16) (bo_ 9 31) (bo_ 9 155) rfl rfl rfl rfl (two_of HT_.out (by kernel_rfl)) (by decide) (by decide) (fun K hK => ?_) (fun K hK => ?_)
            ·skip
             refine Kd.R_lit_step k35 _ 35 ?hg (N := 78) ?hd (xs := ([] : List (S35))) (inner := []) (ok := fun _ => True) (okp := fun _ => True) ?hr ?hp (fun _ hk => hk) trivial (Below.refl _ _) (Nat.le_refl _) (by simp) ?_; (case hd => rfl); (case hg => rfl); (case hr => first | (go_simp; done) | (go_simp; rfl)); (case hp => exact (Reps.none _ _))
             intro ud Bk se hb hg_ hnew_
             clear hg_ hnew_
             (first | rw [← Ny334.out] at se | (simp only [Int.reduceToNat] at se; rw [← Ny334.out] at se))
             have sb := aM_ (Kd.R_lower (Kd.R_newB (Kd.R_new' se (Kd.R_lt (bk_ ca.out))) (g := aa) (o := .cells #[.string Ba, .string Ca, .int .u64 Fa, .int .i64 Ga, .int .i64 Ha, .int .i64 Ja, .int .i64 Ka, .int .i64 La, .int .i64 Oa] 35 (0, 0)) (bk_ fa.out)) (below_size hB_))
             replace ca := aM_ (Kd.R_elder' (bk_ ca.out) (Kd.R_base se) hb)
             replace ea := aM_ (blk_below (g := sa) (o := .cells #[.string ra, .slice za pa.length Aa] 24 (0, 0)) (bk_ ea.out) hb)
             replace da := aM_ (blk_below (g := ma) (o := .cells #[.string ia, .slice Da na.length Ea] 24 (0, 0)) (bk_ da.out) hb)
             replace fa := aM_ (blk_below (g := aa) (o := .cells #[.string Ba, .string Ca, .int .u64 Fa, .int .i64 Ga, .int .i64 Ha, .int .i64 Ja, .int .i64 Ka, .int .i64 La, .int .i64 Oa] 35 (0, 0)) (bk_ fa.out) hb)
             replace HB := aM_ (below_step hB_ hb)
             clear hb se
             refine hK.out _ _ ⟨bc_ da.out 0, bc_ da.out 1⟩ (fun hHeld => ?_)
             clear hK K
             refine nO_ 78 ?_
             refine two_ (i := 5) (j := 7) (Ni := some 81) (Nj := some 16) (bo_ 9 63) (bo_ 9 159) rfl rfl rfl rfl (two_of HT_.out (by kernel_rfl)) (by decide) (by decide) (fun K hK => ?_) (fun K hK => ?_)
             ·skip
              refine Kd.R_append_rows_step k35 (w0 := w) w.heap.size (by rfl) (.tmp 78) (.tmp 80) 22 35 (.agg #[(.string ⟨#[]⟩), (.string ⟨#[]⟩), (.int .u64 0), (.int .i64 0), (.int .i64 0), (.int .i64 0), (.int .i64 0), (.int .i64 0), (.int .i64 0)]) 88 rfl Tryd.underlying22 info35 rfl (by decide) (by omega) ud uc na _ _ _ (fun k_ => some k_ ≠ (.slice Da na.length Ea : Value).ownBlock ∧ k_ ≠ aa) (fun _ => False) rfl rfl ?aO ?aR (fun _ _ h => h) (fun _ h => h.elim) ?aF ?aB ?aS ?aL ?_
              (case aR => repeat (first | exact (Kd.R_reads' ca.out).2.2 | (with_reducible refine Kd.C_alloc ?_ _) | (with_reducible refine Kd.C_drewN ?_ _) | (with_reducible refine Kd.C_drew ?_)))
              (case aB => exact hB_)
              (case aF => exact (fun k_ hk => ⟨Kd.fresh' (Kd.R_lt (bk_ ca.out)) k_ hk, Kd.freshB (g := aa) (o := .cells #[.string Ba, .string Ca, .int .u64 Fa, .int .i64 Ga, .int .i64 Ha, .int .i64 Ja, .int .i64 Ka, .int .i64 La, .int .i64 Oa] 35 (0, 0)) (bk_ fa.out) k_ hk⟩))
              (case aO => exact (by refine bk_ ?_; exact Kd.R_mono sb.out (fun _ hk => ⟨hk.1.2, hk.2⟩)))
              (case aS => exact (below_size hB_))
              (case aL => have := Hf.out; omega)
              intro Qe Ck ho hb hg hat
              rw [← Ny337.out] at ho
              replace ca := aM_ (Kd.R_after (ok := (fun k_ => k_ ≠ aa)) (bk_ ca.out) hg hat)
              replace ea := aM_ (blk_grown (g := sa) (o := .cells #[.string ra, .slice za pa.length Aa] 24 (0, 0)) (bk_ ea.out) hg (Kd.R_ne sb.out ea.out (by decide)))
              replace da := aM_ (blk_grown (g := ma) (o := .cells #[.string ia, .slice Da na.length Ea] 24 (0, 0)) (bk_ da.out) hg (Kd.R_ne sb.out da.out (by decide)))
              replace fa := aM_ (blk_grown (g := aa) (o := .cells #[.string Ba, .string Ca, .int .u64 Fa, .int .i64 Ga, .int .i64 Ha, .int .i64 Ja, .int .i64 Ka, .int .i64 La, .int .i64 Oa] 35 (0, 0)) (bk_ fa.out) hg (Kd.R_away sb.out (fun _ hk => hk.2)))
              replace HB := aM_ (hb)
              have ka := aM_ (ho)
              clear sb
              clear ho hb hg hat
              obtain ⟨bj, cj, Ih⟩ := Kd.R_slice ka.out
              (first | subst Ih | (injection Ih with f1_ f2_ f3_; have f4_ := f1_.symm; have f5_ := f3_.symm; clear f1_ f2_ f3_; subst f4_; subst f5_))
              refine hK.out _ _ ⟨bc_ da.out 0, bc_ da.out 1⟩ (fun hHeld => ?_)
              clear hK K
              refine nO_ 81 ?_
              refine pU_ 6 (some 82) (bo_ 9 127) ?_
              refine one_ (i := 7) (N := some 16) (bo_ 9 255) rfl rfl (one_of HT_.out (by kernel_rfl)) (by decide) (fun K hK => ?_)
              refine box_step ?hg (N := 16) ?hd (cs := #[.string (⟨#[]⟩ : ByteArray), .slice none 0 0]) (t := 24) ?hr ?_; (case hd => rfl); (case hg => rfl); (case hr => first | (go_simp; done) | (go_simp; rfl))
              intro oa hg vn hbox hb
              replace ca := aM_ (Kd.R_below (bk_ ca.out) hb)
              replace ka := aM_ (Kd.R_below (bk_ ka.out) hb)
              have ja := aM_ (hbox)
              have Hd := aM_ ((by rw [hg]; exact (below_size hB_) : w.heap.size ≤ oa))
              have Id := aM_ ((by rw [hg]; exact (below_size hB_) : w.heap.size ≤ oa))
              replace HB := aM_ (below_step hB_ hb)
              have ob := aM_ ((by rw [hg]; exact Nat.ne_of_lt (blk_lt (g := sa) (o := .cells #[.string ra, .slice za pa.length Aa] 24 (0, 0)) (bk_ ea.out)) : sa ≠ oa))
              have wb := aM_ ((by rw [hg]; exact Nat.ne_of_gt (blk_lt (g := sa) (o := .cells #[.string ra, .slice za pa.length Aa] 24 (0, 0)) (bk_ ea.out)) : oa ≠ sa))
              replace ea := aM_ (blk_below (g := sa) (o := .cells #[.string ra, .slice za pa.length Aa] 24 (0, 0)) (bk_ ea.out) hb)
              have jb := aM_ ((by rw [hg]; exact Nat.ne_of_lt (blk_lt (g := ma) (o := .cells #[.string ia, .slice Da na.length Ea] 24 (0, 0)) (bk_ da.out)) : ma ≠ oa))
              have rb := aM_ ((by rw [hg]; exact Nat.ne_of_gt (blk_lt (g := ma) (o := .cells #[.string ia, .slice Da na.length Ea] 24 (0, 0)) (bk_ da.out)) : oa ≠ ma))
              replace da := aM_ (blk_below (g := ma) (o := .cells #[.string ia, .slice Da na.length Ea] 24 (0, 0)) (bk_ da.out) hb)
              have pb := aM_ ((by rw [hg]; exact Nat.ne_of_lt (blk_lt (g := aa) (o := .cells #[.string Ba, .string Ca, .int .u64 Fa, .int .i64 Ga, .int .i64 Ha, .int .i64 Ja, .int .i64 Ka, .int .i64 La, .int .i64 Oa] 35 (0, 0)) (bk_ fa.out)) : aa ≠ oa))
              have xb := aM_ ((by rw [hg]; exact Nat.ne_of_gt (blk_lt (g := aa) (o := .cells #[.string Ba, .string Ca, .int .u64 Fa, .int .i64 Ga, .int .i64 Ha, .int .i64 Ja, .int .i64 Ka, .int .i64 La, .int .i64 Oa] 35 (0, 0)) (bk_ fa.out)) : oa ≠ aa))
              replace fa := aM_ (blk_below (g := aa) (o := .cells #[.string Ba, .string Ca, .int .u64 Fa, .int .i64 Ga, .int .i64 Ha, .int .i64 Ja, .int .i64 Ka, .int .i64 La, .int .i64 Oa] 35 (0, 0)) (bk_ fa.out) hb)
              clear hb hbox hg
              refine hK.out _ _ ⟨bc_ da.out 0, bc_ da.out 1⟩ (fun hHeld => ?_)
              clear hK K
              refine nO_ 16 ?_
              exact norm_ (by simp only [putAll, Act.put, sA_, sB_, sC_]) (hCont (ud, .slice bj ha.length cj, oa) _ ⟨hHeld, (bk_ ka.out), (by refine bk_ ?_; exact Kd.R_mono ca.out (fun _ hk => ⟨hk.2, hk.1⟩)), (bk_ ea.out), (bk_ da.out), (bk_ fa.out), (bk_ ja.out), Hd.out, Id.out, ob.out, wb.out, jb.out, rb.out, pb.out, xb.out, hB_⟩)
             skip
             refine box_step ?hg (N := 16) ?hd (cs := #[.string (⟨#[]⟩ : ByteArray), .slice none 0 0]) (t := 24) ?hr ?_; (case hd => rfl); (case hg => rfl); (case hr => first | (go_simp; done) | (go_simp; rfl))
             intro oa hg Ck hbox hb
             replace ca := aM_ (Kd.R_below (bk_ ca.out) hb)
             replace sb := aM_ (Kd.R_below (bk_ sb.out) hb)
             have ja := aM_ (hbox)
             have Hd := aM_ ((by rw [hg]; exact (below_size hB_) : w.heap.size ≤ oa))
             have Id := aM_ ((by rw [hg]; exact (below_size hB_) : w.heap.size ≤ oa))
             replace HB := aM_ (below_step hB_ hb)
             have ob := aM_ ((by rw [hg]; exact Nat.ne_of_lt (blk_lt (g := sa) (o := .cells #[.string ra, .slice za pa.length Aa] 24 (0, 0)) (bk_ ea.out)) : sa ≠ oa))
             have wb := aM_ ((by rw [hg]; exact Nat.ne_of_gt (blk_lt (g := sa) (o := .cells #[.string ra, .slice za pa.length Aa] 24 (0, 0)) (bk_ ea.out)) : oa ≠ sa))
             replace ea := aM_ (blk_below (g := sa) (o := .cells #[.string ra, .slice za pa.length Aa] 24 (0, 0)) (bk_ ea.out) hb)
             have jb := aM_ ((by rw [hg]; exact Nat.ne_of_lt (blk_lt (g := ma) (o := .cells #[.string ia, .slice Da na.length Ea] 24 (0, 0)) (bk_ da.out)) : ma ≠ oa))
             have rb := aM_ ((by rw [hg]; exact Nat.ne_of_gt (blk_lt (g := ma) (o := .cells #[.string ia, .slice Da na.length Ea] 24 (0, 0)) (bk_ da.out)) : oa ≠ ma))
             replace da := aM_ (blk_below (g := ma) (o := .cells #[.string ia, .slice Da na.length Ea] 24 (0, 0)) (bk_ da.out) hb)
             have pb := aM_ ((by rw [hg]; exact Nat.ne_of_lt (blk_lt (g := aa) (o := .cells #[.string Ba, .string Ca, .int .u64 Fa, .int .i64 Ga, .int .i64 Ha, .int .i64 Ja, .int .i64 Ka, .int .i64 La, .int .i64 Oa] 35 (0, 0)) (bk_ fa.out)) : aa ≠ oa))
             have xb := aM_ ((by rw [hg]; exact Nat.ne_of_gt (blk_lt (g := aa) (o := .cells #[.string Ba, .string Ca, .int .u64 Fa, .int .i64 Ga, .int .i64 Ha, .int .i64 Ja, .int .i64 Ka, .int .i64 La, .int .i64 Oa] 35 (0, 0)) (bk_ fa.out)) : oa ≠ aa))
             replace fa := aM_ (blk_below (g := aa) (o := .cells #[.string Ba, .string Ca, .int .u64 Fa, .int .i64 Ga, .int .i64 Ha, .int .i64 Ja, .int .i64 Ka, .int .i64 La, .int .i64 Oa] 35 (0, 0)) (bk_ fa.out) hb)
             clear hb hbox hg
             refine hK.out _ _ ⟨bc_ da.out 0, bc_ da.out 1⟩ (fun hHeld => ?_)
             clear hK K
             refine nO_ 16 ?_
             refine one_ (i := 5) (N := some 81) (bo_ 9 191) rfl rfl (one_of HT_.out (by kernel_rfl)) (by decide) (fun K hK => ?_)
             refine Kd.R_append_rows_step k35 (w0 := w) w.heap.size (by rfl) (.tmp 78) (.tmp 80) 22 35 (.agg #[(.string ⟨#[]⟩), (.string ⟨#[]⟩), (.int .u64 0), (.int .i64 0), (.int .i64 0), (.int .i64 0), (.int .i64 0), (.int .i64 0), (.int .i64 0)]) 88 rfl Tryd.underlying22 info35 rfl (by decide) (by omega) ud uc na _ _ _ (fun k_ => some k_ ≠ (.slice Da na.length Ea : Value).ownBlock ∧ k_ ≠ aa) (fun _ => False) rfl rfl ?aO ?aR (fun _ _ h => h) (fun _ h => h.elim) ?aF ?aB ?aS ?aL ?_
             (case aR => repeat (first | exact (Kd.R_reads' ca.out).2.2 | (with_reducible refine Kd.C_alloc ?_ _) | (with_reducible refine Kd.C_drewN ?_ _) | (with_reducible refine Kd.C_drew ?_)))
             (case aB => exact hB_)
             (case aF => exact (fun k_ hk => ⟨Kd.fresh' (Kd.R_lt (bk_ ca.out)) k_ hk, Kd.freshB (g := aa) (o := .cells #[.string Ba, .string Ca, .int .u64 Fa, .int .i64 Ga, .int .i64 Ha, .int .i64 Ja, .int .i64 Ka, .int .i64 La, .int .i64 Oa] 35 (0, 0)) (bk_ fa.out) k_ hk⟩))
             (case aO => exact (by refine bk_ ?_; exact Kd.R_mono sb.out (fun _ hk => ⟨hk.1.2, hk.2⟩)))
             (case aS => exact (below_size hB_))
             (case aL => have := Hf.out; omega)
             intro Qe Dk ho hb hg hat
             rw [← Ny337.out] at ho
             replace ca := aM_ (Kd.R_after (ok := (fun k_ => k_ ≠ aa)) (bk_ ca.out) hg hat)
             replace ea := aM_ (blk_grown (g := sa) (o := .cells #[.string ra, .slice za pa.length Aa] 24 (0, 0)) (bk_ ea.out) hg (Kd.R_ne sb.out ea.out (by decide)))
             replace da := aM_ (blk_grown (g := ma) (o := .cells #[.string ia, .slice Da na.length Ea] 24 (0, 0)) (bk_ da.out) hg (Kd.R_ne sb.out da.out (by decide)))
             replace fa := aM_ (blk_grown (g := aa) (o := .cells #[.string Ba, .string Ca, .int .u64 Fa, .int .i64 Ga, .int .i64 Ha, .int .i64 Ja, .int .i64 Ka, .int .i64 La, .int .i64 Oa] 35 (0, 0)) (bk_ fa.out) hg (Kd.R_away sb.out (fun _ hk => hk.2)))
             replace ja := aM_ (blk_grown (g := oa) (o := .cells #[.string (⟨#[]⟩ : ByteArray), .slice none 0 0] 24 (0, 0)) (bk_ ja.out) hg (Kd.R_ne sb.out ja.out (by decide)))
             replace HB := aM_ (hb)
             have ka := aM_ (ho)
             clear sb
             clear ho hb hg hat
             obtain ⟨jg, kg, Re⟩ := Kd.R_slice ka.out
             (first | subst Re | (injection Re with f1_ f2_ f3_; have f4_ := f1_.symm; have f5_ := f3_.symm; clear f1_ f2_ f3_; subst f4_; subst f5_))
             refine hK.out _ _ ⟨bc_ da.out 0, bc_ da.out 1⟩ (fun hHeld => ?_)
             clear hK K
             refine nO_ 81 ?_
             refine pU_ 6 (some 82) (bo_ 9 255) ?_
             exact norm_ (by simp only [putAll, Act.put, sA_, sB_, sC_]) (hCont (ud, .slice jg ha.length kg, oa) _ ⟨hHeld, (bk_ ka.out), (by refine bk_ ?_; exact Kd.R_mono ca.out (fun _ hk => ⟨hk.2, hk.1⟩)), (bk_ ea.out), (bk_ da.out), (bk_ fa.out), (bk_ ja.out), Hd.out, Id.out, ob.out, wb.out, jb.out, rb.out, pb.out, xb.out, hB_⟩)
            skip
            refine box_step ?hg (N := 16) ?hd (cs := #[.string (⟨#[]⟩ : ByteArray), .slice none 0 0]) (t := 24) ?hr ?_; (case hd => rfl); (case hg => rfl); (case hr => first | (go_simp; done) | (go_simp; rfl))
            intro oa hg Bk hbox hb
            replace ca := aM_ (Kd.R_below (bk_ ca.out) hb)
            have ja := aM_ (hbox)
            have Hd := aM_ ((by rw [hg]; exact (below_size hB_) : w.heap.size ≤ oa))
            have Id := aM_ ((by rw [hg]; exact (below_size hB_) : w.heap.size ≤ oa))
            replace HB := aM_ (below_step hB_ hb)
            have ob := aM_ ((by rw [hg]; exact Nat.ne_of_lt (blk_lt (g := sa) (o := .cells #[.string ra, .slice za pa.length Aa] 24 (0, 0)) (bk_ ea.out)) : sa ≠ oa))
            have wb := aM_ ((by rw [hg]; exact Nat.ne_of_gt (blk_lt (g := sa) (o := .cells #[.string ra, .slice za pa.length Aa] 24 (0, 0)) (bk_ ea.out)) : oa ≠ sa))
            replace ea := aM_ (blk_below (g := sa) (o := .cells #[.string ra, .slice za pa.length Aa] 24 (0, 0)) (bk_ ea.out) hb)
            have jb := aM_ ((by rw [hg]; exact Nat.ne_of_lt (blk_lt (g := ma) (o := .cells #[.string ia, .slice Da na.length Ea] 24 (0, 0)) (bk_ da.out)) : ma ≠ oa))
            have rb := aM_ ((by rw [hg]; exact Nat.ne_of_gt (blk_lt (g := ma) (o := .cells #[.string ia, .slice Da na.length Ea] 24 (0, 0)) (bk_ da.out)) : oa ≠ ma))
            replace da := aM_ (blk_below (g := ma) (o := .cells #[.string ia, .slice Da na.length Ea] 24 (0, 0)) (bk_ da.out) hb)
            have pb := aM_ ((by rw [hg]; exact Nat.ne_of_lt (blk_lt (g := aa) (o := .cells #[.string Ba, .string Ca, .int .u64 Fa, .int .i64 Ga, .int .i64 Ha, .int .i64 Ja, .int .i64 Ka, .int .i64 La, .int .i64 Oa] 35 (0, 0)) (bk_ fa.out)) : aa ≠ oa))
            have xb := aM_ ((by rw [hg]; exact Nat.ne_of_gt (blk_lt (g := aa) (o := .cells #[.string Ba, .string Ca, .int .u64 Fa, .int .i64 Ga, .int .i64 Ha, .int .i64 Ja, .int .i64 Ka, .int .i64 La, .int .i64 Oa] 35 (0, 0)) (bk_ fa.out)) : oa ≠ aa))
            replace fa := aM_ (blk_below (g := aa) (o := .cells #[.string Ba, .string Ca, .int .u64 Fa, .int .i64 Ga, .int .i64 Ha, .int .i64 Ja, .int .i64 Ka, .int .i64 La, .int .i64 Oa] 35 (0, 0)) (bk_ fa.out) hb)
            clear hb hbox hg
            refine hK.out _ _ ⟨bc_ da.out 0, bc_ da.out 1⟩ (fun hHeld => ?_)
            clear hK K
            refine nO_ 16 ?_
            refine one_ (i := 2) (N := some 78) (bo_ 9 159) rfl rfl (one_of HT_.out (by kernel_rfl)) (by decide) (fun K hK => ?_)
            refine Kd.R_lit_step k35 _ 35 ?hg (N := 78) ?hd (xs := ([] : List (S35))) (inner := []) (ok := fun _ => True) (okp := fun _ => True) ?hr ?hp (fun _ hk => hk) trivial (Below.refl _ _) (Nat.le_refl _) (by simp) ?_; (case hd => rfl); (case hg => rfl); (case hr => first | (go_simp; done) | (go_simp; rfl)); (case hp => exact (Reps.none _ _))
            intro ud wn te hb hg_ hnew_
            clear hg_ hnew_
            (first | rw [← Ny334.out] at te | (simp only [Int.reduceToNat] at te; rw [← Ny334.out] at te))
            have sb := aM_ (Kd.R_lower (Kd.R_newB (Kd.R_new' te (Kd.R_lt (bk_ ca.out))) (g := aa) (o := .cells #[.string Ba, .string Ca, .int .u64 Fa, .int .i64 Ga, .int .i64 Ha, .int .i64 Ja, .int .i64 Ka, .int .i64 La, .int .i64 Oa] 35 (0, 0)) (bk_ fa.out)) (below_size hB_))
            replace ca := aM_ (Kd.R_elder' (bk_ ca.out) (Kd.R_base te) hb)
            replace ea := aM_ (blk_below (g := sa) (o := .cells #[.string ra, .slice za pa.length Aa] 24 (0, 0)) (bk_ ea.out) hb)
            replace da := aM_ (blk_below (g := ma) (o := .cells #[.string ia, .slice Da na.length Ea] 24 (0, 0)) (bk_ da.out) hb)
            replace fa := aM_ (blk_below (g := aa) (o := .cells #[.string Ba, .string Ca, .int .u64 Fa, .int .i64 Ga, .int .i64 Ha, .int .i64 Ja, .int .i64 Ka, .int .i64 La, .int .i64 Oa] 35 (0, 0)) (bk_ fa.out) hb)
            replace ja := aM_ (blk_below (g := oa) (o := .cells #[.string (⟨#[]⟩ : ByteArray), .slice none 0 0] 24 (0, 0)) (bk_ ja.out) hb)
            replace HB := aM_ (below_step hB_ hb)
            clear hb te
            refine hK.out _ _ ⟨bc_ da.out 0, bc_ da.out 1⟩ (fun hHeld => ?_)
            clear hK K
            refine nO_ 78 ?_
            refine one_ (i := 5) (N := some 81) (bo_ 9 191) rfl rfl (one_of HT_.out (by kernel_rfl)) (by decide) (fun K hK => ?_)
            refine Kd.R_append_rows_step k35 (w0 := w) w.heap.size (by rfl) (.tmp 78) (.tmp 80) 22 35 (.agg #[(.string ⟨#[]⟩), (.string ⟨#[]⟩), (.int .u64 0), (.int .i64 0), (.int .i64 0), (.int .i64 0), (.int .i64 0), (.int .i64 0), (.int .i64 0)]) 88 rfl Tryd.underlying22 info35 rfl (by decide) (by omega) ud uc na _ _ _ (fun k_ => some k_ ≠ (.slice Da na.length Ea : Value).ownBlock ∧ k_ ≠ aa) (fun _ => False) rfl rfl ?aO ?aR (fun _ _ h => h) (fun _ h => h.elim) ?aF ?aB ?aS ?aL ?_
            (case aR => repeat (first | exact (Kd.R_reads' ca.out).2.2 | (with_reducible refine Kd.C_alloc ?_ _) | (with_reducible refine Kd.C_drewN ?_ _) | (with_reducible refine Kd.C_drew ?_)))
            (case aB => exact hB_)
            (case aF => exact (fun k_ hk => ⟨Kd.fresh' (Kd.R_lt (bk_ ca.out)) k_ hk, Kd.freshB (g := aa) (o := .cells #[.string Ba, .string Ca, .int .u64 Fa, .int .i64 Ga, .int .i64 Ha, .int .i64 Ja, .int .i64 Ka, .int .i64 La, .int .i64 Oa] 35 (0, 0)) (bk_ fa.out) k_ hk⟩))
            (case aO => exact (by refine bk_ ?_; exact Kd.R_mono sb.out (fun _ hk => ⟨hk.1.2, hk.2⟩)))
            (case aS => exact (below_size hB_))
            (case aL => have := Hf.out; omega)
            intro Qe Dk ho hb hg hat
            rw [← Ny337.out] at ho
            replace ca := aM_ (Kd.R_after (ok := (fun k_ => k_ ≠ aa)) (bk_ ca.out) hg hat)
            replace ea := aM_ (blk_grown (g := sa) (o := .cells #[.string ra, .slice za pa.length Aa] 24 (0, 0)) (bk_ ea.out) hg (Kd.R_ne sb.out ea.out (by decide)))
            replace da := aM_ (blk_grown (g := ma) (o := .cells #[.string ia, .slice Da na.length Ea] 24 (0, 0)) (bk_ da.out) hg (Kd.R_ne sb.out da.out (by decide)))
            replace fa := aM_ (blk_grown (g := aa) (o := .cells #[.string Ba, .string Ca, .int .u64 Fa, .int .i64 Ga, .int .i64 Ha, .int .i64 Ja, .int .i64 Ka, .int .i64 La, .int .i64 Oa] 35 (0, 0)) (bk_ fa.out) hg (Kd.R_away sb.out (fun _ hk => hk.2)))
            replace ja := aM_ (blk_grown (g := oa) (o := .cells #[.string (⟨#[]⟩ : ByteArray), .slice none 0 0] 24 (0, 0)) (bk_ ja.out) hg (Kd.R_ne sb.out ja.out (by decide)))
            replace HB := aM_ (hb)
            have ka := aM_ (ho)
            clear sb
            clear ho hb hg hat
            obtain ⟨jg, kg, Re⟩ := Kd.R_slice ka.out
            (first | subst Re | (injection Re with f1_ f2_ f3_; have f4_ := f1_.symm; have f5_ := f3_.symm; clear f1_ f2_ f3_; subst f4_; subst f5_))
            refine hK.out _ _ ⟨bc_ da.out 0, bc_ da.out 1⟩ (fun hHeld => ?_)
            clear hK K
            refine nO_ 81 ?_
            refine pU_ 6 (some 82) (bo_ 9 255) ?_
            exact norm_ (by simp only [putAll, Act.put, sA_, sB_, sC_]) (hCont (ud, .slice jg ha.length kg, oa) _ ⟨hHeld, (bk_ ka.out), (by refine bk_ ?_; exact Kd.R_mono ca.out (fun _ hk => ⟨hk.2, hk.1⟩)), (bk_ ea.out), (bk_ da.out), (bk_ fa.out), (bk_ ja.out), Hd.out, Id.out, ob.out, wb.out, jb.out, rb.out, pb.out, xb.out, hB_⟩)
           rintro ⟨ud, Qe, oa⟩ rc ⟨hS_, h0_, h1_, h2_, Ei, Fi, Gi, Hi, Ii, Ji, Ki, Jh, Kh, Lh, Mh, Nh⟩
           have Ab : Aside0 (Kd.R k35 35 rc w.heap.size (fun k_ => some k_ ≠ (.slice Da na.length Ea : Value).ownBlock ∧ k_ ≠ aa) Qe ha) := ⟨h0_⟩
           have Bb : Aside0 (Kd.R k35 35 rc w.heap.size (fun k_ => some k_ ≠ (Qe : Value).ownBlock ∧ k_ ≠ aa) (.slice Da na.length Ea) na) := ⟨h1_⟩
           have Cb : Aside0 (rc.heap[sa]? = some (.cells #[.string ra, .slice za pa.length Aa] 24 (0, 0))) := ⟨h2_⟩
           have Db : Aside0 (rc.heap[ma]? = some (.cells #[.string ia, .slice Da na.length Ea] 24 (0, 0))) := ⟨Ei⟩
           have ac : Aside0 (rc.heap[aa]? = some (.cells #[.string Ba, .string Ca, .int .u64 Fa, .int .i64 Ga, .int .i64 Ha, .int .i64 Ja, .int .i64 Ka, .int .i64 La, .int .i64 Oa] 35 (0, 0))) := ⟨Fi⟩
           have sc : Aside0 (rc.heap[oa]? = some (.cells #[.string (⟨#[]⟩ : ByteArray), .slice none 0 0] 24 (0, 0))) := ⟨Gi⟩
           have Md : Aside0 (w.heap.size ≤ oa) := ⟨Hi⟩
           have Li : Aside0 (w.heap.size ≤ oa) := ⟨Ii⟩
           have Mi : Aside0 (sa ≠ oa) := ⟨Ji⟩
           have Oi : Aside0 (oa ≠ sa) := ⟨Ki⟩
           have Oh : Aside0 (ma ≠ oa) := ⟨Jh⟩
           have Ph : Aside0 (oa ≠ ma) := ⟨Kh⟩
           have Qh : Aside0 (aa ≠ oa) := ⟨Lh⟩
           have Rh : Aside0 (oa ≠ aa) := ⟨Mh⟩
           have Sh : Aside0 (Below w.heap.size w rc) := ⟨Nh⟩
           clear ca ea da fa HB
           clear h0_ h1_ h2_ Ei Fi Gi Hi Ii Ji Ki Jh Kh Lh Mh Nh
           have ka := Ab
           have ca := Bb
           have ea := Cb
           have da := Db
           have fa := ac
           have ja := sc
           have Hd := Md
           have Id := Li
           have ob := Mi
           have wb := Oi
           have jb := Oh
           have rb := Ph
           have pb := Qh
           have xb := Rh
           have HB := Sh
           clear Ab Bb Cb Db ac sc Md Li Mi Oi Oh Ph Qh Rh Sh
           have hHeld : rc.cell? ⟨ma, 0, none⟩ = some (.string ia) ∧ rc.cell? ⟨ma, 1, none⟩ = some (.slice Da na.length Ea) := hS_
           obtain ⟨Zb, ub, Th⟩ := Kd.R_slice ka.out
           (first | subst Th | (injection Th with f1_ f2_ f3_; have f4_ := f1_.symm; have f5_ := f3_.symm; clear f1_ f2_ f3_; subst f4_; subst f5_))
           refine nP_ ?_
           refine one_ (i := 8) (N := none) (bo_ 9 511) rfl rfl (one_of HT_.out (by kernel_rfl)) (by decide) (fun K hK => ?_)
           have hs82 : rc.cell? ⟨oa, 0, none⟩ = some (.string (⟨#[]⟩ : ByteArray)) := bc_ ja.out 0
           have hfs82 := blk_frozen ja.out 0
           have hns82_0 := ob.out
           have hns82_1 := jb.out
           have hns82_2 := pb.out
           have hms82_0 := wb.out
           have hms82_1 := rb.out
           have hms82_2 := xb.out
           have hs83 : rc.cell? ⟨oa, 1, none⟩ = some (.slice none 0 0) := bc_ ja.out 1
           have hfs83 := blk_frozen ja.out 1
           have hns83_0 := ob.out
           have hns83_1 := jb.out
           have hns83_2 := pb.out
           have hms83_0 := wb.out
           have hms83_1 := rb.out
           have hms83_2 := xb.out
           refine skip_ (w1 := ?_) (by rfl) rfl ?_ ?_
           rotate_left; (· go_simp; rfl)
           refine hK.out _ _ ⟨((cell_far (p := ⟨oa, _, none⟩) jb.out _).trans (((cell_far (p := ⟨oa, _, none⟩) jb.out _).trans (hHeld.1)))), ((cell_far (p := ⟨oa, _, none⟩) jb.out _).trans (((cell_far (p := ⟨oa, _, none⟩) jb.out _).trans (hHeld.2))))⟩ (fun hHeld => ?_)
           clear hK K
           refine done_ (done_of HT_.out (by kernel_rfl)) ?_
           have Gl := wb.out
           have Hl := ob.out
           have Il := rb.out
           have Jl := jb.out
           have Kl := xb.out
           have Ll := pb.out
           have Vj := bc_ ja.out 0
           have Wj := bc_ ja.out 1
           have Xj := blk_frozen ja.out 0
           have Yj := blk_frozen ja.out 1
           go_upto_if 86 with (fail)
           go_cut [] (fun wc => ∃ (kq : Nat) (la : List (S35)) (Ra : ByteArray) (Sa : ByteArray) (Ta : Int) (Ua : Int) (Va : Int) (Wa : Int) (Xa : Int) (Ya : Int) (Za : Int) (ya : List (S35)) (Jd : Value) (nb : Value), Aside0 (kerbsuitelaw12_DatabaseChecks.j3 kq a3 a5 ia la ia ya = some r) ∧ Aside0 (kq ≤ Pc) ∧ Aside0 (Kd.R k35 35 wc w.heap.size (fun k_ => some k_ ≠ (nb : Value).ownBlock ∧ k_ ≠ aa) Jd la) ∧ Aside0 (Kd.R k35 35 wc w.heap.size (fun k_ => some k_ ≠ (Jd : Value).ownBlock ∧ k_ ≠ aa) nb ya) ∧ Aside0 (wc.heap[sa]? = some (.cells #[.string ra, (.slice za pa.length Aa)] 24 (0, 0))) ∧ Aside0 (wc.heap[ma]? = some (.cells #[.string ia, Jd] 24 (0, 0))) ∧ Aside0 (wc.heap[aa]? = some (.cells #[.string Ra, .string Sa, .int .u64 Ta, .int .i64 Ua, .int .i64 Va, .int .i64 Wa, .int .i64 Xa, .int .i64 Ya, .int .i64 Za] 35 (0, 0))) ∧ Aside0 (wc.heap[oa]? = some (.cells #[.string ia, nb] 24 (0, 0))) ∧ Aside0 (Below w.heap.size w wc))
           case first =>
            have H := ig.out
            clear ig
            by_cases Ae : (ha.length : Int) > 0
            ·rw [if_pos Ae] at H
             have od : decide (0 < (ha.length : Int)) = true := decide_eq_true Ae
             have If : decide (0 < ha.length) = true := decide_eq_true (by omega)
             clear Ae
             (first | rw [od] | (simp only [i64_w, i32_w]; rw [od]) | skip)
             by_cases Of : (ha.length : Int) = 0
             ·rw [if_pos Of] at H
              exact absurd H (by simp)
             rw [if_neg Of] at H
             have Ml : ((ha.length : Int) == 0) = false := beq_eq_false_iff_ne.mpr Of
             have Nl : ((ha.length : Int) != 0) = true := bne_iff_ne.mpr Of
             have Ol : ¬ (ha = []) := fun h_ => Of (by rw [h_]; rfl)
             obtain ⟨ba, hji90⟩ : ∃ j_ : Int, (Int.tmod (wrap64 (a2)) (ha.length : Int)) = j_ := ⟨_, rfl⟩
             replace H : (if 0 ≤ (ba) then (if (ba) < (ha.length : Int) then ((kerbsuitelaw12_changed.f ((rd_T35 ha (ba)).f0) ((rd_T35 ha (ba)).f1) ((rd_T35 ha (ba)).f2) ((rd_T35 ha (ba)).f3) ((rd_T35 ha (ba)).f4) ((rd_T35 ha (ba)).f5) ((rd_T35 ha (ba)).f6) ((rd_T35 ha (ba)).f7) ((rd_T35 ha (ba)).f8) a3 (rd db (qb)) a5).bind fun Qa => ((some (ha.set ((ba) : Int).toNat (⟨Qa.1, Qa.2.1, Qa.2.2.1, Qa.2.2.2.1, Qa.2.2.2.2.1, Qa.2.2.2.2.2.1, Qa.2.2.2.2.2.2.1, Qa.2.2.2.2.2.2.2.1, Qa.2.2.2.2.2.2.2.2⟩ : S35) : List (S35))).bind fun ga => (if 0 < (ha.length : Int) then (kerbsuitelaw12_DatabaseChecks.j3 Pc a3 a5 ia na ia ((ga.set (0 : Int).toNat (⟨(rd_T35 ga (ba)).f0, (rd_T35 ga (ba)).f1, (rd_T35 ga (ba)).f2, (rd_T35 ga (ba)).f3, (rd_T35 ga (ba)).f4, (rd_T35 ga (ba)).f5, (rd_T35 ga (ba)).f6, (rd_T35 ga (ba)).f7, (rd_T35 ga (ba)).f8⟩ : S35)).set ((ba) : Int).toNat (⟨(rd_T35 ga 0).f0, (rd_T35 ga 0).f1, (rd_T35 ga 0).f2, (rd_T35 ga 0).f3, (rd_T35 ga 0).f4, (rd_T35 ga 0).f5, (rd_T35 ga 0).f6, (rd_T35 ga 0).f7, (rd_T35 ga 0).f8⟩ : S35))) else (none)))) else (none)) else (none)) = some r := by first | (rw [hji90] at H; exact H) | (simp only [hji90] at H ⊢; exact H)
             by_cases yf : 0 ≤ (ba)
             ·rw [if_pos yf] at H
              have Pl : decide (0 ≤ (ba)) = true := decide_eq_true yf
              clear yf
              by_cases zf : (ba) < (ha.length : Int)
              ·rw [if_pos zf] at H
               have Ql : decide ((ba) < (ha.length : Int)) = true := decide_eq_true zf
               clear zf
               replace H := Option.bind_eq_some_iff.mp H
               obtain ⟨⟨cc, dc, ec, fc, gc, hc, ic, jc, kc⟩, Uh, H⟩ := H
               replace H : ((some (ha.set ((ba) : Int).toNat (⟨cc, dc, ec, fc, gc, hc, ic, jc, kc⟩ : S35) : List (S35))).bind fun ga => (if 0 < (ha.length : Int) then (kerbsuitelaw12_DatabaseChecks.j3 Pc a3 a5 ia na ia ((ga.set (0 : Int).toNat (⟨(rd_T35 ga (ba)).f0, (rd_T35 ga (ba)).f1, (rd_T35 ga (ba)).f2, (rd_T35 ga (ba)).f3, (rd_T35 ga (ba)).f4, (rd_T35 ga (ba)).f5, (rd_T35 ga (ba)).f6, (rd_T35 ga (ba)).f7, (rd_T35 ga (ba)).f8⟩ : S35)).set ((ba) : Int).toNat (⟨(rd_T35 ga 0).f0, (rd_T35 ga 0).f1, (rd_T35 ga 0).f2, (rd_T35 ga 0).f3, (rd_T35 ga 0).f4, (rd_T35 ga 0).f5, (rd_T35 ga 0).f6, (rd_T35 ga 0).f7, (rd_T35 ga 0).f8⟩ : S35))) else (none))) = some r := H
               have Ek := aM_ Uh
               clear Uh
               obtain ⟨ga, hy351⟩ : ∃ y_ : List (S35), y_ = (ha.set ((ba) : Int).toNat (⟨cc, dc, ec, fc, gc, hc, ic, jc, kc⟩ : S35)) := ⟨_, rfl⟩
               replace H : (if 0 < (ha.length : Int) then (kerbsuitelaw12_DatabaseChecks.j3 Pc a3 a5 ia na ia ((ga.set (0 : Int).toNat (⟨(rd_T35 ga (ba)).f0, (rd_T35 ga (ba)).f1, (rd_T35 ga (ba)).f2, (rd_T35 ga (ba)).f3, (rd_T35 ga (ba)).f4, (rd_T35 ga (ba)).f5, (rd_T35 ga (ba)).f6, (rd_T35 ga (ba)).f7, (rd_T35 ga (ba)).f8⟩ : S35)).set ((ba) : Int).toNat (⟨(rd_T35 ga 0).f0, (rd_T35 ga 0).f1, (rd_T35 ga 0).f2, (rd_T35 ga 0).f3, (rd_T35 ga 0).f4, (rd_T35 ga 0).f5, (rd_T35 ga 0).f6, (rd_T35 ga 0).f7, (rd_T35 ga 0).f8⟩ : S35))) else (none)) = some r := by first | (rw [hy351]; with_reducible exact H) | (have H2_ := (Option.bind_some _ _).symm.trans H; rw [hy351]; with_reducible exact H2_) | (have H2_ := (Option.bind_some _ _).symm.trans H; with_reducible exact H2_) | with_reducible exact H | (rw [hy351]; exact H) | exact H
               have Ny351 := aM_ hy351
               clear hy351
               by_cases Af : 0 < (ha.length : Int)
               ·rw [if_pos Af] at H
                have Rl : decide (0 < (ha.length : Int)) = true := decide_eq_true Af
                have Sl : decide (0 < ha.length) = true := decide_eq_true (by omega)
                clear Af
                obtain ⟨Uc, hy354⟩ : ∃ y_ : List (S35), y_ = (ga.set (0 : Int).toNat (⟨(rd_T35 ga (ba)).f0, (rd_T35 ga (ba)).f1, (rd_T35 ga (ba)).f2, (rd_T35 ga (ba)).f3, (rd_T35 ga (ba)).f4, (rd_T35 ga (ba)).f5, (rd_T35 ga (ba)).f6, (rd_T35 ga (ba)).f7, (rd_T35 ga (ba)).f8⟩ : S35)) := ⟨_, rfl⟩
                replace H : (kerbsuitelaw12_DatabaseChecks.j3 Pc a3 a5 ia na ia (Uc.set ((ba) : Int).toNat (⟨(rd_T35 ga 0).f0, (rd_T35 ga 0).f1, (rd_T35 ga 0).f2, (rd_T35 ga 0).f3, (rd_T35 ga 0).f4, (rd_T35 ga 0).f5, (rd_T35 ga 0).f6, (rd_T35 ga 0).f7, (rd_T35 ga 0).f8⟩ : S35))) = some r := by first | (rw [hy354]; with_reducible exact H) | (have H2_ := (Option.bind_some _ _).symm.trans H; rw [hy354]; with_reducible exact H2_) | (have H2_ := (Option.bind_some _ _).symm.trans H; with_reducible exact H2_) | with_reducible exact H | (rw [hy354]; exact H) | exact H
                have Ny354 := aM_ hy354
                clear hy354
                obtain ⟨Vh, hy355⟩ : ∃ y_ : List (S35), y_ = (Uc.set ((ba) : Int).toNat (⟨(rd_T35 ga 0).f0, (rd_T35 ga 0).f1, (rd_T35 ga 0).f2, (rd_T35 ga 0).f3, (rd_T35 ga 0).f4, (rd_T35 ga 0).f5, (rd_T35 ga 0).f6, (rd_T35 ga 0).f7, (rd_T35 ga 0).f8⟩ : S35)) := ⟨_, rfl⟩
                replace H : (kerbsuitelaw12_DatabaseChecks.j3 Pc a3 a5 ia na ia Vh) = some r := by first | (rw [hy355]; with_reducible exact H) | (have H2_ := (Option.bind_some _ _).symm.trans H; rw [hy355]; with_reducible exact H2_) | (have H2_ := (Option.bind_some _ _).symm.trans H; with_reducible exact H2_) | with_reducible exact H | (rw [hy355]; exact H) | exact H
                have Ny355 := aM_ hy355
                clear hy355
                have H' := aM_ H
                clear H
                have Tl := wb.out
                have Ul := ob.out
                have Vl := rb.out
                have Wl := jb.out
                have Fk := xb.out
                have Gk := pb.out
                have ej := bc_ ja.out 0
                have fj := bc_ ja.out 1
                have gj := blk_frozen ja.out 0
                have hj := blk_frozen ja.out 1
                try go_upto_region 15 with fail
                have Ab : Aside0 (Kd.R k35 35 ((rc.setCell ⟨oa, 0, none⟩ (.string ia)).setCell ⟨oa, 1, none⟩ (.slice Zb ha.length ub)) w.heap.size (fun k_ => some k_ ≠ (.slice Zb ha.length ub : Value).ownBlock ∧ k_ ≠ aa) (.slice Da na.length Ea) na) := ⟨by refine bk_ ?_; exact Kd.R_mono (Kd.R_far (p := ⟨oa, 1, none⟩) (Kd.R_far (p := ⟨oa, 0, none⟩) (Kd.R_types ca.out ja.out (by decide)) (fun _ hk => hk.2) (.string ia)) (fun _ hk => hk.2) (.slice Zb ha.length ub)) (fun _ hk => ⟨hk.1.1, hk.1.2⟩)⟩
                have Bb : Aside0 (Kd.R k35 35 ((rc.setCell ⟨oa, 0, none⟩ (.string ia)).setCell ⟨oa, 1, none⟩ (.slice Zb ha.length ub)) w.heap.size (fun k_ => some k_ ≠ (.slice Da na.length Ea : Value).ownBlock ∧ k_ ≠ aa) (.slice Zb ha.length ub) ha) := ⟨by refine bk_ ?_; exact Kd.R_mono (Kd.R_far (p := ⟨oa, 1, none⟩) (Kd.R_far (p := ⟨oa, 0, none⟩) (Kd.R_types ka.out ja.out (by decide)) (fun _ hk => hk.2) (.string ia)) (fun _ hk => hk.2) (.slice Zb ha.length ub)) (fun _ hk => ⟨hk.1.1, hk.1.2⟩)⟩
                have Cb : Aside0 (((rc.setCell ⟨oa, 0, none⟩ (.string ia)).setCell ⟨oa, 1, none⟩ (.slice Zb ha.length ub)).heap[sa]? = some (.cells #[.string ra, .slice za pa.length Aa] 24 (0, 0))) := ⟨by refine bk_ ?_; refine blk_far ?_ ob.out _; refine bk_ ?_; refine blk_far ?_ ob.out _; refine bk_ ?_; exact ea.out⟩
                have Db : Aside0 (((rc.setCell ⟨oa, 0, none⟩ (.string ia)).setCell ⟨oa, 1, none⟩ (.slice Zb ha.length ub)).heap[ma]? = some (.cells #[.string ia, .slice Da na.length Ea] 24 (0, 0))) := ⟨by refine bk_ ?_; refine blk_far ?_ jb.out _; refine bk_ ?_; refine blk_far ?_ jb.out _; refine bk_ ?_; exact da.out⟩
                have ac : Aside0 (((rc.setCell ⟨oa, 0, none⟩ (.string ia)).setCell ⟨oa, 1, none⟩ (.slice Zb ha.length ub)).heap[aa]? = some (.cells #[.string Ba, .string Ca, .int .u64 Fa, .int .i64 Ga, .int .i64 Ha, .int .i64 Ja, .int .i64 Ka, .int .i64 La, .int .i64 Oa] 35 (0, 0))) := ⟨by refine bk_ ?_; refine blk_far ?_ pb.out _; refine bk_ ?_; refine blk_far ?_ pb.out _; refine bk_ ?_; exact fa.out⟩
                have sc : Aside0 (((rc.setCell ⟨oa, 0, none⟩ (.string ia)).setCell ⟨oa, 1, none⟩ (.slice Zb ha.length ub)).heap[oa]? = some (.cells #[.string ia, .slice Zb ha.length ub] 24 (0, 0))) := ⟨by refine bk_ ?_; refine blk_put (cs := #[.string ia, .slice none 0 0]) ?_ 1 _ rfl; refine bk_ ?_; refine blk_put (cs := #[.string (⟨#[]⟩ : ByteArray), .slice none 0 0]) ?_ 0 _ rfl; refine bk_ ?_; exact ja.out⟩
                have Md : Aside0 (Below w.heap.size w ((rc.setCell ⟨oa, 0, none⟩ (.string ia)).setCell ⟨oa, 1, none⟩ (.slice Zb ha.length ub))) := ⟨hB_⟩
                (try clear ca)
                (try clear ka)
                (try clear ea)
                (try clear da)
                (try clear fa)
                (try clear ja)
                (try clear HB)
                generalize ((rc.setCell ⟨oa, 0, none⟩ (.string ia)).setCell ⟨oa, 1, none⟩ (.slice Zb ha.length ub)) = ij at Ab Bb Cb Db ac sc Md ⊢
                have ca := Ab
                have ka := Bb
                have ea := Cb
                have da := Db
                have fa := ac
                have ja := sc
                have HB := Md
                clear Ab Bb Cb Db ac sc Md
                replace ca := aM_ (Kd.R_drew ca.out)
                replace ka := aM_ (Kd.R_drew ka.out)
                replace ea := aM_ (blk_drew ea.out)
                replace da := aM_ (blk_drew da.out)
                replace fa := aM_ (blk_drew fa.out)
                replace ja := aM_ (blk_drew ja.out)
                replace HB := aM_ (bD_ HB.out)
                have Se : 0 ≤ ((ba) : Int) := dT_
                have Te : (ba) < (ha.length : Int) := dT_
                obtain ⟨vb, jj, cd, dd, ed, fd, gd, id, jd, kd, ld⟩ := at_T35 (Kd.R_reads' ka.out).2.2 (ba) Se Te
                cases jj
                replace Se := eq_true Se
                replace Te := eq_true Te
                refine start_ (n := 14) (S := fun w' => w'.cell? ⟨oa, 0, none⟩ = some (.string ia) ∧ w'.cell? ⟨oa, 1, none⟩ = some (.slice (some vb) ha.length ub) ∧ w'.cell? (vb.add (((ba)).toNat * 9)) = some (.string ((rd_T35 ha (ba)).f0)) ∧ w'.cell? ⟨(vb.add (((ba)).toNat * 9)).block, (vb.add (((ba)).toNat * 9)).off + 1, none⟩ = some (.string ((rd_T35 ha (ba)).f1)) ∧ w'.cell? ⟨(vb.add (((ba)).toNat * 9)).block, (vb.add (((ba)).toNat * 9)).off + 2, none⟩ = some (.int .u64 ((rd_T35 ha (ba)).f2)) ∧ w'.cell? ⟨(vb.add (((ba)).toNat * 9)).block, (vb.add (((ba)).toNat * 9)).off + 3, none⟩ = some (.int .i64 ((rd_T35 ha (ba)).f3)) ∧ w'.cell? ⟨(vb.add (((ba)).toNat * 9)).block, (vb.add (((ba)).toNat * 9)).off + 4, none⟩ = some (.int .i64 ((rd_T35 ha (ba)).f4)) ∧ w'.cell? ⟨(vb.add (((ba)).toNat * 9)).block, (vb.add (((ba)).toNat * 9)).off + 5, none⟩ = some (.int .i64 ((rd_T35 ha (ba)).f5)) ∧ w'.cell? ⟨(vb.add (((ba)).toNat * 9)).block, (vb.add (((ba)).toNat * 9)).off + 6, none⟩ = some (.int .i64 ((rd_T35 ha (ba)).f6)) ∧ w'.cell? ⟨(vb.add (((ba)).toNat * 9)).block, (vb.add (((ba)).toNat * 9)).off + 7, none⟩ = some (.int .i64 ((rd_T35 ha (ba)).f7)) ∧ w'.cell? ⟨(vb.add (((ba)).toNat * 9)).block, (vb.add (((ba)).toNat * 9)).off + 8, none⟩ = some (.int .i64 ((rd_T35 ha (ba)).f8))) (ds := [13]) (bo_ 14 0) (by kernel_rfl) rfl rfl ⟨bc_ ja.out 0, bc_ ja.out 1, cd, dd, ed, fd, gd, id, jd, kd, ld⟩ (fun hHeld => ?_); refine with_tabW kerbsuitelaw12_DatabaseChecks.tab15 kerbsuitelaw12_DatabaseChecks.bits15 (fun HT_ HW_ => ?_)
                generalize ij.drew = hm at ca ka ea da fa ja HB cd dd ed fd gd id jd kd ld hHeld ⊢
                refine pU_ 0 (some 93) (bo_ 14 1) ?_
                refine pU_ 2 (some 95) (bo_ 14 5) ?_
                refine pU_ 3 (some 96) (bo_ 14 13) ?_
                refine pU_ 5 (some 98) (bo_ 14 45) ?_
                refine pU_ 8 (some 101) (bo_ 14 301) ?_
                refine pU_ 9 (some 102) (bo_ 14 813) ?_
                refine pU_ 10 (some 103) (bo_ 14 1837) ?_
                refine take_ (i := 1) (N := some 94) (v := ?_) (a' := ?_) (bo_ 14 1839) rfl rfl (take_ofW HT_.out HW_.out (by kernel_rfl)) (fun _ _ _ h => h) (Or.inl ⟨by rfl, ?_⟩) hHeld ?_ ?_
                rotate_left; (· rintro w' ⟨s0, s1, s2, s3, s4, s5, s6, s7, s8, s9, Ue⟩; go_simp; with_reducible rfl)
                rotate_left; (· simp only [Act.put,sA_,sB_,sC_,i64_w,i32_w]; rfl)
                refine take_ (i := 4) (N := some 97) (v := ?_) (a' := ?_) (bo_ 14 1855) rfl rfl (take_ofW HT_.out HW_.out (by kernel_rfl)) (fun _ _ _ h => h) (Or.inl ⟨by rfl, ?_⟩) hHeld ?_ ?_
                rotate_left; (· rintro w' ⟨s0, s1, s2, s3, s4, s5, s6, s7, s8, s9, Ue⟩; go_simp; with_reducible rfl)
                rotate_left; (· simp only [Act.put,sA_,sB_,sC_,i64_w,i32_w]; rfl)
                refine pU_ 6 (some 99) (bo_ 14 1919) ?_
                refine take_ (i := 7) (N := some 100) (v := ?_) (a' := ?_) (bo_ 14 2047) rfl rfl (take_ofW HT_.out HW_.out (by kernel_rfl)) (fun _ _ _ h => h) (Or.inl ⟨by rfl, ?_⟩) hHeld ?_ ?_
                rotate_left; (· rintro w' ⟨s0, s1, s2, s3, s4, s5, s6, s7, s8, s9, Ue⟩; go_simp; with_reducible rfl)
                rotate_left; (· simp only [Act.put,sA_,sB_,sC_,i64_w,i32_w]; rfl)
                refine one_ (i := 11) (N := some 104) (bo_ 14 4095) rfl rfl (one_of HT_.out (by kernel_rfl)) (by decide) (fun K hK => ?_)
                refine goes_ Tryd.func12 (by kernel_rfl) rfl #[.agg #[.string ((rd_T35 ha (ba)).f0), .string ((rd_T35 ha (ba)).f1), .int .u64 ((rd_T35 ha (ba)).f2), .int .i64 ((rd_T35 ha (ba)).f3), .int .i64 ((rd_T35 ha (ba)).f4), .int .i64 ((rd_T35 ha (ba)).f5), .int .i64 ((rd_T35 ha (ba)).f6), .int .i64 ((rd_T35 ha (ba)).f7), .int .i64 ((rd_T35 ha (ba)).f8)], .int .u8 a3, .int .i64 (rd db (qb)), .string a5] (by rfl) rfl rfl (by (try simp only [List.map_toArray, List.map_cons, List.map_nil]); first | done | (simp only [hji42, hji90]; rfl) | rfl | (simp only [List.length_drop, List.length_take]; rfl)) ?_
                with_reducible refine (kerbsuitelaw12_changed.calls ((rd_T35 ha (ba)).f0) ((rd_T35 ha (ba)).f1) ((rd_T35 ha (ba)).f2) ((rd_T35 ha (ba)).f3) ((rd_T35 ha (ba)).f4) ((rd_T35 ha (ba)).f5) ((rd_T35 ha (ba)).f6) ((rd_T35 ha (ba)).f7) ((rd_T35 ha (ba)).f8) a3 (rd db (qb)) a5 cc dc ec fc gc hc ic jc kc _ Ek.out).mono ?_
                rintro e vd ⟨rfl, hb⟩
                have kj := (hb.cell (World.block_lt_of_cell? _ _ (hHeld.2.2.1))).trans (hHeld.2.2.1)
                have lj := (hb.cell (World.block_lt_of_cell? _ _ (hHeld.2.2.2.1))).trans (hHeld.2.2.2.1)
                have mj := (hb.cell (World.block_lt_of_cell? _ _ (hHeld.2.2.2.2.1))).trans (hHeld.2.2.2.2.1)
                have nj := (hb.cell (World.block_lt_of_cell? _ _ (hHeld.2.2.2.2.2.1))).trans (hHeld.2.2.2.2.2.1)
                have oj := (hb.cell (World.block_lt_of_cell? _ _ (hHeld.2.2.2.2.2.2.1))).trans (hHeld.2.2.2.2.2.2.1)
                have pj := (hb.cell (World.block_lt_of_cell? _ _ (hHeld.2.2.2.2.2.2.2.1))).trans (hHeld.2.2.2.2.2.2.2.1)
                have qj := (hb.cell (World.block_lt_of_cell? _ _ (hHeld.2.2.2.2.2.2.2.2.1))).trans (hHeld.2.2.2.2.2.2.2.2.1)
                have rj := (hb.cell (World.block_lt_of_cell? _ _ (hHeld.2.2.2.2.2.2.2.2.2.1))).trans (hHeld.2.2.2.2.2.2.2.2.2.1)
                have qi := (hb.cell (World.block_lt_of_cell? _ _ (hHeld.2.2.2.2.2.2.2.2.2.2))).trans (hHeld.2.2.2.2.2.2.2.2.2.2)
                refine ⟨_, rfl, ?_⟩
                replace ca := aM_ (Kd.R_below (bk_ ca.out) hb)
                replace ka := aM_ (Kd.R_below (bk_ ka.out) hb)
                replace ea := aM_ (blk_below (g := sa) (o := .cells #[.string ra, .slice za pa.length Aa] 24 (0, 0)) (bk_ ea.out) hb)
                replace da := aM_ (blk_below (g := ma) (o := .cells #[.string ia, .slice Da na.length Ea] 24 (0, 0)) (bk_ da.out) hb)
                replace fa := aM_ (blk_below (g := aa) (o := .cells #[.string Ba, .string Ca, .int .u64 Fa, .int .i64 Ga, .int .i64 Ha, .int .i64 Ja, .int .i64 Ka, .int .i64 La, .int .i64 Oa] 35 (0, 0)) (bk_ fa.out) hb)
                replace ja := aM_ (blk_below (g := oa) (o := .cells #[.string ia, .slice (some vb) ha.length ub] 24 (0, 0)) (bk_ ja.out) hb)
                replace HB := aM_ (below_step hB_ hb)
                clear hb
                have Ve : 0 ≤ ((ba) : Int) := dT_
                have We : ((ba) : Int) < ((ha.length : Int) : Int) := dT_
                obtain ⟨go94, im, Wh, Xh, gl94, cl94, HG94⟩ := Kd.R_form ka.out (by omega)
                (first | cases Wh | (injection Wh with ea_ en_ ec_; (first | subst ea_ | (injection ea_ with ea_; subst ea_)); subst ec_; clear en_))
                have GB94 := aM_ Xh
                have GG94 := aM_ HG94
                clear Xh gl94 HG94
                (first | simp only [add_plain] at cd | skip)
                (first | simp only [add_plain] at dd | skip)
                (first | simp only [add_plain] at ed | skip)
                (first | simp only [add_plain] at fd | skip)
                (first | simp only [add_plain] at gd | skip)
                (first | simp only [add_plain] at id | skip)
                (first | simp only [add_plain] at jd | skip)
                (first | simp only [add_plain] at kd | skip)
                (first | simp only [add_plain] at ld | skip)
                obtain ⟨ce94, hcl94, hM94, hcc94, hfr94⟩ := Kd.R_elem ka.out z35 ((ba) : Int) Ve We
                obtain rfl := k35_openM hM94
                have Pf : World.cell? _ ⟨go94, ((ba) : Int).toNat * 9, none⟩ = some (.string ((rd_T35 ha (ba)).f0)) := hcc94 0 _ rfl
                have Qf : World.cell? _ ⟨go94, ((ba) : Int).toNat * 9 + 1, none⟩ = some (.string ((rd_T35 ha (ba)).f1)) := hcc94 1 _ rfl
                have Rf : World.cell? _ ⟨go94, ((ba) : Int).toNat * 9 + 2, none⟩ = some (.int .u64 ((rd_T35 ha (ba)).f2)) := hcc94 2 _ rfl
                have Sf : World.cell? _ ⟨go94, ((ba) : Int).toNat * 9 + 3, none⟩ = some (.int .i64 ((rd_T35 ha (ba)).f3)) := hcc94 3 _ rfl
                have Tf : World.cell? _ ⟨go94, ((ba) : Int).toNat * 9 + 4, none⟩ = some (.int .i64 ((rd_T35 ha (ba)).f4)) := hcc94 4 _ rfl
                have Uf : World.cell? _ ⟨go94, ((ba) : Int).toNat * 9 + 5, none⟩ = some (.int .i64 ((rd_T35 ha (ba)).f5)) := hcc94 5 _ rfl
                have Vf : World.cell? _ ⟨go94, ((ba) : Int).toNat * 9 + 6, none⟩ = some (.int .i64 ((rd_T35 ha (ba)).f6)) := hcc94 6 _ rfl
                have Wf : World.cell? _ ⟨go94, ((ba) : Int).toNat * 9 + 7, none⟩ = some (.int .i64 ((rd_T35 ha (ba)).f7)) := hcc94 7 _ rfl
                have Xf : World.cell? _ ⟨go94, ((ba) : Int).toNat * 9 + 8, none⟩ = some (.int .i64 ((rd_T35 ha (ba)).f8)) := hcc94 8 _ rfl
                have hf94_0 : World.frozen? _ ⟨go94, ((ba) : Int).toNat * 9, none⟩ = false := hfr94 0
                have hf94_1 : World.frozen? _ ⟨go94, ((ba) : Int).toNat * 9 + 1, none⟩ = false := hfr94 1
                have hf94_2 : World.frozen? _ ⟨go94, ((ba) : Int).toNat * 9 + 2, none⟩ = false := hfr94 2
                have hf94_3 : World.frozen? _ ⟨go94, ((ba) : Int).toNat * 9 + 3, none⟩ = false := hfr94 3
                have hf94_4 : World.frozen? _ ⟨go94, ((ba) : Int).toNat * 9 + 4, none⟩ = false := hfr94 4
                have hf94_5 : World.frozen? _ ⟨go94, ((ba) : Int).toNat * 9 + 5, none⟩ = false := hfr94 5
                have hf94_6 : World.frozen? _ ⟨go94, ((ba) : Int).toNat * 9 + 6, none⟩ = false := hfr94 6
                have hf94_7 : World.frozen? _ ⟨go94, ((ba) : Int).toNat * 9 + 7, none⟩ = false := hfr94 7
                have hf94_8 : World.frozen? _ ⟨go94, ((ba) : Int).toNat * 9 + 8, none⟩ = false := hfr94 8
                clear hcl94 hcc94 hfr94 hM94
                replace Ve := eq_true Ve
                replace We := eq_true We
                obtain ⟨ce105, hcl105, hM105, hcc105, hfr105⟩ := Kd.R_elem ka.out z35 ((ba) : Int) dT_ (by have h_ : ((ba) : Int) < ((ha.length : Int) : Int) := dT_; first | exact h_ | (have e_ := (Kd.R_reads' ka.out).1; omega) | simpa using h_)
                obtain rfl := k35_openM hM105
                have HP105 := (Kd.R_seg ka.out ((ba) : Int) dT_ (by have h_ : ((ba) : Int) < ((ha.length : Int) : Int) := dT_; first | exact h_ | (have e_ := (Kd.R_reads' ka.out).1; omega) | simpa using h_) (seg := [.string cc, .string dc, .int .u64 ec, .int .i64 fc, .int .i64 gc, .int .i64 hc, .int .i64 ic, .int .i64 jc, .int .i64 kc]) (j := 0) hcl105 hcc105 (show 9 ≤ 9 from by decide) (x' := (⟨cc, dc, ec, fc, gc, hc, ic, jc, kc⟩ : S35)) (k35_mkM _ _ _ (⟨cc, dc, ec, fc, gc, hc, ic, jc, kc⟩ : S35) ) (fun _ hk => hk)).1
                rw [← Ny351.out] at HP105
                have HQ105 := aM_ HP105
                clear hcl105 hcc105 hfr105 hM105 HP105
                refine hK.out _ _ ⟨bc_ ja.out 0, bc_ ja.out 1, kj, lj, mj, nj, oj, pj, qj, rj, qi⟩ (fun hHeld => ?_)
                clear hK K
                refine nO_ 104 ?_
                refine pU_ 12 (some 105) (bo_ 14 8191) ?_
                refine last_ (i := 13) (N := none) (bo_ 14 16383) rfl rfl (one_of HT_.out (by kernel_rfl)) (by decide) (fun K hK => ?_)
                refine skip_ (w1 := ?_) (by rfl) rfl ?_ ?_
                rotate_left; (· go_simp; rfl)
                refine hK.out _ _ ?_
                clear hK K
                refine done_ (done_of HT_.out (by kernel_rfl)) ?_
                try go_upto_region 16 with fail
                have Ab : Aside0 (Kd.R k35 35 (((((((((vd.setCell ⟨go94, ((ba) : Int).toNat * 9, none⟩ (.string cc)).setCell ⟨go94, ((ba) : Int).toNat * 9 + 1, none⟩ (.string dc)).setCell ⟨go94, ((ba) : Int).toNat * 9 + 2, none⟩ (.int .u64 ec)).setCell ⟨go94, ((ba) : Int).toNat * 9 + 3, none⟩ (.int .i64 fc)).setCell ⟨go94, ((ba) : Int).toNat * 9 + 4, none⟩ (.int .i64 gc)).setCell ⟨go94, ((ba) : Int).toNat * 9 + 5, none⟩ (.int .i64 hc)).setCell ⟨go94, ((ba) : Int).toNat * 9 + 6, none⟩ (.int .i64 ic)).setCell ⟨go94, ((ba) : Int).toNat * 9 + 7, none⟩ (.int .i64 jc)).setCell ⟨go94, ((ba) : Int).toNat * 9 + 8, none⟩ (.int .i64 kc)) w.heap.size (fun k_ => some k_ ≠ (.slice (some ⟨go94, 0, none⟩) ha.length ub : Value).ownBlock ∧ k_ ≠ aa) (.slice Da na.length Ea) na) := ⟨by refine bk_ ?_; exact Kd.R_mono (Kd.R_far (p := ⟨go94, ((ba) : Int).toNat * 9 + 8, none⟩) (Kd.R_far (p := ⟨go94, ((ba) : Int).toNat * 9 + 7, none⟩) (Kd.R_far (p := ⟨go94, ((ba) : Int).toNat * 9 + 6, none⟩) (Kd.R_far (p := ⟨go94, ((ba) : Int).toNat * 9 + 5, none⟩) (Kd.R_far (p := ⟨go94, ((ba) : Int).toNat * 9 + 4, none⟩) (Kd.R_far (p := ⟨go94, ((ba) : Int).toNat * 9 + 3, none⟩) (Kd.R_far (p := ⟨go94, ((ba) : Int).toNat * 9 + 2, none⟩) (Kd.R_far (p := ⟨go94, ((ba) : Int).toNat * 9 + 1, none⟩) (Kd.R_far (p := ⟨go94, ((ba) : Int).toNat * 9, none⟩) (Kd.R_mono ca.out (fun k_ hk => (⟨hk, fun e_ => hk.1 (by rw [e_]; rfl)⟩ : _ ∧ k_ ≠ go94))) (fun _ hk => hk.2) (.string cc)) (fun _ hk => hk.2) (.string dc)) (fun _ hk => hk.2) (.int .u64 ec)) (fun _ hk => hk.2) (.int .i64 fc)) (fun _ hk => hk.2) (.int .i64 gc)) (fun _ hk => hk.2) (.int .i64 hc)) (fun _ hk => hk.2) (.int .i64 ic)) (fun _ hk => hk.2) (.int .i64 jc)) (fun _ hk => hk.2) (.int .i64 kc)) (fun _ hk => ⟨hk.1.1, hk.1.2⟩)⟩
                have Bb : Aside0 (Kd.R k35 35 (((((((((vd.setCell ⟨go94, ((ba) : Int).toNat * 9, none⟩ (.string cc)).setCell ⟨go94, ((ba) : Int).toNat * 9 + 1, none⟩ (.string dc)).setCell ⟨go94, ((ba) : Int).toNat * 9 + 2, none⟩ (.int .u64 ec)).setCell ⟨go94, ((ba) : Int).toNat * 9 + 3, none⟩ (.int .i64 fc)).setCell ⟨go94, ((ba) : Int).toNat * 9 + 4, none⟩ (.int .i64 gc)).setCell ⟨go94, ((ba) : Int).toNat * 9 + 5, none⟩ (.int .i64 hc)).setCell ⟨go94, ((ba) : Int).toNat * 9 + 6, none⟩ (.int .i64 ic)).setCell ⟨go94, ((ba) : Int).toNat * 9 + 7, none⟩ (.int .i64 jc)).setCell ⟨go94, ((ba) : Int).toNat * 9 + 8, none⟩ (.int .i64 kc)) w.heap.size (fun k_ => some k_ ≠ (.slice Da na.length Ea : Value).ownBlock ∧ k_ ≠ aa) (.slice (some ⟨go94, 0, none⟩) ha.length ub) ga) := ⟨by refine bk_ ?_; exact HQ105.out⟩
                have Cb : Aside0 ((((((((((vd.setCell ⟨go94, ((ba) : Int).toNat * 9, none⟩ (.string cc)).setCell ⟨go94, ((ba) : Int).toNat * 9 + 1, none⟩ (.string dc)).setCell ⟨go94, ((ba) : Int).toNat * 9 + 2, none⟩ (.int .u64 ec)).setCell ⟨go94, ((ba) : Int).toNat * 9 + 3, none⟩ (.int .i64 fc)).setCell ⟨go94, ((ba) : Int).toNat * 9 + 4, none⟩ (.int .i64 gc)).setCell ⟨go94, ((ba) : Int).toNat * 9 + 5, none⟩ (.int .i64 hc)).setCell ⟨go94, ((ba) : Int).toNat * 9 + 6, none⟩ (.int .i64 ic)).setCell ⟨go94, ((ba) : Int).toNat * 9 + 7, none⟩ (.int .i64 jc)).setCell ⟨go94, ((ba) : Int).toNat * 9 + 8, none⟩ (.int .i64 kc)).heap[sa]? = some (.cells #[.string ra, .slice za pa.length Aa] 24 (0, 0))) := ⟨by refine bk_ ?_; refine blk_far ?_ (by have h_ := Kd.R_ne ka.out ea.out (by decide); intro e_; exact h_ (by rw [e_]; rfl)) _; refine bk_ ?_; refine blk_far ?_ (by have h_ := Kd.R_ne ka.out ea.out (by decide); intro e_; exact h_ (by rw [e_]; rfl)) _; refine bk_ ?_; refine blk_far ?_ (by have h_ := Kd.R_ne ka.out ea.out (by decide); intro e_; exact h_ (by rw [e_]; rfl)) _; refine bk_ ?_; refine blk_far ?_ (by have h_ := Kd.R_ne ka.out ea.out (by decide); intro e_; exact h_ (by rw [e_]; rfl)) _; refine bk_ ?_; refine blk_far ?_ (by have h_ := Kd.R_ne ka.out ea.out (by decide); intro e_; exact h_ (by rw [e_]; rfl)) _; refine bk_ ?_; refine blk_far ?_ (by have h_ := Kd.R_ne ka.out ea.out (by decide); intro e_; exact h_ (by rw [e_]; rfl)) _; refine bk_ ?_; refine blk_far ?_ (by have h_ := Kd.R_ne ka.out ea.out (by decide); intro e_; exact h_ (by rw [e_]; rfl)) _; refine bk_ ?_; refine blk_far ?_ (by have h_ := Kd.R_ne ka.out ea.out (by decide); intro e_; exact h_ (by rw [e_]; rfl)) _; refine bk_ ?_; refine blk_far ?_ (by have h_ := Kd.R_ne ka.out ea.out (by decide); intro e_; exact h_ (by rw [e_]; rfl)) _; refine bk_ ?_; exact ea.out⟩
                have Db : Aside0 ((((((((((vd.setCell ⟨go94, ((ba) : Int).toNat * 9, none⟩ (.string cc)).setCell ⟨go94, ((ba) : Int).toNat * 9 + 1, none⟩ (.string dc)).setCell ⟨go94, ((ba) : Int).toNat * 9 + 2, none⟩ (.int .u64 ec)).setCell ⟨go94, ((ba) : Int).toNat * 9 + 3, none⟩ (.int .i64 fc)).setCell ⟨go94, ((ba) : Int).toNat * 9 + 4, none⟩ (.int .i64 gc)).setCell ⟨go94, ((ba) : Int).toNat * 9 + 5, none⟩ (.int .i64 hc)).setCell ⟨go94, ((ba) : Int).toNat * 9 + 6, none⟩ (.int .i64 ic)).setCell ⟨go94, ((ba) : Int).toNat * 9 + 7, none⟩ (.int .i64 jc)).setCell ⟨go94, ((ba) : Int).toNat * 9 + 8, none⟩ (.int .i64 kc)).heap[ma]? = some (.cells #[.string ia, .slice Da na.length Ea] 24 (0, 0))) := ⟨by refine bk_ ?_; refine blk_far ?_ (by have h_ := Kd.R_ne ka.out da.out (by decide); intro e_; exact h_ (by rw [e_]; rfl)) _; refine bk_ ?_; refine blk_far ?_ (by have h_ := Kd.R_ne ka.out da.out (by decide); intro e_; exact h_ (by rw [e_]; rfl)) _; refine bk_ ?_; refine blk_far ?_ (by have h_ := Kd.R_ne ka.out da.out (by decide); intro e_; exact h_ (by rw [e_]; rfl)) _; refine bk_ ?_; refine blk_far ?_ (by have h_ := Kd.R_ne ka.out da.out (by decide); intro e_; exact h_ (by rw [e_]; rfl)) _; refine bk_ ?_; refine blk_far ?_ (by have h_ := Kd.R_ne ka.out da.out (by decide); intro e_; exact h_ (by rw [e_]; rfl)) _; refine bk_ ?_; refine blk_far ?_ (by have h_ := Kd.R_ne ka.out da.out (by decide); intro e_; exact h_ (by rw [e_]; rfl)) _; refine bk_ ?_; refine blk_far ?_ (by have h_ := Kd.R_ne ka.out da.out (by decide); intro e_; exact h_ (by rw [e_]; rfl)) _; refine bk_ ?_; refine blk_far ?_ (by have h_ := Kd.R_ne ka.out da.out (by decide); intro e_; exact h_ (by rw [e_]; rfl)) _; refine bk_ ?_; refine blk_far ?_ (by have h_ := Kd.R_ne ka.out da.out (by decide); intro e_; exact h_ (by rw [e_]; rfl)) _; refine bk_ ?_; exact da.out⟩
                have ac : Aside0 ((((((((((vd.setCell ⟨go94, ((ba) : Int).toNat * 9, none⟩ (.string cc)).setCell ⟨go94, ((ba) : Int).toNat * 9 + 1, none⟩ (.string dc)).setCell ⟨go94, ((ba) : Int).toNat * 9 + 2, none⟩ (.int .u64 ec)).setCell ⟨go94, ((ba) : Int).toNat * 9 + 3, none⟩ (.int .i64 fc)).setCell ⟨go94, ((ba) : Int).toNat * 9 + 4, none⟩ (.int .i64 gc)).setCell ⟨go94, ((ba) : Int).toNat * 9 + 5, none⟩ (.int .i64 hc)).setCell ⟨go94, ((ba) : Int).toNat * 9 + 6, none⟩ (.int .i64 ic)).setCell ⟨go94, ((ba) : Int).toNat * 9 + 7, none⟩ (.int .i64 jc)).setCell ⟨go94, ((ba) : Int).toNat * 9 + 8, none⟩ (.int .i64 kc)).heap[aa]? = some (.cells #[.string Ba, .string Ca, .int .u64 Fa, .int .i64 Ga, .int .i64 Ha, .int .i64 Ja, .int .i64 Ka, .int .i64 La, .int .i64 Oa] 35 (0, 0))) := ⟨by refine bk_ ?_; refine blk_far ?_ (by have h_ := Kd.R_away ka.out (fun _ hk => hk.2); intro e_; exact h_ (by rw [e_]; rfl)) _; refine bk_ ?_; refine blk_far ?_ (by have h_ := Kd.R_away ka.out (fun _ hk => hk.2); intro e_; exact h_ (by rw [e_]; rfl)) _; refine bk_ ?_; refine blk_far ?_ (by have h_ := Kd.R_away ka.out (fun _ hk => hk.2); intro e_; exact h_ (by rw [e_]; rfl)) _; refine bk_ ?_; refine blk_far ?_ (by have h_ := Kd.R_away ka.out (fun _ hk => hk.2); intro e_; exact h_ (by rw [e_]; rfl)) _; refine bk_ ?_; refine blk_far ?_ (by have h_ := Kd.R_away ka.out (fun _ hk => hk.2); intro e_; exact h_ (by rw [e_]; rfl)) _; refine bk_ ?_; refine blk_far ?_ (by have h_ := Kd.R_away ka.out (fun _ hk => hk.2); intro e_; exact h_ (by rw [e_]; rfl)) _; refine bk_ ?_; refine blk_far ?_ (by have h_ := Kd.R_away ka.out (fun _ hk => hk.2); intro e_; exact h_ (by rw [e_]; rfl)) _; refine bk_ ?_; refine blk_far ?_ (by have h_ := Kd.R_away ka.out (fun _ hk => hk.2); intro e_; exact h_ (by rw [e_]; rfl)) _; refine bk_ ?_; refine blk_far ?_ (by have h_ := Kd.R_away ka.out (fun _ hk => hk.2); intro e_; exact h_ (by rw [e_]; rfl)) _; refine bk_ ?_; exact fa.out⟩
                have sc : Aside0 ((((((((((vd.setCell ⟨go94, ((ba) : Int).toNat * 9, none⟩ (.string cc)).setCell ⟨go94, ((ba) : Int).toNat * 9 + 1, none⟩ (.string dc)).setCell ⟨go94, ((ba) : Int).toNat * 9 + 2, none⟩ (.int .u64 ec)).setCell ⟨go94, ((ba) : Int).toNat * 9 + 3, none⟩ (.int .i64 fc)).setCell ⟨go94, ((ba) : Int).toNat * 9 + 4, none⟩ (.int .i64 gc)).setCell ⟨go94, ((ba) : Int).toNat * 9 + 5, none⟩ (.int .i64 hc)).setCell ⟨go94, ((ba) : Int).toNat * 9 + 6, none⟩ (.int .i64 ic)).setCell ⟨go94, ((ba) : Int).toNat * 9 + 7, none⟩ (.int .i64 jc)).setCell ⟨go94, ((ba) : Int).toNat * 9 + 8, none⟩ (.int .i64 kc)).heap[oa]? = some (.cells #[.string ia, .slice (some ⟨go94, 0, none⟩) ha.length ub] 24 (0, 0))) := ⟨by refine bk_ ?_; refine blk_far ?_ (by have h_ := Kd.R_ne ka.out ja.out (by decide); intro e_; exact h_ (by rw [e_]; rfl)) _; refine bk_ ?_; refine blk_far ?_ (by have h_ := Kd.R_ne ka.out ja.out (by decide); intro e_; exact h_ (by rw [e_]; rfl)) _; refine bk_ ?_; refine blk_far ?_ (by have h_ := Kd.R_ne ka.out ja.out (by decide); intro e_; exact h_ (by rw [e_]; rfl)) _; refine bk_ ?_; refine blk_far ?_ (by have h_ := Kd.R_ne ka.out ja.out (by decide); intro e_; exact h_ (by rw [e_]; rfl)) _; refine bk_ ?_; refine blk_far ?_ (by have h_ := Kd.R_ne ka.out ja.out (by decide); intro e_; exact h_ (by rw [e_]; rfl)) _; refine bk_ ?_; refine blk_far ?_ (by have h_ := Kd.R_ne ka.out ja.out (by decide); intro e_; exact h_ (by rw [e_]; rfl)) _; refine bk_ ?_; refine blk_far ?_ (by have h_ := Kd.R_ne ka.out ja.out (by decide); intro e_; exact h_ (by rw [e_]; rfl)) _; refine bk_ ?_; refine blk_far ?_ (by have h_ := Kd.R_ne ka.out ja.out (by decide); intro e_; exact h_ (by rw [e_]; rfl)) _; refine bk_ ?_; refine blk_far ?_ (by have h_ := Kd.R_ne ka.out ja.out (by decide); intro e_; exact h_ (by rw [e_]; rfl)) _; refine bk_ ?_; exact ja.out⟩
                have Md : Aside0 (Below w.heap.size w (((((((((vd.setCell ⟨go94, ((ba) : Int).toNat * 9, none⟩ (.string cc)).setCell ⟨go94, ((ba) : Int).toNat * 9 + 1, none⟩ (.string dc)).setCell ⟨go94, ((ba) : Int).toNat * 9 + 2, none⟩ (.int .u64 ec)).setCell ⟨go94, ((ba) : Int).toNat * 9 + 3, none⟩ (.int .i64 fc)).setCell ⟨go94, ((ba) : Int).toNat * 9 + 4, none⟩ (.int .i64 gc)).setCell ⟨go94, ((ba) : Int).toNat * 9 + 5, none⟩ (.int .i64 hc)).setCell ⟨go94, ((ba) : Int).toNat * 9 + 6, none⟩ (.int .i64 ic)).setCell ⟨go94, ((ba) : Int).toNat * 9 + 7, none⟩ (.int .i64 jc)).setCell ⟨go94, ((ba) : Int).toNat * 9 + 8, none⟩ (.int .i64 kc))) := ⟨hB_⟩
                (try clear ca)
                (try clear ka)
                (try clear ea)
                (try clear da)
                (try clear fa)
                (try clear ja)
                (try clear HB)
                generalize (((((((((vd.setCell ⟨go94, ((ba) : Int).toNat * 9, none⟩ (.string cc)).setCell ⟨go94, ((ba) : Int).toNat * 9 + 1, none⟩ (.string dc)).setCell ⟨go94, ((ba) : Int).toNat * 9 + 2, none⟩ (.int .u64 ec)).setCell ⟨go94, ((ba) : Int).toNat * 9 + 3, none⟩ (.int .i64 fc)).setCell ⟨go94, ((ba) : Int).toNat * 9 + 4, none⟩ (.int .i64 gc)).setCell ⟨go94, ((ba) : Int).toNat * 9 + 5, none⟩ (.int .i64 hc)).setCell ⟨go94, ((ba) : Int).toNat * 9 + 6, none⟩ (.int .i64 ic)).setCell ⟨go94, ((ba) : Int).toNat * 9 + 7, none⟩ (.int .i64 jc)).setCell ⟨go94, ((ba) : Int).toNat * 9 + 8, none⟩ (.int .i64 kc)) = sj at Ab Bb Cb Db ac sc Md ⊢
                have ca := Ab
                have ka := Bb
                have ea := Cb
                have da := Db
                have fa := ac
                have ja := sc
                have HB := Md
                clear Ab Bb Cb Db ac sc Md
                replace ca := aM_ (Kd.R_drew ca.out)
                replace ka := aM_ (Kd.R_drew ka.out)
                replace ea := aM_ (blk_drew ea.out)
                replace da := aM_ (blk_drew da.out)
                replace fa := aM_ (blk_drew fa.out)
                replace ja := aM_ (blk_drew ja.out)
                replace HB := aM_ (bD_ HB.out)
                have Xe : 0 ≤ ((ba) : Int) := dT_
                have Ye : (ba) < (ga.length : Int) := (by have h_ : ((ba) : Int) < ((ha.length : Int) : Int) := dT_; first | (have e_ := (Kd.R_reads' ka.out).1; omega) | simpa only [Ny351.out, List.length_set] using h_)
                have ql352 : (((ba) : Int) < ((ha.length : Int) : Int)) = True := eq_true dT_
                obtain ⟨ri, tj, yc, zc, Ac, Bc, Cc, Dc, Ec, Fc, Gc⟩ := at_T35 (Kd.R_reads' ka.out).2.2 (ba) Xe Ye
                obtain rfl : (⟨go94, 0, none⟩ : Addr) = ri := (by injection tj)
                (first | simp only [add_plain] at yc | simp only [add_at] at yc | simp only [Addr.add, Nat.zero_add] at yc | skip)
                (first | simp only [add_plain] at zc | simp only [add_at] at zc | simp only [Addr.add, Nat.zero_add] at zc | skip)
                (first | simp only [add_plain] at Ac | simp only [add_at] at Ac | simp only [Addr.add, Nat.zero_add] at Ac | skip)
                (first | simp only [add_plain] at Bc | simp only [add_at] at Bc | simp only [Addr.add, Nat.zero_add] at Bc | skip)
                (first | simp only [add_plain] at Cc | simp only [add_at] at Cc | simp only [Addr.add, Nat.zero_add] at Cc | skip)
                (first | simp only [add_plain] at Dc | simp only [add_at] at Dc | simp only [Addr.add, Nat.zero_add] at Dc | skip)
                (first | simp only [add_plain] at Ec | simp only [add_at] at Ec | simp only [Addr.add, Nat.zero_add] at Ec | skip)
                (first | simp only [add_plain] at Fc | simp only [add_at] at Fc | simp only [Addr.add, Nat.zero_add] at Fc | skip)
                (first | simp only [add_plain] at Gc | simp only [add_at] at Gc | simp only [Addr.add, Nat.zero_add] at Gc | skip)
                replace Xe := eq_true Xe
                replace Ye := eq_true Ye
                have Ze : 0 ≤ (0 : Int) := (by omega)
                have af : 0 < (ga.length : Int) := (by have h_ : (0 : Int) < ((ha.length : Int) : Int) := dT_; first | (have e_ := (Kd.R_reads' ka.out).1; omega) | simpa only [Ny351.out, List.length_set] using h_)
                have ql353 : ((0 : Int) < ((ha.length : Int) : Int)) = True := eq_true dT_
                (try have qn353 : (0 < ha.length) = True := eq_true (by have h_ : (0 : Int) < ((ha.length : Int) : Int) := dT_; omega))
                obtain ⟨si, uj, Hb, Ib, Jb, Kb, Lb, Mb, Nb, Ob, Pb⟩ := at_T35 (Kd.R_reads' ka.out).2.2 0 Ze af
                obtain rfl : (⟨go94, 0, none⟩ : Addr) = si := (by injection uj)
                (first | simp only [add_plain] at Hb | simp only [add_at] at Hb | simp only [Addr.add, Nat.zero_add] at Hb | skip)
                (first | simp only [add_plain] at Ib | simp only [add_at] at Ib | simp only [Addr.add, Nat.zero_add] at Ib | skip)
                (first | simp only [add_plain] at Jb | simp only [add_at] at Jb | simp only [Addr.add, Nat.zero_add] at Jb | skip)
                (first | simp only [add_plain] at Kb | simp only [add_at] at Kb | simp only [Addr.add, Nat.zero_add] at Kb | skip)
                (first | simp only [add_plain] at Lb | simp only [add_at] at Lb | simp only [Addr.add, Nat.zero_add] at Lb | skip)
                (first | simp only [add_plain] at Mb | simp only [add_at] at Mb | simp only [Addr.add, Nat.zero_add] at Mb | skip)
                (first | simp only [add_plain] at Nb | simp only [add_at] at Nb | simp only [Addr.add, Nat.zero_add] at Nb | skip)
                (first | simp only [add_plain] at Ob | simp only [add_at] at Ob | simp only [Addr.add, Nat.zero_add] at Ob | skip)
                (first | simp only [add_plain] at Pb | simp only [add_at] at Pb | simp only [Addr.add, Nat.zero_add] at Pb | skip)
                have qi353 : (0 < ga.length) = True := eq_true (by omega)
                (try rw [show ((0 : Int)).toNat = 0 from rfl] at Hb)
                (try rw [show 0 * 9 = 0 from rfl] at Hb)
                (try rw [Addr.add_zero'] at Hb)
                (try rw [show ((0 : Int)).toNat = 0 from rfl] at Ib)
                (try rw [show 0 * 9 = 0 from rfl] at Ib)
                (try rw [Addr.add_zero'] at Ib)
                (try rw [show ((0 : Int)).toNat = 0 from rfl] at Jb)
                (try rw [show 0 * 9 = 0 from rfl] at Jb)
                (try rw [Addr.add_zero'] at Jb)
                (try rw [show ((0 : Int)).toNat = 0 from rfl] at Kb)
                (try rw [show 0 * 9 = 0 from rfl] at Kb)
                (try rw [Addr.add_zero'] at Kb)
                (try rw [show ((0 : Int)).toNat = 0 from rfl] at Lb)
                (try rw [show 0 * 9 = 0 from rfl] at Lb)
                (try rw [Addr.add_zero'] at Lb)
                (try rw [show ((0 : Int)).toNat = 0 from rfl] at Mb)
                (try rw [show 0 * 9 = 0 from rfl] at Mb)
                (try rw [Addr.add_zero'] at Mb)
                (try rw [show ((0 : Int)).toNat = 0 from rfl] at Nb)
                (try rw [show 0 * 9 = 0 from rfl] at Nb)
                (try rw [Addr.add_zero'] at Nb)
                (try rw [show ((0 : Int)).toNat = 0 from rfl] at Ob)
                (try rw [show 0 * 9 = 0 from rfl] at Ob)
                (try rw [Addr.add_zero'] at Ob)
                (try rw [show ((0 : Int)).toNat = 0 from rfl] at Pb)
                (try rw [show 0 * 9 = 0 from rfl] at Pb)
                (try rw [Addr.add_zero'] at Pb)
                replace Ze := eq_true Ze
                replace af := eq_true af
                have bf : 0 ≤ (0 : Int) := (by omega)
                have cf : (0 : Int) < ((ha.length : Int) : Int) := dT_
                have qi96 : (0 < ha.length) = True := eq_true (by omega)
                obtain ⟨ce96, hcl96, hM96, hcc96, hfr96⟩ := Kd.R_elem ka.out z35 (0 : Int) bf cf
                obtain rfl := k35_openM hM96
                have wd : World.cell? _ ⟨go94, (0 : Int).toNat * 9, none⟩ = some (.string ((rd_T35 ga 0).f0)) := hcc96 0 _ rfl
                have xd : World.cell? _ ⟨go94, (0 : Int).toNat * 9 + 1, none⟩ = some (.string ((rd_T35 ga 0).f1)) := hcc96 1 _ rfl
                have yd : World.cell? _ ⟨go94, (0 : Int).toNat * 9 + 2, none⟩ = some (.int .u64 ((rd_T35 ga 0).f2)) := hcc96 2 _ rfl
                have zd : World.cell? _ ⟨go94, (0 : Int).toNat * 9 + 3, none⟩ = some (.int .i64 ((rd_T35 ga 0).f3)) := hcc96 3 _ rfl
                have Ad : World.cell? _ ⟨go94, (0 : Int).toNat * 9 + 4, none⟩ = some (.int .i64 ((rd_T35 ga 0).f4)) := hcc96 4 _ rfl
                have Bd : World.cell? _ ⟨go94, (0 : Int).toNat * 9 + 5, none⟩ = some (.int .i64 ((rd_T35 ga 0).f5)) := hcc96 5 _ rfl
                have Cd : World.cell? _ ⟨go94, (0 : Int).toNat * 9 + 6, none⟩ = some (.int .i64 ((rd_T35 ga 0).f6)) := hcc96 6 _ rfl
                have Dd : World.cell? _ ⟨go94, (0 : Int).toNat * 9 + 7, none⟩ = some (.int .i64 ((rd_T35 ga 0).f7)) := hcc96 7 _ rfl
                have Ed : World.cell? _ ⟨go94, (0 : Int).toNat * 9 + 8, none⟩ = some (.int .i64 ((rd_T35 ga 0).f8)) := hcc96 8 _ rfl
                have hf96_0 : World.frozen? _ ⟨go94, (0 : Int).toNat * 9, none⟩ = false := hfr96 0
                have hf96_1 : World.frozen? _ ⟨go94, (0 : Int).toNat * 9 + 1, none⟩ = false := hfr96 1
                have hf96_2 : World.frozen? _ ⟨go94, (0 : Int).toNat * 9 + 2, none⟩ = false := hfr96 2
                have hf96_3 : World.frozen? _ ⟨go94, (0 : Int).toNat * 9 + 3, none⟩ = false := hfr96 3
                have hf96_4 : World.frozen? _ ⟨go94, (0 : Int).toNat * 9 + 4, none⟩ = false := hfr96 4
                have hf96_5 : World.frozen? _ ⟨go94, (0 : Int).toNat * 9 + 5, none⟩ = false := hfr96 5
                have hf96_6 : World.frozen? _ ⟨go94, (0 : Int).toNat * 9 + 6, none⟩ = false := hfr96 6
                have hf96_7 : World.frozen? _ ⟨go94, (0 : Int).toNat * 9 + 7, none⟩ = false := hfr96 7
                have hf96_8 : World.frozen? _ ⟨go94, (0 : Int).toNat * 9 + 8, none⟩ = false := hfr96 8
                clear hcl96 hcc96 hfr96 hM96
                (try rw [show ((0 : Int)).toNat = 0 from rfl] at wd)
                (try simp only [Nat.reduceMul, Nat.zero_mul, Nat.zero_add, Nat.reduceAdd] at wd)
                (try rw [show ((0 : Int)).toNat = 0 from rfl] at hf96_0)
                (try simp only [Nat.reduceMul, Nat.zero_mul, Nat.zero_add, Nat.reduceAdd] at hf96_0)
                (try rw [show ((0 : Int)).toNat = 0 from rfl] at xd)
                (try simp only [Nat.reduceMul, Nat.zero_mul, Nat.zero_add, Nat.reduceAdd] at xd)
                (try rw [show ((0 : Int)).toNat = 0 from rfl] at hf96_1)
                (try simp only [Nat.reduceMul, Nat.zero_mul, Nat.zero_add, Nat.reduceAdd] at hf96_1)
                (try rw [show ((0 : Int)).toNat = 0 from rfl] at yd)
                (try simp only [Nat.reduceMul, Nat.zero_mul, Nat.zero_add, Nat.reduceAdd] at yd)
                (try rw [show ((0 : Int)).toNat = 0 from rfl] at hf96_2)
                (try simp only [Nat.reduceMul, Nat.zero_mul, Nat.zero_add, Nat.reduceAdd] at hf96_2)
                (try rw [show ((0 : Int)).toNat = 0 from rfl] at zd)
                (try simp only [Nat.reduceMul, Nat.zero_mul, Nat.zero_add, Nat.reduceAdd] at zd)
                (try rw [show ((0 : Int)).toNat = 0 from rfl] at hf96_3)
                (try simp only [Nat.reduceMul, Nat.zero_mul, Nat.zero_add, Nat.reduceAdd] at hf96_3)
                (try rw [show ((0 : Int)).toNat = 0 from rfl] at Ad)
                (try simp only [Nat.reduceMul, Nat.zero_mul, Nat.zero_add, Nat.reduceAdd] at Ad)
                (try rw [show ((0 : Int)).toNat = 0 from rfl] at hf96_4)
                (try simp only [Nat.reduceMul, Nat.zero_mul, Nat.zero_add, Nat.reduceAdd] at hf96_4)
                (try rw [show ((0 : Int)).toNat = 0 from rfl] at Bd)
                (try simp only [Nat.reduceMul, Nat.zero_mul, Nat.zero_add, Nat.reduceAdd] at Bd)
                (try rw [show ((0 : Int)).toNat = 0 from rfl] at hf96_5)
                (try simp only [Nat.reduceMul, Nat.zero_mul, Nat.zero_add, Nat.reduceAdd] at hf96_5)
                (try rw [show ((0 : Int)).toNat = 0 from rfl] at Cd)
                (try simp only [Nat.reduceMul, Nat.zero_mul, Nat.zero_add, Nat.reduceAdd] at Cd)
                (try rw [show ((0 : Int)).toNat = 0 from rfl] at hf96_6)
                (try simp only [Nat.reduceMul, Nat.zero_mul, Nat.zero_add, Nat.reduceAdd] at hf96_6)
                (try rw [show ((0 : Int)).toNat = 0 from rfl] at Dd)
                (try simp only [Nat.reduceMul, Nat.zero_mul, Nat.zero_add, Nat.reduceAdd] at Dd)
                (try rw [show ((0 : Int)).toNat = 0 from rfl] at hf96_7)
                (try simp only [Nat.reduceMul, Nat.zero_mul, Nat.zero_add, Nat.reduceAdd] at hf96_7)
                (try rw [show ((0 : Int)).toNat = 0 from rfl] at Ed)
                (try simp only [Nat.reduceMul, Nat.zero_mul, Nat.zero_add, Nat.reduceAdd] at Ed)
                (try rw [show ((0 : Int)).toNat = 0 from rfl] at hf96_8)
                (try simp only [Nat.reduceMul, Nat.zero_mul, Nat.zero_add, Nat.reduceAdd] at hf96_8)
                replace bf := eq_true bf
                replace cf := eq_true cf
                obtain ⟨ce108, hcl108, hM108, hcc108, hfr108⟩ := Kd.R_elem ka.out z35 (0 : Int) (by omega) (by have h_ : (0 : Int) < ((ha.length : Int) : Int) := dT_; first | exact h_ | (have e_ := (Kd.R_reads' ka.out).1; omega) | simpa using h_)
                obtain rfl := k35_openM hM108
                have HP108 := (Kd.R_seg ka.out (0 : Int) (by omega) (by have h_ : (0 : Int) < ((ha.length : Int) : Int) := dT_; first | exact h_ | (have e_ := (Kd.R_reads' ka.out).1; omega) | simpa using h_) (seg := [.string ((rd_T35 ga (ba)).f0), .string ((rd_T35 ga (ba)).f1), .int .u64 ((rd_T35 ga (ba)).f2), .int .i64 ((rd_T35 ga (ba)).f3), .int .i64 ((rd_T35 ga (ba)).f4), .int .i64 ((rd_T35 ga (ba)).f5), .int .i64 ((rd_T35 ga (ba)).f6), .int .i64 ((rd_T35 ga (ba)).f7), .int .i64 ((rd_T35 ga (ba)).f8)]) (j := 0) hcl108 hcc108 (show 9 ≤ 9 from by decide) (x' := (⟨(rd_T35 ga (ba)).f0, (rd_T35 ga (ba)).f1, (rd_T35 ga (ba)).f2, (rd_T35 ga (ba)).f3, (rd_T35 ga (ba)).f4, (rd_T35 ga (ba)).f5, (rd_T35 ga (ba)).f6, (rd_T35 ga (ba)).f7, (rd_T35 ga (ba)).f8⟩ : S35)) (k35_mkM _ _ _ (⟨(rd_T35 ga (ba)).f0, (rd_T35 ga (ba)).f1, (rd_T35 ga (ba)).f2, (rd_T35 ga (ba)).f3, (rd_T35 ga (ba)).f4, (rd_T35 ga (ba)).f5, (rd_T35 ga (ba)).f6, (rd_T35 ga (ba)).f7, (rd_T35 ga (ba)).f8⟩ : S35) ) (fun _ hk => hk)).1
                rw [← Ny354.out] at HP108
                simp only [World.setCells, show (0 : Int).toNat = 0 from rfl, Nat.zero_mul, Nat.zero_add, Nat.add_zero, Nat.add_assoc, Nat.reduceAdd] at HP108
                have HQ108 := aM_ HP108
                clear hcl108 hcc108 hfr108 hM108 HP108
                have df : 0 ≤ ((ba) : Int) := dT_
                have ef : ((ba) : Int) < ((ha.length : Int) : Int) := dT_
                obtain ⟨ce97, hcl97, hM97, hcc97, hfr97⟩ := Kd.R_elem HQ108.out z35 ((ba) : Int) df ef
                obtain rfl := k35_openM hM97
                have ff : World.cell? _ ⟨go94, ((ba) : Int).toNat * 9, none⟩ = some (.string ((rd_T35 Uc (ba)).f0)) := hcc97 0 _ rfl
                have gf : World.cell? _ ⟨go94, ((ba) : Int).toNat * 9 + 1, none⟩ = some (.string ((rd_T35 Uc (ba)).f1)) := hcc97 1 _ rfl
                have hf : World.cell? _ ⟨go94, ((ba) : Int).toNat * 9 + 2, none⟩ = some (.int .u64 ((rd_T35 Uc (ba)).f2)) := hcc97 2 _ rfl
                have jf : World.cell? _ ⟨go94, ((ba) : Int).toNat * 9 + 3, none⟩ = some (.int .i64 ((rd_T35 Uc (ba)).f3)) := hcc97 3 _ rfl
                have kf : World.cell? _ ⟨go94, ((ba) : Int).toNat * 9 + 4, none⟩ = some (.int .i64 ((rd_T35 Uc (ba)).f4)) := hcc97 4 _ rfl
                have lf : World.cell? _ ⟨go94, ((ba) : Int).toNat * 9 + 5, none⟩ = some (.int .i64 ((rd_T35 Uc (ba)).f5)) := hcc97 5 _ rfl
                have mf : World.cell? _ ⟨go94, ((ba) : Int).toNat * 9 + 6, none⟩ = some (.int .i64 ((rd_T35 Uc (ba)).f6)) := hcc97 6 _ rfl
                have nf : World.cell? _ ⟨go94, ((ba) : Int).toNat * 9 + 7, none⟩ = some (.int .i64 ((rd_T35 Uc (ba)).f7)) := hcc97 7 _ rfl
                have pf : World.cell? _ ⟨go94, ((ba) : Int).toNat * 9 + 8, none⟩ = some (.int .i64 ((rd_T35 Uc (ba)).f8)) := hcc97 8 _ rfl
                have hf97_0 : World.frozen? _ ⟨go94, ((ba) : Int).toNat * 9, none⟩ = false := hfr97 0
                have hf97_1 : World.frozen? _ ⟨go94, ((ba) : Int).toNat * 9 + 1, none⟩ = false := hfr97 1
                have hf97_2 : World.frozen? _ ⟨go94, ((ba) : Int).toNat * 9 + 2, none⟩ = false := hfr97 2
                have hf97_3 : World.frozen? _ ⟨go94, ((ba) : Int).toNat * 9 + 3, none⟩ = false := hfr97 3
                have hf97_4 : World.frozen? _ ⟨go94, ((ba) : Int).toNat * 9 + 4, none⟩ = false := hfr97 4
                have hf97_5 : World.frozen? _ ⟨go94, ((ba) : Int).toNat * 9 + 5, none⟩ = false := hfr97 5
                have hf97_6 : World.frozen? _ ⟨go94, ((ba) : Int).toNat * 9 + 6, none⟩ = false := hfr97 6
                have hf97_7 : World.frozen? _ ⟨go94, ((ba) : Int).toNat * 9 + 7, none⟩ = false := hfr97 7
                have hf97_8 : World.frozen? _ ⟨go94, ((ba) : Int).toNat * 9 + 8, none⟩ = false := hfr97 8
                clear hcl97 hcc97 hfr97 hM97
                replace df := eq_true df
                replace ef := eq_true ef
                obtain ⟨ce109, hcl109, hM109, hcc109, hfr109⟩ := Kd.R_elem HQ108.out z35 ((ba) : Int) dT_ (by have h_ : ((ba) : Int) < ((ha.length : Int) : Int) := dT_; first | exact h_ | (have e_ := (Kd.R_reads' ka.out).1; omega) | simpa using h_)
                obtain rfl := k35_openM hM109
                have HP109 := (Kd.R_seg HQ108.out ((ba) : Int) dT_ (by have h_ : ((ba) : Int) < ((ha.length : Int) : Int) := dT_; first | exact h_ | (have e_ := (Kd.R_reads' ka.out).1; omega) | simpa using h_) (seg := [.string ((rd_T35 ga 0).f0), .string ((rd_T35 ga 0).f1), .int .u64 ((rd_T35 ga 0).f2), .int .i64 ((rd_T35 ga 0).f3), .int .i64 ((rd_T35 ga 0).f4), .int .i64 ((rd_T35 ga 0).f5), .int .i64 ((rd_T35 ga 0).f6), .int .i64 ((rd_T35 ga 0).f7), .int .i64 ((rd_T35 ga 0).f8)]) (j := 0) hcl109 hcc109 (show 9 ≤ 9 from by decide) (x' := (⟨(rd_T35 ga 0).f0, (rd_T35 ga 0).f1, (rd_T35 ga 0).f2, (rd_T35 ga 0).f3, (rd_T35 ga 0).f4, (rd_T35 ga 0).f5, (rd_T35 ga 0).f6, (rd_T35 ga 0).f7, (rd_T35 ga 0).f8⟩ : S35)) (k35_mkM _ _ _ (⟨(rd_T35 ga 0).f0, (rd_T35 ga 0).f1, (rd_T35 ga 0).f2, (rd_T35 ga 0).f3, (rd_T35 ga 0).f4, (rd_T35 ga 0).f5, (rd_T35 ga 0).f6, (rd_T35 ga 0).f7, (rd_T35 ga 0).f8⟩ : S35) ) (fun _ hk => hk)).1
                rw [← Ny355.out] at HP109
                simp only [World.setCells, show (0 : Int).toNat = 0 from rfl, Nat.zero_mul, Nat.zero_add, Nat.add_zero, Nat.add_assoc, Nat.reduceAdd] at HP109
                have HQ109 := aM_ HP109
                clear hcl109 hcc109 hfr109 hM109 HP109
                refine start_ (n := 18) (S := fun w' => w'.cell? ⟨oa, 0, none⟩ = some (.string ia) ∧ w'.cell? ⟨oa, 1, none⟩ = some (.slice (some ⟨go94, 0, none⟩) ha.length ub) ∧ w'.cell? ⟨go94, ((ba)).toNat * 9, none⟩ = some (.string ((rd_T35 ga (ba)).f0)) ∧ w'.cell? ⟨go94, ((ba)).toNat * 9 + 1, none⟩ = some (.string ((rd_T35 ga (ba)).f1)) ∧ w'.cell? ⟨go94, ((ba)).toNat * 9 + 2, none⟩ = some (.int .u64 ((rd_T35 ga (ba)).f2)) ∧ w'.cell? ⟨go94, ((ba)).toNat * 9 + 3, none⟩ = some (.int .i64 ((rd_T35 ga (ba)).f3)) ∧ w'.cell? ⟨go94, ((ba)).toNat * 9 + 4, none⟩ = some (.int .i64 ((rd_T35 ga (ba)).f4)) ∧ w'.cell? ⟨go94, ((ba)).toNat * 9 + 5, none⟩ = some (.int .i64 ((rd_T35 ga (ba)).f5)) ∧ w'.cell? ⟨go94, ((ba)).toNat * 9 + 6, none⟩ = some (.int .i64 ((rd_T35 ga (ba)).f6)) ∧ w'.cell? ⟨go94, ((ba)).toNat * 9 + 7, none⟩ = some (.int .i64 ((rd_T35 ga (ba)).f7)) ∧ w'.cell? ⟨go94, ((ba)).toNat * 9 + 8, none⟩ = some (.int .i64 ((rd_T35 ga (ba)).f8)) ∧ w'.cell? ⟨go94, 0, none⟩ = some (.string ((rd_T35 ga 0).f0)) ∧ w'.cell? ⟨go94, 1, none⟩ = some (.string ((rd_T35 ga 0).f1)) ∧ w'.cell? ⟨go94, 2, none⟩ = some (.int .u64 ((rd_T35 ga 0).f2)) ∧ w'.cell? ⟨go94, 3, none⟩ = some (.int .i64 ((rd_T35 ga 0).f3)) ∧ w'.cell? ⟨go94, 4, none⟩ = some (.int .i64 ((rd_T35 ga 0).f4)) ∧ w'.cell? ⟨go94, 5, none⟩ = some (.int .i64 ((rd_T35 ga 0).f5)) ∧ w'.cell? ⟨go94, 6, none⟩ = some (.int .i64 ((rd_T35 ga 0).f6)) ∧ w'.cell? ⟨go94, 7, none⟩ = some (.int .i64 ((rd_T35 ga 0).f7)) ∧ w'.cell? ⟨go94, 8, none⟩ = some (.int .i64 ((rd_T35 ga 0).f8))) (ds := [15, 17]) (bo_ 18 0) (by kernel_rfl) rfl rfl ⟨bc_ ja.out 0, bc_ ja.out 1, yc, zc, Ac, Bc, Cc, Dc, Ec, Fc, Gc, Hb, Ib, Jb, Kb, Lb, Mb, Nb, Ob, Pb⟩ (fun hHeld => ?_); refine with_tabW kerbsuitelaw12_DatabaseChecks.tab16 kerbsuitelaw12_DatabaseChecks.bits16 (fun HT_ HW_ => ?_)
                generalize sj.drew = jm at ca ka ea da fa ja HB HQ105 HQ108 HQ109 hf96_0 hf96_1 hf96_2 hf96_3 hf96_4 hf96_5 hf96_6 hf96_7 hf96_8 hf97_0 hf97_1 hf97_2 hf97_3 hf97_4 hf97_5 hf97_6 hf97_7 hf97_8 yc zc Ac Bc Cc Dc Ec Fc Gc Hb Ib Jb Kb Lb Mb Nb Ob Pb wd xd yd zd Ad Bd Cd Dd Ed ff gf hf jf kf lf mf nf pf hHeld ⊢
                refine pU_ 0 (some 106) (bo_ 18 1) ?_
                refine pU_ 2 (some 108) (bo_ 18 5) ?_
                refine pU_ 4 (some 110) (bo_ 18 21) ?_
                refine pU_ 5 (some 111) (bo_ 18 53) ?_
                refine pU_ 7 (some 113) (bo_ 18 181) ?_
                refine pU_ 10 (some 116) (bo_ 18 1205) ?_
                refine take_ (i := 1) (N := some 107) (v := ?_) (a' := ?_) (bo_ 18 1207) rfl rfl (take_ofW HT_.out HW_.out (by kernel_rfl)) (fun _ _ _ h => h) (Or.inl ⟨by rfl, ?_⟩) hHeld ?_ ?_
                rotate_left; (· rintro w' ⟨s0, s1, s2, s3, s4, s5, s6, s7, s8, s9, Ue, Hg, Ig, Jg, Kg, Lg, Mg, Ng, Og, Pg⟩; go_simp; with_reducible rfl)
                rotate_left; (· simp only [Act.put,sA_,sB_,sC_,i64_w,i32_w]; rfl)
                refine take_ (i := 6) (N := some 112) (v := ?_) (a' := ?_) (bo_ 18 1271) rfl rfl (take_ofW HT_.out HW_.out (by kernel_rfl)) (fun _ _ _ h => h) (Or.inl ⟨by rfl, ?_⟩) hHeld ?_ ?_
                rotate_left; (· rintro w' ⟨s0, s1, s2, s3, s4, s5, s6, s7, s8, s9, Ue, Hg, Ig, Jg, Kg, Lg, Mg, Ng, Og, Pg⟩; go_simp; with_reducible rfl)
                rotate_left; (· simp only [Act.put,sA_,sB_,sC_,i64_w,i32_w]; rfl)
                refine pU_ 8 (some 114) (bo_ 18 1527) ?_
                refine take_ (i := 9) (N := some 115) (v := ?_) (a' := ?_) (bo_ 18 2039) rfl rfl (take_ofW HT_.out HW_.out (by kernel_rfl)) (fun _ _ _ h => h) (Or.inl ⟨by rfl, ?_⟩) hHeld ?_ ?_
                rotate_left; (· rintro w' ⟨s0, s1, s2, s3, s4, s5, s6, s7, s8, s9, Ue, Hg, Ig, Jg, Kg, Lg, Mg, Ng, Og, Pg⟩; go_simp; with_reducible rfl)
                rotate_left; (· simp only [Act.put,sA_,sB_,sC_,i64_w,i32_w]; rfl)
                refine take_ (i := 11) (N := some 117) (v := ?_) (a' := ?_) (bo_ 18 4087) rfl rfl (take_ofW HT_.out HW_.out (by kernel_rfl)) (fun _ _ _ h => h) (Or.inl ⟨by rfl, ?_⟩) hHeld ?_ ?_
                rotate_left; (· rintro w' ⟨s0, s1, s2, s3, s4, s5, s6, s7, s8, s9, Ue, Hg, Ig, Jg, Kg, Lg, Mg, Ng, Og, Pg⟩; go_simp; with_reducible rfl)
                rotate_left; (· simp only [Act.put,sA_,sB_,sC_,i64_w,i32_w]; rfl)
                refine pU_ 12 (some 118) (bo_ 18 8183) ?_
                refine take_ (i := 13) (N := some 119) (v := ?_) (a' := ?_) (bo_ 18 16375) rfl rfl (take_ofW HT_.out HW_.out (by kernel_rfl)) (fun _ _ _ h => h) (Or.inl ⟨by rfl, ?_⟩) hHeld ?_ ?_
                rotate_left; (· rintro w' ⟨s0, s1, s2, s3, s4, s5, s6, s7, s8, s9, Ue, Hg, Ig, Jg, Kg, Lg, Mg, Ng, Og, Pg⟩; go_simp; with_reducible rfl)
                rotate_left; (· simp only [Act.put,sA_,sB_,sC_,i64_w,i32_w]; rfl)
                refine pU_ 14 (some 120) (bo_ 18 32759) ?_
                have hne_ : oa ≠ go94 := (by have h_ := Kd.R_ne ka.out ja.out (by decide); intro e_; exact h_ (by rw [e_]; rfl))
                refine lT_ 3 15 (some 109) (bo_ 18 32767) (fun w' => w'.cell? ⟨oa, 1, none⟩ = some (.slice (some ⟨go94, 0, none⟩) ha.length ub)) ?_ (hHeld.2.1) ?_
                rotate_left
                ·repeat (first | (with_reducible exact hHeld.2.1) | (with_reducible refine farS_ hne_ ?_))
                refine last_ (i := 15) (N := none) (bo_ 18 65535) rfl rfl (one_of HT_.out (by kernel_rfl)) (by decide) (fun K hK => ?_)
                refine skip_ (w1 := ?_) (by rfl) rfl ?_ ?_
                rotate_left; (· go_simp; rfl)
                refine hK.out _ _ ?_
                clear hK K
                refine hide_ fun W1_ hW1_ => ?_
                rw [← hW1_.out] at ff gf hf jf kf lf mf nf pf hf97_0 hf97_1 hf97_2 hf97_3 hf97_4 hf97_5 hf97_6 hf97_7 hf97_8
                refine pU_ 16 (some 121) (bo_ 18 131071) ?_
                refine last_ (i := 17) (N := none) (bo_ 18 262143) rfl rfl (one_of HT_.out (by kernel_rfl)) (by decide) (fun K hK => ?_)
                refine skip_ (w1 := ?_) (by rfl) rfl ?_ ?_
                rotate_left; (· go_simp; rfl)
                refine hK.out _ _ ?_
                clear hK K
                obtain ⟨hW1_⟩ := hW1_
                subst hW1_
                refine hide_ fun W1_ hW1_ => ?_
                refine done_ (done_of HT_.out (by kernel_rfl)) ?_
                obtain ⟨hW1_⟩ := hW1_
                subst hW1_
                try go_wp2
                go_meet
                case rel => exact ⟨_, (na), (Ba), (Ca), (Fa), (Ga), (Ha), (Ja), (Ka), (La), (Oa), (Vh), (.slice Da na.length Ea), (.slice (some ⟨go94, 0, none⟩) ha.length ub), H', ⟨by have := ve.out; have := re.out; have := Gf.out; first | omega | exact Nat.le_refl _⟩, ⟨by refine bk_ ?_; exact Kd.R_mono (Kd.R_far (p := ⟨go94, ((ba) : Int).toNat * 9 + 8, none⟩) (Kd.R_far (p := ⟨go94, ((ba) : Int).toNat * 9 + 7, none⟩) (Kd.R_far (p := ⟨go94, ((ba) : Int).toNat * 9 + 6, none⟩) (Kd.R_far (p := ⟨go94, ((ba) : Int).toNat * 9 + 5, none⟩) (Kd.R_far (p := ⟨go94, ((ba) : Int).toNat * 9 + 4, none⟩) (Kd.R_far (p := ⟨go94, ((ba) : Int).toNat * 9 + 3, none⟩) (Kd.R_far (p := ⟨go94, ((ba) : Int).toNat * 9 + 2, none⟩) (Kd.R_far (p := ⟨go94, ((ba) : Int).toNat * 9 + 1, none⟩) (Kd.R_far (p := ⟨go94, ((ba) : Int).toNat * 9, none⟩) (Kd.R_far (p := ⟨go94, 8, none⟩) (Kd.R_far (p := ⟨go94, 7, none⟩) (Kd.R_far (p := ⟨go94, 6, none⟩) (Kd.R_far (p := ⟨go94, 5, none⟩) (Kd.R_far (p := ⟨go94, 4, none⟩) (Kd.R_far (p := ⟨go94, 3, none⟩) (Kd.R_far (p := ⟨go94, 2, none⟩) (Kd.R_far (p := ⟨go94, 1, none⟩) (Kd.R_far (p := ⟨go94, 0, none⟩) (Kd.R_mono ca.out (fun k_ hk => (⟨hk, fun e_ => hk.1 (by rw [e_]; rfl)⟩ : _ ∧ k_ ≠ go94))) (fun _ hk => hk.2) (.string ((rd_T35 ga (ba)).f0))) (fun _ hk => hk.2) (.string ((rd_T35 ga (ba)).f1))) (fun _ hk => hk.2) (.int .u64 ((rd_T35 ga (ba)).f2))) (fun _ hk => hk.2) (.int .i64 ((rd_T35 ga (ba)).f3))) (fun _ hk => hk.2) (.int .i64 ((rd_T35 ga (ba)).f4))) (fun _ hk => hk.2) (.int .i64 ((rd_T35 ga (ba)).f5))) (fun _ hk => hk.2) (.int .i64 ((rd_T35 ga (ba)).f6))) (fun _ hk => hk.2) (.int .i64 ((rd_T35 ga (ba)).f7))) (fun _ hk => hk.2) (.int .i64 ((rd_T35 ga (ba)).f8))) (fun _ hk => hk.2) (.string ((rd_T35 ga 0).f0))) (fun _ hk => hk.2) (.string ((rd_T35 ga 0).f1))) (fun _ hk => hk.2) (.int .u64 ((rd_T35 ga 0).f2))) (fun _ hk => hk.2) (.int .i64 ((rd_T35 ga 0).f3))) (fun _ hk => hk.2) (.int .i64 ((rd_T35 ga 0).f4))) (fun _ hk => hk.2) (.int .i64 ((rd_T35 ga 0).f5))) (fun _ hk => hk.2) (.int .i64 ((rd_T35 ga 0).f6))) (fun _ hk => hk.2) (.int .i64 ((rd_T35 ga 0).f7))) (fun _ hk => hk.2) (.int .i64 ((rd_T35 ga 0).f8))) (fun _ hk => ⟨hk.1.1, hk.1.2⟩)⟩, ⟨by refine bk_ ?_; exact HQ109.out⟩, ⟨by refine bk_ ?_; refine blk_far ?_ (by have h_ := Kd.R_ne ka.out ea.out (by decide); intro e_; exact h_ (by rw [e_]; rfl)) _; refine bk_ ?_; refine blk_far ?_ (by have h_ := Kd.R_ne ka.out ea.out (by decide); intro e_; exact h_ (by rw [e_]; rfl)) _; refine bk_ ?_; refine blk_far ?_ (by have h_ := Kd.R_ne ka.out ea.out (by decide); intro e_; exact h_ (by rw [e_]; rfl)) _; refine bk_ ?_; refine blk_far ?_ (by have h_ := Kd.R_ne ka.out ea.out (by decide); intro e_; exact h_ (by rw [e_]; rfl)) _; refine bk_ ?_; refine blk_far ?_ (by have h_ := Kd.R_ne ka.out ea.out (by decide); intro e_; exact h_ (by rw [e_]; rfl)) _; refine bk_ ?_; refine blk_far ?_ (by have h_ := Kd.R_ne ka.out ea.out (by decide); intro e_; exact h_ (by rw [e_]; rfl)) _; refine bk_ ?_; refine blk_far ?_ (by have h_ := Kd.R_ne ka.out ea.out (by decide); intro e_; exact h_ (by rw [e_]; rfl)) _; refine bk_ ?_; refine blk_far ?_ (by have h_ := Kd.R_ne ka.out ea.out (by decide); intro e_; exact h_ (by rw [e_]; rfl)) _; refine bk_ ?_; refine blk_far ?_ (by have h_ := Kd.R_ne ka.out ea.out (by decide); intro e_; exact h_ (by rw [e_]; rfl)) _; refine bk_ ?_; refine blk_far ?_ (by have h_ := Kd.R_ne ka.out ea.out (by decide); intro e_; exact h_ (by rw [e_]; rfl)) _; refine bk_ ?_; refine blk_far ?_ (by have h_ := Kd.R_ne ka.out ea.out (by decide); intro e_; exact h_ (by rw [e_]; rfl)) _; refine bk_ ?_; refine blk_far ?_ (by have h_ := Kd.R_ne ka.out ea.out (by decide); intro e_; exact h_ (by rw [e_]; rfl)) _; refine bk_ ?_; refine blk_far ?_ (by have h_ := Kd.R_ne ka.out ea.out (by decide); intro e_; exact h_ (by rw [e_]; rfl)) _; refine bk_ ?_; refine blk_far ?_ (by have h_ := Kd.R_ne ka.out ea.out (by decide); intro e_; exact h_ (by rw [e_]; rfl)) _; refine bk_ ?_; refine blk_far ?_ (by have h_ := Kd.R_ne ka.out ea.out (by decide); intro e_; exact h_ (by rw [e_]; rfl)) _; refine bk_ ?_; refine blk_far ?_ (by have h_ := Kd.R_ne ka.out ea.out (by decide); intro e_; exact h_ (by rw [e_]; rfl)) _; refine bk_ ?_; refine blk_far ?_ (by have h_ := Kd.R_ne ka.out ea.out (by decide); intro e_; exact h_ (by rw [e_]; rfl)) _; refine bk_ ?_; refine blk_far ?_ (by have h_ := Kd.R_ne ka.out ea.out (by decide); intro e_; exact h_ (by rw [e_]; rfl)) _; refine bk_ ?_; exact ea.out⟩, ⟨by refine bk_ ?_; refine blk_far ?_ (by have h_ := Kd.R_ne ka.out da.out (by decide); intro e_; exact h_ (by rw [e_]; rfl)) _; refine bk_ ?_; refine blk_far ?_ (by have h_ := Kd.R_ne ka.out da.out (by decide); intro e_; exact h_ (by rw [e_]; rfl)) _; refine bk_ ?_; refine blk_far ?_ (by have h_ := Kd.R_ne ka.out da.out (by decide); intro e_; exact h_ (by rw [e_]; rfl)) _; refine bk_ ?_; refine blk_far ?_ (by have h_ := Kd.R_ne ka.out da.out (by decide); intro e_; exact h_ (by rw [e_]; rfl)) _; refine bk_ ?_; refine blk_far ?_ (by have h_ := Kd.R_ne ka.out da.out (by decide); intro e_; exact h_ (by rw [e_]; rfl)) _; refine bk_ ?_; refine blk_far ?_ (by have h_ := Kd.R_ne ka.out da.out (by decide); intro e_; exact h_ (by rw [e_]; rfl)) _; refine bk_ ?_; refine blk_far ?_ (by have h_ := Kd.R_ne ka.out da.out (by decide); intro e_; exact h_ (by rw [e_]; rfl)) _; refine bk_ ?_; refine blk_far ?_ (by have h_ := Kd.R_ne ka.out da.out (by decide); intro e_; exact h_ (by rw [e_]; rfl)) _; refine bk_ ?_; refine blk_far ?_ (by have h_ := Kd.R_ne ka.out da.out (by decide); intro e_; exact h_ (by rw [e_]; rfl)) _; refine bk_ ?_; refine blk_far ?_ (by have h_ := Kd.R_ne ka.out da.out (by decide); intro e_; exact h_ (by rw [e_]; rfl)) _; refine bk_ ?_; refine blk_far ?_ (by have h_ := Kd.R_ne ka.out da.out (by decide); intro e_; exact h_ (by rw [e_]; rfl)) _; refine bk_ ?_; refine blk_far ?_ (by have h_ := Kd.R_ne ka.out da.out (by decide); intro e_; exact h_ (by rw [e_]; rfl)) _; refine bk_ ?_; refine blk_far ?_ (by have h_ := Kd.R_ne ka.out da.out (by decide); intro e_; exact h_ (by rw [e_]; rfl)) _; refine bk_ ?_; refine blk_far ?_ (by have h_ := Kd.R_ne ka.out da.out (by decide); intro e_; exact h_ (by rw [e_]; rfl)) _; refine bk_ ?_; refine blk_far ?_ (by have h_ := Kd.R_ne ka.out da.out (by decide); intro e_; exact h_ (by rw [e_]; rfl)) _; refine bk_ ?_; refine blk_far ?_ (by have h_ := Kd.R_ne ka.out da.out (by decide); intro e_; exact h_ (by rw [e_]; rfl)) _; refine bk_ ?_; refine blk_far ?_ (by have h_ := Kd.R_ne ka.out da.out (by decide); intro e_; exact h_ (by rw [e_]; rfl)) _; refine bk_ ?_; refine blk_far ?_ (by have h_ := Kd.R_ne ka.out da.out (by decide); intro e_; exact h_ (by rw [e_]; rfl)) _; refine bk_ ?_; exact da.out⟩, ⟨by refine bk_ ?_; refine blk_far ?_ (by have h_ := Kd.R_away ka.out (fun _ hk => hk.2); intro e_; exact h_ (by rw [e_]; rfl)) _; refine bk_ ?_; refine blk_far ?_ (by have h_ := Kd.R_away ka.out (fun _ hk => hk.2); intro e_; exact h_ (by rw [e_]; rfl)) _; refine bk_ ?_; refine blk_far ?_ (by have h_ := Kd.R_away ka.out (fun _ hk => hk.2); intro e_; exact h_ (by rw [e_]; rfl)) _; refine bk_ ?_; refine blk_far ?_ (by have h_ := Kd.R_away ka.out (fun _ hk => hk.2); intro e_; exact h_ (by rw [e_]; rfl)) _; refine bk_ ?_; refine blk_far ?_ (by have h_ := Kd.R_away ka.out (fun _ hk => hk.2); intro e_; exact h_ (by rw [e_]; rfl)) _; refine bk_ ?_; refine blk_far ?_ (by have h_ := Kd.R_away ka.out (fun _ hk => hk.2); intro e_; exact h_ (by rw [e_]; rfl)) _; refine bk_ ?_; refine blk_far ?_ (by have h_ := Kd.R_away ka.out (fun _ hk => hk.2); intro e_; exact h_ (by rw [e_]; rfl)) _; refine bk_ ?_; refine blk_far ?_ (by have h_ := Kd.R_away ka.out (fun _ hk => hk.2); intro e_; exact h_ (by rw [e_]; rfl)) _; refine bk_ ?_; refine blk_far ?_ (by have h_ := Kd.R_away ka.out (fun _ hk => hk.2); intro e_; exact h_ (by rw [e_]; rfl)) _; refine bk_ ?_; refine blk_far ?_ (by have h_ := Kd.R_away ka.out (fun _ hk => hk.2); intro e_; exact h_ (by rw [e_]; rfl)) _; refine bk_ ?_; refine blk_far ?_ (by have h_ := Kd.R_away ka.out (fun _ hk => hk.2); intro e_; exact h_ (by rw [e_]; rfl)) _; refine bk_ ?_; refine blk_far ?_ (by have h_ := Kd.R_away ka.out (fun _ hk => hk.2); intro e_; exact h_ (by rw [e_]; rfl)) _; refine bk_ ?_; refine blk_far ?_ (by have h_ := Kd.R_away ka.out (fun _ hk => hk.2); intro e_; exact h_ (by rw [e_]; rfl)) _; refine bk_ ?_; refine blk_far ?_ (by have h_ := Kd.R_away ka.out (fun _ hk => hk.2); intro e_; exact h_ (by rw [e_]; rfl)) _; refine bk_ ?_; refine blk_far ?_ (by have h_ := Kd.R_away ka.out (fun _ hk => hk.2); intro e_; exact h_ (by rw [e_]; rfl)) _; refine bk_ ?_; refine blk_far ?_ (by have h_ := Kd.R_away ka.out (fun _ hk => hk.2); intro e_; exact h_ (by rw [e_]; rfl)) _; refine bk_ ?_; refine blk_far ?_ (by have h_ := Kd.R_away ka.out (fun _ hk => hk.2); intro e_; exact h_ (by rw [e_]; rfl)) _; refine bk_ ?_; refine blk_far ?_ (by have h_ := Kd.R_away ka.out (fun _ hk => hk.2); intro e_; exact h_ (by rw [e_]; rfl)) _; refine bk_ ?_; exact fa.out⟩, ⟨by refine bk_ ?_; refine blk_far ?_ (by have h_ := Kd.R_ne ka.out ja.out (by decide); intro e_; exact h_ (by rw [e_]; rfl)) _; refine bk_ ?_; refine blk_far ?_ (by have h_ := Kd.R_ne ka.out ja.out (by decide); intro e_; exact h_ (by rw [e_]; rfl)) _; refine bk_ ?_; refine blk_far ?_ (by have h_ := Kd.R_ne ka.out ja.out (by decide); intro e_; exact h_ (by rw [e_]; rfl)) _; refine bk_ ?_; refine blk_far ?_ (by have h_ := Kd.R_ne ka.out ja.out (by decide); intro e_; exact h_ (by rw [e_]; rfl)) _; refine bk_ ?_; refine blk_far ?_ (by have h_ := Kd.R_ne ka.out ja.out (by decide); intro e_; exact h_ (by rw [e_]; rfl)) _; refine bk_ ?_; refine blk_far ?_ (by have h_ := Kd.R_ne ka.out ja.out (by decide); intro e_; exact h_ (by rw [e_]; rfl)) _; refine bk_ ?_; refine blk_far ?_ (by have h_ := Kd.R_ne ka.out ja.out (by decide); intro e_; exact h_ (by rw [e_]; rfl)) _; refine bk_ ?_; refine blk_far ?_ (by have h_ := Kd.R_ne ka.out ja.out (by decide); intro e_; exact h_ (by rw [e_]; rfl)) _; refine bk_ ?_; refine blk_far ?_ (by have h_ := Kd.R_ne ka.out ja.out (by decide); intro e_; exact h_ (by rw [e_]; rfl)) _; refine bk_ ?_; refine blk_far ?_ (by have h_ := Kd.R_ne ka.out ja.out (by decide); intro e_; exact h_ (by rw [e_]; rfl)) _; refine bk_ ?_; refine blk_far ?_ (by have h_ := Kd.R_ne ka.out ja.out (by decide); intro e_; exact h_ (by rw [e_]; rfl)) _; refine bk_ ?_; refine blk_far ?_ (by have h_ := Kd.R_ne ka.out ja.out (by decide); intro e_; exact h_ (by rw [e_]; rfl)) _; refine bk_ ?_; refine blk_far ?_ (by have h_ := Kd.R_ne ka.out ja.out (by decide); intro e_; exact h_ (by rw [e_]; rfl)) _; refine bk_ ?_; refine blk_far ?_ (by have h_ := Kd.R_ne ka.out ja.out (by decide); intro e_; exact h_ (by rw [e_]; rfl)) _; refine bk_ ?_; refine blk_far ?_ (by have h_ := Kd.R_ne ka.out ja.out (by decide); intro e_; exact h_ (by rw [e_]; rfl)) _; refine bk_ ?_; refine blk_far ?_ (by have h_ := Kd.R_ne ka.out ja.out (by decide); intro e_; exact h_ (by rw [e_]; rfl)) _; refine bk_ ?_; refine blk_far ?_ (by have h_ := Kd.R_ne ka.out ja.out (by decide); intro e_; exact h_ (by rw [e_]; rfl)) _; refine bk_ ?_; refine blk_far ?_ (by have h_ := Kd.R_ne ka.out ja.out (by decide); intro e_; exact h_ (by rw [e_]; rfl)) _; refine bk_ ?_; exact ja.out⟩, ⟨hB_⟩⟩
               rw [if_neg Af] at H
               exact absurd H (by simp)
              rw [if_neg zf] at H
              exact absurd H (by simp)
             rw [if_neg yf] at H
             exact absurd H (by simp)
            rw [if_neg Ae] at H
            have od : decide (0 < (ha.length : Int)) = false := decide_eq_false Ae
            have If : decide (0 < ha.length) = false := decide_eq_false (by omega)
            have nz_ : ¬ (0 < ha.length) := by omega
            clear Ae
            (first | rw [od] | (simp only [i64_w, i32_w]; rw [od]) | skip)
            have H' := aM_ H
            clear H
            go_wp2
            go_meet
            case rel => exact ⟨_, (na), (Ba), (Ca), (Fa), (Ga), (Ha), (Ja), (Ka), (La), (Oa), (ha), (.slice Da na.length Ea), (.slice Zb ha.length ub), H', ⟨by have := ve.out; have := re.out; have := Gf.out; first | omega | exact Nat.le_refl _⟩, ⟨by refine bk_ ?_; exact Kd.R_mono (Kd.R_far (p := ⟨oa, 1, none⟩) (Kd.R_far (p := ⟨oa, 0, none⟩) (Kd.R_types ca.out ja.out (by decide)) (fun _ hk => hk.2) (.string ia)) (fun _ hk => hk.2) (.slice Zb ha.length ub)) (fun _ hk => ⟨hk.1.1, hk.1.2⟩)⟩, ⟨by refine bk_ ?_; exact Kd.R_mono (Kd.R_far (p := ⟨oa, 1, none⟩) (Kd.R_far (p := ⟨oa, 0, none⟩) (Kd.R_types ka.out ja.out (by decide)) (fun _ hk => hk.2) (.string ia)) (fun _ hk => hk.2) (.slice Zb ha.length ub)) (fun _ hk => ⟨hk.1.1, hk.1.2⟩)⟩, ⟨by refine bk_ ?_; refine blk_far ?_ ob.out _; refine bk_ ?_; refine blk_far ?_ ob.out _; refine bk_ ?_; exact ea.out⟩, ⟨by refine bk_ ?_; refine blk_far ?_ jb.out _; refine bk_ ?_; refine blk_far ?_ jb.out _; refine bk_ ?_; exact da.out⟩, ⟨by refine bk_ ?_; refine blk_far ?_ pb.out _; refine bk_ ?_; refine blk_far ?_ pb.out _; refine bk_ ?_; exact fa.out⟩, ⟨by refine bk_ ?_; refine blk_put (cs := #[.string ia, .slice none 0 0]) ?_ 1 _ rfl; refine bk_ ?_; refine blk_put (cs := #[.string (⟨#[]⟩ : ByteArray), .slice none 0 0]) ?_ 0 _ rfl; refine bk_ ?_; exact ja.out⟩, ⟨hB_⟩⟩
           case rest =>
            clear ig
            try clear c1
            try clear p2
            try clear p3
            try clear q3
            try clear Ci
            try clear qi3
            try clear c8
            try clear c9
            try clear p9
            try clear q9
            try clear Jk
            try clear qi9
            try clear hf9
            try clear Bh
            try clear Di
            try clear Pi
            try clear Qi
            try clear vj
            try clear Ri
            try clear Si
            try clear wj
            try clear qi35
            try clear Ae
            try clear od
            try clear If
            try clear yf
            try clear zf
            try clear Kk
            try clear Ve
            try clear We
            try clear xj
            try clear hf94
            try clear Af
            try clear Lk
            try clear bf
            try clear cf
            try clear yj
            try clear qi96
            try clear hf96
            try clear Mk
            try clear df
            try clear ef
            try clear zj
            try clear hf97
            try clear Aj
            try clear Bj
            try clear Cj
            try clear cd
            try clear dd
            try clear ed
            try clear fd
            try clear gd
            try clear id
            try clear jd
            try clear kd
            try clear ld
            try clear yc
            try clear zc
            try clear Ac
            try clear Bc
            try clear Cc
            try clear Dc
            try clear Ec
            try clear Fc
            try clear Gc
            try clear Hb
            try clear Ib
            try clear Jb
            try clear Kb
            try clear Lb
            try clear Mb
            try clear Nb
            try clear Ob
            try clear Pb
            try clear Pf
            try clear Qf
            try clear Rf
            try clear Sf
            try clear Tf
            try clear Uf
            try clear Vf
            try clear Wf
            try clear Xf
            try clear wd
            try clear xd
            try clear yd
            try clear zd
            try clear Ad
            try clear Bd
            try clear Cd
            try clear Dd
            try clear Ed
            try clear ff
            try clear gf
            try clear hf
            try clear jf
            try clear kf
            try clear lf
            try clear mf
            try clear nf
            try clear pf
            try clear Se
            try clear Xe
            try clear Ze
            try clear Ve
            try clear bf
            try clear df
            try clear Te
            try clear Ye
            try clear af
            try clear We
            try clear cf
            try clear ef
            obtain ⟨kq, la, Ra, Sa, Ta, Ua, Va, Wa, Xa, Ya, Za, ya, Jd, nb, HA, Yh, ca, qa, ea, da, fa, ja, HB⟩ := hcut
            cases kq with
            | zero => exact absurd HA.out (by simp [kerbsuitelaw12_DatabaseChecks.j3])
            | succ Zh =>
             have H := HA.out
             clear HA
             simp only [kerbsuitelaw12_DatabaseChecks.j3] at H
             have H' := aM_ H
             clear H
             have Nk := we.out
             have Ok := lc.out
             have Pk := fb.out
             have Qk := ye.out
             have Rk := jb.out
             have Sk := rb.out
             have mg := bc_ da.out 0
             have ng := bc_ da.out 1
             have og := blk_frozen da.out 0
             have pg := blk_frozen da.out 1
             obtain ⟨Ma, Na, ti⟩ := Kd.R_slice ca.out
             subst ti
             go_wp2_with (first | ((with_reducible refine gate_dst (N := 18) rfl ?_); (try (refine gate_guard (by rfl) ?_; dsimp only)); refine box_event ?hg (N := 18) ?hd (cs := #[.string (⟨#[]⟩ : ByteArray), .slice none 0 0]) (t := 24) ?hr ?_; (case hd => rfl); (case hg => rfl); (case hr => first | (go_simp; done) | (go_simp; rfl)); intro eb hg km hbox hb; replace ca := aM_ (Kd.R_below (bk_ ca.out) hb); replace qa := aM_ (Kd.R_below (bk_ qa.out) hb); have wa := aM_ (hbox); have Xl := aM_ ((by rw [hg]; exact (below_size hB_) : w.heap.size ≤ eb)); have Yl := aM_ ((by rw [hg]; exact (below_size hB_) : w.heap.size ≤ eb)); replace HB := aM_ (below_step hB_ hb); have Rb := aM_ ((by rw [hg]; exact Nat.ne_of_lt (blk_lt (g := sa) (o := .cells #[.string ra, .slice za pa.length Aa] 24 (0, 0)) (bk_ ea.out)) : sa ≠ eb)); have Yf := aM_ ((by rw [hg]; exact Nat.ne_of_gt (blk_lt (g := sa) (o := .cells #[.string ra, .slice za pa.length Aa] 24 (0, 0)) (bk_ ea.out)) : eb ≠ sa)); replace ea := aM_ (blk_below (g := sa) (o := .cells #[.string ra, .slice za pa.length Aa] 24 (0, 0)) (bk_ ea.out) hb); have Sb := aM_ ((by rw [hg]; exact Nat.ne_of_lt (blk_lt (g := ma) (o := .cells #[.string ia, .slice Ma la.length Na] 24 (0, 0)) (bk_ da.out)) : ma ≠ eb)); have Zf := aM_ ((by rw [hg]; exact Nat.ne_of_gt (blk_lt (g := ma) (o := .cells #[.string ia, .slice Ma la.length Na] 24 (0, 0)) (bk_ da.out)) : eb ≠ ma)); replace da := aM_ (blk_below (g := ma) (o := .cells #[.string ia, .slice Ma la.length Na] 24 (0, 0)) (bk_ da.out) hb); have Tb := aM_ ((by rw [hg]; exact Nat.ne_of_lt (blk_lt (g := aa) (o := .cells #[.string Ra, .string Sa, .int .u64 Ta, .int .i64 Ua, .int .i64 Va, .int .i64 Wa, .int .i64 Xa, .int .i64 Ya, .int .i64 Za] 35 (0, 0)) (bk_ fa.out)) : aa ≠ eb)); have ag := aM_ ((by rw [hg]; exact Nat.ne_of_gt (blk_lt (g := aa) (o := .cells #[.string Ra, .string Sa, .int .u64 Ta, .int .i64 Ua, .int .i64 Va, .int .i64 Wa, .int .i64 Xa, .int .i64 Ya, .int .i64 Za] 35 (0, 0)) (bk_ fa.out)) : eb ≠ aa)); replace fa := aM_ (blk_below (g := aa) (o := .cells #[.string Ra, .string Sa, .int .u64 Ta, .int .i64 Ua, .int .i64 Va, .int .i64 Wa, .int .i64 Xa, .int .i64 Ya, .int .i64 Za] 35 (0, 0)) (bk_ fa.out) hb); have Ub := aM_ ((by rw [hg]; exact Nat.ne_of_lt (blk_lt (g := oa) (o := .cells #[.string ia, nb] 24 (0, 0)) (bk_ ja.out)) : oa ≠ eb)); have bg := aM_ ((by rw [hg]; exact Nat.ne_of_gt (blk_lt (g := oa) (o := .cells #[.string ia, nb] 24 (0, 0)) (bk_ ja.out)) : eb ≠ oa)); replace ja := aM_ (blk_below (g := oa) (o := .cells #[.string ia, nb] 24 (0, 0)) (bk_ ja.out) hb); clear hb hbox hg; have Tk := Yf.out; have Uk := Rb.out; have Vk := Zf.out; have Wk := Sb.out; have Xk := ag.out; have Yk := Tb.out; have Zk := bg.out; have al := Ub.out; have qg := bc_ wa.out 0; have rg := bc_ wa.out 1; have sg := blk_frozen wa.out 0; have tg := blk_frozen wa.out 1; have ug := bc_ da.out 0; have vg := bc_ da.out 1; have wg := blk_frozen da.out 0; have xg := blk_frozen da.out 1) | ((with_reducible refine gate_dst (N := 19) rfl ?_); (try (refine gate_guard (by rfl) ?_; dsimp only)); refine box_event ?hg (N := 19) ?hd (cs := #[.string (⟨#[]⟩ : ByteArray), .slice none 0 0]) (t := 24) ?hr ?_; (case hd => rfl); (case hg => rfl); (case hr => first | (go_simp; done) | (go_simp; rfl)); intro cb hg lm hbox hb; replace ca := aM_ (Kd.R_below (by refine bk_ ?_; exact (Kd.R_mono (Kd.R_far (p := ⟨eb, 1, none⟩) (Kd.R_far (p := ⟨eb, 0, none⟩) (Kd.R_types ca.out wa.out (by decide)) (fun _ hk => hk.2) (.string a5)) (fun _ hk => hk.2) (.slice Ma la.length Na)) (fun _ h_ => h_.1))) hb); replace qa := aM_ (Kd.R_below (by refine bk_ ?_; exact (Kd.R_mono (Kd.R_far (p := ⟨eb, 1, none⟩) (Kd.R_far (p := ⟨eb, 0, none⟩) (Kd.R_types qa.out wa.out (by decide)) (fun _ hk => hk.2) (.string a5)) (fun _ hk => hk.2) (.slice Ma la.length Na)) (fun _ h_ => h_.1))) hb); have xa := aM_ (hbox); have Zl := aM_ ((by rw [hg]; exact (below_size hB_) : w.heap.size ≤ cb)); have am := aM_ ((by rw [hg]; exact (below_size hB_) : w.heap.size ≤ cb)); replace HB := aM_ (below_step hB_ hb); have Hc := aM_ ((by rw [hg]; exact Nat.ne_of_lt (blk_lt (g := sa) (o := .cells #[.string ra, .slice za pa.length Aa] 24 (0, 0)) (by refine bk_ ?_; refine blk_far ?_ Rb.out _; refine bk_ ?_; refine blk_far ?_ Rb.out _; refine bk_ ?_; exact ea.out)) : sa ≠ cb)); have Be := aM_ ((by rw [hg]; exact Nat.ne_of_gt (blk_lt (g := sa) (o := .cells #[.string ra, .slice za pa.length Aa] 24 (0, 0)) (by refine bk_ ?_; refine blk_far ?_ Rb.out _; refine bk_ ?_; refine blk_far ?_ Rb.out _; refine bk_ ?_; exact ea.out)) : cb ≠ sa)); replace ea := aM_ (blk_below (g := sa) (o := .cells #[.string ra, .slice za pa.length Aa] 24 (0, 0)) (by refine bk_ ?_; refine blk_far ?_ Rb.out _; refine bk_ ?_; refine blk_far ?_ Rb.out _; refine bk_ ?_; exact ea.out) hb); have Ic := aM_ ((by rw [hg]; exact Nat.ne_of_lt (blk_lt (g := ma) (o := .cells #[.string ia, .slice Ma la.length Na] 24 (0, 0)) (by refine bk_ ?_; refine blk_far ?_ Sb.out _; refine bk_ ?_; refine blk_far ?_ Sb.out _; refine bk_ ?_; exact da.out)) : ma ≠ cb)); have Ce := aM_ ((by rw [hg]; exact Nat.ne_of_gt (blk_lt (g := ma) (o := .cells #[.string ia, .slice Ma la.length Na] 24 (0, 0)) (by refine bk_ ?_; refine blk_far ?_ Sb.out _; refine bk_ ?_; refine blk_far ?_ Sb.out _; refine bk_ ?_; exact da.out)) : cb ≠ ma)); replace da := aM_ (blk_below (g := ma) (o := .cells #[.string ia, .slice Ma la.length Na] 24 (0, 0)) (by refine bk_ ?_; refine blk_far ?_ Sb.out _; refine bk_ ?_; refine blk_far ?_ Sb.out _; refine bk_ ?_; exact da.out) hb); have Jc := aM_ ((by rw [hg]; exact Nat.ne_of_lt (blk_lt (g := aa) (o := .cells #[.string Ra, .string Sa, .int .u64 Ta, .int .i64 Ua, .int .i64 Va, .int .i64 Wa, .int .i64 Xa, .int .i64 Ya, .int .i64 Za] 35 (0, 0)) (by refine bk_ ?_; refine blk_far ?_ Tb.out _; refine bk_ ?_; refine blk_far ?_ Tb.out _; refine bk_ ?_; exact fa.out)) : aa ≠ cb)); have De := aM_ ((by rw [hg]; exact Nat.ne_of_gt (blk_lt (g := aa) (o := .cells #[.string Ra, .string Sa, .int .u64 Ta, .int .i64 Ua, .int .i64 Va, .int .i64 Wa, .int .i64 Xa, .int .i64 Ya, .int .i64 Za] 35 (0, 0)) (by refine bk_ ?_; refine blk_far ?_ Tb.out _; refine bk_ ?_; refine blk_far ?_ Tb.out _; refine bk_ ?_; exact fa.out)) : cb ≠ aa)); replace fa := aM_ (blk_below (g := aa) (o := .cells #[.string Ra, .string Sa, .int .u64 Ta, .int .i64 Ua, .int .i64 Va, .int .i64 Wa, .int .i64 Xa, .int .i64 Ya, .int .i64 Za] 35 (0, 0)) (by refine bk_ ?_; refine blk_far ?_ Tb.out _; refine bk_ ?_; refine blk_far ?_ Tb.out _; refine bk_ ?_; exact fa.out) hb); have Kc := aM_ ((by rw [hg]; exact Nat.ne_of_lt (blk_lt (g := oa) (o := .cells #[.string ia, nb] 24 (0, 0)) (by refine bk_ ?_; refine blk_far ?_ Ub.out _; refine bk_ ?_; refine blk_far ?_ Ub.out _; refine bk_ ?_; exact ja.out)) : oa ≠ cb)); have Ee := aM_ ((by rw [hg]; exact Nat.ne_of_gt (blk_lt (g := oa) (o := .cells #[.string ia, nb] 24 (0, 0)) (by refine bk_ ?_; refine blk_far ?_ Ub.out _; refine bk_ ?_; refine blk_far ?_ Ub.out _; refine bk_ ?_; exact ja.out)) : cb ≠ oa)); replace ja := aM_ (blk_below (g := oa) (o := .cells #[.string ia, nb] 24 (0, 0)) (by refine bk_ ?_; refine blk_far ?_ Ub.out _; refine bk_ ?_; refine blk_far ?_ Ub.out _; refine bk_ ?_; exact ja.out) hb); have Lc := aM_ ((by rw [hg]; exact Nat.ne_of_lt (blk_lt (g := eb) (o := .cells #[.string a5, .slice Ma la.length Na] 24 (0, 0)) (by refine bk_ ?_; refine blk_put (cs := #[.string a5, .slice none 0 0]) ?_ 1 _ rfl; refine bk_ ?_; refine blk_put (cs := #[.string (⟨#[]⟩ : ByteArray), .slice none 0 0]) ?_ 0 _ rfl; refine bk_ ?_; exact wa.out)) : eb ≠ cb)); have Fe := aM_ ((by rw [hg]; exact Nat.ne_of_gt (blk_lt (g := eb) (o := .cells #[.string a5, .slice Ma la.length Na] 24 (0, 0)) (by refine bk_ ?_; refine blk_put (cs := #[.string a5, .slice none 0 0]) ?_ 1 _ rfl; refine bk_ ?_; refine blk_put (cs := #[.string (⟨#[]⟩ : ByteArray), .slice none 0 0]) ?_ 0 _ rfl; refine bk_ ?_; exact wa.out)) : cb ≠ eb)); replace wa := aM_ (blk_below (g := eb) (o := .cells #[.string a5, .slice Ma la.length Na] 24 (0, 0)) (by refine bk_ ?_; refine blk_put (cs := #[.string a5, .slice none 0 0]) ?_ 1 _ rfl; refine bk_ ?_; refine blk_put (cs := #[.string (⟨#[]⟩ : ByteArray), .slice none 0 0]) ?_ 0 _ rfl; refine bk_ ?_; exact wa.out) hb); clear hb hbox hg; have bl := Be.out; have cl := Hc.out; have dl := Ce.out; have el := Ic.out; have fl := De.out; have gl := Jc.out; have hl := Ee.out; have il := Kc.out; have jl := Fe.out; have kl := Lc.out; have yg := bc_ xa.out 0; have zg := bc_ xa.out 1; have Ag := blk_frozen xa.out 0; have Bg := blk_frozen xa.out 1))
             go_loopg [20] Zh (fun kq ll w' => ∃ (Xc : Int) (bb : List (S35)) (mb : Value), ll = .int .i64 Xc ∧ Aside0 (kerbsuitelaw12_DatabaseChecks.l0 kq a3 Xc ia ya a5 la ia bb = some r) ∧ Aside0 (kq ≤ Zh) ∧ Aside0 (Kd.R k35 35 w' w.heap.size (fun k_ => some k_ ≠ (nb : Value).ownBlock ∧ some k_ ≠ (mb : Value).ownBlock ∧ k_ ≠ aa) (.slice Ma la.length Na) la) ∧ Aside0 (Kd.R k35 35 w' w.heap.size (fun k_ => some k_ ≠ ((.slice Ma la.length Na) : Value).ownBlock ∧ some k_ ≠ ((.slice Ma la.length Na) : Value).ownBlock ∧ some k_ ≠ (mb : Value).ownBlock ∧ k_ ≠ aa) nb ya) ∧ Aside0 (Kd.R k35 35 w' w.heap.size (fun k_ => some k_ ≠ (nb : Value).ownBlock ∧ some k_ ≠ (mb : Value).ownBlock ∧ k_ ≠ aa) (.slice Ma la.length Na) la) ∧ Aside0 (Kd.R k35 35 w' w.heap.size (fun k_ => some k_ ≠ ((.slice Ma la.length Na) : Value).ownBlock ∧ some k_ ≠ (nb : Value).ownBlock ∧ some k_ ≠ ((.slice Ma la.length Na) : Value).ownBlock ∧ k_ ≠ aa) mb bb) ∧ Aside0 (w'.heap[sa]? = some (.cells #[.string ra, (.slice za pa.length Aa)] 24 (0, 0))) ∧ Aside0 (w'.heap[ma]? = some (.cells #[.string ia, (.slice Ma la.length Na)] 24 (0, 0))) ∧ Aside0 (w'.heap[aa]? = some (.cells #[.string Ra, .string Sa, .int .u64 Ta, .int .i64 Ua, .int .i64 Va, .int .i64 Wa, .int .i64 Xa, .int .i64 Ya, .int .i64 Za] 35 (0, 0))) ∧ Aside0 (w'.heap[oa]? = some (.cells #[.string ia, nb] 24 (0, 0))) ∧ Aside0 (w'.heap[eb]? = some (.cells #[.string a5, (.slice Ma la.length Na)] 24 (0, 0))) ∧ Aside0 (w'.heap[cb]? = some (.cells #[.string ia, mb] 24 (0, 0))) ∧ Aside0 (Below w.heap.size w w'))
             case atStart => exact ⟨(0), (([] : List (S35))), (.slice none 0 0), rS_, H', ⟨Nat.le_refl _⟩, ⟨by refine bk_ ?_; exact Kd.R_mono (Kd.R_far (p := ⟨cb, 1, none⟩) (Kd.R_far (p := ⟨cb, 0, none⟩) (Kd.R_types ca.out xa.out (by decide)) (fun _ hk => hk.2) (.string ia)) (fun _ hk => hk.2) (.slice none 0 0)) (fun _ hk => ⟨hk.1.1, ⟨(by simp [Value.ownBlock]), hk.1.2⟩⟩)⟩, ⟨by refine bk_ ?_; exact Kd.R_mono (Kd.R_far (p := ⟨cb, 1, none⟩) (Kd.R_far (p := ⟨cb, 0, none⟩) (Kd.R_types qa.out xa.out (by decide)) (fun _ hk => hk.2) (.string ia)) (fun _ hk => hk.2) (.slice none 0 0)) (fun _ hk => ⟨hk.1.1, ⟨hk.1.1, ⟨(by simp [Value.ownBlock]), hk.1.2⟩⟩⟩)⟩, ⟨by refine bk_ ?_; exact Kd.R_mono (Kd.R_far (p := ⟨cb, 1, none⟩) (Kd.R_far (p := ⟨cb, 0, none⟩) (Kd.R_types ca.out xa.out (by decide)) (fun _ hk => hk.2) (.string ia)) (fun _ hk => hk.2) (.slice none 0 0)) (fun _ hk => ⟨hk.1.1, ⟨(by simp [Value.ownBlock]), hk.1.2⟩⟩)⟩, ⟨by first | exact Kd.R_nil _ _ _ _ _ | exact Kd.N_nil _ _ _ _ _ | exact Kd.V_nil _ _ _ _ _ | exact Kd.Q_nil _ _ _ _ _ | exact Kd.S_nil _ _ _ _ _⟩, ⟨by refine bk_ ?_; refine blk_far ?_ Hc.out _; refine bk_ ?_; refine blk_far ?_ Hc.out _; refine bk_ ?_; exact ea.out⟩, ⟨by refine bk_ ?_; refine blk_far ?_ Ic.out _; refine bk_ ?_; refine blk_far ?_ Ic.out _; refine bk_ ?_; exact da.out⟩, ⟨by refine bk_ ?_; refine blk_far ?_ Jc.out _; refine bk_ ?_; refine blk_far ?_ Jc.out _; refine bk_ ?_; exact fa.out⟩, ⟨by refine bk_ ?_; refine blk_far ?_ Kc.out _; refine bk_ ?_; refine blk_far ?_ Kc.out _; refine bk_ ?_; exact ja.out⟩, ⟨by refine bk_ ?_; refine blk_far ?_ Lc.out _; refine bk_ ?_; refine blk_far ?_ Lc.out _; refine bk_ ?_; exact wa.out⟩, ⟨by refine bk_ ?_; refine blk_put (cs := #[.string ia, .slice none 0 0]) ?_ 1 _ rfl; refine bk_ ?_; refine blk_put (cs := #[.string (⟨#[]⟩ : ByteArray), .slice none 0 0]) ?_ 0 _ rfl; refine bk_ ?_; exact xa.out⟩, ⟨hB_⟩⟩
             case round =>
              clear H'
              try clear c1
              try clear p2
              try clear p3
              try clear q3
              try clear Ci
              try clear qi3
              try clear c8
              try clear c9
              try clear p9
              try clear q9
              try clear Jk
              try clear qi9
              try clear hf9
              try clear Bh
              try clear zi
              try clear Di
              try clear Pi
              try clear Qi
              try clear vj
              try clear Ri
              try clear Si
              try clear wj
              try clear qi35
              try clear Ae
              try clear od
              try clear If
              try clear yf
              try clear zf
              try clear Kk
              try clear Ve
              try clear We
              try clear xj
              try clear hf94
              try clear Af
              try clear Lk
              try clear bf
              try clear cf
              try clear yj
              try clear qi96
              try clear hf96
              try clear Mk
              try clear df
              try clear ef
              try clear zj
              try clear hf97
              try clear Aj
              try clear Bj
              try clear Cj
              try clear mm
              try clear nm
              try clear om
              try clear pm
              try clear qm
              try clear rm
              try clear sm
              try clear tm
              try clear um
              try clear vm
              try clear wm
              try clear xm
              try clear mg
              try clear ng
              try clear qg
              try clear rg
              try clear ug
              try clear vg
              try clear yg
              try clear zg
              try clear og
              try clear pg
              try clear sg
              try clear tg
              try clear wg
              try clear xg
              try clear Ag
              try clear Bg
              try clear cd
              try clear dd
              try clear ed
              try clear fd
              try clear gd
              try clear id
              try clear jd
              try clear kd
              try clear ld
              try clear yc
              try clear zc
              try clear Ac
              try clear Bc
              try clear Cc
              try clear Dc
              try clear Ec
              try clear Fc
              try clear Gc
              try clear Hb
              try clear Ib
              try clear Jb
              try clear Kb
              try clear Lb
              try clear Mb
              try clear Nb
              try clear Ob
              try clear Pb
              try clear Pf
              try clear Qf
              try clear Rf
              try clear Sf
              try clear Tf
              try clear Uf
              try clear Vf
              try clear Wf
              try clear Xf
              try clear wd
              try clear xd
              try clear yd
              try clear zd
              try clear Ad
              try clear Bd
              try clear Cd
              try clear Dd
              try clear Ed
              try clear ff
              try clear gf
              try clear hf
              try clear jf
              try clear kf
              try clear lf
              try clear mf
              try clear nf
              try clear pf
              try clear p2
              try clear p3
              try clear Pi
              try clear Se
              try clear Ri
              try clear Xe
              try clear Ze
              try clear p9
              try clear Ve
              try clear bf
              try clear df
              try clear q3
              try clear Qi
              try clear Te
              try clear Si
              try clear Ye
              try clear af
              try clear q9
              try clear We
              try clear cf
              try clear ef
              obtain ⟨Xc, bb, mb, rfl, HA, Ti, ca, qa, va, ua, ea, da, fa, ja, wa, xa, HB⟩ := hrel
              cases gk with
              | zero => exact absurd HA.out (by simp [kerbsuitelaw12_DatabaseChecks.l0])
              | succ k5 =>
               have H := HA.out
               clear HA
               simp only [kerbsuitelaw12_DatabaseChecks.l0] at H
               by_cases ue : Xc < (wrap64 (60 + (Int.tmod (wrap64 (a3)) 2)))
               ·rw [if_pos ue] at H
                have ai : decide (Xc < (wrap64 (60 + (Int.tmod (wrap64 (a3)) 2)))) = true := decide_eq_true ue
                clear ue
                by_cases Jf : bb.length < 1599289640401
                ·rw [if_pos Jf] at H
                 have bi := aM_ Jf
                 clear Jf
                 obtain ⟨Nd, hy358⟩ : ∃ y_ : List (S35), y_ = (bb ++ [(⟨(⟨#[97, 110, 110]⟩ : ByteArray), (⟨#[]⟩ : ByteArray), 0, 0, 0, 0, 0, 0, 0⟩ : S35)]) := ⟨_, rfl⟩
                 replace H : (kerbsuitelaw12_DatabaseChecks.l0 k5 a3 (wrap64 (Xc + 1)) ia ya a5 la ia Nd) = some r := by first | (rw [hy358]; with_reducible exact H) | (have H2_ := (Option.bind_some _ _).symm.trans H; rw [hy358]; with_reducible exact H2_) | (have H2_ := (Option.bind_some _ _).symm.trans H; with_reducible exact H2_) | with_reducible exact H | (rw [hy358]; exact H) | exact H
                 have Ny358 := aM_ hy358
                 clear hy358
                 have H' := aM_ H
                 clear H
                 have ml := Be.out
                 have nl := Hc.out
                 have ol := Ce.out
                 have pl := Ic.out
                 have ql := De.out
                 have rl := Jc.out
                 have sl := Ee.out
                 have tl := Kc.out
                 have ul := Fe.out
                 have vl := Lc.out
                 have Dj := bc_ xa.out 0
                 have Ej := bc_ xa.out 1
                 have Fj := blk_frozen xa.out 0
                 have Gj := blk_frozen xa.out 1
                 go_wp2_with (first | ((with_reducible refine gate_builtin (b := .append) (xs := #[.tmp 138, .tmp 140]) rfl ?_); (try (refine gate_guard (by rfl) ?_; dsimp only)); at_builtin; refine Kd.R_append k35 (w0 := w) w.heap.size rfl (.tmp 138) (.tmp 140) 22 35 (.agg #[(.string ⟨#[]⟩), (.string ⟨#[]⟩), (.int .u64 0), (.int .i64 0), (.int .i64 0), (.int .i64 0), (.int .i64 0), (.int .i64 0), (.int .i64 0)]) 88 rfl Tryd.underlying22 info35 rfl (by decide) (by omega) mb bb (⟨(⟨#[97, 110, 110]⟩ : ByteArray), (⟨#[]⟩ : ByteArray), 0, 0, 0, 0, 0, 0, 0⟩ : S35) [.string (⟨#[97, 110, 110]⟩ : ByteArray), .string (⟨#[]⟩ : ByteArray), .int .u64 0, .int .i64 0, .int .i64 0, .int .i64 0, .int .i64 0, .int .i64 0, .int .i64 0] (fun k_ => some k_ ≠ (.slice Ma la.length Na : Value).ownBlock ∧ some k_ ≠ (nb : Value).ownBlock ∧ some k_ ≠ (.slice Ma la.length Na : Value).ownBlock ∧ k_ ≠ aa) (fun _ => False) rfl rfl ?aP (fun _ hk => hk.elim) ?aF ?aO ?aB ?aS ?aL ?_; (case aP => exact k35_mkM _ _ _ (⟨(⟨#[97, 110, 110]⟩ : ByteArray), (⟨#[]⟩ : ByteArray), 0, 0, 0, 0, 0, 0, 0⟩ : S35)); (case aB => exact hB_); (case aF => exact (fun k_ hk => ⟨Kd.fresh' (Kd.R_lt (bk_ ca.out)) k_ hk, Kd.fresh' (Kd.R_lt (bk_ qa.out)) k_ hk, Kd.fresh' (Kd.R_lt (bk_ va.out)) k_ hk, Kd.freshB (g := aa) (o := .cells #[.string Ra, .string Sa, .int .u64 Ta, .int .i64 Ua, .int .i64 Va, .int .i64 Wa, .int .i64 Xa, .int .i64 Ya, .int .i64 Za] 35 (0, 0)) (bk_ fa.out) k_ hk⟩)); (case aO => exact (bk_ ua.out)); (case aS => exact (below_size hB_)); (case aL => have := bi.out; omega); intro ym zm ho hb hg hat; rw [← Ny358.out] at ho; replace ca := aM_ (Kd.R_after (ok := (fun k_ => some k_ ≠ (nb : Value).ownBlock ∧ k_ ≠ aa)) (by refine bk_ ?_; exact Kd.R_mono ca.out (fun _ hk => ⟨⟨hk.1, hk.2.2⟩, hk.2.1⟩)) hg hat); replace qa := aM_ (Kd.R_after (ok := (fun k_ => some k_ ≠ (.slice Ma la.length Na : Value).ownBlock ∧ some k_ ≠ (.slice Ma la.length Na : Value).ownBlock ∧ k_ ≠ aa)) (by refine bk_ ?_; exact Kd.R_mono qa.out (fun _ hk => ⟨⟨hk.1, ⟨hk.2.1, hk.2.2.2⟩⟩, hk.2.2.1⟩)) hg hat); replace va := aM_ (Kd.R_after (ok := (fun k_ => some k_ ≠ (nb : Value).ownBlock ∧ k_ ≠ aa)) (by refine bk_ ?_; exact Kd.R_mono va.out (fun _ hk => ⟨⟨hk.1, hk.2.2⟩, hk.2.1⟩)) hg hat); replace ea := aM_ (blk_grown (g := sa) (o := .cells #[.string ra, .slice za pa.length Aa] 24 (0, 0)) (bk_ ea.out) hg (Kd.R_ne ua.out ea.out (by decide))); replace da := aM_ (blk_grown (g := ma) (o := .cells #[.string ia, .slice Ma la.length Na] 24 (0, 0)) (bk_ da.out) hg (Kd.R_ne ua.out da.out (by decide))); replace fa := aM_ (blk_grown (g := aa) (o := .cells #[.string Ra, .string Sa, .int .u64 Ta, .int .i64 Ua, .int .i64 Va, .int .i64 Wa, .int .i64 Xa, .int .i64 Ya, .int .i64 Za] 35 (0, 0)) (bk_ fa.out) hg (Kd.R_away ua.out (fun _ hk => hk.2.2.2))); replace ja := aM_ (blk_grown (g := oa) (o := .cells #[.string ia, nb] 24 (0, 0)) (bk_ ja.out) hg (Kd.R_ne ua.out ja.out (by decide))); replace wa := aM_ (blk_grown (g := eb) (o := .cells #[.string a5, .slice Ma la.length Na] 24 (0, 0)) (bk_ wa.out) hg (Kd.R_ne ua.out wa.out (by decide))); replace xa := aM_ (blk_grown (g := cb) (o := .cells #[.string ia, mb] 24 (0, 0)) (bk_ xa.out) hg (Kd.R_ne ua.out xa.out (by decide))); replace HB := aM_ (hb); have Qg := aM_ (ho); clear ua; clear ho hb hg hat; obtain ⟨Xd, Yd, ui⟩ := Kd.R_slice Qg.out; subst ui; have Hj := bc_ xa.out 0; have Ij := bc_ xa.out 1; have Jj := blk_frozen xa.out 0; have Kj := blk_frozen xa.out 1))
                 go_roundg k5
                 case measure => have := ve.out; have := re.out; have := Gf.out; have := Yh.out; have := Ti.out; omega
                 case rel => exact ⟨(wrap64 (Xc + 1)), (Nd), (.slice Xd Nd.length Yd), rS_, H', ⟨by have := ve.out; have := re.out; have := Gf.out; have := Yh.out; have := Ti.out; omega⟩, ⟨by refine bk_ ?_; exact Kd.R_mono (Kd.R_far (p := ⟨cb, 1, none⟩) (Kd.R_types ca.out xa.out (by decide)) (fun _ hk => hk.2) (.slice Xd Nd.length Yd)) (fun _ hk => ⟨hk.1.1.1, ⟨hk.1.2, hk.1.1.2⟩⟩)⟩, ⟨by refine bk_ ?_; exact Kd.R_mono (Kd.R_far (p := ⟨cb, 1, none⟩) (Kd.R_types qa.out xa.out (by decide)) (fun _ hk => hk.2) (.slice Xd Nd.length Yd)) (fun _ hk => ⟨hk.1.1.1, ⟨hk.1.1.2.1, ⟨hk.1.2, hk.1.1.2.2⟩⟩⟩)⟩, ⟨by refine bk_ ?_; exact Kd.R_mono (Kd.R_far (p := ⟨cb, 1, none⟩) (Kd.R_types va.out xa.out (by decide)) (fun _ hk => hk.2) (.slice Xd Nd.length Yd)) (fun _ hk => ⟨hk.1.1.1, ⟨hk.1.2, hk.1.1.2⟩⟩)⟩, ⟨by refine bk_ ?_; exact Kd.R_mono (Kd.R_far (p := ⟨cb, 1, none⟩) (Kd.R_types Qg.out xa.out (by decide)) (fun _ hk => hk.2) (.slice Xd Nd.length Yd)) (fun _ hk => ⟨hk.1.1, ⟨hk.1.2.1, ⟨hk.1.2.2.1, hk.1.2.2.2⟩⟩⟩)⟩, ⟨by refine bk_ ?_; refine blk_far ?_ Hc.out _; refine bk_ ?_; exact ea.out⟩, ⟨by refine bk_ ?_; refine blk_far ?_ Ic.out _; refine bk_ ?_; exact da.out⟩, ⟨by refine bk_ ?_; refine blk_far ?_ Jc.out _; refine bk_ ?_; exact fa.out⟩, ⟨by refine bk_ ?_; refine blk_far ?_ Kc.out _; refine bk_ ?_; exact ja.out⟩, ⟨by refine bk_ ?_; refine blk_far ?_ Lc.out _; refine bk_ ?_; exact wa.out⟩, ⟨by refine bk_ ?_; refine blk_put (cs := #[.string ia, mb]) ?_ 1 _ rfl; refine bk_ ?_; exact xa.out⟩, ⟨hB_⟩⟩
                rw [if_neg Jf] at H
                exact absurd H (by simp)
               rw [if_neg ue] at H
               have ai : decide (Xc < (wrap64 (60 + (Int.tmod (wrap64 (a3)) 2)))) = false := decide_eq_false ue
               clear ue
               replace H := Option.bind_eq_some_iff.mp H
               obtain ⟨Oc, Rg, H⟩ := H
               replace H : ((kerbsuiteref12_Check.f k5 ia ya).bind fun vc => (if Oc = vc then ((database_Check.f k5 a5 la).bind fun bc => ((kerbsuiteref12_Check.f k5 a5 la).bind fun Yb => (if bc = Yb then ((database_Check.f k5 ia bb).bind fun xc => ((kerbsuiteref12_Check.f k5 ia bb).bind fun oc => (some (xc == oc)))) else (some false)))) else (some false))) = some r := H
               have Cg := aM_ Rg
               clear Rg
               replace H := Option.bind_eq_some_iff.mp H
               obtain ⟨vc, Sg, H⟩ := H
               replace H : (if Oc = vc then ((database_Check.f k5 a5 la).bind fun bc => ((kerbsuiteref12_Check.f k5 a5 la).bind fun Yb => (if bc = Yb then ((database_Check.f k5 ia bb).bind fun xc => ((kerbsuiteref12_Check.f k5 ia bb).bind fun oc => (some (xc == oc)))) else (some false)))) else (some false)) = some r := H
               have Dg := aM_ Sg
               clear Sg
               by_cases Od : Oc = vc
               ·rw [if_pos Od] at H
                have ci : (Oc == vc) = true := beq_iff_eq.mpr Od
                have di : (Oc != vc) = false := bne_eq_false_iff_eq.mpr Od
                clear Od
                replace H := Option.bind_eq_some_iff.mp H
                obtain ⟨bc, Tg, H⟩ := H
                replace H : ((kerbsuiteref12_Check.f k5 a5 la).bind fun Yb => (if bc = Yb then ((database_Check.f k5 ia bb).bind fun xc => ((kerbsuiteref12_Check.f k5 ia bb).bind fun oc => (some (xc == oc)))) else (some false))) = some r := H
                have ei := aM_ Tg
                clear Tg
                replace H := Option.bind_eq_some_iff.mp H
                obtain ⟨Yb, Ug, H⟩ := H
                replace H : (if bc = Yb then ((database_Check.f k5 ia bb).bind fun xc => ((kerbsuiteref12_Check.f k5 ia bb).bind fun oc => (some (xc == oc)))) else (some false)) = some r := H
                have fi := aM_ Ug
                clear Ug
                by_cases Pd : bc = Yb
                ·rw [if_pos Pd] at H
                 have gi : (bc == Yb) = true := beq_iff_eq.mpr Pd
                 have hi : (bc != Yb) = false := bne_eq_false_iff_eq.mpr Pd
                 clear Pd
                 replace H := Option.bind_eq_some_iff.mp H
                 obtain ⟨xc, Vg, H⟩ := H
                 replace H : ((kerbsuiteref12_Check.f k5 ia bb).bind fun oc => (some (xc == oc))) = some r := H
                 have Lj := aM_ Vg
                 clear Vg
                 replace H := Option.bind_eq_some_iff.mp H
                 obtain ⟨oc, Wg, H⟩ := H
                 replace H : (some (xc == oc)) = some r := H
                 have Mj := aM_ Wg
                 clear Wg
                 obtain rfl := Option.some.inj H
                 try go_upto_region 23 with fail
                 replace ca := aM_ (Kd.R_drew ca.out)
                 replace qa := aM_ (Kd.R_drew qa.out)
                 replace va := aM_ (Kd.R_drew va.out)
                 replace ua := aM_ (Kd.R_drew ua.out)
                 replace ea := aM_ (blk_drew ea.out)
                 replace da := aM_ (blk_drew da.out)
                 replace fa := aM_ (blk_drew fa.out)
                 replace ja := aM_ (blk_drew ja.out)
                 replace wa := aM_ (blk_drew wa.out)
                 replace xa := aM_ (blk_drew xa.out)
                 replace HB := aM_ (bD_ HB.out)
                 obtain ⟨Sc, Tc, Xg⟩ := Kd.R_slice qa.out
                 (first | subst Xg | (injection Xg with f1_ f2_ f3_; have f4_ := f1_.symm; have f5_ := f3_.symm; clear f1_ f2_ f3_; subst f4_; subst f5_))
                 refine start_ (n := 20) (S := fun w' => w'.cell? ⟨oa, 0, none⟩ = some (.string ia) ∧ w'.cell? ⟨oa, 1, none⟩ = some (.slice Sc ya.length Tc) ∧ w'.cell? ⟨eb, 0, none⟩ = some (.string a5) ∧ w'.cell? ⟨eb, 1, none⟩ = some (.slice Ma la.length Na) ∧ w'.cell? ⟨cb, 0, none⟩ = some (.string ia) ∧ w'.cell? ⟨cb, 1, none⟩ = some (mb)) (ds := []) (bo_ 20 0) (by kernel_rfl) rfl rfl ⟨bc_ ja.out 0, bc_ ja.out 1, bc_ wa.out 0, bc_ wa.out 1, bc_ xa.out 0, bc_ xa.out 1⟩ (fun hHeld => ?_); refine with_tabW kerbsuitelaw12_DatabaseChecks.tab23 kerbsuitelaw12_DatabaseChecks.bits23 (fun HT_ HW_ => ?_)
                 generalize wr.drew = Am at ca qa va ua ea da fa ja wa xa HB hHeld ⊢
                 refine take_ (i := 0) (N := some 143) (v := ?_) (a' := ?_) (bo_ 20 1) rfl rfl (take_ofW HT_.out HW_.out (by kernel_rfl)) (fun _ _ _ h => h) (Or.inl ⟨by rfl, ?_⟩) hHeld ?_ ?_
                 rotate_left; (· rintro w' ⟨s0, s1, s2, s3, s4, s5⟩; go_simp; with_reducible rfl)
                 rotate_left; (· simp only [Act.put,sA_,sB_,sC_,i64_w,i32_w]; rfl)
                 refine take_ (i := 2) (N := some 145) (v := ?_) (a' := ?_) (bo_ 20 5) rfl rfl (take_ofW HT_.out HW_.out (by kernel_rfl)) (fun _ _ _ h => h) (Or.inl ⟨by rfl, ?_⟩) hHeld ?_ ?_
                 rotate_left; (· rintro w' ⟨s0, s1, s2, s3, s4, s5⟩; go_simp; with_reducible rfl)
                 rotate_left; (· simp only [Act.put,sA_,sB_,sC_,i64_w,i32_w]; rfl)
                 refine one_ (i := 1) (N := some 144) (bo_ 20 7) rfl rfl (one_of HT_.out (by kernel_rfl)) (by decide) (fun K hK => ?_)
                 refine goes_ Tryd.func10 (by kernel_rfl) rfl #[.agg #[.string ia, .slice Sc ya.length Tc]] (by rfl) rfl rfl aR_ ?_
                 with_reducible refine (database_Check.calls k5 ia _ _ ya Oc _ ?side1 ?side2 Cg.out).mono ?_
                 (case side1 => repeat (first | exact (Kd.R_reads' qa.out).2.2 | (with_reducible refine Kd.C_alloc ?_ _) | (with_reducible refine Kd.C_drewN ?_ _) | (with_reducible refine Kd.C_drew ?_)))
                 (case side2 => exact (Kd.R_reads' qa.out).2.1)
                 rintro e Bm ⟨rfl, hb⟩
                 refine ⟨_, rfl, ?_⟩
                 replace ca := aM_ (Kd.R_below (bk_ ca.out) hb)
                 replace qa := aM_ (Kd.R_below (bk_ qa.out) hb)
                 replace va := aM_ (Kd.R_below (bk_ va.out) hb)
                 replace ua := aM_ (Kd.R_below (bk_ ua.out) hb)
                 replace ea := aM_ (blk_below (g := sa) (o := .cells #[.string ra, .slice za pa.length Aa] 24 (0, 0)) (bk_ ea.out) hb)
                 replace da := aM_ (blk_below (g := ma) (o := .cells #[.string ia, .slice Ma la.length Na] 24 (0, 0)) (bk_ da.out) hb)
                 replace fa := aM_ (blk_below (g := aa) (o := .cells #[.string Ra, .string Sa, .int .u64 Ta, .int .i64 Ua, .int .i64 Va, .int .i64 Wa, .int .i64 Xa, .int .i64 Ya, .int .i64 Za] 35 (0, 0)) (bk_ fa.out) hb)
                 replace ja := aM_ (blk_below (g := oa) (o := .cells #[.string ia, .slice Sc ya.length Tc] 24 (0, 0)) (bk_ ja.out) hb)
                 replace wa := aM_ (blk_below (g := eb) (o := .cells #[.string a5, .slice Ma la.length Na] 24 (0, 0)) (bk_ wa.out) hb)
                 replace xa := aM_ (blk_below (g := cb) (o := .cells #[.string ia, mb] 24 (0, 0)) (bk_ xa.out) hb)
                 replace HB := aM_ (below_step hB_ hb)
                 clear hb
                 refine hK.out _ _ ⟨bc_ ja.out 0, bc_ ja.out 1, bc_ wa.out 0, bc_ wa.out 1, bc_ xa.out 0, bc_ xa.out 1⟩ (fun hHeld => ?_)
                 clear hK K
                 refine nO_ 144 ?_
                 refine one_ (i := 3) (N := some 146) (bo_ 20 15) rfl rfl (one_of HT_.out (by kernel_rfl)) (by decide) (fun K hK => ?_)
                 refine goes_ Tryd.func11 (by kernel_rfl) rfl #[.agg #[.string ia, .slice Sc ya.length Tc]] (by rfl) rfl rfl aR_ ?_
                 with_reducible refine (kerbsuiteref12_Check.calls k5 ia _ _ ya vc _ ?side1 ?side2 Dg.out).mono ?_
                 (case side1 => repeat (first | exact (Kd.R_reads' qa.out).2.2 | (with_reducible refine Kd.C_alloc ?_ _) | (with_reducible refine Kd.C_drewN ?_ _) | (with_reducible refine Kd.C_drew ?_)))
                 (case side2 => exact (Kd.R_reads' qa.out).2.1)
                 rintro e Cm ⟨rfl, hb⟩
                 refine ⟨_, rfl, ?_⟩
                 replace ca := aM_ (Kd.R_below (bk_ ca.out) hb)
                 replace qa := aM_ (Kd.R_below (bk_ qa.out) hb)
                 replace va := aM_ (Kd.R_below (bk_ va.out) hb)
                 replace ua := aM_ (Kd.R_below (bk_ ua.out) hb)
                 replace ea := aM_ (blk_below (g := sa) (o := .cells #[.string ra, .slice za pa.length Aa] 24 (0, 0)) (bk_ ea.out) hb)
                 replace da := aM_ (blk_below (g := ma) (o := .cells #[.string ia, .slice Ma la.length Na] 24 (0, 0)) (bk_ da.out) hb)
                 replace fa := aM_ (blk_below (g := aa) (o := .cells #[.string Ra, .string Sa, .int .u64 Ta, .int .i64 Ua, .int .i64 Va, .int .i64 Wa, .int .i64 Xa, .int .i64 Ya, .int .i64 Za] 35 (0, 0)) (bk_ fa.out) hb)
                 replace ja := aM_ (blk_below (g := oa) (o := .cells #[.string ia, .slice Sc ya.length Tc] 24 (0, 0)) (bk_ ja.out) hb)
                 replace wa := aM_ (blk_below (g := eb) (o := .cells #[.string a5, .slice Ma la.length Na] 24 (0, 0)) (bk_ wa.out) hb)
                 replace xa := aM_ (blk_below (g := cb) (o := .cells #[.string ia, mb] 24 (0, 0)) (bk_ xa.out) hb)
                 replace HB := aM_ (below_step hB_ hb)
                 clear hb
                 refine hK.out _ _ ⟨bc_ ja.out 0, bc_ ja.out 1, bc_ wa.out 0, bc_ wa.out 1, bc_ xa.out 0, bc_ xa.out 1⟩ (fun hHeld => ?_)
                 clear hK K
                 refine nO_ 146 ?_
                 refine pU_ 4 (some 147) (bo_ 20 31) ?_
                 refine pU_ 5 (some 148) (bo_ 20 63) ?_
                 refine take_ (i := 6) (N := some 149) (v := ?_) (a' := ?_) (bo_ 20 127) rfl rfl (take_ofW HT_.out HW_.out (by kernel_rfl)) (fun _ _ _ h => h) (Or.inl ⟨by rfl, ?_⟩) hHeld ?_ ?_
                 rotate_left; (· rintro w' ⟨s0, s1, s2, s3, s4, s5⟩; go_simp; with_reducible rfl)
                 rotate_left; (· simp only [Act.put,sA_,sB_,sC_,i64_w,i32_w]; rfl)
                 refine take_ (i := 8) (N := some 151) (v := ?_) (a' := ?_) (bo_ 20 383) rfl rfl (take_ofW HT_.out HW_.out (by kernel_rfl)) (fun _ _ _ h => h) (Or.inl ⟨by rfl, ?_⟩) hHeld ?_ ?_
                 rotate_left; (· rintro w' ⟨s0, s1, s2, s3, s4, s5⟩; go_simp; with_reducible rfl)
                 rotate_left; (· simp only [Act.put,sA_,sB_,sC_,i64_w,i32_w]; rfl)
                 refine one_ (i := 7) (N := some 150) (bo_ 20 511) rfl rfl (one_of HT_.out (by kernel_rfl)) (by decide) (fun K hK => ?_)
                 refine goes_ Tryd.func10 (by kernel_rfl) rfl #[.agg #[.string a5, .slice Ma la.length Na]] (by rfl) rfl rfl aR_ ?_
                 with_reducible refine (database_Check.calls k5 a5 _ _ la bc _ ?side1 ?side2 ei.out).mono ?_
                 (case side1 => repeat (first | exact (Kd.R_reads' va.out).2.2 | (with_reducible refine Kd.C_alloc ?_ _) | (with_reducible refine Kd.C_drewN ?_ _) | (with_reducible refine Kd.C_drew ?_)))
                 (case side2 => exact (Kd.R_reads' va.out).2.1)
                 rintro e Dm ⟨rfl, hb⟩
                 refine ⟨_, rfl, ?_⟩
                 replace ca := aM_ (Kd.R_below (bk_ ca.out) hb)
                 replace qa := aM_ (Kd.R_below (bk_ qa.out) hb)
                 replace va := aM_ (Kd.R_below (bk_ va.out) hb)
                 replace ua := aM_ (Kd.R_below (bk_ ua.out) hb)
                 replace ea := aM_ (blk_below (g := sa) (o := .cells #[.string ra, .slice za pa.length Aa] 24 (0, 0)) (bk_ ea.out) hb)
                 replace da := aM_ (blk_below (g := ma) (o := .cells #[.string ia, .slice Ma la.length Na] 24 (0, 0)) (bk_ da.out) hb)
                 replace fa := aM_ (blk_below (g := aa) (o := .cells #[.string Ra, .string Sa, .int .u64 Ta, .int .i64 Ua, .int .i64 Va, .int .i64 Wa, .int .i64 Xa, .int .i64 Ya, .int .i64 Za] 35 (0, 0)) (bk_ fa.out) hb)
                 replace ja := aM_ (blk_below (g := oa) (o := .cells #[.string ia, .slice Sc ya.length Tc] 24 (0, 0)) (bk_ ja.out) hb)
                 replace wa := aM_ (blk_below (g := eb) (o := .cells #[.string a5, .slice Ma la.length Na] 24 (0, 0)) (bk_ wa.out) hb)
                 replace xa := aM_ (blk_below (g := cb) (o := .cells #[.string ia, mb] 24 (0, 0)) (bk_ xa.out) hb)
                 replace HB := aM_ (below_step hB_ hb)
                 clear hb
                 refine hK.out _ _ ⟨bc_ ja.out 0, bc_ ja.out 1, bc_ wa.out 0, bc_ wa.out 1, bc_ xa.out 0, bc_ xa.out 1⟩ (fun hHeld => ?_)
                 clear hK K
                 refine nO_ 150 ?_
                 refine one_ (i := 9) (N := some 152) (bo_ 20 1023) rfl rfl (one_of HT_.out (by kernel_rfl)) (by decide) (fun K hK => ?_)
                 refine goes_ Tryd.func11 (by kernel_rfl) rfl #[.agg #[.string a5, .slice Ma la.length Na]] (by rfl) rfl rfl aR_ ?_
                 with_reducible refine (kerbsuiteref12_Check.calls k5 a5 _ _ la Yb _ ?side1 ?side2 fi.out).mono ?_
                 (case side1 => repeat (first | exact (Kd.R_reads' va.out).2.2 | (with_reducible refine Kd.C_alloc ?_ _) | (with_reducible refine Kd.C_drewN ?_ _) | (with_reducible refine Kd.C_drew ?_)))
                 (case side2 => exact (Kd.R_reads' va.out).2.1)
                 rintro e Em ⟨rfl, hb⟩
                 refine ⟨_, rfl, ?_⟩
                 replace ca := aM_ (Kd.R_below (bk_ ca.out) hb)
                 replace qa := aM_ (Kd.R_below (bk_ qa.out) hb)
                 replace va := aM_ (Kd.R_below (bk_ va.out) hb)
                 replace ua := aM_ (Kd.R_below (bk_ ua.out) hb)
                 replace ea := aM_ (blk_below (g := sa) (o := .cells #[.string ra, .slice za pa.length Aa] 24 (0, 0)) (bk_ ea.out) hb)
                 replace da := aM_ (blk_below (g := ma) (o := .cells #[.string ia, .slice Ma la.length Na] 24 (0, 0)) (bk_ da.out) hb)
                 replace fa := aM_ (blk_below (g := aa) (o := .cells #[.string Ra, .string Sa, .int .u64 Ta, .int .i64 Ua, .int .i64 Va, .int .i64 Wa, .int .i64 Xa, .int .i64 Ya, .int .i64 Za] 35 (0, 0)) (bk_ fa.out) hb)
                 replace ja := aM_ (blk_below (g := oa) (o := .cells #[.string ia, .slice Sc ya.length Tc] 24 (0, 0)) (bk_ ja.out) hb)
                 replace wa := aM_ (blk_below (g := eb) (o := .cells #[.string a5, .slice Ma la.length Na] 24 (0, 0)) (bk_ wa.out) hb)
                 replace xa := aM_ (blk_below (g := cb) (o := .cells #[.string ia, mb] 24 (0, 0)) (bk_ xa.out) hb)
                 replace HB := aM_ (below_step hB_ hb)
                 clear hb
                 obtain ⟨Je, Ke, Yg⟩ := Kd.R_slice ua.out
                 (first | subst Yg | (injection Yg with f1_ f2_ f3_; have f4_ := f1_.symm; have f5_ := f3_.symm; clear f1_ f2_ f3_; subst f4_; subst f5_))
                 refine hK.out _ _ ⟨bc_ ja.out 0, bc_ ja.out 1, bc_ wa.out 0, bc_ wa.out 1, bc_ xa.out 0, bc_ xa.out 1⟩ (fun hHeld => ?_)
                 clear hK K
                 refine nO_ 152 ?_
                 refine pU_ 10 (some 153) (bo_ 20 2047) ?_
                 refine pU_ 11 (some 154) (bo_ 20 4095) ?_
                 refine pU_ 12 (some 155) (bo_ 20 8191) ?_
                 refine take_ (i := 13) (N := some 156) (v := ?_) (a' := ?_) (bo_ 20 16383) rfl rfl (take_ofW HT_.out HW_.out (by kernel_rfl)) (fun _ _ _ h => h) (Or.inl ⟨by rfl, ?_⟩) hHeld ?_ ?_
                 rotate_left; (· rintro w' ⟨s0, s1, s2, s3, s4, s5⟩; go_simp; with_reducible rfl)
                 rotate_left; (· simp only [Act.put,sA_,sB_,sC_,i64_w,i32_w]; rfl)
                 refine take_ (i := 15) (N := some 158) (v := ?_) (a' := ?_) (bo_ 20 49151) rfl rfl (take_ofW HT_.out HW_.out (by kernel_rfl)) (fun _ _ _ h => h) (Or.inl ⟨by rfl, ?_⟩) hHeld ?_ ?_
                 rotate_left; (· rintro w' ⟨s0, s1, s2, s3, s4, s5⟩; go_simp; with_reducible rfl)
                 rotate_left; (· simp only [Act.put,sA_,sB_,sC_,i64_w,i32_w]; rfl)
                 refine one_ (i := 14) (N := some 157) (bo_ 20 65535) rfl rfl (one_of HT_.out (by kernel_rfl)) (by decide) (fun K hK => ?_)
                 refine goes_ Tryd.func10 (by kernel_rfl) rfl #[.agg #[.string ia, .slice Je bb.length Ke]] (by rfl) rfl rfl aR_ ?_
                 with_reducible refine (database_Check.calls k5 ia _ _ bb xc _ ?side1 ?side2 Lj.out).mono ?_
                 (case side1 => repeat (first | exact (Kd.R_reads' ua.out).2.2 | (with_reducible refine Kd.C_alloc ?_ _) | (with_reducible refine Kd.C_drewN ?_ _) | (with_reducible refine Kd.C_drew ?_)))
                 (case side2 => exact (Kd.R_reads' ua.out).2.1)
                 rintro e Fm ⟨rfl, hb⟩
                 refine ⟨_, rfl, ?_⟩
                 replace ca := aM_ (Kd.R_below (bk_ ca.out) hb)
                 replace qa := aM_ (Kd.R_below (bk_ qa.out) hb)
                 replace va := aM_ (Kd.R_below (bk_ va.out) hb)
                 replace ua := aM_ (Kd.R_below (bk_ ua.out) hb)
                 replace ea := aM_ (blk_below (g := sa) (o := .cells #[.string ra, .slice za pa.length Aa] 24 (0, 0)) (bk_ ea.out) hb)
                 replace da := aM_ (blk_below (g := ma) (o := .cells #[.string ia, .slice Ma la.length Na] 24 (0, 0)) (bk_ da.out) hb)
                 replace fa := aM_ (blk_below (g := aa) (o := .cells #[.string Ra, .string Sa, .int .u64 Ta, .int .i64 Ua, .int .i64 Va, .int .i64 Wa, .int .i64 Xa, .int .i64 Ya, .int .i64 Za] 35 (0, 0)) (bk_ fa.out) hb)
                 replace ja := aM_ (blk_below (g := oa) (o := .cells #[.string ia, .slice Sc ya.length Tc] 24 (0, 0)) (bk_ ja.out) hb)
                 replace wa := aM_ (blk_below (g := eb) (o := .cells #[.string a5, .slice Ma la.length Na] 24 (0, 0)) (bk_ wa.out) hb)
                 replace xa := aM_ (blk_below (g := cb) (o := .cells #[.string ia, .slice Je bb.length Ke] 24 (0, 0)) (bk_ xa.out) hb)
                 replace HB := aM_ (below_step hB_ hb)
                 clear hb
                 refine hK.out _ _ ⟨bc_ ja.out 0, bc_ ja.out 1, bc_ wa.out 0, bc_ wa.out 1, bc_ xa.out 0, bc_ xa.out 1⟩ (fun hHeld => ?_)
                 clear hK K
                 refine nO_ 157 ?_
                 refine one_ (i := 16) (N := some 159) (bo_ 20 131071) rfl rfl (one_of HT_.out (by kernel_rfl)) (by decide) (fun K hK => ?_)
                 refine goes_ Tryd.func11 (by kernel_rfl) rfl #[.agg #[.string ia, .slice Je bb.length Ke]] (by rfl) rfl rfl aR_ ?_
                 with_reducible refine (kerbsuiteref12_Check.calls k5 ia _ _ bb oc _ ?side1 ?side2 Mj.out).mono ?_
                 (case side1 => repeat (first | exact (Kd.R_reads' ua.out).2.2 | (with_reducible refine Kd.C_alloc ?_ _) | (with_reducible refine Kd.C_drewN ?_ _) | (with_reducible refine Kd.C_drew ?_)))
                 (case side2 => exact (Kd.R_reads' ua.out).2.1)
                 rintro e Gm ⟨rfl, hb⟩
                 refine ⟨_, rfl, ?_⟩
                 replace ca := aM_ (Kd.R_below (bk_ ca.out) hb)
                 replace qa := aM_ (Kd.R_below (bk_ qa.out) hb)
                 replace va := aM_ (Kd.R_below (bk_ va.out) hb)
                 replace ua := aM_ (Kd.R_below (bk_ ua.out) hb)
                 replace ea := aM_ (blk_below (g := sa) (o := .cells #[.string ra, .slice za pa.length Aa] 24 (0, 0)) (bk_ ea.out) hb)
                 replace da := aM_ (blk_below (g := ma) (o := .cells #[.string ia, .slice Ma la.length Na] 24 (0, 0)) (bk_ da.out) hb)
                 replace fa := aM_ (blk_below (g := aa) (o := .cells #[.string Ra, .string Sa, .int .u64 Ta, .int .i64 Ua, .int .i64 Va, .int .i64 Wa, .int .i64 Xa, .int .i64 Ya, .int .i64 Za] 35 (0, 0)) (bk_ fa.out) hb)
                 replace ja := aM_ (blk_below (g := oa) (o := .cells #[.string ia, .slice Sc ya.length Tc] 24 (0, 0)) (bk_ ja.out) hb)
                 replace wa := aM_ (blk_below (g := eb) (o := .cells #[.string a5, .slice Ma la.length Na] 24 (0, 0)) (bk_ wa.out) hb)
                 replace xa := aM_ (blk_below (g := cb) (o := .cells #[.string ia, .slice Je bb.length Ke] 24 (0, 0)) (bk_ xa.out) hb)
                 replace HB := aM_ (below_step hB_ hb)
                 clear hb
                 refine hK.out _ _ ⟨bc_ ja.out 0, bc_ ja.out 1, bc_ wa.out 0, bc_ wa.out 1, bc_ xa.out 0, bc_ xa.out 1⟩ (fun hHeld => ?_)
                 clear hK K
                 refine nO_ 159 ?_
                 refine pU_ 17 (some 160) (bo_ 20 262143) ?_
                 refine pU_ 18 (some 161) (bo_ 20 524287) ?_
                 refine pU_ 19 (some 12) (bo_ 20 1048575) ?_
                 refine done_ (done_of HT_.out (by kernel_rfl)) ?_
                 try go_wp2
                 go_ret
                 exact ⟨by first | rfl | (simp [errW_none, errW_some] <;> rfl) | (simp only [← hji42]; first | rfl | (simp [errW_none, errW_some] <;> rfl)) | (simp [*, errW_none, errW_some] <;> rfl), hB_⟩
                rw [if_neg Pd] at H
                have gi : (bc == Yb) = false := beq_eq_false_iff_ne.mpr Pd
                have hi : (bc != Yb) = true := bne_iff_ne.mpr Pd
                obtain rfl := Option.some.inj H
                try go_upto_region 23 with fail
                replace ca := aM_ (Kd.R_drew ca.out)
                replace qa := aM_ (Kd.R_drew qa.out)
                replace va := aM_ (Kd.R_drew va.out)
                replace ua := aM_ (Kd.R_drew ua.out)
                replace ea := aM_ (blk_drew ea.out)
                replace da := aM_ (blk_drew da.out)
                replace fa := aM_ (blk_drew fa.out)
                replace ja := aM_ (blk_drew ja.out)
                replace wa := aM_ (blk_drew wa.out)
                replace xa := aM_ (blk_drew xa.out)
                replace HB := aM_ (bD_ HB.out)
                obtain ⟨pd, qd, Zg⟩ := Kd.R_slice qa.out
                (first | subst Zg | (injection Zg with f1_ f2_ f3_; have f4_ := f1_.symm; have f5_ := f3_.symm; clear f1_ f2_ f3_; subst f4_; subst f5_))
                refine start_ (n := 20) (S := fun w' => w'.cell? ⟨oa, 0, none⟩ = some (.string ia) ∧ w'.cell? ⟨oa, 1, none⟩ = some (.slice pd ya.length qd) ∧ w'.cell? ⟨eb, 0, none⟩ = some (.string a5) ∧ w'.cell? ⟨eb, 1, none⟩ = some (.slice Ma la.length Na)) (ds := []) (bo_ 20 0) (by kernel_rfl) rfl rfl ⟨bc_ ja.out 0, bc_ ja.out 1, bc_ wa.out 0, bc_ wa.out 1⟩ (fun hHeld => ?_); refine with_tabW kerbsuitelaw12_DatabaseChecks.tab23 kerbsuitelaw12_DatabaseChecks.bits23 (fun HT_ HW_ => ?_)
                generalize wr.drew = Hm at ca qa va ua ea da fa ja wa xa HB hHeld ⊢
                refine take_ (i := 0) (N := some 143) (v := ?_) (a' := ?_) (bo_ 20 1) rfl rfl (take_ofW HT_.out HW_.out (by kernel_rfl)) (fun _ _ _ h => h) (Or.inl ⟨by rfl, ?_⟩) hHeld ?_ ?_
                rotate_left; (· rintro w' ⟨s0, s1, s2, s3⟩; go_simp; with_reducible rfl)
                rotate_left; (· simp only [Act.put,sA_,sB_,sC_,i64_w,i32_w]; rfl)
                refine take_ (i := 2) (N := some 145) (v := ?_) (a' := ?_) (bo_ 20 5) rfl rfl (take_ofW HT_.out HW_.out (by kernel_rfl)) (fun _ _ _ h => h) (Or.inl ⟨by rfl, ?_⟩) hHeld ?_ ?_
                rotate_left; (· rintro w' ⟨s0, s1, s2, s3⟩; go_simp; with_reducible rfl)
                rotate_left; (· simp only [Act.put,sA_,sB_,sC_,i64_w,i32_w]; rfl)
                refine one_ (i := 1) (N := some 144) (bo_ 20 7) rfl rfl (one_of HT_.out (by kernel_rfl)) (by decide) (fun K hK => ?_)
                refine goes_ Tryd.func10 (by kernel_rfl) rfl #[.agg #[.string ia, .slice pd ya.length qd]] (by rfl) rfl rfl aR_ ?_
                with_reducible refine (database_Check.calls k5 ia _ _ ya Oc _ ?side1 ?side2 Cg.out).mono ?_
                (case side1 => repeat (first | exact (Kd.R_reads' qa.out).2.2 | (with_reducible refine Kd.C_alloc ?_ _) | (with_reducible refine Kd.C_drewN ?_ _) | (with_reducible refine Kd.C_drew ?_)))
                (case side2 => exact (Kd.R_reads' qa.out).2.1)
                rintro e Im ⟨rfl, hb⟩
                refine ⟨_, rfl, ?_⟩
                replace ca := aM_ (Kd.R_below (bk_ ca.out) hb)
                replace qa := aM_ (Kd.R_below (bk_ qa.out) hb)
                replace va := aM_ (Kd.R_below (bk_ va.out) hb)
                replace ua := aM_ (Kd.R_below (bk_ ua.out) hb)
                replace ea := aM_ (blk_below (g := sa) (o := .cells #[.string ra, .slice za pa.length Aa] 24 (0, 0)) (bk_ ea.out) hb)
                replace da := aM_ (blk_below (g := ma) (o := .cells #[.string ia, .slice Ma la.length Na] 24 (0, 0)) (bk_ da.out) hb)
                replace fa := aM_ (blk_below (g := aa) (o := .cells #[.string Ra, .string Sa, .int .u64 Ta, .int .i64 Ua, .int .i64 Va, .int .i64 Wa, .int .i64 Xa, .int .i64 Ya, .int .i64 Za] 35 (0, 0)) (bk_ fa.out) hb)
                replace ja := aM_ (blk_below (g := oa) (o := .cells #[.string ia, .slice pd ya.length qd] 24 (0, 0)) (bk_ ja.out) hb)
                replace wa := aM_ (blk_below (g := eb) (o := .cells #[.string a5, .slice Ma la.length Na] 24 (0, 0)) (bk_ wa.out) hb)
                replace xa := aM_ (blk_below (g := cb) (o := .cells #[.string ia, mb] 24 (0, 0)) (bk_ xa.out) hb)
                replace HB := aM_ (below_step hB_ hb)
                clear hb
                refine hK.out _ _ ⟨bc_ ja.out 0, bc_ ja.out 1, bc_ wa.out 0, bc_ wa.out 1⟩ (fun hHeld => ?_)
                clear hK K
                refine nO_ 144 ?_
                refine one_ (i := 3) (N := some 146) (bo_ 20 15) rfl rfl (one_of HT_.out (by kernel_rfl)) (by decide) (fun K hK => ?_)
                refine goes_ Tryd.func11 (by kernel_rfl) rfl #[.agg #[.string ia, .slice pd ya.length qd]] (by rfl) rfl rfl aR_ ?_
                with_reducible refine (kerbsuiteref12_Check.calls k5 ia _ _ ya vc _ ?side1 ?side2 Dg.out).mono ?_
                (case side1 => repeat (first | exact (Kd.R_reads' qa.out).2.2 | (with_reducible refine Kd.C_alloc ?_ _) | (with_reducible refine Kd.C_drewN ?_ _) | (with_reducible refine Kd.C_drew ?_)))
                (case side2 => exact (Kd.R_reads' qa.out).2.1)
                rintro e Jm ⟨rfl, hb⟩
                refine ⟨_, rfl, ?_⟩
                replace ca := aM_ (Kd.R_below (bk_ ca.out) hb)
                replace qa := aM_ (Kd.R_below (bk_ qa.out) hb)
                replace va := aM_ (Kd.R_below (bk_ va.out) hb)
                replace ua := aM_ (Kd.R_below (bk_ ua.out) hb)
                replace ea := aM_ (blk_below (g := sa) (o := .cells #[.string ra, .slice za pa.length Aa] 24 (0, 0)) (bk_ ea.out) hb)
                replace da := aM_ (blk_below (g := ma) (o := .cells #[.string ia, .slice Ma la.length Na] 24 (0, 0)) (bk_ da.out) hb)
                replace fa := aM_ (blk_below (g := aa) (o := .cells #[.string Ra, .string Sa, .int .u64 Ta, .int .i64 Ua, .int .i64 Va, .int .i64 Wa, .int .i64 Xa, .int .i64 Ya, .int .i64 Za] 35 (0, 0)) (bk_ fa.out) hb)
                replace ja := aM_ (blk_below (g := oa) (o := .cells #[.string ia, .slice pd ya.length qd] 24 (0, 0)) (bk_ ja.out) hb)
                replace wa := aM_ (blk_below (g := eb) (o := .cells #[.string a5, .slice Ma la.length Na] 24 (0, 0)) (bk_ wa.out) hb)
                replace xa := aM_ (blk_below (g := cb) (o := .cells #[.string ia, mb] 24 (0, 0)) (bk_ xa.out) hb)
                replace HB := aM_ (below_step hB_ hb)
                clear hb
                refine hK.out _ _ ⟨bc_ ja.out 0, bc_ ja.out 1, bc_ wa.out 0, bc_ wa.out 1⟩ (fun hHeld => ?_)
                clear hK K
                refine nO_ 146 ?_
                refine pU_ 4 (some 147) (bo_ 20 31) ?_
                refine pU_ 5 (some 148) (bo_ 20 63) ?_
                refine take_ (i := 6) (N := some 149) (v := ?_) (a' := ?_) (bo_ 20 127) rfl rfl (take_ofW HT_.out HW_.out (by kernel_rfl)) (fun _ _ _ h => h) (Or.inl ⟨by rfl, ?_⟩) hHeld ?_ ?_
                rotate_left; (· rintro w' ⟨s0, s1, s2, s3⟩; go_simp; with_reducible rfl)
                rotate_left; (· simp only [Act.put,sA_,sB_,sC_,i64_w,i32_w]; rfl)
                refine take_ (i := 8) (N := some 151) (v := ?_) (a' := ?_) (bo_ 20 383) rfl rfl (take_ofW HT_.out HW_.out (by kernel_rfl)) (fun _ _ _ h => h) (Or.inl ⟨by rfl, ?_⟩) hHeld ?_ ?_
                rotate_left; (· rintro w' ⟨s0, s1, s2, s3⟩; go_simp; with_reducible rfl)
                rotate_left; (· simp only [Act.put,sA_,sB_,sC_,i64_w,i32_w]; rfl)
                refine one_ (i := 7) (N := some 150) (bo_ 20 511) rfl rfl (one_of HT_.out (by kernel_rfl)) (by decide) (fun K hK => ?_)
                refine goes_ Tryd.func10 (by kernel_rfl) rfl #[.agg #[.string a5, .slice Ma la.length Na]] (by rfl) rfl rfl aR_ ?_
                with_reducible refine (database_Check.calls k5 a5 _ _ la bc _ ?side1 ?side2 ei.out).mono ?_
                (case side1 => repeat (first | exact (Kd.R_reads' va.out).2.2 | (with_reducible refine Kd.C_alloc ?_ _) | (with_reducible refine Kd.C_drewN ?_ _) | (with_reducible refine Kd.C_drew ?_)))
                (case side2 => exact (Kd.R_reads' va.out).2.1)
                rintro e Km ⟨rfl, hb⟩
                refine ⟨_, rfl, ?_⟩
                replace ca := aM_ (Kd.R_below (bk_ ca.out) hb)
                replace qa := aM_ (Kd.R_below (bk_ qa.out) hb)
                replace va := aM_ (Kd.R_below (bk_ va.out) hb)
                replace ua := aM_ (Kd.R_below (bk_ ua.out) hb)
                replace ea := aM_ (blk_below (g := sa) (o := .cells #[.string ra, .slice za pa.length Aa] 24 (0, 0)) (bk_ ea.out) hb)
                replace da := aM_ (blk_below (g := ma) (o := .cells #[.string ia, .slice Ma la.length Na] 24 (0, 0)) (bk_ da.out) hb)
                replace fa := aM_ (blk_below (g := aa) (o := .cells #[.string Ra, .string Sa, .int .u64 Ta, .int .i64 Ua, .int .i64 Va, .int .i64 Wa, .int .i64 Xa, .int .i64 Ya, .int .i64 Za] 35 (0, 0)) (bk_ fa.out) hb)
                replace ja := aM_ (blk_below (g := oa) (o := .cells #[.string ia, .slice pd ya.length qd] 24 (0, 0)) (bk_ ja.out) hb)
                replace wa := aM_ (blk_below (g := eb) (o := .cells #[.string a5, .slice Ma la.length Na] 24 (0, 0)) (bk_ wa.out) hb)
                replace xa := aM_ (blk_below (g := cb) (o := .cells #[.string ia, mb] 24 (0, 0)) (bk_ xa.out) hb)
                replace HB := aM_ (below_step hB_ hb)
                clear hb
                refine hK.out _ _ ⟨bc_ ja.out 0, bc_ ja.out 1, bc_ wa.out 0, bc_ wa.out 1⟩ (fun hHeld => ?_)
                clear hK K
                refine nO_ 150 ?_
                refine one_ (i := 9) (N := some 152) (bo_ 20 1023) rfl rfl (one_of HT_.out (by kernel_rfl)) (by decide) (fun K hK => ?_)
                refine goes_ Tryd.func11 (by kernel_rfl) rfl #[.agg #[.string a5, .slice Ma la.length Na]] (by rfl) rfl rfl aR_ ?_
                with_reducible refine (kerbsuiteref12_Check.calls k5 a5 _ _ la Yb _ ?side1 ?side2 fi.out).mono ?_
                (case side1 => repeat (first | exact (Kd.R_reads' va.out).2.2 | (with_reducible refine Kd.C_alloc ?_ _) | (with_reducible refine Kd.C_drewN ?_ _) | (with_reducible refine Kd.C_drew ?_)))
                (case side2 => exact (Kd.R_reads' va.out).2.1)
                rintro e Lm ⟨rfl, hb⟩
                refine ⟨_, rfl, ?_⟩
                replace ca := aM_ (Kd.R_below (bk_ ca.out) hb)
                replace qa := aM_ (Kd.R_below (bk_ qa.out) hb)
                replace va := aM_ (Kd.R_below (bk_ va.out) hb)
                replace ua := aM_ (Kd.R_below (bk_ ua.out) hb)
                replace ea := aM_ (blk_below (g := sa) (o := .cells #[.string ra, .slice za pa.length Aa] 24 (0, 0)) (bk_ ea.out) hb)
                replace da := aM_ (blk_below (g := ma) (o := .cells #[.string ia, .slice Ma la.length Na] 24 (0, 0)) (bk_ da.out) hb)
                replace fa := aM_ (blk_below (g := aa) (o := .cells #[.string Ra, .string Sa, .int .u64 Ta, .int .i64 Ua, .int .i64 Va, .int .i64 Wa, .int .i64 Xa, .int .i64 Ya, .int .i64 Za] 35 (0, 0)) (bk_ fa.out) hb)
                replace ja := aM_ (blk_below (g := oa) (o := .cells #[.string ia, .slice pd ya.length qd] 24 (0, 0)) (bk_ ja.out) hb)
                replace wa := aM_ (blk_below (g := eb) (o := .cells #[.string a5, .slice Ma la.length Na] 24 (0, 0)) (bk_ wa.out) hb)
                replace xa := aM_ (blk_below (g := cb) (o := .cells #[.string ia, mb] 24 (0, 0)) (bk_ xa.out) hb)
                replace HB := aM_ (below_step hB_ hb)
                clear hb
                refine hK.out _ _ ⟨bc_ ja.out 0, bc_ ja.out 1, bc_ wa.out 0, bc_ wa.out 1⟩ (fun hHeld => ?_)
                clear hK K
                refine nO_ 152 ?_
                refine pU_ 10 (some 153) (bo_ 20 2047) ?_
                refine pU_ 11 (some 154) (bo_ 20 4095) ?_
                refine pU_ 12 (some 155) (bo_ 20 8191) ?_
                refine pV_ 13 (some 156) (bo_ 20 16383) ?_
                refine pV_ 14 (some 157) (bo_ 20 32767) ?_
                refine pV_ 15 (some 158) (bo_ 20 65535) ?_
                refine pV_ 16 (some 159) (bo_ 20 131071) ?_
                refine pV_ 17 (some 160) (bo_ 20 262143) ?_
                refine pU_ 18 (some 161) (bo_ 20 524287) ?_
                refine pU_ 19 (some 12) (bo_ 20 1048575) ?_
                refine done_ (done_of HT_.out (by kernel_rfl)) ?_
                try go_wp2
                go_ret
                exact ⟨by first | rfl | (simp [errW_none, errW_some] <;> rfl) | (simp only [← hji42]; first | rfl | (simp [errW_none, errW_some] <;> rfl)) | (simp [*, errW_none, errW_some] <;> rfl), hB_⟩
               rw [if_neg Od] at H
               have ci : (Oc == vc) = false := beq_eq_false_iff_ne.mpr Od
               have di : (Oc != vc) = true := bne_iff_ne.mpr Od
               obtain rfl := Option.some.inj H
               try go_upto_region 23 with fail
               replace ca := aM_ (Kd.R_drew ca.out)
               replace qa := aM_ (Kd.R_drew qa.out)
               replace va := aM_ (Kd.R_drew va.out)
               replace ua := aM_ (Kd.R_drew ua.out)
               replace ea := aM_ (blk_drew ea.out)
               replace da := aM_ (blk_drew da.out)
               replace fa := aM_ (blk_drew fa.out)
               replace ja := aM_ (blk_drew ja.out)
               replace wa := aM_ (blk_drew wa.out)
               replace xa := aM_ (blk_drew xa.out)
               replace HB := aM_ (bD_ HB.out)
               obtain ⟨Zd, ae, ah⟩ := Kd.R_slice qa.out
               (first | subst ah | (injection ah with f1_ f2_ f3_; have f4_ := f1_.symm; have f5_ := f3_.symm; clear f1_ f2_ f3_; subst f4_; subst f5_))
               refine start_ (n := 20) (S := fun w' => w'.cell? ⟨oa, 0, none⟩ = some (.string ia) ∧ w'.cell? ⟨oa, 1, none⟩ = some (.slice Zd ya.length ae)) (ds := []) (bo_ 20 0) (by kernel_rfl) rfl rfl ⟨bc_ ja.out 0, bc_ ja.out 1⟩ (fun hHeld => ?_); refine with_tabW kerbsuitelaw12_DatabaseChecks.tab23 kerbsuitelaw12_DatabaseChecks.bits23 (fun HT_ HW_ => ?_)
               generalize wr.drew = Mm at ca qa va ua ea da fa ja wa xa HB hHeld ⊢
               refine take_ (i := 0) (N := some 143) (v := ?_) (a' := ?_) (bo_ 20 1) rfl rfl (take_ofW HT_.out HW_.out (by kernel_rfl)) (fun _ _ _ h => h) (Or.inl ⟨by rfl, ?_⟩) hHeld ?_ ?_
               rotate_left; (· rintro w' ⟨s0, s1⟩; go_simp; with_reducible rfl)
               rotate_left; (· simp only [Act.put,sA_,sB_,sC_,i64_w,i32_w]; rfl)
               refine take_ (i := 2) (N := some 145) (v := ?_) (a' := ?_) (bo_ 20 5) rfl rfl (take_ofW HT_.out HW_.out (by kernel_rfl)) (fun _ _ _ h => h) (Or.inl ⟨by rfl, ?_⟩) hHeld ?_ ?_
               rotate_left; (· rintro w' ⟨s0, s1⟩; go_simp; with_reducible rfl)
               rotate_left; (· simp only [Act.put,sA_,sB_,sC_,i64_w,i32_w]; rfl)
               refine one_ (i := 1) (N := some 144) (bo_ 20 7) rfl rfl (one_of HT_.out (by kernel_rfl)) (by decide) (fun K hK => ?_)
               refine goes_ Tryd.func10 (by kernel_rfl) rfl #[.agg #[.string ia, .slice Zd ya.length ae]] (by rfl) rfl rfl aR_ ?_
               with_reducible refine (database_Check.calls k5 ia _ _ ya Oc _ ?side1 ?side2 Cg.out).mono ?_
               (case side1 => repeat (first | exact (Kd.R_reads' qa.out).2.2 | (with_reducible refine Kd.C_alloc ?_ _) | (with_reducible refine Kd.C_drewN ?_ _) | (with_reducible refine Kd.C_drew ?_)))
               (case side2 => exact (Kd.R_reads' qa.out).2.1)
               rintro e Nm ⟨rfl, hb⟩
               refine ⟨_, rfl, ?_⟩
               replace ca := aM_ (Kd.R_below (bk_ ca.out) hb)
               replace qa := aM_ (Kd.R_below (bk_ qa.out) hb)
               replace va := aM_ (Kd.R_below (bk_ va.out) hb)
               replace ua := aM_ (Kd.R_below (bk_ ua.out) hb)
               replace ea := aM_ (blk_below (g := sa) (o := .cells #[.string ra, .slice za pa.length Aa] 24 (0, 0)) (bk_ ea.out) hb)
               replace da := aM_ (blk_below (g := ma) (o := .cells #[.string ia, .slice Ma la.length Na] 24 (0, 0)) (bk_ da.out) hb)
               replace fa := aM_ (blk_below (g := aa) (o := .cells #[.string Ra, .string Sa, .int .u64 Ta, .int .i64 Ua, .int .i64 Va, .int .i64 Wa, .int .i64 Xa, .int .i64 Ya, .int .i64 Za] 35 (0, 0)) (bk_ fa.out) hb)
               replace ja := aM_ (blk_below (g := oa) (o := .cells #[.string ia, .slice Zd ya.length ae] 24 (0, 0)) (bk_ ja.out) hb)
               replace wa := aM_ (blk_below (g := eb) (o := .cells #[.string a5, .slice Ma la.length Na] 24 (0, 0)) (bk_ wa.out) hb)
               replace xa := aM_ (blk_below (g := cb) (o := .cells #[.string ia, mb] 24 (0, 0)) (bk_ xa.out) hb)
               replace HB := aM_ (below_step hB_ hb)
               clear hb
               refine hK.out _ _ ⟨bc_ ja.out 0, bc_ ja.out 1⟩ (fun hHeld => ?_)
               clear hK K
               refine nO_ 144 ?_
               refine one_ (i := 3) (N := some 146) (bo_ 20 15) rfl rfl (one_of HT_.out (by kernel_rfl)) (by decide) (fun K hK => ?_)
               refine goes_ Tryd.func11 (by kernel_rfl) rfl #[.agg #[.string ia, .slice Zd ya.length ae]] (by rfl) rfl rfl aR_ ?_
               with_reducible refine (kerbsuiteref12_Check.calls k5 ia _ _ ya vc _ ?side1 ?side2 Dg.out).mono ?_
               (case side1 => repeat (first | exact (Kd.R_reads' qa.out).2.2 | (with_reducible refine Kd.C_alloc ?_ _) | (with_reducible refine Kd.C_drewN ?_ _) | (with_reducible refine Kd.C_drew ?_)))
               (case side2 => exact (Kd.R_reads' qa.out).2.1)
               rintro e Om ⟨rfl, hb⟩
               refine ⟨_, rfl, ?_⟩
               replace ca := aM_ (Kd.R_below (bk_ ca.out) hb)
               replace qa := aM_ (Kd.R_below (bk_ qa.out) hb)
               replace va := aM_ (Kd.R_below (bk_ va.out) hb)
               replace ua := aM_ (Kd.R_below (bk_ ua.out) hb)
               replace ea := aM_ (blk_below (g := sa) (o := .cells #[.string ra, .slice za pa.length Aa] 24 (0, 0)) (bk_ ea.out) hb)
               replace da := aM_ (blk_below (g := ma) (o := .cells #[.string ia, .slice Ma la.length Na] 24 (0, 0)) (bk_ da.out) hb)
               replace fa := aM_ (blk_below (g := aa) (o := .cells #[.string Ra, .string Sa, .int .u64 Ta, .int .i64 Ua, .int .i64 Va, .int .i64 Wa, .int .i64 Xa, .int .i64 Ya, .int .i64 Za] 35 (0, 0)) (bk_ fa.out) hb)
               replace ja := aM_ (blk_below (g := oa) (o := .cells #[.string ia, .slice Zd ya.length ae] 24 (0, 0)) (bk_ ja.out) hb)
               replace wa := aM_ (blk_below (g := eb) (o := .cells #[.string a5, .slice Ma la.length Na] 24 (0, 0)) (bk_ wa.out) hb)
               replace xa := aM_ (blk_below (g := cb) (o := .cells #[.string ia, mb] 24 (0, 0)) (bk_ xa.out) hb)
               replace HB := aM_ (below_step hB_ hb)
               clear hb
               refine hK.out _ _ ⟨bc_ ja.out 0, bc_ ja.out 1⟩ (fun hHeld => ?_)
               clear hK K
               refine nO_ 146 ?_
               refine pU_ 4 (some 147) (bo_ 20 31) ?_
               refine pU_ 5 (some 148) (bo_ 20 63) ?_
               refine pV_ 6 (some 149) (bo_ 20 127) ?_
               refine pV_ 7 (some 150) (bo_ 20 255) ?_
               refine pV_ 8 (some 151) (bo_ 20 511) ?_
               refine pV_ 9 (some 152) (bo_ 20 1023) ?_
               refine pV_ 10 (some 153) (bo_ 20 2047) ?_
               refine pU_ 11 (some 154) (bo_ 20 4095) ?_
               refine pU_ 12 (some 155) (bo_ 20 8191) ?_
               refine pV_ 13 (some 156) (bo_ 20 16383) ?_
               refine pV_ 14 (some 157) (bo_ 20 32767) ?_
               refine pV_ 15 (some 158) (bo_ 20 65535) ?_
               refine pV_ 16 (some 159) (bo_ 20 131071) ?_
               refine pV_ 17 (some 160) (bo_ 20 262143) ?_
               refine pU_ 18 (some 161) (bo_ 20 524287) ?_
               refine pU_ 19 (some 12) (bo_ 20 1048575) ?_
               refine done_ (done_of HT_.out (by kernel_rfl)) ?_
               try go_wp2
               go_ret
               exact ⟨by first | rfl | (simp [errW_none, errW_some] <;> rfl) | (simp only [← hji42]; first | rfl | (simp [errW_none, errW_some] <;> rfl)) | (simp [*, errW_none, errW_some] <;> rfl), hB_⟩
          rw [if_neg Gg] at H
          exact absurd H (by simp)
       rw [if_neg Mf] at H
       exact absurd H (by simp)
      rw [if_neg Lf] at H
      exact absurd H (by simp)
 replace c8 := Bool.eq_false_iff.mpr c8
 subst c8
 have H1 : (some false) = some r := by rw [if_neg (show ¬ (false = true) by decide)] at H; exact H
 clear H
 have H := H1
 clear H1
 obtain rfl := Option.some.inj H
 go_enter Tryd.func3, Tryd.ntmps3
 go_wp2_with (first | ((with_reducible refine gate_dst (N := 6) rfl ?_); (try (refine gate_guard (by rfl) ?_; dsimp only)); refine box_event ?hg (N := 6) ?hd (cs := #[.string ra, .slice za pa.length Aa]) (t := 24) ?hr ?_; (case hd => rfl); (case hg => rfl); (case hr => first | (go_simp; done) | (go_simp; rfl)); intro sa hg Pm hbox hb; have ea := aM_ (hbox); have mi := aM_ ((by rw [hg]; exact (below_size (bk_ HB.out)) : w.heap.size ≤ sa)); have ni := aM_ ((by rw [hg]; exact (below_size (bk_ HB.out)) : w.heap.size ≤ sa)); replace HB := aM_ (below_step (bk_ HB.out) hb); clear hb hbox hg) | ((with_reducible refine gate_callee (f := 7) rfl ?_); refine goesL_ (some 21) rfl rfl Tryd.func7 (by kernel_rfl) rfl #[] rfl aR_ ?_; (with_reducible refine (kerbsuitelaw12_awake.calls k  false _ A7.out).mono ?_); rintro e Qm ⟨rfl, hb⟩; refine ⟨_, rfl, ?_⟩; replace ea := aM_ (blk_below (g := sa) (o := .cells #[.string ra, .slice za pa.length Aa] 24 (0, 0)) (bk_ ea.out) hb); replace HB := aM_ (below_step hB_ hb); clear hb))
 go_ret
 exact ⟨eW_, hB_⟩

/-- The one plain statement that is left of kerbsuitelaw12_DatabaseChecks. -/
def kerbsuitelaw12_DatabaseChecks.Pure : Prop := ∀ (ra : ByteArray) (pa : List (S35)) (l1 : List Int) (a2 : Int) (a3 : Int) (a4 : Int) (a5 : ByteArray), ra.size ≤ maxLen → pa.length ≤ maxLen → (∀ x ∈ pa, x.f0.size ≤ maxLen ∧ x.f1.size ≤ maxLen ∧ (Lit.int .u64 x.f2).wf = true ∧ (Lit.int .i64 x.f3).wf = true ∧ (Lit.int .i64 x.f4).wf = true ∧ (Lit.int .i64 x.f5).wf = true ∧ (Lit.int .i64 x.f6).wf = true ∧ (Lit.int .i64 x.f7).wf = true ∧ (Lit.int .i64 x.f8).wf = true) → l1.length ≤ maxLen → l1.length * 1 ≤ 140737488351232 → (∀ x ∈ l1, (Lit.int .u8 x).wf = true) → (Lit.int .u8 a2).wf = true → (Lit.int .u8 a3).wf = true → (Lit.int .i64 a4).wf = true → a5.size ≤ 140737488351232 → ∃ k, kerbsuitelaw12_DatabaseChecks.f k ra pa l1 a2 a3 a4 a5 = some true
theorem kerbsuitelaw12_DatabaseChecks.walk (P : kerbsuitelaw12_DatabaseChecks.Pure) (ra : ByteArray) (za : Option Addr) (Aa : Nat) (pa : List (S35)) (A1 : Option Addr) (c1 : Nat) (l1 : List Int) (a2 : Int) (a3 : Int) (a4 : Int) (a5 : ByteArray) (w : World) (ii : ra.size ≤ maxLen) (hr0_1 : Kd.C k35 w za pa.length pa) (hc0_1 : pa.length ≤ Aa) (ji : pa.length ≤ maxLen) (ki : (∀ x ∈ pa, x.f0.size ≤ maxLen ∧ x.f1.size ≤ maxLen ∧ (Lit.int .u64 x.f2).wf = true ∧ (Lit.int .i64 x.f3).wf = true ∧ (Lit.int .i64 x.f4).wf = true ∧ (Lit.int .i64 x.f5).wf = true ∧ (Lit.int .i64 x.f6).wf = true ∧ (Lit.int .i64 x.f7).wf = true ∧ (Lit.int .i64 x.f8).wf = true)) (hr1 : Kd.C (Kd.int .u8) w A1 l1.length l1) (hc1 : l1.length ≤ c1) (Oj : l1.length ≤ maxLen) (Pj : l1.length * 1 ≤ 140737488351232) (Qj : (∀ x ∈ l1, (Lit.int .u8 x).wf = true)) (Rj : (Lit.int .u8 a2).wf = true) (Sj : (Lit.int .u8 a3).wf = true) (Tj : (Lit.int .i64 a4).wf = true) (Uj : a5.size ≤ 140737488351232) :
  Calls Tryd.prog 3 #[.agg #[.string ra, .slice za pa.length Aa], .slice A1 l1.length c1, .int .u8 a2, .int .u8 a3, .int .i64 a4, .string a5] w fun e w' => e = .returned (.bool true) ∧ Below w.heap.size w w' := by
 obtain ⟨k, h⟩ := P ra pa l1 a2 a3 a4 a5 ii ji ki Oj Pj Qj Rj Sj Tj Uj
 refine (kerbsuitelaw12_DatabaseChecks.calls k ra za Aa pa A1 c1 l1 a2 a3 a4 a5 true w hr0_1 hc0_1 hr1 hc1 h).mono ?_
 rintro e w' ⟨rfl, hd⟩
 exact ⟨rfl, hd⟩

end Go.Proofs.YthfdfoigoomaoaaDoor.PDb
