/- The walks of functions of the translation: each call returns what the plain function beside it says. -/
import Derived.Test.YthfdfoigoomaoaaDoorPDbx0
import Derived.Test.YthfdfoigoomaoaaDoorPDbx7
import Derived.Test.YthfdfoigoomaoaaDoorPDbx8
import Derived.Test.YthfdfoigoomaoaaDoorPDbx9
namespace Go.Proofs.YthfdfoigoomaoaaDoor.PDb
open Go.RowKit Go.Proofs.YthfdfoigoomaoaaDoorW.PrintWords Go.Proofs.YthfdfoigoomaoaaDoorW.PrintLast Go.Proofs.YthfdfoigoomaoaaDoorW.PrintMore Go.Proofs.YthfdfoigoomaoaaDoor.Aid
attribute [local go_sem] max2_int min2_int max_two min_two max_three min_three max_four min_four aid_str_gtr aid_str_leq   -- for this text's walks alone
set_option linter.unusedVariables false
set_option linter.unusedSimpArgs false

/-! ### kerbsuitedata_Database: function 9 -/
mutual
def kerbsuitedata_Database.l0 : Nat → List Int → Int → ByteArray → List (S35) → Option (ByteArray × (List (S35)))
 | 0, _, _, _, _ => none
 | k + 1, La, Ra, Na, Fa => (kerbsuitedata_Source_More.f La Ra).bind fun Gc => (if Gc.1 = true then (kerbsuitedata_Database.j1 k (decide ((Fa.length : Int) < 60)) La Gc.2 Na Fa) else (kerbsuitedata_Database.j1 k false La Gc.2 Na Fa))
def kerbsuitedata_Database.j1 : Nat → Bool → List Int → Int → ByteArray → List (S35) → Option (ByteArray × (List (S35)))
 | 0, _, _, _, _, _ => none
 | k + 1, Re, La, Ra, Na, Fa => if Re = true then ((kerbsuitedata_Entry.f k La Ra).bind fun Ka => (kerbsuitedata_Database.l1 k 0 La Ka.2.2.2.2.2.2.2.2.2 Na Fa Ka.1 Ka.2.1 Ka.2.2.1 Ka.2.2.2.1 Ka.2.2.2.2.1 Ka.2.2.2.2.2.1 Ka.2.2.2.2.2.2.1 Ka.2.2.2.2.2.2.2.1 Ka.2.2.2.2.2.2.2.2.1)) else (some (Na, Fa))
def kerbsuitedata_Database.l1 : Nat → Int → List Int → Int → ByteArray → List (S35) → ByteArray → ByteArray → Int → Int → Int → Int → Int → Int → Int → Option (ByteArray × (List (S35)))
 | 0, _, _, _, _, _, _, _, _, _, _, _, _, _, _ => none
 | k + 1, x8, La, Ra, Na, Fa, Ya, nb, qb, rb, sb, tb, ub, vb, wb => if x8 < (Fa.length : Int) then (if 0 ≤ x8 then (if (Op.bytesLess (((rd_T35 Fa x8).f0).toList) Ya.toList) = true then (kerbsuitedata_Database.j3 k x8 true La Ra Na Fa Ya nb qb rb sb tb ub vb wb) else (if ((rd_T35 Fa x8).f0).toList = Ya.toList then (kerbsuitedata_Database.j3 k x8 (!(Op.bytesLess nb.toList (((rd_T35 Fa x8).f1).toList))) La Ra Na Fa Ya nb qb rb sb tb ub vb wb) else (kerbsuitedata_Database.j3 k x8 false La Ra Na Fa Ya nb qb rb sb tb ub vb wb))) else (none)) else (kerbsuitedata_Database.j3 k x8 false La Ra Na Fa Ya nb qb rb sb tb ub vb wb)
def kerbsuitedata_Database.j3 : Nat → Int → Bool → List Int → Int → ByteArray → List (S35) → ByteArray → ByteArray → Int → Int → Int → Int → Int → Int → Int → Option (ByteArray × (List (S35)))
 | 0, _, _, _, _, _, _, _, _, _, _, _, _, _, _, _ => none
 | k + 1, x8, Se, La, Ra, Na, Fa, Ya, nb, qb, rb, sb, tb, ub, vb, wb => if Se = true then (kerbsuitedata_Database.l1 k (wrap64 (x8 + 1)) La Ra Na Fa Ya nb qb rb sb tb ub vb wb) else ((some (([] : List (S35)) : List (S35))).bind fun lb => (if 0 ≤ x8 then (if x8 ≤ (Fa.length : Int) then ((some (Fa.take (x8 : Int).toNat : List (S35))).bind fun Ga => (if lb.length + Ga.length < 1599289640401 then ((some (lb ++ Ga : List (S35))).bind fun Pa => ((some (([(⟨Ya, nb, qb, rb, sb, tb, ub, vb, wb⟩ : S35)] : List (S35)) : List (S35))).bind fun Ha => (if Pa.length + Ha.length < 1599289640401 then ((some (Pa ++ Ha : List (S35))).bind fun Ma => ((some (Fa.drop (x8 : Int).toNat : List (S35))).bind fun ra => (if Ma.length + ra.length < 1599289640401 then (kerbsuitedata_Database.l0 k La Ra Na (Ma ++ ra)) else (none)))) else (none)))) else (none))) else (none)) else (none)))
end
def kerbsuitedata_Database.f (k : Nat) (l0 : List Int) (a1 : Int) : Option (ByteArray × (List (S35))) := (kerbsuitedata_Realm.f a1).bind fun ta => (kerbsuitedata_Database.l0 k l0 0 ta ([] : List (S35)))
def kerbsuitedata_Database.T6 : Bool × List (List Nat × List Nat) := (true,[([], []), ([], []), ([1], [1]), ([2], [2]), ([0, 3], [0, 3]), ([4], [4]), ([5], [5]), ([6, 5], [5, 6]), ([5], [5]), ([7, 8, 5], [5, 7, 8]), ([9, 5], [5, 9]), ([10, 5], [5, 10]), ([5], [5]), ([12, 5], [5, 12]), ([11, 13, 5], [5, 11, 13]), ([14, 5, 5], [5, 14]), ([15], [15]), ([16, 15], [15, 16]), ([15], [15]), ([17, 18, 15], [15, 17, 18]), ([19, 15], [15, 19]), ([20, 15], [15, 20]), ([15], [15]), ([22, 15], [15, 22]), ([21, 23, 15], [15, 21, 23]), ([24, 15, 15], [15, 24]), ([25], [25]), ([26, 25], [25, 26]), ([25], [25]), ([27, 28, 25], [25, 27, 28]), ([29, 25], [25, 29]), ([30, 25], [25, 30]), ([25], [25]), ([32, 25], [25, 32]), ([31, 33, 25], [25, 31, 33]), ([25, 34, 15], [15, 25, 34]), ([15, 35, 5], [5, 15, 35]), ([5, 36], [5, 36])])
def kerbsuitedata_Database.B6 : List Nat := [0, 0, 2, 6, 15, 31, 63, 127, 63, 511, 1023, 2047, 63, 4159, 16383, 32767, 65535, 131071, 65535, 524287, 1048575, 2097151, 65535, 4259839, 16777215, 33554431, 67108863, 134217727, 67108863, 536870911, 1073741823, 2147483647, 67108863, 4362076159, 17179869183, 34359738367, 68719476735, 137438953471]
theorem kerbsuitedata_Database.tab6 : rtab .any (opsOf Tryd.f9 6) = kerbsuitedata_Database.T6 := by kernel_rfl
theorem kerbsuitedata_Database.bits6 : waitsOk kerbsuitedata_Database.T6.2 kerbsuitedata_Database.B6 = true := by kernel_rfl
def kerbsuitedata_Database.T8 : Bool × List (List Nat × List Nat) := (true,[([], []), ([], []), ([1], [1]), ([], []), ([2, 3], [2, 3]), ([0, 4], [0, 4]), ([], []), ([6], [6]), ([5, 7, 5], [5, 7]), ([], []), ([9], [9]), ([], []), ([10, 11], [10, 11]), ([8, 12, 8], [8, 12]), ([0, 1, 2, 3, 4, 5, 6, 7, 8, 9, 10, 11, 12, 13], []), ([14, 13, 13, 0, 1, 2, 3, 4, 5, 6, 7, 8, 9, 10, 11, 12, 13], [13, 14])])
def kerbsuitedata_Database.B8 : List Nat := [0, 0, 2, 0, 14, 31, 0, 64, 255, 0, 512, 0, 3584, 8191, 16383, 32767]
theorem kerbsuitedata_Database.tab8 : rtab .any (opsOf Tryd.f9 8) = kerbsuitedata_Database.T8 := by kernel_rfl
theorem kerbsuitedata_Database.bits8 : waitsOk kerbsuitedata_Database.T8.2 kerbsuitedata_Database.B8 = true := by kernel_rfl
set_option maxHeartbeats 8000000 in
set_option maxRecDepth 100000 in
theorem kerbsuitedata_Database.calls (k : Nat) (A0 : Option Addr) (c0 : Nat) (l0 : List Int) (a1 : Int) (r1 : ByteArray) (r2 : List (S35)) (w : World) (hr0 : Kd.C (Kd.int .u8) w A0 l0.length l0) (hc0 : l0.length ≤ c0) (h : kerbsuitedata_Database.f k l0 a1 = some (r1, r2)) :
  Calls Tryd.prog 9 #[.slice A0 l0.length c0, .int .i64 a1] w fun e w' => ∃ Ud : Value, e = .returned (.agg #[.string r1, Ud]) ∧ Kd.R k35 35 w' w.heap.size (fun _ => True) Ud r2 ∧ Below w.heap.size w w' := by
 have hu24 := Tryd.underlying24
 have hu52 := Tryd.underlying52
 have hu35 := Tryd.underlying35
 have Te := aM_ hr0
 have Yf := aM_ hc0
 clear hr0 hc0
 have HB := aM_ (Below.refl w.heap.size w)
 have H : ((kerbsuitedata_Realm.f a1).bind fun ta => (kerbsuitedata_Database.l0 k l0 0 ta ([] : List (S35)))) = some (r1, r2) := h
 clear h
 replace H := Option.bind_eq_some_iff.mp H
 obtain ⟨ta, Vd, H⟩ := H
 try dsimp only at H
 have A3 := aM_ Vd
 clear Vd
 have H' := aM_ H
 clear H
 go_enter Tryd.func9, Tryd.ntmps9
 go_wp2_with (first | ((with_reducible refine gate_dst (N := 4) rfl ?_); (try (refine gate_guard (by rfl) ?_; dsimp only)); refine bE_ 4 24 #[.string (⟨#[]⟩ : ByteArray), .slice none 0 0] ?_; intro Ta hg w4 hbox hb; have ia := aM_ (hbox); have df := aM_ (gB_ hg HB.out); have na := aM_ (gB_ hg HB.out); replace HB := aM_ (below_step (bk_ HB.out) hb); clear hb hbox hg) | ((with_reducible refine gate_dst (N := 11) rfl ?_); (try (refine gate_guard (by rfl) ?_; dsimp only)); refine bE_ 11 52 #[.slice A0 l0.length c0, .int .i64 0] ?_; intro Qa hg w5 hbox hb; have ef := aM_ (gB_ hg HB.out); have ff := aM_ (gB_ hg HB.out); have Kb := aM_ (nL_ hg ia.out); have ka := aM_ (nG_ hg ia.out); replace ia := aM_ (kG_ ia.out hb); have ea := aM_ ((⟨_, _, hbox, (by rw [hg]; exact (below_size hB_)), Te.out⟩ : IsS52 w _ Qa l0 0)); replace HB := aM_ (below_step hB_ hb); clear hb hbox hg) | ((with_reducible refine gate_callee (f := 33) rfl ?_); refine gC_ (some 13) 33 #[.int .i64 a1] Tryd.func33 ?_; (with_reducible refine (kerbsuitedata_Realm.calls a1 ta _ A3.out).mono ?_); rintro e w6 ⟨rfl, hb⟩; refine ⟨_, rfl, ?_⟩; replace ia := aM_ (kG_ ia.out hb); replace HB := aM_ (below_step (by repeat (first | (with_reducible first | exact HB.out | apply bA_ | apply bN_ | apply bD_ | refine bS_ ?_ (IsS52.ge ea.out) | refine bS_ ?_ na.out) | exact HB.out)) hb); replace ea := aM_ (IsS52.below (by repeat (first | (with_reducible first | exact ea.out | apply IsS52.alloc | apply IsS52.drewN | apply IsS52.drew | apply IsS52.set_1 | refine IsS52.far ?_ ka.out _) | exact ea.out)) hb); clear hb) | ((with_reducible refine gate_dst (N := 6) rfl ?_); (try (refine gate_guard (by rfl) ?_; dsimp only)); refine bE_ 6 24 #[.string (⟨#[]⟩ : ByteArray), .slice none 0 0] ?_; intro Ba hg w7 hbox hb; have ha := aM_ (hbox); have gf := aM_ ((by rw [hg]; exact (below_size (by repeat (first | (with_reducible first | exact HB.out | apply bA_ | apply bN_ | apply bD_ | refine bS_ ?_ (IsS52.ge ea.out) | refine bS_ ?_ na.out) | exact HB.out))) : w.heap.size ≤ Ba)); have pa := aM_ ((by rw [hg]; exact (below_size (by repeat (first | (with_reducible first | exact HB.out | apply bA_ | apply bN_ | apply bD_ | refine bS_ ?_ (IsS52.ge ea.out) | refine bS_ ?_ na.out) | exact HB.out))) : w.heap.size ≤ Ba)); replace HB := aM_ (below_step (by repeat (first | (with_reducible first | exact HB.out | apply bA_ | apply bN_ | apply bD_ | refine bS_ ?_ (IsS52.ge ea.out) | refine bS_ ?_ na.out) | exact HB.out)) hb); have ob := aM_ (nL_ hg ia.out); have Lb := aM_ (nG_ hg ia.out); replace ia := aM_ (kG_ ia.out hb); have la := aM_ (nI_ hg (IsS52.lt ea.out)); have pb := aM_ (nJ_ hg (IsS52.lt ea.out)); replace ea := aM_ (IsS52.below (by repeat (first | (with_reducible first | exact ea.out | apply IsS52.alloc | apply IsS52.drewN | apply IsS52.drew | apply IsS52.set_1 | refine IsS52.far ?_ ka.out _) | exact ea.out)) hb); clear hb hbox hg; have Kf := Lb.out; have Lf := ob.out; have Mf := pb.out; have Nf := la.out; obtain ⟨dc, ec⟩ := kC2_ ha.out; obtain ⟨fc, gc⟩ := kZ2_ ha.out))
 go_loopg [] k (fun kq w' => ∃ (Wa : Int) (aa : List (S35)) (Oa : Value), Aside0 (kerbsuitedata_Database.l0 kq l0 Wa ta aa = some (r1, r2)) ∧ Aside0 (kq ≤ k) ∧ Aside0 (Kd.R k35 35 w' w.heap.size (fun _ => True) Oa aa) ∧ Aside0 (w'.heap[Ta]? = some (.cells #[.string (⟨#[]⟩ : ByteArray), (.slice none 0 0)] 24 (0, 0))) ∧ Aside0 (w'.heap[Ba]? = some (.cells #[.string ta, Oa] 24 (0, 0))) ∧ Aside0 (IsS52 w w' Qa l0 Wa) ∧ Aside0 (Below w.heap.size w w'))
 case atStart => exact ⟨(0), (([] : List (S35))), (.slice none 0 0), H', ⟨Nat.le_refl _⟩, ⟨by first | exact Kd.R_nil _ _ _ _ _ | exact Kd.N_nil _ _ _ _ _ | exact Kd.V_nil _ _ _ _ _ | exact Kd.Q_nil _ _ _ _ _ | exact Kd.S_nil _ _ _ _ _⟩, ⟨by exact far_ ob.out ia.out⟩, ⟨by exact puts_ ha.out⟩, ⟨by repeat (first | (with_reducible first | exact ea.out | apply IsS52.alloc | apply IsS52.drewN | apply IsS52.drew | apply IsS52.set_1 | refine IsS52.far ?_ ka.out _ | refine IsS52.far ?_ la.out _) | exact ea.out)⟩, ⟨by repeat (first | (with_reducible first | exact HB.out | apply bA_ | apply bN_ | apply bD_ | refine bS_ ?_ (IsS52.ge ea.out) | refine bS_ ?_ na.out | refine bS_ ?_ pa.out) | exact HB.out)⟩⟩
 case round =>
  clear H'
  try clear p2
  try clear c3
  try clear c8
  try clear c9
  try clear dc
  try clear ec
  try clear fc
  try clear gc
  obtain ⟨Wa, aa, Oa, HA, Yb, da, ia, ha, ea, HB⟩ := hrel
  cases gk with
  | zero => exact absurd HA.out (by simp [kerbsuitedata_Database.l0])
  | succ k1 =>
   have H := HA.out
   clear HA
   simp only [kerbsuitedata_Database.l0] at H
   have Sc := aM_ H
   clear H
   go_upto_region 3 with (fail)
   go_cut [22] (fun We wc => ∃ (kq : Nat) (bc : Bool) (Za : Int), We = .bool bc ∧ Aside0 (kerbsuitedata_Database.j1 kq bc l0 Za ta aa = some (r1, r2)) ∧ Aside0 (kq ≤ k1) ∧ Aside0 (Kd.R k35 35 wc w.heap.size (fun _ => True) Oa aa) ∧ Aside0 (wc.heap[Ta]? = some (.cells #[.string (⟨#[]⟩ : ByteArray), (.slice none 0 0)] 24 (0, 0))) ∧ Aside0 (wc.heap[Ba]? = some (.cells #[.string ta, Oa] 24 (0, 0))) ∧ Aside0 (IsS52 w wc Qa l0 Za) ∧ Aside0 (Below w.heap.size w wc))
   case first =>
    have H := Sc.out
    clear Sc
    replace H := Option.bind_eq_some_iff.mp H
    obtain ⟨⟨te, hc⟩, Cd, H⟩ := H
    try dsimp only at H
    have Wd := aM_ Cd
    clear Cd
    by_cases qc : te = true
    ·subst qc
     have H1 : (kerbsuitedata_Database.j1 k1 (decide ((aa.length : Int) < 60)) l0 hc ta aa) = some (r1, r2) := by rw [if_pos rfl] at H; exact H
     clear H
     have H := H1
     clear H1
     have H' := aM_ H
     clear H
     go_wp2_with (first | ((with_reducible refine gate_callee (f := 34) rfl ?_); refine gC_ (some 16) 34 #[.pointer (some ⟨Qa, 0, none⟩)] Tryd.func34 ?_; (with_reducible refine (kerbsuitedata_Source_More.calls Qa l0 Wa true hc w _ ?side1 ?side2 Wd.out).mono ?_); (case side1 => repeat (first | (with_reducible first | exact ea.out | apply IsS52.alloc | apply IsS52.drewN | apply IsS52.drew | apply IsS52.set_1 | refine IsS52.far ?_ ka.out _ | refine IsS52.far ?_ la.out _) | exact ea.out)); (case side2 => repeat (first | (with_reducible first | exact HB.out | apply bA_ | apply bN_ | apply bD_ | refine bS_ ?_ (IsS52.ge ea.out) | refine bS_ ?_ na.out | refine bS_ ?_ pa.out) | exact HB.out)); rintro e Zf ⟨rfl, hi, hb, hk⟩; refine ⟨_, rfl, ?_⟩; replace da := aM_ (Kd.R_mono (Kd.R_keep (IsS52.apart (show IsS52 w _ Qa l0 Wa from by repeat (first | (with_reducible first | exact ea.out | apply IsS52.alloc | apply IsS52.drewN | apply IsS52.drew | apply IsS52.set_1 | refine IsS52.far ?_ ka.out _ | refine IsS52.far ?_ la.out _) | exact ea.out)) (bk_ da.out) (by decide)) hk (fun _ h => h.2)) (fun _ h => h.1)); replace ia := aM_ (KeepBut.blk hk (g' := Ta) (o := .cells #[.string (⟨#[]⟩ : ByteArray), .slice none 0 0] 24 (0, 0)) (bk_ ia.out) Kb.out (by simp)); replace ha := aM_ (KeepBut.blk hk (g' := Ba) (o := .cells #[.string ta, Oa] 24 (0, 0)) (bk_ ha.out) pb.out (by simp)); replace HB := aM_ (hb); replace ea := aM_ (hi); clear hb hk hi; have hf := Lb.out; have jf := ob.out; have kf := pb.out; have lf := la.out; obtain ⟨rc, sc⟩ := kC2_ ha.out; obtain ⟨tc, uc⟩ := kZ2_ ha.out; obtain ⟨Of, Pf, ue⟩ := Kd.R_slice da.out; subst ue))
     go_meet
     case rel => exact ⟨_, (decide ((aa.length : Int) < 60)), (hc), rS_, H', ⟨by have := Yb.out; first | omega | exact Nat.le_refl _⟩, ⟨by refine bk_ ?_; exact da.out⟩, ⟨by refine bk_ ?_; exact ia.out⟩, ⟨by refine bk_ ?_; exact ha.out⟩, ⟨by repeat (first | (with_reducible first | exact ea.out | apply IsS52.alloc | apply IsS52.drewN | apply IsS52.drew | apply IsS52.set_1 | refine IsS52.far ?_ ka.out _ | refine IsS52.far ?_ la.out _) | exact ea.out)⟩, ⟨by repeat (first | (with_reducible first | exact HB.out | apply bA_ | apply bN_ | apply bD_ | refine bS_ ?_ (IsS52.ge ea.out) | refine bS_ ?_ na.out | refine bS_ ?_ pa.out) | exact HB.out)⟩⟩
    replace qc := Bool.eq_false_iff.mpr qc
    subst qc
    have H1 : (kerbsuitedata_Database.j1 k1 false l0 hc ta aa) = some (r1, r2) := by rw [if_neg (show ¬ (false = true) by decide)] at H; exact H
    clear H
    have H := H1
    clear H1
    have H' := aM_ H
    clear H
    go_wp2_with (first | ((with_reducible refine gate_callee (f := 34) rfl ?_); refine gC_ (some 16) 34 #[.pointer (some ⟨Qa, 0, none⟩)] Tryd.func34 ?_; (with_reducible refine (kerbsuitedata_Source_More.calls Qa l0 Wa false hc w _ ?side1 ?side2 Wd.out).mono ?_); (case side1 => repeat (first | (with_reducible first | exact ea.out | apply IsS52.alloc | apply IsS52.drewN | apply IsS52.drew | apply IsS52.set_1 | refine IsS52.far ?_ ka.out _ | refine IsS52.far ?_ la.out _) | exact ea.out)); (case side2 => repeat (first | (with_reducible first | exact HB.out | apply bA_ | apply bN_ | apply bD_ | refine bS_ ?_ (IsS52.ge ea.out) | refine bS_ ?_ na.out | refine bS_ ?_ pa.out) | exact HB.out)); rintro e ag ⟨rfl, hi, hb, hk⟩; refine ⟨_, rfl, ?_⟩; replace da := aM_ (Kd.R_mono (Kd.R_keep (IsS52.apart (show IsS52 w _ Qa l0 Wa from by repeat (first | (with_reducible first | exact ea.out | apply IsS52.alloc | apply IsS52.drewN | apply IsS52.drew | apply IsS52.set_1 | refine IsS52.far ?_ ka.out _ | refine IsS52.far ?_ la.out _) | exact ea.out)) (bk_ da.out) (by decide)) hk (fun _ h => h.2)) (fun _ h => h.1)); replace ia := aM_ (KeepBut.blk hk (g' := Ta) (o := .cells #[.string (⟨#[]⟩ : ByteArray), .slice none 0 0] 24 (0, 0)) (bk_ ia.out) Kb.out (by simp)); replace ha := aM_ (KeepBut.blk hk (g' := Ba) (o := .cells #[.string ta, Oa] 24 (0, 0)) (bk_ ha.out) pb.out (by simp)); replace HB := aM_ (hb); replace ea := aM_ (hi); clear hb hk hi))
    go_meet
    case rel => exact ⟨_, (false), (hc), rS_, H', ⟨by have := Yb.out; first | omega | exact Nat.le_refl _⟩, ⟨by refine bk_ ?_; exact da.out⟩, ⟨by refine bk_ ?_; exact ia.out⟩, ⟨by refine bk_ ?_; exact ha.out⟩, ⟨by repeat (first | (with_reducible first | exact ea.out | apply IsS52.alloc | apply IsS52.drewN | apply IsS52.drew | apply IsS52.set_1 | refine IsS52.far ?_ ka.out _ | refine IsS52.far ?_ la.out _) | exact ea.out)⟩, ⟨by repeat (first | (with_reducible first | exact HB.out | apply bA_ | apply bN_ | apply bD_ | refine bS_ ?_ (IsS52.ge ea.out) | refine bS_ ?_ na.out | refine bS_ ?_ pa.out) | exact HB.out)⟩⟩
   case rest =>
    clear Sc
    try clear c1
    try clear p2
    try clear c3
    try clear c8
    try clear c9
    try clear qc
    try clear Xe
    try clear Ye
    try clear dc
    try clear ec
    try clear rc
    try clear sc
    try clear fc
    try clear gc
    try clear tc
    try clear uc
    try clear p2
    obtain ⟨kq, bc, Za, rfl, HA, Rb, da, ia, ha, ea, HB⟩ := hcut
    cases kq with
    | zero => exact absurd HA.out (by simp [kerbsuitedata_Database.j1])
    | succ nc =>
     have H := HA.out
     clear HA
     simp only [kerbsuitedata_Database.j1] at H
     by_cases Kc : bc = true
     rotate_left
     ·replace Kc := Bool.eq_false_iff.mpr Kc
      subst Kc
      have H1 : (some (ta, aa)) = some (r1, r2) := by rw [if_neg (show ¬ (false = true) by decide)] at H; exact H
      clear H
      have H := H1
      clear H1
      simp only [Option.some.injEq, Prod.mk.injEq] at H
      obtain ⟨rfl, rfl⟩ := H
      have mf := Lb.out
      have nf := ob.out
      have pf := pb.out
      have qf := la.out
      obtain ⟨Je, Ke⟩ := kC2_ ha.out
      obtain ⟨Le, Me⟩ := kZ2_ ha.out
      have rf := Kb.out
      have sf := ka.out
      obtain ⟨Ne, Oe⟩ := kC2_ ia.out
      obtain ⟨Pe, Qe⟩ := kZ2_ ia.out
      obtain ⟨we, xe, ye⟩ := Kd.R_slice da.out
      subst ye
      go_wp2
      refine bodyPost_ret (results_cell_row rfl _ _ Ta 24 #[.string ta, .slice we aa.length xe] (0, 0) _ rfl (by exact puts_ ia.out) Tryd.underlying24 rfl (by kernel_rfl)) rfl ?_
      exact ⟨_, eW_, by refine bk_ ?_; exact Kd.R_mono (rF_ (rF_ (Kd.R_types da.out ia.out (by decide)))) (fun _ hk => trivial), by repeat (first | (with_reducible first | exact HB.out | apply bA_ | apply bN_ | apply bD_ | refine bS_ ?_ (IsS52.ge ea.out) | refine bS_ ?_ na.out | refine bS_ ?_ pa.out) | exact HB.out)⟩
     subst Kc
     have H1 : ((kerbsuitedata_Entry.f nc l0 Za).bind fun Ka => (kerbsuitedata_Database.l1 nc 0 l0 Ka.2.2.2.2.2.2.2.2.2 ta aa Ka.1 Ka.2.1 Ka.2.2.1 Ka.2.2.2.1 Ka.2.2.2.2.1 Ka.2.2.2.2.2.1 Ka.2.2.2.2.2.2.1 Ka.2.2.2.2.2.2.2.1 Ka.2.2.2.2.2.2.2.2.1)) = some (r1, r2) := by rw [if_pos rfl] at H; exact H
     clear H
     have H := H1
     clear H1
     replace H := Option.bind_eq_some_iff.mp H
     obtain ⟨⟨oa, sa, ua, va, wa, xa, ya, za, Aa, Xa⟩, Dd, H⟩ := H
     try dsimp only at H
     have Ze := aM_ Dd
     clear Dd
     have H' := aM_ H
     clear H
     go_wp2_with (first | ((with_reducible refine gate_callee (f := 24) rfl ?_); refine gC_ (some 24) 24 #[.pointer (some ⟨Qa, 0, none⟩)] Tryd.func24 ?_; (with_reducible refine (kerbsuitedata_Entry.calls nc Qa l0 Za oa sa ua va wa xa ya za Aa Xa w _ ?side1 ?side2 Ze.out).mono ?_); (case side1 => repeat (first | (with_reducible first | exact ea.out | apply IsS52.alloc | apply IsS52.drewN | apply IsS52.drew | apply IsS52.set_1 | refine IsS52.far ?_ ka.out _ | refine IsS52.far ?_ la.out _) | exact ea.out)); (case side2 => repeat (first | (with_reducible first | exact HB.out | apply bA_ | apply bN_ | apply bD_ | refine bS_ ?_ (IsS52.ge ea.out) | refine bS_ ?_ na.out | refine bS_ ?_ pa.out) | exact HB.out)); rintro e bg ⟨rfl, hi, hb, hk⟩; refine ⟨_, rfl, ?_⟩; replace da := aM_ (Kd.R_mono (Kd.R_keep (IsS52.apart (show IsS52 w _ Qa l0 Za from by repeat (first | (with_reducible first | exact ea.out | apply IsS52.alloc | apply IsS52.drewN | apply IsS52.drew | apply IsS52.set_1 | refine IsS52.far ?_ ka.out _ | refine IsS52.far ?_ la.out _) | exact ea.out)) (bk_ da.out) (by decide)) hk (fun _ h => h.2)) (fun _ h => h.1)); replace ia := aM_ (KeepBut.blk hk (g' := Ta) (o := .cells #[.string (⟨#[]⟩ : ByteArray), .slice none 0 0] 24 (0, 0)) (bk_ ia.out) Kb.out (by simp)); replace ha := aM_ (KeepBut.blk hk (g' := Ba) (o := .cells #[.string ta, Oa] 24 (0, 0)) (bk_ ha.out) pb.out (by simp)); replace HB := aM_ (hb); replace ea := aM_ (hi); clear hb hk hi) | ((with_reducible refine gate_dst (N := 7) rfl ?_); (try (refine gate_guard (by rfl) ?_; dsimp only)); refine bE_ 7 35 #[.string (⟨#[]⟩ : ByteArray), .string (⟨#[]⟩ : ByteArray), .int .u64 0, .int .i64 0, .int .i64 0, .int .i64 0, .int .i64 0, .int .i64 0, .int .i64 0] ?_; intro ga hg cg hbox hb; replace da := aM_ (Kd.R_below (Kd.R_elderB (bk_ da.out) ga (Nat.le_of_eq hg.symm)) hb); have ca := aM_ (hbox); have tf := aM_ ((by rw [hg]; exact (below_size (by repeat (first | (with_reducible first | exact HB.out | apply bA_ | apply bN_ | apply bD_ | refine bS_ ?_ (IsS52.ge ea.out) | refine bS_ ?_ na.out | refine bS_ ?_ pa.out) | exact HB.out))) : w.heap.size ≤ ga)); have Ea := aM_ ((by rw [hg]; exact (below_size (by repeat (first | (with_reducible first | exact HB.out | apply bA_ | apply bN_ | apply bD_ | refine bS_ ?_ (IsS52.ge ea.out) | refine bS_ ?_ na.out | refine bS_ ?_ pa.out) | exact HB.out))) : w.heap.size ≤ ga)); replace HB := aM_ (below_step (by repeat (first | (with_reducible first | exact HB.out | apply bA_ | apply bN_ | apply bD_ | refine bS_ ?_ (IsS52.ge ea.out) | refine bS_ ?_ na.out | refine bS_ ?_ pa.out) | exact HB.out)) hb); have ic := aM_ (nL_ hg ia.out); have Lc := aM_ (nG_ hg ia.out); replace ia := aM_ (kG_ ia.out hb); have Sb := aM_ (nL_ hg ha.out); have jc := aM_ (nG_ hg ha.out); replace ha := aM_ (kG_ ha.out hb); have qa := aM_ (nI_ hg (IsS52.lt ea.out)); have Mc := aM_ (nJ_ hg (IsS52.lt ea.out)); replace ea := aM_ (IsS52.below (by repeat (first | (with_reducible first | exact ea.out | apply IsS52.alloc | apply IsS52.drewN | apply IsS52.drew | apply IsS52.set_1 | refine IsS52.far ?_ ka.out _ | refine IsS52.far ?_ la.out _) | exact ea.out)) hb); clear hb hbox hg; have uf := Lc.out; have vf := ic.out; have wf := jc.out; have xf := Sb.out; have yf := Mc.out; have zf := qa.out; obtain ⟨jd, kd, ld, md, nd, od, pd, qd, rd⟩ := kC9_ ca.out; obtain ⟨sd, td, ud, vd, wd, xd, yd, zd, Ad⟩ := kZ9_ ca.out))
     go_loopg [8] nc (fun kq v8 w' => ∃ (ba : Int), v8 = .int .i64 ba ∧ Aside0 (kerbsuitedata_Database.l1 kq ba l0 Xa ta aa oa sa ua va wa xa ya za Aa = some (r1, r2)) ∧ Aside0 (kq ≤ nc) ∧ Aside0 (Kd.R k35 35 w' w.heap.size (fun k_ => k_ ≠ ga) Oa aa) ∧ Aside0 (w'.heap[Ta]? = some (.cells #[.string (⟨#[]⟩ : ByteArray), (.slice none 0 0)] 24 (0, 0))) ∧ Aside0 (w'.heap[Ba]? = some (.cells #[.string ta, Oa] 24 (0, 0))) ∧ Aside0 (w'.heap[ga]? = some (.cells #[.string oa, .string sa, .int .u64 ua, .int .i64 va, .int .i64 wa, .int .i64 xa, .int .i64 ya, .int .i64 za, .int .i64 Aa] 35 (0, 0))) ∧ Aside0 (IsS52 w w' Qa l0 Xa) ∧ Aside0 (Below w.heap.size w w'))
     case atStart => exact ⟨(0), rS_, H', ⟨Nat.le_refl _⟩, ⟨by refine bk_ ?_; exact Kd.R_mono (rF_ (rF_ (rF_ (rF_ (rF_ (rF_ (rF_ (rF_ (rF_ (Kd.R_mono da.out (fun k_ hk => (⟨hk, hk.2⟩ : _ ∧ k_ ≠ ga)))))))))))) (fun _ hk => hk.1.2)⟩, ⟨by exact far_ ic.out ia.out⟩, ⟨by exact far_ Sb.out ha.out⟩, ⟨by exact puts_ ca.out⟩, ⟨by repeat (first | (with_reducible first | exact ea.out | apply IsS52.alloc | apply IsS52.drewN | apply IsS52.drew | apply IsS52.set_1 | refine IsS52.far ?_ ka.out _ | refine IsS52.far ?_ la.out _ | refine IsS52.far ?_ qa.out _) | exact ea.out)⟩, ⟨by repeat (first | (with_reducible first | exact HB.out | apply bA_ | apply bN_ | apply bD_ | refine bS_ ?_ (IsS52.ge ea.out) | refine bS_ ?_ na.out | refine bS_ ?_ pa.out | refine bS_ ?_ Ea.out) | exact HB.out)⟩⟩
     case round =>
      clear H'
      try clear c1
      try clear c2
      try clear p2
      try clear c3
      try clear c8
      try clear c9
      try clear qc
      try clear Xe
      try clear Ye
      try clear Kc
      try clear dg
      try clear eg
      try clear fg
      try clear dc
      try clear ec
      try clear rc
      try clear sc
      try clear jd
      try clear kd
      try clear ld
      try clear md
      try clear nd
      try clear od
      try clear pd
      try clear qd
      try clear rd
      try clear fc
      try clear gc
      try clear tc
      try clear uc
      try clear sd
      try clear td
      try clear ud
      try clear vd
      try clear wd
      try clear xd
      try clear yd
      try clear zd
      try clear Ad
      try clear p2
      obtain ⟨ba, rfl, HA, kc, da, ia, ha, ca, ea, HB⟩ := hrel
      cases gk with
      | zero => exact absurd HA.out (by simp [kerbsuitedata_Database.l1])
      | succ k3 =>
       have H := HA.out
       clear HA
       simp only [kerbsuitedata_Database.l1] at H
       have Tc := aM_ H
       clear H
       go_upto_region 6 with (fail)
       go_cut [62] (fun af wc => ∃ (kq : Nat) (cc : Bool), af = .bool cc ∧ Aside0 (kerbsuitedata_Database.j3 kq ba cc l0 Xa ta aa oa sa ua va wa xa ya za Aa = some (r1, r2)) ∧ Aside0 (kq ≤ k3) ∧ Aside0 (Kd.R k35 35 wc w.heap.size (fun k_ => k_ ≠ ga) Oa aa) ∧ Aside0 (wc.heap[Ta]? = some (.cells #[.string (⟨#[]⟩ : ByteArray), (.slice none 0 0)] 24 (0, 0))) ∧ Aside0 (wc.heap[Ba]? = some (.cells #[.string ta, Oa] 24 (0, 0))) ∧ Aside0 (wc.heap[ga]? = some (.cells #[.string oa, .string sa, .int .u64 ua, .int .i64 va, .int .i64 wa, .int .i64 xa, .int .i64 ya, .int .i64 za, .int .i64 Aa] 35 (0, 0))) ∧ Aside0 (IsS52 w wc Qa l0 Xa) ∧ Aside0 (Below w.heap.size w wc))
       case first =>
        have H := Tc.out
        clear Tc
        by_cases oc : ba < (aa.length : Int)
        rotate_left
        ·rw [if_neg oc] at H
         have Wb : decide (ba < (aa.length : Int)) = false := decide_eq_false oc
         clear oc
         (first | rw [Wb] | (simp only [i64_w, i32_w]; rw [Wb]) | skip)
         have H' := aM_ H
         clear H
         try go_upto_region 6 with fail
         replace da := aM_ (Kd.R_drew da.out)
         replace ia := aM_ (blk_drew ia.out)
         replace ha := aM_ (blk_drew ha.out)
         replace ca := aM_ (blk_drew ca.out)
         replace ea := aM_ (IsS52.drew ea.out)
         replace HB := aM_ (bD_ HB.out)
         obtain ⟨ze, Ae, Ed⟩ := Kd.R_slice da.out
         (first | subst Ed | (injection Ed with f1_ f2_ f3_; have f4_ := f1_.symm; have f5_ := f3_.symm; clear f1_ f2_ f3_; subst f4_; subst f5_))
         refine start_ (n := 38) (S := fun w' => w'.cell? ⟨Ba, 0, none⟩ = some (.string ta) ∧ w'.cell? ⟨Ba, 1, none⟩ = some (.slice ze aa.length Ae)) (ds := []) (bo_ 38 0) (by kernel_rfl) rfl rfl ⟨bc_ ha.out 0, bc_ ha.out 1⟩ (fun hHeld => ?_); refine with_tabW kerbsuitedata_Database.tab6 kerbsuitedata_Database.bits6 (fun HT_ HW_ => ?_)
         generalize wr.drew = gg at da ia ha ca ea HB hHeld ⊢
         refine pU_ 0 (some 25) (bo_ 38 1) ?_
         refine pU_ 1 (some 26) (bo_ 38 3) ?_
         refine tK_ 2 (some 27) (bo_ 38 7) hHeld ?_
         refine pU_ 3 (some 28) (bo_ 38 15) ?_
         refine pU_ 4 (some 29) (bo_ 38 31) ?_
         refine pU_ 5 (some 30) (bo_ 38 63) ?_
         refine pV_ 6 (some 31) (bo_ 38 127) ?_
         refine pV_ 7 (some 32) (bo_ 38 255) ?_
         refine pV_ 8 (some 33) (bo_ 38 511) ?_
         refine pV_ 9 (some 34) (bo_ 38 1023) ?_
         refine pV_ 10 (some 35) (bo_ 38 2047) ?_
         refine pV_ 11 (some 36) (bo_ 38 4095) ?_
         refine pV_ 12 (some 37) (bo_ 38 8191) ?_
         refine pV_ 13 (some 38) (bo_ 38 16383) ?_
         refine pV_ 14 (some 39) (bo_ 38 32767) ?_
         refine pV_ 15 (some 40) (bo_ 38 65535) ?_
         refine pV_ 16 (some 41) (bo_ 38 131071) ?_
         refine pV_ 17 (some 42) (bo_ 38 262143) ?_
         refine pV_ 18 (some 43) (bo_ 38 524287) ?_
         refine pV_ 19 (some 44) (bo_ 38 1048575) ?_
         refine pV_ 20 (some 45) (bo_ 38 2097151) ?_
         refine pV_ 21 (some 46) (bo_ 38 4194303) ?_
         refine pV_ 22 (some 47) (bo_ 38 8388607) ?_
         refine pV_ 23 (some 48) (bo_ 38 16777215) ?_
         refine pV_ 24 (some 49) (bo_ 38 33554431) ?_
         refine pV_ 25 (some 50) (bo_ 38 67108863) ?_
         refine pV_ 26 (some 51) (bo_ 38 134217727) ?_
         refine pV_ 27 (some 52) (bo_ 38 268435455) ?_
         refine pV_ 28 (some 53) (bo_ 38 536870911) ?_
         refine pV_ 29 (some 54) (bo_ 38 1073741823) ?_
         refine pV_ 30 (some 55) (bo_ 38 2147483647) ?_
         refine pV_ 31 (some 56) (bo_ 38 4294967295) ?_
         refine pV_ 32 (some 57) (bo_ 38 8589934591) ?_
         refine pV_ 33 (some 58) (bo_ 38 17179869183) ?_
         refine pV_ 34 (some 59) (bo_ 38 34359738367) ?_
         refine pV_ 35 (some 60) (bo_ 38 68719476735) ?_
         refine pV_ 36 (some 61) (bo_ 38 137438953471) ?_
         refine pU_ 37 (some 62) (bo_ 38 274877906943) ?_
         refine done_ (done_of HT_.out (by kernel_rfl)) ?_
         try go_wp2
         go_meet
         case rel => exact ⟨_, (false), rS_, H', ⟨by have := Yb.out; have := Rb.out; have := kc.out; first | omega | exact Nat.le_refl _⟩, ⟨by refine bk_ ?_; exact da.out⟩, ⟨by refine bk_ ?_; exact ia.out⟩, ⟨by refine bk_ ?_; exact ha.out⟩, ⟨by refine bk_ ?_; exact ca.out⟩, ⟨by repeat (first | (with_reducible first | exact ea.out | apply IsS52.alloc | apply IsS52.drewN | apply IsS52.drew | apply IsS52.set_1 | refine IsS52.far ?_ ka.out _ | refine IsS52.far ?_ la.out _ | refine IsS52.far ?_ qa.out _) | exact ea.out)⟩, ⟨by repeat (first | (with_reducible first | exact HB.out | apply bA_ | apply bN_ | apply bD_ | refine bS_ ?_ (IsS52.ge ea.out) | refine bS_ ?_ na.out | refine bS_ ?_ pa.out | refine bS_ ?_ Ea.out) | exact HB.out)⟩⟩
        rw [if_pos oc] at H
        have Wb : decide (ba < (aa.length : Int)) = true := decide_eq_true oc
        clear oc
        (first | rw [Wb] | (simp only [i64_w, i32_w]; rw [Wb]) | skip)
        by_cases Nc : 0 ≤ ba
        rotate_left
        ·rw [if_neg Nc] at H
         exact absurd H (by simp)
        rw [if_pos Nc] at H
        have Af : decide (0 ≤ ba) = true := decide_eq_true Nc
        clear Nc
        by_cases vc : (Op.bytesLess (((rd_T35 aa ba).f0).toList) oa.toList) = true
        ·rw [if_pos vc] at H
         have Pd : (Op.bytesLess (((rd_T35 aa ba).f0).toList) oa.toList) = true := vc
         clear vc
         have H' := aM_ H
         clear H
         try go_upto_region 6 with fail
         replace da := aM_ (Kd.R_drew da.out)
         replace ia := aM_ (blk_drew ia.out)
         replace ha := aM_ (blk_drew ha.out)
         replace ca := aM_ (blk_drew ca.out)
         replace ea := aM_ (IsS52.drew ea.out)
         replace HB := aM_ (bD_ HB.out)
         obtain ⟨Sf, Be, Fd⟩ := Kd.R_slice da.out
         (first | subst Fd | (injection Fd with f1_ f2_ f3_; have f4_ := f1_.symm; have f5_ := f3_.symm; clear f1_ f2_ f3_; subst f4_; subst f5_))
         have yb : 0 ≤ (ba : Int) := dT_
         have zb : ba < (aa.length : Int) := dT_
         obtain ⟨fa, pc, ab, bb, cb, db, eb, fb, gb, ib, jb⟩ := at_T35 (Kd.R_reads' da.out).2.2 ba yb zb
         cases pc
         replace yb := eq_true yb
         replace zb := eq_true zb
         refine start_ (n := 38) (S := fun w' => w'.cell? ⟨Ba, 0, none⟩ = some (.string ta) ∧ w'.cell? ⟨Ba, 1, none⟩ = some (.slice (some fa) aa.length Be) ∧ w'.cell? ⟨ga, 0, none⟩ = some (.string oa) ∧ w'.cell? ⟨ga, 1, none⟩ = some (.string sa) ∧ w'.cell? ⟨ga, 2, none⟩ = some (.int .u64 ua) ∧ w'.cell? ⟨ga, 3, none⟩ = some (.int .i64 va) ∧ w'.cell? ⟨ga, 4, none⟩ = some (.int .i64 wa) ∧ w'.cell? ⟨ga, 5, none⟩ = some (.int .i64 xa) ∧ w'.cell? ⟨ga, 6, none⟩ = some (.int .i64 ya) ∧ w'.cell? ⟨ga, 7, none⟩ = some (.int .i64 za) ∧ w'.cell? ⟨ga, 8, none⟩ = some (.int .i64 Aa) ∧ w'.cell? (fa.add ((ba).toNat * 9)) = some (.string ((rd_T35 aa ba).f0)) ∧ w'.cell? ⟨(fa.add ((ba).toNat * 9)).block, (fa.add ((ba).toNat * 9)).off + 1, none⟩ = some (.string ((rd_T35 aa ba).f1)) ∧ w'.cell? ⟨(fa.add ((ba).toNat * 9)).block, (fa.add ((ba).toNat * 9)).off + 2, none⟩ = some (.int .u64 ((rd_T35 aa ba).f2)) ∧ w'.cell? ⟨(fa.add ((ba).toNat * 9)).block, (fa.add ((ba).toNat * 9)).off + 3, none⟩ = some (.int .i64 ((rd_T35 aa ba).f3)) ∧ w'.cell? ⟨(fa.add ((ba).toNat * 9)).block, (fa.add ((ba).toNat * 9)).off + 4, none⟩ = some (.int .i64 ((rd_T35 aa ba).f4)) ∧ w'.cell? ⟨(fa.add ((ba).toNat * 9)).block, (fa.add ((ba).toNat * 9)).off + 5, none⟩ = some (.int .i64 ((rd_T35 aa ba).f5)) ∧ w'.cell? ⟨(fa.add ((ba).toNat * 9)).block, (fa.add ((ba).toNat * 9)).off + 6, none⟩ = some (.int .i64 ((rd_T35 aa ba).f6)) ∧ w'.cell? ⟨(fa.add ((ba).toNat * 9)).block, (fa.add ((ba).toNat * 9)).off + 7, none⟩ = some (.int .i64 ((rd_T35 aa ba).f7)) ∧ w'.cell? ⟨(fa.add ((ba).toNat * 9)).block, (fa.add ((ba).toNat * 9)).off + 8, none⟩ = some (.int .i64 ((rd_T35 aa ba).f8))) (ds := []) (bo_ 38 0) (by kernel_rfl) rfl rfl ⟨bc_ ha.out 0, bc_ ha.out 1, bc_ ca.out 0, bc_ ca.out 1, bc_ ca.out 2, bc_ ca.out 3, bc_ ca.out 4, bc_ ca.out 5, bc_ ca.out 6, bc_ ca.out 7, bc_ ca.out 8, ab, bb, cb, db, eb, fb, gb, ib, jb⟩ (fun hHeld => ?_); refine with_tabW kerbsuitedata_Database.tab6 kerbsuitedata_Database.bits6 (fun HT_ HW_ => ?_)
         generalize wr.drew = ig at da ia ha ca ea HB ab bb cb db eb fb gb ib jb hHeld ⊢
         refine pU_ 0 (some 25) (bo_ 38 1) ?_
         refine pU_ 1 (some 26) (bo_ 38 3) ?_
         refine tK_ 2 (some 27) (bo_ 38 7) hHeld ?_
         refine pU_ 3 (some 28) (bo_ 38 15) ?_
         refine pU_ 4 (some 29) (bo_ 38 31) ?_
         refine pU_ 5 (some 30) (bo_ 38 63) ?_
         refine pU_ 6 (some 31) (bo_ 38 127) ?_
         refine pU_ 8 (some 33) (bo_ 38 383) ?_
         refine pU_ 12 (some 37) (bo_ 38 4479) ?_
         refine tK_ 7 (some 32) (bo_ 38 4607) hHeld ?_
         refine pU_ 9 (some 34) (bo_ 38 5119) ?_
         refine pU_ 10 (some 35) (bo_ 38 6143) ?_
         refine tK_ 11 (some 36) (bo_ 38 8191) hHeld ?_
         refine tK_ 13 (some 38) (bo_ 38 16383) hHeld ?_
         refine pU_ 14 (some 39) (bo_ 38 32767) ?_
         refine pU_ 15 (some 40) (bo_ 38 65535) ?_
         refine pV_ 16 (some 41) (bo_ 38 131071) ?_
         refine pV_ 17 (some 42) (bo_ 38 262143) ?_
         refine pV_ 18 (some 43) (bo_ 38 524287) ?_
         refine pV_ 19 (some 44) (bo_ 38 1048575) ?_
         refine pV_ 20 (some 45) (bo_ 38 2097151) ?_
         refine pV_ 21 (some 46) (bo_ 38 4194303) ?_
         refine pV_ 22 (some 47) (bo_ 38 8388607) ?_
         refine pV_ 23 (some 48) (bo_ 38 16777215) ?_
         refine pV_ 24 (some 49) (bo_ 38 33554431) ?_
         refine pV_ 25 (some 50) (bo_ 38 67108863) ?_
         refine pV_ 26 (some 51) (bo_ 38 134217727) ?_
         refine pV_ 27 (some 52) (bo_ 38 268435455) ?_
         refine pV_ 28 (some 53) (bo_ 38 536870911) ?_
         refine pV_ 29 (some 54) (bo_ 38 1073741823) ?_
         refine pV_ 30 (some 55) (bo_ 38 2147483647) ?_
         refine pV_ 31 (some 56) (bo_ 38 4294967295) ?_
         refine pV_ 32 (some 57) (bo_ 38 8589934591) ?_
         refine pV_ 33 (some 58) (bo_ 38 17179869183) ?_
         refine pV_ 34 (some 59) (bo_ 38 34359738367) ?_
         refine pV_ 35 (some 60) (bo_ 38 68719476735) ?_
         refine pU_ 36 (some 61) (bo_ 38 137438953471) ?_
         refine pU_ 37 (some 62) (bo_ 38 274877906943) ?_
         refine done_ (done_of HT_.out (by kernel_rfl)) ?_
         try go_wp2
         go_meet
         case rel => exact ⟨_, (true), rS_, H', ⟨by have := Yb.out; have := Rb.out; have := kc.out; first | omega | exact Nat.le_refl _⟩, ⟨by refine bk_ ?_; exact da.out⟩, ⟨by refine bk_ ?_; exact ia.out⟩, ⟨by refine bk_ ?_; exact ha.out⟩, ⟨by refine bk_ ?_; exact ca.out⟩, ⟨by repeat (first | (with_reducible first | exact ea.out | apply IsS52.alloc | apply IsS52.drewN | apply IsS52.drew | apply IsS52.set_1 | refine IsS52.far ?_ ka.out _ | refine IsS52.far ?_ la.out _ | refine IsS52.far ?_ qa.out _) | exact ea.out)⟩, ⟨by repeat (first | (with_reducible first | exact HB.out | apply bA_ | apply bN_ | apply bD_ | refine bS_ ?_ (IsS52.ge ea.out) | refine bS_ ?_ na.out | refine bS_ ?_ pa.out | refine bS_ ?_ Ea.out) | exact HB.out)⟩⟩
        rw [if_neg vc] at H
        have Pd : (Op.bytesLess (((rd_T35 aa ba).f0).toList) oa.toList) = false := by simpa using vc
        clear vc
        by_cases lc : ((rd_T35 aa ba).f0).toList = oa.toList
        ·rw [if_pos lc] at H
         have Yc : (((rd_T35 aa ba).f0).toList == oa.toList) = true := beq_iff_eq.mpr lc
         have Zc : (((rd_T35 aa ba).f0).toList != oa.toList) = false := bne_eq_false_iff_eq.mpr lc
         clear lc
         have H' := aM_ H
         clear H
         try go_upto_region 6 with fail
         replace da := aM_ (Kd.R_drew da.out)
         replace ia := aM_ (blk_drew ia.out)
         replace ha := aM_ (blk_drew ha.out)
         replace ca := aM_ (blk_drew ca.out)
         replace ea := aM_ (IsS52.drew ea.out)
         replace HB := aM_ (bD_ HB.out)
         obtain ⟨Tf, Ce, Gd⟩ := Kd.R_slice da.out
         (first | subst Gd | (injection Gd with f1_ f2_ f3_; have f4_ := f1_.symm; have f5_ := f3_.symm; clear f1_ f2_ f3_; subst f4_; subst f5_))
         have yb : 0 ≤ (ba : Int) := dT_
         have zb : ba < (aa.length : Int) := dT_
         obtain ⟨fa, pc, ab, bb, cb, db, eb, fb, gb, ib, jb⟩ := at_T35 (Kd.R_reads' da.out).2.2 ba yb zb
         cases pc
         replace yb := eq_true yb
         replace zb := eq_true zb
         have Tb : 0 ≤ (ba : Int) := dT_
         have Ub : ba < (aa.length : Int) := dT_
         obtain ⟨Hc, Uc, Ab, Bb, Cb, Db, Eb, Fb, Gb, Hb, Ib⟩ := at_T35 (Kd.R_reads' da.out).2.2 ba Tb Ub
         obtain rfl : fa = Hc := (by injection Uc)
         replace Tb := eq_true Tb
         replace Ub := eq_true Ub
         have Vc : 0 ≤ (ba : Int) := dT_
         have Wc : ba < (aa.length : Int) := dT_
         obtain ⟨Qd, De, xc, yc, zc, Ac, Bc, Cc, Dc, Ec, Fc⟩ := at_T35 (Kd.R_reads' da.out).2.2 ba Vc Wc
         obtain rfl : fa = Qd := (by injection De)
         replace Vc := eq_true Vc
         replace Wc := eq_true Wc
         refine start_ (n := 38) (S := fun w' => w'.cell? ⟨Ba, 0, none⟩ = some (.string ta) ∧ w'.cell? ⟨Ba, 1, none⟩ = some (.slice (some fa) aa.length Ce) ∧ w'.cell? ⟨ga, 0, none⟩ = some (.string oa) ∧ w'.cell? ⟨ga, 1, none⟩ = some (.string sa) ∧ w'.cell? ⟨ga, 2, none⟩ = some (.int .u64 ua) ∧ w'.cell? ⟨ga, 3, none⟩ = some (.int .i64 va) ∧ w'.cell? ⟨ga, 4, none⟩ = some (.int .i64 wa) ∧ w'.cell? ⟨ga, 5, none⟩ = some (.int .i64 xa) ∧ w'.cell? ⟨ga, 6, none⟩ = some (.int .i64 ya) ∧ w'.cell? ⟨ga, 7, none⟩ = some (.int .i64 za) ∧ w'.cell? ⟨ga, 8, none⟩ = some (.int .i64 Aa) ∧ w'.cell? (fa.add ((ba).toNat * 9)) = some (.string ((rd_T35 aa ba).f0)) ∧ w'.cell? ⟨(fa.add ((ba).toNat * 9)).block, (fa.add ((ba).toNat * 9)).off + 1, none⟩ = some (.string ((rd_T35 aa ba).f1)) ∧ w'.cell? ⟨(fa.add ((ba).toNat * 9)).block, (fa.add ((ba).toNat * 9)).off + 2, none⟩ = some (.int .u64 ((rd_T35 aa ba).f2)) ∧ w'.cell? ⟨(fa.add ((ba).toNat * 9)).block, (fa.add ((ba).toNat * 9)).off + 3, none⟩ = some (.int .i64 ((rd_T35 aa ba).f3)) ∧ w'.cell? ⟨(fa.add ((ba).toNat * 9)).block, (fa.add ((ba).toNat * 9)).off + 4, none⟩ = some (.int .i64 ((rd_T35 aa ba).f4)) ∧ w'.cell? ⟨(fa.add ((ba).toNat * 9)).block, (fa.add ((ba).toNat * 9)).off + 5, none⟩ = some (.int .i64 ((rd_T35 aa ba).f5)) ∧ w'.cell? ⟨(fa.add ((ba).toNat * 9)).block, (fa.add ((ba).toNat * 9)).off + 6, none⟩ = some (.int .i64 ((rd_T35 aa ba).f6)) ∧ w'.cell? ⟨(fa.add ((ba).toNat * 9)).block, (fa.add ((ba).toNat * 9)).off + 7, none⟩ = some (.int .i64 ((rd_T35 aa ba).f7)) ∧ w'.cell? ⟨(fa.add ((ba).toNat * 9)).block, (fa.add ((ba).toNat * 9)).off + 8, none⟩ = some (.int .i64 ((rd_T35 aa ba).f8)) ∧ w'.cell? (fa.add ((ba).toNat * 9)) = some (.string ((rd_T35 aa ba).f0)) ∧ w'.cell? ⟨(fa.add ((ba).toNat * 9)).block, (fa.add ((ba).toNat * 9)).off + 1, none⟩ = some (.string ((rd_T35 aa ba).f1)) ∧ w'.cell? ⟨(fa.add ((ba).toNat * 9)).block, (fa.add ((ba).toNat * 9)).off + 2, none⟩ = some (.int .u64 ((rd_T35 aa ba).f2)) ∧ w'.cell? ⟨(fa.add ((ba).toNat * 9)).block, (fa.add ((ba).toNat * 9)).off + 3, none⟩ = some (.int .i64 ((rd_T35 aa ba).f3)) ∧ w'.cell? ⟨(fa.add ((ba).toNat * 9)).block, (fa.add ((ba).toNat * 9)).off + 4, none⟩ = some (.int .i64 ((rd_T35 aa ba).f4)) ∧ w'.cell? ⟨(fa.add ((ba).toNat * 9)).block, (fa.add ((ba).toNat * 9)).off + 5, none⟩ = some (.int .i64 ((rd_T35 aa ba).f5)) ∧ w'.cell? ⟨(fa.add ((ba).toNat * 9)).block, (fa.add ((ba).toNat * 9)).off + 6, none⟩ = some (.int .i64 ((rd_T35 aa ba).f6)) ∧ w'.cell? ⟨(fa.add ((ba).toNat * 9)).block, (fa.add ((ba).toNat * 9)).off + 7, none⟩ = some (.int .i64 ((rd_T35 aa ba).f7)) ∧ w'.cell? ⟨(fa.add ((ba).toNat * 9)).block, (fa.add ((ba).toNat * 9)).off + 8, none⟩ = some (.int .i64 ((rd_T35 aa ba).f8)) ∧ w'.cell? (fa.add ((ba).toNat * 9)) = some (.string ((rd_T35 aa ba).f0)) ∧ w'.cell? ⟨(fa.add ((ba).toNat * 9)).block, (fa.add ((ba).toNat * 9)).off + 1, none⟩ = some (.string ((rd_T35 aa ba).f1)) ∧ w'.cell? ⟨(fa.add ((ba).toNat * 9)).block, (fa.add ((ba).toNat * 9)).off + 2, none⟩ = some (.int .u64 ((rd_T35 aa ba).f2)) ∧ w'.cell? ⟨(fa.add ((ba).toNat * 9)).block, (fa.add ((ba).toNat * 9)).off + 3, none⟩ = some (.int .i64 ((rd_T35 aa ba).f3)) ∧ w'.cell? ⟨(fa.add ((ba).toNat * 9)).block, (fa.add ((ba).toNat * 9)).off + 4, none⟩ = some (.int .i64 ((rd_T35 aa ba).f4)) ∧ w'.cell? ⟨(fa.add ((ba).toNat * 9)).block, (fa.add ((ba).toNat * 9)).off + 5, none⟩ = some (.int .i64 ((rd_T35 aa ba).f5)) ∧ w'.cell? ⟨(fa.add ((ba).toNat * 9)).block, (fa.add ((ba).toNat * 9)).off + 6, none⟩ = some (.int .i64 ((rd_T35 aa ba).f6)) ∧ w'.cell? ⟨(fa.add ((ba).toNat * 9)).block, (fa.add ((ba).toNat * 9)).off + 7, none⟩ = some (.int .i64 ((rd_T35 aa ba).f7)) ∧ w'.cell? ⟨(fa.add ((ba).toNat * 9)).block, (fa.add ((ba).toNat * 9)).off + 8, none⟩ = some (.int .i64 ((rd_T35 aa ba).f8))) (ds := []) (bo_ 38 0) (by kernel_rfl) rfl rfl ⟨bc_ ha.out 0, bc_ ha.out 1, bc_ ca.out 0, bc_ ca.out 1, bc_ ca.out 2, bc_ ca.out 3, bc_ ca.out 4, bc_ ca.out 5, bc_ ca.out 6, bc_ ca.out 7, bc_ ca.out 8, ab, bb, cb, db, eb, fb, gb, ib, jb, Ab, Bb, Cb, Db, Eb, Fb, Gb, Hb, Ib, xc, yc, zc, Ac, Bc, Cc, Dc, Ec, Fc⟩ (fun hHeld => ?_); refine with_tabW kerbsuitedata_Database.tab6 kerbsuitedata_Database.bits6 (fun HT_ HW_ => ?_)
         generalize wr.drew = jg at da ia ha ca ea HB ab bb cb db eb fb gb ib jb Ab Bb Cb Db Eb Fb Gb Hb Ib xc yc zc Ac Bc Cc Dc Ec Fc hHeld ⊢
         refine pU_ 0 (some 25) (bo_ 38 1) ?_
         refine pU_ 1 (some 26) (bo_ 38 3) ?_
         refine tK_ 2 (some 27) (bo_ 38 7) hHeld ?_
         refine pU_ 3 (some 28) (bo_ 38 15) ?_
         refine pU_ 4 (some 29) (bo_ 38 31) ?_
         refine pU_ 5 (some 30) (bo_ 38 63) ?_
         refine pU_ 6 (some 31) (bo_ 38 127) ?_
         refine pU_ 8 (some 33) (bo_ 38 383) ?_
         refine pU_ 12 (some 37) (bo_ 38 4479) ?_
         refine tK_ 7 (some 32) (bo_ 38 4607) hHeld ?_
         refine pU_ 9 (some 34) (bo_ 38 5119) ?_
         refine pU_ 10 (some 35) (bo_ 38 6143) ?_
         refine tK_ 11 (some 36) (bo_ 38 8191) hHeld ?_
         refine tK_ 13 (some 38) (bo_ 38 16383) hHeld ?_
         refine pU_ 14 (some 39) (bo_ 38 32767) ?_
         refine pU_ 15 (some 40) (bo_ 38 65535) ?_
         refine pU_ 16 (some 41) (bo_ 38 131071) ?_
         refine pU_ 18 (some 43) (bo_ 38 393215) ?_
         refine pU_ 22 (some 47) (bo_ 38 4587519) ?_
         refine tK_ 17 (some 42) (bo_ 38 4718591) hHeld ?_
         refine pU_ 19 (some 44) (bo_ 38 5242879) ?_
         refine pU_ 20 (some 45) (bo_ 38 6291455) ?_
         refine tK_ 21 (some 46) (bo_ 38 8388607) hHeld ?_
         refine tK_ 23 (some 48) (bo_ 38 16777215) hHeld ?_
         refine pU_ 24 (some 49) (bo_ 38 33554431) ?_
         refine pU_ 25 (some 50) (bo_ 38 67108863) ?_
         refine pU_ 26 (some 51) (bo_ 38 134217727) ?_
         refine pU_ 28 (some 53) (bo_ 38 402653183) ?_
         refine pU_ 32 (some 57) (bo_ 38 4697620479) ?_
         refine tK_ 27 (some 52) (bo_ 38 4831838207) hHeld ?_
         refine pU_ 29 (some 54) (bo_ 38 5368709119) ?_
         refine pU_ 30 (some 55) (bo_ 38 6442450943) ?_
         refine tK_ 31 (some 56) (bo_ 38 8589934591) hHeld ?_
         refine tK_ 33 (some 58) (bo_ 38 17179869183) hHeld ?_
         refine pU_ 34 (some 59) (bo_ 38 34359738367) ?_
         refine pU_ 35 (some 60) (bo_ 38 68719476735) ?_
         refine pU_ 36 (some 61) (bo_ 38 137438953471) ?_
         refine pU_ 37 (some 62) (bo_ 38 274877906943) ?_
         refine done_ (done_of HT_.out (by kernel_rfl)) ?_
         try go_wp2
         go_meet
         case rel => exact ⟨_, (!(Op.bytesLess sa.toList (((rd_T35 aa ba).f1).toList))), rS_, H', ⟨by have := Yb.out; have := Rb.out; have := kc.out; first | omega | exact Nat.le_refl _⟩, ⟨by refine bk_ ?_; exact da.out⟩, ⟨by refine bk_ ?_; exact ia.out⟩, ⟨by refine bk_ ?_; exact ha.out⟩, ⟨by refine bk_ ?_; exact ca.out⟩, ⟨by repeat (first | (with_reducible first | exact ea.out | apply IsS52.alloc | apply IsS52.drewN | apply IsS52.drew | apply IsS52.set_1 | refine IsS52.far ?_ ka.out _ | refine IsS52.far ?_ la.out _ | refine IsS52.far ?_ qa.out _) | exact ea.out)⟩, ⟨by repeat (first | (with_reducible first | exact HB.out | apply bA_ | apply bN_ | apply bD_ | refine bS_ ?_ (IsS52.ge ea.out) | refine bS_ ?_ na.out | refine bS_ ?_ pa.out | refine bS_ ?_ Ea.out) | exact HB.out)⟩⟩
        rw [if_neg lc] at H
        have Yc : (((rd_T35 aa ba).f0).toList == oa.toList) = false := beq_eq_false_iff_ne.mpr lc
        have Zc : (((rd_T35 aa ba).f0).toList != oa.toList) = true := bne_iff_ne.mpr lc
        have H' := aM_ H
        clear H
        try go_upto_region 6 with fail
        replace da := aM_ (Kd.R_drew da.out)
        replace ia := aM_ (blk_drew ia.out)
        replace ha := aM_ (blk_drew ha.out)
        replace ca := aM_ (blk_drew ca.out)
        replace ea := aM_ (IsS52.drew ea.out)
        replace HB := aM_ (bD_ HB.out)
        obtain ⟨Uf, Ee, Hd⟩ := Kd.R_slice da.out
        (first | subst Hd | (injection Hd with f1_ f2_ f3_; have f4_ := f1_.symm; have f5_ := f3_.symm; clear f1_ f2_ f3_; subst f4_; subst f5_))
        have yb : 0 ≤ (ba : Int) := dT_
        have zb : ba < (aa.length : Int) := dT_
        obtain ⟨fa, pc, ab, bb, cb, db, eb, fb, gb, ib, jb⟩ := at_T35 (Kd.R_reads' da.out).2.2 ba yb zb
        cases pc
        replace yb := eq_true yb
        replace zb := eq_true zb
        have Tb : 0 ≤ (ba : Int) := dT_
        have Ub : ba < (aa.length : Int) := dT_
        obtain ⟨Hc, Uc, Ab, Bb, Cb, Db, Eb, Fb, Gb, Hb, Ib⟩ := at_T35 (Kd.R_reads' da.out).2.2 ba Tb Ub
        obtain rfl : fa = Hc := (by injection Uc)
        replace Tb := eq_true Tb
        replace Ub := eq_true Ub
        refine start_ (n := 38) (S := fun w' => w'.cell? ⟨Ba, 0, none⟩ = some (.string ta) ∧ w'.cell? ⟨Ba, 1, none⟩ = some (.slice (some fa) aa.length Ee) ∧ w'.cell? ⟨ga, 0, none⟩ = some (.string oa) ∧ w'.cell? ⟨ga, 1, none⟩ = some (.string sa) ∧ w'.cell? ⟨ga, 2, none⟩ = some (.int .u64 ua) ∧ w'.cell? ⟨ga, 3, none⟩ = some (.int .i64 va) ∧ w'.cell? ⟨ga, 4, none⟩ = some (.int .i64 wa) ∧ w'.cell? ⟨ga, 5, none⟩ = some (.int .i64 xa) ∧ w'.cell? ⟨ga, 6, none⟩ = some (.int .i64 ya) ∧ w'.cell? ⟨ga, 7, none⟩ = some (.int .i64 za) ∧ w'.cell? ⟨ga, 8, none⟩ = some (.int .i64 Aa) ∧ w'.cell? (fa.add ((ba).toNat * 9)) = some (.string ((rd_T35 aa ba).f0)) ∧ w'.cell? ⟨(fa.add ((ba).toNat * 9)).block, (fa.add ((ba).toNat * 9)).off + 1, none⟩ = some (.string ((rd_T35 aa ba).f1)) ∧ w'.cell? ⟨(fa.add ((ba).toNat * 9)).block, (fa.add ((ba).toNat * 9)).off + 2, none⟩ = some (.int .u64 ((rd_T35 aa ba).f2)) ∧ w'.cell? ⟨(fa.add ((ba).toNat * 9)).block, (fa.add ((ba).toNat * 9)).off + 3, none⟩ = some (.int .i64 ((rd_T35 aa ba).f3)) ∧ w'.cell? ⟨(fa.add ((ba).toNat * 9)).block, (fa.add ((ba).toNat * 9)).off + 4, none⟩ = some (.int .i64 ((rd_T35 aa ba).f4)) ∧ w'.cell? ⟨(fa.add ((ba).toNat * 9)).block, (fa.add ((ba).toNat * 9)).off + 5, none⟩ = some (.int .i64 ((rd_T35 aa ba).f5)) ∧ w'.cell? ⟨(fa.add ((ba).toNat * 9)).block, (fa.add ((ba).toNat * 9)).off + 6, none⟩ = some (.int .i64 ((rd_T35 aa ba).f6)) ∧ w'.cell? ⟨(fa.add ((ba).toNat * 9)).block, (fa.add ((ba).toNat * 9)).off + 7, none⟩ = some (.int .i64 ((rd_T35 aa ba).f7)) ∧ w'.cell? ⟨(fa.add ((ba).toNat * 9)).block, (fa.add ((ba).toNat * 9)).off + 8, none⟩ = some (.int .i64 ((rd_T35 aa ba).f8)) ∧ w'.cell? (fa.add ((ba).toNat * 9)) = some (.string ((rd_T35 aa ba).f0)) ∧ w'.cell? ⟨(fa.add ((ba).toNat * 9)).block, (fa.add ((ba).toNat * 9)).off + 1, none⟩ = some (.string ((rd_T35 aa ba).f1)) ∧ w'.cell? ⟨(fa.add ((ba).toNat * 9)).block, (fa.add ((ba).toNat * 9)).off + 2, none⟩ = some (.int .u64 ((rd_T35 aa ba).f2)) ∧ w'.cell? ⟨(fa.add ((ba).toNat * 9)).block, (fa.add ((ba).toNat * 9)).off + 3, none⟩ = some (.int .i64 ((rd_T35 aa ba).f3)) ∧ w'.cell? ⟨(fa.add ((ba).toNat * 9)).block, (fa.add ((ba).toNat * 9)).off + 4, none⟩ = some (.int .i64 ((rd_T35 aa ba).f4)) ∧ w'.cell? ⟨(fa.add ((ba).toNat * 9)).block, (fa.add ((ba).toNat * 9)).off + 5, none⟩ = some (.int .i64 ((rd_T35 aa ba).f5)) ∧ w'.cell? ⟨(fa.add ((ba).toNat * 9)).block, (fa.add ((ba).toNat * 9)).off + 6, none⟩ = some (.int .i64 ((rd_T35 aa ba).f6)) ∧ w'.cell? ⟨(fa.add ((ba).toNat * 9)).block, (fa.add ((ba).toNat * 9)).off + 7, none⟩ = some (.int .i64 ((rd_T35 aa ba).f7)) ∧ w'.cell? ⟨(fa.add ((ba).toNat * 9)).block, (fa.add ((ba).toNat * 9)).off + 8, none⟩ = some (.int .i64 ((rd_T35 aa ba).f8))) (ds := []) (bo_ 38 0) (by kernel_rfl) rfl rfl ⟨bc_ ha.out 0, bc_ ha.out 1, bc_ ca.out 0, bc_ ca.out 1, bc_ ca.out 2, bc_ ca.out 3, bc_ ca.out 4, bc_ ca.out 5, bc_ ca.out 6, bc_ ca.out 7, bc_ ca.out 8, ab, bb, cb, db, eb, fb, gb, ib, jb, Ab, Bb, Cb, Db, Eb, Fb, Gb, Hb, Ib⟩ (fun hHeld => ?_); refine with_tabW kerbsuitedata_Database.tab6 kerbsuitedata_Database.bits6 (fun HT_ HW_ => ?_)
        generalize wr.drew = kg at da ia ha ca ea HB ab bb cb db eb fb gb ib jb Ab Bb Cb Db Eb Fb Gb Hb Ib hHeld ⊢
        refine pU_ 0 (some 25) (bo_ 38 1) ?_
        refine pU_ 1 (some 26) (bo_ 38 3) ?_
        refine tK_ 2 (some 27) (bo_ 38 7) hHeld ?_
        refine pU_ 3 (some 28) (bo_ 38 15) ?_
        refine pU_ 4 (some 29) (bo_ 38 31) ?_
        refine pU_ 5 (some 30) (bo_ 38 63) ?_
        refine pU_ 6 (some 31) (bo_ 38 127) ?_
        refine pU_ 8 (some 33) (bo_ 38 383) ?_
        refine pU_ 12 (some 37) (bo_ 38 4479) ?_
        refine tK_ 7 (some 32) (bo_ 38 4607) hHeld ?_
        refine pU_ 9 (some 34) (bo_ 38 5119) ?_
        refine pU_ 10 (some 35) (bo_ 38 6143) ?_
        refine tK_ 11 (some 36) (bo_ 38 8191) hHeld ?_
        refine tK_ 13 (some 38) (bo_ 38 16383) hHeld ?_
        refine pU_ 14 (some 39) (bo_ 38 32767) ?_
        refine pU_ 15 (some 40) (bo_ 38 65535) ?_
        refine pU_ 16 (some 41) (bo_ 38 131071) ?_
        refine pU_ 18 (some 43) (bo_ 38 393215) ?_
        refine pU_ 22 (some 47) (bo_ 38 4587519) ?_
        refine tK_ 17 (some 42) (bo_ 38 4718591) hHeld ?_
        refine pU_ 19 (some 44) (bo_ 38 5242879) ?_
        refine pU_ 20 (some 45) (bo_ 38 6291455) ?_
        refine tK_ 21 (some 46) (bo_ 38 8388607) hHeld ?_
        refine tK_ 23 (some 48) (bo_ 38 16777215) hHeld ?_
        refine pU_ 24 (some 49) (bo_ 38 33554431) ?_
        refine pU_ 25 (some 50) (bo_ 38 67108863) ?_
        refine pV_ 26 (some 51) (bo_ 38 134217727) ?_
        refine pV_ 27 (some 52) (bo_ 38 268435455) ?_
        refine pV_ 28 (some 53) (bo_ 38 536870911) ?_
        refine pV_ 29 (some 54) (bo_ 38 1073741823) ?_
        refine pV_ 30 (some 55) (bo_ 38 2147483647) ?_
        refine pV_ 31 (some 56) (bo_ 38 4294967295) ?_
        refine pV_ 32 (some 57) (bo_ 38 8589934591) ?_
        refine pV_ 33 (some 58) (bo_ 38 17179869183) ?_
        refine pV_ 34 (some 59) (bo_ 38 34359738367) ?_
        refine pU_ 35 (some 60) (bo_ 38 68719476735) ?_
        refine pU_ 36 (some 61) (bo_ 38 137438953471) ?_
        refine pU_ 37 (some 62) (bo_ 38 274877906943) ?_
        refine done_ (done_of HT_.out (by kernel_rfl)) ?_
        try go_wp2
        go_meet
        case rel => exact ⟨_, (false), rS_, H', ⟨by have := Yb.out; have := Rb.out; have := kc.out; first | omega | exact Nat.le_refl _⟩, ⟨by refine bk_ ?_; exact da.out⟩, ⟨by refine bk_ ?_; exact ia.out⟩, ⟨by refine bk_ ?_; exact ha.out⟩, ⟨by refine bk_ ?_; exact ca.out⟩, ⟨by repeat (first | (with_reducible first | exact ea.out | apply IsS52.alloc | apply IsS52.drewN | apply IsS52.drew | apply IsS52.set_1 | refine IsS52.far ?_ ka.out _ | refine IsS52.far ?_ la.out _ | refine IsS52.far ?_ qa.out _) | exact ea.out)⟩, ⟨by repeat (first | (with_reducible first | exact HB.out | apply bA_ | apply bN_ | apply bD_ | refine bS_ ?_ (IsS52.ge ea.out) | refine bS_ ?_ na.out | refine bS_ ?_ pa.out | refine bS_ ?_ Ea.out) | exact HB.out)⟩⟩
       case rest =>
        clear Tc
        try clear c2
        try clear p2
        try clear q2
        try clear lg
        try clear c3
        try clear mg
        try clear ng
        try clear Vf
        try clear oc
        try clear Wb
        try clear Nc
        try clear lc
        try clear Yc
        try clear Zc
        try clear ab
        try clear bb
        try clear cb
        try clear db
        try clear eb
        try clear fb
        try clear gb
        try clear ib
        try clear jb
        try clear Ab
        try clear Bb
        try clear Cb
        try clear Db
        try clear Eb
        try clear Fb
        try clear Gb
        try clear Hb
        try clear Ib
        try clear yb
        try clear Tb
        try clear zb
        try clear Ub
        obtain ⟨kq, cc, rfl, HA, Ic, da, ia, ha, ca, ea, HB⟩ := hcut
        cases kq with
        | zero => exact absurd HA.out (by simp [kerbsuitedata_Database.j3])
        | succ Jb =>
         have H := HA.out
         clear HA
         simp only [kerbsuitedata_Database.j3] at H
         by_cases ad : cc = true
         ·subst ad
          have H1 : (kerbsuitedata_Database.l1 Jb (wrap64 (ba + 1)) l0 Xa ta aa oa sa ua va wa xa ya za Aa) = some (r1, r2) := by rw [if_pos rfl] at H; exact H
          clear H
          have H := H1
          clear H1
          have H' := aM_ H
          clear H
          go_wp2
          go_roundg Jb
          case measure => have := Yb.out; have := Rb.out; have := kc.out; have := Ic.out; omega
          case rel => exact ⟨(wrap64 (ba + 1)), rS_, H', ⟨by have := Yb.out; have := Rb.out; have := kc.out; have := Ic.out; omega⟩, ⟨by refine bk_ ?_; exact da.out⟩, ⟨by refine bk_ ?_; exact ia.out⟩, ⟨by refine bk_ ?_; exact ha.out⟩, ⟨by refine bk_ ?_; exact ca.out⟩, ⟨by repeat (first | (with_reducible first | exact ea.out | apply IsS52.alloc | apply IsS52.drewN | apply IsS52.drew | apply IsS52.set_1 | refine IsS52.far ?_ ka.out _ | refine IsS52.far ?_ la.out _ | refine IsS52.far ?_ qa.out _) | exact ea.out)⟩, ⟨by repeat (first | (with_reducible first | exact HB.out | apply bA_ | apply bN_ | apply bD_ | refine bS_ ?_ (IsS52.ge ea.out) | refine bS_ ?_ na.out | refine bS_ ?_ pa.out | refine bS_ ?_ Ea.out) | exact HB.out)⟩⟩
         replace ad := Bool.eq_false_iff.mpr ad
         subst ad
         have H1 : ((some (([] : List (S35)) : List (S35))).bind fun lb => (if 0 ≤ ba then (if ba ≤ (aa.length : Int) then ((some (aa.take (ba : Int).toNat : List (S35))).bind fun Ga => (if lb.length + Ga.length < 1599289640401 then ((some (lb ++ Ga : List (S35))).bind fun Pa => ((some (([(⟨oa, sa, ua, va, wa, xa, ya, za, Aa⟩ : S35)] : List (S35)) : List (S35))).bind fun Ha => (if Pa.length + Ha.length < 1599289640401 then ((some (Pa ++ Ha : List (S35))).bind fun Ma => ((some (aa.drop (ba : Int).toNat : List (S35))).bind fun ra => (if Ma.length + ra.length < 1599289640401 then (kerbsuitedata_Database.l0 Jb l0 Xa ta (Ma ++ ra)) else (none)))) else (none)))) else (none))) else (none)) else (none))) = some (r1, r2) := by rw [if_neg (show ¬ (false = true) by decide)] at H; exact H
         clear H
         have H := H1
         clear H1
         obtain ⟨lb, hy253⟩ : ∃ y_ : List (S35), y_ = (([] : List (S35))) := ⟨_, rfl⟩
         replace H : (if 0 ≤ ba then (if ba ≤ (aa.length : Int) then ((some (aa.take (ba : Int).toNat : List (S35))).bind fun Ga => (if lb.length + Ga.length < 1599289640401 then ((some (lb ++ Ga : List (S35))).bind fun Pa => ((some (([(⟨oa, sa, ua, va, wa, xa, ya, za, Aa⟩ : S35)] : List (S35)) : List (S35))).bind fun Ha => (if Pa.length + Ha.length < 1599289640401 then ((some (Pa ++ Ha : List (S35))).bind fun Ma => ((some (aa.drop (ba : Int).toNat : List (S35))).bind fun ra => (if Ma.length + ra.length < 1599289640401 then (kerbsuitedata_Database.l0 Jb l0 Xa ta (Ma ++ ra)) else (none)))) else (none)))) else (none))) else (none)) else (none)) = some (r1, r2) := by first | (rw [hy253]; with_reducible exact H) | (have H2_ := (Option.bind_some _ _).symm.trans H; rw [hy253]; with_reducible exact H2_) | (have H2_ := (Option.bind_some _ _).symm.trans H; with_reducible exact H2_) | with_reducible exact H | (rw [hy253]; exact H) | exact H
         have Ny253 := aM_ hy253
         clear hy253
         by_cases Oc : 0 ≤ ba
         rotate_left
         ·rw [if_neg Oc] at H
          exact absurd H (by simp)
         rw [if_pos Oc] at H
         have Bf := eq_true Oc
         have Cf : decide (0 ≤ ba) = true := decide_eq_true Oc
         clear Oc
         by_cases Pc : ba ≤ (aa.length : Int)
         rotate_left
         ·rw [if_neg Pc] at H
          exact absurd H (by simp)
         rw [if_pos Pc] at H
         have Df := eq_true Pc
         have Ef : decide (ba ≤ (aa.length : Int)) = true := decide_eq_true Pc
         clear Pc
         obtain ⟨Ga, hy256⟩ : ∃ y_ : List (S35), y_ = (aa.take (ba : Int).toNat) := ⟨_, rfl⟩
         replace H : (if lb.length + Ga.length < 1599289640401 then ((some (lb ++ Ga : List (S35))).bind fun Pa => ((some (([(⟨oa, sa, ua, va, wa, xa, ya, za, Aa⟩ : S35)] : List (S35)) : List (S35))).bind fun Ha => (if Pa.length + Ha.length < 1599289640401 then ((some (Pa ++ Ha : List (S35))).bind fun Ma => ((some (aa.drop (ba : Int).toNat : List (S35))).bind fun ra => (if Ma.length + ra.length < 1599289640401 then (kerbsuitedata_Database.l0 Jb l0 Xa ta (Ma ++ ra)) else (none)))) else (none)))) else (none)) = some (r1, r2) := by first | (rw [hy256]; with_reducible exact H) | (have H2_ := (Option.bind_some _ _).symm.trans H; rw [hy256]; with_reducible exact H2_) | (have H2_ := (Option.bind_some _ _).symm.trans H; with_reducible exact H2_) | with_reducible exact H | (rw [hy256]; exact H) | exact H
         have Ny256 := aM_ hy256
         clear hy256
         by_cases bd : lb.length + Ga.length < 1599289640401
         rotate_left
         ·rw [if_neg bd] at H
          exact absurd H (by simp)
         rw [if_pos bd] at H
         have Jc := aM_ bd
         clear bd
         obtain ⟨Pa, hy260⟩ : ∃ y_ : List (S35), y_ = (lb ++ Ga) := ⟨_, rfl⟩
         replace H : ((some (([(⟨oa, sa, ua, va, wa, xa, ya, za, Aa⟩ : S35)] : List (S35)) : List (S35))).bind fun Ha => (if Pa.length + Ha.length < 1599289640401 then ((some (Pa ++ Ha : List (S35))).bind fun Ma => ((some (aa.drop (ba : Int).toNat : List (S35))).bind fun ra => (if Ma.length + ra.length < 1599289640401 then (kerbsuitedata_Database.l0 Jb l0 Xa ta (Ma ++ ra)) else (none)))) else (none))) = some (r1, r2) := by first | (rw [hy260]; with_reducible exact H) | (have H2_ := (Option.bind_some _ _).symm.trans H; rw [hy260]; with_reducible exact H2_) | (have H2_ := (Option.bind_some _ _).symm.trans H; with_reducible exact H2_) | with_reducible exact H | (rw [hy260]; exact H) | exact H
         have Ny260 := aM_ hy260
         clear hy260
         obtain ⟨Ha, hy263⟩ : ∃ y_ : List (S35), y_ = (([(⟨oa, sa, ua, va, wa, xa, ya, za, Aa⟩ : S35)] : List (S35))) := ⟨_, rfl⟩
         replace H : (if Pa.length + Ha.length < 1599289640401 then ((some (Pa ++ Ha : List (S35))).bind fun Ma => ((some (aa.drop (ba : Int).toNat : List (S35))).bind fun ra => (if Ma.length + ra.length < 1599289640401 then (kerbsuitedata_Database.l0 Jb l0 Xa ta (Ma ++ ra)) else (none)))) else (none)) = some (r1, r2) := by first | (rw [hy263]; with_reducible exact H) | (have H2_ := (Option.bind_some _ _).symm.trans H; rw [hy263]; with_reducible exact H2_) | (have H2_ := (Option.bind_some _ _).symm.trans H; with_reducible exact H2_) | with_reducible exact H | (rw [hy263]; exact H) | exact H
         have Ny263 := aM_ hy263
         clear hy263
         by_cases cd : Pa.length + Ha.length < 1599289640401
         rotate_left
         ·rw [if_neg cd] at H
          exact absurd H (by simp)
         rw [if_pos cd] at H
         have Rd := aM_ cd
         clear cd
         obtain ⟨Ma, hy266⟩ : ∃ y_ : List (S35), y_ = (Pa ++ Ha) := ⟨_, rfl⟩
         replace H : ((some (aa.drop (ba : Int).toNat : List (S35))).bind fun ra => (if Ma.length + ra.length < 1599289640401 then (kerbsuitedata_Database.l0 Jb l0 Xa ta (Ma ++ ra)) else (none))) = some (r1, r2) := by first | (rw [hy266]; with_reducible exact H) | (have H2_ := (Option.bind_some _ _).symm.trans H; rw [hy266]; with_reducible exact H2_) | (have H2_ := (Option.bind_some _ _).symm.trans H; with_reducible exact H2_) | with_reducible exact H | (rw [hy266]; exact H) | exact H
         have Ny266 := aM_ hy266
         clear hy266
         have Ff := eq_true (dT_ : 0 ≤ ba)
         have Gf := eq_true (dT_ : ba ≤ (aa.length : Int))
         obtain ⟨ra, hy269⟩ : ∃ y_ : List (S35), y_ = (aa.drop (ba : Int).toNat) := ⟨_, rfl⟩
         replace H : (if Ma.length + ra.length < 1599289640401 then (kerbsuitedata_Database.l0 Jb l0 Xa ta (Ma ++ ra)) else (none)) = some (r1, r2) := by first | (rw [hy269]; with_reducible exact H) | (have H2_ := (Option.bind_some _ _).symm.trans H; rw [hy269]; with_reducible exact H2_) | (have H2_ := (Option.bind_some _ _).symm.trans H; with_reducible exact H2_) | with_reducible exact H | (rw [hy269]; exact H) | exact H
         have Ny269 := aM_ hy269
         clear hy269
         by_cases dd : Ma.length + ra.length < 1599289640401
         rotate_left
         ·rw [if_neg dd] at H
          exact absurd H (by simp)
         rw [if_pos dd] at H
         have Sd := aM_ dd
         clear dd
         obtain ⟨Xc, hy273⟩ : ∃ y_ : List (S35), y_ = (Ma ++ ra) := ⟨_, rfl⟩
         replace H : (kerbsuitedata_Database.l0 Jb l0 Xa ta Xc) = some (r1, r2) := by first | (rw [hy273]; with_reducible exact H) | (have H2_ := (Option.bind_some _ _).symm.trans H; rw [hy273]; with_reducible exact H2_) | (have H2_ := (Option.bind_some _ _).symm.trans H; with_reducible exact H2_) | with_reducible exact H | (rw [hy273]; exact H) | exact H
         have Ny273 := aM_ hy273
         clear hy273
         have H' := aM_ H
         clear H
         try go_upto_region 8 with fail
         replace da := aM_ (Kd.R_drew da.out)
         replace ia := aM_ (blk_drew ia.out)
         replace ha := aM_ (blk_drew ha.out)
         replace ca := aM_ (blk_drew ca.out)
         replace ea := aM_ (IsS52.drew ea.out)
         replace HB := aM_ (bD_ HB.out)
         obtain ⟨Ca, Da, Id⟩ := Kd.R_slice da.out
         (first | subst Id | (injection Id with f1_ f2_ f3_; have f4_ := f1_.symm; have f5_ := f3_.symm; clear f1_ f2_ f3_; subst f4_; subst f5_))
         have Jd : (ba : Int) ≤ ((aa.length : Int) : Int) := dT_
         obtain ⟨i050, ed, _, hsz50, _⟩ := info_parts info35
         have hroom50 : aa.length ≤ Da := (Kd.R_reads' da.out).2.1
         have hC50 : Kd.C k35 _ Ca aa.length aa := (Kd.R_reads' da.out).2.2
         have hcut50 := cut_to (P := Tryd.prog) 22 35 .i64 Tryd.underlying22 ed Ca aa.length Da ba dT_ Jd hroom50
         have hr50 := Kd.C_take (m := (ba : Int).toNat) hC50 (by omega)
         have hy50 : Ga.length = (ba : Int).toNat := (by rw [Ny256.out, List.length_take]; omega)
         rw [← Ny256.out] at hr50
         rw [← hy50] at hcut50
         have ja := aM_ hr50
         have Hf := aM_ (show Ga.length ≤ Da from by omega)
         clear hr50 hC50 hroom50 ed hsz50
         have KY50 := aM_ hy50
         clear hy50
         have KL50 := aM_ (show (ba : Int).toNat ≤ aa.length from by omega)
         replace Jd := eq_true Jd
         have Ld : (ba : Int) ≤ ((aa.length : Int) : Int) := dT_
         obtain ⟨i052, fd, _, hsz52, _⟩ := info_parts info35
         have hroom52 : aa.length ≤ Da := (Kd.R_reads' da.out).2.1
         have hC52 : Kd.C k35 _ Ca aa.length aa := (Kd.R_reads' da.out).2.2
         have Fe : (0 : Int) ≤ (ba : Int) := dT_
         have hcut52 := cut_from (P := Tryd.prog) 22 35 .i64 Tryd.underlying22 fd 9 hsz52 Ca aa.length Da ba Fe Ld
         have hr52 := Kd.C_drop (m := (ba : Int).toNat) (c := Da) hC52 (by omega) hroom52
         obtain ⟨mc, hA52⟩ : ∃ A1, A1 = (if Da = (ba : Int).toNat then Ca else (Ca : Option Addr).map (·.add ((ba : Int).toNat * 9))) := ⟨_, rfl⟩
         obtain ⟨bf, hc52⟩ : ∃ c1, c1 = Da - (ba : Int).toNat := ⟨_, rfl⟩
         have hy52 : ra.length = aa.length - (ba : Int).toNat := (by rw [Ny269.out, List.length_drop] <;> omega)
         rw [show (aa).drop (ba : Int).toNat = ra from Ny269.out.symm] at hr52
         replace hr52 : Kd.C k35 _ mc ra.length ra := (by rw [hA52]; exact hr52)
         rw [← hy52, ← hA52, ← hc52] at hcut52
         have ma := aM_ hr52
         have If := aM_ (show ra.length ≤ bf from by rw [hy52, hc52]; exact Nat.sub_le_sub_right hroom52 _)
         clear hr52 hC52 hroom52 fd hsz52 hc52
         have KY52 := aM_ hy52
         have KA52 := aM_ hA52
         clear hy52 hA52
         have KL52 := aM_ (show (ba : Int).toNat ≤ aa.length from by omega)
         replace Ld := eq_true Ld
         refine start_ (n := 16) (S := fun w' => w'.cell? ⟨Ba, 0, none⟩ = some (.string ta) ∧ w'.cell? ⟨Ba, 1, none⟩ = some (.slice Ca aa.length Da) ∧ w'.cell? ⟨ga, 0, none⟩ = some (.string oa) ∧ w'.cell? ⟨ga, 1, none⟩ = some (.string sa) ∧ w'.cell? ⟨ga, 2, none⟩ = some (.int .u64 ua) ∧ w'.cell? ⟨ga, 3, none⟩ = some (.int .i64 va) ∧ w'.cell? ⟨ga, 4, none⟩ = some (.int .i64 wa) ∧ w'.cell? ⟨ga, 5, none⟩ = some (.int .i64 xa) ∧ w'.cell? ⟨ga, 6, none⟩ = some (.int .i64 ya) ∧ w'.cell? ⟨ga, 7, none⟩ = some (.int .i64 za) ∧ w'.cell? ⟨ga, 8, none⟩ = some (.int .i64 Aa)) (ds := [15]) (bo_ 16 0) (by kernel_rfl) rfl rfl ⟨bc_ ha.out 0, bc_ ha.out 1, bc_ ca.out 0, bc_ ca.out 1, bc_ ca.out 2, bc_ ca.out 3, bc_ ca.out 4, bc_ ca.out 5, bc_ ca.out 6, bc_ ca.out 7, bc_ ca.out 8⟩ (fun hHeld => ?_); refine with_tabW kerbsuitedata_Database.tab8 kerbsuitedata_Database.bits8 (fun HT_ HW_ => ?_)
         generalize wc.drew = og at da ia ha ca ea HB ja ma hHeld ⊢
         refine pU_ 1 (some 66) (bo_ 16 2) ?_
         refine pU_ 3 (some 68) (bo_ 16 10) ?_
         refine pU_ 9 (some 74) (bo_ 16 522) ?_
         refine pU_ 11 (some 76) (bo_ 16 2570) ?_
         refine tK_ 2 (some 67) (bo_ 16 2574) hHeld ?_
         refine pU_ 4 (some 69) (bo_ 16 2590) ?_
         refine tK_ 6 (some 71) (bo_ 16 2654) hHeld ?_
         refine tK_ 10 (some 75) (bo_ 16 3678) hHeld ?_
         refine pU_ 12 (some 77) (bo_ 16 7774) ?_
         refine join_ (σ := Value × Value × Value) 4 (bo_ 16 7935) (fun s_ => [(65, s_.1), (70, s_.2.1), (72, s_.2.2)]) (fun s_ w' => (w'.cell? ⟨Ba, 0, none⟩ = some (.string ta) ∧ w'.cell? ⟨Ba, 1, none⟩ = some (.slice Ca aa.length Da) ∧ w'.cell? ⟨ga, 0, none⟩ = some (.string oa) ∧ w'.cell? ⟨ga, 1, none⟩ = some (.string sa) ∧ w'.cell? ⟨ga, 2, none⟩ = some (.int .u64 ua) ∧ w'.cell? ⟨ga, 3, none⟩ = some (.int .i64 va) ∧ w'.cell? ⟨ga, 4, none⟩ = some (.int .i64 wa) ∧ w'.cell? ⟨ga, 5, none⟩ = some (.int .i64 xa) ∧ w'.cell? ⟨ga, 6, none⟩ = some (.int .i64 ya) ∧ w'.cell? ⟨ga, 7, none⟩ = some (.int .i64 za) ∧ w'.cell? ⟨ga, 8, none⟩ = some (.int .i64 Aa)) ∧ (Kd.R k35 35 w' w.heap.size (fun k_ => some k_ ≠ (s_.2.2 : Value).ownBlock ∧ some k_ ≠ (.slice Ca aa.length Da : Value).ownBlock ∧ k_ ≠ ga) s_.2.1 Pa) ∧ (Kd.R k35 35 w' w.heap.size (fun k_ => some k_ ≠ (s_.2.1 : Value).ownBlock ∧ some k_ ≠ (.slice Ca aa.length Da : Value).ownBlock ∧ k_ ≠ ga) s_.2.2 Ha) ∧ (Kd.R k35 35 w' w.heap.size (fun k_ => some k_ ≠ (s_.2.1 : Value).ownBlock ∧ some k_ ≠ (s_.2.2 : Value).ownBlock ∧ k_ ≠ ga) (.slice Ca aa.length Da) aa) ∧ (w'.heap[Ta]? = some (.cells #[.string (⟨#[]⟩ : ByteArray), .slice none 0 0] 24 (0, 0))) ∧ (w'.heap[Ba]? = some (.cells #[.string ta, .slice Ca aa.length Da] 24 (0, 0))) ∧ (w'.heap[ga]? = some (.cells #[.string oa, .string sa, .int .u64 ua, .int .i64 va, .int .i64 wa, .int .i64 xa, .int .i64 ya, .int .i64 za, .int .i64 Aa] 35 (0, 0))) ∧ (IsS52 w w' Qa l0 Xa) ∧ (Kd.C k35 w' Ca Ga.length Ga) ∧ (Kd.C k35 w' mc ra.length ra) ∧ (Below w.heap.size w w')) ?_ ?_
         rotate_left
         ·intro hCont
          refine two_ (i := 0) (j := 7) (Ni := some 65) (Nj := some 72) (bo_ 16 7775) (bo_ 16 7902) rfl rfl rfl rfl (two_of HT_.out (by kernel_rfl)) (by decide) (by decide) (fun K hK => ?_) (fun K hK => ?_)
          ·skip
           refine Kd.R_lit_step k35 _ 35 ?hg (N := 65) ?hd (xs := ([] : List (S35))) (inner := []) (ok := fun _ => True) (okp := fun _ => True) ?hr ?hp (fun _ hk => hk) trivial (Below.refl _ _) (Nat.le_refl _) (by simp) ?_; (case hd => rfl); (case hg => rfl); (case hr => first | (go_simp; done) | (go_simp; rfl)); (case hp => exact (Reps.none _ _))
           intro Vb cf xb hb hg_ hnew_
           clear hg_ hnew_
           (first | rw [← Ny253.out] at xb | (simp only [Int.reduceToNat] at xb; rw [← Ny253.out] at xb))
           have Ja := aM_ (Kd.R_lower (Kd.R_newB (Kd.R_new' xb (Kd.R_lt (bk_ da.out))) (gR_ ca.out)) (below_size (by repeat (first | (with_reducible first | exact HB.out | apply bA_ | apply bN_ | apply bD_ | refine bS_ ?_ (IsS52.ge ea.out) | refine bS_ ?_ na.out | refine bS_ ?_ pa.out | refine bS_ ?_ Ea.out) | exact HB.out))))
           replace da := aM_ (Kd.R_elder' (bk_ da.out) (Kd.R_base xb) hb)
           replace ia := aM_ (kG_ ia.out hb)
           replace ha := aM_ (kG_ ha.out hb)
           replace ca := aM_ (kG_ ca.out hb)
           replace ja := aM_ (Kd.C_below (by first | (with_reducible exact ja.out) | (with_reducible exact Kd.C_drewN ja.out _) | (with_reducible exact Kd.C_drew ja.out) | repeat (first | (with_reducible exact ja.out) | (with_reducible refine Kd.C_alloc ?_ _) | (with_reducible refine Kd.C_drewN ?_ _) | (with_reducible refine Kd.C_drew ?_) | exact ja.out)) hb)
           replace ma := aM_ (Kd.C_below (by first | (with_reducible exact ma.out) | (with_reducible exact Kd.C_drewN ma.out _) | (with_reducible exact Kd.C_drew ma.out) | repeat (first | (with_reducible exact ma.out) | (with_reducible refine Kd.C_alloc ?_ _) | (with_reducible refine Kd.C_drewN ?_ _) | (with_reducible refine Kd.C_drew ?_) | exact ma.out)) hb)
           replace HB := aM_ (below_step (by repeat (first | (with_reducible first | exact HB.out | apply bA_ | apply bN_ | apply bD_ | refine bS_ ?_ (IsS52.ge ea.out) | refine bS_ ?_ na.out | refine bS_ ?_ pa.out | refine bS_ ?_ Ea.out) | exact HB.out)) hb)
           replace ea := aM_ (IsS52.below (by repeat (first | (with_reducible first | exact ea.out | apply IsS52.alloc | apply IsS52.drewN | apply IsS52.drew | apply IsS52.set_1 | refine IsS52.far ?_ ka.out _ | refine IsS52.far ?_ la.out _ | refine IsS52.far ?_ qa.out _) | exact ea.out)) hb)
           clear hb xb
           refine hK.out _ _ ⟨bc_ ha.out 0, bc_ ha.out 1, bc_ ca.out 0, bc_ ca.out 1, bc_ ca.out 2, bc_ ca.out 3, bc_ ca.out 4, bc_ ca.out 5, bc_ ca.out 6, bc_ ca.out 7, bc_ ca.out 8⟩ (fun hHeld => ?_)
           clear hK K
           refine nO_ 65 ?_
           refine two_ (i := 5) (j := 7) (Ni := some 70) (Nj := some 72) (bo_ 16 7807) (bo_ 16 7903) rfl rfl rfl rfl (two_of HT_.out (by kernel_rfl)) (by decide) (by decide) (fun K hK => ?_) (fun K hK => ?_)
           ·skip
            refine Kd.R_append_rows_step k35 (w0 := w) w.heap.size (by rfl) (.tmp 65) (.tmp 69) 22 35 (.agg #[(.string ⟨#[]⟩), (.string ⟨#[]⟩), (.int .u64 0), (.int .i64 0), (.int .i64 0), (.int .i64 0), (.int .i64 0), (.int .i64 0), (.int .i64 0)]) 88 rfl Tryd.underlying22 info35 rfl (by decide) (by omega) Vb lb Ga _ _ _ (fun k_ => some k_ ≠ (.slice Ca aa.length Da : Value).ownBlock ∧ k_ ≠ ga) (fun _ => False) rfl rfl ?aO ?aR (fun _ _ h => h) (fun _ h => h.elim) ?aF ?aB ?aS ?aL ?_
            (case aR => repeat (first | exact (by first | (with_reducible exact ja.out) | (with_reducible exact Kd.C_drewN ja.out _) | (with_reducible exact Kd.C_drew ja.out) | repeat (first | (with_reducible exact ja.out) | (with_reducible refine Kd.C_alloc ?_ _) | (with_reducible refine Kd.C_drewN ?_ _) | (with_reducible refine Kd.C_drew ?_) | exact ja.out)) | (with_reducible refine Kd.C_alloc ?_ _) | (with_reducible refine Kd.C_drewN ?_ _) | (with_reducible refine Kd.C_drew ?_)))
            (case aB => exact (by repeat (first | (with_reducible first | exact HB.out | apply bA_ | apply bN_ | apply bD_ | refine bS_ ?_ (IsS52.ge ea.out) | refine bS_ ?_ na.out | refine bS_ ?_ pa.out | refine bS_ ?_ Ea.out) | exact HB.out)))
            (case aF => exact (fun k_ hk => ⟨Kd.fresh' (Kd.R_lt (bk_ da.out)) k_ hk, Kd.freshB (g := ga) (o := .cells #[.string oa, .string sa, .int .u64 ua, .int .i64 va, .int .i64 wa, .int .i64 xa, .int .i64 ya, .int .i64 za, .int .i64 Aa] 35 (0, 0)) (bk_ ca.out) k_ hk⟩))
            (case aO => exact (by refine bk_ ?_; exact Kd.R_mono Ja.out (fun _ hk => ⟨hk.1.2, hk.2⟩)))
            (case aS => exact (below_size (by repeat (first | (with_reducible first | exact HB.out | apply bA_ | apply bN_ | apply bD_ | refine bS_ ?_ (IsS52.ge ea.out) | refine bS_ ?_ na.out | refine bS_ ?_ pa.out | refine bS_ ?_ Ea.out) | exact HB.out))))
            (case aL => have := Jc.out; omega)
            intro Mb gd ho hb hg hat
            rw [← Ny260.out] at ho
            replace ia := aM_ (blk_grown (g := Ta) (o := .cells #[.string (⟨#[]⟩ : ByteArray), .slice none 0 0] 24 (0, 0)) (bk_ ia.out) hg (Kd.R_ne Ja.out ia.out (by decide)))
            replace ha := aM_ (blk_grown (g := Ba) (o := .cells #[.string ta, .slice Ca aa.length Da] 24 (0, 0)) (bk_ ha.out) hg (Kd.R_ne Ja.out ha.out (by decide)))
            replace ca := aM_ (blk_grown (g := ga) (o := .cells #[.string oa, .string sa, .int .u64 ua, .int .i64 va, .int .i64 wa, .int .i64 xa, .int .i64 ya, .int .i64 za, .int .i64 Aa] 35 (0, 0)) (bk_ ca.out) hg (Kd.R_away Ja.out (fun _ hk => hk.2)))
            replace ea := aM_ (IsS52.grown (by repeat (first | (with_reducible first | exact ea.out | apply IsS52.alloc | apply IsS52.drewN | apply IsS52.drew | apply IsS52.set_1 | refine IsS52.far ?_ ka.out _ | refine IsS52.far ?_ la.out _ | refine IsS52.far ?_ qa.out _) | exact ea.out)) hg (IsS52.own_ne ea.out Ja.out (by decide)))
            replace HB := aM_ (hb)
            replace ja := aM_ ((show Kd.C k35 gd Ca Ga.length Ga from by rw [Ny256.out]; exact Kd.C_take (m := (ba : Int).toNat) ((Kd.R_reads' (Kd.R_after (ok := (fun k_ => k_ ≠ ga)) (bk_ da.out) hg hat)).2.2) KL50.out))
            replace ma := aM_ ((show Kd.C k35 gd mc ra.length ra from by rw [Ny269.out, KA52.out]; exact Kd.C_drop (m := (ba : Int).toNat) (c := Da) ((Kd.R_reads' (Kd.R_after (ok := (fun k_ => k_ ≠ ga)) (bk_ da.out) hg hat)).2.2) KL52.out ((Kd.R_reads' (Kd.R_after (ok := (fun k_ => k_ ≠ ga)) (bk_ da.out) hg hat)).2.1)))
            replace da := aM_ (Kd.R_after (ok := (fun k_ => k_ ≠ ga)) (bk_ da.out) hg hat)
            have Ua := aM_ (ho)
            clear Ja
            clear ho hb hg hat
            refine hK.out _ _ ⟨bc_ ha.out 0, bc_ ha.out 1, bc_ ca.out 0, bc_ ca.out 1, bc_ ca.out 2, bc_ ca.out 3, bc_ ca.out 4, bc_ ca.out 5, bc_ ca.out 6, bc_ ca.out 7, bc_ ca.out 8⟩ (fun hHeld => ?_)
            clear hK K
            refine nO_ 70 ?_
            refine one_ (i := 7) (N := some 72) (bo_ 16 7935) rfl rfl (one_of HT_.out (by kernel_rfl)) (by decide) (fun K hK => ?_)
            refine Kd.R_lit_step k35 _ 35 ?hg (N := 72) ?hd (xs := ([(⟨oa, sa, ua, va, wa, xa, ya, za, Aa⟩ : S35)] : List (S35))) (inner := [.string oa, .string sa, .int .u64 ua, .int .i64 va, .int .i64 wa, .int .i64 xa, .int .i64 ya, .int .i64 za, .int .i64 Aa]) (ok := fun _ => True) (okp := fun _ => True) ?hr ?hp (fun _ hk => hk) trivial (Below.refl _ _) (Nat.le_refl _) (by simp) ?_; (case hd => rfl); (case hg => rfl); (case hr => first | (go_simp; done) | (go_simp; rfl)); (case hp => exact (Reps.c9 (show Kd.M k35 _ _ _ (⟨oa, sa, ua, va, wa, xa, ya, za, Aa⟩ : S35) [.string oa, .string sa, .int .u64 ua, .int .i64 va, .int .i64 wa, .int .i64 xa, .int .i64 ya, .int .i64 za, .int .i64 Aa] from (k35_mkM _ _ _ (⟨oa, sa, ua, va, wa, xa, ya, za, Aa⟩ : S35) )) (Reps.none _ _)))
            intro Va pg ac hb hg_ hnew_
            clear hg_ hnew_
            (first | rw [← Ny263.out] at ac | (simp only [Int.reduceToNat] at ac; rw [← Ny263.out] at ac))
            have Ia := aM_ (Kd.R_lower (Kd.R_newB (Kd.R_new' (Kd.R_new' ac (Kd.R_lt (bk_ da.out))) (Kd.R_lt (bk_ Ua.out))) (gR_ ca.out)) (below_size (by repeat (first | (with_reducible first | exact HB.out | apply bA_ | apply bN_ | apply bD_ | refine bS_ ?_ (IsS52.ge ea.out) | refine bS_ ?_ na.out | refine bS_ ?_ pa.out | refine bS_ ?_ Ea.out) | exact HB.out))))
            replace da := aM_ (Kd.R_elder' (bk_ da.out) (Kd.R_base ac) hb)
            replace Ua := aM_ (Kd.R_elder' (bk_ Ua.out) (Kd.R_base ac) hb)
            replace ia := aM_ (kG_ ia.out hb)
            replace ha := aM_ (kG_ ha.out hb)
            replace ca := aM_ (kG_ ca.out hb)
            replace ja := aM_ (Kd.C_below (by first | (with_reducible exact ja.out) | (with_reducible exact Kd.C_drewN ja.out _) | (with_reducible exact Kd.C_drew ja.out) | repeat (first | (with_reducible exact ja.out) | (with_reducible refine Kd.C_alloc ?_ _) | (with_reducible refine Kd.C_drewN ?_ _) | (with_reducible refine Kd.C_drew ?_) | exact ja.out)) hb)
            replace ma := aM_ (Kd.C_below (by first | (with_reducible exact ma.out) | (with_reducible exact Kd.C_drewN ma.out _) | (with_reducible exact Kd.C_drew ma.out) | repeat (first | (with_reducible exact ma.out) | (with_reducible refine Kd.C_alloc ?_ _) | (with_reducible refine Kd.C_drewN ?_ _) | (with_reducible refine Kd.C_drew ?_) | exact ma.out)) hb)
            replace HB := aM_ (below_step (by repeat (first | (with_reducible first | exact HB.out | apply bA_ | apply bN_ | apply bD_ | refine bS_ ?_ (IsS52.ge ea.out) | refine bS_ ?_ na.out | refine bS_ ?_ pa.out | refine bS_ ?_ Ea.out) | exact HB.out)) hb)
            replace ea := aM_ (IsS52.below (by repeat (first | (with_reducible first | exact ea.out | apply IsS52.alloc | apply IsS52.drewN | apply IsS52.drew | apply IsS52.set_1 | refine IsS52.far ?_ ka.out _ | refine IsS52.far ?_ la.out _ | refine IsS52.far ?_ qa.out _) | exact ea.out)) hb)
            clear hb ac
            refine hK.out _ _ ⟨bc_ ha.out 0, bc_ ha.out 1, bc_ ca.out 0, bc_ ca.out 1, bc_ ca.out 2, bc_ ca.out 3, bc_ ca.out 4, bc_ ca.out 5, bc_ ca.out 6, bc_ ca.out 7, bc_ ca.out 8⟩ (fun hHeld => ?_)
            clear hK K
            refine nO_ 72 ?_
            exact norm_ (by simp only [putAll, Act.put, sA_, sB_, sC_]) (hCont (Vb, Mb, Va) _ ⟨hHeld, (by refine bk_ ?_; exact Kd.R_mono Ua.out (fun _ hk => ⟨hk.2, ⟨hk.1.1, hk.1.2⟩⟩)), (by refine bk_ ?_; exact Kd.R_mono Ia.out (fun _ hk => ⟨hk.1.2, ⟨hk.1.1.2, hk.2⟩⟩)), (by refine bk_ ?_; exact Kd.R_mono da.out (fun _ hk => ⟨hk.1.2, ⟨hk.2, hk.1.1⟩⟩)), (bk_ ia.out), (bk_ ha.out), (bk_ ca.out), (by repeat (first | (with_reducible first | exact ea.out | apply IsS52.alloc | apply IsS52.drewN | apply IsS52.drew | apply IsS52.set_1 | refine IsS52.far ?_ ka.out _ | refine IsS52.far ?_ la.out _ | refine IsS52.far ?_ qa.out _) | exact ea.out)), (by first | (with_reducible exact ja.out) | (with_reducible exact Kd.C_drewN ja.out _) | (with_reducible exact Kd.C_drew ja.out) | repeat (first | (with_reducible exact ja.out) | (with_reducible refine Kd.C_alloc ?_ _) | (with_reducible refine Kd.C_drewN ?_ _) | (with_reducible refine Kd.C_drew ?_) | exact ja.out)), (by first | (with_reducible exact ma.out) | (with_reducible exact Kd.C_drewN ma.out _) | (with_reducible exact Kd.C_drew ma.out) | repeat (first | (with_reducible exact ma.out) | (with_reducible refine Kd.C_alloc ?_ _) | (with_reducible refine Kd.C_drewN ?_ _) | (with_reducible refine Kd.C_drew ?_) | exact ma.out)), (by repeat (first | (with_reducible first | exact HB.out | apply bA_ | apply bN_ | apply bD_ | refine bS_ ?_ (IsS52.ge ea.out) | refine bS_ ?_ na.out | refine bS_ ?_ pa.out | refine bS_ ?_ Ea.out) | exact HB.out))⟩)
           skip
           refine Kd.R_lit_step k35 _ 35 ?hg (N := 72) ?hd (xs := ([(⟨oa, sa, ua, va, wa, xa, ya, za, Aa⟩ : S35)] : List (S35))) (inner := [.string oa, .string sa, .int .u64 ua, .int .i64 va, .int .i64 wa, .int .i64 xa, .int .i64 ya, .int .i64 za, .int .i64 Aa]) (ok := fun _ => True) (okp := fun _ => True) ?hr ?hp (fun _ hk => hk) trivial (Below.refl _ _) (Nat.le_refl _) (by simp) ?_; (case hd => rfl); (case hg => rfl); (case hr => first | (go_simp; done) | (go_simp; rfl)); (case hp => exact (Reps.c9 (show Kd.M k35 _ _ _ (⟨oa, sa, ua, va, wa, xa, ya, za, Aa⟩ : S35) [.string oa, .string sa, .int .u64 ua, .int .i64 va, .int .i64 wa, .int .i64 xa, .int .i64 ya, .int .i64 za, .int .i64 Aa] from (k35_mkM _ _ _ (⟨oa, sa, ua, va, wa, xa, ya, za, Aa⟩ : S35) )) (Reps.none _ _)))
           intro Va gd mb hb hg_ hnew_
           clear hg_ hnew_
           (first | rw [← Ny263.out] at mb | (simp only [Int.reduceToNat] at mb; rw [← Ny263.out] at mb))
           have Ia := aM_ (Kd.R_lower (Kd.R_newB (Kd.R_new' (Kd.R_new' mb (Kd.R_lt (bk_ da.out))) (Kd.R_lt (bk_ Ja.out))) (gR_ ca.out)) (below_size (by repeat (first | (with_reducible first | exact HB.out | apply bA_ | apply bN_ | apply bD_ | refine bS_ ?_ (IsS52.ge ea.out) | refine bS_ ?_ na.out | refine bS_ ?_ pa.out | refine bS_ ?_ Ea.out) | exact HB.out))))
           replace da := aM_ (Kd.R_elder' (bk_ da.out) (Kd.R_base mb) hb)
           replace Ja := aM_ (Kd.R_elder' (bk_ Ja.out) (Kd.R_base mb) hb)
           replace ia := aM_ (kG_ ia.out hb)
           replace ha := aM_ (kG_ ha.out hb)
           replace ca := aM_ (kG_ ca.out hb)
           replace ja := aM_ (Kd.C_below (by first | (with_reducible exact ja.out) | (with_reducible exact Kd.C_drewN ja.out _) | (with_reducible exact Kd.C_drew ja.out) | repeat (first | (with_reducible exact ja.out) | (with_reducible refine Kd.C_alloc ?_ _) | (with_reducible refine Kd.C_drewN ?_ _) | (with_reducible refine Kd.C_drew ?_) | exact ja.out)) hb)
           replace ma := aM_ (Kd.C_below (by first | (with_reducible exact ma.out) | (with_reducible exact Kd.C_drewN ma.out _) | (with_reducible exact Kd.C_drew ma.out) | repeat (first | (with_reducible exact ma.out) | (with_reducible refine Kd.C_alloc ?_ _) | (with_reducible refine Kd.C_drewN ?_ _) | (with_reducible refine Kd.C_drew ?_) | exact ma.out)) hb)
           replace HB := aM_ (below_step (by repeat (first | (with_reducible first | exact HB.out | apply bA_ | apply bN_ | apply bD_ | refine bS_ ?_ (IsS52.ge ea.out) | refine bS_ ?_ na.out | refine bS_ ?_ pa.out | refine bS_ ?_ Ea.out) | exact HB.out)) hb)
           replace ea := aM_ (IsS52.below (by repeat (first | (with_reducible first | exact ea.out | apply IsS52.alloc | apply IsS52.drewN | apply IsS52.drew | apply IsS52.set_1 | refine IsS52.far ?_ ka.out _ | refine IsS52.far ?_ la.out _ | refine IsS52.far ?_ qa.out _) | exact ea.out)) hb)
           clear hb mb
           refine hK.out _ _ ⟨bc_ ha.out 0, bc_ ha.out 1, bc_ ca.out 0, bc_ ca.out 1, bc_ ca.out 2, bc_ ca.out 3, bc_ ca.out 4, bc_ ca.out 5, bc_ ca.out 6, bc_ ca.out 7, bc_ ca.out 8⟩ (fun hHeld => ?_)
           clear hK K
           refine nO_ 72 ?_
           refine one_ (i := 5) (N := some 70) (bo_ 16 7935) rfl rfl (one_of HT_.out (by kernel_rfl)) (by decide) (fun K hK => ?_)
           refine Kd.R_append_rows_step k35 (w0 := w) w.heap.size (by rfl) (.tmp 65) (.tmp 69) 22 35 (.agg #[(.string ⟨#[]⟩), (.string ⟨#[]⟩), (.int .u64 0), (.int .i64 0), (.int .i64 0), (.int .i64 0), (.int .i64 0), (.int .i64 0), (.int .i64 0)]) 88 rfl Tryd.underlying22 info35 rfl (by decide) (by omega) Vb lb Ga _ _ _ (fun k_ => some k_ ≠ (.slice Ca aa.length Da : Value).ownBlock ∧ some k_ ≠ (Va : Value).ownBlock ∧ k_ ≠ ga) (fun _ => False) rfl rfl ?aO ?aR (fun _ _ h => h) (fun _ h => h.elim) ?aF ?aB ?aS ?aL ?_
           (case aR => repeat (first | exact (by first | (with_reducible exact ja.out) | (with_reducible exact Kd.C_drewN ja.out _) | (with_reducible exact Kd.C_drew ja.out) | repeat (first | (with_reducible exact ja.out) | (with_reducible refine Kd.C_alloc ?_ _) | (with_reducible refine Kd.C_drewN ?_ _) | (with_reducible refine Kd.C_drew ?_) | exact ja.out)) | (with_reducible refine Kd.C_alloc ?_ _) | (with_reducible refine Kd.C_drewN ?_ _) | (with_reducible refine Kd.C_drew ?_)))
           (case aB => exact (by repeat (first | (with_reducible first | exact HB.out | apply bA_ | apply bN_ | apply bD_ | refine bS_ ?_ (IsS52.ge ea.out) | refine bS_ ?_ na.out | refine bS_ ?_ pa.out | refine bS_ ?_ Ea.out) | exact HB.out)))
           (case aF => exact (fun k_ hk => ⟨Kd.fresh' (Kd.R_lt (bk_ da.out)) k_ hk, Kd.fresh' (Kd.R_lt (bk_ Ia.out)) k_ hk, Kd.freshB (g := ga) (o := .cells #[.string oa, .string sa, .int .u64 ua, .int .i64 va, .int .i64 wa, .int .i64 xa, .int .i64 ya, .int .i64 za, .int .i64 Aa] 35 (0, 0)) (bk_ ca.out) k_ hk⟩))
           (case aO => exact (by refine bk_ ?_; exact Kd.R_mono Ja.out (fun _ hk => ⟨hk.1.1.2, ⟨hk.2, hk.1.2⟩⟩)))
           (case aS => exact (below_size (by repeat (first | (with_reducible first | exact HB.out | apply bA_ | apply bN_ | apply bD_ | refine bS_ ?_ (IsS52.ge ea.out) | refine bS_ ?_ na.out | refine bS_ ?_ pa.out | refine bS_ ?_ Ea.out) | exact HB.out))))
           (case aL => have := Jc.out; omega)
           intro Mb Qc ho hb hg hat
           rw [← Ny260.out] at ho
           replace ia := aM_ (blk_grown (g := Ta) (o := .cells #[.string (⟨#[]⟩ : ByteArray), .slice none 0 0] 24 (0, 0)) (bk_ ia.out) hg (Kd.R_ne Ja.out ia.out (by decide)))
           replace ha := aM_ (blk_grown (g := Ba) (o := .cells #[.string ta, .slice Ca aa.length Da] 24 (0, 0)) (bk_ ha.out) hg (Kd.R_ne Ja.out ha.out (by decide)))
           replace ca := aM_ (blk_grown (g := ga) (o := .cells #[.string oa, .string sa, .int .u64 ua, .int .i64 va, .int .i64 wa, .int .i64 xa, .int .i64 ya, .int .i64 za, .int .i64 Aa] 35 (0, 0)) (bk_ ca.out) hg (Kd.R_away Ja.out (fun _ hk => hk.1.2)))
           replace ea := aM_ (IsS52.grown (by repeat (first | (with_reducible first | exact ea.out | apply IsS52.alloc | apply IsS52.drewN | apply IsS52.drew | apply IsS52.set_1 | refine IsS52.far ?_ ka.out _ | refine IsS52.far ?_ la.out _ | refine IsS52.far ?_ qa.out _) | exact ea.out)) hg (IsS52.own_ne ea.out Ja.out (by decide)))
           replace Ia := aM_ (Kd.R_after (ok := (fun k_ => some k_ ≠ (.slice Ca aa.length Da : Value).ownBlock ∧ k_ ≠ ga)) (by refine bk_ ?_; exact Kd.R_mono Ia.out (fun _ hk => ⟨⟨hk.1.1.2, hk.2⟩, hk.1.2⟩)) hg hat)
           replace HB := aM_ (hb)
           replace ja := aM_ ((show Kd.C k35 Qc Ca Ga.length Ga from by rw [Ny256.out]; exact Kd.C_take (m := (ba : Int).toNat) ((Kd.R_reads' (Kd.R_after (ok := (fun k_ => some k_ ≠ (Va : Value).ownBlock ∧ k_ ≠ ga)) (by refine bk_ ?_; exact Kd.R_mono da.out (fun _ hk => ⟨⟨hk.2, hk.1.1⟩, hk.1.2⟩)) hg hat)).2.2) KL50.out))
           replace ma := aM_ ((show Kd.C k35 Qc mc ra.length ra from by rw [Ny269.out, KA52.out]; exact Kd.C_drop (m := (ba : Int).toNat) (c := Da) ((Kd.R_reads' (Kd.R_after (ok := (fun k_ => some k_ ≠ (Va : Value).ownBlock ∧ k_ ≠ ga)) (by refine bk_ ?_; exact Kd.R_mono da.out (fun _ hk => ⟨⟨hk.2, hk.1.1⟩, hk.1.2⟩)) hg hat)).2.2) KL52.out ((Kd.R_reads' (Kd.R_after (ok := (fun k_ => some k_ ≠ (Va : Value).ownBlock ∧ k_ ≠ ga)) (by refine bk_ ?_; exact Kd.R_mono da.out (fun _ hk => ⟨⟨hk.2, hk.1.1⟩, hk.1.2⟩)) hg hat)).2.1)))
           replace da := aM_ (Kd.R_after (ok := (fun k_ => some k_ ≠ (Va : Value).ownBlock ∧ k_ ≠ ga)) (by refine bk_ ?_; exact Kd.R_mono da.out (fun _ hk => ⟨⟨hk.2, hk.1.1⟩, hk.1.2⟩)) hg hat)
           have Ua := aM_ (ho)
           clear Ja
           clear ho hb hg hat
           refine hK.out _ _ ⟨bc_ ha.out 0, bc_ ha.out 1, bc_ ca.out 0, bc_ ca.out 1, bc_ ca.out 2, bc_ ca.out 3, bc_ ca.out 4, bc_ ca.out 5, bc_ ca.out 6, bc_ ca.out 7, bc_ ca.out 8⟩ (fun hHeld => ?_)
           clear hK K
           refine nO_ 70 ?_
           exact norm_ (by simp only [putAll, Act.put, sA_, sB_, sC_]) (hCont (Vb, Mb, Va) _ ⟨hHeld, (by refine bk_ ?_; exact Kd.R_mono Ua.out (fun _ hk => ⟨hk.2.1, ⟨hk.1, hk.2.2⟩⟩)), (by refine bk_ ?_; exact Kd.R_mono Ia.out (fun _ hk => ⟨hk.2, ⟨hk.1.1, hk.1.2⟩⟩)), (by refine bk_ ?_; exact Kd.R_mono da.out (fun _ hk => ⟨hk.2, ⟨hk.1.1, hk.1.2⟩⟩)), (bk_ ia.out), (bk_ ha.out), (bk_ ca.out), (by repeat (first | (with_reducible first | exact ea.out | apply IsS52.alloc | apply IsS52.drewN | apply IsS52.drew | apply IsS52.set_1 | refine IsS52.far ?_ ka.out _ | refine IsS52.far ?_ la.out _ | refine IsS52.far ?_ qa.out _) | exact ea.out)), (by first | (with_reducible exact ja.out) | (with_reducible exact Kd.C_drewN ja.out _) | (with_reducible exact Kd.C_drew ja.out) | repeat (first | (with_reducible exact ja.out) | (with_reducible refine Kd.C_alloc ?_ _) | (with_reducible refine Kd.C_drewN ?_ _) | (with_reducible refine Kd.C_drew ?_) | exact ja.out)), (by first | (with_reducible exact ma.out) | (with_reducible exact Kd.C_drewN ma.out _) | (with_reducible exact Kd.C_drew ma.out) | repeat (first | (with_reducible exact ma.out) | (with_reducible refine Kd.C_alloc ?_ _) | (with_reducible refine Kd.C_drewN ?_ _) | (with_reducible refine Kd.C_drew ?_) | exact ma.out)), (by repeat (first | (with_reducible first | exact HB.out | apply bA_ | apply bN_ | apply bD_ | refine bS_ ?_ (IsS52.ge ea.out) | refine bS_ ?_ na.out | refine bS_ ?_ pa.out | refine bS_ ?_ Ea.out) | exact HB.out))⟩)
          skip
          refine Kd.R_lit_step k35 _ 35 ?hg (N := 72) ?hd (xs := ([(⟨oa, sa, ua, va, wa, xa, ya, za, Aa⟩ : S35)] : List (S35))) (inner := [.string oa, .string sa, .int .u64 ua, .int .i64 va, .int .i64 wa, .int .i64 xa, .int .i64 ya, .int .i64 za, .int .i64 Aa]) (ok := fun _ => True) (okp := fun _ => True) ?hr ?hp (fun _ hk => hk) trivial (Below.refl _ _) (Nat.le_refl _) (by simp) ?_; (case hd => rfl); (case hg => rfl); (case hr => first | (go_simp; done) | (go_simp; rfl)); (case hp => exact (Reps.c9 (show Kd.M k35 _ _ _ (⟨oa, sa, ua, va, wa, xa, ya, za, Aa⟩ : S35) [.string oa, .string sa, .int .u64 ua, .int .i64 va, .int .i64 wa, .int .i64 xa, .int .i64 ya, .int .i64 za, .int .i64 Aa] from (k35_mkM _ _ _ (⟨oa, sa, ua, va, wa, xa, ya, za, Aa⟩ : S35) )) (Reps.none _ _)))
          intro Va cf xb hb hg_ hnew_
          clear hg_ hnew_
          (first | rw [← Ny263.out] at xb | (simp only [Int.reduceToNat] at xb; rw [← Ny263.out] at xb))
          have Ia := aM_ (Kd.R_lower (Kd.R_newB (Kd.R_new' xb (Kd.R_lt (bk_ da.out))) (gR_ ca.out)) (below_size (by repeat (first | (with_reducible first | exact HB.out | apply bA_ | apply bN_ | apply bD_ | refine bS_ ?_ (IsS52.ge ea.out) | refine bS_ ?_ na.out | refine bS_ ?_ pa.out | refine bS_ ?_ Ea.out) | exact HB.out))))
          replace da := aM_ (Kd.R_elder' (bk_ da.out) (Kd.R_base xb) hb)
          replace ia := aM_ (kG_ ia.out hb)
          replace ha := aM_ (kG_ ha.out hb)
          replace ca := aM_ (kG_ ca.out hb)
          replace ja := aM_ (Kd.C_below (by first | (with_reducible exact ja.out) | (with_reducible exact Kd.C_drewN ja.out _) | (with_reducible exact Kd.C_drew ja.out) | repeat (first | (with_reducible exact ja.out) | (with_reducible refine Kd.C_alloc ?_ _) | (with_reducible refine Kd.C_drewN ?_ _) | (with_reducible refine Kd.C_drew ?_) | exact ja.out)) hb)
          replace ma := aM_ (Kd.C_below (by first | (with_reducible exact ma.out) | (with_reducible exact Kd.C_drewN ma.out _) | (with_reducible exact Kd.C_drew ma.out) | repeat (first | (with_reducible exact ma.out) | (with_reducible refine Kd.C_alloc ?_ _) | (with_reducible refine Kd.C_drewN ?_ _) | (with_reducible refine Kd.C_drew ?_) | exact ma.out)) hb)
          replace HB := aM_ (below_step (by repeat (first | (with_reducible first | exact HB.out | apply bA_ | apply bN_ | apply bD_ | refine bS_ ?_ (IsS52.ge ea.out) | refine bS_ ?_ na.out | refine bS_ ?_ pa.out | refine bS_ ?_ Ea.out) | exact HB.out)) hb)
          replace ea := aM_ (IsS52.below (by repeat (first | (with_reducible first | exact ea.out | apply IsS52.alloc | apply IsS52.drewN | apply IsS52.drew | apply IsS52.set_1 | refine IsS52.far ?_ ka.out _ | refine IsS52.far ?_ la.out _ | refine IsS52.far ?_ qa.out _) | exact ea.out)) hb)
          clear hb xb
          refine hK.out _ _ ⟨bc_ ha.out 0, bc_ ha.out 1, bc_ ca.out 0, bc_ ca.out 1, bc_ ca.out 2, bc_ ca.out 3, bc_ ca.out 4, bc_ ca.out 5, bc_ ca.out 6, bc_ ca.out 7, bc_ ca.out 8⟩ (fun hHeld => ?_)
          clear hK K
          refine nO_ 72 ?_
          refine one_ (i := 0) (N := some 65) (bo_ 16 7903) rfl rfl (one_of HT_.out (by kernel_rfl)) (by decide) (fun K hK => ?_)
          refine Kd.R_lit_step k35 _ 35 ?hg (N := 65) ?hd (xs := ([] : List (S35))) (inner := []) (ok := fun _ => True) (okp := fun _ => True) ?hr ?hp (fun _ hk => hk) trivial (Below.refl _ _) (Nat.le_refl _) (by simp) ?_; (case hd => rfl); (case hg => rfl); (case hr => first | (go_simp; done) | (go_simp; rfl)); (case hp => exact (Reps.none _ _))
          intro Vb gd mb hb hg_ hnew_
          clear hg_ hnew_
          (first | rw [← Ny253.out] at mb | (simp only [Int.reduceToNat] at mb; rw [← Ny253.out] at mb))
          have Ja := aM_ (Kd.R_lower (Kd.R_newB (Kd.R_new' (Kd.R_new' mb (Kd.R_lt (bk_ da.out))) (Kd.R_lt (bk_ Ia.out))) (gR_ ca.out)) (below_size (by repeat (first | (with_reducible first | exact HB.out | apply bA_ | apply bN_ | apply bD_ | refine bS_ ?_ (IsS52.ge ea.out) | refine bS_ ?_ na.out | refine bS_ ?_ pa.out | refine bS_ ?_ Ea.out) | exact HB.out))))
          replace da := aM_ (Kd.R_elder' (bk_ da.out) (Kd.R_base mb) hb)
          replace Ia := aM_ (Kd.R_elder' (bk_ Ia.out) (Kd.R_base mb) hb)
          replace ia := aM_ (kG_ ia.out hb)
          replace ha := aM_ (kG_ ha.out hb)
          replace ca := aM_ (kG_ ca.out hb)
          replace ja := aM_ (Kd.C_below (by first | (with_reducible exact ja.out) | (with_reducible exact Kd.C_drewN ja.out _) | (with_reducible exact Kd.C_drew ja.out) | repeat (first | (with_reducible exact ja.out) | (with_reducible refine Kd.C_alloc ?_ _) | (with_reducible refine Kd.C_drewN ?_ _) | (with_reducible refine Kd.C_drew ?_) | exact ja.out)) hb)
          replace ma := aM_ (Kd.C_below (by first | (with_reducible exact ma.out) | (with_reducible exact Kd.C_drewN ma.out _) | (with_reducible exact Kd.C_drew ma.out) | repeat (first | (with_reducible exact ma.out) | (with_reducible refine Kd.C_alloc ?_ _) | (with_reducible refine Kd.C_drewN ?_ _) | (with_reducible refine Kd.C_drew ?_) | exact ma.out)) hb)
          replace HB := aM_ (below_step (by repeat (first | (with_reducible first | exact HB.out | apply bA_ | apply bN_ | apply bD_ | refine bS_ ?_ (IsS52.ge ea.out) | refine bS_ ?_ na.out | refine bS_ ?_ pa.out | refine bS_ ?_ Ea.out) | exact HB.out)) hb)
          replace ea := aM_ (IsS52.below (by repeat (first | (with_reducible first | exact ea.out | apply IsS52.alloc | apply IsS52.drewN | apply IsS52.drew | apply IsS52.set_1 | refine IsS52.far ?_ ka.out _ | refine IsS52.far ?_ la.out _ | refine IsS52.far ?_ qa.out _) | exact ea.out)) hb)
          clear hb mb
          refine hK.out _ _ ⟨bc_ ha.out 0, bc_ ha.out 1, bc_ ca.out 0, bc_ ca.out 1, bc_ ca.out 2, bc_ ca.out 3, bc_ ca.out 4, bc_ ca.out 5, bc_ ca.out 6, bc_ ca.out 7, bc_ ca.out 8⟩ (fun hHeld => ?_)
          clear hK K
          refine nO_ 65 ?_
          refine one_ (i := 5) (N := some 70) (bo_ 16 7935) rfl rfl (one_of HT_.out (by kernel_rfl)) (by decide) (fun K hK => ?_)
          refine Kd.R_append_rows_step k35 (w0 := w) w.heap.size (by rfl) (.tmp 65) (.tmp 69) 22 35 (.agg #[(.string ⟨#[]⟩), (.string ⟨#[]⟩), (.int .u64 0), (.int .i64 0), (.int .i64 0), (.int .i64 0), (.int .i64 0), (.int .i64 0), (.int .i64 0)]) 88 rfl Tryd.underlying22 info35 rfl (by decide) (by omega) Vb lb Ga _ _ _ (fun k_ => some k_ ≠ (.slice Ca aa.length Da : Value).ownBlock ∧ some k_ ≠ (Va : Value).ownBlock ∧ k_ ≠ ga) (fun _ => False) rfl rfl ?aO ?aR (fun _ _ h => h) (fun _ h => h.elim) ?aF ?aB ?aS ?aL ?_
          (case aR => repeat (first | exact (by first | (with_reducible exact ja.out) | (with_reducible exact Kd.C_drewN ja.out _) | (with_reducible exact Kd.C_drew ja.out) | repeat (first | (with_reducible exact ja.out) | (with_reducible refine Kd.C_alloc ?_ _) | (with_reducible refine Kd.C_drewN ?_ _) | (with_reducible refine Kd.C_drew ?_) | exact ja.out)) | (with_reducible refine Kd.C_alloc ?_ _) | (with_reducible refine Kd.C_drewN ?_ _) | (with_reducible refine Kd.C_drew ?_)))
          (case aB => exact (by repeat (first | (with_reducible first | exact HB.out | apply bA_ | apply bN_ | apply bD_ | refine bS_ ?_ (IsS52.ge ea.out) | refine bS_ ?_ na.out | refine bS_ ?_ pa.out | refine bS_ ?_ Ea.out) | exact HB.out)))
          (case aF => exact (fun k_ hk => ⟨Kd.fresh' (Kd.R_lt (bk_ da.out)) k_ hk, Kd.fresh' (Kd.R_lt (bk_ Ia.out)) k_ hk, Kd.freshB (g := ga) (o := .cells #[.string oa, .string sa, .int .u64 ua, .int .i64 va, .int .i64 wa, .int .i64 xa, .int .i64 ya, .int .i64 za, .int .i64 Aa] 35 (0, 0)) (bk_ ca.out) k_ hk⟩))
          (case aO => exact (by refine bk_ ?_; exact Kd.R_mono Ja.out (fun _ hk => ⟨hk.1.1.2, ⟨hk.1.2, hk.2⟩⟩)))
          (case aS => exact (below_size (by repeat (first | (with_reducible first | exact HB.out | apply bA_ | apply bN_ | apply bD_ | refine bS_ ?_ (IsS52.ge ea.out) | refine bS_ ?_ na.out | refine bS_ ?_ pa.out | refine bS_ ?_ Ea.out) | exact HB.out))))
          (case aL => have := Jc.out; omega)
          intro Mb Qc ho hb hg hat
          rw [← Ny260.out] at ho
          replace ia := aM_ (blk_grown (g := Ta) (o := .cells #[.string (⟨#[]⟩ : ByteArray), .slice none 0 0] 24 (0, 0)) (bk_ ia.out) hg (Kd.R_ne Ja.out ia.out (by decide)))
          replace ha := aM_ (blk_grown (g := Ba) (o := .cells #[.string ta, .slice Ca aa.length Da] 24 (0, 0)) (bk_ ha.out) hg (Kd.R_ne Ja.out ha.out (by decide)))
          replace ca := aM_ (blk_grown (g := ga) (o := .cells #[.string oa, .string sa, .int .u64 ua, .int .i64 va, .int .i64 wa, .int .i64 xa, .int .i64 ya, .int .i64 za, .int .i64 Aa] 35 (0, 0)) (bk_ ca.out) hg (Kd.R_away Ja.out (fun _ hk => hk.2)))
          replace ea := aM_ (IsS52.grown (by repeat (first | (with_reducible first | exact ea.out | apply IsS52.alloc | apply IsS52.drewN | apply IsS52.drew | apply IsS52.set_1 | refine IsS52.far ?_ ka.out _ | refine IsS52.far ?_ la.out _ | refine IsS52.far ?_ qa.out _) | exact ea.out)) hg (IsS52.own_ne ea.out Ja.out (by decide)))
          replace Ia := aM_ (Kd.R_after (ok := (fun k_ => some k_ ≠ (.slice Ca aa.length Da : Value).ownBlock ∧ k_ ≠ ga)) (by refine bk_ ?_; exact Kd.R_mono Ia.out (fun _ hk => ⟨⟨hk.1.1.2, hk.1.2⟩, hk.2⟩)) hg hat)
          replace HB := aM_ (hb)
          replace ja := aM_ ((show Kd.C k35 Qc Ca Ga.length Ga from by rw [Ny256.out]; exact Kd.C_take (m := (ba : Int).toNat) ((Kd.R_reads' (Kd.R_after (ok := (fun k_ => some k_ ≠ (Va : Value).ownBlock ∧ k_ ≠ ga)) (by refine bk_ ?_; exact Kd.R_mono da.out (fun _ hk => ⟨⟨hk.1.2, hk.1.1⟩, hk.2⟩)) hg hat)).2.2) KL50.out))
          replace ma := aM_ ((show Kd.C k35 Qc mc ra.length ra from by rw [Ny269.out, KA52.out]; exact Kd.C_drop (m := (ba : Int).toNat) (c := Da) ((Kd.R_reads' (Kd.R_after (ok := (fun k_ => some k_ ≠ (Va : Value).ownBlock ∧ k_ ≠ ga)) (by refine bk_ ?_; exact Kd.R_mono da.out (fun _ hk => ⟨⟨hk.1.2, hk.1.1⟩, hk.2⟩)) hg hat)).2.2) KL52.out ((Kd.R_reads' (Kd.R_after (ok := (fun k_ => some k_ ≠ (Va : Value).ownBlock ∧ k_ ≠ ga)) (by refine bk_ ?_; exact Kd.R_mono da.out (fun _ hk => ⟨⟨hk.1.2, hk.1.1⟩, hk.2⟩)) hg hat)).2.1)))
          replace da := aM_ (Kd.R_after (ok := (fun k_ => some k_ ≠ (Va : Value).ownBlock ∧ k_ ≠ ga)) (by refine bk_ ?_; exact Kd.R_mono da.out (fun _ hk => ⟨⟨hk.1.2, hk.1.1⟩, hk.2⟩)) hg hat)
          have Ua := aM_ (ho)
          clear Ja
          clear ho hb hg hat
          refine hK.out _ _ ⟨bc_ ha.out 0, bc_ ha.out 1, bc_ ca.out 0, bc_ ca.out 1, bc_ ca.out 2, bc_ ca.out 3, bc_ ca.out 4, bc_ ca.out 5, bc_ ca.out 6, bc_ ca.out 7, bc_ ca.out 8⟩ (fun hHeld => ?_)
          clear hK K
          refine nO_ 70 ?_
          exact norm_ (by simp only [putAll, Act.put, sA_, sB_, sC_]) (hCont (Vb, Mb, Va) _ ⟨hHeld, (by refine bk_ ?_; exact Kd.R_mono Ua.out (fun _ hk => ⟨hk.2.1, ⟨hk.1, hk.2.2⟩⟩)), (by refine bk_ ?_; exact Kd.R_mono Ia.out (fun _ hk => ⟨hk.2, ⟨hk.1.1, hk.1.2⟩⟩)), (by refine bk_ ?_; exact Kd.R_mono da.out (fun _ hk => ⟨hk.2, ⟨hk.1.1, hk.1.2⟩⟩)), (bk_ ia.out), (bk_ ha.out), (bk_ ca.out), (by repeat (first | (with_reducible first | exact ea.out | apply IsS52.alloc | apply IsS52.drewN | apply IsS52.drew | apply IsS52.set_1 | refine IsS52.far ?_ ka.out _ | refine IsS52.far ?_ la.out _ | refine IsS52.far ?_ qa.out _) | exact ea.out)), (by first | (with_reducible exact ja.out) | (with_reducible exact Kd.C_drewN ja.out _) | (with_reducible exact Kd.C_drew ja.out) | repeat (first | (with_reducible exact ja.out) | (with_reducible refine Kd.C_alloc ?_ _) | (with_reducible refine Kd.C_drewN ?_ _) | (with_reducible refine Kd.C_drew ?_) | exact ja.out)), (by first | (with_reducible exact ma.out) | (with_reducible exact Kd.C_drewN ma.out _) | (with_reducible exact Kd.C_drew ma.out) | repeat (first | (with_reducible exact ma.out) | (with_reducible refine Kd.C_alloc ?_ _) | (with_reducible refine Kd.C_drewN ?_ _) | (with_reducible refine Kd.C_drew ?_) | exact ma.out)), (by repeat (first | (with_reducible first | exact HB.out | apply bA_ | apply bN_ | apply bD_ | refine bS_ ?_ (IsS52.ge ea.out) | refine bS_ ?_ na.out | refine bS_ ?_ pa.out | refine bS_ ?_ Ea.out) | exact HB.out))⟩)
         rintro ⟨Vb, Mb, Va⟩ kb ⟨hS_, h0_, h1_, h2_, Xd, Yd, Zd, ae, be, ce, de⟩
         have ee : Aside0 (Kd.R k35 35 kb w.heap.size (fun k_ => some k_ ≠ (Va : Value).ownBlock ∧ some k_ ≠ (.slice Ca aa.length Da : Value).ownBlock ∧ k_ ≠ ga) Mb Pa) := ⟨h0_⟩
         have fe : Aside0 (Kd.R k35 35 kb w.heap.size (fun k_ => some k_ ≠ (Mb : Value).ownBlock ∧ some k_ ≠ (.slice Ca aa.length Da : Value).ownBlock ∧ k_ ≠ ga) Va Ha) := ⟨h1_⟩
         have he : Aside0 (Kd.R k35 35 kb w.heap.size (fun k_ => some k_ ≠ (Mb : Value).ownBlock ∧ some k_ ≠ (Va : Value).ownBlock ∧ k_ ≠ ga) (.slice Ca aa.length Da) aa) := ⟨h2_⟩
         have ie : Aside0 (kb.heap[Ta]? = some (.cells #[.string (⟨#[]⟩ : ByteArray), .slice none 0 0] 24 (0, 0))) := ⟨Xd⟩
         have je : Aside0 (kb.heap[Ba]? = some (.cells #[.string ta, .slice Ca aa.length Da] 24 (0, 0))) := ⟨Yd⟩
         have ke : Aside0 (kb.heap[ga]? = some (.cells #[.string oa, .string sa, .int .u64 ua, .int .i64 va, .int .i64 wa, .int .i64 xa, .int .i64 ya, .int .i64 za, .int .i64 Aa] 35 (0, 0))) := ⟨Zd⟩
         have le : Aside0 (IsS52 w kb Qa l0 Xa) := ⟨ae⟩
         have me : Aside0 (Kd.C k35 kb Ca Ga.length Ga) := ⟨be⟩
         have ne : Aside0 (Kd.C k35 kb mc ra.length ra) := ⟨ce⟩
         have oe : Aside0 (Below w.heap.size w kb) := ⟨de⟩
         clear da ia ha ca ea HB
         clear h0_ h1_ h2_ Xd Yd Zd ae be ce de
         have Ua := ee
         have Ia := fe
         have da := he
         have ia := ie
         have ha := je
         have ca := ke
         have ea := le
         have ja := me
         have ma := ne
         have HB := oe
         clear ee fe he ie je ke le me ne oe
         have hHeld : kb.cell? ⟨Ba, 0, none⟩ = some (.string ta) ∧ kb.cell? ⟨Ba, 1, none⟩ = some (.slice Ca aa.length Da) ∧ kb.cell? ⟨ga, 0, none⟩ = some (.string oa) ∧ kb.cell? ⟨ga, 1, none⟩ = some (.string sa) ∧ kb.cell? ⟨ga, 2, none⟩ = some (.int .u64 ua) ∧ kb.cell? ⟨ga, 3, none⟩ = some (.int .i64 va) ∧ kb.cell? ⟨ga, 4, none⟩ = some (.int .i64 wa) ∧ kb.cell? ⟨ga, 5, none⟩ = some (.int .i64 xa) ∧ kb.cell? ⟨ga, 6, none⟩ = some (.int .i64 ya) ∧ kb.cell? ⟨ga, 7, none⟩ = some (.int .i64 za) ∧ kb.cell? ⟨ga, 8, none⟩ = some (.int .i64 Aa) := hS_
         obtain ⟨Nb, Ob, Md⟩ := Kd.R_slice Ia.out
         (first | subst Md | (injection Md with f1_ f2_ f3_; have f4_ := f1_.symm; have f5_ := f3_.symm; clear f1_ f2_ f3_; subst f4_; subst f5_))
         refine nP_ ?_
         refine one_ (i := 8) (N := some 73) (bo_ 16 8191) rfl rfl (one_of HT_.out (by kernel_rfl)) (by decide) (fun K hK => ?_)
         refine Kd.R_append_rows_step k35 (w0 := w) w.heap.size (by rfl) (.tmp 70) (.tmp 72) 22 35 (.agg #[(.string ⟨#[]⟩), (.string ⟨#[]⟩), (.int .u64 0), (.int .i64 0), (.int .i64 0), (.int .i64 0), (.int .i64 0), (.int .i64 0), (.int .i64 0)]) 88 rfl Tryd.underlying22 info35 rfl (by decide) (by omega) Mb Pa Ha _ _ _ (fun k_ => some k_ ≠ (.slice Ca aa.length Da : Value).ownBlock ∧ some k_ ≠ (.slice Nb Ha.length Ob : Value).ownBlock ∧ k_ ≠ ga) (fun _ => False) rfl rfl ?aO ?aR (fun _ _ h => h) (fun _ h => h.elim) ?aF ?aB ?aS ?aL ?_
         (case aR => exact cD_ (Kd.R_reads' Ia.out).2.2)
         (case aB => exact (by repeat (first | (with_reducible first | exact HB.out | apply bA_ | apply bN_ | apply bD_ | refine bS_ ?_ (IsS52.ge ea.out) | refine bS_ ?_ na.out | refine bS_ ?_ pa.out | refine bS_ ?_ Ea.out) | exact HB.out)))
         (case aF => exact (fun k_ hk => ⟨Kd.fresh' (Kd.R_lt (bk_ da.out)) k_ hk, Kd.fresh' (Kd.R_lt (bk_ Ia.out)) k_ hk, Kd.freshB (g := ga) (o := .cells #[.string oa, .string sa, .int .u64 ua, .int .i64 va, .int .i64 wa, .int .i64 xa, .int .i64 ya, .int .i64 za, .int .i64 Aa] 35 (0, 0)) (bk_ ca.out) k_ hk⟩))
         (case aO => exact (by refine bk_ ?_; exact Kd.R_mono Ua.out (fun _ hk => ⟨hk.2.1, ⟨hk.1, hk.2.2⟩⟩)))
         (case aS => exact (below_size (by repeat (first | (with_reducible first | exact HB.out | apply bA_ | apply bN_ | apply bD_ | refine bS_ ?_ (IsS52.ge ea.out) | refine bS_ ?_ na.out | refine bS_ ?_ pa.out | refine bS_ ?_ Ea.out) | exact HB.out))))
         (case aL => have := Rd.out; omega)
         intro Ge pe ho hb hg hat
         rw [← Ny266.out] at ho
         replace ia := aM_ (blk_grown (g := Ta) (o := .cells #[.string (⟨#[]⟩ : ByteArray), .slice none 0 0] 24 (0, 0)) (bk_ ia.out) hg (Kd.R_ne Ua.out ia.out (by decide)))
         replace ha := aM_ (blk_grown (g := Ba) (o := .cells #[.string ta, .slice Ca aa.length Da] 24 (0, 0)) (bk_ ha.out) hg (Kd.R_ne Ua.out ha.out (by decide)))
         replace ca := aM_ (blk_grown (g := ga) (o := .cells #[.string oa, .string sa, .int .u64 ua, .int .i64 va, .int .i64 wa, .int .i64 xa, .int .i64 ya, .int .i64 za, .int .i64 Aa] 35 (0, 0)) (bk_ ca.out) hg (Kd.R_away Ua.out (fun _ hk => hk.2.2)))
         replace ea := aM_ (IsS52.grown (by repeat (first | (with_reducible first | exact ea.out | apply IsS52.alloc | apply IsS52.drewN | apply IsS52.drew | apply IsS52.set_1 | refine IsS52.far ?_ ka.out _ | refine IsS52.far ?_ la.out _ | refine IsS52.far ?_ qa.out _) | exact ea.out)) hg (IsS52.own_ne ea.out Ua.out (by decide)))
         replace Ia := aM_ (Kd.R_after (ok := (fun k_ => some k_ ≠ (.slice Ca aa.length Da : Value).ownBlock ∧ k_ ≠ ga)) (by refine bk_ ?_; exact Kd.R_mono Ia.out (fun _ hk => ⟨⟨hk.2.1, hk.2.2⟩, hk.1⟩)) hg hat)
         replace HB := aM_ (hb)
         replace ja := aM_ ((show Kd.C k35 pe Ca Ga.length Ga from by rw [Ny256.out]; exact Kd.C_take (m := (ba : Int).toNat) ((Kd.R_reads' (Kd.R_after (ok := (fun k_ => some k_ ≠ (.slice Nb Ha.length Ob : Value).ownBlock ∧ k_ ≠ ga)) (by refine bk_ ?_; exact Kd.R_mono da.out (fun _ hk => ⟨⟨hk.2.1, hk.2.2⟩, hk.1⟩)) hg hat)).2.2) KL50.out))
         replace ma := aM_ ((show Kd.C k35 pe mc ra.length ra from by rw [Ny269.out, KA52.out]; exact Kd.C_drop (m := (ba : Int).toNat) (c := Da) ((Kd.R_reads' (Kd.R_after (ok := (fun k_ => some k_ ≠ (.slice Nb Ha.length Ob : Value).ownBlock ∧ k_ ≠ ga)) (by refine bk_ ?_; exact Kd.R_mono da.out (fun _ hk => ⟨⟨hk.2.1, hk.2.2⟩, hk.1⟩)) hg hat)).2.2) KL52.out ((Kd.R_reads' (Kd.R_after (ok := (fun k_ => some k_ ≠ (.slice Nb Ha.length Ob : Value).ownBlock ∧ k_ ≠ ga)) (by refine bk_ ?_; exact Kd.R_mono da.out (fun _ hk => ⟨⟨hk.2.1, hk.2.2⟩, hk.1⟩)) hg hat)).2.1)))
         replace da := aM_ (Kd.R_after (ok := (fun k_ => some k_ ≠ (.slice Nb Ha.length Ob : Value).ownBlock ∧ k_ ≠ ga)) (by refine bk_ ?_; exact Kd.R_mono da.out (fun _ hk => ⟨⟨hk.2.1, hk.2.2⟩, hk.1⟩)) hg hat)
         have Xb := aM_ (ho)
         clear Ua
         clear ho hb hg hat
         refine hK.out _ _ ⟨bc_ ha.out 0, bc_ ha.out 1, bc_ ca.out 0, bc_ ca.out 1, bc_ ca.out 2, bc_ ca.out 3, bc_ ca.out 4, bc_ ca.out 5, bc_ ca.out 6, bc_ ca.out 7, bc_ ca.out 8⟩ (fun hHeld => ?_)
         clear hK K
         refine nO_ 73 ?_
         refine one_ (i := 13) (N := some 78) (bo_ 16 16383) rfl rfl (one_of HT_.out (by kernel_rfl)) (by decide) (fun K hK => ?_)
         refine Kd.R_append_rows_step k35 (w0 := w) w.heap.size (by rfl) (.tmp 73) (.tmp 77) 22 35 (.agg #[(.string ⟨#[]⟩), (.string ⟨#[]⟩), (.int .u64 0), (.int .i64 0), (.int .i64 0), (.int .i64 0), (.int .i64 0), (.int .i64 0), (.int .i64 0)]) 88 rfl Tryd.underlying22 info35 rfl (by decide) (by omega) Ge Ma ra _ _ _ (fun k_ => some k_ ≠ (.slice Ca aa.length Da : Value).ownBlock ∧ some k_ ≠ (.slice Nb Ha.length Ob : Value).ownBlock ∧ k_ ≠ ga) (fun _ => False) rfl rfl ?aO ?aR (fun _ _ h => h) (fun _ h => h.elim) ?aF ?aB ?aS ?aL ?_
         (case aR => repeat (first | exact (by first | (with_reducible exact ma.out) | (with_reducible exact Kd.C_drewN ma.out _) | (with_reducible exact Kd.C_drew ma.out) | repeat (first | (with_reducible exact ma.out) | (with_reducible refine Kd.C_alloc ?_ _) | (with_reducible refine Kd.C_drewN ?_ _) | (with_reducible refine Kd.C_drew ?_) | exact ma.out)) | (with_reducible refine Kd.C_alloc ?_ _) | (with_reducible refine Kd.C_drewN ?_ _) | (with_reducible refine Kd.C_drew ?_)))
         (case aB => exact (by repeat (first | (with_reducible first | exact HB.out | apply bA_ | apply bN_ | apply bD_ | refine bS_ ?_ (IsS52.ge ea.out) | refine bS_ ?_ na.out | refine bS_ ?_ pa.out | refine bS_ ?_ Ea.out) | exact HB.out)))
         (case aF => exact (fun k_ hk => ⟨Kd.fresh' (Kd.R_lt (bk_ da.out)) k_ hk, Kd.fresh' (Kd.R_lt (bk_ Ia.out)) k_ hk, Kd.freshB (g := ga) (o := .cells #[.string oa, .string sa, .int .u64 ua, .int .i64 va, .int .i64 wa, .int .i64 xa, .int .i64 ya, .int .i64 za, .int .i64 Aa] 35 (0, 0)) (bk_ ca.out) k_ hk⟩))
         (case aO => exact (bk_ Xb.out))
         (case aS => exact (below_size (by repeat (first | (with_reducible first | exact HB.out | apply bA_ | apply bN_ | apply bD_ | refine bS_ ?_ (IsS52.ge ea.out) | refine bS_ ?_ na.out | refine bS_ ?_ pa.out | refine bS_ ?_ Ea.out) | exact HB.out))))
         (case aL => have := Sd.out; omega)
         intro Xf Nd ho hb hg hat
         rw [← Ny273.out] at ho
         replace ia := aM_ (blk_grown (g := Ta) (o := .cells #[.string (⟨#[]⟩ : ByteArray), .slice none 0 0] 24 (0, 0)) (bk_ ia.out) hg (Kd.R_ne Xb.out ia.out (by decide)))
         replace ha := aM_ (blk_grown (g := Ba) (o := .cells #[.string ta, .slice Ca aa.length Da] 24 (0, 0)) (bk_ ha.out) hg (Kd.R_ne Xb.out ha.out (by decide)))
         replace ca := aM_ (blk_grown (g := ga) (o := .cells #[.string oa, .string sa, .int .u64 ua, .int .i64 va, .int .i64 wa, .int .i64 xa, .int .i64 ya, .int .i64 za, .int .i64 Aa] 35 (0, 0)) (bk_ ca.out) hg (Kd.R_away Xb.out (fun _ hk => hk.2.2)))
         replace ea := aM_ (IsS52.grown (by repeat (first | (with_reducible first | exact ea.out | apply IsS52.alloc | apply IsS52.drewN | apply IsS52.drew | apply IsS52.set_1 | refine IsS52.far ?_ ka.out _ | refine IsS52.far ?_ la.out _ | refine IsS52.far ?_ qa.out _) | exact ea.out)) hg (IsS52.own_ne ea.out Xb.out (by decide)))
         replace Ia := aM_ (Kd.R_after (ok := (fun k_ => some k_ ≠ (.slice Ca aa.length Da : Value).ownBlock ∧ k_ ≠ ga)) (bk_ Ia.out) hg hat)
         replace HB := aM_ (hb)
         replace ja := aM_ ((show Kd.C k35 Nd Ca Ga.length Ga from by rw [Ny256.out]; exact Kd.C_take (m := (ba : Int).toNat) ((Kd.R_reads' (Kd.R_after (ok := (fun k_ => some k_ ≠ (.slice Nb Ha.length Ob : Value).ownBlock ∧ k_ ≠ ga)) (bk_ da.out) hg hat)).2.2) KL50.out))
         replace ma := aM_ ((show Kd.C k35 Nd mc ra.length ra from by rw [Ny269.out, KA52.out]; exact Kd.C_drop (m := (ba : Int).toNat) (c := Da) ((Kd.R_reads' (Kd.R_after (ok := (fun k_ => some k_ ≠ (.slice Nb Ha.length Ob : Value).ownBlock ∧ k_ ≠ ga)) (bk_ da.out) hg hat)).2.2) KL52.out ((Kd.R_reads' (Kd.R_after (ok := (fun k_ => some k_ ≠ (.slice Nb Ha.length Ob : Value).ownBlock ∧ k_ ≠ ga)) (bk_ da.out) hg hat)).2.1)))
         replace da := aM_ (Kd.R_after (ok := (fun k_ => some k_ ≠ (.slice Nb Ha.length Ob : Value).ownBlock ∧ k_ ≠ ga)) (bk_ da.out) hg hat)
         have id := aM_ (ho)
         clear Xb
         clear ho hb hg hat
         obtain ⟨He, Ie, Od⟩ := Kd.R_slice id.out
         (first | subst Od | (injection Od with f1_ f2_ f3_; have f4_ := f1_.symm; have f5_ := f3_.symm; clear f1_ f2_ f3_; subst f4_; subst f5_))
         refine hK.out _ _ ⟨bc_ ha.out 0, bc_ ha.out 1, bc_ ca.out 0, bc_ ca.out 1, bc_ ca.out 2, bc_ ca.out 3, bc_ ca.out 4, bc_ ca.out 5, bc_ ca.out 6, bc_ ca.out 7, bc_ ca.out 8⟩ (fun hHeld => ?_)
         clear hK K
         refine nO_ 78 ?_
         refine pU_ 14 (some 79) (bo_ 16 32767) ?_
         refine last_ (i := 15) (N := none) (bo_ 16 65535) rfl rfl (one_of HT_.out (by kernel_rfl)) (by decide) (fun K hK => ?_)
         have hs63 : Nd.cell? ⟨Ba, 1, none⟩ = some (.slice Ca aa.length Da) := bc_ ha.out 1
         have hfs63 := blk_frozen ha.out 1
         have hns63_0 := ob.out
         have hns63_2 := jc.out
         have hms63_0 := Lb.out
         have hms63_2 := Sb.out
         refine skip_ (w1 := ?_) (by rfl) rfl ?_ ?_
         rotate_left; (· go_simp; rfl)
         refine hK.out _ _ ?_
         clear hK K
         refine done_ (done_of HT_.out (by kernel_rfl)) ?_
         try go_wp2
         go_roundg Jb
         case measure => have := Yb.out; have := Rb.out; have := kc.out; have := Ic.out; omega
         case rel => exact ⟨(Xa), (Xc), (.slice He Xc.length Ie), H', ⟨by have := Yb.out; have := Rb.out; have := kc.out; have := Ic.out; omega⟩, ⟨by refine bk_ ?_; exact Kd.R_mono (rF_ (Kd.R_types id.out ha.out (by decide))) (fun _ hk => trivial)⟩, ⟨by exact far_ ob.out ia.out⟩, ⟨by exact puts_ ha.out⟩, ⟨by repeat (first | (with_reducible first | exact ea.out | apply IsS52.alloc | apply IsS52.drewN | apply IsS52.drew | apply IsS52.set_1 | refine IsS52.far ?_ ka.out _ | refine IsS52.far ?_ la.out _ | refine IsS52.far ?_ qa.out _) | exact ea.out)⟩, ⟨by repeat (first | (with_reducible first | exact HB.out | apply bA_ | apply bN_ | apply bD_ | refine bS_ ?_ (IsS52.ge ea.out) | refine bS_ ?_ na.out | refine bS_ ?_ pa.out | refine bS_ ?_ Ea.out) | exact HB.out)⟩⟩

end Go.Proofs.YthfdfoigoomaoaaDoor.PDb
