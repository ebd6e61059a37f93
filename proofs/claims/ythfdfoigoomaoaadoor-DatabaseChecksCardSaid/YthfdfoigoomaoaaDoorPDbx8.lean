/- The walks of functions of the translation: each call returns what the plain function beside it says. -/
import Derived.Test.YthfdfoigoomaoaaDoorPDbx0
import Derived.Test.YthfdfoigoomaoaaDoorPDbx5
import Derived.Test.YthfdfoigoomaoaaDoorPDbx6
import Derived.Test.YthfdfoigoomaoaaDoorPDbx7
namespace Go.Proofs.YthfdfoigoomaoaaDoor.PDb
open Go.RowKit Go.Proofs.YthfdfoigoomaoaaDoorW.PrintWords Go.Proofs.YthfdfoigoomaoaaDoorW.PrintLast Go.Proofs.YthfdfoigoomaoaaDoorW.PrintMore Go.Proofs.YthfdfoigoomaoaaDoor.Aid
attribute [local go_sem] max2_int min2_int max_two min_two max_three min_three max_four min_four aid_str_gtr aid_str_leq   -- for this text's walks alone
set_option linter.unusedVariables false
set_option linter.unusedSimpArgs false

/-! ### kerbsuitedata_Database: function 9 -/
mutual
def kerbsuitedata_Database.l0 : Nat → List Int → Int → ByteArray → List (S35) → Option (ByteArray × (List (S35)))
 | 0, _, _, _, _ => none
 | k + 1, Pa, Va, Sa, Ga => (kerbsuitedata_Source_More.f Pa Va).bind fun td => (if td.1 = true then (kerbsuitedata_Database.j1 k (decide ((Ga.length : Int) < 60)) Pa td.2 Sa Ga) else (kerbsuitedata_Database.j1 k false Pa td.2 Sa Ga))
def kerbsuitedata_Database.j1 : Nat → Bool → List Int → Int → ByteArray → List (S35) → Option (ByteArray × (List (S35)))
 | 0, _, _, _, _, _ => none
 | k + 1, Ff, Pa, Va, Sa, Ga => if Ff = true then ((kerbsuitedata_Entry.f k Pa Va).bind fun Na => (kerbsuitedata_Database.l1 k 0 Pa Na.2.2.2.2.2.2.2.2.2 Sa Ga Na.1 Na.2.1 Na.2.2.1 Na.2.2.2.1 Na.2.2.2.2.1 Na.2.2.2.2.2.1 Na.2.2.2.2.2.2.1 Na.2.2.2.2.2.2.2.1 Na.2.2.2.2.2.2.2.2.1)) else (some (Sa, Ga))
def kerbsuitedata_Database.l1 : Nat → Int → List Int → Int → ByteArray → List (S35) → ByteArray → ByteArray → Int → Int → Int → Int → Int → Int → Int → Option (ByteArray × (List (S35)))
 | 0, _, _, _, _, _, _, _, _, _, _, _, _, _, _ => none
 | k + 1, x8, Pa, Va, Sa, Ga, cb, rb, Cb, Db, Eb, Fb, Gb, Hb, Ib => if x8 < (Ga.length : Int) then (if 0 ≤ x8 then (if (Op.bytesLess (((rd_T35 Ga x8).f0).toList) cb.toList) = true then (kerbsuitedata_Database.j3 k x8 true Pa Va Sa Ga cb rb Cb Db Eb Fb Gb Hb Ib) else (if ((rd_T35 Ga x8).f0).toList = cb.toList then (kerbsuitedata_Database.j3 k x8 (!(Op.bytesLess rb.toList (((rd_T35 Ga x8).f1).toList))) Pa Va Sa Ga cb rb Cb Db Eb Fb Gb Hb Ib) else (kerbsuitedata_Database.j3 k x8 false Pa Va Sa Ga cb rb Cb Db Eb Fb Gb Hb Ib))) else (none)) else (kerbsuitedata_Database.j3 k x8 false Pa Va Sa Ga cb rb Cb Db Eb Fb Gb Hb Ib)
def kerbsuitedata_Database.j3 : Nat → Int → Bool → List Int → Int → ByteArray → List (S35) → ByteArray → ByteArray → Int → Int → Int → Int → Int → Int → Int → Option (ByteArray × (List (S35)))
 | 0, _, _, _, _, _, _, _, _, _, _, _, _, _, _, _ => none
 | k + 1, x8, Gf, Pa, Va, Sa, Ga, cb, rb, Cb, Db, Eb, Fb, Gb, Hb, Ib => if Gf = true then (kerbsuitedata_Database.l1 k (wrap64 (x8 + 1)) Pa Va Sa Ga cb rb Cb Db Eb Fb Gb Hb Ib) else ((some (([] : List (S35)) : List (S35))).bind fun pb => (if 0 ≤ x8 then (if x8 ≤ (Ga.length : Int) then ((some (Ga.take (x8 : Int).toNat : List (S35))).bind fun Ia => (if pb.length + Ia.length < 1599289640401 then ((some (pb ++ Ia : List (S35))).bind fun Ta => ((some (([(⟨cb, rb, Cb, Db, Eb, Fb, Gb, Hb, Ib⟩ : S35)] : List (S35)) : List (S35))).bind fun Ja => (if Ta.length + Ja.length < 1599289640401 then ((some (Ta ++ Ja : List (S35))).bind fun Qa => ((some (Ga.drop (x8 : Int).toNat : List (S35))).bind fun Ca => (if Qa.length + Ca.length < 1599289640401 then (kerbsuitedata_Database.l0 k Pa Va Sa (Qa ++ Ca)) else (none)))) else (none)))) else (none))) else (none)) else (none)))
end
def kerbsuitedata_Database.f (k : Nat) (l0 : List Int) (a1 : Int) : Option (ByteArray × (List (S35))) := (kerbsuitedata_Realm.f a1).bind fun va => (kerbsuitedata_Database.l0 k l0 0 va ([] : List (S35)))
def kerbsuitedata_Database.T6 : Bool × List (List Nat × List Nat) := (true,[([], []), ([], []), ([1], [1]), ([2], [2]), ([0, 3], [0, 3]), ([4], [4]), ([5], [5]), ([6, 5], [5, 6]), ([5], [5]), ([7, 8, 5], [5, 7, 8]), ([9, 5], [5, 9]), ([10, 5], [5, 10]), ([5], [5]), ([12, 5], [5, 12]), ([11, 13, 5], [5, 11, 13]), ([14, 5, 5], [5, 14]), ([15], [15]), ([16, 15], [15, 16]), ([15], [15]), ([17, 18, 15], [15, 17, 18]), ([19, 15], [15, 19]), ([20, 15], [15, 20]), ([15], [15]), ([22, 15], [15, 22]), ([21, 23, 15], [15, 21, 23]), ([24, 15, 15], [15, 24]), ([25], [25]), ([26, 25], [25, 26]), ([25], [25]), ([27, 28, 25], [25, 27, 28]), ([29, 25], [25, 29]), ([30, 25], [25, 30]), ([25], [25]), ([32, 25], [25, 32]), ([31, 33, 25], [25, 31, 33]), ([25, 34, 15], [15, 25, 34]), ([15, 35, 5], [5, 15, 35]), ([5, 36], [5, 36])])
def kerbsuitedata_Database.B6 : List Nat := [0, 0, 2, 6, 15, 31, 63, 127, 63, 511, 1023, 2047, 63, 4159, 16383, 32767, 65535, 131071, 65535, 524287, 1048575, 2097151, 65535, 4259839, 16777215, 33554431, 67108863, 134217727, 67108863, 536870911, 1073741823, 2147483647, 67108863, 4362076159, 17179869183, 34359738367, 68719476735, 137438953471]
theorem kerbsuitedata_Database.tab6 : rtab .any (opsOf Tryd.f9 6) = kerbsuitedata_Database.T6 := by kernel_rfl
theorem kerbsuitedata_Database.bits6 : waitsOk kerbsuitedata_Database.T6.2 kerbsuitedata_Database.B6 = true := by kernel_rfl
def kerbsuitedata_Database.T8 : Bool × List (List Nat × List Nat) := (true,[([], []), ([], []), ([1], [1]), ([], []), ([2, 3], [2, 3]), ([0, 4], [0, 4]), ([], []), ([6], [6]), ([5, 7, 5], [5, 7]), ([], []), ([9], [9]), ([], []), ([10, 11], [10, 11]), ([8, 12, 8], [8, 12]), ([0, 1, 2, 3, 4, 5, 6, 7, 8, 9, 10, 11, 12, 13], []), ([14, 13, 13, 0, 1, 2, 3, 4, 5, 6, 7, 8, 9, 10, 11, 12, 13], [13, 14])])
def kerbsuitedata_Database.B8 : List Nat := [0, 0, 2, 0, 14, 31, 0, 64, 255, 0, 512, 0, 3584, 8191, 16383, 32767]
theorem kerbsuitedata_Database.tab8 : rtab .any (opsOf Tryd.f9 8) = kerbsuitedata_Database.T8 := by kernel_rfl
theorem kerbsuitedata_Database.bits8 : waitsOk kerbsuitedata_Database.T8.2 kerbsuitedata_Database.B8 = true := by kernel_rfl
set_option maxHeartbeats 8000000 in
set_option maxRecDepth 100000 in
theorem kerbsuitedata_Database.calls (k : Nat) (A0 : Option Addr) (c0 : Nat) (l0 : List Int) (a1 : Int) (r1 : ByteArray) (r2 : List (S35)) (w : World) (hr0 : Kd.C (Kd.int .u8) w A0 l0.length l0) (hc0 : l0.length ≤ c0) (h : kerbsuitedata_Database.f k l0 a1 = some (r1, r2)) :
  Calls Tryd.prog 9 #[.slice A0 l0.length c0, .int .i64 a1] w fun e w' => ∃ Le : Value, e = .returned (.agg #[.string r1, Le]) ∧ Kd.R k35 35 w' w.heap.size (fun _ => True) Le r2 ∧ Below w.heap.size w w' := by
 have hu24 := Tryd.underlying24
 have hu52 := Tryd.underlying52
 have hu35 := Tryd.underlying35
 have Hf := aM_ hr0
 have Lg := aM_ hc0
 clear hr0 hc0
 have HB := aM_ (Below.refl w.heap.size w)
 have H : ((kerbsuitedata_Realm.f a1).bind fun va => (kerbsuitedata_Database.l0 k l0 0 va ([] : List (S35)))) = some (r1, r2) := h
 clear h
 replace H := Option.bind_eq_some_iff.mp H
 obtain ⟨va, Me, H⟩ := H
 try dsimp only at H
 have A3 := aM_ Me
 clear Me
 have H' := aM_ H
 clear H
 go_enter Tryd.func9, Tryd.ntmps9
 go_wp2_with (first | ((with_reducible refine gate_dst (N := 4) rfl ?_); (try (refine gate_guard (by rfl) ?_; dsimp only)); refine box_event ?hg (N := 4) ?hd (cs := #[.string (⟨#[]⟩ : ByteArray), .slice none 0 0]) (t := 24) ?hr ?_; (case hd => rfl); (case hg => rfl); (case hr => first | (go_simp; done) | (go_simp; rfl)); intro za hg w4 hbox hb; have ia := aM_ (hbox); have Rf := aM_ ((by rw [hg]; exact (below_size (bk_ HB.out)) : w.heap.size ≤ za)); have xa := aM_ ((by rw [hg]; exact (below_size (bk_ HB.out)) : w.heap.size ≤ za)); replace HB := aM_ (below_step (bk_ HB.out) hb); clear hb hbox hg) | ((with_reducible refine gate_dst (N := 11) rfl ?_); (try (refine gate_guard (by rfl) ?_; dsimp only)); refine box_event ?hg (N := 11) ?hd (cs := #[.slice A0 l0.length c0, .int .i64 0]) (t := 52) ?hr ?_; (case hd => rfl); (case hg => rfl); (case hr => first | (go_simp; done) | (go_simp; rfl)); intro Ha hg w5 hbox hb; have Sf := aM_ ((by rw [hg]; exact (below_size hB_) : w.heap.size ≤ Ha)); have Tf := aM_ ((by rw [hg]; exact (below_size hB_) : w.heap.size ≤ Ha)); have pc := aM_ ((by rw [hg]; exact Nat.ne_of_lt (blk_lt (g := za) (o := .cells #[.string (⟨#[]⟩ : ByteArray), .slice none 0 0] 24 (0, 0)) (bk_ ia.out)) : za ≠ Ha)); have ja := aM_ ((by rw [hg]; exact Nat.ne_of_gt (blk_lt (g := za) (o := .cells #[.string (⟨#[]⟩ : ByteArray), .slice none 0 0] 24 (0, 0)) (bk_ ia.out)) : Ha ≠ za)); replace ia := aM_ (blk_below (g := za) (o := .cells #[.string (⟨#[]⟩ : ByteArray), .slice none 0 0] 24 (0, 0)) (bk_ ia.out) hb); have ea := aM_ ((⟨_, _, hbox, (by rw [hg]; exact (below_size hB_)), Hf.out⟩ : IsS52 w _ Ha l0 0)); replace HB := aM_ (below_step hB_ hb); clear hb hbox hg) | ((with_reducible refine gate_callee (f := 33) rfl ?_); refine goesL_ (some 13) rfl rfl Tryd.func33 (by kernel_rfl) rfl #[.int .i64 a1] rfl aR_ ?_; (with_reducible refine (kerbsuitedata_Realm.calls a1 va _ A3.out).mono ?_); rintro e w6 ⟨rfl, hb⟩; refine ⟨_, rfl, ?_⟩; replace ia := aM_ (blk_below (g := za) (o := .cells #[.string (⟨#[]⟩ : ByteArray), .slice none 0 0] 24 (0, 0)) (bk_ ia.out) hb); replace HB := aM_ (below_step (by repeat (first | (with_reducible first | exact HB.out | apply bA_ | apply bN_ | apply bD_ | refine bS_ ?_ (IsS52.ge ea.out) | refine bS_ ?_ xa.out) | exact HB.out)) hb); replace ea := aM_ (IsS52.below (by repeat (first | (with_reducible first | exact ea.out | apply IsS52.alloc | apply IsS52.drewN | apply IsS52.drew | apply IsS52.set_1 | refine IsS52.far ?_ ja.out _) | exact ea.out)) hb); clear hb) | ((with_reducible refine gate_dst (N := 6) rfl ?_); (try (refine gate_guard (by rfl) ?_; dsimp only)); refine box_event ?hg (N := 6) ?hd (cs := #[.string (⟨#[]⟩ : ByteArray), .slice none 0 0]) (t := 24) ?hr ?_; (case hd => rfl); (case hg => rfl); (case hr => first | (go_simp; done) | (go_simp; rfl)); intro ta hg w7 hbox hb; have ga := aM_ (hbox); have Uf := aM_ ((by rw [hg]; exact (below_size (by repeat (first | (with_reducible first | exact HB.out | apply bA_ | apply bN_ | apply bD_ | refine bS_ ?_ (IsS52.ge ea.out) | refine bS_ ?_ xa.out) | exact HB.out))) : w.heap.size ≤ ta)); have Aa := aM_ ((by rw [hg]; exact (below_size (by repeat (first | (with_reducible first | exact HB.out | apply bA_ | apply bN_ | apply bD_ | refine bS_ ?_ (IsS52.ge ea.out) | refine bS_ ?_ xa.out) | exact HB.out))) : w.heap.size ≤ ta)); replace HB := aM_ (below_step (by repeat (first | (with_reducible first | exact HB.out | apply bA_ | apply bN_ | apply bD_ | refine bS_ ?_ (IsS52.ge ea.out) | refine bS_ ?_ xa.out) | exact HB.out)) hb); have Za := aM_ ((by rw [hg]; exact Nat.ne_of_lt (blk_lt (g := za) (o := .cells #[.string (⟨#[]⟩ : ByteArray), .slice none 0 0] 24 (0, 0)) (bk_ ia.out)) : za ≠ ta)); have qc := aM_ ((by rw [hg]; exact Nat.ne_of_gt (blk_lt (g := za) (o := .cells #[.string (⟨#[]⟩ : ByteArray), .slice none 0 0] 24 (0, 0)) (bk_ ia.out)) : ta ≠ za)); replace ia := aM_ (blk_below (g := za) (o := .cells #[.string (⟨#[]⟩ : ByteArray), .slice none 0 0] 24 (0, 0)) (bk_ ia.out) hb); have la := aM_ ((by rw [hg]; exact Nat.ne_of_lt (IsS52.lt (show IsS52 w _ Ha l0 0 from by repeat (first | (with_reducible first | exact ea.out | apply IsS52.alloc | apply IsS52.drewN | apply IsS52.drew | apply IsS52.set_1 | refine IsS52.far ?_ ja.out _) | exact ea.out))) : Ha ≠ ta)); have sb := aM_ ((by rw [hg]; exact Nat.ne_of_gt (IsS52.lt (show IsS52 w _ Ha l0 0 from by repeat (first | (with_reducible first | exact ea.out | apply IsS52.alloc | apply IsS52.drewN | apply IsS52.drew | apply IsS52.set_1 | refine IsS52.far ?_ ja.out _) | exact ea.out))) : ta ≠ Ha)); replace ea := aM_ (IsS52.below (by repeat (first | (with_reducible first | exact ea.out | apply IsS52.alloc | apply IsS52.drewN | apply IsS52.drew | apply IsS52.set_1 | refine IsS52.far ?_ ja.out _) | exact ea.out)) hb); clear hb hbox hg; have xg := qc.out; have yg := Za.out; have zg := sb.out; have Ag := la.out; have Rc := bc_ ga.out 0; have Sc := bc_ ga.out 1; have Tc := blk_frozen ga.out 0; have Uc := blk_frozen ga.out 1))
 go_loopg [] k (fun kq w' => ∃ (ab : Int) (aa : List (S35)) (Ma : Value), Aside0 (kerbsuitedata_Database.l0 kq l0 ab va aa = some (r1, r2)) ∧ Aside0 (kq ≤ k) ∧ Aside0 (Kd.R k35 35 w' w.heap.size (fun _ => True) Ma aa) ∧ Aside0 (w'.heap[za]? = some (.cells #[.string (⟨#[]⟩ : ByteArray), (.slice none 0 0)] 24 (0, 0))) ∧ Aside0 (w'.heap[ta]? = some (.cells #[.string va, Ma] 24 (0, 0))) ∧ Aside0 (IsS52 w w' Ha l0 ab) ∧ Aside0 (Below w.heap.size w w'))
 case atStart => exact ⟨(0), (([] : List (S35))), (.slice none 0 0), H', ⟨Nat.le_refl _⟩, ⟨by first | exact Kd.R_nil _ _ _ _ _ | exact Kd.N_nil _ _ _ _ _ | exact Kd.V_nil _ _ _ _ _ | exact Kd.Q_nil _ _ _ _ _ | exact Kd.S_nil _ _ _ _ _⟩, ⟨by refine bk_ ?_; refine blk_far ?_ Za.out _; refine bk_ ?_; refine blk_far ?_ Za.out _; refine bk_ ?_; exact ia.out⟩, ⟨by refine bk_ ?_; refine blk_put (cs := #[.string va, .slice none 0 0]) ?_ 1 _ rfl; refine bk_ ?_; refine blk_put (cs := #[.string (⟨#[]⟩ : ByteArray), .slice none 0 0]) ?_ 0 _ rfl; refine bk_ ?_; exact ga.out⟩, ⟨by repeat (first | (with_reducible first | exact ea.out | apply IsS52.alloc | apply IsS52.drewN | apply IsS52.drew | apply IsS52.set_1 | refine IsS52.far ?_ ja.out _ | refine IsS52.far ?_ la.out _) | exact ea.out)⟩, ⟨by repeat (first | (with_reducible first | exact HB.out | apply bA_ | apply bN_ | apply bD_ | refine bS_ ?_ (IsS52.ge ea.out) | refine bS_ ?_ xa.out | refine bS_ ?_ Aa.out) | exact HB.out)⟩⟩
 case round =>
  clear H'
  try clear p2
  try clear c3
  try clear c8
  try clear c9
  try clear Rc
  try clear Sc
  try clear Tc
  try clear Uc
  obtain ⟨ab, aa, Ma, HA, Dc, da, ia, ga, ea, HB⟩ := hrel
  cases gk with
  | zero => exact absurd HA.out (by simp [kerbsuitedata_Database.l0])
  | succ k1 =>
   have H := HA.out
   clear HA
   simp only [kerbsuitedata_Database.l0] at H
   have Gd := aM_ H
   clear H
   go_upto_region 3 with (fail)
   go_cut [22] (fun Kf wc => ∃ (kq : Nat) (Gc : Bool) (db : Int), Kf = .bool Gc ∧ Aside0 (kerbsuitedata_Database.j1 kq Gc l0 db va aa = some (r1, r2)) ∧ Aside0 (kq ≤ k1) ∧ Aside0 (Kd.R k35 35 wc w.heap.size (fun _ => True) Ma aa) ∧ Aside0 (wc.heap[za]? = some (.cells #[.string (⟨#[]⟩ : ByteArray), (.slice none 0 0)] 24 (0, 0))) ∧ Aside0 (wc.heap[ta]? = some (.cells #[.string va, Ma] 24 (0, 0))) ∧ Aside0 (IsS52 w wc Ha l0 db) ∧ Aside0 (Below w.heap.size w wc))
   case first =>
    have H := Gd.out
    clear Gd
    replace H := Option.bind_eq_some_iff.mp H
    obtain ⟨⟨kf, Vc⟩, qe, H⟩ := H
    try dsimp only at H
    have Ne := aM_ qe
    clear qe
    by_cases dd : kf = true
    ·subst dd
     have H1 : (kerbsuitedata_Database.j1 k1 (decide ((aa.length : Int) < 60)) l0 Vc va aa) = some (r1, r2) := by rw [if_pos rfl] at H; exact H
     clear H
     have H := H1
     clear H1
     have H' := aM_ H
     clear H
     go_wp2_with (first | ((with_reducible refine gate_callee (f := 34) rfl ?_); refine goesL_ (some 16) rfl rfl Tryd.func34 (by kernel_rfl) rfl #[.pointer (some ⟨Ha, 0, none⟩)] rfl aR_ ?_; (with_reducible refine (kerbsuitedata_Source_More.calls Ha l0 ab true Vc w _ ?side1 ?side2 Ne.out).mono ?_); (case side1 => repeat (first | (with_reducible first | exact ea.out | apply IsS52.alloc | apply IsS52.drewN | apply IsS52.drew | apply IsS52.set_1 | refine IsS52.far ?_ ja.out _ | refine IsS52.far ?_ la.out _) | exact ea.out)); (case side2 => repeat (first | (with_reducible first | exact HB.out | apply bA_ | apply bN_ | apply bD_ | refine bS_ ?_ (IsS52.ge ea.out) | refine bS_ ?_ xa.out | refine bS_ ?_ Aa.out) | exact HB.out)); rintro e Mg ⟨rfl, hi, hb, hk⟩; refine ⟨_, rfl, ?_⟩; replace da := aM_ (Kd.R_mono (Kd.R_keep (IsS52.apart (show IsS52 w _ Ha l0 ab from by repeat (first | (with_reducible first | exact ea.out | apply IsS52.alloc | apply IsS52.drewN | apply IsS52.drew | apply IsS52.set_1 | refine IsS52.far ?_ ja.out _ | refine IsS52.far ?_ la.out _) | exact ea.out)) (bk_ da.out) (by decide)) hk (fun _ h => h.2)) (fun _ h => h.1)); replace ia := aM_ (KeepBut.blk hk (g' := za) (o := .cells #[.string (⟨#[]⟩ : ByteArray), .slice none 0 0] 24 (0, 0)) (bk_ ia.out) pc.out (by simp)); replace ga := aM_ (KeepBut.blk hk (g' := ta) (o := .cells #[.string va, Ma] 24 (0, 0)) (bk_ ga.out) sb.out (by simp)); replace HB := aM_ (hb); replace ea := aM_ (hi); clear hb hk hi; have Vf := qc.out; have Wf := Za.out; have Xf := sb.out; have Yf := la.out; have ed := bc_ ga.out 0; have fd := bc_ ga.out 1; have gd := blk_frozen ga.out 0; have id := blk_frozen ga.out 1; obtain ⟨Bg, Cg, lf⟩ := Kd.R_slice da.out; subst lf))
     go_meet
     case rel => exact ⟨_, (decide ((aa.length : Int) < 60)), (Vc), rS_, H', ⟨by have := Dc.out; first | omega | exact Nat.le_refl _⟩, ⟨by refine bk_ ?_; exact da.out⟩, ⟨by refine bk_ ?_; exact ia.out⟩, ⟨by refine bk_ ?_; exact ga.out⟩, ⟨by repeat (first | (with_reducible first | exact ea.out | apply IsS52.alloc | apply IsS52.drewN | apply IsS52.drew | apply IsS52.set_1 | refine IsS52.far ?_ ja.out _ | refine IsS52.far ?_ la.out _) | exact ea.out)⟩, ⟨by repeat (first | (with_reducible first | exact HB.out | apply bA_ | apply bN_ | apply bD_ | refine bS_ ?_ (IsS52.ge ea.out) | refine bS_ ?_ xa.out | refine bS_ ?_ Aa.out) | exact HB.out)⟩⟩
    replace dd := Bool.eq_false_iff.mpr dd
    subst dd
    have H1 : (kerbsuitedata_Database.j1 k1 false l0 Vc va aa) = some (r1, r2) := by rw [if_neg (show ¬ (false = true) by decide)] at H; exact H
    clear H
    have H := H1
    clear H1
    have H' := aM_ H
    clear H
    go_wp2_with (first | ((with_reducible refine gate_callee (f := 34) rfl ?_); refine goesL_ (some 16) rfl rfl Tryd.func34 (by kernel_rfl) rfl #[.pointer (some ⟨Ha, 0, none⟩)] rfl aR_ ?_; (with_reducible refine (kerbsuitedata_Source_More.calls Ha l0 ab false Vc w _ ?side1 ?side2 Ne.out).mono ?_); (case side1 => repeat (first | (with_reducible first | exact ea.out | apply IsS52.alloc | apply IsS52.drewN | apply IsS52.drew | apply IsS52.set_1 | refine IsS52.far ?_ ja.out _ | refine IsS52.far ?_ la.out _) | exact ea.out)); (case side2 => repeat (first | (with_reducible first | exact HB.out | apply bA_ | apply bN_ | apply bD_ | refine bS_ ?_ (IsS52.ge ea.out) | refine bS_ ?_ xa.out | refine bS_ ?_ Aa.out) | exact HB.out)); rintro e Ng ⟨rfl, hi, hb, hk⟩; refine ⟨_, rfl, ?_⟩; replace da := aM_ (Kd.R_mono (Kd.R_keep (IsS52.apart (show IsS52 w _ Ha l0 ab from by repeat (first | (with_reducible first | exact ea.out | apply IsS52.alloc | apply IsS52.drewN | apply IsS52.drew | apply IsS52.set_1 | refine IsS52.far ?_ ja.out _ | refine IsS52.far ?_ la.out _) | exact ea.out)) (bk_ da.out) (by decide)) hk (fun _ h => h.2)) (fun _ h => h.1)); replace ia := aM_ (KeepBut.blk hk (g' := za) (o := .cells #[.string (⟨#[]⟩ : ByteArray), .slice none 0 0] 24 (0, 0)) (bk_ ia.out) pc.out (by simp)); replace ga := aM_ (KeepBut.blk hk (g' := ta) (o := .cells #[.string va, Ma] 24 (0, 0)) (bk_ ga.out) sb.out (by simp)); replace HB := aM_ (hb); replace ea := aM_ (hi); clear hb hk hi))
    go_meet
    case rel => exact ⟨_, (false), (Vc), rS_, H', ⟨by have := Dc.out; first | omega | exact Nat.le_refl _⟩, ⟨by refine bk_ ?_; exact da.out⟩, ⟨by refine bk_ ?_; exact ia.out⟩, ⟨by refine bk_ ?_; exact ga.out⟩, ⟨by repeat (first | (with_reducible first | exact ea.out | apply IsS52.alloc | apply IsS52.drewN | apply IsS52.drew | apply IsS52.set_1 | refine IsS52.far ?_ ja.out _ | refine IsS52.far ?_ la.out _) | exact ea.out)⟩, ⟨by repeat (first | (with_reducible first | exact HB.out | apply bA_ | apply bN_ | apply bD_ | refine bS_ ?_ (IsS52.ge ea.out) | refine bS_ ?_ xa.out | refine bS_ ?_ Aa.out) | exact HB.out)⟩⟩
   case rest =>
    clear Gd
    try clear c1
    try clear p2
    try clear c3
    try clear c8
    try clear c9
    try clear dd
    try clear Lf
    try clear Mf
    try clear Rc
    try clear Sc
    try clear ed
    try clear fd
    try clear Tc
    try clear Uc
    try clear gd
    try clear id
    try clear p2
    obtain ⟨kq, Gc, db, rfl, HA, xc, da, ia, ga, ea, HB⟩ := hcut
    cases kq with
    | zero => exact absurd HA.out (by simp [kerbsuitedata_Database.j1])
    | succ ad =>
     have H := HA.out
     clear HA
     simp only [kerbsuitedata_Database.j1] at H
     by_cases yd : Gc = true
     ·subst yd
      have H1 : ((kerbsuitedata_Entry.f ad l0 db).bind fun Na => (kerbsuitedata_Database.l1 ad 0 l0 Na.2.2.2.2.2.2.2.2.2 va aa Na.1 Na.2.1 Na.2.2.1 Na.2.2.2.1 Na.2.2.2.2.1 Na.2.2.2.2.2.1 Na.2.2.2.2.2.2.1 Na.2.2.2.2.2.2.2.1 Na.2.2.2.2.2.2.2.2.1)) = some (r1, r2) := by rw [if_pos rfl] at H; exact H
      clear H
      have H := H1
      clear H1
      replace H := Option.bind_eq_some_iff.mp H
      obtain ⟨⟨na, oa, pa, qa, ra, sa, ua, wa, ya, Wa⟩, re, H⟩ := H
      try dsimp only at H
      have Nf := aM_ re
      clear re
      have H' := aM_ H
      clear H
      go_wp2_with (first | ((with_reducible refine gate_callee (f := 24) rfl ?_); refine goesL_ (some 24) rfl rfl Tryd.func24 (by kernel_rfl) rfl #[.pointer (some ⟨Ha, 0, none⟩)] rfl aR_ ?_; (with_reducible refine (kerbsuitedata_Entry.calls ad Ha l0 db na oa pa qa ra sa ua wa ya Wa w _ ?side1 ?side2 Nf.out).mono ?_); (case side1 => repeat (first | (with_reducible first | exact ea.out | apply IsS52.alloc | apply IsS52.drewN | apply IsS52.drew | apply IsS52.set_1 | refine IsS52.far ?_ ja.out _ | refine IsS52.far ?_ la.out _) | exact ea.out)); (case side2 => repeat (first | (with_reducible first | exact HB.out | apply bA_ | apply bN_ | apply bD_ | refine bS_ ?_ (IsS52.ge ea.out) | refine bS_ ?_ xa.out | refine bS_ ?_ Aa.out) | exact HB.out)); rintro e Og ⟨rfl, hi, hb, hk⟩; refine ⟨_, rfl, ?_⟩; replace da := aM_ (Kd.R_mono (Kd.R_keep (IsS52.apart (show IsS52 w _ Ha l0 db from by repeat (first | (with_reducible first | exact ea.out | apply IsS52.alloc | apply IsS52.drewN | apply IsS52.drew | apply IsS52.set_1 | refine IsS52.far ?_ ja.out _ | refine IsS52.far ?_ la.out _) | exact ea.out)) (bk_ da.out) (by decide)) hk (fun _ h => h.2)) (fun _ h => h.1)); replace ia := aM_ (KeepBut.blk hk (g' := za) (o := .cells #[.string (⟨#[]⟩ : ByteArray), .slice none 0 0] 24 (0, 0)) (bk_ ia.out) pc.out (by simp)); replace ga := aM_ (KeepBut.blk hk (g' := ta) (o := .cells #[.string va, Ma] 24 (0, 0)) (bk_ ga.out) sb.out (by simp)); replace HB := aM_ (hb); replace ea := aM_ (hi); clear hb hk hi) | ((with_reducible refine gate_dst (N := 7) rfl ?_); (try (refine gate_guard (by rfl) ?_; dsimp only)); refine box_event ?hg (N := 7) ?hd (cs := #[.string (⟨#[]⟩ : ByteArray), .string (⟨#[]⟩ : ByteArray), .int .u64 0, .int .i64 0, .int .i64 0, .int .i64 0, .int .i64 0, .int .i64 0, .int .i64 0]) (t := 35) ?hr ?_; (case hd => rfl); (case hg => rfl); (case hr => first | (go_simp; done) | (go_simp; rfl)); intro fa hg Pg hbox hb; replace da := aM_ (Kd.R_below (Kd.R_elderB (bk_ da.out) fa (Nat.le_of_eq hg.symm)) hb); have ba := aM_ (hbox); have Zf := aM_ ((by rw [hg]; exact (below_size (by repeat (first | (with_reducible first | exact HB.out | apply bA_ | apply bN_ | apply bD_ | refine bS_ ?_ (IsS52.ge ea.out) | refine bS_ ?_ xa.out | refine bS_ ?_ Aa.out) | exact HB.out))) : w.heap.size ≤ fa)); have Fa := aM_ ((by rw [hg]; exact (below_size (by repeat (first | (with_reducible first | exact HB.out | apply bA_ | apply bN_ | apply bD_ | refine bS_ ?_ (IsS52.ge ea.out) | refine bS_ ?_ xa.out | refine bS_ ?_ Aa.out) | exact HB.out))) : w.heap.size ≤ fa)); replace HB := aM_ (below_step (by repeat (first | (with_reducible first | exact HB.out | apply bA_ | apply bN_ | apply bD_ | refine bS_ ?_ (IsS52.ge ea.out) | refine bS_ ?_ xa.out | refine bS_ ?_ Aa.out) | exact HB.out)) hb); have Ra := aM_ ((by rw [hg]; exact Nat.ne_of_lt (blk_lt (g := za) (o := .cells #[.string (⟨#[]⟩ : ByteArray), .slice none 0 0] 24 (0, 0)) (bk_ ia.out)) : za ≠ fa)); have zd := aM_ ((by rw [hg]; exact Nat.ne_of_gt (blk_lt (g := za) (o := .cells #[.string (⟨#[]⟩ : ByteArray), .slice none 0 0] 24 (0, 0)) (bk_ ia.out)) : fa ≠ za)); replace ia := aM_ (blk_below (g := za) (o := .cells #[.string (⟨#[]⟩ : ByteArray), .slice none 0 0] 24 (0, 0)) (bk_ ia.out) hb); have Oa := aM_ ((by rw [hg]; exact Nat.ne_of_lt (blk_lt (g := ta) (o := .cells #[.string va, Ma] 24 (0, 0)) (bk_ ga.out)) : ta ≠ fa)); have Wc := aM_ ((by rw [hg]; exact Nat.ne_of_gt (blk_lt (g := ta) (o := .cells #[.string va, Ma] 24 (0, 0)) (bk_ ga.out)) : fa ≠ ta)); replace ga := aM_ (blk_below (g := ta) (o := .cells #[.string va, Ma] 24 (0, 0)) (bk_ ga.out) hb); have Ba := aM_ ((by rw [hg]; exact Nat.ne_of_lt (IsS52.lt (show IsS52 w _ Ha l0 Wa from by repeat (first | (with_reducible first | exact ea.out | apply IsS52.alloc | apply IsS52.drewN | apply IsS52.drew | apply IsS52.set_1 | refine IsS52.far ?_ ja.out _ | refine IsS52.far ?_ la.out _) | exact ea.out))) : Ha ≠ fa)); have Ad := aM_ ((by rw [hg]; exact Nat.ne_of_gt (IsS52.lt (show IsS52 w _ Ha l0 Wa from by repeat (first | (with_reducible first | exact ea.out | apply IsS52.alloc | apply IsS52.drewN | apply IsS52.drew | apply IsS52.set_1 | refine IsS52.far ?_ ja.out _ | refine IsS52.far ?_ la.out _) | exact ea.out))) : fa ≠ Ha)); replace ea := aM_ (IsS52.below (by repeat (first | (with_reducible first | exact ea.out | apply IsS52.alloc | apply IsS52.drewN | apply IsS52.drew | apply IsS52.set_1 | refine IsS52.far ?_ ja.out _ | refine IsS52.far ?_ la.out _) | exact ea.out)) hb); clear hb hbox hg; have ag := zd.out; have bg := Ra.out; have cg := Wc.out; have dg := Oa.out; have eg := Ad.out; have fg := Ba.out; have Wd := bc_ ba.out 0; have Xd := bc_ ba.out 1; have Yd := bc_ ba.out 2; have Zd := bc_ ba.out 3; have ae := bc_ ba.out 4; have be := bc_ ba.out 5; have ce := bc_ ba.out 6; have de := bc_ ba.out 7; have ee := bc_ ba.out 8; have fe := blk_frozen ba.out 0; have he := blk_frozen ba.out 1; have ie := blk_frozen ba.out 2; have je := blk_frozen ba.out 3; have ke := blk_frozen ba.out 4; have le := blk_frozen ba.out 5; have me := blk_frozen ba.out 6; have ne := blk_frozen ba.out 7; have oe := blk_frozen ba.out 8))
      go_loopg [8] ad (fun kq v8 w' => ∃ (ca : Int), v8 = .int .i64 ca ∧ Aside0 (kerbsuitedata_Database.l1 kq ca l0 Wa va aa na oa pa qa ra sa ua wa ya = some (r1, r2)) ∧ Aside0 (kq ≤ ad) ∧ Aside0 (Kd.R k35 35 w' w.heap.size (fun k_ => k_ ≠ fa) Ma aa) ∧ Aside0 (w'.heap[za]? = some (.cells #[.string (⟨#[]⟩ : ByteArray), (.slice none 0 0)] 24 (0, 0))) ∧ Aside0 (w'.heap[ta]? = some (.cells #[.string va, Ma] 24 (0, 0))) ∧ Aside0 (w'.heap[fa]? = some (.cells #[.string na, .string oa, .int .u64 pa, .int .i64 qa, .int .i64 ra, .int .i64 sa, .int .i64 ua, .int .i64 wa, .int .i64 ya] 35 (0, 0))) ∧ Aside0 (IsS52 w w' Ha l0 Wa) ∧ Aside0 (Below w.heap.size w w'))
      case atStart => exact ⟨(0), rS_, H', ⟨Nat.le_refl _⟩, ⟨by refine bk_ ?_; exact Kd.R_mono (Kd.R_far (p := ⟨fa, 8, none⟩) (Kd.R_far (p := ⟨fa, 7, none⟩) (Kd.R_far (p := ⟨fa, 6, none⟩) (Kd.R_far (p := ⟨fa, 5, none⟩) (Kd.R_far (p := ⟨fa, 4, none⟩) (Kd.R_far (p := ⟨fa, 3, none⟩) (Kd.R_far (p := ⟨fa, 2, none⟩) (Kd.R_far (p := ⟨fa, 1, none⟩) (Kd.R_far (p := ⟨fa, 0, none⟩) (Kd.R_mono da.out (fun k_ hk => (⟨hk, hk.2⟩ : _ ∧ k_ ≠ fa))) (fun _ hk => hk.2) (.string na)) (fun _ hk => hk.2) (.string oa)) (fun _ hk => hk.2) (.int .u64 pa)) (fun _ hk => hk.2) (.int .i64 qa)) (fun _ hk => hk.2) (.int .i64 ra)) (fun _ hk => hk.2) (.int .i64 sa)) (fun _ hk => hk.2) (.int .i64 ua)) (fun _ hk => hk.2) (.int .i64 wa)) (fun _ hk => hk.2) (.int .i64 ya)) (fun _ hk => hk.1.2)⟩, ⟨by refine bk_ ?_; refine blk_far ?_ Ra.out _; refine bk_ ?_; refine blk_far ?_ Ra.out _; refine bk_ ?_; refine blk_far ?_ Ra.out _; refine bk_ ?_; refine blk_far ?_ Ra.out _; refine bk_ ?_; refine blk_far ?_ Ra.out _; refine bk_ ?_; refine blk_far ?_ Ra.out _; refine bk_ ?_; refine blk_far ?_ Ra.out _; refine bk_ ?_; refine blk_far ?_ Ra.out _; refine bk_ ?_; refine blk_far ?_ Ra.out _; refine bk_ ?_; exact ia.out⟩, ⟨by refine bk_ ?_; refine blk_far ?_ Oa.out _; refine bk_ ?_; refine blk_far ?_ Oa.out _; refine bk_ ?_; refine blk_far ?_ Oa.out _; refine bk_ ?_; refine blk_far ?_ Oa.out _; refine bk_ ?_; refine blk_far ?_ Oa.out _; refine bk_ ?_; refine blk_far ?_ Oa.out _; refine bk_ ?_; refine blk_far ?_ Oa.out _; refine bk_ ?_; refine blk_far ?_ Oa.out _; refine bk_ ?_; refine blk_far ?_ Oa.out _; refine bk_ ?_; exact ga.out⟩, ⟨by refine bk_ ?_; refine blk_put (cs := #[.string na, .string oa, .int .u64 pa, .int .i64 qa, .int .i64 ra, .int .i64 sa, .int .i64 ua, .int .i64 wa, .int .i64 0]) ?_ 8 _ rfl; refine bk_ ?_; refine blk_put (cs := #[.string na, .string oa, .int .u64 pa, .int .i64 qa, .int .i64 ra, .int .i64 sa, .int .i64 ua, .int .i64 0, .int .i64 0]) ?_ 7 _ rfl; refine bk_ ?_; refine blk_put (cs := #[.string na, .string oa, .int .u64 pa, .int .i64 qa, .int .i64 ra, .int .i64 sa, .int .i64 0, .int .i64 0, .int .i64 0]) ?_ 6 _ rfl; refine bk_ ?_; refine blk_put (cs := #[.string na, .string oa, .int .u64 pa, .int .i64 qa, .int .i64 ra, .int .i64 0, .int .i64 0, .int .i64 0, .int .i64 0]) ?_ 5 _ rfl; refine bk_ ?_; refine blk_put (cs := #[.string na, .string oa, .int .u64 pa, .int .i64 qa, .int .i64 0, .int .i64 0, .int .i64 0, .int .i64 0, .int .i64 0]) ?_ 4 _ rfl; refine bk_ ?_; refine blk_put (cs := #[.string na, .string oa, .int .u64 pa, .int .i64 0, .int .i64 0, .int .i64 0, .int .i64 0, .int .i64 0, .int .i64 0]) ?_ 3 _ rfl; refine bk_ ?_; refine blk_put (cs := #[.string na, .string oa, .int .u64 0, .int .i64 0, .int .i64 0, .int .i64 0, .int .i64 0, .int .i64 0, .int .i64 0]) ?_ 2 _ rfl; refine bk_ ?_; refine blk_put (cs := #[.string na, .string (⟨#[]⟩ : ByteArray), .int .u64 0, .int .i64 0, .int .i64 0, .int .i64 0, .int .i64 0, .int .i64 0, .int .i64 0]) ?_ 1 _ rfl; refine bk_ ?_; refine blk_put (cs := #[.string (⟨#[]⟩ : ByteArray), .string (⟨#[]⟩ : ByteArray), .int .u64 0, .int .i64 0, .int .i64 0, .int .i64 0, .int .i64 0, .int .i64 0, .int .i64 0]) ?_ 0 _ rfl; refine bk_ ?_; exact ba.out⟩, ⟨by repeat (first | (with_reducible first | exact ea.out | apply IsS52.alloc | apply IsS52.drewN | apply IsS52.drew | apply IsS52.set_1 | refine IsS52.far ?_ ja.out _ | refine IsS52.far ?_ la.out _ | refine IsS52.far ?_ Ba.out _) | exact ea.out)⟩, ⟨by repeat (first | (with_reducible first | exact HB.out | apply bA_ | apply bN_ | apply bD_ | refine bS_ ?_ (IsS52.ge ea.out) | refine bS_ ?_ xa.out | refine bS_ ?_ Aa.out | refine bS_ ?_ Fa.out) | exact HB.out)⟩⟩
      case round =>
       clear H'
       try clear c1
       try clear c2
       try clear p2
       try clear c3
       try clear c8
       try clear c9
       try clear dd
       try clear Lf
       try clear Mf
       try clear yd
       try clear Qg
       try clear Rg
       try clear Sg
       try clear Rc
       try clear Sc
       try clear ed
       try clear fd
       try clear Wd
       try clear Xd
       try clear Yd
       try clear Zd
       try clear ae
       try clear be
       try clear ce
       try clear de
       try clear ee
       try clear Tc
       try clear Uc
       try clear gd
       try clear id
       try clear fe
       try clear he
       try clear ie
       try clear je
       try clear ke
       try clear le
       try clear me
       try clear ne
       try clear oe
       try clear p2
       obtain ⟨ca, rfl, HA, Xc, da, ia, ga, ba, ea, HB⟩ := hrel
       cases gk with
       | zero => exact absurd HA.out (by simp [kerbsuitedata_Database.l1])
       | succ k3 =>
        have H := HA.out
        clear HA
        simp only [kerbsuitedata_Database.l1] at H
        have Hd := aM_ H
        clear H
        go_upto_region 6 with (fail)
        go_cut [62] (fun Of wc => ∃ (kq : Nat) (Hc : Bool), Of = .bool Hc ∧ Aside0 (kerbsuitedata_Database.j3 kq ca Hc l0 Wa va aa na oa pa qa ra sa ua wa ya = some (r1, r2)) ∧ Aside0 (kq ≤ k3) ∧ Aside0 (Kd.R k35 35 wc w.heap.size (fun k_ => k_ ≠ fa) Ma aa) ∧ Aside0 (wc.heap[za]? = some (.cells #[.string (⟨#[]⟩ : ByteArray), (.slice none 0 0)] 24 (0, 0))) ∧ Aside0 (wc.heap[ta]? = some (.cells #[.string va, Ma] 24 (0, 0))) ∧ Aside0 (wc.heap[fa]? = some (.cells #[.string na, .string oa, .int .u64 pa, .int .i64 qa, .int .i64 ra, .int .i64 sa, .int .i64 ua, .int .i64 wa, .int .i64 ya] 35 (0, 0))) ∧ Aside0 (IsS52 w wc Ha l0 Wa) ∧ Aside0 (Below w.heap.size w wc))
        case first =>
         have H := Hd.out
         clear Hd
         by_cases bd : ca < (aa.length : Int)
         ·rw [if_pos bd] at H
          have Bc : decide (ca < (aa.length : Int)) = true := decide_eq_true bd
          clear bd
          (first | rw [Bc] | (simp only [i64_w, i32_w]; rw [Bc]) | skip)
          by_cases Bd : 0 ≤ ca
          ·rw [if_pos Bd] at H
           have gg : decide (0 ≤ ca) = true := decide_eq_true Bd
           clear Bd
           by_cases jd : (Op.bytesLess (((rd_T35 aa ca).f0).toList) na.toList) = true
           ·rw [if_pos jd] at H
            have Ge : (Op.bytesLess (((rd_T35 aa ca).f0).toList) na.toList) = true := jd
            clear jd
            have H' := aM_ H
            clear H
            try go_upto_region 6 with fail
            replace da := aM_ (Kd.R_drew da.out)
            replace ia := aM_ (blk_drew ia.out)
            replace ga := aM_ (blk_drew ga.out)
            replace ba := aM_ (blk_drew ba.out)
            replace ea := aM_ (IsS52.drew ea.out)
            replace HB := aM_ (bD_ HB.out)
            obtain ⟨Fg, nf, se⟩ := Kd.R_slice da.out
            (first | subst se | (injection se with f1_ f2_ f3_; have f4_ := f1_.symm; have f5_ := f3_.symm; clear f1_ f2_ f3_; subst f4_; subst f5_))
            have Kb : 0 ≤ (ca : Int) := dT_
            have Lb : ca < (aa.length : Int) := dT_
            obtain ⟨ha, cd, eb, fb, gb, ib, jb, kb, lb, mb, nb⟩ := at_T35 (Kd.R_reads' da.out).2.2 ca Kb Lb
            cases cd
            replace Kb := eq_true Kb
            replace Lb := eq_true Lb
            refine start_ (n := 38) (S := fun w' => w'.cell? ⟨ta, 0, none⟩ = some (.string va) ∧ w'.cell? ⟨ta, 1, none⟩ = some (.slice (some ha) aa.length nf) ∧ w'.cell? ⟨fa, 0, none⟩ = some (.string na) ∧ w'.cell? ⟨fa, 1, none⟩ = some (.string oa) ∧ w'.cell? ⟨fa, 2, none⟩ = some (.int .u64 pa) ∧ w'.cell? ⟨fa, 3, none⟩ = some (.int .i64 qa) ∧ w'.cell? ⟨fa, 4, none⟩ = some (.int .i64 ra) ∧ w'.cell? ⟨fa, 5, none⟩ = some (.int .i64 sa) ∧ w'.cell? ⟨fa, 6, none⟩ = some (.int .i64 ua) ∧ w'.cell? ⟨fa, 7, none⟩ = some (.int .i64 wa) ∧ w'.cell? ⟨fa, 8, none⟩ = some (.int .i64 ya) ∧ w'.cell? (ha.add ((ca).toNat * 9)) = some (.string ((rd_T35 aa ca).f0)) ∧ w'.cell? ⟨(ha.add ((ca).toNat * 9)).block, (ha.add ((ca).toNat * 9)).off + 1, none⟩ = some (.string ((rd_T35 aa ca).f1)) ∧ w'.cell? ⟨(ha.add ((ca).toNat * 9)).block, (ha.add ((ca).toNat * 9)).off + 2, none⟩ = some (.int .u64 ((rd_T35 aa ca).f2)) ∧ w'.cell? ⟨(ha.add ((ca).toNat * 9)).block, (ha.add ((ca).toNat * 9)).off + 3, none⟩ = some (.int .i64 ((rd_T35 aa ca).f3)) ∧ w'.cell? ⟨(ha.add ((ca).toNat * 9)).block, (ha.add ((ca).toNat * 9)).off + 4, none⟩ = some (.int .i64 ((rd_T35 aa ca).f4)) ∧ w'.cell? ⟨(ha.add ((ca).toNat * 9)).block, (ha.add ((ca).toNat * 9)).off + 5, none⟩ = some (.int .i64 ((rd_T35 aa ca).f5)) ∧ w'.cell? ⟨(ha.add ((ca).toNat * 9)).block, (ha.add ((ca).toNat * 9)).off + 6, none⟩ = some (.int .i64 ((rd_T35 aa ca).f6)) ∧ w'.cell? ⟨(ha.add ((ca).toNat * 9)).block, (ha.add ((ca).toNat * 9)).off + 7, none⟩ = some (.int .i64 ((rd_T35 aa ca).f7)) ∧ w'.cell? ⟨(ha.add ((ca).toNat * 9)).block, (ha.add ((ca).toNat * 9)).off + 8, none⟩ = some (.int .i64 ((rd_T35 aa ca).f8))) (ds := []) (bo_ 38 0) (by kernel_rfl) rfl rfl ⟨bc_ ga.out 0, bc_ ga.out 1, bc_ ba.out 0, bc_ ba.out 1, bc_ ba.out 2, bc_ ba.out 3, bc_ ba.out 4, bc_ ba.out 5, bc_ ba.out 6, bc_ ba.out 7, bc_ ba.out 8, eb, fb, gb, ib, jb, kb, lb, mb, nb⟩ (fun hHeld => ?_); refine with_tabW kerbsuitedata_Database.tab6 kerbsuitedata_Database.bits6 (fun HT_ HW_ => ?_)
            generalize wr.drew = Tg at da ia ga ba ea HB eb fb gb ib jb kb lb mb nb hHeld ⊢
            refine pU_ 0 (some 25) (bo_ 38 1) ?_
            refine pU_ 1 (some 26) (bo_ 38 3) ?_
            refine take_ (i := 2) (N := some 27) (v := ?_) (a' := ?_) (bo_ 38 7) rfl rfl (take_ofW HT_.out HW_.out (by kernel_rfl)) (fun _ _ _ h => h) (Or.inl ⟨by rfl, ?_⟩) hHeld ?_ ?_
            rotate_left; (· rintro w' ⟨s0, s1, s2, s3, s4, s5, s6, s7, s8, s9, bb, tb, ub, vb, wb, xb, yb, zb, Ab, Bb⟩; go_simp; with_reducible rfl)
            rotate_left; (· simp only [Act.put,sA_,sB_,sC_,i64_w,i32_w]; rfl)
            refine pU_ 3 (some 28) (bo_ 38 15) ?_
            refine pU_ 4 (some 29) (bo_ 38 31) ?_
            refine pU_ 5 (some 30) (bo_ 38 63) ?_
            refine pU_ 6 (some 31) (bo_ 38 127) ?_
            refine pU_ 8 (some 33) (bo_ 38 383) ?_
            refine pU_ 12 (some 37) (bo_ 38 4479) ?_
            refine take_ (i := 7) (N := some 32) (v := ?_) (a' := ?_) (bo_ 38 4607) rfl rfl (take_ofW HT_.out HW_.out (by kernel_rfl)) (fun _ _ _ h => h) (Or.inl ⟨by rfl, ?_⟩) hHeld ?_ ?_
            rotate_left; (· rintro w' ⟨s0, s1, s2, s3, s4, s5, s6, s7, s8, s9, bb, tb, ub, vb, wb, xb, yb, zb, Ab, Bb⟩; go_simp; with_reducible rfl)
            rotate_left; (· simp only [Act.put,sA_,sB_,sC_,i64_w,i32_w]; rfl)
            refine pU_ 9 (some 34) (bo_ 38 5119) ?_
            refine pU_ 10 (some 35) (bo_ 38 6143) ?_
            refine take_ (i := 11) (N := some 36) (v := ?_) (a' := ?_) (bo_ 38 8191) rfl rfl (take_ofW HT_.out HW_.out (by kernel_rfl)) (fun _ _ _ h => h) (Or.inl ⟨by rfl, ?_⟩) hHeld ?_ ?_
            rotate_left; (· rintro w' ⟨s0, s1, s2, s3, s4, s5, s6, s7, s8, s9, bb, tb, ub, vb, wb, xb, yb, zb, Ab, Bb⟩; go_simp; with_reducible rfl)
            rotate_left; (· simp only [Act.put,sA_,sB_,sC_,i64_w,i32_w]; rfl)
            refine take_ (i := 13) (N := some 38) (v := ?_) (a' := ?_) (bo_ 38 16383) rfl rfl (take_ofW HT_.out HW_.out (by kernel_rfl)) (fun _ _ _ h => h) (Or.inl ⟨by rfl, ?_⟩) hHeld ?_ ?_
            rotate_left; (· rintro w' ⟨s0, s1, s2, s3, s4, s5, s6, s7, s8, s9, bb, tb, ub, vb, wb, xb, yb, zb, Ab, Bb⟩; go_simp; with_reducible rfl)
            rotate_left; (· simp only [Act.put,sA_,sB_,sC_,i64_w,i32_w]; rfl)
            refine pU_ 14 (some 39) (bo_ 38 32767) ?_
            refine pU_ 15 (some 40) (bo_ 38 65535) ?_
            refine pV_ 16 (some 41) (bo_ 38 131071) ?_
            refine pV_ 17 (some 42) (bo_ 38 262143) ?_
            refine pV_ 18 (some 43) (bo_ 38 524287) ?_
            refine pV_ 19 (some 44) (bo_ 38 1048575) ?_
            refine pV_ 20 (some 45) (bo_ 38 2097151) ?_
            refine pV_ 21 (some 46) (bo_ 38 4194303) ?_
            refine pV_ 22 (some 47) (bo_ 38 8388607) ?_
            refine pV_ 23 (some 48) (bo_ 38 16777215) ?_
            refine pV_ 24 (some 49) (bo_ 38 33554431) ?_
            refine pV_ 25 (some 50) (bo_ 38 67108863) ?_
            refine pV_ 26 (some 51) (bo_ 38 134217727) ?_
            refine pV_ 27 (some 52) (bo_ 38 268435455) ?_
            refine pV_ 28 (some 53) (bo_ 38 536870911) ?_
            refine pV_ 29 (some 54) (bo_ 38 1073741823) ?_
            refine pV_ 30 (some 55) (bo_ 38 2147483647) ?_
            refine pV_ 31 (some 56) (bo_ 38 4294967295) ?_
            refine pV_ 32 (some 57) (bo_ 38 8589934591) ?_
            refine pV_ 33 (some 58) (bo_ 38 17179869183) ?_
            refine pV_ 34 (some 59) (bo_ 38 34359738367) ?_
            refine pV_ 35 (some 60) (bo_ 38 68719476735) ?_
            refine pU_ 36 (some 61) (bo_ 38 137438953471) ?_
            refine pU_ 37 (some 62) (bo_ 38 274877906943) ?_
            refine done_ (done_of HT_.out (by kernel_rfl)) ?_
            try go_wp2
            go_meet
            case rel => exact ⟨_, (true), rS_, H', ⟨by have := Dc.out; have := xc.out; have := Xc.out; first | omega | exact Nat.le_refl _⟩, ⟨by refine bk_ ?_; exact da.out⟩, ⟨by refine bk_ ?_; exact ia.out⟩, ⟨by refine bk_ ?_; exact ga.out⟩, ⟨by refine bk_ ?_; exact ba.out⟩, ⟨by repeat (first | (with_reducible first | exact ea.out | apply IsS52.alloc | apply IsS52.drewN | apply IsS52.drew | apply IsS52.set_1 | refine IsS52.far ?_ ja.out _ | refine IsS52.far ?_ la.out _ | refine IsS52.far ?_ Ba.out _) | exact ea.out)⟩, ⟨by repeat (first | (with_reducible first | exact HB.out | apply bA_ | apply bN_ | apply bD_ | refine bS_ ?_ (IsS52.ge ea.out) | refine bS_ ?_ xa.out | refine bS_ ?_ Aa.out | refine bS_ ?_ Fa.out) | exact HB.out)⟩⟩
           rw [if_neg jd] at H
           have Ge : (Op.bytesLess (((rd_T35 aa ca).f0).toList) na.toList) = false := by simpa using jd
           clear jd
           by_cases Yc : ((rd_T35 aa ca).f0).toList = na.toList
           ·rw [if_pos Yc] at H
            have Md : (((rd_T35 aa ca).f0).toList == na.toList) = true := beq_iff_eq.mpr Yc
            have Nd : (((rd_T35 aa ca).f0).toList != na.toList) = false := bne_eq_false_iff_eq.mpr Yc
            clear Yc
            have H' := aM_ H
            clear H
            try go_upto_region 6 with fail
            replace da := aM_ (Kd.R_drew da.out)
            replace ia := aM_ (blk_drew ia.out)
            replace ga := aM_ (blk_drew ga.out)
            replace ba := aM_ (blk_drew ba.out)
            replace ea := aM_ (IsS52.drew ea.out)
            replace HB := aM_ (bD_ HB.out)
            obtain ⟨Gg, pf, te⟩ := Kd.R_slice da.out
            (first | subst te | (injection te with f1_ f2_ f3_; have f4_ := f1_.symm; have f5_ := f3_.symm; clear f1_ f2_ f3_; subst f4_; subst f5_))
            have Kb : 0 ≤ (ca : Int) := dT_
            have Lb : ca < (aa.length : Int) := dT_
            obtain ⟨ha, cd, eb, fb, gb, ib, jb, kb, lb, mb, nb⟩ := at_T35 (Kd.R_reads' da.out).2.2 ca Kb Lb
            cases cd
            replace Kb := eq_true Kb
            replace Lb := eq_true Lb
            have yc : 0 ≤ (ca : Int) := dT_
            have zc : ca < (aa.length : Int) := dT_
            obtain ⟨ud, Id, Xb, Yb, Zb, ac, bc, cc, dc, ec, fc⟩ := at_T35 (Kd.R_reads' da.out).2.2 ca yc zc
            obtain rfl : ha = ud := (by injection Id)
            replace yc := eq_true yc
            replace zc := eq_true zc
            have Jd : 0 ≤ (ca : Int) := dT_
            have Ld : ca < (aa.length : Int) := dT_
            obtain ⟨He, qf, kd, ld, md, nd, od, pd, qd, rd, sd⟩ := at_T35 (Kd.R_reads' da.out).2.2 ca Jd Ld
            obtain rfl : ha = He := (by injection qf)
            replace Jd := eq_true Jd
            replace Ld := eq_true Ld
            refine start_ (n := 38) (S := fun w' => w'.cell? ⟨ta, 0, none⟩ = some (.string va) ∧ w'.cell? ⟨ta, 1, none⟩ = some (.slice (some ha) aa.length pf) ∧ w'.cell? ⟨fa, 0, none⟩ = some (.string na) ∧ w'.cell? ⟨fa, 1, none⟩ = some (.string oa) ∧ w'.cell? ⟨fa, 2, none⟩ = some (.int .u64 pa) ∧ w'.cell? ⟨fa, 3, none⟩ = some (.int .i64 qa) ∧ w'.cell? ⟨fa, 4, none⟩ = some (.int .i64 ra) ∧ w'.cell? ⟨fa, 5, none⟩ = some (.int .i64 sa) ∧ w'.cell? ⟨fa, 6, none⟩ = some (.int .i64 ua) ∧ w'.cell? ⟨fa, 7, none⟩ = some (.int .i64 wa) ∧ w'.cell? ⟨fa, 8, none⟩ = some (.int .i64 ya) ∧ w'.cell? (ha.add ((ca).toNat * 9)) = some (.string ((rd_T35 aa ca).f0)) ∧ w'.cell? ⟨(ha.add ((ca).toNat * 9)).block, (ha.add ((ca).toNat * 9)).off + 1, none⟩ = some (.string ((rd_T35 aa ca).f1)) ∧ w'.cell? ⟨(ha.add ((ca).toNat * 9)).block, (ha.add ((ca).toNat * 9)).off + 2, none⟩ = some (.int .u64 ((rd_T35 aa ca).f2)) ∧ w'.cell? ⟨(ha.add ((ca).toNat * 9)).block, (ha.add ((ca).toNat * 9)).off + 3, none⟩ = some (.int .i64 ((rd_T35 aa ca).f3)) ∧ w'.cell? ⟨(ha.add ((ca).toNat * 9)).block, (ha.add ((ca).toNat * 9)).off + 4, none⟩ = some (.int .i64 ((rd_T35 aa ca).f4)) ∧ w'.cell? ⟨(ha.add ((ca).toNat * 9)).block, (ha.add ((ca).toNat * 9)).off + 5, none⟩ = some (.int .i64 ((rd_T35 aa ca).f5)) ∧ w'.cell? ⟨(ha.add ((ca).toNat * 9)).block, (ha.add ((ca).toNat * 9)).off + 6, none⟩ = some (.int .i64 ((rd_T35 aa ca).f6)) ∧ w'.cell? ⟨(ha.add ((ca).toNat * 9)).block, (ha.add ((ca).toNat * 9)).off + 7, none⟩ = some (.int .i64 ((rd_T35 aa ca).f7)) ∧ w'.cell? ⟨(ha.add ((ca).toNat * 9)).block, (ha.add ((ca).toNat * 9)).off + 8, none⟩ = some (.int .i64 ((rd_T35 aa ca).f8)) ∧ w'.cell? (ha.add ((ca).toNat * 9)) = some (.string ((rd_T35 aa ca).f0)) ∧ w'.cell? ⟨(ha.add ((ca).toNat * 9)).block, (ha.add ((ca).toNat * 9)).off + 1, none⟩ = some (.string ((rd_T35 aa ca).f1)) ∧ w'.cell? ⟨(ha.add ((ca).toNat * 9)).block, (ha.add ((ca).toNat * 9)).off + 2, none⟩ = some (.int .u64 ((rd_T35 aa ca).f2)) ∧ w'.cell? ⟨(ha.add ((ca).toNat * 9)).block, (ha.add ((ca).toNat * 9)).off + 3, none⟩ = some (.int .i64 ((rd_T35 aa ca).f3)) ∧ w'.cell? ⟨(ha.add ((ca).toNat * 9)).block, (ha.add ((ca).toNat * 9)).off + 4, none⟩ = some (.int .i64 ((rd_T35 aa ca).f4)) ∧ w'.cell? ⟨(ha.add ((ca).toNat * 9)).block, (ha.add ((ca).toNat * 9)).off + 5, none⟩ = some (.int .i64 ((rd_T35 aa ca).f5)) ∧ w'.cell? ⟨(ha.add ((ca).toNat * 9)).block, (ha.add ((ca).toNat * 9)).off + 6, none⟩ = some (.int .i64 ((rd_T35 aa ca).f6)) ∧ w'.cell? ⟨(ha.add ((ca).toNat * 9)).block, (ha.add ((ca).toNat * 9)).off + 7, none⟩ = some (.int .i64 ((rd_T35 aa ca).f7)) ∧ w'.cell? ⟨(ha.add ((ca).toNat * 9)).block, (ha.add ((ca).toNat * 9)).off + 8, none⟩ = some (.int .i64 ((rd_T35 aa ca).f8)) ∧ w'.cell? (ha.add ((ca).toNat * 9)) = some (.string ((rd_T35 aa ca).f0)) ∧ w'.cell? ⟨(ha.add ((ca).toNat * 9)).block, (ha.add ((ca).toNat * 9)).off + 1, none⟩ = some (.string ((rd_T35 aa ca).f1)) ∧ w'.cell? ⟨(ha.add ((ca).toNat * 9)).block, (ha.add ((ca).toNat * 9)).off + 2, none⟩ = some (.int .u64 ((rd_T35 aa ca).f2)) ∧ w'.cell? ⟨(ha.add ((ca).toNat * 9)).block, (ha.add ((ca).toNat * 9)).off + 3, none⟩ = some (.int .i64 ((rd_T35 aa ca).f3)) ∧ w'.cell? ⟨(ha.add ((ca).toNat * 9)).block, (ha.add ((ca).toNat * 9)).off + 4, none⟩ = some (.int .i64 ((rd_T35 aa ca).f4)) ∧ w'.cell? ⟨(ha.add ((ca).toNat * 9)).block, (ha.add ((ca).toNat * 9)).off + 5, none⟩ = some (.int .i64 ((rd_T35 aa ca).f5)) ∧ w'.cell? ⟨(ha.add ((ca).toNat * 9)).block, (ha.add ((ca).toNat * 9)).off + 6, none⟩ = some (.int .i64 ((rd_T35 aa ca).f6)) ∧ w'.cell? ⟨(ha.add ((ca).toNat * 9)).block, (ha.add ((ca).toNat * 9)).off + 7, none⟩ = some (.int .i64 ((rd_T35 aa ca).f7)) ∧ w'.cell? ⟨(ha.add ((ca).toNat * 9)).block, (ha.add ((ca).toNat * 9)).off + 8, none⟩ = some (.int .i64 ((rd_T35 aa ca).f8))) (ds := []) (bo_ 38 0) (by kernel_rfl) rfl rfl ⟨bc_ ga.out 0, bc_ ga.out 1, bc_ ba.out 0, bc_ ba.out 1, bc_ ba.out 2, bc_ ba.out 3, bc_ ba.out 4, bc_ ba.out 5, bc_ ba.out 6, bc_ ba.out 7, bc_ ba.out 8, eb, fb, gb, ib, jb, kb, lb, mb, nb, Xb, Yb, Zb, ac, bc, cc, dc, ec, fc, kd, ld, md, nd, od, pd, qd, rd, sd⟩ (fun hHeld => ?_); refine with_tabW kerbsuitedata_Database.tab6 kerbsuitedata_Database.bits6 (fun HT_ HW_ => ?_)
            generalize wr.drew = Ug at da ia ga ba ea HB eb fb gb ib jb kb lb mb nb Xb Yb Zb ac bc cc dc ec fc kd ld md nd od pd qd rd sd hHeld ⊢
            refine pU_ 0 (some 25) (bo_ 38 1) ?_
            refine pU_ 1 (some 26) (bo_ 38 3) ?_
            refine take_ (i := 2) (N := some 27) (v := ?_) (a' := ?_) (bo_ 38 7) rfl rfl (take_ofW HT_.out HW_.out (by kernel_rfl)) (fun _ _ _ h => h) (Or.inl ⟨by rfl, ?_⟩) hHeld ?_ ?_
            rotate_left; (· rintro w' ⟨s0, s1, s2, s3, s4, s5, s6, s7, s8, s9, bb, tb, ub, vb, wb, xb, yb, zb, Ab, Bb, Mb, Nb, Ob, Pb, Qb, Rb, Sb, Tb, Ub, Ic, Jc, Kc, Lc, Mc, Nc, Oc, Pc, Qc⟩; go_simp; with_reducible rfl)
            rotate_left; (· simp only [Act.put,sA_,sB_,sC_,i64_w,i32_w]; rfl)
            refine pU_ 3 (some 28) (bo_ 38 15) ?_
            refine pU_ 4 (some 29) (bo_ 38 31) ?_
            refine pU_ 5 (some 30) (bo_ 38 63) ?_
            refine pU_ 6 (some 31) (bo_ 38 127) ?_
            refine pU_ 8 (some 33) (bo_ 38 383) ?_
            refine pU_ 12 (some 37) (bo_ 38 4479) ?_
            refine take_ (i := 7) (N := some 32) (v := ?_) (a' := ?_) (bo_ 38 4607) rfl rfl (take_ofW HT_.out HW_.out (by kernel_rfl)) (fun _ _ _ h => h) (Or.inl ⟨by rfl, ?_⟩) hHeld ?_ ?_
            rotate_left; (· rintro w' ⟨s0, s1, s2, s3, s4, s5, s6, s7, s8, s9, bb, tb, ub, vb, wb, xb, yb, zb, Ab, Bb, Mb, Nb, Ob, Pb, Qb, Rb, Sb, Tb, Ub, Ic, Jc, Kc, Lc, Mc, Nc, Oc, Pc, Qc⟩; go_simp; with_reducible rfl)
            rotate_left; (· simp only [Act.put,sA_,sB_,sC_,i64_w,i32_w]; rfl)
            refine pU_ 9 (some 34) (bo_ 38 5119) ?_
            refine pU_ 10 (some 35) (bo_ 38 6143) ?_
            refine take_ (i := 11) (N := some 36) (v := ?_) (a' := ?_) (bo_ 38 8191) rfl rfl (take_ofW HT_.out HW_.out (by kernel_rfl)) (fun _ _ _ h => h) (Or.inl ⟨by rfl, ?_⟩) hHeld ?_ ?_
            rotate_left; (· rintro w' ⟨s0, s1, s2, s3, s4, s5, s6, s7, s8, s9, bb, tb, ub, vb, wb, xb, yb, zb, Ab, Bb, Mb, Nb, Ob, Pb, Qb, Rb, Sb, Tb, Ub, Ic, Jc, Kc, Lc, Mc, Nc, Oc, Pc, Qc⟩; go_simp; with_reducible rfl)
            rotate_left; (· simp only [Act.put,sA_,sB_,sC_,i64_w,i32_w]; rfl)
            refine take_ (i := 13) (N := some 38) (v := ?_) (a' := ?_) (bo_ 38 16383) rfl rfl (take_ofW HT_.out HW_.out (by kernel_rfl)) (fun _ _ _ h => h) (Or.inl ⟨by rfl, ?_⟩) hHeld ?_ ?_
            rotate_left; (· rintro w' ⟨s0, s1, s2, s3, s4, s5, s6, s7, s8, s9, bb, tb, ub, vb, wb, xb, yb, zb, Ab, Bb, Mb, Nb, Ob, Pb, Qb, Rb, Sb, Tb, Ub, Ic, Jc, Kc, Lc, Mc, Nc, Oc, Pc, Qc⟩; go_simp; with_reducible rfl)
            rotate_left; (· simp only [Act.put,sA_,sB_,sC_,i64_w,i32_w]; rfl)
            refine pU_ 14 (some 39) (bo_ 38 32767) ?_
            refine pU_ 15 (some 40) (bo_ 38 65535) ?_
            refine pU_ 16 (some 41) (bo_ 38 131071) ?_
            refine pU_ 18 (some 43) (bo_ 38 393215) ?_
            refine pU_ 22 (some 47) (bo_ 38 4587519) ?_
            refine take_ (i := 17) (N := some 42) (v := ?_) (a' := ?_) (bo_ 38 4718591) rfl rfl (take_ofW HT_.out HW_.out (by kernel_rfl)) (fun _ _ _ h => h) (Or.inl ⟨by rfl, ?_⟩) hHeld ?_ ?_
            rotate_left; (· rintro w' ⟨s0, s1, s2, s3, s4, s5, s6, s7, s8, s9, bb, tb, ub, vb, wb, xb, yb, zb, Ab, Bb, Mb, Nb, Ob, Pb, Qb, Rb, Sb, Tb, Ub, Ic, Jc, Kc, Lc, Mc, Nc, Oc, Pc, Qc⟩; go_simp; with_reducible rfl)
            rotate_left; (· simp only [Act.put,sA_,sB_,sC_,i64_w,i32_w]; rfl)
            refine pU_ 19 (some 44) (bo_ 38 5242879) ?_
            refine pU_ 20 (some 45) (bo_ 38 6291455) ?_
            refine take_ (i := 21) (N := some 46) (v := ?_) (a' := ?_) (bo_ 38 8388607) rfl rfl (take_ofW HT_.out HW_.out (by kernel_rfl)) (fun _ _ _ h => h) (Or.inl ⟨by rfl, ?_⟩) hHeld ?_ ?_
            rotate_left; (· rintro w' ⟨s0, s1, s2, s3, s4, s5, s6, s7, s8, s9, bb, tb, ub, vb, wb, xb, yb, zb, Ab, Bb, Mb, Nb, Ob, Pb, Qb, Rb, Sb, Tb, Ub, Ic, Jc, Kc, Lc, Mc, Nc, Oc, Pc, Qc⟩; go_simp; with_reducible rfl)
            rotate_left; (· simp only [Act.put,sA_,sB_,sC_,i64_w,i32_w]; rfl)
            refine take_ (i := 23) (N := some 48) (v := ?_) (a' := ?_) (bo_ 38 16777215) rfl rfl (take_ofW HT_.out HW_.out (by kernel_rfl)) (fun _ _ _ h => h) (Or.inl ⟨by rfl, ?_⟩) hHeld ?_ ?_
            rotate_left; (· rintro w' ⟨s0, s1, s2, s3, s4, s5, s6, s7, s8, s9, bb, tb, ub, vb, wb, xb, yb, zb, Ab, Bb, Mb, Nb, Ob, Pb, Qb, Rb, Sb, Tb, Ub, Ic, Jc, Kc, Lc, Mc, Nc, Oc, Pc, Qc⟩; go_simp; with_reducible rfl)
            rotate_left; (· simp only [Act.put,sA_,sB_,sC_,i64_w,i32_w]; rfl)
            refine pU_ 24 (some 49) (bo_ 38 33554431) ?_
            refine pU_ 25 (some 50) (bo_ 38 67108863) ?_
            refine pU_ 26 (some 51) (bo_ 38 134217727) ?_
            refine pU_ 28 (some 53) (bo_ 38 402653183) ?_
            refine pU_ 32 (some 57) (bo_ 38 4697620479) ?_
            refine take_ (i := 27) (N := some 52) (v := ?_) (a' := ?_) (bo_ 38 4831838207) rfl rfl (take_ofW HT_.out HW_.out (by kernel_rfl)) (fun _ _ _ h => h) (Or.inl ⟨by rfl, ?_⟩) hHeld ?_ ?_
            rotate_left; (· rintro w' ⟨s0, s1, s2, s3, s4, s5, s6, s7, s8, s9, bb, tb, ub, vb, wb, xb, yb, zb, Ab, Bb, Mb, Nb, Ob, Pb, Qb, Rb, Sb, Tb, Ub, Ic, Jc, Kc, Lc, Mc, Nc, Oc, Pc, Qc⟩; go_simp; with_reducible rfl)
            rotate_left; (· simp only [Act.put,sA_,sB_,sC_,i64_w,i32_w]; rfl)
            refine pU_ 29 (some 54) (bo_ 38 5368709119) ?_
            refine pU_ 30 (some 55) (bo_ 38 6442450943) ?_
            refine take_ (i := 31) (N := some 56) (v := ?_) (a' := ?_) (bo_ 38 8589934591) rfl rfl (take_ofW HT_.out HW_.out (by kernel_rfl)) (fun _ _ _ h => h) (Or.inl ⟨by rfl, ?_⟩) hHeld ?_ ?_
            rotate_left; (· rintro w' ⟨s0, s1, s2, s3, s4, s5, s6, s7, s8, s9, bb, tb, ub, vb, wb, xb, yb, zb, Ab, Bb, Mb, Nb, Ob, Pb, Qb, Rb, Sb, Tb, Ub, Ic, Jc, Kc, Lc, Mc, Nc, Oc, Pc, Qc⟩; go_simp; with_reducible rfl)
            rotate_left; (· simp only [Act.put,sA_,sB_,sC_,i64_w,i32_w]; rfl)
            refine take_ (i := 33) (N := some 58) (v := ?_) (a' := ?_) (bo_ 38 17179869183) rfl rfl (take_ofW HT_.out HW_.out (by kernel_rfl)) (fun _ _ _ h => h) (Or.inl ⟨by rfl, ?_⟩) hHeld ?_ ?_
            rotate_left; (· rintro w' ⟨s0, s1, s2, s3, s4, s5, s6, s7, s8, s9, bb, tb, ub, vb, wb, xb, yb, zb, Ab, Bb, Mb, Nb, Ob, Pb, Qb, Rb, Sb, Tb, Ub, Ic, Jc, Kc, Lc, Mc, Nc, Oc, Pc, Qc⟩; go_simp; with_reducible rfl)
            rotate_left; (· simp only [Act.put,sA_,sB_,sC_,i64_w,i32_w]; rfl)
            refine pU_ 34 (some 59) (bo_ 38 34359738367) ?_
            refine pU_ 35 (some 60) (bo_ 38 68719476735) ?_
            refine pU_ 36 (some 61) (bo_ 38 137438953471) ?_
            refine pU_ 37 (some 62) (bo_ 38 274877906943) ?_
            refine done_ (done_of HT_.out (by kernel_rfl)) ?_
            try go_wp2
            go_meet
            case rel => exact ⟨_, (!(Op.bytesLess oa.toList (((rd_T35 aa ca).f1).toList))), rS_, H', ⟨by have := Dc.out; have := xc.out; have := Xc.out; first | omega | exact Nat.le_refl _⟩, ⟨by refine bk_ ?_; exact da.out⟩, ⟨by refine bk_ ?_; exact ia.out⟩, ⟨by refine bk_ ?_; exact ga.out⟩, ⟨by refine bk_ ?_; exact ba.out⟩, ⟨by repeat (first | (with_reducible first | exact ea.out | apply IsS52.alloc | apply IsS52.drewN | apply IsS52.drew | apply IsS52.set_1 | refine IsS52.far ?_ ja.out _ | refine IsS52.far ?_ la.out _ | refine IsS52.far ?_ Ba.out _) | exact ea.out)⟩, ⟨by repeat (first | (with_reducible first | exact HB.out | apply bA_ | apply bN_ | apply bD_ | refine bS_ ?_ (IsS52.ge ea.out) | refine bS_ ?_ xa.out | refine bS_ ?_ Aa.out | refine bS_ ?_ Fa.out) | exact HB.out)⟩⟩
           rw [if_neg Yc] at H
           have Md : (((rd_T35 aa ca).f0).toList == na.toList) = false := beq_eq_false_iff_ne.mpr Yc
           have Nd : (((rd_T35 aa ca).f0).toList != na.toList) = true := bne_iff_ne.mpr Yc
           have H' := aM_ H
           clear H
           try go_upto_region 6 with fail
           replace da := aM_ (Kd.R_drew da.out)
           replace ia := aM_ (blk_drew ia.out)
           replace ga := aM_ (blk_drew ga.out)
           replace ba := aM_ (blk_drew ba.out)
           replace ea := aM_ (IsS52.drew ea.out)
           replace HB := aM_ (bD_ HB.out)
           obtain ⟨Hg, rf, ue⟩ := Kd.R_slice da.out
           (first | subst ue | (injection ue with f1_ f2_ f3_; have f4_ := f1_.symm; have f5_ := f3_.symm; clear f1_ f2_ f3_; subst f4_; subst f5_))
           have Kb : 0 ≤ (ca : Int) := dT_
           have Lb : ca < (aa.length : Int) := dT_
           obtain ⟨ha, cd, eb, fb, gb, ib, jb, kb, lb, mb, nb⟩ := at_T35 (Kd.R_reads' da.out).2.2 ca Kb Lb
           cases cd
           replace Kb := eq_true Kb
           replace Lb := eq_true Lb
           have yc : 0 ≤ (ca : Int) := dT_
           have zc : ca < (aa.length : Int) := dT_
           obtain ⟨ud, Id, Xb, Yb, Zb, ac, bc, cc, dc, ec, fc⟩ := at_T35 (Kd.R_reads' da.out).2.2 ca yc zc
           obtain rfl : ha = ud := (by injection Id)
           replace yc := eq_true yc
           replace zc := eq_true zc
           refine start_ (n := 38) (S := fun w' => w'.cell? ⟨ta, 0, none⟩ = some (.string va) ∧ w'.cell? ⟨ta, 1, none⟩ = some (.slice (some ha) aa.length rf) ∧ w'.cell? ⟨fa, 0, none⟩ = some (.string na) ∧ w'.cell? ⟨fa, 1, none⟩ = some (.string oa) ∧ w'.cell? ⟨fa, 2, none⟩ = some (.int .u64 pa) ∧ w'.cell? ⟨fa, 3, none⟩ = some (.int .i64 qa) ∧ w'.cell? ⟨fa, 4, none⟩ = some (.int .i64 ra) ∧ w'.cell? ⟨fa, 5, none⟩ = some (.int .i64 sa) ∧ w'.cell? ⟨fa, 6, none⟩ = some (.int .i64 ua) ∧ w'.cell? ⟨fa, 7, none⟩ = some (.int .i64 wa) ∧ w'.cell? ⟨fa, 8, none⟩ = some (.int .i64 ya) ∧ w'.cell? (ha.add ((ca).toNat * 9)) = some (.string ((rd_T35 aa ca).f0)) ∧ w'.cell? ⟨(ha.add ((ca).toNat * 9)).block, (ha.add ((ca).toNat * 9)).off + 1, none⟩ = some (.string ((rd_T35 aa ca).f1)) ∧ w'.cell? ⟨(ha.add ((ca).toNat * 9)).block, (ha.add ((ca).toNat * 9)).off + 2, none⟩ = some (.int .u64 ((rd_T35 aa ca).f2)) ∧ w'.cell? ⟨(ha.add ((ca).toNat * 9)).block, (ha.add ((ca).toNat * 9)).off + 3, none⟩ = some (.int .i64 ((rd_T35 aa ca).f3)) ∧ w'.cell? ⟨(ha.add ((ca).toNat * 9)).block, (ha.add ((ca).toNat * 9)).off + 4, none⟩ = some (.int .i64 ((rd_T35 aa ca).f4)) ∧ w'.cell? ⟨(ha.add ((ca).toNat * 9)).block, (ha.add ((ca).toNat * 9)).off + 5, none⟩ = some (.int .i64 ((rd_T35 aa ca).f5)) ∧ w'.cell? ⟨(ha.add ((ca).toNat * 9)).block, (ha.add ((ca).toNat * 9)).off + 6, none⟩ = some (.int .i64 ((rd_T35 aa ca).f6)) ∧ w'.cell? ⟨(ha.add ((ca).toNat * 9)).block, (ha.add ((ca).toNat * 9)).off + 7, none⟩ = some (.int .i64 ((rd_T35 aa ca).f7)) ∧ w'.cell? ⟨(ha.add ((ca).toNat * 9)).block, (ha.add ((ca).toNat * 9)).off + 8, none⟩ = some (.int .i64 ((rd_T35 aa ca).f8)) ∧ w'.cell? (ha.add ((ca).toNat * 9)) = some (.string ((rd_T35 aa ca).f0)) ∧ w'.cell? ⟨(ha.add ((ca).toNat * 9)).block, (ha.add ((ca).toNat * 9)).off + 1, none⟩ = some (.string ((rd_T35 aa ca).f1)) ∧ w'.cell? ⟨(ha.add ((ca).toNat * 9)).block, (ha.add ((ca).toNat * 9)).off + 2, none⟩ = some (.int .u64 ((rd_T35 aa ca).f2)) ∧ w'.cell? ⟨(ha.add ((ca).toNat * 9)).block, (ha.add ((ca).toNat * 9)).off + 3, none⟩ = some (.int .i64 ((rd_T35 aa ca).f3)) ∧ w'.cell? ⟨(ha.add ((ca).toNat * 9)).block, (ha.add ((ca).toNat * 9)).off + 4, none⟩ = some (.int .i64 ((rd_T35 aa ca).f4)) ∧ w'.cell? ⟨(ha.add ((ca).toNat * 9)).block, (ha.add ((ca).toNat * 9)).off + 5, none⟩ = some (.int .i64 ((rd_T35 aa ca).f5)) ∧ w'.cell? ⟨(ha.add ((ca).toNat * 9)).block, (ha.add ((ca).toNat * 9)).off + 6, none⟩ = some (.int .i64 ((rd_T35 aa ca).f6)) ∧ w'.cell? ⟨(ha.add ((ca).toNat * 9)).block, (ha.add ((ca).toNat * 9)).off + 7, none⟩ = some (.int .i64 ((rd_T35 aa ca).f7)) ∧ w'.cell? ⟨(ha.add ((ca).toNat * 9)).block, (ha.add ((ca).toNat * 9)).off + 8, none⟩ = some (.int .i64 ((rd_T35 aa ca).f8))) (ds := []) (bo_ 38 0) (by kernel_rfl) rfl rfl ⟨bc_ ga.out 0, bc_ ga.out 1, bc_ ba.out 0, bc_ ba.out 1, bc_ ba.out 2, bc_ ba.out 3, bc_ ba.out 4, bc_ ba.out 5, bc_ ba.out 6, bc_ ba.out 7, bc_ ba.out 8, eb, fb, gb, ib, jb, kb, lb, mb, nb, Xb, Yb, Zb, ac, bc, cc, dc, ec, fc⟩ (fun hHeld => ?_); refine with_tabW kerbsuitedata_Database.tab6 kerbsuitedata_Database.bits6 (fun HT_ HW_ => ?_)
           generalize wr.drew = Vg at da ia ga ba ea HB eb fb gb ib jb kb lb mb nb Xb Yb Zb ac bc cc dc ec fc hHeld ⊢
           refine pU_ 0 (some 25) (bo_ 38 1) ?_
           refine pU_ 1 (some 26) (bo_ 38 3) ?_
           refine take_ (i := 2) (N := some 27) (v := ?_) (a' := ?_) (bo_ 38 7) rfl rfl (take_ofW HT_.out HW_.out (by kernel_rfl)) (fun _ _ _ h => h) (Or.inl ⟨by rfl, ?_⟩) hHeld ?_ ?_
           rotate_left; (· rintro w' ⟨s0, s1, s2, s3, s4, s5, s6, s7, s8, s9, bb, tb, ub, vb, wb, xb, yb, zb, Ab, Bb, Mb, Nb, Ob, Pb, Qb, Rb, Sb, Tb, Ub⟩; go_simp; with_reducible rfl)
           rotate_left; (· simp only [Act.put,sA_,sB_,sC_,i64_w,i32_w]; rfl)
           refine pU_ 3 (some 28) (bo_ 38 15) ?_
           refine pU_ 4 (some 29) (bo_ 38 31) ?_
           refine pU_ 5 (some 30) (bo_ 38 63) ?_
           refine pU_ 6 (some 31) (bo_ 38 127) ?_
           refine pU_ 8 (some 33) (bo_ 38 383) ?_
           refine pU_ 12 (some 37) (bo_ 38 4479) ?_
           refine take_ (i := 7) (N := some 32) (v := ?_) (a' := ?_) (bo_ 38 4607) rfl rfl (take_ofW HT_.out HW_.out (by kernel_rfl)) (fun _ _ _ h => h) (Or.inl ⟨by rfl, ?_⟩) hHeld ?_ ?_
           rotate_left; (· rintro w' ⟨s0, s1, s2, s3, s4, s5, s6, s7, s8, s9, bb, tb, ub, vb, wb, xb, yb, zb, Ab, Bb, Mb, Nb, Ob, Pb, Qb, Rb, Sb, Tb, Ub⟩; go_simp; with_reducible rfl)
           rotate_left; (· simp only [Act.put,sA_,sB_,sC_,i64_w,i32_w]; rfl)
           refine pU_ 9 (some 34) (bo_ 38 5119) ?_
           refine pU_ 10 (some 35) (bo_ 38 6143) ?_
           refine take_ (i := 11) (N := some 36) (v := ?_) (a' := ?_) (bo_ 38 8191) rfl rfl (take_ofW HT_.out HW_.out (by kernel_rfl)) (fun _ _ _ h => h) (Or.inl ⟨by rfl, ?_⟩) hHeld ?_ ?_
           rotate_left; (· rintro w' ⟨s0, s1, s2, s3, s4, s5, s6, s7, s8, s9, bb, tb, ub, vb, wb, xb, yb, zb, Ab, Bb, Mb, Nb, Ob, Pb, Qb, Rb, Sb, Tb, Ub⟩; go_simp; with_reducible rfl)
           rotate_left; (· simp only [Act.put,sA_,sB_,sC_,i64_w,i32_w]; rfl)
           refine take_ (i := 13) (N := some 38) (v := ?_) (a' := ?_) (bo_ 38 16383) rfl rfl (take_ofW HT_.out HW_.out (by kernel_rfl)) (fun _ _ _ h => h) (Or.inl ⟨by rfl, ?_⟩) hHeld ?_ ?_
           rotate_left; (· rintro w' ⟨s0, s1, s2, s3, s4, s5, s6, s7, s8, s9, bb, tb, ub, vb, wb, xb, yb, zb, Ab, Bb, Mb, Nb, Ob, Pb, Qb, Rb, Sb, Tb, Ub⟩; go_simp; with_reducible rfl)
           rotate_left; (· simp only [Act.put,sA_,sB_,sC_,i64_w,i32_w]; rfl)
           refine pU_ 14 (some 39) (bo_ 38 32767) ?_
           refine pU_ 15 (some 40) (bo_ 38 65535) ?_
           refine pU_ 16 (some 41) (bo_ 38 131071) ?_
           refine pU_ 18 (some 43) (bo_ 38 393215) ?_
           refine pU_ 22 (some 47) (bo_ 38 4587519) ?_
           refine take_ (i := 17) (N := some 42) (v := ?_) (a' := ?_) (bo_ 38 4718591) rfl rfl (take_ofW HT_.out HW_.out (by kernel_rfl)) (fun _ _ _ h => h) (Or.inl ⟨by rfl, ?_⟩) hHeld ?_ ?_
           rotate_left; (· rintro w' ⟨s0, s1, s2, s3, s4, s5, s6, s7, s8, s9, bb, tb, ub, vb, wb, xb, yb, zb, Ab, Bb, Mb, Nb, Ob, Pb, Qb, Rb, Sb, Tb, Ub⟩; go_simp; with_reducible rfl)
           rotate_left; (· simp only [Act.put,sA_,sB_,sC_,i64_w,i32_w]; rfl)
           refine pU_ 19 (some 44) (bo_ 38 5242879) ?_
           refine pU_ 20 (some 45) (bo_ 38 6291455) ?_
           refine take_ (i := 21) (N := some 46) (v := ?_) (a' := ?_) (bo_ 38 8388607) rfl rfl (take_ofW HT_.out HW_.out (by kernel_rfl)) (fun _ _ _ h => h) (Or.inl ⟨by rfl, ?_⟩) hHeld ?_ ?_
           rotate_left; (· rintro w' ⟨s0, s1, s2, s3, s4, s5, s6, s7, s8, s9, bb, tb, ub, vb, wb, xb, yb, zb, Ab, Bb, Mb, Nb, Ob, Pb, Qb, Rb, Sb, Tb, Ub⟩; go_simp; with_reducible rfl)
           rotate_left; (· simp only [Act.put,sA_,sB_,sC_,i64_w,i32_w]; rfl)
           refine take_ (i := 23) (N := some 48) (v := ?_) (a' := ?_) (bo_ 38 16777215) rfl rfl (take_ofW HT_.out HW_.out (by kernel_rfl)) (fun _ _ _ h => h) (Or.inl ⟨by rfl, ?_⟩) hHeld ?_ ?_
           rotate_left; (· rintro w' ⟨s0, s1, s2, s3, s4, s5, s6, s7, s8, s9, bb, tb, ub, vb, wb, xb, yb, zb, Ab, Bb, Mb, Nb, Ob, Pb, Qb, Rb, Sb, Tb, Ub⟩; go_simp; with_reducible rfl)
           rotate_left; (· simp only [Act.put,sA_,sB_,sC_,i64_w,i32_w]; rfl)
           refine pU_ 24 (some 49) (bo_ 38 33554431) ?_
           refine pU_ 25 (some 50) (bo_ 38 67108863) ?_
           refine pV_ 26 (some 51) (bo_ 38 134217727) ?_
           refine pV_ 27 (some 52) (bo_ 38 268435455) ?_
           refine pV_ 28 (some 53) (bo_ 38 536870911) ?_
           refine pV_ 29 (some 54) (bo_ 38 1073741823) ?_
           refine pV_ 30 (some 55) (bo_ 38 2147483647) ?_
           refine pV_ 31 (some 56) (bo_ 38 4294967295) ?_
           refine pV_ 32 (some 57) (bo_ 38 8589934591) ?_
           refine pV_ 33 (some 58) (bo_ 38 17179869183) ?_
           refine pV_ 34 (some 59) (bo_ 38 34359738367) ?_
           refine pU_ 35 (some 60) (bo_ 38 68719476735) ?_
           refine pU_ 36 (some 61) (bo_ 38 137438953471) ?_
           refine pU_ 37 (some 62) (bo_ 38 274877906943) ?_
           refine done_ (done_of HT_.out (by kernel_rfl)) ?_
           try go_wp2
           go_meet
           case rel => exact ⟨_, (false), rS_, H', ⟨by have := Dc.out; have := xc.out; have := Xc.out; first | omega | exact Nat.le_refl _⟩, ⟨by refine bk_ ?_; exact da.out⟩, ⟨by refine bk_ ?_; exact ia.out⟩, ⟨by refine bk_ ?_; exact ga.out⟩, ⟨by refine bk_ ?_; exact ba.out⟩, ⟨by repeat (first | (with_reducible first | exact ea.out | apply IsS52.alloc | apply IsS52.drewN | apply IsS52.drew | apply IsS52.set_1 | refine IsS52.far ?_ ja.out _ | refine IsS52.far ?_ la.out _ | refine IsS52.far ?_ Ba.out _) | exact ea.out)⟩, ⟨by repeat (first | (with_reducible first | exact HB.out | apply bA_ | apply bN_ | apply bD_ | refine bS_ ?_ (IsS52.ge ea.out) | refine bS_ ?_ xa.out | refine bS_ ?_ Aa.out | refine bS_ ?_ Fa.out) | exact HB.out)⟩⟩
          rw [if_neg Bd] at H
          exact absurd H (by simp)
         rw [if_neg bd] at H
         have Bc : decide (ca < (aa.length : Int)) = false := decide_eq_false bd
         clear bd
         (first | rw [Bc] | (simp only [i64_w, i32_w]; rw [Bc]) | skip)
         have H' := aM_ H
         clear H
         try go_upto_region 6 with fail
         replace da := aM_ (Kd.R_drew da.out)
         replace ia := aM_ (blk_drew ia.out)
         replace ga := aM_ (blk_drew ga.out)
         replace ba := aM_ (blk_drew ba.out)
         replace ea := aM_ (IsS52.drew ea.out)
         replace HB := aM_ (bD_ HB.out)
         obtain ⟨sf, tf, ve⟩ := Kd.R_slice da.out
         (first | subst ve | (injection ve with f1_ f2_ f3_; have f4_ := f1_.symm; have f5_ := f3_.symm; clear f1_ f2_ f3_; subst f4_; subst f5_))
         refine start_ (n := 38) (S := fun w' => w'.cell? ⟨ta, 0, none⟩ = some (.string va) ∧ w'.cell? ⟨ta, 1, none⟩ = some (.slice sf aa.length tf)) (ds := []) (bo_ 38 0) (by kernel_rfl) rfl rfl ⟨bc_ ga.out 0, bc_ ga.out 1⟩ (fun hHeld => ?_); refine with_tabW kerbsuitedata_Database.tab6 kerbsuitedata_Database.bits6 (fun HT_ HW_ => ?_)
         generalize wr.drew = Wg at da ia ga ba ea HB hHeld ⊢
         refine pU_ 0 (some 25) (bo_ 38 1) ?_
         refine pU_ 1 (some 26) (bo_ 38 3) ?_
         refine take_ (i := 2) (N := some 27) (v := ?_) (a' := ?_) (bo_ 38 7) rfl rfl (take_ofW HT_.out HW_.out (by kernel_rfl)) (fun _ _ _ h => h) (Or.inl ⟨by rfl, ?_⟩) hHeld ?_ ?_
         rotate_left; (· rintro w' ⟨s0, s1⟩; go_simp; with_reducible rfl)
         rotate_left; (· simp only [Act.put,sA_,sB_,sC_,i64_w,i32_w]; rfl)
         refine pU_ 3 (some 28) (bo_ 38 15) ?_
         refine pU_ 4 (some 29) (bo_ 38 31) ?_
         refine pU_ 5 (some 30) (bo_ 38 63) ?_
         refine pV_ 6 (some 31) (bo_ 38 127) ?_
         refine pV_ 7 (some 32) (bo_ 38 255) ?_
         refine pV_ 8 (some 33) (bo_ 38 511) ?_
         refine pV_ 9 (some 34) (bo_ 38 1023) ?_
         refine pV_ 10 (some 35) (bo_ 38 2047) ?_
         refine pV_ 11 (some 36) (bo_ 38 4095) ?_
         refine pV_ 12 (some 37) (bo_ 38 8191) ?_
         refine pV_ 13 (some 38) (bo_ 38 16383) ?_
         refine pV_ 14 (some 39) (bo_ 38 32767) ?_
         refine pV_ 15 (some 40) (bo_ 38 65535) ?_
         refine pV_ 16 (some 41) (bo_ 38 131071) ?_
         refine pV_ 17 (some 42) (bo_ 38 262143) ?_
         refine pV_ 18 (some 43) (bo_ 38 524287) ?_
         refine pV_ 19 (some 44) (bo_ 38 1048575) ?_
         refine pV_ 20 (some 45) (bo_ 38 2097151) ?_
         refine pV_ 21 (some 46) (bo_ 38 4194303) ?_
         refine pV_ 22 (some 47) (bo_ 38 8388607) ?_
         refine pV_ 23 (some 48) (bo_ 38 16777215) ?_
         refine pV_ 24 (some 49) (bo_ 38 33554431) ?_
         refine pV_ 25 (some 50) (bo_ 38 67108863) ?_
         refine pV_ 26 (some 51) (bo_ 38 134217727) ?_
         refine pV_ 27 (some 52) (bo_ 38 268435455) ?_
         refine pV_ 28 (some 53) (bo_ 38 536870911) ?_
         refine pV_ 29 (some 54) (bo_ 38 1073741823) ?_
         refine pV_ 30 (some 55) (bo_ 38 2147483647) ?_
         refine pV_ 31 (some 56) (bo_ 38 4294967295) ?_
         refine pV_ 32 (some 57) (bo_ 38 8589934591) ?_
         refine pV_ 33 (some 58) (bo_ 38 17179869183) ?_
         refine pV_ 34 (some 59) (bo_ 38 34359738367) ?_
         refine pV_ 35 (some 60) (bo_ 38 68719476735) ?_
         refine pV_ 36 (some 61) (bo_ 38 137438953471) ?_
         refine pU_ 37 (some 62) (bo_ 38 274877906943) ?_
         refine done_ (done_of HT_.out (by kernel_rfl)) ?_
         try go_wp2
         go_meet
         case rel => exact ⟨_, (false), rS_, H', ⟨by have := Dc.out; have := xc.out; have := Xc.out; first | omega | exact Nat.le_refl _⟩, ⟨by refine bk_ ?_; exact da.out⟩, ⟨by refine bk_ ?_; exact ia.out⟩, ⟨by refine bk_ ?_; exact ga.out⟩, ⟨by refine bk_ ?_; exact ba.out⟩, ⟨by repeat (first | (with_reducible first | exact ea.out | apply IsS52.alloc | apply IsS52.drewN | apply IsS52.drew | apply IsS52.set_1 | refine IsS52.far ?_ ja.out _ | refine IsS52.far ?_ la.out _ | refine IsS52.far ?_ Ba.out _) | exact ea.out)⟩, ⟨by repeat (first | (with_reducible first | exact HB.out | apply bA_ | apply bN_ | apply bD_ | refine bS_ ?_ (IsS52.ge ea.out) | refine bS_ ?_ xa.out | refine bS_ ?_ Aa.out | refine bS_ ?_ Fa.out) | exact HB.out)⟩⟩
        case rest =>
         clear Hd
         try clear c2
         try clear p2
         try clear q2
         try clear Xg
         try clear c3
         try clear Yg
         try clear Zg
         try clear Ig
         try clear bd
         try clear Bc
         try clear Bd
         try clear Yc
         try clear Md
         try clear Nd
         try clear eb
         try clear fb
         try clear gb
         try clear ib
         try clear jb
         try clear kb
         try clear lb
         try clear mb
         try clear nb
         try clear Xb
         try clear Yb
         try clear Zb
         try clear ac
         try clear bc
         try clear cc
         try clear dc
         try clear ec
         try clear fc
         try clear Kb
         try clear yc
         try clear Lb
         try clear zc
         obtain ⟨kq, Hc, rfl, HA, vd, da, ia, ga, ba, ea, HB⟩ := hcut
         cases kq with
         | zero => exact absurd HA.out (by simp [kerbsuitedata_Database.j3])
         | succ oc =>
          have H := HA.out
          clear HA
          simp only [kerbsuitedata_Database.j3] at H
          by_cases Od : Hc = true
          ·subst Od
           have H1 : (kerbsuitedata_Database.l1 oc (wrap64 (ca + 1)) l0 Wa va aa na oa pa qa ra sa ua wa ya) = some (r1, r2) := by rw [if_pos rfl] at H; exact H
           clear H
           have H := H1
           clear H1
           have H' := aM_ H
           clear H
           go_wp2
           go_roundg oc
           case measure => have := Dc.out; have := xc.out; have := Xc.out; have := vd.out; omega
           case rel => exact ⟨(wrap64 (ca + 1)), rS_, H', ⟨by have := Dc.out; have := xc.out; have := Xc.out; have := vd.out; omega⟩, ⟨by refine bk_ ?_; exact da.out⟩, ⟨by refine bk_ ?_; exact ia.out⟩, ⟨by refine bk_ ?_; exact ga.out⟩, ⟨by refine bk_ ?_; exact ba.out⟩, ⟨by repeat (first | (with_reducible first | exact ea.out | apply IsS52.alloc | apply IsS52.drewN | apply IsS52.drew | apply IsS52.set_1 | refine IsS52.far ?_ ja.out _ | refine IsS52.far ?_ la.out _ | refine IsS52.far ?_ Ba.out _) | exact ea.out)⟩, ⟨by repeat (first | (with_reducible first | exact HB.out | apply bA_ | apply bN_ | apply bD_ | refine bS_ ?_ (IsS52.ge ea.out) | refine bS_ ?_ xa.out | refine bS_ ?_ Aa.out | refine bS_ ?_ Fa.out) | exact HB.out)⟩⟩
          replace Od := Bool.eq_false_iff.mpr Od
          subst Od
          have H1 : ((some (([] : List (S35)) : List (S35))).bind fun pb => (if 0 ≤ ca then (if ca ≤ (aa.length : Int) then ((some (aa.take (ca : Int).toNat : List (S35))).bind fun Ia => (if pb.length + Ia.length < 1599289640401 then ((some (pb ++ Ia : List (S35))).bind fun Ta => ((some (([(⟨na, oa, pa, qa, ra, sa, ua, wa, ya⟩ : S35)] : List (S35)) : List (S35))).bind fun Ja => (if Ta.length + Ja.length < 1599289640401 then ((some (Ta ++ Ja : List (S35))).bind fun Qa => ((some (aa.drop (ca : Int).toNat : List (S35))).bind fun Ca => (if Qa.length + Ca.length < 1599289640401 then (kerbsuitedata_Database.l0 oc l0 Wa va (Qa ++ Ca)) else (none)))) else (none)))) else (none))) else (none)) else (none))) = some (r1, r2) := by rw [if_neg (show ¬ (false = true) by decide)] at H; exact H
          clear H
          have H := H1
          clear H1
          obtain ⟨pb, hy256⟩ : ∃ y_ : List (S35), y_ = (([] : List (S35))) := ⟨_, rfl⟩
          replace H : (if 0 ≤ ca then (if ca ≤ (aa.length : Int) then ((some (aa.take (ca : Int).toNat : List (S35))).bind fun Ia => (if pb.length + Ia.length < 1599289640401 then ((some (pb ++ Ia : List (S35))).bind fun Ta => ((some (([(⟨na, oa, pa, qa, ra, sa, ua, wa, ya⟩ : S35)] : List (S35)) : List (S35))).bind fun Ja => (if Ta.length + Ja.length < 1599289640401 then ((some (Ta ++ Ja : List (S35))).bind fun Qa => ((some (aa.drop (ca : Int).toNat : List (S35))).bind fun Ca => (if Qa.length + Ca.length < 1599289640401 then (kerbsuitedata_Database.l0 oc l0 Wa va (Qa ++ Ca)) else (none)))) else (none)))) else (none))) else (none)) else (none)) = some (r1, r2) := by first | (rw [hy256]; with_reducible exact H) | (have H2_ := (Option.bind_some _ _).symm.trans H; rw [hy256]; with_reducible exact H2_) | (have H2_ := (Option.bind_some _ _).symm.trans H; with_reducible exact H2_) | with_reducible exact H | (rw [hy256]; exact H) | exact H
          have Ny256 := aM_ hy256
          clear hy256
          by_cases Cd : 0 ≤ ca
          ·rw [if_pos Cd] at H
           have ig := eq_true Cd
           have jg : decide (0 ≤ ca) = true := decide_eq_true Cd
           clear Cd
           by_cases Dd : ca ≤ (aa.length : Int)
           ·rw [if_pos Dd] at H
            have kg := eq_true Dd
            have lg : decide (ca ≤ (aa.length : Int)) = true := decide_eq_true Dd
            clear Dd
            obtain ⟨Ia, hy259⟩ : ∃ y_ : List (S35), y_ = (aa.take (ca : Int).toNat) := ⟨_, rfl⟩
            replace H : (if pb.length + Ia.length < 1599289640401 then ((some (pb ++ Ia : List (S35))).bind fun Ta => ((some (([(⟨na, oa, pa, qa, ra, sa, ua, wa, ya⟩ : S35)] : List (S35)) : List (S35))).bind fun Ja => (if Ta.length + Ja.length < 1599289640401 then ((some (Ta ++ Ja : List (S35))).bind fun Qa => ((some (aa.drop (ca : Int).toNat : List (S35))).bind fun Ca => (if Qa.length + Ca.length < 1599289640401 then (kerbsuitedata_Database.l0 oc l0 Wa va (Qa ++ Ca)) else (none)))) else (none)))) else (none)) = some (r1, r2) := by first | (rw [hy259]; with_reducible exact H) | (have H2_ := (Option.bind_some _ _).symm.trans H; rw [hy259]; with_reducible exact H2_) | (have H2_ := (Option.bind_some _ _).symm.trans H; with_reducible exact H2_) | with_reducible exact H | (rw [hy259]; exact H) | exact H
            have Ny259 := aM_ hy259
            clear hy259
            by_cases Pd : pb.length + Ia.length < 1599289640401
            ·rw [if_pos Pd] at H
             have wd := aM_ Pd
             clear Pd
             obtain ⟨Ta, hy263⟩ : ∃ y_ : List (S35), y_ = (pb ++ Ia) := ⟨_, rfl⟩
             replace H : ((some (([(⟨na, oa, pa, qa, ra, sa, ua, wa, ya⟩ : S35)] : List (S35)) : List (S35))).bind fun Ja => (if Ta.length + Ja.length < 1599289640401 then ((some (Ta ++ Ja : List (S35))).bind fun Qa => ((some (aa.drop (ca : Int).toNat : List (S35))).bind fun Ca => (if Qa.length + Ca.length < 1599289640401 then (kerbsuitedata_Database.l0 oc l0 Wa va (Qa ++ Ca)) else (none)))) else (none))) = some (r1, r2) := by first | (rw [hy263]; with_reducible exact H) | (have H2_ := (Option.bind_some _ _).symm.trans H; rw [hy263]; with_reducible exact H2_) | (have H2_ := (Option.bind_some _ _).symm.trans H; with_reducible exact H2_) | with_reducible exact H | (rw [hy263]; exact H) | exact H
             have Ny263 := aM_ hy263
             clear hy263
             obtain ⟨Ja, hy266⟩ : ∃ y_ : List (S35), y_ = (([(⟨na, oa, pa, qa, ra, sa, ua, wa, ya⟩ : S35)] : List (S35))) := ⟨_, rfl⟩
             replace H : (if Ta.length + Ja.length < 1599289640401 then ((some (Ta ++ Ja : List (S35))).bind fun Qa => ((some (aa.drop (ca : Int).toNat : List (S35))).bind fun Ca => (if Qa.length + Ca.length < 1599289640401 then (kerbsuitedata_Database.l0 oc l0 Wa va (Qa ++ Ca)) else (none)))) else (none)) = some (r1, r2) := by first | (rw [hy266]; with_reducible exact H) | (have H2_ := (Option.bind_some _ _).symm.trans H; rw [hy266]; with_reducible exact H2_) | (have H2_ := (Option.bind_some _ _).symm.trans H; with_reducible exact H2_) | with_reducible exact H | (rw [hy266]; exact H) | exact H
             have Ny266 := aM_ hy266
             clear hy266
             by_cases Qd : Ta.length + Ja.length < 1599289640401
             ·rw [if_pos Qd] at H
              have Ie := aM_ Qd
              clear Qd
              obtain ⟨Qa, hy269⟩ : ∃ y_ : List (S35), y_ = (Ta ++ Ja) := ⟨_, rfl⟩
              replace H : ((some (aa.drop (ca : Int).toNat : List (S35))).bind fun Ca => (if Qa.length + Ca.length < 1599289640401 then (kerbsuitedata_Database.l0 oc l0 Wa va (Qa ++ Ca)) else (none))) = some (r1, r2) := by first | (rw [hy269]; with_reducible exact H) | (have H2_ := (Option.bind_some _ _).symm.trans H; rw [hy269]; with_reducible exact H2_) | (have H2_ := (Option.bind_some _ _).symm.trans H; with_reducible exact H2_) | with_reducible exact H | (rw [hy269]; exact H) | exact H
              have Ny269 := aM_ hy269
              clear hy269
              have mg := eq_true (dT_ : 0 ≤ ca)
              have ng := eq_true (dT_ : ca ≤ (aa.length : Int))
              obtain ⟨Ca, hy272⟩ : ∃ y_ : List (S35), y_ = (aa.drop (ca : Int).toNat) := ⟨_, rfl⟩
              replace H : (if Qa.length + Ca.length < 1599289640401 then (kerbsuitedata_Database.l0 oc l0 Wa va (Qa ++ Ca)) else (none)) = some (r1, r2) := by first | (rw [hy272]; with_reducible exact H) | (have H2_ := (Option.bind_some _ _).symm.trans H; rw [hy272]; with_reducible exact H2_) | (have H2_ := (Option.bind_some _ _).symm.trans H; with_reducible exact H2_) | with_reducible exact H | (rw [hy272]; exact H) | exact H
              have Ny272 := aM_ hy272
              clear hy272
              by_cases Rd : Qa.length + Ca.length < 1599289640401
              ·rw [if_pos Rd] at H
               have Je := aM_ Rd
               clear Rd
               obtain ⟨xd, hy276⟩ : ∃ y_ : List (S35), y_ = (Qa ++ Ca) := ⟨_, rfl⟩
               replace H : (kerbsuitedata_Database.l0 oc l0 Wa va xd) = some (r1, r2) := by first | (rw [hy276]; with_reducible exact H) | (have H2_ := (Option.bind_some _ _).symm.trans H; rw [hy276]; with_reducible exact H2_) | (have H2_ := (Option.bind_some _ _).symm.trans H; with_reducible exact H2_) | with_reducible exact H | (rw [hy276]; exact H) | exact H
               have Ny276 := aM_ hy276
               clear hy276
               have H' := aM_ H
               clear H
               try go_upto_region 8 with fail
               replace da := aM_ (Kd.R_drew da.out)
               replace ia := aM_ (blk_drew ia.out)
               replace ga := aM_ (blk_drew ga.out)
               replace ba := aM_ (blk_drew ba.out)
               replace ea := aM_ (IsS52.drew ea.out)
               replace HB := aM_ (bD_ HB.out)
               obtain ⟨Da, Ea, we⟩ := Kd.R_slice da.out
               (first | subst we | (injection we with f1_ f2_ f3_; have f4_ := f1_.symm; have f5_ := f3_.symm; clear f1_ f2_ f3_; subst f4_; subst f5_))
               have xe : (ca : Int) ≤ ((aa.length : Int) : Int) := dT_
               obtain ⟨i050, Sd, _, hsz50, _⟩ := info_parts info35
               have hroom50 : aa.length ≤ Ea := (Kd.R_reads' da.out).2.1
               have hC50 : Kd.C k35 _ Da aa.length aa := (Kd.R_reads' da.out).2.2
               have hcut50 := cut_to (P := Tryd.prog) 22 35 .i64 Tryd.underlying22 Sd Da aa.length Ea ca dT_ xe hroom50
               have hr50 := Kd.C_take (m := (ca : Int).toNat) hC50 (by omega)
               have hy50 : Ia.length = (ca : Int).toNat := (by rw [Ny259.out, List.length_take]; omega)
               rw [← Ny259.out] at hr50
               rw [← hy50] at hcut50
               have ka := aM_ hr50
               have og := aM_ (show Ia.length ≤ Ea from by omega)
               clear hr50 hC50 hroom50 Sd hsz50
               have KY50 := aM_ hy50
               clear hy50
               have KL50 := aM_ (show (ca : Int).toNat ≤ aa.length from by omega)
               replace xe := eq_true xe
               have ye : (ca : Int) ≤ ((aa.length : Int) : Int) := dT_
               obtain ⟨i052, Td, _, hsz52, _⟩ := info_parts info35
               have hroom52 : aa.length ≤ Ea := (Kd.R_reads' da.out).2.1
               have hC52 : Kd.C k35 _ Da aa.length aa := (Kd.R_reads' da.out).2.2
               have uf : (0 : Int) ≤ (ca : Int) := dT_
               have hcut52 := cut_from (P := Tryd.prog) 22 35 .i64 Tryd.underlying22 Td 9 hsz52 Da aa.length Ea ca uf ye
               have hr52 := Kd.C_drop (m := (ca : Int).toNat) (c := Ea) hC52 (by omega) hroom52
               obtain ⟨Zc, hA52⟩ : ∃ A1, A1 = (if Ea = (ca : Int).toNat then Da else (Da : Option Addr).map (·.add ((ca : Int).toNat * 9))) := ⟨_, rfl⟩
               obtain ⟨Pf, hc52⟩ : ∃ c1, c1 = Ea - (ca : Int).toNat := ⟨_, rfl⟩
               have hy52 : Ca.length = aa.length - (ca : Int).toNat := (by rw [Ny272.out, List.length_drop] <;> omega)
               rw [show (aa).drop (ca : Int).toNat = Ca from Ny272.out.symm] at hr52
               replace hr52 : Kd.C k35 _ Zc Ca.length Ca := (by rw [hA52]; exact hr52)
               rw [← hy52, ← hA52, ← hc52] at hcut52
               have ma := aM_ hr52
               have pg := aM_ (show Ca.length ≤ Pf from by rw [hy52, hc52]; exact Nat.sub_le_sub_right hroom52 _)
               clear hr52 hC52 hroom52 Td hsz52 hc52
               have KY52 := aM_ hy52
               have KA52 := aM_ hA52
               clear hy52 hA52
               have KL52 := aM_ (show (ca : Int).toNat ≤ aa.length from by omega)
               replace ye := eq_true ye
               refine start_ (n := 16) (S := fun w' => w'.cell? ⟨ta, 0, none⟩ = some (.string va) ∧ w'.cell? ⟨ta, 1, none⟩ = some (.slice Da aa.length Ea) ∧ w'.cell? ⟨fa, 0, none⟩ = some (.string na) ∧ w'.cell? ⟨fa, 1, none⟩ = some (.string oa) ∧ w'.cell? ⟨fa, 2, none⟩ = some (.int .u64 pa) ∧ w'.cell? ⟨fa, 3, none⟩ = some (.int .i64 qa) ∧ w'.cell? ⟨fa, 4, none⟩ = some (.int .i64 ra) ∧ w'.cell? ⟨fa, 5, none⟩ = some (.int .i64 sa) ∧ w'.cell? ⟨fa, 6, none⟩ = some (.int .i64 ua) ∧ w'.cell? ⟨fa, 7, none⟩ = some (.int .i64 wa) ∧ w'.cell? ⟨fa, 8, none⟩ = some (.int .i64 ya)) (ds := [15]) (bo_ 16 0) (by kernel_rfl) rfl rfl ⟨bc_ ga.out 0, bc_ ga.out 1, bc_ ba.out 0, bc_ ba.out 1, bc_ ba.out 2, bc_ ba.out 3, bc_ ba.out 4, bc_ ba.out 5, bc_ ba.out 6, bc_ ba.out 7, bc_ ba.out 8⟩ (fun hHeld => ?_); refine with_tabW kerbsuitedata_Database.tab8 kerbsuitedata_Database.bits8 (fun HT_ HW_ => ?_)
               generalize wc.drew = ah at da ia ga ba ea HB ka ma hHeld ⊢
               refine pU_ 1 (some 66) (bo_ 16 2) ?_
               refine pU_ 3 (some 68) (bo_ 16 10) ?_
               refine pU_ 9 (some 74) (bo_ 16 522) ?_
               refine pU_ 11 (some 76) (bo_ 16 2570) ?_
               refine take_ (i := 2) (N := some 67) (v := ?_) (a' := ?_) (bo_ 16 2574) rfl rfl (take_ofW HT_.out HW_.out (by kernel_rfl)) (fun _ _ _ h => h) (Or.inl ⟨by rfl, ?_⟩) hHeld ?_ ?_
               rotate_left; (· rintro w' ⟨s0, s1, s2, s3, s4, s5, s6, s7, s8, s9, bb⟩; go_simp; with_reducible rfl)
               rotate_left; (· simp only [Act.put,sA_,sB_,sC_,i64_w,i32_w]; rfl)
               refine pU_ 4 (some 69) (bo_ 16 2590) ?_
               refine take_ (i := 6) (N := some 71) (v := ?_) (a' := ?_) (bo_ 16 2654) rfl rfl (take_ofW HT_.out HW_.out (by kernel_rfl)) (fun _ _ _ h => h) (Or.inl ⟨by rfl, ?_⟩) hHeld ?_ ?_
               rotate_left; (· rintro w' ⟨s0, s1, s2, s3, s4, s5, s6, s7, s8, s9, bb⟩; go_simp; with_reducible rfl)
               rotate_left; (· simp only [Act.put,sA_,sB_,sC_,i64_w,i32_w]; rfl)
               refine take_ (i := 10) (N := some 75) (v := ?_) (a' := ?_) (bo_ 16 3678) rfl rfl (take_ofW HT_.out HW_.out (by kernel_rfl)) (fun _ _ _ h => h) (Or.inl ⟨by rfl, ?_⟩) hHeld ?_ ?_
               rotate_left; (· rintro w' ⟨s0, s1, s2, s3, s4, s5, s6, s7, s8, s9, bb⟩; go_simp; with_reducible rfl)
               rotate_left; (· simp only [Act.put,sA_,sB_,sC_,i64_w,i32_w]; rfl)
               refine pU_ 12 (some 77) (bo_ 16 7774) ?_
               refine join_ (σ := Value × Value × Value) 4 (bo_ 16 7935) (fun s_ => [(65, s_.1), (70, s_.2.1), (72, s_.2.2)]) (fun s_ w' => (w'.cell? ⟨ta, 0, none⟩ = some (.string va) ∧ w'.cell? ⟨ta, 1, none⟩ = some (.slice Da aa.length Ea) ∧ w'.cell? ⟨fa, 0, none⟩ = some (.string na) ∧ w'.cell? ⟨fa, 1, none⟩ = some (.string oa) ∧ w'.cell? ⟨fa, 2, none⟩ = some (.int .u64 pa) ∧ w'.cell? ⟨fa, 3, none⟩ = some (.int .i64 qa) ∧ w'.cell? ⟨fa, 4, none⟩ = some (.int .i64 ra) ∧ w'.cell? ⟨fa, 5, none⟩ = some (.int .i64 sa) ∧ w'.cell? ⟨fa, 6, none⟩ = some (.int .i64 ua) ∧ w'.cell? ⟨fa, 7, none⟩ = some (.int .i64 wa) ∧ w'.cell? ⟨fa, 8, none⟩ = some (.int .i64 ya)) ∧ (Kd.R k35 35 w' w.heap.size (fun k_ => some k_ ≠ (s_.2.2 : Value).ownBlock ∧ some k_ ≠ (.slice Da aa.length Ea : Value).ownBlock ∧ k_ ≠ fa) s_.2.1 Ta) ∧ (Kd.R k35 35 w' w.heap.size (fun k_ => some k_ ≠ (s_.2.1 : Value).ownBlock ∧ some k_ ≠ (.slice Da aa.length Ea : Value).ownBlock ∧ k_ ≠ fa) s_.2.2 Ja) ∧ (Kd.R k35 35 w' w.heap.size (fun k_ => some k_ ≠ (s_.2.1 : Value).ownBlock ∧ some k_ ≠ (s_.2.2 : Value).ownBlock ∧ k_ ≠ fa) (.slice Da aa.length Ea) aa) ∧ (w'.heap[za]? = some (.cells #[.string (⟨#[]⟩ : ByteArray), .slice none 0 0] 24 (0, 0))) ∧ (w'.heap[ta]? = some (.cells #[.string va, .slice Da aa.length Ea] 24 (0, 0))) ∧ (w'.heap[fa]? = some (.cells #[.string na, .string oa, .int .u64 pa, .int .i64 qa, .int .i64 ra, .int .i64 sa, .int .i64 ua, .int .i64 wa, .int .i64 ya] 35 (0, 0))) ∧ (IsS52 w w' Ha l0 Wa) ∧ (Kd.C k35 w' Da Ia.length Ia) ∧ (Kd.C k35 w' Zc Ca.length Ca) ∧ (Below w.heap.size w w')) ?_ ?_
               rotate_left
               ·intro hCont
                refine two_ (i := 0) (j := 7) (Ni := some 65) (Nj := some 72) (bo_ 16 7775) (bo_ 16 7902) rfl rfl rfl rfl (two_of HT_.out (by kernel_rfl)) (by decide) (by decide) (fun K hK => ?_) (fun K hK => ?_)
                ·skip
                 refine Kd.R_lit_step k35 _ 35 ?hg (N := 65) ?hd (xs := ([] : List (S35))) (inner := []) (ok := fun _ => True) (okp := fun _ => True) ?hr ?hp (fun _ hk => hk) trivial (Below.refl _ _) (Nat.le_refl _) (by simp) ?_; (case hd => rfl); (case hg => rfl); (case hr => first | (go_simp; done) | (go_simp; rfl)); (case hp => exact (Reps.none _ _))
                 intro Ac Qf Jb hb hg_ hnew_
                 clear hg_ hnew_
                 (first | rw [← Ny256.out] at Jb | (simp only [Int.reduceToNat] at Jb; rw [← Ny256.out] at Jb))
                 have La := aM_ (Kd.R_lower (Kd.R_newB (Kd.R_new' Jb (Kd.R_lt (bk_ da.out))) (g := fa) (o := .cells #[.string na, .string oa, .int .u64 pa, .int .i64 qa, .int .i64 ra, .int .i64 sa, .int .i64 ua, .int .i64 wa, .int .i64 ya] 35 (0, 0)) (bk_ ba.out)) (below_size (by repeat (first | (with_reducible first | exact HB.out | apply bA_ | apply bN_ | apply bD_ | refine bS_ ?_ (IsS52.ge ea.out) | refine bS_ ?_ xa.out | refine bS_ ?_ Aa.out | refine bS_ ?_ Fa.out) | exact HB.out))))
                 replace da := aM_ (Kd.R_elder' (bk_ da.out) (Kd.R_base Jb) hb)
                 replace ia := aM_ (blk_below (g := za) (o := .cells #[.string (⟨#[]⟩ : ByteArray), .slice none 0 0] 24 (0, 0)) (bk_ ia.out) hb)
                 replace ga := aM_ (blk_below (g := ta) (o := .cells #[.string va, .slice Da aa.length Ea] 24 (0, 0)) (bk_ ga.out) hb)
                 replace ba := aM_ (blk_below (g := fa) (o := .cells #[.string na, .string oa, .int .u64 pa, .int .i64 qa, .int .i64 ra, .int .i64 sa, .int .i64 ua, .int .i64 wa, .int .i64 ya] 35 (0, 0)) (bk_ ba.out) hb)
                 replace ka := aM_ (Kd.C_below (by first | (with_reducible exact ka.out) | (with_reducible exact Kd.C_drewN ka.out _) | (with_reducible exact Kd.C_drew ka.out) | repeat (first | (with_reducible exact ka.out) | (with_reducible refine Kd.C_alloc ?_ _) | (with_reducible refine Kd.C_drewN ?_ _) | (with_reducible refine Kd.C_drew ?_) | exact ka.out)) hb)
                 replace ma := aM_ (Kd.C_below (by first | (with_reducible exact ma.out) | (with_reducible exact Kd.C_drewN ma.out _) | (with_reducible exact Kd.C_drew ma.out) | repeat (first | (with_reducible exact ma.out) | (with_reducible refine Kd.C_alloc ?_ _) | (with_reducible refine Kd.C_drewN ?_ _) | (with_reducible refine Kd.C_drew ?_) | exact ma.out)) hb)
                 replace HB := aM_ (below_step (by repeat (first | (with_reducible first | exact HB.out | apply bA_ | apply bN_ | apply bD_ | refine bS_ ?_ (IsS52.ge ea.out) | refine bS_ ?_ xa.out | refine bS_ ?_ Aa.out | refine bS_ ?_ Fa.out) | exact HB.out)) hb)
                 replace ea := aM_ (IsS52.below (by repeat (first | (with_reducible first | exact ea.out | apply IsS52.alloc | apply IsS52.drewN | apply IsS52.drew | apply IsS52.set_1 | refine IsS52.far ?_ ja.out _ | refine IsS52.far ?_ la.out _ | refine IsS52.far ?_ Ba.out _) | exact ea.out)) hb)
                 clear hb Jb
                 refine hK.out _ _ ⟨bc_ ga.out 0, bc_ ga.out 1, bc_ ba.out 0, bc_ ba.out 1, bc_ ba.out 2, bc_ ba.out 3, bc_ ba.out 4, bc_ ba.out 5, bc_ ba.out 6, bc_ ba.out 7, bc_ ba.out 8⟩ (fun hHeld => ?_)
                 clear hK K
                 refine nO_ 65 ?_
                 refine two_ (i := 5) (j := 7) (Ni := some 70) (Nj := some 72) (bo_ 16 7807) (bo_ 16 7903) rfl rfl rfl rfl (two_of HT_.out (by kernel_rfl)) (by decide) (by decide) (fun K hK => ?_) (fun K hK => ?_)
                 ·skip
                  refine Kd.R_append_rows_step k35 (w0 := w) w.heap.size (by rfl) (.tmp 65) (.tmp 69) 22 35 (.agg #[(.string ⟨#[]⟩), (.string ⟨#[]⟩), (.int .u64 0), (.int .i64 0), (.int .i64 0), (.int .i64 0), (.int .i64 0), (.int .i64 0), (.int .i64 0)]) 88 rfl Tryd.underlying22 info35 rfl (by decide) (by omega) Ac pb Ia _ _ _ (fun k_ => some k_ ≠ (.slice Da aa.length Ea : Value).ownBlock ∧ k_ ≠ fa) (fun _ => False) rfl rfl ?aO ?aR (fun _ _ h => h) (fun _ h => h.elim) ?aF ?aB ?aS ?aL ?_
                  (case aR => repeat (first | exact (by first | (with_reducible exact ka.out) | (with_reducible exact Kd.C_drewN ka.out _) | (with_reducible exact Kd.C_drew ka.out) | repeat (first | (with_reducible exact ka.out) | (with_reducible refine Kd.C_alloc ?_ _) | (with_reducible refine Kd.C_drewN ?_ _) | (with_reducible refine Kd.C_drew ?_) | exact ka.out)) | (with_reducible refine Kd.C_alloc ?_ _) | (with_reducible refine Kd.C_drewN ?_ _) | (with_reducible refine Kd.C_drew ?_)))
                  (case aB => exact (by repeat (first | (with_reducible first | exact HB.out | apply bA_ | apply bN_ | apply bD_ | refine bS_ ?_ (IsS52.ge ea.out) | refine bS_ ?_ xa.out | refine bS_ ?_ Aa.out | refine bS_ ?_ Fa.out) | exact HB.out)))
                  (case aF => exact (fun k_ hk => ⟨Kd.fresh' (Kd.R_lt (bk_ da.out)) k_ hk, Kd.freshB (g := fa) (o := .cells #[.string na, .string oa, .int .u64 pa, .int .i64 qa, .int .i64 ra, .int .i64 sa, .int .i64 ua, .int .i64 wa, .int .i64 ya] 35 (0, 0)) (bk_ ba.out) k_ hk⟩))
                  (case aO => exact (by refine bk_ ?_; exact Kd.R_mono La.out (fun _ hk => ⟨hk.1.2, hk.2⟩)))
                  (case aS => exact (below_size (by repeat (first | (with_reducible first | exact HB.out | apply bA_ | apply bN_ | apply bD_ | refine bS_ ?_ (IsS52.ge ea.out) | refine bS_ ?_ xa.out | refine bS_ ?_ Aa.out | refine bS_ ?_ Fa.out) | exact HB.out))))
                  (case aL => have := wd.out; omega)
                  intro rc Ud ho hb hg hat
                  rw [← Ny263.out] at ho
                  replace ia := aM_ (blk_grown (g := za) (o := .cells #[.string (⟨#[]⟩ : ByteArray), .slice none 0 0] 24 (0, 0)) (bk_ ia.out) hg (Kd.R_ne La.out ia.out (by decide)))
                  replace ga := aM_ (blk_grown (g := ta) (o := .cells #[.string va, .slice Da aa.length Ea] 24 (0, 0)) (bk_ ga.out) hg (Kd.R_ne La.out ga.out (by decide)))
                  replace ba := aM_ (blk_grown (g := fa) (o := .cells #[.string na, .string oa, .int .u64 pa, .int .i64 qa, .int .i64 ra, .int .i64 sa, .int .i64 ua, .int .i64 wa, .int .i64 ya] 35 (0, 0)) (bk_ ba.out) hg (Kd.R_away La.out (fun _ hk => hk.2)))
                  replace ea := aM_ (IsS52.grown (by repeat (first | (with_reducible first | exact ea.out | apply IsS52.alloc | apply IsS52.drewN | apply IsS52.drew | apply IsS52.set_1 | refine IsS52.far ?_ ja.out _ | refine IsS52.far ?_ la.out _ | refine IsS52.far ?_ Ba.out _) | exact ea.out)) hg (IsS52.own_ne ea.out La.out (by decide)))
                  replace HB := aM_ (hb)
                  replace ka := aM_ ((show Kd.C k35 Ud Da Ia.length Ia from by rw [Ny259.out]; exact Kd.C_take (m := (ca : Int).toNat) ((Kd.R_reads' (Kd.R_after (ok := (fun k_ => k_ ≠ fa)) (bk_ da.out) hg hat)).2.2) KL50.out))
                  replace ma := aM_ ((show Kd.C k35 Ud Zc Ca.length Ca from by rw [Ny272.out, KA52.out]; exact Kd.C_drop (m := (ca : Int).toNat) (c := Ea) ((Kd.R_reads' (Kd.R_after (ok := (fun k_ => k_ ≠ fa)) (bk_ da.out) hg hat)).2.2) KL52.out ((Kd.R_reads' (Kd.R_after (ok := (fun k_ => k_ ≠ fa)) (bk_ da.out) hg hat)).2.1)))
                  replace da := aM_ (Kd.R_after (ok := (fun k_ => k_ ≠ fa)) (bk_ da.out) hg hat)
                  have Xa := aM_ (ho)
                  clear La
                  clear ho hb hg hat
                  refine hK.out _ _ ⟨bc_ ga.out 0, bc_ ga.out 1, bc_ ba.out 0, bc_ ba.out 1, bc_ ba.out 2, bc_ ba.out 3, bc_ ba.out 4, bc_ ba.out 5, bc_ ba.out 6, bc_ ba.out 7, bc_ ba.out 8⟩ (fun hHeld => ?_)
                  clear hK K
                  refine nO_ 70 ?_
                  refine one_ (i := 7) (N := some 72) (bo_ 16 7935) rfl rfl (one_of HT_.out (by kernel_rfl)) (by decide) (fun K hK => ?_)
                  refine Kd.R_lit_step k35 _ 35 ?hg (N := 72) ?hd (xs := ([(⟨na, oa, pa, qa, ra, sa, ua, wa, ya⟩ : S35)] : List (S35))) (inner := [.string na, .string oa, .int .u64 pa, .int .i64 qa, .int .i64 ra, .int .i64 sa, .int .i64 ua, .int .i64 wa, .int .i64 ya]) (ok := fun _ => True) (okp := fun _ => True) ?hr ?hp (fun _ hk => hk) trivial (Below.refl _ _) (Nat.le_refl _) (by simp) ?_; (case hd => rfl); (case hg => rfl); (case hr => first | (go_simp; done) | (go_simp; rfl)); (case hp => exact (Reps.c9 (show Kd.M k35 _ _ _ (⟨na, oa, pa, qa, ra, sa, ua, wa, ya⟩ : S35) [.string na, .string oa, .int .u64 pa, .int .i64 qa, .int .i64 ra, .int .i64 sa, .int .i64 ua, .int .i64 wa, .int .i64 ya] from (k35_mkM _ _ _ (⟨na, oa, pa, qa, ra, sa, ua, wa, ya⟩ : S35) )) (Reps.none _ _)))
                  intro Ya bh Fc hb hg_ hnew_
                  clear hg_ hnew_
                  (first | rw [← Ny266.out] at Fc | (simp only [Int.reduceToNat] at Fc; rw [← Ny266.out] at Fc))
                  have Ka := aM_ (Kd.R_lower (Kd.R_newB (Kd.R_new' (Kd.R_new' Fc (Kd.R_lt (bk_ da.out))) (Kd.R_lt (bk_ Xa.out))) (g := fa) (o := .cells #[.string na, .string oa, .int .u64 pa, .int .i64 qa, .int .i64 ra, .int .i64 sa, .int .i64 ua, .int .i64 wa, .int .i64 ya] 35 (0, 0)) (bk_ ba.out)) (below_size (by repeat (first | (with_reducible first | exact HB.out | apply bA_ | apply bN_ | apply bD_ | refine bS_ ?_ (IsS52.ge ea.out) | refine bS_ ?_ xa.out | refine bS_ ?_ Aa.out | refine bS_ ?_ Fa.out) | exact HB.out))))
                  replace da := aM_ (Kd.R_elder' (bk_ da.out) (Kd.R_base Fc) hb)
                  replace Xa := aM_ (Kd.R_elder' (bk_ Xa.out) (Kd.R_base Fc) hb)
                  replace ia := aM_ (blk_below (g := za) (o := .cells #[.string (⟨#[]⟩ : ByteArray), .slice none 0 0] 24 (0, 0)) (bk_ ia.out) hb)
                  replace ga := aM_ (blk_below (g := ta) (o := .cells #[.string va, .slice Da aa.length Ea] 24 (0, 0)) (bk_ ga.out) hb)
                  replace ba := aM_ (blk_below (g := fa) (o := .cells #[.string na, .string oa, .int .u64 pa, .int .i64 qa, .int .i64 ra, .int .i64 sa, .int .i64 ua, .int .i64 wa, .int .i64 ya] 35 (0, 0)) (bk_ ba.out) hb)
                  replace ka := aM_ (Kd.C_below (by first | (with_reducible exact ka.out) | (with_reducible exact Kd.C_drewN ka.out _) | (with_reducible exact Kd.C_drew ka.out) | repeat (first | (with_reducible exact ka.out) | (with_reducible refine Kd.C_alloc ?_ _) | (with_reducible refine Kd.C_drewN ?_ _) | (with_reducible refine Kd.C_drew ?_) | exact ka.out)) hb)
                  replace ma := aM_ (Kd.C_below (by first | (with_reducible exact ma.out) | (with_reducible exact Kd.C_drewN ma.out _) | (with_reducible exact Kd.C_drew ma.out) | repeat (first | (with_reducible exact ma.out) | (with_reducible refine Kd.C_alloc ?_ _) | (with_reducible refine Kd.C_drewN ?_ _) | (with_reducible refine Kd.C_drew ?_) | exact ma.out)) hb)
                  replace HB := aM_ (below_step (by repeat (first | (with_reducible first | exact HB.out | apply bA_ | apply bN_ | apply bD_ | refine bS_ ?_ (IsS52.ge ea.out) | refine bS_ ?_ xa.out | refine bS_ ?_ Aa.out | refine bS_ ?_ Fa.out) | exact HB.out)) hb)
                  replace ea := aM_ (IsS52.below (by repeat (first | (with_reducible first | exact ea.out | apply IsS52.alloc | apply IsS52.drewN | apply IsS52.drew | apply IsS52.set_1 | refine IsS52.far ?_ ja.out _ | refine IsS52.far ?_ la.out _ | refine IsS52.far ?_ Ba.out _) | exact ea.out)) hb)
                  clear hb Fc
                  refine hK.out _ _ ⟨bc_ ga.out 0, bc_ ga.out 1, bc_ ba.out 0, bc_ ba.out 1, bc_ ba.out 2, bc_ ba.out 3, bc_ ba.out 4, bc_ ba.out 5, bc_ ba.out 6, bc_ ba.out 7, bc_ ba.out 8⟩ (fun hHeld => ?_)
                  clear hK K
                  refine nO_ 72 ?_
                  exact norm_ (by simp only [putAll, Act.put, sA_, sB_, sC_]) (hCont (Ac, rc, Ya) _ ⟨hHeld, (by refine bk_ ?_; exact Kd.R_mono Xa.out (fun _ hk => ⟨hk.2, ⟨hk.1.1, hk.1.2⟩⟩)), (by refine bk_ ?_; exact Kd.R_mono Ka.out (fun _ hk => ⟨hk.1.2, ⟨hk.1.1.2, hk.2⟩⟩)), (by refine bk_ ?_; exact Kd.R_mono da.out (fun _ hk => ⟨hk.1.2, ⟨hk.2, hk.1.1⟩⟩)), (bk_ ia.out), (bk_ ga.out), (bk_ ba.out), (by repeat (first | (with_reducible first | exact ea.out | apply IsS52.alloc | apply IsS52.drewN | apply IsS52.drew | apply IsS52.set_1 | refine IsS52.far ?_ ja.out _ | refine IsS52.far ?_ la.out _ | refine IsS52.far ?_ Ba.out _) | exact ea.out)), (by first | (with_reducible exact ka.out) | (with_reducible exact Kd.C_drewN ka.out _) | (with_reducible exact Kd.C_drew ka.out) | repeat (first | (with_reducible exact ka.out) | (with_reducible refine Kd.C_alloc ?_ _) | (with_reducible refine Kd.C_drewN ?_ _) | (with_reducible refine Kd.C_drew ?_) | exact ka.out)), (by first | (with_reducible exact ma.out) | (with_reducible exact Kd.C_drewN ma.out _) | (with_reducible exact Kd.C_drew ma.out) | repeat (first | (with_reducible exact ma.out) | (with_reducible refine Kd.C_alloc ?_ _) | (with_reducible refine Kd.C_drewN ?_ _) | (with_reducible refine Kd.C_drew ?_) | exact ma.out)), (by repeat (first | (with_reducible first | exact HB.out | apply bA_ | apply bN_ | apply bD_ | refine bS_ ?_ (IsS52.ge ea.out) | refine bS_ ?_ xa.out | refine bS_ ?_ Aa.out | refine bS_ ?_ Fa.out) | exact HB.out))⟩)
                 skip
                 refine Kd.R_lit_step k35 _ 35 ?hg (N := 72) ?hd (xs := ([(⟨na, oa, pa, qa, ra, sa, ua, wa, ya⟩ : S35)] : List (S35))) (inner := [.string na, .string oa, .int .u64 pa, .int .i64 qa, .int .i64 ra, .int .i64 sa, .int .i64 ua, .int .i64 wa, .int .i64 ya]) (ok := fun _ => True) (okp := fun _ => True) ?hr ?hp (fun _ hk => hk) trivial (Below.refl _ _) (Nat.le_refl _) (by simp) ?_; (case hd => rfl); (case hg => rfl); (case hr => first | (go_simp; done) | (go_simp; rfl)); (case hp => exact (Reps.c9 (show Kd.M k35 _ _ _ (⟨na, oa, pa, qa, ra, sa, ua, wa, ya⟩ : S35) [.string na, .string oa, .int .u64 pa, .int .i64 qa, .int .i64 ra, .int .i64 sa, .int .i64 ua, .int .i64 wa, .int .i64 ya] from (k35_mkM _ _ _ (⟨na, oa, pa, qa, ra, sa, ua, wa, ya⟩ : S35) )) (Reps.none _ _)))
                 intro Ya Ud qb hb hg_ hnew_
                 clear hg_ hnew_
                 (first | rw [← Ny266.out] at qb | (simp only [Int.reduceToNat] at qb; rw [← Ny266.out] at qb))
                 have Ka := aM_ (Kd.R_lower (Kd.R_newB (Kd.R_new' (Kd.R_new' qb (Kd.R_lt (bk_ da.out))) (Kd.R_lt (bk_ La.out))) (g := fa) (o := .cells #[.string na, .string oa, .int .u64 pa, .int .i64 qa, .int .i64 ra, .int .i64 sa, .int .i64 ua, .int .i64 wa, .int .i64 ya] 35 (0, 0)) (bk_ ba.out)) (below_size (by repeat (first | (with_reducible first | exact HB.out | apply bA_ | apply bN_ | apply bD_ | refine bS_ ?_ (IsS52.ge ea.out) | refine bS_ ?_ xa.out | refine bS_ ?_ Aa.out | refine bS_ ?_ Fa.out) | exact HB.out))))
                 replace da := aM_ (Kd.R_elder' (bk_ da.out) (Kd.R_base qb) hb)
                 replace La := aM_ (Kd.R_elder' (bk_ La.out) (Kd.R_base qb) hb)
                 replace ia := aM_ (blk_below (g := za) (o := .cells #[.string (⟨#[]⟩ : ByteArray), .slice none 0 0] 24 (0, 0)) (bk_ ia.out) hb)
                 replace ga := aM_ (blk_below (g := ta) (o := .cells #[.string va, .slice Da aa.length Ea] 24 (0, 0)) (bk_ ga.out) hb)
                 replace ba := aM_ (blk_below (g := fa) (o := .cells #[.string na, .string oa, .int .u64 pa, .int .i64 qa, .int .i64 ra, .int .i64 sa, .int .i64 ua, .int .i64 wa, .int .i64 ya] 35 (0, 0)) (bk_ ba.out) hb)
                 replace ka := aM_ (Kd.C_below (by first | (with_reducible exact ka.out) | (with_reducible exact Kd.C_drewN ka.out _) | (with_reducible exact Kd.C_drew ka.out) | repeat (first | (with_reducible exact ka.out) | (with_reducible refine Kd.C_alloc ?_ _) | (with_reducible refine Kd.C_drewN ?_ _) | (with_reducible refine Kd.C_drew ?_) | exact ka.out)) hb)
                 replace ma := aM_ (Kd.C_below (by first | (with_reducible exact ma.out) | (with_reducible exact Kd.C_drewN ma.out _) | (with_reducible exact Kd.C_drew ma.out) | repeat (first | (with_reducible exact ma.out) | (with_reducible refine Kd.C_alloc ?_ _) | (with_reducible refine Kd.C_drewN ?_ _) | (with_reducible refine Kd.C_drew ?_) | exact ma.out)) hb)
                 replace HB := aM_ (below_step (by repeat (first | (with_reducible first | exact HB.out | apply bA_ | apply bN_ | apply bD_ | refine bS_ ?_ (IsS52.ge ea.out) | refine bS_ ?_ xa.out | refine bS_ ?_ Aa.out | refine bS_ ?_ Fa.out) | exact HB.out)) hb)
                 replace ea := aM_ (IsS52.below (by repeat (first | (with_reducible first | exact ea.out | apply IsS52.alloc | apply IsS52.drewN | apply IsS52.drew | apply IsS52.set_1 | refine IsS52.far ?_ ja.out _ | refine IsS52.far ?_ la.out _ | refine IsS52.far ?_ Ba.out _) | exact ea.out)) hb)
                 clear hb qb
                 refine hK.out _ _ ⟨bc_ ga.out 0, bc_ ga.out 1, bc_ ba.out 0, bc_ ba.out 1, bc_ ba.out 2, bc_ ba.out 3, bc_ ba.out 4, bc_ ba.out 5, bc_ ba.out 6, bc_ ba.out 7, bc_ ba.out 8⟩ (fun hHeld => ?_)
                 clear hK K
                 refine nO_ 72 ?_
                 refine one_ (i := 5) (N := some 70) (bo_ 16 7935) rfl rfl (one_of HT_.out (by kernel_rfl)) (by decide) (fun K hK => ?_)
                 refine Kd.R_append_rows_step k35 (w0 := w) w.heap.size (by rfl) (.tmp 65) (.tmp 69) 22 35 (.agg #[(.string ⟨#[]⟩), (.string ⟨#[]⟩), (.int .u64 0), (.int .i64 0), (.int .i64 0), (.int .i64 0), (.int .i64 0), (.int .i64 0), (.int .i64 0)]) 88 rfl Tryd.underlying22 info35 rfl (by decide) (by omega) Ac pb Ia _ _ _ (fun k_ => some k_ ≠ (.slice Da aa.length Ea : Value).ownBlock ∧ some k_ ≠ (Ya : Value).ownBlock ∧ k_ ≠ fa) (fun _ => False) rfl rfl ?aO ?aR (fun _ _ h => h) (fun _ h => h.elim) ?aF ?aB ?aS ?aL ?_
                 (case aR => repeat (first | exact (by first | (with_reducible exact ka.out) | (with_reducible exact Kd.C_drewN ka.out _) | (with_reducible exact Kd.C_drew ka.out) | repeat (first | (with_reducible exact ka.out) | (with_reducible refine Kd.C_alloc ?_ _) | (with_reducible refine Kd.C_drewN ?_ _) | (with_reducible refine Kd.C_drew ?_) | exact ka.out)) | (with_reducible refine Kd.C_alloc ?_ _) | (with_reducible refine Kd.C_drewN ?_ _) | (with_reducible refine Kd.C_drew ?_)))
                 (case aB => exact (by repeat (first | (with_reducible first | exact HB.out | apply bA_ | apply bN_ | apply bD_ | refine bS_ ?_ (IsS52.ge ea.out) | refine bS_ ?_ xa.out | refine bS_ ?_ Aa.out | refine bS_ ?_ Fa.out) | exact HB.out)))
                 (case aF => exact (fun k_ hk => ⟨Kd.fresh' (Kd.R_lt (bk_ da.out)) k_ hk, Kd.fresh' (Kd.R_lt (bk_ Ka.out)) k_ hk, Kd.freshB (g := fa) (o := .cells #[.string na, .string oa, .int .u64 pa, .int .i64 qa, .int .i64 ra, .int .i64 sa, .int .i64 ua, .int .i64 wa, .int .i64 ya] 35 (0, 0)) (bk_ ba.out) k_ hk⟩))
                 (case aO => exact (by refine bk_ ?_; exact Kd.R_mono La.out (fun _ hk => ⟨hk.1.1.2, ⟨hk.2, hk.1.2⟩⟩)))
                 (case aS => exact (below_size (by repeat (first | (with_reducible first | exact HB.out | apply bA_ | apply bN_ | apply bD_ | refine bS_ ?_ (IsS52.ge ea.out) | refine bS_ ?_ xa.out | refine bS_ ?_ Aa.out | refine bS_ ?_ Fa.out) | exact HB.out))))
                 (case aL => have := wd.out; omega)
                 intro rc Ed ho hb hg hat
                 rw [← Ny263.out] at ho
                 replace ia := aM_ (blk_grown (g := za) (o := .cells #[.string (⟨#[]⟩ : ByteArray), .slice none 0 0] 24 (0, 0)) (bk_ ia.out) hg (Kd.R_ne La.out ia.out (by decide)))
                 replace ga := aM_ (blk_grown (g := ta) (o := .cells #[.string va, .slice Da aa.length Ea] 24 (0, 0)) (bk_ ga.out) hg (Kd.R_ne La.out ga.out (by decide)))
                 replace ba := aM_ (blk_grown (g := fa) (o := .cells #[.string na, .string oa, .int .u64 pa, .int .i64 qa, .int .i64 ra, .int .i64 sa, .int .i64 ua, .int .i64 wa, .int .i64 ya] 35 (0, 0)) (bk_ ba.out) hg (Kd.R_away La.out (fun _ hk => hk.1.2)))
                 replace ea := aM_ (IsS52.grown (by repeat (first | (with_reducible first | exact ea.out | apply IsS52.alloc | apply IsS52.drewN | apply IsS52.drew | apply IsS52.set_1 | refine IsS52.far ?_ ja.out _ | refine IsS52.far ?_ la.out _ | refine IsS52.far ?_ Ba.out _) | exact ea.out)) hg (IsS52.own_ne ea.out La.out (by decide)))
                 replace Ka := aM_ (Kd.R_after (ok := (fun k_ => some k_ ≠ (.slice Da aa.length Ea : Value).ownBlock ∧ k_ ≠ fa)) (by refine bk_ ?_; exact Kd.R_mono Ka.out (fun _ hk => ⟨⟨hk.1.1.2, hk.2⟩, hk.1.2⟩)) hg hat)
                 replace HB := aM_ (hb)
                 replace ka := aM_ ((show Kd.C k35 Ed Da Ia.length Ia from by rw [Ny259.out]; exact Kd.C_take (m := (ca : Int).toNat) ((Kd.R_reads' (Kd.R_after (ok := (fun k_ => some k_ ≠ (Ya : Value).ownBlock ∧ k_ ≠ fa)) (by refine bk_ ?_; exact Kd.R_mono da.out (fun _ hk => ⟨⟨hk.2, hk.1.1⟩, hk.1.2⟩)) hg hat)).2.2) KL50.out))
                 replace ma := aM_ ((show Kd.C k35 Ed Zc Ca.length Ca from by rw [Ny272.out, KA52.out]; exact Kd.C_drop (m := (ca : Int).toNat) (c := Ea) ((Kd.R_reads' (Kd.R_after (ok := (fun k_ => some k_ ≠ (Ya : Value).ownBlock ∧ k_ ≠ fa)) (by refine bk_ ?_; exact Kd.R_mono da.out (fun _ hk => ⟨⟨hk.2, hk.1.1⟩, hk.1.2⟩)) hg hat)).2.2) KL52.out ((Kd.R_reads' (Kd.R_after (ok := (fun k_ => some k_ ≠ (Ya : Value).ownBlock ∧ k_ ≠ fa)) (by refine bk_ ?_; exact Kd.R_mono da.out (fun _ hk => ⟨⟨hk.2, hk.1.1⟩, hk.1.2⟩)) hg hat)).2.1)))
                 replace da := aM_ (Kd.R_after (ok := (fun k_ => some k_ ≠ (Ya : Value).ownBlock ∧ k_ ≠ fa)) (by refine bk_ ?_; exact Kd.R_mono da.out (fun _ hk => ⟨⟨hk.2, hk.1.1⟩, hk.1.2⟩)) hg hat)
                 have Xa := aM_ (ho)
                 clear La
                 clear ho hb hg hat
                 refine hK.out _ _ ⟨bc_ ga.out 0, bc_ ga.out 1, bc_ ba.out 0, bc_ ba.out 1, bc_ ba.out 2, bc_ ba.out 3, bc_ ba.out 4, bc_ ba.out 5, bc_ ba.out 6, bc_ ba.out 7, bc_ ba.out 8⟩ (fun hHeld => ?_)
                 clear hK K
                 refine nO_ 70 ?_
                 exact norm_ (by simp only [putAll, Act.put, sA_, sB_, sC_]) (hCont (Ac, rc, Ya) _ ⟨hHeld, (by refine bk_ ?_; exact Kd.R_mono Xa.out (fun _ hk => ⟨hk.2.1, ⟨hk.1, hk.2.2⟩⟩)), (by refine bk_ ?_; exact Kd.R_mono Ka.out (fun _ hk => ⟨hk.2, ⟨hk.1.1, hk.1.2⟩⟩)), (by refine bk_ ?_; exact Kd.R_mono da.out (fun _ hk => ⟨hk.2, ⟨hk.1.1, hk.1.2⟩⟩)), (bk_ ia.out), (bk_ ga.out), (bk_ ba.out), (by repeat (first | (with_reducible first | exact ea.out | apply IsS52.alloc | apply IsS52.drewN | apply IsS52.drew | apply IsS52.set_1 | refine IsS52.far ?_ ja.out _ | refine IsS52.far ?_ la.out _ | refine IsS52.far ?_ Ba.out _) | exact ea.out)), (by first | (with_reducible exact ka.out) | (with_reducible exact Kd.C_drewN ka.out _) | (with_reducible exact Kd.C_drew ka.out) | repeat (first | (with_reducible exact ka.out) | (with_reducible refine Kd.C_alloc ?_ _) | (with_reducible refine Kd.C_drewN ?_ _) | (with_reducible refine Kd.C_drew ?_) | exact ka.out)), (by first | (with_reducible exact ma.out) | (with_reducible exact Kd.C_drewN ma.out _) | (with_reducible exact Kd.C_drew ma.out) | repeat (first | (with_reducible exact ma.out) | (with_reducible refine Kd.C_alloc ?_ _) | (with_reducible refine Kd.C_drewN ?_ _) | (with_reducible refine Kd.C_drew ?_) | exact ma.out)), (by repeat (first | (with_reducible first | exact HB.out | apply bA_ | apply bN_ | apply bD_ | refine bS_ ?_ (IsS52.ge ea.out) | refine bS_ ?_ xa.out | refine bS_ ?_ Aa.out | refine bS_ ?_ Fa.out) | exact HB.out))⟩)
                skip
                refine Kd.R_lit_step k35 _ 35 ?hg (N := 72) ?hd (xs := ([(⟨na, oa, pa, qa, ra, sa, ua, wa, ya⟩ : S35)] : List (S35))) (inner := [.string na, .string oa, .int .u64 pa, .int .i64 qa, .int .i64 ra, .int .i64 sa, .int .i64 ua, .int .i64 wa, .int .i64 ya]) (ok := fun _ => True) (okp := fun _ => True) ?hr ?hp (fun _ hk => hk) trivial (Below.refl _ _) (Nat.le_refl _) (by simp) ?_; (case hd => rfl); (case hg => rfl); (case hr => first | (go_simp; done) | (go_simp; rfl)); (case hp => exact (Reps.c9 (show Kd.M k35 _ _ _ (⟨na, oa, pa, qa, ra, sa, ua, wa, ya⟩ : S35) [.string na, .string oa, .int .u64 pa, .int .i64 qa, .int .i64 ra, .int .i64 sa, .int .i64 ua, .int .i64 wa, .int .i64 ya] from (k35_mkM _ _ _ (⟨na, oa, pa, qa, ra, sa, ua, wa, ya⟩ : S35) )) (Reps.none _ _)))
                intro Ya Qf Jb hb hg_ hnew_
                clear hg_ hnew_
                (first | rw [← Ny266.out] at Jb | (simp only [Int.reduceToNat] at Jb; rw [← Ny266.out] at Jb))
                have Ka := aM_ (Kd.R_lower (Kd.R_newB (Kd.R_new' Jb (Kd.R_lt (bk_ da.out))) (g := fa) (o := .cells #[.string na, .string oa, .int .u64 pa, .int .i64 qa, .int .i64 ra, .int .i64 sa, .int .i64 ua, .int .i64 wa, .int .i64 ya] 35 (0, 0)) (bk_ ba.out)) (below_size (by repeat (first | (with_reducible first | exact HB.out | apply bA_ | apply bN_ | apply bD_ | refine bS_ ?_ (IsS52.ge ea.out) | refine bS_ ?_ xa.out | refine bS_ ?_ Aa.out | refine bS_ ?_ Fa.out) | exact HB.out))))
                replace da := aM_ (Kd.R_elder' (bk_ da.out) (Kd.R_base Jb) hb)
                replace ia := aM_ (blk_below (g := za) (o := .cells #[.string (⟨#[]⟩ : ByteArray), .slice none 0 0] 24 (0, 0)) (bk_ ia.out) hb)
                replace ga := aM_ (blk_below (g := ta) (o := .cells #[.string va, .slice Da aa.length Ea] 24 (0, 0)) (bk_ ga.out) hb)
                replace ba := aM_ (blk_below (g := fa) (o := .cells #[.string na, .string oa, .int .u64 pa, .int .i64 qa, .int .i64 ra, .int .i64 sa, .int .i64 ua, .int .i64 wa, .int .i64 ya] 35 (0, 0)) (bk_ ba.out) hb)
                replace ka := aM_ (Kd.C_below (by first | (with_reducible exact ka.out) | (with_reducible exact Kd.C_drewN ka.out _) | (with_reducible exact Kd.C_drew ka.out) | repeat (first | (with_reducible exact ka.out) | (with_reducible refine Kd.C_alloc ?_ _) | (with_reducible refine Kd.C_drewN ?_ _) | (with_reducible refine Kd.C_drew ?_) | exact ka.out)) hb)
                replace ma := aM_ (Kd.C_below (by first | (with_reducible exact ma.out) | (with_reducible exact Kd.C_drewN ma.out _) | (with_reducible exact Kd.C_drew ma.out) | repeat (first | (with_reducible exact ma.out) | (with_reducible refine Kd.C_alloc ?_ _) | (with_reducible refine Kd.C_drewN ?_ _) | (with_reducible refine Kd.C_drew ?_) | exact ma.out)) hb)
                replace HB := aM_ (below_step (by repeat (first | (with_reducible first | exact HB.out | apply bA_ | apply bN_ | apply bD_ | refine bS_ ?_ (IsS52.ge ea.out) | refine bS_ ?_ xa.out | refine bS_ ?_ Aa.out | refine bS_ ?_ Fa.out) | exact HB.out)) hb)
                replace ea := aM_ (IsS52.below (by repeat (first | (with_reducible first | exact ea.out | apply IsS52.alloc | apply IsS52.drewN | apply IsS52.drew | apply IsS52.set_1 | refine IsS52.far ?_ ja.out _ | refine IsS52.far ?_ la.out _ | refine IsS52.far ?_ Ba.out _) | exact ea.out)) hb)
                clear hb Jb
                refine hK.out _ _ ⟨bc_ ga.out 0, bc_ ga.out 1, bc_ ba.out 0, bc_ ba.out 1, bc_ ba.out 2, bc_ ba.out 3, bc_ ba.out 4, bc_ ba.out 5, bc_ ba.out 6, bc_ ba.out 7, bc_ ba.out 8⟩ (fun hHeld => ?_)
                clear hK K
                refine nO_ 72 ?_
                refine one_ (i := 0) (N := some 65) (bo_ 16 7903) rfl rfl (one_of HT_.out (by kernel_rfl)) (by decide) (fun K hK => ?_)
                refine Kd.R_lit_step k35 _ 35 ?hg (N := 65) ?hd (xs := ([] : List (S35))) (inner := []) (ok := fun _ => True) (okp := fun _ => True) ?hr ?hp (fun _ hk => hk) trivial (Below.refl _ _) (Nat.le_refl _) (by simp) ?_; (case hd => rfl); (case hg => rfl); (case hr => first | (go_simp; done) | (go_simp; rfl)); (case hp => exact (Reps.none _ _))
                intro Ac Ud qb hb hg_ hnew_
                clear hg_ hnew_
                (first | rw [← Ny256.out] at qb | (simp only [Int.reduceToNat] at qb; rw [← Ny256.out] at qb))
                have La := aM_ (Kd.R_lower (Kd.R_newB (Kd.R_new' (Kd.R_new' qb (Kd.R_lt (bk_ da.out))) (Kd.R_lt (bk_ Ka.out))) (g := fa) (o := .cells #[.string na, .string oa, .int .u64 pa, .int .i64 qa, .int .i64 ra, .int .i64 sa, .int .i64 ua, .int .i64 wa, .int .i64 ya] 35 (0, 0)) (bk_ ba.out)) (below_size (by repeat (first | (with_reducible first | exact HB.out | apply bA_ | apply bN_ | apply bD_ | refine bS_ ?_ (IsS52.ge ea.out) | refine bS_ ?_ xa.out | refine bS_ ?_ Aa.out | refine bS_ ?_ Fa.out) | exact HB.out))))
                replace da := aM_ (Kd.R_elder' (bk_ da.out) (Kd.R_base qb) hb)
                replace Ka := aM_ (Kd.R_elder' (bk_ Ka.out) (Kd.R_base qb) hb)
                replace ia := aM_ (blk_below (g := za) (o := .cells #[.string (⟨#[]⟩ : ByteArray), .slice none 0 0] 24 (0, 0)) (bk_ ia.out) hb)
                replace ga := aM_ (blk_below (g := ta) (o := .cells #[.string va, .slice Da aa.length Ea] 24 (0, 0)) (bk_ ga.out) hb)
                replace ba := aM_ (blk_below (g := fa) (o := .cells #[.string na, .string oa, .int .u64 pa, .int .i64 qa, .int .i64 ra, .int .i64 sa, .int .i64 ua, .int .i64 wa, .int .i64 ya] 35 (0, 0)) (bk_ ba.out) hb)
                replace ka := aM_ (Kd.C_below (by first | (with_reducible exact ka.out) | (with_reducible exact Kd.C_drewN ka.out _) | (with_reducible exact Kd.C_drew ka.out) | repeat (first | (with_reducible exact ka.out) | (with_reducible refine Kd.C_alloc ?_ _) | (with_reducible refine Kd.C_drewN ?_ _) | (with_reducible refine Kd.C_drew ?_) | exact ka.out)) hb)
                replace ma := aM_ (Kd.C_below (by first | (with_reducible exact ma.out) | (with_reducible exact Kd.C_drewN ma.out _) | (with_reducible exact Kd.C_drew ma.out) | repeat (first | (with_reducible exact ma.out) | (with_reducible refine Kd.C_alloc ?_ _) | (with_reducible refine Kd.C_drewN ?_ _) | (with_reducible refine Kd.C_drew ?_) | exact ma.out)) hb)
                replace HB := aM_ (below_step (by repeat (first | (with_reducible first | exact HB.out | apply bA_ | apply bN_ | apply bD_ | refine bS_ ?_ (IsS52.ge ea.out) | refine bS_ ?_ xa.out | refine bS_ ?_ Aa.out | refine bS_ ?_ Fa.out) | exact HB.out)) hb)
                replace ea := aM_ (IsS52.below (by repeat (first | (with_reducible first | exact ea.out | apply IsS52.alloc | apply IsS52.drewN | apply IsS52.drew | apply IsS52.set_1 | refine IsS52.far ?_ ja.out _ | refine IsS52.far ?_ la.out _ | refine IsS52.far ?_ Ba.out _) | exact ea.out)) hb)
                clear hb qb
                refine hK.out _ _ ⟨bc_ ga.out 0, bc_ ga.out 1, bc_ ba.out 0, bc_ ba.out 1, bc_ ba.out 2, bc_ ba.out 3, bc_ ba.out 4, bc_ ba.out 5, bc_ ba.out 6, bc_ ba.out 7, bc_ ba.out 8⟩ (fun hHeld => ?_)
                clear hK K
                refine nO_ 65 ?_
                refine one_ (i := 5) (N := some 70) (bo_ 16 7935) rfl rfl (one_of HT_.out (by kernel_rfl)) (by decide) (fun K hK => ?_)
                refine Kd.R_append_rows_step k35 (w0 := w) w.heap.size (by rfl) (.tmp 65) (.tmp 69) 22 35 (.agg #[(.string ⟨#[]⟩), (.string ⟨#[]⟩), (.int .u64 0), (.int .i64 0), (.int .i64 0), (.int .i64 0), (.int .i64 0), (.int .i64 0), (.int .i64 0)]) 88 rfl Tryd.underlying22 info35 rfl (by decide) (by omega) Ac pb Ia _ _ _ (fun k_ => some k_ ≠ (.slice Da aa.length Ea : Value).ownBlock ∧ some k_ ≠ (Ya : Value).ownBlock ∧ k_ ≠ fa) (fun _ => False) rfl rfl ?aO ?aR (fun _ _ h => h) (fun _ h => h.elim) ?aF ?aB ?aS ?aL ?_
                (case aR => repeat (first | exact (by first | (with_reducible exact ka.out) | (with_reducible exact Kd.C_drewN ka.out _) | (with_reducible exact Kd.C_drew ka.out) | repeat (first | (with_reducible exact ka.out) | (with_reducible refine Kd.C_alloc ?_ _) | (with_reducible refine Kd.C_drewN ?_ _) | (with_reducible refine Kd.C_drew ?_) | exact ka.out)) | (with_reducible refine Kd.C_alloc ?_ _) | (with_reducible refine Kd.C_drewN ?_ _) | (with_reducible refine Kd.C_drew ?_)))
                (case aB => exact (by repeat (first | (with_reducible first | exact HB.out | apply bA_ | apply bN_ | apply bD_ | refine bS_ ?_ (IsS52.ge ea.out) | refine bS_ ?_ xa.out | refine bS_ ?_ Aa.out | refine bS_ ?_ Fa.out) | exact HB.out)))
                (case aF => exact (fun k_ hk => ⟨Kd.fresh' (Kd.R_lt (bk_ da.out)) k_ hk, Kd.fresh' (Kd.R_lt (bk_ Ka.out)) k_ hk, Kd.freshB (g := fa) (o := .cells #[.string na, .string oa, .int .u64 pa, .int .i64 qa, .int .i64 ra, .int .i64 sa, .int .i64 ua, .int .i64 wa, .int .i64 ya] 35 (0, 0)) (bk_ ba.out) k_ hk⟩))
                (case aO => exact (by refine bk_ ?_; exact Kd.R_mono La.out (fun _ hk => ⟨hk.1.1.2, ⟨hk.1.2, hk.2⟩⟩)))
                (case aS => exact (below_size (by repeat (first | (with_reducible first | exact HB.out | apply bA_ | apply bN_ | apply bD_ | refine bS_ ?_ (IsS52.ge ea.out) | refine bS_ ?_ xa.out | refine bS_ ?_ Aa.out | refine bS_ ?_ Fa.out) | exact HB.out))))
                (case aL => have := wd.out; omega)
                intro rc Ed ho hb hg hat
                rw [← Ny263.out] at ho
                replace ia := aM_ (blk_grown (g := za) (o := .cells #[.string (⟨#[]⟩ : ByteArray), .slice none 0 0] 24 (0, 0)) (bk_ ia.out) hg (Kd.R_ne La.out ia.out (by decide)))
                replace ga := aM_ (blk_grown (g := ta) (o := .cells #[.string va, .slice Da aa.length Ea] 24 (0, 0)) (bk_ ga.out) hg (Kd.R_ne La.out ga.out (by decide)))
                replace ba := aM_ (blk_grown (g := fa) (o := .cells #[.string na, .string oa, .int .u64 pa, .int .i64 qa, .int .i64 ra, .int .i64 sa, .int .i64 ua, .int .i64 wa, .int .i64 ya] 35 (0, 0)) (bk_ ba.out) hg (Kd.R_away La.out (fun _ hk => hk.2)))
                replace ea := aM_ (IsS52.grown (by repeat (first | (with_reducible first | exact ea.out | apply IsS52.alloc | apply IsS52.drewN | apply IsS52.drew | apply IsS52.set_1 | refine IsS52.far ?_ ja.out _ | refine IsS52.far ?_ la.out _ | refine IsS52.far ?_ Ba.out _) | exact ea.out)) hg (IsS52.own_ne ea.out La.out (by decide)))
                replace Ka := aM_ (Kd.R_after (ok := (fun k_ => some k_ ≠ (.slice Da aa.length Ea : Value).ownBlock ∧ k_ ≠ fa)) (by refine bk_ ?_; exact Kd.R_mono Ka.out (fun _ hk => ⟨⟨hk.1.1.2, hk.1.2⟩, hk.2⟩)) hg hat)
                replace HB := aM_ (hb)
                replace ka := aM_ ((show Kd.C k35 Ed Da Ia.length Ia from by rw [Ny259.out]; exact Kd.C_take (m := (ca : Int).toNat) ((Kd.R_reads' (Kd.R_after (ok := (fun k_ => some k_ ≠ (Ya : Value).ownBlock ∧ k_ ≠ fa)) (by refine bk_ ?_; exact Kd.R_mono da.out (fun _ hk => ⟨⟨hk.1.2, hk.1.1⟩, hk.2⟩)) hg hat)).2.2) KL50.out))
                replace ma := aM_ ((show Kd.C k35 Ed Zc Ca.length Ca from by rw [Ny272.out, KA52.out]; exact Kd.C_drop (m := (ca : Int).toNat) (c := Ea) ((Kd.R_reads' (Kd.R_after (ok := (fun k_ => some k_ ≠ (Ya : Value).ownBlock ∧ k_ ≠ fa)) (by refine bk_ ?_; exact Kd.R_mono da.out (fun _ hk => ⟨⟨hk.1.2, hk.1.1⟩, hk.2⟩)) hg hat)).2.2) KL52.out ((Kd.R_reads' (Kd.R_after (ok := (fun k_ => some k_ ≠ (Ya : Value).ownBlock ∧ k_ ≠ fa)) (by refine bk_ ?_; exact Kd.R_mono da.out (fun _ hk => ⟨⟨hk.1.2, hk.1.1⟩, hk.2⟩)) hg hat)).2.1)))
                replace da := aM_ (Kd.R_after (ok := (fun k_ => some k_ ≠ (Ya : Value).ownBlock ∧ k_ ≠ fa)) (by refine bk_ ?_; exact Kd.R_mono da.out (fun _ hk => ⟨⟨hk.1.2, hk.1.1⟩, hk.2⟩)) hg hat)
                have Xa := aM_ (ho)
                clear La
                clear ho hb hg hat
                refine hK.out _ _ ⟨bc_ ga.out 0, bc_ ga.out 1, bc_ ba.out 0, bc_ ba.out 1, bc_ ba.out 2, bc_ ba.out 3, bc_ ba.out 4, bc_ ba.out 5, bc_ ba.out 6, bc_ ba.out 7, bc_ ba.out 8⟩ (fun hHeld => ?_)
                clear hK K
                refine nO_ 70 ?_
                exact norm_ (by simp only [putAll, Act.put, sA_, sB_, sC_]) (hCont (Ac, rc, Ya) _ ⟨hHeld, (by refine bk_ ?_; exact Kd.R_mono Xa.out (fun _ hk => ⟨hk.2.1, ⟨hk.1, hk.2.2⟩⟩)), (by refine bk_ ?_; exact Kd.R_mono Ka.out (fun _ hk => ⟨hk.2, ⟨hk.1.1, hk.1.2⟩⟩)), (by refine bk_ ?_; exact Kd.R_mono da.out (fun _ hk => ⟨hk.2, ⟨hk.1.1, hk.1.2⟩⟩)), (bk_ ia.out), (bk_ ga.out), (bk_ ba.out), (by repeat (first | (with_reducible first | exact ea.out | apply IsS52.alloc | apply IsS52.drewN | apply IsS52.drew | apply IsS52.set_1 | refine IsS52.far ?_ ja.out _ | refine IsS52.far ?_ la.out _ | refine IsS52.far ?_ Ba.out _) | exact ea.out)), (by first | (with_reducible exact ka.out) | (with_reducible exact Kd.C_drewN ka.out _) | (with_reducible exact Kd.C_drew ka.out) | repeat (first | (with_reducible exact ka.out) | (with_reducible refine Kd.C_alloc ?_ _) | (with_reducible refine Kd.C_drewN ?_ _) | (with_reducible refine Kd.C_drew ?_) | exact ka.out)), (by first | (with_reducible exact ma.out) | (with_reducible exact Kd.C_drewN ma.out _) | (with_reducible exact Kd.C_drew ma.out) | repeat (first | (with_reducible exact ma.out) | (with_reducible refine Kd.C_alloc ?_ _) | (with_reducible refine Kd.C_drewN ?_ _) | (with_reducible refine Kd.C_drew ?_) | exact ma.out)), (by repeat (first | (with_reducible first | exact HB.out | apply bA_ | apply bN_ | apply bD_ | refine bS_ ?_ (IsS52.ge ea.out) | refine bS_ ?_ xa.out | refine bS_ ?_ Aa.out | refine bS_ ?_ Fa.out) | exact HB.out))⟩)
               rintro ⟨Ac, rc, Ya⟩ ob ⟨hS_, h0_, h1_, h2_, Oe, Pe, Qe, Re, Se, Te, Ue⟩
               have Ve : Aside0 (Kd.R k35 35 ob w.heap.size (fun k_ => some k_ ≠ (Ya : Value).ownBlock ∧ some k_ ≠ (.slice Da aa.length Ea : Value).ownBlock ∧ k_ ≠ fa) rc Ta) := ⟨h0_⟩
               have We : Aside0 (Kd.R k35 35 ob w.heap.size (fun k_ => some k_ ≠ (rc : Value).ownBlock ∧ some k_ ≠ (.slice Da aa.length Ea : Value).ownBlock ∧ k_ ≠ fa) Ya Ja) := ⟨h1_⟩
               have Xe : Aside0 (Kd.R k35 35 ob w.heap.size (fun k_ => some k_ ≠ (rc : Value).ownBlock ∧ some k_ ≠ (Ya : Value).ownBlock ∧ k_ ≠ fa) (.slice Da aa.length Ea) aa) := ⟨h2_⟩
               have Ye : Aside0 (ob.heap[za]? = some (.cells #[.string (⟨#[]⟩ : ByteArray), .slice none 0 0] 24 (0, 0))) := ⟨Oe⟩
               have Ze : Aside0 (ob.heap[ta]? = some (.cells #[.string va, .slice Da aa.length Ea] 24 (0, 0))) := ⟨Pe⟩
               have af : Aside0 (ob.heap[fa]? = some (.cells #[.string na, .string oa, .int .u64 pa, .int .i64 qa, .int .i64 ra, .int .i64 sa, .int .i64 ua, .int .i64 wa, .int .i64 ya] 35 (0, 0))) := ⟨Qe⟩
               have bf : Aside0 (IsS52 w ob Ha l0 Wa) := ⟨Re⟩
               have cf : Aside0 (Kd.C k35 ob Da Ia.length Ia) := ⟨Se⟩
               have df : Aside0 (Kd.C k35 ob Zc Ca.length Ca) := ⟨Te⟩
               have ef : Aside0 (Below w.heap.size w ob) := ⟨Ue⟩
               clear da ia ga ba ea HB
               clear h0_ h1_ h2_ Oe Pe Qe Re Se Te Ue
               have Xa := Ve
               have Ka := We
               have da := Xe
               have ia := Ye
               have ga := Ze
               have ba := af
               have ea := bf
               have ka := cf
               have ma := df
               have HB := ef
               clear Ve We Xe Ye Ze af bf cf df ef
               have hHeld : ob.cell? ⟨ta, 0, none⟩ = some (.string va) ∧ ob.cell? ⟨ta, 1, none⟩ = some (.slice Da aa.length Ea) ∧ ob.cell? ⟨fa, 0, none⟩ = some (.string na) ∧ ob.cell? ⟨fa, 1, none⟩ = some (.string oa) ∧ ob.cell? ⟨fa, 2, none⟩ = some (.int .u64 pa) ∧ ob.cell? ⟨fa, 3, none⟩ = some (.int .i64 qa) ∧ ob.cell? ⟨fa, 4, none⟩ = some (.int .i64 ra) ∧ ob.cell? ⟨fa, 5, none⟩ = some (.int .i64 sa) ∧ ob.cell? ⟨fa, 6, none⟩ = some (.int .i64 ua) ∧ ob.cell? ⟨fa, 7, none⟩ = some (.int .i64 wa) ∧ ob.cell? ⟨fa, 8, none⟩ = some (.int .i64 ya) := hS_
               obtain ⟨sc, tc, ze⟩ := Kd.R_slice Ka.out
               (first | subst ze | (injection ze with f1_ f2_ f3_; have f4_ := f1_.symm; have f5_ := f3_.symm; clear f1_ f2_ f3_; subst f4_; subst f5_))
               refine nP_ ?_
               refine one_ (i := 8) (N := some 73) (bo_ 16 8191) rfl rfl (one_of HT_.out (by kernel_rfl)) (by decide) (fun K hK => ?_)
               refine Kd.R_append_rows_step k35 (w0 := w) w.heap.size (by rfl) (.tmp 70) (.tmp 72) 22 35 (.agg #[(.string ⟨#[]⟩), (.string ⟨#[]⟩), (.int .u64 0), (.int .i64 0), (.int .i64 0), (.int .i64 0), (.int .i64 0), (.int .i64 0), (.int .i64 0)]) 88 rfl Tryd.underlying22 info35 rfl (by decide) (by omega) rc Ta Ja _ _ _ (fun k_ => some k_ ≠ (.slice Da aa.length Ea : Value).ownBlock ∧ some k_ ≠ (.slice sc Ja.length tc : Value).ownBlock ∧ k_ ≠ fa) (fun _ => False) rfl rfl ?aO ?aR (fun _ _ h => h) (fun _ h => h.elim) ?aF ?aB ?aS ?aL ?_
               (case aR => repeat (first | exact (Kd.R_reads' Ka.out).2.2 | (with_reducible refine Kd.C_alloc ?_ _) | (with_reducible refine Kd.C_drewN ?_ _) | (with_reducible refine Kd.C_drew ?_)))
               (case aB => exact (by repeat (first | (with_reducible first | exact HB.out | apply bA_ | apply bN_ | apply bD_ | refine bS_ ?_ (IsS52.ge ea.out) | refine bS_ ?_ xa.out | refine bS_ ?_ Aa.out | refine bS_ ?_ Fa.out) | exact HB.out)))
               (case aF => exact (fun k_ hk => ⟨Kd.fresh' (Kd.R_lt (bk_ da.out)) k_ hk, Kd.fresh' (Kd.R_lt (bk_ Ka.out)) k_ hk, Kd.freshB (g := fa) (o := .cells #[.string na, .string oa, .int .u64 pa, .int .i64 qa, .int .i64 ra, .int .i64 sa, .int .i64 ua, .int .i64 wa, .int .i64 ya] 35 (0, 0)) (bk_ ba.out) k_ hk⟩))
               (case aO => exact (by refine bk_ ?_; exact Kd.R_mono Xa.out (fun _ hk => ⟨hk.2.1, ⟨hk.1, hk.2.2⟩⟩)))
               (case aS => exact (below_size (by repeat (first | (with_reducible first | exact HB.out | apply bA_ | apply bN_ | apply bD_ | refine bS_ ?_ (IsS52.ge ea.out) | refine bS_ ?_ xa.out | refine bS_ ?_ Aa.out | refine bS_ ?_ Fa.out) | exact HB.out))))
               (case aL => have := Ie.out; omega)
               intro vf ff ho hb hg hat
               rw [← Ny269.out] at ho
               replace ia := aM_ (blk_grown (g := za) (o := .cells #[.string (⟨#[]⟩ : ByteArray), .slice none 0 0] 24 (0, 0)) (bk_ ia.out) hg (Kd.R_ne Xa.out ia.out (by decide)))
               replace ga := aM_ (blk_grown (g := ta) (o := .cells #[.string va, .slice Da aa.length Ea] 24 (0, 0)) (bk_ ga.out) hg (Kd.R_ne Xa.out ga.out (by decide)))
               replace ba := aM_ (blk_grown (g := fa) (o := .cells #[.string na, .string oa, .int .u64 pa, .int .i64 qa, .int .i64 ra, .int .i64 sa, .int .i64 ua, .int .i64 wa, .int .i64 ya] 35 (0, 0)) (bk_ ba.out) hg (Kd.R_away Xa.out (fun _ hk => hk.2.2)))
               replace ea := aM_ (IsS52.grown (by repeat (first | (with_reducible first | exact ea.out | apply IsS52.alloc | apply IsS52.drewN | apply IsS52.drew | apply IsS52.set_1 | refine IsS52.far ?_ ja.out _ | refine IsS52.far ?_ la.out _ | refine IsS52.far ?_ Ba.out _) | exact ea.out)) hg (IsS52.own_ne ea.out Xa.out (by decide)))
               replace Ka := aM_ (Kd.R_after (ok := (fun k_ => some k_ ≠ (.slice Da aa.length Ea : Value).ownBlock ∧ k_ ≠ fa)) (by refine bk_ ?_; exact Kd.R_mono Ka.out (fun _ hk => ⟨⟨hk.2.1, hk.2.2⟩, hk.1⟩)) hg hat)
               replace HB := aM_ (hb)
               replace ka := aM_ ((show Kd.C k35 ff Da Ia.length Ia from by rw [Ny259.out]; exact Kd.C_take (m := (ca : Int).toNat) ((Kd.R_reads' (Kd.R_after (ok := (fun k_ => some k_ ≠ (.slice sc Ja.length tc : Value).ownBlock ∧ k_ ≠ fa)) (by refine bk_ ?_; exact Kd.R_mono da.out (fun _ hk => ⟨⟨hk.2.1, hk.2.2⟩, hk.1⟩)) hg hat)).2.2) KL50.out))
               replace ma := aM_ ((show Kd.C k35 ff Zc Ca.length Ca from by rw [Ny272.out, KA52.out]; exact Kd.C_drop (m := (ca : Int).toNat) (c := Ea) ((Kd.R_reads' (Kd.R_after (ok := (fun k_ => some k_ ≠ (.slice sc Ja.length tc : Value).ownBlock ∧ k_ ≠ fa)) (by refine bk_ ?_; exact Kd.R_mono da.out (fun _ hk => ⟨⟨hk.2.1, hk.2.2⟩, hk.1⟩)) hg hat)).2.2) KL52.out ((Kd.R_reads' (Kd.R_after (ok := (fun k_ => some k_ ≠ (.slice sc Ja.length tc : Value).ownBlock ∧ k_ ≠ fa)) (by refine bk_ ?_; exact Kd.R_mono da.out (fun _ hk => ⟨⟨hk.2.1, hk.2.2⟩, hk.1⟩)) hg hat)).2.1)))
               replace da := aM_ (Kd.R_after (ok := (fun k_ => some k_ ≠ (.slice sc Ja.length tc : Value).ownBlock ∧ k_ ≠ fa)) (by refine bk_ ?_; exact Kd.R_mono da.out (fun _ hk => ⟨⟨hk.2.1, hk.2.2⟩, hk.1⟩)) hg hat)
               have Cc := aM_ (ho)
               clear Xa
               clear ho hb hg hat
               refine hK.out _ _ ⟨bc_ ga.out 0, bc_ ga.out 1, bc_ ba.out 0, bc_ ba.out 1, bc_ ba.out 2, bc_ ba.out 3, bc_ ba.out 4, bc_ ba.out 5, bc_ ba.out 6, bc_ ba.out 7, bc_ ba.out 8⟩ (fun hHeld => ?_)
               clear hK K
               refine nO_ 73 ?_
               refine one_ (i := 13) (N := some 78) (bo_ 16 16383) rfl rfl (one_of HT_.out (by kernel_rfl)) (by decide) (fun K hK => ?_)
               refine Kd.R_append_rows_step k35 (w0 := w) w.heap.size (by rfl) (.tmp 73) (.tmp 77) 22 35 (.agg #[(.string ⟨#[]⟩), (.string ⟨#[]⟩), (.int .u64 0), (.int .i64 0), (.int .i64 0), (.int .i64 0), (.int .i64 0), (.int .i64 0), (.int .i64 0)]) 88 rfl Tryd.underlying22 info35 rfl (by decide) (by omega) vf Qa Ca _ _ _ (fun k_ => some k_ ≠ (.slice Da aa.length Ea : Value).ownBlock ∧ some k_ ≠ (.slice sc Ja.length tc : Value).ownBlock ∧ k_ ≠ fa) (fun _ => False) rfl rfl ?aO ?aR (fun _ _ h => h) (fun _ h => h.elim) ?aF ?aB ?aS ?aL ?_
               (case aR => repeat (first | exact (by first | (with_reducible exact ma.out) | (with_reducible exact Kd.C_drewN ma.out _) | (with_reducible exact Kd.C_drew ma.out) | repeat (first | (with_reducible exact ma.out) | (with_reducible refine Kd.C_alloc ?_ _) | (with_reducible refine Kd.C_drewN ?_ _) | (with_reducible refine Kd.C_drew ?_) | exact ma.out)) | (with_reducible refine Kd.C_alloc ?_ _) | (with_reducible refine Kd.C_drewN ?_ _) | (with_reducible refine Kd.C_drew ?_)))
               (case aB => exact (by repeat (first | (with_reducible first | exact HB.out | apply bA_ | apply bN_ | apply bD_ | refine bS_ ?_ (IsS52.ge ea.out) | refine bS_ ?_ xa.out | refine bS_ ?_ Aa.out | refine bS_ ?_ Fa.out) | exact HB.out)))
               (case aF => exact (fun k_ hk => ⟨Kd.fresh' (Kd.R_lt (bk_ da.out)) k_ hk, Kd.fresh' (Kd.R_lt (bk_ Ka.out)) k_ hk, Kd.freshB (g := fa) (o := .cells #[.string na, .string oa, .int .u64 pa, .int .i64 qa, .int .i64 ra, .int .i64 sa, .int .i64 ua, .int .i64 wa, .int .i64 ya] 35 (0, 0)) (bk_ ba.out) k_ hk⟩))
               (case aO => exact (bk_ Cc.out))
               (case aS => exact (below_size (by repeat (first | (with_reducible first | exact HB.out | apply bA_ | apply bN_ | apply bD_ | refine bS_ ?_ (IsS52.ge ea.out) | refine bS_ ?_ xa.out | refine bS_ ?_ Aa.out | refine bS_ ?_ Fa.out) | exact HB.out))))
               (case aL => have := Je.out; omega)
               intro Kg Ae ho hb hg hat
               rw [← Ny276.out] at ho
               replace ia := aM_ (blk_grown (g := za) (o := .cells #[.string (⟨#[]⟩ : ByteArray), .slice none 0 0] 24 (0, 0)) (bk_ ia.out) hg (Kd.R_ne Cc.out ia.out (by decide)))
               replace ga := aM_ (blk_grown (g := ta) (o := .cells #[.string va, .slice Da aa.length Ea] 24 (0, 0)) (bk_ ga.out) hg (Kd.R_ne Cc.out ga.out (by decide)))
               replace ba := aM_ (blk_grown (g := fa) (o := .cells #[.string na, .string oa, .int .u64 pa, .int .i64 qa, .int .i64 ra, .int .i64 sa, .int .i64 ua, .int .i64 wa, .int .i64 ya] 35 (0, 0)) (bk_ ba.out) hg (Kd.R_away Cc.out (fun _ hk => hk.2.2)))
               replace ea := aM_ (IsS52.grown (by repeat (first | (with_reducible first | exact ea.out | apply IsS52.alloc | apply IsS52.drewN | apply IsS52.drew | apply IsS52.set_1 | refine IsS52.far ?_ ja.out _ | refine IsS52.far ?_ la.out _ | refine IsS52.far ?_ Ba.out _) | exact ea.out)) hg (IsS52.own_ne ea.out Cc.out (by decide)))
               replace Ka := aM_ (Kd.R_after (ok := (fun k_ => some k_ ≠ (.slice Da aa.length Ea : Value).ownBlock ∧ k_ ≠ fa)) (bk_ Ka.out) hg hat)
               replace HB := aM_ (hb)
               replace ka := aM_ ((show Kd.C k35 Ae Da Ia.length Ia from by rw [Ny259.out]; exact Kd.C_take (m := (ca : Int).toNat) ((Kd.R_reads' (Kd.R_after (ok := (fun k_ => some k_ ≠ (.slice sc Ja.length tc : Value).ownBlock ∧ k_ ≠ fa)) (bk_ da.out) hg hat)).2.2) KL50.out))
               replace ma := aM_ ((show Kd.C k35 Ae Zc Ca.length Ca from by rw [Ny272.out, KA52.out]; exact Kd.C_drop (m := (ca : Int).toNat) (c := Ea) ((Kd.R_reads' (Kd.R_after (ok := (fun k_ => some k_ ≠ (.slice sc Ja.length tc : Value).ownBlock ∧ k_ ≠ fa)) (bk_ da.out) hg hat)).2.2) KL52.out ((Kd.R_reads' (Kd.R_after (ok := (fun k_ => some k_ ≠ (.slice sc Ja.length tc : Value).ownBlock ∧ k_ ≠ fa)) (bk_ da.out) hg hat)).2.1)))
               replace da := aM_ (Kd.R_after (ok := (fun k_ => some k_ ≠ (.slice sc Ja.length tc : Value).ownBlock ∧ k_ ≠ fa)) (bk_ da.out) hg hat)
               have Vd := aM_ (ho)
               clear Cc
               clear ho hb hg hat
               obtain ⟨Be, Ce, De⟩ := Kd.R_slice Vd.out
               (first | subst De | (injection De with f1_ f2_ f3_; have f4_ := f1_.symm; have f5_ := f3_.symm; clear f1_ f2_ f3_; subst f4_; subst f5_))
               refine hK.out _ _ ⟨bc_ ga.out 0, bc_ ga.out 1, bc_ ba.out 0, bc_ ba.out 1, bc_ ba.out 2, bc_ ba.out 3, bc_ ba.out 4, bc_ ba.out 5, bc_ ba.out 6, bc_ ba.out 7, bc_ ba.out 8⟩ (fun hHeld => ?_)
               clear hK K
               refine nO_ 78 ?_
               refine pU_ 14 (some 79) (bo_ 16 32767) ?_
               refine last_ (i := 15) (N := none) (bo_ 16 65535) rfl rfl (one_of HT_.out (by kernel_rfl)) (by decide) (fun K hK => ?_)
               have hs63 : Ae.cell? ⟨ta, 1, none⟩ = some (.slice Da aa.length Ea) := bc_ ga.out 1
               have hfs63 := blk_frozen ga.out 1
               have hns63_0 := Za.out
               have hns63_2 := Wc.out
               have hms63_0 := qc.out
               have hms63_2 := Oa.out
               refine skip_ (w1 := ?_) (by rfl) rfl ?_ ?_
               rotate_left; (· go_simp; rfl)
               refine hK.out _ _ ?_
               clear hK K
               refine done_ (done_of HT_.out (by kernel_rfl)) ?_
               try go_wp2
               go_roundg oc
               case measure => have := Dc.out; have := xc.out; have := Xc.out; have := vd.out; omega
               case rel => exact ⟨(Wa), (xd), (.slice Be xd.length Ce), H', ⟨by have := Dc.out; have := xc.out; have := Xc.out; have := vd.out; omega⟩, ⟨by refine bk_ ?_; exact Kd.R_mono (Kd.R_far (p := ⟨ta, 1, none⟩) (Kd.R_types Vd.out ga.out (by decide)) (fun _ hk => hk.2) (.slice Be xd.length Ce)) (fun _ hk => trivial)⟩, ⟨by refine bk_ ?_; refine blk_far ?_ Za.out _; refine bk_ ?_; exact ia.out⟩, ⟨by refine bk_ ?_; refine blk_put (cs := #[.string va, .slice Da aa.length Ea]) ?_ 1 _ rfl; refine bk_ ?_; exact ga.out⟩, ⟨by repeat (first | (with_reducible first | exact ea.out | apply IsS52.alloc | apply IsS52.drewN | apply IsS52.drew | apply IsS52.set_1 | refine IsS52.far ?_ ja.out _ | refine IsS52.far ?_ la.out _ | refine IsS52.far ?_ Ba.out _) | exact ea.out)⟩, ⟨by repeat (first | (with_reducible first | exact HB.out | apply bA_ | apply bN_ | apply bD_ | refine bS_ ?_ (IsS52.ge ea.out) | refine bS_ ?_ xa.out | refine bS_ ?_ Aa.out | refine bS_ ?_ Fa.out) | exact HB.out)⟩⟩
              rw [if_neg Rd] at H
              exact absurd H (by simp)
             rw [if_neg Qd] at H
             exact absurd H (by simp)
            rw [if_neg Pd] at H
            exact absurd H (by simp)
           rw [if_neg Dd] at H
           exact absurd H (by simp)
          rw [if_neg Cd] at H
          exact absurd H (by simp)
     replace yd := Bool.eq_false_iff.mpr yd
     subst yd
     have H1 : (some (va, aa)) = some (r1, r2) := by rw [if_neg (show ¬ (false = true) by decide)] at H; exact H
     clear H
     have H := H1
     clear H1
     simp only [Option.some.injEq, Prod.mk.injEq] at H
     obtain ⟨rfl, rfl⟩ := H
     have qg := qc.out
     have rg := Za.out
     have sg := sb.out
     have tg := la.out
     have xf := bc_ ga.out 0
     have yf := bc_ ga.out 1
     have zf := blk_frozen ga.out 0
     have Af := blk_frozen ga.out 1
     have ug := pc.out
     have vg := ja.out
     have Bf := bc_ ia.out 0
     have Cf := bc_ ia.out 1
     have Df := blk_frozen ia.out 0
     have Ef := blk_frozen ia.out 1
     obtain ⟨Ee, Fe, wf⟩ := Kd.R_slice da.out
     subst wf
     go_wp2
     refine bodyPost_ret (results_cell_row rfl _ _ za 24 #[.string va, .slice Ee aa.length Fe] (0, 0) _ rfl (by refine bk_ ?_; refine blk_put (cs := #[.string va, .slice none 0 0]) ?_ 1 _ rfl; refine bk_ ?_; refine blk_put (cs := #[.string (⟨#[]⟩ : ByteArray), .slice none 0 0]) ?_ 0 _ rfl; refine bk_ ?_; exact ia.out) Tryd.underlying24 rfl (by kernel_rfl)) rfl ?_
     exact ⟨_, eW_, by refine bk_ ?_; exact Kd.R_mono (Kd.R_far (p := ⟨za, 1, none⟩) (Kd.R_far (p := ⟨za, 0, none⟩) (Kd.R_types da.out ia.out (by decide)) (fun _ hk => hk.2) (.string va)) (fun _ hk => hk.2) (.slice Ee aa.length Fe)) (fun _ hk => trivial), by repeat (first | (with_reducible first | exact HB.out | apply bA_ | apply bN_ | apply bD_ | refine bS_ ?_ (IsS52.ge ea.out) | refine bS_ ?_ xa.out | refine bS_ ?_ Aa.out) | exact HB.out)⟩

end Go.Proofs.YthfdfoigoomaoaaDoor.PDb
