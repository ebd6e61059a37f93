/- The walks of functions of the translation: each call returns what the plain function beside it says. -/
import Derived.Test.YthfdfoigoomaoaaDoorPDbx0
import Derived.Test.YthfdfoigoomaoaaDoorPDbx4
import Derived.Test.YthfdfoigoomaoaaDoorPDbx5
import Derived.Test.YthfdfoigoomaoaaDoorPDbx6
import Derived.Test.YthfdfoigoomaoaaDoorPDbx7
namespace Go.Proofs.YthfdfoigoomaoaaDoor.PDb
open Go.RowKit Go.Proofs.YthfdfoigoomaoaaDoorW.PrintWords Go.Proofs.YthfdfoigoomaoaaDoorW.PrintLast Go.Proofs.YthfdfoigoomaoaaDoorW.PrintMore Go.Proofs.YthfdfoigoomaoaaDoor.Aid
attribute [local go_sem] max2_int min2_int max_two min_two max_three min_three max_four min_four aid_str_gtr aid_str_leq   -- for this text's walks alone
set_option linter.unusedVariables false
set_option linter.unusedSimpArgs false

/-! ### kerbsuitedata_Database: function 9 -/
mutual
def kerbsuitedata_Database.l0 : Nat → List Int → Int → ByteArray → List (S35) → Option (ByteArray × (List (S35)))
 | 0, _, _, _, _ => none
 | k + 1, x224000, x224001, x226000, x226001 => (kerbsuitedata_Source_More.f x224000 x224001).bind fun bt226 => (if bt226.1 = true then (kerbsuitedata_Database.j1 k (decide ((x226001.length : Int) < 60)) x224000 bt226.2 x226000 x226001) else (kerbsuitedata_Database.j1 k false x224000 bt226.2 x226000 x226001))
def kerbsuitedata_Database.j1 : Nat → Bool → List Int → Int → ByteArray → List (S35) → Option (ByteArray × (List (S35)))
 | 0, _, _, _, _, _ => none
 | k + 1, x22, x224000, x224001, x226000, x226001 => if x22 = true then ((kerbsuitedata_Entry.f k x224000 x224001).bind fun bt228 => (kerbsuitedata_Database.l1 k 0 x224000 bt228.2.2.2.2.2.2.2.2.2 x226000 x226001 bt228.1 bt228.2.1 bt228.2.2.1 bt228.2.2.2.1 bt228.2.2.2.2.1 bt228.2.2.2.2.2.1 bt228.2.2.2.2.2.2.1 bt228.2.2.2.2.2.2.2.1 bt228.2.2.2.2.2.2.2.2.1)) else (some (x226000, x226001))
def kerbsuitedata_Database.l1 : Nat → Int → List Int → Int → ByteArray → List (S35) → ByteArray → ByteArray → Int → Int → Int → Int → Int → Int → Int → Option (ByteArray × (List (S35)))
 | 0, _, _, _, _, _, _, _, _, _, _, _, _, _, _ => none
 | k + 1, x8, x224000, x224001, x226000, x226001, x239000, x239001, x239002, x239003, x239004, x239005, x239006, x239007, x239008 => if x8 < (x226001.length : Int) then (if 0 ≤ x8 then (if (Op.bytesLess (((rd_T35 x226001 x8).f0).toList) x239000.toList) = true then (kerbsuitedata_Database.j3 k x8 true x224000 x224001 x226000 x226001 x239000 x239001 x239002 x239003 x239004 x239005 x239006 x239007 x239008) else (if ((rd_T35 x226001 x8).f0).toList = x239000.toList then (kerbsuitedata_Database.j3 k x8 (!(Op.bytesLess x239001.toList (((rd_T35 x226001 x8).f1).toList))) x224000 x224001 x226000 x226001 x239000 x239001 x239002 x239003 x239004 x239005 x239006 x239007 x239008) else (kerbsuitedata_Database.j3 k x8 false x224000 x224001 x226000 x226001 x239000 x239001 x239002 x239003 x239004 x239005 x239006 x239007 x239008))) else (none)) else (kerbsuitedata_Database.j3 k x8 false x224000 x224001 x226000 x226001 x239000 x239001 x239002 x239003 x239004 x239005 x239006 x239007 x239008)
def kerbsuitedata_Database.j3 : Nat → Int → Bool → List Int → Int → ByteArray → List (S35) → ByteArray → ByteArray → Int → Int → Int → Int → Int → Int → Int → Option (ByteArray × (List (S35)))
 | 0, _, _, _, _, _, _, _, _, _, _, _, _, _, _, _ => none
 | k + 1, x8, x62, x224000, x224001, x226000, x226001, x239000, x239001, x239002, x239003, x239004, x239005, x239006, x239007, x239008 => if x62 = true then (kerbsuitedata_Database.l1 k (wrap64 (x8 + 1)) x224000 x224001 x226000 x226001 x239000 x239001 x239002 x239003 x239004 x239005 x239006 x239007 x239008) else ((some (([] : List (S35)) : List (S35))).bind fun y242 => (if 0 ≤ x8 then (if x8 ≤ (x226001.length : Int) then ((some (x226001.take (x8 : Int).toNat : List (S35))).bind fun y245 => (if y242.length + y245.length < 1599289640401 then ((some (y242 ++ y245 : List (S35))).bind fun y249 => ((some (([(⟨x239000, x239001, x239002, x239003, x239004, x239005, x239006, x239007, x239008⟩ : S35)] : List (S35)) : List (S35))).bind fun y252 => (if y249.length + y252.length < 1599289640401 then ((some (y249 ++ y252 : List (S35))).bind fun y255 => ((some (x226001.drop (x8 : Int).toNat : List (S35))).bind fun y258 => (if y255.length + y258.length < 1599289640401 then (kerbsuitedata_Database.l0 k x224000 x224001 x226000 (y255 ++ y258)) else (none)))) else (none)))) else (none))) else (none)) else (none)))
end
def kerbsuitedata_Database.f (k : Nat) (l0 : List Int) (a1 : Int) : Option (ByteArray × (List (S35))) := (kerbsuitedata_Realm.f a1).bind fun t224 => (kerbsuitedata_Database.l0 k l0 0 t224 ([] : List (S35)))
theorem kerbsuitedata_Database.mono_l : ∀ k, (∀ y0 y1 y2 y3, LeO (kerbsuitedata_Database.l0 k y0 y1 y2 y3) (kerbsuitedata_Database.l0 (k + 1) y0 y1 y2 y3)) ∧ (∀ y0 y1 y2 y3 y4, LeO (kerbsuitedata_Database.j1 k y0 y1 y2 y3 y4) (kerbsuitedata_Database.j1 (k + 1) y0 y1 y2 y3 y4)) ∧ (∀ y0 y1 y2 y3 y4 y5 y6 y7 y8 y9 y10 y11 y12 y13, LeO (kerbsuitedata_Database.l1 k y0 y1 y2 y3 y4 y5 y6 y7 y8 y9 y10 y11 y12 y13) (kerbsuitedata_Database.l1 (k + 1) y0 y1 y2 y3 y4 y5 y6 y7 y8 y9 y10 y11 y12 y13)) ∧ (∀ y0 y1 y2 y3 y4 y5 y6 y7 y8 y9 y10 y11 y12 y13 y14, LeO (kerbsuitedata_Database.j3 k y0 y1 y2 y3 y4 y5 y6 y7 y8 y9 y10 y11 y12 y13 y14) (kerbsuitedata_Database.j3 (k + 1) y0 y1 y2 y3 y4 y5 y6 y7 y8 y9 y10 y11 y12 y13 y14))
 | 0 => ⟨fun _ _ _ _ r h => by simp [kerbsuitedata_Database.l0] at h, fun _ _ _ _ _ r h => by simp [kerbsuitedata_Database.j1] at h, fun _ _ _ _ _ _ _ _ _ _ _ _ _ _ r h => by simp [kerbsuitedata_Database.l1] at h, fun _ _ _ _ _ _ _ _ _ _ _ _ _ _ _ r h => by simp [kerbsuitedata_Database.j3] at h⟩
 | k + 1 => by
  obtain ⟨ih0, ih1, ih2, ih3⟩ := kerbsuitedata_Database.mono_l k
  refine ⟨?_, ?_, ?_, ?_⟩
  ·intro y0 y1 y2 y3
   unfold kerbsuitedata_Database.l0
   repeat' first
   | (with_reducible exact ih0 _ _ _ _)
   | (with_reducible exact ih1 _ _ _ _ _)
   | (with_reducible exact ih2 _ _ _ _ _ _ _ _ _ _ _ _ _ _)
   | (with_reducible exact ih3 _ _ _ _ _ _ _ _ _ _ _ _ _ _ _)
   | (with_reducible exact kerbsuitedata_Entry.mono _ _ _)
   | (with_reducible exact LeO.refl _)
   | (with_reducible exact LeO.none _)
   | (with_reducible refine LeO.ite ?_ ?_)
   | (with_reducible refine LeO.bind ?_ (fun _ => ?_))
   | exact ih0 _ _ _ _
   | exact ih1 _ _ _ _ _
   | exact ih2 _ _ _ _ _ _ _ _ _ _ _ _ _ _
   | exact ih3 _ _ _ _ _ _ _ _ _ _ _ _ _ _ _
   | exact kerbsuitedata_Entry.mono _ _ _
   | exact LeO.none _
   | refine LeO.ite ?_ ?_
   | refine LeO.bind ?_ (fun _ => ?_)
  ·intro y0 y1 y2 y3 y4
   unfold kerbsuitedata_Database.j1
   repeat' first
   | (with_reducible exact ih0 _ _ _ _)
   | (with_reducible exact ih1 _ _ _ _ _)
   | (with_reducible exact ih2 _ _ _ _ _ _ _ _ _ _ _ _ _ _)
   | (with_reducible exact ih3 _ _ _ _ _ _ _ _ _ _ _ _ _ _ _)
   | (with_reducible exact kerbsuitedata_Entry.mono _ _ _)
   | (with_reducible exact LeO.refl _)
   | (with_reducible exact LeO.none _)
   | (with_reducible refine LeO.ite ?_ ?_)
   | (with_reducible refine LeO.bind ?_ (fun _ => ?_))
   | exact ih0 _ _ _ _
   | exact ih1 _ _ _ _ _
   | exact ih2 _ _ _ _ _ _ _ _ _ _ _ _ _ _
   | exact ih3 _ _ _ _ _ _ _ _ _ _ _ _ _ _ _
   | exact kerbsuitedata_Entry.mono _ _ _
   | exact LeO.none _
   | refine LeO.ite ?_ ?_
   | refine LeO.bind ?_ (fun _ => ?_)
  ·intro y0 y1 y2 y3 y4 y5 y6 y7 y8 y9 y10 y11 y12 y13
   unfold kerbsuitedata_Database.l1
   repeat' first
   | (with_reducible exact ih0 _ _ _ _)
   | (with_reducible exact ih1 _ _ _ _ _)
   | (with_reducible exact ih2 _ _ _ _ _ _ _ _ _ _ _ _ _ _)
   | (with_reducible exact ih3 _ _ _ _ _ _ _ _ _ _ _ _ _ _ _)
   | (with_reducible exact kerbsuitedata_Entry.mono _ _ _)
   | (with_reducible exact LeO.refl _)
   | (with_reducible exact LeO.none _)
   | (with_reducible refine LeO.ite ?_ ?_)
   | (with_reducible refine LeO.bind ?_ (fun _ => ?_))
   | exact ih0 _ _ _ _
   | exact ih1 _ _ _ _ _
   | exact ih2 _ _ _ _ _ _ _ _ _ _ _ _ _ _
   | exact ih3 _ _ _ _ _ _ _ _ _ _ _ _ _ _ _
   | exact kerbsuitedata_Entry.mono _ _ _
   | exact LeO.none _
   | refine LeO.ite ?_ ?_
   | refine LeO.bind ?_ (fun _ => ?_)
  intro y0 y1 y2 y3 y4 y5 y6 y7 y8 y9 y10 y11 y12 y13 y14
  unfold kerbsuitedata_Database.j3
  repeat' first
  | (with_reducible exact ih0 _ _ _ _)
  | (with_reducible exact ih1 _ _ _ _ _)
  | (with_reducible exact ih2 _ _ _ _ _ _ _ _ _ _ _ _ _ _)
  | (with_reducible exact ih3 _ _ _ _ _ _ _ _ _ _ _ _ _ _ _)
  | (with_reducible exact kerbsuitedata_Entry.mono _ _ _)
  | (with_reducible exact LeO.refl _)
  | (with_reducible exact LeO.none _)
  | (with_reducible refine LeO.ite ?_ ?_)
  | (with_reducible refine LeO.bind ?_ (fun _ => ?_))
  | exact ih0 _ _ _ _
  | exact ih1 _ _ _ _ _
  | exact ih2 _ _ _ _ _ _ _ _ _ _ _ _ _ _
  | exact ih3 _ _ _ _ _ _ _ _ _ _ _ _ _ _ _
  | exact kerbsuitedata_Entry.mono _ _ _
  | exact LeO.none _
  | refine LeO.ite ?_ ?_
  | refine LeO.bind ?_ (fun _ => ?_)
theorem kerbsuitedata_Database.mono : ∀ a0 a1 k, LeO (kerbsuitedata_Database.f k a0 a1) (kerbsuitedata_Database.f (k + 1) a0 a1) := by
 intro a0 a1 k
 obtain ⟨ih0, ih1, ih2, ih3⟩ := kerbsuitedata_Database.mono_l k
 unfold kerbsuitedata_Database.f
 repeat' first
   | (with_reducible exact ih0 _ _ _ _)
   | (with_reducible exact ih1 _ _ _ _ _)
   | (with_reducible exact ih2 _ _ _ _ _ _ _ _ _ _ _ _ _ _)
   | (with_reducible exact ih3 _ _ _ _ _ _ _ _ _ _ _ _ _ _ _)
   | (with_reducible exact kerbsuitedata_Entry.mono _ _ _)
   | (with_reducible exact LeO.refl _)
   | (with_reducible exact LeO.none _)
   | (with_reducible refine LeO.ite ?_ ?_)
   | (with_reducible refine LeO.bind ?_ (fun _ => ?_))
   | exact ih0 _ _ _ _
   | exact ih1 _ _ _ _ _
   | exact ih2 _ _ _ _ _ _ _ _ _ _ _ _ _ _
   | exact ih3 _ _ _ _ _ _ _ _ _ _ _ _ _ _ _
   | exact kerbsuitedata_Entry.mono _ _ _
   | exact LeO.none _
   | refine LeO.ite ?_ ?_
   | refine LeO.bind ?_ (fun _ => ?_)
def kerbsuitedata_Database.T6 : Bool × List (List Nat × List Nat) := (true,[([], []), ([], []), ([1], [1]), ([2], [2]), ([0, 3], [0, 3]), ([4], [4]), ([5], [5]), ([6, 5], [5, 6]), ([5], [5]), ([7, 8, 5], [5, 7, 8]), ([9, 5], [5, 9]), ([10, 5], [5, 10]), ([5], [5]), ([12, 5], [5, 12]), ([11, 13, 5], [5, 11, 13]), ([14, 5, 5], [5, 14]), ([15], [15]), ([16, 15], [15, 16]), ([15], [15]), ([17, 18, 15], [15, 17, 18]), ([19, 15], [15, 19]), ([20, 15], [15, 20]), ([15], [15]), ([22, 15], [15, 22]), ([21, 23, 15], [15, 21, 23]), ([24, 15, 15], [15, 24]), ([25], [25]), ([26, 25], [25, 26]), ([25], [25]), ([27, 28, 25], [25, 27, 28]), ([29, 25], [25, 29]), ([30, 25], [25, 30]), ([25], [25]), ([32, 25], [25, 32]), ([31, 33, 25], [25, 31, 33]), ([25, 34, 15], [15, 25, 34]), ([15, 35, 5], [5, 15, 35]), ([5, 36], [5, 36])])
def kerbsuitedata_Database.B6 : List Nat := [0, 0, 2, 6, 15, 31, 63, 127, 63, 511, 1023, 2047, 63, 4159, 16383, 32767, 65535, 131071, 65535, 524287, 1048575, 2097151, 65535, 4259839, 16777215, 33554431, 67108863, 134217727, 67108863, 536870911, 1073741823, 2147483647, 67108863, 4362076159, 17179869183, 34359738367, 68719476735, 137438953471]
theorem kerbsuitedata_Database.tab6 : rtab .any (opsOf Tryd.f9 6) = kerbsuitedata_Database.T6 := by kernel_rfl
theorem kerbsuitedata_Database.bits6 : waitsOk kerbsuitedata_Database.T6.2 kerbsuitedata_Database.B6 = true := by kernel_rfl
def kerbsuitedata_Database.T8 : Bool × List (List Nat × List Nat) := (true,[([], []), ([], []), ([1], [1]), ([], []), ([2, 3], [2, 3]), ([0, 4], [0, 4]), ([], []), ([6], [6]), ([5, 7, 5], [5, 7]), ([], []), ([9], [9]), ([], []), ([10, 11], [10, 11]), ([8, 12, 8], [8, 12]), ([0, 1, 2, 3, 4, 5, 6, 7, 8, 9, 10, 11, 12, 13], []), ([14, 13, 13, 0, 1, 2, 3, 4, 5, 6, 7, 8, 9, 10, 11, 12, 13], [13, 14])])
def kerbsuitedata_Database.B8 : List Nat := [0, 0, 2, 0, 14, 31, 0, 64, 255, 0, 512, 0, 3584, 8191, 16383, 32767]
theorem kerbsuitedata_Database.tab8 : rtab .any (opsOf Tryd.f9 8) = kerbsuitedata_Database.T8 := by kernel_rfl
theorem kerbsuitedata_Database.bits8 : waitsOk kerbsuitedata_Database.T8.2 kerbsuitedata_Database.B8 = true := by kernel_rfl
set_option maxHeartbeats 8000000 in
set_option maxRecDepth 100000 in
theorem kerbsuitedata_Database.calls (k : Nat) (A0 : Option Addr) (c0 : Nat) (l0 : List Int) (a1 : Int) (r1 : ByteArray) (r2 : List (S35)) (w : World) (hr0 : Kd.C (Kd.int .u8) w A0 l0.length l0) (hc0 : l0.length ≤ c0) (h : kerbsuitedata_Database.f k l0 a1 = some (r1, r2)) :
  Calls Tryd.prog 9 #[.slice A0 l0.length c0, .int .i64 a1] w fun e w' => ∃ v1_ : Value, e = .returned (.agg #[.string r1, v1_]) ∧ Kd.R k35 35 w' w.heap.size (fun _ => True) v1_ r2 ∧ Below w.heap.size w w' := by
 have hu24 := Tryd.underlying24
 have hu52 := Tryd.underlying52
 have hu35 := Tryd.underlying35
 have HR0 := Aside0.mk hr0
 have HC0 := Aside0.mk hc0
 clear hr0 hc0
 have HB := Aside0.mk (Below.refl w.heap.size w)
 have H : ((kerbsuitedata_Realm.f a1).bind fun t224 => (kerbsuitedata_Database.l0 k l0 0 t224 ([] : List (S35)))) = some (r1, r2) := h
 clear h
 replace H := Option.bind_eq_some_iff.mp H
 obtain ⟨t224, A30, H⟩ := H
 replace H : (kerbsuitedata_Database.l0 k l0 0 t224 ([] : List (S35))) = some (r1, r2) := H
 have A3 := Aside0.mk A30
 clear A30
 have H' := Aside0.mk H
 clear H
 go_enter Tryd.func9, Tryd.ntmps9
 go_wp2_with (first | ((with_reducible refine gate_dst (N := 4) rfl ?_); (try (refine gate_guard (by rfl) ?_; dsimp only)); refine box_event ?hg (N := 4) ?hd (cs := #[.string (⟨#[]⟩ : ByteArray), .slice none 0 0]) (t := 24) ?hr ?_; (case hd => rfl); (case hg => rfl); (case hr => first | (go_simp; done) | (go_simp; rfl)); intro gb222 hg w4 hbox hb; have n0_ := Aside0.mk (below_step (bk_ HB.out) hb); have n1_ := Aside0.mk (hbox); have n2_ := Aside0.mk ((by rw [hg]; exact (below_size (bk_ HB.out)) : w.heap.size ≤ gb222)); have n3_ := Aside0.mk ((by rw [hg]; exact (below_size (bk_ HB.out)) : w.heap.size ≤ gb222)); clear HB; have HB := n0_; have BK222 := n1_; have GW222 := n2_; have GE222 := n3_; clear n0_ n1_ n2_ n3_; clear hb hbox hg) | ((with_reducible refine gate_dst (N := 11) rfl ?_); (try (refine gate_guard (by rfl) ?_; dsimp only)); refine box_event ?hg (N := 11) ?hd (cs := #[.slice A0 l0.length c0, .int .i64 0]) (t := 52) ?hr ?_; (case hd => rfl); (case hg => rfl); (case hr => first | (go_simp; done) | (go_simp; rfl)); intro gb223 hg w5 hbox hb; have n0_ := Aside0.mk (blk_below (g := gb222) (o := .cells #[.string (⟨#[]⟩ : ByteArray), .slice none 0 0] 24 (0, 0)) (bk_ BK222.out) hb); have n1_ := Aside0.mk (below_step (by repeat (first | (with_reducible first | exact HB.out | apply bA_ | apply bN_ | apply bD_ | refine bS_ ?_ GE222.out) | exact HB.out)) hb); have n2_ := Aside0.mk ((by rw [hg]; exact (below_size (by repeat (first | (with_reducible first | exact HB.out | apply bA_ | apply bN_ | apply bD_ | refine bS_ ?_ GE222.out) | exact HB.out))) : w.heap.size ≤ gb223)); have n3_ := Aside0.mk ((by rw [hg]; exact (below_size (by repeat (first | (with_reducible first | exact HB.out | apply bA_ | apply bN_ | apply bD_ | refine bS_ ?_ GE222.out) | exact HB.out))) : w.heap.size ≤ gb223)); have n4_ := Aside0.mk ((by rw [hg]; exact Nat.ne_of_lt (blk_lt (g := gb222) (o := .cells #[.string (⟨#[]⟩ : ByteArray), .slice none 0 0] 24 (0, 0)) (bk_ BK222.out)) : gb222 ≠ gb223)); have n5_ := Aside0.mk ((by rw [hg]; exact Nat.ne_of_gt (blk_lt (g := gb222) (o := .cells #[.string (⟨#[]⟩ : ByteArray), .slice none 0 0] 24 (0, 0)) (bk_ BK222.out)) : gb223 ≠ gb222)); have n6_ := Aside0.mk ((⟨_, _, hbox, (by rw [hg]; exact (below_size (by repeat (first | (with_reducible first | exact HB.out | apply bA_ | apply bN_ | apply bD_ | refine bS_ ?_ GE222.out) | exact HB.out)))), HR0.out⟩ : IsS52 w _ gb223 l0 0)); clear BK222 HB; have BK222 := n0_; have HB := n1_; have GW223 := n2_; have GE223 := n3_; have NB222_223 := n4_; have NB223_222 := n5_; have HI223 := n6_; clear n0_ n1_ n2_ n3_ n4_ n5_ n6_; clear hb hbox hg) | ((with_reducible refine gate_callee (f := 33) rfl ?_); refine goesL_ (some 13) rfl rfl Tryd.func33 (by kernel_rfl) rfl #[.int .i64 a1] rfl (by (try simp only [List.map_toArray, List.map_cons, List.map_nil]); first | done | rfl | (simp only [List.length_drop, List.length_take]; rfl)) ?_; (with_reducible refine (kerbsuitedata_Realm.calls a1 t224 _ A3.out).mono ?_); rintro e w6 ⟨rfl, hb⟩; refine ⟨_, rfl, ?_⟩; have n0_ := Aside0.mk (blk_below (g := gb222) (o := .cells #[.string (⟨#[]⟩ : ByteArray), .slice none 0 0] 24 (0, 0)) (bk_ BK222.out) hb); have n1_ := Aside0.mk (IsS52.below (by repeat (first | (with_reducible first | exact HI223.out | apply IsS52.alloc | apply IsS52.drewN | apply IsS52.drew | apply IsS52.set_1 | refine IsS52.far ?_ NB223_222.out _) | exact HI223.out)) hb); have n2_ := Aside0.mk (below_step (by repeat (first | (with_reducible first | exact HB.out | apply bA_ | apply bN_ | apply bD_ | refine bS_ ?_ (IsS52.ge HI223.out) | refine bS_ ?_ GE222.out) | exact HB.out)) hb); clear BK222 HI223 HB; have BK222 := n0_; have HI223 := n1_; have HB := n2_; clear n0_ n1_ n2_; (try clear hb); (try clear hb2); (try clear hk); (try clear hi)) | ((with_reducible refine gate_dst (N := 6) rfl ?_); (try (refine gate_guard (by rfl) ?_; dsimp only)); refine box_event ?hg (N := 6) ?hd (cs := #[.string (⟨#[]⟩ : ByteArray), .slice none 0 0]) (t := 24) ?hr ?_; (case hd => rfl); (case hg => rfl); (case hr => first | (go_simp; done) | (go_simp; rfl)); intro gb225 hg w7 hbox hb; have n0_ := Aside0.mk (blk_below (g := gb222) (o := .cells #[.string (⟨#[]⟩ : ByteArray), .slice none 0 0] 24 (0, 0)) (bk_ BK222.out) hb); have n1_ := Aside0.mk (IsS52.below (by repeat (first | (with_reducible first | exact HI223.out | apply IsS52.alloc | apply IsS52.drewN | apply IsS52.drew | apply IsS52.set_1 | refine IsS52.far ?_ NB223_222.out _) | exact HI223.out)) hb); have n2_ := Aside0.mk (below_step (by repeat (first | (with_reducible first | exact HB.out | apply bA_ | apply bN_ | apply bD_ | refine bS_ ?_ (IsS52.ge HI223.out) | refine bS_ ?_ GE222.out) | exact HB.out)) hb); have n3_ := Aside0.mk (hbox); have n4_ := Aside0.mk ((by rw [hg]; exact (below_size (by repeat (first | (with_reducible first | exact HB.out | apply bA_ | apply bN_ | apply bD_ | refine bS_ ?_ (IsS52.ge HI223.out) | refine bS_ ?_ GE222.out) | exact HB.out))) : w.heap.size ≤ gb225)); have n5_ := Aside0.mk ((by rw [hg]; exact (below_size (by repeat (first | (with_reducible first | exact HB.out | apply bA_ | apply bN_ | apply bD_ | refine bS_ ?_ (IsS52.ge HI223.out) | refine bS_ ?_ GE222.out) | exact HB.out))) : w.heap.size ≤ gb225)); have n6_ := Aside0.mk ((by rw [hg]; exact Nat.ne_of_lt (blk_lt (g := gb222) (o := .cells #[.string (⟨#[]⟩ : ByteArray), .slice none 0 0] 24 (0, 0)) (bk_ BK222.out)) : gb222 ≠ gb225)); have n7_ := Aside0.mk ((by rw [hg]; exact Nat.ne_of_gt (blk_lt (g := gb222) (o := .cells #[.string (⟨#[]⟩ : ByteArray), .slice none 0 0] 24 (0, 0)) (bk_ BK222.out)) : gb225 ≠ gb222)); have n8_ := Aside0.mk ((by rw [hg]; exact Nat.ne_of_lt (IsS52.lt (show IsS52 w _ gb223 l0 0 from by repeat (first | (with_reducible first | exact HI223.out | apply IsS52.alloc | apply IsS52.drewN | apply IsS52.drew | apply IsS52.set_1 | refine IsS52.far ?_ NB223_222.out _) | exact HI223.out))) : gb223 ≠ gb225)); have n9_ := Aside0.mk ((by rw [hg]; exact Nat.ne_of_gt (IsS52.lt (show IsS52 w _ gb223 l0 0 from by repeat (first | (with_reducible first | exact HI223.out | apply IsS52.alloc | apply IsS52.drewN | apply IsS52.drew | apply IsS52.set_1 | refine IsS52.far ?_ NB223_222.out _) | exact HI223.out))) : gb225 ≠ gb223)); clear BK222 HI223 HB; have BK222 := n0_; have HI223 := n1_; have HB := n2_; have BK225 := n3_; have GW225 := n4_; have GE225 := n5_; have NB222_225 := n6_; have NB225_222 := n7_; have NB223_225 := n8_; have NB225_223 := n9_; clear n0_ n1_ n2_ n3_ n4_ n5_ n6_ n7_ n8_ n9_; clear hb hbox hg; have hnb8 := NB225_222.out; have hnc8 := NB222_225.out; have hnb9 := NB225_223.out; have hnc9 := NB223_225.out; have hcz10_0 : w7.cell? ⟨gb225, 0, none⟩ = some (.string (⟨#[]⟩ : ByteArray)) := (blk_cell BK225.out 0).trans rfl; have hcz10_1 : w7.cell? ⟨gb225, 1, none⟩ = some (.slice none 0 0) := (blk_cell BK225.out 1).trans rfl; have hfz10_0 := blk_frozen BK225.out 0; have hfz10_1 := blk_frozen BK225.out 1))
 go_loopg [] k (fun kq w' => ∃ (x224001_1 : Int) (x226001_1 : List (S35)) (u226001 : Value), Aside0 (kerbsuitedata_Database.l0 kq l0 x224001_1 t224 x226001_1 = some (r1, r2)) ∧ Aside0 (kq ≤ k) ∧ Aside0 (Kd.R k35 35 w' w.heap.size (fun _ => True) u226001 x226001_1) ∧ Aside0 (w'.heap[gb222]? = some (.cells #[.string (⟨#[]⟩ : ByteArray), (.slice none 0 0)] 24 (0, 0))) ∧ Aside0 (w'.heap[gb225]? = some (.cells #[.string t224, u226001] 24 (0, 0))) ∧ Aside0 (IsS52 w w' gb223 l0 x224001_1) ∧ Aside0 (Below w.heap.size w w'))
 case atStart => exact ⟨(0), (([] : List (S35))), (.slice none 0 0), H', ⟨Nat.le_refl _⟩, ⟨by first | exact Kd.R_nil _ _ _ _ _ | exact Kd.N_nil _ _ _ _ _ | exact Kd.V_nil _ _ _ _ _ | exact Kd.Q_nil _ _ _ _ _ | exact Kd.S_nil _ _ _ _ _⟩, ⟨by refine bk_ ?_; refine blk_far ?_ NB222_225.out _; refine bk_ ?_; refine blk_far ?_ NB222_225.out _; refine bk_ ?_; exact BK222.out⟩, ⟨by refine bk_ ?_; refine blk_put (cs := #[.string t224, .slice none 0 0]) ?_ 1 _ rfl; refine bk_ ?_; refine blk_put (cs := #[.string (⟨#[]⟩ : ByteArray), .slice none 0 0]) ?_ 0 _ rfl; refine bk_ ?_; exact BK225.out⟩, ⟨by repeat (first | (with_reducible first | exact HI223.out | apply IsS52.alloc | apply IsS52.drewN | apply IsS52.drew | apply IsS52.set_1 | refine IsS52.far ?_ NB223_222.out _ | refine IsS52.far ?_ NB223_225.out _) | exact HI223.out)⟩, ⟨by repeat (first | (with_reducible first | exact HB.out | apply bA_ | apply bN_ | apply bD_ | refine bS_ ?_ (IsS52.ge HI223.out) | refine bS_ ?_ GE222.out | refine bS_ ?_ GE225.out) | exact HB.out)⟩⟩
 case round =>
  clear H'
  try clear p2
  try clear c3
  try clear c8
  try clear c9
  try clear hcz10_0
  try clear hcz10_1
  try clear hfz10_0
  try clear hfz10_1
  obtain ⟨x224001_1, x226001_1, u226001, HA, HK1, HO_226001, BK222, BK225, HI223, HB⟩ := hrel
  cases gk with
  | zero => exact absurd HA.out (by simp [kerbsuitedata_Database.l0])
  | succ k1 =>
   have H := HA.out
   clear HA
   simp only [kerbsuitedata_Database.l0] at H
   have HC11 := Aside0.mk H
   clear H
   go_upto_region 3 with (fail)
   go_cut [22] (fun v22 wc => ∃ (kq : Nat) (x22_10 : Bool) (x224001_10 : Int), v22 = .bool x22_10 ∧ Aside0 (kerbsuitedata_Database.j1 kq x22_10 l0 x224001_10 t224 x226001_1 = some (r1, r2)) ∧ Aside0 (kq ≤ k1) ∧ Aside0 (Kd.R k35 35 wc w.heap.size (fun _ => True) u226001 x226001_1) ∧ Aside0 (wc.heap[gb222]? = some (.cells #[.string (⟨#[]⟩ : ByteArray), (.slice none 0 0)] 24 (0, 0))) ∧ Aside0 (wc.heap[gb225]? = some (.cells #[.string t224, u226001] 24 (0, 0))) ∧ Aside0 (IsS52 w wc gb223 l0 x224001_10) ∧ Aside0 (Below w.heap.size w wc))
   case first =>
    have H := HC11.out
    clear HC11
    replace H := Option.bind_eq_some_iff.mp H
    obtain ⟨⟨t226, t227⟩, A120, H⟩ := H
    replace H : (if t226 = true then (kerbsuitedata_Database.j1 k1 (decide ((x226001_1.length : Int) < 60)) l0 t227 t224 x226001_1) else (kerbsuitedata_Database.j1 k1 false l0 t227 t224 x226001_1)) = some (r1, r2) := H
    have A12 := Aside0.mk A120
    clear A120
    by_cases c13 : t226 = true
    ·subst c13
     have H1 : (kerbsuitedata_Database.j1 k1 (decide ((x226001_1.length : Int) < 60)) l0 t227 t224 x226001_1) = some (r1, r2) := by rw [if_pos rfl] at H; exact H
     clear H
     have H := H1
     clear H1
     have H' := Aside0.mk H
     clear H
     go_wp2_with (first | ((with_reducible refine gate_callee (f := 34) rfl ?_); refine goesL_ (some 16) rfl rfl Tryd.func34 (by kernel_rfl) rfl #[.pointer (some ⟨gb223, 0, none⟩)] rfl (by (try simp only [List.map_toArray, List.map_cons, List.map_nil]); first | done | rfl | (simp only [List.length_drop, List.length_take]; rfl)) ?_; (with_reducible refine (kerbsuitedata_Source_More.calls gb223 l0 x224001_1 true t227 w _ ?side1 ?side2 A12.out).mono ?_); (case side1 => repeat (first | (with_reducible first | exact HI223.out | apply IsS52.alloc | apply IsS52.drewN | apply IsS52.drew | apply IsS52.set_1 | refine IsS52.far ?_ NB223_222.out _ | refine IsS52.far ?_ NB223_225.out _) | exact HI223.out)); (case side2 => repeat (first | (with_reducible first | exact HB.out | apply bA_ | apply bN_ | apply bD_ | refine bS_ ?_ (IsS52.ge HI223.out) | refine bS_ ?_ GE222.out | refine bS_ ?_ GE225.out) | exact HB.out)); rintro e w14 ⟨rfl, hi, hb, hk⟩; refine ⟨_, rfl, ?_⟩; have n0_ := Aside0.mk (Kd.R_mono (Kd.R_keep (IsS52.apart (show IsS52 w _ gb223 l0 x224001_1 from by repeat (first | (with_reducible first | exact HI223.out | apply IsS52.alloc | apply IsS52.drewN | apply IsS52.drew | apply IsS52.set_1 | refine IsS52.far ?_ NB223_222.out _ | refine IsS52.far ?_ NB223_225.out _) | exact HI223.out)) (bk_ HO_226001.out) (by decide)) hk (fun _ h => h.2)) (fun _ h => h.1)); have n1_ := Aside0.mk (KeepBut.blk hk (g' := gb222) (o := .cells #[.string (⟨#[]⟩ : ByteArray), .slice none 0 0] 24 (0, 0)) (bk_ BK222.out) NB222_223.out (by simp)); have n2_ := Aside0.mk (KeepBut.blk hk (g' := gb225) (o := .cells #[.string t224, u226001] 24 (0, 0)) (bk_ BK225.out) NB225_223.out (by simp)); have n3_ := Aside0.mk (hb); have n4_ := Aside0.mk (hi); clear HO_226001 BK222 BK225 HB HI223; have HO_226001 := n0_; have BK222 := n1_; have BK225 := n2_; have HB := n3_; have HI223 := n4_; clear n0_ n1_ n2_ n3_ n4_; (try clear hb); (try clear hb2); (try clear hk); (try clear hi); have hnb15 := NB225_222.out; have hnc15 := NB222_225.out; have hnb16 := NB225_223.out; have hnc16 := NB223_225.out; have hcz17_0 : w14.cell? ⟨gb225, 0, none⟩ = some (.string t224) := (blk_cell BK225.out 0).trans rfl; have hcz17_1 : w14.cell? ⟨gb225, 1, none⟩ = some (u226001) := (blk_cell BK225.out 1).trans rfl; have hfz17_0 := blk_frozen BK225.out 0; have hfz17_1 := blk_frozen BK225.out 1; obtain ⟨Ao18, co18, eo18⟩ := Kd.R_slice HO_226001.out; subst eo18))
     go_meet
     case rel => exact ⟨_, (decide ((x226001_1.length : Int) < 60)), (t227), (by first | rfl | (simp; done) | (simp [*]; done)), H', ⟨by have := HK1.out; first | omega | exact Nat.le_refl _⟩, ⟨by refine bk_ ?_; exact HO_226001.out⟩, ⟨by refine bk_ ?_; exact BK222.out⟩, ⟨by refine bk_ ?_; exact BK225.out⟩, ⟨by repeat (first | (with_reducible first | exact HI223.out | apply IsS52.alloc | apply IsS52.drewN | apply IsS52.drew | apply IsS52.set_1 | refine IsS52.far ?_ NB223_222.out _ | refine IsS52.far ?_ NB223_225.out _) | exact HI223.out)⟩, ⟨by repeat (first | (with_reducible first | exact HB.out | apply bA_ | apply bN_ | apply bD_ | refine bS_ ?_ (IsS52.ge HI223.out) | refine bS_ ?_ GE222.out | refine bS_ ?_ GE225.out) | exact HB.out)⟩⟩
    replace c13 := Bool.eq_false_iff.mpr c13
    subst c13
    have H1 : (kerbsuitedata_Database.j1 k1 false l0 t227 t224 x226001_1) = some (r1, r2) := by rw [if_neg (show ¬ (false = true) by decide)] at H; exact H
    clear H
    have H := H1
    clear H1
    have H' := Aside0.mk H
    clear H
    go_wp2_with (first | ((with_reducible refine gate_callee (f := 34) rfl ?_); refine goesL_ (some 16) rfl rfl Tryd.func34 (by kernel_rfl) rfl #[.pointer (some ⟨gb223, 0, none⟩)] rfl (by (try simp only [List.map_toArray, List.map_cons, List.map_nil]); first | done | rfl | (simp only [List.length_drop, List.length_take]; rfl)) ?_; (with_reducible refine (kerbsuitedata_Source_More.calls gb223 l0 x224001_1 false t227 w _ ?side1 ?side2 A12.out).mono ?_); (case side1 => repeat (first | (with_reducible first | exact HI223.out | apply IsS52.alloc | apply IsS52.drewN | apply IsS52.drew | apply IsS52.set_1 | refine IsS52.far ?_ NB223_222.out _ | refine IsS52.far ?_ NB223_225.out _) | exact HI223.out)); (case side2 => repeat (first | (with_reducible first | exact HB.out | apply bA_ | apply bN_ | apply bD_ | refine bS_ ?_ (IsS52.ge HI223.out) | refine bS_ ?_ GE222.out | refine bS_ ?_ GE225.out) | exact HB.out)); rintro e w19 ⟨rfl, hi, hb, hk⟩; refine ⟨_, rfl, ?_⟩; have n0_ := Aside0.mk (Kd.R_mono (Kd.R_keep (IsS52.apart (show IsS52 w _ gb223 l0 x224001_1 from by repeat (first | (with_reducible first | exact HI223.out | apply IsS52.alloc | apply IsS52.drewN | apply IsS52.drew | apply IsS52.set_1 | refine IsS52.far ?_ NB223_222.out _ | refine IsS52.far ?_ NB223_225.out _) | exact HI223.out)) (bk_ HO_226001.out) (by decide)) hk (fun _ h => h.2)) (fun _ h => h.1)); have n1_ := Aside0.mk (KeepBut.blk hk (g' := gb222) (o := .cells #[.string (⟨#[]⟩ : ByteArray), .slice none 0 0] 24 (0, 0)) (bk_ BK222.out) NB222_223.out (by simp)); have n2_ := Aside0.mk (KeepBut.blk hk (g' := gb225) (o := .cells #[.string t224, u226001] 24 (0, 0)) (bk_ BK225.out) NB225_223.out (by simp)); have n3_ := Aside0.mk (hb); have n4_ := Aside0.mk (hi); clear HO_226001 BK222 BK225 HB HI223; have HO_226001 := n0_; have BK222 := n1_; have BK225 := n2_; have HB := n3_; have HI223 := n4_; clear n0_ n1_ n2_ n3_ n4_; (try clear hb); (try clear hb2); (try clear hk); (try clear hi)))
    go_meet
    case rel => exact ⟨_, (false), (t227), (by first | rfl | (simp; done) | (simp [*]; done)), H', ⟨by have := HK1.out; first | omega | exact Nat.le_refl _⟩, ⟨by refine bk_ ?_; exact HO_226001.out⟩, ⟨by refine bk_ ?_; exact BK222.out⟩, ⟨by refine bk_ ?_; exact BK225.out⟩, ⟨by repeat (first | (with_reducible first | exact HI223.out | apply IsS52.alloc | apply IsS52.drewN | apply IsS52.drew | apply IsS52.set_1 | refine IsS52.far ?_ NB223_222.out _ | refine IsS52.far ?_ NB223_225.out _) | exact HI223.out)⟩, ⟨by repeat (first | (with_reducible first | exact HB.out | apply bA_ | apply bN_ | apply bD_ | refine bS_ ?_ (IsS52.ge HI223.out) | refine bS_ ?_ GE222.out | refine bS_ ?_ GE225.out) | exact HB.out)⟩⟩
   case rest =>
    clear HC11
    try clear c1
    try clear p2
    try clear c3
    try clear c8
    try clear c9
    try clear c13
    try clear c15
    try clear c16
    try clear hcz10_0
    try clear hcz10_1
    try clear hcz17_0
    try clear hcz17_1
    try clear hfz10_0
    try clear hfz10_1
    try clear hfz17_0
    try clear hfz17_1
    try clear p2
    obtain ⟨kq, x22_10, x224001_10, rfl, HA, HJ10, HO_226001, BK222, BK225, HI223, HB⟩ := hcut
    cases kq with
    | zero => exact absurd HA.out (by simp [kerbsuitedata_Database.j1])
    | succ kj10 =>
     have H := HA.out
     clear HA
     simp only [kerbsuitedata_Database.j1] at H
     by_cases c20 : x22_10 = true
     ·subst c20
      have H1 : ((kerbsuitedata_Entry.f kj10 l0 x224001_10).bind fun bt228 => (kerbsuitedata_Database.l1 kj10 0 l0 bt228.2.2.2.2.2.2.2.2.2 t224 x226001_1 bt228.1 bt228.2.1 bt228.2.2.1 bt228.2.2.2.1 bt228.2.2.2.2.1 bt228.2.2.2.2.2.1 bt228.2.2.2.2.2.2.1 bt228.2.2.2.2.2.2.2.1 bt228.2.2.2.2.2.2.2.2.1)) = some (r1, r2) := by rw [if_pos rfl] at H; exact H
      clear H
      have H := H1
      clear H1
      replace H := Option.bind_eq_some_iff.mp H
      obtain ⟨⟨t228, t229, t230, t231, t232, t233, t234, t235, t236, t237⟩, A210, H⟩ := H
      replace H : (kerbsuitedata_Database.l1 kj10 0 l0 t237 t224 x226001_1 t228 t229 t230 t231 t232 t233 t234 t235 t236) = some (r1, r2) := H
      have A21 := Aside0.mk A210
      clear A210
      have H' := Aside0.mk H
      clear H
      go_wp2_with (first | ((with_reducible refine gate_callee (f := 24) rfl ?_); refine goesL_ (some 24) rfl rfl Tryd.func24 (by kernel_rfl) rfl #[.pointer (some ⟨gb223, 0, none⟩)] rfl (by (try simp only [List.map_toArray, List.map_cons, List.map_nil]); first | done | rfl | (simp only [List.length_drop, List.length_take]; rfl)) ?_; (with_reducible refine (kerbsuitedata_Entry.calls kj10 gb223 l0 x224001_10 t228 t229 t230 t231 t232 t233 t234 t235 t236 t237 w _ ?side1 ?side2 A21.out).mono ?_); (case side1 => repeat (first | (with_reducible first | exact HI223.out | apply IsS52.alloc | apply IsS52.drewN | apply IsS52.drew | apply IsS52.set_1 | refine IsS52.far ?_ NB223_222.out _ | refine IsS52.far ?_ NB223_225.out _) | exact HI223.out)); (case side2 => repeat (first | (with_reducible first | exact HB.out | apply bA_ | apply bN_ | apply bD_ | refine bS_ ?_ (IsS52.ge HI223.out) | refine bS_ ?_ GE222.out | refine bS_ ?_ GE225.out) | exact HB.out)); rintro e w22 ⟨rfl, hi, hb, hk⟩; refine ⟨_, rfl, ?_⟩; have n0_ := Aside0.mk (Kd.R_mono (Kd.R_keep (IsS52.apart (show IsS52 w _ gb223 l0 x224001_10 from by repeat (first | (with_reducible first | exact HI223.out | apply IsS52.alloc | apply IsS52.drewN | apply IsS52.drew | apply IsS52.set_1 | refine IsS52.far ?_ NB223_222.out _ | refine IsS52.far ?_ NB223_225.out _) | exact HI223.out)) (bk_ HO_226001.out) (by decide)) hk (fun _ h => h.2)) (fun _ h => h.1)); have n1_ := Aside0.mk (KeepBut.blk hk (g' := gb222) (o := .cells #[.string (⟨#[]⟩ : ByteArray), .slice none 0 0] 24 (0, 0)) (bk_ BK222.out) NB222_223.out (by simp)); have n2_ := Aside0.mk (KeepBut.blk hk (g' := gb225) (o := .cells #[.string t224, u226001] 24 (0, 0)) (bk_ BK225.out) NB225_223.out (by simp)); have n3_ := Aside0.mk (hb); have n4_ := Aside0.mk (hi); clear HO_226001 BK222 BK225 HB HI223; have HO_226001 := n0_; have BK222 := n1_; have BK225 := n2_; have HB := n3_; have HI223 := n4_; clear n0_ n1_ n2_ n3_ n4_; (try clear hb); (try clear hb2); (try clear hk); (try clear hi)) | ((with_reducible refine gate_dst (N := 7) rfl ?_); (try (refine gate_guard (by rfl) ?_; dsimp only)); refine box_event ?hg (N := 7) ?hd (cs := #[.string (⟨#[]⟩ : ByteArray), .string (⟨#[]⟩ : ByteArray), .int .u64 0, .int .i64 0, .int .i64 0, .int .i64 0, .int .i64 0, .int .i64 0, .int .i64 0]) (t := 35) ?hr ?_; (case hd => rfl); (case hg => rfl); (case hr => first | (go_simp; done) | (go_simp; rfl)); intro gb238 hg w23 hbox hb; have n0_ := Aside0.mk (Kd.R_below (Kd.R_elderB (bk_ HO_226001.out) gb238 (Nat.le_of_eq hg.symm)) hb); have n1_ := Aside0.mk (blk_below (g := gb222) (o := .cells #[.string (⟨#[]⟩ : ByteArray), .slice none 0 0] 24 (0, 0)) (bk_ BK222.out) hb); have n2_ := Aside0.mk (blk_below (g := gb225) (o := .cells #[.string t224, u226001] 24 (0, 0)) (bk_ BK225.out) hb); have n3_ := Aside0.mk (IsS52.below (by repeat (first | (with_reducible first | exact HI223.out | apply IsS52.alloc | apply IsS52.drewN | apply IsS52.drew | apply IsS52.set_1 | refine IsS52.far ?_ NB223_222.out _ | refine IsS52.far ?_ NB223_225.out _) | exact HI223.out)) hb); have n4_ := Aside0.mk (below_step (by repeat (first | (with_reducible first | exact HB.out | apply bA_ | apply bN_ | apply bD_ | refine bS_ ?_ (IsS52.ge HI223.out) | refine bS_ ?_ GE222.out | refine bS_ ?_ GE225.out) | exact HB.out)) hb); have n5_ := Aside0.mk (hbox); have n6_ := Aside0.mk ((by rw [hg]; exact (below_size (by repeat (first | (with_reducible first | exact HB.out | apply bA_ | apply bN_ | apply bD_ | refine bS_ ?_ (IsS52.ge HI223.out) | refine bS_ ?_ GE222.out | refine bS_ ?_ GE225.out) | exact HB.out))) : w.heap.size ≤ gb238)); have n7_ := Aside0.mk ((by rw [hg]; exact (below_size (by repeat (first | (with_reducible first | exact HB.out | apply bA_ | apply bN_ | apply bD_ | refine bS_ ?_ (IsS52.ge HI223.out) | refine bS_ ?_ GE222.out | refine bS_ ?_ GE225.out) | exact HB.out))) : w.heap.size ≤ gb238)); have n8_ := Aside0.mk ((by rw [hg]; exact Nat.ne_of_lt (blk_lt (g := gb222) (o := .cells #[.string (⟨#[]⟩ : ByteArray), .slice none 0 0] 24 (0, 0)) (bk_ BK222.out)) : gb222 ≠ gb238)); have n9_ := Aside0.mk ((by rw [hg]; exact Nat.ne_of_gt (blk_lt (g := gb222) (o := .cells #[.string (⟨#[]⟩ : ByteArray), .slice none 0 0] 24 (0, 0)) (bk_ BK222.out)) : gb238 ≠ gb222)); have n10_ := Aside0.mk ((by rw [hg]; exact Nat.ne_of_lt (blk_lt (g := gb225) (o := .cells #[.string t224, u226001] 24 (0, 0)) (bk_ BK225.out)) : gb225 ≠ gb238)); have n11_ := Aside0.mk ((by rw [hg]; exact Nat.ne_of_gt (blk_lt (g := gb225) (o := .cells #[.string t224, u226001] 24 (0, 0)) (bk_ BK225.out)) : gb238 ≠ gb225)); have n12_ := Aside0.mk ((by rw [hg]; exact Nat.ne_of_lt (IsS52.lt (show IsS52 w _ gb223 l0 t237 from by repeat (first | (with_reducible first | exact HI223.out | apply IsS52.alloc | apply IsS52.drewN | apply IsS52.drew | apply IsS52.set_1 | refine IsS52.far ?_ NB223_222.out _ | refine IsS52.far ?_ NB223_225.out _) | exact HI223.out))) : gb223 ≠ gb238)); have n13_ := Aside0.mk ((by rw [hg]; exact Nat.ne_of_gt (IsS52.lt (show IsS52 w _ gb223 l0 t237 from by repeat (first | (with_reducible first | exact HI223.out | apply IsS52.alloc | apply IsS52.drewN | apply IsS52.drew | apply IsS52.set_1 | refine IsS52.far ?_ NB223_222.out _ | refine IsS52.far ?_ NB223_225.out _) | exact HI223.out))) : gb238 ≠ gb223)); clear HO_226001 BK222 BK225 HI223 HB; have HO_226001 := n0_; have BK222 := n1_; have BK225 := n2_; have HI223 := n3_; have HB := n4_; have BK238 := n5_; have GW238 := n6_; have GE238 := n7_; have NB222_238 := n8_; have NB238_222 := n9_; have NB225_238 := n10_; have NB238_225 := n11_; have NB223_238 := n12_; have NB238_223 := n13_; clear n0_ n1_ n2_ n3_ n4_ n5_ n6_ n7_ n8_ n9_ n10_ n11_ n12_ n13_; clear hb hbox hg; have hnb24 := NB238_222.out; have hnc24 := NB222_238.out; have hnb25 := NB238_225.out; have hnc25 := NB225_238.out; have hnb26 := NB238_223.out; have hnc26 := NB223_238.out; have hcz27_0 : w23.cell? ⟨gb238, 0, none⟩ = some (.string (⟨#[]⟩ : ByteArray)) := (blk_cell BK238.out 0).trans rfl; have hcz27_1 : w23.cell? ⟨gb238, 1, none⟩ = some (.string (⟨#[]⟩ : ByteArray)) := (blk_cell BK238.out 1).trans rfl; have hcz27_2 : w23.cell? ⟨gb238, 2, none⟩ = some (.int .u64 0) := (blk_cell BK238.out 2).trans rfl; have hcz27_3 : w23.cell? ⟨gb238, 3, none⟩ = some (.int .i64 0) := (blk_cell BK238.out 3).trans rfl; have hcz27_4 : w23.cell? ⟨gb238, 4, none⟩ = some (.int .i64 0) := (blk_cell BK238.out 4).trans rfl; have hcz27_5 : w23.cell? ⟨gb238, 5, none⟩ = some (.int .i64 0) := (blk_cell BK238.out 5).trans rfl; have hcz27_6 : w23.cell? ⟨gb238, 6, none⟩ = some (.int .i64 0) := (blk_cell BK238.out 6).trans rfl; have hcz27_7 : w23.cell? ⟨gb238, 7, none⟩ = some (.int .i64 0) := (blk_cell BK238.out 7).trans rfl; have hcz27_8 : w23.cell? ⟨gb238, 8, none⟩ = some (.int .i64 0) := (blk_cell BK238.out 8).trans rfl; have hfz27_0 := blk_frozen BK238.out 0; have hfz27_1 := blk_frozen BK238.out 1; have hfz27_2 := blk_frozen BK238.out 2; have hfz27_3 := blk_frozen BK238.out 3; have hfz27_4 := blk_frozen BK238.out 4; have hfz27_5 := blk_frozen BK238.out 5; have hfz27_6 := blk_frozen BK238.out 6; have hfz27_7 := blk_frozen BK238.out 7; have hfz27_8 := blk_frozen BK238.out 8))
      go_loopg [8] kj10 (fun kq v8 w' => ∃ (x8_3 : Int), v8 = .int .i64 x8_3 ∧ Aside0 (kerbsuitedata_Database.l1 kq x8_3 l0 t237 t224 x226001_1 t228 t229 t230 t231 t232 t233 t234 t235 t236 = some (r1, r2)) ∧ Aside0 (kq ≤ kj10) ∧ Aside0 (Kd.R k35 35 w' w.heap.size (fun k_ => k_ ≠ gb238) u226001 x226001_1) ∧ Aside0 (w'.heap[gb222]? = some (.cells #[.string (⟨#[]⟩ : ByteArray), (.slice none 0 0)] 24 (0, 0))) ∧ Aside0 (w'.heap[gb225]? = some (.cells #[.string t224, u226001] 24 (0, 0))) ∧ Aside0 (w'.heap[gb238]? = some (.cells #[.string t228, .string t229, .int .u64 t230, .int .i64 t231, .int .i64 t232, .int .i64 t233, .int .i64 t234, .int .i64 t235, .int .i64 t236] 35 (0, 0))) ∧ Aside0 (IsS52 w w' gb223 l0 t237) ∧ Aside0 (Below w.heap.size w w'))
      case atStart => exact ⟨(0), (by first | rfl | (simp; done) | (simp [*]; done)), H', ⟨Nat.le_refl _⟩, ⟨by refine bk_ ?_; exact Kd.R_mono (Kd.R_far (p := ⟨gb238, 8, none⟩) (Kd.R_far (p := ⟨gb238, 7, none⟩) (Kd.R_far (p := ⟨gb238, 6, none⟩) (Kd.R_far (p := ⟨gb238, 5, none⟩) (Kd.R_far (p := ⟨gb238, 4, none⟩) (Kd.R_far (p := ⟨gb238, 3, none⟩) (Kd.R_far (p := ⟨gb238, 2, none⟩) (Kd.R_far (p := ⟨gb238, 1, none⟩) (Kd.R_far (p := ⟨gb238, 0, none⟩) (Kd.R_mono HO_226001.out (fun k_ hk => (⟨hk, hk.2⟩ : _ ∧ k_ ≠ gb238))) (fun _ hk => hk.2) (.string t228)) (fun _ hk => hk.2) (.string t229)) (fun _ hk => hk.2) (.int .u64 t230)) (fun _ hk => hk.2) (.int .i64 t231)) (fun _ hk => hk.2) (.int .i64 t232)) (fun _ hk => hk.2) (.int .i64 t233)) (fun _ hk => hk.2) (.int .i64 t234)) (fun _ hk => hk.2) (.int .i64 t235)) (fun _ hk => hk.2) (.int .i64 t236)) (fun _ hk => hk.1.2)⟩, ⟨by refine bk_ ?_; refine blk_far ?_ NB222_238.out _; refine bk_ ?_; refine blk_far ?_ NB222_238.out _; refine bk_ ?_; refine blk_far ?_ NB222_238.out _; refine bk_ ?_; refine blk_far ?_ NB222_238.out _; refine bk_ ?_; refine blk_far ?_ NB222_238.out _; refine bk_ ?_; refine blk_far ?_ NB222_238.out _; refine bk_ ?_; refine blk_far ?_ NB222_238.out _; refine bk_ ?_; refine blk_far ?_ NB222_238.out _; refine bk_ ?_; refine blk_far ?_ NB222_238.out _; refine bk_ ?_; exact BK222.out⟩, ⟨by refine bk_ ?_; refine blk_far ?_ NB225_238.out _; refine bk_ ?_; refine blk_far ?_ NB225_238.out _; refine bk_ ?_; refine blk_far ?_ NB225_238.out _; refine bk_ ?_; refine blk_far ?_ NB225_238.out _; refine bk_ ?_; refine blk_far ?_ NB225_238.out _; refine bk_ ?_; refine blk_far ?_ NB225_238.out _; refine bk_ ?_; refine blk_far ?_ NB225_238.out _; refine bk_ ?_; refine blk_far ?_ NB225_238.out _; refine bk_ ?_; refine blk_far ?_ NB225_238.out _; refine bk_ ?_; exact BK225.out⟩, ⟨by refine bk_ ?_; refine blk_put (cs := #[.string t228, .string t229, .int .u64 t230, .int .i64 t231, .int .i64 t232, .int .i64 t233, .int .i64 t234, .int .i64 t235, .int .i64 0]) ?_ 8 _ rfl; refine bk_ ?_; refine blk_put (cs := #[.string t228, .string t229, .int .u64 t230, .int .i64 t231, .int .i64 t232, .int .i64 t233, .int .i64 t234, .int .i64 0, .int .i64 0]) ?_ 7 _ rfl; refine bk_ ?_; refine blk_put (cs := #[.string t228, .string t229, .int .u64 t230, .int .i64 t231, .int .i64 t232, .int .i64 t233, .int .i64 0, .int .i64 0, .int .i64 0]) ?_ 6 _ rfl; refine bk_ ?_; refine blk_put (cs := #[.string t228, .string t229, .int .u64 t230, .int .i64 t231, .int .i64 t232, .int .i64 0, .int .i64 0, .int .i64 0, .int .i64 0]) ?_ 5 _ rfl; refine bk_ ?_; refine blk_put (cs := #[.string t228, .string t229, .int .u64 t230, .int .i64 t231, .int .i64 0, .int .i64 0, .int .i64 0, .int .i64 0, .int .i64 0]) ?_ 4 _ rfl; refine bk_ ?_; refine blk_put (cs := #[.string t228, .string t229, .int .u64 t230, .int .i64 0, .int .i64 0, .int .i64 0, .int .i64 0, .int .i64 0, .int .i64 0]) ?_ 3 _ rfl; refine bk_ ?_; refine blk_put (cs := #[.string t228, .string t229, .int .u64 0, .int .i64 0, .int .i64 0, .int .i64 0, .int .i64 0, .int .i64 0, .int .i64 0]) ?_ 2 _ rfl; refine bk_ ?_; refine blk_put (cs := #[.string t228, .string (⟨#[]⟩ : ByteArray), .int .u64 0, .int .i64 0, .int .i64 0, .int .i64 0, .int .i64 0, .int .i64 0, .int .i64 0]) ?_ 1 _ rfl; refine bk_ ?_; refine blk_put (cs := #[.string (⟨#[]⟩ : ByteArray), .string (⟨#[]⟩ : ByteArray), .int .u64 0, .int .i64 0, .int .i64 0, .int .i64 0, .int .i64 0, .int .i64 0, .int .i64 0]) ?_ 0 _ rfl; refine bk_ ?_; exact BK238.out⟩, ⟨by repeat (first | (with_reducible first | exact HI223.out | apply IsS52.alloc | apply IsS52.drewN | apply IsS52.drew | apply IsS52.set_1 | refine IsS52.far ?_ NB223_222.out _ | refine IsS52.far ?_ NB223_225.out _ | refine IsS52.far ?_ NB223_238.out _) | exact HI223.out)⟩, ⟨by repeat (first | (with_reducible first | exact HB.out | apply bA_ | apply bN_ | apply bD_ | refine bS_ ?_ (IsS52.ge HI223.out) | refine bS_ ?_ GE222.out | refine bS_ ?_ GE225.out | refine bS_ ?_ GE238.out) | exact HB.out)⟩⟩
      case round =>
       clear H'
       try clear c1
       try clear c2
       try clear p2
       try clear c3
       try clear c8
       try clear c9
       try clear c13
       try clear c15
       try clear c16
       try clear c20
       try clear c24
       try clear c25
       try clear c26
       try clear hcz10_0
       try clear hcz10_1
       try clear hcz17_0
       try clear hcz17_1
       try clear hcz27_0
       try clear hcz27_1
       try clear hcz27_2
       try clear hcz27_3
       try clear hcz27_4
       try clear hcz27_5
       try clear hcz27_6
       try clear hcz27_7
       try clear hcz27_8
       try clear hfz10_0
       try clear hfz10_1
       try clear hfz17_0
       try clear hfz17_1
       try clear hfz27_0
       try clear hfz27_1
       try clear hfz27_2
       try clear hfz27_3
       try clear hfz27_4
       try clear hfz27_5
       try clear hfz27_6
       try clear hfz27_7
       try clear hfz27_8
       try clear p2
       obtain ⟨x8_3, rfl, HA, HK3, HO_226001, BK222, BK225, BK238, HI223, HB⟩ := hrel
       cases gk with
       | zero => exact absurd HA.out (by simp [kerbsuitedata_Database.l1])
       | succ k3 =>
        have H := HA.out
        clear HA
        simp only [kerbsuitedata_Database.l1] at H
        have HC28 := Aside0.mk H
        clear H
        go_upto_region 6 with (fail)
        go_cut [62] (fun v62 wc => ∃ (kq : Nat) (x62_27 : Bool), v62 = .bool x62_27 ∧ Aside0 (kerbsuitedata_Database.j3 kq x8_3 x62_27 l0 t237 t224 x226001_1 t228 t229 t230 t231 t232 t233 t234 t235 t236 = some (r1, r2)) ∧ Aside0 (kq ≤ k3) ∧ Aside0 (Kd.R k35 35 wc w.heap.size (fun k_ => k_ ≠ gb238) u226001 x226001_1) ∧ Aside0 (wc.heap[gb222]? = some (.cells #[.string (⟨#[]⟩ : ByteArray), (.slice none 0 0)] 24 (0, 0))) ∧ Aside0 (wc.heap[gb225]? = some (.cells #[.string t224, u226001] 24 (0, 0))) ∧ Aside0 (wc.heap[gb238]? = some (.cells #[.string t228, .string t229, .int .u64 t230, .int .i64 t231, .int .i64 t232, .int .i64 t233, .int .i64 t234, .int .i64 t235, .int .i64 t236] 35 (0, 0))) ∧ Aside0 (IsS52 w wc gb223 l0 t237) ∧ Aside0 (Below w.heap.size w wc))
        case first =>
         have H := HC28.out
         clear HC28
         by_cases c29 : x8_3 < (x226001_1.length : Int)
         ·rw [if_pos c29] at H
          have c29b0 : decide (x8_3 < (x226001_1.length : Int)) = true := decide_eq_true c29
          clear c29
          (first | rw [c29b0] | (simp only [i64_w, i32_w]; rw [c29b0]) | skip)
          by_cases c30 : 0 ≤ x8_3
          ·rw [if_pos c30] at H
           have c30b0 : decide (0 ≤ x8_3) = true := decide_eq_true c30
           clear c30
           by_cases c31 : (Op.bytesLess (((rd_T35 x226001_1 x8_3).f0).toList) t228.toList) = true
           ·rw [if_pos c31] at H
            have c31b0 : (Op.bytesLess (((rd_T35 x226001_1 x8_3).f0).toList) t228.toList) = true := c31
            clear c31
            have H' := Aside0.mk H
            clear H
            try go_upto_region 6 with fail
            have n0_ := Aside0.mk (Kd.R_drew HO_226001.out)
            have n1_ := Aside0.mk (blk_drew BK222.out)
            have n2_ := Aside0.mk (blk_drew BK225.out)
            have n3_ := Aside0.mk (blk_drew BK238.out)
            have n4_ := Aside0.mk (IsS52.drew HI223.out)
            have n5_ := Aside0.mk (bD_ HB.out)
            clear HO_226001 BK222 BK225 BK238 HI223 HB
            have HO_226001 := n0_
            have BK222 := n1_
            have BK225 := n2_
            have BK238 := n3_
            have HI223 := n4_
            have HB := n5_
            clear n0_ n1_ n2_ n3_ n4_ n5_
            obtain ⟨Ao33, co33, eo33⟩ := Kd.R_slice HO_226001.out
            (first | subst eo33 | (injection eo33 with f1_ f2_ f3_; have f4_ := f1_.symm; have f5_ := f3_.symm; clear f1_ f2_ f3_; subst f4_; subst f5_))
            have p239 : 0 ≤ (x8_3 : Int) := of_decide_eq_true (by first | (with_reducible assumption) | assumption)
            have q239 : x8_3 < (x226001_1.length : Int) := of_decide_eq_true (by first | (with_reducible assumption) | assumption)
            obtain ⟨ad239, e239, hx239_0, hx239_1, hx239_2, hx239_3, hx239_4, hx239_5, hx239_6, hx239_7, hx239_8⟩ := at_T35 (Kd.R_reads' HO_226001.out).2.2 x8_3 p239 q239
            cases e239
            replace p239 := eq_true p239
            replace q239 := eq_true q239
            refine start_ (n := 38) (S := fun w' => w'.cell? ⟨gb225, 0, none⟩ = some (.string t224) ∧ w'.cell? ⟨gb225, 1, none⟩ = some (.slice (some ad239) x226001_1.length co33) ∧ w'.cell? ⟨gb238, 0, none⟩ = some (.string t228) ∧ w'.cell? ⟨gb238, 1, none⟩ = some (.string t229) ∧ w'.cell? ⟨gb238, 2, none⟩ = some (.int .u64 t230) ∧ w'.cell? ⟨gb238, 3, none⟩ = some (.int .i64 t231) ∧ w'.cell? ⟨gb238, 4, none⟩ = some (.int .i64 t232) ∧ w'.cell? ⟨gb238, 5, none⟩ = some (.int .i64 t233) ∧ w'.cell? ⟨gb238, 6, none⟩ = some (.int .i64 t234) ∧ w'.cell? ⟨gb238, 7, none⟩ = some (.int .i64 t235) ∧ w'.cell? ⟨gb238, 8, none⟩ = some (.int .i64 t236) ∧ w'.cell? (ad239.add ((x8_3).toNat * 9)) = some (.string ((rd_T35 x226001_1 x8_3).f0)) ∧ w'.cell? ⟨(ad239.add ((x8_3).toNat * 9)).block, (ad239.add ((x8_3).toNat * 9)).off + 1, none⟩ = some (.string ((rd_T35 x226001_1 x8_3).f1)) ∧ w'.cell? ⟨(ad239.add ((x8_3).toNat * 9)).block, (ad239.add ((x8_3).toNat * 9)).off + 2, none⟩ = some (.int .u64 ((rd_T35 x226001_1 x8_3).f2)) ∧ w'.cell? ⟨(ad239.add ((x8_3).toNat * 9)).block, (ad239.add ((x8_3).toNat * 9)).off + 3, none⟩ = some (.int .i64 ((rd_T35 x226001_1 x8_3).f3)) ∧ w'.cell? ⟨(ad239.add ((x8_3).toNat * 9)).block, (ad239.add ((x8_3).toNat * 9)).off + 4, none⟩ = some (.int .i64 ((rd_T35 x226001_1 x8_3).f4)) ∧ w'.cell? ⟨(ad239.add ((x8_3).toNat * 9)).block, (ad239.add ((x8_3).toNat * 9)).off + 5, none⟩ = some (.int .i64 ((rd_T35 x226001_1 x8_3).f5)) ∧ w'.cell? ⟨(ad239.add ((x8_3).toNat * 9)).block, (ad239.add ((x8_3).toNat * 9)).off + 6, none⟩ = some (.int .i64 ((rd_T35 x226001_1 x8_3).f6)) ∧ w'.cell? ⟨(ad239.add ((x8_3).toNat * 9)).block, (ad239.add ((x8_3).toNat * 9)).off + 7, none⟩ = some (.int .i64 ((rd_T35 x226001_1 x8_3).f7)) ∧ w'.cell? ⟨(ad239.add ((x8_3).toNat * 9)).block, (ad239.add ((x8_3).toNat * 9)).off + 8, none⟩ = some (.int .i64 ((rd_T35 x226001_1 x8_3).f8))) (ds := []) #[false,false,false,false,false,false,false,false,false,false,false,false,false,false,false,false,false,false,false,false,false,false,false,false,false,false,false,false,false,false,false,false,false,false,false,false,false,false] (by kernel_rfl) rfl rfl ⟨(blk_cell BK225.out 0).trans rfl, (blk_cell BK225.out 1).trans rfl, (blk_cell BK238.out 0).trans rfl, (blk_cell BK238.out 1).trans rfl, (blk_cell BK238.out 2).trans rfl, (blk_cell BK238.out 3).trans rfl, (blk_cell BK238.out 4).trans rfl, (blk_cell BK238.out 5).trans rfl, (blk_cell BK238.out 6).trans rfl, (blk_cell BK238.out 7).trans rfl, (blk_cell BK238.out 8).trans rfl, hx239_0, hx239_1, hx239_2, hx239_3, hx239_4, hx239_5, hx239_6, hx239_7, hx239_8⟩ (fun hHeld => ?_); refine with_tabW kerbsuitedata_Database.tab6 kerbsuitedata_Database.bits6 (fun HT_ HW_ => ?_)
            generalize wr.drew = w32 at HO_226001 BK222 BK225 BK238 HI223 HB hx239_0 hx239_1 hx239_2 hx239_3 hx239_4 hx239_5 hx239_6 hx239_7 hx239_8 hHeld ⊢
            refine pure_ (i := 0) (N := some 25) (v := ?_) (a' := ?_) (bo_ 38 1) rfl rfl (any_of HT_.out (by kernel_rfl)) (fun _ _ _ h => h) (Or.inl ⟨by rfl, ?_⟩) ?_ ?_
            rotate_left; (· intro w'; go_simp; with_reducible rfl)
            rotate_left; (· simp only [Act.put,sA_,sB_,sC_,i64_w,i32_w]; rfl)
            refine pure_ (i := 1) (N := some 26) (v := ?_) (a' := ?_) (bo_ 38 3) rfl rfl (any_of HT_.out (by kernel_rfl)) (fun _ _ _ h => h) (Or.inl ⟨by rfl, ?_⟩) ?_ ?_
            rotate_left; (· intro w'; go_simp; with_reducible rfl)
            rotate_left; (· simp only [Act.put,sA_,sB_,sC_,i64_w,i32_w]; rfl)
            refine take_ (i := 2) (N := some 27) (v := ?_) (a' := ?_) (bo_ 38 7) rfl rfl (take_ofW HT_.out HW_.out (by kernel_rfl)) (fun _ _ _ h => h) (Or.inl ⟨by rfl, ?_⟩) hHeld ?_ ?_
            rotate_left; (· rintro w' ⟨s0, s1, s2, s3, s4, s5, s6, s7, s8, s9, s10, s11, s12, s13, s14, s15, s16, s17, s18, s19⟩; go_simp; with_reducible rfl)
            rotate_left; (· simp only [Act.put,sA_,sB_,sC_,i64_w,i32_w]; rfl)
            refine pure_ (i := 3) (N := some 28) (v := ?_) (a' := ?_) (bo_ 38 15) rfl rfl (any_of HT_.out (by kernel_rfl)) (fun _ _ _ h => h) (Or.inl ⟨by rfl, ?_⟩) ?_ ?_
            rotate_left; (· intro w'; go_simp; with_reducible rfl)
            rotate_left; (· simp only [Act.put,sA_,sB_,sC_,i64_w,i32_w]; rfl)
            refine pure_ (i := 4) (N := some 29) (v := ?_) (a' := ?_) (bo_ 38 31) rfl rfl (any_of HT_.out (by kernel_rfl)) (fun _ _ _ h => h) (Or.inl ⟨by rfl, ?_⟩) ?_ ?_
            rotate_left; (· intro w'; go_simp; with_reducible rfl)
            rotate_left; (· simp only [Act.put,sA_,sB_,sC_,i64_w,i32_w]; rfl)
            refine pure_ (i := 5) (N := some 30) (v := ?_) (a' := ?_) (bo_ 38 63) rfl rfl (any_of HT_.out (by kernel_rfl)) (fun _ _ _ h => h) (Or.inl ⟨by rfl, ?_⟩) ?_ ?_
            rotate_left; (· intro w'; go_simp; with_reducible rfl)
            rotate_left; (· simp only [Act.put,sA_,sB_,sC_,i64_w,i32_w]; rfl)
            refine pure_ (i := 6) (N := some 31) (v := ?_) (a' := ?_) (bo_ 38 127) rfl rfl (any_of HT_.out (by kernel_rfl)) (fun _ _ _ h => h) (Or.inl ⟨by rfl, ?_⟩) ?_ ?_
            rotate_left; (· intro w'; go_simp; with_reducible rfl)
            rotate_left; (· simp only [Act.put,sA_,sB_,sC_,i64_w,i32_w]; rfl)
            refine pure_ (i := 8) (N := some 33) (v := ?_) (a' := ?_) (bo_ 38 383) rfl rfl (any_of HT_.out (by kernel_rfl)) (fun _ _ _ h => h) (Or.inl ⟨by rfl, ?_⟩) ?_ ?_
            rotate_left; (· intro w'; go_simp; with_reducible rfl)
            rotate_left; (· simp only [Act.put,sA_,sB_,sC_,i64_w,i32_w]; rfl)
            refine pure_ (i := 12) (N := some 37) (v := ?_) (a' := ?_) (bo_ 38 4479) rfl rfl (any_of HT_.out (by kernel_rfl)) (fun _ _ _ h => h) (Or.inl ⟨by rfl, ?_⟩) ?_ ?_
            rotate_left; (· intro w'; go_simp; with_reducible rfl)
            rotate_left; (· simp only [Act.put,sA_,sB_,sC_,i64_w,i32_w]; rfl)
            refine take_ (i := 7) (N := some 32) (v := ?_) (a' := ?_) (bo_ 38 4607) rfl rfl (take_ofW HT_.out HW_.out (by kernel_rfl)) (fun _ _ _ h => h) (Or.inl ⟨by rfl, ?_⟩) hHeld ?_ ?_
            rotate_left; (· rintro w' ⟨s0, s1, s2, s3, s4, s5, s6, s7, s8, s9, s10, s11, s12, s13, s14, s15, s16, s17, s18, s19⟩; go_simp; with_reducible rfl)
            rotate_left; (· simp only [Act.put,sA_,sB_,sC_,i64_w,i32_w]; rfl)
            refine pure_ (i := 9) (N := some 34) (v := ?_) (a' := ?_) (bo_ 38 5119) rfl rfl (any_of HT_.out (by kernel_rfl)) (fun _ _ _ h => h) (Or.inl ⟨by rfl, ?_⟩) ?_ ?_
            rotate_left; (· intro w'; go_simp; with_reducible rfl)
            rotate_left; (· simp only [Act.put,sA_,sB_,sC_,i64_w,i32_w]; rfl)
            refine pure_ (i := 10) (N := some 35) (v := ?_) (a' := ?_) (bo_ 38 6143) rfl rfl (any_of HT_.out (by kernel_rfl)) (fun _ _ _ h => h) (Or.inl ⟨by rfl, ?_⟩) ?_ ?_
            rotate_left; (· intro w'; go_simp; with_reducible rfl)
            rotate_left; (· simp only [Act.put,sA_,sB_,sC_,i64_w,i32_w]; rfl)
            refine take_ (i := 11) (N := some 36) (v := ?_) (a' := ?_) (bo_ 38 8191) rfl rfl (take_ofW HT_.out HW_.out (by kernel_rfl)) (fun _ _ _ h => h) (Or.inl ⟨by rfl, ?_⟩) hHeld ?_ ?_
            rotate_left; (· rintro w' ⟨s0, s1, s2, s3, s4, s5, s6, s7, s8, s9, s10, s11, s12, s13, s14, s15, s16, s17, s18, s19⟩; go_simp; with_reducible rfl)
            rotate_left; (· simp only [Act.put,sA_,sB_,sC_,i64_w,i32_w]; rfl)
            refine take_ (i := 13) (N := some 38) (v := ?_) (a' := ?_) (bo_ 38 16383) rfl rfl (take_ofW HT_.out HW_.out (by kernel_rfl)) (fun _ _ _ h => h) (Or.inl ⟨by rfl, ?_⟩) hHeld ?_ ?_
            rotate_left; (· rintro w' ⟨s0, s1, s2, s3, s4, s5, s6, s7, s8, s9, s10, s11, s12, s13, s14, s15, s16, s17, s18, s19⟩; go_simp; with_reducible rfl)
            rotate_left; (· simp only [Act.put,sA_,sB_,sC_,i64_w,i32_w]; rfl)
            refine pure_ (i := 14) (N := some 39) (v := ?_) (a' := ?_) (bo_ 38 32767) rfl rfl (any_of HT_.out (by kernel_rfl)) (fun _ _ _ h => h) (Or.inl ⟨by rfl, ?_⟩) ?_ ?_
            rotate_left; (· intro w'; go_simp; with_reducible rfl)
            rotate_left; (· simp only [Act.put,sA_,sB_,sC_,i64_w,i32_w]; rfl)
            refine pure_ (i := 15) (N := some 40) (v := ?_) (a' := ?_) (bo_ 38 65535) rfl rfl (any_of HT_.out (by kernel_rfl)) (fun _ _ _ h => h) (Or.inl ⟨by rfl, ?_⟩) ?_ ?_
            rotate_left; (· intro w'; go_simp; with_reducible rfl)
            rotate_left; (· simp only [Act.put,sA_,sB_,sC_,i64_w,i32_w]; rfl)
            refine pure_ (i := 16) (N := some 41) (v := undef) (a' := ?_) (bo_ 38 131071) rfl rfl (any_of HT_.out (by kernel_rfl)) (fun _ _ _ h => h) (Or.inr ⟨by rfl, rfl⟩) ?_ ?_
            rotate_left; (· simp only [Act.put,sA_,sB_,sC_,i64_w,i32_w]; rfl)
            refine pure_ (i := 17) (N := some 42) (v := undef) (a' := ?_) (bo_ 38 262143) rfl rfl (any_of HT_.out (by kernel_rfl)) (fun _ _ _ h => h) (Or.inr ⟨by rfl, rfl⟩) ?_ ?_
            rotate_left; (· simp only [Act.put,sA_,sB_,sC_,i64_w,i32_w]; rfl)
            refine pure_ (i := 18) (N := some 43) (v := undef) (a' := ?_) (bo_ 38 524287) rfl rfl (any_of HT_.out (by kernel_rfl)) (fun _ _ _ h => h) (Or.inr ⟨by rfl, rfl⟩) ?_ ?_
            rotate_left; (· simp only [Act.put,sA_,sB_,sC_,i64_w,i32_w]; rfl)
            refine pure_ (i := 19) (N := some 44) (v := undef) (a' := ?_) (bo_ 38 1048575) rfl rfl (any_of HT_.out (by kernel_rfl)) (fun _ _ _ h => h) (Or.inr ⟨by rfl, rfl⟩) ?_ ?_
            rotate_left; (· simp only [Act.put,sA_,sB_,sC_,i64_w,i32_w]; rfl)
            refine pure_ (i := 20) (N := some 45) (v := undef) (a' := ?_) (bo_ 38 2097151) rfl rfl (any_of HT_.out (by kernel_rfl)) (fun _ _ _ h => h) (Or.inr ⟨by rfl, rfl⟩) ?_ ?_
            rotate_left; (· simp only [Act.put,sA_,sB_,sC_,i64_w,i32_w]; rfl)
            refine pure_ (i := 21) (N := some 46) (v := undef) (a' := ?_) (bo_ 38 4194303) rfl rfl (any_of HT_.out (by kernel_rfl)) (fun _ _ _ h => h) (Or.inr ⟨by rfl, rfl⟩) ?_ ?_
            rotate_left; (· simp only [Act.put,sA_,sB_,sC_,i64_w,i32_w]; rfl)
            refine pure_ (i := 22) (N := some 47) (v := undef) (a' := ?_) (bo_ 38 8388607) rfl rfl (any_of HT_.out (by kernel_rfl)) (fun _ _ _ h => h) (Or.inr ⟨by rfl, rfl⟩) ?_ ?_
            rotate_left; (· simp only [Act.put,sA_,sB_,sC_,i64_w,i32_w]; rfl)
            refine pure_ (i := 23) (N := some 48) (v := undef) (a' := ?_) (bo_ 38 16777215) rfl rfl (any_of HT_.out (by kernel_rfl)) (fun _ _ _ h => h) (Or.inr ⟨by rfl, rfl⟩) ?_ ?_
            rotate_left; (· simp only [Act.put,sA_,sB_,sC_,i64_w,i32_w]; rfl)
            refine pure_ (i := 24) (N := some 49) (v := undef) (a' := ?_) (bo_ 38 33554431) rfl rfl (any_of HT_.out (by kernel_rfl)) (fun _ _ _ h => h) (Or.inr ⟨by rfl, rfl⟩) ?_ ?_
            rotate_left; (· simp only [Act.put,sA_,sB_,sC_,i64_w,i32_w]; rfl)
            refine pure_ (i := 25) (N := some 50) (v := undef) (a' := ?_) (bo_ 38 67108863) rfl rfl (any_of HT_.out (by kernel_rfl)) (fun _ _ _ h => h) (Or.inr ⟨by rfl, rfl⟩) ?_ ?_
            rotate_left; (· simp only [Act.put,sA_,sB_,sC_,i64_w,i32_w]; rfl)
            refine pure_ (i := 26) (N := some 51) (v := undef) (a' := ?_) (bo_ 38 134217727) rfl rfl (any_of HT_.out (by kernel_rfl)) (fun _ _ _ h => h) (Or.inr ⟨by rfl, rfl⟩) ?_ ?_
            rotate_left; (· simp only [Act.put,sA_,sB_,sC_,i64_w,i32_w]; rfl)
            refine pure_ (i := 27) (N := some 52) (v := undef) (a' := ?_) (bo_ 38 268435455) rfl rfl (any_of HT_.out (by kernel_rfl)) (fun _ _ _ h => h) (Or.inr ⟨by rfl, rfl⟩) ?_ ?_
            rotate_left; (· simp only [Act.put,sA_,sB_,sC_,i64_w,i32_w]; rfl)
            refine pure_ (i := 28) (N := some 53) (v := undef) (a' := ?_) (bo_ 38 536870911) rfl rfl (any_of HT_.out (by kernel_rfl)) (fun _ _ _ h => h) (Or.inr ⟨by rfl, rfl⟩) ?_ ?_
            rotate_left; (· simp only [Act.put,sA_,sB_,sC_,i64_w,i32_w]; rfl)
            refine pure_ (i := 29) (N := some 54) (v := undef) (a' := ?_) (bo_ 38 1073741823) rfl rfl (any_of HT_.out (by kernel_rfl)) (fun _ _ _ h => h) (Or.inr ⟨by rfl, rfl⟩) ?_ ?_
            rotate_left; (· simp only [Act.put,sA_,sB_,sC_,i64_w,i32_w]; rfl)
            refine pure_ (i := 30) (N := some 55) (v := undef) (a' := ?_) (bo_ 38 2147483647) rfl rfl (any_of HT_.out (by kernel_rfl)) (fun _ _ _ h => h) (Or.inr ⟨by rfl, rfl⟩) ?_ ?_
            rotate_left; (· simp only [Act.put,sA_,sB_,sC_,i64_w,i32_w]; rfl)
            refine pure_ (i := 31) (N := some 56) (v := undef) (a' := ?_) (bo_ 38 4294967295) rfl rfl (any_of HT_.out (by kernel_rfl)) (fun _ _ _ h => h) (Or.inr ⟨by rfl, rfl⟩) ?_ ?_
            rotate_left; (· simp only [Act.put,sA_,sB_,sC_,i64_w,i32_w]; rfl)
            refine pure_ (i := 32) (N := some 57) (v := undef) (a' := ?_) (bo_ 38 8589934591) rfl rfl (any_of HT_.out (by kernel_rfl)) (fun _ _ _ h => h) (Or.inr ⟨by rfl, rfl⟩) ?_ ?_
            rotate_left; (· simp only [Act.put,sA_,sB_,sC_,i64_w,i32_w]; rfl)
            refine pure_ (i := 33) (N := some 58) (v := undef) (a' := ?_) (bo_ 38 17179869183) rfl rfl (any_of HT_.out (by kernel_rfl)) (fun _ _ _ h => h) (Or.inr ⟨by rfl, rfl⟩) ?_ ?_
            rotate_left; (· simp only [Act.put,sA_,sB_,sC_,i64_w,i32_w]; rfl)
            refine pure_ (i := 34) (N := some 59) (v := undef) (a' := ?_) (bo_ 38 34359738367) rfl rfl (any_of HT_.out (by kernel_rfl)) (fun _ _ _ h => h) (Or.inr ⟨by rfl, rfl⟩) ?_ ?_
            rotate_left; (· simp only [Act.put,sA_,sB_,sC_,i64_w,i32_w]; rfl)
            refine pure_ (i := 35) (N := some 60) (v := undef) (a' := ?_) (bo_ 38 68719476735) rfl rfl (any_of HT_.out (by kernel_rfl)) (fun _ _ _ h => h) (Or.inr ⟨by rfl, rfl⟩) ?_ ?_
            rotate_left; (· simp only [Act.put,sA_,sB_,sC_,i64_w,i32_w]; rfl)
            refine pure_ (i := 36) (N := some 61) (v := ?_) (a' := ?_) (bo_ 38 137438953471) rfl rfl (any_of HT_.out (by kernel_rfl)) (fun _ _ _ h => h) (Or.inl ⟨by rfl, ?_⟩) ?_ ?_
            rotate_left; (· intro w'; go_simp; with_reducible rfl)
            rotate_left; (· simp only [Act.put,sA_,sB_,sC_,i64_w,i32_w]; rfl)
            refine pure_ (i := 37) (N := some 62) (v := ?_) (a' := ?_) (bo_ 38 274877906943) rfl rfl (any_of HT_.out (by kernel_rfl)) (fun _ _ _ h => h) (Or.inl ⟨by rfl, ?_⟩) ?_ ?_
            rotate_left; (· intro w'; go_simp; with_reducible rfl)
            rotate_left; (· simp only [Act.put,sA_,sB_,sC_,i64_w,i32_w]; rfl)
            refine done_ (done_of HT_.out (by kernel_rfl)) ?_
            try go_wp2
            go_meet
            case rel => exact ⟨_, (true), (by first | rfl | (simp; done) | (simp [*]; done)), H', ⟨by have := HK1.out; have := HJ10.out; have := HK3.out; first | omega | exact Nat.le_refl _⟩, ⟨by refine bk_ ?_; exact HO_226001.out⟩, ⟨by refine bk_ ?_; exact BK222.out⟩, ⟨by refine bk_ ?_; exact BK225.out⟩, ⟨by refine bk_ ?_; exact BK238.out⟩, ⟨by repeat (first | (with_reducible first | exact HI223.out | apply IsS52.alloc | apply IsS52.drewN | apply IsS52.drew | apply IsS52.set_1 | refine IsS52.far ?_ NB223_222.out _ | refine IsS52.far ?_ NB223_225.out _ | refine IsS52.far ?_ NB223_238.out _) | exact HI223.out)⟩, ⟨by repeat (first | (with_reducible first | exact HB.out | apply bA_ | apply bN_ | apply bD_ | refine bS_ ?_ (IsS52.ge HI223.out) | refine bS_ ?_ GE222.out | refine bS_ ?_ GE225.out | refine bS_ ?_ GE238.out) | exact HB.out)⟩⟩
           rw [if_neg c31] at H
           have c31b0 : (Op.bytesLess (((rd_T35 x226001_1 x8_3).f0).toList) t228.toList) = false := by simpa using c31
           clear c31
           by_cases c34 : ((rd_T35 x226001_1 x8_3).f0).toList = t228.toList
           ·rw [if_pos c34] at H
            have c34b0 : (((rd_T35 x226001_1 x8_3).f0).toList == t228.toList) = true := beq_iff_eq.mpr c34
            have c34b1 : (((rd_T35 x226001_1 x8_3).f0).toList != t228.toList) = false := bne_eq_false_iff_eq.mpr c34
            clear c34
            have H' := Aside0.mk H
            clear H
            try go_upto_region 6 with fail
            have n0_ := Aside0.mk (Kd.R_drew HO_226001.out)
            have n1_ := Aside0.mk (blk_drew BK222.out)
            have n2_ := Aside0.mk (blk_drew BK225.out)
            have n3_ := Aside0.mk (blk_drew BK238.out)
            have n4_ := Aside0.mk (IsS52.drew HI223.out)
            have n5_ := Aside0.mk (bD_ HB.out)
            clear HO_226001 BK222 BK225 BK238 HI223 HB
            have HO_226001 := n0_
            have BK222 := n1_
            have BK225 := n2_
            have BK238 := n3_
            have HI223 := n4_
            have HB := n5_
            clear n0_ n1_ n2_ n3_ n4_ n5_
            obtain ⟨Ao36, co36, eo36⟩ := Kd.R_slice HO_226001.out
            (first | subst eo36 | (injection eo36 with f1_ f2_ f3_; have f4_ := f1_.symm; have f5_ := f3_.symm; clear f1_ f2_ f3_; subst f4_; subst f5_))
            have p239 : 0 ≤ (x8_3 : Int) := of_decide_eq_true (by first | (with_reducible assumption) | assumption)
            have q239 : x8_3 < (x226001_1.length : Int) := of_decide_eq_true (by first | (with_reducible assumption) | assumption)
            obtain ⟨ad239, e239, hx239_0, hx239_1, hx239_2, hx239_3, hx239_4, hx239_5, hx239_6, hx239_7, hx239_8⟩ := at_T35 (Kd.R_reads' HO_226001.out).2.2 x8_3 p239 q239
            cases e239
            replace p239 := eq_true p239
            replace q239 := eq_true q239
            have p240 : 0 ≤ (x8_3 : Int) := of_decide_eq_true (by first | (with_reducible assumption) | assumption)
            have q240 : x8_3 < (x226001_1.length : Int) := of_decide_eq_true (by first | (with_reducible assumption) | assumption)
            obtain ⟨ad240, e240, hx240_0, hx240_1, hx240_2, hx240_3, hx240_4, hx240_5, hx240_6, hx240_7, hx240_8⟩ := at_T35 (Kd.R_reads' HO_226001.out).2.2 x8_3 p240 q240
            obtain rfl : ad239 = ad240 := (by injection e240)
            replace p240 := eq_true p240
            replace q240 := eq_true q240
            have p241 : 0 ≤ (x8_3 : Int) := of_decide_eq_true (by first | (with_reducible assumption) | assumption)
            have q241 : x8_3 < (x226001_1.length : Int) := of_decide_eq_true (by first | (with_reducible assumption) | assumption)
            obtain ⟨ad241, e241, hx241_0, hx241_1, hx241_2, hx241_3, hx241_4, hx241_5, hx241_6, hx241_7, hx241_8⟩ := at_T35 (Kd.R_reads' HO_226001.out).2.2 x8_3 p241 q241
            obtain rfl : ad239 = ad241 := (by injection e241)
            replace p241 := eq_true p241
            replace q241 := eq_true q241
            refine start_ (n := 38) (S := fun w' => w'.cell? ⟨gb225, 0, none⟩ = some (.string t224) ∧ w'.cell? ⟨gb225, 1, none⟩ = some (.slice (some ad239) x226001_1.length co36) ∧ w'.cell? ⟨gb238, 0, none⟩ = some (.string t228) ∧ w'.cell? ⟨gb238, 1, none⟩ = some (.string t229) ∧ w'.cell? ⟨gb238, 2, none⟩ = some (.int .u64 t230) ∧ w'.cell? ⟨gb238, 3, none⟩ = some (.int .i64 t231) ∧ w'.cell? ⟨gb238, 4, none⟩ = some (.int .i64 t232) ∧ w'.cell? ⟨gb238, 5, none⟩ = some (.int .i64 t233) ∧ w'.cell? ⟨gb238, 6, none⟩ = some (.int .i64 t234) ∧ w'.cell? ⟨gb238, 7, none⟩ = some (.int .i64 t235) ∧ w'.cell? ⟨gb238, 8, none⟩ = some (.int .i64 t236) ∧ w'.cell? (ad239.add ((x8_3).toNat * 9)) = some (.string ((rd_T35 x226001_1 x8_3).f0)) ∧ w'.cell? ⟨(ad239.add ((x8_3).toNat * 9)).block, (ad239.add ((x8_3).toNat * 9)).off + 1, none⟩ = some (.string ((rd_T35 x226001_1 x8_3).f1)) ∧ w'.cell? ⟨(ad239.add ((x8_3).toNat * 9)).block, (ad239.add ((x8_3).toNat * 9)).off + 2, none⟩ = some (.int .u64 ((rd_T35 x226001_1 x8_3).f2)) ∧ w'.cell? ⟨(ad239.add ((x8_3).toNat * 9)).block, (ad239.add ((x8_3).toNat * 9)).off + 3, none⟩ = some (.int .i64 ((rd_T35 x226001_1 x8_3).f3)) ∧ w'.cell? ⟨(ad239.add ((x8_3).toNat * 9)).block, (ad239.add ((x8_3).toNat * 9)).off + 4, none⟩ = some (.int .i64 ((rd_T35 x226001_1 x8_3).f4)) ∧ w'.cell? ⟨(ad239.add ((x8_3).toNat * 9)).block, (ad239.add ((x8_3).toNat * 9)).off + 5, none⟩ = some (.int .i64 ((rd_T35 x226001_1 x8_3).f5)) ∧ w'.cell? ⟨(ad239.add ((x8_3).toNat * 9)).block, (ad239.add ((x8_3).toNat * 9)).off + 6, none⟩ = some (.int .i64 ((rd_T35 x226001_1 x8_3).f6)) ∧ w'.cell? ⟨(ad239.add ((x8_3).toNat * 9)).block, (ad239.add ((x8_3).toNat * 9)).off + 7, none⟩ = some (.int .i64 ((rd_T35 x226001_1 x8_3).f7)) ∧ w'.cell? ⟨(ad239.add ((x8_3).toNat * 9)).block, (ad239.add ((x8_3).toNat * 9)).off + 8, none⟩ = some (.int .i64 ((rd_T35 x226001_1 x8_3).f8)) ∧ w'.cell? (ad239.add ((x8_3).toNat * 9)) = some (.string ((rd_T35 x226001_1 x8_3).f0)) ∧ w'.cell? ⟨(ad239.add ((x8_3).toNat * 9)).block, (ad239.add ((x8_3).toNat * 9)).off + 1, none⟩ = some (.string ((rd_T35 x226001_1 x8_3).f1)) ∧ w'.cell? ⟨(ad239.add ((x8_3).toNat * 9)).block, (ad239.add ((x8_3).toNat * 9)).off + 2, none⟩ = some (.int .u64 ((rd_T35 x226001_1 x8_3).f2)) ∧ w'.cell? ⟨(ad239.add ((x8_3).toNat * 9)).block, (ad239.add ((x8_3).toNat * 9)).off + 3, none⟩ = some (.int .i64 ((rd_T35 x226001_1 x8_3).f3)) ∧ w'.cell? ⟨(ad239.add ((x8_3).toNat * 9)).block, (ad239.add ((x8_3).toNat * 9)).off + 4, none⟩ = some (.int .i64 ((rd_T35 x226001_1 x8_3).f4)) ∧ w'.cell? ⟨(ad239.add ((x8_3).toNat * 9)).block, (ad239.add ((x8_3).toNat * 9)).off + 5, none⟩ = some (.int .i64 ((rd_T35 x226001_1 x8_3).f5)) ∧ w'.cell? ⟨(ad239.add ((x8_3).toNat * 9)).block, (ad239.add ((x8_3).toNat * 9)).off + 6, none⟩ = some (.int .i64 ((rd_T35 x226001_1 x8_3).f6)) ∧ w'.cell? ⟨(ad239.add ((x8_3).toNat * 9)).block, (ad239.add ((x8_3).toNat * 9)).off + 7, none⟩ = some (.int .i64 ((rd_T35 x226001_1 x8_3).f7)) ∧ w'.cell? ⟨(ad239.add ((x8_3).toNat * 9)).block, (ad239.add ((x8_3).toNat * 9)).off + 8, none⟩ = some (.int .i64 ((rd_T35 x226001_1 x8_3).f8)) ∧ w'.cell? (ad239.add ((x8_3).toNat * 9)) = some (.string ((rd_T35 x226001_1 x8_3).f0)) ∧ w'.cell? ⟨(ad239.add ((x8_3).toNat * 9)).block, (ad239.add ((x8_3).toNat * 9)).off + 1, none⟩ = some (.string ((rd_T35 x226001_1 x8_3).f1)) ∧ w'.cell? ⟨(ad239.add ((x8_3).toNat * 9)).block, (ad239.add ((x8_3).toNat * 9)).off + 2, none⟩ = some (.int .u64 ((rd_T35 x226001_1 x8_3).f2)) ∧ w'.cell? ⟨(ad239.add ((x8_3).toNat * 9)).block, (ad239.add ((x8_3).toNat * 9)).off + 3, none⟩ = some (.int .i64 ((rd_T35 x226001_1 x8_3).f3)) ∧ w'.cell? ⟨(ad239.add ((x8_3).toNat * 9)).block, (ad239.add ((x8_3).toNat * 9)).off + 4, none⟩ = some (.int .i64 ((rd_T35 x226001_1 x8_3).f4)) ∧ w'.cell? ⟨(ad239.add ((x8_3).toNat * 9)).block, (ad239.add ((x8_3).toNat * 9)).off + 5, none⟩ = some (.int .i64 ((rd_T35 x226001_1 x8_3).f5)) ∧ w'.cell? ⟨(ad239.add ((x8_3).toNat * 9)).block, (ad239.add ((x8_3).toNat * 9)).off + 6, none⟩ = some (.int .i64 ((rd_T35 x226001_1 x8_3).f6)) ∧ w'.cell? ⟨(ad239.add ((x8_3).toNat * 9)).block, (ad239.add ((x8_3).toNat * 9)).off + 7, none⟩ = some (.int .i64 ((rd_T35 x226001_1 x8_3).f7)) ∧ w'.cell? ⟨(ad239.add ((x8_3).toNat * 9)).block, (ad239.add ((x8_3).toNat * 9)).off + 8, none⟩ = some (.int .i64 ((rd_T35 x226001_1 x8_3).f8))) (ds := []) #[false,false,false,false,false,false,false,false,false,false,false,false,false,false,false,false,false,false,false,false,false,false,false,false,false,false,false,false,false,false,false,false,false,false,false,false,false,false] (by kernel_rfl) rfl rfl ⟨(blk_cell BK225.out 0).trans rfl, (blk_cell BK225.out 1).trans rfl, (blk_cell BK238.out 0).trans rfl, (blk_cell BK238.out 1).trans rfl, (blk_cell BK238.out 2).trans rfl, (blk_cell BK238.out 3).trans rfl, (blk_cell BK238.out 4).trans rfl, (blk_cell BK238.out 5).trans rfl, (blk_cell BK238.out 6).trans rfl, (blk_cell BK238.out 7).trans rfl, (blk_cell BK238.out 8).trans rfl, hx239_0, hx239_1, hx239_2, hx239_3, hx239_4, hx239_5, hx239_6, hx239_7, hx239_8, hx240_0, hx240_1, hx240_2, hx240_3, hx240_4, hx240_5, hx240_6, hx240_7, hx240_8, hx241_0, hx241_1, hx241_2, hx241_3, hx241_4, hx241_5, hx241_6, hx241_7, hx241_8⟩ (fun hHeld => ?_); refine with_tabW kerbsuitedata_Database.tab6 kerbsuitedata_Database.bits6 (fun HT_ HW_ => ?_)
            generalize wr.drew = w35 at HO_226001 BK222 BK225 BK238 HI223 HB hx239_0 hx239_1 hx239_2 hx239_3 hx239_4 hx239_5 hx239_6 hx239_7 hx239_8 hx240_0 hx240_1 hx240_2 hx240_3 hx240_4 hx240_5 hx240_6 hx240_7 hx240_8 hx241_0 hx241_1 hx241_2 hx241_3 hx241_4 hx241_5 hx241_6 hx241_7 hx241_8 hHeld ⊢
            refine pure_ (i := 0) (N := some 25) (v := ?_) (a' := ?_) (bo_ 38 1) rfl rfl (any_of HT_.out (by kernel_rfl)) (fun _ _ _ h => h) (Or.inl ⟨by rfl, ?_⟩) ?_ ?_
            rotate_left; (· intro w'; go_simp; with_reducible rfl)
            rotate_left; (· simp only [Act.put,sA_,sB_,sC_,i64_w,i32_w]; rfl)
            refine pure_ (i := 1) (N := some 26) (v := ?_) (a' := ?_) (bo_ 38 3) rfl rfl (any_of HT_.out (by kernel_rfl)) (fun _ _ _ h => h) (Or.inl ⟨by rfl, ?_⟩) ?_ ?_
            rotate_left; (· intro w'; go_simp; with_reducible rfl)
            rotate_left; (· simp only [Act.put,sA_,sB_,sC_,i64_w,i32_w]; rfl)
            refine take_ (i := 2) (N := some 27) (v := ?_) (a' := ?_) (bo_ 38 7) rfl rfl (take_ofW HT_.out HW_.out (by kernel_rfl)) (fun _ _ _ h => h) (Or.inl ⟨by rfl, ?_⟩) hHeld ?_ ?_
            rotate_left; (· rintro w' ⟨s0, s1, s2, s3, s4, s5, s6, s7, s8, s9, s10, s11, s12, s13, s14, s15, s16, s17, s18, s19, s20, s21, s22, s23, s24, s25, s26, s27, s28, s29, s30, s31, s32, s33, s34, s35, s36, s37⟩; go_simp; with_reducible rfl)
            rotate_left; (· simp only [Act.put,sA_,sB_,sC_,i64_w,i32_w]; rfl)
            refine pure_ (i := 3) (N := some 28) (v := ?_) (a' := ?_) (bo_ 38 15) rfl rfl (any_of HT_.out (by kernel_rfl)) (fun _ _ _ h => h) (Or.inl ⟨by rfl, ?_⟩) ?_ ?_
            rotate_left; (· intro w'; go_simp; with_reducible rfl)
            rotate_left; (· simp only [Act.put,sA_,sB_,sC_,i64_w,i32_w]; rfl)
            refine pure_ (i := 4) (N := some 29) (v := ?_) (a' := ?_) (bo_ 38 31) rfl rfl (any_of HT_.out (by kernel_rfl)) (fun _ _ _ h => h) (Or.inl ⟨by rfl, ?_⟩) ?_ ?_
            rotate_left; (· intro w'; go_simp; with_reducible rfl)
            rotate_left; (· simp only [Act.put,sA_,sB_,sC_,i64_w,i32_w]; rfl)
            refine pure_ (i := 5) (N := some 30) (v := ?_) (a' := ?_) (bo_ 38 63) rfl rfl (any_of HT_.out (by kernel_rfl)) (fun _ _ _ h => h) (Or.inl ⟨by rfl, ?_⟩) ?_ ?_
            rotate_left; (· intro w'; go_simp; with_reducible rfl)
            rotate_left; (· simp only [Act.put,sA_,sB_,sC_,i64_w,i32_w]; rfl)
            refine pure_ (i := 6) (N := some 31) (v := ?_) (a' := ?_) (bo_ 38 127) rfl rfl (any_of HT_.out (by kernel_rfl)) (fun _ _ _ h => h) (Or.inl ⟨by rfl, ?_⟩) ?_ ?_
            rotate_left; (· intro w'; go_simp; with_reducible rfl)
            rotate_left; (· simp only [Act.put,sA_,sB_,sC_,i64_w,i32_w]; rfl)
            refine pure_ (i := 8) (N := some 33) (v := ?_) (a' := ?_) (bo_ 38 383) rfl rfl (any_of HT_.out (by kernel_rfl)) (fun _ _ _ h => h) (Or.inl ⟨by rfl, ?_⟩) ?_ ?_
            rotate_left; (· intro w'; go_simp; with_reducible rfl)
            rotate_left; (· simp only [Act.put,sA_,sB_,sC_,i64_w,i32_w]; rfl)
            refine pure_ (i := 12) (N := some 37) (v := ?_) (a' := ?_) (bo_ 38 4479) rfl rfl (any_of HT_.out (by kernel_rfl)) (fun _ _ _ h => h) (Or.inl ⟨by rfl, ?_⟩) ?_ ?_
            rotate_left; (· intro w'; go_simp; with_reducible rfl)
            rotate_left; (· simp only [Act.put,sA_,sB_,sC_,i64_w,i32_w]; rfl)
            refine take_ (i := 7) (N := some 32) (v := ?_) (a' := ?_) (bo_ 38 4607) rfl rfl (take_ofW HT_.out HW_.out (by kernel_rfl)) (fun _ _ _ h => h) (Or.inl ⟨by rfl, ?_⟩) hHeld ?_ ?_
            rotate_left; (· rintro w' ⟨s0, s1, s2, s3, s4, s5, s6, s7, s8, s9, s10, s11, s12, s13, s14, s15, s16, s17, s18, s19, s20, s21, s22, s23, s24, s25, s26, s27, s28, s29, s30, s31, s32, s33, s34, s35, s36, s37⟩; go_simp; with_reducible rfl)
            rotate_left; (· simp only [Act.put,sA_,sB_,sC_,i64_w,i32_w]; rfl)
            refine pure_ (i := 9) (N := some 34) (v := ?_) (a' := ?_) (bo_ 38 5119) rfl rfl (any_of HT_.out (by kernel_rfl)) (fun _ _ _ h => h) (Or.inl ⟨by rfl, ?_⟩) ?_ ?_
            rotate_left; (· intro w'; go_simp; with_reducible rfl)
            rotate_left; (· simp only [Act.put,sA_,sB_,sC_,i64_w,i32_w]; rfl)
            refine pure_ (i := 10) (N := some 35) (v := ?_) (a' := ?_) (bo_ 38 6143) rfl rfl (any_of HT_.out (by kernel_rfl)) (fun _ _ _ h => h) (Or.inl ⟨by rfl, ?_⟩) ?_ ?_
            rotate_left; (· intro w'; go_simp; with_reducible rfl)
            rotate_left; (· simp only [Act.put,sA_,sB_,sC_,i64_w,i32_w]; rfl)
            refine take_ (i := 11) (N := some 36) (v := ?_) (a' := ?_) (bo_ 38 8191) rfl rfl (take_ofW HT_.out HW_.out (by kernel_rfl)) (fun _ _ _ h => h) (Or.inl ⟨by rfl, ?_⟩) hHeld ?_ ?_
            rotate_left; (· rintro w' ⟨s0, s1, s2, s3, s4, s5, s6, s7, s8, s9, s10, s11, s12, s13, s14, s15, s16, s17, s18, s19, s20, s21, s22, s23, s24, s25, s26, s27, s28, s29, s30, s31, s32, s33, s34, s35, s36, s37⟩; go_simp; with_reducible rfl)
            rotate_left; (· simp only [Act.put,sA_,sB_,sC_,i64_w,i32_w]; rfl)
            refine take_ (i := 13) (N := some 38) (v := ?_) (a' := ?_) (bo_ 38 16383) rfl rfl (take_ofW HT_.out HW_.out (by kernel_rfl)) (fun _ _ _ h => h) (Or.inl ⟨by rfl, ?_⟩) hHeld ?_ ?_
            rotate_left; (· rintro w' ⟨s0, s1, s2, s3, s4, s5, s6, s7, s8, s9, s10, s11, s12, s13, s14, s15, s16, s17, s18, s19, s20, s21, s22, s23, s24, s25, s26, s27, s28, s29, s30, s31, s32, s33, s34, s35, s36, s37⟩; go_simp; with_reducible rfl)
            rotate_left; (· simp only [Act.put,sA_,sB_,sC_,i64_w,i32_w]; rfl)
            refine pure_ (i := 14) (N := some 39) (v := ?_) (a' := ?_) (bo_ 38 32767) rfl rfl (any_of HT_.out (by kernel_rfl)) (fun _ _ _ h => h) (Or.inl ⟨by rfl, ?_⟩) ?_ ?_
            rotate_left; (· intro w'; go_simp; with_reducible rfl)
            rotate_left; (· simp only [Act.put,sA_,sB_,sC_,i64_w,i32_w]; rfl)
            refine pure_ (i := 15) (N := some 40) (v := ?_) (a' := ?_) (bo_ 38 65535) rfl rfl (any_of HT_.out (by kernel_rfl)) (fun _ _ _ h => h) (Or.inl ⟨by rfl, ?_⟩) ?_ ?_
            rotate_left; (· intro w'; go_simp; with_reducible rfl)
            rotate_left; (· simp only [Act.put,sA_,sB_,sC_,i64_w,i32_w]; rfl)
            refine pure_ (i := 16) (N := some 41) (v := ?_) (a' := ?_) (bo_ 38 131071) rfl rfl (any_of HT_.out (by kernel_rfl)) (fun _ _ _ h => h) (Or.inl ⟨by rfl, ?_⟩) ?_ ?_
            rotate_left; (· intro w'; go_simp; with_reducible rfl)
            rotate_left; (· simp only [Act.put,sA_,sB_,sC_,i64_w,i32_w]; rfl)
            refine pure_ (i := 18) (N := some 43) (v := ?_) (a' := ?_) (bo_ 38 393215) rfl rfl (any_of HT_.out (by kernel_rfl)) (fun _ _ _ h => h) (Or.inl ⟨by rfl, ?_⟩) ?_ ?_
            rotate_left; (· intro w'; go_simp; with_reducible rfl)
            rotate_left; (· simp only [Act.put,sA_,sB_,sC_,i64_w,i32_w]; rfl)
            refine pure_ (i := 22) (N := some 47) (v := ?_) (a' := ?_) (bo_ 38 4587519) rfl rfl (any_of HT_.out (by kernel_rfl)) (fun _ _ _ h => h) (Or.inl ⟨by rfl, ?_⟩) ?_ ?_
            rotate_left; (· intro w'; go_simp; with_reducible rfl)
            rotate_left; (· simp only [Act.put,sA_,sB_,sC_,i64_w,i32_w]; rfl)
            refine take_ (i := 17) (N := some 42) (v := ?_) (a' := ?_) (bo_ 38 4718591) rfl rfl (take_ofW HT_.out HW_.out (by kernel_rfl)) (fun _ _ _ h => h) (Or.inl ⟨by rfl, ?_⟩) hHeld ?_ ?_
            rotate_left; (· rintro w' ⟨s0, s1, s2, s3, s4, s5, s6, s7, s8, s9, s10, s11, s12, s13, s14, s15, s16, s17, s18, s19, s20, s21, s22, s23, s24, s25, s26, s27, s28, s29, s30, s31, s32, s33, s34, s35, s36, s37⟩; go_simp; with_reducible rfl)
            rotate_left; (· simp only [Act.put,sA_,sB_,sC_,i64_w,i32_w]; rfl)
            refine pure_ (i := 19) (N := some 44) (v := ?_) (a' := ?_) (bo_ 38 5242879) rfl rfl (any_of HT_.out (by kernel_rfl)) (fun _ _ _ h => h) (Or.inl ⟨by rfl, ?_⟩) ?_ ?_
            rotate_left; (· intro w'; go_simp; with_reducible rfl)
            rotate_left; (· simp only [Act.put,sA_,sB_,sC_,i64_w,i32_w]; rfl)
            refine pure_ (i := 20) (N := some 45) (v := ?_) (a' := ?_) (bo_ 38 6291455) rfl rfl (any_of HT_.out (by kernel_rfl)) (fun _ _ _ h => h) (Or.inl ⟨by rfl, ?_⟩) ?_ ?_
            rotate_left; (· intro w'; go_simp; with_reducible rfl)
            rotate_left; (· simp only [Act.put,sA_,sB_,sC_,i64_w,i32_w]; rfl)
            refine take_ (i := 21) (N := some 46) (v := ?_) (a' := ?_) (bo_ 38 8388607) rfl rfl (take_ofW HT_.out HW_.out (by kernel_rfl)) (fun _ _ _ h => h) (Or.inl ⟨by rfl, ?_⟩) hHeld ?_ ?_
            rotate_left; (· rintro w' ⟨s0, s1, s2, s3, s4, s5, s6, s7, s8, s9, s10, s11, s12, s13, s14, s15, s16, s17, s18, s19, s20, s21, s22, s23, s24, s25, s26, s27, s28, s29, s30, s31, s32, s33, s34, s35, s36, s37⟩; go_simp; with_reducible rfl)
            rotate_left; (· simp only [Act.put,sA_,sB_,sC_,i64_w,i32_w]; rfl)
            refine take_ (i := 23) (N := some 48) (v := ?_) (a' := ?_) (bo_ 38 16777215) rfl rfl (take_ofW HT_.out HW_.out (by kernel_rfl)) (fun _ _ _ h => h) (Or.inl ⟨by rfl, ?_⟩) hHeld ?_ ?_
            rotate_left; (· rintro w' ⟨s0, s1, s2, s3, s4, s5, s6, s7, s8, s9, s10, s11, s12, s13, s14, s15, s16, s17, s18, s19, s20, s21, s22, s23, s24, s25, s26, s27, s28, s29, s30, s31, s32, s33, s34, s35, s36, s37⟩; go_simp; with_reducible rfl)
            rotate_left; (· simp only [Act.put,sA_,sB_,sC_,i64_w,i32_w]; rfl)
            refine pure_ (i := 24) (N := some 49) (v := ?_) (a' := ?_) (bo_ 38 33554431) rfl rfl (any_of HT_.out (by kernel_rfl)) (fun _ _ _ h => h) (Or.inl ⟨by rfl, ?_⟩) ?_ ?_
            rotate_left; (· intro w'; go_simp; with_reducible rfl)
            rotate_left; (· simp only [Act.put,sA_,sB_,sC_,i64_w,i32_w]; rfl)
            refine pure_ (i := 25) (N := some 50) (v := ?_) (a' := ?_) (bo_ 38 67108863) rfl rfl (any_of HT_.out (by kernel_rfl)) (fun _ _ _ h => h) (Or.inl ⟨by rfl, ?_⟩) ?_ ?_
            rotate_left; (· intro w'; go_simp; with_reducible rfl)
            rotate_left; (· simp only [Act.put,sA_,sB_,sC_,i64_w,i32_w]; rfl)
            refine pure_ (i := 26) (N := some 51) (v := ?_) (a' := ?_) (bo_ 38 134217727) rfl rfl (any_of HT_.out (by kernel_rfl)) (fun _ _ _ h => h) (Or.inl ⟨by rfl, ?_⟩) ?_ ?_
            rotate_left; (· intro w'; go_simp; with_reducible rfl)
            rotate_left; (· simp only [Act.put,sA_,sB_,sC_,i64_w,i32_w]; rfl)
            refine pure_ (i := 28) (N := some 53) (v := ?_) (a' := ?_) (bo_ 38 402653183) rfl rfl (any_of HT_.out (by kernel_rfl)) (fun _ _ _ h => h) (Or.inl ⟨by rfl, ?_⟩) ?_ ?_
            rotate_left; (· intro w'; go_simp; with_reducible rfl)
            rotate_left; (· simp only [Act.put,sA_,sB_,sC_,i64_w,i32_w]; rfl)
            refine pure_ (i := 32) (N := some 57) (v := ?_) (a' := ?_) (bo_ 38 4697620479) rfl rfl (any_of HT_.out (by kernel_rfl)) (fun _ _ _ h => h) (Or.inl ⟨by rfl, ?_⟩) ?_ ?_
            rotate_left; (· intro w'; go_simp; with_reducible rfl)
            rotate_left; (· simp only [Act.put,sA_,sB_,sC_,i64_w,i32_w]; rfl)
            refine take_ (i := 27) (N := some 52) (v := ?_) (a' := ?_) (bo_ 38 4831838207) rfl rfl (take_ofW HT_.out HW_.out (by kernel_rfl)) (fun _ _ _ h => h) (Or.inl ⟨by rfl, ?_⟩) hHeld ?_ ?_
            rotate_left; (· rintro w' ⟨s0, s1, s2, s3, s4, s5, s6, s7, s8, s9, s10, s11, s12, s13, s14, s15, s16, s17, s18, s19, s20, s21, s22, s23, s24, s25, s26, s27, s28, s29, s30, s31, s32, s33, s34, s35, s36, s37⟩; go_simp; with_reducible rfl)
            rotate_left; (· simp only [Act.put,sA_,sB_,sC_,i64_w,i32_w]; rfl)
            refine pure_ (i := 29) (N := some 54) (v := ?_) (a' := ?_) (bo_ 38 5368709119) rfl rfl (any_of HT_.out (by kernel_rfl)) (fun _ _ _ h => h) (Or.inl ⟨by rfl, ?_⟩) ?_ ?_
            rotate_left; (· intro w'; go_simp; with_reducible rfl)
            rotate_left; (· simp only [Act.put,sA_,sB_,sC_,i64_w,i32_w]; rfl)
            refine pure_ (i := 30) (N := some 55) (v := ?_) (a' := ?_) (bo_ 38 6442450943) rfl rfl (any_of HT_.out (by kernel_rfl)) (fun _ _ _ h => h) (Or.inl ⟨by rfl, ?_⟩) ?_ ?_
            rotate_left; (· intro w'; go_simp; with_reducible rfl)
            rotate_left; (· simp only [Act.put,sA_,sB_,sC_,i64_w,i32_w]; rfl)
            refine take_ (i := 31) (N := some 56) (v := ?_) (a' := ?_) (bo_ 38 8589934591) rfl rfl (take_ofW HT_.out HW_.out (by kernel_rfl)) (fun _ _ _ h => h) (Or.inl ⟨by rfl, ?_⟩) hHeld ?_ ?_
            rotate_left; (· rintro w' ⟨s0, s1, s2, s3, s4, s5, s6, s7, s8, s9, s10, s11, s12, s13, s14, s15, s16, s17, s18, s19, s20, s21, s22, s23, s24, s25, s26, s27, s28, s29, s30, s31, s32, s33, s34, s35, s36, s37⟩; go_simp; with_reducible rfl)
            rotate_left; (· simp only [Act.put,sA_,sB_,sC_,i64_w,i32_w]; rfl)
            refine take_ (i := 33) (N := some 58) (v := ?_) (a' := ?_) (bo_ 38 17179869183) rfl rfl (take_ofW HT_.out HW_.out (by kernel_rfl)) (fun _ _ _ h => h) (Or.inl ⟨by rfl, ?_⟩) hHeld ?_ ?_
            rotate_left; (· rintro w' ⟨s0, s1, s2, s3, s4, s5, s6, s7, s8, s9, s10, s11, s12, s13, s14, s15, s16, s17, s18, s19, s20, s21, s22, s23, s24, s25, s26, s27, s28, s29, s30, s31, s32, s33, s34, s35, s36, s37⟩; go_simp; with_reducible rfl)
            rotate_left; (· simp only [Act.put,sA_,sB_,sC_,i64_w,i32_w]; rfl)
            refine pure_ (i := 34) (N := some 59) (v := ?_) (a' := ?_) (bo_ 38 34359738367) rfl rfl (any_of HT_.out (by kernel_rfl)) (fun _ _ _ h => h) (Or.inl ⟨by rfl, ?_⟩) ?_ ?_
            rotate_left; (· intro w'; go_simp; with_reducible rfl)
            rotate_left; (· simp only [Act.put,sA_,sB_,sC_,i64_w,i32_w]; rfl)
            refine pure_ (i := 35) (N := some 60) (v := ?_) (a' := ?_) (bo_ 38 68719476735) rfl rfl (any_of HT_.out (by kernel_rfl)) (fun _ _ _ h => h) (Or.inl ⟨by rfl, ?_⟩) ?_ ?_
            rotate_left; (· intro w'; go_simp; with_reducible rfl)
            rotate_left; (· simp only [Act.put,sA_,sB_,sC_,i64_w,i32_w]; rfl)
            refine pure_ (i := 36) (N := some 61) (v := ?_) (a' := ?_) (bo_ 38 137438953471) rfl rfl (any_of HT_.out (by kernel_rfl)) (fun _ _ _ h => h) (Or.inl ⟨by rfl, ?_⟩) ?_ ?_
            rotate_left; (· intro w'; go_simp; with_reducible rfl)
            rotate_left; (· simp only [Act.put,sA_,sB_,sC_,i64_w,i32_w]; rfl)
            refine pure_ (i := 37) (N := some 62) (v := ?_) (a' := ?_) (bo_ 38 274877906943) rfl rfl (any_of HT_.out (by kernel_rfl)) (fun _ _ _ h => h) (Or.inl ⟨by rfl, ?_⟩) ?_ ?_
            rotate_left; (· intro w'; go_simp; with_reducible rfl)
            rotate_left; (· simp only [Act.put,sA_,sB_,sC_,i64_w,i32_w]; rfl)
            refine done_ (done_of HT_.out (by kernel_rfl)) ?_
            try go_wp2
            go_meet
            case rel => exact ⟨_, (!(Op.bytesLess t229.toList (((rd_T35 x226001_1 x8_3).f1).toList))), (by first | rfl | (simp; done) | (simp [*]; done)), H', ⟨by have := HK1.out; have := HJ10.out; have := HK3.out; first | omega | exact Nat.le_refl _⟩, ⟨by refine bk_ ?_; exact HO_226001.out⟩, ⟨by refine bk_ ?_; exact BK222.out⟩, ⟨by refine bk_ ?_; exact BK225.out⟩, ⟨by refine bk_ ?_; exact BK238.out⟩, ⟨by repeat (first | (with_reducible first | exact HI223.out | apply IsS52.alloc | apply IsS52.drewN | apply IsS52.drew | apply IsS52.set_1 | refine IsS52.far ?_ NB223_222.out _ | refine IsS52.far ?_ NB223_225.out _ | refine IsS52.far ?_ NB223_238.out _) | exact HI223.out)⟩, ⟨by repeat (first | (with_reducible first | exact HB.out | apply bA_ | apply bN_ | apply bD_ | refine bS_ ?_ (IsS52.ge HI223.out) | refine bS_ ?_ GE222.out | refine bS_ ?_ GE225.out | refine bS_ ?_ GE238.out) | exact HB.out)⟩⟩
           rw [if_neg c34] at H
           have c34b0 : (((rd_T35 x226001_1 x8_3).f0).toList == t228.toList) = false := beq_eq_false_iff_ne.mpr c34
           have c34b1 : (((rd_T35 x226001_1 x8_3).f0).toList != t228.toList) = true := bne_iff_ne.mpr c34
           have H' := Aside0.mk H
           clear H
           try go_upto_region 6 with fail
           have n0_ := Aside0.mk (Kd.R_drew HO_226001.out)
           have n1_ := Aside0.mk (blk_drew BK222.out)
           have n2_ := Aside0.mk (blk_drew BK225.out)
           have n3_ := Aside0.mk (blk_drew BK238.out)
           have n4_ := Aside0.mk (IsS52.drew HI223.out)
           have n5_ := Aside0.mk (bD_ HB.out)
           clear HO_226001 BK222 BK225 BK238 HI223 HB
           have HO_226001 := n0_
           have BK222 := n1_
           have BK225 := n2_
           have BK238 := n3_
           have HI223 := n4_
           have HB := n5_
           clear n0_ n1_ n2_ n3_ n4_ n5_
           obtain ⟨Ao38, co38, eo38⟩ := Kd.R_slice HO_226001.out
           (first | subst eo38 | (injection eo38 with f1_ f2_ f3_; have f4_ := f1_.symm; have f5_ := f3_.symm; clear f1_ f2_ f3_; subst f4_; subst f5_))
           have p239 : 0 ≤ (x8_3 : Int) := of_decide_eq_true (by first | (with_reducible assumption) | assumption)
           have q239 : x8_3 < (x226001_1.length : Int) := of_decide_eq_true (by first | (with_reducible assumption) | assumption)
           obtain ⟨ad239, e239, hx239_0, hx239_1, hx239_2, hx239_3, hx239_4, hx239_5, hx239_6, hx239_7, hx239_8⟩ := at_T35 (Kd.R_reads' HO_226001.out).2.2 x8_3 p239 q239
           cases e239
           replace p239 := eq_true p239
           replace q239 := eq_true q239
           have p240 : 0 ≤ (x8_3 : Int) := of_decide_eq_true (by first | (with_reducible assumption) | assumption)
           have q240 : x8_3 < (x226001_1.length : Int) := of_decide_eq_true (by first | (with_reducible assumption) | assumption)
           obtain ⟨ad240, e240, hx240_0, hx240_1, hx240_2, hx240_3, hx240_4, hx240_5, hx240_6, hx240_7, hx240_8⟩ := at_T35 (Kd.R_reads' HO_226001.out).2.2 x8_3 p240 q240
           obtain rfl : ad239 = ad240 := (by injection e240)
           replace p240 := eq_true p240
           replace q240 := eq_true q240
           refine start_ (n := 38) (S := fun w' => w'.cell? ⟨gb225, 0, none⟩ = some (.string t224) ∧ w'.cell? ⟨gb225, 1, none⟩ = some (.slice (some ad239) x226001_1.length co38) ∧ w'.cell? ⟨gb238, 0, none⟩ = some (.string t228) ∧ w'.cell? ⟨gb238, 1, none⟩ = some (.string t229) ∧ w'.cell? ⟨gb238, 2, none⟩ = some (.int .u64 t230) ∧ w'.cell? ⟨gb238, 3, none⟩ = some (.int .i64 t231) ∧ w'.cell? ⟨gb238, 4, none⟩ = some (.int .i64 t232) ∧ w'.cell? ⟨gb238, 5, none⟩ = some (.int .i64 t233) ∧ w'.cell? ⟨gb238, 6, none⟩ = some (.int .i64 t234) ∧ w'.cell? ⟨gb238, 7, none⟩ = some (.int .i64 t235) ∧ w'.cell? ⟨gb238, 8, none⟩ = some (.int .i64 t236) ∧ w'.cell? (ad239.add ((x8_3).toNat * 9)) = some (.string ((rd_T35 x226001_1 x8_3).f0)) ∧ w'.cell? ⟨(ad239.add ((x8_3).toNat * 9)).block, (ad239.add ((x8_3).toNat * 9)).off + 1, none⟩ = some (.string ((rd_T35 x226001_1 x8_3).f1)) ∧ w'.cell? ⟨(ad239.add ((x8_3).toNat * 9)).block, (ad239.add ((x8_3).toNat * 9)).off + 2, none⟩ = some (.int .u64 ((rd_T35 x226001_1 x8_3).f2)) ∧ w'.cell? ⟨(ad239.add ((x8_3).toNat * 9)).block, (ad239.add ((x8_3).toNat * 9)).off + 3, none⟩ = some (.int .i64 ((rd_T35 x226001_1 x8_3).f3)) ∧ w'.cell? ⟨(ad239.add ((x8_3).toNat * 9)).block, (ad239.add ((x8_3).toNat * 9)).off + 4, none⟩ = some (.int .i64 ((rd_T35 x226001_1 x8_3).f4)) ∧ w'.cell? ⟨(ad239.add ((x8_3).toNat * 9)).block, (ad239.add ((x8_3).toNat * 9)).off + 5, none⟩ = some (.int .i64 ((rd_T35 x226001_1 x8_3).f5)) ∧ w'.cell? ⟨(ad239.add ((x8_3).toNat * 9)).block, (ad239.add ((x8_3).toNat * 9)).off + 6, none⟩ = some (.int .i64 ((rd_T35 x226001_1 x8_3).f6)) ∧ w'.cell? ⟨(ad239.add ((x8_3).toNat * 9)).block, (ad239.add ((x8_3).toNat * 9)).off + 7, none⟩ = some (.int .i64 ((rd_T35 x226001_1 x8_3).f7)) ∧ w'.cell? ⟨(ad239.add ((x8_3).toNat * 9)).block, (ad239.add ((x8_3).toNat * 9)).off + 8, none⟩ = some (.int .i64 ((rd_T35 x226001_1 x8_3).f8)) ∧ w'.cell? (ad239.add ((x8_3).toNat * 9)) = some (.string ((rd_T35 x226001_1 x8_3).f0)) ∧ w'.cell? ⟨(ad239.add ((x8_3).toNat * 9)).block, (ad239.add ((x8_3).toNat * 9)).off + 1, none⟩ = some (.string ((rd_T35 x226001_1 x8_3).f1)) ∧ w'.cell? ⟨(ad239.add ((x8_3).toNat * 9)).block, (ad239.add ((x8_3).toNat * 9)).off + 2, none⟩ = some (.int .u64 ((rd_T35 x226001_1 x8_3).f2)) ∧ w'.cell? ⟨(ad239.add ((x8_3).toNat * 9)).block, (ad239.add ((x8_3).toNat * 9)).off + 3, none⟩ = some (.int .i64 ((rd_T35 x226001_1 x8_3).f3)) ∧ w'.cell? ⟨(ad239.add ((x8_3).toNat * 9)).block, (ad239.add ((x8_3).toNat * 9)).off + 4, none⟩ = some (.int .i64 ((rd_T35 x226001_1 x8_3).f4)) ∧ w'.cell? ⟨(ad239.add ((x8_3).toNat * 9)).block, (ad239.add ((x8_3).toNat * 9)).off + 5, none⟩ = some (.int .i64 ((rd_T35 x226001_1 x8_3).f5)) ∧ w'.cell? ⟨(ad239.add ((x8_3).toNat * 9)).block, (ad239.add ((x8_3).toNat * 9)).off + 6, none⟩ = some (.int .i64 ((rd_T35 x226001_1 x8_3).f6)) ∧ w'.cell? ⟨(ad239.add ((x8_3).toNat * 9)).block, (ad239.add ((x8_3).toNat * 9)).off + 7, none⟩ = some (.int .i64 ((rd_T35 x226001_1 x8_3).f7)) ∧ w'.cell? ⟨(ad239.add ((x8_3).toNat * 9)).block, (ad239.add ((x8_3).toNat * 9)).off + 8, none⟩ = some (.int .i64 ((rd_T35 x226001_1 x8_3).f8))) (ds := []) #[false,false,false,false,false,false,false,false,false,false,false,false,false,false,false,false,false,false,false,false,false,false,false,false,false,false,false,false,false,false,false,false,false,false,false,false,false,false] (by kernel_rfl) rfl rfl ⟨(blk_cell BK225.out 0).trans rfl, (blk_cell BK225.out 1).trans rfl, (blk_cell BK238.out 0).trans rfl, (blk_cell BK238.out 1).trans rfl, (blk_cell BK238.out 2).trans rfl, (blk_cell BK238.out 3).trans rfl, (blk_cell BK238.out 4).trans rfl, (blk_cell BK238.out 5).trans rfl, (blk_cell BK238.out 6).trans rfl, (blk_cell BK238.out 7).trans rfl, (blk_cell BK238.out 8).trans rfl, hx239_0, hx239_1, hx239_2, hx239_3, hx239_4, hx239_5, hx239_6, hx239_7, hx239_8, hx240_0, hx240_1, hx240_2, hx240_3, hx240_4, hx240_5, hx240_6, hx240_7, hx240_8⟩ (fun hHeld => ?_); refine with_tabW kerbsuitedata_Database.tab6 kerbsuitedata_Database.bits6 (fun HT_ HW_ => ?_)
           generalize wr.drew = w37 at HO_226001 BK222 BK225 BK238 HI223 HB hx239_0 hx239_1 hx239_2 hx239_3 hx239_4 hx239_5 hx239_6 hx239_7 hx239_8 hx240_0 hx240_1 hx240_2 hx240_3 hx240_4 hx240_5 hx240_6 hx240_7 hx240_8 hHeld ⊢
           refine pure_ (i := 0) (N := some 25) (v := ?_) (a' := ?_) (bo_ 38 1) rfl rfl (any_of HT_.out (by kernel_rfl)) (fun _ _ _ h => h) (Or.inl ⟨by rfl, ?_⟩) ?_ ?_
           rotate_left; (· intro w'; go_simp; with_reducible rfl)
           rotate_left; (· simp only [Act.put,sA_,sB_,sC_,i64_w,i32_w]; rfl)
           refine pure_ (i := 1) (N := some 26) (v := ?_) (a' := ?_) (bo_ 38 3) rfl rfl (any_of HT_.out (by kernel_rfl)) (fun _ _ _ h => h) (Or.inl ⟨by rfl, ?_⟩) ?_ ?_
           rotate_left; (· intro w'; go_simp; with_reducible rfl)
           rotate_left; (· simp only [Act.put,sA_,sB_,sC_,i64_w,i32_w]; rfl)
           refine take_ (i := 2) (N := some 27) (v := ?_) (a' := ?_) (bo_ 38 7) rfl rfl (take_ofW HT_.out HW_.out (by kernel_rfl)) (fun _ _ _ h => h) (Or.inl ⟨by rfl, ?_⟩) hHeld ?_ ?_
           rotate_left; (· rintro w' ⟨s0, s1, s2, s3, s4, s5, s6, s7, s8, s9, s10, s11, s12, s13, s14, s15, s16, s17, s18, s19, s20, s21, s22, s23, s24, s25, s26, s27, s28⟩; go_simp; with_reducible rfl)
           rotate_left; (· simp only [Act.put,sA_,sB_,sC_,i64_w,i32_w]; rfl)
           refine pure_ (i := 3) (N := some 28) (v := ?_) (a' := ?_) (bo_ 38 15) rfl rfl (any_of HT_.out (by kernel_rfl)) (fun _ _ _ h => h) (Or.inl ⟨by rfl, ?_⟩) ?_ ?_
           rotate_left; (· intro w'; go_simp; with_reducible rfl)
           rotate_left; (· simp only [Act.put,sA_,sB_,sC_,i64_w,i32_w]; rfl)
           refine pure_ (i := 4) (N := some 29) (v := ?_) (a' := ?_) (bo_ 38 31) rfl rfl (any_of HT_.out (by kernel_rfl)) (fun _ _ _ h => h) (Or.inl ⟨by rfl, ?_⟩) ?_ ?_
           rotate_left; (· intro w'; go_simp; with_reducible rfl)
           rotate_left; (· simp only [Act.put,sA_,sB_,sC_,i64_w,i32_w]; rfl)
           refine pure_ (i := 5) (N := some 30) (v := ?_) (a' := ?_) (bo_ 38 63) rfl rfl (any_of HT_.out (by kernel_rfl)) (fun _ _ _ h => h) (Or.inl ⟨by rfl, ?_⟩) ?_ ?_
           rotate_left; (· intro w'; go_simp; with_reducible rfl)
           rotate_left; (· simp only [Act.put,sA_,sB_,sC_,i64_w,i32_w]; rfl)
           refine pure_ (i := 6) (N := some 31) (v := ?_) (a' := ?_) (bo_ 38 127) rfl rfl (any_of HT_.out (by kernel_rfl)) (fun _ _ _ h => h) (Or.inl ⟨by rfl, ?_⟩) ?_ ?_
           rotate_left; (· intro w'; go_simp; with_reducible rfl)
           rotate_left; (· simp only [Act.put,sA_,sB_,sC_,i64_w,i32_w]; rfl)
           refine pure_ (i := 8) (N := some 33) (v := ?_) (a' := ?_) (bo_ 38 383) rfl rfl (any_of HT_.out (by kernel_rfl)) (fun _ _ _ h => h) (Or.inl ⟨by rfl, ?_⟩) ?_ ?_
           rotate_left; (· intro w'; go_simp; with_reducible rfl)
           rotate_left; (· simp only [Act.put,sA_,sB_,sC_,i64_w,i32_w]; rfl)
           refine pure_ (i := 12) (N := some 37) (v := ?_) (a' := ?_) (bo_ 38 4479) rfl rfl (any_of HT_.out (by kernel_rfl)) (fun _ _ _ h => h) (Or.inl ⟨by rfl, ?_⟩) ?_ ?_
           rotate_left; (· intro w'; go_simp; with_reducible rfl)
           rotate_left; (· simp only [Act.put,sA_,sB_,sC_,i64_w,i32_w]; rfl)
           refine take_ (i := 7) (N := some 32) (v := ?_) (a' := ?_) (bo_ 38 4607) rfl rfl (take_ofW HT_.out HW_.out (by kernel_rfl)) (fun _ _ _ h => h) (Or.inl ⟨by rfl, ?_⟩) hHeld ?_ ?_
           rotate_left; (· rintro w' ⟨s0, s1, s2, s3, s4, s5, s6, s7, s8, s9, s10, s11, s12, s13, s14, s15, s16, s17, s18, s19, s20, s21, s22, s23, s24, s25, s26, s27, s28⟩; go_simp; with_reducible rfl)
           rotate_left; (· simp only [Act.put,sA_,sB_,sC_,i64_w,i32_w]; rfl)
           refine pure_ (i := 9) (N := some 34) (v := ?_) (a' := ?_) (bo_ 38 5119) rfl rfl (any_of HT_.out (by kernel_rfl)) (fun _ _ _ h => h) (Or.inl ⟨by rfl, ?_⟩) ?_ ?_
           rotate_left; (· intro w'; go_simp; with_reducible rfl)
           rotate_left; (· simp only [Act.put,sA_,sB_,sC_,i64_w,i32_w]; rfl)
           refine pure_ (i := 10) (N := some 35) (v := ?_) (a' := ?_) (bo_ 38 6143) rfl rfl (any_of HT_.out (by kernel_rfl)) (fun _ _ _ h => h) (Or.inl ⟨by rfl, ?_⟩) ?_ ?_
           rotate_left; (· intro w'; go_simp; with_reducible rfl)
           rotate_left; (· simp only [Act.put,sA_,sB_,sC_,i64_w,i32_w]; rfl)
           refine take_ (i := 11) (N := some 36) (v := ?_) (a' := ?_) (bo_ 38 8191) rfl rfl (take_ofW HT_.out HW_.out (by kernel_rfl)) (fun _ _ _ h => h) (Or.inl ⟨by rfl, ?_⟩) hHeld ?_ ?_
           rotate_left; (· rintro w' ⟨s0, s1, s2, s3, s4, s5, s6, s7, s8, s9, s10, s11, s12, s13, s14, s15, s16, s17, s18, s19, s20, s21, s22, s23, s24, s25, s26, s27, s28⟩; go_simp; with_reducible rfl)
           rotate_left; (· simp only [Act.put,sA_,sB_,sC_,i64_w,i32_w]; rfl)
           refine take_ (i := 13) (N := some 38) (v := ?_) (a' := ?_) (bo_ 38 16383) rfl rfl (take_ofW HT_.out HW_.out (by kernel_rfl)) (fun _ _ _ h => h) (Or.inl ⟨by rfl, ?_⟩) hHeld ?_ ?_
           rotate_left; (· rintro w' ⟨s0, s1, s2, s3, s4, s5, s6, s7, s8, s9, s10, s11, s12, s13, s14, s15, s16, s17, s18, s19, s20, s21, s22, s23, s24, s25, s26, s27, s28⟩; go_simp; with_reducible rfl)
           rotate_left; (· simp only [Act.put,sA_,sB_,sC_,i64_w,i32_w]; rfl)
           refine pure_ (i := 14) (N := some 39) (v := ?_) (a' := ?_) (bo_ 38 32767) rfl rfl (any_of HT_.out (by kernel_rfl)) (fun _ _ _ h => h) (Or.inl ⟨by rfl, ?_⟩) ?_ ?_
           rotate_left; (· intro w'; go_simp; with_reducible rfl)
           rotate_left; (· simp only [Act.put,sA_,sB_,sC_,i64_w,i32_w]; rfl)
           refine pure_ (i := 15) (N := some 40) (v := ?_) (a' := ?_) (bo_ 38 65535) rfl rfl (any_of HT_.out (by kernel_rfl)) (fun _ _ _ h => h) (Or.inl ⟨by rfl, ?_⟩) ?_ ?_
           rotate_left; (· intro w'; go_simp; with_reducible rfl)
           rotate_left; (· simp only [Act.put,sA_,sB_,sC_,i64_w,i32_w]; rfl)
           refine pure_ (i := 16) (N := some 41) (v := ?_) (a' := ?_) (bo_ 38 131071) rfl rfl (any_of HT_.out (by kernel_rfl)) (fun _ _ _ h => h) (Or.inl ⟨by rfl, ?_⟩) ?_ ?_
           rotate_left; (· intro w'; go_simp; with_reducible rfl)
           rotate_left; (· simp only [Act.put,sA_,sB_,sC_,i64_w,i32_w]; rfl)
           refine pure_ (i := 18) (N := some 43) (v := ?_) (a' := ?_) (bo_ 38 393215) rfl rfl (any_of HT_.out (by kernel_rfl)) (fun _ _ _ h => h) (Or.inl ⟨by rfl, ?_⟩) ?_ ?_
           rotate_left; (· intro w'; go_simp; with_reducible rfl)
           rotate_left; (· simp only [Act.put,sA_,sB_,sC_,i64_w,i32_w]; rfl)
           refine pure_ (i := 22) (N := some 47) (v := ?_) (a' := ?_) (bo_ 38 4587519) rfl rfl (any_of HT_.out (by kernel_rfl)) (fun _ _ _ h => h) (Or.inl ⟨by rfl, ?_⟩) ?_ ?_
           rotate_left; (· intro w'; go_simp; with_reducible rfl)
           rotate_left; (· simp only [Act.put,sA_,sB_,sC_,i64_w,i32_w]; rfl)
           refine take_ (i := 17) (N := some 42) (v := ?_) (a' := ?_) (bo_ 38 4718591) rfl rfl (take_ofW HT_.out HW_.out (by kernel_rfl)) (fun _ _ _ h => h) (Or.inl ⟨by rfl, ?_⟩) hHeld ?_ ?_
           rotate_left; (· rintro w' ⟨s0, s1, s2, s3, s4, s5, s6, s7, s8, s9, s10, s11, s12, s13, s14, s15, s16, s17, s18, s19, s20, s21, s22, s23, s24, s25, s26, s27, s28⟩; go_simp; with_reducible rfl)
           rotate_left; (· simp only [Act.put,sA_,sB_,sC_,i64_w,i32_w]; rfl)
           refine pure_ (i := 19) (N := some 44) (v := ?_) (a' := ?_) (bo_ 38 5242879) rfl rfl (any_of HT_.out (by kernel_rfl)) (fun _ _ _ h => h) (Or.inl ⟨by rfl, ?_⟩) ?_ ?_
           rotate_left; (· intro w'; go_simp; with_reducible rfl)
           rotate_left; (· simp only [Act.put,sA_,sB_,sC_,i64_w,i32_w]; rfl)
           refine pure_ (i := 20) (N := some 45) (v := ?_) (a' := ?_) (bo_ 38 6291455) rfl rfl (any_of HT_.out (by kernel_rfl)) (fun _ _ _ h => h) (Or.inl ⟨by rfl, ?_⟩) ?_ ?_
           rotate_left; (· intro w'; go_simp; with_reducible rfl)
           rotate_left; (· simp only [Act.put,sA_,sB_,sC_,i64_w,i32_w]; rfl)
           refine take_ (i := 21) (N := some 46) (v := ?_) (a' := ?_) (bo_ 38 8388607) rfl rfl (take_ofW HT_.out HW_.out (by kernel_rfl)) (fun _ _ _ h => h) (Or.inl ⟨by rfl, ?_⟩) hHeld ?_ ?_
           rotate_left; (· rintro w' ⟨s0, s1, s2, s3, s4, s5, s6, s7, s8, s9, s10, s11, s12, s13, s14, s15, s16, s17, s18, s19, s20, s21, s22, s23, s24, s25, s26, s27, s28⟩; go_simp; with_reducible rfl)
           rotate_left; (· simp only [Act.put,sA_,sB_,sC_,i64_w,i32_w]; rfl)
           refine take_ (i := 23) (N := some 48) (v := ?_) (a' := ?_) (bo_ 38 16777215) rfl rfl (take_ofW HT_.out HW_.out (by kernel_rfl)) (fun _ _ _ h => h) (Or.inl ⟨by rfl, ?_⟩) hHeld ?_ ?_
           rotate_left; (· rintro w' ⟨s0, s1, s2, s3, s4, s5, s6, s7, s8, s9, s10, s11, s12, s13, s14, s15, s16, s17, s18, s19, s20, s21, s22, s23, s24, s25, s26, s27, s28⟩; go_simp; with_reducible rfl)
           rotate_left; (· simp only [Act.put,sA_,sB_,sC_,i64_w,i32_w]; rfl)
           refine pure_ (i := 24) (N := some 49) (v := ?_) (a' := ?_) (bo_ 38 33554431) rfl rfl (any_of HT_.out (by kernel_rfl)) (fun _ _ _ h => h) (Or.inl ⟨by rfl, ?_⟩) ?_ ?_
           rotate_left; (· intro w'; go_simp; with_reducible rfl)
           rotate_left; (· simp only [Act.put,sA_,sB_,sC_,i64_w,i32_w]; rfl)
           refine pure_ (i := 25) (N := some 50) (v := ?_) (a' := ?_) (bo_ 38 67108863) rfl rfl (any_of HT_.out (by kernel_rfl)) (fun _ _ _ h => h) (Or.inl ⟨by rfl, ?_⟩) ?_ ?_
           rotate_left; (· intro w'; go_simp; with_reducible rfl)
           rotate_left; (· simp only [Act.put,sA_,sB_,sC_,i64_w,i32_w]; rfl)
           refine pure_ (i := 26) (N := some 51) (v := undef) (a' := ?_) (bo_ 38 134217727) rfl rfl (any_of HT_.out (by kernel_rfl)) (fun _ _ _ h => h) (Or.inr ⟨by rfl, rfl⟩) ?_ ?_
           rotate_left; (· simp only [Act.put,sA_,sB_,sC_,i64_w,i32_w]; rfl)
           refine pure_ (i := 27) (N := some 52) (v := undef) (a' := ?_) (bo_ 38 268435455) rfl rfl (any_of HT_.out (by kernel_rfl)) (fun _ _ _ h => h) (Or.inr ⟨by rfl, rfl⟩) ?_ ?_
           rotate_left; (· simp only [Act.put,sA_,sB_,sC_,i64_w,i32_w]; rfl)
           refine pure_ (i := 28) (N := some 53) (v := undef) (a' := ?_) (bo_ 38 536870911) rfl rfl (any_of HT_.out (by kernel_rfl)) (fun _ _ _ h => h) (Or.inr ⟨by rfl, rfl⟩) ?_ ?_
           rotate_left; (· simp only [Act.put,sA_,sB_,sC_,i64_w,i32_w]; rfl)
           refine pure_ (i := 29) (N := some 54) (v := undef) (a' := ?_) (bo_ 38 1073741823) rfl rfl (any_of HT_.out (by kernel_rfl)) (fun _ _ _ h => h) (Or.inr ⟨by rfl, rfl⟩) ?_ ?_
           rotate_left; (· simp only [Act.put,sA_,sB_,sC_,i64_w,i32_w]; rfl)
           refine pure_ (i := 30) (N := some 55) (v := undef) (a' := ?_) (bo_ 38 2147483647) rfl rfl (any_of HT_.out (by kernel_rfl)) (fun _ _ _ h => h) (Or.inr ⟨by rfl, rfl⟩) ?_ ?_
           rotate_left; (· simp only [Act.put,sA_,sB_,sC_,i64_w,i32_w]; rfl)
           refine pure_ (i := 31) (N := some 56) (v := undef) (a' := ?_) (bo_ 38 4294967295) rfl rfl (any_of HT_.out (by kernel_rfl)) (fun _ _ _ h => h) (Or.inr ⟨by rfl, rfl⟩) ?_ ?_
           rotate_left; (· simp only [Act.put,sA_,sB_,sC_,i64_w,i32_w]; rfl)
           refine pure_ (i := 32) (N := some 57) (v := undef) (a' := ?_) (bo_ 38 8589934591) rfl rfl (any_of HT_.out (by kernel_rfl)) (fun _ _ _ h => h) (Or.inr ⟨by rfl, rfl⟩) ?_ ?_
           rotate_left; (· simp only [Act.put,sA_,sB_,sC_,i64_w,i32_w]; rfl)
           refine pure_ (i := 33) (N := some 58) (v := undef) (a' := ?_) (bo_ 38 17179869183) rfl rfl (any_of HT_.out (by kernel_rfl)) (fun _ _ _ h => h) (Or.inr ⟨by rfl, rfl⟩) ?_ ?_
           rotate_left; (· simp only [Act.put,sA_,sB_,sC_,i64_w,i32_w]; rfl)
           refine pure_ (i := 34) (N := some 59) (v := undef) (a' := ?_) (bo_ 38 34359738367) rfl rfl (any_of HT_.out (by kernel_rfl)) (fun _ _ _ h => h) (Or.inr ⟨by rfl, rfl⟩) ?_ ?_
           rotate_left; (· simp only [Act.put,sA_,sB_,sC_,i64_w,i32_w]; rfl)
           refine pure_ (i := 35) (N := some 60) (v := ?_) (a' := ?_) (bo_ 38 68719476735) rfl rfl (any_of HT_.out (by kernel_rfl)) (fun _ _ _ h => h) (Or.inl ⟨by rfl, ?_⟩) ?_ ?_
           rotate_left; (· intro w'; go_simp; with_reducible rfl)
           rotate_left; (· simp only [Act.put,sA_,sB_,sC_,i64_w,i32_w]; rfl)
           refine pure_ (i := 36) (N := some 61) (v := ?_) (a' := ?_) (bo_ 38 137438953471) rfl rfl (any_of HT_.out (by kernel_rfl)) (fun _ _ _ h => h) (Or.inl ⟨by rfl, ?_⟩) ?_ ?_
           rotate_left; (· intro w'; go_simp; with_reducible rfl)
           rotate_left; (· simp only [Act.put,sA_,sB_,sC_,i64_w,i32_w]; rfl)
           refine pure_ (i := 37) (N := some 62) (v := ?_) (a' := ?_) (bo_ 38 274877906943) rfl rfl (any_of HT_.out (by kernel_rfl)) (fun _ _ _ h => h) (Or.inl ⟨by rfl, ?_⟩) ?_ ?_
           rotate_left; (· intro w'; go_simp; with_reducible rfl)
           rotate_left; (· simp only [Act.put,sA_,sB_,sC_,i64_w,i32_w]; rfl)
           refine done_ (done_of HT_.out (by kernel_rfl)) ?_
           try go_wp2
           go_meet
           case rel => exact ⟨_, (false), (by first | rfl | (simp; done) | (simp [*]; done)), H', ⟨by have := HK1.out; have := HJ10.out; have := HK3.out; first | omega | exact Nat.le_refl _⟩, ⟨by refine bk_ ?_; exact HO_226001.out⟩, ⟨by refine bk_ ?_; exact BK222.out⟩, ⟨by refine bk_ ?_; exact BK225.out⟩, ⟨by refine bk_ ?_; exact BK238.out⟩, ⟨by repeat (first | (with_reducible first | exact HI223.out | apply IsS52.alloc | apply IsS52.drewN | apply IsS52.drew | apply IsS52.set_1 | refine IsS52.far ?_ NB223_222.out _ | refine IsS52.far ?_ NB223_225.out _ | refine IsS52.far ?_ NB223_238.out _) | exact HI223.out)⟩, ⟨by repeat (first | (with_reducible first | exact HB.out | apply bA_ | apply bN_ | apply bD_ | refine bS_ ?_ (IsS52.ge HI223.out) | refine bS_ ?_ GE222.out | refine bS_ ?_ GE225.out | refine bS_ ?_ GE238.out) | exact HB.out)⟩⟩
          rw [if_neg c30] at H
          exact absurd H (by simp)
         rw [if_neg c29] at H
         have c29b0 : decide (x8_3 < (x226001_1.length : Int)) = false := decide_eq_false c29
         clear c29
         (first | rw [c29b0] | (simp only [i64_w, i32_w]; rw [c29b0]) | skip)
         have H' := Aside0.mk H
         clear H
         try go_upto_region 6 with fail
         have n0_ := Aside0.mk (Kd.R_drew HO_226001.out)
         have n1_ := Aside0.mk (blk_drew BK222.out)
         have n2_ := Aside0.mk (blk_drew BK225.out)
         have n3_ := Aside0.mk (blk_drew BK238.out)
         have n4_ := Aside0.mk (IsS52.drew HI223.out)
         have n5_ := Aside0.mk (bD_ HB.out)
         clear HO_226001 BK222 BK225 BK238 HI223 HB
         have HO_226001 := n0_
         have BK222 := n1_
         have BK225 := n2_
         have BK238 := n3_
         have HI223 := n4_
         have HB := n5_
         clear n0_ n1_ n2_ n3_ n4_ n5_
         obtain ⟨Ao40, co40, eo40⟩ := Kd.R_slice HO_226001.out
         (first | subst eo40 | (injection eo40 with f1_ f2_ f3_; have f4_ := f1_.symm; have f5_ := f3_.symm; clear f1_ f2_ f3_; subst f4_; subst f5_))
         refine start_ (n := 38) (S := fun w' => w'.cell? ⟨gb225, 0, none⟩ = some (.string t224) ∧ w'.cell? ⟨gb225, 1, none⟩ = some (.slice Ao40 x226001_1.length co40)) (ds := []) #[false,false,false,false,false,false,false,false,false,false,false,false,false,false,false,false,false,false,false,false,false,false,false,false,false,false,false,false,false,false,false,false,false,false,false,false,false,false] (by kernel_rfl) rfl rfl ⟨(blk_cell BK225.out 0).trans rfl, (blk_cell BK225.out 1).trans rfl⟩ (fun hHeld => ?_); refine with_tabW kerbsuitedata_Database.tab6 kerbsuitedata_Database.bits6 (fun HT_ HW_ => ?_)
         generalize wr.drew = w39 at HO_226001 BK222 BK225 BK238 HI223 HB hHeld ⊢
         refine pure_ (i := 0) (N := some 25) (v := ?_) (a' := ?_) (bo_ 38 1) rfl rfl (any_of HT_.out (by kernel_rfl)) (fun _ _ _ h => h) (Or.inl ⟨by rfl, ?_⟩) ?_ ?_
         rotate_left; (· intro w'; go_simp; with_reducible rfl)
         rotate_left; (· simp only [Act.put,sA_,sB_,sC_,i64_w,i32_w]; rfl)
         refine pure_ (i := 1) (N := some 26) (v := ?_) (a' := ?_) (bo_ 38 3) rfl rfl (any_of HT_.out (by kernel_rfl)) (fun _ _ _ h => h) (Or.inl ⟨by rfl, ?_⟩) ?_ ?_
         rotate_left; (· intro w'; go_simp; with_reducible rfl)
         rotate_left; (· simp only [Act.put,sA_,sB_,sC_,i64_w,i32_w]; rfl)
         refine take_ (i := 2) (N := some 27) (v := ?_) (a' := ?_) (bo_ 38 7) rfl rfl (take_ofW HT_.out HW_.out (by kernel_rfl)) (fun _ _ _ h => h) (Or.inl ⟨by rfl, ?_⟩) hHeld ?_ ?_
         rotate_left; (· rintro w' ⟨s0, s1⟩; go_simp; with_reducible rfl)
         rotate_left; (· simp only [Act.put,sA_,sB_,sC_,i64_w,i32_w]; rfl)
         refine pure_ (i := 3) (N := some 28) (v := ?_) (a' := ?_) (bo_ 38 15) rfl rfl (any_of HT_.out (by kernel_rfl)) (fun _ _ _ h => h) (Or.inl ⟨by rfl, ?_⟩) ?_ ?_
         rotate_left; (· intro w'; go_simp; with_reducible rfl)
         rotate_left; (· simp only [Act.put,sA_,sB_,sC_,i64_w,i32_w]; rfl)
         refine pure_ (i := 4) (N := some 29) (v := ?_) (a' := ?_) (bo_ 38 31) rfl rfl (any_of HT_.out (by kernel_rfl)) (fun _ _ _ h => h) (Or.inl ⟨by rfl, ?_⟩) ?_ ?_
         rotate_left; (· intro w'; go_simp; with_reducible rfl)
         rotate_left; (· simp only [Act.put,sA_,sB_,sC_,i64_w,i32_w]; rfl)
         refine pure_ (i := 5) (N := some 30) (v := ?_) (a' := ?_) (bo_ 38 63) rfl rfl (any_of HT_.out (by kernel_rfl)) (fun _ _ _ h => h) (Or.inl ⟨by rfl, ?_⟩) ?_ ?_
         rotate_left; (· intro w'; go_simp; with_reducible rfl)
         rotate_left; (· simp only [Act.put,sA_,sB_,sC_,i64_w,i32_w]; rfl)
         refine pure_ (i := 6) (N := some 31) (v := undef) (a' := ?_) (bo_ 38 127) rfl rfl (any_of HT_.out (by kernel_rfl)) (fun _ _ _ h => h) (Or.inr ⟨by rfl, rfl⟩) ?_ ?_
         rotate_left; (· simp only [Act.put,sA_,sB_,sC_,i64_w,i32_w]; rfl)
         refine pure_ (i := 7) (N := some 32) (v := undef) (a' := ?_) (bo_ 38 255) rfl rfl (any_of HT_.out (by kernel_rfl)) (fun _ _ _ h => h) (Or.inr ⟨by rfl, rfl⟩) ?_ ?_
         rotate_left; (· simp only [Act.put,sA_,sB_,sC_,i64_w,i32_w]; rfl)
         refine pure_ (i := 8) (N := some 33) (v := undef) (a' := ?_) (bo_ 38 511) rfl rfl (any_of HT_.out (by kernel_rfl)) (fun _ _ _ h => h) (Or.inr ⟨by rfl, rfl⟩) ?_ ?_
         rotate_left; (· simp only [Act.put,sA_,sB_,sC_,i64_w,i32_w]; rfl)
         refine pure_ (i := 9) (N := some 34) (v := undef) (a' := ?_) (bo_ 38 1023) rfl rfl (any_of HT_.out (by kernel_rfl)) (fun _ _ _ h => h) (Or.inr ⟨by rfl, rfl⟩) ?_ ?_
         rotate_left; (· simp only [Act.put,sA_,sB_,sC_,i64_w,i32_w]; rfl)
         refine pure_ (i := 10) (N := some 35) (v := undef) (a' := ?_) (bo_ 38 2047) rfl rfl (any_of HT_.out (by kernel_rfl)) (fun _ _ _ h => h) (Or.inr ⟨by rfl, rfl⟩) ?_ ?_
         rotate_left; (· simp only [Act.put,sA_,sB_,sC_,i64_w,i32_w]; rfl)
         refine pure_ (i := 11) (N := some 36) (v := undef) (a' := ?_) (bo_ 38 4095) rfl rfl (any_of HT_.out (by kernel_rfl)) (fun _ _ _ h => h) (Or.inr ⟨by rfl, rfl⟩) ?_ ?_
         rotate_left; (· simp only [Act.put,sA_,sB_,sC_,i64_w,i32_w]; rfl)
         refine pure_ (i := 12) (N := some 37) (v := undef) (a' := ?_) (bo_ 38 8191) rfl rfl (any_of HT_.out (by kernel_rfl)) (fun _ _ _ h => h) (Or.inr ⟨by rfl, rfl⟩) ?_ ?_
         rotate_left; (· simp only [Act.put,sA_,sB_,sC_,i64_w,i32_w]; rfl)
         refine pure_ (i := 13) (N := some 38) (v := undef) (a' := ?_) (bo_ 38 16383) rfl rfl (any_of HT_.out (by kernel_rfl)) (fun _ _ _ h => h) (Or.inr ⟨by rfl, rfl⟩) ?_ ?_
         rotate_left; (· simp only [Act.put,sA_,sB_,sC_,i64_w,i32_w]; rfl)
         refine pure_ (i := 14) (N := some 39) (v := undef) (a' := ?_) (bo_ 38 32767) rfl rfl (any_of HT_.out (by kernel_rfl)) (fun _ _ _ h => h) (Or.inr ⟨by rfl, rfl⟩) ?_ ?_
         rotate_left; (· simp only [Act.put,sA_,sB_,sC_,i64_w,i32_w]; rfl)
         refine pure_ (i := 15) (N := some 40) (v := undef) (a' := ?_) (bo_ 38 65535) rfl rfl (any_of HT_.out (by kernel_rfl)) (fun _ _ _ h => h) (Or.inr ⟨by rfl, rfl⟩) ?_ ?_
         rotate_left; (· simp only [Act.put,sA_,sB_,sC_,i64_w,i32_w]; rfl)
         refine pure_ (i := 16) (N := some 41) (v := undef) (a' := ?_) (bo_ 38 131071) rfl rfl (any_of HT_.out (by kernel_rfl)) (fun _ _ _ h => h) (Or.inr ⟨by rfl, rfl⟩) ?_ ?_
         rotate_left; (· simp only [Act.put,sA_,sB_,sC_,i64_w,i32_w]; rfl)
         refine pure_ (i := 17) (N := some 42) (v := undef) (a' := ?_) (bo_ 38 262143) rfl rfl (any_of HT_.out (by kernel_rfl)) (fun _ _ _ h => h) (Or.inr ⟨by rfl, rfl⟩) ?_ ?_
         rotate_left; (· simp only [Act.put,sA_,sB_,sC_,i64_w,i32_w]; rfl)
         refine pure_ (i := 18) (N := some 43) (v := undef) (a' := ?_) (bo_ 38 524287) rfl rfl (any_of HT_.out (by kernel_rfl)) (fun _ _ _ h => h) (Or.inr ⟨by rfl, rfl⟩) ?_ ?_
         rotate_left; (· simp only [Act.put,sA_,sB_,sC_,i64_w,i32_w]; rfl)
         refine pure_ (i := 19) (N := some 44) (v := undef) (a' := ?_) (bo_ 38 1048575) rfl rfl (any_of HT_.out (by kernel_rfl)) (fun _ _ _ h => h) (Or.inr ⟨by rfl, rfl⟩) ?_ ?_
         rotate_left; (· simp only [Act.put,sA_,sB_,sC_,i64_w,i32_w]; rfl)
         refine pure_ (i := 20) (N := some 45) (v := undef) (a' := ?_) (bo_ 38 2097151) rfl rfl (any_of HT_.out (by kernel_rfl)) (fun _ _ _ h => h) (Or.inr ⟨by rfl, rfl⟩) ?_ ?_
         rotate_left; (· simp only [Act.put,sA_,sB_,sC_,i64_w,i32_w]; rfl)
         refine pure_ (i := 21) (N := some 46) (v := undef) (a' := ?_) (bo_ 38 4194303) rfl rfl (any_of HT_.out (by kernel_rfl)) (fun _ _ _ h => h) (Or.inr ⟨by rfl, rfl⟩) ?_ ?_
         rotate_left; (· simp only [Act.put,sA_,sB_,sC_,i64_w,i32_w]; rfl)
         refine pure_ (i := 22) (N := some 47) (v := undef) (a' := ?_) (bo_ 38 8388607) rfl rfl (any_of HT_.out (by kernel_rfl)) (fun _ _ _ h => h) (Or.inr ⟨by rfl, rfl⟩) ?_ ?_
         rotate_left; (· simp only [Act.put,sA_,sB_,sC_,i64_w,i32_w]; rfl)
         refine pure_ (i := 23) (N := some 48) (v := undef) (a' := ?_) (bo_ 38 16777215) rfl rfl (any_of HT_.out (by kernel_rfl)) (fun _ _ _ h => h) (Or.inr ⟨by rfl, rfl⟩) ?_ ?_
         rotate_left; (· simp only [Act.put,sA_,sB_,sC_,i64_w,i32_w]; rfl)
         refine pure_ (i := 24) (N := some 49) (v := undef) (a' := ?_) (bo_ 38 33554431) rfl rfl (any_of HT_.out (by kernel_rfl)) (fun _ _ _ h => h) (Or.inr ⟨by rfl, rfl⟩) ?_ ?_
         rotate_left; (· simp only [Act.put,sA_,sB_,sC_,i64_w,i32_w]; rfl)
         refine pure_ (i := 25) (N := some 50) (v := undef) (a' := ?_) (bo_ 38 67108863) rfl rfl (any_of HT_.out (by kernel_rfl)) (fun _ _ _ h => h) (Or.inr ⟨by rfl, rfl⟩) ?_ ?_
         rotate_left; (· simp only [Act.put,sA_,sB_,sC_,i64_w,i32_w]; rfl)
         refine pure_ (i := 26) (N := some 51) (v := undef) (a' := ?_) (bo_ 38 134217727) rfl rfl (any_of HT_.out (by kernel_rfl)) (fun _ _ _ h => h) (Or.inr ⟨by rfl, rfl⟩) ?_ ?_
         rotate_left; (· simp only [Act.put,sA_,sB_,sC_,i64_w,i32_w]; rfl)
         refine pure_ (i := 27) (N := some 52) (v := undef) (a' := ?_) (bo_ 38 268435455) rfl rfl (any_of HT_.out (by kernel_rfl)) (fun _ _ _ h => h) (Or.inr ⟨by rfl, rfl⟩) ?_ ?_
         rotate_left; (· simp only [Act.put,sA_,sB_,sC_,i64_w,i32_w]; rfl)
         refine pure_ (i := 28) (N := some 53) (v := undef) (a' := ?_) (bo_ 38 536870911) rfl rfl (any_of HT_.out (by kernel_rfl)) (fun _ _ _ h => h) (Or.inr ⟨by rfl, rfl⟩) ?_ ?_
         rotate_left; (· simp only [Act.put,sA_,sB_,sC_,i64_w,i32_w]; rfl)
         refine pure_ (i := 29) (N := some 54) (v := undef) (a' := ?_) (bo_ 38 1073741823) rfl rfl (any_of HT_.out (by kernel_rfl)) (fun _ _ _ h => h) (Or.inr ⟨by rfl, rfl⟩) ?_ ?_
         rotate_left; (· simp only [Act.put,sA_,sB_,sC_,i64_w,i32_w]; rfl)
         refine pure_ (i := 30) (N := some 55) (v := undef) (a' := ?_) (bo_ 38 2147483647) rfl rfl (any_of HT_.out (by kernel_rfl)) (fun _ _ _ h => h) (Or.inr ⟨by rfl, rfl⟩) ?_ ?_
         rotate_left; (· simp only [Act.put,sA_,sB_,sC_,i64_w,i32_w]; rfl)
         refine pure_ (i := 31) (N := some 56) (v := undef) (a' := ?_) (bo_ 38 4294967295) rfl rfl (any_of HT_.out (by kernel_rfl)) (fun _ _ _ h => h) (Or.inr ⟨by rfl, rfl⟩) ?_ ?_
         rotate_left; (· simp only [Act.put,sA_,sB_,sC_,i64_w,i32_w]; rfl)
         refine pure_ (i := 32) (N := some 57) (v := undef) (a' := ?_) (bo_ 38 8589934591) rfl rfl (any_of HT_.out (by kernel_rfl)) (fun _ _ _ h => h) (Or.inr ⟨by rfl, rfl⟩) ?_ ?_
         rotate_left; (· simp only [Act.put,sA_,sB_,sC_,i64_w,i32_w]; rfl)
         refine pure_ (i := 33) (N := some 58) (v := undef) (a' := ?_) (bo_ 38 17179869183) rfl rfl (any_of HT_.out (by kernel_rfl)) (fun _ _ _ h => h) (Or.inr ⟨by rfl, rfl⟩) ?_ ?_
         rotate_left; (· simp only [Act.put,sA_,sB_,sC_,i64_w,i32_w]; rfl)
         refine pure_ (i := 34) (N := some 59) (v := undef) (a' := ?_) (bo_ 38 34359738367) rfl rfl (any_of HT_.out (by kernel_rfl)) (fun _ _ _ h => h) (Or.inr ⟨by rfl, rfl⟩) ?_ ?_
         rotate_left; (· simp only [Act.put,sA_,sB_,sC_,i64_w,i32_w]; rfl)
         refine pure_ (i := 35) (N := some 60) (v := undef) (a' := ?_) (bo_ 38 68719476735) rfl rfl (any_of HT_.out (by kernel_rfl)) (fun _ _ _ h => h) (Or.inr ⟨by rfl, rfl⟩) ?_ ?_
         rotate_left; (· simp only [Act.put,sA_,sB_,sC_,i64_w,i32_w]; rfl)
         refine pure_ (i := 36) (N := some 61) (v := undef) (a' := ?_) (bo_ 38 137438953471) rfl rfl (any_of HT_.out (by kernel_rfl)) (fun _ _ _ h => h) (Or.inr ⟨by rfl, rfl⟩) ?_ ?_
         rotate_left; (· simp only [Act.put,sA_,sB_,sC_,i64_w,i32_w]; rfl)
         refine pure_ (i := 37) (N := some 62) (v := ?_) (a' := ?_) (bo_ 38 274877906943) rfl rfl (any_of HT_.out (by kernel_rfl)) (fun _ _ _ h => h) (Or.inl ⟨by rfl, ?_⟩) ?_ ?_
         rotate_left; (· intro w'; go_simp; with_reducible rfl)
         rotate_left; (· simp only [Act.put,sA_,sB_,sC_,i64_w,i32_w]; rfl)
         refine done_ (done_of HT_.out (by kernel_rfl)) ?_
         try go_wp2
         go_meet
         case rel => exact ⟨_, (false), (by first | rfl | (simp; done) | (simp [*]; done)), H', ⟨by have := HK1.out; have := HJ10.out; have := HK3.out; first | omega | exact Nat.le_refl _⟩, ⟨by refine bk_ ?_; exact HO_226001.out⟩, ⟨by refine bk_ ?_; exact BK222.out⟩, ⟨by refine bk_ ?_; exact BK225.out⟩, ⟨by refine bk_ ?_; exact BK238.out⟩, ⟨by repeat (first | (with_reducible first | exact HI223.out | apply IsS52.alloc | apply IsS52.drewN | apply IsS52.drew | apply IsS52.set_1 | refine IsS52.far ?_ NB223_222.out _ | refine IsS52.far ?_ NB223_225.out _ | refine IsS52.far ?_ NB223_238.out _) | exact HI223.out)⟩, ⟨by repeat (first | (with_reducible first | exact HB.out | apply bA_ | apply bN_ | apply bD_ | refine bS_ ?_ (IsS52.ge HI223.out) | refine bS_ ?_ GE222.out | refine bS_ ?_ GE225.out | refine bS_ ?_ GE238.out) | exact HB.out)⟩⟩
        case rest =>
         clear HC28
         try clear c2
         try clear p2
         try clear q2
         try clear hx2
         try clear c3
         try clear p23
         try clear q23
         try clear hx23
         try clear p24
         try clear q24
         try clear hx24
         try clear c29
         try clear c29b0
         try clear c30
         try clear c34
         try clear c34b0
         try clear c34b1
         try clear hx239_0
         try clear hx239_1
         try clear hx239_2
         try clear hx239_3
         try clear hx239_4
         try clear hx239_5
         try clear hx239_6
         try clear hx239_7
         try clear hx239_8
         try clear hx240_0
         try clear hx240_1
         try clear hx240_2
         try clear hx240_3
         try clear hx240_4
         try clear hx240_5
         try clear hx240_6
         try clear hx240_7
         try clear hx240_8
         try clear p239
         try clear p240
         try clear q239
         try clear q240
         obtain ⟨kq, x62_27, rfl, HA, HJ27, HO_226001, BK222, BK225, BK238, HI223, HB⟩ := hcut
         cases kq with
         | zero => exact absurd HA.out (by simp [kerbsuitedata_Database.j3])
         | succ kj27 =>
          have H := HA.out
          clear HA
          simp only [kerbsuitedata_Database.j3] at H
          by_cases c41 : x62_27 = true
          ·subst c41
           have H1 : (kerbsuitedata_Database.l1 kj27 (wrap64 (x8_3 + 1)) l0 t237 t224 x226001_1 t228 t229 t230 t231 t232 t233 t234 t235 t236) = some (r1, r2) := by rw [if_pos rfl] at H; exact H
           clear H
           have H := H1
           clear H1
           have H' := Aside0.mk H
           clear H
           go_wp2
           go_roundg kj27
           case measure => have := HK1.out; have := HJ10.out; have := HK3.out; have := HJ27.out; omega
           case rel => exact ⟨(wrap64 (x8_3 + 1)), (by first | rfl | (simp; done) | (simp [*]; done)), H', ⟨by have := HK1.out; have := HJ10.out; have := HK3.out; have := HJ27.out; omega⟩, ⟨by refine bk_ ?_; exact HO_226001.out⟩, ⟨by refine bk_ ?_; exact BK222.out⟩, ⟨by refine bk_ ?_; exact BK225.out⟩, ⟨by refine bk_ ?_; exact BK238.out⟩, ⟨by repeat (first | (with_reducible first | exact HI223.out | apply IsS52.alloc | apply IsS52.drewN | apply IsS52.drew | apply IsS52.set_1 | refine IsS52.far ?_ NB223_222.out _ | refine IsS52.far ?_ NB223_225.out _ | refine IsS52.far ?_ NB223_238.out _) | exact HI223.out)⟩, ⟨by repeat (first | (with_reducible first | exact HB.out | apply bA_ | apply bN_ | apply bD_ | refine bS_ ?_ (IsS52.ge HI223.out) | refine bS_ ?_ GE222.out | refine bS_ ?_ GE225.out | refine bS_ ?_ GE238.out) | exact HB.out)⟩⟩
          replace c41 := Bool.eq_false_iff.mpr c41
          subst c41
          have H1 : ((some (([] : List (S35)) : List (S35))).bind fun y242 => (if 0 ≤ x8_3 then (if x8_3 ≤ (x226001_1.length : Int) then ((some (x226001_1.take (x8_3 : Int).toNat : List (S35))).bind fun y245 => (if y242.length + y245.length < 1599289640401 then ((some (y242 ++ y245 : List (S35))).bind fun y249 => ((some (([(⟨t228, t229, t230, t231, t232, t233, t234, t235, t236⟩ : S35)] : List (S35)) : List (S35))).bind fun y252 => (if y249.length + y252.length < 1599289640401 then ((some (y249 ++ y252 : List (S35))).bind fun y255 => ((some (x226001_1.drop (x8_3 : Int).toNat : List (S35))).bind fun y258 => (if y255.length + y258.length < 1599289640401 then (kerbsuitedata_Database.l0 kj27 l0 t237 t224 (y255 ++ y258)) else (none)))) else (none)))) else (none))) else (none)) else (none))) = some (r1, r2) := by rw [if_neg (show ¬ (false = true) by decide)] at H; exact H
          clear H
          have H := H1
          clear H1
          obtain ⟨y242, hy242⟩ : ∃ y_ : List (S35), y_ = (([] : List (S35))) := ⟨_, rfl⟩
          replace H : (if 0 ≤ x8_3 then (if x8_3 ≤ (x226001_1.length : Int) then ((some (x226001_1.take (x8_3 : Int).toNat : List (S35))).bind fun y245 => (if y242.length + y245.length < 1599289640401 then ((some (y242 ++ y245 : List (S35))).bind fun y249 => ((some (([(⟨t228, t229, t230, t231, t232, t233, t234, t235, t236⟩ : S35)] : List (S35)) : List (S35))).bind fun y252 => (if y249.length + y252.length < 1599289640401 then ((some (y249 ++ y252 : List (S35))).bind fun y255 => ((some (x226001_1.drop (x8_3 : Int).toNat : List (S35))).bind fun y258 => (if y255.length + y258.length < 1599289640401 then (kerbsuitedata_Database.l0 kj27 l0 t237 t224 (y255 ++ y258)) else (none)))) else (none)))) else (none))) else (none)) else (none)) = some (r1, r2) := by first | (rw [hy242]; with_reducible exact H) | (have H2_ := (Option.bind_some _ _).symm.trans H; rw [hy242]; with_reducible exact H2_) | (have H2_ := (Option.bind_some _ _).symm.trans H; with_reducible exact H2_) | with_reducible exact H | (rw [hy242]; exact H) | exact H
          have Ny242 := Aside0.mk hy242
          clear hy242
          by_cases c42 : 0 ≤ x8_3
          ·rw [if_pos c42] at H
           have c42b0 := eq_true c42
           have c42b1 : decide (0 ≤ x8_3) = true := decide_eq_true c42
           clear c42
           by_cases c43 : x8_3 ≤ (x226001_1.length : Int)
           ·rw [if_pos c43] at H
            have c43b0 := eq_true c43
            have c43b1 : decide (x8_3 ≤ (x226001_1.length : Int)) = true := decide_eq_true c43
            clear c43
            obtain ⟨y245, hy245⟩ : ∃ y_ : List (S35), y_ = (x226001_1.take (x8_3 : Int).toNat) := ⟨_, rfl⟩
            replace H : (if y242.length + y245.length < 1599289640401 then ((some (y242 ++ y245 : List (S35))).bind fun y249 => ((some (([(⟨t228, t229, t230, t231, t232, t233, t234, t235, t236⟩ : S35)] : List (S35)) : List (S35))).bind fun y252 => (if y249.length + y252.length < 1599289640401 then ((some (y249 ++ y252 : List (S35))).bind fun y255 => ((some (x226001_1.drop (x8_3 : Int).toNat : List (S35))).bind fun y258 => (if y255.length + y258.length < 1599289640401 then (kerbsuitedata_Database.l0 kj27 l0 t237 t224 (y255 ++ y258)) else (none)))) else (none)))) else (none)) = some (r1, r2) := by first | (rw [hy245]; with_reducible exact H) | (have H2_ := (Option.bind_some _ _).symm.trans H; rw [hy245]; with_reducible exact H2_) | (have H2_ := (Option.bind_some _ _).symm.trans H; with_reducible exact H2_) | with_reducible exact H | (rw [hy245]; exact H) | exact H
            have Ny245 := Aside0.mk hy245
            clear hy245
            by_cases c44 : y242.length + y245.length < 1599289640401
            ·rw [if_pos c44] at H
             have LMc44 := Aside0.mk c44
             clear c44
             obtain ⟨y249, hy249⟩ : ∃ y_ : List (S35), y_ = (y242 ++ y245) := ⟨_, rfl⟩
             replace H : ((some (([(⟨t228, t229, t230, t231, t232, t233, t234, t235, t236⟩ : S35)] : List (S35)) : List (S35))).bind fun y252 => (if y249.length + y252.length < 1599289640401 then ((some (y249 ++ y252 : List (S35))).bind fun y255 => ((some (x226001_1.drop (x8_3 : Int).toNat : List (S35))).bind fun y258 => (if y255.length + y258.length < 1599289640401 then (kerbsuitedata_Database.l0 kj27 l0 t237 t224 (y255 ++ y258)) else (none)))) else (none))) = some (r1, r2) := by first | (rw [hy249]; with_reducible exact H) | (have H2_ := (Option.bind_some _ _).symm.trans H; rw [hy249]; with_reducible exact H2_) | (have H2_ := (Option.bind_some _ _).symm.trans H; with_reducible exact H2_) | with_reducible exact H | (rw [hy249]; exact H) | exact H
             have Ny249 := Aside0.mk hy249
             clear hy249
             obtain ⟨y252, hy252⟩ : ∃ y_ : List (S35), y_ = (([(⟨t228, t229, t230, t231, t232, t233, t234, t235, t236⟩ : S35)] : List (S35))) := ⟨_, rfl⟩
             replace H : (if y249.length + y252.length < 1599289640401 then ((some (y249 ++ y252 : List (S35))).bind fun y255 => ((some (x226001_1.drop (x8_3 : Int).toNat : List (S35))).bind fun y258 => (if y255.length + y258.length < 1599289640401 then (kerbsuitedata_Database.l0 kj27 l0 t237 t224 (y255 ++ y258)) else (none)))) else (none)) = some (r1, r2) := by first | (rw [hy252]; with_reducible exact H) | (have H2_ := (Option.bind_some _ _).symm.trans H; rw [hy252]; with_reducible exact H2_) | (have H2_ := (Option.bind_some _ _).symm.trans H; with_reducible exact H2_) | with_reducible exact H | (rw [hy252]; exact H) | exact H
             have Ny252 := Aside0.mk hy252
             clear hy252
             by_cases c45 : y249.length + y252.length < 1599289640401
             ·rw [if_pos c45] at H
              have LMc45 := Aside0.mk c45
              clear c45
              obtain ⟨y255, hy255⟩ : ∃ y_ : List (S35), y_ = (y249 ++ y252) := ⟨_, rfl⟩
              replace H : ((some (x226001_1.drop (x8_3 : Int).toNat : List (S35))).bind fun y258 => (if y255.length + y258.length < 1599289640401 then (kerbsuitedata_Database.l0 kj27 l0 t237 t224 (y255 ++ y258)) else (none))) = some (r1, r2) := by first | (rw [hy255]; with_reducible exact H) | (have H2_ := (Option.bind_some _ _).symm.trans H; rw [hy255]; with_reducible exact H2_) | (have H2_ := (Option.bind_some _ _).symm.trans H; with_reducible exact H2_) | with_reducible exact H | (rw [hy255]; exact H) | exact H
              have Ny255 := Aside0.mk hy255
              clear hy255
              have c46b0 := eq_true (of_decide_eq_true (by first | (with_reducible assumption) | assumption) : 0 ≤ x8_3)
              have c47b0 := eq_true (of_decide_eq_true (by first | (with_reducible assumption) | assumption) : x8_3 ≤ (x226001_1.length : Int))
              obtain ⟨y258, hy258⟩ : ∃ y_ : List (S35), y_ = (x226001_1.drop (x8_3 : Int).toNat) := ⟨_, rfl⟩
              replace H : (if y255.length + y258.length < 1599289640401 then (kerbsuitedata_Database.l0 kj27 l0 t237 t224 (y255 ++ y258)) else (none)) = some (r1, r2) := by first | (rw [hy258]; with_reducible exact H) | (have H2_ := (Option.bind_some _ _).symm.trans H; rw [hy258]; with_reducible exact H2_) | (have H2_ := (Option.bind_some _ _).symm.trans H; with_reducible exact H2_) | with_reducible exact H | (rw [hy258]; exact H) | exact H
              have Ny258 := Aside0.mk hy258
              clear hy258
              by_cases c48 : y255.length + y258.length < 1599289640401
              ·rw [if_pos c48] at H
               have LMc48 := Aside0.mk c48
               clear c48
               obtain ⟨y262, hy262⟩ : ∃ y_ : List (S35), y_ = (y255 ++ y258) := ⟨_, rfl⟩
               replace H : (kerbsuitedata_Database.l0 kj27 l0 t237 t224 y262) = some (r1, r2) := by first | (rw [hy262]; with_reducible exact H) | (have H2_ := (Option.bind_some _ _).symm.trans H; rw [hy262]; with_reducible exact H2_) | (have H2_ := (Option.bind_some _ _).symm.trans H; with_reducible exact H2_) | with_reducible exact H | (rw [hy262]; exact H) | exact H
               have Ny262 := Aside0.mk hy262
               clear hy262
               have H' := Aside0.mk H
               clear H
               try go_upto_region 8 with fail
               have n0_ := Aside0.mk (Kd.R_drew HO_226001.out)
               have n1_ := Aside0.mk (blk_drew BK222.out)
               have n2_ := Aside0.mk (blk_drew BK225.out)
               have n3_ := Aside0.mk (blk_drew BK238.out)
               have n4_ := Aside0.mk (IsS52.drew HI223.out)
               have n5_ := Aside0.mk (bD_ HB.out)
               clear HO_226001 BK222 BK225 BK238 HI223 HB
               have HO_226001 := n0_
               have BK222 := n1_
               have BK225 := n2_
               have BK238 := n3_
               have HI223 := n4_
               have HB := n5_
               clear n0_ n1_ n2_ n3_ n4_ n5_
               obtain ⟨Ao51, co51, eo51⟩ := Kd.R_slice HO_226001.out
               (first | subst eo51 | (injection eo51 with f1_ f2_ f3_; have f4_ := f1_.symm; have f5_ := f3_.symm; clear f1_ f2_ f3_; subst f4_; subst f5_))
               have q50 : (x8_3 : Int) ≤ ((x226001_1.length : Int) : Int) := of_decide_eq_true (by first | (with_reducible assumption) | assumption)
               obtain ⟨i050, hi050, _, hsz50, _⟩ := info_parts info35
               have hroom50 : x226001_1.length ≤ co51 := (Kd.R_reads' HO_226001.out).2.1
               have hC50 : Kd.C k35 _ Ao51 x226001_1.length x226001_1 := (Kd.R_reads' HO_226001.out).2.2
               have hcut50 := cut_to (P := Tryd.prog) 22 35 .i64 Tryd.underlying22 hi050 Ao51 x226001_1.length co51 x8_3 (of_decide_eq_true (by first | (with_reducible assumption) | assumption)) q50 hroom50
               have hr50 := Kd.C_take (m := (x8_3 : Int).toNat) hC50 (by omega)
               have hy50 : y245.length = (x8_3 : Int).toNat := (by rw [Ny245.out, List.length_take]; omega)
               rw [← Ny245.out] at hr50
               rw [← hy50] at hcut50
               have HR248 := Aside0.mk hr50
               have HC248 := Aside0.mk (show y245.length ≤ co51 from by omega)
               clear hr50 hC50 hroom50 hi050 hsz50
               have KY50 := Aside0.mk hy50
               clear hy50
               have KL50 := Aside0.mk (show (x8_3 : Int).toNat ≤ x226001_1.length from by omega)
               replace q50 := eq_true q50
               have q52 : (x8_3 : Int) ≤ ((x226001_1.length : Int) : Int) := of_decide_eq_true (by first | (with_reducible assumption) | assumption)
               obtain ⟨i052, hi052, _, hsz52, _⟩ := info_parts info35
               have hroom52 : x226001_1.length ≤ co51 := (Kd.R_reads' HO_226001.out).2.1
               have hC52 : Kd.C k35 _ Ao51 x226001_1.length x226001_1 := (Kd.R_reads' HO_226001.out).2.2
               have q052 : (0 : Int) ≤ (x8_3 : Int) := of_decide_eq_true (by first | (with_reducible assumption) | assumption)
               have hcut52 := cut_from (P := Tryd.prog) 22 35 .i64 Tryd.underlying22 hi052 9 hsz52 Ao51 x226001_1.length co51 x8_3 q052 q52
               have hr52 := Kd.C_drop (m := (x8_3 : Int).toNat) (c := co51) hC52 (by omega) hroom52
               obtain ⟨A52, hA52⟩ : ∃ A1, A1 = (if co51 = (x8_3 : Int).toNat then Ao51 else (Ao51 : Option Addr).map (·.add ((x8_3 : Int).toNat * 9))) := ⟨_, rfl⟩
               obtain ⟨c52, hc52⟩ : ∃ c1, c1 = co51 - (x8_3 : Int).toNat := ⟨_, rfl⟩
               have hy52 : y258.length = x226001_1.length - (x8_3 : Int).toNat := (by rw [Ny258.out, List.length_drop] <;> omega)
               rw [show (x226001_1).drop (x8_3 : Int).toNat = y258 from Ny258.out.symm] at hr52
               replace hr52 : Kd.C k35 _ A52 y258.length y258 := (by rw [hA52]; exact hr52)
               rw [← hy52, ← hA52, ← hc52] at hcut52
               have HR261 := Aside0.mk hr52
               have HC261 := Aside0.mk (show y258.length ≤ c52 from by rw [hy52, hc52]; exact Nat.sub_le_sub_right hroom52 _)
               clear hr52 hC52 hroom52 hi052 hsz52 hc52
               have KY52 := Aside0.mk hy52
               have KA52 := Aside0.mk hA52
               clear hy52 hA52
               have KL52 := Aside0.mk (show (x8_3 : Int).toNat ≤ x226001_1.length from by omega)
               replace q52 := eq_true q52
               refine start_ (n := 16) (S := fun w' => w'.cell? ⟨gb225, 0, none⟩ = some (.string t224) ∧ w'.cell? ⟨gb225, 1, none⟩ = some (.slice Ao51 x226001_1.length co51) ∧ w'.cell? ⟨gb238, 0, none⟩ = some (.string t228) ∧ w'.cell? ⟨gb238, 1, none⟩ = some (.string t229) ∧ w'.cell? ⟨gb238, 2, none⟩ = some (.int .u64 t230) ∧ w'.cell? ⟨gb238, 3, none⟩ = some (.int .i64 t231) ∧ w'.cell? ⟨gb238, 4, none⟩ = some (.int .i64 t232) ∧ w'.cell? ⟨gb238, 5, none⟩ = some (.int .i64 t233) ∧ w'.cell? ⟨gb238, 6, none⟩ = some (.int .i64 t234) ∧ w'.cell? ⟨gb238, 7, none⟩ = some (.int .i64 t235) ∧ w'.cell? ⟨gb238, 8, none⟩ = some (.int .i64 t236)) (ds := [15]) #[false,false,false,false,false,false,false,false,false,false,false,false,false,false,false,false] (by kernel_rfl) rfl rfl ⟨(blk_cell BK225.out 0).trans rfl, (blk_cell BK225.out 1).trans rfl, (blk_cell BK238.out 0).trans rfl, (blk_cell BK238.out 1).trans rfl, (blk_cell BK238.out 2).trans rfl, (blk_cell BK238.out 3).trans rfl, (blk_cell BK238.out 4).trans rfl, (blk_cell BK238.out 5).trans rfl, (blk_cell BK238.out 6).trans rfl, (blk_cell BK238.out 7).trans rfl, (blk_cell BK238.out 8).trans rfl⟩ (fun hHeld => ?_); refine with_tabW kerbsuitedata_Database.tab8 kerbsuitedata_Database.bits8 (fun HT_ HW_ => ?_)
               generalize wc.drew = w49 at HO_226001 BK222 BK225 BK238 HI223 HB HR248 HR261 hHeld ⊢
               refine pure_ (i := 1) (N := some 66) (v := ?_) (a' := ?_) (bo_ 16 2) rfl rfl (any_of HT_.out (by kernel_rfl)) (fun _ _ _ h => h) (Or.inl ⟨by rfl, ?_⟩) ?_ ?_
               rotate_left; (· intro w'; go_simp; with_reducible rfl)
               rotate_left; (· simp only [Act.put,sA_,sB_,sC_,i64_w,i32_w]; rfl)
               refine pure_ (i := 3) (N := some 68) (v := ?_) (a' := ?_) (bo_ 16 10) rfl rfl (any_of HT_.out (by kernel_rfl)) (fun _ _ _ h => h) (Or.inl ⟨by rfl, ?_⟩) ?_ ?_
               rotate_left; (· intro w'; go_simp; with_reducible rfl)
               rotate_left; (· simp only [Act.put,sA_,sB_,sC_,i64_w,i32_w]; rfl)
               refine pure_ (i := 9) (N := some 74) (v := ?_) (a' := ?_) (bo_ 16 522) rfl rfl (any_of HT_.out (by kernel_rfl)) (fun _ _ _ h => h) (Or.inl ⟨by rfl, ?_⟩) ?_ ?_
               rotate_left; (· intro w'; go_simp; with_reducible rfl)
               rotate_left; (· simp only [Act.put,sA_,sB_,sC_,i64_w,i32_w]; rfl)
               refine pure_ (i := 11) (N := some 76) (v := ?_) (a' := ?_) (bo_ 16 2570) rfl rfl (any_of HT_.out (by kernel_rfl)) (fun _ _ _ h => h) (Or.inl ⟨by rfl, ?_⟩) ?_ ?_
               rotate_left; (· intro w'; go_simp; with_reducible rfl)
               rotate_left; (· simp only [Act.put,sA_,sB_,sC_,i64_w,i32_w]; rfl)
               refine take_ (i := 2) (N := some 67) (v := ?_) (a' := ?_) (bo_ 16 2574) rfl rfl (take_ofW HT_.out HW_.out (by kernel_rfl)) (fun _ _ _ h => h) (Or.inl ⟨by rfl, ?_⟩) hHeld ?_ ?_
               rotate_left; (· rintro w' ⟨s0, s1, s2, s3, s4, s5, s6, s7, s8, s9, s10⟩; go_simp; with_reducible rfl)
               rotate_left; (· simp only [Act.put,sA_,sB_,sC_,i64_w,i32_w]; rfl)
               refine pure_ (i := 4) (N := some 69) (v := ?_) (a' := ?_) (bo_ 16 2590) rfl rfl (any_of HT_.out (by kernel_rfl)) (fun _ _ _ h => h) (Or.inl ⟨by rfl, ?_⟩) ?_ ?_
               rotate_left; (· intro w'; go_simp; with_reducible rfl)
               rotate_left; (· simp only [Act.put,sA_,sB_,sC_,i64_w,i32_w]; rfl)
               refine take_ (i := 6) (N := some 71) (v := ?_) (a' := ?_) (bo_ 16 2654) rfl rfl (take_ofW HT_.out HW_.out (by kernel_rfl)) (fun _ _ _ h => h) (Or.inl ⟨by rfl, ?_⟩) hHeld ?_ ?_
               rotate_left; (· rintro w' ⟨s0, s1, s2, s3, s4, s5, s6, s7, s8, s9, s10⟩; go_simp; with_reducible rfl)
               rotate_left; (· simp only [Act.put,sA_,sB_,sC_,i64_w,i32_w]; rfl)
               refine take_ (i := 10) (N := some 75) (v := ?_) (a' := ?_) (bo_ 16 3678) rfl rfl (take_ofW HT_.out HW_.out (by kernel_rfl)) (fun _ _ _ h => h) (Or.inl ⟨by rfl, ?_⟩) hHeld ?_ ?_
               rotate_left; (· rintro w' ⟨s0, s1, s2, s3, s4, s5, s6, s7, s8, s9, s10⟩; go_simp; with_reducible rfl)
               rotate_left; (· simp only [Act.put,sA_,sB_,sC_,i64_w,i32_w]; rfl)
               refine pure_ (i := 12) (N := some 77) (v := ?_) (a' := ?_) (bo_ 16 7774) rfl rfl (any_of HT_.out (by kernel_rfl)) (fun _ _ _ h => h) (Or.inl ⟨by rfl, ?_⟩) ?_ ?_
               rotate_left; (· intro w'; go_simp; with_reducible rfl)
               rotate_left; (· simp only [Act.put,sA_,sB_,sC_,i64_w,i32_w]; rfl)
               refine join_ (σ := Value × Value × Value) 4 #[true,true,true,true,true,true,true,true,false,true,true,true,true,false,false,false] (fun s_ => [(65, s_.1), (70, s_.2.1), (72, s_.2.2)]) (fun s_ w' => (w'.cell? ⟨gb225, 0, none⟩ = some (.string t224) ∧ w'.cell? ⟨gb225, 1, none⟩ = some (.slice Ao51 x226001_1.length co51) ∧ w'.cell? ⟨gb238, 0, none⟩ = some (.string t228) ∧ w'.cell? ⟨gb238, 1, none⟩ = some (.string t229) ∧ w'.cell? ⟨gb238, 2, none⟩ = some (.int .u64 t230) ∧ w'.cell? ⟨gb238, 3, none⟩ = some (.int .i64 t231) ∧ w'.cell? ⟨gb238, 4, none⟩ = some (.int .i64 t232) ∧ w'.cell? ⟨gb238, 5, none⟩ = some (.int .i64 t233) ∧ w'.cell? ⟨gb238, 6, none⟩ = some (.int .i64 t234) ∧ w'.cell? ⟨gb238, 7, none⟩ = some (.int .i64 t235) ∧ w'.cell? ⟨gb238, 8, none⟩ = some (.int .i64 t236)) ∧ (Kd.R k35 35 w' w.heap.size (fun k_ => some k_ ≠ (s_.2.2 : Value).ownBlock ∧ some k_ ≠ (.slice Ao51 x226001_1.length co51 : Value).ownBlock ∧ k_ ≠ gb238) s_.2.1 y249) ∧ (Kd.R k35 35 w' w.heap.size (fun k_ => some k_ ≠ (s_.2.1 : Value).ownBlock ∧ some k_ ≠ (.slice Ao51 x226001_1.length co51 : Value).ownBlock ∧ k_ ≠ gb238) s_.2.2 y252) ∧ (Kd.R k35 35 w' w.heap.size (fun k_ => some k_ ≠ (s_.2.1 : Value).ownBlock ∧ some k_ ≠ (s_.2.2 : Value).ownBlock ∧ k_ ≠ gb238) (.slice Ao51 x226001_1.length co51) x226001_1) ∧ (w'.heap[gb222]? = some (.cells #[.string (⟨#[]⟩ : ByteArray), .slice none 0 0] 24 (0, 0))) ∧ (w'.heap[gb225]? = some (.cells #[.string t224, .slice Ao51 x226001_1.length co51] 24 (0, 0))) ∧ (w'.heap[gb238]? = some (.cells #[.string t228, .string t229, .int .u64 t230, .int .i64 t231, .int .i64 t232, .int .i64 t233, .int .i64 t234, .int .i64 t235, .int .i64 t236] 35 (0, 0))) ∧ (IsS52 w w' gb223 l0 t237) ∧ (Kd.C k35 w' Ao51 y245.length y245) ∧ (Kd.C k35 w' A52 y258.length y258) ∧ (Below w.heap.size w w')) ?_ ?_
               rotate_left
               ·intro hCont
                refine two_ (i := 0) (j := 7) (Ni := some 65) (Nj := some 72) #[true,true,true,true,true,false,true,false,false,true,true,true,true,false,false,false] #[false,true,true,true,true,false,true,true,false,true,true,true,true,false,false,false] rfl rfl rfl rfl (two_of HT_.out (by kernel_rfl)) (by decide) (by decide) (fun K hK => ?_) (fun K hK => ?_)
                ·skip
                 refine Kd.R_lit_step k35 _ 35 ?hg (N := 65) ?hd (xs := ([] : List (S35))) (inner := []) (ok := fun _ => True) (okp := fun _ => True) ?hr ?hp (fun _ hk => hk) trivial (Below.refl _ _) (Nat.le_refl _) (by simp) ?_; (case hd => rfl); (case hg => rfl); (case hr => first | (go_simp; done) | (go_simp; rfl)); (case hp => exact (Reps.none _ _))
                 intro v243 w53 ho54 hb hg_ hnew_
                 clear hg_ hnew_
                 (first | rw [← Ny242.out] at ho54 | (simp only [Int.reduceToNat] at ho54; rw [← Ny242.out] at ho54))
                 have n0_ := Aside0.mk (Kd.R_elder' (bk_ HO_226001.out) (Kd.R_base ho54) hb)
                 have n1_ := Aside0.mk (Kd.R_lower (Kd.R_newB (Kd.R_new' ho54 (Kd.R_lt (bk_ HO_226001.out))) (g := gb238) (o := .cells #[.string t228, .string t229, .int .u64 t230, .int .i64 t231, .int .i64 t232, .int .i64 t233, .int .i64 t234, .int .i64 t235, .int .i64 t236] 35 (0, 0)) (bk_ BK238.out)) (below_size (by repeat (first | (with_reducible first | exact HB.out | apply bA_ | apply bN_ | apply bD_ | refine bS_ ?_ (IsS52.ge HI223.out) | refine bS_ ?_ GE222.out | refine bS_ ?_ GE225.out | refine bS_ ?_ GE238.out) | exact HB.out))))
                 have n2_ := Aside0.mk (blk_below (g := gb222) (o := .cells #[.string (⟨#[]⟩ : ByteArray), .slice none 0 0] 24 (0, 0)) (bk_ BK222.out) hb)
                 have n3_ := Aside0.mk (blk_below (g := gb225) (o := .cells #[.string t224, .slice Ao51 x226001_1.length co51] 24 (0, 0)) (bk_ BK225.out) hb)
                 have n4_ := Aside0.mk (blk_below (g := gb238) (o := .cells #[.string t228, .string t229, .int .u64 t230, .int .i64 t231, .int .i64 t232, .int .i64 t233, .int .i64 t234, .int .i64 t235, .int .i64 t236] 35 (0, 0)) (bk_ BK238.out) hb)
                 have n5_ := Aside0.mk (IsS52.below (by repeat (first | (with_reducible first | exact HI223.out | apply IsS52.alloc | apply IsS52.drewN | apply IsS52.drew | apply IsS52.set_1 | refine IsS52.far ?_ NB223_222.out _ | refine IsS52.far ?_ NB223_225.out _ | refine IsS52.far ?_ NB223_238.out _) | exact HI223.out)) hb)
                 have n6_ := Aside0.mk (Kd.C_below (by first | (with_reducible exact HR248.out) | (with_reducible exact Kd.C_drewN HR248.out _) | (with_reducible exact Kd.C_drew HR248.out) | repeat (first | (with_reducible exact HR248.out) | (with_reducible refine Kd.C_alloc ?_ _) | (with_reducible refine Kd.C_drewN ?_ _) | (with_reducible refine Kd.C_drew ?_) | exact HR248.out)) hb)
                 have n7_ := Aside0.mk (Kd.C_below (by first | (with_reducible exact HR261.out) | (with_reducible exact Kd.C_drewN HR261.out _) | (with_reducible exact Kd.C_drew HR261.out) | repeat (first | (with_reducible exact HR261.out) | (with_reducible refine Kd.C_alloc ?_ _) | (with_reducible refine Kd.C_drewN ?_ _) | (with_reducible refine Kd.C_drew ?_) | exact HR261.out)) hb)
                 have n8_ := Aside0.mk (below_step (by repeat (first | (with_reducible first | exact HB.out | apply bA_ | apply bN_ | apply bD_ | refine bS_ ?_ (IsS52.ge HI223.out) | refine bS_ ?_ GE222.out | refine bS_ ?_ GE225.out | refine bS_ ?_ GE238.out) | exact HB.out)) hb)
                 clear HO_226001 BK222 BK225 BK238 HI223 HR248 HR261 HB
                 have HO_226001 := n0_
                 have HO244 := n1_
                 have BK222 := n2_
                 have BK225 := n3_
                 have BK238 := n4_
                 have HI223 := n5_
                 have HR248 := n6_
                 have HR261 := n7_
                 have HB := n8_
                 clear n0_ n1_ n2_ n3_ n4_ n5_ n6_ n7_ n8_
                 clear hb ho54
                 refine hK.out _ _ ⟨(blk_cell BK225.out 0).trans rfl, (blk_cell BK225.out 1).trans rfl, (blk_cell BK238.out 0).trans rfl, (blk_cell BK238.out 1).trans rfl, (blk_cell BK238.out 2).trans rfl, (blk_cell BK238.out 3).trans rfl, (blk_cell BK238.out 4).trans rfl, (blk_cell BK238.out 5).trans rfl, (blk_cell BK238.out 6).trans rfl, (blk_cell BK238.out 7).trans rfl, (blk_cell BK238.out 8).trans rfl⟩ (fun hHeld => ?_)
                 clear hK K
                 refine norm_ (a' := ?_) ?_ ?_
                 rotate_left; (· show Act.put _ (some 65) _ = _; simp only [Act.put,sA_,sB_,sC_,i64_w,i32_w]; rfl)
                 refine two_ (i := 5) (j := 7) (Ni := some 70) (Nj := some 72) #[true,true,true,true,true,true,true,false,false,true,true,true,true,false,false,false] #[true,true,true,true,true,false,true,true,false,true,true,true,true,false,false,false] rfl rfl rfl rfl (two_of HT_.out (by kernel_rfl)) (by decide) (by decide) (fun K hK => ?_) (fun K hK => ?_)
                 ·skip
                  refine Kd.R_append_rows_step k35 (w0 := w) w.heap.size (by rfl) (.tmp 65) (.tmp 69) 22 35 (.agg #[(.string ⟨#[]⟩), (.string ⟨#[]⟩), (.int .u64 0), (.int .i64 0), (.int .i64 0), (.int .i64 0), (.int .i64 0), (.int .i64 0), (.int .i64 0)]) 88 rfl Tryd.underlying22 info35 rfl (by decide) (by omega) v243 y242 y245 _ _ _ (fun k_ => some k_ ≠ (.slice Ao51 x226001_1.length co51 : Value).ownBlock ∧ k_ ≠ gb238) (fun _ => False) rfl rfl ?aO ?aR (fun _ _ h => h) (fun _ h => h.elim) ?aF ?aB ?aS ?aL ?_
                  (case aR => repeat (first | exact (by first | (with_reducible exact HR248.out) | (with_reducible exact Kd.C_drewN HR248.out _) | (with_reducible exact Kd.C_drew HR248.out) | repeat (first | (with_reducible exact HR248.out) | (with_reducible refine Kd.C_alloc ?_ _) | (with_reducible refine Kd.C_drewN ?_ _) | (with_reducible refine Kd.C_drew ?_) | exact HR248.out)) | (with_reducible refine Kd.C_alloc ?_ _) | (with_reducible refine Kd.C_drewN ?_ _) | (with_reducible refine Kd.C_drew ?_)))
                  (case aB => exact (by repeat (first | (with_reducible first | exact HB.out | apply bA_ | apply bN_ | apply bD_ | refine bS_ ?_ (IsS52.ge HI223.out) | refine bS_ ?_ GE222.out | refine bS_ ?_ GE225.out | refine bS_ ?_ GE238.out) | exact HB.out)))
                  (case aF => exact (fun k_ hk => ⟨Kd.fresh' (Kd.R_lt (bk_ HO_226001.out)) k_ hk, Kd.freshB (g := gb238) (o := .cells #[.string t228, .string t229, .int .u64 t230, .int .i64 t231, .int .i64 t232, .int .i64 t233, .int .i64 t234, .int .i64 t235, .int .i64 t236] 35 (0, 0)) (bk_ BK238.out) k_ hk⟩))
                  (case aO => exact (by refine bk_ ?_; exact Kd.R_mono HO244.out (fun _ hk => ⟨hk.1.2, hk.2⟩)))
                  (case aS => exact (below_size (by repeat (first | (with_reducible first | exact HB.out | apply bA_ | apply bN_ | apply bD_ | refine bS_ ?_ (IsS52.ge HI223.out) | refine bS_ ?_ GE222.out | refine bS_ ?_ GE225.out | refine bS_ ?_ GE238.out) | exact HB.out))))
                  (case aL => have := LMc44.out; omega)
                  intro v250 w55 ho hb hg hat
                  rw [← Ny249.out] at ho
                  have n0_ := Aside0.mk (Kd.R_after (ok := (fun k_ => k_ ≠ gb238)) (bk_ HO_226001.out) hg hat)
                  have n1_ := Aside0.mk (blk_grown (g := gb222) (o := .cells #[.string (⟨#[]⟩ : ByteArray), .slice none 0 0] 24 (0, 0)) (bk_ BK222.out) hg (Kd.R_ne HO244.out BK222.out (by decide)))
                  have n2_ := Aside0.mk (blk_grown (g := gb225) (o := .cells #[.string t224, .slice Ao51 x226001_1.length co51] 24 (0, 0)) (bk_ BK225.out) hg (Kd.R_ne HO244.out BK225.out (by decide)))
                  have n3_ := Aside0.mk (blk_grown (g := gb238) (o := .cells #[.string t228, .string t229, .int .u64 t230, .int .i64 t231, .int .i64 t232, .int .i64 t233, .int .i64 t234, .int .i64 t235, .int .i64 t236] 35 (0, 0)) (bk_ BK238.out) hg (Kd.R_away HO244.out (fun _ hk => hk.2)))
                  have n4_ := Aside0.mk (IsS52.grown (by repeat (first | (with_reducible first | exact HI223.out | apply IsS52.alloc | apply IsS52.drewN | apply IsS52.drew | apply IsS52.set_1 | refine IsS52.far ?_ NB223_222.out _ | refine IsS52.far ?_ NB223_225.out _ | refine IsS52.far ?_ NB223_238.out _) | exact HI223.out)) hg (IsS52.own_ne HI223.out HO244.out (by decide)))
                  have n5_ := Aside0.mk (hb)
                  have n6_ := Aside0.mk ((show Kd.C k35 w55 Ao51 y245.length y245 from by rw [Ny245.out]; exact Kd.C_take (m := (x8_3 : Int).toNat) ((Kd.R_reads' (Kd.R_after (ok := (fun k_ => k_ ≠ gb238)) (bk_ HO_226001.out) hg hat)).2.2) KL50.out))
                  have n7_ := Aside0.mk ((show Kd.C k35 w55 A52 y258.length y258 from by rw [Ny258.out, KA52.out]; exact Kd.C_drop (m := (x8_3 : Int).toNat) (c := co51) ((Kd.R_reads' (Kd.R_after (ok := (fun k_ => k_ ≠ gb238)) (bk_ HO_226001.out) hg hat)).2.2) KL52.out ((Kd.R_reads' (Kd.R_after (ok := (fun k_ => k_ ≠ gb238)) (bk_ HO_226001.out) hg hat)).2.1)))
                  have n8_ := Aside0.mk (ho)
                  clear HO_226001 BK222 BK225 BK238 HI223 HB HR248 HR261 HO244
                  have HO_226001 := n0_
                  have BK222 := n1_
                  have BK225 := n2_
                  have BK238 := n3_
                  have HI223 := n4_
                  have HB := n5_
                  have HR248 := n6_
                  have HR261 := n7_
                  have HO251 := n8_
                  clear n0_ n1_ n2_ n3_ n4_ n5_ n6_ n7_ n8_
                  clear ho hb hg hat
                  refine hK.out _ _ ⟨(blk_cell BK225.out 0).trans rfl, (blk_cell BK225.out 1).trans rfl, (blk_cell BK238.out 0).trans rfl, (blk_cell BK238.out 1).trans rfl, (blk_cell BK238.out 2).trans rfl, (blk_cell BK238.out 3).trans rfl, (blk_cell BK238.out 4).trans rfl, (blk_cell BK238.out 5).trans rfl, (blk_cell BK238.out 6).trans rfl, (blk_cell BK238.out 7).trans rfl, (blk_cell BK238.out 8).trans rfl⟩ (fun hHeld => ?_)
                  clear hK K
                  refine norm_ (a' := ?_) ?_ ?_
                  rotate_left; (· show Act.put _ (some 70) _ = _; simp only [Act.put,sA_,sB_,sC_,i64_w,i32_w]; rfl)
                  refine one_ (i := 7) (N := some 72) (bo_ 16 7935) rfl rfl (one_of HT_.out (by kernel_rfl)) (by decide) (fun K hK => ?_)
                  refine Kd.R_lit_step k35 _ 35 ?hg (N := 72) ?hd (xs := ([(⟨t228, t229, t230, t231, t232, t233, t234, t235, t236⟩ : S35)] : List (S35))) (inner := [.string t228, .string t229, .int .u64 t230, .int .i64 t231, .int .i64 t232, .int .i64 t233, .int .i64 t234, .int .i64 t235, .int .i64 t236]) (ok := fun _ => True) (okp := fun _ => True) ?hr ?hp (fun _ hk => hk) trivial (Below.refl _ _) (Nat.le_refl _) (by simp) ?_; (case hd => rfl); (case hg => rfl); (case hr => first | (go_simp; done) | (go_simp; rfl)); (case hp => exact (Reps.c9 (show Kd.M k35 _ _ _ (⟨t228, t229, t230, t231, t232, t233, t234, t235, t236⟩ : S35) [.string t228, .string t229, .int .u64 t230, .int .i64 t231, .int .i64 t232, .int .i64 t233, .int .i64 t234, .int .i64 t235, .int .i64 t236] from (k35_mkM _ _ _ (⟨t228, t229, t230, t231, t232, t233, t234, t235, t236⟩ : S35) )) (Reps.none _ _)))
                  intro v253 w56 ho57 hb hg_ hnew_
                  clear hg_ hnew_
                  (first | rw [← Ny252.out] at ho57 | (simp only [Int.reduceToNat] at ho57; rw [← Ny252.out] at ho57))
                  have n0_ := Aside0.mk (Kd.R_elder' (bk_ HO_226001.out) (Kd.R_base ho57) hb)
                  have n1_ := Aside0.mk (Kd.R_elder' (bk_ HO251.out) (Kd.R_base ho57) hb)
                  have n2_ := Aside0.mk (Kd.R_lower (Kd.R_newB (Kd.R_new' (Kd.R_new' ho57 (Kd.R_lt (bk_ HO_226001.out))) (Kd.R_lt (bk_ HO251.out))) (g := gb238) (o := .cells #[.string t228, .string t229, .int .u64 t230, .int .i64 t231, .int .i64 t232, .int .i64 t233, .int .i64 t234, .int .i64 t235, .int .i64 t236] 35 (0, 0)) (bk_ BK238.out)) (below_size (by repeat (first | (with_reducible first | exact HB.out | apply bA_ | apply bN_ | apply bD_ | refine bS_ ?_ (IsS52.ge HI223.out) | refine bS_ ?_ GE222.out | refine bS_ ?_ GE225.out | refine bS_ ?_ GE238.out) | exact HB.out))))
                  have n3_ := Aside0.mk (blk_below (g := gb222) (o := .cells #[.string (⟨#[]⟩ : ByteArray), .slice none 0 0] 24 (0, 0)) (bk_ BK222.out) hb)
                  have n4_ := Aside0.mk (blk_below (g := gb225) (o := .cells #[.string t224, .slice Ao51 x226001_1.length co51] 24 (0, 0)) (bk_ BK225.out) hb)
                  have n5_ := Aside0.mk (blk_below (g := gb238) (o := .cells #[.string t228, .string t229, .int .u64 t230, .int .i64 t231, .int .i64 t232, .int .i64 t233, .int .i64 t234, .int .i64 t235, .int .i64 t236] 35 (0, 0)) (bk_ BK238.out) hb)
                  have n6_ := Aside0.mk (IsS52.below (by repeat (first | (with_reducible first | exact HI223.out | apply IsS52.alloc | apply IsS52.drewN | apply IsS52.drew | apply IsS52.set_1 | refine IsS52.far ?_ NB223_222.out _ | refine IsS52.far ?_ NB223_225.out _ | refine IsS52.far ?_ NB223_238.out _) | exact HI223.out)) hb)
                  have n7_ := Aside0.mk (Kd.C_below (by first | (with_reducible exact HR248.out) | (with_reducible exact Kd.C_drewN HR248.out _) | (with_reducible exact Kd.C_drew HR248.out) | repeat (first | (with_reducible exact HR248.out) | (with_reducible refine Kd.C_alloc ?_ _) | (with_reducible refine Kd.C_drewN ?_ _) | (with_reducible refine Kd.C_drew ?_) | exact HR248.out)) hb)
                  have n8_ := Aside0.mk (Kd.C_below (by first | (with_reducible exact HR261.out) | (with_reducible exact Kd.C_drewN HR261.out _) | (with_reducible exact Kd.C_drew HR261.out) | repeat (first | (with_reducible exact HR261.out) | (with_reducible refine Kd.C_alloc ?_ _) | (with_reducible refine Kd.C_drewN ?_ _) | (with_reducible refine Kd.C_drew ?_) | exact HR261.out)) hb)
                  have n9_ := Aside0.mk (below_step (by repeat (first | (with_reducible first | exact HB.out | apply bA_ | apply bN_ | apply bD_ | refine bS_ ?_ (IsS52.ge HI223.out) | refine bS_ ?_ GE222.out | refine bS_ ?_ GE225.out | refine bS_ ?_ GE238.out) | exact HB.out)) hb)
                  clear HO_226001 HO251 BK222 BK225 BK238 HI223 HR248 HR261 HB
                  have HO_226001 := n0_
                  have HO251 := n1_
                  have HO254 := n2_
                  have BK222 := n3_
                  have BK225 := n4_
                  have BK238 := n5_
                  have HI223 := n6_
                  have HR248 := n7_
                  have HR261 := n8_
                  have HB := n9_
                  clear n0_ n1_ n2_ n3_ n4_ n5_ n6_ n7_ n8_ n9_
                  clear hb ho57
                  refine hK.out _ _ ⟨(blk_cell BK225.out 0).trans rfl, (blk_cell BK225.out 1).trans rfl, (blk_cell BK238.out 0).trans rfl, (blk_cell BK238.out 1).trans rfl, (blk_cell BK238.out 2).trans rfl, (blk_cell BK238.out 3).trans rfl, (blk_cell BK238.out 4).trans rfl, (blk_cell BK238.out 5).trans rfl, (blk_cell BK238.out 6).trans rfl, (blk_cell BK238.out 7).trans rfl, (blk_cell BK238.out 8).trans rfl⟩ (fun hHeld => ?_)
                  clear hK K
                  refine norm_ (a' := ?_) ?_ ?_
                  rotate_left; (· show Act.put _ (some 72) _ = _; simp only [Act.put,sA_,sB_,sC_,i64_w,i32_w]; rfl)
                  exact norm_ (by simp only [putAll, Act.put, sA_, sB_, sC_]) (hCont (v243, v250, v253) _ ⟨hHeld, (by refine bk_ ?_; exact Kd.R_mono HO251.out (fun _ hk => ⟨hk.2, ⟨hk.1.1, hk.1.2⟩⟩)), (by refine bk_ ?_; exact Kd.R_mono HO254.out (fun _ hk => ⟨hk.1.2, ⟨hk.1.1.2, hk.2⟩⟩)), (by refine bk_ ?_; exact Kd.R_mono HO_226001.out (fun _ hk => ⟨hk.1.2, ⟨hk.2, hk.1.1⟩⟩)), (bk_ BK222.out), (bk_ BK225.out), (bk_ BK238.out), (by repeat (first | (with_reducible first | exact HI223.out | apply IsS52.alloc | apply IsS52.drewN | apply IsS52.drew | apply IsS52.set_1 | refine IsS52.far ?_ NB223_222.out _ | refine IsS52.far ?_ NB223_225.out _ | refine IsS52.far ?_ NB223_238.out _) | exact HI223.out)), (by first | (with_reducible exact HR248.out) | (with_reducible exact Kd.C_drewN HR248.out _) | (with_reducible exact Kd.C_drew HR248.out) | repeat (first | (with_reducible exact HR248.out) | (with_reducible refine Kd.C_alloc ?_ _) | (with_reducible refine Kd.C_drewN ?_ _) | (with_reducible refine Kd.C_drew ?_) | exact HR248.out)), (by first | (with_reducible exact HR261.out) | (with_reducible exact Kd.C_drewN HR261.out _) | (with_reducible exact Kd.C_drew HR261.out) | repeat (first | (with_reducible exact HR261.out) | (with_reducible refine Kd.C_alloc ?_ _) | (with_reducible refine Kd.C_drewN ?_ _) | (with_reducible refine Kd.C_drew ?_) | exact HR261.out)), (by repeat (first | (with_reducible first | exact HB.out | apply bA_ | apply bN_ | apply bD_ | refine bS_ ?_ (IsS52.ge HI223.out) | refine bS_ ?_ GE222.out | refine bS_ ?_ GE225.out | refine bS_ ?_ GE238.out) | exact HB.out))⟩)
                 skip
                 refine Kd.R_lit_step k35 _ 35 ?hg (N := 72) ?hd (xs := ([(⟨t228, t229, t230, t231, t232, t233, t234, t235, t236⟩ : S35)] : List (S35))) (inner := [.string t228, .string t229, .int .u64 t230, .int .i64 t231, .int .i64 t232, .int .i64 t233, .int .i64 t234, .int .i64 t235, .int .i64 t236]) (ok := fun _ => True) (okp := fun _ => True) ?hr ?hp (fun _ hk => hk) trivial (Below.refl _ _) (Nat.le_refl _) (by simp) ?_; (case hd => rfl); (case hg => rfl); (case hr => first | (go_simp; done) | (go_simp; rfl)); (case hp => exact (Reps.c9 (show Kd.M k35 _ _ _ (⟨t228, t229, t230, t231, t232, t233, t234, t235, t236⟩ : S35) [.string t228, .string t229, .int .u64 t230, .int .i64 t231, .int .i64 t232, .int .i64 t233, .int .i64 t234, .int .i64 t235, .int .i64 t236] from (k35_mkM _ _ _ (⟨t228, t229, t230, t231, t232, t233, t234, t235, t236⟩ : S35) )) (Reps.none _ _)))
                 intro v253 w55 ho56 hb hg_ hnew_
                 clear hg_ hnew_
                 (first | rw [← Ny252.out] at ho56 | (simp only [Int.reduceToNat] at ho56; rw [← Ny252.out] at ho56))
                 have n0_ := Aside0.mk (Kd.R_elder' (bk_ HO_226001.out) (Kd.R_base ho56) hb)
                 have n1_ := Aside0.mk (Kd.R_elder' (bk_ HO244.out) (Kd.R_base ho56) hb)
                 have n2_ := Aside0.mk (Kd.R_lower (Kd.R_newB (Kd.R_new' (Kd.R_new' ho56 (Kd.R_lt (bk_ HO_226001.out))) (Kd.R_lt (bk_ HO244.out))) (g := gb238) (o := .cells #[.string t228, .string t229, .int .u64 t230, .int .i64 t231, .int .i64 t232, .int .i64 t233, .int .i64 t234, .int .i64 t235, .int .i64 t236] 35 (0, 0)) (bk_ BK238.out)) (below_size (by repeat (first | (with_reducible first | exact HB.out | apply bA_ | apply bN_ | apply bD_ | refine bS_ ?_ (IsS52.ge HI223.out) | refine bS_ ?_ GE222.out | refine bS_ ?_ GE225.out | refine bS_ ?_ GE238.out) | exact HB.out))))
                 have n3_ := Aside0.mk (blk_below (g := gb222) (o := .cells #[.string (⟨#[]⟩ : ByteArray), .slice none 0 0] 24 (0, 0)) (bk_ BK222.out) hb)
                 have n4_ := Aside0.mk (blk_below (g := gb225) (o := .cells #[.string t224, .slice Ao51 x226001_1.length co51] 24 (0, 0)) (bk_ BK225.out) hb)
                 have n5_ := Aside0.mk (blk_below (g := gb238) (o := .cells #[.string t228, .string t229, .int .u64 t230, .int .i64 t231, .int .i64 t232, .int .i64 t233, .int .i64 t234, .int .i64 t235, .int .i64 t236] 35 (0, 0)) (bk_ BK238.out) hb)
                 have n6_ := Aside0.mk (IsS52.below (by repeat (first | (with_reducible first | exact HI223.out | apply IsS52.alloc | apply IsS52.drewN | apply IsS52.drew | apply IsS52.set_1 | refine IsS52.far ?_ NB223_222.out _ | refine IsS52.far ?_ NB223_225.out _ | refine IsS52.far ?_ NB223_238.out _) | exact HI223.out)) hb)
                 have n7_ := Aside0.mk (Kd.C_below (by first | (with_reducible exact HR248.out) | (with_reducible exact Kd.C_drewN HR248.out _) | (with_reducible exact Kd.C_drew HR248.out) | repeat (first | (with_reducible exact HR248.out) | (with_reducible refine Kd.C_alloc ?_ _) | (with_reducible refine Kd.C_drewN ?_ _) | (with_reducible refine Kd.C_drew ?_) | exact HR248.out)) hb)
                 have n8_ := Aside0.mk (Kd.C_below (by first | (with_reducible exact HR261.out) | (with_reducible exact Kd.C_drewN HR261.out _) | (with_reducible exact Kd.C_drew HR261.out) | repeat (first | (with_reducible exact HR261.out) | (with_reducible refine Kd.C_alloc ?_ _) | (with_reducible refine Kd.C_drewN ?_ _) | (with_reducible refine Kd.C_drew ?_) | exact HR261.out)) hb)
                 have n9_ := Aside0.mk (below_step (by repeat (first | (with_reducible first | exact HB.out | apply bA_ | apply bN_ | apply bD_ | refine bS_ ?_ (IsS52.ge HI223.out) | refine bS_ ?_ GE222.out | refine bS_ ?_ GE225.out | refine bS_ ?_ GE238.out) | exact HB.out)) hb)
                 clear HO_226001 HO244 BK222 BK225 BK238 HI223 HR248 HR261 HB
                 have HO_226001 := n0_
                 have HO244 := n1_
                 have HO254 := n2_
                 have BK222 := n3_
                 have BK225 := n4_
                 have BK238 := n5_
                 have HI223 := n6_
                 have HR248 := n7_
                 have HR261 := n8_
                 have HB := n9_
                 clear n0_ n1_ n2_ n3_ n4_ n5_ n6_ n7_ n8_ n9_
                 clear hb ho56
                 refine hK.out _ _ ⟨(blk_cell BK225.out 0).trans rfl, (blk_cell BK225.out 1).trans rfl, (blk_cell BK238.out 0).trans rfl, (blk_cell BK238.out 1).trans rfl, (blk_cell BK238.out 2).trans rfl, (blk_cell BK238.out 3).trans rfl, (blk_cell BK238.out 4).trans rfl, (blk_cell BK238.out 5).trans rfl, (blk_cell BK238.out 6).trans rfl, (blk_cell BK238.out 7).trans rfl, (blk_cell BK238.out 8).trans rfl⟩ (fun hHeld => ?_)
                 clear hK K
                 refine norm_ (a' := ?_) ?_ ?_
                 rotate_left; (· show Act.put _ (some 72) _ = _; simp only [Act.put,sA_,sB_,sC_,i64_w,i32_w]; rfl)
                 refine one_ (i := 5) (N := some 70) (bo_ 16 7935) rfl rfl (one_of HT_.out (by kernel_rfl)) (by decide) (fun K hK => ?_)
                 refine Kd.R_append_rows_step k35 (w0 := w) w.heap.size (by rfl) (.tmp 65) (.tmp 69) 22 35 (.agg #[(.string ⟨#[]⟩), (.string ⟨#[]⟩), (.int .u64 0), (.int .i64 0), (.int .i64 0), (.int .i64 0), (.int .i64 0), (.int .i64 0), (.int .i64 0)]) 88 rfl Tryd.underlying22 info35 rfl (by decide) (by omega) v243 y242 y245 _ _ _ (fun k_ => some k_ ≠ (.slice Ao51 x226001_1.length co51 : Value).ownBlock ∧ some k_ ≠ (v253 : Value).ownBlock ∧ k_ ≠ gb238) (fun _ => False) rfl rfl ?aO ?aR (fun _ _ h => h) (fun _ h => h.elim) ?aF ?aB ?aS ?aL ?_
                 (case aR => repeat (first | exact (by first | (with_reducible exact HR248.out) | (with_reducible exact Kd.C_drewN HR248.out _) | (with_reducible exact Kd.C_drew HR248.out) | repeat (first | (with_reducible exact HR248.out) | (with_reducible refine Kd.C_alloc ?_ _) | (with_reducible refine Kd.C_drewN ?_ _) | (with_reducible refine Kd.C_drew ?_) | exact HR248.out)) | (with_reducible refine Kd.C_alloc ?_ _) | (with_reducible refine Kd.C_drewN ?_ _) | (with_reducible refine Kd.C_drew ?_)))
                 (case aB => exact (by repeat (first | (with_reducible first | exact HB.out | apply bA_ | apply bN_ | apply bD_ | refine bS_ ?_ (IsS52.ge HI223.out) | refine bS_ ?_ GE222.out | refine bS_ ?_ GE225.out | refine bS_ ?_ GE238.out) | exact HB.out)))
                 (case aF => exact (fun k_ hk => ⟨Kd.fresh' (Kd.R_lt (bk_ HO_226001.out)) k_ hk, Kd.fresh' (Kd.R_lt (bk_ HO254.out)) k_ hk, Kd.freshB (g := gb238) (o := .cells #[.string t228, .string t229, .int .u64 t230, .int .i64 t231, .int .i64 t232, .int .i64 t233, .int .i64 t234, .int .i64 t235, .int .i64 t236] 35 (0, 0)) (bk_ BK238.out) k_ hk⟩))
                 (case aO => exact (by refine bk_ ?_; exact Kd.R_mono HO244.out (fun _ hk => ⟨hk.1.1.2, ⟨hk.2, hk.1.2⟩⟩)))
                 (case aS => exact (below_size (by repeat (first | (with_reducible first | exact HB.out | apply bA_ | apply bN_ | apply bD_ | refine bS_ ?_ (IsS52.ge HI223.out) | refine bS_ ?_ GE222.out | refine bS_ ?_ GE225.out | refine bS_ ?_ GE238.out) | exact HB.out))))
                 (case aL => have := LMc44.out; omega)
                 intro v250 w57 ho hb hg hat
                 rw [← Ny249.out] at ho
                 have n0_ := Aside0.mk (Kd.R_after (ok := (fun k_ => some k_ ≠ (v253 : Value).ownBlock ∧ k_ ≠ gb238)) (by refine bk_ ?_; exact Kd.R_mono HO_226001.out (fun _ hk => ⟨⟨hk.2, hk.1.1⟩, hk.1.2⟩)) hg hat)
                 have n1_ := Aside0.mk (blk_grown (g := gb222) (o := .cells #[.string (⟨#[]⟩ : ByteArray), .slice none 0 0] 24 (0, 0)) (bk_ BK222.out) hg (Kd.R_ne HO244.out BK222.out (by decide)))
                 have n2_ := Aside0.mk (blk_grown (g := gb225) (o := .cells #[.string t224, .slice Ao51 x226001_1.length co51] 24 (0, 0)) (bk_ BK225.out) hg (Kd.R_ne HO244.out BK225.out (by decide)))
                 have n3_ := Aside0.mk (blk_grown (g := gb238) (o := .cells #[.string t228, .string t229, .int .u64 t230, .int .i64 t231, .int .i64 t232, .int .i64 t233, .int .i64 t234, .int .i64 t235, .int .i64 t236] 35 (0, 0)) (bk_ BK238.out) hg (Kd.R_away HO244.out (fun _ hk => hk.1.2)))
                 have n4_ := Aside0.mk (IsS52.grown (by repeat (first | (with_reducible first | exact HI223.out | apply IsS52.alloc | apply IsS52.drewN | apply IsS52.drew | apply IsS52.set_1 | refine IsS52.far ?_ NB223_222.out _ | refine IsS52.far ?_ NB223_225.out _ | refine IsS52.far ?_ NB223_238.out _) | exact HI223.out)) hg (IsS52.own_ne HI223.out HO244.out (by decide)))
                 have n5_ := Aside0.mk (Kd.R_after (ok := (fun k_ => some k_ ≠ (.slice Ao51 x226001_1.length co51 : Value).ownBlock ∧ k_ ≠ gb238)) (by refine bk_ ?_; exact Kd.R_mono HO254.out (fun _ hk => ⟨⟨hk.1.1.2, hk.2⟩, hk.1.2⟩)) hg hat)
                 have n6_ := Aside0.mk (hb)
                 have n7_ := Aside0.mk ((show Kd.C k35 w57 Ao51 y245.length y245 from by rw [Ny245.out]; exact Kd.C_take (m := (x8_3 : Int).toNat) ((Kd.R_reads' (Kd.R_after (ok := (fun k_ => some k_ ≠ (v253 : Value).ownBlock ∧ k_ ≠ gb238)) (by refine bk_ ?_; exact Kd.R_mono HO_226001.out (fun _ hk => ⟨⟨hk.2, hk.1.1⟩, hk.1.2⟩)) hg hat)).2.2) KL50.out))
                 have n8_ := Aside0.mk ((show Kd.C k35 w57 A52 y258.length y258 from by rw [Ny258.out, KA52.out]; exact Kd.C_drop (m := (x8_3 : Int).toNat) (c := co51) ((Kd.R_reads' (Kd.R_after (ok := (fun k_ => some k_ ≠ (v253 : Value).ownBlock ∧ k_ ≠ gb238)) (by refine bk_ ?_; exact Kd.R_mono HO_226001.out (fun _ hk => ⟨⟨hk.2, hk.1.1⟩, hk.1.2⟩)) hg hat)).2.2) KL52.out ((Kd.R_reads' (Kd.R_after (ok := (fun k_ => some k_ ≠ (v253 : Value).ownBlock ∧ k_ ≠ gb238)) (by refine bk_ ?_; exact Kd.R_mono HO_226001.out (fun _ hk => ⟨⟨hk.2, hk.1.1⟩, hk.1.2⟩)) hg hat)).2.1)))
                 have n9_ := Aside0.mk (ho)
                 clear HO_226001 BK222 BK225 BK238 HI223 HO254 HB HR248 HR261 HO244
                 have HO_226001 := n0_
                 have BK222 := n1_
                 have BK225 := n2_
                 have BK238 := n3_
                 have HI223 := n4_
                 have HO254 := n5_
                 have HB := n6_
                 have HR248 := n7_
                 have HR261 := n8_
                 have HO251 := n9_
                 clear n0_ n1_ n2_ n3_ n4_ n5_ n6_ n7_ n8_ n9_
                 clear ho hb hg hat
                 refine hK.out _ _ ⟨(blk_cell BK225.out 0).trans rfl, (blk_cell BK225.out 1).trans rfl, (blk_cell BK238.out 0).trans rfl, (blk_cell BK238.out 1).trans rfl, (blk_cell BK238.out 2).trans rfl, (blk_cell BK238.out 3).trans rfl, (blk_cell BK238.out 4).trans rfl, (blk_cell BK238.out 5).trans rfl, (blk_cell BK238.out 6).trans rfl, (blk_cell BK238.out 7).trans rfl, (blk_cell BK238.out 8).trans rfl⟩ (fun hHeld => ?_)
                 clear hK K
                 refine norm_ (a' := ?_) ?_ ?_
                 rotate_left; (· show Act.put _ (some 70) _ = _; simp only [Act.put,sA_,sB_,sC_,i64_w,i32_w]; rfl)
                 exact norm_ (by simp only [putAll, Act.put, sA_, sB_, sC_]) (hCont (v243, v250, v253) _ ⟨hHeld, (by refine bk_ ?_; exact Kd.R_mono HO251.out (fun _ hk => ⟨hk.2.1, ⟨hk.1, hk.2.2⟩⟩)), (by refine bk_ ?_; exact Kd.R_mono HO254.out (fun _ hk => ⟨hk.2, ⟨hk.1.1, hk.1.2⟩⟩)), (by refine bk_ ?_; exact Kd.R_mono HO_226001.out (fun _ hk => ⟨hk.2, ⟨hk.1.1, hk.1.2⟩⟩)), (bk_ BK222.out), (bk_ BK225.out), (bk_ BK238.out), (by repeat (first | (with_reducible first | exact HI223.out | apply IsS52.alloc | apply IsS52.drewN | apply IsS52.drew | apply IsS52.set_1 | refine IsS52.far ?_ NB223_222.out _ | refine IsS52.far ?_ NB223_225.out _ | refine IsS52.far ?_ NB223_238.out _) | exact HI223.out)), (by first | (with_reducible exact HR248.out) | (with_reducible exact Kd.C_drewN HR248.out _) | (with_reducible exact Kd.C_drew HR248.out) | repeat (first | (with_reducible exact HR248.out) | (with_reducible refine Kd.C_alloc ?_ _) | (with_reducible refine Kd.C_drewN ?_ _) | (with_reducible refine Kd.C_drew ?_) | exact HR248.out)), (by first | (with_reducible exact HR261.out) | (with_reducible exact Kd.C_drewN HR261.out _) | (with_reducible exact Kd.C_drew HR261.out) | repeat (first | (with_reducible exact HR261.out) | (with_reducible refine Kd.C_alloc ?_ _) | (with_reducible refine Kd.C_drewN ?_ _) | (with_reducible refine Kd.C_drew ?_) | exact HR261.out)), (by repeat (first | (with_reducible first | exact HB.out | apply bA_ | apply bN_ | apply bD_ | refine bS_ ?_ (IsS52.ge HI223.out) | refine bS_ ?_ GE222.out | refine bS_ ?_ GE225.out | refine bS_ ?_ GE238.out) | exact HB.out))⟩)
                skip
                refine Kd.R_lit_step k35 _ 35 ?hg (N := 72) ?hd (xs := ([(⟨t228, t229, t230, t231, t232, t233, t234, t235, t236⟩ : S35)] : List (S35))) (inner := [.string t228, .string t229, .int .u64 t230, .int .i64 t231, .int .i64 t232, .int .i64 t233, .int .i64 t234, .int .i64 t235, .int .i64 t236]) (ok := fun _ => True) (okp := fun _ => True) ?hr ?hp (fun _ hk => hk) trivial (Below.refl _ _) (Nat.le_refl _) (by simp) ?_; (case hd => rfl); (case hg => rfl); (case hr => first | (go_simp; done) | (go_simp; rfl)); (case hp => exact (Reps.c9 (show Kd.M k35 _ _ _ (⟨t228, t229, t230, t231, t232, t233, t234, t235, t236⟩ : S35) [.string t228, .string t229, .int .u64 t230, .int .i64 t231, .int .i64 t232, .int .i64 t233, .int .i64 t234, .int .i64 t235, .int .i64 t236] from (k35_mkM _ _ _ (⟨t228, t229, t230, t231, t232, t233, t234, t235, t236⟩ : S35) )) (Reps.none _ _)))
                intro v253 w53 ho54 hb hg_ hnew_
                clear hg_ hnew_
                (first | rw [← Ny252.out] at ho54 | (simp only [Int.reduceToNat] at ho54; rw [← Ny252.out] at ho54))
                have n0_ := Aside0.mk (Kd.R_elder' (bk_ HO_226001.out) (Kd.R_base ho54) hb)
                have n1_ := Aside0.mk (Kd.R_lower (Kd.R_newB (Kd.R_new' ho54 (Kd.R_lt (bk_ HO_226001.out))) (g := gb238) (o := .cells #[.string t228, .string t229, .int .u64 t230, .int .i64 t231, .int .i64 t232, .int .i64 t233, .int .i64 t234, .int .i64 t235, .int .i64 t236] 35 (0, 0)) (bk_ BK238.out)) (below_size (by repeat (first | (with_reducible first | exact HB.out | apply bA_ | apply bN_ | apply bD_ | refine bS_ ?_ (IsS52.ge HI223.out) | refine bS_ ?_ GE222.out | refine bS_ ?_ GE225.out | refine bS_ ?_ GE238.out) | exact HB.out))))
                have n2_ := Aside0.mk (blk_below (g := gb222) (o := .cells #[.string (⟨#[]⟩ : ByteArray), .slice none 0 0] 24 (0, 0)) (bk_ BK222.out) hb)
                have n3_ := Aside0.mk (blk_below (g := gb225) (o := .cells #[.string t224, .slice Ao51 x226001_1.length co51] 24 (0, 0)) (bk_ BK225.out) hb)
                have n4_ := Aside0.mk (blk_below (g := gb238) (o := .cells #[.string t228, .string t229, .int .u64 t230, .int .i64 t231, .int .i64 t232, .int .i64 t233, .int .i64 t234, .int .i64 t235, .int .i64 t236] 35 (0, 0)) (bk_ BK238.out) hb)
                have n5_ := Aside0.mk (IsS52.below (by repeat (first | (with_reducible first | exact HI223.out | apply IsS52.alloc | apply IsS52.drewN | apply IsS52.drew | apply IsS52.set_1 | refine IsS52.far ?_ NB223_222.out _ | refine IsS52.far ?_ NB223_225.out _ | refine IsS52.far ?_ NB223_238.out _) | exact HI223.out)) hb)
                have n6_ := Aside0.mk (Kd.C_below (by first | (with_reducible exact HR248.out) | (with_reducible exact Kd.C_drewN HR248.out _) | (with_reducible exact Kd.C_drew HR248.out) | repeat (first | (with_reducible exact HR248.out) | (with_reducible refine Kd.C_alloc ?_ _) | (with_reducible refine Kd.C_drewN ?_ _) | (with_reducible refine Kd.C_drew ?_) | exact HR248.out)) hb)
                have n7_ := Aside0.mk (Kd.C_below (by first | (with_reducible exact HR261.out) | (with_reducible exact Kd.C_drewN HR261.out _) | (with_reducible exact Kd.C_drew HR261.out) | repeat (first | (with_reducible exact HR261.out) | (with_reducible refine Kd.C_alloc ?_ _) | (with_reducible refine Kd.C_drewN ?_ _) | (with_reducible refine Kd.C_drew ?_) | exact HR261.out)) hb)
                have n8_ := Aside0.mk (below_step (by repeat (first | (with_reducible first | exact HB.out | apply bA_ | apply bN_ | apply bD_ | refine bS_ ?_ (IsS52.ge HI223.out) | refine bS_ ?_ GE222.out | refine bS_ ?_ GE225.out | refine bS_ ?_ GE238.out) | exact HB.out)) hb)
                clear HO_226001 BK222 BK225 BK238 HI223 HR248 HR261 HB
                have HO_226001 := n0_
                have HO254 := n1_
                have BK222 := n2_
                have BK225 := n3_
                have BK238 := n4_
                have HI223 := n5_
                have HR248 := n6_
                have HR261 := n7_
                have HB := n8_
                clear n0_ n1_ n2_ n3_ n4_ n5_ n6_ n7_ n8_
                clear hb ho54
                refine hK.out _ _ ⟨(blk_cell BK225.out 0).trans rfl, (blk_cell BK225.out 1).trans rfl, (blk_cell BK238.out 0).trans rfl, (blk_cell BK238.out 1).trans rfl, (blk_cell BK238.out 2).trans rfl, (blk_cell BK238.out 3).trans rfl, (blk_cell BK238.out 4).trans rfl, (blk_cell BK238.out 5).trans rfl, (blk_cell BK238.out 6).trans rfl, (blk_cell BK238.out 7).trans rfl, (blk_cell BK238.out 8).trans rfl⟩ (fun hHeld => ?_)
                clear hK K
                refine norm_ (a' := ?_) ?_ ?_
                rotate_left; (· show Act.put _ (some 72) _ = _; simp only [Act.put,sA_,sB_,sC_,i64_w,i32_w]; rfl)
                refine one_ (i := 0) (N := some 65) (bo_ 16 7903) rfl rfl (one_of HT_.out (by kernel_rfl)) (by decide) (fun K hK => ?_)
                refine Kd.R_lit_step k35 _ 35 ?hg (N := 65) ?hd (xs := ([] : List (S35))) (inner := []) (ok := fun _ => True) (okp := fun _ => True) ?hr ?hp (fun _ hk => hk) trivial (Below.refl _ _) (Nat.le_refl _) (by simp) ?_; (case hd => rfl); (case hg => rfl); (case hr => first | (go_simp; done) | (go_simp; rfl)); (case hp => exact (Reps.none _ _))
                intro v243 w55 ho56 hb hg_ hnew_
                clear hg_ hnew_
                (first | rw [← Ny242.out] at ho56 | (simp only [Int.reduceToNat] at ho56; rw [← Ny242.out] at ho56))
                have n0_ := Aside0.mk (Kd.R_elder' (bk_ HO_226001.out) (Kd.R_base ho56) hb)
                have n1_ := Aside0.mk (Kd.R_elder' (bk_ HO254.out) (Kd.R_base ho56) hb)
                have n2_ := Aside0.mk (Kd.R_lower (Kd.R_newB (Kd.R_new' (Kd.R_new' ho56 (Kd.R_lt (bk_ HO_226001.out))) (Kd.R_lt (bk_ HO254.out))) (g := gb238) (o := .cells #[.string t228, .string t229, .int .u64 t230, .int .i64 t231, .int .i64 t232, .int .i64 t233, .int .i64 t234, .int .i64 t235, .int .i64 t236] 35 (0, 0)) (bk_ BK238.out)) (below_size (by repeat (first | (with_reducible first | exact HB.out | apply bA_ | apply bN_ | apply bD_ | refine bS_ ?_ (IsS52.ge HI223.out) | refine bS_ ?_ GE222.out | refine bS_ ?_ GE225.out | refine bS_ ?_ GE238.out) | exact HB.out))))
                have n3_ := Aside0.mk (blk_below (g := gb222) (o := .cells #[.string (⟨#[]⟩ : ByteArray), .slice none 0 0] 24 (0, 0)) (bk_ BK222.out) hb)
                have n4_ := Aside0.mk (blk_below (g := gb225) (o := .cells #[.string t224, .slice Ao51 x226001_1.length co51] 24 (0, 0)) (bk_ BK225.out) hb)
                have n5_ := Aside0.mk (blk_below (g := gb238) (o := .cells #[.string t228, .string t229, .int .u64 t230, .int .i64 t231, .int .i64 t232, .int .i64 t233, .int .i64 t234, .int .i64 t235, .int .i64 t236] 35 (0, 0)) (bk_ BK238.out) hb)
                have n6_ := Aside0.mk (IsS52.below (by repeat (first | (with_reducible first | exact HI223.out | apply IsS52.alloc | apply IsS52.drewN | apply IsS52.drew | apply IsS52.set_1 | refine IsS52.far ?_ NB223_222.out _ | refine IsS52.far ?_ NB223_225.out _ | refine IsS52.far ?_ NB223_238.out _) | exact HI223.out)) hb)
                have n7_ := Aside0.mk (Kd.C_below (by first | (with_reducible exact HR248.out) | (with_reducible exact Kd.C_drewN HR248.out _) | (with_reducible exact Kd.C_drew HR248.out) | repeat (first | (with_reducible exact HR248.out) | (with_reducible refine Kd.C_alloc ?_ _) | (with_reducible refine Kd.C_drewN ?_ _) | (with_reducible refine Kd.C_drew ?_) | exact HR248.out)) hb)
                have n8_ := Aside0.mk (Kd.C_below (by first | (with_reducible exact HR261.out) | (with_reducible exact Kd.C_drewN HR261.out _) | (with_reducible exact Kd.C_drew HR261.out) | repeat (first | (with_reducible exact HR261.out) | (with_reducible refine Kd.C_alloc ?_ _) | (with_reducible refine Kd.C_drewN ?_ _) | (with_reducible refine Kd.C_drew ?_) | exact HR261.out)) hb)
                have n9_ := Aside0.mk (below_step (by repeat (first | (with_reducible first | exact HB.out | apply bA_ | apply bN_ | apply bD_ | refine bS_ ?_ (IsS52.ge HI223.out) | refine bS_ ?_ GE222.out | refine bS_ ?_ GE225.out | refine bS_ ?_ GE238.out) | exact HB.out)) hb)
                clear HO_226001 HO254 BK222 BK225 BK238 HI223 HR248 HR261 HB
                have HO_226001 := n0_
                have HO254 := n1_
                have HO244 := n2_
                have BK222 := n3_
                have BK225 := n4_
                have BK238 := n5_
                have HI223 := n6_
                have HR248 := n7_
                have HR261 := n8_
                have HB := n9_
                clear n0_ n1_ n2_ n3_ n4_ n5_ n6_ n7_ n8_ n9_
                clear hb ho56
                refine hK.out _ _ ⟨(blk_cell BK225.out 0).trans rfl, (blk_cell BK225.out 1).trans rfl, (blk_cell BK238.out 0).trans rfl, (blk_cell BK238.out 1).trans rfl, (blk_cell BK238.out 2).trans rfl, (blk_cell BK238.out 3).trans rfl, (blk_cell BK238.out 4).trans rfl, (blk_cell BK238.out 5).trans rfl, (blk_cell BK238.out 6).trans rfl, (blk_cell BK238.out 7).trans rfl, (blk_cell BK238.out 8).trans rfl⟩ (fun hHeld => ?_)
                clear hK K
                refine norm_ (a' := ?_) ?_ ?_
                rotate_left; (· show Act.put _ (some 65) _ = _; simp only [Act.put,sA_,sB_,sC_,i64_w,i32_w]; rfl)
                refine one_ (i := 5) (N := some 70) (bo_ 16 7935) rfl rfl (one_of HT_.out (by kernel_rfl)) (by decide) (fun K hK => ?_)
                refine Kd.R_append_rows_step k35 (w0 := w) w.heap.size (by rfl) (.tmp 65) (.tmp 69) 22 35 (.agg #[(.string ⟨#[]⟩), (.string ⟨#[]⟩), (.int .u64 0), (.int .i64 0), (.int .i64 0), (.int .i64 0), (.int .i64 0), (.int .i64 0), (.int .i64 0)]) 88 rfl Tryd.underlying22 info35 rfl (by decide) (by omega) v243 y242 y245 _ _ _ (fun k_ => some k_ ≠ (.slice Ao51 x226001_1.length co51 : Value).ownBlock ∧ some k_ ≠ (v253 : Value).ownBlock ∧ k_ ≠ gb238) (fun _ => False) rfl rfl ?aO ?aR (fun _ _ h => h) (fun _ h => h.elim) ?aF ?aB ?aS ?aL ?_
                (case aR => repeat (first | exact (by first | (with_reducible exact HR248.out) | (with_reducible exact Kd.C_drewN HR248.out _) | (with_reducible exact Kd.C_drew HR248.out) | repeat (first | (with_reducible exact HR248.out) | (with_reducible refine Kd.C_alloc ?_ _) | (with_reducible refine Kd.C_drewN ?_ _) | (with_reducible refine Kd.C_drew ?_) | exact HR248.out)) | (with_reducible refine Kd.C_alloc ?_ _) | (with_reducible refine Kd.C_drewN ?_ _) | (with_reducible refine Kd.C_drew ?_)))
                (case aB => exact (by repeat (first | (with_reducible first | exact HB.out | apply bA_ | apply bN_ | apply bD_ | refine bS_ ?_ (IsS52.ge HI223.out) | refine bS_ ?_ GE222.out | refine bS_ ?_ GE225.out | refine bS_ ?_ GE238.out) | exact HB.out)))
                (case aF => exact (fun k_ hk => ⟨Kd.fresh' (Kd.R_lt (bk_ HO_226001.out)) k_ hk, Kd.fresh' (Kd.R_lt (bk_ HO254.out)) k_ hk, Kd.freshB (g := gb238) (o := .cells #[.string t228, .string t229, .int .u64 t230, .int .i64 t231, .int .i64 t232, .int .i64 t233, .int .i64 t234, .int .i64 t235, .int .i64 t236] 35 (0, 0)) (bk_ BK238.out) k_ hk⟩))
                (case aO => exact (by refine bk_ ?_; exact Kd.R_mono HO244.out (fun _ hk => ⟨hk.1.1.2, ⟨hk.1.2, hk.2⟩⟩)))
                (case aS => exact (below_size (by repeat (first | (with_reducible first | exact HB.out | apply bA_ | apply bN_ | apply bD_ | refine bS_ ?_ (IsS52.ge HI223.out) | refine bS_ ?_ GE222.out | refine bS_ ?_ GE225.out | refine bS_ ?_ GE238.out) | exact HB.out))))
                (case aL => have := LMc44.out; omega)
                intro v250 w57 ho hb hg hat
                rw [← Ny249.out] at ho
                have n0_ := Aside0.mk (Kd.R_after (ok := (fun k_ => some k_ ≠ (v253 : Value).ownBlock ∧ k_ ≠ gb238)) (by refine bk_ ?_; exact Kd.R_mono HO_226001.out (fun _ hk => ⟨⟨hk.1.2, hk.1.1⟩, hk.2⟩)) hg hat)
                have n1_ := Aside0.mk (blk_grown (g := gb222) (o := .cells #[.string (⟨#[]⟩ : ByteArray), .slice none 0 0] 24 (0, 0)) (bk_ BK222.out) hg (Kd.R_ne HO244.out BK222.out (by decide)))
                have n2_ := Aside0.mk (blk_grown (g := gb225) (o := .cells #[.string t224, .slice Ao51 x226001_1.length co51] 24 (0, 0)) (bk_ BK225.out) hg (Kd.R_ne HO244.out BK225.out (by decide)))
                have n3_ := Aside0.mk (blk_grown (g := gb238) (o := .cells #[.string t228, .string t229, .int .u64 t230, .int .i64 t231, .int .i64 t232, .int .i64 t233, .int .i64 t234, .int .i64 t235, .int .i64 t236] 35 (0, 0)) (bk_ BK238.out) hg (Kd.R_away HO244.out (fun _ hk => hk.2)))
                have n4_ := Aside0.mk (IsS52.grown (by repeat (first | (with_reducible first | exact HI223.out | apply IsS52.alloc | apply IsS52.drewN | apply IsS52.drew | apply IsS52.set_1 | refine IsS52.far ?_ NB223_222.out _ | refine IsS52.far ?_ NB223_225.out _ | refine IsS52.far ?_ NB223_238.out _) | exact HI223.out)) hg (IsS52.own_ne HI223.out HO244.out (by decide)))
                have n5_ := Aside0.mk (Kd.R_after (ok := (fun k_ => some k_ ≠ (.slice Ao51 x226001_1.length co51 : Value).ownBlock ∧ k_ ≠ gb238)) (by refine bk_ ?_; exact Kd.R_mono HO254.out (fun _ hk => ⟨⟨hk.1.1.2, hk.1.2⟩, hk.2⟩)) hg hat)
                have n6_ := Aside0.mk (hb)
                have n7_ := Aside0.mk ((show Kd.C k35 w57 Ao51 y245.length y245 from by rw [Ny245.out]; exact Kd.C_take (m := (x8_3 : Int).toNat) ((Kd.R_reads' (Kd.R_after (ok := (fun k_ => some k_ ≠ (v253 : Value).ownBlock ∧ k_ ≠ gb238)) (by refine bk_ ?_; exact Kd.R_mono HO_226001.out (fun _ hk => ⟨⟨hk.1.2, hk.1.1⟩, hk.2⟩)) hg hat)).2.2) KL50.out))
                have n8_ := Aside0.mk ((show Kd.C k35 w57 A52 y258.length y258 from by rw [Ny258.out, KA52.out]; exact Kd.C_drop (m := (x8_3 : Int).toNat) (c := co51) ((Kd.R_reads' (Kd.R_after (ok := (fun k_ => some k_ ≠ (v253 : Value).ownBlock ∧ k_ ≠ gb238)) (by refine bk_ ?_; exact Kd.R_mono HO_226001.out (fun _ hk => ⟨⟨hk.1.2, hk.1.1⟩, hk.2⟩)) hg hat)).2.2) KL52.out ((Kd.R_reads' (Kd.R_after (ok := (fun k_ => some k_ ≠ (v253 : Value).ownBlock ∧ k_ ≠ gb238)) (by refine bk_ ?_; exact Kd.R_mono HO_226001.out (fun _ hk => ⟨⟨hk.1.2, hk.1.1⟩, hk.2⟩)) hg hat)).2.1)))
                have n9_ := Aside0.mk (ho)
                clear HO_226001 BK222 BK225 BK238 HI223 HO254 HB HR248 HR261 HO244
                have HO_226001 := n0_
                have BK222 := n1_
                have BK225 := n2_
                have BK238 := n3_
                have HI223 := n4_
                have HO254 := n5_
                have HB := n6_
                have HR248 := n7_
                have HR261 := n8_
                have HO251 := n9_
                clear n0_ n1_ n2_ n3_ n4_ n5_ n6_ n7_ n8_ n9_
                clear ho hb hg hat
                refine hK.out _ _ ⟨(blk_cell BK225.out 0).trans rfl, (blk_cell BK225.out 1).trans rfl, (blk_cell BK238.out 0).trans rfl, (blk_cell BK238.out 1).trans rfl, (blk_cell BK238.out 2).trans rfl, (blk_cell BK238.out 3).trans rfl, (blk_cell BK238.out 4).trans rfl, (blk_cell BK238.out 5).trans rfl, (blk_cell BK238.out 6).trans rfl, (blk_cell BK238.out 7).trans rfl, (blk_cell BK238.out 8).trans rfl⟩ (fun hHeld => ?_)
                clear hK K
                refine norm_ (a' := ?_) ?_ ?_
                rotate_left; (· show Act.put _ (some 70) _ = _; simp only [Act.put,sA_,sB_,sC_,i64_w,i32_w]; rfl)
                exact norm_ (by simp only [putAll, Act.put, sA_, sB_, sC_]) (hCont (v243, v250, v253) _ ⟨hHeld, (by refine bk_ ?_; exact Kd.R_mono HO251.out (fun _ hk => ⟨hk.2.1, ⟨hk.1, hk.2.2⟩⟩)), (by refine bk_ ?_; exact Kd.R_mono HO254.out (fun _ hk => ⟨hk.2, ⟨hk.1.1, hk.1.2⟩⟩)), (by refine bk_ ?_; exact Kd.R_mono HO_226001.out (fun _ hk => ⟨hk.2, ⟨hk.1.1, hk.1.2⟩⟩)), (bk_ BK222.out), (bk_ BK225.out), (bk_ BK238.out), (by repeat (first | (with_reducible first | exact HI223.out | apply IsS52.alloc | apply IsS52.drewN | apply IsS52.drew | apply IsS52.set_1 | refine IsS52.far ?_ NB223_222.out _ | refine IsS52.far ?_ NB223_225.out _ | refine IsS52.far ?_ NB223_238.out _) | exact HI223.out)), (by first | (with_reducible exact HR248.out) | (with_reducible exact Kd.C_drewN HR248.out _) | (with_reducible exact Kd.C_drew HR248.out) | repeat (first | (with_reducible exact HR248.out) | (with_reducible refine Kd.C_alloc ?_ _) | (with_reducible refine Kd.C_drewN ?_ _) | (with_reducible refine Kd.C_drew ?_) | exact HR248.out)), (by first | (with_reducible exact HR261.out) | (with_reducible exact Kd.C_drewN HR261.out _) | (with_reducible exact Kd.C_drew HR261.out) | repeat (first | (with_reducible exact HR261.out) | (with_reducible refine Kd.C_alloc ?_ _) | (with_reducible refine Kd.C_drewN ?_ _) | (with_reducible refine Kd.C_drew ?_) | exact HR261.out)), (by repeat (first | (with_reducible first | exact HB.out | apply bA_ | apply bN_ | apply bD_ | refine bS_ ?_ (IsS52.ge HI223.out) | refine bS_ ?_ GE222.out | refine bS_ ?_ GE225.out | refine bS_ ?_ GE238.out) | exact HB.out))⟩)
               rintro ⟨v243, v250, v253⟩ w58 ⟨hS_, h0_, h1_, h2_, h3_, h4_, h5_, h6_, h7_, h8_, h9_⟩
               have n0_ : Aside0 (Kd.R k35 35 w58 w.heap.size (fun k_ => some k_ ≠ (v253 : Value).ownBlock ∧ some k_ ≠ (.slice Ao51 x226001_1.length co51 : Value).ownBlock ∧ k_ ≠ gb238) v250 y249) := ⟨h0_⟩
               have n1_ : Aside0 (Kd.R k35 35 w58 w.heap.size (fun k_ => some k_ ≠ (v250 : Value).ownBlock ∧ some k_ ≠ (.slice Ao51 x226001_1.length co51 : Value).ownBlock ∧ k_ ≠ gb238) v253 y252) := ⟨h1_⟩
               have n2_ : Aside0 (Kd.R k35 35 w58 w.heap.size (fun k_ => some k_ ≠ (v250 : Value).ownBlock ∧ some k_ ≠ (v253 : Value).ownBlock ∧ k_ ≠ gb238) (.slice Ao51 x226001_1.length co51) x226001_1) := ⟨h2_⟩
               have n3_ : Aside0 (w58.heap[gb222]? = some (.cells #[.string (⟨#[]⟩ : ByteArray), .slice none 0 0] 24 (0, 0))) := ⟨h3_⟩
               have n4_ : Aside0 (w58.heap[gb225]? = some (.cells #[.string t224, .slice Ao51 x226001_1.length co51] 24 (0, 0))) := ⟨h4_⟩
               have n5_ : Aside0 (w58.heap[gb238]? = some (.cells #[.string t228, .string t229, .int .u64 t230, .int .i64 t231, .int .i64 t232, .int .i64 t233, .int .i64 t234, .int .i64 t235, .int .i64 t236] 35 (0, 0))) := ⟨h5_⟩
               have n6_ : Aside0 (IsS52 w w58 gb223 l0 t237) := ⟨h6_⟩
               have n7_ : Aside0 (Kd.C k35 w58 Ao51 y245.length y245) := ⟨h7_⟩
               have n8_ : Aside0 (Kd.C k35 w58 A52 y258.length y258) := ⟨h8_⟩
               have n9_ : Aside0 (Below w.heap.size w w58) := ⟨h9_⟩
               clear HO_226001 BK222 BK225 BK238 HI223 HB
               clear h0_ h1_ h2_ h3_ h4_ h5_ h6_ h7_ h8_ h9_
               have HO251 := n0_
               have HO254 := n1_
               have HO_226001 := n2_
               have BK222 := n3_
               have BK225 := n4_
               have BK238 := n5_
               have HI223 := n6_
               have HR248 := n7_
               have HR261 := n8_
               have HB := n9_
               clear n0_ n1_ n2_ n3_ n4_ n5_ n6_ n7_ n8_ n9_
               have hHeld : w58.cell? ⟨gb225, 0, none⟩ = some (.string t224) ∧ w58.cell? ⟨gb225, 1, none⟩ = some (.slice Ao51 x226001_1.length co51) ∧ w58.cell? ⟨gb238, 0, none⟩ = some (.string t228) ∧ w58.cell? ⟨gb238, 1, none⟩ = some (.string t229) ∧ w58.cell? ⟨gb238, 2, none⟩ = some (.int .u64 t230) ∧ w58.cell? ⟨gb238, 3, none⟩ = some (.int .i64 t231) ∧ w58.cell? ⟨gb238, 4, none⟩ = some (.int .i64 t232) ∧ w58.cell? ⟨gb238, 5, none⟩ = some (.int .i64 t233) ∧ w58.cell? ⟨gb238, 6, none⟩ = some (.int .i64 t234) ∧ w58.cell? ⟨gb238, 7, none⟩ = some (.int .i64 t235) ∧ w58.cell? ⟨gb238, 8, none⟩ = some (.int .i64 t236) := hS_
               obtain ⟨Ao60, co60, eo60⟩ := Kd.R_slice HO254.out
               (first | subst eo60 | (injection eo60 with f1_ f2_ f3_; have f4_ := f1_.symm; have f5_ := f3_.symm; clear f1_ f2_ f3_; subst f4_; subst f5_))
               refine norm_ (a' := ?_) ?_ ?_
               rotate_left; (· simp only [putAll, Act.put, sA_, sB_, sC_]; rfl)
               refine one_ (i := 8) (N := some 73) (bo_ 16 8191) rfl rfl (one_of HT_.out (by kernel_rfl)) (by decide) (fun K hK => ?_)
               refine Kd.R_append_rows_step k35 (w0 := w) w.heap.size (by rfl) (.tmp 70) (.tmp 72) 22 35 (.agg #[(.string ⟨#[]⟩), (.string ⟨#[]⟩), (.int .u64 0), (.int .i64 0), (.int .i64 0), (.int .i64 0), (.int .i64 0), (.int .i64 0), (.int .i64 0)]) 88 rfl Tryd.underlying22 info35 rfl (by decide) (by omega) v250 y249 y252 _ _ _ (fun k_ => some k_ ≠ (.slice Ao51 x226001_1.length co51 : Value).ownBlock ∧ some k_ ≠ (.slice Ao60 y252.length co60 : Value).ownBlock ∧ k_ ≠ gb238) (fun _ => False) rfl rfl ?aO ?aR (fun _ _ h => h) (fun _ h => h.elim) ?aF ?aB ?aS ?aL ?_
               (case aR => repeat (first | exact (Kd.R_reads' HO254.out).2.2 | (with_reducible refine Kd.C_alloc ?_ _) | (with_reducible refine Kd.C_drewN ?_ _) | (with_reducible refine Kd.C_drew ?_)))
               (case aB => exact (by repeat (first | (with_reducible first | exact HB.out | apply bA_ | apply bN_ | apply bD_ | refine bS_ ?_ (IsS52.ge HI223.out) | refine bS_ ?_ GE222.out | refine bS_ ?_ GE225.out | refine bS_ ?_ GE238.out) | exact HB.out)))
               (case aF => exact (fun k_ hk => ⟨Kd.fresh' (Kd.R_lt (bk_ HO_226001.out)) k_ hk, Kd.fresh' (Kd.R_lt (bk_ HO254.out)) k_ hk, Kd.freshB (g := gb238) (o := .cells #[.string t228, .string t229, .int .u64 t230, .int .i64 t231, .int .i64 t232, .int .i64 t233, .int .i64 t234, .int .i64 t235, .int .i64 t236] 35 (0, 0)) (bk_ BK238.out) k_ hk⟩))
               (case aO => exact (by refine bk_ ?_; exact Kd.R_mono HO251.out (fun _ hk => ⟨hk.2.1, ⟨hk.1, hk.2.2⟩⟩)))
               (case aS => exact (below_size (by repeat (first | (with_reducible first | exact HB.out | apply bA_ | apply bN_ | apply bD_ | refine bS_ ?_ (IsS52.ge HI223.out) | refine bS_ ?_ GE222.out | refine bS_ ?_ GE225.out | refine bS_ ?_ GE238.out) | exact HB.out))))
               (case aL => have := LMc45.out; omega)
               intro v256 w59 ho hb hg hat
               rw [← Ny255.out] at ho
               have n0_ := Aside0.mk (Kd.R_after (ok := (fun k_ => some k_ ≠ (.slice Ao60 y252.length co60 : Value).ownBlock ∧ k_ ≠ gb238)) (by refine bk_ ?_; exact Kd.R_mono HO_226001.out (fun _ hk => ⟨⟨hk.2.1, hk.2.2⟩, hk.1⟩)) hg hat)
               have n1_ := Aside0.mk (blk_grown (g := gb222) (o := .cells #[.string (⟨#[]⟩ : ByteArray), .slice none 0 0] 24 (0, 0)) (bk_ BK222.out) hg (Kd.R_ne HO251.out BK222.out (by decide)))
               have n2_ := Aside0.mk (blk_grown (g := gb225) (o := .cells #[.string t224, .slice Ao51 x226001_1.length co51] 24 (0, 0)) (bk_ BK225.out) hg (Kd.R_ne HO251.out BK225.out (by decide)))
               have n3_ := Aside0.mk (blk_grown (g := gb238) (o := .cells #[.string t228, .string t229, .int .u64 t230, .int .i64 t231, .int .i64 t232, .int .i64 t233, .int .i64 t234, .int .i64 t235, .int .i64 t236] 35 (0, 0)) (bk_ BK238.out) hg (Kd.R_away HO251.out (fun _ hk => hk.2.2)))
               have n4_ := Aside0.mk (IsS52.grown (by repeat (first | (with_reducible first | exact HI223.out | apply IsS52.alloc | apply IsS52.drewN | apply IsS52.drew | apply IsS52.set_1 | refine IsS52.far ?_ NB223_222.out _ | refine IsS52.far ?_ NB223_225.out _ | refine IsS52.far ?_ NB223_238.out _) | exact HI223.out)) hg (IsS52.own_ne HI223.out HO251.out (by decide)))
               have n5_ := Aside0.mk (Kd.R_after (ok := (fun k_ => some k_ ≠ (.slice Ao51 x226001_1.length co51 : Value).ownBlock ∧ k_ ≠ gb238)) (by refine bk_ ?_; exact Kd.R_mono HO254.out (fun _ hk => ⟨⟨hk.2.1, hk.2.2⟩, hk.1⟩)) hg hat)
               have n6_ := Aside0.mk (hb)
               have n7_ := Aside0.mk ((show Kd.C k35 w59 Ao51 y245.length y245 from by rw [Ny245.out]; exact Kd.C_take (m := (x8_3 : Int).toNat) ((Kd.R_reads' (Kd.R_after (ok := (fun k_ => some k_ ≠ (.slice Ao60 y252.length co60 : Value).ownBlock ∧ k_ ≠ gb238)) (by refine bk_ ?_; exact Kd.R_mono HO_226001.out (fun _ hk => ⟨⟨hk.2.1, hk.2.2⟩, hk.1⟩)) hg hat)).2.2) KL50.out))
               have n8_ := Aside0.mk ((show Kd.C k35 w59 A52 y258.length y258 from by rw [Ny258.out, KA52.out]; exact Kd.C_drop (m := (x8_3 : Int).toNat) (c := co51) ((Kd.R_reads' (Kd.R_after (ok := (fun k_ => some k_ ≠ (.slice Ao60 y252.length co60 : Value).ownBlock ∧ k_ ≠ gb238)) (by refine bk_ ?_; exact Kd.R_mono HO_226001.out (fun _ hk => ⟨⟨hk.2.1, hk.2.2⟩, hk.1⟩)) hg hat)).2.2) KL52.out ((Kd.R_reads' (Kd.R_after (ok := (fun k_ => some k_ ≠ (.slice Ao60 y252.length co60 : Value).ownBlock ∧ k_ ≠ gb238)) (by refine bk_ ?_; exact Kd.R_mono HO_226001.out (fun _ hk => ⟨⟨hk.2.1, hk.2.2⟩, hk.1⟩)) hg hat)).2.1)))
               have n9_ := Aside0.mk (ho)
               clear HO_226001 BK222 BK225 BK238 HI223 HO254 HB HR248 HR261 HO251
               have HO_226001 := n0_
               have BK222 := n1_
               have BK225 := n2_
               have BK238 := n3_
               have HI223 := n4_
               have HO254 := n5_
               have HB := n6_
               have HR248 := n7_
               have HR261 := n8_
               have HO257 := n9_
               clear n0_ n1_ n2_ n3_ n4_ n5_ n6_ n7_ n8_ n9_
               clear ho hb hg hat
               refine hK.out _ _ ⟨(blk_cell BK225.out 0).trans rfl, (blk_cell BK225.out 1).trans rfl, (blk_cell BK238.out 0).trans rfl, (blk_cell BK238.out 1).trans rfl, (blk_cell BK238.out 2).trans rfl, (blk_cell BK238.out 3).trans rfl, (blk_cell BK238.out 4).trans rfl, (blk_cell BK238.out 5).trans rfl, (blk_cell BK238.out 6).trans rfl, (blk_cell BK238.out 7).trans rfl, (blk_cell BK238.out 8).trans rfl⟩ (fun hHeld => ?_)
               clear hK K
               refine norm_ (a' := ?_) ?_ ?_
               rotate_left; (· show Act.put _ (some 73) _ = _; simp only [Act.put,sA_,sB_,sC_,i64_w,i32_w]; rfl)
               refine one_ (i := 13) (N := some 78) (bo_ 16 16383) rfl rfl (one_of HT_.out (by kernel_rfl)) (by decide) (fun K hK => ?_)
               refine Kd.R_append_rows_step k35 (w0 := w) w.heap.size (by rfl) (.tmp 73) (.tmp 77) 22 35 (.agg #[(.string ⟨#[]⟩), (.string ⟨#[]⟩), (.int .u64 0), (.int .i64 0), (.int .i64 0), (.int .i64 0), (.int .i64 0), (.int .i64 0), (.int .i64 0)]) 88 rfl Tryd.underlying22 info35 rfl (by decide) (by omega) v256 y255 y258 _ _ _ (fun k_ => some k_ ≠ (.slice Ao51 x226001_1.length co51 : Value).ownBlock ∧ some k_ ≠ (.slice Ao60 y252.length co60 : Value).ownBlock ∧ k_ ≠ gb238) (fun _ => False) rfl rfl ?aO ?aR (fun _ _ h => h) (fun _ h => h.elim) ?aF ?aB ?aS ?aL ?_
               (case aR => repeat (first | exact (by first | (with_reducible exact HR261.out) | (with_reducible exact Kd.C_drewN HR261.out _) | (with_reducible exact Kd.C_drew HR261.out) | repeat (first | (with_reducible exact HR261.out) | (with_reducible refine Kd.C_alloc ?_ _) | (with_reducible refine Kd.C_drewN ?_ _) | (with_reducible refine Kd.C_drew ?_) | exact HR261.out)) | (with_reducible refine Kd.C_alloc ?_ _) | (with_reducible refine Kd.C_drewN ?_ _) | (with_reducible refine Kd.C_drew ?_)))
               (case aB => exact (by repeat (first | (with_reducible first | exact HB.out | apply bA_ | apply bN_ | apply bD_ | refine bS_ ?_ (IsS52.ge HI223.out) | refine bS_ ?_ GE222.out | refine bS_ ?_ GE225.out | refine bS_ ?_ GE238.out) | exact HB.out)))
               (case aF => exact (fun k_ hk => ⟨Kd.fresh' (Kd.R_lt (bk_ HO_226001.out)) k_ hk, Kd.fresh' (Kd.R_lt (bk_ HO254.out)) k_ hk, Kd.freshB (g := gb238) (o := .cells #[.string t228, .string t229, .int .u64 t230, .int .i64 t231, .int .i64 t232, .int .i64 t233, .int .i64 t234, .int .i64 t235, .int .i64 t236] 35 (0, 0)) (bk_ BK238.out) k_ hk⟩))
               (case aO => exact (bk_ HO257.out))
               (case aS => exact (below_size (by repeat (first | (with_reducible first | exact HB.out | apply bA_ | apply bN_ | apply bD_ | refine bS_ ?_ (IsS52.ge HI223.out) | refine bS_ ?_ GE222.out | refine bS_ ?_ GE225.out | refine bS_ ?_ GE238.out) | exact HB.out))))
               (case aL => have := LMc48.out; omega)
               intro v263 w61 ho hb hg hat
               rw [← Ny262.out] at ho
               have n0_ := Aside0.mk (Kd.R_after (ok := (fun k_ => some k_ ≠ (.slice Ao60 y252.length co60 : Value).ownBlock ∧ k_ ≠ gb238)) (bk_ HO_226001.out) hg hat)
               have n1_ := Aside0.mk (blk_grown (g := gb222) (o := .cells #[.string (⟨#[]⟩ : ByteArray), .slice none 0 0] 24 (0, 0)) (bk_ BK222.out) hg (Kd.R_ne HO257.out BK222.out (by decide)))
               have n2_ := Aside0.mk (blk_grown (g := gb225) (o := .cells #[.string t224, .slice Ao51 x226001_1.length co51] 24 (0, 0)) (bk_ BK225.out) hg (Kd.R_ne HO257.out BK225.out (by decide)))
               have n3_ := Aside0.mk (blk_grown (g := gb238) (o := .cells #[.string t228, .string t229, .int .u64 t230, .int .i64 t231, .int .i64 t232, .int .i64 t233, .int .i64 t234, .int .i64 t235, .int .i64 t236] 35 (0, 0)) (bk_ BK238.out) hg (Kd.R_away HO257.out (fun _ hk => hk.2.2)))
               have n4_ := Aside0.mk (IsS52.grown (by repeat (first | (with_reducible first | exact HI223.out | apply IsS52.alloc | apply IsS52.drewN | apply IsS52.drew | apply IsS52.set_1 | refine IsS52.far ?_ NB223_222.out _ | refine IsS52.far ?_ NB223_225.out _ | refine IsS52.far ?_ NB223_238.out _) | exact HI223.out)) hg (IsS52.own_ne HI223.out HO257.out (by decide)))
               have n5_ := Aside0.mk (Kd.R_after (ok := (fun k_ => some k_ ≠ (.slice Ao51 x226001_1.length co51 : Value).ownBlock ∧ k_ ≠ gb238)) (bk_ HO254.out) hg hat)
               have n6_ := Aside0.mk (hb)
               have n7_ := Aside0.mk ((show Kd.C k35 w61 Ao51 y245.length y245 from by rw [Ny245.out]; exact Kd.C_take (m := (x8_3 : Int).toNat) ((Kd.R_reads' (Kd.R_after (ok := (fun k_ => some k_ ≠ (.slice Ao60 y252.length co60 : Value).ownBlock ∧ k_ ≠ gb238)) (bk_ HO_226001.out) hg hat)).2.2) KL50.out))
               have n8_ := Aside0.mk ((show Kd.C k35 w61 A52 y258.length y258 from by rw [Ny258.out, KA52.out]; exact Kd.C_drop (m := (x8_3 : Int).toNat) (c := co51) ((Kd.R_reads' (Kd.R_after (ok := (fun k_ => some k_ ≠ (.slice Ao60 y252.length co60 : Value).ownBlock ∧ k_ ≠ gb238)) (bk_ HO_226001.out) hg hat)).2.2) KL52.out ((Kd.R_reads' (Kd.R_after (ok := (fun k_ => some k_ ≠ (.slice Ao60 y252.length co60 : Value).ownBlock ∧ k_ ≠ gb238)) (bk_ HO_226001.out) hg hat)).2.1)))
               have n9_ := Aside0.mk (ho)
               clear HO_226001 BK222 BK225 BK238 HI223 HO254 HB HR248 HR261 HO257
               have HO_226001 := n0_
               have BK222 := n1_
               have BK225 := n2_
               have BK238 := n3_
               have HI223 := n4_
               have HO254 := n5_
               have HB := n6_
               have HR248 := n7_
               have HR261 := n8_
               have HO264 := n9_
               clear n0_ n1_ n2_ n3_ n4_ n5_ n6_ n7_ n8_ n9_
               clear ho hb hg hat
               obtain ⟨Ao62, co62, eo62⟩ := Kd.R_slice HO264.out
               (first | subst eo62 | (injection eo62 with f1_ f2_ f3_; have f4_ := f1_.symm; have f5_ := f3_.symm; clear f1_ f2_ f3_; subst f4_; subst f5_))
               refine hK.out _ _ ⟨(blk_cell BK225.out 0).trans rfl, (blk_cell BK225.out 1).trans rfl, (blk_cell BK238.out 0).trans rfl, (blk_cell BK238.out 1).trans rfl, (blk_cell BK238.out 2).trans rfl, (blk_cell BK238.out 3).trans rfl, (blk_cell BK238.out 4).trans rfl, (blk_cell BK238.out 5).trans rfl, (blk_cell BK238.out 6).trans rfl, (blk_cell BK238.out 7).trans rfl, (blk_cell BK238.out 8).trans rfl⟩ (fun hHeld => ?_)
               clear hK K
               refine norm_ (a' := ?_) ?_ ?_
               rotate_left; (· show Act.put _ (some 78) _ = _; simp only [Act.put,sA_,sB_,sC_,i64_w,i32_w]; rfl)
               refine pure_ (i := 14) (N := some 79) (v := ?_) (a' := ?_) (bo_ 16 32767) rfl rfl (any_of HT_.out (by kernel_rfl)) (fun _ _ _ h => h) (Or.inl ⟨by rfl, ?_⟩) ?_ ?_
               rotate_left; (· intro w'; go_simp; with_reducible rfl)
               rotate_left; (· simp only [Act.put,sA_,sB_,sC_,i64_w,i32_w]; rfl)
               refine last_ (i := 15) (N := none) #[true,true,true,true,true,true,true,true,true,true,true,true,true,true,true,true] rfl rfl (one_of HT_.out (by kernel_rfl)) (by decide) (fun K hK => ?_)
               have hs63 : w61.cell? ⟨gb225, 1, none⟩ = some (.slice Ao51 x226001_1.length co51) := (blk_cell BK225.out 1).trans rfl
               have hfs63 := blk_frozen BK225.out 1
               have hns63_0 := NB222_225.out
               have hns63_2 := NB238_225.out
               have hms63_0 := NB225_222.out
               have hms63_2 := NB225_238.out
               refine skip_ (w1 := ?_) (by rfl) rfl ?_ ?_
               rotate_left; (· go_simp; rfl)
               refine hK.out _ _ ?_
               clear hK K
               refine done_ (done_of HT_.out (by kernel_rfl)) ?_
               try go_wp2
               go_roundg kj27
               case measure => have := HK1.out; have := HJ10.out; have := HK3.out; have := HJ27.out; omega
               case rel => exact ⟨(t237), (y262), (.slice Ao62 y262.length co62), H', ⟨by have := HK1.out; have := HJ10.out; have := HK3.out; have := HJ27.out; omega⟩, ⟨by refine bk_ ?_; exact Kd.R_mono (Kd.R_far (p := ⟨gb225, 1, none⟩) (Kd.R_types HO264.out BK225.out (by decide)) (fun _ hk => hk.2) (.slice Ao62 y262.length co62)) (fun _ hk => trivial)⟩, ⟨by refine bk_ ?_; refine blk_far ?_ NB222_225.out _; refine bk_ ?_; exact BK222.out⟩, ⟨by refine bk_ ?_; refine blk_put (cs := #[.string t224, .slice Ao51 x226001_1.length co51]) ?_ 1 _ rfl; refine bk_ ?_; exact BK225.out⟩, ⟨by repeat (first | (with_reducible first | exact HI223.out | apply IsS52.alloc | apply IsS52.drewN | apply IsS52.drew | apply IsS52.set_1 | refine IsS52.far ?_ NB223_222.out _ | refine IsS52.far ?_ NB223_225.out _ | refine IsS52.far ?_ NB223_238.out _) | exact HI223.out)⟩, ⟨by repeat (first | (with_reducible first | exact HB.out | apply bA_ | apply bN_ | apply bD_ | refine bS_ ?_ (IsS52.ge HI223.out) | refine bS_ ?_ GE222.out | refine bS_ ?_ GE225.out | refine bS_ ?_ GE238.out) | exact HB.out)⟩⟩
              rw [if_neg c48] at H
              exact absurd H (by simp)
             rw [if_neg c45] at H
             exact absurd H (by simp)
            rw [if_neg c44] at H
            exact absurd H (by simp)
           rw [if_neg c43] at H
           exact absurd H (by simp)
          rw [if_neg c42] at H
          exact absurd H (by simp)
     replace c20 := Bool.eq_false_iff.mpr c20
     subst c20
     have H1 : (some (t224, x226001_1)) = some (r1, r2) := by rw [if_neg (show ¬ (false = true) by decide)] at H; exact H
     clear H
     have H := H1
     clear H1
     simp only [Option.some.injEq, Prod.mk.injEq] at H
     obtain ⟨rfl, rfl⟩ := H
     have hnb64 := NB225_222.out
     have hnc64 := NB222_225.out
     have hnb65 := NB225_223.out
     have hnc65 := NB223_225.out
     have hcz66_0 : wc.cell? ⟨gb225, 0, none⟩ = some (.string t224) := (blk_cell BK225.out 0).trans rfl
     have hcz66_1 : wc.cell? ⟨gb225, 1, none⟩ = some (u226001) := (blk_cell BK225.out 1).trans rfl
     have hfz66_0 := blk_frozen BK225.out 0
     have hfz66_1 := blk_frozen BK225.out 1
     have hnb67 := NB222_223.out
     have hnc67 := NB223_222.out
     have hcz68_0 : wc.cell? ⟨gb222, 0, none⟩ = some (.string (⟨#[]⟩ : ByteArray)) := (blk_cell BK222.out 0).trans rfl
     have hcz68_1 : wc.cell? ⟨gb222, 1, none⟩ = some (.slice none 0 0) := (blk_cell BK222.out 1).trans rfl
     have hfz68_0 := blk_frozen BK222.out 0
     have hfz68_1 := blk_frozen BK222.out 1
     obtain ⟨Ao69, co69, eo69⟩ := Kd.R_slice HO_226001.out
     subst eo69
     go_wp2
     refine bodyPost_ret (results_cell_row rfl _ _ gb222 24 #[.string t224, .slice Ao69 x226001_1.length co69] (0, 0) _ rfl (by refine bk_ ?_; refine blk_put (cs := #[.string t224, .slice none 0 0]) ?_ 1 _ rfl; refine bk_ ?_; refine blk_put (cs := #[.string (⟨#[]⟩ : ByteArray), .slice none 0 0]) ?_ 0 _ rfl; refine bk_ ?_; exact BK222.out) Tryd.underlying24 rfl (by kernel_rfl)) rfl ?_
     exact ⟨_, by first | rfl | (simp [errW_none, errW_some] <;> rfl) | (simp [*, errW_none, errW_some] <;> rfl), by refine bk_ ?_; exact Kd.R_mono (Kd.R_far (p := ⟨gb222, 1, none⟩) (Kd.R_far (p := ⟨gb222, 0, none⟩) (Kd.R_types HO_226001.out BK222.out (by decide)) (fun _ hk => hk.2) (.string t224)) (fun _ hk => hk.2) (.slice Ao69 x226001_1.length co69)) (fun _ hk => trivial), by repeat (first | (with_reducible first | exact HB.out | apply bA_ | apply bN_ | apply bD_ | refine bS_ ?_ (IsS52.ge HI223.out) | refine bS_ ?_ GE222.out | refine bS_ ?_ GE225.out) | exact HB.out)⟩

end Go.Proofs.YthfdfoigoomaoaaDoor.PDb
