/- The walks of functions of the translation: each call returns what the plain function beside it says. -/
import Derived.Test.YthfdfoigoomaoaaDoorPDbx0
import Derived.Test.YthfdfoigoomaoaaDoorPDbx1
import Derived.Test.YthfdfoigoomaoaaDoorPDbx4
import Derived.Test.YthfdfoigoomaoaaDoorPDbx5
namespace Go.Proofs.YthfdfoigoomaoaaDoor.PDb
open Go.RowKit Go.Proofs.YthfdfoigoomaoaaDoorW.PrintWords Go.Proofs.YthfdfoigoomaoaaDoorW.PrintLast Go.Proofs.YthfdfoigoomaoaaDoorW.PrintMore Go.Proofs.YthfdfoigoomaoaaDoor.Aid
attribute [local go_sem] max2_int min2_int max_two min_two max_three min_three max_four min_four aid_str_gtr aid_str_leq   -- for this text's walks alone
set_option linter.unusedVariables false
set_option linter.unusedSimpArgs false

/-! ### kerbsuitedata_Entry: function 24 -/
mutual
def kerbsuitedata_Entry.j0 : Nat → List Int → Int → ByteArray → ByteArray → ByteArray → Option (ByteArray × ByteArray × Int × Int × Int × Int × Int × Int × Int × Int)
 | 0, _, _, _, _, _ => none
 | k + 1, x1000, x1001, x191000, x191001, x191002 => (kerbsuitedata_Source_Next.f x1000 x1001 40).bind fun bt198 => ((kerbsuitedata_Long.f bt198.1).bind fun t200 => ((kerbsuitedata_Source_Next.f x1000 bt198.2 256).bind fun bt201 => ((kerbsuitedata_Source_Next.f x1000 bt201.2 256).bind fun bt203 => ((kerbsuitedata_Source_Next.f x1000 bt203.2 5).bind fun bt205 => ((kerbsuitedata_Source_Next.f x1000 bt205.2 4).bind fun bt207 => ((kerbsuitedata_Source_Next.f x1000 bt207.2 21).bind fun bt209 => ((kerbsuitedata_Source_Next.f x1000 bt209.2 5).bind fun bt212 => (if bt212.1 = 4 then ((kerbsuitedata_Source_Next.f x1000 bt212.2 256).bind fun bt214 => (kerbsuitedata_Entry.j1 k x1000 bt214.2 x191000 x191001 t200 bt201.1 (wrap64 (bt214.1 * 200)) bt203.1 (wrap64 ((wrap64 (Int.tdiv bt205.1 4)) * bt207.1)) bt209.1 0)) else (kerbsuitedata_Entry.j1 k x1000 bt212.2 x191000 x191001 t200 bt201.1 0 bt203.1 (wrap64 ((wrap64 (Int.tdiv bt205.1 4)) * bt207.1)) bt209.1 0)))))))))
def kerbsuitedata_Entry.j1 : Nat → List Int → Int → ByteArray → ByteArray → Int → Int → Int → Int → Int → Int → Int → Option (ByteArray × ByteArray × Int × Int × Int × Int × Int × Int × Int × Int)
 | 0, _, _, _, _, _, _, _, _, _, _, _ => none
 | k + 1, x1000, x1001, x212000, x212001, x212002, x212003, x212004, x212005, x212006, x212007, x212008 => (kerbsuitedata_Source_Next.f x1000 x1001 9).bind fun bt216 => (if bt216.1 = 8 then (kerbsuitedata_Entry.j2 k x1000 bt216.2 x212000 x212001 0 x212003 x212004 x212005 x212006 x212007 x212008) else (kerbsuitedata_Entry.j2 k x1000 bt216.2 x212000 x212001 x212002 x212003 x212004 x212005 x212006 x212007 x212008))
def kerbsuitedata_Entry.j2 : Nat → List Int → Int → ByteArray → ByteArray → Int → Int → Int → Int → Int → Int → Int → Option (ByteArray × ByteArray × Int × Int × Int × Int × Int × Int × Int × Int)
 | 0, _, _, _, _, _, _, _, _, _, _, _ => none
 | k + 1, x1000, x1001, x212000, x212001, x212002, x212003, x212004, x212005, x212006, x212007, x212008 => (kerbsuitedata_Source_Next.f x1000 x1001 9).bind fun bt218 => (if bt218.1 = 8 then ((kerbsuitedata_Source_Next.f x1000 bt218.2 256).bind fun bt220 => (some (x212000, x212001, x212002, x212003, x212004, x212005, x212006, x212007, wrap64 (bt220.1 * 100), bt220.2))) else (some (x212000, x212001, x212002, x212003, x212004, x212005, x212006, x212007, x212008, bt218.2)))
end
def kerbsuitedata_Entry.f (k : Nat) (s0_0 : List Int) (s0_1 : Int) : Option (ByteArray × ByteArray × Int × Int × Int × Int × Int × Int × Int × Int) := (kerbsuitedata_Source_Next.f s0_0 s0_1 3).bind fun bt185 => ((kerbsuitedata_User.f bt185.1).bind fun bt187 => ((kerbsuitedata_Source_Next.f s0_0 bt185.2 2).bind fun bt191 => (if bt191.1 = 1 then ((kerbsuitedata_Source_Next.f s0_0 bt191.2 3).bind fun bt193 => ((kerbsuitedata_Service.f bt193.1).bind fun bt195 => (kerbsuitedata_Entry.j0 k s0_0 bt193.2 bt195.1 bt195.2.1 bt195.2.2))) else (kerbsuitedata_Entry.j0 k s0_0 bt191.2 bt187.1 bt187.2.1 bt187.2.2))))
theorem kerbsuitedata_Entry.mono_l : ∀ k, (∀ y0 y1 y2 y3 y4, LeO (kerbsuitedata_Entry.j0 k y0 y1 y2 y3 y4) (kerbsuitedata_Entry.j0 (k + 1) y0 y1 y2 y3 y4)) ∧ (∀ y0 y1 y2 y3 y4 y5 y6 y7 y8 y9 y10, LeO (kerbsuitedata_Entry.j1 k y0 y1 y2 y3 y4 y5 y6 y7 y8 y9 y10) (kerbsuitedata_Entry.j1 (k + 1) y0 y1 y2 y3 y4 y5 y6 y7 y8 y9 y10)) ∧ (∀ y0 y1 y2 y3 y4 y5 y6 y7 y8 y9 y10, LeO (kerbsuitedata_Entry.j2 k y0 y1 y2 y3 y4 y5 y6 y7 y8 y9 y10) (kerbsuitedata_Entry.j2 (k + 1) y0 y1 y2 y3 y4 y5 y6 y7 y8 y9 y10))
 | 0 => ⟨fun _ _ _ _ _ r h => by simp [kerbsuitedata_Entry.j0] at h, fun _ _ _ _ _ _ _ _ _ _ _ r h => by simp [kerbsuitedata_Entry.j1] at h, fun _ _ _ _ _ _ _ _ _ _ _ r h => by simp [kerbsuitedata_Entry.j2] at h⟩
 | k + 1 => by
  obtain ⟨ih0, ih1, ih2⟩ := kerbsuitedata_Entry.mono_l k
  refine ⟨?_, ?_, ?_⟩
  ·intro y0 y1 y2 y3 y4
   unfold kerbsuitedata_Entry.j0
   repeat' first
   | (with_reducible exact ih0 _ _ _ _ _)
   | (with_reducible exact ih1 _ _ _ _ _ _ _ _ _ _ _)
   | (with_reducible exact ih2 _ _ _ _ _ _ _ _ _ _ _)
   | (with_reducible exact LeO.refl _)
   | (with_reducible exact LeO.none _)
   | (with_reducible refine LeO.ite ?_ ?_)
   | (with_reducible refine LeO.bind ?_ (fun _ => ?_))
   | exact ih0 _ _ _ _ _
   | exact ih1 _ _ _ _ _ _ _ _ _ _ _
   | exact ih2 _ _ _ _ _ _ _ _ _ _ _
   | exact LeO.none _
   | refine LeO.ite ?_ ?_
   | refine LeO.bind ?_ (fun _ => ?_)
  ·intro y0 y1 y2 y3 y4 y5 y6 y7 y8 y9 y10
   unfold kerbsuitedata_Entry.j1
   repeat' first
   | (with_reducible exact ih0 _ _ _ _ _)
   | (with_reducible exact ih1 _ _ _ _ _ _ _ _ _ _ _)
   | (with_reducible exact ih2 _ _ _ _ _ _ _ _ _ _ _)
   | (with_reducible exact LeO.refl _)
   | (with_reducible exact LeO.none _)
   | (with_reducible refine LeO.ite ?_ ?_)
   | (with_reducible refine LeO.bind ?_ (fun _ => ?_))
   | exact ih0 _ _ _ _ _
   | exact ih1 _ _ _ _ _ _ _ _ _ _ _
   | exact ih2 _ _ _ _ _ _ _ _ _ _ _
   | exact LeO.none _
   | refine LeO.ite ?_ ?_
   | refine LeO.bind ?_ (fun _ => ?_)
  intro y0 y1 y2 y3 y4 y5 y6 y7 y8 y9 y10
  unfold kerbsuitedata_Entry.j2
  repeat' first
  | (with_reducible exact ih0 _ _ _ _ _)
  | (with_reducible exact ih1 _ _ _ _ _ _ _ _ _ _ _)
  | (with_reducible exact ih2 _ _ _ _ _ _ _ _ _ _ _)
  | (with_reducible exact LeO.refl _)
  | (with_reducible exact LeO.none _)
  | (with_reducible refine LeO.ite ?_ ?_)
  | (with_reducible refine LeO.bind ?_ (fun _ => ?_))
  | exact ih0 _ _ _ _ _
  | exact ih1 _ _ _ _ _ _ _ _ _ _ _
  | exact ih2 _ _ _ _ _ _ _ _ _ _ _
  | exact LeO.none _
  | refine LeO.ite ?_ ?_
  | refine LeO.bind ?_ (fun _ => ?_)
theorem kerbsuitedata_Entry.mono : ∀ a0 a1 k, LeO (kerbsuitedata_Entry.f k a0 a1) (kerbsuitedata_Entry.f (k + 1) a0 a1) := by
 intro a0 a1 k
 obtain ⟨ih0, ih1, ih2⟩ := kerbsuitedata_Entry.mono_l k
 unfold kerbsuitedata_Entry.f
 repeat' first
   | (with_reducible exact ih0 _ _ _ _ _)
   | (with_reducible exact ih1 _ _ _ _ _ _ _ _ _ _ _)
   | (with_reducible exact ih2 _ _ _ _ _ _ _ _ _ _ _)
   | (with_reducible exact LeO.refl _)
   | (with_reducible exact LeO.none _)
   | (with_reducible refine LeO.ite ?_ ?_)
   | (with_reducible refine LeO.bind ?_ (fun _ => ?_))
   | exact ih0 _ _ _ _ _
   | exact ih1 _ _ _ _ _ _ _ _ _ _ _
   | exact ih2 _ _ _ _ _ _ _ _ _ _ _
   | exact LeO.none _
   | refine LeO.ite ?_ ?_
   | refine LeO.bind ?_ (fun _ => ?_)
def kerbsuitedata_Entry.T4 : Bool × List (List Nat × List Nat) := (true,[([], []), ([0], [0]), ([], []), ([2], [2]), ([], []), ([4], [4]), ([5, 5], [5]), ([], []), ([7, 6], [7]), ([], []), ([9, 8], [9]), ([], []), ([11, 10], [11]), ([12], [12]), ([], []), ([14, 12], [14]), ([13, 15], [13, 15]), ([], []), ([17, 15], [17]), ([1, 3, 6, 8, 10, 16, 18], [1, 3, 6, 8, 10, 16, 18]), ([], []), ([20, 19, 18, 0, 1, 2, 3, 4, 5, 6, 7, 8, 9, 10, 11, 12, 13, 14, 15, 16, 17, 18, 19, 20], [19, 20])])
def kerbsuitedata_Entry.B4 : List Nat := [0, 1, 0, 4, 0, 16, 48, 0, 240, 0, 1008, 0, 4080, 8176, 0, 24560, 65520, 0, 188400, 524287, 0, 2097151]
theorem kerbsuitedata_Entry.tab4 : rtab .any (opsOf Tryd.f24 4) = kerbsuitedata_Entry.T4 := by kernel_rfl
theorem kerbsuitedata_Entry.bits4 : waitsOk kerbsuitedata_Entry.T4.2 kerbsuitedata_Entry.B4 = true := by kernel_rfl
set_option maxHeartbeats 8000000 in
set_option maxRecDepth 100000 in
theorem kerbsuitedata_Entry.calls (k : Nat) (g : Nat) (s0_0 : List Int) (s0_1 : Int) (r1 : ByteArray) (r2 : ByteArray) (r3 : Int) (r4 : Int) (r5 : Int) (r6 : Int) (r7 : Int) (r8 : Int) (r9 : Int) (r10 : Int) (w0 w : World) (hI : IsS52 w0 w g s0_0 s0_1) (hB : Below w0.heap.size w0 w) (h : kerbsuitedata_Entry.f k s0_0 s0_1 = some (r1, r2, r3, r4, r5, r6, r7, r8, r9, r10)) :
  Calls Tryd.prog 24 #[.pointer (some ⟨g, 0, none⟩)] w fun e w' => e = .returned (.agg #[.string r1, .string r2, .int .u64 r3, .int .i64 r4, .int .i64 r5, .int .i64 r6, .int .i64 r7, .int .i64 r8, .int .i64 r9]) ∧ IsS52 w0 w' g s0_0 r10 ∧ Below w0.heap.size w0 w' ∧ KeepBut w w' g none := by
 have hu35 := Tryd.underlying35
 have hu41 := Tryd.underlying41
 have HI0 := Aside0.mk hI
 have HK := Aside0.mk (KeepBut.refl w g none)
 have HL := Aside0.mk hB.size
 clear hI
 have HW0 := Aside0.mk hB.size
 have HB := Aside0.mk hB
 clear hB
 have H : ((kerbsuitedata_Source_Next.f s0_0 s0_1 3).bind fun bt185 => ((kerbsuitedata_User.f bt185.1).bind fun bt187 => ((kerbsuitedata_Source_Next.f s0_0 bt185.2 2).bind fun bt191 => (if bt191.1 = 1 then ((kerbsuitedata_Source_Next.f s0_0 bt191.2 3).bind fun bt193 => ((kerbsuitedata_Service.f bt193.1).bind fun bt195 => (kerbsuitedata_Entry.j0 k s0_0 bt193.2 bt195.1 bt195.2.1 bt195.2.2))) else (kerbsuitedata_Entry.j0 k s0_0 bt191.2 bt187.1 bt187.2.1 bt187.2.2))))) = some (r1, r2, r3, r4, r5, r6, r7, r8, r9, r10) := h
 clear h
 replace H := Option.bind_eq_some_iff.mp H
 obtain ⟨⟨t185, t186⟩, A20, H⟩ := H
 replace H : ((kerbsuitedata_User.f t185).bind fun bt187 => ((kerbsuitedata_Source_Next.f s0_0 t186 2).bind fun bt191 => (if bt191.1 = 1 then ((kerbsuitedata_Source_Next.f s0_0 bt191.2 3).bind fun bt193 => ((kerbsuitedata_Service.f bt193.1).bind fun bt195 => (kerbsuitedata_Entry.j0 k s0_0 bt193.2 bt195.1 bt195.2.1 bt195.2.2))) else (kerbsuitedata_Entry.j0 k s0_0 bt191.2 bt187.1 bt187.2.1 bt187.2.2)))) = some (r1, r2, r3, r4, r5, r6, r7, r8, r9, r10) := H
 have A2 := Aside0.mk A20
 clear A20
 replace H := Option.bind_eq_some_iff.mp H
 obtain ⟨⟨t187, t188, t189⟩, A30, H⟩ := H
 replace H : ((kerbsuitedata_Source_Next.f s0_0 t186 2).bind fun bt191 => (if bt191.1 = 1 then ((kerbsuitedata_Source_Next.f s0_0 bt191.2 3).bind fun bt193 => ((kerbsuitedata_Service.f bt193.1).bind fun bt195 => (kerbsuitedata_Entry.j0 k s0_0 bt193.2 bt195.1 bt195.2.1 bt195.2.2))) else (kerbsuitedata_Entry.j0 k s0_0 bt191.2 t187 t188 t189))) = some (r1, r2, r3, r4, r5, r6, r7, r8, r9, r10) := H
 have A3 := Aside0.mk A30
 clear A30
 replace H := Option.bind_eq_some_iff.mp H
 obtain ⟨⟨t191, t192⟩, A40, H⟩ := H
 replace H : (if t191 = 1 then ((kerbsuitedata_Source_Next.f s0_0 t192 3).bind fun bt193 => ((kerbsuitedata_Service.f bt193.1).bind fun bt195 => (kerbsuitedata_Entry.j0 k s0_0 bt193.2 bt195.1 bt195.2.1 bt195.2.2))) else (kerbsuitedata_Entry.j0 k s0_0 t192 t187 t188 t189)) = some (r1, r2, r3, r4, r5, r6, r7, r8, r9, r10) := H
 have A4 := Aside0.mk A40
 clear A40
 have HC5 := Aside0.mk H
 clear H
 go_enter Tryd.func24, Tryd.ntmps24
 go_upto_if 10 with (first | ((with_reducible refine gate_dst (N := 2) rfl ?_); refine box_event ?hg (N := 2) ?hd (cs := #[.string (⟨#[]⟩ : ByteArray), .string (⟨#[]⟩ : ByteArray), .int .u64 0, .int .i64 0, .int .i64 0, .int .i64 0, .int .i64 0, .int .i64 0, .int .i64 0]) (t := 35) ?hr ?_; (case hd => rfl); (case hg => rfl); (case hr => first | (go_simp; done) | (go_simp; rfl)); intro gb184 hg w6 hbox hb; have n0_ := Aside0.mk (IsS52.below (by repeat (first | (with_reducible first | exact HI0.out | apply IsS52.alloc | apply IsS52.drewN | apply IsS52.drew | apply IsS52.set_1) | exact HI0.out)) hb); have n1_ := Aside0.mk (KeepBut.trans (by repeat (first | (with_reducible first | exact HK.out | apply KeepBut.set_ | apply keep_drewN | apply keep_drew | apply keep_alloc) | exact HK.out)) (KeepBut.of_below hb g none) (.inl rfl)); have n2_ := Aside0.mk (below_step (by repeat (first | (with_reducible first | exact HB.out | apply bA_ | apply bN_ | apply bD_ | refine bS_ ?_ (IsS52.ge HI0.out)) | exact HB.out)) hb); have n3_ := Aside0.mk (hbox); have n4_ := Aside0.mk ((by rw [hg]; exact (keep_size (w := w) (g := g) (row := none) (by repeat (first | (with_reducible first | exact HK.out | apply KeepBut.set_ | apply keep_drewN | apply keep_drew | apply keep_alloc) | exact HK.out))) : w.heap.size ≤ gb184)); have n5_ := Aside0.mk ((Nat.le_trans HW0.out (by rw [hg]; exact (keep_size (w := w) (g := g) (row := none) (by repeat (first | (with_reducible first | exact HK.out | apply KeepBut.set_ | apply keep_drewN | apply keep_drew | apply keep_alloc) | exact HK.out))) : w.heap.size ≤ gb184) : w0.heap.size ≤ gb184)); have n6_ := Aside0.mk ((by rw [hg]; exact Nat.ne_of_lt (IsS52.lt (show IsS52 w0 _ g s0_0 s0_1 from by repeat (first | (with_reducible first | exact HI0.out | apply IsS52.alloc | apply IsS52.drewN | apply IsS52.drew | apply IsS52.set_1) | exact HI0.out))) : g ≠ gb184)); have n7_ := Aside0.mk ((by rw [hg]; exact Nat.ne_of_gt (IsS52.lt (show IsS52 w0 _ g s0_0 s0_1 from by repeat (first | (with_reducible first | exact HI0.out | apply IsS52.alloc | apply IsS52.drewN | apply IsS52.drew | apply IsS52.set_1) | exact HI0.out))) : gb184 ≠ g)); clear HI0 HK HB; have HI0 := n0_; have HK := n1_; have HB := n2_; have BK184 := n3_; have GW184 := n4_; have GE184 := n5_; have NB0_184 := n6_; have NB184_0 := n7_; clear n0_ n1_ n2_ n3_ n4_ n5_ n6_ n7_; clear hb hbox hg) | ((with_reducible refine gate_callee (f := 49) rfl ?_); refine goesL_ (some 6) rfl rfl Tryd.func49 (by kernel_rfl) rfl #[.pointer (some ⟨g, 0, none⟩), .int .i64 3] rfl (by (try simp only [List.map_toArray, List.map_cons, List.map_nil]); first | done | rfl | (simp only [List.length_drop, List.length_take]; rfl)) ?_; (with_reducible refine (kerbsuitedata_Source_Next.calls g s0_0 s0_1 3 t185 t186 w0 _ ?side1 ?side2 A2.out).mono ?_); (case side1 => repeat (first | (with_reducible first | exact HI0.out | apply IsS52.alloc | apply IsS52.drewN | apply IsS52.drew | apply IsS52.set_1 | refine IsS52.far ?_ NB0_184.out _) | exact HI0.out)); (case side2 => repeat (first | (with_reducible first | exact HB.out | apply bA_ | apply bN_ | apply bD_ | refine bS_ ?_ (IsS52.ge HI0.out) | refine bS_ ?_ GE184.out) | exact HB.out)); rintro e w7 ⟨rfl, hi, hb, hk⟩; refine ⟨_, rfl, ?_⟩; have n0_ := Aside0.mk (KeepBut.blk hk (g' := gb184) (o := .cells #[.string (⟨#[]⟩ : ByteArray), .string (⟨#[]⟩ : ByteArray), .int .u64 0, .int .i64 0, .int .i64 0, .int .i64 0, .int .i64 0, .int .i64 0, .int .i64 0] 35 (0, 0)) (bk_ BK184.out) NB184_0.out (by simp)); have n1_ := Aside0.mk (KeepBut.trans (by repeat (first | (with_reducible first | exact HK.out | apply KeepBut.set_ | apply keep_drewN | apply keep_drew | apply keep_alloc | refine keep_far ?_ GW184.out _) | exact HK.out)) hk (.inl rfl)); have n2_ := Aside0.mk (hb); have n3_ := Aside0.mk (hi); clear BK184 HK HB HI0; have BK184 := n0_; have HK := n1_; have HB := n2_; have HI0 := n3_; clear n0_ n1_ n2_ n3_; (try clear hb); (try clear hb2); (try clear hk); (try clear hi)) | ((with_reducible refine gate_callee (f := 16) rfl ?_); refine goesL_ (some 7) rfl rfl Tryd.func16 (by kernel_rfl) rfl #[.int .i64 t185] rfl (by (try simp only [List.map_toArray, List.map_cons, List.map_nil]); first | done | rfl | (simp only [List.length_drop, List.length_take]; rfl)) ?_; (with_reducible refine (kerbsuitedata_User.calls t185 t187 t188 t189 _ A3.out).mono ?_); rintro e w8 ⟨rfl, hb⟩; refine ⟨_, rfl, ?_⟩; have n0_ := Aside0.mk (IsS52.below (by repeat (first | (with_reducible first | exact HI0.out | apply IsS52.alloc | apply IsS52.drewN | apply IsS52.drew | apply IsS52.set_1 | refine IsS52.far ?_ NB0_184.out _) | exact HI0.out)) hb); have n1_ := Aside0.mk (blk_below (g := gb184) (o := .cells #[.string (⟨#[]⟩ : ByteArray), .string (⟨#[]⟩ : ByteArray), .int .u64 0, .int .i64 0, .int .i64 0, .int .i64 0, .int .i64 0, .int .i64 0, .int .i64 0] 35 (0, 0)) (bk_ BK184.out) hb); have n2_ := Aside0.mk (KeepBut.trans (by repeat (first | (with_reducible first | exact HK.out | apply KeepBut.set_ | apply keep_drewN | apply keep_drew | apply keep_alloc | refine keep_far ?_ GW184.out _) | exact HK.out)) (KeepBut.of_below hb g none) (.inl rfl)); have n3_ := Aside0.mk (below_step (by repeat (first | (with_reducible first | exact HB.out | apply bA_ | apply bN_ | apply bD_ | refine bS_ ?_ (IsS52.ge HI0.out) | refine bS_ ?_ GE184.out) | exact HB.out)) hb); clear HI0 BK184 HK HB; have HI0 := n0_; have BK184 := n1_; have HK := n2_; have HB := n3_; clear n0_ n1_ n2_ n3_; (try clear hb); (try clear hb2); (try clear hk); (try clear hi)) | ((with_reducible refine gate_dst (N := 3) rfl ?_); refine box_event ?hg (N := 3) ?hd (cs := #[.string (⟨#[]⟩ : ByteArray), .string (⟨#[]⟩ : ByteArray), .string (⟨#[]⟩ : ByteArray)]) (t := 41) ?hr ?_; (case hd => rfl); (case hg => rfl); (case hr => first | (go_simp; done) | (go_simp; rfl)); intro gb190 hg w9 hbox hb; have n0_ := Aside0.mk (IsS52.below (by repeat (first | (with_reducible first | exact HI0.out | apply IsS52.alloc | apply IsS52.drewN | apply IsS52.drew | apply IsS52.set_1 | refine IsS52.far ?_ NB0_184.out _) | exact HI0.out)) hb); have n1_ := Aside0.mk (blk_below (g := gb184) (o := .cells #[.string (⟨#[]⟩ : ByteArray), .string (⟨#[]⟩ : ByteArray), .int .u64 0, .int .i64 0, .int .i64 0, .int .i64 0, .int .i64 0, .int .i64 0, .int .i64 0] 35 (0, 0)) (bk_ BK184.out) hb); have n2_ := Aside0.mk (KeepBut.trans (by repeat (first | (with_reducible first | exact HK.out | apply KeepBut.set_ | apply keep_drewN | apply keep_drew | apply keep_alloc | refine keep_far ?_ GW184.out _) | exact HK.out)) (KeepBut.of_below hb g none) (.inl rfl)); have n3_ := Aside0.mk (below_step (by repeat (first | (with_reducible first | exact HB.out | apply bA_ | apply bN_ | apply bD_ | refine bS_ ?_ (IsS52.ge HI0.out) | refine bS_ ?_ GE184.out) | exact HB.out)) hb); have n4_ := Aside0.mk (hbox); have n5_ := Aside0.mk ((by rw [hg]; exact (keep_size (w := w) (g := g) (row := none) (by repeat (first | (with_reducible first | exact HK.out | apply KeepBut.set_ | apply keep_drewN | apply keep_drew | apply keep_alloc | refine keep_far ?_ GW184.out _) | exact HK.out))) : w.heap.size ≤ gb190)); have n6_ := Aside0.mk ((Nat.le_trans HW0.out (by rw [hg]; exact (keep_size (w := w) (g := g) (row := none) (by repeat (first | (with_reducible first | exact HK.out | apply KeepBut.set_ | apply keep_drewN | apply keep_drew | apply keep_alloc | refine keep_far ?_ GW184.out _) | exact HK.out))) : w.heap.size ≤ gb190) : w0.heap.size ≤ gb190)); have n7_ := Aside0.mk ((by rw [hg]; exact Nat.ne_of_lt (blk_lt (g := gb184) (o := .cells #[.string (⟨#[]⟩ : ByteArray), .string (⟨#[]⟩ : ByteArray), .int .u64 0, .int .i64 0, .int .i64 0, .int .i64 0, .int .i64 0, .int .i64 0, .int .i64 0] 35 (0, 0)) (bk_ BK184.out)) : gb184 ≠ gb190)); have n8_ := Aside0.mk ((by rw [hg]; exact Nat.ne_of_gt (blk_lt (g := gb184) (o := .cells #[.string (⟨#[]⟩ : ByteArray), .string (⟨#[]⟩ : ByteArray), .int .u64 0, .int .i64 0, .int .i64 0, .int .i64 0, .int .i64 0, .int .i64 0, .int .i64 0] 35 (0, 0)) (bk_ BK184.out)) : gb190 ≠ gb184)); have n9_ := Aside0.mk ((by rw [hg]; exact Nat.ne_of_lt (IsS52.lt (show IsS52 w0 _ g s0_0 t186 from by repeat (first | (with_reducible first | exact HI0.out | apply IsS52.alloc | apply IsS52.drewN | apply IsS52.drew | apply IsS52.set_1 | refine IsS52.far ?_ NB0_184.out _) | exact HI0.out))) : g ≠ gb190)); have n10_ := Aside0.mk ((by rw [hg]; exact Nat.ne_of_gt (IsS52.lt (show IsS52 w0 _ g s0_0 t186 from by repeat (first | (with_reducible first | exact HI0.out | apply IsS52.alloc | apply IsS52.drewN | apply IsS52.drew | apply IsS52.set_1 | refine IsS52.far ?_ NB0_184.out _) | exact HI0.out))) : gb190 ≠ g)); clear HI0 BK184 HK HB; have HI0 := n0_; have BK184 := n1_; have HK := n2_; have HB := n3_; have BK190 := n4_; have GW190 := n5_; have GE190 := n6_; have NB184_190 := n7_; have NB190_184 := n8_; have NB0_190 := n9_; have NB190_0 := n10_; clear n0_ n1_ n2_ n3_ n4_ n5_ n6_ n7_ n8_ n9_ n10_; clear hb hbox hg; have hnb10 := NB190_184.out; have hnc10 := NB184_190.out; have hnb11 := NB190_0.out; have hnc11 := NB0_190.out; have hcz12_0 : w9.cell? ⟨gb190, 0, none⟩ = some (.string (⟨#[]⟩ : ByteArray)) := (blk_cell BK190.out 0).trans rfl; have hcz12_1 : w9.cell? ⟨gb190, 1, none⟩ = some (.string (⟨#[]⟩ : ByteArray)) := (blk_cell BK190.out 1).trans rfl; have hcz12_2 : w9.cell? ⟨gb190, 2, none⟩ = some (.string (⟨#[]⟩ : ByteArray)) := (blk_cell BK190.out 2).trans rfl; have hfz12_0 := blk_frozen BK190.out 0; have hfz12_1 := blk_frozen BK190.out 1; have hfz12_2 := blk_frozen BK190.out 2) | ((with_reducible refine gate_callee (f := 49) rfl ?_); refine goesL_ (some 9) rfl rfl Tryd.func49 (by kernel_rfl) rfl #[.pointer (some ⟨g, 0, none⟩), .int .i64 2] rfl (by (try simp only [List.map_toArray, List.map_cons, List.map_nil]); first | done | rfl | (simp only [List.length_drop, List.length_take]; rfl)) ?_; (with_reducible refine (kerbsuitedata_Source_Next.calls g s0_0 t186 2 t191 t192 w0 _ ?side1 ?side2 A4.out).mono ?_); (case side1 => repeat (first | (with_reducible first | exact HI0.out | apply IsS52.alloc | apply IsS52.drewN | apply IsS52.drew | apply IsS52.set_1 | refine IsS52.far ?_ NB0_184.out _ | refine IsS52.far ?_ NB0_190.out _) | exact HI0.out)); (case side2 => repeat (first | (with_reducible first | exact HB.out | apply bA_ | apply bN_ | apply bD_ | refine bS_ ?_ (IsS52.ge HI0.out) | refine bS_ ?_ GE184.out | refine bS_ ?_ GE190.out) | exact HB.out)); rintro e w13 ⟨rfl, hi, hb, hk⟩; refine ⟨_, rfl, ?_⟩; have n0_ := Aside0.mk (KeepBut.blk hk (g' := gb184) (o := .cells #[.string (⟨#[]⟩ : ByteArray), .string (⟨#[]⟩ : ByteArray), .int .u64 0, .int .i64 0, .int .i64 0, .int .i64 0, .int .i64 0, .int .i64 0, .int .i64 0] 35 (0, 0)) (by refine bk_ ?_; refine blk_far ?_ NB184_190.out _; refine bk_ ?_; refine blk_far ?_ NB184_190.out _; refine bk_ ?_; refine blk_far ?_ NB184_190.out _; refine bk_ ?_; exact BK184.out) NB184_0.out (by simp)); have n1_ := Aside0.mk (KeepBut.blk hk (g' := gb190) (o := .cells #[.string t187, .string t188, .string t189] 41 (0, 0)) (by refine bk_ ?_; refine blk_put (cs := #[.string t187, .string t188, .string (⟨#[]⟩ : ByteArray)]) ?_ 2 _ rfl; refine bk_ ?_; refine blk_put (cs := #[.string t187, .string (⟨#[]⟩ : ByteArray), .string (⟨#[]⟩ : ByteArray)]) ?_ 1 _ rfl; refine bk_ ?_; refine blk_put (cs := #[.string (⟨#[]⟩ : ByteArray), .string (⟨#[]⟩ : ByteArray), .string (⟨#[]⟩ : ByteArray)]) ?_ 0 _ rfl; refine bk_ ?_; exact BK190.out) NB190_0.out (by simp)); have n2_ := Aside0.mk (KeepBut.trans (by repeat (first | (with_reducible first | exact HK.out | apply KeepBut.set_ | apply keep_drewN | apply keep_drew | apply keep_alloc | refine keep_far ?_ GW184.out _ | refine keep_far ?_ GW190.out _) | exact HK.out)) hk (.inl rfl)); have n3_ := Aside0.mk (hb); have n4_ := Aside0.mk (hi); clear BK184 BK190 HK HB HI0; have BK184 := n0_; have BK190 := n1_; have HK := n2_; have HB := n3_; have HI0 := n4_; clear n0_ n1_ n2_ n3_ n4_; (try clear hb); (try clear hb2); (try clear hk); (try clear hi)))
 (try simp only [Act.put, sA_, sB_, sC_])
 go_cut [] (fun wc => ∃ (kq : Nat) (x1001_4 : Int) (x191000_4 : ByteArray) (x191001_4 : ByteArray) (x191002_4 : ByteArray), Aside0 (kerbsuitedata_Entry.j0 kq s0_0 x1001_4 x191000_4 x191001_4 x191002_4 = some (r1, r2, r3, r4, r5, r6, r7, r8, r9, r10)) ∧ Aside0 (kq ≤ k) ∧ Aside0 (wc.heap[gb184]? = some (.cells #[.string (⟨#[]⟩ : ByteArray), .string (⟨#[]⟩ : ByteArray), .int .u64 0, .int .i64 0, .int .i64 0, .int .i64 0, .int .i64 0, .int .i64 0, .int .i64 0] 35 (0, 0))) ∧ Aside0 (wc.heap[gb190]? = some (.cells #[.string x191000_4, .string x191001_4, .string x191002_4] 41 (0, 0))) ∧ Aside0 (IsS52 w0 wc g s0_0 x1001_4) ∧ Aside0 (KeepBut w wc g none) ∧ Aside0 (Below w0.heap.size w0 wc))
 case first =>
  have H := HC5.out
  clear HC5
  by_cases c14 : t191 = 1
  ·rw [if_pos c14] at H
   have c14b0 : (t191 == 1) = true := beq_iff_eq.mpr c14
   have c14b1 : (t191 != 1) = false := bne_eq_false_iff_eq.mpr c14
   clear c14
   (first | rw [c14b0] | (simp only [i64_w, i32_w]; rw [c14b0]) | skip)
   replace H := Option.bind_eq_some_iff.mp H
   obtain ⟨⟨t193, t194⟩, A150, H⟩ := H
   replace H : ((kerbsuitedata_Service.f t193).bind fun bt195 => (kerbsuitedata_Entry.j0 k s0_0 t194 bt195.1 bt195.2.1 bt195.2.2)) = some (r1, r2, r3, r4, r5, r6, r7, r8, r9, r10) := H
   have A15 := Aside0.mk A150
   clear A150
   replace H := Option.bind_eq_some_iff.mp H
   obtain ⟨⟨t195, t196, t197⟩, A160, H⟩ := H
   replace H : (kerbsuitedata_Entry.j0 k s0_0 t194 t195 t196 t197) = some (r1, r2, r3, r4, r5, r6, r7, r8, r9, r10) := H
   have A16 := Aside0.mk A160
   clear A160
   have H' := Aside0.mk H
   clear H
   go_wp2_with (first | ((with_reducible refine gate_callee (f := 49) rfl ?_); refine goesL_ (some 12) rfl rfl Tryd.func49 (by kernel_rfl) rfl #[.pointer (some ⟨g, 0, none⟩), .int .i64 3] rfl (by (try simp only [List.map_toArray, List.map_cons, List.map_nil]); first | done | rfl | (simp only [List.length_drop, List.length_take]; rfl)) ?_; (with_reducible refine (kerbsuitedata_Source_Next.calls g s0_0 t192 3 t193 t194 w0 _ ?side1 ?side2 A15.out).mono ?_); (case side1 => repeat (first | (with_reducible first | exact HI0.out | apply IsS52.alloc | apply IsS52.drewN | apply IsS52.drew | apply IsS52.set_1 | refine IsS52.far ?_ NB0_184.out _ | refine IsS52.far ?_ NB0_190.out _) | exact HI0.out)); (case side2 => repeat (first | (with_reducible first | exact HB.out | apply bA_ | apply bN_ | apply bD_ | refine bS_ ?_ (IsS52.ge HI0.out) | refine bS_ ?_ GE184.out | refine bS_ ?_ GE190.out) | exact HB.out)); rintro e w17 ⟨rfl, hi, hb, hk⟩; refine ⟨_, rfl, ?_⟩; have n0_ := Aside0.mk (KeepBut.blk hk (g' := gb184) (o := .cells #[.string (⟨#[]⟩ : ByteArray), .string (⟨#[]⟩ : ByteArray), .int .u64 0, .int .i64 0, .int .i64 0, .int .i64 0, .int .i64 0, .int .i64 0, .int .i64 0] 35 (0, 0)) (bk_ BK184.out) NB184_0.out (by simp)); have n1_ := Aside0.mk (KeepBut.blk hk (g' := gb190) (o := .cells #[.string t187, .string t188, .string t189] 41 (0, 0)) (bk_ BK190.out) NB190_0.out (by simp)); have n2_ := Aside0.mk (KeepBut.trans (by repeat (first | (with_reducible first | exact HK.out | apply KeepBut.set_ | apply keep_drewN | apply keep_drew | apply keep_alloc | refine keep_far ?_ GW184.out _ | refine keep_far ?_ GW190.out _) | exact HK.out)) hk (.inl rfl)); have n3_ := Aside0.mk (hb); have n4_ := Aside0.mk (hi); clear BK184 BK190 HK HB HI0; have BK184 := n0_; have BK190 := n1_; have HK := n2_; have HB := n3_; have HI0 := n4_; clear n0_ n1_ n2_ n3_ n4_; (try clear hb); (try clear hb2); (try clear hk); (try clear hi)) | ((with_reducible refine gate_callee (f := 17) rfl ?_); refine goesL_ (some 13) rfl rfl Tryd.func17 (by kernel_rfl) rfl #[.int .i64 t193] rfl (by (try simp only [List.map_toArray, List.map_cons, List.map_nil]); first | done | rfl | (simp only [List.length_drop, List.length_take]; rfl)) ?_; (with_reducible refine (kerbsuitedata_Service.calls t193 t195 t196 t197 _ A16.out).mono ?_); rintro e w18 ⟨rfl, hb⟩; refine ⟨_, rfl, ?_⟩; have n0_ := Aside0.mk (IsS52.below (by repeat (first | (with_reducible first | exact HI0.out | apply IsS52.alloc | apply IsS52.drewN | apply IsS52.drew | apply IsS52.set_1 | refine IsS52.far ?_ NB0_184.out _ | refine IsS52.far ?_ NB0_190.out _) | exact HI0.out)) hb); have n1_ := Aside0.mk (blk_below (g := gb184) (o := .cells #[.string (⟨#[]⟩ : ByteArray), .string (⟨#[]⟩ : ByteArray), .int .u64 0, .int .i64 0, .int .i64 0, .int .i64 0, .int .i64 0, .int .i64 0, .int .i64 0] 35 (0, 0)) (bk_ BK184.out) hb); have n2_ := Aside0.mk (blk_below (g := gb190) (o := .cells #[.string t187, .string t188, .string t189] 41 (0, 0)) (bk_ BK190.out) hb); have n3_ := Aside0.mk (KeepBut.trans (by repeat (first | (with_reducible first | exact HK.out | apply KeepBut.set_ | apply keep_drewN | apply keep_drew | apply keep_alloc | refine keep_far ?_ GW184.out _ | refine keep_far ?_ GW190.out _) | exact HK.out)) (KeepBut.of_below hb g none) (.inl rfl)); have n4_ := Aside0.mk (below_step (by repeat (first | (with_reducible first | exact HB.out | apply bA_ | apply bN_ | apply bD_ | refine bS_ ?_ (IsS52.ge HI0.out) | refine bS_ ?_ GE184.out | refine bS_ ?_ GE190.out) | exact HB.out)) hb); clear HI0 BK184 BK190 HK HB; have HI0 := n0_; have BK184 := n1_; have BK190 := n2_; have HK := n3_; have HB := n4_; clear n0_ n1_ n2_ n3_ n4_; (try clear hb); (try clear hb2); (try clear hk); (try clear hi); have hnb19 := NB190_184.out; have hnc19 := NB184_190.out; have hnb20 := NB190_0.out; have hnc20 := NB0_190.out; have hcz21_0 : w18.cell? ⟨gb190, 0, none⟩ = some (.string t187) := (blk_cell BK190.out 0).trans rfl; have hcz21_1 : w18.cell? ⟨gb190, 1, none⟩ = some (.string t188) := (blk_cell BK190.out 1).trans rfl; have hcz21_2 : w18.cell? ⟨gb190, 2, none⟩ = some (.string t189) := (blk_cell BK190.out 2).trans rfl; have hfz21_0 := blk_frozen BK190.out 0; have hfz21_1 := blk_frozen BK190.out 1; have hfz21_2 := blk_frozen BK190.out 2))
   go_meet
   case rel => exact ⟨_, (t194), (t195), (t196), (t197), H', ⟨by first | omega | exact Nat.le_refl _⟩, ⟨by refine bk_ ?_; refine blk_far ?_ NB184_190.out _; refine bk_ ?_; refine blk_far ?_ NB184_190.out _; refine bk_ ?_; refine blk_far ?_ NB184_190.out _; refine bk_ ?_; exact BK184.out⟩, ⟨by refine bk_ ?_; refine blk_put (cs := #[.string t195, .string t196, .string t189]) ?_ 2 _ rfl; refine bk_ ?_; refine blk_put (cs := #[.string t195, .string t188, .string t189]) ?_ 1 _ rfl; refine bk_ ?_; refine blk_put (cs := #[.string t187, .string t188, .string t189]) ?_ 0 _ rfl; refine bk_ ?_; exact BK190.out⟩, ⟨by repeat (first | (with_reducible first | exact HI0.out | apply IsS52.alloc | apply IsS52.drewN | apply IsS52.drew | apply IsS52.set_1 | refine IsS52.far ?_ NB0_184.out _ | refine IsS52.far ?_ NB0_190.out _) | exact HI0.out)⟩, ⟨by repeat (first | (with_reducible first | exact HK.out | apply KeepBut.set_ | apply keep_drewN | apply keep_drew | apply keep_alloc | refine keep_far ?_ GW184.out _ | refine keep_far ?_ GW190.out _) | exact HK.out)⟩, ⟨by repeat (first | (with_reducible first | exact HB.out | apply bA_ | apply bN_ | apply bD_ | refine bS_ ?_ (IsS52.ge HI0.out) | refine bS_ ?_ GE184.out | refine bS_ ?_ GE190.out) | exact HB.out)⟩⟩
  rw [if_neg c14] at H
  have c14b0 : (t191 == 1) = false := beq_eq_false_iff_ne.mpr c14
  have c14b1 : (t191 != 1) = true := bne_iff_ne.mpr c14
  (first | rw [c14b0] | (simp only [i64_w, i32_w]; rw [c14b0]) | skip)
  have H' := Aside0.mk H
  clear H
  go_wp2
  go_meet
  case rel => exact ⟨_, (t192), (t187), (t188), (t189), H', ⟨by first | omega | exact Nat.le_refl _⟩, ⟨by refine bk_ ?_; exact BK184.out⟩, ⟨by refine bk_ ?_; exact BK190.out⟩, ⟨by repeat (first | (with_reducible first | exact HI0.out | apply IsS52.alloc | apply IsS52.drewN | apply IsS52.drew | apply IsS52.set_1 | refine IsS52.far ?_ NB0_184.out _ | refine IsS52.far ?_ NB0_190.out _) | exact HI0.out)⟩, ⟨by repeat (first | (with_reducible first | exact HK.out | apply KeepBut.set_ | apply keep_drewN | apply keep_drew | apply keep_alloc | refine keep_far ?_ GW184.out _ | refine keep_far ?_ GW190.out _) | exact HK.out)⟩, ⟨by repeat (first | (with_reducible first | exact HB.out | apply bA_ | apply bN_ | apply bD_ | refine bS_ ?_ (IsS52.ge HI0.out) | refine bS_ ?_ GE184.out | refine bS_ ?_ GE190.out) | exact HB.out)⟩⟩
 case rest =>
  clear HC5
  try clear c1
  try clear c2
  try clear p2
  try clear c4
  try clear c10
  try clear c11
  try clear c14
  try clear c14b0
  try clear c14b1
  try clear c16
  try clear c17
  try clear c19
  try clear c20
  try clear hcz12_0
  try clear hcz12_1
  try clear hcz12_2
  try clear hcz21_0
  try clear hcz21_1
  try clear hcz21_2
  try clear hfz12_0
  try clear hfz12_1
  try clear hfz12_2
  try clear hfz21_0
  try clear hfz21_1
  try clear hfz21_2
  obtain ⟨kq, x1001_4, x191000_4, x191001_4, x191002_4, HA, HJ4, BK184, BK190, HI0, HK, HB⟩ := hcut
  cases kq with
  | zero => exact absurd HA.out (by simp [kerbsuitedata_Entry.j0])
  | succ kj4 =>
   have H := HA.out
   clear HA
   simp only [kerbsuitedata_Entry.j0] at H
   replace H := Option.bind_eq_some_iff.mp H
   obtain ⟨⟨t198, t199⟩, A220, H⟩ := H
   replace H : ((kerbsuitedata_Long.f t198).bind fun t200 => ((kerbsuitedata_Source_Next.f s0_0 t199 256).bind fun bt201 => ((kerbsuitedata_Source_Next.f s0_0 bt201.2 256).bind fun bt203 => ((kerbsuitedata_Source_Next.f s0_0 bt203.2 5).bind fun bt205 => ((kerbsuitedata_Source_Next.f s0_0 bt205.2 4).bind fun bt207 => ((kerbsuitedata_Source_Next.f s0_0 bt207.2 21).bind fun bt209 => ((kerbsuitedata_Source_Next.f s0_0 bt209.2 5).bind fun bt212 => (if bt212.1 = 4 then ((kerbsuitedata_Source_Next.f s0_0 bt212.2 256).bind fun bt214 => (kerbsuitedata_Entry.j1 kj4 s0_0 bt214.2 x191000_4 x191001_4 t200 bt201.1 (wrap64 (bt214.1 * 200)) bt203.1 (wrap64 ((wrap64 (Int.tdiv bt205.1 4)) * bt207.1)) bt209.1 0)) else (kerbsuitedata_Entry.j1 kj4 s0_0 bt212.2 x191000_4 x191001_4 t200 bt201.1 0 bt203.1 (wrap64 ((wrap64 (Int.tdiv bt205.1 4)) * bt207.1)) bt209.1 0))))))))) = some (r1, r2, r3, r4, r5, r6, r7, r8, r9, r10) := H
   have A22 := Aside0.mk A220
   clear A220
   replace H := Option.bind_eq_some_iff.mp H
   obtain ⟨t200, A230, H⟩ := H
   replace H : ((kerbsuitedata_Source_Next.f s0_0 t199 256).bind fun bt201 => ((kerbsuitedata_Source_Next.f s0_0 bt201.2 256).bind fun bt203 => ((kerbsuitedata_Source_Next.f s0_0 bt203.2 5).bind fun bt205 => ((kerbsuitedata_Source_Next.f s0_0 bt205.2 4).bind fun bt207 => ((kerbsuitedata_Source_Next.f s0_0 bt207.2 21).bind fun bt209 => ((kerbsuitedata_Source_Next.f s0_0 bt209.2 5).bind fun bt212 => (if bt212.1 = 4 then ((kerbsuitedata_Source_Next.f s0_0 bt212.2 256).bind fun bt214 => (kerbsuitedata_Entry.j1 kj4 s0_0 bt214.2 x191000_4 x191001_4 t200 bt201.1 (wrap64 (bt214.1 * 200)) bt203.1 (wrap64 ((wrap64 (Int.tdiv bt205.1 4)) * bt207.1)) bt209.1 0)) else (kerbsuitedata_Entry.j1 kj4 s0_0 bt212.2 x191000_4 x191001_4 t200 bt201.1 0 bt203.1 (wrap64 ((wrap64 (Int.tdiv bt205.1 4)) * bt207.1)) bt209.1 0)))))))) = some (r1, r2, r3, r4, r5, r6, r7, r8, r9, r10) := H
   have A23 := Aside0.mk A230
   clear A230
   replace H := Option.bind_eq_some_iff.mp H
   obtain ⟨⟨t201, t202⟩, A240, H⟩ := H
   replace H : ((kerbsuitedata_Source_Next.f s0_0 t202 256).bind fun bt203 => ((kerbsuitedata_Source_Next.f s0_0 bt203.2 5).bind fun bt205 => ((kerbsuitedata_Source_Next.f s0_0 bt205.2 4).bind fun bt207 => ((kerbsuitedata_Source_Next.f s0_0 bt207.2 21).bind fun bt209 => ((kerbsuitedata_Source_Next.f s0_0 bt209.2 5).bind fun bt212 => (if bt212.1 = 4 then ((kerbsuitedata_Source_Next.f s0_0 bt212.2 256).bind fun bt214 => (kerbsuitedata_Entry.j1 kj4 s0_0 bt214.2 x191000_4 x191001_4 t200 t201 (wrap64 (bt214.1 * 200)) bt203.1 (wrap64 ((wrap64 (Int.tdiv bt205.1 4)) * bt207.1)) bt209.1 0)) else (kerbsuitedata_Entry.j1 kj4 s0_0 bt212.2 x191000_4 x191001_4 t200 t201 0 bt203.1 (wrap64 ((wrap64 (Int.tdiv bt205.1 4)) * bt207.1)) bt209.1 0))))))) = some (r1, r2, r3, r4, r5, r6, r7, r8, r9, r10) := H
   have A24 := Aside0.mk A240
   clear A240
   replace H := Option.bind_eq_some_iff.mp H
   obtain ⟨⟨t203, t204⟩, A250, H⟩ := H
   replace H : ((kerbsuitedata_Source_Next.f s0_0 t204 5).bind fun bt205 => ((kerbsuitedata_Source_Next.f s0_0 bt205.2 4).bind fun bt207 => ((kerbsuitedata_Source_Next.f s0_0 bt207.2 21).bind fun bt209 => ((kerbsuitedata_Source_Next.f s0_0 bt209.2 5).bind fun bt212 => (if bt212.1 = 4 then ((kerbsuitedata_Source_Next.f s0_0 bt212.2 256).bind fun bt214 => (kerbsuitedata_Entry.j1 kj4 s0_0 bt214.2 x191000_4 x191001_4 t200 t201 (wrap64 (bt214.1 * 200)) t203 (wrap64 ((wrap64 (Int.tdiv bt205.1 4)) * bt207.1)) bt209.1 0)) else (kerbsuitedata_Entry.j1 kj4 s0_0 bt212.2 x191000_4 x191001_4 t200 t201 0 t203 (wrap64 ((wrap64 (Int.tdiv bt205.1 4)) * bt207.1)) bt209.1 0)))))) = some (r1, r2, r3, r4, r5, r6, r7, r8, r9, r10) := H
   have A25 := Aside0.mk A250
   clear A250
   replace H := Option.bind_eq_some_iff.mp H
   obtain ⟨⟨t205, t206⟩, A260, H⟩ := H
   replace H : ((kerbsuitedata_Source_Next.f s0_0 t206 4).bind fun bt207 => ((kerbsuitedata_Source_Next.f s0_0 bt207.2 21).bind fun bt209 => ((kerbsuitedata_Source_Next.f s0_0 bt209.2 5).bind fun bt212 => (if bt212.1 = 4 then ((kerbsuitedata_Source_Next.f s0_0 bt212.2 256).bind fun bt214 => (kerbsuitedata_Entry.j1 kj4 s0_0 bt214.2 x191000_4 x191001_4 t200 t201 (wrap64 (bt214.1 * 200)) t203 (wrap64 ((wrap64 (Int.tdiv t205 4)) * bt207.1)) bt209.1 0)) else (kerbsuitedata_Entry.j1 kj4 s0_0 bt212.2 x191000_4 x191001_4 t200 t201 0 t203 (wrap64 ((wrap64 (Int.tdiv t205 4)) * bt207.1)) bt209.1 0))))) = some (r1, r2, r3, r4, r5, r6, r7, r8, r9, r10) := H
   have A26 := Aside0.mk A260
   clear A260
   replace H := Option.bind_eq_some_iff.mp H
   obtain ⟨⟨t207, t208⟩, A270, H⟩ := H
   replace H : ((kerbsuitedata_Source_Next.f s0_0 t208 21).bind fun bt209 => ((kerbsuitedata_Source_Next.f s0_0 bt209.2 5).bind fun bt212 => (if bt212.1 = 4 then ((kerbsuitedata_Source_Next.f s0_0 bt212.2 256).bind fun bt214 => (kerbsuitedata_Entry.j1 kj4 s0_0 bt214.2 x191000_4 x191001_4 t200 t201 (wrap64 (bt214.1 * 200)) t203 (wrap64 ((wrap64 (Int.tdiv t205 4)) * t207)) bt209.1 0)) else (kerbsuitedata_Entry.j1 kj4 s0_0 bt212.2 x191000_4 x191001_4 t200 t201 0 t203 (wrap64 ((wrap64 (Int.tdiv t205 4)) * t207)) bt209.1 0)))) = some (r1, r2, r3, r4, r5, r6, r7, r8, r9, r10) := H
   have A27 := Aside0.mk A270
   clear A270
   replace H := Option.bind_eq_some_iff.mp H
   obtain ⟨⟨t209, t210⟩, A280, H⟩ := H
   replace H : ((kerbsuitedata_Source_Next.f s0_0 t210 5).bind fun bt212 => (if bt212.1 = 4 then ((kerbsuitedata_Source_Next.f s0_0 bt212.2 256).bind fun bt214 => (kerbsuitedata_Entry.j1 kj4 s0_0 bt214.2 x191000_4 x191001_4 t200 t201 (wrap64 (bt214.1 * 200)) t203 (wrap64 ((wrap64 (Int.tdiv t205 4)) * t207)) t209 0)) else (kerbsuitedata_Entry.j1 kj4 s0_0 bt212.2 x191000_4 x191001_4 t200 t201 0 t203 (wrap64 ((wrap64 (Int.tdiv t205 4)) * t207)) t209 0))) = some (r1, r2, r3, r4, r5, r6, r7, r8, r9, r10) := H
   have A28 := Aside0.mk A280
   clear A280
   replace H := Option.bind_eq_some_iff.mp H
   obtain ⟨⟨t212, t213⟩, A290, H⟩ := H
   replace H : (if t212 = 4 then ((kerbsuitedata_Source_Next.f s0_0 t213 256).bind fun bt214 => (kerbsuitedata_Entry.j1 kj4 s0_0 bt214.2 x191000_4 x191001_4 t200 t201 (wrap64 (bt214.1 * 200)) t203 (wrap64 ((wrap64 (Int.tdiv t205 4)) * t207)) t209 0)) else (kerbsuitedata_Entry.j1 kj4 s0_0 t213 x191000_4 x191001_4 t200 t201 0 t203 (wrap64 ((wrap64 (Int.tdiv t205 4)) * t207)) t209 0)) = some (r1, r2, r3, r4, r5, r6, r7, r8, r9, r10) := H
   have A29 := Aside0.mk A290
   clear A290
   have HC30 := Aside0.mk H
   clear H
   try go_upto_region 4 with fail
   have n0_ := Aside0.mk (blk_drew BK184.out)
   have n1_ := Aside0.mk (blk_drew BK190.out)
   have n2_ := Aside0.mk (IsS52.drew HI0.out)
   have n3_ := Aside0.mk (keep_drew HK.out)
   have n4_ := Aside0.mk (bD_ HB.out)
   clear BK184 BK190 HI0 HK HB
   have BK184 := n0_
   have BK190 := n1_
   have HI0 := n2_
   have HK := n3_
   have HB := n4_
   clear n0_ n1_ n2_ n3_ n4_
   refine start_ (n := 22) (S := fun w' => w'.cell? ⟨gb190, 0, none⟩ = some (.string x191000_4) ∧ w'.cell? ⟨gb190, 1, none⟩ = some (.string x191001_4) ∧ w'.cell? ⟨gb190, 2, none⟩ = some (.string x191002_4)) (ds := []) #[false,false,false,false,false,false,false,false,false,false,false,false,false,false,false,false,false,false,false,false,false,false] (by kernel_rfl) rfl rfl ⟨(blk_cell BK190.out 0).trans rfl, (blk_cell BK190.out 1).trans rfl, (blk_cell BK190.out 2).trans rfl⟩ (fun hHeld => ?_); refine with_tabW kerbsuitedata_Entry.tab4 kerbsuitedata_Entry.bits4 (fun HT_ HW_ => ?_)
   generalize wc.drew = w31 at BK184 BK190 HI0 HK HB hHeld ⊢
   refine pure_ (i := 0) (N := some 14) (v := ?_) (a' := ?_) (bo_ 22 1) rfl rfl (any_of HT_.out (by kernel_rfl)) (fun _ _ _ h => h) (Or.inl ⟨by rfl, ?_⟩) ?_ ?_
   rotate_left; (· intro w'; go_simp; with_reducible rfl)
   rotate_left; (· simp only [Act.put,sA_,sB_,sC_,i64_w,i32_w]; rfl)
   refine pure_ (i := 2) (N := some 16) (v := ?_) (a' := ?_) (bo_ 22 5) rfl rfl (any_of HT_.out (by kernel_rfl)) (fun _ _ _ h => h) (Or.inl ⟨by rfl, ?_⟩) ?_ ?_
   rotate_left; (· intro w'; go_simp; with_reducible rfl)
   rotate_left; (· simp only [Act.put,sA_,sB_,sC_,i64_w,i32_w]; rfl)
   refine pure_ (i := 4) (N := some 18) (v := ?_) (a' := ?_) (bo_ 22 21) rfl rfl (any_of HT_.out (by kernel_rfl)) (fun _ _ _ h => h) (Or.inl ⟨by rfl, ?_⟩) ?_ ?_
   rotate_left; (· intro w'; go_simp; with_reducible rfl)
   rotate_left; (· simp only [Act.put,sA_,sB_,sC_,i64_w,i32_w]; rfl)
   refine pure_ (i := 7) (N := some 21) (v := ?_) (a' := ?_) (bo_ 22 149) rfl rfl (any_of HT_.out (by kernel_rfl)) (fun _ _ _ h => h) (Or.inl ⟨by rfl, ?_⟩) ?_ ?_
   rotate_left; (· intro w'; go_simp; with_reducible rfl)
   rotate_left; (· simp only [Act.put,sA_,sB_,sC_,i64_w,i32_w]; rfl)
   refine pure_ (i := 9) (N := some 23) (v := ?_) (a' := ?_) (bo_ 22 661) rfl rfl (any_of HT_.out (by kernel_rfl)) (fun _ _ _ h => h) (Or.inl ⟨by rfl, ?_⟩) ?_ ?_
   rotate_left; (· intro w'; go_simp; with_reducible rfl)
   rotate_left; (· simp only [Act.put,sA_,sB_,sC_,i64_w,i32_w]; rfl)
   refine pure_ (i := 11) (N := some 25) (v := ?_) (a' := ?_) (bo_ 22 2709) rfl rfl (any_of HT_.out (by kernel_rfl)) (fun _ _ _ h => h) (Or.inl ⟨by rfl, ?_⟩) ?_ ?_
   rotate_left; (· intro w'; go_simp; with_reducible rfl)
   rotate_left; (· simp only [Act.put,sA_,sB_,sC_,i64_w,i32_w]; rfl)
   refine pure_ (i := 14) (N := some 28) (v := ?_) (a' := ?_) (bo_ 22 19093) rfl rfl (any_of HT_.out (by kernel_rfl)) (fun _ _ _ h => h) (Or.inl ⟨by rfl, ?_⟩) ?_ ?_
   rotate_left; (· intro w'; go_simp; with_reducible rfl)
   rotate_left; (· simp only [Act.put,sA_,sB_,sC_,i64_w,i32_w]; rfl)
   refine pure_ (i := 17) (N := some 31) (v := ?_) (a' := ?_) (bo_ 22 150165) rfl rfl (any_of HT_.out (by kernel_rfl)) (fun _ _ _ h => h) (Or.inl ⟨by rfl, ?_⟩) ?_ ?_
   rotate_left; (· intro w'; go_simp; with_reducible rfl)
   rotate_left; (· simp only [Act.put,sA_,sB_,sC_,i64_w,i32_w]; rfl)
   refine take_ (i := 1) (N := some 15) (v := ?_) (a' := ?_) (bo_ 22 150167) rfl rfl (take_ofW HT_.out HW_.out (by kernel_rfl)) (fun _ _ _ h => h) (Or.inl ⟨by rfl, ?_⟩) hHeld ?_ ?_
   rotate_left; (· rintro w' ⟨s0, s1, s2⟩; go_simp; with_reducible rfl)
   rotate_left; (· simp only [Act.put,sA_,sB_,sC_,i64_w,i32_w]; rfl)
   refine take_ (i := 3) (N := some 17) (v := ?_) (a' := ?_) (bo_ 22 150175) rfl rfl (take_ofW HT_.out HW_.out (by kernel_rfl)) (fun _ _ _ h => h) (Or.inl ⟨by rfl, ?_⟩) hHeld ?_ ?_
   rotate_left; (· rintro w' ⟨s0, s1, s2⟩; go_simp; with_reducible rfl)
   rotate_left; (· simp only [Act.put,sA_,sB_,sC_,i64_w,i32_w]; rfl)
   refine join_ (σ := Nat) 1 #[true,true,true,true,true,true,true,true,true,true,true,true,true,true,true,true,true,true,true,true,true,false] (fun s_ => [(19, .int .i64 t198), (20, .int .u64 t200), (22, .int .i64 t201), (24, .int .i64 t203), (26, .int .i64 t205), (29, .int .i64 t207), (32, .int .i64 t209), (4, .pointer (some ⟨s_, 0, none⟩)), (27, .int .i64 (wrap64 (Int.tdiv t205 4))), (30, .int .i64 (wrap64 ((wrap64 (Int.tdiv t205 4)) * t207))), (33, .agg #[.string x191000_4, .string x191001_4, .int .u64 t200, .int .i64 t201, .int .i64 0, .int .i64 t203, .int .i64 (wrap64 ((wrap64 (Int.tdiv t205 4)) * t207)), .int .i64 t209, .int .i64 0])]) (fun s_ w' => (w'.cell? ⟨gb190, 0, none⟩ = some (.string x191000_4) ∧ w'.cell? ⟨gb190, 1, none⟩ = some (.string x191001_4) ∧ w'.cell? ⟨gb190, 2, none⟩ = some (.string x191002_4)) ∧ (w'.heap[gb184]? = some (.cells #[.string (⟨#[]⟩ : ByteArray), .string (⟨#[]⟩ : ByteArray), .int .u64 0, .int .i64 0, .int .i64 0, .int .i64 0, .int .i64 0, .int .i64 0, .int .i64 0] 35 (0, 0))) ∧ (w'.heap[gb190]? = some (.cells #[.string x191000_4, .string x191001_4, .string x191002_4] 41 (0, 0))) ∧ (w'.heap[s_]? = some (.cells #[.string (⟨#[]⟩ : ByteArray), .string (⟨#[]⟩ : ByteArray), .int .u64 0, .int .i64 0, .int .i64 0, .int .i64 0, .int .i64 0, .int .i64 0, .int .i64 0] 35 (0, 0))) ∧ (w.heap.size ≤ s_) ∧ (w0.heap.size ≤ s_) ∧ (g ≠ s_) ∧ (s_ ≠ g) ∧ (gb184 ≠ s_) ∧ (s_ ≠ gb184) ∧ (gb190 ≠ s_) ∧ (s_ ≠ gb190) ∧ (IsS52 w0 w' g s0_0 t210) ∧ (KeepBut w w' g none) ∧ (Below w0.heap.size w0 w')) ?_ ?_
   rotate_left
   ·intro hJ5_6_8_10_12_15_18_20
    refine join_ (σ := Unit) 2 #[true,true,true,true,true,true,true,true,true,true,true,true,true,true,true,true,true,true,true,true,false,false] (fun s_ => [(19, .int .i64 t198), (20, .int .u64 t200), (22, .int .i64 t201), (24, .int .i64 t203), (26, .int .i64 t205), (29, .int .i64 t207), (32, .int .i64 t209), (27, .int .i64 (wrap64 (Int.tdiv t205 4))), (30, .int .i64 (wrap64 ((wrap64 (Int.tdiv t205 4)) * t207))), (33, .agg #[.string x191000_4, .string x191001_4, .int .u64 t200, .int .i64 t201, .int .i64 0, .int .i64 t203, .int .i64 (wrap64 ((wrap64 (Int.tdiv t205 4)) * t207)), .int .i64 t209, .int .i64 0])]) (fun s_ w' => (w'.cell? ⟨gb190, 0, none⟩ = some (.string x191000_4) ∧ w'.cell? ⟨gb190, 1, none⟩ = some (.string x191001_4) ∧ w'.cell? ⟨gb190, 2, none⟩ = some (.string x191002_4)) ∧ (w'.heap[gb184]? = some (.cells #[.string (⟨#[]⟩ : ByteArray), .string (⟨#[]⟩ : ByteArray), .int .u64 0, .int .i64 0, .int .i64 0, .int .i64 0, .int .i64 0, .int .i64 0, .int .i64 0] 35 (0, 0))) ∧ (w'.heap[gb190]? = some (.cells #[.string x191000_4, .string x191001_4, .string x191002_4] 41 (0, 0))) ∧ (IsS52 w0 w' g s0_0 t210) ∧ (KeepBut w w' g none) ∧ (Below w0.heap.size w0 w')) ?_ ?_
    rotate_left
    ·intro hJ5_6_8_10_12_15_18
     refine join_ (σ := Nat) 3 #[true,true,true,true,true,true,true,true,true,true,true,true,true,true,true,true,true,true,false,false,true,false] (fun s_ => [(19, .int .i64 t198), (20, .int .u64 t200), (22, .int .i64 t201), (24, .int .i64 t203), (26, .int .i64 t205), (29, .int .i64 t207), (4, .pointer (some ⟨s_, 0, none⟩)), (27, .int .i64 (wrap64 (Int.tdiv t205 4))), (30, .int .i64 (wrap64 ((wrap64 (Int.tdiv t205 4)) * t207)))]) (fun s_ w' => (w'.cell? ⟨gb190, 0, none⟩ = some (.string x191000_4) ∧ w'.cell? ⟨gb190, 1, none⟩ = some (.string x191001_4) ∧ w'.cell? ⟨gb190, 2, none⟩ = some (.string x191002_4)) ∧ (w'.heap[gb184]? = some (.cells #[.string (⟨#[]⟩ : ByteArray), .string (⟨#[]⟩ : ByteArray), .int .u64 0, .int .i64 0, .int .i64 0, .int .i64 0, .int .i64 0, .int .i64 0, .int .i64 0] 35 (0, 0))) ∧ (w'.heap[gb190]? = some (.cells #[.string x191000_4, .string x191001_4, .string x191002_4] 41 (0, 0))) ∧ (w'.heap[s_]? = some (.cells #[.string (⟨#[]⟩ : ByteArray), .string (⟨#[]⟩ : ByteArray), .int .u64 0, .int .i64 0, .int .i64 0, .int .i64 0, .int .i64 0, .int .i64 0, .int .i64 0] 35 (0, 0))) ∧ (w.heap.size ≤ s_) ∧ (w0.heap.size ≤ s_) ∧ (g ≠ s_) ∧ (s_ ≠ g) ∧ (gb184 ≠ s_) ∧ (s_ ≠ gb184) ∧ (gb190 ≠ s_) ∧ (s_ ≠ gb190) ∧ (IsS52 w0 w' g s0_0 t208) ∧ (KeepBut w w' g none) ∧ (Below w0.heap.size w0 w')) ?_ ?_
     rotate_left
     ·intro hJ5_6_8_10_12_15_20
      refine join_ (σ := Unit) 4 #[true,true,true,true,true,true,true,true,true,true,true,true,true,true,true,true,true,true,false,false,false,false] (fun s_ => [(19, .int .i64 t198), (20, .int .u64 t200), (22, .int .i64 t201), (24, .int .i64 t203), (26, .int .i64 t205), (29, .int .i64 t207), (27, .int .i64 (wrap64 (Int.tdiv t205 4))), (30, .int .i64 (wrap64 ((wrap64 (Int.tdiv t205 4)) * t207)))]) (fun s_ w' => (w'.cell? ⟨gb190, 0, none⟩ = some (.string x191000_4) ∧ w'.cell? ⟨gb190, 1, none⟩ = some (.string x191001_4) ∧ w'.cell? ⟨gb190, 2, none⟩ = some (.string x191002_4)) ∧ (w'.heap[gb184]? = some (.cells #[.string (⟨#[]⟩ : ByteArray), .string (⟨#[]⟩ : ByteArray), .int .u64 0, .int .i64 0, .int .i64 0, .int .i64 0, .int .i64 0, .int .i64 0, .int .i64 0] 35 (0, 0))) ∧ (w'.heap[gb190]? = some (.cells #[.string x191000_4, .string x191001_4, .string x191002_4] 41 (0, 0))) ∧ (IsS52 w0 w' g s0_0 t208) ∧ (KeepBut w w' g none) ∧ (Below w0.heap.size w0 w')) ?_ ?_
      rotate_left
      ·intro hJ5_6_8_10_12_15
       refine join_ (σ := Nat) 5 #[true,true,true,true,true,true,true,true,true,true,true,true,true,true,true,false,false,true,false,false,true,false] (fun s_ => [(19, .int .i64 t198), (20, .int .u64 t200), (22, .int .i64 t201), (24, .int .i64 t203), (26, .int .i64 t205), (4, .pointer (some ⟨s_, 0, none⟩)), (27, .int .i64 (wrap64 (Int.tdiv t205 4)))]) (fun s_ w' => (w'.cell? ⟨gb190, 0, none⟩ = some (.string x191000_4) ∧ w'.cell? ⟨gb190, 1, none⟩ = some (.string x191001_4) ∧ w'.cell? ⟨gb190, 2, none⟩ = some (.string x191002_4)) ∧ (w'.heap[gb184]? = some (.cells #[.string (⟨#[]⟩ : ByteArray), .string (⟨#[]⟩ : ByteArray), .int .u64 0, .int .i64 0, .int .i64 0, .int .i64 0, .int .i64 0, .int .i64 0, .int .i64 0] 35 (0, 0))) ∧ (w'.heap[gb190]? = some (.cells #[.string x191000_4, .string x191001_4, .string x191002_4] 41 (0, 0))) ∧ (w'.heap[s_]? = some (.cells #[.string (⟨#[]⟩ : ByteArray), .string (⟨#[]⟩ : ByteArray), .int .u64 0, .int .i64 0, .int .i64 0, .int .i64 0, .int .i64 0, .int .i64 0, .int .i64 0] 35 (0, 0))) ∧ (w.heap.size ≤ s_) ∧ (w0.heap.size ≤ s_) ∧ (g ≠ s_) ∧ (s_ ≠ g) ∧ (gb184 ≠ s_) ∧ (s_ ≠ gb184) ∧ (gb190 ≠ s_) ∧ (s_ ≠ gb190) ∧ (IsS52 w0 w' g s0_0 t206) ∧ (KeepBut w w' g none) ∧ (Below w0.heap.size w0 w')) ?_ ?_
       rotate_left
       ·intro hJ5_6_8_10_12_20
        refine join_ (σ := Unit) 6 #[true,true,true,true,true,true,true,true,true,true,true,true,true,true,true,false,false,true,false,false,false,false] (fun s_ => [(19, .int .i64 t198), (20, .int .u64 t200), (22, .int .i64 t201), (24, .int .i64 t203), (26, .int .i64 t205), (27, .int .i64 (wrap64 (Int.tdiv t205 4)))]) (fun s_ w' => (w'.cell? ⟨gb190, 0, none⟩ = some (.string x191000_4) ∧ w'.cell? ⟨gb190, 1, none⟩ = some (.string x191001_4) ∧ w'.cell? ⟨gb190, 2, none⟩ = some (.string x191002_4)) ∧ (w'.heap[gb184]? = some (.cells #[.string (⟨#[]⟩ : ByteArray), .string (⟨#[]⟩ : ByteArray), .int .u64 0, .int .i64 0, .int .i64 0, .int .i64 0, .int .i64 0, .int .i64 0, .int .i64 0] 35 (0, 0))) ∧ (w'.heap[gb190]? = some (.cells #[.string x191000_4, .string x191001_4, .string x191002_4] 41 (0, 0))) ∧ (IsS52 w0 w' g s0_0 t206) ∧ (KeepBut w w' g none) ∧ (Below w0.heap.size w0 w')) ?_ ?_
        rotate_left
        ·intro hJ5_6_8_10_12
         refine join_ (σ := Nat) 7 #[true,true,true,true,true,true,true,true,true,true,true,true,false,false,true,false,false,true,false,false,true,false] (fun s_ => [(19, .int .i64 t198), (20, .int .u64 t200), (22, .int .i64 t201), (24, .int .i64 t203), (4, .pointer (some ⟨s_, 0, none⟩))]) (fun s_ w' => (w'.cell? ⟨gb190, 0, none⟩ = some (.string x191000_4) ∧ w'.cell? ⟨gb190, 1, none⟩ = some (.string x191001_4) ∧ w'.cell? ⟨gb190, 2, none⟩ = some (.string x191002_4)) ∧ (w'.heap[gb184]? = some (.cells #[.string (⟨#[]⟩ : ByteArray), .string (⟨#[]⟩ : ByteArray), .int .u64 0, .int .i64 0, .int .i64 0, .int .i64 0, .int .i64 0, .int .i64 0, .int .i64 0] 35 (0, 0))) ∧ (w'.heap[gb190]? = some (.cells #[.string x191000_4, .string x191001_4, .string x191002_4] 41 (0, 0))) ∧ (w'.heap[s_]? = some (.cells #[.string (⟨#[]⟩ : ByteArray), .string (⟨#[]⟩ : ByteArray), .int .u64 0, .int .i64 0, .int .i64 0, .int .i64 0, .int .i64 0, .int .i64 0, .int .i64 0] 35 (0, 0))) ∧ (w.heap.size ≤ s_) ∧ (w0.heap.size ≤ s_) ∧ (g ≠ s_) ∧ (s_ ≠ g) ∧ (gb184 ≠ s_) ∧ (s_ ≠ gb184) ∧ (gb190 ≠ s_) ∧ (s_ ≠ gb190) ∧ (IsS52 w0 w' g s0_0 t204) ∧ (KeepBut w w' g none) ∧ (Below w0.heap.size w0 w')) ?_ ?_
         rotate_left
         ·intro hJ5_6_8_10_20
          refine join_ (σ := Unit) 8 #[true,true,true,true,true,true,true,true,true,true,true,true,false,false,true,false,false,true,false,false,false,false] (fun s_ => [(19, .int .i64 t198), (20, .int .u64 t200), (22, .int .i64 t201), (24, .int .i64 t203)]) (fun s_ w' => (w'.cell? ⟨gb190, 0, none⟩ = some (.string x191000_4) ∧ w'.cell? ⟨gb190, 1, none⟩ = some (.string x191001_4) ∧ w'.cell? ⟨gb190, 2, none⟩ = some (.string x191002_4)) ∧ (w'.heap[gb184]? = some (.cells #[.string (⟨#[]⟩ : ByteArray), .string (⟨#[]⟩ : ByteArray), .int .u64 0, .int .i64 0, .int .i64 0, .int .i64 0, .int .i64 0, .int .i64 0, .int .i64 0] 35 (0, 0))) ∧ (w'.heap[gb190]? = some (.cells #[.string x191000_4, .string x191001_4, .string x191002_4] 41 (0, 0))) ∧ (IsS52 w0 w' g s0_0 t204) ∧ (KeepBut w w' g none) ∧ (Below w0.heap.size w0 w')) ?_ ?_
          rotate_left
          ·intro hJ5_6_8_10
           refine join_ (σ := Nat) 8 #[true,true,true,true,true,true,true,true,true,true,false,true,false,false,true,false,false,true,false,false,true,false] (fun s_ => [(19, .int .i64 t198), (20, .int .u64 t200), (22, .int .i64 t201), (4, .pointer (some ⟨s_, 0, none⟩))]) (fun s_ w' => (w'.cell? ⟨gb190, 0, none⟩ = some (.string x191000_4) ∧ w'.cell? ⟨gb190, 1, none⟩ = some (.string x191001_4) ∧ w'.cell? ⟨gb190, 2, none⟩ = some (.string x191002_4)) ∧ (w'.heap[gb184]? = some (.cells #[.string (⟨#[]⟩ : ByteArray), .string (⟨#[]⟩ : ByteArray), .int .u64 0, .int .i64 0, .int .i64 0, .int .i64 0, .int .i64 0, .int .i64 0, .int .i64 0] 35 (0, 0))) ∧ (w'.heap[gb190]? = some (.cells #[.string x191000_4, .string x191001_4, .string x191002_4] 41 (0, 0))) ∧ (w'.heap[s_]? = some (.cells #[.string (⟨#[]⟩ : ByteArray), .string (⟨#[]⟩ : ByteArray), .int .u64 0, .int .i64 0, .int .i64 0, .int .i64 0, .int .i64 0, .int .i64 0, .int .i64 0] 35 (0, 0))) ∧ (w.heap.size ≤ s_) ∧ (w0.heap.size ≤ s_) ∧ (g ≠ s_) ∧ (s_ ≠ g) ∧ (gb184 ≠ s_) ∧ (s_ ≠ gb184) ∧ (gb190 ≠ s_) ∧ (s_ ≠ gb190) ∧ (IsS52 w0 w' g s0_0 t202) ∧ (KeepBut w w' g none) ∧ (Below w0.heap.size w0 w')) ?_ ?_
           rotate_left
           ·intro hJ5_6_8_20
            refine join_ (σ := Unit) 9 #[true,true,true,true,true,true,true,true,true,true,false,true,false,false,true,false,false,true,false,false,false,false] (fun s_ => [(19, .int .i64 t198), (20, .int .u64 t200), (22, .int .i64 t201)]) (fun s_ w' => (w'.cell? ⟨gb190, 0, none⟩ = some (.string x191000_4) ∧ w'.cell? ⟨gb190, 1, none⟩ = some (.string x191001_4) ∧ w'.cell? ⟨gb190, 2, none⟩ = some (.string x191002_4)) ∧ (w'.heap[gb184]? = some (.cells #[.string (⟨#[]⟩ : ByteArray), .string (⟨#[]⟩ : ByteArray), .int .u64 0, .int .i64 0, .int .i64 0, .int .i64 0, .int .i64 0, .int .i64 0, .int .i64 0] 35 (0, 0))) ∧ (w'.heap[gb190]? = some (.cells #[.string x191000_4, .string x191001_4, .string x191002_4] 41 (0, 0))) ∧ (IsS52 w0 w' g s0_0 t202) ∧ (KeepBut w w' g none) ∧ (Below w0.heap.size w0 w')) ?_ ?_
            rotate_left
            ·intro hJ5_6_8
             refine join_ (σ := Nat) 9 #[true,true,true,true,true,true,true,true,false,true,false,true,false,false,true,false,false,true,false,false,true,false] (fun s_ => [(19, .int .i64 t198), (20, .int .u64 t200), (4, .pointer (some ⟨s_, 0, none⟩))]) (fun s_ w' => (w'.cell? ⟨gb190, 0, none⟩ = some (.string x191000_4) ∧ w'.cell? ⟨gb190, 1, none⟩ = some (.string x191001_4) ∧ w'.cell? ⟨gb190, 2, none⟩ = some (.string x191002_4)) ∧ (w'.heap[gb184]? = some (.cells #[.string (⟨#[]⟩ : ByteArray), .string (⟨#[]⟩ : ByteArray), .int .u64 0, .int .i64 0, .int .i64 0, .int .i64 0, .int .i64 0, .int .i64 0, .int .i64 0] 35 (0, 0))) ∧ (w'.heap[gb190]? = some (.cells #[.string x191000_4, .string x191001_4, .string x191002_4] 41 (0, 0))) ∧ (w'.heap[s_]? = some (.cells #[.string (⟨#[]⟩ : ByteArray), .string (⟨#[]⟩ : ByteArray), .int .u64 0, .int .i64 0, .int .i64 0, .int .i64 0, .int .i64 0, .int .i64 0, .int .i64 0] 35 (0, 0))) ∧ (w.heap.size ≤ s_) ∧ (w0.heap.size ≤ s_) ∧ (g ≠ s_) ∧ (s_ ≠ g) ∧ (gb184 ≠ s_) ∧ (s_ ≠ gb184) ∧ (gb190 ≠ s_) ∧ (s_ ≠ gb190) ∧ (IsS52 w0 w' g s0_0 t199) ∧ (KeepBut w w' g none) ∧ (Below w0.heap.size w0 w')) ?_ ?_
             rotate_left
             ·intro hJ5_6_20
              refine join_ (σ := Unit) 10 #[true,true,true,true,true,true,true,true,false,true,false,true,false,false,true,false,false,true,false,false,false,false] (fun s_ => [(19, .int .i64 t198), (20, .int .u64 t200)]) (fun s_ w' => (w'.cell? ⟨gb190, 0, none⟩ = some (.string x191000_4) ∧ w'.cell? ⟨gb190, 1, none⟩ = some (.string x191001_4) ∧ w'.cell? ⟨gb190, 2, none⟩ = some (.string x191002_4)) ∧ (w'.heap[gb184]? = some (.cells #[.string (⟨#[]⟩ : ByteArray), .string (⟨#[]⟩ : ByteArray), .int .u64 0, .int .i64 0, .int .i64 0, .int .i64 0, .int .i64 0, .int .i64 0, .int .i64 0] 35 (0, 0))) ∧ (w'.heap[gb190]? = some (.cells #[.string x191000_4, .string x191001_4, .string x191002_4] 41 (0, 0))) ∧ (IsS52 w0 w' g s0_0 t199) ∧ (KeepBut w w' g none) ∧ (Below w0.heap.size w0 w')) ?_ ?_
              rotate_left
              ·intro hJ5_6
               refine join_ (σ := Nat) 10 #[true,true,true,true,true,true,false,true,false,true,false,true,false,false,true,false,false,true,false,false,true,false] (fun s_ => [(19, .int .i64 t198), (4, .pointer (some ⟨s_, 0, none⟩))]) (fun s_ w' => (w'.cell? ⟨gb190, 0, none⟩ = some (.string x191000_4) ∧ w'.cell? ⟨gb190, 1, none⟩ = some (.string x191001_4) ∧ w'.cell? ⟨gb190, 2, none⟩ = some (.string x191002_4)) ∧ (w'.heap[gb184]? = some (.cells #[.string (⟨#[]⟩ : ByteArray), .string (⟨#[]⟩ : ByteArray), .int .u64 0, .int .i64 0, .int .i64 0, .int .i64 0, .int .i64 0, .int .i64 0, .int .i64 0] 35 (0, 0))) ∧ (w'.heap[gb190]? = some (.cells #[.string x191000_4, .string x191001_4, .string x191002_4] 41 (0, 0))) ∧ (w'.heap[s_]? = some (.cells #[.string (⟨#[]⟩ : ByteArray), .string (⟨#[]⟩ : ByteArray), .int .u64 0, .int .i64 0, .int .i64 0, .int .i64 0, .int .i64 0, .int .i64 0, .int .i64 0] 35 (0, 0))) ∧ (w.heap.size ≤ s_) ∧ (w0.heap.size ≤ s_) ∧ (g ≠ s_) ∧ (s_ ≠ g) ∧ (gb184 ≠ s_) ∧ (s_ ≠ gb184) ∧ (gb190 ≠ s_) ∧ (s_ ≠ gb190) ∧ (IsS52 w0 w' g s0_0 t199) ∧ (KeepBut w w' g none) ∧ (Below w0.heap.size w0 w')) ?_ ?_
               rotate_left
               ·intro hJ5_20
                refine join_ (σ := Unit) 11 #[true,true,true,true,true,true,false,true,false,true,false,true,false,false,true,false,false,true,false,false,false,false] (fun s_ => [(19, .int .i64 t198)]) (fun s_ w' => (w'.cell? ⟨gb190, 0, none⟩ = some (.string x191000_4) ∧ w'.cell? ⟨gb190, 1, none⟩ = some (.string x191001_4) ∧ w'.cell? ⟨gb190, 2, none⟩ = some (.string x191002_4)) ∧ (w'.heap[gb184]? = some (.cells #[.string (⟨#[]⟩ : ByteArray), .string (⟨#[]⟩ : ByteArray), .int .u64 0, .int .i64 0, .int .i64 0, .int .i64 0, .int .i64 0, .int .i64 0, .int .i64 0] 35 (0, 0))) ∧ (w'.heap[gb190]? = some (.cells #[.string x191000_4, .string x191001_4, .string x191002_4] 41 (0, 0))) ∧ (IsS52 w0 w' g s0_0 t199) ∧ (KeepBut w w' g none) ∧ (Below w0.heap.size w0 w')) ?_ ?_
                rotate_left
                ·intro hJ5
                 refine join_ (σ := Nat) 11 #[true,true,true,true,true,false,false,true,false,true,false,true,false,false,true,false,false,true,false,false,true,false] (fun s_ => [(4, .pointer (some ⟨s_, 0, none⟩))]) (fun s_ w' => (w'.cell? ⟨gb190, 0, none⟩ = some (.string x191000_4) ∧ w'.cell? ⟨gb190, 1, none⟩ = some (.string x191001_4) ∧ w'.cell? ⟨gb190, 2, none⟩ = some (.string x191002_4)) ∧ (w'.heap[gb184]? = some (.cells #[.string (⟨#[]⟩ : ByteArray), .string (⟨#[]⟩ : ByteArray), .int .u64 0, .int .i64 0, .int .i64 0, .int .i64 0, .int .i64 0, .int .i64 0, .int .i64 0] 35 (0, 0))) ∧ (w'.heap[gb190]? = some (.cells #[.string x191000_4, .string x191001_4, .string x191002_4] 41 (0, 0))) ∧ (w'.heap[s_]? = some (.cells #[.string (⟨#[]⟩ : ByteArray), .string (⟨#[]⟩ : ByteArray), .int .u64 0, .int .i64 0, .int .i64 0, .int .i64 0, .int .i64 0, .int .i64 0, .int .i64 0] 35 (0, 0))) ∧ (w.heap.size ≤ s_) ∧ (w0.heap.size ≤ s_) ∧ (g ≠ s_) ∧ (s_ ≠ g) ∧ (gb184 ≠ s_) ∧ (s_ ≠ gb184) ∧ (gb190 ≠ s_) ∧ (s_ ≠ gb190) ∧ (IsS52 w0 w' g s0_0 x1001_4) ∧ (KeepBut w w' g none) ∧ (Below w0.heap.size w0 w')) ?_ ?_
                 rotate_left
                 ·intro hJ20
                  refine two_ (i := 5) (j := 20) (Ni := some 19) (Nj := some 4) #[true,true,true,true,true,true,false,true,false,true,false,true,false,false,true,false,false,true,false,false,false,false] #[true,true,true,true,true,false,false,true,false,true,false,true,false,false,true,false,false,true,false,false,true,false] rfl rfl rfl rfl (two_of HT_.out (by kernel_rfl)) (by decide) (by decide) (fun K hK => ?_) (fun K hK => ?_)
                  ·skip
                   refine goes_ Tryd.func49 (by kernel_rfl) rfl #[.pointer (some ⟨g, 0, none⟩), .int .i64 40] (by rfl) rfl rfl (by (try simp only [List.map_toArray, List.map_cons, List.map_nil]); first | done | rfl | (simp only [List.length_drop, List.length_take]; rfl)) ?_
                   with_reducible refine (kerbsuitedata_Source_Next.calls g s0_0 x1001_4 40 t198 t199 w0 _ ?side1 ?side2 A22.out).mono ?_
                   (case side1 => repeat (first | (with_reducible first | exact HI0.out | apply IsS52.alloc | apply IsS52.drewN | apply IsS52.drew | apply IsS52.set_1 | refine IsS52.far ?_ NB0_184.out _ | refine IsS52.far ?_ NB0_190.out _) | exact HI0.out))
                   (case side2 => repeat (first | (with_reducible first | exact HB.out | apply bA_ | apply bN_ | apply bD_ | refine bS_ ?_ (IsS52.ge HI0.out) | refine bS_ ?_ GE184.out | refine bS_ ?_ GE190.out) | exact HB.out))
                   rintro e w32 ⟨rfl, hi, hb, hk⟩
                   refine ⟨_, rfl, ?_⟩
                   have n0_ := Aside0.mk (KeepBut.blk hk (g' := gb184) (o := .cells #[.string (⟨#[]⟩ : ByteArray), .string (⟨#[]⟩ : ByteArray), .int .u64 0, .int .i64 0, .int .i64 0, .int .i64 0, .int .i64 0, .int .i64 0, .int .i64 0] 35 (0, 0)) (bk_ BK184.out) NB184_0.out (by simp))
                   have n1_ := Aside0.mk (KeepBut.blk hk (g' := gb190) (o := .cells #[.string x191000_4, .string x191001_4, .string x191002_4] 41 (0, 0)) (bk_ BK190.out) NB190_0.out (by simp))
                   have n2_ := Aside0.mk (KeepBut.trans (by repeat (first | (with_reducible first | exact HK.out | apply KeepBut.set_ | apply keep_drewN | apply keep_drew | apply keep_alloc | refine keep_far ?_ GW184.out _ | refine keep_far ?_ GW190.out _) | exact HK.out)) hk (.inl rfl))
                   have n3_ := Aside0.mk (hb)
                   have n4_ := Aside0.mk (hi)
                   clear BK184 BK190 HK HB HI0
                   have BK184 := n0_
                   have BK190 := n1_
                   have HK := n2_
                   have HB := n3_
                   have HI0 := n4_
                   clear n0_ n1_ n2_ n3_ n4_
                   (try clear hb)
                   (try clear hb2)
                   (try clear hk)
                   (try clear hi)
                   refine hK.out _ _ ⟨(blk_cell BK190.out 0).trans rfl, (blk_cell BK190.out 1).trans rfl, (blk_cell BK190.out 2).trans rfl⟩ (fun hHeld => ?_)
                   clear hK K
                   refine norm_ (a' := ?_) ?_ ?_
                   rotate_left; (· show Act.put _ (some 19) _ = _; simp only [Act.put,sA_,sB_,sC_,i64_w,i32_w]; rfl)
                   exact norm_ (by first | (simp only [putAll, Act.put, sA_, sB_, sC_]; done) | (simp only [putAll, Act.put, sA_, sB_, sC_]; rfl)) (hJ5 () _ ⟨hHeld, (bk_ BK184.out), (bk_ BK190.out), (by repeat (first | (with_reducible first | exact HI0.out | apply IsS52.alloc | apply IsS52.drewN | apply IsS52.drew | apply IsS52.set_1 | refine IsS52.far ?_ NB0_184.out _ | refine IsS52.far ?_ NB0_190.out _) | exact HI0.out)), (by repeat (first | (with_reducible first | exact HK.out | apply KeepBut.set_ | apply keep_drewN | apply keep_drew | apply keep_alloc | refine keep_far ?_ GW184.out _ | refine keep_far ?_ GW190.out _) | exact HK.out)), (by repeat (first | (with_reducible first | exact HB.out | apply bA_ | apply bN_ | apply bD_ | refine bS_ ?_ (IsS52.ge HI0.out) | refine bS_ ?_ GE184.out | refine bS_ ?_ GE190.out) | exact HB.out))⟩)
                  skip
                  refine box_step ?hg (N := 4) ?hd (cs := #[.string (⟨#[]⟩ : ByteArray), .string (⟨#[]⟩ : ByteArray), .int .u64 0, .int .i64 0, .int .i64 0, .int .i64 0, .int .i64 0, .int .i64 0, .int .i64 0]) (t := 35) ?hr ?_; (case hd => rfl); (case hg => rfl); (case hr => first | (go_simp; done) | (go_simp; rfl))
                  intro gb211 hg w32 hbox hb
                  have n0_ := Aside0.mk (blk_below (g := gb184) (o := .cells #[.string (⟨#[]⟩ : ByteArray), .string (⟨#[]⟩ : ByteArray), .int .u64 0, .int .i64 0, .int .i64 0, .int .i64 0, .int .i64 0, .int .i64 0, .int .i64 0] 35 (0, 0)) (bk_ BK184.out) hb)
                  have n1_ := Aside0.mk (blk_below (g := gb190) (o := .cells #[.string x191000_4, .string x191001_4, .string x191002_4] 41 (0, 0)) (bk_ BK190.out) hb)
                  have n2_ := Aside0.mk (IsS52.below (by repeat (first | (with_reducible first | exact HI0.out | apply IsS52.alloc | apply IsS52.drewN | apply IsS52.drew | apply IsS52.set_1 | refine IsS52.far ?_ NB0_184.out _ | refine IsS52.far ?_ NB0_190.out _) | exact HI0.out)) hb)
                  have n3_ := Aside0.mk (KeepBut.trans (by repeat (first | (with_reducible first | exact HK.out | apply KeepBut.set_ | apply keep_drewN | apply keep_drew | apply keep_alloc | refine keep_far ?_ GW184.out _ | refine keep_far ?_ GW190.out _) | exact HK.out)) (KeepBut.of_below hb g none) (.inl rfl))
                  have n4_ := Aside0.mk (below_step (by repeat (first | (with_reducible first | exact HB.out | apply bA_ | apply bN_ | apply bD_ | refine bS_ ?_ (IsS52.ge HI0.out) | refine bS_ ?_ GE184.out | refine bS_ ?_ GE190.out) | exact HB.out)) hb)
                  have n5_ := Aside0.mk (hbox)
                  have n6_ := Aside0.mk ((by rw [hg]; exact (keep_size (w := w) (g := g) (row := none) (by repeat (first | (with_reducible first | exact HK.out | apply KeepBut.set_ | apply keep_drewN | apply keep_drew | apply keep_alloc | refine keep_far ?_ GW184.out _ | refine keep_far ?_ GW190.out _) | exact HK.out))) : w.heap.size ≤ gb211))
                  have n7_ := Aside0.mk ((Nat.le_trans HW0.out (by rw [hg]; exact (keep_size (w := w) (g := g) (row := none) (by repeat (first | (with_reducible first | exact HK.out | apply KeepBut.set_ | apply keep_drewN | apply keep_drew | apply keep_alloc | refine keep_far ?_ GW184.out _ | refine keep_far ?_ GW190.out _) | exact HK.out))) : w.heap.size ≤ gb211) : w0.heap.size ≤ gb211))
                  have n8_ := Aside0.mk ((by rw [hg]; exact Nat.ne_of_lt (blk_lt (g := gb184) (o := .cells #[.string (⟨#[]⟩ : ByteArray), .string (⟨#[]⟩ : ByteArray), .int .u64 0, .int .i64 0, .int .i64 0, .int .i64 0, .int .i64 0, .int .i64 0, .int .i64 0] 35 (0, 0)) (bk_ BK184.out)) : gb184 ≠ gb211))
                  have n9_ := Aside0.mk ((by rw [hg]; exact Nat.ne_of_gt (blk_lt (g := gb184) (o := .cells #[.string (⟨#[]⟩ : ByteArray), .string (⟨#[]⟩ : ByteArray), .int .u64 0, .int .i64 0, .int .i64 0, .int .i64 0, .int .i64 0, .int .i64 0, .int .i64 0] 35 (0, 0)) (bk_ BK184.out)) : gb211 ≠ gb184))
                  have n10_ := Aside0.mk ((by rw [hg]; exact Nat.ne_of_lt (blk_lt (g := gb190) (o := .cells #[.string x191000_4, .string x191001_4, .string x191002_4] 41 (0, 0)) (bk_ BK190.out)) : gb190 ≠ gb211))
                  have n11_ := Aside0.mk ((by rw [hg]; exact Nat.ne_of_gt (blk_lt (g := gb190) (o := .cells #[.string x191000_4, .string x191001_4, .string x191002_4] 41 (0, 0)) (bk_ BK190.out)) : gb211 ≠ gb190))
                  have n12_ := Aside0.mk ((by rw [hg]; exact Nat.ne_of_lt (IsS52.lt (show IsS52 w0 _ g s0_0 x1001_4 from by repeat (first | (with_reducible first | exact HI0.out | apply IsS52.alloc | apply IsS52.drewN | apply IsS52.drew | apply IsS52.set_1 | refine IsS52.far ?_ NB0_184.out _ | refine IsS52.far ?_ NB0_190.out _) | exact HI0.out))) : g ≠ gb211))
                  have n13_ := Aside0.mk ((by rw [hg]; exact Nat.ne_of_gt (IsS52.lt (show IsS52 w0 _ g s0_0 x1001_4 from by repeat (first | (with_reducible first | exact HI0.out | apply IsS52.alloc | apply IsS52.drewN | apply IsS52.drew | apply IsS52.set_1 | refine IsS52.far ?_ NB0_184.out _ | refine IsS52.far ?_ NB0_190.out _) | exact HI0.out))) : gb211 ≠ g))
                  clear BK184 BK190 HI0 HK HB
                  have BK184 := n0_
                  have BK190 := n1_
                  have HI0 := n2_
                  have HK := n3_
                  have HB := n4_
                  have BK211 := n5_
                  have GW211 := n6_
                  have GE211 := n7_
                  have NB184_211 := n8_
                  have NB211_184 := n9_
                  have NB190_211 := n10_
                  have NB211_190 := n11_
                  have NB0_211 := n12_
                  have NB211_0 := n13_
                  clear n0_ n1_ n2_ n3_ n4_ n5_ n6_ n7_ n8_ n9_ n10_ n11_ n12_ n13_
                  clear hb hbox hg
                  refine hK.out _ _ ⟨(blk_cell BK190.out 0).trans rfl, (blk_cell BK190.out 1).trans rfl, (blk_cell BK190.out 2).trans rfl⟩ (fun hHeld => ?_)
                  clear hK K
                  refine norm_ (a' := ?_) ?_ ?_
                  rotate_left; (· show Act.put _ (some 4) _ = _; simp only [Act.put,sA_,sB_,sC_,i64_w,i32_w]; rfl)
                  exact norm_ (by first | (simp only [putAll, Act.put, sA_, sB_, sC_]; done) | (simp only [putAll, Act.put, sA_, sB_, sC_]; rfl)) (hJ20 (gb211) _ ⟨hHeld, (bk_ BK184.out), (bk_ BK190.out), (bk_ BK211.out), GW211.out, GE211.out, NB0_211.out, NB211_0.out, NB184_211.out, NB211_184.out, NB190_211.out, NB211_190.out, (by repeat (first | (with_reducible first | exact HI0.out | apply IsS52.alloc | apply IsS52.drewN | apply IsS52.drew | apply IsS52.set_1 | refine IsS52.far ?_ NB0_184.out _ | refine IsS52.far ?_ NB0_190.out _ | refine IsS52.far ?_ NB0_211.out _) | exact HI0.out)), (by repeat (first | (with_reducible first | exact HK.out | apply KeepBut.set_ | apply keep_drewN | apply keep_drew | apply keep_alloc | refine keep_far ?_ GW184.out _ | refine keep_far ?_ GW190.out _ | refine keep_far ?_ GW211.out _) | exact HK.out)), (by repeat (first | (with_reducible first | exact HB.out | apply bA_ | apply bN_ | apply bD_ | refine bS_ ?_ (IsS52.ge HI0.out) | refine bS_ ?_ GE184.out | refine bS_ ?_ GE190.out | refine bS_ ?_ GE211.out) | exact HB.out))⟩)
                 skip
                 rintro gb211 w33 ⟨hS_, h0_, h1_, h2_, h3_, h4_, h5_, h6_, h7_, h8_, h9_, h10_, h11_, h12_, h13_⟩
                 have n0_ : Aside0 (w33.heap[gb184]? = some (.cells #[.string (⟨#[]⟩ : ByteArray), .string (⟨#[]⟩ : ByteArray), .int .u64 0, .int .i64 0, .int .i64 0, .int .i64 0, .int .i64 0, .int .i64 0, .int .i64 0] 35 (0, 0))) := ⟨h0_⟩
                 have n1_ : Aside0 (w33.heap[gb190]? = some (.cells #[.string x191000_4, .string x191001_4, .string x191002_4] 41 (0, 0))) := ⟨h1_⟩
                 have n2_ : Aside0 (w33.heap[gb211]? = some (.cells #[.string (⟨#[]⟩ : ByteArray), .string (⟨#[]⟩ : ByteArray), .int .u64 0, .int .i64 0, .int .i64 0, .int .i64 0, .int .i64 0, .int .i64 0, .int .i64 0] 35 (0, 0))) := ⟨h2_⟩
                 have n3_ : Aside0 (w.heap.size ≤ gb211) := ⟨h3_⟩
                 have n4_ : Aside0 (w0.heap.size ≤ gb211) := ⟨h4_⟩
                 have n5_ : Aside0 (g ≠ gb211) := ⟨h5_⟩
                 have n6_ : Aside0 (gb211 ≠ g) := ⟨h6_⟩
                 have n7_ : Aside0 (gb184 ≠ gb211) := ⟨h7_⟩
                 have n8_ : Aside0 (gb211 ≠ gb184) := ⟨h8_⟩
                 have n9_ : Aside0 (gb190 ≠ gb211) := ⟨h9_⟩
                 have n10_ : Aside0 (gb211 ≠ gb190) := ⟨h10_⟩
                 have n11_ : Aside0 (IsS52 w0 w33 g s0_0 x1001_4) := ⟨h11_⟩
                 have n12_ : Aside0 (KeepBut w w33 g none) := ⟨h12_⟩
                 have n13_ : Aside0 (Below w0.heap.size w0 w33) := ⟨h13_⟩
                 clear BK184 BK190 HI0 HK HB
                 clear h0_ h1_ h2_ h3_ h4_ h5_ h6_ h7_ h8_ h9_ h10_ h11_ h12_ h13_
                 have BK184 := n0_
                 have BK190 := n1_
                 have BK211 := n2_
                 have GW211 := n3_
                 have GE211 := n4_
                 have NB0_211 := n5_
                 have NB211_0 := n6_
                 have NB184_211 := n7_
                 have NB211_184 := n8_
                 have NB190_211 := n9_
                 have NB211_190 := n10_
                 have HI0 := n11_
                 have HK := n12_
                 have HB := n13_
                 clear n0_ n1_ n2_ n3_ n4_ n5_ n6_ n7_ n8_ n9_ n10_ n11_ n12_ n13_
                 have hHeld : w33.cell? ⟨gb190, 0, none⟩ = some (.string x191000_4) ∧ w33.cell? ⟨gb190, 1, none⟩ = some (.string x191001_4) ∧ w33.cell? ⟨gb190, 2, none⟩ = some (.string x191002_4) := hS_
                 refine norm_ (a' := ?_) ?_ ?_
                 rotate_left; (· simp only [putAll, Act.put, sA_, sB_, sC_]; rfl)
                 refine one_ (i := 5) (N := some 19) (bo_ 22 1198783) rfl rfl (one_of HT_.out (by kernel_rfl)) (by decide) (fun K hK => ?_)
                 refine goes_ Tryd.func49 (by kernel_rfl) rfl #[.pointer (some ⟨g, 0, none⟩), .int .i64 40] (by rfl) rfl rfl (by (try simp only [List.map_toArray, List.map_cons, List.map_nil]); first | done | rfl | (simp only [List.length_drop, List.length_take]; rfl)) ?_
                 with_reducible refine (kerbsuitedata_Source_Next.calls g s0_0 x1001_4 40 t198 t199 w0 _ ?side1 ?side2 A22.out).mono ?_
                 (case side1 => repeat (first | (with_reducible first | exact HI0.out | apply IsS52.alloc | apply IsS52.drewN | apply IsS52.drew | apply IsS52.set_1 | refine IsS52.far ?_ NB0_184.out _ | refine IsS52.far ?_ NB0_190.out _ | refine IsS52.far ?_ NB0_211.out _) | exact HI0.out))
                 (case side2 => repeat (first | (with_reducible first | exact HB.out | apply bA_ | apply bN_ | apply bD_ | refine bS_ ?_ (IsS52.ge HI0.out) | refine bS_ ?_ GE184.out | refine bS_ ?_ GE190.out | refine bS_ ?_ GE211.out) | exact HB.out))
                 rintro e w34 ⟨rfl, hi, hb, hk⟩
                 refine ⟨_, rfl, ?_⟩
                 have n0_ := Aside0.mk (KeepBut.blk hk (g' := gb184) (o := .cells #[.string (⟨#[]⟩ : ByteArray), .string (⟨#[]⟩ : ByteArray), .int .u64 0, .int .i64 0, .int .i64 0, .int .i64 0, .int .i64 0, .int .i64 0, .int .i64 0] 35 (0, 0)) (bk_ BK184.out) NB184_0.out (by simp))
                 have n1_ := Aside0.mk (KeepBut.blk hk (g' := gb190) (o := .cells #[.string x191000_4, .string x191001_4, .string x191002_4] 41 (0, 0)) (bk_ BK190.out) NB190_0.out (by simp))
                 have n2_ := Aside0.mk (KeepBut.blk hk (g' := gb211) (o := .cells #[.string (⟨#[]⟩ : ByteArray), .string (⟨#[]⟩ : ByteArray), .int .u64 0, .int .i64 0, .int .i64 0, .int .i64 0, .int .i64 0, .int .i64 0, .int .i64 0] 35 (0, 0)) (bk_ BK211.out) NB211_0.out (by simp))
                 have n3_ := Aside0.mk (KeepBut.trans (by repeat (first | (with_reducible first | exact HK.out | apply KeepBut.set_ | apply keep_drewN | apply keep_drew | apply keep_alloc | refine keep_far ?_ GW184.out _ | refine keep_far ?_ GW190.out _ | refine keep_far ?_ GW211.out _) | exact HK.out)) hk (.inl rfl))
                 have n4_ := Aside0.mk (hb)
                 have n5_ := Aside0.mk (hi)
                 clear BK184 BK190 BK211 HK HB HI0
                 have BK184 := n0_
                 have BK190 := n1_
                 have BK211 := n2_
                 have HK := n3_
                 have HB := n4_
                 have HI0 := n5_
                 clear n0_ n1_ n2_ n3_ n4_ n5_
                 (try clear hb)
                 (try clear hb2)
                 (try clear hk)
                 (try clear hi)
                 refine hK.out _ _ ⟨(blk_cell BK190.out 0).trans rfl, (blk_cell BK190.out 1).trans rfl, (blk_cell BK190.out 2).trans rfl⟩ (fun hHeld => ?_)
                 clear hK K
                 refine norm_ (a' := ?_) ?_ ?_
                 rotate_left; (· show Act.put _ (some 19) _ = _; simp only [Act.put,sA_,sB_,sC_,i64_w,i32_w]; rfl)
                 exact norm_ (by first | (simp only [putAll, Act.put, sA_, sB_, sC_]; done) | (simp only [putAll, Act.put, sA_, sB_, sC_]; rfl)) (hJ5_20 (gb211) _ ⟨hHeld, (bk_ BK184.out), (bk_ BK190.out), (bk_ BK211.out), GW211.out, GE211.out, NB0_211.out, NB211_0.out, NB184_211.out, NB211_184.out, NB190_211.out, NB211_190.out, (by repeat (first | (with_reducible first | exact HI0.out | apply IsS52.alloc | apply IsS52.drewN | apply IsS52.drew | apply IsS52.set_1 | refine IsS52.far ?_ NB0_184.out _ | refine IsS52.far ?_ NB0_190.out _ | refine IsS52.far ?_ NB0_211.out _) | exact HI0.out)), (by repeat (first | (with_reducible first | exact HK.out | apply KeepBut.set_ | apply keep_drewN | apply keep_drew | apply keep_alloc | refine keep_far ?_ GW184.out _ | refine keep_far ?_ GW190.out _ | refine keep_far ?_ GW211.out _) | exact HK.out)), (by repeat (first | (with_reducible first | exact HB.out | apply bA_ | apply bN_ | apply bD_ | refine bS_ ?_ (IsS52.ge HI0.out) | refine bS_ ?_ GE184.out | refine bS_ ?_ GE190.out | refine bS_ ?_ GE211.out) | exact HB.out))⟩)
                skip
                rintro _ w33 ⟨hS_, h0_, h1_, h2_, h3_, h4_⟩
                have n0_ : Aside0 (w33.heap[gb184]? = some (.cells #[.string (⟨#[]⟩ : ByteArray), .string (⟨#[]⟩ : ByteArray), .int .u64 0, .int .i64 0, .int .i64 0, .int .i64 0, .int .i64 0, .int .i64 0, .int .i64 0] 35 (0, 0))) := ⟨h0_⟩
                have n1_ : Aside0 (w33.heap[gb190]? = some (.cells #[.string x191000_4, .string x191001_4, .string x191002_4] 41 (0, 0))) := ⟨h1_⟩
                have n2_ : Aside0 (IsS52 w0 w33 g s0_0 t199) := ⟨h2_⟩
                have n3_ : Aside0 (KeepBut w w33 g none) := ⟨h3_⟩
                have n4_ : Aside0 (Below w0.heap.size w0 w33) := ⟨h4_⟩
                clear BK184 BK190 HI0 HK HB
                clear h0_ h1_ h2_ h3_ h4_
                have BK184 := n0_
                have BK190 := n1_
                have HI0 := n2_
                have HK := n3_
                have HB := n4_
                clear n0_ n1_ n2_ n3_ n4_
                have hHeld : w33.cell? ⟨gb190, 0, none⟩ = some (.string x191000_4) ∧ w33.cell? ⟨gb190, 1, none⟩ = some (.string x191001_4) ∧ w33.cell? ⟨gb190, 2, none⟩ = some (.string x191002_4) := hS_
                refine norm_ (a' := ?_) ?_ ?_
                rotate_left; (· simp only [putAll, Act.put, sA_, sB_, sC_]; rfl)
                refine two_ (i := 6) (j := 20) (Ni := some 20) (Nj := some 4) #[true,true,true,true,true,true,true,true,false,true,false,true,false,false,true,false,false,true,false,false,false,false] #[true,true,true,true,true,true,false,true,false,true,false,true,false,false,true,false,false,true,false,false,true,false] rfl rfl rfl rfl (two_of HT_.out (by kernel_rfl)) (by decide) (by decide) (fun K hK => ?_) (fun K hK => ?_)
                ·skip
                 refine goes_ Tryd.func13 (by kernel_rfl) rfl #[.int .i64 t198] (by rfl) rfl rfl (by (try simp only [List.map_toArray, List.map_cons, List.map_nil]); first | done | rfl | (simp only [List.length_drop, List.length_take]; rfl)) ?_
                 with_reducible refine (kerbsuitedata_Long.calls t198 t200 _ A23.out).mono ?_
                 rintro e w' ⟨rfl, ⟨nd, rfl⟩⟩
                 refine ⟨_, rfl, ?_⟩
                 refine hK.out _ _ ⟨(blk_cell BK190.out 0).trans rfl, (blk_cell BK190.out 1).trans rfl, (blk_cell BK190.out 2).trans rfl⟩ (fun hHeld => ?_)
                 clear hK K
                 refine norm_ (a' := ?_) ?_ ?_
                 rotate_left; (· show Act.put _ (some 20) _ = _; simp only [Act.put,sA_,sB_,sC_,i64_w,i32_w]; rfl)
                 exact norm_ (by first | (simp only [putAll, Act.put, sA_, sB_, sC_]; done) | (simp only [putAll, Act.put, sA_, sB_, sC_]; rfl)) (hJ5_6 () _ ⟨hHeld, (bk_ BK184.out), (bk_ BK190.out), (by repeat (first | (with_reducible first | exact HI0.out | apply IsS52.alloc | apply IsS52.drewN | apply IsS52.drew | apply IsS52.set_1 | refine IsS52.far ?_ NB0_184.out _ | refine IsS52.far ?_ NB0_190.out _) | exact HI0.out)), (by repeat (first | (with_reducible first | exact HK.out | apply KeepBut.set_ | apply keep_drewN | apply keep_drew | apply keep_alloc | refine keep_far ?_ GW184.out _ | refine keep_far ?_ GW190.out _) | exact HK.out)), (by repeat (first | (with_reducible first | exact HB.out | apply bA_ | apply bN_ | apply bD_ | refine bS_ ?_ (IsS52.ge HI0.out) | refine bS_ ?_ GE184.out | refine bS_ ?_ GE190.out) | exact HB.out))⟩)
                skip
                refine box_step ?hg (N := 4) ?hd (cs := #[.string (⟨#[]⟩ : ByteArray), .string (⟨#[]⟩ : ByteArray), .int .u64 0, .int .i64 0, .int .i64 0, .int .i64 0, .int .i64 0, .int .i64 0, .int .i64 0]) (t := 35) ?hr ?_; (case hd => rfl); (case hg => rfl); (case hr => first | (go_simp; done) | (go_simp; rfl))
                intro gb211 hg w34 hbox hb
                have n0_ := Aside0.mk (blk_below (g := gb184) (o := .cells #[.string (⟨#[]⟩ : ByteArray), .string (⟨#[]⟩ : ByteArray), .int .u64 0, .int .i64 0, .int .i64 0, .int .i64 0, .int .i64 0, .int .i64 0, .int .i64 0] 35 (0, 0)) (bk_ BK184.out) hb)
                have n1_ := Aside0.mk (blk_below (g := gb190) (o := .cells #[.string x191000_4, .string x191001_4, .string x191002_4] 41 (0, 0)) (bk_ BK190.out) hb)
                have n2_ := Aside0.mk (IsS52.below (by repeat (first | (with_reducible first | exact HI0.out | apply IsS52.alloc | apply IsS52.drewN | apply IsS52.drew | apply IsS52.set_1 | refine IsS52.far ?_ NB0_184.out _ | refine IsS52.far ?_ NB0_190.out _) | exact HI0.out)) hb)
                have n3_ := Aside0.mk (KeepBut.trans (by repeat (first | (with_reducible first | exact HK.out | apply KeepBut.set_ | apply keep_drewN | apply keep_drew | apply keep_alloc | refine keep_far ?_ GW184.out _ | refine keep_far ?_ GW190.out _) | exact HK.out)) (KeepBut.of_below hb g none) (.inl rfl))
                have n4_ := Aside0.mk (below_step (by repeat (first | (with_reducible first | exact HB.out | apply bA_ | apply bN_ | apply bD_ | refine bS_ ?_ (IsS52.ge HI0.out) | refine bS_ ?_ GE184.out | refine bS_ ?_ GE190.out) | exact HB.out)) hb)
                have n5_ := Aside0.mk (hbox)
                have n6_ := Aside0.mk ((by rw [hg]; exact (keep_size (w := w) (g := g) (row := none) (by repeat (first | (with_reducible first | exact HK.out | apply KeepBut.set_ | apply keep_drewN | apply keep_drew | apply keep_alloc | refine keep_far ?_ GW184.out _ | refine keep_far ?_ GW190.out _) | exact HK.out))) : w.heap.size ≤ gb211))
                have n7_ := Aside0.mk ((Nat.le_trans HW0.out (by rw [hg]; exact (keep_size (w := w) (g := g) (row := none) (by repeat (first | (with_reducible first | exact HK.out | apply KeepBut.set_ | apply keep_drewN | apply keep_drew | apply keep_alloc | refine keep_far ?_ GW184.out _ | refine keep_far ?_ GW190.out _) | exact HK.out))) : w.heap.size ≤ gb211) : w0.heap.size ≤ gb211))
                have n8_ := Aside0.mk ((by rw [hg]; exact Nat.ne_of_lt (blk_lt (g := gb184) (o := .cells #[.string (⟨#[]⟩ : ByteArray), .string (⟨#[]⟩ : ByteArray), .int .u64 0, .int .i64 0, .int .i64 0, .int .i64 0, .int .i64 0, .int .i64 0, .int .i64 0] 35 (0, 0)) (bk_ BK184.out)) : gb184 ≠ gb211))
                have n9_ := Aside0.mk ((by rw [hg]; exact Nat.ne_of_gt (blk_lt (g := gb184) (o := .cells #[.string (⟨#[]⟩ : ByteArray), .string (⟨#[]⟩ : ByteArray), .int .u64 0, .int .i64 0, .int .i64 0, .int .i64 0, .int .i64 0, .int .i64 0, .int .i64 0] 35 (0, 0)) (bk_ BK184.out)) : gb211 ≠ gb184))
                have n10_ := Aside0.mk ((by rw [hg]; exact Nat.ne_of_lt (blk_lt (g := gb190) (o := .cells #[.string x191000_4, .string x191001_4, .string x191002_4] 41 (0, 0)) (bk_ BK190.out)) : gb190 ≠ gb211))
                have n11_ := Aside0.mk ((by rw [hg]; exact Nat.ne_of_gt (blk_lt (g := gb190) (o := .cells #[.string x191000_4, .string x191001_4, .string x191002_4] 41 (0, 0)) (bk_ BK190.out)) : gb211 ≠ gb190))
                have n12_ := Aside0.mk ((by rw [hg]; exact Nat.ne_of_lt (IsS52.lt (show IsS52 w0 _ g s0_0 t199 from by repeat (first | (with_reducible first | exact HI0.out | apply IsS52.alloc | apply IsS52.drewN | apply IsS52.drew | apply IsS52.set_1 | refine IsS52.far ?_ NB0_184.out _ | refine IsS52.far ?_ NB0_190.out _) | exact HI0.out))) : g ≠ gb211))
                have n13_ := Aside0.mk ((by rw [hg]; exact Nat.ne_of_gt (IsS52.lt (show IsS52 w0 _ g s0_0 t199 from by repeat (first | (with_reducible first | exact HI0.out | apply IsS52.alloc | apply IsS52.drewN | apply IsS52.drew | apply IsS52.set_1 | refine IsS52.far ?_ NB0_184.out _ | refine IsS52.far ?_ NB0_190.out _) | exact HI0.out))) : gb211 ≠ g))
                clear BK184 BK190 HI0 HK HB
                have BK184 := n0_
                have BK190 := n1_
                have HI0 := n2_
                have HK := n3_
                have HB := n4_
                have BK211 := n5_
                have GW211 := n6_
                have GE211 := n7_
                have NB184_211 := n8_
                have NB211_184 := n9_
                have NB190_211 := n10_
                have NB211_190 := n11_
                have NB0_211 := n12_
                have NB211_0 := n13_
                clear n0_ n1_ n2_ n3_ n4_ n5_ n6_ n7_ n8_ n9_ n10_ n11_ n12_ n13_
                clear hb hbox hg
                refine hK.out _ _ ⟨(blk_cell BK190.out 0).trans rfl, (blk_cell BK190.out 1).trans rfl, (blk_cell BK190.out 2).trans rfl⟩ (fun hHeld => ?_)
                clear hK K
                refine norm_ (a' := ?_) ?_ ?_
                rotate_left; (· show Act.put _ (some 4) _ = _; simp only [Act.put,sA_,sB_,sC_,i64_w,i32_w]; rfl)
                exact norm_ (by first | (simp only [putAll, Act.put, sA_, sB_, sC_]; done) | (simp only [putAll, Act.put, sA_, sB_, sC_]; rfl)) (hJ5_20 (gb211) _ ⟨hHeld, (bk_ BK184.out), (bk_ BK190.out), (bk_ BK211.out), GW211.out, GE211.out, NB0_211.out, NB211_0.out, NB184_211.out, NB211_184.out, NB190_211.out, NB211_190.out, (by repeat (first | (with_reducible first | exact HI0.out | apply IsS52.alloc | apply IsS52.drewN | apply IsS52.drew | apply IsS52.set_1 | refine IsS52.far ?_ NB0_184.out _ | refine IsS52.far ?_ NB0_190.out _ | refine IsS52.far ?_ NB0_211.out _) | exact HI0.out)), (by repeat (first | (with_reducible first | exact HK.out | apply KeepBut.set_ | apply keep_drewN | apply keep_drew | apply keep_alloc | refine keep_far ?_ GW184.out _ | refine keep_far ?_ GW190.out _ | refine keep_far ?_ GW211.out _) | exact HK.out)), (by repeat (first | (with_reducible first | exact HB.out | apply bA_ | apply bN_ | apply bD_ | refine bS_ ?_ (IsS52.ge HI0.out) | refine bS_ ?_ GE184.out | refine bS_ ?_ GE190.out | refine bS_ ?_ GE211.out) | exact HB.out))⟩)
               skip
               rintro gb211 w34 ⟨hS_, h0_, h1_, h2_, h3_, h4_, h5_, h6_, h7_, h8_, h9_, h10_, h11_, h12_, h13_⟩
               have n0_ : Aside0 (w34.heap[gb184]? = some (.cells #[.string (⟨#[]⟩ : ByteArray), .string (⟨#[]⟩ : ByteArray), .int .u64 0, .int .i64 0, .int .i64 0, .int .i64 0, .int .i64 0, .int .i64 0, .int .i64 0] 35 (0, 0))) := ⟨h0_⟩
               have n1_ : Aside0 (w34.heap[gb190]? = some (.cells #[.string x191000_4, .string x191001_4, .string x191002_4] 41 (0, 0))) := ⟨h1_⟩
               have n2_ : Aside0 (w34.heap[gb211]? = some (.cells #[.string (⟨#[]⟩ : ByteArray), .string (⟨#[]⟩ : ByteArray), .int .u64 0, .int .i64 0, .int .i64 0, .int .i64 0, .int .i64 0, .int .i64 0, .int .i64 0] 35 (0, 0))) := ⟨h2_⟩
               have n3_ : Aside0 (w.heap.size ≤ gb211) := ⟨h3_⟩
               have n4_ : Aside0 (w0.heap.size ≤ gb211) := ⟨h4_⟩
               have n5_ : Aside0 (g ≠ gb211) := ⟨h5_⟩
               have n6_ : Aside0 (gb211 ≠ g) := ⟨h6_⟩
               have n7_ : Aside0 (gb184 ≠ gb211) := ⟨h7_⟩
               have n8_ : Aside0 (gb211 ≠ gb184) := ⟨h8_⟩
               have n9_ : Aside0 (gb190 ≠ gb211) := ⟨h9_⟩
               have n10_ : Aside0 (gb211 ≠ gb190) := ⟨h10_⟩
               have n11_ : Aside0 (IsS52 w0 w34 g s0_0 t199) := ⟨h11_⟩
               have n12_ : Aside0 (KeepBut w w34 g none) := ⟨h12_⟩
               have n13_ : Aside0 (Below w0.heap.size w0 w34) := ⟨h13_⟩
               clear BK184 BK190 HI0 HK HB
               clear h0_ h1_ h2_ h3_ h4_ h5_ h6_ h7_ h8_ h9_ h10_ h11_ h12_ h13_
               have BK184 := n0_
               have BK190 := n1_
               have BK211 := n2_
               have GW211 := n3_
               have GE211 := n4_
               have NB0_211 := n5_
               have NB211_0 := n6_
               have NB184_211 := n7_
               have NB211_184 := n8_
               have NB190_211 := n9_
               have NB211_190 := n10_
               have HI0 := n11_
               have HK := n12_
               have HB := n13_
               clear n0_ n1_ n2_ n3_ n4_ n5_ n6_ n7_ n8_ n9_ n10_ n11_ n12_ n13_
               have hHeld : w34.cell? ⟨gb190, 0, none⟩ = some (.string x191000_4) ∧ w34.cell? ⟨gb190, 1, none⟩ = some (.string x191001_4) ∧ w34.cell? ⟨gb190, 2, none⟩ = some (.string x191002_4) := hS_
               refine norm_ (a' := ?_) ?_ ?_
               rotate_left; (· simp only [putAll, Act.put, sA_, sB_, sC_]; rfl)
               refine one_ (i := 6) (N := some 20) (bo_ 22 1198847) rfl rfl (one_of HT_.out (by kernel_rfl)) (by decide) (fun K hK => ?_)
               refine goes_ Tryd.func13 (by kernel_rfl) rfl #[.int .i64 t198] (by rfl) rfl rfl (by (try simp only [List.map_toArray, List.map_cons, List.map_nil]); first | done | rfl | (simp only [List.length_drop, List.length_take]; rfl)) ?_
               with_reducible refine (kerbsuitedata_Long.calls t198 t200 _ A23.out).mono ?_
               rintro e w' ⟨rfl, ⟨nd, rfl⟩⟩
               refine ⟨_, rfl, ?_⟩
               refine hK.out _ _ ⟨(blk_cell BK190.out 0).trans rfl, (blk_cell BK190.out 1).trans rfl, (blk_cell BK190.out 2).trans rfl⟩ (fun hHeld => ?_)
               clear hK K
               refine norm_ (a' := ?_) ?_ ?_
               rotate_left; (· show Act.put _ (some 20) _ = _; simp only [Act.put,sA_,sB_,sC_,i64_w,i32_w]; rfl)
               exact norm_ (by first | (simp only [putAll, Act.put, sA_, sB_, sC_]; done) | (simp only [putAll, Act.put, sA_, sB_, sC_]; rfl)) (hJ5_6_20 (gb211) _ ⟨hHeld, (bk_ BK184.out), (bk_ BK190.out), (bk_ BK211.out), GW211.out, GE211.out, NB0_211.out, NB211_0.out, NB184_211.out, NB211_184.out, NB190_211.out, NB211_190.out, (by repeat (first | (with_reducible first | exact HI0.out | apply IsS52.alloc | apply IsS52.drewN | apply IsS52.drew | apply IsS52.set_1 | refine IsS52.far ?_ NB0_184.out _ | refine IsS52.far ?_ NB0_190.out _ | refine IsS52.far ?_ NB0_211.out _) | exact HI0.out)), (by repeat (first | (with_reducible first | exact HK.out | apply KeepBut.set_ | apply keep_drewN | apply keep_drew | apply keep_alloc | refine keep_far ?_ GW184.out _ | refine keep_far ?_ GW190.out _ | refine keep_far ?_ GW211.out _) | exact HK.out)), (by repeat (first | (with_reducible first | exact HB.out | apply bA_ | apply bN_ | apply bD_ | refine bS_ ?_ (IsS52.ge HI0.out) | refine bS_ ?_ GE184.out | refine bS_ ?_ GE190.out | refine bS_ ?_ GE211.out) | exact HB.out))⟩)
              skip
              rintro _ w33 ⟨hS_, h0_, h1_, h2_, h3_, h4_⟩
              have n0_ : Aside0 (w33.heap[gb184]? = some (.cells #[.string (⟨#[]⟩ : ByteArray), .string (⟨#[]⟩ : ByteArray), .int .u64 0, .int .i64 0, .int .i64 0, .int .i64 0, .int .i64 0, .int .i64 0, .int .i64 0] 35 (0, 0))) := ⟨h0_⟩
              have n1_ : Aside0 (w33.heap[gb190]? = some (.cells #[.string x191000_4, .string x191001_4, .string x191002_4] 41 (0, 0))) := ⟨h1_⟩
              have n2_ : Aside0 (IsS52 w0 w33 g s0_0 t199) := ⟨h2_⟩
              have n3_ : Aside0 (KeepBut w w33 g none) := ⟨h3_⟩
              have n4_ : Aside0 (Below w0.heap.size w0 w33) := ⟨h4_⟩
              clear BK184 BK190 HI0 HK HB
              clear h0_ h1_ h2_ h3_ h4_
              have BK184 := n0_
              have BK190 := n1_
              have HI0 := n2_
              have HK := n3_
              have HB := n4_
              clear n0_ n1_ n2_ n3_ n4_
              have hHeld : w33.cell? ⟨gb190, 0, none⟩ = some (.string x191000_4) ∧ w33.cell? ⟨gb190, 1, none⟩ = some (.string x191001_4) ∧ w33.cell? ⟨gb190, 2, none⟩ = some (.string x191002_4) := hS_
              refine norm_ (a' := ?_) ?_ ?_
              rotate_left; (· simp only [putAll, Act.put, sA_, sB_, sC_]; rfl)
              refine two_ (i := 8) (j := 20) (Ni := some 22) (Nj := some 4) #[true,true,true,true,true,true,true,true,true,true,false,true,false,false,true,false,false,true,false,false,false,false] #[true,true,true,true,true,true,true,true,false,true,false,true,false,false,true,false,false,true,false,false,true,false] rfl rfl rfl rfl (two_of HT_.out (by kernel_rfl)) (by decide) (by decide) (fun K hK => ?_) (fun K hK => ?_)
              ·skip
               refine goes_ Tryd.func49 (by kernel_rfl) rfl #[.pointer (some ⟨g, 0, none⟩), .int .i64 256] (by rfl) rfl rfl (by (try simp only [List.map_toArray, List.map_cons, List.map_nil]); first | done | rfl | (simp only [List.length_drop, List.length_take]; rfl)) ?_
               with_reducible refine (kerbsuitedata_Source_Next.calls g s0_0 t199 256 t201 t202 w0 _ ?side1 ?side2 A24.out).mono ?_
               (case side1 => repeat (first | (with_reducible first | exact HI0.out | apply IsS52.alloc | apply IsS52.drewN | apply IsS52.drew | apply IsS52.set_1 | refine IsS52.far ?_ NB0_184.out _ | refine IsS52.far ?_ NB0_190.out _) | exact HI0.out))
               (case side2 => repeat (first | (with_reducible first | exact HB.out | apply bA_ | apply bN_ | apply bD_ | refine bS_ ?_ (IsS52.ge HI0.out) | refine bS_ ?_ GE184.out | refine bS_ ?_ GE190.out) | exact HB.out))
               rintro e w34 ⟨rfl, hi, hb, hk⟩
               refine ⟨_, rfl, ?_⟩
               have n0_ := Aside0.mk (KeepBut.blk hk (g' := gb184) (o := .cells #[.string (⟨#[]⟩ : ByteArray), .string (⟨#[]⟩ : ByteArray), .int .u64 0, .int .i64 0, .int .i64 0, .int .i64 0, .int .i64 0, .int .i64 0, .int .i64 0] 35 (0, 0)) (bk_ BK184.out) NB184_0.out (by simp))
               have n1_ := Aside0.mk (KeepBut.blk hk (g' := gb190) (o := .cells #[.string x191000_4, .string x191001_4, .string x191002_4] 41 (0, 0)) (bk_ BK190.out) NB190_0.out (by simp))
               have n2_ := Aside0.mk (KeepBut.trans (by repeat (first | (with_reducible first | exact HK.out | apply KeepBut.set_ | apply keep_drewN | apply keep_drew | apply keep_alloc | refine keep_far ?_ GW184.out _ | refine keep_far ?_ GW190.out _) | exact HK.out)) hk (.inl rfl))
               have n3_ := Aside0.mk (hb)
               have n4_ := Aside0.mk (hi)
               clear BK184 BK190 HK HB HI0
               have BK184 := n0_
               have BK190 := n1_
               have HK := n2_
               have HB := n3_
               have HI0 := n4_
               clear n0_ n1_ n2_ n3_ n4_
               (try clear hb)
               (try clear hb2)
               (try clear hk)
               (try clear hi)
               refine hK.out _ _ ⟨(blk_cell BK190.out 0).trans rfl, (blk_cell BK190.out 1).trans rfl, (blk_cell BK190.out 2).trans rfl⟩ (fun hHeld => ?_)
               clear hK K
               refine norm_ (a' := ?_) ?_ ?_
               rotate_left; (· show Act.put _ (some 22) _ = _; simp only [Act.put,sA_,sB_,sC_,i64_w,i32_w]; rfl)
               exact norm_ (by first | (simp only [putAll, Act.put, sA_, sB_, sC_]; done) | (simp only [putAll, Act.put, sA_, sB_, sC_]; rfl)) (hJ5_6_8 () _ ⟨hHeld, (bk_ BK184.out), (bk_ BK190.out), (by repeat (first | (with_reducible first | exact HI0.out | apply IsS52.alloc | apply IsS52.drewN | apply IsS52.drew | apply IsS52.set_1 | refine IsS52.far ?_ NB0_184.out _ | refine IsS52.far ?_ NB0_190.out _) | exact HI0.out)), (by repeat (first | (with_reducible first | exact HK.out | apply KeepBut.set_ | apply keep_drewN | apply keep_drew | apply keep_alloc | refine keep_far ?_ GW184.out _ | refine keep_far ?_ GW190.out _) | exact HK.out)), (by repeat (first | (with_reducible first | exact HB.out | apply bA_ | apply bN_ | apply bD_ | refine bS_ ?_ (IsS52.ge HI0.out) | refine bS_ ?_ GE184.out | refine bS_ ?_ GE190.out) | exact HB.out))⟩)
              skip
              refine box_step ?hg (N := 4) ?hd (cs := #[.string (⟨#[]⟩ : ByteArray), .string (⟨#[]⟩ : ByteArray), .int .u64 0, .int .i64 0, .int .i64 0, .int .i64 0, .int .i64 0, .int .i64 0, .int .i64 0]) (t := 35) ?hr ?_; (case hd => rfl); (case hg => rfl); (case hr => first | (go_simp; done) | (go_simp; rfl))
              intro gb211 hg w34 hbox hb
              have n0_ := Aside0.mk (blk_below (g := gb184) (o := .cells #[.string (⟨#[]⟩ : ByteArray), .string (⟨#[]⟩ : ByteArray), .int .u64 0, .int .i64 0, .int .i64 0, .int .i64 0, .int .i64 0, .int .i64 0, .int .i64 0] 35 (0, 0)) (bk_ BK184.out) hb)
              have n1_ := Aside0.mk (blk_below (g := gb190) (o := .cells #[.string x191000_4, .string x191001_4, .string x191002_4] 41 (0, 0)) (bk_ BK190.out) hb)
              have n2_ := Aside0.mk (IsS52.below (by repeat (first | (with_reducible first | exact HI0.out | apply IsS52.alloc | apply IsS52.drewN | apply IsS52.drew | apply IsS52.set_1 | refine IsS52.far ?_ NB0_184.out _ | refine IsS52.far ?_ NB0_190.out _) | exact HI0.out)) hb)
              have n3_ := Aside0.mk (KeepBut.trans (by repeat (first | (with_reducible first | exact HK.out | apply KeepBut.set_ | apply keep_drewN | apply keep_drew | apply keep_alloc | refine keep_far ?_ GW184.out _ | refine keep_far ?_ GW190.out _) | exact HK.out)) (KeepBut.of_below hb g none) (.inl rfl))
              have n4_ := Aside0.mk (below_step (by repeat (first | (with_reducible first | exact HB.out | apply bA_ | apply bN_ | apply bD_ | refine bS_ ?_ (IsS52.ge HI0.out) | refine bS_ ?_ GE184.out | refine bS_ ?_ GE190.out) | exact HB.out)) hb)
              have n5_ := Aside0.mk (hbox)
              have n6_ := Aside0.mk ((by rw [hg]; exact (keep_size (w := w) (g := g) (row := none) (by repeat (first | (with_reducible first | exact HK.out | apply KeepBut.set_ | apply keep_drewN | apply keep_drew | apply keep_alloc | refine keep_far ?_ GW184.out _ | refine keep_far ?_ GW190.out _) | exact HK.out))) : w.heap.size ≤ gb211))
              have n7_ := Aside0.mk ((Nat.le_trans HW0.out (by rw [hg]; exact (keep_size (w := w) (g := g) (row := none) (by repeat (first | (with_reducible first | exact HK.out | apply KeepBut.set_ | apply keep_drewN | apply keep_drew | apply keep_alloc | refine keep_far ?_ GW184.out _ | refine keep_far ?_ GW190.out _) | exact HK.out))) : w.heap.size ≤ gb211) : w0.heap.size ≤ gb211))
              have n8_ := Aside0.mk ((by rw [hg]; exact Nat.ne_of_lt (blk_lt (g := gb184) (o := .cells #[.string (⟨#[]⟩ : ByteArray), .string (⟨#[]⟩ : ByteArray), .int .u64 0, .int .i64 0, .int .i64 0, .int .i64 0, .int .i64 0, .int .i64 0, .int .i64 0] 35 (0, 0)) (bk_ BK184.out)) : gb184 ≠ gb211))
              have n9_ := Aside0.mk ((by rw [hg]; exact Nat.ne_of_gt (blk_lt (g := gb184) (o := .cells #[.string (⟨#[]⟩ : ByteArray), .string (⟨#[]⟩ : ByteArray), .int .u64 0, .int .i64 0, .int .i64 0, .int .i64 0, .int .i64 0, .int .i64 0, .int .i64 0] 35 (0, 0)) (bk_ BK184.out)) : gb211 ≠ gb184))
              have n10_ := Aside0.mk ((by rw [hg]; exact Nat.ne_of_lt (blk_lt (g := gb190) (o := .cells #[.string x191000_4, .string x191001_4, .string x191002_4] 41 (0, 0)) (bk_ BK190.out)) : gb190 ≠ gb211))
              have n11_ := Aside0.mk ((by rw [hg]; exact Nat.ne_of_gt (blk_lt (g := gb190) (o := .cells #[.string x191000_4, .string x191001_4, .string x191002_4] 41 (0, 0)) (bk_ BK190.out)) : gb211 ≠ gb190))
              have n12_ := Aside0.mk ((by rw [hg]; exact Nat.ne_of_lt (IsS52.lt (show IsS52 w0 _ g s0_0 t199 from by repeat (first | (with_reducible first | exact HI0.out | apply IsS52.alloc | apply IsS52.drewN | apply IsS52.drew | apply IsS52.set_1 | refine IsS52.far ?_ NB0_184.out _ | refine IsS52.far ?_ NB0_190.out _) | exact HI0.out))) : g ≠ gb211))
              have n13_ := Aside0.mk ((by rw [hg]; exact Nat.ne_of_gt (IsS52.lt (show IsS52 w0 _ g s0_0 t199 from by repeat (first | (with_reducible first | exact HI0.out | apply IsS52.alloc | apply IsS52.drewN | apply IsS52.drew | apply IsS52.set_1 | refine IsS52.far ?_ NB0_184.out _ | refine IsS52.far ?_ NB0_190.out _) | exact HI0.out))) : gb211 ≠ g))
              clear BK184 BK190 HI0 HK HB
              have BK184 := n0_
              have BK190 := n1_
              have HI0 := n2_
              have HK := n3_
              have HB := n4_
              have BK211 := n5_
              have GW211 := n6_
              have GE211 := n7_
              have NB184_211 := n8_
              have NB211_184 := n9_
              have NB190_211 := n10_
              have NB211_190 := n11_
              have NB0_211 := n12_
              have NB211_0 := n13_
              clear n0_ n1_ n2_ n3_ n4_ n5_ n6_ n7_ n8_ n9_ n10_ n11_ n12_ n13_
              clear hb hbox hg
              refine hK.out _ _ ⟨(blk_cell BK190.out 0).trans rfl, (blk_cell BK190.out 1).trans rfl, (blk_cell BK190.out 2).trans rfl⟩ (fun hHeld => ?_)
              clear hK K
              refine norm_ (a' := ?_) ?_ ?_
              rotate_left; (· show Act.put _ (some 4) _ = _; simp only [Act.put,sA_,sB_,sC_,i64_w,i32_w]; rfl)
              exact norm_ (by first | (simp only [putAll, Act.put, sA_, sB_, sC_]; done) | (simp only [putAll, Act.put, sA_, sB_, sC_]; rfl)) (hJ5_6_20 (gb211) _ ⟨hHeld, (bk_ BK184.out), (bk_ BK190.out), (bk_ BK211.out), GW211.out, GE211.out, NB0_211.out, NB211_0.out, NB184_211.out, NB211_184.out, NB190_211.out, NB211_190.out, (by repeat (first | (with_reducible first | exact HI0.out | apply IsS52.alloc | apply IsS52.drewN | apply IsS52.drew | apply IsS52.set_1 | refine IsS52.far ?_ NB0_184.out _ | refine IsS52.far ?_ NB0_190.out _ | refine IsS52.far ?_ NB0_211.out _) | exact HI0.out)), (by repeat (first | (with_reducible first | exact HK.out | apply KeepBut.set_ | apply keep_drewN | apply keep_drew | apply keep_alloc | refine keep_far ?_ GW184.out _ | refine keep_far ?_ GW190.out _ | refine keep_far ?_ GW211.out _) | exact HK.out)), (by repeat (first | (with_reducible first | exact HB.out | apply bA_ | apply bN_ | apply bD_ | refine bS_ ?_ (IsS52.ge HI0.out) | refine bS_ ?_ GE184.out | refine bS_ ?_ GE190.out | refine bS_ ?_ GE211.out) | exact HB.out))⟩)
             skip
             rintro gb211 w34 ⟨hS_, h0_, h1_, h2_, h3_, h4_, h5_, h6_, h7_, h8_, h9_, h10_, h11_, h12_, h13_⟩
             have n0_ : Aside0 (w34.heap[gb184]? = some (.cells #[.string (⟨#[]⟩ : ByteArray), .string (⟨#[]⟩ : ByteArray), .int .u64 0, .int .i64 0, .int .i64 0, .int .i64 0, .int .i64 0, .int .i64 0, .int .i64 0] 35 (0, 0))) := ⟨h0_⟩
             have n1_ : Aside0 (w34.heap[gb190]? = some (.cells #[.string x191000_4, .string x191001_4, .string x191002_4] 41 (0, 0))) := ⟨h1_⟩
             have n2_ : Aside0 (w34.heap[gb211]? = some (.cells #[.string (⟨#[]⟩ : ByteArray), .string (⟨#[]⟩ : ByteArray), .int .u64 0, .int .i64 0, .int .i64 0, .int .i64 0, .int .i64 0, .int .i64 0, .int .i64 0] 35 (0, 0))) := ⟨h2_⟩
             have n3_ : Aside0 (w.heap.size ≤ gb211) := ⟨h3_⟩
             have n4_ : Aside0 (w0.heap.size ≤ gb211) := ⟨h4_⟩
             have n5_ : Aside0 (g ≠ gb211) := ⟨h5_⟩
             have n6_ : Aside0 (gb211 ≠ g) := ⟨h6_⟩
             have n7_ : Aside0 (gb184 ≠ gb211) := ⟨h7_⟩
             have n8_ : Aside0 (gb211 ≠ gb184) := ⟨h8_⟩
             have n9_ : Aside0 (gb190 ≠ gb211) := ⟨h9_⟩
             have n10_ : Aside0 (gb211 ≠ gb190) := ⟨h10_⟩
             have n11_ : Aside0 (IsS52 w0 w34 g s0_0 t199) := ⟨h11_⟩
             have n12_ : Aside0 (KeepBut w w34 g none) := ⟨h12_⟩
             have n13_ : Aside0 (Below w0.heap.size w0 w34) := ⟨h13_⟩
             clear BK184 BK190 HI0 HK HB
             clear h0_ h1_ h2_ h3_ h4_ h5_ h6_ h7_ h8_ h9_ h10_ h11_ h12_ h13_
             have BK184 := n0_
             have BK190 := n1_
             have BK211 := n2_
             have GW211 := n3_
             have GE211 := n4_
             have NB0_211 := n5_
             have NB211_0 := n6_
             have NB184_211 := n7_
             have NB211_184 := n8_
             have NB190_211 := n9_
             have NB211_190 := n10_
             have HI0 := n11_
             have HK := n12_
             have HB := n13_
             clear n0_ n1_ n2_ n3_ n4_ n5_ n6_ n7_ n8_ n9_ n10_ n11_ n12_ n13_
             have hHeld : w34.cell? ⟨gb190, 0, none⟩ = some (.string x191000_4) ∧ w34.cell? ⟨gb190, 1, none⟩ = some (.string x191001_4) ∧ w34.cell? ⟨gb190, 2, none⟩ = some (.string x191002_4) := hS_
             refine norm_ (a' := ?_) ?_ ?_
             rotate_left; (· simp only [putAll, Act.put, sA_, sB_, sC_]; rfl)
             refine one_ (i := 8) (N := some 22) (bo_ 22 1199103) rfl rfl (one_of HT_.out (by kernel_rfl)) (by decide) (fun K hK => ?_)
             refine goes_ Tryd.func49 (by kernel_rfl) rfl #[.pointer (some ⟨g, 0, none⟩), .int .i64 256] (by rfl) rfl rfl (by (try simp only [List.map_toArray, List.map_cons, List.map_nil]); first | done | rfl | (simp only [List.length_drop, List.length_take]; rfl)) ?_
             with_reducible refine (kerbsuitedata_Source_Next.calls g s0_0 t199 256 t201 t202 w0 _ ?side1 ?side2 A24.out).mono ?_
             (case side1 => repeat (first | (with_reducible first | exact HI0.out | apply IsS52.alloc | apply IsS52.drewN | apply IsS52.drew | apply IsS52.set_1 | refine IsS52.far ?_ NB0_184.out _ | refine IsS52.far ?_ NB0_190.out _ | refine IsS52.far ?_ NB0_211.out _) | exact HI0.out))
             (case side2 => repeat (first | (with_reducible first | exact HB.out | apply bA_ | apply bN_ | apply bD_ | refine bS_ ?_ (IsS52.ge HI0.out) | refine bS_ ?_ GE184.out | refine bS_ ?_ GE190.out | refine bS_ ?_ GE211.out) | exact HB.out))
             rintro e w35 ⟨rfl, hi, hb, hk⟩
             refine ⟨_, rfl, ?_⟩
             have n0_ := Aside0.mk (KeepBut.blk hk (g' := gb184) (o := .cells #[.string (⟨#[]⟩ : ByteArray), .string (⟨#[]⟩ : ByteArray), .int .u64 0, .int .i64 0, .int .i64 0, .int .i64 0, .int .i64 0, .int .i64 0, .int .i64 0] 35 (0, 0)) (bk_ BK184.out) NB184_0.out (by simp))
             have n1_ := Aside0.mk (KeepBut.blk hk (g' := gb190) (o := .cells #[.string x191000_4, .string x191001_4, .string x191002_4] 41 (0, 0)) (bk_ BK190.out) NB190_0.out (by simp))
             have n2_ := Aside0.mk (KeepBut.blk hk (g' := gb211) (o := .cells #[.string (⟨#[]⟩ : ByteArray), .string (⟨#[]⟩ : ByteArray), .int .u64 0, .int .i64 0, .int .i64 0, .int .i64 0, .int .i64 0, .int .i64 0, .int .i64 0] 35 (0, 0)) (bk_ BK211.out) NB211_0.out (by simp))
             have n3_ := Aside0.mk (KeepBut.trans (by repeat (first | (with_reducible first | exact HK.out | apply KeepBut.set_ | apply keep_drewN | apply keep_drew | apply keep_alloc | refine keep_far ?_ GW184.out _ | refine keep_far ?_ GW190.out _ | refine keep_far ?_ GW211.out _) | exact HK.out)) hk (.inl rfl))
             have n4_ := Aside0.mk (hb)
             have n5_ := Aside0.mk (hi)
             clear BK184 BK190 BK211 HK HB HI0
             have BK184 := n0_
             have BK190 := n1_
             have BK211 := n2_
             have HK := n3_
             have HB := n4_
             have HI0 := n5_
             clear n0_ n1_ n2_ n3_ n4_ n5_
             (try clear hb)
             (try clear hb2)
             (try clear hk)
             (try clear hi)
             refine hK.out _ _ ⟨(blk_cell BK190.out 0).trans rfl, (blk_cell BK190.out 1).trans rfl, (blk_cell BK190.out 2).trans rfl⟩ (fun hHeld => ?_)
             clear hK K
             refine norm_ (a' := ?_) ?_ ?_
             rotate_left; (· show Act.put _ (some 22) _ = _; simp only [Act.put,sA_,sB_,sC_,i64_w,i32_w]; rfl)
             exact norm_ (by first | (simp only [putAll, Act.put, sA_, sB_, sC_]; done) | (simp only [putAll, Act.put, sA_, sB_, sC_]; rfl)) (hJ5_6_8_20 (gb211) _ ⟨hHeld, (bk_ BK184.out), (bk_ BK190.out), (bk_ BK211.out), GW211.out, GE211.out, NB0_211.out, NB211_0.out, NB184_211.out, NB211_184.out, NB190_211.out, NB211_190.out, (by repeat (first | (with_reducible first | exact HI0.out | apply IsS52.alloc | apply IsS52.drewN | apply IsS52.drew | apply IsS52.set_1 | refine IsS52.far ?_ NB0_184.out _ | refine IsS52.far ?_ NB0_190.out _ | refine IsS52.far ?_ NB0_211.out _) | exact HI0.out)), (by repeat (first | (with_reducible first | exact HK.out | apply KeepBut.set_ | apply keep_drewN | apply keep_drew | apply keep_alloc | refine keep_far ?_ GW184.out _ | refine keep_far ?_ GW190.out _ | refine keep_far ?_ GW211.out _) | exact HK.out)), (by repeat (first | (with_reducible first | exact HB.out | apply bA_ | apply bN_ | apply bD_ | refine bS_ ?_ (IsS52.ge HI0.out) | refine bS_ ?_ GE184.out | refine bS_ ?_ GE190.out | refine bS_ ?_ GE211.out) | exact HB.out))⟩)
            skip
            rintro _ w34 ⟨hS_, h0_, h1_, h2_, h3_, h4_⟩
            have n0_ : Aside0 (w34.heap[gb184]? = some (.cells #[.string (⟨#[]⟩ : ByteArray), .string (⟨#[]⟩ : ByteArray), .int .u64 0, .int .i64 0, .int .i64 0, .int .i64 0, .int .i64 0, .int .i64 0, .int .i64 0] 35 (0, 0))) := ⟨h0_⟩
            have n1_ : Aside0 (w34.heap[gb190]? = some (.cells #[.string x191000_4, .string x191001_4, .string x191002_4] 41 (0, 0))) := ⟨h1_⟩
            have n2_ : Aside0 (IsS52 w0 w34 g s0_0 t202) := ⟨h2_⟩
            have n3_ : Aside0 (KeepBut w w34 g none) := ⟨h3_⟩
            have n4_ : Aside0 (Below w0.heap.size w0 w34) := ⟨h4_⟩
            clear BK184 BK190 HI0 HK HB
            clear h0_ h1_ h2_ h3_ h4_
            have BK184 := n0_
            have BK190 := n1_
            have HI0 := n2_
            have HK := n3_
            have HB := n4_
            clear n0_ n1_ n2_ n3_ n4_
            have hHeld : w34.cell? ⟨gb190, 0, none⟩ = some (.string x191000_4) ∧ w34.cell? ⟨gb190, 1, none⟩ = some (.string x191001_4) ∧ w34.cell? ⟨gb190, 2, none⟩ = some (.string x191002_4) := hS_
            refine norm_ (a' := ?_) ?_ ?_
            rotate_left; (· simp only [putAll, Act.put, sA_, sB_, sC_]; rfl)
            refine two_ (i := 10) (j := 20) (Ni := some 24) (Nj := some 4) #[true,true,true,true,true,true,true,true,true,true,true,true,false,false,true,false,false,true,false,false,false,false] #[true,true,true,true,true,true,true,true,true,true,false,true,false,false,true,false,false,true,false,false,true,false] rfl rfl rfl rfl (two_of HT_.out (by kernel_rfl)) (by decide) (by decide) (fun K hK => ?_) (fun K hK => ?_)
            ·skip
             refine goes_ Tryd.func49 (by kernel_rfl) rfl #[.pointer (some ⟨g, 0, none⟩), .int .i64 256] (by rfl) rfl rfl (by (try simp only [List.map_toArray, List.map_cons, List.map_nil]); first | done | rfl | (simp only [List.length_drop, List.length_take]; rfl)) ?_
             with_reducible refine (kerbsuitedata_Source_Next.calls g s0_0 t202 256 t203 t204 w0 _ ?side1 ?side2 A25.out).mono ?_
             (case side1 => repeat (first | (with_reducible first | exact HI0.out | apply IsS52.alloc | apply IsS52.drewN | apply IsS52.drew | apply IsS52.set_1 | refine IsS52.far ?_ NB0_184.out _ | refine IsS52.far ?_ NB0_190.out _) | exact HI0.out))
             (case side2 => repeat (first | (with_reducible first | exact HB.out | apply bA_ | apply bN_ | apply bD_ | refine bS_ ?_ (IsS52.ge HI0.out) | refine bS_ ?_ GE184.out | refine bS_ ?_ GE190.out) | exact HB.out))
             rintro e w35 ⟨rfl, hi, hb, hk⟩
             refine ⟨_, rfl, ?_⟩
             have n0_ := Aside0.mk (KeepBut.blk hk (g' := gb184) (o := .cells #[.string (⟨#[]⟩ : ByteArray), .string (⟨#[]⟩ : ByteArray), .int .u64 0, .int .i64 0, .int .i64 0, .int .i64 0, .int .i64 0, .int .i64 0, .int .i64 0] 35 (0, 0)) (bk_ BK184.out) NB184_0.out (by simp))
             have n1_ := Aside0.mk (KeepBut.blk hk (g' := gb190) (o := .cells #[.string x191000_4, .string x191001_4, .string x191002_4] 41 (0, 0)) (bk_ BK190.out) NB190_0.out (by simp))
             have n2_ := Aside0.mk (KeepBut.trans (by repeat (first | (with_reducible first | exact HK.out | apply KeepBut.set_ | apply keep_drewN | apply keep_drew | apply keep_alloc | refine keep_far ?_ GW184.out _ | refine keep_far ?_ GW190.out _) | exact HK.out)) hk (.inl rfl))
             have n3_ := Aside0.mk (hb)
             have n4_ := Aside0.mk (hi)
             clear BK184 BK190 HK HB HI0
             have BK184 := n0_
             have BK190 := n1_
             have HK := n2_
             have HB := n3_
             have HI0 := n4_
             clear n0_ n1_ n2_ n3_ n4_
             (try clear hb)
             (try clear hb2)
             (try clear hk)
             (try clear hi)
             refine hK.out _ _ ⟨(blk_cell BK190.out 0).trans rfl, (blk_cell BK190.out 1).trans rfl, (blk_cell BK190.out 2).trans rfl⟩ (fun hHeld => ?_)
             clear hK K
             refine norm_ (a' := ?_) ?_ ?_
             rotate_left; (· show Act.put _ (some 24) _ = _; simp only [Act.put,sA_,sB_,sC_,i64_w,i32_w]; rfl)
             exact norm_ (by first | (simp only [putAll, Act.put, sA_, sB_, sC_]; done) | (simp only [putAll, Act.put, sA_, sB_, sC_]; rfl)) (hJ5_6_8_10 () _ ⟨hHeld, (bk_ BK184.out), (bk_ BK190.out), (by repeat (first | (with_reducible first | exact HI0.out | apply IsS52.alloc | apply IsS52.drewN | apply IsS52.drew | apply IsS52.set_1 | refine IsS52.far ?_ NB0_184.out _ | refine IsS52.far ?_ NB0_190.out _) | exact HI0.out)), (by repeat (first | (with_reducible first | exact HK.out | apply KeepBut.set_ | apply keep_drewN | apply keep_drew | apply keep_alloc | refine keep_far ?_ GW184.out _ | refine keep_far ?_ GW190.out _) | exact HK.out)), (by repeat (first | (with_reducible first | exact HB.out | apply bA_ | apply bN_ | apply bD_ | refine bS_ ?_ (IsS52.ge HI0.out) | refine bS_ ?_ GE184.out | refine bS_ ?_ GE190.out) | exact HB.out))⟩)
            skip
            refine box_step ?hg (N := 4) ?hd (cs := #[.string (⟨#[]⟩ : ByteArray), .string (⟨#[]⟩ : ByteArray), .int .u64 0, .int .i64 0, .int .i64 0, .int .i64 0, .int .i64 0, .int .i64 0, .int .i64 0]) (t := 35) ?hr ?_; (case hd => rfl); (case hg => rfl); (case hr => first | (go_simp; done) | (go_simp; rfl))
            intro gb211 hg w35 hbox hb
            have n0_ := Aside0.mk (blk_below (g := gb184) (o := .cells #[.string (⟨#[]⟩ : ByteArray), .string (⟨#[]⟩ : ByteArray), .int .u64 0, .int .i64 0, .int .i64 0, .int .i64 0, .int .i64 0, .int .i64 0, .int .i64 0] 35 (0, 0)) (bk_ BK184.out) hb)
            have n1_ := Aside0.mk (blk_below (g := gb190) (o := .cells #[.string x191000_4, .string x191001_4, .string x191002_4] 41 (0, 0)) (bk_ BK190.out) hb)
            have n2_ := Aside0.mk (IsS52.below (by repeat (first | (with_reducible first | exact HI0.out | apply IsS52.alloc | apply IsS52.drewN | apply IsS52.drew | apply IsS52.set_1 | refine IsS52.far ?_ NB0_184.out _ | refine IsS52.far ?_ NB0_190.out _) | exact HI0.out)) hb)
            have n3_ := Aside0.mk (KeepBut.trans (by repeat (first | (with_reducible first | exact HK.out | apply KeepBut.set_ | apply keep_drewN | apply keep_drew | apply keep_alloc | refine keep_far ?_ GW184.out _ | refine keep_far ?_ GW190.out _) | exact HK.out)) (KeepBut.of_below hb g none) (.inl rfl))
            have n4_ := Aside0.mk (below_step (by repeat (first | (with_reducible first | exact HB.out | apply bA_ | apply bN_ | apply bD_ | refine bS_ ?_ (IsS52.ge HI0.out) | refine bS_ ?_ GE184.out | refine bS_ ?_ GE190.out) | exact HB.out)) hb)
            have n5_ := Aside0.mk (hbox)
            have n6_ := Aside0.mk ((by rw [hg]; exact (keep_size (w := w) (g := g) (row := none) (by repeat (first | (with_reducible first | exact HK.out | apply KeepBut.set_ | apply keep_drewN | apply keep_drew | apply keep_alloc | refine keep_far ?_ GW184.out _ | refine keep_far ?_ GW190.out _) | exact HK.out))) : w.heap.size ≤ gb211))
            have n7_ := Aside0.mk ((Nat.le_trans HW0.out (by rw [hg]; exact (keep_size (w := w) (g := g) (row := none) (by repeat (first | (with_reducible first | exact HK.out | apply KeepBut.set_ | apply keep_drewN | apply keep_drew | apply keep_alloc | refine keep_far ?_ GW184.out _ | refine keep_far ?_ GW190.out _) | exact HK.out))) : w.heap.size ≤ gb211) : w0.heap.size ≤ gb211))
            have n8_ := Aside0.mk ((by rw [hg]; exact Nat.ne_of_lt (blk_lt (g := gb184) (o := .cells #[.string (⟨#[]⟩ : ByteArray), .string (⟨#[]⟩ : ByteArray), .int .u64 0, .int .i64 0, .int .i64 0, .int .i64 0, .int .i64 0, .int .i64 0, .int .i64 0] 35 (0, 0)) (bk_ BK184.out)) : gb184 ≠ gb211))
            have n9_ := Aside0.mk ((by rw [hg]; exact Nat.ne_of_gt (blk_lt (g := gb184) (o := .cells #[.string (⟨#[]⟩ : ByteArray), .string (⟨#[]⟩ : ByteArray), .int .u64 0, .int .i64 0, .int .i64 0, .int .i64 0, .int .i64 0, .int .i64 0, .int .i64 0] 35 (0, 0)) (bk_ BK184.out)) : gb211 ≠ gb184))
            have n10_ := Aside0.mk ((by rw [hg]; exact Nat.ne_of_lt (blk_lt (g := gb190) (o := .cells #[.string x191000_4, .string x191001_4, .string x191002_4] 41 (0, 0)) (bk_ BK190.out)) : gb190 ≠ gb211))
            have n11_ := Aside0.mk ((by rw [hg]; exact Nat.ne_of_gt (blk_lt (g := gb190) (o := .cells #[.string x191000_4, .string x191001_4, .string x191002_4] 41 (0, 0)) (bk_ BK190.out)) : gb211 ≠ gb190))
            have n12_ := Aside0.mk ((by rw [hg]; exact Nat.ne_of_lt (IsS52.lt (show IsS52 w0 _ g s0_0 t202 from by repeat (first | (with_reducible first | exact HI0.out | apply IsS52.alloc | apply IsS52.drewN | apply IsS52.drew | apply IsS52.set_1 | refine IsS52.far ?_ NB0_184.out _ | refine IsS52.far ?_ NB0_190.out _) | exact HI0.out))) : g ≠ gb211))
            have n13_ := Aside0.mk ((by rw [hg]; exact Nat.ne_of_gt (IsS52.lt (show IsS52 w0 _ g s0_0 t202 from by repeat (first | (with_reducible first | exact HI0.out | apply IsS52.alloc | apply IsS52.drewN | apply IsS52.drew | apply IsS52.set_1 | refine IsS52.far ?_ NB0_184.out _ | refine IsS52.far ?_ NB0_190.out _) | exact HI0.out))) : gb211 ≠ g))
            clear BK184 BK190 HI0 HK HB
            have BK184 := n0_
            have BK190 := n1_
            have HI0 := n2_
            have HK := n3_
            have HB := n4_
            have BK211 := n5_
            have GW211 := n6_
            have GE211 := n7_
            have NB184_211 := n8_
            have NB211_184 := n9_
            have NB190_211 := n10_
            have NB211_190 := n11_
            have NB0_211 := n12_
            have NB211_0 := n13_
            clear n0_ n1_ n2_ n3_ n4_ n5_ n6_ n7_ n8_ n9_ n10_ n11_ n12_ n13_
            clear hb hbox hg
            refine hK.out _ _ ⟨(blk_cell BK190.out 0).trans rfl, (blk_cell BK190.out 1).trans rfl, (blk_cell BK190.out 2).trans rfl⟩ (fun hHeld => ?_)
            clear hK K
            refine norm_ (a' := ?_) ?_ ?_
            rotate_left; (· show Act.put _ (some 4) _ = _; simp only [Act.put,sA_,sB_,sC_,i64_w,i32_w]; rfl)
            exact norm_ (by first | (simp only [putAll, Act.put, sA_, sB_, sC_]; done) | (simp only [putAll, Act.put, sA_, sB_, sC_]; rfl)) (hJ5_6_8_20 (gb211) _ ⟨hHeld, (bk_ BK184.out), (bk_ BK190.out), (bk_ BK211.out), GW211.out, GE211.out, NB0_211.out, NB211_0.out, NB184_211.out, NB211_184.out, NB190_211.out, NB211_190.out, (by repeat (first | (with_reducible first | exact HI0.out | apply IsS52.alloc | apply IsS52.drewN | apply IsS52.drew | apply IsS52.set_1 | refine IsS52.far ?_ NB0_184.out _ | refine IsS52.far ?_ NB0_190.out _ | refine IsS52.far ?_ NB0_211.out _) | exact HI0.out)), (by repeat (first | (with_reducible first | exact HK.out | apply KeepBut.set_ | apply keep_drewN | apply keep_drew | apply keep_alloc | refine keep_far ?_ GW184.out _ | refine keep_far ?_ GW190.out _ | refine keep_far ?_ GW211.out _) | exact HK.out)), (by repeat (first | (with_reducible first | exact HB.out | apply bA_ | apply bN_ | apply bD_ | refine bS_ ?_ (IsS52.ge HI0.out) | refine bS_ ?_ GE184.out | refine bS_ ?_ GE190.out | refine bS_ ?_ GE211.out) | exact HB.out))⟩)
           skip
           rintro gb211 w35 ⟨hS_, h0_, h1_, h2_, h3_, h4_, h5_, h6_, h7_, h8_, h9_, h10_, h11_, h12_, h13_⟩
           have n0_ : Aside0 (w35.heap[gb184]? = some (.cells #[.string (⟨#[]⟩ : ByteArray), .string (⟨#[]⟩ : ByteArray), .int .u64 0, .int .i64 0, .int .i64 0, .int .i64 0, .int .i64 0, .int .i64 0, .int .i64 0] 35 (0, 0))) := ⟨h0_⟩
           have n1_ : Aside0 (w35.heap[gb190]? = some (.cells #[.string x191000_4, .string x191001_4, .string x191002_4] 41 (0, 0))) := ⟨h1_⟩
           have n2_ : Aside0 (w35.heap[gb211]? = some (.cells #[.string (⟨#[]⟩ : ByteArray), .string (⟨#[]⟩ : ByteArray), .int .u64 0, .int .i64 0, .int .i64 0, .int .i64 0, .int .i64 0, .int .i64 0, .int .i64 0] 35 (0, 0))) := ⟨h2_⟩
           have n3_ : Aside0 (w.heap.size ≤ gb211) := ⟨h3_⟩
           have n4_ : Aside0 (w0.heap.size ≤ gb211) := ⟨h4_⟩
           have n5_ : Aside0 (g ≠ gb211) := ⟨h5_⟩
           have n6_ : Aside0 (gb211 ≠ g) := ⟨h6_⟩
           have n7_ : Aside0 (gb184 ≠ gb211) := ⟨h7_⟩
           have n8_ : Aside0 (gb211 ≠ gb184) := ⟨h8_⟩
           have n9_ : Aside0 (gb190 ≠ gb211) := ⟨h9_⟩
           have n10_ : Aside0 (gb211 ≠ gb190) := ⟨h10_⟩
           have n11_ : Aside0 (IsS52 w0 w35 g s0_0 t202) := ⟨h11_⟩
           have n12_ : Aside0 (KeepBut w w35 g none) := ⟨h12_⟩
           have n13_ : Aside0 (Below w0.heap.size w0 w35) := ⟨h13_⟩
           clear BK184 BK190 HI0 HK HB
           clear h0_ h1_ h2_ h3_ h4_ h5_ h6_ h7_ h8_ h9_ h10_ h11_ h12_ h13_
           have BK184 := n0_
           have BK190 := n1_
           have BK211 := n2_
           have GW211 := n3_
           have GE211 := n4_
           have NB0_211 := n5_
           have NB211_0 := n6_
           have NB184_211 := n7_
           have NB211_184 := n8_
           have NB190_211 := n9_
           have NB211_190 := n10_
           have HI0 := n11_
           have HK := n12_
           have HB := n13_
           clear n0_ n1_ n2_ n3_ n4_ n5_ n6_ n7_ n8_ n9_ n10_ n11_ n12_ n13_
           have hHeld : w35.cell? ⟨gb190, 0, none⟩ = some (.string x191000_4) ∧ w35.cell? ⟨gb190, 1, none⟩ = some (.string x191001_4) ∧ w35.cell? ⟨gb190, 2, none⟩ = some (.string x191002_4) := hS_
           refine norm_ (a' := ?_) ?_ ?_
           rotate_left; (· simp only [putAll, Act.put, sA_, sB_, sC_]; rfl)
           refine one_ (i := 10) (N := some 24) (bo_ 22 1200127) rfl rfl (one_of HT_.out (by kernel_rfl)) (by decide) (fun K hK => ?_)
           refine goes_ Tryd.func49 (by kernel_rfl) rfl #[.pointer (some ⟨g, 0, none⟩), .int .i64 256] (by rfl) rfl rfl (by (try simp only [List.map_toArray, List.map_cons, List.map_nil]); first | done | rfl | (simp only [List.length_drop, List.length_take]; rfl)) ?_
           with_reducible refine (kerbsuitedata_Source_Next.calls g s0_0 t202 256 t203 t204 w0 _ ?side1 ?side2 A25.out).mono ?_
           (case side1 => repeat (first | (with_reducible first | exact HI0.out | apply IsS52.alloc | apply IsS52.drewN | apply IsS52.drew | apply IsS52.set_1 | refine IsS52.far ?_ NB0_184.out _ | refine IsS52.far ?_ NB0_190.out _ | refine IsS52.far ?_ NB0_211.out _) | exact HI0.out))
           (case side2 => repeat (first | (with_reducible first | exact HB.out | apply bA_ | apply bN_ | apply bD_ | refine bS_ ?_ (IsS52.ge HI0.out) | refine bS_ ?_ GE184.out | refine bS_ ?_ GE190.out | refine bS_ ?_ GE211.out) | exact HB.out))
           rintro e w36 ⟨rfl, hi, hb, hk⟩
           refine ⟨_, rfl, ?_⟩
           have n0_ := Aside0.mk (KeepBut.blk hk (g' := gb184) (o := .cells #[.string (⟨#[]⟩ : ByteArray), .string (⟨#[]⟩ : ByteArray), .int .u64 0, .int .i64 0, .int .i64 0, .int .i64 0, .int .i64 0, .int .i64 0, .int .i64 0] 35 (0, 0)) (bk_ BK184.out) NB184_0.out (by simp))
           have n1_ := Aside0.mk (KeepBut.blk hk (g' := gb190) (o := .cells #[.string x191000_4, .string x191001_4, .string x191002_4] 41 (0, 0)) (bk_ BK190.out) NB190_0.out (by simp))
           have n2_ := Aside0.mk (KeepBut.blk hk (g' := gb211) (o := .cells #[.string (⟨#[]⟩ : ByteArray), .string (⟨#[]⟩ : ByteArray), .int .u64 0, .int .i64 0, .int .i64 0, .int .i64 0, .int .i64 0, .int .i64 0, .int .i64 0] 35 (0, 0)) (bk_ BK211.out) NB211_0.out (by simp))
           have n3_ := Aside0.mk (KeepBut.trans (by repeat (first | (with_reducible first | exact HK.out | apply KeepBut.set_ | apply keep_drewN | apply keep_drew | apply keep_alloc | refine keep_far ?_ GW184.out _ | refine keep_far ?_ GW190.out _ | refine keep_far ?_ GW211.out _) | exact HK.out)) hk (.inl rfl))
           have n4_ := Aside0.mk (hb)
           have n5_ := Aside0.mk (hi)
           clear BK184 BK190 BK211 HK HB HI0
           have BK184 := n0_
           have BK190 := n1_
           have BK211 := n2_
           have HK := n3_
           have HB := n4_
           have HI0 := n5_
           clear n0_ n1_ n2_ n3_ n4_ n5_
           (try clear hb)
           (try clear hb2)
           (try clear hk)
           (try clear hi)
           refine hK.out _ _ ⟨(blk_cell BK190.out 0).trans rfl, (blk_cell BK190.out 1).trans rfl, (blk_cell BK190.out 2).trans rfl⟩ (fun hHeld => ?_)
           clear hK K
           refine norm_ (a' := ?_) ?_ ?_
           rotate_left; (· show Act.put _ (some 24) _ = _; simp only [Act.put,sA_,sB_,sC_,i64_w,i32_w]; rfl)
           exact norm_ (by first | (simp only [putAll, Act.put, sA_, sB_, sC_]; done) | (simp only [putAll, Act.put, sA_, sB_, sC_]; rfl)) (hJ5_6_8_10_20 (gb211) _ ⟨hHeld, (bk_ BK184.out), (bk_ BK190.out), (bk_ BK211.out), GW211.out, GE211.out, NB0_211.out, NB211_0.out, NB184_211.out, NB211_184.out, NB190_211.out, NB211_190.out, (by repeat (first | (with_reducible first | exact HI0.out | apply IsS52.alloc | apply IsS52.drewN | apply IsS52.drew | apply IsS52.set_1 | refine IsS52.far ?_ NB0_184.out _ | refine IsS52.far ?_ NB0_190.out _ | refine IsS52.far ?_ NB0_211.out _) | exact HI0.out)), (by repeat (first | (with_reducible first | exact HK.out | apply KeepBut.set_ | apply keep_drewN | apply keep_drew | apply keep_alloc | refine keep_far ?_ GW184.out _ | refine keep_far ?_ GW190.out _ | refine keep_far ?_ GW211.out _) | exact HK.out)), (by repeat (first | (with_reducible first | exact HB.out | apply bA_ | apply bN_ | apply bD_ | refine bS_ ?_ (IsS52.ge HI0.out) | refine bS_ ?_ GE184.out | refine bS_ ?_ GE190.out | refine bS_ ?_ GE211.out) | exact HB.out))⟩)
          skip
          rintro _ w35 ⟨hS_, h0_, h1_, h2_, h3_, h4_⟩
          have n0_ : Aside0 (w35.heap[gb184]? = some (.cells #[.string (⟨#[]⟩ : ByteArray), .string (⟨#[]⟩ : ByteArray), .int .u64 0, .int .i64 0, .int .i64 0, .int .i64 0, .int .i64 0, .int .i64 0, .int .i64 0] 35 (0, 0))) := ⟨h0_⟩
          have n1_ : Aside0 (w35.heap[gb190]? = some (.cells #[.string x191000_4, .string x191001_4, .string x191002_4] 41 (0, 0))) := ⟨h1_⟩
          have n2_ : Aside0 (IsS52 w0 w35 g s0_0 t204) := ⟨h2_⟩
          have n3_ : Aside0 (KeepBut w w35 g none) := ⟨h3_⟩
          have n4_ : Aside0 (Below w0.heap.size w0 w35) := ⟨h4_⟩
          clear BK184 BK190 HI0 HK HB
          clear h0_ h1_ h2_ h3_ h4_
          have BK184 := n0_
          have BK190 := n1_
          have HI0 := n2_
          have HK := n3_
          have HB := n4_
          clear n0_ n1_ n2_ n3_ n4_
          have hHeld : w35.cell? ⟨gb190, 0, none⟩ = some (.string x191000_4) ∧ w35.cell? ⟨gb190, 1, none⟩ = some (.string x191001_4) ∧ w35.cell? ⟨gb190, 2, none⟩ = some (.string x191002_4) := hS_
          refine norm_ (a' := ?_) ?_ ?_
          rotate_left; (· simp only [putAll, Act.put, sA_, sB_, sC_]; rfl)
          refine two_ (i := 12) (j := 20) (Ni := some 26) (Nj := some 4) #[true,true,true,true,true,true,true,true,true,true,true,true,true,false,true,false,false,true,false,false,false,false] #[true,true,true,true,true,true,true,true,true,true,true,true,false,false,true,false,false,true,false,false,true,false] rfl rfl rfl rfl (two_of HT_.out (by kernel_rfl)) (by decide) (by decide) (fun K hK => ?_) (fun K hK => ?_)
          ·skip
           refine goes_ Tryd.func49 (by kernel_rfl) rfl #[.pointer (some ⟨g, 0, none⟩), .int .i64 5] (by rfl) rfl rfl (by (try simp only [List.map_toArray, List.map_cons, List.map_nil]); first | done | rfl | (simp only [List.length_drop, List.length_take]; rfl)) ?_
           with_reducible refine (kerbsuitedata_Source_Next.calls g s0_0 t204 5 t205 t206 w0 _ ?side1 ?side2 A26.out).mono ?_
           (case side1 => repeat (first | (with_reducible first | exact HI0.out | apply IsS52.alloc | apply IsS52.drewN | apply IsS52.drew | apply IsS52.set_1 | refine IsS52.far ?_ NB0_184.out _ | refine IsS52.far ?_ NB0_190.out _) | exact HI0.out))
           (case side2 => repeat (first | (with_reducible first | exact HB.out | apply bA_ | apply bN_ | apply bD_ | refine bS_ ?_ (IsS52.ge HI0.out) | refine bS_ ?_ GE184.out | refine bS_ ?_ GE190.out) | exact HB.out))
           rintro e w36 ⟨rfl, hi, hb, hk⟩
           refine ⟨_, rfl, ?_⟩
           have n0_ := Aside0.mk (KeepBut.blk hk (g' := gb184) (o := .cells #[.string (⟨#[]⟩ : ByteArray), .string (⟨#[]⟩ : ByteArray), .int .u64 0, .int .i64 0, .int .i64 0, .int .i64 0, .int .i64 0, .int .i64 0, .int .i64 0] 35 (0, 0)) (bk_ BK184.out) NB184_0.out (by simp))
           have n1_ := Aside0.mk (KeepBut.blk hk (g' := gb190) (o := .cells #[.string x191000_4, .string x191001_4, .string x191002_4] 41 (0, 0)) (bk_ BK190.out) NB190_0.out (by simp))
           have n2_ := Aside0.mk (KeepBut.trans (by repeat (first | (with_reducible first | exact HK.out | apply KeepBut.set_ | apply keep_drewN | apply keep_drew | apply keep_alloc | refine keep_far ?_ GW184.out _ | refine keep_far ?_ GW190.out _) | exact HK.out)) hk (.inl rfl))
           have n3_ := Aside0.mk (hb)
           have n4_ := Aside0.mk (hi)
           clear BK184 BK190 HK HB HI0
           have BK184 := n0_
           have BK190 := n1_
           have HK := n2_
           have HB := n3_
           have HI0 := n4_
           clear n0_ n1_ n2_ n3_ n4_
           (try clear hb)
           (try clear hb2)
           (try clear hk)
           (try clear hi)
           refine hK.out _ _ ⟨(blk_cell BK190.out 0).trans rfl, (blk_cell BK190.out 1).trans rfl, (blk_cell BK190.out 2).trans rfl⟩ (fun hHeld => ?_)
           clear hK K
           refine norm_ (a' := ?_) ?_ ?_
           rotate_left; (· show Act.put _ (some 26) _ = _; simp only [Act.put,sA_,sB_,sC_,i64_w,i32_w]; rfl)
           refine pure_ (i := 13) (N := some 27) (v := ?_) (a' := ?_) (bo_ 22 163839) rfl rfl (any_of HT_.out (by kernel_rfl)) (fun _ _ _ h => h) (Or.inl ⟨by rfl, ?_⟩) ?_ ?_
           rotate_left; (· intro w'; go_simp; with_reducible rfl)
           rotate_left; (· simp only [Act.put,sA_,sB_,sC_,i64_w,i32_w]; rfl)
           exact norm_ (by first | (simp only [putAll, Act.put, sA_, sB_, sC_]; done) | (simp only [putAll, Act.put, sA_, sB_, sC_]; rfl)) (hJ5_6_8_10_12 () _ ⟨hHeld, (bk_ BK184.out), (bk_ BK190.out), (by repeat (first | (with_reducible first | exact HI0.out | apply IsS52.alloc | apply IsS52.drewN | apply IsS52.drew | apply IsS52.set_1 | refine IsS52.far ?_ NB0_184.out _ | refine IsS52.far ?_ NB0_190.out _) | exact HI0.out)), (by repeat (first | (with_reducible first | exact HK.out | apply KeepBut.set_ | apply keep_drewN | apply keep_drew | apply keep_alloc | refine keep_far ?_ GW184.out _ | refine keep_far ?_ GW190.out _) | exact HK.out)), (by repeat (first | (with_reducible first | exact HB.out | apply bA_ | apply bN_ | apply bD_ | refine bS_ ?_ (IsS52.ge HI0.out) | refine bS_ ?_ GE184.out | refine bS_ ?_ GE190.out) | exact HB.out))⟩)
          skip
          refine box_step ?hg (N := 4) ?hd (cs := #[.string (⟨#[]⟩ : ByteArray), .string (⟨#[]⟩ : ByteArray), .int .u64 0, .int .i64 0, .int .i64 0, .int .i64 0, .int .i64 0, .int .i64 0, .int .i64 0]) (t := 35) ?hr ?_; (case hd => rfl); (case hg => rfl); (case hr => first | (go_simp; done) | (go_simp; rfl))
          intro gb211 hg w36 hbox hb
          have n0_ := Aside0.mk (blk_below (g := gb184) (o := .cells #[.string (⟨#[]⟩ : ByteArray), .string (⟨#[]⟩ : ByteArray), .int .u64 0, .int .i64 0, .int .i64 0, .int .i64 0, .int .i64 0, .int .i64 0, .int .i64 0] 35 (0, 0)) (bk_ BK184.out) hb)
          have n1_ := Aside0.mk (blk_below (g := gb190) (o := .cells #[.string x191000_4, .string x191001_4, .string x191002_4] 41 (0, 0)) (bk_ BK190.out) hb)
          have n2_ := Aside0.mk (IsS52.below (by repeat (first | (with_reducible first | exact HI0.out | apply IsS52.alloc | apply IsS52.drewN | apply IsS52.drew | apply IsS52.set_1 | refine IsS52.far ?_ NB0_184.out _ | refine IsS52.far ?_ NB0_190.out _) | exact HI0.out)) hb)
          have n3_ := Aside0.mk (KeepBut.trans (by repeat (first | (with_reducible first | exact HK.out | apply KeepBut.set_ | apply keep_drewN | apply keep_drew | apply keep_alloc | refine keep_far ?_ GW184.out _ | refine keep_far ?_ GW190.out _) | exact HK.out)) (KeepBut.of_below hb g none) (.inl rfl))
          have n4_ := Aside0.mk (below_step (by repeat (first | (with_reducible first | exact HB.out | apply bA_ | apply bN_ | apply bD_ | refine bS_ ?_ (IsS52.ge HI0.out) | refine bS_ ?_ GE184.out | refine bS_ ?_ GE190.out) | exact HB.out)) hb)
          have n5_ := Aside0.mk (hbox)
          have n6_ := Aside0.mk ((by rw [hg]; exact (keep_size (w := w) (g := g) (row := none) (by repeat (first | (with_reducible first | exact HK.out | apply KeepBut.set_ | apply keep_drewN | apply keep_drew | apply keep_alloc | refine keep_far ?_ GW184.out _ | refine keep_far ?_ GW190.out _) | exact HK.out))) : w.heap.size ≤ gb211))
          have n7_ := Aside0.mk ((Nat.le_trans HW0.out (by rw [hg]; exact (keep_size (w := w) (g := g) (row := none) (by repeat (first | (with_reducible first | exact HK.out | apply KeepBut.set_ | apply keep_drewN | apply keep_drew | apply keep_alloc | refine keep_far ?_ GW184.out _ | refine keep_far ?_ GW190.out _) | exact HK.out))) : w.heap.size ≤ gb211) : w0.heap.size ≤ gb211))
          have n8_ := Aside0.mk ((by rw [hg]; exact Nat.ne_of_lt (blk_lt (g := gb184) (o := .cells #[.string (⟨#[]⟩ : ByteArray), .string (⟨#[]⟩ : ByteArray), .int .u64 0, .int .i64 0, .int .i64 0, .int .i64 0, .int .i64 0, .int .i64 0, .int .i64 0] 35 (0, 0)) (bk_ BK184.out)) : gb184 ≠ gb211))
          have n9_ := Aside0.mk ((by rw [hg]; exact Nat.ne_of_gt (blk_lt (g := gb184) (o := .cells #[.string (⟨#[]⟩ : ByteArray), .string (⟨#[]⟩ : ByteArray), .int .u64 0, .int .i64 0, .int .i64 0, .int .i64 0, .int .i64 0, .int .i64 0, .int .i64 0] 35 (0, 0)) (bk_ BK184.out)) : gb211 ≠ gb184))
          have n10_ := Aside0.mk ((by rw [hg]; exact Nat.ne_of_lt (blk_lt (g := gb190) (o := .cells #[.string x191000_4, .string x191001_4, .string x191002_4] 41 (0, 0)) (bk_ BK190.out)) : gb190 ≠ gb211))
          have n11_ := Aside0.mk ((by rw [hg]; exact Nat.ne_of_gt (blk_lt (g := gb190) (o := .cells #[.string x191000_4, .string x191001_4, .string x191002_4] 41 (0, 0)) (bk_ BK190.out)) : gb211 ≠ gb190))
          have n12_ := Aside0.mk ((by rw [hg]; exact Nat.ne_of_lt (IsS52.lt (show IsS52 w0 _ g s0_0 t204 from by repeat (first | (with_reducible first | exact HI0.out | apply IsS52.alloc | apply IsS52.drewN | apply IsS52.drew | apply IsS52.set_1 | refine IsS52.far ?_ NB0_184.out _ | refine IsS52.far ?_ NB0_190.out _) | exact HI0.out))) : g ≠ gb211))
          have n13_ := Aside0.mk ((by rw [hg]; exact Nat.ne_of_gt (IsS52.lt (show IsS52 w0 _ g s0_0 t204 from by repeat (first | (with_reducible first | exact HI0.out | apply IsS52.alloc | apply IsS52.drewN | apply IsS52.drew | apply IsS52.set_1 | refine IsS52.far ?_ NB0_184.out _ | refine IsS52.far ?_ NB0_190.out _) | exact HI0.out))) : gb211 ≠ g))
          clear BK184 BK190 HI0 HK HB
          have BK184 := n0_
          have BK190 := n1_
          have HI0 := n2_
          have HK := n3_
          have HB := n4_
          have BK211 := n5_
          have GW211 := n6_
          have GE211 := n7_
          have NB184_211 := n8_
          have NB211_184 := n9_
          have NB190_211 := n10_
          have NB211_190 := n11_
          have NB0_211 := n12_
          have NB211_0 := n13_
          clear n0_ n1_ n2_ n3_ n4_ n5_ n6_ n7_ n8_ n9_ n10_ n11_ n12_ n13_
          clear hb hbox hg
          refine hK.out _ _ ⟨(blk_cell BK190.out 0).trans rfl, (blk_cell BK190.out 1).trans rfl, (blk_cell BK190.out 2).trans rfl⟩ (fun hHeld => ?_)
          clear hK K
          refine norm_ (a' := ?_) ?_ ?_
          rotate_left; (· show Act.put _ (some 4) _ = _; simp only [Act.put,sA_,sB_,sC_,i64_w,i32_w]; rfl)
          exact norm_ (by first | (simp only [putAll, Act.put, sA_, sB_, sC_]; done) | (simp only [putAll, Act.put, sA_, sB_, sC_]; rfl)) (hJ5_6_8_10_20 (gb211) _ ⟨hHeld, (bk_ BK184.out), (bk_ BK190.out), (bk_ BK211.out), GW211.out, GE211.out, NB0_211.out, NB211_0.out, NB184_211.out, NB211_184.out, NB190_211.out, NB211_190.out, (by repeat (first | (with_reducible first | exact HI0.out | apply IsS52.alloc | apply IsS52.drewN | apply IsS52.drew | apply IsS52.set_1 | refine IsS52.far ?_ NB0_184.out _ | refine IsS52.far ?_ NB0_190.out _ | refine IsS52.far ?_ NB0_211.out _) | exact HI0.out)), (by repeat (first | (with_reducible first | exact HK.out | apply KeepBut.set_ | apply keep_drewN | apply keep_drew | apply keep_alloc | refine keep_far ?_ GW184.out _ | refine keep_far ?_ GW190.out _ | refine keep_far ?_ GW211.out _) | exact HK.out)), (by repeat (first | (with_reducible first | exact HB.out | apply bA_ | apply bN_ | apply bD_ | refine bS_ ?_ (IsS52.ge HI0.out) | refine bS_ ?_ GE184.out | refine bS_ ?_ GE190.out | refine bS_ ?_ GE211.out) | exact HB.out))⟩)
         skip
         rintro gb211 w36 ⟨hS_, h0_, h1_, h2_, h3_, h4_, h5_, h6_, h7_, h8_, h9_, h10_, h11_, h12_, h13_⟩
         have n0_ : Aside0 (w36.heap[gb184]? = some (.cells #[.string (⟨#[]⟩ : ByteArray), .string (⟨#[]⟩ : ByteArray), .int .u64 0, .int .i64 0, .int .i64 0, .int .i64 0, .int .i64 0, .int .i64 0, .int .i64 0] 35 (0, 0))) := ⟨h0_⟩
         have n1_ : Aside0 (w36.heap[gb190]? = some (.cells #[.string x191000_4, .string x191001_4, .string x191002_4] 41 (0, 0))) := ⟨h1_⟩
         have n2_ : Aside0 (w36.heap[gb211]? = some (.cells #[.string (⟨#[]⟩ : ByteArray), .string (⟨#[]⟩ : ByteArray), .int .u64 0, .int .i64 0, .int .i64 0, .int .i64 0, .int .i64 0, .int .i64 0, .int .i64 0] 35 (0, 0))) := ⟨h2_⟩
         have n3_ : Aside0 (w.heap.size ≤ gb211) := ⟨h3_⟩
         have n4_ : Aside0 (w0.heap.size ≤ gb211) := ⟨h4_⟩
         have n5_ : Aside0 (g ≠ gb211) := ⟨h5_⟩
         have n6_ : Aside0 (gb211 ≠ g) := ⟨h6_⟩
         have n7_ : Aside0 (gb184 ≠ gb211) := ⟨h7_⟩
         have n8_ : Aside0 (gb211 ≠ gb184) := ⟨h8_⟩
         have n9_ : Aside0 (gb190 ≠ gb211) := ⟨h9_⟩
         have n10_ : Aside0 (gb211 ≠ gb190) := ⟨h10_⟩
         have n11_ : Aside0 (IsS52 w0 w36 g s0_0 t204) := ⟨h11_⟩
         have n12_ : Aside0 (KeepBut w w36 g none) := ⟨h12_⟩
         have n13_ : Aside0 (Below w0.heap.size w0 w36) := ⟨h13_⟩
         clear BK184 BK190 HI0 HK HB
         clear h0_ h1_ h2_ h3_ h4_ h5_ h6_ h7_ h8_ h9_ h10_ h11_ h12_ h13_
         have BK184 := n0_
         have BK190 := n1_
         have BK211 := n2_
         have GW211 := n3_
         have GE211 := n4_
         have NB0_211 := n5_
         have NB211_0 := n6_
         have NB184_211 := n7_
         have NB211_184 := n8_
         have NB190_211 := n9_
         have NB211_190 := n10_
         have HI0 := n11_
         have HK := n12_
         have HB := n13_
         clear n0_ n1_ n2_ n3_ n4_ n5_ n6_ n7_ n8_ n9_ n10_ n11_ n12_ n13_
         have hHeld : w36.cell? ⟨gb190, 0, none⟩ = some (.string x191000_4) ∧ w36.cell? ⟨gb190, 1, none⟩ = some (.string x191001_4) ∧ w36.cell? ⟨gb190, 2, none⟩ = some (.string x191002_4) := hS_
         refine norm_ (a' := ?_) ?_ ?_
         rotate_left; (· simp only [putAll, Act.put, sA_, sB_, sC_]; rfl)
         refine one_ (i := 12) (N := some 26) (bo_ 22 1204223) rfl rfl (one_of HT_.out (by kernel_rfl)) (by decide) (fun K hK => ?_)
         refine goes_ Tryd.func49 (by kernel_rfl) rfl #[.pointer (some ⟨g, 0, none⟩), .int .i64 5] (by rfl) rfl rfl (by (try simp only [List.map_toArray, List.map_cons, List.map_nil]); first | done | rfl | (simp only [List.length_drop, List.length_take]; rfl)) ?_
         with_reducible refine (kerbsuitedata_Source_Next.calls g s0_0 t204 5 t205 t206 w0 _ ?side1 ?side2 A26.out).mono ?_
         (case side1 => repeat (first | (with_reducible first | exact HI0.out | apply IsS52.alloc | apply IsS52.drewN | apply IsS52.drew | apply IsS52.set_1 | refine IsS52.far ?_ NB0_184.out _ | refine IsS52.far ?_ NB0_190.out _ | refine IsS52.far ?_ NB0_211.out _) | exact HI0.out))
         (case side2 => repeat (first | (with_reducible first | exact HB.out | apply bA_ | apply bN_ | apply bD_ | refine bS_ ?_ (IsS52.ge HI0.out) | refine bS_ ?_ GE184.out | refine bS_ ?_ GE190.out | refine bS_ ?_ GE211.out) | exact HB.out))
         rintro e w37 ⟨rfl, hi, hb, hk⟩
         refine ⟨_, rfl, ?_⟩
         have n0_ := Aside0.mk (KeepBut.blk hk (g' := gb184) (o := .cells #[.string (⟨#[]⟩ : ByteArray), .string (⟨#[]⟩ : ByteArray), .int .u64 0, .int .i64 0, .int .i64 0, .int .i64 0, .int .i64 0, .int .i64 0, .int .i64 0] 35 (0, 0)) (bk_ BK184.out) NB184_0.out (by simp))
         have n1_ := Aside0.mk (KeepBut.blk hk (g' := gb190) (o := .cells #[.string x191000_4, .string x191001_4, .string x191002_4] 41 (0, 0)) (bk_ BK190.out) NB190_0.out (by simp))
         have n2_ := Aside0.mk (KeepBut.blk hk (g' := gb211) (o := .cells #[.string (⟨#[]⟩ : ByteArray), .string (⟨#[]⟩ : ByteArray), .int .u64 0, .int .i64 0, .int .i64 0, .int .i64 0, .int .i64 0, .int .i64 0, .int .i64 0] 35 (0, 0)) (bk_ BK211.out) NB211_0.out (by simp))
         have n3_ := Aside0.mk (KeepBut.trans (by repeat (first | (with_reducible first | exact HK.out | apply KeepBut.set_ | apply keep_drewN | apply keep_drew | apply keep_alloc | refine keep_far ?_ GW184.out _ | refine keep_far ?_ GW190.out _ | refine keep_far ?_ GW211.out _) | exact HK.out)) hk (.inl rfl))
         have n4_ := Aside0.mk (hb)
         have n5_ := Aside0.mk (hi)
         clear BK184 BK190 BK211 HK HB HI0
         have BK184 := n0_
         have BK190 := n1_
         have BK211 := n2_
         have HK := n3_
         have HB := n4_
         have HI0 := n5_
         clear n0_ n1_ n2_ n3_ n4_ n5_
         (try clear hb)
         (try clear hb2)
         (try clear hk)
         (try clear hi)
         refine hK.out _ _ ⟨(blk_cell BK190.out 0).trans rfl, (blk_cell BK190.out 1).trans rfl, (blk_cell BK190.out 2).trans rfl⟩ (fun hHeld => ?_)
         clear hK K
         refine norm_ (a' := ?_) ?_ ?_
         rotate_left; (· show Act.put _ (some 26) _ = _; simp only [Act.put,sA_,sB_,sC_,i64_w,i32_w]; rfl)
         refine pure_ (i := 13) (N := some 27) (v := ?_) (a' := ?_) (bo_ 22 1212415) rfl rfl (any_of HT_.out (by kernel_rfl)) (fun _ _ _ h => h) (Or.inl ⟨by rfl, ?_⟩) ?_ ?_
         rotate_left; (· intro w'; go_simp; with_reducible rfl)
         rotate_left; (· simp only [Act.put,sA_,sB_,sC_,i64_w,i32_w]; rfl)
         exact norm_ (by first | (simp only [putAll, Act.put, sA_, sB_, sC_]; done) | (simp only [putAll, Act.put, sA_, sB_, sC_]; rfl)) (hJ5_6_8_10_12_20 (gb211) _ ⟨hHeld, (bk_ BK184.out), (bk_ BK190.out), (bk_ BK211.out), GW211.out, GE211.out, NB0_211.out, NB211_0.out, NB184_211.out, NB211_184.out, NB190_211.out, NB211_190.out, (by repeat (first | (with_reducible first | exact HI0.out | apply IsS52.alloc | apply IsS52.drewN | apply IsS52.drew | apply IsS52.set_1 | refine IsS52.far ?_ NB0_184.out _ | refine IsS52.far ?_ NB0_190.out _ | refine IsS52.far ?_ NB0_211.out _) | exact HI0.out)), (by repeat (first | (with_reducible first | exact HK.out | apply KeepBut.set_ | apply keep_drewN | apply keep_drew | apply keep_alloc | refine keep_far ?_ GW184.out _ | refine keep_far ?_ GW190.out _ | refine keep_far ?_ GW211.out _) | exact HK.out)), (by repeat (first | (with_reducible first | exact HB.out | apply bA_ | apply bN_ | apply bD_ | refine bS_ ?_ (IsS52.ge HI0.out) | refine bS_ ?_ GE184.out | refine bS_ ?_ GE190.out | refine bS_ ?_ GE211.out) | exact HB.out))⟩)
        skip
        rintro _ w36 ⟨hS_, h0_, h1_, h2_, h3_, h4_⟩
        have n0_ : Aside0 (w36.heap[gb184]? = some (.cells #[.string (⟨#[]⟩ : ByteArray), .string (⟨#[]⟩ : ByteArray), .int .u64 0, .int .i64 0, .int .i64 0, .int .i64 0, .int .i64 0, .int .i64 0, .int .i64 0] 35 (0, 0))) := ⟨h0_⟩
        have n1_ : Aside0 (w36.heap[gb190]? = some (.cells #[.string x191000_4, .string x191001_4, .string x191002_4] 41 (0, 0))) := ⟨h1_⟩
        have n2_ : Aside0 (IsS52 w0 w36 g s0_0 t206) := ⟨h2_⟩
        have n3_ : Aside0 (KeepBut w w36 g none) := ⟨h3_⟩
        have n4_ : Aside0 (Below w0.heap.size w0 w36) := ⟨h4_⟩
        clear BK184 BK190 HI0 HK HB
        clear h0_ h1_ h2_ h3_ h4_
        have BK184 := n0_
        have BK190 := n1_
        have HI0 := n2_
        have HK := n3_
        have HB := n4_
        clear n0_ n1_ n2_ n3_ n4_
        have hHeld : w36.cell? ⟨gb190, 0, none⟩ = some (.string x191000_4) ∧ w36.cell? ⟨gb190, 1, none⟩ = some (.string x191001_4) ∧ w36.cell? ⟨gb190, 2, none⟩ = some (.string x191002_4) := hS_
        refine norm_ (a' := ?_) ?_ ?_
        rotate_left; (· simp only [putAll, Act.put, sA_, sB_, sC_]; rfl)
        refine two_ (i := 15) (j := 20) (Ni := some 29) (Nj := some 4) #[true,true,true,true,true,true,true,true,true,true,true,true,true,true,true,true,false,true,false,false,false,false] #[true,true,true,true,true,true,true,true,true,true,true,true,true,true,true,false,false,true,false,false,true,false] rfl rfl rfl rfl (two_of HT_.out (by kernel_rfl)) (by decide) (by decide) (fun K hK => ?_) (fun K hK => ?_)
        ·skip
         refine goes_ Tryd.func49 (by kernel_rfl) rfl #[.pointer (some ⟨g, 0, none⟩), .int .i64 4] (by rfl) rfl rfl (by (try simp only [List.map_toArray, List.map_cons, List.map_nil]); first | done | rfl | (simp only [List.length_drop, List.length_take]; rfl)) ?_
         with_reducible refine (kerbsuitedata_Source_Next.calls g s0_0 t206 4 t207 t208 w0 _ ?side1 ?side2 A27.out).mono ?_
         (case side1 => repeat (first | (with_reducible first | exact HI0.out | apply IsS52.alloc | apply IsS52.drewN | apply IsS52.drew | apply IsS52.set_1 | refine IsS52.far ?_ NB0_184.out _ | refine IsS52.far ?_ NB0_190.out _) | exact HI0.out))
         (case side2 => repeat (first | (with_reducible first | exact HB.out | apply bA_ | apply bN_ | apply bD_ | refine bS_ ?_ (IsS52.ge HI0.out) | refine bS_ ?_ GE184.out | refine bS_ ?_ GE190.out) | exact HB.out))
         rintro e w37 ⟨rfl, hi, hb, hk⟩
         refine ⟨_, rfl, ?_⟩
         have n0_ := Aside0.mk (KeepBut.blk hk (g' := gb184) (o := .cells #[.string (⟨#[]⟩ : ByteArray), .string (⟨#[]⟩ : ByteArray), .int .u64 0, .int .i64 0, .int .i64 0, .int .i64 0, .int .i64 0, .int .i64 0, .int .i64 0] 35 (0, 0)) (bk_ BK184.out) NB184_0.out (by simp))
         have n1_ := Aside0.mk (KeepBut.blk hk (g' := gb190) (o := .cells #[.string x191000_4, .string x191001_4, .string x191002_4] 41 (0, 0)) (bk_ BK190.out) NB190_0.out (by simp))
         have n2_ := Aside0.mk (KeepBut.trans (by repeat (first | (with_reducible first | exact HK.out | apply KeepBut.set_ | apply keep_drewN | apply keep_drew | apply keep_alloc | refine keep_far ?_ GW184.out _ | refine keep_far ?_ GW190.out _) | exact HK.out)) hk (.inl rfl))
         have n3_ := Aside0.mk (hb)
         have n4_ := Aside0.mk (hi)
         clear BK184 BK190 HK HB HI0
         have BK184 := n0_
         have BK190 := n1_
         have HK := n2_
         have HB := n3_
         have HI0 := n4_
         clear n0_ n1_ n2_ n3_ n4_
         (try clear hb)
         (try clear hb2)
         (try clear hk)
         (try clear hi)
         refine hK.out _ _ ⟨(blk_cell BK190.out 0).trans rfl, (blk_cell BK190.out 1).trans rfl, (blk_cell BK190.out 2).trans rfl⟩ (fun hHeld => ?_)
         clear hK K
         refine norm_ (a' := ?_) ?_ ?_
         rotate_left; (· show Act.put _ (some 29) _ = _; simp only [Act.put,sA_,sB_,sC_,i64_w,i32_w]; rfl)
         refine pure_ (i := 16) (N := some 30) (v := ?_) (a' := ?_) (bo_ 22 262143) rfl rfl (any_of HT_.out (by kernel_rfl)) (fun _ _ _ h => h) (Or.inl ⟨by rfl, ?_⟩) ?_ ?_
         rotate_left; (· intro w'; go_simp; with_reducible rfl)
         rotate_left; (· simp only [Act.put,sA_,sB_,sC_,i64_w,i32_w]; rfl)
         exact norm_ (by first | (simp only [putAll, Act.put, sA_, sB_, sC_]; done) | (simp only [putAll, Act.put, sA_, sB_, sC_]; rfl)) (hJ5_6_8_10_12_15 () _ ⟨hHeld, (bk_ BK184.out), (bk_ BK190.out), (by repeat (first | (with_reducible first | exact HI0.out | apply IsS52.alloc | apply IsS52.drewN | apply IsS52.drew | apply IsS52.set_1 | refine IsS52.far ?_ NB0_184.out _ | refine IsS52.far ?_ NB0_190.out _) | exact HI0.out)), (by repeat (first | (with_reducible first | exact HK.out | apply KeepBut.set_ | apply keep_drewN | apply keep_drew | apply keep_alloc | refine keep_far ?_ GW184.out _ | refine keep_far ?_ GW190.out _) | exact HK.out)), (by repeat (first | (with_reducible first | exact HB.out | apply bA_ | apply bN_ | apply bD_ | refine bS_ ?_ (IsS52.ge HI0.out) | refine bS_ ?_ GE184.out | refine bS_ ?_ GE190.out) | exact HB.out))⟩)
        skip
        refine box_step ?hg (N := 4) ?hd (cs := #[.string (⟨#[]⟩ : ByteArray), .string (⟨#[]⟩ : ByteArray), .int .u64 0, .int .i64 0, .int .i64 0, .int .i64 0, .int .i64 0, .int .i64 0, .int .i64 0]) (t := 35) ?hr ?_; (case hd => rfl); (case hg => rfl); (case hr => first | (go_simp; done) | (go_simp; rfl))
        intro gb211 hg w37 hbox hb
        have n0_ := Aside0.mk (blk_below (g := gb184) (o := .cells #[.string (⟨#[]⟩ : ByteArray), .string (⟨#[]⟩ : ByteArray), .int .u64 0, .int .i64 0, .int .i64 0, .int .i64 0, .int .i64 0, .int .i64 0, .int .i64 0] 35 (0, 0)) (bk_ BK184.out) hb)
        have n1_ := Aside0.mk (blk_below (g := gb190) (o := .cells #[.string x191000_4, .string x191001_4, .string x191002_4] 41 (0, 0)) (bk_ BK190.out) hb)
        have n2_ := Aside0.mk (IsS52.below (by repeat (first | (with_reducible first | exact HI0.out | apply IsS52.alloc | apply IsS52.drewN | apply IsS52.drew | apply IsS52.set_1 | refine IsS52.far ?_ NB0_184.out _ | refine IsS52.far ?_ NB0_190.out _) | exact HI0.out)) hb)
        have n3_ := Aside0.mk (KeepBut.trans (by repeat (first | (with_reducible first | exact HK.out | apply KeepBut.set_ | apply keep_drewN | apply keep_drew | apply keep_alloc | refine keep_far ?_ GW184.out _ | refine keep_far ?_ GW190.out _) | exact HK.out)) (KeepBut.of_below hb g none) (.inl rfl))
        have n4_ := Aside0.mk (below_step (by repeat (first | (with_reducible first | exact HB.out | apply bA_ | apply bN_ | apply bD_ | refine bS_ ?_ (IsS52.ge HI0.out) | refine bS_ ?_ GE184.out | refine bS_ ?_ GE190.out) | exact HB.out)) hb)
        have n5_ := Aside0.mk (hbox)
        have n6_ := Aside0.mk ((by rw [hg]; exact (keep_size (w := w) (g := g) (row := none) (by repeat (first | (with_reducible first | exact HK.out | apply KeepBut.set_ | apply keep_drewN | apply keep_drew | apply keep_alloc | refine keep_far ?_ GW184.out _ | refine keep_far ?_ GW190.out _) | exact HK.out))) : w.heap.size ≤ gb211))
        have n7_ := Aside0.mk ((Nat.le_trans HW0.out (by rw [hg]; exact (keep_size (w := w) (g := g) (row := none) (by repeat (first | (with_reducible first | exact HK.out | apply KeepBut.set_ | apply keep_drewN | apply keep_drew | apply keep_alloc | refine keep_far ?_ GW184.out _ | refine keep_far ?_ GW190.out _) | exact HK.out))) : w.heap.size ≤ gb211) : w0.heap.size ≤ gb211))
        have n8_ := Aside0.mk ((by rw [hg]; exact Nat.ne_of_lt (blk_lt (g := gb184) (o := .cells #[.string (⟨#[]⟩ : ByteArray), .string (⟨#[]⟩ : ByteArray), .int .u64 0, .int .i64 0, .int .i64 0, .int .i64 0, .int .i64 0, .int .i64 0, .int .i64 0] 35 (0, 0)) (bk_ BK184.out)) : gb184 ≠ gb211))
        have n9_ := Aside0.mk ((by rw [hg]; exact Nat.ne_of_gt (blk_lt (g := gb184) (o := .cells #[.string (⟨#[]⟩ : ByteArray), .string (⟨#[]⟩ : ByteArray), .int .u64 0, .int .i64 0, .int .i64 0, .int .i64 0, .int .i64 0, .int .i64 0, .int .i64 0] 35 (0, 0)) (bk_ BK184.out)) : gb211 ≠ gb184))
        have n10_ := Aside0.mk ((by rw [hg]; exact Nat.ne_of_lt (blk_lt (g := gb190) (o := .cells #[.string x191000_4, .string x191001_4, .string x191002_4] 41 (0, 0)) (bk_ BK190.out)) : gb190 ≠ gb211))
        have n11_ := Aside0.mk ((by rw [hg]; exact Nat.ne_of_gt (blk_lt (g := gb190) (o := .cells #[.string x191000_4, .string x191001_4, .string x191002_4] 41 (0, 0)) (bk_ BK190.out)) : gb211 ≠ gb190))
        have n12_ := Aside0.mk ((by rw [hg]; exact Nat.ne_of_lt (IsS52.lt (show IsS52 w0 _ g s0_0 t206 from by repeat (first | (with_reducible first | exact HI0.out | apply IsS52.alloc | apply IsS52.drewN | apply IsS52.drew | apply IsS52.set_1 | refine IsS52.far ?_ NB0_184.out _ | refine IsS52.far ?_ NB0_190.out _) | exact HI0.out))) : g ≠ gb211))
        have n13_ := Aside0.mk ((by rw [hg]; exact Nat.ne_of_gt (IsS52.lt (show IsS52 w0 _ g s0_0 t206 from by repeat (first | (with_reducible first | exact HI0.out | apply IsS52.alloc | apply IsS52.drewN | apply IsS52.drew | apply IsS52.set_1 | refine IsS52.far ?_ NB0_184.out _ | refine IsS52.far ?_ NB0_190.out _) | exact HI0.out))) : gb211 ≠ g))
        clear BK184 BK190 HI0 HK HB
        have BK184 := n0_
        have BK190 := n1_
        have HI0 := n2_
        have HK := n3_
        have HB := n4_
        have BK211 := n5_
        have GW211 := n6_
        have GE211 := n7_
        have NB184_211 := n8_
        have NB211_184 := n9_
        have NB190_211 := n10_
        have NB211_190 := n11_
        have NB0_211 := n12_
        have NB211_0 := n13_
        clear n0_ n1_ n2_ n3_ n4_ n5_ n6_ n7_ n8_ n9_ n10_ n11_ n12_ n13_
        clear hb hbox hg
        refine hK.out _ _ ⟨(blk_cell BK190.out 0).trans rfl, (blk_cell BK190.out 1).trans rfl, (blk_cell BK190.out 2).trans rfl⟩ (fun hHeld => ?_)
        clear hK K
        refine norm_ (a' := ?_) ?_ ?_
        rotate_left; (· show Act.put _ (some 4) _ = _; simp only [Act.put,sA_,sB_,sC_,i64_w,i32_w]; rfl)
        exact norm_ (by first | (simp only [putAll, Act.put, sA_, sB_, sC_]; done) | (simp only [putAll, Act.put, sA_, sB_, sC_]; rfl)) (hJ5_6_8_10_12_20 (gb211) _ ⟨hHeld, (bk_ BK184.out), (bk_ BK190.out), (bk_ BK211.out), GW211.out, GE211.out, NB0_211.out, NB211_0.out, NB184_211.out, NB211_184.out, NB190_211.out, NB211_190.out, (by repeat (first | (with_reducible first | exact HI0.out | apply IsS52.alloc | apply IsS52.drewN | apply IsS52.drew | apply IsS52.set_1 | refine IsS52.far ?_ NB0_184.out _ | refine IsS52.far ?_ NB0_190.out _ | refine IsS52.far ?_ NB0_211.out _) | exact HI0.out)), (by repeat (first | (with_reducible first | exact HK.out | apply KeepBut.set_ | apply keep_drewN | apply keep_drew | apply keep_alloc | refine keep_far ?_ GW184.out _ | refine keep_far ?_ GW190.out _ | refine keep_far ?_ GW211.out _) | exact HK.out)), (by repeat (first | (with_reducible first | exact HB.out | apply bA_ | apply bN_ | apply bD_ | refine bS_ ?_ (IsS52.ge HI0.out) | refine bS_ ?_ GE184.out | refine bS_ ?_ GE190.out | refine bS_ ?_ GE211.out) | exact HB.out))⟩)
       skip
       rintro gb211 w37 ⟨hS_, h0_, h1_, h2_, h3_, h4_, h5_, h6_, h7_, h8_, h9_, h10_, h11_, h12_, h13_⟩
       have n0_ : Aside0 (w37.heap[gb184]? = some (.cells #[.string (⟨#[]⟩ : ByteArray), .string (⟨#[]⟩ : ByteArray), .int .u64 0, .int .i64 0, .int .i64 0, .int .i64 0, .int .i64 0, .int .i64 0, .int .i64 0] 35 (0, 0))) := ⟨h0_⟩
       have n1_ : Aside0 (w37.heap[gb190]? = some (.cells #[.string x191000_4, .string x191001_4, .string x191002_4] 41 (0, 0))) := ⟨h1_⟩
       have n2_ : Aside0 (w37.heap[gb211]? = some (.cells #[.string (⟨#[]⟩ : ByteArray), .string (⟨#[]⟩ : ByteArray), .int .u64 0, .int .i64 0, .int .i64 0, .int .i64 0, .int .i64 0, .int .i64 0, .int .i64 0] 35 (0, 0))) := ⟨h2_⟩
       have n3_ : Aside0 (w.heap.size ≤ gb211) := ⟨h3_⟩
       have n4_ : Aside0 (w0.heap.size ≤ gb211) := ⟨h4_⟩
       have n5_ : Aside0 (g ≠ gb211) := ⟨h5_⟩
       have n6_ : Aside0 (gb211 ≠ g) := ⟨h6_⟩
       have n7_ : Aside0 (gb184 ≠ gb211) := ⟨h7_⟩
       have n8_ : Aside0 (gb211 ≠ gb184) := ⟨h8_⟩
       have n9_ : Aside0 (gb190 ≠ gb211) := ⟨h9_⟩
       have n10_ : Aside0 (gb211 ≠ gb190) := ⟨h10_⟩
       have n11_ : Aside0 (IsS52 w0 w37 g s0_0 t206) := ⟨h11_⟩
       have n12_ : Aside0 (KeepBut w w37 g none) := ⟨h12_⟩
       have n13_ : Aside0 (Below w0.heap.size w0 w37) := ⟨h13_⟩
       clear BK184 BK190 HI0 HK HB
       clear h0_ h1_ h2_ h3_ h4_ h5_ h6_ h7_ h8_ h9_ h10_ h11_ h12_ h13_
       have BK184 := n0_
       have BK190 := n1_
       have BK211 := n2_
       have GW211 := n3_
       have GE211 := n4_
       have NB0_211 := n5_
       have NB211_0 := n6_
       have NB184_211 := n7_
       have NB211_184 := n8_
       have NB190_211 := n9_
       have NB211_190 := n10_
       have HI0 := n11_
       have HK := n12_
       have HB := n13_
       clear n0_ n1_ n2_ n3_ n4_ n5_ n6_ n7_ n8_ n9_ n10_ n11_ n12_ n13_
       have hHeld : w37.cell? ⟨gb190, 0, none⟩ = some (.string x191000_4) ∧ w37.cell? ⟨gb190, 1, none⟩ = some (.string x191001_4) ∧ w37.cell? ⟨gb190, 2, none⟩ = some (.string x191002_4) := hS_
       refine norm_ (a' := ?_) ?_ ?_
       rotate_left; (· simp only [putAll, Act.put, sA_, sB_, sC_]; rfl)
       refine one_ (i := 15) (N := some 29) (bo_ 22 1245183) rfl rfl (one_of HT_.out (by kernel_rfl)) (by decide) (fun K hK => ?_)
       refine goes_ Tryd.func49 (by kernel_rfl) rfl #[.pointer (some ⟨g, 0, none⟩), .int .i64 4] (by rfl) rfl rfl (by (try simp only [List.map_toArray, List.map_cons, List.map_nil]); first | done | rfl | (simp only [List.length_drop, List.length_take]; rfl)) ?_
       with_reducible refine (kerbsuitedata_Source_Next.calls g s0_0 t206 4 t207 t208 w0 _ ?side1 ?side2 A27.out).mono ?_
       (case side1 => repeat (first | (with_reducible first | exact HI0.out | apply IsS52.alloc | apply IsS52.drewN | apply IsS52.drew | apply IsS52.set_1 | refine IsS52.far ?_ NB0_184.out _ | refine IsS52.far ?_ NB0_190.out _ | refine IsS52.far ?_ NB0_211.out _) | exact HI0.out))
       (case side2 => repeat (first | (with_reducible first | exact HB.out | apply bA_ | apply bN_ | apply bD_ | refine bS_ ?_ (IsS52.ge HI0.out) | refine bS_ ?_ GE184.out | refine bS_ ?_ GE190.out | refine bS_ ?_ GE211.out) | exact HB.out))
       rintro e w38 ⟨rfl, hi, hb, hk⟩
       refine ⟨_, rfl, ?_⟩
       have n0_ := Aside0.mk (KeepBut.blk hk (g' := gb184) (o := .cells #[.string (⟨#[]⟩ : ByteArray), .string (⟨#[]⟩ : ByteArray), .int .u64 0, .int .i64 0, .int .i64 0, .int .i64 0, .int .i64 0, .int .i64 0, .int .i64 0] 35 (0, 0)) (bk_ BK184.out) NB184_0.out (by simp))
       have n1_ := Aside0.mk (KeepBut.blk hk (g' := gb190) (o := .cells #[.string x191000_4, .string x191001_4, .string x191002_4] 41 (0, 0)) (bk_ BK190.out) NB190_0.out (by simp))
       have n2_ := Aside0.mk (KeepBut.blk hk (g' := gb211) (o := .cells #[.string (⟨#[]⟩ : ByteArray), .string (⟨#[]⟩ : ByteArray), .int .u64 0, .int .i64 0, .int .i64 0, .int .i64 0, .int .i64 0, .int .i64 0, .int .i64 0] 35 (0, 0)) (bk_ BK211.out) NB211_0.out (by simp))
       have n3_ := Aside0.mk (KeepBut.trans (by repeat (first | (with_reducible first | exact HK.out | apply KeepBut.set_ | apply keep_drewN | apply keep_drew | apply keep_alloc | refine keep_far ?_ GW184.out _ | refine keep_far ?_ GW190.out _ | refine keep_far ?_ GW211.out _) | exact HK.out)) hk (.inl rfl))
       have n4_ := Aside0.mk (hb)
       have n5_ := Aside0.mk (hi)
       clear BK184 BK190 BK211 HK HB HI0
       have BK184 := n0_
       have BK190 := n1_
       have BK211 := n2_
       have HK := n3_
       have HB := n4_
       have HI0 := n5_
       clear n0_ n1_ n2_ n3_ n4_ n5_
       (try clear hb)
       (try clear hb2)
       (try clear hk)
       (try clear hi)
       refine hK.out _ _ ⟨(blk_cell BK190.out 0).trans rfl, (blk_cell BK190.out 1).trans rfl, (blk_cell BK190.out 2).trans rfl⟩ (fun hHeld => ?_)
       clear hK K
       refine norm_ (a' := ?_) ?_ ?_
       rotate_left; (· show Act.put _ (some 29) _ = _; simp only [Act.put,sA_,sB_,sC_,i64_w,i32_w]; rfl)
       refine pure_ (i := 16) (N := some 30) (v := ?_) (a' := ?_) (bo_ 22 1310719) rfl rfl (any_of HT_.out (by kernel_rfl)) (fun _ _ _ h => h) (Or.inl ⟨by rfl, ?_⟩) ?_ ?_
       rotate_left; (· intro w'; go_simp; with_reducible rfl)
       rotate_left; (· simp only [Act.put,sA_,sB_,sC_,i64_w,i32_w]; rfl)
       exact norm_ (by first | (simp only [putAll, Act.put, sA_, sB_, sC_]; done) | (simp only [putAll, Act.put, sA_, sB_, sC_]; rfl)) (hJ5_6_8_10_12_15_20 (gb211) _ ⟨hHeld, (bk_ BK184.out), (bk_ BK190.out), (bk_ BK211.out), GW211.out, GE211.out, NB0_211.out, NB211_0.out, NB184_211.out, NB211_184.out, NB190_211.out, NB211_190.out, (by repeat (first | (with_reducible first | exact HI0.out | apply IsS52.alloc | apply IsS52.drewN | apply IsS52.drew | apply IsS52.set_1 | refine IsS52.far ?_ NB0_184.out _ | refine IsS52.far ?_ NB0_190.out _ | refine IsS52.far ?_ NB0_211.out _) | exact HI0.out)), (by repeat (first | (with_reducible first | exact HK.out | apply KeepBut.set_ | apply keep_drewN | apply keep_drew | apply keep_alloc | refine keep_far ?_ GW184.out _ | refine keep_far ?_ GW190.out _ | refine keep_far ?_ GW211.out _) | exact HK.out)), (by repeat (first | (with_reducible first | exact HB.out | apply bA_ | apply bN_ | apply bD_ | refine bS_ ?_ (IsS52.ge HI0.out) | refine bS_ ?_ GE184.out | refine bS_ ?_ GE190.out | refine bS_ ?_ GE211.out) | exact HB.out))⟩)
      skip
      rintro _ w37 ⟨hS_, h0_, h1_, h2_, h3_, h4_⟩
      have n0_ : Aside0 (w37.heap[gb184]? = some (.cells #[.string (⟨#[]⟩ : ByteArray), .string (⟨#[]⟩ : ByteArray), .int .u64 0, .int .i64 0, .int .i64 0, .int .i64 0, .int .i64 0, .int .i64 0, .int .i64 0] 35 (0, 0))) := ⟨h0_⟩
      have n1_ : Aside0 (w37.heap[gb190]? = some (.cells #[.string x191000_4, .string x191001_4, .string x191002_4] 41 (0, 0))) := ⟨h1_⟩
      have n2_ : Aside0 (IsS52 w0 w37 g s0_0 t208) := ⟨h2_⟩
      have n3_ : Aside0 (KeepBut w w37 g none) := ⟨h3_⟩
      have n4_ : Aside0 (Below w0.heap.size w0 w37) := ⟨h4_⟩
      clear BK184 BK190 HI0 HK HB
      clear h0_ h1_ h2_ h3_ h4_
      have BK184 := n0_
      have BK190 := n1_
      have HI0 := n2_
      have HK := n3_
      have HB := n4_
      clear n0_ n1_ n2_ n3_ n4_
      have hHeld : w37.cell? ⟨gb190, 0, none⟩ = some (.string x191000_4) ∧ w37.cell? ⟨gb190, 1, none⟩ = some (.string x191001_4) ∧ w37.cell? ⟨gb190, 2, none⟩ = some (.string x191002_4) := hS_
      refine norm_ (a' := ?_) ?_ ?_
      rotate_left; (· simp only [putAll, Act.put, sA_, sB_, sC_]; rfl)
      refine two_ (i := 18) (j := 20) (Ni := some 32) (Nj := some 4) #[true,true,true,true,true,true,true,true,true,true,true,true,true,true,true,true,true,true,true,false,false,false] #[true,true,true,true,true,true,true,true,true,true,true,true,true,true,true,true,true,true,false,false,true,false] rfl rfl rfl rfl (two_of HT_.out (by kernel_rfl)) (by decide) (by decide) (fun K hK => ?_) (fun K hK => ?_)
      ·skip
       refine goes_ Tryd.func49 (by kernel_rfl) rfl #[.pointer (some ⟨g, 0, none⟩), .int .i64 21] (by rfl) rfl rfl (by (try simp only [List.map_toArray, List.map_cons, List.map_nil]); first | done | rfl | (simp only [List.length_drop, List.length_take]; rfl)) ?_
       with_reducible refine (kerbsuitedata_Source_Next.calls g s0_0 t208 21 t209 t210 w0 _ ?side1 ?side2 A28.out).mono ?_
       (case side1 => repeat (first | (with_reducible first | exact HI0.out | apply IsS52.alloc | apply IsS52.drewN | apply IsS52.drew | apply IsS52.set_1 | refine IsS52.far ?_ NB0_184.out _ | refine IsS52.far ?_ NB0_190.out _) | exact HI0.out))
       (case side2 => repeat (first | (with_reducible first | exact HB.out | apply bA_ | apply bN_ | apply bD_ | refine bS_ ?_ (IsS52.ge HI0.out) | refine bS_ ?_ GE184.out | refine bS_ ?_ GE190.out) | exact HB.out))
       rintro e w38 ⟨rfl, hi, hb, hk⟩
       refine ⟨_, rfl, ?_⟩
       have n0_ := Aside0.mk (KeepBut.blk hk (g' := gb184) (o := .cells #[.string (⟨#[]⟩ : ByteArray), .string (⟨#[]⟩ : ByteArray), .int .u64 0, .int .i64 0, .int .i64 0, .int .i64 0, .int .i64 0, .int .i64 0, .int .i64 0] 35 (0, 0)) (bk_ BK184.out) NB184_0.out (by simp))
       have n1_ := Aside0.mk (KeepBut.blk hk (g' := gb190) (o := .cells #[.string x191000_4, .string x191001_4, .string x191002_4] 41 (0, 0)) (bk_ BK190.out) NB190_0.out (by simp))
       have n2_ := Aside0.mk (KeepBut.trans (by repeat (first | (with_reducible first | exact HK.out | apply KeepBut.set_ | apply keep_drewN | apply keep_drew | apply keep_alloc | refine keep_far ?_ GW184.out _ | refine keep_far ?_ GW190.out _) | exact HK.out)) hk (.inl rfl))
       have n3_ := Aside0.mk (hb)
       have n4_ := Aside0.mk (hi)
       clear BK184 BK190 HK HB HI0
       have BK184 := n0_
       have BK190 := n1_
       have HK := n2_
       have HB := n3_
       have HI0 := n4_
       clear n0_ n1_ n2_ n3_ n4_
       (try clear hb)
       (try clear hb2)
       (try clear hk)
       (try clear hi)
       refine hK.out _ _ ⟨(blk_cell BK190.out 0).trans rfl, (blk_cell BK190.out 1).trans rfl, (blk_cell BK190.out 2).trans rfl⟩ (fun hHeld => ?_)
       clear hK K
       refine norm_ (a' := ?_) ?_ ?_
       rotate_left; (· show Act.put _ (some 32) _ = _; simp only [Act.put,sA_,sB_,sC_,i64_w,i32_w]; rfl)
       refine pure_ (i := 19) (N := some 33) (v := ?_) (a' := ?_) (bo_ 22 1048575) rfl rfl (any_of HT_.out (by kernel_rfl)) (fun _ _ _ h => h) (Or.inl ⟨by rfl, ?_⟩) ?_ ?_
       rotate_left; (· intro w'; go_simp; with_reducible rfl)
       rotate_left; (· simp only [Act.put,sA_,sB_,sC_,i64_w,i32_w]; rfl)
       exact norm_ (by first | (simp only [putAll, Act.put, sA_, sB_, sC_]; done) | (simp only [putAll, Act.put, sA_, sB_, sC_]; rfl)) (hJ5_6_8_10_12_15_18 () _ ⟨hHeld, (bk_ BK184.out), (bk_ BK190.out), (by repeat (first | (with_reducible first | exact HI0.out | apply IsS52.alloc | apply IsS52.drewN | apply IsS52.drew | apply IsS52.set_1 | refine IsS52.far ?_ NB0_184.out _ | refine IsS52.far ?_ NB0_190.out _) | exact HI0.out)), (by repeat (first | (with_reducible first | exact HK.out | apply KeepBut.set_ | apply keep_drewN | apply keep_drew | apply keep_alloc | refine keep_far ?_ GW184.out _ | refine keep_far ?_ GW190.out _) | exact HK.out)), (by repeat (first | (with_reducible first | exact HB.out | apply bA_ | apply bN_ | apply bD_ | refine bS_ ?_ (IsS52.ge HI0.out) | refine bS_ ?_ GE184.out | refine bS_ ?_ GE190.out) | exact HB.out))⟩)
      skip
      refine box_step ?hg (N := 4) ?hd (cs := #[.string (⟨#[]⟩ : ByteArray), .string (⟨#[]⟩ : ByteArray), .int .u64 0, .int .i64 0, .int .i64 0, .int .i64 0, .int .i64 0, .int .i64 0, .int .i64 0]) (t := 35) ?hr ?_; (case hd => rfl); (case hg => rfl); (case hr => first | (go_simp; done) | (go_simp; rfl))
      intro gb211 hg w38 hbox hb
      have n0_ := Aside0.mk (blk_below (g := gb184) (o := .cells #[.string (⟨#[]⟩ : ByteArray), .string (⟨#[]⟩ : ByteArray), .int .u64 0, .int .i64 0, .int .i64 0, .int .i64 0, .int .i64 0, .int .i64 0, .int .i64 0] 35 (0, 0)) (bk_ BK184.out) hb)
      have n1_ := Aside0.mk (blk_below (g := gb190) (o := .cells #[.string x191000_4, .string x191001_4, .string x191002_4] 41 (0, 0)) (bk_ BK190.out) hb)
      have n2_ := Aside0.mk (IsS52.below (by repeat (first | (with_reducible first | exact HI0.out | apply IsS52.alloc | apply IsS52.drewN | apply IsS52.drew | apply IsS52.set_1 | refine IsS52.far ?_ NB0_184.out _ | refine IsS52.far ?_ NB0_190.out _) | exact HI0.out)) hb)
      have n3_ := Aside0.mk (KeepBut.trans (by repeat (first | (with_reducible first | exact HK.out | apply KeepBut.set_ | apply keep_drewN | apply keep_drew | apply keep_alloc | refine keep_far ?_ GW184.out _ | refine keep_far ?_ GW190.out _) | exact HK.out)) (KeepBut.of_below hb g none) (.inl rfl))
      have n4_ := Aside0.mk (below_step (by repeat (first | (with_reducible first | exact HB.out | apply bA_ | apply bN_ | apply bD_ | refine bS_ ?_ (IsS52.ge HI0.out) | refine bS_ ?_ GE184.out | refine bS_ ?_ GE190.out) | exact HB.out)) hb)
      have n5_ := Aside0.mk (hbox)
      have n6_ := Aside0.mk ((by rw [hg]; exact (keep_size (w := w) (g := g) (row := none) (by repeat (first | (with_reducible first | exact HK.out | apply KeepBut.set_ | apply keep_drewN | apply keep_drew | apply keep_alloc | refine keep_far ?_ GW184.out _ | refine keep_far ?_ GW190.out _) | exact HK.out))) : w.heap.size ≤ gb211))
      have n7_ := Aside0.mk ((Nat.le_trans HW0.out (by rw [hg]; exact (keep_size (w := w) (g := g) (row := none) (by repeat (first | (with_reducible first | exact HK.out | apply KeepBut.set_ | apply keep_drewN | apply keep_drew | apply keep_alloc | refine keep_far ?_ GW184.out _ | refine keep_far ?_ GW190.out _) | exact HK.out))) : w.heap.size ≤ gb211) : w0.heap.size ≤ gb211))
      have n8_ := Aside0.mk ((by rw [hg]; exact Nat.ne_of_lt (blk_lt (g := gb184) (o := .cells #[.string (⟨#[]⟩ : ByteArray), .string (⟨#[]⟩ : ByteArray), .int .u64 0, .int .i64 0, .int .i64 0, .int .i64 0, .int .i64 0, .int .i64 0, .int .i64 0] 35 (0, 0)) (bk_ BK184.out)) : gb184 ≠ gb211))
      have n9_ := Aside0.mk ((by rw [hg]; exact Nat.ne_of_gt (blk_lt (g := gb184) (o := .cells #[.string (⟨#[]⟩ : ByteArray), .string (⟨#[]⟩ : ByteArray), .int .u64 0, .int .i64 0, .int .i64 0, .int .i64 0, .int .i64 0, .int .i64 0, .int .i64 0] 35 (0, 0)) (bk_ BK184.out)) : gb211 ≠ gb184))
      have n10_ := Aside0.mk ((by rw [hg]; exact Nat.ne_of_lt (blk_lt (g := gb190) (o := .cells #[.string x191000_4, .string x191001_4, .string x191002_4] 41 (0, 0)) (bk_ BK190.out)) : gb190 ≠ gb211))
      have n11_ := Aside0.mk ((by rw [hg]; exact Nat.ne_of_gt (blk_lt (g := gb190) (o := .cells #[.string x191000_4, .string x191001_4, .string x191002_4] 41 (0, 0)) (bk_ BK190.out)) : gb211 ≠ gb190))
      have n12_ := Aside0.mk ((by rw [hg]; exact Nat.ne_of_lt (IsS52.lt (show IsS52 w0 _ g s0_0 t208 from by repeat (first | (with_reducible first | exact HI0.out | apply IsS52.alloc | apply IsS52.drewN | apply IsS52.drew | apply IsS52.set_1 | refine IsS52.far ?_ NB0_184.out _ | refine IsS52.far ?_ NB0_190.out _) | exact HI0.out))) : g ≠ gb211))
      have n13_ := Aside0.mk ((by rw [hg]; exact Nat.ne_of_gt (IsS52.lt (show IsS52 w0 _ g s0_0 t208 from by repeat (first | (with_reducible first | exact HI0.out | apply IsS52.alloc | apply IsS52.drewN | apply IsS52.drew | apply IsS52.set_1 | refine IsS52.far ?_ NB0_184.out _ | refine IsS52.far ?_ NB0_190.out _) | exact HI0.out))) : gb211 ≠ g))
      clear BK184 BK190 HI0 HK HB
      have BK184 := n0_
      have BK190 := n1_
      have HI0 := n2_
      have HK := n3_
      have HB := n4_
      have BK211 := n5_
      have GW211 := n6_
      have GE211 := n7_
      have NB184_211 := n8_
      have NB211_184 := n9_
      have NB190_211 := n10_
      have NB211_190 := n11_
      have NB0_211 := n12_
      have NB211_0 := n13_
      clear n0_ n1_ n2_ n3_ n4_ n5_ n6_ n7_ n8_ n9_ n10_ n11_ n12_ n13_
      clear hb hbox hg
      refine hK.out _ _ ⟨(blk_cell BK190.out 0).trans rfl, (blk_cell BK190.out 1).trans rfl, (blk_cell BK190.out 2).trans rfl⟩ (fun hHeld => ?_)
      clear hK K
      refine norm_ (a' := ?_) ?_ ?_
      rotate_left; (· show Act.put _ (some 4) _ = _; simp only [Act.put,sA_,sB_,sC_,i64_w,i32_w]; rfl)
      exact norm_ (by first | (simp only [putAll, Act.put, sA_, sB_, sC_]; done) | (simp only [putAll, Act.put, sA_, sB_, sC_]; rfl)) (hJ5_6_8_10_12_15_20 (gb211) _ ⟨hHeld, (bk_ BK184.out), (bk_ BK190.out), (bk_ BK211.out), GW211.out, GE211.out, NB0_211.out, NB211_0.out, NB184_211.out, NB211_184.out, NB190_211.out, NB211_190.out, (by repeat (first | (with_reducible first | exact HI0.out | apply IsS52.alloc | apply IsS52.drewN | apply IsS52.drew | apply IsS52.set_1 | refine IsS52.far ?_ NB0_184.out _ | refine IsS52.far ?_ NB0_190.out _ | refine IsS52.far ?_ NB0_211.out _) | exact HI0.out)), (by repeat (first | (with_reducible first | exact HK.out | apply KeepBut.set_ | apply keep_drewN | apply keep_drew | apply keep_alloc | refine keep_far ?_ GW184.out _ | refine keep_far ?_ GW190.out _ | refine keep_far ?_ GW211.out _) | exact HK.out)), (by repeat (first | (with_reducible first | exact HB.out | apply bA_ | apply bN_ | apply bD_ | refine bS_ ?_ (IsS52.ge HI0.out) | refine bS_ ?_ GE184.out | refine bS_ ?_ GE190.out | refine bS_ ?_ GE211.out) | exact HB.out))⟩)
     skip
     rintro gb211 w38 ⟨hS_, h0_, h1_, h2_, h3_, h4_, h5_, h6_, h7_, h8_, h9_, h10_, h11_, h12_, h13_⟩
     have n0_ : Aside0 (w38.heap[gb184]? = some (.cells #[.string (⟨#[]⟩ : ByteArray), .string (⟨#[]⟩ : ByteArray), .int .u64 0, .int .i64 0, .int .i64 0, .int .i64 0, .int .i64 0, .int .i64 0, .int .i64 0] 35 (0, 0))) := ⟨h0_⟩
     have n1_ : Aside0 (w38.heap[gb190]? = some (.cells #[.string x191000_4, .string x191001_4, .string x191002_4] 41 (0, 0))) := ⟨h1_⟩
     have n2_ : Aside0 (w38.heap[gb211]? = some (.cells #[.string (⟨#[]⟩ : ByteArray), .string (⟨#[]⟩ : ByteArray), .int .u64 0, .int .i64 0, .int .i64 0, .int .i64 0, .int .i64 0, .int .i64 0, .int .i64 0] 35 (0, 0))) := ⟨h2_⟩
     have n3_ : Aside0 (w.heap.size ≤ gb211) := ⟨h3_⟩
     have n4_ : Aside0 (w0.heap.size ≤ gb211) := ⟨h4_⟩
     have n5_ : Aside0 (g ≠ gb211) := ⟨h5_⟩
     have n6_ : Aside0 (gb211 ≠ g) := ⟨h6_⟩
     have n7_ : Aside0 (gb184 ≠ gb211) := ⟨h7_⟩
     have n8_ : Aside0 (gb211 ≠ gb184) := ⟨h8_⟩
     have n9_ : Aside0 (gb190 ≠ gb211) := ⟨h9_⟩
     have n10_ : Aside0 (gb211 ≠ gb190) := ⟨h10_⟩
     have n11_ : Aside0 (IsS52 w0 w38 g s0_0 t208) := ⟨h11_⟩
     have n12_ : Aside0 (KeepBut w w38 g none) := ⟨h12_⟩
     have n13_ : Aside0 (Below w0.heap.size w0 w38) := ⟨h13_⟩
     clear BK184 BK190 HI0 HK HB
     clear h0_ h1_ h2_ h3_ h4_ h5_ h6_ h7_ h8_ h9_ h10_ h11_ h12_ h13_
     have BK184 := n0_
     have BK190 := n1_
     have BK211 := n2_
     have GW211 := n3_
     have GE211 := n4_
     have NB0_211 := n5_
     have NB211_0 := n6_
     have NB184_211 := n7_
     have NB211_184 := n8_
     have NB190_211 := n9_
     have NB211_190 := n10_
     have HI0 := n11_
     have HK := n12_
     have HB := n13_
     clear n0_ n1_ n2_ n3_ n4_ n5_ n6_ n7_ n8_ n9_ n10_ n11_ n12_ n13_
     have hHeld : w38.cell? ⟨gb190, 0, none⟩ = some (.string x191000_4) ∧ w38.cell? ⟨gb190, 1, none⟩ = some (.string x191001_4) ∧ w38.cell? ⟨gb190, 2, none⟩ = some (.string x191002_4) := hS_
     refine norm_ (a' := ?_) ?_ ?_
     rotate_left; (· simp only [putAll, Act.put, sA_, sB_, sC_]; rfl)
     refine one_ (i := 18) (N := some 32) (bo_ 22 1572863) rfl rfl (one_of HT_.out (by kernel_rfl)) (by decide) (fun K hK => ?_)
     refine goes_ Tryd.func49 (by kernel_rfl) rfl #[.pointer (some ⟨g, 0, none⟩), .int .i64 21] (by rfl) rfl rfl (by (try simp only [List.map_toArray, List.map_cons, List.map_nil]); first | done | rfl | (simp only [List.length_drop, List.length_take]; rfl)) ?_
     with_reducible refine (kerbsuitedata_Source_Next.calls g s0_0 t208 21 t209 t210 w0 _ ?side1 ?side2 A28.out).mono ?_
     (case side1 => repeat (first | (with_reducible first | exact HI0.out | apply IsS52.alloc | apply IsS52.drewN | apply IsS52.drew | apply IsS52.set_1 | refine IsS52.far ?_ NB0_184.out _ | refine IsS52.far ?_ NB0_190.out _ | refine IsS52.far ?_ NB0_211.out _) | exact HI0.out))
     (case side2 => repeat (first | (with_reducible first | exact HB.out | apply bA_ | apply bN_ | apply bD_ | refine bS_ ?_ (IsS52.ge HI0.out) | refine bS_ ?_ GE184.out | refine bS_ ?_ GE190.out | refine bS_ ?_ GE211.out) | exact HB.out))
     rintro e w39 ⟨rfl, hi, hb, hk⟩
     refine ⟨_, rfl, ?_⟩
     have n0_ := Aside0.mk (KeepBut.blk hk (g' := gb184) (o := .cells #[.string (⟨#[]⟩ : ByteArray), .string (⟨#[]⟩ : ByteArray), .int .u64 0, .int .i64 0, .int .i64 0, .int .i64 0, .int .i64 0, .int .i64 0, .int .i64 0] 35 (0, 0)) (bk_ BK184.out) NB184_0.out (by simp))
     have n1_ := Aside0.mk (KeepBut.blk hk (g' := gb190) (o := .cells #[.string x191000_4, .string x191001_4, .string x191002_4] 41 (0, 0)) (bk_ BK190.out) NB190_0.out (by simp))
     have n2_ := Aside0.mk (KeepBut.blk hk (g' := gb211) (o := .cells #[.string (⟨#[]⟩ : ByteArray), .string (⟨#[]⟩ : ByteArray), .int .u64 0, .int .i64 0, .int .i64 0, .int .i64 0, .int .i64 0, .int .i64 0, .int .i64 0] 35 (0, 0)) (bk_ BK211.out) NB211_0.out (by simp))
     have n3_ := Aside0.mk (KeepBut.trans (by repeat (first | (with_reducible first | exact HK.out | apply KeepBut.set_ | apply keep_drewN | apply keep_drew | apply keep_alloc | refine keep_far ?_ GW184.out _ | refine keep_far ?_ GW190.out _ | refine keep_far ?_ GW211.out _) | exact HK.out)) hk (.inl rfl))
     have n4_ := Aside0.mk (hb)
     have n5_ := Aside0.mk (hi)
     clear BK184 BK190 BK211 HK HB HI0
     have BK184 := n0_
     have BK190 := n1_
     have BK211 := n2_
     have HK := n3_
     have HB := n4_
     have HI0 := n5_
     clear n0_ n1_ n2_ n3_ n4_ n5_
     (try clear hb)
     (try clear hb2)
     (try clear hk)
     (try clear hi)
     refine hK.out _ _ ⟨(blk_cell BK190.out 0).trans rfl, (blk_cell BK190.out 1).trans rfl, (blk_cell BK190.out 2).trans rfl⟩ (fun hHeld => ?_)
     clear hK K
     refine norm_ (a' := ?_) ?_ ?_
     rotate_left; (· show Act.put _ (some 32) _ = _; simp only [Act.put,sA_,sB_,sC_,i64_w,i32_w]; rfl)
     refine pure_ (i := 19) (N := some 33) (v := ?_) (a' := ?_) (bo_ 22 2097151) rfl rfl (any_of HT_.out (by kernel_rfl)) (fun _ _ _ h => h) (Or.inl ⟨by rfl, ?_⟩) ?_ ?_
     rotate_left; (· intro w'; go_simp; with_reducible rfl)
     rotate_left; (· simp only [Act.put,sA_,sB_,sC_,i64_w,i32_w]; rfl)
     exact norm_ (by first | (simp only [putAll, Act.put, sA_, sB_, sC_]; done) | (simp only [putAll, Act.put, sA_, sB_, sC_]; rfl)) (hJ5_6_8_10_12_15_18_20 (gb211) _ ⟨hHeld, (bk_ BK184.out), (bk_ BK190.out), (bk_ BK211.out), GW211.out, GE211.out, NB0_211.out, NB211_0.out, NB184_211.out, NB211_184.out, NB190_211.out, NB211_190.out, (by repeat (first | (with_reducible first | exact HI0.out | apply IsS52.alloc | apply IsS52.drewN | apply IsS52.drew | apply IsS52.set_1 | refine IsS52.far ?_ NB0_184.out _ | refine IsS52.far ?_ NB0_190.out _ | refine IsS52.far ?_ NB0_211.out _) | exact HI0.out)), (by repeat (first | (with_reducible first | exact HK.out | apply KeepBut.set_ | apply keep_drewN | apply keep_drew | apply keep_alloc | refine keep_far ?_ GW184.out _ | refine keep_far ?_ GW190.out _ | refine keep_far ?_ GW211.out _) | exact HK.out)), (by repeat (first | (with_reducible first | exact HB.out | apply bA_ | apply bN_ | apply bD_ | refine bS_ ?_ (IsS52.ge HI0.out) | refine bS_ ?_ GE184.out | refine bS_ ?_ GE190.out | refine bS_ ?_ GE211.out) | exact HB.out))⟩)
    skip
    rintro _ w38 ⟨hS_, h0_, h1_, h2_, h3_, h4_⟩
    have n0_ : Aside0 (w38.heap[gb184]? = some (.cells #[.string (⟨#[]⟩ : ByteArray), .string (⟨#[]⟩ : ByteArray), .int .u64 0, .int .i64 0, .int .i64 0, .int .i64 0, .int .i64 0, .int .i64 0, .int .i64 0] 35 (0, 0))) := ⟨h0_⟩
    have n1_ : Aside0 (w38.heap[gb190]? = some (.cells #[.string x191000_4, .string x191001_4, .string x191002_4] 41 (0, 0))) := ⟨h1_⟩
    have n2_ : Aside0 (IsS52 w0 w38 g s0_0 t210) := ⟨h2_⟩
    have n3_ : Aside0 (KeepBut w w38 g none) := ⟨h3_⟩
    have n4_ : Aside0 (Below w0.heap.size w0 w38) := ⟨h4_⟩
    clear BK184 BK190 HI0 HK HB
    clear h0_ h1_ h2_ h3_ h4_
    have BK184 := n0_
    have BK190 := n1_
    have HI0 := n2_
    have HK := n3_
    have HB := n4_
    clear n0_ n1_ n2_ n3_ n4_
    have hHeld : w38.cell? ⟨gb190, 0, none⟩ = some (.string x191000_4) ∧ w38.cell? ⟨gb190, 1, none⟩ = some (.string x191001_4) ∧ w38.cell? ⟨gb190, 2, none⟩ = some (.string x191002_4) := hS_
    refine norm_ (a' := ?_) ?_ ?_
    rotate_left; (· simp only [putAll, Act.put, sA_, sB_, sC_]; rfl)
    refine one_ (i := 20) (N := some 4) (bo_ 22 2097151) rfl rfl (one_of HT_.out (by kernel_rfl)) (by decide) (fun K hK => ?_)
    refine box_step ?hg (N := 4) ?hd (cs := #[.string (⟨#[]⟩ : ByteArray), .string (⟨#[]⟩ : ByteArray), .int .u64 0, .int .i64 0, .int .i64 0, .int .i64 0, .int .i64 0, .int .i64 0, .int .i64 0]) (t := 35) ?hr ?_; (case hd => rfl); (case hg => rfl); (case hr => first | (go_simp; done) | (go_simp; rfl))
    intro gb211 hg w39 hbox hb
    have n0_ := Aside0.mk (blk_below (g := gb184) (o := .cells #[.string (⟨#[]⟩ : ByteArray), .string (⟨#[]⟩ : ByteArray), .int .u64 0, .int .i64 0, .int .i64 0, .int .i64 0, .int .i64 0, .int .i64 0, .int .i64 0] 35 (0, 0)) (bk_ BK184.out) hb)
    have n1_ := Aside0.mk (blk_below (g := gb190) (o := .cells #[.string x191000_4, .string x191001_4, .string x191002_4] 41 (0, 0)) (bk_ BK190.out) hb)
    have n2_ := Aside0.mk (IsS52.below (by repeat (first | (with_reducible first | exact HI0.out | apply IsS52.alloc | apply IsS52.drewN | apply IsS52.drew | apply IsS52.set_1 | refine IsS52.far ?_ NB0_184.out _ | refine IsS52.far ?_ NB0_190.out _) | exact HI0.out)) hb)
    have n3_ := Aside0.mk (KeepBut.trans (by repeat (first | (with_reducible first | exact HK.out | apply KeepBut.set_ | apply keep_drewN | apply keep_drew | apply keep_alloc | refine keep_far ?_ GW184.out _ | refine keep_far ?_ GW190.out _) | exact HK.out)) (KeepBut.of_below hb g none) (.inl rfl))
    have n4_ := Aside0.mk (below_step (by repeat (first | (with_reducible first | exact HB.out | apply bA_ | apply bN_ | apply bD_ | refine bS_ ?_ (IsS52.ge HI0.out) | refine bS_ ?_ GE184.out | refine bS_ ?_ GE190.out) | exact HB.out)) hb)
    have n5_ := Aside0.mk (hbox)
    have n6_ := Aside0.mk ((by rw [hg]; exact (keep_size (w := w) (g := g) (row := none) (by repeat (first | (with_reducible first | exact HK.out | apply KeepBut.set_ | apply keep_drewN | apply keep_drew | apply keep_alloc | refine keep_far ?_ GW184.out _ | refine keep_far ?_ GW190.out _) | exact HK.out))) : w.heap.size ≤ gb211))
    have n7_ := Aside0.mk ((Nat.le_trans HW0.out (by rw [hg]; exact (keep_size (w := w) (g := g) (row := none) (by repeat (first | (with_reducible first | exact HK.out | apply KeepBut.set_ | apply keep_drewN | apply keep_drew | apply keep_alloc | refine keep_far ?_ GW184.out _ | refine keep_far ?_ GW190.out _) | exact HK.out))) : w.heap.size ≤ gb211) : w0.heap.size ≤ gb211))
    have n8_ := Aside0.mk ((by rw [hg]; exact Nat.ne_of_lt (blk_lt (g := gb184) (o := .cells #[.string (⟨#[]⟩ : ByteArray), .string (⟨#[]⟩ : ByteArray), .int .u64 0, .int .i64 0, .int .i64 0, .int .i64 0, .int .i64 0, .int .i64 0, .int .i64 0] 35 (0, 0)) (bk_ BK184.out)) : gb184 ≠ gb211))
    have n9_ := Aside0.mk ((by rw [hg]; exact Nat.ne_of_gt (blk_lt (g := gb184) (o := .cells #[.string (⟨#[]⟩ : ByteArray), .string (⟨#[]⟩ : ByteArray), .int .u64 0, .int .i64 0, .int .i64 0, .int .i64 0, .int .i64 0, .int .i64 0, .int .i64 0] 35 (0, 0)) (bk_ BK184.out)) : gb211 ≠ gb184))
    have n10_ := Aside0.mk ((by rw [hg]; exact Nat.ne_of_lt (blk_lt (g := gb190) (o := .cells #[.string x191000_4, .string x191001_4, .string x191002_4] 41 (0, 0)) (bk_ BK190.out)) : gb190 ≠ gb211))
    have n11_ := Aside0.mk ((by rw [hg]; exact Nat.ne_of_gt (blk_lt (g := gb190) (o := .cells #[.string x191000_4, .string x191001_4, .string x191002_4] 41 (0, 0)) (bk_ BK190.out)) : gb211 ≠ gb190))
    have n12_ := Aside0.mk ((by rw [hg]; exact Nat.ne_of_lt (IsS52.lt (show IsS52 w0 _ g s0_0 t210 from by repeat (first | (with_reducible first | exact HI0.out | apply IsS52.alloc | apply IsS52.drewN | apply IsS52.drew | apply IsS52.set_1 | refine IsS52.far ?_ NB0_184.out _ | refine IsS52.far ?_ NB0_190.out _) | exact HI0.out))) : g ≠ gb211))
    have n13_ := Aside0.mk ((by rw [hg]; exact Nat.ne_of_gt (IsS52.lt (show IsS52 w0 _ g s0_0 t210 from by repeat (first | (with_reducible first | exact HI0.out | apply IsS52.alloc | apply IsS52.drewN | apply IsS52.drew | apply IsS52.set_1 | refine IsS52.far ?_ NB0_184.out _ | refine IsS52.far ?_ NB0_190.out _) | exact HI0.out))) : gb211 ≠ g))
    clear BK184 BK190 HI0 HK HB
    have BK184 := n0_
    have BK190 := n1_
    have HI0 := n2_
    have HK := n3_
    have HB := n4_
    have BK211 := n5_
    have GW211 := n6_
    have GE211 := n7_
    have NB184_211 := n8_
    have NB211_184 := n9_
    have NB190_211 := n10_
    have NB211_190 := n11_
    have NB0_211 := n12_
    have NB211_0 := n13_
    clear n0_ n1_ n2_ n3_ n4_ n5_ n6_ n7_ n8_ n9_ n10_ n11_ n12_ n13_
    clear hb hbox hg
    refine hK.out _ _ ⟨(blk_cell BK190.out 0).trans rfl, (blk_cell BK190.out 1).trans rfl, (blk_cell BK190.out 2).trans rfl⟩ (fun hHeld => ?_)
    clear hK K
    refine norm_ (a' := ?_) ?_ ?_
    rotate_left; (· show Act.put _ (some 4) _ = _; simp only [Act.put,sA_,sB_,sC_,i64_w,i32_w]; rfl)
    exact norm_ (by first | (simp only [putAll, Act.put, sA_, sB_, sC_]; done) | (simp only [putAll, Act.put, sA_, sB_, sC_]; rfl)) (hJ5_6_8_10_12_15_18_20 (gb211) _ ⟨hHeld, (bk_ BK184.out), (bk_ BK190.out), (bk_ BK211.out), GW211.out, GE211.out, NB0_211.out, NB211_0.out, NB184_211.out, NB211_184.out, NB190_211.out, NB211_190.out, (by repeat (first | (with_reducible first | exact HI0.out | apply IsS52.alloc | apply IsS52.drewN | apply IsS52.drew | apply IsS52.set_1 | refine IsS52.far ?_ NB0_184.out _ | refine IsS52.far ?_ NB0_190.out _ | refine IsS52.far ?_ NB0_211.out _) | exact HI0.out)), (by repeat (first | (with_reducible first | exact HK.out | apply KeepBut.set_ | apply keep_drewN | apply keep_drew | apply keep_alloc | refine keep_far ?_ GW184.out _ | refine keep_far ?_ GW190.out _ | refine keep_far ?_ GW211.out _) | exact HK.out)), (by repeat (first | (with_reducible first | exact HB.out | apply bA_ | apply bN_ | apply bD_ | refine bS_ ?_ (IsS52.ge HI0.out) | refine bS_ ?_ GE184.out | refine bS_ ?_ GE190.out | refine bS_ ?_ GE211.out) | exact HB.out))⟩)
   rintro gb211 w39 ⟨hS_, h0_, h1_, h2_, h3_, h4_, h5_, h6_, h7_, h8_, h9_, h10_, h11_, h12_, h13_⟩
   have n0_ : Aside0 (w39.heap[gb184]? = some (.cells #[.string (⟨#[]⟩ : ByteArray), .string (⟨#[]⟩ : ByteArray), .int .u64 0, .int .i64 0, .int .i64 0, .int .i64 0, .int .i64 0, .int .i64 0, .int .i64 0] 35 (0, 0))) := ⟨h0_⟩
   have n1_ : Aside0 (w39.heap[gb190]? = some (.cells #[.string x191000_4, .string x191001_4, .string x191002_4] 41 (0, 0))) := ⟨h1_⟩
   have n2_ : Aside0 (w39.heap[gb211]? = some (.cells #[.string (⟨#[]⟩ : ByteArray), .string (⟨#[]⟩ : ByteArray), .int .u64 0, .int .i64 0, .int .i64 0, .int .i64 0, .int .i64 0, .int .i64 0, .int .i64 0] 35 (0, 0))) := ⟨h2_⟩
   have n3_ : Aside0 (w.heap.size ≤ gb211) := ⟨h3_⟩
   have n4_ : Aside0 (w0.heap.size ≤ gb211) := ⟨h4_⟩
   have n5_ : Aside0 (g ≠ gb211) := ⟨h5_⟩
   have n6_ : Aside0 (gb211 ≠ g) := ⟨h6_⟩
   have n7_ : Aside0 (gb184 ≠ gb211) := ⟨h7_⟩
   have n8_ : Aside0 (gb211 ≠ gb184) := ⟨h8_⟩
   have n9_ : Aside0 (gb190 ≠ gb211) := ⟨h9_⟩
   have n10_ : Aside0 (gb211 ≠ gb190) := ⟨h10_⟩
   have n11_ : Aside0 (IsS52 w0 w39 g s0_0 t210) := ⟨h11_⟩
   have n12_ : Aside0 (KeepBut w w39 g none) := ⟨h12_⟩
   have n13_ : Aside0 (Below w0.heap.size w0 w39) := ⟨h13_⟩
   clear BK184 BK190 HI0 HK HB
   clear h0_ h1_ h2_ h3_ h4_ h5_ h6_ h7_ h8_ h9_ h10_ h11_ h12_ h13_
   have BK184 := n0_
   have BK190 := n1_
   have BK211 := n2_
   have GW211 := n3_
   have GE211 := n4_
   have NB0_211 := n5_
   have NB211_0 := n6_
   have NB184_211 := n7_
   have NB211_184 := n8_
   have NB190_211 := n9_
   have NB211_190 := n10_
   have HI0 := n11_
   have HK := n12_
   have HB := n13_
   clear n0_ n1_ n2_ n3_ n4_ n5_ n6_ n7_ n8_ n9_ n10_ n11_ n12_ n13_
   have hHeld : w39.cell? ⟨gb190, 0, none⟩ = some (.string x191000_4) ∧ w39.cell? ⟨gb190, 1, none⟩ = some (.string x191001_4) ∧ w39.cell? ⟨gb190, 2, none⟩ = some (.string x191002_4) := hS_
   refine norm_ (a' := ?_) ?_ ?_
   rotate_left; (· simp only [putAll, Act.put, sA_, sB_, sC_]; rfl)
   refine one_ (i := 21) (N := none) (bo_ 22 4194303) rfl rfl (one_of HT_.out (by kernel_rfl)) (by decide) (fun K hK => ?_)
   have hs40 : w39.cell? ⟨gb211, 0, none⟩ = some (.string (⟨#[]⟩ : ByteArray)) := (blk_cell BK211.out 0).trans rfl
   have hfs40 := blk_frozen BK211.out 0
   have hns40_0 := NB184_211.out
   have hns40_1 := NB190_211.out
   have hms40_0 := NB211_184.out
   have hms40_1 := NB211_190.out
   have hs41 : w39.cell? ⟨gb211, 1, none⟩ = some (.string (⟨#[]⟩ : ByteArray)) := (blk_cell BK211.out 1).trans rfl
   have hfs41 := blk_frozen BK211.out 1
   have hns41_0 := NB184_211.out
   have hns41_1 := NB190_211.out
   have hms41_0 := NB211_184.out
   have hms41_1 := NB211_190.out
   have hs42 : w39.cell? ⟨gb211, 2, none⟩ = some (.int .u64 0) := (blk_cell BK211.out 2).trans rfl
   have hfs42 := blk_frozen BK211.out 2
   have hns42_0 := NB184_211.out
   have hns42_1 := NB190_211.out
   have hms42_0 := NB211_184.out
   have hms42_1 := NB211_190.out
   have hs43 : w39.cell? ⟨gb211, 3, none⟩ = some (.int .i64 0) := (blk_cell BK211.out 3).trans rfl
   have hfs43 := blk_frozen BK211.out 3
   have hns43_0 := NB184_211.out
   have hns43_1 := NB190_211.out
   have hms43_0 := NB211_184.out
   have hms43_1 := NB211_190.out
   have hs44 : w39.cell? ⟨gb211, 4, none⟩ = some (.int .i64 0) := (blk_cell BK211.out 4).trans rfl
   have hfs44 := blk_frozen BK211.out 4
   have hns44_0 := NB184_211.out
   have hns44_1 := NB190_211.out
   have hms44_0 := NB211_184.out
   have hms44_1 := NB211_190.out
   have hs45 : w39.cell? ⟨gb211, 5, none⟩ = some (.int .i64 0) := (blk_cell BK211.out 5).trans rfl
   have hfs45 := blk_frozen BK211.out 5
   have hns45_0 := NB184_211.out
   have hns45_1 := NB190_211.out
   have hms45_0 := NB211_184.out
   have hms45_1 := NB211_190.out
   have hs46 : w39.cell? ⟨gb211, 6, none⟩ = some (.int .i64 0) := (blk_cell BK211.out 6).trans rfl
   have hfs46 := blk_frozen BK211.out 6
   have hns46_0 := NB184_211.out
   have hns46_1 := NB190_211.out
   have hms46_0 := NB211_184.out
   have hms46_1 := NB211_190.out
   have hs47 : w39.cell? ⟨gb211, 7, none⟩ = some (.int .i64 0) := (blk_cell BK211.out 7).trans rfl
   have hfs47 := blk_frozen BK211.out 7
   have hns47_0 := NB184_211.out
   have hns47_1 := NB190_211.out
   have hms47_0 := NB211_184.out
   have hms47_1 := NB211_190.out
   have hs48 : w39.cell? ⟨gb211, 8, none⟩ = some (.int .i64 0) := (blk_cell BK211.out 8).trans rfl
   have hfs48 := blk_frozen BK211.out 8
   have hns48_0 := NB184_211.out
   have hns48_1 := NB190_211.out
   have hms48_0 := NB211_184.out
   have hms48_1 := NB211_190.out
   refine skip_ (w1 := ?_) (by rfl) rfl ?_ ?_
   rotate_left; (· go_simp; rfl)
   refine hK.out _ _ ⟨((cell_far (p := ⟨gb211, _, none⟩) NB190_211.out _).trans (((cell_far (p := ⟨gb211, _, none⟩) NB190_211.out _).trans (((cell_far (p := ⟨gb211, _, none⟩) NB190_211.out _).trans (((cell_far (p := ⟨gb211, _, none⟩) NB190_211.out _).trans (((cell_far (p := ⟨gb211, _, none⟩) NB190_211.out _).trans (((cell_far (p := ⟨gb211, _, none⟩) NB190_211.out _).trans (((cell_far (p := ⟨gb211, _, none⟩) NB190_211.out _).trans (((cell_far (p := ⟨gb211, _, none⟩) NB190_211.out _).trans (((cell_far (p := ⟨gb211, _, none⟩) NB190_211.out _).trans (hHeld.1)))))))))))))))))), ((cell_far (p := ⟨gb211, _, none⟩) NB190_211.out _).trans (((cell_far (p := ⟨gb211, _, none⟩) NB190_211.out _).trans (((cell_far (p := ⟨gb211, _, none⟩) NB190_211.out _).trans (((cell_far (p := ⟨gb211, _, none⟩) NB190_211.out _).trans (((cell_far (p := ⟨gb211, _, none⟩) NB190_211.out _).trans (((cell_far (p := ⟨gb211, _, none⟩) NB190_211.out _).trans (((cell_far (p := ⟨gb211, _, none⟩) NB190_211.out _).trans (((cell_far (p := ⟨gb211, _, none⟩) NB190_211.out _).trans (((cell_far (p := ⟨gb211, _, none⟩) NB190_211.out _).trans (hHeld.2.1)))))))))))))))))), ((cell_far (p := ⟨gb211, _, none⟩) NB190_211.out _).trans (((cell_far (p := ⟨gb211, _, none⟩) NB190_211.out _).trans (((cell_far (p := ⟨gb211, _, none⟩) NB190_211.out _).trans (((cell_far (p := ⟨gb211, _, none⟩) NB190_211.out _).trans (((cell_far (p := ⟨gb211, _, none⟩) NB190_211.out _).trans (((cell_far (p := ⟨gb211, _, none⟩) NB190_211.out _).trans (((cell_far (p := ⟨gb211, _, none⟩) NB190_211.out _).trans (((cell_far (p := ⟨gb211, _, none⟩) NB190_211.out _).trans (((cell_far (p := ⟨gb211, _, none⟩) NB190_211.out _).trans (hHeld.2.2))))))))))))))))))⟩ (fun hHeld => ?_)
   clear hK K
   refine done_ (done_of HT_.out (by kernel_rfl)) ?_
   go_upto_if 36 with (first | ((with_reducible refine gate_callee (f := 49) rfl ?_); refine goesL_ (some 35) rfl rfl Tryd.func49 (by kernel_rfl) rfl #[.pointer (some ⟨g, 0, none⟩), .int .i64 5] rfl (by (try simp only [List.map_toArray, List.map_cons, List.map_nil]); first | done | rfl | (simp only [List.length_drop, List.length_take]; rfl)) ?_; (with_reducible refine (kerbsuitedata_Source_Next.calls g s0_0 t210 5 t212 t213 w0 _ ?side1 ?side2 A29.out).mono ?_); (case side1 => repeat (first | (with_reducible first | exact HI0.out | apply IsS52.alloc | apply IsS52.drewN | apply IsS52.drew | apply IsS52.set_1 | refine IsS52.far ?_ NB0_184.out _ | refine IsS52.far ?_ NB0_190.out _ | refine IsS52.far ?_ NB0_211.out _) | exact HI0.out)); (case side2 => repeat (first | (with_reducible first | exact HB.out | apply bA_ | apply bN_ | apply bD_ | refine bS_ ?_ (IsS52.ge HI0.out) | refine bS_ ?_ GE184.out | refine bS_ ?_ GE190.out | refine bS_ ?_ GE211.out) | exact HB.out)); rintro e w49 ⟨rfl, hi, hb, hk⟩; refine ⟨_, rfl, ?_⟩; have n0_ := Aside0.mk (KeepBut.blk hk (g' := gb184) (o := .cells #[.string (⟨#[]⟩ : ByteArray), .string (⟨#[]⟩ : ByteArray), .int .u64 0, .int .i64 0, .int .i64 0, .int .i64 0, .int .i64 0, .int .i64 0, .int .i64 0] 35 (0, 0)) (by refine bk_ ?_; refine blk_far ?_ NB184_211.out _; refine bk_ ?_; refine blk_far ?_ NB184_211.out _; refine bk_ ?_; refine blk_far ?_ NB184_211.out _; refine bk_ ?_; refine blk_far ?_ NB184_211.out _; refine bk_ ?_; refine blk_far ?_ NB184_211.out _; refine bk_ ?_; refine blk_far ?_ NB184_211.out _; refine bk_ ?_; refine blk_far ?_ NB184_211.out _; refine bk_ ?_; refine blk_far ?_ NB184_211.out _; refine bk_ ?_; refine blk_far ?_ NB184_211.out _; refine bk_ ?_; exact BK184.out) NB184_0.out (by simp)); have n1_ := Aside0.mk (KeepBut.blk hk (g' := gb190) (o := .cells #[.string x191000_4, .string x191001_4, .string x191002_4] 41 (0, 0)) (by refine bk_ ?_; refine blk_far ?_ NB190_211.out _; refine bk_ ?_; refine blk_far ?_ NB190_211.out _; refine bk_ ?_; refine blk_far ?_ NB190_211.out _; refine bk_ ?_; refine blk_far ?_ NB190_211.out _; refine bk_ ?_; refine blk_far ?_ NB190_211.out _; refine bk_ ?_; refine blk_far ?_ NB190_211.out _; refine bk_ ?_; refine blk_far ?_ NB190_211.out _; refine bk_ ?_; refine blk_far ?_ NB190_211.out _; refine bk_ ?_; refine blk_far ?_ NB190_211.out _; refine bk_ ?_; exact BK190.out) NB190_0.out (by simp)); have n2_ := Aside0.mk (KeepBut.blk hk (g' := gb211) (o := .cells #[.string x191000_4, .string x191001_4, .int .u64 t200, .int .i64 t201, .int .i64 0, .int .i64 t203, .int .i64 (wrap64 ((wrap64 (Int.tdiv t205 4)) * t207)), .int .i64 t209, .int .i64 0] 35 (0, 0)) (by refine bk_ ?_; refine blk_put (cs := #[.string x191000_4, .string x191001_4, .int .u64 t200, .int .i64 t201, .int .i64 0, .int .i64 t203, .int .i64 (wrap64 ((wrap64 (Int.tdiv t205 4)) * t207)), .int .i64 t209, .int .i64 0]) ?_ 8 _ rfl; refine bk_ ?_; refine blk_put (cs := #[.string x191000_4, .string x191001_4, .int .u64 t200, .int .i64 t201, .int .i64 0, .int .i64 t203, .int .i64 (wrap64 ((wrap64 (Int.tdiv t205 4)) * t207)), .int .i64 0, .int .i64 0]) ?_ 7 _ rfl; refine bk_ ?_; refine blk_put (cs := #[.string x191000_4, .string x191001_4, .int .u64 t200, .int .i64 t201, .int .i64 0, .int .i64 t203, .int .i64 0, .int .i64 0, .int .i64 0]) ?_ 6 _ rfl; refine bk_ ?_; refine blk_put (cs := #[.string x191000_4, .string x191001_4, .int .u64 t200, .int .i64 t201, .int .i64 0, .int .i64 0, .int .i64 0, .int .i64 0, .int .i64 0]) ?_ 5 _ rfl; refine bk_ ?_; refine blk_put (cs := #[.string x191000_4, .string x191001_4, .int .u64 t200, .int .i64 t201, .int .i64 0, .int .i64 0, .int .i64 0, .int .i64 0, .int .i64 0]) ?_ 4 _ rfl; refine bk_ ?_; refine blk_put (cs := #[.string x191000_4, .string x191001_4, .int .u64 t200, .int .i64 0, .int .i64 0, .int .i64 0, .int .i64 0, .int .i64 0, .int .i64 0]) ?_ 3 _ rfl; refine bk_ ?_; refine blk_put (cs := #[.string x191000_4, .string x191001_4, .int .u64 0, .int .i64 0, .int .i64 0, .int .i64 0, .int .i64 0, .int .i64 0, .int .i64 0]) ?_ 2 _ rfl; refine bk_ ?_; refine blk_put (cs := #[.string x191000_4, .string (⟨#[]⟩ : ByteArray), .int .u64 0, .int .i64 0, .int .i64 0, .int .i64 0, .int .i64 0, .int .i64 0, .int .i64 0]) ?_ 1 _ rfl; refine bk_ ?_; refine blk_put (cs := #[.string (⟨#[]⟩ : ByteArray), .string (⟨#[]⟩ : ByteArray), .int .u64 0, .int .i64 0, .int .i64 0, .int .i64 0, .int .i64 0, .int .i64 0, .int .i64 0]) ?_ 0 _ rfl; refine bk_ ?_; exact BK211.out) NB211_0.out (by simp)); have n3_ := Aside0.mk (KeepBut.trans (by repeat (first | (with_reducible first | exact HK.out | apply KeepBut.set_ | apply keep_drewN | apply keep_drew | apply keep_alloc | refine keep_far ?_ GW184.out _ | refine keep_far ?_ GW190.out _ | refine keep_far ?_ GW211.out _) | exact HK.out)) hk (.inl rfl)); have n4_ := Aside0.mk (hb); have n5_ := Aside0.mk (hi); clear BK184 BK190 BK211 HK HB HI0; have BK184 := n0_; have BK190 := n1_; have BK211 := n2_; have HK := n3_; have HB := n4_; have HI0 := n5_; clear n0_ n1_ n2_ n3_ n4_ n5_; (try clear hb); (try clear hb2); (try clear hk); (try clear hi)))
   (try simp only [Act.put, sA_, sB_, sC_])
   go_cut [] (fun wc => ∃ (kq : Nat) (x1001_29 : Int) (x212004_29 : Int), Aside0 (kerbsuitedata_Entry.j1 kq s0_0 x1001_29 x191000_4 x191001_4 t200 t201 x212004_29 t203 (wrap64 ((wrap64 (Int.tdiv t205 4)) * t207)) t209 0 = some (r1, r2, r3, r4, r5, r6, r7, r8, r9, r10)) ∧ Aside0 (kq ≤ kj4) ∧ Aside0 (wc.heap[gb184]? = some (.cells #[.string (⟨#[]⟩ : ByteArray), .string (⟨#[]⟩ : ByteArray), .int .u64 0, .int .i64 0, .int .i64 0, .int .i64 0, .int .i64 0, .int .i64 0, .int .i64 0] 35 (0, 0))) ∧ Aside0 (wc.heap[gb190]? = some (.cells #[.string x191000_4, .string x191001_4, .string x191002_4] 41 (0, 0))) ∧ Aside0 (wc.heap[gb211]? = some (.cells #[.string x191000_4, .string x191001_4, .int .u64 t200, .int .i64 t201, .int .i64 x212004_29, .int .i64 t203, .int .i64 (wrap64 ((wrap64 (Int.tdiv t205 4)) * t207)), .int .i64 t209, .int .i64 0] 35 (0, 0))) ∧ Aside0 (IsS52 w0 wc g s0_0 x1001_29) ∧ Aside0 (KeepBut w wc g none) ∧ Aside0 (Below w0.heap.size w0 wc))
   case first =>
    have H := HC30.out
    clear HC30
    by_cases c50 : t212 = 4
    ·rw [if_pos c50] at H
     have c50b0 : (t212 == 4) = true := beq_iff_eq.mpr c50
     have c50b1 : (t212 != 4) = false := bne_eq_false_iff_eq.mpr c50
     clear c50
     (first | rw [c50b0] | (simp only [i64_w, i32_w]; rw [c50b0]) | skip)
     replace H := Option.bind_eq_some_iff.mp H
     obtain ⟨⟨t214, t215⟩, A510, H⟩ := H
     replace H : (kerbsuitedata_Entry.j1 kj4 s0_0 t215 x191000_4 x191001_4 t200 t201 (wrap64 (t214 * 200)) t203 (wrap64 ((wrap64 (Int.tdiv t205 4)) * t207)) t209 0) = some (r1, r2, r3, r4, r5, r6, r7, r8, r9, r10) := H
     have A51 := Aside0.mk A510
     clear A510
     have H' := Aside0.mk H
     clear H
     go_wp2_with (first | ((with_reducible refine gate_callee (f := 49) rfl ?_); refine goesL_ (some 38) rfl rfl Tryd.func49 (by kernel_rfl) rfl #[.pointer (some ⟨g, 0, none⟩), .int .i64 256] rfl (by (try simp only [List.map_toArray, List.map_cons, List.map_nil]); first | done | rfl | (simp only [List.length_drop, List.length_take]; rfl)) ?_; (with_reducible refine (kerbsuitedata_Source_Next.calls g s0_0 t213 256 t214 t215 w0 _ ?side1 ?side2 A51.out).mono ?_); (case side1 => repeat (first | (with_reducible first | exact HI0.out | apply IsS52.alloc | apply IsS52.drewN | apply IsS52.drew | apply IsS52.set_1 | refine IsS52.far ?_ NB0_184.out _ | refine IsS52.far ?_ NB0_190.out _ | refine IsS52.far ?_ NB0_211.out _) | exact HI0.out)); (case side2 => repeat (first | (with_reducible first | exact HB.out | apply bA_ | apply bN_ | apply bD_ | refine bS_ ?_ (IsS52.ge HI0.out) | refine bS_ ?_ GE184.out | refine bS_ ?_ GE190.out | refine bS_ ?_ GE211.out) | exact HB.out)); rintro e w52 ⟨rfl, hi, hb, hk⟩; refine ⟨_, rfl, ?_⟩; have n0_ := Aside0.mk (KeepBut.blk hk (g' := gb184) (o := .cells #[.string (⟨#[]⟩ : ByteArray), .string (⟨#[]⟩ : ByteArray), .int .u64 0, .int .i64 0, .int .i64 0, .int .i64 0, .int .i64 0, .int .i64 0, .int .i64 0] 35 (0, 0)) (bk_ BK184.out) NB184_0.out (by simp)); have n1_ := Aside0.mk (KeepBut.blk hk (g' := gb190) (o := .cells #[.string x191000_4, .string x191001_4, .string x191002_4] 41 (0, 0)) (bk_ BK190.out) NB190_0.out (by simp)); have n2_ := Aside0.mk (KeepBut.blk hk (g' := gb211) (o := .cells #[.string x191000_4, .string x191001_4, .int .u64 t200, .int .i64 t201, .int .i64 0, .int .i64 t203, .int .i64 (wrap64 ((wrap64 (Int.tdiv t205 4)) * t207)), .int .i64 t209, .int .i64 0] 35 (0, 0)) (bk_ BK211.out) NB211_0.out (by simp)); have n3_ := Aside0.mk (KeepBut.trans (by repeat (first | (with_reducible first | exact HK.out | apply KeepBut.set_ | apply keep_drewN | apply keep_drew | apply keep_alloc | refine keep_far ?_ GW184.out _ | refine keep_far ?_ GW190.out _ | refine keep_far ?_ GW211.out _) | exact HK.out)) hk (.inl rfl)); have n4_ := Aside0.mk (hb); have n5_ := Aside0.mk (hi); clear BK184 BK190 BK211 HK HB HI0; have BK184 := n0_; have BK190 := n1_; have BK211 := n2_; have HK := n3_; have HB := n4_; have HI0 := n5_; clear n0_ n1_ n2_ n3_ n4_ n5_; (try clear hb); (try clear hb2); (try clear hk); (try clear hi); have hnb53 := NB211_184.out; have hnc53 := NB184_211.out; have hnb54 := NB211_190.out; have hnc54 := NB190_211.out; have hnb55 := NB211_0.out; have hnc55 := NB0_211.out; have hcz56_0 : w52.cell? ⟨gb211, 0, none⟩ = some (.string x191000_4) := (blk_cell BK211.out 0).trans rfl; have hcz56_1 : w52.cell? ⟨gb211, 1, none⟩ = some (.string x191001_4) := (blk_cell BK211.out 1).trans rfl; have hcz56_2 : w52.cell? ⟨gb211, 2, none⟩ = some (.int .u64 t200) := (blk_cell BK211.out 2).trans rfl; have hcz56_3 : w52.cell? ⟨gb211, 3, none⟩ = some (.int .i64 t201) := (blk_cell BK211.out 3).trans rfl; have hcz56_4 : w52.cell? ⟨gb211, 4, none⟩ = some (.int .i64 0) := (blk_cell BK211.out 4).trans rfl; have hcz56_5 : w52.cell? ⟨gb211, 5, none⟩ = some (.int .i64 t203) := (blk_cell BK211.out 5).trans rfl; have hcz56_6 : w52.cell? ⟨gb211, 6, none⟩ = some (.int .i64 (wrap64 ((wrap64 (Int.tdiv t205 4)) * t207))) := (blk_cell BK211.out 6).trans rfl; have hcz56_7 : w52.cell? ⟨gb211, 7, none⟩ = some (.int .i64 t209) := (blk_cell BK211.out 7).trans rfl; have hcz56_8 : w52.cell? ⟨gb211, 8, none⟩ = some (.int .i64 0) := (blk_cell BK211.out 8).trans rfl; have hfz56_0 := blk_frozen BK211.out 0; have hfz56_1 := blk_frozen BK211.out 1; have hfz56_2 := blk_frozen BK211.out 2; have hfz56_3 := blk_frozen BK211.out 3; have hfz56_4 := blk_frozen BK211.out 4; have hfz56_5 := blk_frozen BK211.out 5; have hfz56_6 := blk_frozen BK211.out 6; have hfz56_7 := blk_frozen BK211.out 7; have hfz56_8 := blk_frozen BK211.out 8))
     go_meet
     case rel => exact ⟨_, (t215), (wrap64 (t214 * 200)), H', ⟨by have := HJ4.out; first | omega | exact Nat.le_refl _⟩, ⟨by refine bk_ ?_; refine blk_far ?_ NB184_211.out _; refine bk_ ?_; exact BK184.out⟩, ⟨by refine bk_ ?_; refine blk_far ?_ NB190_211.out _; refine bk_ ?_; exact BK190.out⟩, ⟨by refine bk_ ?_; refine blk_put (cs := #[.string x191000_4, .string x191001_4, .int .u64 t200, .int .i64 t201, .int .i64 0, .int .i64 t203, .int .i64 (wrap64 ((wrap64 (Int.tdiv t205 4)) * t207)), .int .i64 t209, .int .i64 0]) ?_ 4 _ rfl; refine bk_ ?_; exact BK211.out⟩, ⟨by repeat (first | (with_reducible first | exact HI0.out | apply IsS52.alloc | apply IsS52.drewN | apply IsS52.drew | apply IsS52.set_1 | refine IsS52.far ?_ NB0_184.out _ | refine IsS52.far ?_ NB0_190.out _ | refine IsS52.far ?_ NB0_211.out _) | exact HI0.out)⟩, ⟨by repeat (first | (with_reducible first | exact HK.out | apply KeepBut.set_ | apply keep_drewN | apply keep_drew | apply keep_alloc | refine keep_far ?_ GW184.out _ | refine keep_far ?_ GW190.out _ | refine keep_far ?_ GW211.out _) | exact HK.out)⟩, ⟨by repeat (first | (with_reducible first | exact HB.out | apply bA_ | apply bN_ | apply bD_ | refine bS_ ?_ (IsS52.ge HI0.out) | refine bS_ ?_ GE184.out | refine bS_ ?_ GE190.out | refine bS_ ?_ GE211.out) | exact HB.out)⟩⟩
    rw [if_neg c50] at H
    have c50b0 : (t212 == 4) = false := beq_eq_false_iff_ne.mpr c50
    have c50b1 : (t212 != 4) = true := bne_iff_ne.mpr c50
    (first | rw [c50b0] | (simp only [i64_w, i32_w]; rw [c50b0]) | skip)
    have H' := Aside0.mk H
    clear H
    go_wp2
    go_meet
    case rel => exact ⟨_, (t213), (0), H', ⟨by have := HJ4.out; first | omega | exact Nat.le_refl _⟩, ⟨by refine bk_ ?_; exact BK184.out⟩, ⟨by refine bk_ ?_; exact BK190.out⟩, ⟨by refine bk_ ?_; exact BK211.out⟩, ⟨by repeat (first | (with_reducible first | exact HI0.out | apply IsS52.alloc | apply IsS52.drewN | apply IsS52.drew | apply IsS52.set_1 | refine IsS52.far ?_ NB0_184.out _ | refine IsS52.far ?_ NB0_190.out _ | refine IsS52.far ?_ NB0_211.out _) | exact HI0.out)⟩, ⟨by repeat (first | (with_reducible first | exact HK.out | apply KeepBut.set_ | apply keep_drewN | apply keep_drew | apply keep_alloc | refine keep_far ?_ GW184.out _ | refine keep_far ?_ GW190.out _ | refine keep_far ?_ GW211.out _) | exact HK.out)⟩, ⟨by repeat (first | (with_reducible first | exact HB.out | apply bA_ | apply bN_ | apply bD_ | refine bS_ ?_ (IsS52.ge HI0.out) | refine bS_ ?_ GE184.out | refine bS_ ?_ GE190.out | refine bS_ ?_ GE211.out) | exact HB.out)⟩⟩
   case rest =>
    clear HC30
    try clear p2
    try clear c4
    try clear c5
    try clear p6
    try clear c49
    try clear c50
    try clear c50b0
    try clear c50b1
    try clear c53
    try clear c54
    try clear c55
    try clear hcz56_0
    try clear hcz56_1
    try clear hcz56_2
    try clear hcz56_3
    try clear hcz56_4
    try clear hcz56_5
    try clear hcz56_6
    try clear hcz56_7
    try clear hcz56_8
    try clear hfz56_0
    try clear hfz56_1
    try clear hfz56_2
    try clear hfz56_3
    try clear hfz56_4
    try clear hfz56_5
    try clear hfz56_6
    try clear hfz56_7
    try clear hfz56_8
    obtain ⟨kq, x1001_29, x212004_29, HA, HJ29, BK184, BK190, BK211, HI0, HK, HB⟩ := hcut
    cases kq with
    | zero => exact absurd HA.out (by simp [kerbsuitedata_Entry.j1])
    | succ kj29 =>
     have H := HA.out
     clear HA
     simp only [kerbsuitedata_Entry.j1] at H
     replace H := Option.bind_eq_some_iff.mp H
     obtain ⟨⟨t216, t217⟩, A570, H⟩ := H
     replace H : (if t216 = 8 then (kerbsuitedata_Entry.j2 kj29 s0_0 t217 x191000_4 x191001_4 0 t201 x212004_29 t203 (wrap64 ((wrap64 (Int.tdiv t205 4)) * t207)) t209 0) else (kerbsuitedata_Entry.j2 kj29 s0_0 t217 x191000_4 x191001_4 t200 t201 x212004_29 t203 (wrap64 ((wrap64 (Int.tdiv t205 4)) * t207)) t209 0)) = some (r1, r2, r3, r4, r5, r6, r7, r8, r9, r10) := H
     have A57 := Aside0.mk A570
     clear A570
     have HC58 := Aside0.mk H
     clear H
     go_upto_if 43 with (first | ((with_reducible refine gate_callee (f := 49) rfl ?_); refine goesL_ (some 42) rfl rfl Tryd.func49 (by kernel_rfl) rfl #[.pointer (some ⟨g, 0, none⟩), .int .i64 9] rfl (by (try simp only [List.map_toArray, List.map_cons, List.map_nil]); first | done | rfl | (simp only [List.length_drop, List.length_take]; rfl)) ?_; (with_reducible refine (kerbsuitedata_Source_Next.calls g s0_0 x1001_29 9 t216 t217 w0 _ ?side1 ?side2 A57.out).mono ?_); (case side1 => repeat (first | (with_reducible first | exact HI0.out | apply IsS52.alloc | apply IsS52.drewN | apply IsS52.drew | apply IsS52.set_1 | refine IsS52.far ?_ NB0_184.out _ | refine IsS52.far ?_ NB0_190.out _ | refine IsS52.far ?_ NB0_211.out _) | exact HI0.out)); (case side2 => repeat (first | (with_reducible first | exact HB.out | apply bA_ | apply bN_ | apply bD_ | refine bS_ ?_ (IsS52.ge HI0.out) | refine bS_ ?_ GE184.out | refine bS_ ?_ GE190.out | refine bS_ ?_ GE211.out) | exact HB.out)); rintro e w59 ⟨rfl, hi, hb, hk⟩; refine ⟨_, rfl, ?_⟩; have n0_ := Aside0.mk (KeepBut.blk hk (g' := gb184) (o := .cells #[.string (⟨#[]⟩ : ByteArray), .string (⟨#[]⟩ : ByteArray), .int .u64 0, .int .i64 0, .int .i64 0, .int .i64 0, .int .i64 0, .int .i64 0, .int .i64 0] 35 (0, 0)) (bk_ BK184.out) NB184_0.out (by simp)); have n1_ := Aside0.mk (KeepBut.blk hk (g' := gb190) (o := .cells #[.string x191000_4, .string x191001_4, .string x191002_4] 41 (0, 0)) (bk_ BK190.out) NB190_0.out (by simp)); have n2_ := Aside0.mk (KeepBut.blk hk (g' := gb211) (o := .cells #[.string x191000_4, .string x191001_4, .int .u64 t200, .int .i64 t201, .int .i64 x212004_29, .int .i64 t203, .int .i64 (wrap64 ((wrap64 (Int.tdiv t205 4)) * t207)), .int .i64 t209, .int .i64 0] 35 (0, 0)) (bk_ BK211.out) NB211_0.out (by simp)); have n3_ := Aside0.mk (KeepBut.trans (by repeat (first | (with_reducible first | exact HK.out | apply KeepBut.set_ | apply keep_drewN | apply keep_drew | apply keep_alloc | refine keep_far ?_ GW184.out _ | refine keep_far ?_ GW190.out _ | refine keep_far ?_ GW211.out _) | exact HK.out)) hk (.inl rfl)); have n4_ := Aside0.mk (hb); have n5_ := Aside0.mk (hi); clear BK184 BK190 BK211 HK HB HI0; have BK184 := n0_; have BK190 := n1_; have BK211 := n2_; have HK := n3_; have HB := n4_; have HI0 := n5_; clear n0_ n1_ n2_ n3_ n4_ n5_; (try clear hb); (try clear hb2); (try clear hk); (try clear hi)))
     (try simp only [Act.put, sA_, sB_, sC_])
     go_cut [] (fun wc => ∃ (kq : Nat) (x212002_57 : Int), Aside0 (kerbsuitedata_Entry.j2 kq s0_0 t217 x191000_4 x191001_4 x212002_57 t201 x212004_29 t203 (wrap64 ((wrap64 (Int.tdiv t205 4)) * t207)) t209 0 = some (r1, r2, r3, r4, r5, r6, r7, r8, r9, r10)) ∧ Aside0 (kq ≤ kj29) ∧ Aside0 (wc.heap[gb184]? = some (.cells #[.string (⟨#[]⟩ : ByteArray), .string (⟨#[]⟩ : ByteArray), .int .u64 0, .int .i64 0, .int .i64 0, .int .i64 0, .int .i64 0, .int .i64 0, .int .i64 0] 35 (0, 0))) ∧ Aside0 (wc.heap[gb190]? = some (.cells #[.string x191000_4, .string x191001_4, .string x191002_4] 41 (0, 0))) ∧ Aside0 (wc.heap[gb211]? = some (.cells #[.string x191000_4, .string x191001_4, .int .u64 x212002_57, .int .i64 t201, .int .i64 x212004_29, .int .i64 t203, .int .i64 (wrap64 ((wrap64 (Int.tdiv t205 4)) * t207)), .int .i64 t209, .int .i64 0] 35 (0, 0))) ∧ Aside0 (IsS52 w0 wc g s0_0 t217) ∧ Aside0 (KeepBut w wc g none) ∧ Aside0 (Below w0.heap.size w0 wc))
     case first =>
      have H := HC58.out
      clear HC58
      by_cases c60 : t216 = 8
      ·rw [if_pos c60] at H
       have c60b0 : (t216 == 8) = true := beq_iff_eq.mpr c60
       have c60b1 : (t216 != 8) = false := bne_eq_false_iff_eq.mpr c60
       clear c60
       (first | rw [c60b0] | (simp only [i64_w, i32_w]; rw [c60b0]) | skip)
       have H' := Aside0.mk H
       clear H
       have hnb61 := NB211_184.out
       have hnc61 := NB184_211.out
       have hnb62 := NB211_190.out
       have hnc62 := NB190_211.out
       have hnb63 := NB211_0.out
       have hnc63 := NB0_211.out
       have hcz64_0 : w59.cell? ⟨gb211, 0, none⟩ = some (.string x191000_4) := (blk_cell BK211.out 0).trans rfl
       have hcz64_1 : w59.cell? ⟨gb211, 1, none⟩ = some (.string x191001_4) := (blk_cell BK211.out 1).trans rfl
       have hcz64_2 : w59.cell? ⟨gb211, 2, none⟩ = some (.int .u64 t200) := (blk_cell BK211.out 2).trans rfl
       have hcz64_3 : w59.cell? ⟨gb211, 3, none⟩ = some (.int .i64 t201) := (blk_cell BK211.out 3).trans rfl
       have hcz64_4 : w59.cell? ⟨gb211, 4, none⟩ = some (.int .i64 x212004_29) := (blk_cell BK211.out 4).trans rfl
       have hcz64_5 : w59.cell? ⟨gb211, 5, none⟩ = some (.int .i64 t203) := (blk_cell BK211.out 5).trans rfl
       have hcz64_6 : w59.cell? ⟨gb211, 6, none⟩ = some (.int .i64 (wrap64 ((wrap64 (Int.tdiv t205 4)) * t207))) := (blk_cell BK211.out 6).trans rfl
       have hcz64_7 : w59.cell? ⟨gb211, 7, none⟩ = some (.int .i64 t209) := (blk_cell BK211.out 7).trans rfl
       have hcz64_8 : w59.cell? ⟨gb211, 8, none⟩ = some (.int .i64 0) := (blk_cell BK211.out 8).trans rfl
       have hfz64_0 := blk_frozen BK211.out 0
       have hfz64_1 := blk_frozen BK211.out 1
       have hfz64_2 := blk_frozen BK211.out 2
       have hfz64_3 := blk_frozen BK211.out 3
       have hfz64_4 := blk_frozen BK211.out 4
       have hfz64_5 := blk_frozen BK211.out 5
       have hfz64_6 := blk_frozen BK211.out 6
       have hfz64_7 := blk_frozen BK211.out 7
       have hfz64_8 := blk_frozen BK211.out 8
       go_wp2
       go_meet
       case rel => exact ⟨_, (0), H', ⟨by have := HJ4.out; have := HJ29.out; first | omega | exact Nat.le_refl _⟩, ⟨by refine bk_ ?_; refine blk_far ?_ NB184_211.out _; refine bk_ ?_; exact BK184.out⟩, ⟨by refine bk_ ?_; refine blk_far ?_ NB190_211.out _; refine bk_ ?_; exact BK190.out⟩, ⟨by refine bk_ ?_; refine blk_put (cs := #[.string x191000_4, .string x191001_4, .int .u64 t200, .int .i64 t201, .int .i64 x212004_29, .int .i64 t203, .int .i64 (wrap64 ((wrap64 (Int.tdiv t205 4)) * t207)), .int .i64 t209, .int .i64 0]) ?_ 2 _ rfl; refine bk_ ?_; exact BK211.out⟩, ⟨by repeat (first | (with_reducible first | exact HI0.out | apply IsS52.alloc | apply IsS52.drewN | apply IsS52.drew | apply IsS52.set_1 | refine IsS52.far ?_ NB0_184.out _ | refine IsS52.far ?_ NB0_190.out _ | refine IsS52.far ?_ NB0_211.out _) | exact HI0.out)⟩, ⟨by repeat (first | (with_reducible first | exact HK.out | apply KeepBut.set_ | apply keep_drewN | apply keep_drew | apply keep_alloc | refine keep_far ?_ GW184.out _ | refine keep_far ?_ GW190.out _ | refine keep_far ?_ GW211.out _) | exact HK.out)⟩, ⟨by repeat (first | (with_reducible first | exact HB.out | apply bA_ | apply bN_ | apply bD_ | refine bS_ ?_ (IsS52.ge HI0.out) | refine bS_ ?_ GE184.out | refine bS_ ?_ GE190.out | refine bS_ ?_ GE211.out) | exact HB.out)⟩⟩
      rw [if_neg c60] at H
      have c60b0 : (t216 == 8) = false := beq_eq_false_iff_ne.mpr c60
      have c60b1 : (t216 != 8) = true := bne_iff_ne.mpr c60
      (first | rw [c60b0] | (simp only [i64_w, i32_w]; rw [c60b0]) | skip)
      have H' := Aside0.mk H
      clear H
      go_wp2
      go_meet
      case rel => exact ⟨_, (t200), H', ⟨by have := HJ4.out; have := HJ29.out; first | omega | exact Nat.le_refl _⟩, ⟨by refine bk_ ?_; exact BK184.out⟩, ⟨by refine bk_ ?_; exact BK190.out⟩, ⟨by refine bk_ ?_; exact BK211.out⟩, ⟨by repeat (first | (with_reducible first | exact HI0.out | apply IsS52.alloc | apply IsS52.drewN | apply IsS52.drew | apply IsS52.set_1 | refine IsS52.far ?_ NB0_184.out _ | refine IsS52.far ?_ NB0_190.out _ | refine IsS52.far ?_ NB0_211.out _) | exact HI0.out)⟩, ⟨by repeat (first | (with_reducible first | exact HK.out | apply KeepBut.set_ | apply keep_drewN | apply keep_drew | apply keep_alloc | refine keep_far ?_ GW184.out _ | refine keep_far ?_ GW190.out _ | refine keep_far ?_ GW211.out _) | exact HK.out)⟩, ⟨by repeat (first | (with_reducible first | exact HB.out | apply bA_ | apply bN_ | apply bD_ | refine bS_ ?_ (IsS52.ge HI0.out) | refine bS_ ?_ GE184.out | refine bS_ ?_ GE190.out | refine bS_ ?_ GE211.out) | exact HB.out)⟩⟩
     case rest =>
      clear HC58
      try clear p2
      try clear c4
      try clear c5
      try clear c6
      try clear p6
      try clear c49
      try clear c50
      try clear c50b0
      try clear c50b1
      try clear c53
      try clear c54
      try clear c55
      try clear c60
      try clear c60b0
      try clear c60b1
      try clear c61
      try clear c62
      try clear c63
      try clear p64
      try clear hcz56_0
      try clear hcz56_1
      try clear hcz56_2
      try clear hcz56_3
      try clear hcz56_4
      try clear hcz56_5
      try clear hcz56_6
      try clear hcz56_7
      try clear hcz56_8
      try clear hcz64_0
      try clear hcz64_1
      try clear hcz64_2
      try clear hcz64_3
      try clear hcz64_4
      try clear hcz64_5
      try clear hcz64_6
      try clear hcz64_7
      try clear hcz64_8
      try clear hfz56_0
      try clear hfz56_1
      try clear hfz56_2
      try clear hfz56_3
      try clear hfz56_4
      try clear hfz56_5
      try clear hfz56_6
      try clear hfz56_7
      try clear hfz56_8
      try clear hfz64_0
      try clear hfz64_1
      try clear hfz64_2
      try clear hfz64_3
      try clear hfz64_4
      try clear hfz64_5
      try clear hfz64_6
      try clear hfz64_7
      try clear hfz64_8
      try clear p2
      try clear p6
      obtain ⟨kq, x212002_57, HA, HJ57, BK184, BK190, BK211, HI0, HK, HB⟩ := hcut
      cases kq with
      | zero => exact absurd HA.out (by simp [kerbsuitedata_Entry.j2])
      | succ kj57 =>
       have H := HA.out
       clear HA
       simp only [kerbsuitedata_Entry.j2] at H
       replace H := Option.bind_eq_some_iff.mp H
       obtain ⟨⟨t218, t219⟩, A650, H⟩ := H
       replace H : (if t218 = 8 then ((kerbsuitedata_Source_Next.f s0_0 t219 256).bind fun bt220 => (some (x191000_4, x191001_4, x212002_57, t201, x212004_29, t203, (wrap64 ((wrap64 (Int.tdiv t205 4)) * t207)), t209, wrap64 (bt220.1 * 100), bt220.2))) else (some (x191000_4, x191001_4, x212002_57, t201, x212004_29, t203, (wrap64 ((wrap64 (Int.tdiv t205 4)) * t207)), t209, 0, t219))) = some (r1, r2, r3, r4, r5, r6, r7, r8, r9, r10) := H
       have A65 := Aside0.mk A650
       clear A650
       by_cases c66 : t218 = 8
       ·rw [if_pos c66] at H
        have c66b0 : (t218 == 8) = true := beq_iff_eq.mpr c66
        have c66b1 : (t218 != 8) = false := bne_eq_false_iff_eq.mpr c66
        clear c66
        replace H := Option.bind_eq_some_iff.mp H
        obtain ⟨⟨t220, t221⟩, A670, H⟩ := H
        replace H : (some (x191000_4, x191001_4, x212002_57, t201, x212004_29, t203, (wrap64 ((wrap64 (Int.tdiv t205 4)) * t207)), t209, wrap64 (t220 * 100), t221)) = some (r1, r2, r3, r4, r5, r6, r7, r8, r9, r10) := H
        have A67 := Aside0.mk A670
        clear A670
        simp only [Option.some.injEq, Prod.mk.injEq] at H
        obtain ⟨rfl, rfl, rfl, rfl, rfl, rfl, rfl, rfl, rfl, rfl⟩ := H
        go_wp2_with (first | ((with_reducible refine gate_callee (f := 49) rfl ?_); refine goesL_ (some 46) rfl rfl Tryd.func49 (by kernel_rfl) rfl #[.pointer (some ⟨g, 0, none⟩), .int .i64 9] rfl (by (try simp only [List.map_toArray, List.map_cons, List.map_nil]); first | done | rfl | (simp only [List.length_drop, List.length_take]; rfl)) ?_; (with_reducible refine (kerbsuitedata_Source_Next.calls g s0_0 t217 9 t218 t219 w0 _ ?side1 ?side2 A65.out).mono ?_); (case side1 => repeat (first | (with_reducible first | exact HI0.out | apply IsS52.alloc | apply IsS52.drewN | apply IsS52.drew | apply IsS52.set_1 | refine IsS52.far ?_ NB0_184.out _ | refine IsS52.far ?_ NB0_190.out _ | refine IsS52.far ?_ NB0_211.out _) | exact HI0.out)); (case side2 => repeat (first | (with_reducible first | exact HB.out | apply bA_ | apply bN_ | apply bD_ | refine bS_ ?_ (IsS52.ge HI0.out) | refine bS_ ?_ GE184.out | refine bS_ ?_ GE190.out | refine bS_ ?_ GE211.out) | exact HB.out)); rintro e w68 ⟨rfl, hi, hb, hk⟩; refine ⟨_, rfl, ?_⟩; have n0_ := Aside0.mk (KeepBut.blk hk (g' := gb184) (o := .cells #[.string (⟨#[]⟩ : ByteArray), .string (⟨#[]⟩ : ByteArray), .int .u64 0, .int .i64 0, .int .i64 0, .int .i64 0, .int .i64 0, .int .i64 0, .int .i64 0] 35 (0, 0)) (bk_ BK184.out) NB184_0.out (by simp)); have n1_ := Aside0.mk (KeepBut.blk hk (g' := gb190) (o := .cells #[.string x191000_4, .string x191001_4, .string x191002_4] 41 (0, 0)) (bk_ BK190.out) NB190_0.out (by simp)); have n2_ := Aside0.mk (KeepBut.blk hk (g' := gb211) (o := .cells #[.string x191000_4, .string x191001_4, .int .u64 x212002_57, .int .i64 t201, .int .i64 x212004_29, .int .i64 t203, .int .i64 (wrap64 ((wrap64 (Int.tdiv t205 4)) * t207)), .int .i64 t209, .int .i64 0] 35 (0, 0)) (bk_ BK211.out) NB211_0.out (by simp)); have n3_ := Aside0.mk (KeepBut.trans (by repeat (first | (with_reducible first | exact HK.out | apply KeepBut.set_ | apply keep_drewN | apply keep_drew | apply keep_alloc | refine keep_far ?_ GW184.out _ | refine keep_far ?_ GW190.out _ | refine keep_far ?_ GW211.out _) | exact HK.out)) hk (.inl rfl)); have n4_ := Aside0.mk (hb); have n5_ := Aside0.mk (hi); clear BK184 BK190 BK211 HK HB HI0; have BK184 := n0_; have BK190 := n1_; have BK211 := n2_; have HK := n3_; have HB := n4_; have HI0 := n5_; clear n0_ n1_ n2_ n3_ n4_ n5_; (try clear hb); (try clear hb2); (try clear hk); (try clear hi)) | ((with_reducible refine gate_callee (f := 49) rfl ?_); refine goesL_ (some 49) rfl rfl Tryd.func49 (by kernel_rfl) rfl #[.pointer (some ⟨g, 0, none⟩), .int .i64 256] rfl (by (try simp only [List.map_toArray, List.map_cons, List.map_nil]); first | done | rfl | (simp only [List.length_drop, List.length_take]; rfl)) ?_; (with_reducible refine (kerbsuitedata_Source_Next.calls g s0_0 t219 256 t220 t221 w0 _ ?side1 ?side2 A67.out).mono ?_); (case side1 => repeat (first | (with_reducible first | exact HI0.out | apply IsS52.alloc | apply IsS52.drewN | apply IsS52.drew | apply IsS52.set_1 | refine IsS52.far ?_ NB0_184.out _ | refine IsS52.far ?_ NB0_190.out _ | refine IsS52.far ?_ NB0_211.out _) | exact HI0.out)); (case side2 => repeat (first | (with_reducible first | exact HB.out | apply bA_ | apply bN_ | apply bD_ | refine bS_ ?_ (IsS52.ge HI0.out) | refine bS_ ?_ GE184.out | refine bS_ ?_ GE190.out | refine bS_ ?_ GE211.out) | exact HB.out)); rintro e w69 ⟨rfl, hi, hb, hk⟩; refine ⟨_, rfl, ?_⟩; have n0_ := Aside0.mk (KeepBut.blk hk (g' := gb184) (o := .cells #[.string (⟨#[]⟩ : ByteArray), .string (⟨#[]⟩ : ByteArray), .int .u64 0, .int .i64 0, .int .i64 0, .int .i64 0, .int .i64 0, .int .i64 0, .int .i64 0] 35 (0, 0)) (bk_ BK184.out) NB184_0.out (by simp)); have n1_ := Aside0.mk (KeepBut.blk hk (g' := gb190) (o := .cells #[.string x191000_4, .string x191001_4, .string x191002_4] 41 (0, 0)) (bk_ BK190.out) NB190_0.out (by simp)); have n2_ := Aside0.mk (KeepBut.blk hk (g' := gb211) (o := .cells #[.string x191000_4, .string x191001_4, .int .u64 x212002_57, .int .i64 t201, .int .i64 x212004_29, .int .i64 t203, .int .i64 (wrap64 ((wrap64 (Int.tdiv t205 4)) * t207)), .int .i64 t209, .int .i64 0] 35 (0, 0)) (bk_ BK211.out) NB211_0.out (by simp)); have n3_ := Aside0.mk (KeepBut.trans (by repeat (first | (with_reducible first | exact HK.out | apply KeepBut.set_ | apply keep_drewN | apply keep_drew | apply keep_alloc | refine keep_far ?_ GW184.out _ | refine keep_far ?_ GW190.out _ | refine keep_far ?_ GW211.out _) | exact HK.out)) hk (.inl rfl)); have n4_ := Aside0.mk (hb); have n5_ := Aside0.mk (hi); clear BK184 BK190 BK211 HK HB HI0; have BK184 := n0_; have BK190 := n1_; have BK211 := n2_; have HK := n3_; have HB := n4_; have HI0 := n5_; clear n0_ n1_ n2_ n3_ n4_ n5_; (try clear hb); (try clear hb2); (try clear hk); (try clear hi); have hnb70 := NB211_184.out; have hnc70 := NB184_211.out; have hnb71 := NB211_190.out; have hnc71 := NB190_211.out; have hnb72 := NB211_0.out; have hnc72 := NB0_211.out; have hcz73_0 : w69.cell? ⟨gb211, 0, none⟩ = some (.string x191000_4) := (blk_cell BK211.out 0).trans rfl; have hcz73_1 : w69.cell? ⟨gb211, 1, none⟩ = some (.string x191001_4) := (blk_cell BK211.out 1).trans rfl; have hcz73_2 : w69.cell? ⟨gb211, 2, none⟩ = some (.int .u64 x212002_57) := (blk_cell BK211.out 2).trans rfl; have hcz73_3 : w69.cell? ⟨gb211, 3, none⟩ = some (.int .i64 t201) := (blk_cell BK211.out 3).trans rfl; have hcz73_4 : w69.cell? ⟨gb211, 4, none⟩ = some (.int .i64 x212004_29) := (blk_cell BK211.out 4).trans rfl; have hcz73_5 : w69.cell? ⟨gb211, 5, none⟩ = some (.int .i64 t203) := (blk_cell BK211.out 5).trans rfl; have hcz73_6 : w69.cell? ⟨gb211, 6, none⟩ = some (.int .i64 (wrap64 ((wrap64 (Int.tdiv t205 4)) * t207))) := (blk_cell BK211.out 6).trans rfl; have hcz73_7 : w69.cell? ⟨gb211, 7, none⟩ = some (.int .i64 t209) := (blk_cell BK211.out 7).trans rfl; have hcz73_8 : w69.cell? ⟨gb211, 8, none⟩ = some (.int .i64 0) := (blk_cell BK211.out 8).trans rfl; have hfz73_0 := blk_frozen BK211.out 0; have hfz73_1 := blk_frozen BK211.out 1; have hfz73_2 := blk_frozen BK211.out 2; have hfz73_3 := blk_frozen BK211.out 3; have hfz73_4 := blk_frozen BK211.out 4; have hfz73_5 := blk_frozen BK211.out 5; have hfz73_6 := blk_frozen BK211.out 6; have hfz73_7 := blk_frozen BK211.out 7; have hfz73_8 := blk_frozen BK211.out 8; have hnb74 := NB184_190.out; have hnc74 := NB190_184.out; have hnb75 := NB184_0.out; have hnc75 := NB0_184.out; have hcz76_0 : w69.cell? ⟨gb184, 0, none⟩ = some (.string (⟨#[]⟩ : ByteArray)) := (blk_cell BK184.out 0).trans rfl; have hcz76_1 : w69.cell? ⟨gb184, 1, none⟩ = some (.string (⟨#[]⟩ : ByteArray)) := (blk_cell BK184.out 1).trans rfl; have hcz76_2 : w69.cell? ⟨gb184, 2, none⟩ = some (.int .u64 0) := (blk_cell BK184.out 2).trans rfl; have hcz76_3 : w69.cell? ⟨gb184, 3, none⟩ = some (.int .i64 0) := (blk_cell BK184.out 3).trans rfl; have hcz76_4 : w69.cell? ⟨gb184, 4, none⟩ = some (.int .i64 0) := (blk_cell BK184.out 4).trans rfl; have hcz76_5 : w69.cell? ⟨gb184, 5, none⟩ = some (.int .i64 0) := (blk_cell BK184.out 5).trans rfl; have hcz76_6 : w69.cell? ⟨gb184, 6, none⟩ = some (.int .i64 0) := (blk_cell BK184.out 6).trans rfl; have hcz76_7 : w69.cell? ⟨gb184, 7, none⟩ = some (.int .i64 0) := (blk_cell BK184.out 7).trans rfl; have hcz76_8 : w69.cell? ⟨gb184, 8, none⟩ = some (.int .i64 0) := (blk_cell BK184.out 8).trans rfl; have hfz76_0 := blk_frozen BK184.out 0; have hfz76_1 := blk_frozen BK184.out 1; have hfz76_2 := blk_frozen BK184.out 2; have hfz76_3 := blk_frozen BK184.out 3; have hfz76_4 := blk_frozen BK184.out 4; have hfz76_5 := blk_frozen BK184.out 5; have hfz76_6 := blk_frozen BK184.out 6; have hfz76_7 := blk_frozen BK184.out 7; have hfz76_8 := blk_frozen BK184.out 8))
        refine bodyPost_ret (results_cell_row rfl _ _ gb184 35 #[.string x191000_4, .string x191001_4, .int .u64 x212002_57, .int .i64 t201, .int .i64 x212004_29, .int .i64 t203, .int .i64 (wrap64 ((wrap64 (Int.tdiv t205 4)) * t207)), .int .i64 t209, .int .i64 (wrap64 (t220 * 100))] (0, 0) _ rfl (by refine bk_ ?_; refine blk_put (cs := #[.string x191000_4, .string x191001_4, .int .u64 x212002_57, .int .i64 t201, .int .i64 x212004_29, .int .i64 t203, .int .i64 (wrap64 ((wrap64 (Int.tdiv t205 4)) * t207)), .int .i64 t209, .int .i64 0]) ?_ 8 _ rfl; refine bk_ ?_; refine blk_put (cs := #[.string x191000_4, .string x191001_4, .int .u64 x212002_57, .int .i64 t201, .int .i64 x212004_29, .int .i64 t203, .int .i64 (wrap64 ((wrap64 (Int.tdiv t205 4)) * t207)), .int .i64 0, .int .i64 0]) ?_ 7 _ rfl; refine bk_ ?_; refine blk_put (cs := #[.string x191000_4, .string x191001_4, .int .u64 x212002_57, .int .i64 t201, .int .i64 x212004_29, .int .i64 t203, .int .i64 0, .int .i64 0, .int .i64 0]) ?_ 6 _ rfl; refine bk_ ?_; refine blk_put (cs := #[.string x191000_4, .string x191001_4, .int .u64 x212002_57, .int .i64 t201, .int .i64 x212004_29, .int .i64 0, .int .i64 0, .int .i64 0, .int .i64 0]) ?_ 5 _ rfl; refine bk_ ?_; refine blk_put (cs := #[.string x191000_4, .string x191001_4, .int .u64 x212002_57, .int .i64 t201, .int .i64 0, .int .i64 0, .int .i64 0, .int .i64 0, .int .i64 0]) ?_ 4 _ rfl; refine bk_ ?_; refine blk_put (cs := #[.string x191000_4, .string x191001_4, .int .u64 x212002_57, .int .i64 0, .int .i64 0, .int .i64 0, .int .i64 0, .int .i64 0, .int .i64 0]) ?_ 3 _ rfl; refine bk_ ?_; refine blk_put (cs := #[.string x191000_4, .string x191001_4, .int .u64 0, .int .i64 0, .int .i64 0, .int .i64 0, .int .i64 0, .int .i64 0, .int .i64 0]) ?_ 2 _ rfl; refine bk_ ?_; refine blk_put (cs := #[.string x191000_4, .string (⟨#[]⟩ : ByteArray), .int .u64 0, .int .i64 0, .int .i64 0, .int .i64 0, .int .i64 0, .int .i64 0, .int .i64 0]) ?_ 1 _ rfl; refine bk_ ?_; refine blk_put (cs := #[.string (⟨#[]⟩ : ByteArray), .string (⟨#[]⟩ : ByteArray), .int .u64 0, .int .i64 0, .int .i64 0, .int .i64 0, .int .i64 0, .int .i64 0, .int .i64 0]) ?_ 0 _ rfl; refine bk_ ?_; refine blk_far ?_ NB184_211.out _; refine bk_ ?_; exact BK184.out) Tryd.underlying35 rfl (by kernel_rfl)) rfl ?_
        exact ⟨by first | rfl | (simp [errW_none, errW_some] <;> rfl) | (simp [*, errW_none, errW_some] <;> rfl), by repeat (first | (with_reducible first | exact HI0.out | apply IsS52.alloc | apply IsS52.drewN | apply IsS52.drew | apply IsS52.set_1 | refine IsS52.far ?_ NB0_184.out _ | refine IsS52.far ?_ NB0_190.out _ | refine IsS52.far ?_ NB0_211.out _) | exact HI0.out), by repeat (first | (with_reducible first | exact HB.out | apply bA_ | apply bN_ | apply bD_ | refine bS_ ?_ (IsS52.ge HI0.out) | refine bS_ ?_ GE184.out | refine bS_ ?_ GE190.out | refine bS_ ?_ GE211.out) | exact HB.out), by repeat (first | (with_reducible first | exact HK.out | apply KeepBut.set_ | apply keep_drewN | apply keep_drew | apply keep_alloc | refine keep_far ?_ GW184.out _ | refine keep_far ?_ GW190.out _ | refine keep_far ?_ GW211.out _) | exact HK.out)⟩
       rw [if_neg c66] at H
       have c66b0 : (t218 == 8) = false := beq_eq_false_iff_ne.mpr c66
       have c66b1 : (t218 != 8) = true := bne_iff_ne.mpr c66
       simp only [Option.some.injEq, Prod.mk.injEq] at H
       obtain ⟨rfl, rfl, rfl, rfl, rfl, rfl, rfl, rfl, rfl, rfl⟩ := H
       go_wp2_with (first | ((with_reducible refine gate_callee (f := 49) rfl ?_); refine goesL_ (some 46) rfl rfl Tryd.func49 (by kernel_rfl) rfl #[.pointer (some ⟨g, 0, none⟩), .int .i64 9] rfl (by (try simp only [List.map_toArray, List.map_cons, List.map_nil]); first | done | rfl | (simp only [List.length_drop, List.length_take]; rfl)) ?_; (with_reducible refine (kerbsuitedata_Source_Next.calls g s0_0 t217 9 t218 t219 w0 _ ?side1 ?side2 A65.out).mono ?_); (case side1 => repeat (first | (with_reducible first | exact HI0.out | apply IsS52.alloc | apply IsS52.drewN | apply IsS52.drew | apply IsS52.set_1 | refine IsS52.far ?_ NB0_184.out _ | refine IsS52.far ?_ NB0_190.out _ | refine IsS52.far ?_ NB0_211.out _) | exact HI0.out)); (case side2 => repeat (first | (with_reducible first | exact HB.out | apply bA_ | apply bN_ | apply bD_ | refine bS_ ?_ (IsS52.ge HI0.out) | refine bS_ ?_ GE184.out | refine bS_ ?_ GE190.out | refine bS_ ?_ GE211.out) | exact HB.out)); rintro e w77 ⟨rfl, hi, hb, hk⟩; refine ⟨_, rfl, ?_⟩; have n0_ := Aside0.mk (KeepBut.blk hk (g' := gb184) (o := .cells #[.string (⟨#[]⟩ : ByteArray), .string (⟨#[]⟩ : ByteArray), .int .u64 0, .int .i64 0, .int .i64 0, .int .i64 0, .int .i64 0, .int .i64 0, .int .i64 0] 35 (0, 0)) (bk_ BK184.out) NB184_0.out (by simp)); have n1_ := Aside0.mk (KeepBut.blk hk (g' := gb190) (o := .cells #[.string x191000_4, .string x191001_4, .string x191002_4] 41 (0, 0)) (bk_ BK190.out) NB190_0.out (by simp)); have n2_ := Aside0.mk (KeepBut.blk hk (g' := gb211) (o := .cells #[.string x191000_4, .string x191001_4, .int .u64 x212002_57, .int .i64 t201, .int .i64 x212004_29, .int .i64 t203, .int .i64 (wrap64 ((wrap64 (Int.tdiv t205 4)) * t207)), .int .i64 t209, .int .i64 0] 35 (0, 0)) (bk_ BK211.out) NB211_0.out (by simp)); have n3_ := Aside0.mk (KeepBut.trans (by repeat (first | (with_reducible first | exact HK.out | apply KeepBut.set_ | apply keep_drewN | apply keep_drew | apply keep_alloc | refine keep_far ?_ GW184.out _ | refine keep_far ?_ GW190.out _ | refine keep_far ?_ GW211.out _) | exact HK.out)) hk (.inl rfl)); have n4_ := Aside0.mk (hb); have n5_ := Aside0.mk (hi); clear BK184 BK190 BK211 HK HB HI0; have BK184 := n0_; have BK190 := n1_; have BK211 := n2_; have HK := n3_; have HB := n4_; have HI0 := n5_; clear n0_ n1_ n2_ n3_ n4_ n5_; (try clear hb); (try clear hb2); (try clear hk); (try clear hi); have hnb78 := NB211_184.out; have hnc78 := NB184_211.out; have hnb79 := NB211_190.out; have hnc79 := NB190_211.out; have hnb80 := NB211_0.out; have hnc80 := NB0_211.out; have hcz81_0 : w77.cell? ⟨gb211, 0, none⟩ = some (.string x191000_4) := (blk_cell BK211.out 0).trans rfl; have hcz81_1 : w77.cell? ⟨gb211, 1, none⟩ = some (.string x191001_4) := (blk_cell BK211.out 1).trans rfl; have hcz81_2 : w77.cell? ⟨gb211, 2, none⟩ = some (.int .u64 x212002_57) := (blk_cell BK211.out 2).trans rfl; have hcz81_3 : w77.cell? ⟨gb211, 3, none⟩ = some (.int .i64 t201) := (blk_cell BK211.out 3).trans rfl; have hcz81_4 : w77.cell? ⟨gb211, 4, none⟩ = some (.int .i64 x212004_29) := (blk_cell BK211.out 4).trans rfl; have hcz81_5 : w77.cell? ⟨gb211, 5, none⟩ = some (.int .i64 t203) := (blk_cell BK211.out 5).trans rfl; have hcz81_6 : w77.cell? ⟨gb211, 6, none⟩ = some (.int .i64 (wrap64 ((wrap64 (Int.tdiv t205 4)) * t207))) := (blk_cell BK211.out 6).trans rfl; have hcz81_7 : w77.cell? ⟨gb211, 7, none⟩ = some (.int .i64 t209) := (blk_cell BK211.out 7).trans rfl; have hcz81_8 : w77.cell? ⟨gb211, 8, none⟩ = some (.int .i64 0) := (blk_cell BK211.out 8).trans rfl; have hfz81_0 := blk_frozen BK211.out 0; have hfz81_1 := blk_frozen BK211.out 1; have hfz81_2 := blk_frozen BK211.out 2; have hfz81_3 := blk_frozen BK211.out 3; have hfz81_4 := blk_frozen BK211.out 4; have hfz81_5 := blk_frozen BK211.out 5; have hfz81_6 := blk_frozen BK211.out 6; have hfz81_7 := blk_frozen BK211.out 7; have hfz81_8 := blk_frozen BK211.out 8; have hnb82 := NB184_190.out; have hnc82 := NB190_184.out; have hnb83 := NB184_0.out; have hnc83 := NB0_184.out; have hcz84_0 : w77.cell? ⟨gb184, 0, none⟩ = some (.string (⟨#[]⟩ : ByteArray)) := (blk_cell BK184.out 0).trans rfl; have hcz84_1 : w77.cell? ⟨gb184, 1, none⟩ = some (.string (⟨#[]⟩ : ByteArray)) := (blk_cell BK184.out 1).trans rfl; have hcz84_2 : w77.cell? ⟨gb184, 2, none⟩ = some (.int .u64 0) := (blk_cell BK184.out 2).trans rfl; have hcz84_3 : w77.cell? ⟨gb184, 3, none⟩ = some (.int .i64 0) := (blk_cell BK184.out 3).trans rfl; have hcz84_4 : w77.cell? ⟨gb184, 4, none⟩ = some (.int .i64 0) := (blk_cell BK184.out 4).trans rfl; have hcz84_5 : w77.cell? ⟨gb184, 5, none⟩ = some (.int .i64 0) := (blk_cell BK184.out 5).trans rfl; have hcz84_6 : w77.cell? ⟨gb184, 6, none⟩ = some (.int .i64 0) := (blk_cell BK184.out 6).trans rfl; have hcz84_7 : w77.cell? ⟨gb184, 7, none⟩ = some (.int .i64 0) := (blk_cell BK184.out 7).trans rfl; have hcz84_8 : w77.cell? ⟨gb184, 8, none⟩ = some (.int .i64 0) := (blk_cell BK184.out 8).trans rfl; have hfz84_0 := blk_frozen BK184.out 0; have hfz84_1 := blk_frozen BK184.out 1; have hfz84_2 := blk_frozen BK184.out 2; have hfz84_3 := blk_frozen BK184.out 3; have hfz84_4 := blk_frozen BK184.out 4; have hfz84_5 := blk_frozen BK184.out 5; have hfz84_6 := blk_frozen BK184.out 6; have hfz84_7 := blk_frozen BK184.out 7; have hfz84_8 := blk_frozen BK184.out 8))
       refine bodyPost_ret (results_cell_row rfl _ _ gb184 35 #[.string x191000_4, .string x191001_4, .int .u64 x212002_57, .int .i64 t201, .int .i64 x212004_29, .int .i64 t203, .int .i64 (wrap64 ((wrap64 (Int.tdiv t205 4)) * t207)), .int .i64 t209, .int .i64 0] (0, 0) _ rfl (by refine bk_ ?_; refine blk_put (cs := #[.string x191000_4, .string x191001_4, .int .u64 x212002_57, .int .i64 t201, .int .i64 x212004_29, .int .i64 t203, .int .i64 (wrap64 ((wrap64 (Int.tdiv t205 4)) * t207)), .int .i64 t209, .int .i64 0]) ?_ 8 _ rfl; refine bk_ ?_; refine blk_put (cs := #[.string x191000_4, .string x191001_4, .int .u64 x212002_57, .int .i64 t201, .int .i64 x212004_29, .int .i64 t203, .int .i64 (wrap64 ((wrap64 (Int.tdiv t205 4)) * t207)), .int .i64 0, .int .i64 0]) ?_ 7 _ rfl; refine bk_ ?_; refine blk_put (cs := #[.string x191000_4, .string x191001_4, .int .u64 x212002_57, .int .i64 t201, .int .i64 x212004_29, .int .i64 t203, .int .i64 0, .int .i64 0, .int .i64 0]) ?_ 6 _ rfl; refine bk_ ?_; refine blk_put (cs := #[.string x191000_4, .string x191001_4, .int .u64 x212002_57, .int .i64 t201, .int .i64 x212004_29, .int .i64 0, .int .i64 0, .int .i64 0, .int .i64 0]) ?_ 5 _ rfl; refine bk_ ?_; refine blk_put (cs := #[.string x191000_4, .string x191001_4, .int .u64 x212002_57, .int .i64 t201, .int .i64 0, .int .i64 0, .int .i64 0, .int .i64 0, .int .i64 0]) ?_ 4 _ rfl; refine bk_ ?_; refine blk_put (cs := #[.string x191000_4, .string x191001_4, .int .u64 x212002_57, .int .i64 0, .int .i64 0, .int .i64 0, .int .i64 0, .int .i64 0, .int .i64 0]) ?_ 3 _ rfl; refine bk_ ?_; refine blk_put (cs := #[.string x191000_4, .string x191001_4, .int .u64 0, .int .i64 0, .int .i64 0, .int .i64 0, .int .i64 0, .int .i64 0, .int .i64 0]) ?_ 2 _ rfl; refine bk_ ?_; refine blk_put (cs := #[.string x191000_4, .string (⟨#[]⟩ : ByteArray), .int .u64 0, .int .i64 0, .int .i64 0, .int .i64 0, .int .i64 0, .int .i64 0, .int .i64 0]) ?_ 1 _ rfl; refine bk_ ?_; refine blk_put (cs := #[.string (⟨#[]⟩ : ByteArray), .string (⟨#[]⟩ : ByteArray), .int .u64 0, .int .i64 0, .int .i64 0, .int .i64 0, .int .i64 0, .int .i64 0, .int .i64 0]) ?_ 0 _ rfl; refine bk_ ?_; exact BK184.out) Tryd.underlying35 rfl (by kernel_rfl)) rfl ?_
       exact ⟨by first | rfl | (simp [errW_none, errW_some] <;> rfl) | (simp [*, errW_none, errW_some] <;> rfl), by repeat (first | (with_reducible first | exact HI0.out | apply IsS52.alloc | apply IsS52.drewN | apply IsS52.drew | apply IsS52.set_1 | refine IsS52.far ?_ NB0_184.out _ | refine IsS52.far ?_ NB0_190.out _ | refine IsS52.far ?_ NB0_211.out _) | exact HI0.out), by repeat (first | (with_reducible first | exact HB.out | apply bA_ | apply bN_ | apply bD_ | refine bS_ ?_ (IsS52.ge HI0.out) | refine bS_ ?_ GE184.out | refine bS_ ?_ GE190.out | refine bS_ ?_ GE211.out) | exact HB.out), by repeat (first | (with_reducible first | exact HK.out | apply KeepBut.set_ | apply keep_drewN | apply keep_drew | apply keep_alloc | refine keep_far ?_ GW184.out _ | refine keep_far ?_ GW190.out _ | refine keep_far ?_ GW211.out _) | exact HK.out)⟩

end Go.Proofs.YthfdfoigoomaoaaDoor.PDb
