/- The walks of functions of the translation: each call returns what the plain function beside it says. -/
import Derived.Test.YthfdfoigoomaoaaDoorPDbx0
import Derived.Test.YthfdfoigoomaoaaDoorPDbx1
import Derived.Test.YthfdfoigoomaoaaDoorPDbx5
namespace Go.Proofs.YthfdfoigoomaoaaDoor.PDb
open Go.RowKit Go.Proofs.YthfdfoigoomaoaaDoorW.PrintWords Go.Proofs.YthfdfoigoomaoaaDoorW.PrintLast Go.Proofs.YthfdfoigoomaoaaDoorW.PrintMore Go.Proofs.YthfdfoigoomaoaaDoor.Aid
attribute [local go_sem] max2_int min2_int max_two min_two max_three min_three max_four min_four aid_str_gtr aid_str_leq   -- for this text's walks alone
set_option linter.unusedVariables false
set_option linter.unusedSimpArgs false

/-! ### kerbsuitedata_Entry: function 24 -/
mutual
def kerbsuitedata_Entry.j0 : Nat → List Int → Int → ByteArray → ByteArray → ByteArray → Option (ByteArray × ByteArray × Int × Int × Int × Int × Int × Int × Int × Int)
 | 0, _, _, _, _, _ => none
 | k + 1, Pa, Jb, Ub, Vb, qe => (kerbsuitedata_Source_Next.f Pa Jb 40).bind fun Jc => ((kerbsuitedata_Long.f Jc.1).bind fun Ga => ((kerbsuitedata_Source_Next.f Pa Jc.2 256).bind fun pc => ((kerbsuitedata_Source_Next.f Pa pc.2 256).bind fun qc => ((kerbsuitedata_Source_Next.f Pa qc.2 5).bind fun rc => ((kerbsuitedata_Source_Next.f Pa rc.2 4).bind fun sc => ((kerbsuitedata_Source_Next.f Pa sc.2 21).bind fun tc => ((kerbsuitedata_Source_Next.f Pa tc.2 5).bind fun uc => (if uc.1 = 4 then ((kerbsuitedata_Source_Next.f Pa uc.2 256).bind fun Kc => (kerbsuitedata_Entry.j1 k Pa Kc.2 Ub Vb Ga pc.1 (wrap64 (Kc.1 * 200)) qc.1 (wrap64 ((wrap64 (Int.tdiv rc.1 4)) * sc.1)) tc.1 0)) else (kerbsuitedata_Entry.j1 k Pa uc.2 Ub Vb Ga pc.1 0 qc.1 (wrap64 ((wrap64 (Int.tdiv rc.1 4)) * sc.1)) tc.1 0)))))))))
def kerbsuitedata_Entry.j1 : Nat → List Int → Int → ByteArray → ByteArray → Int → Int → Int → Int → Int → Int → Int → Option (ByteArray × ByteArray × Int × Int × Int × Int × Int × Int × Int × Int)
 | 0, _, _, _, _, _, _, _, _, _, _, _ => none
 | k + 1, Pa, Jb, db, eb, zb, fb, gb, ib, jb, kb, Ab => (kerbsuitedata_Source_Next.f Pa Jb 9).bind fun vc => (if vc.1 = 8 then (kerbsuitedata_Entry.j2 k Pa vc.2 db eb 0 fb gb ib jb kb Ab) else (kerbsuitedata_Entry.j2 k Pa vc.2 db eb zb fb gb ib jb kb Ab))
def kerbsuitedata_Entry.j2 : Nat → List Int → Int → ByteArray → ByteArray → Int → Int → Int → Int → Int → Int → Int → Option (ByteArray × ByteArray × Int × Int × Int × Int × Int × Int × Int × Int)
 | 0, _, _, _, _, _, _, _, _, _, _, _ => none
 | k + 1, Pa, Jb, db, eb, zb, fb, gb, ib, jb, kb, Ab => (kerbsuitedata_Source_Next.f Pa Jb 9).bind fun xc => (if xc.1 = 8 then ((kerbsuitedata_Source_Next.f Pa xc.2 256).bind fun Lc => (some (db, eb, zb, fb, gb, ib, jb, kb, wrap64 (Lc.1 * 100), Lc.2))) else (some (db, eb, zb, fb, gb, ib, jb, kb, Ab, xc.2)))
end
def kerbsuitedata_Entry.f (k : Nat) (ua : List Int) (qb : Int) : Option (ByteArray × ByteArray × Int × Int × Int × Int × Int × Int × Int × Int) := (kerbsuitedata_Source_Next.f ua qb 3).bind fun Kb => ((kerbsuitedata_User.f Kb.1).bind fun lb => ((kerbsuitedata_Source_Next.f ua Kb.2 2).bind fun mb => (if mb.1 = 1 then ((kerbsuitedata_Source_Next.f ua mb.2 3).bind fun Lb => ((kerbsuitedata_Service.f Lb.1).bind fun nb => (kerbsuitedata_Entry.j0 k ua Lb.2 nb.1 nb.2.1 nb.2.2))) else (kerbsuitedata_Entry.j0 k ua mb.2 lb.1 lb.2.1 lb.2.2))))
def kerbsuitedata_Entry.T4 : Bool × List (List Nat × List Nat) := (true,[([], []), ([0], [0]), ([], []), ([2], [2]), ([], []), ([4], [4]), ([5, 5], [5]), ([], []), ([7, 6], [7]), ([], []), ([9, 8], [9]), ([], []), ([11, 10], [11]), ([12], [12]), ([], []), ([14, 12], [14]), ([13, 15], [13, 15]), ([], []), ([17, 15], [17]), ([1, 3, 6, 8, 10, 16, 18], [1, 3, 6, 8, 10, 16, 18]), ([], []), ([20, 19, 18, 0, 1, 2, 3, 4, 5, 6, 7, 8, 9, 10, 11, 12, 13, 14, 15, 16, 17, 18, 19, 20], [19, 20])])
def kerbsuitedata_Entry.B4 : List Nat := [0, 1, 0, 4, 0, 16, 48, 0, 240, 0, 1008, 0, 4080, 8176, 0, 24560, 65520, 0, 188400, 524287, 0, 2097151]
theorem kerbsuitedata_Entry.tab4 : rtab .any (opsOf Tryd.f24 4) = kerbsuitedata_Entry.T4 := by kernel_rfl
theorem kerbsuitedata_Entry.bits4 : waitsOk kerbsuitedata_Entry.T4.2 kerbsuitedata_Entry.B4 = true := by kernel_rfl
set_option maxHeartbeats 8000000 in
set_option maxRecDepth 100000 in
theorem kerbsuitedata_Entry.calls (k : Nat) (g : Nat) (ua : List Int) (qb : Int) (r1 : ByteArray) (r2 : ByteArray) (r3 : Int) (r4 : Int) (r5 : Int) (r6 : Int) (r7 : Int) (r8 : Int) (r9 : Int) (Wb : Int) (w0 w : World) (hI : IsS52 w0 w g ua qb) (hB : Below w0.heap.size w0 w) (h : kerbsuitedata_Entry.f k ua qb = some (r1, r2, r3, r4, r5, r6, r7, r8, r9, Wb)) :
  Calls Tryd.prog 24 #[.pointer (some ⟨g, 0, none⟩)] w fun e w' => e = .returned (.agg #[.string r1, .string r2, .int .u64 r3, .int .i64 r4, .int .i64 r5, .int .i64 r6, .int .i64 r7, .int .i64 r8, .int .i64 r9]) ∧ IsS52 w0 w' g ua Wb ∧ Below w0.heap.size w0 w' ∧ KeepBut w w' g none := by
 have hu35 := Tryd.underlying35
 have hu41 := Tryd.underlying41
 have ea := aM_ hI
 have HK := aM_ (KeepBut.refl w g none)
 have HL := aM_ hB.size
 clear hI
 have HW0 := aM_ hB.size
 have HB := aM_ hB
 clear hB
 have H : ((kerbsuitedata_Source_Next.f ua qb 3).bind fun Kb => ((kerbsuitedata_User.f Kb.1).bind fun lb => ((kerbsuitedata_Source_Next.f ua Kb.2 2).bind fun mb => (if mb.1 = 1 then ((kerbsuitedata_Source_Next.f ua mb.2 3).bind fun Lb => ((kerbsuitedata_Service.f Lb.1).bind fun nb => (kerbsuitedata_Entry.j0 k ua Lb.2 nb.1 nb.2.1 nb.2.2))) else (kerbsuitedata_Entry.j0 k ua mb.2 lb.1 lb.2.1 lb.2.2))))) = some (r1, r2, r3, r4, r5, r6, r7, r8, r9, Wb) := h
 clear h
 replace H := Option.bind_eq_some_iff.mp H
 obtain ⟨⟨Bc, yc⟩, be, H⟩ := H
 try dsimp only at H
 have A2 := aM_ be
 clear be
 replace H := Option.bind_eq_some_iff.mp H
 obtain ⟨⟨rb, sb, tb⟩, ce, H⟩ := H
 try dsimp only at H
 have A3 := aM_ ce
 clear ce
 replace H := Option.bind_eq_some_iff.mp H
 obtain ⟨⟨Nb, Cc⟩, de, H⟩ := H
 try dsimp only at H
 have A4 := aM_ de
 clear de
 have Ed := aM_ H
 clear H
 go_enter Tryd.func24, Tryd.ntmps24
 go_upto_if 10 with (first | ((with_reducible refine gate_dst (N := 2) rfl ?_); refine box_event ?hg (N := 2) ?hd (cs := #[.string (⟨#[]⟩ : ByteArray), .string (⟨#[]⟩ : ByteArray), .int .u64 0, .int .i64 0, .int .i64 0, .int .i64 0, .int .i64 0, .int .i64 0, .int .i64 0]) (t := 35) ?hr ?_; (case hd => rfl); (case hg => rfl); (case hr => first | (go_simp; done) | (go_simp; rfl)); intro la hg w6 hbox hb; replace HB := aM_ (below_step (by repeat (first | (with_reducible first | exact HB.out | apply bA_ | apply bN_ | apply bD_ | refine bS_ ?_ (IsS52.ge ea.out)) | exact HB.out)) hb); have fa := aM_ (hbox); have Za := aM_ ((by rw [hg]; exact (keep_size (w := w) (g := g) (row := none) kB_) : w.heap.size ≤ la)); have ta := aM_ ((Nat.le_trans HW0.out (by rw [hg]; exact (keep_size (w := w) (g := g) (row := none) kB_) : w.heap.size ≤ la) : w0.heap.size ≤ la)); replace HK := aM_ (KeepBut.trans kB_ (KeepBut.of_below hb g none) (.inl rfl)); have ka := aM_ ((by rw [hg]; exact Nat.ne_of_lt (IsS52.lt (show IsS52 w0 _ g ua qb from by repeat (first | (with_reducible first | exact ea.out | apply IsS52.alloc | apply IsS52.drewN | apply IsS52.drew | apply IsS52.set_1) | exact ea.out))) : g ≠ la)); have Ca := aM_ ((by rw [hg]; exact Nat.ne_of_gt (IsS52.lt (show IsS52 w0 _ g ua qb from by repeat (first | (with_reducible first | exact ea.out | apply IsS52.alloc | apply IsS52.drewN | apply IsS52.drew | apply IsS52.set_1) | exact ea.out))) : la ≠ g)); replace ea := aM_ (IsS52.below (by repeat (first | (with_reducible first | exact ea.out | apply IsS52.alloc | apply IsS52.drewN | apply IsS52.drew | apply IsS52.set_1) | exact ea.out)) hb); clear hb hbox hg) | ((with_reducible refine gate_callee (f := 49) rfl ?_); refine goesL_ (some 6) rfl rfl Tryd.func49 (by kernel_rfl) rfl #[.pointer (some ⟨g, 0, none⟩), .int .i64 3] rfl aR_ ?_; (with_reducible refine (kerbsuitedata_Source_Next.calls g ua qb 3 Bc yc w0 _ ?side1 ?side2 A2.out).mono ?_); (case side1 => repeat (first | (with_reducible first | exact ea.out | apply IsS52.alloc | apply IsS52.drewN | apply IsS52.drew | apply IsS52.set_1 | refine IsS52.far ?_ ka.out _) | exact ea.out)); (case side2 => repeat (first | (with_reducible first | exact HB.out | apply bA_ | apply bN_ | apply bD_ | refine bS_ ?_ (IsS52.ge ea.out) | refine bS_ ?_ ta.out) | exact HB.out)); rintro e w7 ⟨rfl, hi, hb, hk⟩; refine ⟨_, rfl, ?_⟩; replace fa := aM_ (KeepBut.blk hk (g' := la) (o := .cells #[.string (⟨#[]⟩ : ByteArray), .string (⟨#[]⟩ : ByteArray), .int .u64 0, .int .i64 0, .int .i64 0, .int .i64 0, .int .i64 0, .int .i64 0, .int .i64 0] 35 (0, 0)) (bk_ fa.out) Ca.out (by simp)); replace HK := aM_ (KeepBut.trans kB_ hk (.inl rfl)); replace HB := aM_ (hb); replace ea := aM_ (hi); clear hb hk hi) | ((with_reducible refine gate_callee (f := 16) rfl ?_); refine goesL_ (some 7) rfl rfl Tryd.func16 (by kernel_rfl) rfl #[.int .i64 Bc] rfl aR_ ?_; (with_reducible refine (kerbsuitedata_User.calls Bc rb sb tb _ A3.out).mono ?_); rintro e w8 ⟨rfl, hb⟩; refine ⟨_, rfl, ?_⟩; replace fa := aM_ (blk_below (g := la) (o := .cells #[.string (⟨#[]⟩ : ByteArray), .string (⟨#[]⟩ : ByteArray), .int .u64 0, .int .i64 0, .int .i64 0, .int .i64 0, .int .i64 0, .int .i64 0, .int .i64 0] 35 (0, 0)) (bk_ fa.out) hb); replace HK := aM_ (KeepBut.trans kB_ (KeepBut.of_below hb g none) (.inl rfl)); replace HB := aM_ (below_step (by repeat (first | (with_reducible first | exact HB.out | apply bA_ | apply bN_ | apply bD_ | refine bS_ ?_ (IsS52.ge ea.out) | refine bS_ ?_ ta.out) | exact HB.out)) hb); replace ea := aM_ (IsS52.below (by repeat (first | (with_reducible first | exact ea.out | apply IsS52.alloc | apply IsS52.drewN | apply IsS52.drew | apply IsS52.set_1 | refine IsS52.far ?_ ka.out _) | exact ea.out)) hb); clear hb) | ((with_reducible refine gate_dst (N := 3) rfl ?_); refine box_event ?hg (N := 3) ?hd (cs := #[.string (⟨#[]⟩ : ByteArray), .string (⟨#[]⟩ : ByteArray), .string (⟨#[]⟩ : ByteArray)]) (t := 41) ?hr ?_; (case hd => rfl); (case hg => rfl); (case hr => first | (go_simp; done) | (go_simp; rfl)); intro da hg w9 hbox hb; replace HB := aM_ (below_step (by repeat (first | (with_reducible first | exact HB.out | apply bA_ | apply bN_ | apply bD_ | refine bS_ ?_ (IsS52.ge ea.out) | refine bS_ ?_ ta.out) | exact HB.out)) hb); have ca := aM_ (hbox); have ab := aM_ ((by rw [hg]; exact (keep_size (w := w) (g := g) (row := none) kB_) : w.heap.size ≤ da)); have va := aM_ ((Nat.le_trans HW0.out (by rw [hg]; exact (keep_size (w := w) (g := g) (row := none) kB_) : w.heap.size ≤ da) : w0.heap.size ≤ da)); replace HK := aM_ (KeepBut.trans kB_ (KeepBut.of_below hb g none) (.inl rfl)); have Ja := aM_ ((by rw [hg]; exact Nat.ne_of_lt (blk_lt (g := la) (o := .cells #[.string (⟨#[]⟩ : ByteArray), .string (⟨#[]⟩ : ByteArray), .int .u64 0, .int .i64 0, .int .i64 0, .int .i64 0, .int .i64 0, .int .i64 0, .int .i64 0] 35 (0, 0)) (bk_ fa.out)) : la ≠ da)); have bb := aM_ ((by rw [hg]; exact Nat.ne_of_gt (blk_lt (g := la) (o := .cells #[.string (⟨#[]⟩ : ByteArray), .string (⟨#[]⟩ : ByteArray), .int .u64 0, .int .i64 0, .int .i64 0, .int .i64 0, .int .i64 0, .int .i64 0, .int .i64 0] 35 (0, 0)) (bk_ fa.out)) : da ≠ la)); replace fa := aM_ (blk_below (g := la) (o := .cells #[.string (⟨#[]⟩ : ByteArray), .string (⟨#[]⟩ : ByteArray), .int .u64 0, .int .i64 0, .int .i64 0, .int .i64 0, .int .i64 0, .int .i64 0, .int .i64 0] 35 (0, 0)) (bk_ fa.out) hb); have ma := aM_ ((by rw [hg]; exact Nat.ne_of_lt (IsS52.lt (show IsS52 w0 _ g ua yc from by repeat (first | (with_reducible first | exact ea.out | apply IsS52.alloc | apply IsS52.drewN | apply IsS52.drew | apply IsS52.set_1 | refine IsS52.far ?_ ka.out _) | exact ea.out))) : g ≠ da)); have Da := aM_ ((by rw [hg]; exact Nat.ne_of_gt (IsS52.lt (show IsS52 w0 _ g ua yc from by repeat (first | (with_reducible first | exact ea.out | apply IsS52.alloc | apply IsS52.drewN | apply IsS52.drew | apply IsS52.set_1 | refine IsS52.far ?_ ka.out _) | exact ea.out))) : da ≠ g)); replace ea := aM_ (IsS52.below (by repeat (first | (with_reducible first | exact ea.out | apply IsS52.alloc | apply IsS52.drewN | apply IsS52.drew | apply IsS52.set_1 | refine IsS52.far ?_ ka.out _) | exact ea.out)) hb); clear hb hbox hg; have eg := bb.out; have fg := Ja.out; have gg := Da.out; have ig := ma.out; have Yc := bc_ ca.out 0; have Zc := bc_ ca.out 1; have ad := bc_ ca.out 2; have bd := blk_frozen ca.out 0; have cd := blk_frozen ca.out 1; have dd := blk_frozen ca.out 2) | ((with_reducible refine gate_callee (f := 49) rfl ?_); refine goesL_ (some 9) rfl rfl Tryd.func49 (by kernel_rfl) rfl #[.pointer (some ⟨g, 0, none⟩), .int .i64 2] rfl aR_ ?_; (with_reducible refine (kerbsuitedata_Source_Next.calls g ua yc 2 Nb Cc w0 _ ?side1 ?side2 A4.out).mono ?_); (case side1 => repeat (first | (with_reducible first | exact ea.out | apply IsS52.alloc | apply IsS52.drewN | apply IsS52.drew | apply IsS52.set_1 | refine IsS52.far ?_ ka.out _ | refine IsS52.far ?_ ma.out _) | exact ea.out)); (case side2 => repeat (first | (with_reducible first | exact HB.out | apply bA_ | apply bN_ | apply bD_ | refine bS_ ?_ (IsS52.ge ea.out) | refine bS_ ?_ ta.out | refine bS_ ?_ va.out) | exact HB.out)); rintro e ch ⟨rfl, hi, hb, hk⟩; refine ⟨_, rfl, ?_⟩; replace fa := aM_ (KeepBut.blk hk (g' := la) (o := .cells #[.string (⟨#[]⟩ : ByteArray), .string (⟨#[]⟩ : ByteArray), .int .u64 0, .int .i64 0, .int .i64 0, .int .i64 0, .int .i64 0, .int .i64 0, .int .i64 0] 35 (0, 0)) (by refine bk_ ?_; refine blk_far ?_ Ja.out _; refine bk_ ?_; refine blk_far ?_ Ja.out _; refine bk_ ?_; refine blk_far ?_ Ja.out _; refine bk_ ?_; exact fa.out) Ca.out (by simp)); replace ca := aM_ (KeepBut.blk hk (g' := da) (o := .cells #[.string rb, .string sb, .string tb] 41 (0, 0)) (by refine bk_ ?_; refine blk_put (cs := #[.string rb, .string sb, .string (⟨#[]⟩ : ByteArray)]) ?_ 2 _ rfl; refine bk_ ?_; refine blk_put (cs := #[.string rb, .string (⟨#[]⟩ : ByteArray), .string (⟨#[]⟩ : ByteArray)]) ?_ 1 _ rfl; refine bk_ ?_; refine blk_put (cs := #[.string (⟨#[]⟩ : ByteArray), .string (⟨#[]⟩ : ByteArray), .string (⟨#[]⟩ : ByteArray)]) ?_ 0 _ rfl; refine bk_ ?_; exact ca.out) Da.out (by simp)); replace HK := aM_ (KeepBut.trans kB_ hk (.inl rfl)); replace HB := aM_ (hb); replace ea := aM_ (hi); clear hb hk hi))
 (try simp only [Act.put, sA_, sB_, sC_])
 go_cut [] (fun wc => ∃ (kq : Nat) (Wa : Int) (aa : ByteArray) (ba : ByteArray) (ga : ByteArray), Aside0 (kerbsuitedata_Entry.j0 kq ua Wa aa ba ga = some (r1, r2, r3, r4, r5, r6, r7, r8, r9, Wb)) ∧ Aside0 (kq ≤ k) ∧ Aside0 (wc.heap[la]? = some (.cells #[.string (⟨#[]⟩ : ByteArray), .string (⟨#[]⟩ : ByteArray), .int .u64 0, .int .i64 0, .int .i64 0, .int .i64 0, .int .i64 0, .int .i64 0, .int .i64 0] 35 (0, 0))) ∧ Aside0 (wc.heap[da]? = some (.cells #[.string aa, .string ba, .string ga] 41 (0, 0))) ∧ Aside0 (IsS52 w0 wc g ua Wa) ∧ Aside0 (KeepBut w wc g none) ∧ Aside0 (Below w0.heap.size w0 wc))
 case first =>
  have H := Ed.out
  clear Ed
  by_cases Qb : Nb = 1
  ·rw [if_pos Qb] at H
   have Bb : (Nb == 1) = true := beq_iff_eq.mpr Qb
   have Mc : (Nb != 1) = false := bne_eq_false_iff_eq.mpr Qb
   clear Qb
   (first | rw [Bb] | (simp only [i64_w, i32_w]; rw [Bb]) | skip)
   replace H := Option.bind_eq_some_iff.mp H
   obtain ⟨⟨Dc, Fd⟩, Gd, H⟩ := H
   try dsimp only at H
   have Nf := aM_ Gd
   clear Gd
   replace H := Option.bind_eq_some_iff.mp H
   obtain ⟨⟨zc, Ec, Hd⟩, Id, H⟩ := H
   try dsimp only at H
   have Of := aM_ Id
   clear Id
   have H' := aM_ H
   clear H
   go_wp2_with (first | ((with_reducible refine gate_callee (f := 49) rfl ?_); refine goesL_ (some 12) rfl rfl Tryd.func49 (by kernel_rfl) rfl #[.pointer (some ⟨g, 0, none⟩), .int .i64 3] rfl aR_ ?_; (with_reducible refine (kerbsuitedata_Source_Next.calls g ua Cc 3 Dc Fd w0 _ ?side1 ?side2 Nf.out).mono ?_); (case side1 => repeat (first | (with_reducible first | exact ea.out | apply IsS52.alloc | apply IsS52.drewN | apply IsS52.drew | apply IsS52.set_1 | refine IsS52.far ?_ ka.out _ | refine IsS52.far ?_ ma.out _) | exact ea.out)); (case side2 => repeat (first | (with_reducible first | exact HB.out | apply bA_ | apply bN_ | apply bD_ | refine bS_ ?_ (IsS52.ge ea.out) | refine bS_ ?_ ta.out | refine bS_ ?_ va.out) | exact HB.out)); rintro e dh ⟨rfl, hi, hb, hk⟩; refine ⟨_, rfl, ?_⟩; replace fa := aM_ (KeepBut.blk hk (g' := la) (o := .cells #[.string (⟨#[]⟩ : ByteArray), .string (⟨#[]⟩ : ByteArray), .int .u64 0, .int .i64 0, .int .i64 0, .int .i64 0, .int .i64 0, .int .i64 0, .int .i64 0] 35 (0, 0)) (bk_ fa.out) Ca.out (by simp)); replace ca := aM_ (KeepBut.blk hk (g' := da) (o := .cells #[.string rb, .string sb, .string tb] 41 (0, 0)) (bk_ ca.out) Da.out (by simp)); replace HK := aM_ (KeepBut.trans kB_ hk (.inl rfl)); replace HB := aM_ (hb); replace ea := aM_ (hi); clear hb hk hi) | ((with_reducible refine gate_callee (f := 17) rfl ?_); refine goesL_ (some 13) rfl rfl Tryd.func17 (by kernel_rfl) rfl #[.int .i64 Dc] rfl aR_ ?_; (with_reducible refine (kerbsuitedata_Service.calls Dc zc Ec Hd _ Of.out).mono ?_); rintro e eh ⟨rfl, hb⟩; refine ⟨_, rfl, ?_⟩; replace fa := aM_ (blk_below (g := la) (o := .cells #[.string (⟨#[]⟩ : ByteArray), .string (⟨#[]⟩ : ByteArray), .int .u64 0, .int .i64 0, .int .i64 0, .int .i64 0, .int .i64 0, .int .i64 0, .int .i64 0] 35 (0, 0)) (bk_ fa.out) hb); replace ca := aM_ (blk_below (g := da) (o := .cells #[.string rb, .string sb, .string tb] 41 (0, 0)) (bk_ ca.out) hb); replace HK := aM_ (KeepBut.trans kB_ (KeepBut.of_below hb g none) (.inl rfl)); replace HB := aM_ (below_step (by repeat (first | (with_reducible first | exact HB.out | apply bA_ | apply bN_ | apply bD_ | refine bS_ ?_ (IsS52.ge ea.out) | refine bS_ ?_ ta.out | refine bS_ ?_ va.out) | exact HB.out)) hb); replace ea := aM_ (IsS52.below (by repeat (first | (with_reducible first | exact ea.out | apply IsS52.alloc | apply IsS52.drewN | apply IsS52.drew | apply IsS52.set_1 | refine IsS52.far ?_ ka.out _ | refine IsS52.far ?_ ma.out _) | exact ea.out)) hb); clear hb; have jg := bb.out; have kg := Ja.out; have lg := Da.out; have mg := ma.out; have ed := bc_ ca.out 0; have fd := bc_ ca.out 1; have gd := bc_ ca.out 2; have id := blk_frozen ca.out 0; have jd := blk_frozen ca.out 1; have kd := blk_frozen ca.out 2))
   go_meet
   case rel => exact ⟨_, (Fd), (zc), (Ec), (Hd), H', ⟨by first | omega | exact Nat.le_refl _⟩, ⟨by refine bk_ ?_; refine blk_far ?_ Ja.out _; refine bk_ ?_; refine blk_far ?_ Ja.out _; refine bk_ ?_; refine blk_far ?_ Ja.out _; refine bk_ ?_; exact fa.out⟩, ⟨by refine bk_ ?_; refine blk_put (cs := #[.string zc, .string Ec, .string tb]) ?_ 2 _ rfl; refine bk_ ?_; refine blk_put (cs := #[.string zc, .string sb, .string tb]) ?_ 1 _ rfl; refine bk_ ?_; refine blk_put (cs := #[.string rb, .string sb, .string tb]) ?_ 0 _ rfl; refine bk_ ?_; exact ca.out⟩, ⟨by repeat (first | (with_reducible first | exact ea.out | apply IsS52.alloc | apply IsS52.drewN | apply IsS52.drew | apply IsS52.set_1 | refine IsS52.far ?_ ka.out _ | refine IsS52.far ?_ ma.out _) | exact ea.out)⟩, ⟨by repeat (first | (with_reducible first | exact HK.out | apply KeepBut.set_ | apply keep_drewN | apply keep_drew | apply keep_alloc | refine keep_far ?_ Za.out _ | refine keep_far ?_ ab.out _) | exact HK.out)⟩, ⟨by repeat (first | (with_reducible first | exact HB.out | apply bA_ | apply bN_ | apply bD_ | refine bS_ ?_ (IsS52.ge ea.out) | refine bS_ ?_ ta.out | refine bS_ ?_ va.out) | exact HB.out)⟩⟩
  rw [if_neg Qb] at H
  have Bb : (Nb == 1) = false := beq_eq_false_iff_ne.mpr Qb
  have Mc : (Nb != 1) = true := bne_iff_ne.mpr Qb
  (first | rw [Bb] | (simp only [i64_w, i32_w]; rw [Bb]) | skip)
  have H' := aM_ H
  clear H
  go_wp2
  go_meet
  case rel => exact ⟨_, (Cc), (rb), (sb), (tb), H', ⟨by first | omega | exact Nat.le_refl _⟩, ⟨by refine bk_ ?_; exact fa.out⟩, ⟨by refine bk_ ?_; exact ca.out⟩, ⟨by repeat (first | (with_reducible first | exact ea.out | apply IsS52.alloc | apply IsS52.drewN | apply IsS52.drew | apply IsS52.set_1 | refine IsS52.far ?_ ka.out _ | refine IsS52.far ?_ ma.out _) | exact ea.out)⟩, ⟨by repeat (first | (with_reducible first | exact HK.out | apply KeepBut.set_ | apply keep_drewN | apply keep_drew | apply keep_alloc | refine keep_far ?_ Za.out _ | refine keep_far ?_ ab.out _) | exact HK.out)⟩, ⟨by repeat (first | (with_reducible first | exact HB.out | apply bA_ | apply bN_ | apply bD_ | refine bS_ ?_ (IsS52.ge ea.out) | refine bS_ ?_ ta.out | refine bS_ ?_ va.out) | exact HB.out)⟩⟩
 case rest =>
  clear Ed
  try clear c1
  try clear c2
  try clear p2
  try clear c4
  try clear fh
  try clear gh
  try clear Qb
  try clear Bb
  try clear Mc
  try clear hh
  try clear ih
  try clear jh
  try clear kh
  try clear Yc
  try clear Zc
  try clear ad
  try clear ed
  try clear fd
  try clear gd
  try clear bd
  try clear cd
  try clear dd
  try clear id
  try clear jd
  try clear kd
  obtain ⟨kq, Wa, aa, ba, ga, HA, Nc, fa, ca, ea, HK, HB⟩ := hcut
  cases kq with
  | zero => exact absurd HA.out (by simp [kerbsuitedata_Entry.j0])
  | succ Qf =>
   have H := HA.out
   clear HA
   simp only [kerbsuitedata_Entry.j0] at H
   replace H := Option.bind_eq_some_iff.mp H
   obtain ⟨⟨Qa, Xa⟩, Jd, H⟩ := H
   try dsimp only at H
   have ee := aM_ Jd
   clear Jd
   replace H := Option.bind_eq_some_iff.mp H
   obtain ⟨Ga, Kd, H⟩ := H
   try dsimp only at H
   have fe := aM_ Kd
   clear Kd
   replace H := Option.bind_eq_some_iff.mp H
   obtain ⟨⟨Aa, ub⟩, Ld, H⟩ := H
   try dsimp only at H
   have he := aM_ Ld
   clear Ld
   replace H := Option.bind_eq_some_iff.mp H
   obtain ⟨⟨Ea, vb⟩, Md, H⟩ := H
   try dsimp only at H
   have ie := aM_ Md
   clear Md
   replace H := Option.bind_eq_some_iff.mp H
   obtain ⟨⟨Ba, wb⟩, Nd, H⟩ := H
   try dsimp only at H
   have je := aM_ Nd
   clear Nd
   replace H := Option.bind_eq_some_iff.mp H
   obtain ⟨⟨Fa, xb⟩, Od, H⟩ := H
   try dsimp only at H
   have ke := aM_ Od
   clear Od
   replace H := Option.bind_eq_some_iff.mp H
   obtain ⟨⟨Ka, Hb⟩, Pd, H⟩ := H
   try dsimp only at H
   have le := aM_ Pd
   clear Pd
   replace H := Option.bind_eq_some_iff.mp H
   obtain ⟨⟨Ob, Fc⟩, Qd, H⟩ := H
   try dsimp only at H
   have Rf := aM_ Qd
   clear Qd
   have Gc := aM_ H
   clear H
   try go_upto_region 4 with fail
   replace fa := aM_ (blk_drew fa.out)
   replace ca := aM_ (blk_drew ca.out)
   replace ea := aM_ (IsS52.drew ea.out)
   replace HK := aM_ (keep_drew HK.out)
   replace HB := aM_ (bD_ HB.out)
   refine start_ (n := 22) (S := fun w' => w'.cell? ⟨da, 0, none⟩ = some (.string aa) ∧ w'.cell? ⟨da, 1, none⟩ = some (.string ba) ∧ w'.cell? ⟨da, 2, none⟩ = some (.string ga)) (ds := []) (bo_ 22 0) (by kernel_rfl) rfl rfl ⟨bc_ ca.out 0, bc_ ca.out 1, bc_ ca.out 2⟩ (fun hHeld => ?_); refine with_tabW kerbsuitedata_Entry.tab4 kerbsuitedata_Entry.bits4 (fun HT_ HW_ => ?_)
   generalize wc.drew = lh at fa ca ea HK HB hHeld ⊢
   refine pU_ 0 (some 14) (bo_ 22 1) ?_
   refine pU_ 2 (some 16) (bo_ 22 5) ?_
   refine pU_ 4 (some 18) (bo_ 22 21) ?_
   refine pU_ 7 (some 21) (bo_ 22 149) ?_
   refine pU_ 9 (some 23) (bo_ 22 661) ?_
   refine pU_ 11 (some 25) (bo_ 22 2709) ?_
   refine pU_ 14 (some 28) (bo_ 22 19093) ?_
   refine pU_ 17 (some 31) (bo_ 22 150165) ?_
   refine take_ (i := 1) (N := some 15) (v := ?_) (a' := ?_) (bo_ 22 150167) rfl rfl (take_ofW HT_.out HW_.out (by kernel_rfl)) (fun _ _ _ h => h) (Or.inl ⟨by rfl, ?_⟩) hHeld ?_ ?_
   rotate_left; (· rintro w' ⟨s0, s1, s2⟩; go_simp; with_reducible rfl)
   rotate_left; (· simp only [Act.put,sA_,sB_,sC_,i64_w,i32_w]; rfl)
   refine take_ (i := 3) (N := some 17) (v := ?_) (a' := ?_) (bo_ 22 150175) rfl rfl (take_ofW HT_.out HW_.out (by kernel_rfl)) (fun _ _ _ h => h) (Or.inl ⟨by rfl, ?_⟩) hHeld ?_ ?_
   rotate_left; (· rintro w' ⟨s0, s1, s2⟩; go_simp; with_reducible rfl)
   rotate_left; (· simp only [Act.put,sA_,sB_,sC_,i64_w,i32_w]; rfl)
   refine join_ (σ := Nat) 1 (bo_ 22 2097151) (fun s_ => [(19, .int .i64 Qa), (20, .int .u64 Ga), (22, .int .i64 Aa), (24, .int .i64 Ea), (26, .int .i64 Ba), (29, .int .i64 Fa), (32, .int .i64 Ka), (4, .pointer (some ⟨s_, 0, none⟩)), (27, .int .i64 (wrap64 (Int.tdiv Ba 4))), (30, .int .i64 (wrap64 ((wrap64 (Int.tdiv Ba 4)) * Fa))), (33, .agg #[.string aa, .string ba, .int .u64 Ga, .int .i64 Aa, .int .i64 0, .int .i64 Ea, .int .i64 (wrap64 ((wrap64 (Int.tdiv Ba 4)) * Fa)), .int .i64 Ka, .int .i64 0])]) (fun s_ w' => (w'.cell? ⟨da, 0, none⟩ = some (.string aa) ∧ w'.cell? ⟨da, 1, none⟩ = some (.string ba) ∧ w'.cell? ⟨da, 2, none⟩ = some (.string ga)) ∧ (w'.heap[la]? = some (.cells #[.string (⟨#[]⟩ : ByteArray), .string (⟨#[]⟩ : ByteArray), .int .u64 0, .int .i64 0, .int .i64 0, .int .i64 0, .int .i64 0, .int .i64 0, .int .i64 0] 35 (0, 0))) ∧ (w'.heap[da]? = some (.cells #[.string aa, .string ba, .string ga] 41 (0, 0))) ∧ (w'.heap[s_]? = some (.cells #[.string (⟨#[]⟩ : ByteArray), .string (⟨#[]⟩ : ByteArray), .int .u64 0, .int .i64 0, .int .i64 0, .int .i64 0, .int .i64 0, .int .i64 0, .int .i64 0] 35 (0, 0))) ∧ (w.heap.size ≤ s_) ∧ (w0.heap.size ≤ s_) ∧ (g ≠ s_) ∧ (s_ ≠ g) ∧ (la ≠ s_) ∧ (s_ ≠ la) ∧ (da ≠ s_) ∧ (s_ ≠ da) ∧ (IsS52 w0 w' g ua Hb) ∧ (KeepBut w w' g none) ∧ (Below w0.heap.size w0 w')) ?_ ?_
   rotate_left
   ·intro hJ5_6_8_10_12_15_18_20
    refine join_ (σ := Unit) 2 (bo_ 22 1048575) (fun s_ => [(19, .int .i64 Qa), (20, .int .u64 Ga), (22, .int .i64 Aa), (24, .int .i64 Ea), (26, .int .i64 Ba), (29, .int .i64 Fa), (32, .int .i64 Ka), (27, .int .i64 (wrap64 (Int.tdiv Ba 4))), (30, .int .i64 (wrap64 ((wrap64 (Int.tdiv Ba 4)) * Fa))), (33, .agg #[.string aa, .string ba, .int .u64 Ga, .int .i64 Aa, .int .i64 0, .int .i64 Ea, .int .i64 (wrap64 ((wrap64 (Int.tdiv Ba 4)) * Fa)), .int .i64 Ka, .int .i64 0])]) (fun s_ w' => (w'.cell? ⟨da, 0, none⟩ = some (.string aa) ∧ w'.cell? ⟨da, 1, none⟩ = some (.string ba) ∧ w'.cell? ⟨da, 2, none⟩ = some (.string ga)) ∧ (w'.heap[la]? = some (.cells #[.string (⟨#[]⟩ : ByteArray), .string (⟨#[]⟩ : ByteArray), .int .u64 0, .int .i64 0, .int .i64 0, .int .i64 0, .int .i64 0, .int .i64 0, .int .i64 0] 35 (0, 0))) ∧ (w'.heap[da]? = some (.cells #[.string aa, .string ba, .string ga] 41 (0, 0))) ∧ (IsS52 w0 w' g ua Hb) ∧ (KeepBut w w' g none) ∧ (Below w0.heap.size w0 w')) ?_ ?_
    rotate_left
    ·intro hJ5_6_8_10_12_15_18
     refine join_ (σ := Nat) 3 (bo_ 22 1310719) (fun s_ => [(19, .int .i64 Qa), (20, .int .u64 Ga), (22, .int .i64 Aa), (24, .int .i64 Ea), (26, .int .i64 Ba), (29, .int .i64 Fa), (4, .pointer (some ⟨s_, 0, none⟩)), (27, .int .i64 (wrap64 (Int.tdiv Ba 4))), (30, .int .i64 (wrap64 ((wrap64 (Int.tdiv Ba 4)) * Fa)))]) (fun s_ w' => (w'.cell? ⟨da, 0, none⟩ = some (.string aa) ∧ w'.cell? ⟨da, 1, none⟩ = some (.string ba) ∧ w'.cell? ⟨da, 2, none⟩ = some (.string ga)) ∧ (w'.heap[la]? = some (.cells #[.string (⟨#[]⟩ : ByteArray), .string (⟨#[]⟩ : ByteArray), .int .u64 0, .int .i64 0, .int .i64 0, .int .i64 0, .int .i64 0, .int .i64 0, .int .i64 0] 35 (0, 0))) ∧ (w'.heap[da]? = some (.cells #[.string aa, .string ba, .string ga] 41 (0, 0))) ∧ (w'.heap[s_]? = some (.cells #[.string (⟨#[]⟩ : ByteArray), .string (⟨#[]⟩ : ByteArray), .int .u64 0, .int .i64 0, .int .i64 0, .int .i64 0, .int .i64 0, .int .i64 0, .int .i64 0] 35 (0, 0))) ∧ (w.heap.size ≤ s_) ∧ (w0.heap.size ≤ s_) ∧ (g ≠ s_) ∧ (s_ ≠ g) ∧ (la ≠ s_) ∧ (s_ ≠ la) ∧ (da ≠ s_) ∧ (s_ ≠ da) ∧ (IsS52 w0 w' g ua xb) ∧ (KeepBut w w' g none) ∧ (Below w0.heap.size w0 w')) ?_ ?_
     rotate_left
     ·intro hJ5_6_8_10_12_15_20
      refine join_ (σ := Unit) 4 (bo_ 22 262143) (fun s_ => [(19, .int .i64 Qa), (20, .int .u64 Ga), (22, .int .i64 Aa), (24, .int .i64 Ea), (26, .int .i64 Ba), (29, .int .i64 Fa), (27, .int .i64 (wrap64 (Int.tdiv Ba 4))), (30, .int .i64 (wrap64 ((wrap64 (Int.tdiv Ba 4)) * Fa)))]) (fun s_ w' => (w'.cell? ⟨da, 0, none⟩ = some (.string aa) ∧ w'.cell? ⟨da, 1, none⟩ = some (.string ba) ∧ w'.cell? ⟨da, 2, none⟩ = some (.string ga)) ∧ (w'.heap[la]? = some (.cells #[.string (⟨#[]⟩ : ByteArray), .string (⟨#[]⟩ : ByteArray), .int .u64 0, .int .i64 0, .int .i64 0, .int .i64 0, .int .i64 0, .int .i64 0, .int .i64 0] 35 (0, 0))) ∧ (w'.heap[da]? = some (.cells #[.string aa, .string ba, .string ga] 41 (0, 0))) ∧ (IsS52 w0 w' g ua xb) ∧ (KeepBut w w' g none) ∧ (Below w0.heap.size w0 w')) ?_ ?_
      rotate_left
      ·intro hJ5_6_8_10_12_15
       refine join_ (σ := Nat) 5 (bo_ 22 1212415) (fun s_ => [(19, .int .i64 Qa), (20, .int .u64 Ga), (22, .int .i64 Aa), (24, .int .i64 Ea), (26, .int .i64 Ba), (4, .pointer (some ⟨s_, 0, none⟩)), (27, .int .i64 (wrap64 (Int.tdiv Ba 4)))]) (fun s_ w' => (w'.cell? ⟨da, 0, none⟩ = some (.string aa) ∧ w'.cell? ⟨da, 1, none⟩ = some (.string ba) ∧ w'.cell? ⟨da, 2, none⟩ = some (.string ga)) ∧ (w'.heap[la]? = some (.cells #[.string (⟨#[]⟩ : ByteArray), .string (⟨#[]⟩ : ByteArray), .int .u64 0, .int .i64 0, .int .i64 0, .int .i64 0, .int .i64 0, .int .i64 0, .int .i64 0] 35 (0, 0))) ∧ (w'.heap[da]? = some (.cells #[.string aa, .string ba, .string ga] 41 (0, 0))) ∧ (w'.heap[s_]? = some (.cells #[.string (⟨#[]⟩ : ByteArray), .string (⟨#[]⟩ : ByteArray), .int .u64 0, .int .i64 0, .int .i64 0, .int .i64 0, .int .i64 0, .int .i64 0, .int .i64 0] 35 (0, 0))) ∧ (w.heap.size ≤ s_) ∧ (w0.heap.size ≤ s_) ∧ (g ≠ s_) ∧ (s_ ≠ g) ∧ (la ≠ s_) ∧ (s_ ≠ la) ∧ (da ≠ s_) ∧ (s_ ≠ da) ∧ (IsS52 w0 w' g ua wb) ∧ (KeepBut w w' g none) ∧ (Below w0.heap.size w0 w')) ?_ ?_
       rotate_left
       ·intro hJ5_6_8_10_12_20
        refine join_ (σ := Unit) 6 (bo_ 22 163839) (fun s_ => [(19, .int .i64 Qa), (20, .int .u64 Ga), (22, .int .i64 Aa), (24, .int .i64 Ea), (26, .int .i64 Ba), (27, .int .i64 (wrap64 (Int.tdiv Ba 4)))]) (fun s_ w' => (w'.cell? ⟨da, 0, none⟩ = some (.string aa) ∧ w'.cell? ⟨da, 1, none⟩ = some (.string ba) ∧ w'.cell? ⟨da, 2, none⟩ = some (.string ga)) ∧ (w'.heap[la]? = some (.cells #[.string (⟨#[]⟩ : ByteArray), .string (⟨#[]⟩ : ByteArray), .int .u64 0, .int .i64 0, .int .i64 0, .int .i64 0, .int .i64 0, .int .i64 0, .int .i64 0] 35 (0, 0))) ∧ (w'.heap[da]? = some (.cells #[.string aa, .string ba, .string ga] 41 (0, 0))) ∧ (IsS52 w0 w' g ua wb) ∧ (KeepBut w w' g none) ∧ (Below w0.heap.size w0 w')) ?_ ?_
        rotate_left
        ·intro hJ5_6_8_10_12
         refine join_ (σ := Nat) 7 (bo_ 22 1200127) (fun s_ => [(19, .int .i64 Qa), (20, .int .u64 Ga), (22, .int .i64 Aa), (24, .int .i64 Ea), (4, .pointer (some ⟨s_, 0, none⟩))]) (fun s_ w' => (w'.cell? ⟨da, 0, none⟩ = some (.string aa) ∧ w'.cell? ⟨da, 1, none⟩ = some (.string ba) ∧ w'.cell? ⟨da, 2, none⟩ = some (.string ga)) ∧ (w'.heap[la]? = some (.cells #[.string (⟨#[]⟩ : ByteArray), .string (⟨#[]⟩ : ByteArray), .int .u64 0, .int .i64 0, .int .i64 0, .int .i64 0, .int .i64 0, .int .i64 0, .int .i64 0] 35 (0, 0))) ∧ (w'.heap[da]? = some (.cells #[.string aa, .string ba, .string ga] 41 (0, 0))) ∧ (w'.heap[s_]? = some (.cells #[.string (⟨#[]⟩ : ByteArray), .string (⟨#[]⟩ : ByteArray), .int .u64 0, .int .i64 0, .int .i64 0, .int .i64 0, .int .i64 0, .int .i64 0, .int .i64 0] 35 (0, 0))) ∧ (w.heap.size ≤ s_) ∧ (w0.heap.size ≤ s_) ∧ (g ≠ s_) ∧ (s_ ≠ g) ∧ (la ≠ s_) ∧ (s_ ≠ la) ∧ (da ≠ s_) ∧ (s_ ≠ da) ∧ (IsS52 w0 w' g ua vb) ∧ (KeepBut w w' g none) ∧ (Below w0.heap.size w0 w')) ?_ ?_
         rotate_left
         ·intro hJ5_6_8_10_20
          refine join_ (σ := Unit) 8 (bo_ 22 151551) (fun s_ => [(19, .int .i64 Qa), (20, .int .u64 Ga), (22, .int .i64 Aa), (24, .int .i64 Ea)]) (fun s_ w' => (w'.cell? ⟨da, 0, none⟩ = some (.string aa) ∧ w'.cell? ⟨da, 1, none⟩ = some (.string ba) ∧ w'.cell? ⟨da, 2, none⟩ = some (.string ga)) ∧ (w'.heap[la]? = some (.cells #[.string (⟨#[]⟩ : ByteArray), .string (⟨#[]⟩ : ByteArray), .int .u64 0, .int .i64 0, .int .i64 0, .int .i64 0, .int .i64 0, .int .i64 0, .int .i64 0] 35 (0, 0))) ∧ (w'.heap[da]? = some (.cells #[.string aa, .string ba, .string ga] 41 (0, 0))) ∧ (IsS52 w0 w' g ua vb) ∧ (KeepBut w w' g none) ∧ (Below w0.heap.size w0 w')) ?_ ?_
          rotate_left
          ·intro hJ5_6_8_10
           refine join_ (σ := Nat) 8 (bo_ 22 1199103) (fun s_ => [(19, .int .i64 Qa), (20, .int .u64 Ga), (22, .int .i64 Aa), (4, .pointer (some ⟨s_, 0, none⟩))]) (fun s_ w' => (w'.cell? ⟨da, 0, none⟩ = some (.string aa) ∧ w'.cell? ⟨da, 1, none⟩ = some (.string ba) ∧ w'.cell? ⟨da, 2, none⟩ = some (.string ga)) ∧ (w'.heap[la]? = some (.cells #[.string (⟨#[]⟩ : ByteArray), .string (⟨#[]⟩ : ByteArray), .int .u64 0, .int .i64 0, .int .i64 0, .int .i64 0, .int .i64 0, .int .i64 0, .int .i64 0] 35 (0, 0))) ∧ (w'.heap[da]? = some (.cells #[.string aa, .string ba, .string ga] 41 (0, 0))) ∧ (w'.heap[s_]? = some (.cells #[.string (⟨#[]⟩ : ByteArray), .string (⟨#[]⟩ : ByteArray), .int .u64 0, .int .i64 0, .int .i64 0, .int .i64 0, .int .i64 0, .int .i64 0, .int .i64 0] 35 (0, 0))) ∧ (w.heap.size ≤ s_) ∧ (w0.heap.size ≤ s_) ∧ (g ≠ s_) ∧ (s_ ≠ g) ∧ (la ≠ s_) ∧ (s_ ≠ la) ∧ (da ≠ s_) ∧ (s_ ≠ da) ∧ (IsS52 w0 w' g ua ub) ∧ (KeepBut w w' g none) ∧ (Below w0.heap.size w0 w')) ?_ ?_
           rotate_left
           ·intro hJ5_6_8_20
            refine join_ (σ := Unit) 9 (bo_ 22 150527) (fun s_ => [(19, .int .i64 Qa), (20, .int .u64 Ga), (22, .int .i64 Aa)]) (fun s_ w' => (w'.cell? ⟨da, 0, none⟩ = some (.string aa) ∧ w'.cell? ⟨da, 1, none⟩ = some (.string ba) ∧ w'.cell? ⟨da, 2, none⟩ = some (.string ga)) ∧ (w'.heap[la]? = some (.cells #[.string (⟨#[]⟩ : ByteArray), .string (⟨#[]⟩ : ByteArray), .int .u64 0, .int .i64 0, .int .i64 0, .int .i64 0, .int .i64 0, .int .i64 0, .int .i64 0] 35 (0, 0))) ∧ (w'.heap[da]? = some (.cells #[.string aa, .string ba, .string ga] 41 (0, 0))) ∧ (IsS52 w0 w' g ua ub) ∧ (KeepBut w w' g none) ∧ (Below w0.heap.size w0 w')) ?_ ?_
            rotate_left
            ·intro hJ5_6_8
             refine join_ (σ := Nat) 9 (bo_ 22 1198847) (fun s_ => [(19, .int .i64 Qa), (20, .int .u64 Ga), (4, .pointer (some ⟨s_, 0, none⟩))]) (fun s_ w' => (w'.cell? ⟨da, 0, none⟩ = some (.string aa) ∧ w'.cell? ⟨da, 1, none⟩ = some (.string ba) ∧ w'.cell? ⟨da, 2, none⟩ = some (.string ga)) ∧ (w'.heap[la]? = some (.cells #[.string (⟨#[]⟩ : ByteArray), .string (⟨#[]⟩ : ByteArray), .int .u64 0, .int .i64 0, .int .i64 0, .int .i64 0, .int .i64 0, .int .i64 0, .int .i64 0] 35 (0, 0))) ∧ (w'.heap[da]? = some (.cells #[.string aa, .string ba, .string ga] 41 (0, 0))) ∧ (w'.heap[s_]? = some (.cells #[.string (⟨#[]⟩ : ByteArray), .string (⟨#[]⟩ : ByteArray), .int .u64 0, .int .i64 0, .int .i64 0, .int .i64 0, .int .i64 0, .int .i64 0, .int .i64 0] 35 (0, 0))) ∧ (w.heap.size ≤ s_) ∧ (w0.heap.size ≤ s_) ∧ (g ≠ s_) ∧ (s_ ≠ g) ∧ (la ≠ s_) ∧ (s_ ≠ la) ∧ (da ≠ s_) ∧ (s_ ≠ da) ∧ (IsS52 w0 w' g ua Xa) ∧ (KeepBut w w' g none) ∧ (Below w0.heap.size w0 w')) ?_ ?_
             rotate_left
             ·intro hJ5_6_20
              refine join_ (σ := Unit) 10 (bo_ 22 150271) (fun s_ => [(19, .int .i64 Qa), (20, .int .u64 Ga)]) (fun s_ w' => (w'.cell? ⟨da, 0, none⟩ = some (.string aa) ∧ w'.cell? ⟨da, 1, none⟩ = some (.string ba) ∧ w'.cell? ⟨da, 2, none⟩ = some (.string ga)) ∧ (w'.heap[la]? = some (.cells #[.string (⟨#[]⟩ : ByteArray), .string (⟨#[]⟩ : ByteArray), .int .u64 0, .int .i64 0, .int .i64 0, .int .i64 0, .int .i64 0, .int .i64 0, .int .i64 0] 35 (0, 0))) ∧ (w'.heap[da]? = some (.cells #[.string aa, .string ba, .string ga] 41 (0, 0))) ∧ (IsS52 w0 w' g ua Xa) ∧ (KeepBut w w' g none) ∧ (Below w0.heap.size w0 w')) ?_ ?_
              rotate_left
              ·intro hJ5_6
               refine join_ (σ := Nat) 10 (bo_ 22 1198783) (fun s_ => [(19, .int .i64 Qa), (4, .pointer (some ⟨s_, 0, none⟩))]) (fun s_ w' => (w'.cell? ⟨da, 0, none⟩ = some (.string aa) ∧ w'.cell? ⟨da, 1, none⟩ = some (.string ba) ∧ w'.cell? ⟨da, 2, none⟩ = some (.string ga)) ∧ (w'.heap[la]? = some (.cells #[.string (⟨#[]⟩ : ByteArray), .string (⟨#[]⟩ : ByteArray), .int .u64 0, .int .i64 0, .int .i64 0, .int .i64 0, .int .i64 0, .int .i64 0, .int .i64 0] 35 (0, 0))) ∧ (w'.heap[da]? = some (.cells #[.string aa, .string ba, .string ga] 41 (0, 0))) ∧ (w'.heap[s_]? = some (.cells #[.string (⟨#[]⟩ : ByteArray), .string (⟨#[]⟩ : ByteArray), .int .u64 0, .int .i64 0, .int .i64 0, .int .i64 0, .int .i64 0, .int .i64 0, .int .i64 0] 35 (0, 0))) ∧ (w.heap.size ≤ s_) ∧ (w0.heap.size ≤ s_) ∧ (g ≠ s_) ∧ (s_ ≠ g) ∧ (la ≠ s_) ∧ (s_ ≠ la) ∧ (da ≠ s_) ∧ (s_ ≠ da) ∧ (IsS52 w0 w' g ua Xa) ∧ (KeepBut w w' g none) ∧ (Below w0.heap.size w0 w')) ?_ ?_
               rotate_left
               ·intro hJ5_20
                refine join_ (σ := Unit) 11 (bo_ 22 150207) (fun s_ => [(19, .int .i64 Qa)]) (fun s_ w' => (w'.cell? ⟨da, 0, none⟩ = some (.string aa) ∧ w'.cell? ⟨da, 1, none⟩ = some (.string ba) ∧ w'.cell? ⟨da, 2, none⟩ = some (.string ga)) ∧ (w'.heap[la]? = some (.cells #[.string (⟨#[]⟩ : ByteArray), .string (⟨#[]⟩ : ByteArray), .int .u64 0, .int .i64 0, .int .i64 0, .int .i64 0, .int .i64 0, .int .i64 0, .int .i64 0] 35 (0, 0))) ∧ (w'.heap[da]? = some (.cells #[.string aa, .string ba, .string ga] 41 (0, 0))) ∧ (IsS52 w0 w' g ua Xa) ∧ (KeepBut w w' g none) ∧ (Below w0.heap.size w0 w')) ?_ ?_
                rotate_left
                ·intro hJ5
                 refine join_ (σ := Nat) 11 (bo_ 22 1198751) (fun s_ => [(4, .pointer (some ⟨s_, 0, none⟩))]) (fun s_ w' => (w'.cell? ⟨da, 0, none⟩ = some (.string aa) ∧ w'.cell? ⟨da, 1, none⟩ = some (.string ba) ∧ w'.cell? ⟨da, 2, none⟩ = some (.string ga)) ∧ (w'.heap[la]? = some (.cells #[.string (⟨#[]⟩ : ByteArray), .string (⟨#[]⟩ : ByteArray), .int .u64 0, .int .i64 0, .int .i64 0, .int .i64 0, .int .i64 0, .int .i64 0, .int .i64 0] 35 (0, 0))) ∧ (w'.heap[da]? = some (.cells #[.string aa, .string ba, .string ga] 41 (0, 0))) ∧ (w'.heap[s_]? = some (.cells #[.string (⟨#[]⟩ : ByteArray), .string (⟨#[]⟩ : ByteArray), .int .u64 0, .int .i64 0, .int .i64 0, .int .i64 0, .int .i64 0, .int .i64 0, .int .i64 0] 35 (0, 0))) ∧ (w.heap.size ≤ s_) ∧ (w0.heap.size ≤ s_) ∧ (g ≠ s_) ∧ (s_ ≠ g) ∧ (la ≠ s_) ∧ (s_ ≠ la) ∧ (da ≠ s_) ∧ (s_ ≠ da) ∧ (IsS52 w0 w' g ua Wa) ∧ (KeepBut w w' g none) ∧ (Below w0.heap.size w0 w')) ?_ ?_
                 rotate_left
                 ·intro hJ20
                  refine two_ (i := 5) (j := 20) (Ni := some 19) (Nj := some 4) (bo_ 22 150207) (bo_ 22 1198751) rfl rfl rfl rfl (two_of HT_.out (by kernel_rfl)) (by decide) (by decide) (fun K hK => ?_) (fun K hK => ?_)
                  ·skip
                   refine goes_ Tryd.func49 (by kernel_rfl) rfl #[.pointer (some ⟨g, 0, none⟩), .int .i64 40] (by rfl) rfl rfl aR_ ?_
                   with_reducible refine (kerbsuitedata_Source_Next.calls g ua Wa 40 Qa Xa w0 _ ?side1 ?side2 ee.out).mono ?_
                   (case side1 => repeat (first | (with_reducible first | exact ea.out | apply IsS52.alloc | apply IsS52.drewN | apply IsS52.drew | apply IsS52.set_1 | refine IsS52.far ?_ ka.out _ | refine IsS52.far ?_ ma.out _) | exact ea.out))
                   (case side2 => repeat (first | (with_reducible first | exact HB.out | apply bA_ | apply bN_ | apply bD_ | refine bS_ ?_ (IsS52.ge ea.out) | refine bS_ ?_ ta.out | refine bS_ ?_ va.out) | exact HB.out))
                   rintro e Sf ⟨rfl, hi, hb, hk⟩
                   refine ⟨_, rfl, ?_⟩
                   replace fa := aM_ (KeepBut.blk hk (g' := la) (o := .cells #[.string (⟨#[]⟩ : ByteArray), .string (⟨#[]⟩ : ByteArray), .int .u64 0, .int .i64 0, .int .i64 0, .int .i64 0, .int .i64 0, .int .i64 0, .int .i64 0] 35 (0, 0)) (bk_ fa.out) Ca.out (by simp))
                   replace ca := aM_ (KeepBut.blk hk (g' := da) (o := .cells #[.string aa, .string ba, .string ga] 41 (0, 0)) (bk_ ca.out) Da.out (by simp))
                   replace HK := aM_ (KeepBut.trans kB_ hk (.inl rfl))
                   replace HB := aM_ (hb)
                   replace ea := aM_ (hi)
                   clear hb hk hi
                   refine hK.out _ _ ⟨bc_ ca.out 0, bc_ ca.out 1, bc_ ca.out 2⟩ (fun hHeld => ?_)
                   clear hK K
                   refine nO_ 19 ?_
                   exact nQ_ (hJ5 () _ ⟨hHeld, (bk_ fa.out), (bk_ ca.out), (by repeat (first | (with_reducible first | exact ea.out | apply IsS52.alloc | apply IsS52.drewN | apply IsS52.drew | apply IsS52.set_1 | refine IsS52.far ?_ ka.out _ | refine IsS52.far ?_ ma.out _) | exact ea.out)), kB_, (by repeat (first | (with_reducible first | exact HB.out | apply bA_ | apply bN_ | apply bD_ | refine bS_ ?_ (IsS52.ge ea.out) | refine bS_ ?_ ta.out | refine bS_ ?_ va.out) | exact HB.out))⟩)
                  skip
                  refine box_step ?hg (N := 4) ?hd (cs := #[.string (⟨#[]⟩ : ByteArray), .string (⟨#[]⟩ : ByteArray), .int .u64 0, .int .i64 0, .int .i64 0, .int .i64 0, .int .i64 0, .int .i64 0, .int .i64 0]) (t := 35) ?hr ?_; (case hd => rfl); (case hg => rfl); (case hr => first | (go_simp; done) | (go_simp; rfl))
                  intro ha hg Sf hbox hb
                  replace HB := aM_ (below_step (by repeat (first | (with_reducible first | exact HB.out | apply bA_ | apply bN_ | apply bD_ | refine bS_ ?_ (IsS52.ge ea.out) | refine bS_ ?_ ta.out | refine bS_ ?_ va.out) | exact HB.out)) hb)
                  have ia := aM_ (hbox)
                  have za := aM_ ((by rw [hg]; exact (keep_size (w := w) (g := g) (row := none) kB_) : w.heap.size ≤ ha))
                  have sa := aM_ ((Nat.le_trans HW0.out (by rw [hg]; exact (keep_size (w := w) (g := g) (row := none) kB_) : w.heap.size ≤ ha) : w0.heap.size ≤ ha))
                  replace HK := aM_ (KeepBut.trans kB_ (KeepBut.of_below hb g none) (.inl rfl))
                  have na := aM_ ((by rw [hg]; exact Nat.ne_of_lt (blk_lt (g := la) (o := .cells #[.string (⟨#[]⟩ : ByteArray), .string (⟨#[]⟩ : ByteArray), .int .u64 0, .int .i64 0, .int .i64 0, .int .i64 0, .int .i64 0, .int .i64 0, .int .i64 0] 35 (0, 0)) (bk_ fa.out)) : la ≠ ha))
                  have pa := aM_ ((by rw [hg]; exact Nat.ne_of_gt (blk_lt (g := la) (o := .cells #[.string (⟨#[]⟩ : ByteArray), .string (⟨#[]⟩ : ByteArray), .int .u64 0, .int .i64 0, .int .i64 0, .int .i64 0, .int .i64 0, .int .i64 0, .int .i64 0] 35 (0, 0)) (bk_ fa.out)) : ha ≠ la))
                  replace fa := aM_ (blk_below (g := la) (o := .cells #[.string (⟨#[]⟩ : ByteArray), .string (⟨#[]⟩ : ByteArray), .int .u64 0, .int .i64 0, .int .i64 0, .int .i64 0, .int .i64 0, .int .i64 0, .int .i64 0] 35 (0, 0)) (bk_ fa.out) hb)
                  have ja := aM_ ((by rw [hg]; exact Nat.ne_of_lt (blk_lt (g := da) (o := .cells #[.string aa, .string ba, .string ga] 41 (0, 0)) (bk_ ca.out)) : da ≠ ha))
                  have qa := aM_ ((by rw [hg]; exact Nat.ne_of_gt (blk_lt (g := da) (o := .cells #[.string aa, .string ba, .string ga] 41 (0, 0)) (bk_ ca.out)) : ha ≠ da))
                  replace ca := aM_ (blk_below (g := da) (o := .cells #[.string aa, .string ba, .string ga] 41 (0, 0)) (bk_ ca.out) hb)
                  have oa := aM_ ((by rw [hg]; exact Nat.ne_of_lt (IsS52.lt (show IsS52 w0 _ g ua Wa from by repeat (first | (with_reducible first | exact ea.out | apply IsS52.alloc | apply IsS52.drewN | apply IsS52.drew | apply IsS52.set_1 | refine IsS52.far ?_ ka.out _ | refine IsS52.far ?_ ma.out _) | exact ea.out))) : g ≠ ha))
                  have ra := aM_ ((by rw [hg]; exact Nat.ne_of_gt (IsS52.lt (show IsS52 w0 _ g ua Wa from by repeat (first | (with_reducible first | exact ea.out | apply IsS52.alloc | apply IsS52.drewN | apply IsS52.drew | apply IsS52.set_1 | refine IsS52.far ?_ ka.out _ | refine IsS52.far ?_ ma.out _) | exact ea.out))) : ha ≠ g))
                  replace ea := aM_ (IsS52.below (by repeat (first | (with_reducible first | exact ea.out | apply IsS52.alloc | apply IsS52.drewN | apply IsS52.drew | apply IsS52.set_1 | refine IsS52.far ?_ ka.out _ | refine IsS52.far ?_ ma.out _) | exact ea.out)) hb)
                  clear hb hbox hg
                  refine hK.out _ _ ⟨bc_ ca.out 0, bc_ ca.out 1, bc_ ca.out 2⟩ (fun hHeld => ?_)
                  clear hK K
                  refine nO_ 4 ?_
                  exact nQ_ (hJ20 (ha) _ ⟨hHeld, (bk_ fa.out), (bk_ ca.out), (bk_ ia.out), za.out, sa.out, oa.out, ra.out, na.out, pa.out, ja.out, qa.out, (by repeat (first | (with_reducible first | exact ea.out | apply IsS52.alloc | apply IsS52.drewN | apply IsS52.drew | apply IsS52.set_1 | refine IsS52.far ?_ ka.out _ | refine IsS52.far ?_ ma.out _ | refine IsS52.far ?_ oa.out _) | exact ea.out)), kB_, (by repeat (first | (with_reducible first | exact HB.out | apply bA_ | apply bN_ | apply bD_ | refine bS_ ?_ (IsS52.ge ea.out) | refine bS_ ?_ ta.out | refine bS_ ?_ va.out | refine bS_ ?_ sa.out) | exact HB.out))⟩)
                 skip
                 rintro ha yb ⟨hS_, h0_, h1_, h2_, Ha, Ia, Ra, Sa, Ta, Ua, Va, La, Ma, Na, Oa⟩
                 replace fa := aM_ h0_
                 replace ca := aM_ h1_
                 have ia := aM_ h2_
                 have za := aM_ Ha
                 have sa := aM_ Ia
                 have oa := aM_ Ra
                 have ra := aM_ Sa
                 have na := aM_ Ta
                 have pa := aM_ Ua
                 have ja := aM_ Va
                 have qa := aM_ La
                 replace ea := aM_ Ma
                 replace HK := aM_ Na
                 replace HB := aM_ Oa
                 clear h0_ h1_ h2_ Ha Ia Ra Sa Ta Ua Va La Ma Na Oa
                 have hHeld : yb.cell? ⟨da, 0, none⟩ = some (.string aa) ∧ yb.cell? ⟨da, 1, none⟩ = some (.string ba) ∧ yb.cell? ⟨da, 2, none⟩ = some (.string ga) := hS_
                 refine nP_ ?_
                 refine one_ (i := 5) (N := some 19) (bo_ 22 1198783) rfl rfl (one_of HT_.out (by kernel_rfl)) (by decide) (fun K hK => ?_)
                 refine goes_ Tryd.func49 (by kernel_rfl) rfl #[.pointer (some ⟨g, 0, none⟩), .int .i64 40] (by rfl) rfl rfl aR_ ?_
                 with_reducible refine (kerbsuitedata_Source_Next.calls g ua Wa 40 Qa Xa w0 _ ?side1 ?side2 ee.out).mono ?_
                 (case side1 => repeat (first | (with_reducible first | exact ea.out | apply IsS52.alloc | apply IsS52.drewN | apply IsS52.drew | apply IsS52.set_1 | refine IsS52.far ?_ ka.out _ | refine IsS52.far ?_ ma.out _ | refine IsS52.far ?_ oa.out _) | exact ea.out))
                 (case side2 => repeat (first | (with_reducible first | exact HB.out | apply bA_ | apply bN_ | apply bD_ | refine bS_ ?_ (IsS52.ge ea.out) | refine bS_ ?_ ta.out | refine bS_ ?_ va.out | refine bS_ ?_ sa.out) | exact HB.out))
                 rintro e Ya ⟨rfl, hi, hb, hk⟩
                 refine ⟨_, rfl, ?_⟩
                 replace fa := aM_ (KeepBut.blk hk (g' := la) (o := .cells #[.string (⟨#[]⟩ : ByteArray), .string (⟨#[]⟩ : ByteArray), .int .u64 0, .int .i64 0, .int .i64 0, .int .i64 0, .int .i64 0, .int .i64 0, .int .i64 0] 35 (0, 0)) (bk_ fa.out) Ca.out (by simp))
                 replace ca := aM_ (KeepBut.blk hk (g' := da) (o := .cells #[.string aa, .string ba, .string ga] 41 (0, 0)) (bk_ ca.out) Da.out (by simp))
                 replace ia := aM_ (KeepBut.blk hk (g' := ha) (o := .cells #[.string (⟨#[]⟩ : ByteArray), .string (⟨#[]⟩ : ByteArray), .int .u64 0, .int .i64 0, .int .i64 0, .int .i64 0, .int .i64 0, .int .i64 0, .int .i64 0] 35 (0, 0)) (bk_ ia.out) ra.out (by simp))
                 replace HK := aM_ (KeepBut.trans kB_ hk (.inl rfl))
                 replace HB := aM_ (hb)
                 replace ea := aM_ (hi)
                 clear hb hk hi
                 refine hK.out _ _ ⟨bc_ ca.out 0, bc_ ca.out 1, bc_ ca.out 2⟩ (fun hHeld => ?_)
                 clear hK K
                 refine nO_ 19 ?_
                 exact nQ_ (hJ5_20 (ha) _ ⟨hHeld, (bk_ fa.out), (bk_ ca.out), (bk_ ia.out), za.out, sa.out, oa.out, ra.out, na.out, pa.out, ja.out, qa.out, (by repeat (first | (with_reducible first | exact ea.out | apply IsS52.alloc | apply IsS52.drewN | apply IsS52.drew | apply IsS52.set_1 | refine IsS52.far ?_ ka.out _ | refine IsS52.far ?_ ma.out _ | refine IsS52.far ?_ oa.out _) | exact ea.out)), kB_, (by repeat (first | (with_reducible first | exact HB.out | apply bA_ | apply bN_ | apply bD_ | refine bS_ ?_ (IsS52.ge ea.out) | refine bS_ ?_ ta.out | refine bS_ ?_ va.out | refine bS_ ?_ sa.out) | exact HB.out))⟩)
                skip
                rintro _ yb ⟨hS_, h0_, h1_, h2_, Ha, Ia⟩
                replace fa := aM_ h0_
                replace ca := aM_ h1_
                replace ea := aM_ h2_
                replace HK := aM_ Ha
                replace HB := aM_ Ia
                clear h0_ h1_ h2_ Ha Ia
                have hHeld : yb.cell? ⟨da, 0, none⟩ = some (.string aa) ∧ yb.cell? ⟨da, 1, none⟩ = some (.string ba) ∧ yb.cell? ⟨da, 2, none⟩ = some (.string ga) := hS_
                refine nP_ ?_
                refine two_ (i := 6) (j := 20) (Ni := some 20) (Nj := some 4) (bo_ 22 150271) (bo_ 22 1198783) rfl rfl rfl rfl (two_of HT_.out (by kernel_rfl)) (by decide) (by decide) (fun K hK => ?_) (fun K hK => ?_)
                ·skip
                 refine goes_ Tryd.func13 (by kernel_rfl) rfl #[.int .i64 Qa] (by rfl) rfl rfl aR_ ?_
                 with_reducible refine (kerbsuitedata_Long.calls Qa Ga _ fe.out).mono ?_
                 rintro e w' ⟨rfl, ⟨nd, rfl⟩⟩
                 refine ⟨_, rfl, ?_⟩
                 refine hK.out _ _ ⟨bc_ ca.out 0, bc_ ca.out 1, bc_ ca.out 2⟩ (fun hHeld => ?_)
                 clear hK K
                 refine nO_ 20 ?_
                 exact nQ_ (hJ5_6 () _ ⟨hHeld, (bk_ fa.out), (bk_ ca.out), (by repeat (first | (with_reducible first | exact ea.out | apply IsS52.alloc | apply IsS52.drewN | apply IsS52.drew | apply IsS52.set_1 | refine IsS52.far ?_ ka.out _ | refine IsS52.far ?_ ma.out _) | exact ea.out)), kB_, (by repeat (first | (with_reducible first | exact HB.out | apply bA_ | apply bN_ | apply bD_ | refine bS_ ?_ (IsS52.ge ea.out) | refine bS_ ?_ ta.out | refine bS_ ?_ va.out) | exact HB.out))⟩)
                skip
                refine box_step ?hg (N := 4) ?hd (cs := #[.string (⟨#[]⟩ : ByteArray), .string (⟨#[]⟩ : ByteArray), .int .u64 0, .int .i64 0, .int .i64 0, .int .i64 0, .int .i64 0, .int .i64 0, .int .i64 0]) (t := 35) ?hr ?_; (case hd => rfl); (case hg => rfl); (case hr => first | (go_simp; done) | (go_simp; rfl))
                intro ha hg Ya hbox hb
                replace HB := aM_ (below_step (by repeat (first | (with_reducible first | exact HB.out | apply bA_ | apply bN_ | apply bD_ | refine bS_ ?_ (IsS52.ge ea.out) | refine bS_ ?_ ta.out | refine bS_ ?_ va.out) | exact HB.out)) hb)
                have ia := aM_ (hbox)
                have za := aM_ ((by rw [hg]; exact (keep_size (w := w) (g := g) (row := none) kB_) : w.heap.size ≤ ha))
                have sa := aM_ ((Nat.le_trans HW0.out (by rw [hg]; exact (keep_size (w := w) (g := g) (row := none) kB_) : w.heap.size ≤ ha) : w0.heap.size ≤ ha))
                replace HK := aM_ (KeepBut.trans kB_ (KeepBut.of_below hb g none) (.inl rfl))
                have na := aM_ ((by rw [hg]; exact Nat.ne_of_lt (blk_lt (g := la) (o := .cells #[.string (⟨#[]⟩ : ByteArray), .string (⟨#[]⟩ : ByteArray), .int .u64 0, .int .i64 0, .int .i64 0, .int .i64 0, .int .i64 0, .int .i64 0, .int .i64 0] 35 (0, 0)) (bk_ fa.out)) : la ≠ ha))
                have pa := aM_ ((by rw [hg]; exact Nat.ne_of_gt (blk_lt (g := la) (o := .cells #[.string (⟨#[]⟩ : ByteArray), .string (⟨#[]⟩ : ByteArray), .int .u64 0, .int .i64 0, .int .i64 0, .int .i64 0, .int .i64 0, .int .i64 0, .int .i64 0] 35 (0, 0)) (bk_ fa.out)) : ha ≠ la))
                replace fa := aM_ (blk_below (g := la) (o := .cells #[.string (⟨#[]⟩ : ByteArray), .string (⟨#[]⟩ : ByteArray), .int .u64 0, .int .i64 0, .int .i64 0, .int .i64 0, .int .i64 0, .int .i64 0, .int .i64 0] 35 (0, 0)) (bk_ fa.out) hb)
                have ja := aM_ ((by rw [hg]; exact Nat.ne_of_lt (blk_lt (g := da) (o := .cells #[.string aa, .string ba, .string ga] 41 (0, 0)) (bk_ ca.out)) : da ≠ ha))
                have qa := aM_ ((by rw [hg]; exact Nat.ne_of_gt (blk_lt (g := da) (o := .cells #[.string aa, .string ba, .string ga] 41 (0, 0)) (bk_ ca.out)) : ha ≠ da))
                replace ca := aM_ (blk_below (g := da) (o := .cells #[.string aa, .string ba, .string ga] 41 (0, 0)) (bk_ ca.out) hb)
                have oa := aM_ ((by rw [hg]; exact Nat.ne_of_lt (IsS52.lt (show IsS52 w0 _ g ua Xa from by repeat (first | (with_reducible first | exact ea.out | apply IsS52.alloc | apply IsS52.drewN | apply IsS52.drew | apply IsS52.set_1 | refine IsS52.far ?_ ka.out _ | refine IsS52.far ?_ ma.out _) | exact ea.out))) : g ≠ ha))
                have ra := aM_ ((by rw [hg]; exact Nat.ne_of_gt (IsS52.lt (show IsS52 w0 _ g ua Xa from by repeat (first | (with_reducible first | exact ea.out | apply IsS52.alloc | apply IsS52.drewN | apply IsS52.drew | apply IsS52.set_1 | refine IsS52.far ?_ ka.out _ | refine IsS52.far ?_ ma.out _) | exact ea.out))) : ha ≠ g))
                replace ea := aM_ (IsS52.below (by repeat (first | (with_reducible first | exact ea.out | apply IsS52.alloc | apply IsS52.drewN | apply IsS52.drew | apply IsS52.set_1 | refine IsS52.far ?_ ka.out _ | refine IsS52.far ?_ ma.out _) | exact ea.out)) hb)
                clear hb hbox hg
                refine hK.out _ _ ⟨bc_ ca.out 0, bc_ ca.out 1, bc_ ca.out 2⟩ (fun hHeld => ?_)
                clear hK K
                refine nO_ 4 ?_
                exact nQ_ (hJ5_20 (ha) _ ⟨hHeld, (bk_ fa.out), (bk_ ca.out), (bk_ ia.out), za.out, sa.out, oa.out, ra.out, na.out, pa.out, ja.out, qa.out, (by repeat (first | (with_reducible first | exact ea.out | apply IsS52.alloc | apply IsS52.drewN | apply IsS52.drew | apply IsS52.set_1 | refine IsS52.far ?_ ka.out _ | refine IsS52.far ?_ ma.out _ | refine IsS52.far ?_ oa.out _) | exact ea.out)), kB_, (by repeat (first | (with_reducible first | exact HB.out | apply bA_ | apply bN_ | apply bD_ | refine bS_ ?_ (IsS52.ge ea.out) | refine bS_ ?_ ta.out | refine bS_ ?_ va.out | refine bS_ ?_ sa.out) | exact HB.out))⟩)
               skip
               rintro ha Ya ⟨hS_, h0_, h1_, h2_, Ha, Ia, Ra, Sa, Ta, Ua, Va, La, Ma, Na, Oa⟩
               replace fa := aM_ h0_
               replace ca := aM_ h1_
               have ia := aM_ h2_
               have za := aM_ Ha
               have sa := aM_ Ia
               have oa := aM_ Ra
               have ra := aM_ Sa
               have na := aM_ Ta
               have pa := aM_ Ua
               have ja := aM_ Va
               have qa := aM_ La
               replace ea := aM_ Ma
               replace HK := aM_ Na
               replace HB := aM_ Oa
               clear h0_ h1_ h2_ Ha Ia Ra Sa Ta Ua Va La Ma Na Oa
               have hHeld : Ya.cell? ⟨da, 0, none⟩ = some (.string aa) ∧ Ya.cell? ⟨da, 1, none⟩ = some (.string ba) ∧ Ya.cell? ⟨da, 2, none⟩ = some (.string ga) := hS_
               refine nP_ ?_
               refine one_ (i := 6) (N := some 20) (bo_ 22 1198847) rfl rfl (one_of HT_.out (by kernel_rfl)) (by decide) (fun K hK => ?_)
               refine goes_ Tryd.func13 (by kernel_rfl) rfl #[.int .i64 Qa] (by rfl) rfl rfl aR_ ?_
               with_reducible refine (kerbsuitedata_Long.calls Qa Ga _ fe.out).mono ?_
               rintro e w' ⟨rfl, ⟨nd, rfl⟩⟩
               refine ⟨_, rfl, ?_⟩
               refine hK.out _ _ ⟨bc_ ca.out 0, bc_ ca.out 1, bc_ ca.out 2⟩ (fun hHeld => ?_)
               clear hK K
               refine nO_ 20 ?_
               exact nQ_ (hJ5_6_20 (ha) _ ⟨hHeld, (bk_ fa.out), (bk_ ca.out), (bk_ ia.out), za.out, sa.out, oa.out, ra.out, na.out, pa.out, ja.out, qa.out, (by repeat (first | (with_reducible first | exact ea.out | apply IsS52.alloc | apply IsS52.drewN | apply IsS52.drew | apply IsS52.set_1 | refine IsS52.far ?_ ka.out _ | refine IsS52.far ?_ ma.out _ | refine IsS52.far ?_ oa.out _) | exact ea.out)), kB_, (by repeat (first | (with_reducible first | exact HB.out | apply bA_ | apply bN_ | apply bD_ | refine bS_ ?_ (IsS52.ge ea.out) | refine bS_ ?_ ta.out | refine bS_ ?_ va.out | refine bS_ ?_ sa.out) | exact HB.out))⟩)
              skip
              rintro _ yb ⟨hS_, h0_, h1_, h2_, Ha, Ia⟩
              replace fa := aM_ h0_
              replace ca := aM_ h1_
              replace ea := aM_ h2_
              replace HK := aM_ Ha
              replace HB := aM_ Ia
              clear h0_ h1_ h2_ Ha Ia
              have hHeld : yb.cell? ⟨da, 0, none⟩ = some (.string aa) ∧ yb.cell? ⟨da, 1, none⟩ = some (.string ba) ∧ yb.cell? ⟨da, 2, none⟩ = some (.string ga) := hS_
              refine nP_ ?_
              refine two_ (i := 8) (j := 20) (Ni := some 22) (Nj := some 4) (bo_ 22 150527) (bo_ 22 1198847) rfl rfl rfl rfl (two_of HT_.out (by kernel_rfl)) (by decide) (by decide) (fun K hK => ?_) (fun K hK => ?_)
              ·skip
               refine goes_ Tryd.func49 (by kernel_rfl) rfl #[.pointer (some ⟨g, 0, none⟩), .int .i64 256] (by rfl) rfl rfl aR_ ?_
               with_reducible refine (kerbsuitedata_Source_Next.calls g ua Xa 256 Aa ub w0 _ ?side1 ?side2 he.out).mono ?_
               (case side1 => repeat (first | (with_reducible first | exact ea.out | apply IsS52.alloc | apply IsS52.drewN | apply IsS52.drew | apply IsS52.set_1 | refine IsS52.far ?_ ka.out _ | refine IsS52.far ?_ ma.out _) | exact ea.out))
               (case side2 => repeat (first | (with_reducible first | exact HB.out | apply bA_ | apply bN_ | apply bD_ | refine bS_ ?_ (IsS52.ge ea.out) | refine bS_ ?_ ta.out | refine bS_ ?_ va.out) | exact HB.out))
               rintro e Ya ⟨rfl, hi, hb, hk⟩
               refine ⟨_, rfl, ?_⟩
               replace fa := aM_ (KeepBut.blk hk (g' := la) (o := .cells #[.string (⟨#[]⟩ : ByteArray), .string (⟨#[]⟩ : ByteArray), .int .u64 0, .int .i64 0, .int .i64 0, .int .i64 0, .int .i64 0, .int .i64 0, .int .i64 0] 35 (0, 0)) (bk_ fa.out) Ca.out (by simp))
               replace ca := aM_ (KeepBut.blk hk (g' := da) (o := .cells #[.string aa, .string ba, .string ga] 41 (0, 0)) (bk_ ca.out) Da.out (by simp))
               replace HK := aM_ (KeepBut.trans kB_ hk (.inl rfl))
               replace HB := aM_ (hb)
               replace ea := aM_ (hi)
               clear hb hk hi
               refine hK.out _ _ ⟨bc_ ca.out 0, bc_ ca.out 1, bc_ ca.out 2⟩ (fun hHeld => ?_)
               clear hK K
               refine nO_ 22 ?_
               exact nQ_ (hJ5_6_8 () _ ⟨hHeld, (bk_ fa.out), (bk_ ca.out), (by repeat (first | (with_reducible first | exact ea.out | apply IsS52.alloc | apply IsS52.drewN | apply IsS52.drew | apply IsS52.set_1 | refine IsS52.far ?_ ka.out _ | refine IsS52.far ?_ ma.out _) | exact ea.out)), kB_, (by repeat (first | (with_reducible first | exact HB.out | apply bA_ | apply bN_ | apply bD_ | refine bS_ ?_ (IsS52.ge ea.out) | refine bS_ ?_ ta.out | refine bS_ ?_ va.out) | exact HB.out))⟩)
              skip
              refine box_step ?hg (N := 4) ?hd (cs := #[.string (⟨#[]⟩ : ByteArray), .string (⟨#[]⟩ : ByteArray), .int .u64 0, .int .i64 0, .int .i64 0, .int .i64 0, .int .i64 0, .int .i64 0, .int .i64 0]) (t := 35) ?hr ?_; (case hd => rfl); (case hg => rfl); (case hr => first | (go_simp; done) | (go_simp; rfl))
              intro ha hg Ya hbox hb
              replace HB := aM_ (below_step (by repeat (first | (with_reducible first | exact HB.out | apply bA_ | apply bN_ | apply bD_ | refine bS_ ?_ (IsS52.ge ea.out) | refine bS_ ?_ ta.out | refine bS_ ?_ va.out) | exact HB.out)) hb)
              have ia := aM_ (hbox)
              have za := aM_ ((by rw [hg]; exact (keep_size (w := w) (g := g) (row := none) kB_) : w.heap.size ≤ ha))
              have sa := aM_ ((Nat.le_trans HW0.out (by rw [hg]; exact (keep_size (w := w) (g := g) (row := none) kB_) : w.heap.size ≤ ha) : w0.heap.size ≤ ha))
              replace HK := aM_ (KeepBut.trans kB_ (KeepBut.of_below hb g none) (.inl rfl))
              have na := aM_ ((by rw [hg]; exact Nat.ne_of_lt (blk_lt (g := la) (o := .cells #[.string (⟨#[]⟩ : ByteArray), .string (⟨#[]⟩ : ByteArray), .int .u64 0, .int .i64 0, .int .i64 0, .int .i64 0, .int .i64 0, .int .i64 0, .int .i64 0] 35 (0, 0)) (bk_ fa.out)) : la ≠ ha))
              have pa := aM_ ((by rw [hg]; exact Nat.ne_of_gt (blk_lt (g := la) (o := .cells #[.string (⟨#[]⟩ : ByteArray), .string (⟨#[]⟩ : ByteArray), .int .u64 0, .int .i64 0, .int .i64 0, .int .i64 0, .int .i64 0, .int .i64 0, .int .i64 0] 35 (0, 0)) (bk_ fa.out)) : ha ≠ la))
              replace fa := aM_ (blk_below (g := la) (o := .cells #[.string (⟨#[]⟩ : ByteArray), .string (⟨#[]⟩ : ByteArray), .int .u64 0, .int .i64 0, .int .i64 0, .int .i64 0, .int .i64 0, .int .i64 0, .int .i64 0] 35 (0, 0)) (bk_ fa.out) hb)
              have ja := aM_ ((by rw [hg]; exact Nat.ne_of_lt (blk_lt (g := da) (o := .cells #[.string aa, .string ba, .string ga] 41 (0, 0)) (bk_ ca.out)) : da ≠ ha))
              have qa := aM_ ((by rw [hg]; exact Nat.ne_of_gt (blk_lt (g := da) (o := .cells #[.string aa, .string ba, .string ga] 41 (0, 0)) (bk_ ca.out)) : ha ≠ da))
              replace ca := aM_ (blk_below (g := da) (o := .cells #[.string aa, .string ba, .string ga] 41 (0, 0)) (bk_ ca.out) hb)
              have oa := aM_ ((by rw [hg]; exact Nat.ne_of_lt (IsS52.lt (show IsS52 w0 _ g ua Xa from by repeat (first | (with_reducible first | exact ea.out | apply IsS52.alloc | apply IsS52.drewN | apply IsS52.drew | apply IsS52.set_1 | refine IsS52.far ?_ ka.out _ | refine IsS52.far ?_ ma.out _) | exact ea.out))) : g ≠ ha))
              have ra := aM_ ((by rw [hg]; exact Nat.ne_of_gt (IsS52.lt (show IsS52 w0 _ g ua Xa from by repeat (first | (with_reducible first | exact ea.out | apply IsS52.alloc | apply IsS52.drewN | apply IsS52.drew | apply IsS52.set_1 | refine IsS52.far ?_ ka.out _ | refine IsS52.far ?_ ma.out _) | exact ea.out))) : ha ≠ g))
              replace ea := aM_ (IsS52.below (by repeat (first | (with_reducible first | exact ea.out | apply IsS52.alloc | apply IsS52.drewN | apply IsS52.drew | apply IsS52.set_1 | refine IsS52.far ?_ ka.out _ | refine IsS52.far ?_ ma.out _) | exact ea.out)) hb)
              clear hb hbox hg
              refine hK.out _ _ ⟨bc_ ca.out 0, bc_ ca.out 1, bc_ ca.out 2⟩ (fun hHeld => ?_)
              clear hK K
              refine nO_ 4 ?_
              exact nQ_ (hJ5_6_20 (ha) _ ⟨hHeld, (bk_ fa.out), (bk_ ca.out), (bk_ ia.out), za.out, sa.out, oa.out, ra.out, na.out, pa.out, ja.out, qa.out, (by repeat (first | (with_reducible first | exact ea.out | apply IsS52.alloc | apply IsS52.drewN | apply IsS52.drew | apply IsS52.set_1 | refine IsS52.far ?_ ka.out _ | refine IsS52.far ?_ ma.out _ | refine IsS52.far ?_ oa.out _) | exact ea.out)), kB_, (by repeat (first | (with_reducible first | exact HB.out | apply bA_ | apply bN_ | apply bD_ | refine bS_ ?_ (IsS52.ge ea.out) | refine bS_ ?_ ta.out | refine bS_ ?_ va.out | refine bS_ ?_ sa.out) | exact HB.out))⟩)
             skip
             rintro ha Ya ⟨hS_, h0_, h1_, h2_, Ha, Ia, Ra, Sa, Ta, Ua, Va, La, Ma, Na, Oa⟩
             replace fa := aM_ h0_
             replace ca := aM_ h1_
             have ia := aM_ h2_
             have za := aM_ Ha
             have sa := aM_ Ia
             have oa := aM_ Ra
             have ra := aM_ Sa
             have na := aM_ Ta
             have pa := aM_ Ua
             have ja := aM_ Va
             have qa := aM_ La
             replace ea := aM_ Ma
             replace HK := aM_ Na
             replace HB := aM_ Oa
             clear h0_ h1_ h2_ Ha Ia Ra Sa Ta Ua Va La Ma Na Oa
             have hHeld : Ya.cell? ⟨da, 0, none⟩ = some (.string aa) ∧ Ya.cell? ⟨da, 1, none⟩ = some (.string ba) ∧ Ya.cell? ⟨da, 2, none⟩ = some (.string ga) := hS_
             refine nP_ ?_
             refine one_ (i := 8) (N := some 22) (bo_ 22 1199103) rfl rfl (one_of HT_.out (by kernel_rfl)) (by decide) (fun K hK => ?_)
             refine goes_ Tryd.func49 (by kernel_rfl) rfl #[.pointer (some ⟨g, 0, none⟩), .int .i64 256] (by rfl) rfl rfl aR_ ?_
             with_reducible refine (kerbsuitedata_Source_Next.calls g ua Xa 256 Aa ub w0 _ ?side1 ?side2 he.out).mono ?_
             (case side1 => repeat (first | (with_reducible first | exact ea.out | apply IsS52.alloc | apply IsS52.drewN | apply IsS52.drew | apply IsS52.set_1 | refine IsS52.far ?_ ka.out _ | refine IsS52.far ?_ ma.out _ | refine IsS52.far ?_ oa.out _) | exact ea.out))
             (case side2 => repeat (first | (with_reducible first | exact HB.out | apply bA_ | apply bN_ | apply bD_ | refine bS_ ?_ (IsS52.ge ea.out) | refine bS_ ?_ ta.out | refine bS_ ?_ va.out | refine bS_ ?_ sa.out) | exact HB.out))
             rintro e Db ⟨rfl, hi, hb, hk⟩
             refine ⟨_, rfl, ?_⟩
             replace fa := aM_ (KeepBut.blk hk (g' := la) (o := .cells #[.string (⟨#[]⟩ : ByteArray), .string (⟨#[]⟩ : ByteArray), .int .u64 0, .int .i64 0, .int .i64 0, .int .i64 0, .int .i64 0, .int .i64 0, .int .i64 0] 35 (0, 0)) (bk_ fa.out) Ca.out (by simp))
             replace ca := aM_ (KeepBut.blk hk (g' := da) (o := .cells #[.string aa, .string ba, .string ga] 41 (0, 0)) (bk_ ca.out) Da.out (by simp))
             replace ia := aM_ (KeepBut.blk hk (g' := ha) (o := .cells #[.string (⟨#[]⟩ : ByteArray), .string (⟨#[]⟩ : ByteArray), .int .u64 0, .int .i64 0, .int .i64 0, .int .i64 0, .int .i64 0, .int .i64 0, .int .i64 0] 35 (0, 0)) (bk_ ia.out) ra.out (by simp))
             replace HK := aM_ (KeepBut.trans kB_ hk (.inl rfl))
             replace HB := aM_ (hb)
             replace ea := aM_ (hi)
             clear hb hk hi
             refine hK.out _ _ ⟨bc_ ca.out 0, bc_ ca.out 1, bc_ ca.out 2⟩ (fun hHeld => ?_)
             clear hK K
             refine nO_ 22 ?_
             exact nQ_ (hJ5_6_8_20 (ha) _ ⟨hHeld, (bk_ fa.out), (bk_ ca.out), (bk_ ia.out), za.out, sa.out, oa.out, ra.out, na.out, pa.out, ja.out, qa.out, (by repeat (first | (with_reducible first | exact ea.out | apply IsS52.alloc | apply IsS52.drewN | apply IsS52.drew | apply IsS52.set_1 | refine IsS52.far ?_ ka.out _ | refine IsS52.far ?_ ma.out _ | refine IsS52.far ?_ oa.out _) | exact ea.out)), kB_, (by repeat (first | (with_reducible first | exact HB.out | apply bA_ | apply bN_ | apply bD_ | refine bS_ ?_ (IsS52.ge ea.out) | refine bS_ ?_ ta.out | refine bS_ ?_ va.out | refine bS_ ?_ sa.out) | exact HB.out))⟩)
            skip
            rintro _ Ya ⟨hS_, h0_, h1_, h2_, Ha, Ia⟩
            replace fa := aM_ h0_
            replace ca := aM_ h1_
            replace ea := aM_ h2_
            replace HK := aM_ Ha
            replace HB := aM_ Ia
            clear h0_ h1_ h2_ Ha Ia
            have hHeld : Ya.cell? ⟨da, 0, none⟩ = some (.string aa) ∧ Ya.cell? ⟨da, 1, none⟩ = some (.string ba) ∧ Ya.cell? ⟨da, 2, none⟩ = some (.string ga) := hS_
            refine nP_ ?_
            refine two_ (i := 10) (j := 20) (Ni := some 24) (Nj := some 4) (bo_ 22 151551) (bo_ 22 1199103) rfl rfl rfl rfl (two_of HT_.out (by kernel_rfl)) (by decide) (by decide) (fun K hK => ?_) (fun K hK => ?_)
            ·skip
             refine goes_ Tryd.func49 (by kernel_rfl) rfl #[.pointer (some ⟨g, 0, none⟩), .int .i64 256] (by rfl) rfl rfl aR_ ?_
             with_reducible refine (kerbsuitedata_Source_Next.calls g ua ub 256 Ea vb w0 _ ?side1 ?side2 ie.out).mono ?_
             (case side1 => repeat (first | (with_reducible first | exact ea.out | apply IsS52.alloc | apply IsS52.drewN | apply IsS52.drew | apply IsS52.set_1 | refine IsS52.far ?_ ka.out _ | refine IsS52.far ?_ ma.out _) | exact ea.out))
             (case side2 => repeat (first | (with_reducible first | exact HB.out | apply bA_ | apply bN_ | apply bD_ | refine bS_ ?_ (IsS52.ge ea.out) | refine bS_ ?_ ta.out | refine bS_ ?_ va.out) | exact HB.out))
             rintro e Db ⟨rfl, hi, hb, hk⟩
             refine ⟨_, rfl, ?_⟩
             replace fa := aM_ (KeepBut.blk hk (g' := la) (o := .cells #[.string (⟨#[]⟩ : ByteArray), .string (⟨#[]⟩ : ByteArray), .int .u64 0, .int .i64 0, .int .i64 0, .int .i64 0, .int .i64 0, .int .i64 0, .int .i64 0] 35 (0, 0)) (bk_ fa.out) Ca.out (by simp))
             replace ca := aM_ (KeepBut.blk hk (g' := da) (o := .cells #[.string aa, .string ba, .string ga] 41 (0, 0)) (bk_ ca.out) Da.out (by simp))
             replace HK := aM_ (KeepBut.trans kB_ hk (.inl rfl))
             replace HB := aM_ (hb)
             replace ea := aM_ (hi)
             clear hb hk hi
             refine hK.out _ _ ⟨bc_ ca.out 0, bc_ ca.out 1, bc_ ca.out 2⟩ (fun hHeld => ?_)
             clear hK K
             refine nO_ 24 ?_
             exact nQ_ (hJ5_6_8_10 () _ ⟨hHeld, (bk_ fa.out), (bk_ ca.out), (by repeat (first | (with_reducible first | exact ea.out | apply IsS52.alloc | apply IsS52.drewN | apply IsS52.drew | apply IsS52.set_1 | refine IsS52.far ?_ ka.out _ | refine IsS52.far ?_ ma.out _) | exact ea.out)), kB_, (by repeat (first | (with_reducible first | exact HB.out | apply bA_ | apply bN_ | apply bD_ | refine bS_ ?_ (IsS52.ge ea.out) | refine bS_ ?_ ta.out | refine bS_ ?_ va.out) | exact HB.out))⟩)
            skip
            refine box_step ?hg (N := 4) ?hd (cs := #[.string (⟨#[]⟩ : ByteArray), .string (⟨#[]⟩ : ByteArray), .int .u64 0, .int .i64 0, .int .i64 0, .int .i64 0, .int .i64 0, .int .i64 0, .int .i64 0]) (t := 35) ?hr ?_; (case hd => rfl); (case hg => rfl); (case hr => first | (go_simp; done) | (go_simp; rfl))
            intro ha hg Db hbox hb
            replace HB := aM_ (below_step (by repeat (first | (with_reducible first | exact HB.out | apply bA_ | apply bN_ | apply bD_ | refine bS_ ?_ (IsS52.ge ea.out) | refine bS_ ?_ ta.out | refine bS_ ?_ va.out) | exact HB.out)) hb)
            have ia := aM_ (hbox)
            have za := aM_ ((by rw [hg]; exact (keep_size (w := w) (g := g) (row := none) kB_) : w.heap.size ≤ ha))
            have sa := aM_ ((Nat.le_trans HW0.out (by rw [hg]; exact (keep_size (w := w) (g := g) (row := none) kB_) : w.heap.size ≤ ha) : w0.heap.size ≤ ha))
            replace HK := aM_ (KeepBut.trans kB_ (KeepBut.of_below hb g none) (.inl rfl))
            have na := aM_ ((by rw [hg]; exact Nat.ne_of_lt (blk_lt (g := la) (o := .cells #[.string (⟨#[]⟩ : ByteArray), .string (⟨#[]⟩ : ByteArray), .int .u64 0, .int .i64 0, .int .i64 0, .int .i64 0, .int .i64 0, .int .i64 0, .int .i64 0] 35 (0, 0)) (bk_ fa.out)) : la ≠ ha))
            have pa := aM_ ((by rw [hg]; exact Nat.ne_of_gt (blk_lt (g := la) (o := .cells #[.string (⟨#[]⟩ : ByteArray), .string (⟨#[]⟩ : ByteArray), .int .u64 0, .int .i64 0, .int .i64 0, .int .i64 0, .int .i64 0, .int .i64 0, .int .i64 0] 35 (0, 0)) (bk_ fa.out)) : ha ≠ la))
            replace fa := aM_ (blk_below (g := la) (o := .cells #[.string (⟨#[]⟩ : ByteArray), .string (⟨#[]⟩ : ByteArray), .int .u64 0, .int .i64 0, .int .i64 0, .int .i64 0, .int .i64 0, .int .i64 0, .int .i64 0] 35 (0, 0)) (bk_ fa.out) hb)
            have ja := aM_ ((by rw [hg]; exact Nat.ne_of_lt (blk_lt (g := da) (o := .cells #[.string aa, .string ba, .string ga] 41 (0, 0)) (bk_ ca.out)) : da ≠ ha))
            have qa := aM_ ((by rw [hg]; exact Nat.ne_of_gt (blk_lt (g := da) (o := .cells #[.string aa, .string ba, .string ga] 41 (0, 0)) (bk_ ca.out)) : ha ≠ da))
            replace ca := aM_ (blk_below (g := da) (o := .cells #[.string aa, .string ba, .string ga] 41 (0, 0)) (bk_ ca.out) hb)
            have oa := aM_ ((by rw [hg]; exact Nat.ne_of_lt (IsS52.lt (show IsS52 w0 _ g ua ub from by repeat (first | (with_reducible first | exact ea.out | apply IsS52.alloc | apply IsS52.drewN | apply IsS52.drew | apply IsS52.set_1 | refine IsS52.far ?_ ka.out _ | refine IsS52.far ?_ ma.out _) | exact ea.out))) : g ≠ ha))
            have ra := aM_ ((by rw [hg]; exact Nat.ne_of_gt (IsS52.lt (show IsS52 w0 _ g ua ub from by repeat (first | (with_reducible first | exact ea.out | apply IsS52.alloc | apply IsS52.drewN | apply IsS52.drew | apply IsS52.set_1 | refine IsS52.far ?_ ka.out _ | refine IsS52.far ?_ ma.out _) | exact ea.out))) : ha ≠ g))
            replace ea := aM_ (IsS52.below (by repeat (first | (with_reducible first | exact ea.out | apply IsS52.alloc | apply IsS52.drewN | apply IsS52.drew | apply IsS52.set_1 | refine IsS52.far ?_ ka.out _ | refine IsS52.far ?_ ma.out _) | exact ea.out)) hb)
            clear hb hbox hg
            refine hK.out _ _ ⟨bc_ ca.out 0, bc_ ca.out 1, bc_ ca.out 2⟩ (fun hHeld => ?_)
            clear hK K
            refine nO_ 4 ?_
            exact nQ_ (hJ5_6_8_20 (ha) _ ⟨hHeld, (bk_ fa.out), (bk_ ca.out), (bk_ ia.out), za.out, sa.out, oa.out, ra.out, na.out, pa.out, ja.out, qa.out, (by repeat (first | (with_reducible first | exact ea.out | apply IsS52.alloc | apply IsS52.drewN | apply IsS52.drew | apply IsS52.set_1 | refine IsS52.far ?_ ka.out _ | refine IsS52.far ?_ ma.out _ | refine IsS52.far ?_ oa.out _) | exact ea.out)), kB_, (by repeat (first | (with_reducible first | exact HB.out | apply bA_ | apply bN_ | apply bD_ | refine bS_ ?_ (IsS52.ge ea.out) | refine bS_ ?_ ta.out | refine bS_ ?_ va.out | refine bS_ ?_ sa.out) | exact HB.out))⟩)
           skip
           rintro ha Db ⟨hS_, h0_, h1_, h2_, Ha, Ia, Ra, Sa, Ta, Ua, Va, La, Ma, Na, Oa⟩
           replace fa := aM_ h0_
           replace ca := aM_ h1_
           have ia := aM_ h2_
           have za := aM_ Ha
           have sa := aM_ Ia
           have oa := aM_ Ra
           have ra := aM_ Sa
           have na := aM_ Ta
           have pa := aM_ Ua
           have ja := aM_ Va
           have qa := aM_ La
           replace ea := aM_ Ma
           replace HK := aM_ Na
           replace HB := aM_ Oa
           clear h0_ h1_ h2_ Ha Ia Ra Sa Ta Ua Va La Ma Na Oa
           have hHeld : Db.cell? ⟨da, 0, none⟩ = some (.string aa) ∧ Db.cell? ⟨da, 1, none⟩ = some (.string ba) ∧ Db.cell? ⟨da, 2, none⟩ = some (.string ga) := hS_
           refine nP_ ?_
           refine one_ (i := 10) (N := some 24) (bo_ 22 1200127) rfl rfl (one_of HT_.out (by kernel_rfl)) (by decide) (fun K hK => ?_)
           refine goes_ Tryd.func49 (by kernel_rfl) rfl #[.pointer (some ⟨g, 0, none⟩), .int .i64 256] (by rfl) rfl rfl aR_ ?_
           with_reducible refine (kerbsuitedata_Source_Next.calls g ua ub 256 Ea vb w0 _ ?side1 ?side2 ie.out).mono ?_
           (case side1 => repeat (first | (with_reducible first | exact ea.out | apply IsS52.alloc | apply IsS52.drewN | apply IsS52.drew | apply IsS52.set_1 | refine IsS52.far ?_ ka.out _ | refine IsS52.far ?_ ma.out _ | refine IsS52.far ?_ oa.out _) | exact ea.out))
           (case side2 => repeat (first | (with_reducible first | exact HB.out | apply bA_ | apply bN_ | apply bD_ | refine bS_ ?_ (IsS52.ge ea.out) | refine bS_ ?_ ta.out | refine bS_ ?_ va.out | refine bS_ ?_ sa.out) | exact HB.out))
           rintro e Eb ⟨rfl, hi, hb, hk⟩
           refine ⟨_, rfl, ?_⟩
           replace fa := aM_ (KeepBut.blk hk (g' := la) (o := .cells #[.string (⟨#[]⟩ : ByteArray), .string (⟨#[]⟩ : ByteArray), .int .u64 0, .int .i64 0, .int .i64 0, .int .i64 0, .int .i64 0, .int .i64 0, .int .i64 0] 35 (0, 0)) (bk_ fa.out) Ca.out (by simp))
           replace ca := aM_ (KeepBut.blk hk (g' := da) (o := .cells #[.string aa, .string ba, .string ga] 41 (0, 0)) (bk_ ca.out) Da.out (by simp))
           replace ia := aM_ (KeepBut.blk hk (g' := ha) (o := .cells #[.string (⟨#[]⟩ : ByteArray), .string (⟨#[]⟩ : ByteArray), .int .u64 0, .int .i64 0, .int .i64 0, .int .i64 0, .int .i64 0, .int .i64 0, .int .i64 0] 35 (0, 0)) (bk_ ia.out) ra.out (by simp))
           replace HK := aM_ (KeepBut.trans kB_ hk (.inl rfl))
           replace HB := aM_ (hb)
           replace ea := aM_ (hi)
           clear hb hk hi
           refine hK.out _ _ ⟨bc_ ca.out 0, bc_ ca.out 1, bc_ ca.out 2⟩ (fun hHeld => ?_)
           clear hK K
           refine nO_ 24 ?_
           exact nQ_ (hJ5_6_8_10_20 (ha) _ ⟨hHeld, (bk_ fa.out), (bk_ ca.out), (bk_ ia.out), za.out, sa.out, oa.out, ra.out, na.out, pa.out, ja.out, qa.out, (by repeat (first | (with_reducible first | exact ea.out | apply IsS52.alloc | apply IsS52.drewN | apply IsS52.drew | apply IsS52.set_1 | refine IsS52.far ?_ ka.out _ | refine IsS52.far ?_ ma.out _ | refine IsS52.far ?_ oa.out _) | exact ea.out)), kB_, (by repeat (first | (with_reducible first | exact HB.out | apply bA_ | apply bN_ | apply bD_ | refine bS_ ?_ (IsS52.ge ea.out) | refine bS_ ?_ ta.out | refine bS_ ?_ va.out | refine bS_ ?_ sa.out) | exact HB.out))⟩)
          skip
          rintro _ Db ⟨hS_, h0_, h1_, h2_, Ha, Ia⟩
          replace fa := aM_ h0_
          replace ca := aM_ h1_
          replace ea := aM_ h2_
          replace HK := aM_ Ha
          replace HB := aM_ Ia
          clear h0_ h1_ h2_ Ha Ia
          have hHeld : Db.cell? ⟨da, 0, none⟩ = some (.string aa) ∧ Db.cell? ⟨da, 1, none⟩ = some (.string ba) ∧ Db.cell? ⟨da, 2, none⟩ = some (.string ga) := hS_
          refine nP_ ?_
          refine two_ (i := 12) (j := 20) (Ni := some 26) (Nj := some 4) (bo_ 22 155647) (bo_ 22 1200127) rfl rfl rfl rfl (two_of HT_.out (by kernel_rfl)) (by decide) (by decide) (fun K hK => ?_) (fun K hK => ?_)
          ·skip
           refine goes_ Tryd.func49 (by kernel_rfl) rfl #[.pointer (some ⟨g, 0, none⟩), .int .i64 5] (by rfl) rfl rfl aR_ ?_
           with_reducible refine (kerbsuitedata_Source_Next.calls g ua vb 5 Ba wb w0 _ ?side1 ?side2 je.out).mono ?_
           (case side1 => repeat (first | (with_reducible first | exact ea.out | apply IsS52.alloc | apply IsS52.drewN | apply IsS52.drew | apply IsS52.set_1 | refine IsS52.far ?_ ka.out _ | refine IsS52.far ?_ ma.out _) | exact ea.out))
           (case side2 => repeat (first | (with_reducible first | exact HB.out | apply bA_ | apply bN_ | apply bD_ | refine bS_ ?_ (IsS52.ge ea.out) | refine bS_ ?_ ta.out | refine bS_ ?_ va.out) | exact HB.out))
           rintro e Eb ⟨rfl, hi, hb, hk⟩
           refine ⟨_, rfl, ?_⟩
           replace fa := aM_ (KeepBut.blk hk (g' := la) (o := .cells #[.string (⟨#[]⟩ : ByteArray), .string (⟨#[]⟩ : ByteArray), .int .u64 0, .int .i64 0, .int .i64 0, .int .i64 0, .int .i64 0, .int .i64 0, .int .i64 0] 35 (0, 0)) (bk_ fa.out) Ca.out (by simp))
           replace ca := aM_ (KeepBut.blk hk (g' := da) (o := .cells #[.string aa, .string ba, .string ga] 41 (0, 0)) (bk_ ca.out) Da.out (by simp))
           replace HK := aM_ (KeepBut.trans kB_ hk (.inl rfl))
           replace HB := aM_ (hb)
           replace ea := aM_ (hi)
           clear hb hk hi
           refine hK.out _ _ ⟨bc_ ca.out 0, bc_ ca.out 1, bc_ ca.out 2⟩ (fun hHeld => ?_)
           clear hK K
           refine nO_ 26 ?_
           refine pU_ 13 (some 27) (bo_ 22 163839) ?_
           exact nQ_ (hJ5_6_8_10_12 () _ ⟨hHeld, (bk_ fa.out), (bk_ ca.out), (by repeat (first | (with_reducible first | exact ea.out | apply IsS52.alloc | apply IsS52.drewN | apply IsS52.drew | apply IsS52.set_1 | refine IsS52.far ?_ ka.out _ | refine IsS52.far ?_ ma.out _) | exact ea.out)), kB_, (by repeat (first | (with_reducible first | exact HB.out | apply bA_ | apply bN_ | apply bD_ | refine bS_ ?_ (IsS52.ge ea.out) | refine bS_ ?_ ta.out | refine bS_ ?_ va.out) | exact HB.out))⟩)
          skip
          refine box_step ?hg (N := 4) ?hd (cs := #[.string (⟨#[]⟩ : ByteArray), .string (⟨#[]⟩ : ByteArray), .int .u64 0, .int .i64 0, .int .i64 0, .int .i64 0, .int .i64 0, .int .i64 0, .int .i64 0]) (t := 35) ?hr ?_; (case hd => rfl); (case hg => rfl); (case hr => first | (go_simp; done) | (go_simp; rfl))
          intro ha hg Eb hbox hb
          replace HB := aM_ (below_step (by repeat (first | (with_reducible first | exact HB.out | apply bA_ | apply bN_ | apply bD_ | refine bS_ ?_ (IsS52.ge ea.out) | refine bS_ ?_ ta.out | refine bS_ ?_ va.out) | exact HB.out)) hb)
          have ia := aM_ (hbox)
          have za := aM_ ((by rw [hg]; exact (keep_size (w := w) (g := g) (row := none) kB_) : w.heap.size ≤ ha))
          have sa := aM_ ((Nat.le_trans HW0.out (by rw [hg]; exact (keep_size (w := w) (g := g) (row := none) kB_) : w.heap.size ≤ ha) : w0.heap.size ≤ ha))
          replace HK := aM_ (KeepBut.trans kB_ (KeepBut.of_below hb g none) (.inl rfl))
          have na := aM_ ((by rw [hg]; exact Nat.ne_of_lt (blk_lt (g := la) (o := .cells #[.string (⟨#[]⟩ : ByteArray), .string (⟨#[]⟩ : ByteArray), .int .u64 0, .int .i64 0, .int .i64 0, .int .i64 0, .int .i64 0, .int .i64 0, .int .i64 0] 35 (0, 0)) (bk_ fa.out)) : la ≠ ha))
          have pa := aM_ ((by rw [hg]; exact Nat.ne_of_gt (blk_lt (g := la) (o := .cells #[.string (⟨#[]⟩ : ByteArray), .string (⟨#[]⟩ : ByteArray), .int .u64 0, .int .i64 0, .int .i64 0, .int .i64 0, .int .i64 0, .int .i64 0, .int .i64 0] 35 (0, 0)) (bk_ fa.out)) : ha ≠ la))
          replace fa := aM_ (blk_below (g := la) (o := .cells #[.string (⟨#[]⟩ : ByteArray), .string (⟨#[]⟩ : ByteArray), .int .u64 0, .int .i64 0, .int .i64 0, .int .i64 0, .int .i64 0, .int .i64 0, .int .i64 0] 35 (0, 0)) (bk_ fa.out) hb)
          have ja := aM_ ((by rw [hg]; exact Nat.ne_of_lt (blk_lt (g := da) (o := .cells #[.string aa, .string ba, .string ga] 41 (0, 0)) (bk_ ca.out)) : da ≠ ha))
          have qa := aM_ ((by rw [hg]; exact Nat.ne_of_gt (blk_lt (g := da) (o := .cells #[.string aa, .string ba, .string ga] 41 (0, 0)) (bk_ ca.out)) : ha ≠ da))
          replace ca := aM_ (blk_below (g := da) (o := .cells #[.string aa, .string ba, .string ga] 41 (0, 0)) (bk_ ca.out) hb)
          have oa := aM_ ((by rw [hg]; exact Nat.ne_of_lt (IsS52.lt (show IsS52 w0 _ g ua vb from by repeat (first | (with_reducible first | exact ea.out | apply IsS52.alloc | apply IsS52.drewN | apply IsS52.drew | apply IsS52.set_1 | refine IsS52.far ?_ ka.out _ | refine IsS52.far ?_ ma.out _) | exact ea.out))) : g ≠ ha))
          have ra := aM_ ((by rw [hg]; exact Nat.ne_of_gt (IsS52.lt (show IsS52 w0 _ g ua vb from by repeat (first | (with_reducible first | exact ea.out | apply IsS52.alloc | apply IsS52.drewN | apply IsS52.drew | apply IsS52.set_1 | refine IsS52.far ?_ ka.out _ | refine IsS52.far ?_ ma.out _) | exact ea.out))) : ha ≠ g))
          replace ea := aM_ (IsS52.below (by repeat (first | (with_reducible first | exact ea.out | apply IsS52.alloc | apply IsS52.drewN | apply IsS52.drew | apply IsS52.set_1 | refine IsS52.far ?_ ka.out _ | refine IsS52.far ?_ ma.out _) | exact ea.out)) hb)
          clear hb hbox hg
          refine hK.out _ _ ⟨bc_ ca.out 0, bc_ ca.out 1, bc_ ca.out 2⟩ (fun hHeld => ?_)
          clear hK K
          refine nO_ 4 ?_
          exact nQ_ (hJ5_6_8_10_20 (ha) _ ⟨hHeld, (bk_ fa.out), (bk_ ca.out), (bk_ ia.out), za.out, sa.out, oa.out, ra.out, na.out, pa.out, ja.out, qa.out, (by repeat (first | (with_reducible first | exact ea.out | apply IsS52.alloc | apply IsS52.drewN | apply IsS52.drew | apply IsS52.set_1 | refine IsS52.far ?_ ka.out _ | refine IsS52.far ?_ ma.out _ | refine IsS52.far ?_ oa.out _) | exact ea.out)), kB_, (by repeat (first | (with_reducible first | exact HB.out | apply bA_ | apply bN_ | apply bD_ | refine bS_ ?_ (IsS52.ge ea.out) | refine bS_ ?_ ta.out | refine bS_ ?_ va.out | refine bS_ ?_ sa.out) | exact HB.out))⟩)
         skip
         rintro ha Eb ⟨hS_, h0_, h1_, h2_, Ha, Ia, Ra, Sa, Ta, Ua, Va, La, Ma, Na, Oa⟩
         replace fa := aM_ h0_
         replace ca := aM_ h1_
         have ia := aM_ h2_
         have za := aM_ Ha
         have sa := aM_ Ia
         have oa := aM_ Ra
         have ra := aM_ Sa
         have na := aM_ Ta
         have pa := aM_ Ua
         have ja := aM_ Va
         have qa := aM_ La
         replace ea := aM_ Ma
         replace HK := aM_ Na
         replace HB := aM_ Oa
         clear h0_ h1_ h2_ Ha Ia Ra Sa Ta Ua Va La Ma Na Oa
         have hHeld : Eb.cell? ⟨da, 0, none⟩ = some (.string aa) ∧ Eb.cell? ⟨da, 1, none⟩ = some (.string ba) ∧ Eb.cell? ⟨da, 2, none⟩ = some (.string ga) := hS_
         refine nP_ ?_
         refine one_ (i := 12) (N := some 26) (bo_ 22 1204223) rfl rfl (one_of HT_.out (by kernel_rfl)) (by decide) (fun K hK => ?_)
         refine goes_ Tryd.func49 (by kernel_rfl) rfl #[.pointer (some ⟨g, 0, none⟩), .int .i64 5] (by rfl) rfl rfl aR_ ?_
         with_reducible refine (kerbsuitedata_Source_Next.calls g ua vb 5 Ba wb w0 _ ?side1 ?side2 je.out).mono ?_
         (case side1 => repeat (first | (with_reducible first | exact ea.out | apply IsS52.alloc | apply IsS52.drewN | apply IsS52.drew | apply IsS52.set_1 | refine IsS52.far ?_ ka.out _ | refine IsS52.far ?_ ma.out _ | refine IsS52.far ?_ oa.out _) | exact ea.out))
         (case side2 => repeat (first | (with_reducible first | exact HB.out | apply bA_ | apply bN_ | apply bD_ | refine bS_ ?_ (IsS52.ge ea.out) | refine bS_ ?_ ta.out | refine bS_ ?_ va.out | refine bS_ ?_ sa.out) | exact HB.out))
         rintro e Fb ⟨rfl, hi, hb, hk⟩
         refine ⟨_, rfl, ?_⟩
         replace fa := aM_ (KeepBut.blk hk (g' := la) (o := .cells #[.string (⟨#[]⟩ : ByteArray), .string (⟨#[]⟩ : ByteArray), .int .u64 0, .int .i64 0, .int .i64 0, .int .i64 0, .int .i64 0, .int .i64 0, .int .i64 0] 35 (0, 0)) (bk_ fa.out) Ca.out (by simp))
         replace ca := aM_ (KeepBut.blk hk (g' := da) (o := .cells #[.string aa, .string ba, .string ga] 41 (0, 0)) (bk_ ca.out) Da.out (by simp))
         replace ia := aM_ (KeepBut.blk hk (g' := ha) (o := .cells #[.string (⟨#[]⟩ : ByteArray), .string (⟨#[]⟩ : ByteArray), .int .u64 0, .int .i64 0, .int .i64 0, .int .i64 0, .int .i64 0, .int .i64 0, .int .i64 0] 35 (0, 0)) (bk_ ia.out) ra.out (by simp))
         replace HK := aM_ (KeepBut.trans kB_ hk (.inl rfl))
         replace HB := aM_ (hb)
         replace ea := aM_ (hi)
         clear hb hk hi
         refine hK.out _ _ ⟨bc_ ca.out 0, bc_ ca.out 1, bc_ ca.out 2⟩ (fun hHeld => ?_)
         clear hK K
         refine nO_ 26 ?_
         refine pU_ 13 (some 27) (bo_ 22 1212415) ?_
         exact nQ_ (hJ5_6_8_10_12_20 (ha) _ ⟨hHeld, (bk_ fa.out), (bk_ ca.out), (bk_ ia.out), za.out, sa.out, oa.out, ra.out, na.out, pa.out, ja.out, qa.out, (by repeat (first | (with_reducible first | exact ea.out | apply IsS52.alloc | apply IsS52.drewN | apply IsS52.drew | apply IsS52.set_1 | refine IsS52.far ?_ ka.out _ | refine IsS52.far ?_ ma.out _ | refine IsS52.far ?_ oa.out _) | exact ea.out)), kB_, (by repeat (first | (with_reducible first | exact HB.out | apply bA_ | apply bN_ | apply bD_ | refine bS_ ?_ (IsS52.ge ea.out) | refine bS_ ?_ ta.out | refine bS_ ?_ va.out | refine bS_ ?_ sa.out) | exact HB.out))⟩)
        skip
        rintro _ Eb ⟨hS_, h0_, h1_, h2_, Ha, Ia⟩
        replace fa := aM_ h0_
        replace ca := aM_ h1_
        replace ea := aM_ h2_
        replace HK := aM_ Ha
        replace HB := aM_ Ia
        clear h0_ h1_ h2_ Ha Ia
        have hHeld : Eb.cell? ⟨da, 0, none⟩ = some (.string aa) ∧ Eb.cell? ⟨da, 1, none⟩ = some (.string ba) ∧ Eb.cell? ⟨da, 2, none⟩ = some (.string ga) := hS_
        refine nP_ ?_
        refine two_ (i := 15) (j := 20) (Ni := some 29) (Nj := some 4) (bo_ 22 196607) (bo_ 22 1212415) rfl rfl rfl rfl (two_of HT_.out (by kernel_rfl)) (by decide) (by decide) (fun K hK => ?_) (fun K hK => ?_)
        ·skip
         refine goes_ Tryd.func49 (by kernel_rfl) rfl #[.pointer (some ⟨g, 0, none⟩), .int .i64 4] (by rfl) rfl rfl aR_ ?_
         with_reducible refine (kerbsuitedata_Source_Next.calls g ua wb 4 Fa xb w0 _ ?side1 ?side2 ke.out).mono ?_
         (case side1 => repeat (first | (with_reducible first | exact ea.out | apply IsS52.alloc | apply IsS52.drewN | apply IsS52.drew | apply IsS52.set_1 | refine IsS52.far ?_ ka.out _ | refine IsS52.far ?_ ma.out _) | exact ea.out))
         (case side2 => repeat (first | (with_reducible first | exact HB.out | apply bA_ | apply bN_ | apply bD_ | refine bS_ ?_ (IsS52.ge ea.out) | refine bS_ ?_ ta.out | refine bS_ ?_ va.out) | exact HB.out))
         rintro e Fb ⟨rfl, hi, hb, hk⟩
         refine ⟨_, rfl, ?_⟩
         replace fa := aM_ (KeepBut.blk hk (g' := la) (o := .cells #[.string (⟨#[]⟩ : ByteArray), .string (⟨#[]⟩ : ByteArray), .int .u64 0, .int .i64 0, .int .i64 0, .int .i64 0, .int .i64 0, .int .i64 0, .int .i64 0] 35 (0, 0)) (bk_ fa.out) Ca.out (by simp))
         replace ca := aM_ (KeepBut.blk hk (g' := da) (o := .cells #[.string aa, .string ba, .string ga] 41 (0, 0)) (bk_ ca.out) Da.out (by simp))
         replace HK := aM_ (KeepBut.trans kB_ hk (.inl rfl))
         replace HB := aM_ (hb)
         replace ea := aM_ (hi)
         clear hb hk hi
         refine hK.out _ _ ⟨bc_ ca.out 0, bc_ ca.out 1, bc_ ca.out 2⟩ (fun hHeld => ?_)
         clear hK K
         refine nO_ 29 ?_
         refine pU_ 16 (some 30) (bo_ 22 262143) ?_
         exact nQ_ (hJ5_6_8_10_12_15 () _ ⟨hHeld, (bk_ fa.out), (bk_ ca.out), (by repeat (first | (with_reducible first | exact ea.out | apply IsS52.alloc | apply IsS52.drewN | apply IsS52.drew | apply IsS52.set_1 | refine IsS52.far ?_ ka.out _ | refine IsS52.far ?_ ma.out _) | exact ea.out)), kB_, (by repeat (first | (with_reducible first | exact HB.out | apply bA_ | apply bN_ | apply bD_ | refine bS_ ?_ (IsS52.ge ea.out) | refine bS_ ?_ ta.out | refine bS_ ?_ va.out) | exact HB.out))⟩)
        skip
        refine box_step ?hg (N := 4) ?hd (cs := #[.string (⟨#[]⟩ : ByteArray), .string (⟨#[]⟩ : ByteArray), .int .u64 0, .int .i64 0, .int .i64 0, .int .i64 0, .int .i64 0, .int .i64 0, .int .i64 0]) (t := 35) ?hr ?_; (case hd => rfl); (case hg => rfl); (case hr => first | (go_simp; done) | (go_simp; rfl))
        intro ha hg Fb hbox hb
        replace HB := aM_ (below_step (by repeat (first | (with_reducible first | exact HB.out | apply bA_ | apply bN_ | apply bD_ | refine bS_ ?_ (IsS52.ge ea.out) | refine bS_ ?_ ta.out | refine bS_ ?_ va.out) | exact HB.out)) hb)
        have ia := aM_ (hbox)
        have za := aM_ ((by rw [hg]; exact (keep_size (w := w) (g := g) (row := none) kB_) : w.heap.size ≤ ha))
        have sa := aM_ ((Nat.le_trans HW0.out (by rw [hg]; exact (keep_size (w := w) (g := g) (row := none) kB_) : w.heap.size ≤ ha) : w0.heap.size ≤ ha))
        replace HK := aM_ (KeepBut.trans kB_ (KeepBut.of_below hb g none) (.inl rfl))
        have na := aM_ ((by rw [hg]; exact Nat.ne_of_lt (blk_lt (g := la) (o := .cells #[.string (⟨#[]⟩ : ByteArray), .string (⟨#[]⟩ : ByteArray), .int .u64 0, .int .i64 0, .int .i64 0, .int .i64 0, .int .i64 0, .int .i64 0, .int .i64 0] 35 (0, 0)) (bk_ fa.out)) : la ≠ ha))
        have pa := aM_ ((by rw [hg]; exact Nat.ne_of_gt (blk_lt (g := la) (o := .cells #[.string (⟨#[]⟩ : ByteArray), .string (⟨#[]⟩ : ByteArray), .int .u64 0, .int .i64 0, .int .i64 0, .int .i64 0, .int .i64 0, .int .i64 0, .int .i64 0] 35 (0, 0)) (bk_ fa.out)) : ha ≠ la))
        replace fa := aM_ (blk_below (g := la) (o := .cells #[.string (⟨#[]⟩ : ByteArray), .string (⟨#[]⟩ : ByteArray), .int .u64 0, .int .i64 0, .int .i64 0, .int .i64 0, .int .i64 0, .int .i64 0, .int .i64 0] 35 (0, 0)) (bk_ fa.out) hb)
        have ja := aM_ ((by rw [hg]; exact Nat.ne_of_lt (blk_lt (g := da) (o := .cells #[.string aa, .string ba, .string ga] 41 (0, 0)) (bk_ ca.out)) : da ≠ ha))
        have qa := aM_ ((by rw [hg]; exact Nat.ne_of_gt (blk_lt (g := da) (o := .cells #[.string aa, .string ba, .string ga] 41 (0, 0)) (bk_ ca.out)) : ha ≠ da))
        replace ca := aM_ (blk_below (g := da) (o := .cells #[.string aa, .string ba, .string ga] 41 (0, 0)) (bk_ ca.out) hb)
        have oa := aM_ ((by rw [hg]; exact Nat.ne_of_lt (IsS52.lt (show IsS52 w0 _ g ua wb from by repeat (first | (with_reducible first | exact ea.out | apply IsS52.alloc | apply IsS52.drewN | apply IsS52.drew | apply IsS52.set_1 | refine IsS52.far ?_ ka.out _ | refine IsS52.far ?_ ma.out _) | exact ea.out))) : g ≠ ha))
        have ra := aM_ ((by rw [hg]; exact Nat.ne_of_gt (IsS52.lt (show IsS52 w0 _ g ua wb from by repeat (first | (with_reducible first | exact ea.out | apply IsS52.alloc | apply IsS52.drewN | apply IsS52.drew | apply IsS52.set_1 | refine IsS52.far ?_ ka.out _ | refine IsS52.far ?_ ma.out _) | exact ea.out))) : ha ≠ g))
        replace ea := aM_ (IsS52.below (by repeat (first | (with_reducible first | exact ea.out | apply IsS52.alloc | apply IsS52.drewN | apply IsS52.drew | apply IsS52.set_1 | refine IsS52.far ?_ ka.out _ | refine IsS52.far ?_ ma.out _) | exact ea.out)) hb)
        clear hb hbox hg
        refine hK.out _ _ ⟨bc_ ca.out 0, bc_ ca.out 1, bc_ ca.out 2⟩ (fun hHeld => ?_)
        clear hK K
        refine nO_ 4 ?_
        exact nQ_ (hJ5_6_8_10_12_20 (ha) _ ⟨hHeld, (bk_ fa.out), (bk_ ca.out), (bk_ ia.out), za.out, sa.out, oa.out, ra.out, na.out, pa.out, ja.out, qa.out, (by repeat (first | (with_reducible first | exact ea.out | apply IsS52.alloc | apply IsS52.drewN | apply IsS52.drew | apply IsS52.set_1 | refine IsS52.far ?_ ka.out _ | refine IsS52.far ?_ ma.out _ | refine IsS52.far ?_ oa.out _) | exact ea.out)), kB_, (by repeat (first | (with_reducible first | exact HB.out | apply bA_ | apply bN_ | apply bD_ | refine bS_ ?_ (IsS52.ge ea.out) | refine bS_ ?_ ta.out | refine bS_ ?_ va.out | refine bS_ ?_ sa.out) | exact HB.out))⟩)
       skip
       rintro ha Fb ⟨hS_, h0_, h1_, h2_, Ha, Ia, Ra, Sa, Ta, Ua, Va, La, Ma, Na, Oa⟩
       replace fa := aM_ h0_
       replace ca := aM_ h1_
       have ia := aM_ h2_
       have za := aM_ Ha
       have sa := aM_ Ia
       have oa := aM_ Ra
       have ra := aM_ Sa
       have na := aM_ Ta
       have pa := aM_ Ua
       have ja := aM_ Va
       have qa := aM_ La
       replace ea := aM_ Ma
       replace HK := aM_ Na
       replace HB := aM_ Oa
       clear h0_ h1_ h2_ Ha Ia Ra Sa Ta Ua Va La Ma Na Oa
       have hHeld : Fb.cell? ⟨da, 0, none⟩ = some (.string aa) ∧ Fb.cell? ⟨da, 1, none⟩ = some (.string ba) ∧ Fb.cell? ⟨da, 2, none⟩ = some (.string ga) := hS_
       refine nP_ ?_
       refine one_ (i := 15) (N := some 29) (bo_ 22 1245183) rfl rfl (one_of HT_.out (by kernel_rfl)) (by decide) (fun K hK => ?_)
       refine goes_ Tryd.func49 (by kernel_rfl) rfl #[.pointer (some ⟨g, 0, none⟩), .int .i64 4] (by rfl) rfl rfl aR_ ?_
       with_reducible refine (kerbsuitedata_Source_Next.calls g ua wb 4 Fa xb w0 _ ?side1 ?side2 ke.out).mono ?_
       (case side1 => repeat (first | (with_reducible first | exact ea.out | apply IsS52.alloc | apply IsS52.drewN | apply IsS52.drew | apply IsS52.set_1 | refine IsS52.far ?_ ka.out _ | refine IsS52.far ?_ ma.out _ | refine IsS52.far ?_ oa.out _) | exact ea.out))
       (case side2 => repeat (first | (with_reducible first | exact HB.out | apply bA_ | apply bN_ | apply bD_ | refine bS_ ?_ (IsS52.ge ea.out) | refine bS_ ?_ ta.out | refine bS_ ?_ va.out | refine bS_ ?_ sa.out) | exact HB.out))
       rintro e Gb ⟨rfl, hi, hb, hk⟩
       refine ⟨_, rfl, ?_⟩
       replace fa := aM_ (KeepBut.blk hk (g' := la) (o := .cells #[.string (⟨#[]⟩ : ByteArray), .string (⟨#[]⟩ : ByteArray), .int .u64 0, .int .i64 0, .int .i64 0, .int .i64 0, .int .i64 0, .int .i64 0, .int .i64 0] 35 (0, 0)) (bk_ fa.out) Ca.out (by simp))
       replace ca := aM_ (KeepBut.blk hk (g' := da) (o := .cells #[.string aa, .string ba, .string ga] 41 (0, 0)) (bk_ ca.out) Da.out (by simp))
       replace ia := aM_ (KeepBut.blk hk (g' := ha) (o := .cells #[.string (⟨#[]⟩ : ByteArray), .string (⟨#[]⟩ : ByteArray), .int .u64 0, .int .i64 0, .int .i64 0, .int .i64 0, .int .i64 0, .int .i64 0, .int .i64 0] 35 (0, 0)) (bk_ ia.out) ra.out (by simp))
       replace HK := aM_ (KeepBut.trans kB_ hk (.inl rfl))
       replace HB := aM_ (hb)
       replace ea := aM_ (hi)
       clear hb hk hi
       refine hK.out _ _ ⟨bc_ ca.out 0, bc_ ca.out 1, bc_ ca.out 2⟩ (fun hHeld => ?_)
       clear hK K
       refine nO_ 29 ?_
       refine pU_ 16 (some 30) (bo_ 22 1310719) ?_
       exact nQ_ (hJ5_6_8_10_12_15_20 (ha) _ ⟨hHeld, (bk_ fa.out), (bk_ ca.out), (bk_ ia.out), za.out, sa.out, oa.out, ra.out, na.out, pa.out, ja.out, qa.out, (by repeat (first | (with_reducible first | exact ea.out | apply IsS52.alloc | apply IsS52.drewN | apply IsS52.drew | apply IsS52.set_1 | refine IsS52.far ?_ ka.out _ | refine IsS52.far ?_ ma.out _ | refine IsS52.far ?_ oa.out _) | exact ea.out)), kB_, (by repeat (first | (with_reducible first | exact HB.out | apply bA_ | apply bN_ | apply bD_ | refine bS_ ?_ (IsS52.ge ea.out) | refine bS_ ?_ ta.out | refine bS_ ?_ va.out | refine bS_ ?_ sa.out) | exact HB.out))⟩)
      skip
      rintro _ Fb ⟨hS_, h0_, h1_, h2_, Ha, Ia⟩
      replace fa := aM_ h0_
      replace ca := aM_ h1_
      replace ea := aM_ h2_
      replace HK := aM_ Ha
      replace HB := aM_ Ia
      clear h0_ h1_ h2_ Ha Ia
      have hHeld : Fb.cell? ⟨da, 0, none⟩ = some (.string aa) ∧ Fb.cell? ⟨da, 1, none⟩ = some (.string ba) ∧ Fb.cell? ⟨da, 2, none⟩ = some (.string ga) := hS_
      refine nP_ ?_
      refine two_ (i := 18) (j := 20) (Ni := some 32) (Nj := some 4) (bo_ 22 524287) (bo_ 22 1310719) rfl rfl rfl rfl (two_of HT_.out (by kernel_rfl)) (by decide) (by decide) (fun K hK => ?_) (fun K hK => ?_)
      ·skip
       refine goes_ Tryd.func49 (by kernel_rfl) rfl #[.pointer (some ⟨g, 0, none⟩), .int .i64 21] (by rfl) rfl rfl aR_ ?_
       with_reducible refine (kerbsuitedata_Source_Next.calls g ua xb 21 Ka Hb w0 _ ?side1 ?side2 le.out).mono ?_
       (case side1 => repeat (first | (with_reducible first | exact ea.out | apply IsS52.alloc | apply IsS52.drewN | apply IsS52.drew | apply IsS52.set_1 | refine IsS52.far ?_ ka.out _ | refine IsS52.far ?_ ma.out _) | exact ea.out))
       (case side2 => repeat (first | (with_reducible first | exact HB.out | apply bA_ | apply bN_ | apply bD_ | refine bS_ ?_ (IsS52.ge ea.out) | refine bS_ ?_ ta.out | refine bS_ ?_ va.out) | exact HB.out))
       rintro e Gb ⟨rfl, hi, hb, hk⟩
       refine ⟨_, rfl, ?_⟩
       replace fa := aM_ (KeepBut.blk hk (g' := la) (o := .cells #[.string (⟨#[]⟩ : ByteArray), .string (⟨#[]⟩ : ByteArray), .int .u64 0, .int .i64 0, .int .i64 0, .int .i64 0, .int .i64 0, .int .i64 0, .int .i64 0] 35 (0, 0)) (bk_ fa.out) Ca.out (by simp))
       replace ca := aM_ (KeepBut.blk hk (g' := da) (o := .cells #[.string aa, .string ba, .string ga] 41 (0, 0)) (bk_ ca.out) Da.out (by simp))
       replace HK := aM_ (KeepBut.trans kB_ hk (.inl rfl))
       replace HB := aM_ (hb)
       replace ea := aM_ (hi)
       clear hb hk hi
       refine hK.out _ _ ⟨bc_ ca.out 0, bc_ ca.out 1, bc_ ca.out 2⟩ (fun hHeld => ?_)
       clear hK K
       refine nO_ 32 ?_
       refine pU_ 19 (some 33) (bo_ 22 1048575) ?_
       exact nQ_ (hJ5_6_8_10_12_15_18 () _ ⟨hHeld, (bk_ fa.out), (bk_ ca.out), (by repeat (first | (with_reducible first | exact ea.out | apply IsS52.alloc | apply IsS52.drewN | apply IsS52.drew | apply IsS52.set_1 | refine IsS52.far ?_ ka.out _ | refine IsS52.far ?_ ma.out _) | exact ea.out)), kB_, (by repeat (first | (with_reducible first | exact HB.out | apply bA_ | apply bN_ | apply bD_ | refine bS_ ?_ (IsS52.ge ea.out) | refine bS_ ?_ ta.out | refine bS_ ?_ va.out) | exact HB.out))⟩)
      skip
      refine box_step ?hg (N := 4) ?hd (cs := #[.string (⟨#[]⟩ : ByteArray), .string (⟨#[]⟩ : ByteArray), .int .u64 0, .int .i64 0, .int .i64 0, .int .i64 0, .int .i64 0, .int .i64 0, .int .i64 0]) (t := 35) ?hr ?_; (case hd => rfl); (case hg => rfl); (case hr => first | (go_simp; done) | (go_simp; rfl))
      intro ha hg Gb hbox hb
      replace HB := aM_ (below_step (by repeat (first | (with_reducible first | exact HB.out | apply bA_ | apply bN_ | apply bD_ | refine bS_ ?_ (IsS52.ge ea.out) | refine bS_ ?_ ta.out | refine bS_ ?_ va.out) | exact HB.out)) hb)
      have ia := aM_ (hbox)
      have za := aM_ ((by rw [hg]; exact (keep_size (w := w) (g := g) (row := none) kB_) : w.heap.size ≤ ha))
      have sa := aM_ ((Nat.le_trans HW0.out (by rw [hg]; exact (keep_size (w := w) (g := g) (row := none) kB_) : w.heap.size ≤ ha) : w0.heap.size ≤ ha))
      replace HK := aM_ (KeepBut.trans kB_ (KeepBut.of_below hb g none) (.inl rfl))
      have na := aM_ ((by rw [hg]; exact Nat.ne_of_lt (blk_lt (g := la) (o := .cells #[.string (⟨#[]⟩ : ByteArray), .string (⟨#[]⟩ : ByteArray), .int .u64 0, .int .i64 0, .int .i64 0, .int .i64 0, .int .i64 0, .int .i64 0, .int .i64 0] 35 (0, 0)) (bk_ fa.out)) : la ≠ ha))
      have pa := aM_ ((by rw [hg]; exact Nat.ne_of_gt (blk_lt (g := la) (o := .cells #[.string (⟨#[]⟩ : ByteArray), .string (⟨#[]⟩ : ByteArray), .int .u64 0, .int .i64 0, .int .i64 0, .int .i64 0, .int .i64 0, .int .i64 0, .int .i64 0] 35 (0, 0)) (bk_ fa.out)) : ha ≠ la))
      replace fa := aM_ (blk_below (g := la) (o := .cells #[.string (⟨#[]⟩ : ByteArray), .string (⟨#[]⟩ : ByteArray), .int .u64 0, .int .i64 0, .int .i64 0, .int .i64 0, .int .i64 0, .int .i64 0, .int .i64 0] 35 (0, 0)) (bk_ fa.out) hb)
      have ja := aM_ ((by rw [hg]; exact Nat.ne_of_lt (blk_lt (g := da) (o := .cells #[.string aa, .string ba, .string ga] 41 (0, 0)) (bk_ ca.out)) : da ≠ ha))
      have qa := aM_ ((by rw [hg]; exact Nat.ne_of_gt (blk_lt (g := da) (o := .cells #[.string aa, .string ba, .string ga] 41 (0, 0)) (bk_ ca.out)) : ha ≠ da))
      replace ca := aM_ (blk_below (g := da) (o := .cells #[.string aa, .string ba, .string ga] 41 (0, 0)) (bk_ ca.out) hb)
      have oa := aM_ ((by rw [hg]; exact Nat.ne_of_lt (IsS52.lt (show IsS52 w0 _ g ua xb from by repeat (first | (with_reducible first | exact ea.out | apply IsS52.alloc | apply IsS52.drewN | apply IsS52.drew | apply IsS52.set_1 | refine IsS52.far ?_ ka.out _ | refine IsS52.far ?_ ma.out _) | exact ea.out))) : g ≠ ha))
      have ra := aM_ ((by rw [hg]; exact Nat.ne_of_gt (IsS52.lt (show IsS52 w0 _ g ua xb from by repeat (first | (with_reducible first | exact ea.out | apply IsS52.alloc | apply IsS52.drewN | apply IsS52.drew | apply IsS52.set_1 | refine IsS52.far ?_ ka.out _ | refine IsS52.far ?_ ma.out _) | exact ea.out))) : ha ≠ g))
      replace ea := aM_ (IsS52.below (by repeat (first | (with_reducible first | exact ea.out | apply IsS52.alloc | apply IsS52.drewN | apply IsS52.drew | apply IsS52.set_1 | refine IsS52.far ?_ ka.out _ | refine IsS52.far ?_ ma.out _) | exact ea.out)) hb)
      clear hb hbox hg
      refine hK.out _ _ ⟨bc_ ca.out 0, bc_ ca.out 1, bc_ ca.out 2⟩ (fun hHeld => ?_)
      clear hK K
      refine nO_ 4 ?_
      exact nQ_ (hJ5_6_8_10_12_15_20 (ha) _ ⟨hHeld, (bk_ fa.out), (bk_ ca.out), (bk_ ia.out), za.out, sa.out, oa.out, ra.out, na.out, pa.out, ja.out, qa.out, (by repeat (first | (with_reducible first | exact ea.out | apply IsS52.alloc | apply IsS52.drewN | apply IsS52.drew | apply IsS52.set_1 | refine IsS52.far ?_ ka.out _ | refine IsS52.far ?_ ma.out _ | refine IsS52.far ?_ oa.out _) | exact ea.out)), kB_, (by repeat (first | (with_reducible first | exact HB.out | apply bA_ | apply bN_ | apply bD_ | refine bS_ ?_ (IsS52.ge ea.out) | refine bS_ ?_ ta.out | refine bS_ ?_ va.out | refine bS_ ?_ sa.out) | exact HB.out))⟩)
     skip
     rintro ha Gb ⟨hS_, h0_, h1_, h2_, Ha, Ia, Ra, Sa, Ta, Ua, Va, La, Ma, Na, Oa⟩
     replace fa := aM_ h0_
     replace ca := aM_ h1_
     have ia := aM_ h2_
     have za := aM_ Ha
     have sa := aM_ Ia
     have oa := aM_ Ra
     have ra := aM_ Sa
     have na := aM_ Ta
     have pa := aM_ Ua
     have ja := aM_ Va
     have qa := aM_ La
     replace ea := aM_ Ma
     replace HK := aM_ Na
     replace HB := aM_ Oa
     clear h0_ h1_ h2_ Ha Ia Ra Sa Ta Ua Va La Ma Na Oa
     have hHeld : Gb.cell? ⟨da, 0, none⟩ = some (.string aa) ∧ Gb.cell? ⟨da, 1, none⟩ = some (.string ba) ∧ Gb.cell? ⟨da, 2, none⟩ = some (.string ga) := hS_
     refine nP_ ?_
     refine one_ (i := 18) (N := some 32) (bo_ 22 1572863) rfl rfl (one_of HT_.out (by kernel_rfl)) (by decide) (fun K hK => ?_)
     refine goes_ Tryd.func49 (by kernel_rfl) rfl #[.pointer (some ⟨g, 0, none⟩), .int .i64 21] (by rfl) rfl rfl aR_ ?_
     with_reducible refine (kerbsuitedata_Source_Next.calls g ua xb 21 Ka Hb w0 _ ?side1 ?side2 le.out).mono ?_
     (case side1 => repeat (first | (with_reducible first | exact ea.out | apply IsS52.alloc | apply IsS52.drewN | apply IsS52.drew | apply IsS52.set_1 | refine IsS52.far ?_ ka.out _ | refine IsS52.far ?_ ma.out _ | refine IsS52.far ?_ oa.out _) | exact ea.out))
     (case side2 => repeat (first | (with_reducible first | exact HB.out | apply bA_ | apply bN_ | apply bD_ | refine bS_ ?_ (IsS52.ge ea.out) | refine bS_ ?_ ta.out | refine bS_ ?_ va.out | refine bS_ ?_ sa.out) | exact HB.out))
     rintro e cb ⟨rfl, hi, hb, hk⟩
     refine ⟨_, rfl, ?_⟩
     replace fa := aM_ (KeepBut.blk hk (g' := la) (o := .cells #[.string (⟨#[]⟩ : ByteArray), .string (⟨#[]⟩ : ByteArray), .int .u64 0, .int .i64 0, .int .i64 0, .int .i64 0, .int .i64 0, .int .i64 0, .int .i64 0] 35 (0, 0)) (bk_ fa.out) Ca.out (by simp))
     replace ca := aM_ (KeepBut.blk hk (g' := da) (o := .cells #[.string aa, .string ba, .string ga] 41 (0, 0)) (bk_ ca.out) Da.out (by simp))
     replace ia := aM_ (KeepBut.blk hk (g' := ha) (o := .cells #[.string (⟨#[]⟩ : ByteArray), .string (⟨#[]⟩ : ByteArray), .int .u64 0, .int .i64 0, .int .i64 0, .int .i64 0, .int .i64 0, .int .i64 0, .int .i64 0] 35 (0, 0)) (bk_ ia.out) ra.out (by simp))
     replace HK := aM_ (KeepBut.trans kB_ hk (.inl rfl))
     replace HB := aM_ (hb)
     replace ea := aM_ (hi)
     clear hb hk hi
     refine hK.out _ _ ⟨bc_ ca.out 0, bc_ ca.out 1, bc_ ca.out 2⟩ (fun hHeld => ?_)
     clear hK K
     refine nO_ 32 ?_
     refine pU_ 19 (some 33) (bo_ 22 2097151) ?_
     exact nQ_ (hJ5_6_8_10_12_15_18_20 (ha) _ ⟨hHeld, (bk_ fa.out), (bk_ ca.out), (bk_ ia.out), za.out, sa.out, oa.out, ra.out, na.out, pa.out, ja.out, qa.out, (by repeat (first | (with_reducible first | exact ea.out | apply IsS52.alloc | apply IsS52.drewN | apply IsS52.drew | apply IsS52.set_1 | refine IsS52.far ?_ ka.out _ | refine IsS52.far ?_ ma.out _ | refine IsS52.far ?_ oa.out _) | exact ea.out)), kB_, (by repeat (first | (with_reducible first | exact HB.out | apply bA_ | apply bN_ | apply bD_ | refine bS_ ?_ (IsS52.ge ea.out) | refine bS_ ?_ ta.out | refine bS_ ?_ va.out | refine bS_ ?_ sa.out) | exact HB.out))⟩)
    skip
    rintro _ Gb ⟨hS_, h0_, h1_, h2_, Ha, Ia⟩
    replace fa := aM_ h0_
    replace ca := aM_ h1_
    replace ea := aM_ h2_
    replace HK := aM_ Ha
    replace HB := aM_ Ia
    clear h0_ h1_ h2_ Ha Ia
    have hHeld : Gb.cell? ⟨da, 0, none⟩ = some (.string aa) ∧ Gb.cell? ⟨da, 1, none⟩ = some (.string ba) ∧ Gb.cell? ⟨da, 2, none⟩ = some (.string ga) := hS_
    refine nP_ ?_
    refine one_ (i := 20) (N := some 4) (bo_ 22 2097151) rfl rfl (one_of HT_.out (by kernel_rfl)) (by decide) (fun K hK => ?_)
    refine box_step ?hg (N := 4) ?hd (cs := #[.string (⟨#[]⟩ : ByteArray), .string (⟨#[]⟩ : ByteArray), .int .u64 0, .int .i64 0, .int .i64 0, .int .i64 0, .int .i64 0, .int .i64 0, .int .i64 0]) (t := 35) ?hr ?_; (case hd => rfl); (case hg => rfl); (case hr => first | (go_simp; done) | (go_simp; rfl))
    intro ha hg cb hbox hb
    replace HB := aM_ (below_step (by repeat (first | (with_reducible first | exact HB.out | apply bA_ | apply bN_ | apply bD_ | refine bS_ ?_ (IsS52.ge ea.out) | refine bS_ ?_ ta.out | refine bS_ ?_ va.out) | exact HB.out)) hb)
    have ia := aM_ (hbox)
    have za := aM_ ((by rw [hg]; exact (keep_size (w := w) (g := g) (row := none) kB_) : w.heap.size ≤ ha))
    have sa := aM_ ((Nat.le_trans HW0.out (by rw [hg]; exact (keep_size (w := w) (g := g) (row := none) kB_) : w.heap.size ≤ ha) : w0.heap.size ≤ ha))
    replace HK := aM_ (KeepBut.trans kB_ (KeepBut.of_below hb g none) (.inl rfl))
    have na := aM_ ((by rw [hg]; exact Nat.ne_of_lt (blk_lt (g := la) (o := .cells #[.string (⟨#[]⟩ : ByteArray), .string (⟨#[]⟩ : ByteArray), .int .u64 0, .int .i64 0, .int .i64 0, .int .i64 0, .int .i64 0, .int .i64 0, .int .i64 0] 35 (0, 0)) (bk_ fa.out)) : la ≠ ha))
    have pa := aM_ ((by rw [hg]; exact Nat.ne_of_gt (blk_lt (g := la) (o := .cells #[.string (⟨#[]⟩ : ByteArray), .string (⟨#[]⟩ : ByteArray), .int .u64 0, .int .i64 0, .int .i64 0, .int .i64 0, .int .i64 0, .int .i64 0, .int .i64 0] 35 (0, 0)) (bk_ fa.out)) : ha ≠ la))
    replace fa := aM_ (blk_below (g := la) (o := .cells #[.string (⟨#[]⟩ : ByteArray), .string (⟨#[]⟩ : ByteArray), .int .u64 0, .int .i64 0, .int .i64 0, .int .i64 0, .int .i64 0, .int .i64 0, .int .i64 0] 35 (0, 0)) (bk_ fa.out) hb)
    have ja := aM_ ((by rw [hg]; exact Nat.ne_of_lt (blk_lt (g := da) (o := .cells #[.string aa, .string ba, .string ga] 41 (0, 0)) (bk_ ca.out)) : da ≠ ha))
    have qa := aM_ ((by rw [hg]; exact Nat.ne_of_gt (blk_lt (g := da) (o := .cells #[.string aa, .string ba, .string ga] 41 (0, 0)) (bk_ ca.out)) : ha ≠ da))
    replace ca := aM_ (blk_below (g := da) (o := .cells #[.string aa, .string ba, .string ga] 41 (0, 0)) (bk_ ca.out) hb)
    have oa := aM_ ((by rw [hg]; exact Nat.ne_of_lt (IsS52.lt (show IsS52 w0 _ g ua Hb from by repeat (first | (with_reducible first | exact ea.out | apply IsS52.alloc | apply IsS52.drewN | apply IsS52.drew | apply IsS52.set_1 | refine IsS52.far ?_ ka.out _ | refine IsS52.far ?_ ma.out _) | exact ea.out))) : g ≠ ha))
    have ra := aM_ ((by rw [hg]; exact Nat.ne_of_gt (IsS52.lt (show IsS52 w0 _ g ua Hb from by repeat (first | (with_reducible first | exact ea.out | apply IsS52.alloc | apply IsS52.drewN | apply IsS52.drew | apply IsS52.set_1 | refine IsS52.far ?_ ka.out _ | refine IsS52.far ?_ ma.out _) | exact ea.out))) : ha ≠ g))
    replace ea := aM_ (IsS52.below (by repeat (first | (with_reducible first | exact ea.out | apply IsS52.alloc | apply IsS52.drewN | apply IsS52.drew | apply IsS52.set_1 | refine IsS52.far ?_ ka.out _ | refine IsS52.far ?_ ma.out _) | exact ea.out)) hb)
    clear hb hbox hg
    refine hK.out _ _ ⟨bc_ ca.out 0, bc_ ca.out 1, bc_ ca.out 2⟩ (fun hHeld => ?_)
    clear hK K
    refine nO_ 4 ?_
    exact nQ_ (hJ5_6_8_10_12_15_18_20 (ha) _ ⟨hHeld, (bk_ fa.out), (bk_ ca.out), (bk_ ia.out), za.out, sa.out, oa.out, ra.out, na.out, pa.out, ja.out, qa.out, (by repeat (first | (with_reducible first | exact ea.out | apply IsS52.alloc | apply IsS52.drewN | apply IsS52.drew | apply IsS52.set_1 | refine IsS52.far ?_ ka.out _ | refine IsS52.far ?_ ma.out _ | refine IsS52.far ?_ oa.out _) | exact ea.out)), kB_, (by repeat (first | (with_reducible first | exact HB.out | apply bA_ | apply bN_ | apply bD_ | refine bS_ ?_ (IsS52.ge ea.out) | refine bS_ ?_ ta.out | refine bS_ ?_ va.out | refine bS_ ?_ sa.out) | exact HB.out))⟩)
   rintro ha cb ⟨hS_, h0_, h1_, h2_, Ha, Ia, Ra, Sa, Ta, Ua, Va, La, Ma, Na, Oa⟩
   replace fa := aM_ h0_
   replace ca := aM_ h1_
   have ia := aM_ h2_
   have za := aM_ Ha
   have sa := aM_ Ia
   have oa := aM_ Ra
   have ra := aM_ Sa
   have na := aM_ Ta
   have pa := aM_ Ua
   have ja := aM_ Va
   have qa := aM_ La
   replace ea := aM_ Ma
   replace HK := aM_ Na
   replace HB := aM_ Oa
   clear h0_ h1_ h2_ Ha Ia Ra Sa Ta Ua Va La Ma Na Oa
   have hHeld : cb.cell? ⟨da, 0, none⟩ = some (.string aa) ∧ cb.cell? ⟨da, 1, none⟩ = some (.string ba) ∧ cb.cell? ⟨da, 2, none⟩ = some (.string ga) := hS_
   refine nP_ ?_
   refine one_ (i := 21) (N := none) (bo_ 22 4194303) rfl rfl (one_of HT_.out (by kernel_rfl)) (by decide) (fun K hK => ?_)
   have hs40 : cb.cell? ⟨ha, 0, none⟩ = some (.string (⟨#[]⟩ : ByteArray)) := bc_ ia.out 0
   have hfs40 := blk_frozen ia.out 0
   have hns40_0 := na.out
   have hns40_1 := ja.out
   have hms40_0 := pa.out
   have hms40_1 := qa.out
   have hs41 : cb.cell? ⟨ha, 1, none⟩ = some (.string (⟨#[]⟩ : ByteArray)) := bc_ ia.out 1
   have hfs41 := blk_frozen ia.out 1
   have hns41_0 := na.out
   have hns41_1 := ja.out
   have hms41_0 := pa.out
   have hms41_1 := qa.out
   have hs42 : cb.cell? ⟨ha, 2, none⟩ = some (.int .u64 0) := bc_ ia.out 2
   have hfs42 := blk_frozen ia.out 2
   have hns42_0 := na.out
   have hns42_1 := ja.out
   have hms42_0 := pa.out
   have hms42_1 := qa.out
   have hs43 : cb.cell? ⟨ha, 3, none⟩ = some (.int .i64 0) := bc_ ia.out 3
   have hfs43 := blk_frozen ia.out 3
   have hns43_0 := na.out
   have hns43_1 := ja.out
   have hms43_0 := pa.out
   have hms43_1 := qa.out
   have hs44 : cb.cell? ⟨ha, 4, none⟩ = some (.int .i64 0) := bc_ ia.out 4
   have hfs44 := blk_frozen ia.out 4
   have hns44_0 := na.out
   have hns44_1 := ja.out
   have hms44_0 := pa.out
   have hms44_1 := qa.out
   have hs45 : cb.cell? ⟨ha, 5, none⟩ = some (.int .i64 0) := bc_ ia.out 5
   have hfs45 := blk_frozen ia.out 5
   have hns45_0 := na.out
   have hns45_1 := ja.out
   have hms45_0 := pa.out
   have hms45_1 := qa.out
   have hs46 : cb.cell? ⟨ha, 6, none⟩ = some (.int .i64 0) := bc_ ia.out 6
   have hfs46 := blk_frozen ia.out 6
   have hns46_0 := na.out
   have hns46_1 := ja.out
   have hms46_0 := pa.out
   have hms46_1 := qa.out
   have hs47 : cb.cell? ⟨ha, 7, none⟩ = some (.int .i64 0) := bc_ ia.out 7
   have hfs47 := blk_frozen ia.out 7
   have hns47_0 := na.out
   have hns47_1 := ja.out
   have hms47_0 := pa.out
   have hms47_1 := qa.out
   have hs48 : cb.cell? ⟨ha, 8, none⟩ = some (.int .i64 0) := bc_ ia.out 8
   have hfs48 := blk_frozen ia.out 8
   have hns48_0 := na.out
   have hns48_1 := ja.out
   have hms48_0 := pa.out
   have hms48_1 := qa.out
   refine skip_ (w1 := ?_) (by rfl) rfl ?_ ?_
   rotate_left; (· go_simp; rfl)
   refine hK.out _ _ ⟨((cell_far (p := ⟨ha, _, none⟩) ja.out _).trans (((cell_far (p := ⟨ha, _, none⟩) ja.out _).trans (((cell_far (p := ⟨ha, _, none⟩) ja.out _).trans (((cell_far (p := ⟨ha, _, none⟩) ja.out _).trans (((cell_far (p := ⟨ha, _, none⟩) ja.out _).trans (((cell_far (p := ⟨ha, _, none⟩) ja.out _).trans (((cell_far (p := ⟨ha, _, none⟩) ja.out _).trans (((cell_far (p := ⟨ha, _, none⟩) ja.out _).trans (((cell_far (p := ⟨ha, _, none⟩) ja.out _).trans (hHeld.1)))))))))))))))))), ((cell_far (p := ⟨ha, _, none⟩) ja.out _).trans (((cell_far (p := ⟨ha, _, none⟩) ja.out _).trans (((cell_far (p := ⟨ha, _, none⟩) ja.out _).trans (((cell_far (p := ⟨ha, _, none⟩) ja.out _).trans (((cell_far (p := ⟨ha, _, none⟩) ja.out _).trans (((cell_far (p := ⟨ha, _, none⟩) ja.out _).trans (((cell_far (p := ⟨ha, _, none⟩) ja.out _).trans (((cell_far (p := ⟨ha, _, none⟩) ja.out _).trans (((cell_far (p := ⟨ha, _, none⟩) ja.out _).trans (hHeld.2.1)))))))))))))))))), ((cell_far (p := ⟨ha, _, none⟩) ja.out _).trans (((cell_far (p := ⟨ha, _, none⟩) ja.out _).trans (((cell_far (p := ⟨ha, _, none⟩) ja.out _).trans (((cell_far (p := ⟨ha, _, none⟩) ja.out _).trans (((cell_far (p := ⟨ha, _, none⟩) ja.out _).trans (((cell_far (p := ⟨ha, _, none⟩) ja.out _).trans (((cell_far (p := ⟨ha, _, none⟩) ja.out _).trans (((cell_far (p := ⟨ha, _, none⟩) ja.out _).trans (((cell_far (p := ⟨ha, _, none⟩) ja.out _).trans (hHeld.2.2))))))))))))))))))⟩ (fun hHeld => ?_)
   clear hK K
   refine done_ (done_of HT_.out (by kernel_rfl)) ?_
   go_upto_if 36 with (first | ((with_reducible refine gate_callee (f := 49) rfl ?_); refine goesL_ (some 35) rfl rfl Tryd.func49 (by kernel_rfl) rfl #[.pointer (some ⟨g, 0, none⟩), .int .i64 5] rfl aR_ ?_; (with_reducible refine (kerbsuitedata_Source_Next.calls g ua Hb 5 Ob Fc w0 _ ?side1 ?side2 Rf.out).mono ?_); (case side1 => repeat (first | (with_reducible first | exact ea.out | apply IsS52.alloc | apply IsS52.drewN | apply IsS52.drew | apply IsS52.set_1 | refine IsS52.far ?_ ka.out _ | refine IsS52.far ?_ ma.out _ | refine IsS52.far ?_ oa.out _) | exact ea.out)); (case side2 => repeat (first | (with_reducible first | exact HB.out | apply bA_ | apply bN_ | apply bD_ | refine bS_ ?_ (IsS52.ge ea.out) | refine bS_ ?_ ta.out | refine bS_ ?_ va.out | refine bS_ ?_ sa.out) | exact HB.out)); rintro e mh ⟨rfl, hi, hb, hk⟩; refine ⟨_, rfl, ?_⟩; replace fa := aM_ (KeepBut.blk hk (g' := la) (o := .cells #[.string (⟨#[]⟩ : ByteArray), .string (⟨#[]⟩ : ByteArray), .int .u64 0, .int .i64 0, .int .i64 0, .int .i64 0, .int .i64 0, .int .i64 0, .int .i64 0] 35 (0, 0)) (by refine bk_ ?_; refine blk_far ?_ na.out _; refine bk_ ?_; refine blk_far ?_ na.out _; refine bk_ ?_; refine blk_far ?_ na.out _; refine bk_ ?_; refine blk_far ?_ na.out _; refine bk_ ?_; refine blk_far ?_ na.out _; refine bk_ ?_; refine blk_far ?_ na.out _; refine bk_ ?_; refine blk_far ?_ na.out _; refine bk_ ?_; refine blk_far ?_ na.out _; refine bk_ ?_; refine blk_far ?_ na.out _; refine bk_ ?_; exact fa.out) Ca.out (by simp)); replace ca := aM_ (KeepBut.blk hk (g' := da) (o := .cells #[.string aa, .string ba, .string ga] 41 (0, 0)) (by refine bk_ ?_; refine blk_far ?_ ja.out _; refine bk_ ?_; refine blk_far ?_ ja.out _; refine bk_ ?_; refine blk_far ?_ ja.out _; refine bk_ ?_; refine blk_far ?_ ja.out _; refine bk_ ?_; refine blk_far ?_ ja.out _; refine bk_ ?_; refine blk_far ?_ ja.out _; refine bk_ ?_; refine blk_far ?_ ja.out _; refine bk_ ?_; refine blk_far ?_ ja.out _; refine bk_ ?_; refine blk_far ?_ ja.out _; refine bk_ ?_; exact ca.out) Da.out (by simp)); replace ia := aM_ (KeepBut.blk hk (g' := ha) (o := .cells #[.string aa, .string ba, .int .u64 Ga, .int .i64 Aa, .int .i64 0, .int .i64 Ea, .int .i64 (wrap64 ((wrap64 (Int.tdiv Ba 4)) * Fa)), .int .i64 Ka, .int .i64 0] 35 (0, 0)) (by refine bk_ ?_; refine blk_put (cs := #[.string aa, .string ba, .int .u64 Ga, .int .i64 Aa, .int .i64 0, .int .i64 Ea, .int .i64 (wrap64 ((wrap64 (Int.tdiv Ba 4)) * Fa)), .int .i64 Ka, .int .i64 0]) ?_ 8 _ rfl; refine bk_ ?_; refine blk_put (cs := #[.string aa, .string ba, .int .u64 Ga, .int .i64 Aa, .int .i64 0, .int .i64 Ea, .int .i64 (wrap64 ((wrap64 (Int.tdiv Ba 4)) * Fa)), .int .i64 0, .int .i64 0]) ?_ 7 _ rfl; refine bk_ ?_; refine blk_put (cs := #[.string aa, .string ba, .int .u64 Ga, .int .i64 Aa, .int .i64 0, .int .i64 Ea, .int .i64 0, .int .i64 0, .int .i64 0]) ?_ 6 _ rfl; refine bk_ ?_; refine blk_put (cs := #[.string aa, .string ba, .int .u64 Ga, .int .i64 Aa, .int .i64 0, .int .i64 0, .int .i64 0, .int .i64 0, .int .i64 0]) ?_ 5 _ rfl; refine bk_ ?_; refine blk_put (cs := #[.string aa, .string ba, .int .u64 Ga, .int .i64 Aa, .int .i64 0, .int .i64 0, .int .i64 0, .int .i64 0, .int .i64 0]) ?_ 4 _ rfl; refine bk_ ?_; refine blk_put (cs := #[.string aa, .string ba, .int .u64 Ga, .int .i64 0, .int .i64 0, .int .i64 0, .int .i64 0, .int .i64 0, .int .i64 0]) ?_ 3 _ rfl; refine bk_ ?_; refine blk_put (cs := #[.string aa, .string ba, .int .u64 0, .int .i64 0, .int .i64 0, .int .i64 0, .int .i64 0, .int .i64 0, .int .i64 0]) ?_ 2 _ rfl; refine bk_ ?_; refine blk_put (cs := #[.string aa, .string (⟨#[]⟩ : ByteArray), .int .u64 0, .int .i64 0, .int .i64 0, .int .i64 0, .int .i64 0, .int .i64 0, .int .i64 0]) ?_ 1 _ rfl; refine bk_ ?_; refine blk_put (cs := #[.string (⟨#[]⟩ : ByteArray), .string (⟨#[]⟩ : ByteArray), .int .u64 0, .int .i64 0, .int .i64 0, .int .i64 0, .int .i64 0, .int .i64 0, .int .i64 0]) ?_ 0 _ rfl; refine bk_ ?_; exact ia.out) ra.out (by simp)); replace HK := aM_ (KeepBut.trans kB_ hk (.inl rfl)); replace HB := aM_ (hb); replace ea := aM_ (hi); clear hb hk hi))
   (try simp only [Act.put, sA_, sB_, sC_])
   go_cut [] (fun wc => ∃ (kq : Nat) (ob : Int) (xa : Int), Aside0 (kerbsuitedata_Entry.j1 kq ua ob aa ba Ga Aa xa Ea (wrap64 ((wrap64 (Int.tdiv Ba 4)) * Fa)) Ka 0 = some (r1, r2, r3, r4, r5, r6, r7, r8, r9, Wb)) ∧ Aside0 (kq ≤ Qf) ∧ Aside0 (wc.heap[la]? = some (.cells #[.string (⟨#[]⟩ : ByteArray), .string (⟨#[]⟩ : ByteArray), .int .u64 0, .int .i64 0, .int .i64 0, .int .i64 0, .int .i64 0, .int .i64 0, .int .i64 0] 35 (0, 0))) ∧ Aside0 (wc.heap[da]? = some (.cells #[.string aa, .string ba, .string ga] 41 (0, 0))) ∧ Aside0 (wc.heap[ha]? = some (.cells #[.string aa, .string ba, .int .u64 Ga, .int .i64 Aa, .int .i64 xa, .int .i64 Ea, .int .i64 (wrap64 ((wrap64 (Int.tdiv Ba 4)) * Fa)), .int .i64 Ka, .int .i64 0] 35 (0, 0))) ∧ Aside0 (IsS52 w0 wc g ua ob) ∧ Aside0 (KeepBut w wc g none) ∧ Aside0 (Below w0.heap.size w0 wc))
   case first =>
    have H := Gc.out
    clear Gc
    by_cases Mb : Ob = 4
    ·rw [if_pos Mb] at H
     have pb : (Ob == 4) = true := beq_iff_eq.mpr Mb
     have Ac : (Ob != 4) = false := bne_eq_false_iff_eq.mpr Mb
     clear Mb
     (first | rw [pb] | (simp only [i64_w, i32_w]; rw [pb]) | skip)
     replace H := Option.bind_eq_some_iff.mp H
     obtain ⟨⟨Rd, Sd⟩, Td, H⟩ := H
     try dsimp only at H
     have Tf := aM_ Td
     clear Td
     have H' := aM_ H
     clear H
     go_wp2_with (first | ((with_reducible refine gate_callee (f := 49) rfl ?_); refine goesL_ (some 38) rfl rfl Tryd.func49 (by kernel_rfl) rfl #[.pointer (some ⟨g, 0, none⟩), .int .i64 256] rfl aR_ ?_; (with_reducible refine (kerbsuitedata_Source_Next.calls g ua Fc 256 Rd Sd w0 _ ?side1 ?side2 Tf.out).mono ?_); (case side1 => repeat (first | (with_reducible first | exact ea.out | apply IsS52.alloc | apply IsS52.drewN | apply IsS52.drew | apply IsS52.set_1 | refine IsS52.far ?_ ka.out _ | refine IsS52.far ?_ ma.out _ | refine IsS52.far ?_ oa.out _) | exact ea.out)); (case side2 => repeat (first | (with_reducible first | exact HB.out | apply bA_ | apply bN_ | apply bD_ | refine bS_ ?_ (IsS52.ge ea.out) | refine bS_ ?_ ta.out | refine bS_ ?_ va.out | refine bS_ ?_ sa.out) | exact HB.out)); rintro e Uf ⟨rfl, hi, hb, hk⟩; refine ⟨_, rfl, ?_⟩; replace fa := aM_ (KeepBut.blk hk (g' := la) (o := .cells #[.string (⟨#[]⟩ : ByteArray), .string (⟨#[]⟩ : ByteArray), .int .u64 0, .int .i64 0, .int .i64 0, .int .i64 0, .int .i64 0, .int .i64 0, .int .i64 0] 35 (0, 0)) (bk_ fa.out) Ca.out (by simp)); replace ca := aM_ (KeepBut.blk hk (g' := da) (o := .cells #[.string aa, .string ba, .string ga] 41 (0, 0)) (bk_ ca.out) Da.out (by simp)); replace ia := aM_ (KeepBut.blk hk (g' := ha) (o := .cells #[.string aa, .string ba, .int .u64 Ga, .int .i64 Aa, .int .i64 0, .int .i64 Ea, .int .i64 (wrap64 ((wrap64 (Int.tdiv Ba 4)) * Fa)), .int .i64 Ka, .int .i64 0] 35 (0, 0)) (bk_ ia.out) ra.out (by simp)); replace HK := aM_ (KeepBut.trans kB_ hk (.inl rfl)); replace HB := aM_ (hb); replace ea := aM_ (hi); clear hb hk hi; have ng := pa.out; have og := na.out; have pg := qa.out; have qg := ja.out; have rg := ra.out; have sg := oa.out; have Xb := bc_ ia.out 0; have Yb := bc_ ia.out 1; have Zb := bc_ ia.out 2; have ac := bc_ ia.out 3; have bc := bc_ ia.out 4; have cc := bc_ ia.out 5; have dc : Uf.cell? ⟨ha, 6, none⟩ = some (.int .i64 (wrap64 ((wrap64 (Int.tdiv Ba 4)) * Fa))) := bc_ ia.out 6; have ec := bc_ ia.out 7; have fc := bc_ ia.out 8; have gc := blk_frozen ia.out 0; have hc := blk_frozen ia.out 1; have ic := blk_frozen ia.out 2; have jc := blk_frozen ia.out 3; have kc := blk_frozen ia.out 4; have lc := blk_frozen ia.out 5; have mc := blk_frozen ia.out 6; have nc := blk_frozen ia.out 7; have oc := blk_frozen ia.out 8))
     go_meet
     case rel => exact ⟨_, (Sd), (wrap64 (Rd * 200)), H', ⟨by have := Nc.out; first | omega | exact Nat.le_refl _⟩, ⟨by refine bk_ ?_; refine blk_far ?_ na.out _; refine bk_ ?_; exact fa.out⟩, ⟨by refine bk_ ?_; refine blk_far ?_ ja.out _; refine bk_ ?_; exact ca.out⟩, ⟨by refine bk_ ?_; refine blk_put (cs := #[.string aa, .string ba, .int .u64 Ga, .int .i64 Aa, .int .i64 0, .int .i64 Ea, .int .i64 (wrap64 ((wrap64 (Int.tdiv Ba 4)) * Fa)), .int .i64 Ka, .int .i64 0]) ?_ 4 _ rfl; refine bk_ ?_; exact ia.out⟩, ⟨by repeat (first | (with_reducible first | exact ea.out | apply IsS52.alloc | apply IsS52.drewN | apply IsS52.drew | apply IsS52.set_1 | refine IsS52.far ?_ ka.out _ | refine IsS52.far ?_ ma.out _ | refine IsS52.far ?_ oa.out _) | exact ea.out)⟩, ⟨by repeat (first | (with_reducible first | exact HK.out | apply KeepBut.set_ | apply keep_drewN | apply keep_drew | apply keep_alloc | refine keep_far ?_ Za.out _ | refine keep_far ?_ ab.out _ | refine keep_far ?_ za.out _) | exact HK.out)⟩, ⟨by repeat (first | (with_reducible first | exact HB.out | apply bA_ | apply bN_ | apply bD_ | refine bS_ ?_ (IsS52.ge ea.out) | refine bS_ ?_ ta.out | refine bS_ ?_ va.out | refine bS_ ?_ sa.out) | exact HB.out)⟩⟩
    rw [if_neg Mb] at H
    have pb : (Ob == 4) = false := beq_eq_false_iff_ne.mpr Mb
    have Ac : (Ob != 4) = true := bne_iff_ne.mpr Mb
    (first | rw [pb] | (simp only [i64_w, i32_w]; rw [pb]) | skip)
    have H' := aM_ H
    clear H
    go_wp2
    go_meet
    case rel => exact ⟨_, (Fc), (0), H', ⟨by have := Nc.out; first | omega | exact Nat.le_refl _⟩, ⟨by refine bk_ ?_; exact fa.out⟩, ⟨by refine bk_ ?_; exact ca.out⟩, ⟨by refine bk_ ?_; exact ia.out⟩, ⟨by repeat (first | (with_reducible first | exact ea.out | apply IsS52.alloc | apply IsS52.drewN | apply IsS52.drew | apply IsS52.set_1 | refine IsS52.far ?_ ka.out _ | refine IsS52.far ?_ ma.out _ | refine IsS52.far ?_ oa.out _) | exact ea.out)⟩, ⟨by repeat (first | (with_reducible first | exact HK.out | apply KeepBut.set_ | apply keep_drewN | apply keep_drew | apply keep_alloc | refine keep_far ?_ Za.out _ | refine keep_far ?_ ab.out _ | refine keep_far ?_ za.out _) | exact HK.out)⟩, ⟨by repeat (first | (with_reducible first | exact HB.out | apply bA_ | apply bN_ | apply bD_ | refine bS_ ?_ (IsS52.ge ea.out) | refine bS_ ?_ ta.out | refine bS_ ?_ va.out | refine bS_ ?_ sa.out) | exact HB.out)⟩⟩
   case rest =>
    clear Gc
    try clear p2
    try clear c4
    try clear c5
    try clear p6
    try clear Wf
    try clear Mb
    try clear pb
    try clear Ac
    try clear Xf
    try clear Yf
    try clear Zf
    try clear Xb
    try clear Yb
    try clear Zb
    try clear ac
    try clear bc
    try clear cc
    try clear dc
    try clear ec
    try clear fc
    try clear gc
    try clear hc
    try clear ic
    try clear jc
    try clear kc
    try clear lc
    try clear mc
    try clear nc
    try clear oc
    obtain ⟨kq, ob, xa, HA, Ud, fa, ca, ia, ea, HK, HB⟩ := hcut
    cases kq with
    | zero => exact absurd HA.out (by simp [kerbsuitedata_Entry.j1])
    | succ oe =>
     have H := HA.out
     clear HA
     simp only [kerbsuitedata_Entry.j1] at H
     replace H := Option.bind_eq_some_iff.mp H
     obtain ⟨⟨Pb, Sb⟩, Vd, H⟩ := H
     try dsimp only at H
     have ag := aM_ Vd
     clear Vd
     have Hc := aM_ H
     clear H
     go_upto_if 43 with (first | ((with_reducible refine gate_callee (f := 49) rfl ?_); refine goesL_ (some 42) rfl rfl Tryd.func49 (by kernel_rfl) rfl #[.pointer (some ⟨g, 0, none⟩), .int .i64 9] rfl aR_ ?_; (with_reducible refine (kerbsuitedata_Source_Next.calls g ua ob 9 Pb Sb w0 _ ?side1 ?side2 ag.out).mono ?_); (case side1 => repeat (first | (with_reducible first | exact ea.out | apply IsS52.alloc | apply IsS52.drewN | apply IsS52.drew | apply IsS52.set_1 | refine IsS52.far ?_ ka.out _ | refine IsS52.far ?_ ma.out _ | refine IsS52.far ?_ oa.out _) | exact ea.out)); (case side2 => repeat (first | (with_reducible first | exact HB.out | apply bA_ | apply bN_ | apply bD_ | refine bS_ ?_ (IsS52.ge ea.out) | refine bS_ ?_ ta.out | refine bS_ ?_ va.out | refine bS_ ?_ sa.out) | exact HB.out)); rintro e nh ⟨rfl, hi, hb, hk⟩; refine ⟨_, rfl, ?_⟩; replace fa := aM_ (KeepBut.blk hk (g' := la) (o := .cells #[.string (⟨#[]⟩ : ByteArray), .string (⟨#[]⟩ : ByteArray), .int .u64 0, .int .i64 0, .int .i64 0, .int .i64 0, .int .i64 0, .int .i64 0, .int .i64 0] 35 (0, 0)) (bk_ fa.out) Ca.out (by simp)); replace ca := aM_ (KeepBut.blk hk (g' := da) (o := .cells #[.string aa, .string ba, .string ga] 41 (0, 0)) (bk_ ca.out) Da.out (by simp)); replace ia := aM_ (KeepBut.blk hk (g' := ha) (o := .cells #[.string aa, .string ba, .int .u64 Ga, .int .i64 Aa, .int .i64 xa, .int .i64 Ea, .int .i64 (wrap64 ((wrap64 (Int.tdiv Ba 4)) * Fa)), .int .i64 Ka, .int .i64 0] 35 (0, 0)) (bk_ ia.out) ra.out (by simp)); replace HK := aM_ (KeepBut.trans kB_ hk (.inl rfl)); replace HB := aM_ (hb); replace ea := aM_ (hi); clear hb hk hi))
     (try simp only [Act.put, sA_, sB_, sC_])
     go_cut [] (fun wc => ∃ (kq : Nat) (ya : Int), Aside0 (kerbsuitedata_Entry.j2 kq ua Sb aa ba ya Aa xa Ea (wrap64 ((wrap64 (Int.tdiv Ba 4)) * Fa)) Ka 0 = some (r1, r2, r3, r4, r5, r6, r7, r8, r9, Wb)) ∧ Aside0 (kq ≤ oe) ∧ Aside0 (wc.heap[la]? = some (.cells #[.string (⟨#[]⟩ : ByteArray), .string (⟨#[]⟩ : ByteArray), .int .u64 0, .int .i64 0, .int .i64 0, .int .i64 0, .int .i64 0, .int .i64 0, .int .i64 0] 35 (0, 0))) ∧ Aside0 (wc.heap[da]? = some (.cells #[.string aa, .string ba, .string ga] 41 (0, 0))) ∧ Aside0 (wc.heap[ha]? = some (.cells #[.string aa, .string ba, .int .u64 ya, .int .i64 Aa, .int .i64 xa, .int .i64 Ea, .int .i64 (wrap64 ((wrap64 (Int.tdiv Ba 4)) * Fa)), .int .i64 Ka, .int .i64 0] 35 (0, 0))) ∧ Aside0 (IsS52 w0 wc g ua Sb) ∧ Aside0 (KeepBut w wc g none) ∧ Aside0 (Below w0.heap.size w0 wc))
     case first =>
      have H := Hc.out
      clear Hc
      by_cases Rb : Pb = 8
      ·rw [if_pos Rb] at H
       have Cb : (Pb == 8) = true := beq_iff_eq.mpr Rb
       have Oc : (Pb != 8) = false := bne_eq_false_iff_eq.mpr Rb
       clear Rb
       (first | rw [Cb] | (simp only [i64_w, i32_w]; rw [Cb]) | skip)
       have H' := aM_ H
       clear H
       have tg := pa.out
       have ug := na.out
       have vg := qa.out
       have wg := ja.out
       have xg := ra.out
       have yg := oa.out
       have ld := bc_ ia.out 0
       have md := bc_ ia.out 1
       have od := bc_ ia.out 2
       have pd := bc_ ia.out 3
       have qd := bc_ ia.out 4
       have rd := bc_ ia.out 5
       have sd := bc_ ia.out 6
       have td := bc_ ia.out 7
       have ud := bc_ ia.out 8
       have vd := blk_frozen ia.out 0
       have wd := blk_frozen ia.out 1
       have xd := blk_frozen ia.out 2
       have yd := blk_frozen ia.out 3
       have zd := blk_frozen ia.out 4
       have Ad := blk_frozen ia.out 5
       have Bd := blk_frozen ia.out 6
       have Cd := blk_frozen ia.out 7
       have Dd := blk_frozen ia.out 8
       go_wp2
       go_meet
       case rel => exact ⟨_, (0), H', ⟨by have := Nc.out; have := Ud.out; first | omega | exact Nat.le_refl _⟩, ⟨by refine bk_ ?_; refine blk_far ?_ na.out _; refine bk_ ?_; exact fa.out⟩, ⟨by refine bk_ ?_; refine blk_far ?_ ja.out _; refine bk_ ?_; exact ca.out⟩, ⟨by refine bk_ ?_; refine blk_put (cs := #[.string aa, .string ba, .int .u64 Ga, .int .i64 Aa, .int .i64 xa, .int .i64 Ea, .int .i64 (wrap64 ((wrap64 (Int.tdiv Ba 4)) * Fa)), .int .i64 Ka, .int .i64 0]) ?_ 2 _ rfl; refine bk_ ?_; exact ia.out⟩, ⟨by repeat (first | (with_reducible first | exact ea.out | apply IsS52.alloc | apply IsS52.drewN | apply IsS52.drew | apply IsS52.set_1 | refine IsS52.far ?_ ka.out _ | refine IsS52.far ?_ ma.out _ | refine IsS52.far ?_ oa.out _) | exact ea.out)⟩, ⟨by repeat (first | (with_reducible first | exact HK.out | apply KeepBut.set_ | apply keep_drewN | apply keep_drew | apply keep_alloc | refine keep_far ?_ Za.out _ | refine keep_far ?_ ab.out _ | refine keep_far ?_ za.out _) | exact HK.out)⟩, ⟨by repeat (first | (with_reducible first | exact HB.out | apply bA_ | apply bN_ | apply bD_ | refine bS_ ?_ (IsS52.ge ea.out) | refine bS_ ?_ ta.out | refine bS_ ?_ va.out | refine bS_ ?_ sa.out) | exact HB.out)⟩⟩
      rw [if_neg Rb] at H
      have Cb : (Pb == 8) = false := beq_eq_false_iff_ne.mpr Rb
      have Oc : (Pb != 8) = true := bne_iff_ne.mpr Rb
      (first | rw [Cb] | (simp only [i64_w, i32_w]; rw [Cb]) | skip)
      have H' := aM_ H
      clear H
      go_wp2
      go_meet
      case rel => exact ⟨_, (Ga), H', ⟨by have := Nc.out; have := Ud.out; first | omega | exact Nat.le_refl _⟩, ⟨by refine bk_ ?_; exact fa.out⟩, ⟨by refine bk_ ?_; exact ca.out⟩, ⟨by refine bk_ ?_; exact ia.out⟩, ⟨by repeat (first | (with_reducible first | exact ea.out | apply IsS52.alloc | apply IsS52.drewN | apply IsS52.drew | apply IsS52.set_1 | refine IsS52.far ?_ ka.out _ | refine IsS52.far ?_ ma.out _ | refine IsS52.far ?_ oa.out _) | exact ea.out)⟩, ⟨by repeat (first | (with_reducible first | exact HK.out | apply KeepBut.set_ | apply keep_drewN | apply keep_drew | apply keep_alloc | refine keep_far ?_ Za.out _ | refine keep_far ?_ ab.out _ | refine keep_far ?_ za.out _) | exact HK.out)⟩, ⟨by repeat (first | (with_reducible first | exact HB.out | apply bA_ | apply bN_ | apply bD_ | refine bS_ ?_ (IsS52.ge ea.out) | refine bS_ ?_ ta.out | refine bS_ ?_ va.out | refine bS_ ?_ sa.out) | exact HB.out)⟩⟩
     case rest =>
      clear Hc
      try clear p2
      try clear c4
      try clear c5
      try clear c6
      try clear p6
      try clear Wf
      try clear Mb
      try clear pb
      try clear Ac
      try clear Xf
      try clear Yf
      try clear Zf
      try clear Rb
      try clear Cb
      try clear Oc
      try clear oh
      try clear ph
      try clear qh
      try clear rh
      try clear Xb
      try clear Yb
      try clear Zb
      try clear ac
      try clear bc
      try clear cc
      try clear dc
      try clear ec
      try clear fc
      try clear ld
      try clear md
      try clear od
      try clear pd
      try clear qd
      try clear rd
      try clear sd
      try clear td
      try clear ud
      try clear gc
      try clear hc
      try clear ic
      try clear jc
      try clear kc
      try clear lc
      try clear mc
      try clear nc
      try clear oc
      try clear vd
      try clear wd
      try clear xd
      try clear yd
      try clear zd
      try clear Ad
      try clear Bd
      try clear Cd
      try clear Dd
      try clear p2
      try clear p6
      obtain ⟨kq, ya, HA, ah, fa, ca, ia, ea, HK, HB⟩ := hcut
      cases kq with
      | zero => exact absurd HA.out (by simp [kerbsuitedata_Entry.j2])
      | succ bh =>
       have H := HA.out
       clear HA
       simp only [kerbsuitedata_Entry.j2] at H
       replace H := Option.bind_eq_some_iff.mp H
       obtain ⟨⟨Ib, Ic⟩, Wd, H⟩ := H
       try dsimp only at H
       have me := aM_ Wd
       clear Wd
       by_cases Tb : Ib = 8
       ·rw [if_pos Tb] at H
        have Zd : (Ib == 8) = true := beq_iff_eq.mpr Tb
        have ae : (Ib != 8) = false := bne_eq_false_iff_eq.mpr Tb
        clear Tb
        replace H := Option.bind_eq_some_iff.mp H
        obtain ⟨⟨Xd, pe⟩, Yd, H⟩ := H
        try dsimp only at H
        have bg := aM_ Yd
        clear Yd
        simp only [Option.some.injEq, Prod.mk.injEq] at H
        obtain ⟨rfl, rfl, rfl, rfl, rfl, rfl, rfl, rfl, rfl, rfl⟩ := H
        go_wp2_with (first | ((with_reducible refine gate_callee (f := 49) rfl ?_); refine goesL_ (some 46) rfl rfl Tryd.func49 (by kernel_rfl) rfl #[.pointer (some ⟨g, 0, none⟩), .int .i64 9] rfl aR_ ?_; (with_reducible refine (kerbsuitedata_Source_Next.calls g ua Sb 9 Ib Ic w0 _ ?side1 ?side2 me.out).mono ?_); (case side1 => repeat (first | (with_reducible first | exact ea.out | apply IsS52.alloc | apply IsS52.drewN | apply IsS52.drew | apply IsS52.set_1 | refine IsS52.far ?_ ka.out _ | refine IsS52.far ?_ ma.out _ | refine IsS52.far ?_ oa.out _) | exact ea.out)); (case side2 => repeat (first | (with_reducible first | exact HB.out | apply bA_ | apply bN_ | apply bD_ | refine bS_ ?_ (IsS52.ge ea.out) | refine bS_ ?_ ta.out | refine bS_ ?_ va.out | refine bS_ ?_ sa.out) | exact HB.out)); rintro e sh ⟨rfl, hi, hb, hk⟩; refine ⟨_, rfl, ?_⟩; replace fa := aM_ (KeepBut.blk hk (g' := la) (o := .cells #[.string (⟨#[]⟩ : ByteArray), .string (⟨#[]⟩ : ByteArray), .int .u64 0, .int .i64 0, .int .i64 0, .int .i64 0, .int .i64 0, .int .i64 0, .int .i64 0] 35 (0, 0)) (bk_ fa.out) Ca.out (by simp)); replace ca := aM_ (KeepBut.blk hk (g' := da) (o := .cells #[.string aa, .string ba, .string ga] 41 (0, 0)) (bk_ ca.out) Da.out (by simp)); replace ia := aM_ (KeepBut.blk hk (g' := ha) (o := .cells #[.string aa, .string ba, .int .u64 ya, .int .i64 Aa, .int .i64 xa, .int .i64 Ea, .int .i64 (wrap64 ((wrap64 (Int.tdiv Ba 4)) * Fa)), .int .i64 Ka, .int .i64 0] 35 (0, 0)) (bk_ ia.out) ra.out (by simp)); replace HK := aM_ (KeepBut.trans kB_ hk (.inl rfl)); replace HB := aM_ (hb); replace ea := aM_ (hi); clear hb hk hi) | ((with_reducible refine gate_callee (f := 49) rfl ?_); refine goesL_ (some 49) rfl rfl Tryd.func49 (by kernel_rfl) rfl #[.pointer (some ⟨g, 0, none⟩), .int .i64 256] rfl aR_ ?_; (with_reducible refine (kerbsuitedata_Source_Next.calls g ua Ic 256 Xd pe w0 _ ?side1 ?side2 bg.out).mono ?_); (case side1 => repeat (first | (with_reducible first | exact ea.out | apply IsS52.alloc | apply IsS52.drewN | apply IsS52.drew | apply IsS52.set_1 | refine IsS52.far ?_ ka.out _ | refine IsS52.far ?_ ma.out _ | refine IsS52.far ?_ oa.out _) | exact ea.out)); (case side2 => repeat (first | (with_reducible first | exact HB.out | apply bA_ | apply bN_ | apply bD_ | refine bS_ ?_ (IsS52.ge ea.out) | refine bS_ ?_ ta.out | refine bS_ ?_ va.out | refine bS_ ?_ sa.out) | exact HB.out)); rintro e cg ⟨rfl, hi, hb, hk⟩; refine ⟨_, rfl, ?_⟩; replace fa := aM_ (KeepBut.blk hk (g' := la) (o := .cells #[.string (⟨#[]⟩ : ByteArray), .string (⟨#[]⟩ : ByteArray), .int .u64 0, .int .i64 0, .int .i64 0, .int .i64 0, .int .i64 0, .int .i64 0, .int .i64 0] 35 (0, 0)) (bk_ fa.out) Ca.out (by simp)); replace ca := aM_ (KeepBut.blk hk (g' := da) (o := .cells #[.string aa, .string ba, .string ga] 41 (0, 0)) (bk_ ca.out) Da.out (by simp)); replace ia := aM_ (KeepBut.blk hk (g' := ha) (o := .cells #[.string aa, .string ba, .int .u64 ya, .int .i64 Aa, .int .i64 xa, .int .i64 Ea, .int .i64 (wrap64 ((wrap64 (Int.tdiv Ba 4)) * Fa)), .int .i64 Ka, .int .i64 0] 35 (0, 0)) (bk_ ia.out) ra.out (by simp)); replace HK := aM_ (KeepBut.trans kB_ hk (.inl rfl)); replace HB := aM_ (hb); replace ea := aM_ (hi); clear hb hk hi; have zg := pa.out; have Ag := na.out; have Bg := qa.out; have Cg := ja.out; have Dg := ra.out; have Eg := oa.out; have re := bc_ ia.out 0; have se := bc_ ia.out 1; have te := bc_ ia.out 2; have ue := bc_ ia.out 3; have ve := bc_ ia.out 4; have we := bc_ ia.out 5; have xe : cg.cell? ⟨ha, 6, none⟩ = some (.int .i64 (wrap64 ((wrap64 (Int.tdiv Ba 4)) * Fa))) := bc_ ia.out 6; have ye := bc_ ia.out 7; have ze := bc_ ia.out 8; have Ae := blk_frozen ia.out 0; have Be := blk_frozen ia.out 1; have Ce := blk_frozen ia.out 2; have De := blk_frozen ia.out 3; have Ee := blk_frozen ia.out 4; have Fe := blk_frozen ia.out 5; have Ge := blk_frozen ia.out 6; have He := blk_frozen ia.out 7; have Ie := blk_frozen ia.out 8; have Fg := Ja.out; have Gg := bb.out; have Hg := Ca.out; have Ig := ka.out; have Je := bc_ fa.out 0; have Ke := bc_ fa.out 1; have Le := bc_ fa.out 2; have Me := bc_ fa.out 3; have Ne := bc_ fa.out 4; have Oe := bc_ fa.out 5; have Pe := bc_ fa.out 6; have Qe := bc_ fa.out 7; have Re := bc_ fa.out 8; have Se := blk_frozen fa.out 0; have Te := blk_frozen fa.out 1; have Ue := blk_frozen fa.out 2; have Ve := blk_frozen fa.out 3; have We := blk_frozen fa.out 4; have Xe := blk_frozen fa.out 5; have Ye := blk_frozen fa.out 6; have Ze := blk_frozen fa.out 7; have af := blk_frozen fa.out 8))
        refine bodyPost_ret (results_cell_row rfl _ _ la 35 #[.string aa, .string ba, .int .u64 ya, .int .i64 Aa, .int .i64 xa, .int .i64 Ea, .int .i64 (wrap64 ((wrap64 (Int.tdiv Ba 4)) * Fa)), .int .i64 Ka, .int .i64 (wrap64 (Xd * 100))] (0, 0) _ rfl (by refine bk_ ?_; refine blk_put (cs := #[.string aa, .string ba, .int .u64 ya, .int .i64 Aa, .int .i64 xa, .int .i64 Ea, .int .i64 (wrap64 ((wrap64 (Int.tdiv Ba 4)) * Fa)), .int .i64 Ka, .int .i64 0]) ?_ 8 _ rfl; refine bk_ ?_; refine blk_put (cs := #[.string aa, .string ba, .int .u64 ya, .int .i64 Aa, .int .i64 xa, .int .i64 Ea, .int .i64 (wrap64 ((wrap64 (Int.tdiv Ba 4)) * Fa)), .int .i64 0, .int .i64 0]) ?_ 7 _ rfl; refine bk_ ?_; refine blk_put (cs := #[.string aa, .string ba, .int .u64 ya, .int .i64 Aa, .int .i64 xa, .int .i64 Ea, .int .i64 0, .int .i64 0, .int .i64 0]) ?_ 6 _ rfl; refine bk_ ?_; refine blk_put (cs := #[.string aa, .string ba, .int .u64 ya, .int .i64 Aa, .int .i64 xa, .int .i64 0, .int .i64 0, .int .i64 0, .int .i64 0]) ?_ 5 _ rfl; refine bk_ ?_; refine blk_put (cs := #[.string aa, .string ba, .int .u64 ya, .int .i64 Aa, .int .i64 0, .int .i64 0, .int .i64 0, .int .i64 0, .int .i64 0]) ?_ 4 _ rfl; refine bk_ ?_; refine blk_put (cs := #[.string aa, .string ba, .int .u64 ya, .int .i64 0, .int .i64 0, .int .i64 0, .int .i64 0, .int .i64 0, .int .i64 0]) ?_ 3 _ rfl; refine bk_ ?_; refine blk_put (cs := #[.string aa, .string ba, .int .u64 0, .int .i64 0, .int .i64 0, .int .i64 0, .int .i64 0, .int .i64 0, .int .i64 0]) ?_ 2 _ rfl; refine bk_ ?_; refine blk_put (cs := #[.string aa, .string (⟨#[]⟩ : ByteArray), .int .u64 0, .int .i64 0, .int .i64 0, .int .i64 0, .int .i64 0, .int .i64 0, .int .i64 0]) ?_ 1 _ rfl; refine bk_ ?_; refine blk_put (cs := #[.string (⟨#[]⟩ : ByteArray), .string (⟨#[]⟩ : ByteArray), .int .u64 0, .int .i64 0, .int .i64 0, .int .i64 0, .int .i64 0, .int .i64 0, .int .i64 0]) ?_ 0 _ rfl; refine bk_ ?_; refine blk_far ?_ na.out _; refine bk_ ?_; exact fa.out) Tryd.underlying35 rfl (by kernel_rfl)) rfl ?_
        exact ⟨eW_, by repeat (first | (with_reducible first | exact ea.out | apply IsS52.alloc | apply IsS52.drewN | apply IsS52.drew | apply IsS52.set_1 | refine IsS52.far ?_ ka.out _ | refine IsS52.far ?_ ma.out _ | refine IsS52.far ?_ oa.out _) | exact ea.out), by repeat (first | (with_reducible first | exact HB.out | apply bA_ | apply bN_ | apply bD_ | refine bS_ ?_ (IsS52.ge ea.out) | refine bS_ ?_ ta.out | refine bS_ ?_ va.out | refine bS_ ?_ sa.out) | exact HB.out), by repeat (first | (with_reducible first | exact HK.out | apply KeepBut.set_ | apply keep_drewN | apply keep_drew | apply keep_alloc | refine keep_far ?_ Za.out _ | refine keep_far ?_ ab.out _ | refine keep_far ?_ za.out _) | exact HK.out)⟩
       rw [if_neg Tb] at H
       have Zd : (Ib == 8) = false := beq_eq_false_iff_ne.mpr Tb
       have ae : (Ib != 8) = true := bne_iff_ne.mpr Tb
       simp only [Option.some.injEq, Prod.mk.injEq] at H
       obtain ⟨rfl, rfl, rfl, rfl, rfl, rfl, rfl, rfl, rfl, rfl⟩ := H
       go_wp2_with (first | ((with_reducible refine gate_callee (f := 49) rfl ?_); refine goesL_ (some 46) rfl rfl Tryd.func49 (by kernel_rfl) rfl #[.pointer (some ⟨g, 0, none⟩), .int .i64 9] rfl aR_ ?_; (with_reducible refine (kerbsuitedata_Source_Next.calls g ua Sb 9 Ib Ic w0 _ ?side1 ?side2 me.out).mono ?_); (case side1 => repeat (first | (with_reducible first | exact ea.out | apply IsS52.alloc | apply IsS52.drewN | apply IsS52.drew | apply IsS52.set_1 | refine IsS52.far ?_ ka.out _ | refine IsS52.far ?_ ma.out _ | refine IsS52.far ?_ oa.out _) | exact ea.out)); (case side2 => repeat (first | (with_reducible first | exact HB.out | apply bA_ | apply bN_ | apply bD_ | refine bS_ ?_ (IsS52.ge ea.out) | refine bS_ ?_ ta.out | refine bS_ ?_ va.out | refine bS_ ?_ sa.out) | exact HB.out)); rintro e dg ⟨rfl, hi, hb, hk⟩; refine ⟨_, rfl, ?_⟩; replace fa := aM_ (KeepBut.blk hk (g' := la) (o := .cells #[.string (⟨#[]⟩ : ByteArray), .string (⟨#[]⟩ : ByteArray), .int .u64 0, .int .i64 0, .int .i64 0, .int .i64 0, .int .i64 0, .int .i64 0, .int .i64 0] 35 (0, 0)) (bk_ fa.out) Ca.out (by simp)); replace ca := aM_ (KeepBut.blk hk (g' := da) (o := .cells #[.string aa, .string ba, .string ga] 41 (0, 0)) (bk_ ca.out) Da.out (by simp)); replace ia := aM_ (KeepBut.blk hk (g' := ha) (o := .cells #[.string aa, .string ba, .int .u64 ya, .int .i64 Aa, .int .i64 xa, .int .i64 Ea, .int .i64 (wrap64 ((wrap64 (Int.tdiv Ba 4)) * Fa)), .int .i64 Ka, .int .i64 0] 35 (0, 0)) (bk_ ia.out) ra.out (by simp)); replace HK := aM_ (KeepBut.trans kB_ hk (.inl rfl)); replace HB := aM_ (hb); replace ea := aM_ (hi); clear hb hk hi; have Jg := pa.out; have Kg := na.out; have Lg := qa.out; have Mg := ja.out; have Ng := ra.out; have Og := oa.out; have bf := bc_ ia.out 0; have cf := bc_ ia.out 1; have df := bc_ ia.out 2; have ef := bc_ ia.out 3; have ff := bc_ ia.out 4; have gf := bc_ ia.out 5; have hf : dg.cell? ⟨ha, 6, none⟩ = some (.int .i64 (wrap64 ((wrap64 (Int.tdiv Ba 4)) * Fa))) := bc_ ia.out 6; have jf := bc_ ia.out 7; have kf := bc_ ia.out 8; have lf := blk_frozen ia.out 0; have mf := blk_frozen ia.out 1; have nf := blk_frozen ia.out 2; have pf := blk_frozen ia.out 3; have qf := blk_frozen ia.out 4; have rf := blk_frozen ia.out 5; have sf := blk_frozen ia.out 6; have tf := blk_frozen ia.out 7; have uf := blk_frozen ia.out 8; have Pg := Ja.out; have Qg := bb.out; have Rg := Ca.out; have Sg := ka.out; have vf := bc_ fa.out 0; have wf := bc_ fa.out 1; have xf := bc_ fa.out 2; have yf := bc_ fa.out 3; have zf := bc_ fa.out 4; have Af := bc_ fa.out 5; have Bf := bc_ fa.out 6; have Cf := bc_ fa.out 7; have Df := bc_ fa.out 8; have Ef := blk_frozen fa.out 0; have Ff := blk_frozen fa.out 1; have Gf := blk_frozen fa.out 2; have Hf := blk_frozen fa.out 3; have If := blk_frozen fa.out 4; have Jf := blk_frozen fa.out 5; have Kf := blk_frozen fa.out 6; have Lf := blk_frozen fa.out 7; have Mf := blk_frozen fa.out 8))
       refine bodyPost_ret (results_cell_row rfl _ _ la 35 #[.string aa, .string ba, .int .u64 ya, .int .i64 Aa, .int .i64 xa, .int .i64 Ea, .int .i64 (wrap64 ((wrap64 (Int.tdiv Ba 4)) * Fa)), .int .i64 Ka, .int .i64 0] (0, 0) _ rfl (by refine bk_ ?_; refine blk_put (cs := #[.string aa, .string ba, .int .u64 ya, .int .i64 Aa, .int .i64 xa, .int .i64 Ea, .int .i64 (wrap64 ((wrap64 (Int.tdiv Ba 4)) * Fa)), .int .i64 Ka, .int .i64 0]) ?_ 8 _ rfl; refine bk_ ?_; refine blk_put (cs := #[.string aa, .string ba, .int .u64 ya, .int .i64 Aa, .int .i64 xa, .int .i64 Ea, .int .i64 (wrap64 ((wrap64 (Int.tdiv Ba 4)) * Fa)), .int .i64 0, .int .i64 0]) ?_ 7 _ rfl; refine bk_ ?_; refine blk_put (cs := #[.string aa, .string ba, .int .u64 ya, .int .i64 Aa, .int .i64 xa, .int .i64 Ea, .int .i64 0, .int .i64 0, .int .i64 0]) ?_ 6 _ rfl; refine bk_ ?_; refine blk_put (cs := #[.string aa, .string ba, .int .u64 ya, .int .i64 Aa, .int .i64 xa, .int .i64 0, .int .i64 0, .int .i64 0, .int .i64 0]) ?_ 5 _ rfl; refine bk_ ?_; refine blk_put (cs := #[.string aa, .string ba, .int .u64 ya, .int .i64 Aa, .int .i64 0, .int .i64 0, .int .i64 0, .int .i64 0, .int .i64 0]) ?_ 4 _ rfl; refine bk_ ?_; refine blk_put (cs := #[.string aa, .string ba, .int .u64 ya, .int .i64 0, .int .i64 0, .int .i64 0, .int .i64 0, .int .i64 0, .int .i64 0]) ?_ 3 _ rfl; refine bk_ ?_; refine blk_put (cs := #[.string aa, .string ba, .int .u64 0, .int .i64 0, .int .i64 0, .int .i64 0, .int .i64 0, .int .i64 0, .int .i64 0]) ?_ 2 _ rfl; refine bk_ ?_; refine blk_put (cs := #[.string aa, .string (⟨#[]⟩ : ByteArray), .int .u64 0, .int .i64 0, .int .i64 0, .int .i64 0, .int .i64 0, .int .i64 0, .int .i64 0]) ?_ 1 _ rfl; refine bk_ ?_; refine blk_put (cs := #[.string (⟨#[]⟩ : ByteArray), .string (⟨#[]⟩ : ByteArray), .int .u64 0, .int .i64 0, .int .i64 0, .int .i64 0, .int .i64 0, .int .i64 0, .int .i64 0]) ?_ 0 _ rfl; refine bk_ ?_; exact fa.out) Tryd.underlying35 rfl (by kernel_rfl)) rfl ?_
       exact ⟨eW_, by repeat (first | (with_reducible first | exact ea.out | apply IsS52.alloc | apply IsS52.drewN | apply IsS52.drew | apply IsS52.set_1 | refine IsS52.far ?_ ka.out _ | refine IsS52.far ?_ ma.out _ | refine IsS52.far ?_ oa.out _) | exact ea.out), by repeat (first | (with_reducible first | exact HB.out | apply bA_ | apply bN_ | apply bD_ | refine bS_ ?_ (IsS52.ge ea.out) | refine bS_ ?_ ta.out | refine bS_ ?_ va.out | refine bS_ ?_ sa.out) | exact HB.out), by repeat (first | (with_reducible first | exact HK.out | apply KeepBut.set_ | apply keep_drewN | apply keep_drew | apply keep_alloc | refine keep_far ?_ Za.out _ | refine keep_far ?_ ab.out _ | refine keep_far ?_ za.out _) | exact HK.out)⟩

end Go.Proofs.YthfdfoigoomaoaaDoor.PDb
