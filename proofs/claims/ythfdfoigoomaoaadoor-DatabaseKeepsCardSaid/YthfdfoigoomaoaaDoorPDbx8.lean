/- The walks of functions of the translation: each call returns what the plain function beside it says. -/
import Derived.Test.YthfdfoigoomaoaaDoorPDbx0
import Derived.Test.YthfdfoigoomaoaaDoorPDbx2
import Derived.Test.YthfdfoigoomaoaaDoorPDbx7
namespace Go.Proofs.YthfdfoigoomaoaaDoor.PDb
open Go.RowKit Go.Proofs.YthfdfoigoomaoaaDoorW.PrintWords Go.Proofs.YthfdfoigoomaoaaDoorW.PrintLast Go.Proofs.YthfdfoigoomaoaaDoorW.PrintMore Go.Proofs.YthfdfoigoomaoaaDoor.Aid
attribute [local go_sem] max2_int min2_int max_two min_two max_three min_three max_four min_four aid_str_gtr aid_str_leq   -- for this text's walks alone
set_option linter.unusedVariables false
set_option linter.unusedSimpArgs false

/-! ### kerbsuitedata_Entry: function 24 -/
mutual
def kerbsuitedata_Entry.j0 : Nat → List Int → Int → ByteArray → ByteArray → ByteArray → Option (ByteArray × ByteArray × Int × Int × Int × Int × Int × Int × Int × Int)
 | 0, _, _, _, _, _ => none
 | k + 1, Na, Ab, Rb, Sb, qe => (kerbsuitedata_Source_Next.f Na Ab 40).bind fun Gc => ((kerbsuitedata_Long.f Gc.1).bind fun Ia => ((kerbsuitedata_Source_Next.f Na Gc.2 256).bind fun mc => ((kerbsuitedata_Source_Next.f Na mc.2 256).bind fun nc => ((kerbsuitedata_Source_Next.f Na nc.2 5).bind fun oc => ((kerbsuitedata_Source_Next.f Na oc.2 4).bind fun pc => ((kerbsuitedata_Source_Next.f Na pc.2 21).bind fun qc => ((kerbsuitedata_Source_Next.f Na qc.2 5).bind fun rc => (if rc.1 = 4 then ((kerbsuitedata_Source_Next.f Na rc.2 256).bind fun Hc => (kerbsuitedata_Entry.j1 k Na Hc.2 Rb Sb Ia mc.1 (wrap64 (Hc.1 * 200)) nc.1 (wrap64 ((wrap64 (Int.tdiv oc.1 4)) * pc.1)) qc.1 0)) else (kerbsuitedata_Entry.j1 k Na rc.2 Rb Sb Ia mc.1 0 nc.1 (wrap64 ((wrap64 (Int.tdiv oc.1 4)) * pc.1)) qc.1 0)))))))))
def kerbsuitedata_Entry.j1 : Nat → List Int → Int → ByteArray → ByteArray → Int → Int → Int → Int → Int → Int → Int → Option (ByteArray × ByteArray × Int × Int × Int × Int × Int × Int × Int × Int)
 | 0, _, _, _, _, _, _, _, _, _, _, _ => none
 | k + 1, Na, Ab, cb, db, rb, eb, fb, gb, ib, jb, sb => (kerbsuitedata_Source_Next.f Na Ab 9).bind fun sc => (if sc.1 = 8 then (kerbsuitedata_Entry.j2 k Na sc.2 cb db 0 eb fb gb ib jb sb) else (kerbsuitedata_Entry.j2 k Na sc.2 cb db rb eb fb gb ib jb sb))
def kerbsuitedata_Entry.j2 : Nat → List Int → Int → ByteArray → ByteArray → Int → Int → Int → Int → Int → Int → Int → Option (ByteArray × ByteArray × Int × Int × Int × Int × Int × Int × Int × Int)
 | 0, _, _, _, _, _, _, _, _, _, _, _ => none
 | k + 1, Na, Ab, cb, db, rb, eb, fb, gb, ib, jb, sb => (kerbsuitedata_Source_Next.f Na Ab 9).bind fun tc => (if tc.1 = 8 then ((kerbsuitedata_Source_Next.f Na tc.2 256).bind fun Ic => (some (cb, db, rb, eb, fb, gb, ib, jb, wrap64 (Ic.1 * 100), Ic.2))) else (some (cb, db, rb, eb, fb, gb, ib, jb, sb, tc.2)))
end
def kerbsuitedata_Entry.f (k : Nat) (va : List Int) (Eb : Int) : Option (ByteArray × ByteArray × Int × Int × Int × Int × Int × Int × Int × Int) := (kerbsuitedata_Source_Next.f va Eb 3).bind fun Bb => ((kerbsuitedata_User.f Bb.1).bind fun kb => ((kerbsuitedata_Source_Next.f va Bb.2 2).bind fun lb => (if lb.1 = 1 then ((kerbsuitedata_Source_Next.f va lb.2 3).bind fun Cb => ((kerbsuitedata_Service.f Cb.1).bind fun mb => (kerbsuitedata_Entry.j0 k va Cb.2 mb.1 mb.2.1 mb.2.2))) else (kerbsuitedata_Entry.j0 k va lb.2 kb.1 kb.2.1 kb.2.2))))
def kerbsuitedata_Entry.T4 : Bool × List (List Nat × List Nat) := (true,[([], []), ([0], [0]), ([], []), ([2], [2]), ([], []), ([4], [4]), ([5, 5], [5]), ([], []), ([7, 6], [7]), ([], []), ([9, 8], [9]), ([], []), ([11, 10], [11]), ([12], [12]), ([], []), ([14, 12], [14]), ([13, 15], [13, 15]), ([], []), ([17, 15], [17]), ([1, 3, 6, 8, 10, 16, 18], [1, 3, 6, 8, 10, 16, 18]), ([], []), ([20, 19, 18, 0, 1, 2, 3, 4, 5, 6, 7, 8, 9, 10, 11, 12, 13, 14, 15, 16, 17, 18, 19, 20], [19, 20])])
def kerbsuitedata_Entry.B4 : List Nat := [0, 1, 0, 4, 0, 16, 48, 0, 240, 0, 1008, 0, 4080, 8176, 0, 24560, 65520, 0, 188400, 524287, 0, 2097151]
theorem kerbsuitedata_Entry.tab4 : rtab .any (opsOf Tryd.f24 4) = kerbsuitedata_Entry.T4 := by kernel_rfl
theorem kerbsuitedata_Entry.bits4 : waitsOk kerbsuitedata_Entry.T4.2 kerbsuitedata_Entry.B4 = true := by kernel_rfl
set_option maxHeartbeats 8000000 in
set_option maxRecDepth 100000 in
theorem kerbsuitedata_Entry.calls (k : Nat) (g : Nat) (va : List Int) (Eb : Int) (r1 : ByteArray) (r2 : ByteArray) (r3 : Int) (r4 : Int) (r5 : Int) (r6 : Int) (r7 : Int) (r8 : Int) (r9 : Int) (Tb : Int) (w0 w : World) (hI : IsS52 w0 w g va Eb) (hB : Below w0.heap.size w0 w) (h : kerbsuitedata_Entry.f k va Eb = some (r1, r2, r3, r4, r5, r6, r7, r8, r9, Tb)) :
  Calls Tryd.prog 24 #[.pointer (some ⟨g, 0, none⟩)] w fun e w' => e = .returned (.agg #[.string r1, .string r2, .int .u64 r3, .int .i64 r4, .int .i64 r5, .int .i64 r6, .int .i64 r7, .int .i64 r8, .int .i64 r9]) ∧ IsS52 w0 w' g va Tb ∧ Below w0.heap.size w0 w' ∧ KeepBut w w' g none := by
 have hu35 := Tryd.underlying35
 have hu41 := Tryd.underlying41
 have da := aM_ hI
 have HK := aM_ (KeepBut.refl w g none)
 have HL := aM_ hB.size
 clear hI
 have HW0 := aM_ hB.size
 have HB := aM_ hB
 clear hB
 have H : ((kerbsuitedata_Source_Next.f va Eb 3).bind fun Bb => ((kerbsuitedata_User.f Bb.1).bind fun kb => ((kerbsuitedata_Source_Next.f va Bb.2 2).bind fun lb => (if lb.1 = 1 then ((kerbsuitedata_Source_Next.f va lb.2 3).bind fun Cb => ((kerbsuitedata_Service.f Cb.1).bind fun mb => (kerbsuitedata_Entry.j0 k va Cb.2 mb.1 mb.2.1 mb.2.2))) else (kerbsuitedata_Entry.j0 k va lb.2 kb.1 kb.2.1 kb.2.2))))) = some (r1, r2, r3, r4, r5, r6, r7, r8, r9, Tb) := h
 clear h
 replace H := Option.bind_eq_some_iff.mp H
 obtain ⟨⟨zc, Bd⟩, be, H⟩ := H
 try dsimp only at H
 have A2 := aM_ be
 clear be
 replace H := Option.bind_eq_some_iff.mp H
 obtain ⟨⟨uc, vc, xc⟩, ce, H⟩ := H
 try dsimp only at H
 have A3 := aM_ ce
 clear ce
 replace H := Option.bind_eq_some_iff.mp H
 obtain ⟨⟨Fb, Ac⟩, de, H⟩ := H
 try dsimp only at H
 have A4 := aM_ de
 clear de
 have Cd := aM_ H
 clear H
 go_enter Tryd.func24, Tryd.ntmps24
 go_upto_if 10 with (first | ((with_reducible refine gate_dst (N := 2) rfl ?_); refine bE_ 2 35 #[.string (⟨#[]⟩ : ByteArray), .string (⟨#[]⟩ : ByteArray), .int .u64 0, .int .i64 0, .int .i64 0, .int .i64 0, .int .i64 0, .int .i64 0, .int .i64 0] ?_; intro ta hg w6 hbox hb; replace HB := aM_ (below_step (by repeat (first | (with_reducible first | exact HB.out | apply bA_ | apply bN_ | apply bD_ | refine bS_ ?_ (IsS52.ge da.out)) | exact HB.out)) hb); have fa := aM_ (hbox); have Ya := aM_ ((by rw [hg]; exact (keep_size (w := w) (g := g) (row := none) kB_) : w.heap.size ≤ ta)); have sa := aM_ ((Nat.le_trans HW0.out (by rw [hg]; exact (keep_size (w := w) (g := g) (row := none) kB_) : w.heap.size ≤ ta) : w0.heap.size ≤ ta)); replace HK := aM_ (KeepBut.trans kB_ (KeepBut.of_below hb g none) (.inl rfl)); have la := aM_ (nI_ hg (IsS52.lt da.out)); have ya := aM_ (nJ_ hg (IsS52.lt da.out)); replace da := aM_ (IsS52.below (by repeat (first | (with_reducible first | exact da.out | apply IsS52.alloc | apply IsS52.drewN | apply IsS52.drew | apply IsS52.set_1) | exact da.out)) hb); clear hb hbox hg) | ((with_reducible refine gate_callee (f := 49) rfl ?_); refine gC_ (some 6) 49 #[.pointer (some ⟨g, 0, none⟩), .int .i64 3] Tryd.func49 ?_; (with_reducible refine (kerbsuitedata_Source_Next.calls g va Eb 3 zc Bd w0 _ ?side1 ?side2 A2.out).mono ?_); (case side1 => repeat (first | (with_reducible first | exact da.out | apply IsS52.alloc | apply IsS52.drewN | apply IsS52.drew | apply IsS52.set_1 | refine IsS52.far ?_ la.out _) | exact da.out)); (case side2 => repeat (first | (with_reducible first | exact HB.out | apply bA_ | apply bN_ | apply bD_ | refine bS_ ?_ (IsS52.ge da.out) | refine bS_ ?_ sa.out) | exact HB.out)); rintro e w7 ⟨rfl, hi, hb, hk⟩; refine ⟨_, rfl, ?_⟩; replace fa := aM_ (KeepBut.blk hk (g' := ta) (o := .cells #[.string (⟨#[]⟩ : ByteArray), .string (⟨#[]⟩ : ByteArray), .int .u64 0, .int .i64 0, .int .i64 0, .int .i64 0, .int .i64 0, .int .i64 0, .int .i64 0] 35 (0, 0)) (bk_ fa.out) ya.out (by simp)); replace HK := aM_ (KeepBut.trans kB_ hk (.inl rfl)); replace HB := aM_ (hb); replace da := aM_ (hi); clear hb hk hi) | ((with_reducible refine gate_callee (f := 16) rfl ?_); refine gC_ (some 7) 16 #[.int .i64 zc] Tryd.func16 ?_; (with_reducible refine (kerbsuitedata_User.calls zc uc vc xc _ A3.out).mono ?_); rintro e w8 ⟨rfl, hb⟩; refine ⟨_, rfl, ?_⟩; replace fa := aM_ (kG_ fa.out hb); replace HK := aM_ (KeepBut.trans kB_ (KeepBut.of_below hb g none) (.inl rfl)); replace HB := aM_ (below_step (by repeat (first | (with_reducible first | exact HB.out | apply bA_ | apply bN_ | apply bD_ | refine bS_ ?_ (IsS52.ge da.out) | refine bS_ ?_ sa.out) | exact HB.out)) hb); replace da := aM_ (IsS52.below (by repeat (first | (with_reducible first | exact da.out | apply IsS52.alloc | apply IsS52.drewN | apply IsS52.drew | apply IsS52.set_1 | refine IsS52.far ?_ la.out _) | exact da.out)) hb); clear hb) | ((with_reducible refine gate_dst (N := 3) rfl ?_); refine bE_ 3 41 #[.string (⟨#[]⟩ : ByteArray), .string (⟨#[]⟩ : ByteArray), .string (⟨#[]⟩ : ByteArray)] ?_; intro ea hg w9 hbox hb; replace HB := aM_ (below_step (by repeat (first | (with_reducible first | exact HB.out | apply bA_ | apply bN_ | apply bD_ | refine bS_ ?_ (IsS52.ge da.out) | refine bS_ ?_ sa.out) | exact HB.out)) hb); have aa := aM_ (hbox); have Za := aM_ ((by rw [hg]; exact (keep_size (w := w) (g := g) (row := none) kB_) : w.heap.size ≤ ea)); have ua := aM_ ((Nat.le_trans HW0.out (by rw [hg]; exact (keep_size (w := w) (g := g) (row := none) kB_) : w.heap.size ≤ ea) : w0.heap.size ≤ ea)); replace HK := aM_ (KeepBut.trans kB_ (KeepBut.of_below hb g none) (.inl rfl)); have Va := aM_ (nL_ hg fa.out); have ab := aM_ (nG_ hg fa.out); replace fa := aM_ (kG_ fa.out hb); have ma := aM_ (nI_ hg (IsS52.lt da.out)); have za := aM_ (nJ_ hg (IsS52.lt da.out)); replace da := aM_ (IsS52.below (by repeat (first | (with_reducible first | exact da.out | apply IsS52.alloc | apply IsS52.drewN | apply IsS52.drew | apply IsS52.set_1 | refine IsS52.far ?_ la.out _) | exact da.out)) hb); clear hb hbox hg; have eg := ab.out; have fg := Va.out; have gg := za.out; have ig := ma.out; obtain ⟨Vc, Wc, Xc⟩ := kC3_ aa.out; obtain ⟨Yc, Zc, ad⟩ := kZ3_ aa.out) | ((with_reducible refine gate_callee (f := 49) rfl ?_); refine gC_ (some 9) 49 #[.pointer (some ⟨g, 0, none⟩), .int .i64 2] Tryd.func49 ?_; (with_reducible refine (kerbsuitedata_Source_Next.calls g va Bd 2 Fb Ac w0 _ ?side1 ?side2 A4.out).mono ?_); (case side1 => repeat (first | (with_reducible first | exact da.out | apply IsS52.alloc | apply IsS52.drewN | apply IsS52.drew | apply IsS52.set_1 | refine IsS52.far ?_ la.out _ | refine IsS52.far ?_ ma.out _) | exact da.out)); (case side2 => repeat (first | (with_reducible first | exact HB.out | apply bA_ | apply bN_ | apply bD_ | refine bS_ ?_ (IsS52.ge da.out) | refine bS_ ?_ sa.out | refine bS_ ?_ ua.out) | exact HB.out)); rintro e Zg ⟨rfl, hi, hb, hk⟩; refine ⟨_, rfl, ?_⟩; replace fa := aM_ (KeepBut.blk hk (g' := ta) (o := .cells #[.string (⟨#[]⟩ : ByteArray), .string (⟨#[]⟩ : ByteArray), .int .u64 0, .int .i64 0, .int .i64 0, .int .i64 0, .int .i64 0, .int .i64 0, .int .i64 0] 35 (0, 0)) (by exact far_ Va.out fa.out) ya.out (by simp)); replace aa := aM_ (KeepBut.blk hk (g' := ea) (o := .cells #[.string uc, .string vc, .string xc] 41 (0, 0)) (by exact puts_ aa.out) za.out (by simp)); replace HK := aM_ (KeepBut.trans kB_ hk (.inl rfl)); replace HB := aM_ (hb); replace da := aM_ (hi); clear hb hk hi))
 (try simp only [Act.put, sA_, sB_, sC_])
 go_cut [] (fun wc => ∃ (kq : Nat) (Wa : Int) (ba : ByteArray) (ca : ByteArray) (ha : ByteArray), Aside0 (kerbsuitedata_Entry.j0 kq va Wa ba ca ha = some (r1, r2, r3, r4, r5, r6, r7, r8, r9, Tb)) ∧ Aside0 (kq ≤ k) ∧ Aside0 (wc.heap[ta]? = some (.cells #[.string (⟨#[]⟩ : ByteArray), .string (⟨#[]⟩ : ByteArray), .int .u64 0, .int .i64 0, .int .i64 0, .int .i64 0, .int .i64 0, .int .i64 0, .int .i64 0] 35 (0, 0))) ∧ Aside0 (wc.heap[ea]? = some (.cells #[.string ba, .string ca, .string ha] 41 (0, 0))) ∧ Aside0 (IsS52 w0 wc g va Wa) ∧ Aside0 (KeepBut w wc g none) ∧ Aside0 (Below w0.heap.size w0 wc))
 case first =>
  have H := Cd.out
  clear Cd
  by_cases Mb : Fb = 1
  ·rw [if_pos Mb] at H
   have tb : (Fb == 1) = true := beq_iff_eq.mpr Mb
   have Jc : (Fb != 1) = false := bne_eq_false_iff_eq.mpr Mb
   clear Mb
   (first | rw [tb] | (simp only [i64_w, i32_w]; rw [tb]) | skip)
   replace H := Option.bind_eq_some_iff.mp H
   obtain ⟨⟨Bc, Dd⟩, Ed, H⟩ := H
   try dsimp only at H
   have Nf := aM_ Ed
   clear Ed
   replace H := Option.bind_eq_some_iff.mp H
   obtain ⟨⟨Fd, Gd, Hd⟩, Id, H⟩ := H
   try dsimp only at H
   have Of := aM_ Id
   clear Id
   have H' := aM_ H
   clear H
   go_wp2_with (first | ((with_reducible refine gate_callee (f := 49) rfl ?_); refine gC_ (some 12) 49 #[.pointer (some ⟨g, 0, none⟩), .int .i64 3] Tryd.func49 ?_; (with_reducible refine (kerbsuitedata_Source_Next.calls g va Ac 3 Bc Dd w0 _ ?side1 ?side2 Nf.out).mono ?_); (case side1 => repeat (first | (with_reducible first | exact da.out | apply IsS52.alloc | apply IsS52.drewN | apply IsS52.drew | apply IsS52.set_1 | refine IsS52.far ?_ la.out _ | refine IsS52.far ?_ ma.out _) | exact da.out)); (case side2 => repeat (first | (with_reducible first | exact HB.out | apply bA_ | apply bN_ | apply bD_ | refine bS_ ?_ (IsS52.ge da.out) | refine bS_ ?_ sa.out | refine bS_ ?_ ua.out) | exact HB.out)); rintro e ah ⟨rfl, hi, hb, hk⟩; refine ⟨_, rfl, ?_⟩; replace fa := aM_ (KeepBut.blk hk (g' := ta) (o := .cells #[.string (⟨#[]⟩ : ByteArray), .string (⟨#[]⟩ : ByteArray), .int .u64 0, .int .i64 0, .int .i64 0, .int .i64 0, .int .i64 0, .int .i64 0, .int .i64 0] 35 (0, 0)) (bk_ fa.out) ya.out (by simp)); replace aa := aM_ (KeepBut.blk hk (g' := ea) (o := .cells #[.string uc, .string vc, .string xc] 41 (0, 0)) (bk_ aa.out) za.out (by simp)); replace HK := aM_ (KeepBut.trans kB_ hk (.inl rfl)); replace HB := aM_ (hb); replace da := aM_ (hi); clear hb hk hi) | ((with_reducible refine gate_callee (f := 17) rfl ?_); refine gC_ (some 13) 17 #[.int .i64 Bc] Tryd.func17 ?_; (with_reducible refine (kerbsuitedata_Service.calls Bc Fd Gd Hd _ Of.out).mono ?_); rintro e bh ⟨rfl, hb⟩; refine ⟨_, rfl, ?_⟩; replace fa := aM_ (kG_ fa.out hb); replace aa := aM_ (kG_ aa.out hb); replace HK := aM_ (KeepBut.trans kB_ (KeepBut.of_below hb g none) (.inl rfl)); replace HB := aM_ (below_step (by repeat (first | (with_reducible first | exact HB.out | apply bA_ | apply bN_ | apply bD_ | refine bS_ ?_ (IsS52.ge da.out) | refine bS_ ?_ sa.out | refine bS_ ?_ ua.out) | exact HB.out)) hb); replace da := aM_ (IsS52.below (by repeat (first | (with_reducible first | exact da.out | apply IsS52.alloc | apply IsS52.drewN | apply IsS52.drew | apply IsS52.set_1 | refine IsS52.far ?_ la.out _ | refine IsS52.far ?_ ma.out _) | exact da.out)) hb); clear hb; have jg := ab.out; have kg := Va.out; have lg := za.out; have mg := ma.out; obtain ⟨bd, cd, dd⟩ := kC3_ aa.out; obtain ⟨ed, fd, gd⟩ := kZ3_ aa.out))
   go_meet
   case rel => exact ⟨_, (Dd), (Fd), (Gd), (Hd), H', ⟨by first | omega | exact Nat.le_refl _⟩, ⟨by exact far_ Va.out fa.out⟩, ⟨by exact puts_ aa.out⟩, ⟨by repeat (first | (with_reducible first | exact da.out | apply IsS52.alloc | apply IsS52.drewN | apply IsS52.drew | apply IsS52.set_1 | refine IsS52.far ?_ la.out _ | refine IsS52.far ?_ ma.out _) | exact da.out)⟩, ⟨by repeat (first | (with_reducible first | exact HK.out | apply KeepBut.set_ | apply keep_drewN | apply keep_drew | apply keep_alloc | refine keep_far ?_ Ya.out _ | refine keep_far ?_ Za.out _) | exact HK.out)⟩, ⟨by repeat (first | (with_reducible first | exact HB.out | apply bA_ | apply bN_ | apply bD_ | refine bS_ ?_ (IsS52.ge da.out) | refine bS_ ?_ sa.out | refine bS_ ?_ ua.out) | exact HB.out)⟩⟩
  rw [if_neg Mb] at H
  have tb : (Fb == 1) = false := beq_eq_false_iff_ne.mpr Mb
  have Jc : (Fb != 1) = true := bne_iff_ne.mpr Mb
  (first | rw [tb] | (simp only [i64_w, i32_w]; rw [tb]) | skip)
  have H' := aM_ H
  clear H
  go_wp2
  go_meet
  case rel => exact ⟨_, (Ac), (uc), (vc), (xc), H', ⟨by first | omega | exact Nat.le_refl _⟩, ⟨by refine bk_ ?_; exact fa.out⟩, ⟨by refine bk_ ?_; exact aa.out⟩, ⟨by repeat (first | (with_reducible first | exact da.out | apply IsS52.alloc | apply IsS52.drewN | apply IsS52.drew | apply IsS52.set_1 | refine IsS52.far ?_ la.out _ | refine IsS52.far ?_ ma.out _) | exact da.out)⟩, ⟨by repeat (first | (with_reducible first | exact HK.out | apply KeepBut.set_ | apply keep_drewN | apply keep_drew | apply keep_alloc | refine keep_far ?_ Ya.out _ | refine keep_far ?_ Za.out _) | exact HK.out)⟩, ⟨by repeat (first | (with_reducible first | exact HB.out | apply bA_ | apply bN_ | apply bD_ | refine bS_ ?_ (IsS52.ge da.out) | refine bS_ ?_ sa.out | refine bS_ ?_ ua.out) | exact HB.out)⟩⟩
 case rest =>
  clear Cd
  try clear c1
  try clear c2
  try clear p2
  try clear c4
  try clear ch
  try clear dh
  try clear Mb
  try clear tb
  try clear Jc
  try clear eh
  try clear fh
  try clear gh
  try clear hh
  try clear Vc
  try clear Wc
  try clear Xc
  try clear bd
  try clear cd
  try clear dd
  try clear Yc
  try clear Zc
  try clear ad
  try clear ed
  try clear fd
  try clear gd
  obtain ⟨kq, Wa, ba, ca, ha, HA, Kc, fa, aa, da, HK, HB⟩ := hcut
  cases kq with
  | zero => exact absurd HA.out (by simp [kerbsuitedata_Entry.j0])
  | succ Qf =>
   have H := HA.out
   clear HA
   simp only [kerbsuitedata_Entry.j0] at H
   replace H := Option.bind_eq_some_iff.mp H
   obtain ⟨⟨Oa, pb⟩, Jd, H⟩ := H
   try dsimp only at H
   have ee := aM_ Jd
   clear Jd
   replace H := Option.bind_eq_some_iff.mp H
   obtain ⟨Ia, Kd, H⟩ := H
   try dsimp only at H
   have fe := aM_ Kd
   clear Kd
   replace H := Option.bind_eq_some_iff.mp H
   obtain ⟨⟨Fa, Gb⟩, Ld, H⟩ := H
   try dsimp only at H
   have he := aM_ Ld
   clear Ld
   replace H := Option.bind_eq_some_iff.mp H
   obtain ⟨⟨Ha, Hb⟩, Md, H⟩ := H
   try dsimp only at H
   have ie := aM_ Md
   clear Md
   replace H := Option.bind_eq_some_iff.mp H
   obtain ⟨⟨Ba, Ib⟩, Nd, H⟩ := H
   try dsimp only at H
   have je := aM_ Nd
   clear Nd
   replace H := Option.bind_eq_some_iff.mp H
   obtain ⟨⟨Ga, Jb⟩, Od, H⟩ := H
   try dsimp only at H
   have ke := aM_ Od
   clear Od
   replace H := Option.bind_eq_some_iff.mp H
   obtain ⟨⟨Pa, Ob⟩, Pd, H⟩ := H
   try dsimp only at H
   have le := aM_ Pd
   clear Pd
   replace H := Option.bind_eq_some_iff.mp H
   obtain ⟨⟨Kb, Cc⟩, Qd, H⟩ := H
   try dsimp only at H
   have Rf := aM_ Qd
   clear Qd
   have Dc := aM_ H
   clear H
   try go_upto_region 4 with fail
   replace fa := aM_ (blk_drew fa.out)
   replace aa := aM_ (blk_drew aa.out)
   replace da := aM_ (IsS52.drew da.out)
   replace HK := aM_ (keep_drew HK.out)
   replace HB := aM_ (bD_ HB.out)
   refine start_ (n := 22) (S := fun w' => w'.cell? ⟨ea, 0, none⟩ = some (.string ba) ∧ w'.cell? ⟨ea, 1, none⟩ = some (.string ca) ∧ w'.cell? ⟨ea, 2, none⟩ = some (.string ha)) (ds := []) (bo_ 22 0) (by kernel_rfl) rfl rfl ⟨bc_ aa.out 0, bc_ aa.out 1, bc_ aa.out 2⟩ (fun hHeld => ?_); refine with_tabW kerbsuitedata_Entry.tab4 kerbsuitedata_Entry.bits4 (fun HT_ HW_ => ?_)
   generalize wc.drew = ih at fa aa da HK HB hHeld ⊢
   refine pU_ 0 (some 14) (bo_ 22 1) ?_
   refine pU_ 2 (some 16) (bo_ 22 5) ?_
   refine pU_ 4 (some 18) (bo_ 22 21) ?_
   refine pU_ 7 (some 21) (bo_ 22 149) ?_
   refine pU_ 9 (some 23) (bo_ 22 661) ?_
   refine pU_ 11 (some 25) (bo_ 22 2709) ?_
   refine pU_ 14 (some 28) (bo_ 22 19093) ?_
   refine pU_ 17 (some 31) (bo_ 22 150165) ?_
   refine tK_ 1 (some 15) (bo_ 22 150167) hHeld ?_
   refine tK_ 3 (some 17) (bo_ 22 150175) hHeld ?_
   refine join_ (σ := Nat) 1 (bo_ 22 2097151) (fun s_ => [(19, .int .i64 Oa), (20, .int .u64 Ia), (22, .int .i64 Fa), (24, .int .i64 Ha), (26, .int .i64 Ba), (29, .int .i64 Ga), (32, .int .i64 Pa), (4, .pointer (some ⟨s_, 0, none⟩)), (27, .int .i64 (wrap64 (Int.tdiv Ba 4))), (30, .int .i64 (wrap64 ((wrap64 (Int.tdiv Ba 4)) * Ga))), (33, .agg #[.string ba, .string ca, .int .u64 Ia, .int .i64 Fa, .int .i64 0, .int .i64 Ha, .int .i64 (wrap64 ((wrap64 (Int.tdiv Ba 4)) * Ga)), .int .i64 Pa, .int .i64 0])]) (fun s_ w' => (w'.cell? ⟨ea, 0, none⟩ = some (.string ba) ∧ w'.cell? ⟨ea, 1, none⟩ = some (.string ca) ∧ w'.cell? ⟨ea, 2, none⟩ = some (.string ha)) ∧ (w'.heap[ta]? = some (.cells #[.string (⟨#[]⟩ : ByteArray), .string (⟨#[]⟩ : ByteArray), .int .u64 0, .int .i64 0, .int .i64 0, .int .i64 0, .int .i64 0, .int .i64 0, .int .i64 0] 35 (0, 0))) ∧ (w'.heap[ea]? = some (.cells #[.string ba, .string ca, .string ha] 41 (0, 0))) ∧ (w'.heap[s_]? = some (.cells #[.string (⟨#[]⟩ : ByteArray), .string (⟨#[]⟩ : ByteArray), .int .u64 0, .int .i64 0, .int .i64 0, .int .i64 0, .int .i64 0, .int .i64 0, .int .i64 0] 35 (0, 0))) ∧ (w.heap.size ≤ s_) ∧ (w0.heap.size ≤ s_) ∧ (g ≠ s_) ∧ (s_ ≠ g) ∧ (ta ≠ s_) ∧ (s_ ≠ ta) ∧ (ea ≠ s_) ∧ (s_ ≠ ea) ∧ (IsS52 w0 w' g va Ob) ∧ (KeepBut w w' g none) ∧ (Below w0.heap.size w0 w')) ?_ ?_
   rotate_left
   ·intro hJ5_6_8_10_12_15_18_20
    refine join_ (σ := Unit) 2 (bo_ 22 1048575) (fun s_ => [(19, .int .i64 Oa), (20, .int .u64 Ia), (22, .int .i64 Fa), (24, .int .i64 Ha), (26, .int .i64 Ba), (29, .int .i64 Ga), (32, .int .i64 Pa), (27, .int .i64 (wrap64 (Int.tdiv Ba 4))), (30, .int .i64 (wrap64 ((wrap64 (Int.tdiv Ba 4)) * Ga))), (33, .agg #[.string ba, .string ca, .int .u64 Ia, .int .i64 Fa, .int .i64 0, .int .i64 Ha, .int .i64 (wrap64 ((wrap64 (Int.tdiv Ba 4)) * Ga)), .int .i64 Pa, .int .i64 0])]) (fun s_ w' => (w'.cell? ⟨ea, 0, none⟩ = some (.string ba) ∧ w'.cell? ⟨ea, 1, none⟩ = some (.string ca) ∧ w'.cell? ⟨ea, 2, none⟩ = some (.string ha)) ∧ (w'.heap[ta]? = some (.cells #[.string (⟨#[]⟩ : ByteArray), .string (⟨#[]⟩ : ByteArray), .int .u64 0, .int .i64 0, .int .i64 0, .int .i64 0, .int .i64 0, .int .i64 0, .int .i64 0] 35 (0, 0))) ∧ (w'.heap[ea]? = some (.cells #[.string ba, .string ca, .string ha] 41 (0, 0))) ∧ (IsS52 w0 w' g va Ob) ∧ (KeepBut w w' g none) ∧ (Below w0.heap.size w0 w')) ?_ ?_
    rotate_left
    ·intro hJ5_6_8_10_12_15_18
     refine join_ (σ := Nat) 3 (bo_ 22 1310719) (fun s_ => [(19, .int .i64 Oa), (20, .int .u64 Ia), (22, .int .i64 Fa), (24, .int .i64 Ha), (26, .int .i64 Ba), (29, .int .i64 Ga), (4, .pointer (some ⟨s_, 0, none⟩)), (27, .int .i64 (wrap64 (Int.tdiv Ba 4))), (30, .int .i64 (wrap64 ((wrap64 (Int.tdiv Ba 4)) * Ga)))]) (fun s_ w' => (w'.cell? ⟨ea, 0, none⟩ = some (.string ba) ∧ w'.cell? ⟨ea, 1, none⟩ = some (.string ca) ∧ w'.cell? ⟨ea, 2, none⟩ = some (.string ha)) ∧ (w'.heap[ta]? = some (.cells #[.string (⟨#[]⟩ : ByteArray), .string (⟨#[]⟩ : ByteArray), .int .u64 0, .int .i64 0, .int .i64 0, .int .i64 0, .int .i64 0, .int .i64 0, .int .i64 0] 35 (0, 0))) ∧ (w'.heap[ea]? = some (.cells #[.string ba, .string ca, .string ha] 41 (0, 0))) ∧ (w'.heap[s_]? = some (.cells #[.string (⟨#[]⟩ : ByteArray), .string (⟨#[]⟩ : ByteArray), .int .u64 0, .int .i64 0, .int .i64 0, .int .i64 0, .int .i64 0, .int .i64 0, .int .i64 0] 35 (0, 0))) ∧ (w.heap.size ≤ s_) ∧ (w0.heap.size ≤ s_) ∧ (g ≠ s_) ∧ (s_ ≠ g) ∧ (ta ≠ s_) ∧ (s_ ≠ ta) ∧ (ea ≠ s_) ∧ (s_ ≠ ea) ∧ (IsS52 w0 w' g va Jb) ∧ (KeepBut w w' g none) ∧ (Below w0.heap.size w0 w')) ?_ ?_
     rotate_left
     ·intro hJ5_6_8_10_12_15_20
      refine join_ (σ := Unit) 4 (bo_ 22 262143) (fun s_ => [(19, .int .i64 Oa), (20, .int .u64 Ia), (22, .int .i64 Fa), (24, .int .i64 Ha), (26, .int .i64 Ba), (29, .int .i64 Ga), (27, .int .i64 (wrap64 (Int.tdiv Ba 4))), (30, .int .i64 (wrap64 ((wrap64 (Int.tdiv Ba 4)) * Ga)))]) (fun s_ w' => (w'.cell? ⟨ea, 0, none⟩ = some (.string ba) ∧ w'.cell? ⟨ea, 1, none⟩ = some (.string ca) ∧ w'.cell? ⟨ea, 2, none⟩ = some (.string ha)) ∧ (w'.heap[ta]? = some (.cells #[.string (⟨#[]⟩ : ByteArray), .string (⟨#[]⟩ : ByteArray), .int .u64 0, .int .i64 0, .int .i64 0, .int .i64 0, .int .i64 0, .int .i64 0, .int .i64 0] 35 (0, 0))) ∧ (w'.heap[ea]? = some (.cells #[.string ba, .string ca, .string ha] 41 (0, 0))) ∧ (IsS52 w0 w' g va Jb) ∧ (KeepBut w w' g none) ∧ (Below w0.heap.size w0 w')) ?_ ?_
      rotate_left
      ·intro hJ5_6_8_10_12_15
       refine join_ (σ := Nat) 5 (bo_ 22 1212415) (fun s_ => [(19, .int .i64 Oa), (20, .int .u64 Ia), (22, .int .i64 Fa), (24, .int .i64 Ha), (26, .int .i64 Ba), (4, .pointer (some ⟨s_, 0, none⟩)), (27, .int .i64 (wrap64 (Int.tdiv Ba 4)))]) (fun s_ w' => (w'.cell? ⟨ea, 0, none⟩ = some (.string ba) ∧ w'.cell? ⟨ea, 1, none⟩ = some (.string ca) ∧ w'.cell? ⟨ea, 2, none⟩ = some (.string ha)) ∧ (w'.heap[ta]? = some (.cells #[.string (⟨#[]⟩ : ByteArray), .string (⟨#[]⟩ : ByteArray), .int .u64 0, .int .i64 0, .int .i64 0, .int .i64 0, .int .i64 0, .int .i64 0, .int .i64 0] 35 (0, 0))) ∧ (w'.heap[ea]? = some (.cells #[.string ba, .string ca, .string ha] 41 (0, 0))) ∧ (w'.heap[s_]? = some (.cells #[.string (⟨#[]⟩ : ByteArray), .string (⟨#[]⟩ : ByteArray), .int .u64 0, .int .i64 0, .int .i64 0, .int .i64 0, .int .i64 0, .int .i64 0, .int .i64 0] 35 (0, 0))) ∧ (w.heap.size ≤ s_) ∧ (w0.heap.size ≤ s_) ∧ (g ≠ s_) ∧ (s_ ≠ g) ∧ (ta ≠ s_) ∧ (s_ ≠ ta) ∧ (ea ≠ s_) ∧ (s_ ≠ ea) ∧ (IsS52 w0 w' g va Ib) ∧ (KeepBut w w' g none) ∧ (Below w0.heap.size w0 w')) ?_ ?_
       rotate_left
       ·intro hJ5_6_8_10_12_20
        refine join_ (σ := Unit) 6 (bo_ 22 163839) (fun s_ => [(19, .int .i64 Oa), (20, .int .u64 Ia), (22, .int .i64 Fa), (24, .int .i64 Ha), (26, .int .i64 Ba), (27, .int .i64 (wrap64 (Int.tdiv Ba 4)))]) (fun s_ w' => (w'.cell? ⟨ea, 0, none⟩ = some (.string ba) ∧ w'.cell? ⟨ea, 1, none⟩ = some (.string ca) ∧ w'.cell? ⟨ea, 2, none⟩ = some (.string ha)) ∧ (w'.heap[ta]? = some (.cells #[.string (⟨#[]⟩ : ByteArray), .string (⟨#[]⟩ : ByteArray), .int .u64 0, .int .i64 0, .int .i64 0, .int .i64 0, .int .i64 0, .int .i64 0, .int .i64 0] 35 (0, 0))) ∧ (w'.heap[ea]? = some (.cells #[.string ba, .string ca, .string ha] 41 (0, 0))) ∧ (IsS52 w0 w' g va Ib) ∧ (KeepBut w w' g none) ∧ (Below w0.heap.size w0 w')) ?_ ?_
        rotate_left
        ·intro hJ5_6_8_10_12
         refine join_ (σ := Nat) 7 (bo_ 22 1200127) (fun s_ => [(19, .int .i64 Oa), (20, .int .u64 Ia), (22, .int .i64 Fa), (24, .int .i64 Ha), (4, .pointer (some ⟨s_, 0, none⟩))]) (fun s_ w' => (w'.cell? ⟨ea, 0, none⟩ = some (.string ba) ∧ w'.cell? ⟨ea, 1, none⟩ = some (.string ca) ∧ w'.cell? ⟨ea, 2, none⟩ = some (.string ha)) ∧ (w'.heap[ta]? = some (.cells #[.string (⟨#[]⟩ : ByteArray), .string (⟨#[]⟩ : ByteArray), .int .u64 0, .int .i64 0, .int .i64 0, .int .i64 0, .int .i64 0, .int .i64 0, .int .i64 0] 35 (0, 0))) ∧ (w'.heap[ea]? = some (.cells #[.string ba, .string ca, .string ha] 41 (0, 0))) ∧ (w'.heap[s_]? = some (.cells #[.string (⟨#[]⟩ : ByteArray), .string (⟨#[]⟩ : ByteArray), .int .u64 0, .int .i64 0, .int .i64 0, .int .i64 0, .int .i64 0, .int .i64 0, .int .i64 0] 35 (0, 0))) ∧ (w.heap.size ≤ s_) ∧ (w0.heap.size ≤ s_) ∧ (g ≠ s_) ∧ (s_ ≠ g) ∧ (ta ≠ s_) ∧ (s_ ≠ ta) ∧ (ea ≠ s_) ∧ (s_ ≠ ea) ∧ (IsS52 w0 w' g va Hb) ∧ (KeepBut w w' g none) ∧ (Below w0.heap.size w0 w')) ?_ ?_
         rotate_left
         ·intro hJ5_6_8_10_20
          refine join_ (σ := Unit) 8 (bo_ 22 151551) (fun s_ => [(19, .int .i64 Oa), (20, .int .u64 Ia), (22, .int .i64 Fa), (24, .int .i64 Ha)]) (fun s_ w' => (w'.cell? ⟨ea, 0, none⟩ = some (.string ba) ∧ w'.cell? ⟨ea, 1, none⟩ = some (.string ca) ∧ w'.cell? ⟨ea, 2, none⟩ = some (.string ha)) ∧ (w'.heap[ta]? = some (.cells #[.string (⟨#[]⟩ : ByteArray), .string (⟨#[]⟩ : ByteArray), .int .u64 0, .int .i64 0, .int .i64 0, .int .i64 0, .int .i64 0, .int .i64 0, .int .i64 0] 35 (0, 0))) ∧ (w'.heap[ea]? = some (.cells #[.string ba, .string ca, .string ha] 41 (0, 0))) ∧ (IsS52 w0 w' g va Hb) ∧ (KeepBut w w' g none) ∧ (Below w0.heap.size w0 w')) ?_ ?_
          rotate_left
          ·intro hJ5_6_8_10
           refine join_ (σ := Nat) 8 (bo_ 22 1199103) (fun s_ => [(19, .int .i64 Oa), (20, .int .u64 Ia), (22, .int .i64 Fa), (4, .pointer (some ⟨s_, 0, none⟩))]) (fun s_ w' => (w'.cell? ⟨ea, 0, none⟩ = some (.string ba) ∧ w'.cell? ⟨ea, 1, none⟩ = some (.string ca) ∧ w'.cell? ⟨ea, 2, none⟩ = some (.string ha)) ∧ (w'.heap[ta]? = some (.cells #[.string (⟨#[]⟩ : ByteArray), .string (⟨#[]⟩ : ByteArray), .int .u64 0, .int .i64 0, .int .i64 0, .int .i64 0, .int .i64 0, .int .i64 0, .int .i64 0] 35 (0, 0))) ∧ (w'.heap[ea]? = some (.cells #[.string ba, .string ca, .string ha] 41 (0, 0))) ∧ (w'.heap[s_]? = some (.cells #[.string (⟨#[]⟩ : ByteArray), .string (⟨#[]⟩ : ByteArray), .int .u64 0, .int .i64 0, .int .i64 0, .int .i64 0, .int .i64 0, .int .i64 0, .int .i64 0] 35 (0, 0))) ∧ (w.heap.size ≤ s_) ∧ (w0.heap.size ≤ s_) ∧ (g ≠ s_) ∧ (s_ ≠ g) ∧ (ta ≠ s_) ∧ (s_ ≠ ta) ∧ (ea ≠ s_) ∧ (s_ ≠ ea) ∧ (IsS52 w0 w' g va Gb) ∧ (KeepBut w w' g none) ∧ (Below w0.heap.size w0 w')) ?_ ?_
           rotate_left
           ·intro hJ5_6_8_20
            refine join_ (σ := Unit) 9 (bo_ 22 150527) (fun s_ => [(19, .int .i64 Oa), (20, .int .u64 Ia), (22, .int .i64 Fa)]) (fun s_ w' => (w'.cell? ⟨ea, 0, none⟩ = some (.string ba) ∧ w'.cell? ⟨ea, 1, none⟩ = some (.string ca) ∧ w'.cell? ⟨ea, 2, none⟩ = some (.string ha)) ∧ (w'.heap[ta]? = some (.cells #[.string (⟨#[]⟩ : ByteArray), .string (⟨#[]⟩ : ByteArray), .int .u64 0, .int .i64 0, .int .i64 0, .int .i64 0, .int .i64 0, .int .i64 0, .int .i64 0] 35 (0, 0))) ∧ (w'.heap[ea]? = some (.cells #[.string ba, .string ca, .string ha] 41 (0, 0))) ∧ (IsS52 w0 w' g va Gb) ∧ (KeepBut w w' g none) ∧ (Below w0.heap.size w0 w')) ?_ ?_
            rotate_left
            ·intro hJ5_6_8
             refine join_ (σ := Nat) 9 (bo_ 22 1198847) (fun s_ => [(19, .int .i64 Oa), (20, .int .u64 Ia), (4, .pointer (some ⟨s_, 0, none⟩))]) (fun s_ w' => (w'.cell? ⟨ea, 0, none⟩ = some (.string ba) ∧ w'.cell? ⟨ea, 1, none⟩ = some (.string ca) ∧ w'.cell? ⟨ea, 2, none⟩ = some (.string ha)) ∧ (w'.heap[ta]? = some (.cells #[.string (⟨#[]⟩ : ByteArray), .string (⟨#[]⟩ : ByteArray), .int .u64 0, .int .i64 0, .int .i64 0, .int .i64 0, .int .i64 0, .int .i64 0, .int .i64 0] 35 (0, 0))) ∧ (w'.heap[ea]? = some (.cells #[.string ba, .string ca, .string ha] 41 (0, 0))) ∧ (w'.heap[s_]? = some (.cells #[.string (⟨#[]⟩ : ByteArray), .string (⟨#[]⟩ : ByteArray), .int .u64 0, .int .i64 0, .int .i64 0, .int .i64 0, .int .i64 0, .int .i64 0, .int .i64 0] 35 (0, 0))) ∧ (w.heap.size ≤ s_) ∧ (w0.heap.size ≤ s_) ∧ (g ≠ s_) ∧ (s_ ≠ g) ∧ (ta ≠ s_) ∧ (s_ ≠ ta) ∧ (ea ≠ s_) ∧ (s_ ≠ ea) ∧ (IsS52 w0 w' g va pb) ∧ (KeepBut w w' g none) ∧ (Below w0.heap.size w0 w')) ?_ ?_
             rotate_left
             ·intro hJ5_6_20
              refine join_ (σ := Unit) 10 (bo_ 22 150271) (fun s_ => [(19, .int .i64 Oa), (20, .int .u64 Ia)]) (fun s_ w' => (w'.cell? ⟨ea, 0, none⟩ = some (.string ba) ∧ w'.cell? ⟨ea, 1, none⟩ = some (.string ca) ∧ w'.cell? ⟨ea, 2, none⟩ = some (.string ha)) ∧ (w'.heap[ta]? = some (.cells #[.string (⟨#[]⟩ : ByteArray), .string (⟨#[]⟩ : ByteArray), .int .u64 0, .int .i64 0, .int .i64 0, .int .i64 0, .int .i64 0, .int .i64 0, .int .i64 0] 35 (0, 0))) ∧ (w'.heap[ea]? = some (.cells #[.string ba, .string ca, .string ha] 41 (0, 0))) ∧ (IsS52 w0 w' g va pb) ∧ (KeepBut w w' g none) ∧ (Below w0.heap.size w0 w')) ?_ ?_
              rotate_left
              ·intro hJ5_6
               refine join_ (σ := Nat) 10 (bo_ 22 1198783) (fun s_ => [(19, .int .i64 Oa), (4, .pointer (some ⟨s_, 0, none⟩))]) (fun s_ w' => (w'.cell? ⟨ea, 0, none⟩ = some (.string ba) ∧ w'.cell? ⟨ea, 1, none⟩ = some (.string ca) ∧ w'.cell? ⟨ea, 2, none⟩ = some (.string ha)) ∧ (w'.heap[ta]? = some (.cells #[.string (⟨#[]⟩ : ByteArray), .string (⟨#[]⟩ : ByteArray), .int .u64 0, .int .i64 0, .int .i64 0, .int .i64 0, .int .i64 0, .int .i64 0, .int .i64 0] 35 (0, 0))) ∧ (w'.heap[ea]? = some (.cells #[.string ba, .string ca, .string ha] 41 (0, 0))) ∧ (w'.heap[s_]? = some (.cells #[.string (⟨#[]⟩ : ByteArray), .string (⟨#[]⟩ : ByteArray), .int .u64 0, .int .i64 0, .int .i64 0, .int .i64 0, .int .i64 0, .int .i64 0, .int .i64 0] 35 (0, 0))) ∧ (w.heap.size ≤ s_) ∧ (w0.heap.size ≤ s_) ∧ (g ≠ s_) ∧ (s_ ≠ g) ∧ (ta ≠ s_) ∧ (s_ ≠ ta) ∧ (ea ≠ s_) ∧ (s_ ≠ ea) ∧ (IsS52 w0 w' g va pb) ∧ (KeepBut w w' g none) ∧ (Below w0.heap.size w0 w')) ?_ ?_
               rotate_left
               ·intro hJ5_20
                refine join_ (σ := Unit) 11 (bo_ 22 150207) (fun s_ => [(19, .int .i64 Oa)]) (fun s_ w' => (w'.cell? ⟨ea, 0, none⟩ = some (.string ba) ∧ w'.cell? ⟨ea, 1, none⟩ = some (.string ca) ∧ w'.cell? ⟨ea, 2, none⟩ = some (.string ha)) ∧ (w'.heap[ta]? = some (.cells #[.string (⟨#[]⟩ : ByteArray), .string (⟨#[]⟩ : ByteArray), .int .u64 0, .int .i64 0, .int .i64 0, .int .i64 0, .int .i64 0, .int .i64 0, .int .i64 0] 35 (0, 0))) ∧ (w'.heap[ea]? = some (.cells #[.string ba, .string ca, .string ha] 41 (0, 0))) ∧ (IsS52 w0 w' g va pb) ∧ (KeepBut w w' g none) ∧ (Below w0.heap.size w0 w')) ?_ ?_
                rotate_left
                ·intro hJ5
                 refine join_ (σ := Nat) 11 (bo_ 22 1198751) (fun s_ => [(4, .pointer (some ⟨s_, 0, none⟩))]) (fun s_ w' => (w'.cell? ⟨ea, 0, none⟩ = some (.string ba) ∧ w'.cell? ⟨ea, 1, none⟩ = some (.string ca) ∧ w'.cell? ⟨ea, 2, none⟩ = some (.string ha)) ∧ (w'.heap[ta]? = some (.cells #[.string (⟨#[]⟩ : ByteArray), .string (⟨#[]⟩ : ByteArray), .int .u64 0, .int .i64 0, .int .i64 0, .int .i64 0, .int .i64 0, .int .i64 0, .int .i64 0] 35 (0, 0))) ∧ (w'.heap[ea]? = some (.cells #[.string ba, .string ca, .string ha] 41 (0, 0))) ∧ (w'.heap[s_]? = some (.cells #[.string (⟨#[]⟩ : ByteArray), .string (⟨#[]⟩ : ByteArray), .int .u64 0, .int .i64 0, .int .i64 0, .int .i64 0, .int .i64 0, .int .i64 0, .int .i64 0] 35 (0, 0))) ∧ (w.heap.size ≤ s_) ∧ (w0.heap.size ≤ s_) ∧ (g ≠ s_) ∧ (s_ ≠ g) ∧ (ta ≠ s_) ∧ (s_ ≠ ta) ∧ (ea ≠ s_) ∧ (s_ ≠ ea) ∧ (IsS52 w0 w' g va Wa) ∧ (KeepBut w w' g none) ∧ (Below w0.heap.size w0 w')) ?_ ?_
                 rotate_left
                 ·intro hJ20
                  refine two_ (i := 5) (j := 20) (Ni := some 19) (Nj := some 4) (bo_ 22 150207) (bo_ 22 1198751) rfl rfl rfl rfl (two_of HT_.out (by kernel_rfl)) (by decide) (by decide) (fun K hK => ?_) (fun K hK => ?_)
                  ·skip
                   refine goes_ Tryd.func49 (by kernel_rfl) rfl #[.pointer (some ⟨g, 0, none⟩), .int .i64 40] (by rfl) rfl rfl aR_ ?_
                   with_reducible refine (kerbsuitedata_Source_Next.calls g va Wa 40 Oa pb w0 _ ?side1 ?side2 ee.out).mono ?_
                   (case side1 => repeat (first | (with_reducible first | exact da.out | apply IsS52.alloc | apply IsS52.drewN | apply IsS52.drew | apply IsS52.set_1 | refine IsS52.far ?_ la.out _ | refine IsS52.far ?_ ma.out _) | exact da.out))
                   (case side2 => repeat (first | (with_reducible first | exact HB.out | apply bA_ | apply bN_ | apply bD_ | refine bS_ ?_ (IsS52.ge da.out) | refine bS_ ?_ sa.out | refine bS_ ?_ ua.out) | exact HB.out))
                   rintro e Sf ⟨rfl, hi, hb, hk⟩
                   refine ⟨_, rfl, ?_⟩
                   replace fa := aM_ (KeepBut.blk hk (g' := ta) (o := .cells #[.string (⟨#[]⟩ : ByteArray), .string (⟨#[]⟩ : ByteArray), .int .u64 0, .int .i64 0, .int .i64 0, .int .i64 0, .int .i64 0, .int .i64 0, .int .i64 0] 35 (0, 0)) (bk_ fa.out) ya.out (by simp))
                   replace aa := aM_ (KeepBut.blk hk (g' := ea) (o := .cells #[.string ba, .string ca, .string ha] 41 (0, 0)) (bk_ aa.out) za.out (by simp))
                   replace HK := aM_ (KeepBut.trans kB_ hk (.inl rfl))
                   replace HB := aM_ (hb)
                   replace da := aM_ (hi)
                   clear hb hk hi
                   refine hK.out _ _ ⟨bc_ aa.out 0, bc_ aa.out 1, bc_ aa.out 2⟩ (fun hHeld => ?_)
                   clear hK K
                   refine nO_ 19 ?_
                   exact nQ_ (hJ5 () _ ⟨hHeld, (bk_ fa.out), (bk_ aa.out), (by repeat (first | (with_reducible first | exact da.out | apply IsS52.alloc | apply IsS52.drewN | apply IsS52.drew | apply IsS52.set_1 | refine IsS52.far ?_ la.out _ | refine IsS52.far ?_ ma.out _) | exact da.out)), kB_, (by repeat (first | (with_reducible first | exact HB.out | apply bA_ | apply bN_ | apply bD_ | refine bS_ ?_ (IsS52.ge da.out) | refine bS_ ?_ sa.out | refine bS_ ?_ ua.out) | exact HB.out))⟩)
                  skip
                  refine box_step ?hg (N := 4) ?hd (cs := #[.string (⟨#[]⟩ : ByteArray), .string (⟨#[]⟩ : ByteArray), .int .u64 0, .int .i64 0, .int .i64 0, .int .i64 0, .int .i64 0, .int .i64 0, .int .i64 0]) (t := 35) ?hr ?_; (case hd => rfl); (case hg => rfl); (case hr => first | (go_simp; done) | (go_simp; rfl))
                  intro ja hg Sf hbox hb
                  replace HB := aM_ (below_step (by repeat (first | (with_reducible first | exact HB.out | apply bA_ | apply bN_ | apply bD_ | refine bS_ ?_ (IsS52.ge da.out) | refine bS_ ?_ sa.out | refine bS_ ?_ ua.out) | exact HB.out)) hb)
                  have ia := aM_ (hbox)
                  have xa := aM_ ((by rw [hg]; exact (keep_size (w := w) (g := g) (row := none) kB_) : w.heap.size ≤ ja))
                  have ra := aM_ ((Nat.le_trans HW0.out (by rw [hg]; exact (keep_size (w := w) (g := g) (row := none) kB_) : w.heap.size ≤ ja) : w0.heap.size ≤ ja))
                  replace HK := aM_ (KeepBut.trans kB_ (KeepBut.of_below hb g none) (.inl rfl))
                  have na := aM_ (nL_ hg fa.out)
                  have oa := aM_ (nG_ hg fa.out)
                  replace fa := aM_ (kG_ fa.out hb)
                  have ga := aM_ (nL_ hg aa.out)
                  have pa := aM_ (nG_ hg aa.out)
                  replace aa := aM_ (kG_ aa.out hb)
                  have ka := aM_ (nI_ hg (IsS52.lt da.out))
                  have qa := aM_ (nJ_ hg (IsS52.lt da.out))
                  replace da := aM_ (IsS52.below (by repeat (first | (with_reducible first | exact da.out | apply IsS52.alloc | apply IsS52.drewN | apply IsS52.drew | apply IsS52.set_1 | refine IsS52.far ?_ la.out _ | refine IsS52.far ?_ ma.out _) | exact da.out)) hb)
                  clear hb hbox hg
                  refine hK.out _ _ ⟨bc_ aa.out 0, bc_ aa.out 1, bc_ aa.out 2⟩ (fun hHeld => ?_)
                  clear hK K
                  refine nO_ 4 ?_
                  exact nQ_ (hJ20 (ja) _ ⟨hHeld, (bk_ fa.out), (bk_ aa.out), (bk_ ia.out), xa.out, ra.out, ka.out, qa.out, na.out, oa.out, ga.out, pa.out, (by repeat (first | (with_reducible first | exact da.out | apply IsS52.alloc | apply IsS52.drewN | apply IsS52.drew | apply IsS52.set_1 | refine IsS52.far ?_ la.out _ | refine IsS52.far ?_ ma.out _ | refine IsS52.far ?_ ka.out _) | exact da.out)), kB_, (by repeat (first | (with_reducible first | exact HB.out | apply bA_ | apply bN_ | apply bD_ | refine bS_ ?_ (IsS52.ge da.out) | refine bS_ ?_ sa.out | refine bS_ ?_ ua.out | refine bS_ ?_ ra.out) | exact HB.out))⟩)
                 skip
                 rintro ja qb ⟨hS_, h0_, h1_, h2_, Da, Ea, Qa, Ra, Sa, Ta, Ua, Ja, Ka, La, Ma⟩
                 replace fa := aM_ h0_
                 replace aa := aM_ h1_
                 have ia := aM_ h2_
                 have xa := aM_ Da
                 have ra := aM_ Ea
                 have ka := aM_ Qa
                 have qa := aM_ Ra
                 have na := aM_ Sa
                 have oa := aM_ Ta
                 have ga := aM_ Ua
                 have pa := aM_ Ja
                 replace da := aM_ Ka
                 replace HK := aM_ La
                 replace HB := aM_ Ma
                 clear h0_ h1_ h2_ Da Ea Qa Ra Sa Ta Ua Ja Ka La Ma
                 have hHeld : qb.cell? ⟨ea, 0, none⟩ = some (.string ba) ∧ qb.cell? ⟨ea, 1, none⟩ = some (.string ca) ∧ qb.cell? ⟨ea, 2, none⟩ = some (.string ha) := hS_
                 refine nP_ ?_
                 refine one_ (i := 5) (N := some 19) (bo_ 22 1198783) rfl rfl (one_of HT_.out (by kernel_rfl)) (by decide) (fun K hK => ?_)
                 refine goes_ Tryd.func49 (by kernel_rfl) rfl #[.pointer (some ⟨g, 0, none⟩), .int .i64 40] (by rfl) rfl rfl aR_ ?_
                 with_reducible refine (kerbsuitedata_Source_Next.calls g va Wa 40 Oa pb w0 _ ?side1 ?side2 ee.out).mono ?_
                 (case side1 => repeat (first | (with_reducible first | exact da.out | apply IsS52.alloc | apply IsS52.drewN | apply IsS52.drew | apply IsS52.set_1 | refine IsS52.far ?_ la.out _ | refine IsS52.far ?_ ma.out _ | refine IsS52.far ?_ ka.out _) | exact da.out))
                 (case side2 => repeat (first | (with_reducible first | exact HB.out | apply bA_ | apply bN_ | apply bD_ | refine bS_ ?_ (IsS52.ge da.out) | refine bS_ ?_ sa.out | refine bS_ ?_ ua.out | refine bS_ ?_ ra.out) | exact HB.out))
                 rintro e Xa ⟨rfl, hi, hb, hk⟩
                 refine ⟨_, rfl, ?_⟩
                 replace fa := aM_ (KeepBut.blk hk (g' := ta) (o := .cells #[.string (⟨#[]⟩ : ByteArray), .string (⟨#[]⟩ : ByteArray), .int .u64 0, .int .i64 0, .int .i64 0, .int .i64 0, .int .i64 0, .int .i64 0, .int .i64 0] 35 (0, 0)) (bk_ fa.out) ya.out (by simp))
                 replace aa := aM_ (KeepBut.blk hk (g' := ea) (o := .cells #[.string ba, .string ca, .string ha] 41 (0, 0)) (bk_ aa.out) za.out (by simp))
                 replace ia := aM_ (KeepBut.blk hk (g' := ja) (o := .cells #[.string (⟨#[]⟩ : ByteArray), .string (⟨#[]⟩ : ByteArray), .int .u64 0, .int .i64 0, .int .i64 0, .int .i64 0, .int .i64 0, .int .i64 0, .int .i64 0] 35 (0, 0)) (bk_ ia.out) qa.out (by simp))
                 replace HK := aM_ (KeepBut.trans kB_ hk (.inl rfl))
                 replace HB := aM_ (hb)
                 replace da := aM_ (hi)
                 clear hb hk hi
                 refine hK.out _ _ ⟨bc_ aa.out 0, bc_ aa.out 1, bc_ aa.out 2⟩ (fun hHeld => ?_)
                 clear hK K
                 refine nO_ 19 ?_
                 exact nQ_ (hJ5_20 (ja) _ ⟨hHeld, (bk_ fa.out), (bk_ aa.out), (bk_ ia.out), xa.out, ra.out, ka.out, qa.out, na.out, oa.out, ga.out, pa.out, (by repeat (first | (with_reducible first | exact da.out | apply IsS52.alloc | apply IsS52.drewN | apply IsS52.drew | apply IsS52.set_1 | refine IsS52.far ?_ la.out _ | refine IsS52.far ?_ ma.out _ | refine IsS52.far ?_ ka.out _) | exact da.out)), kB_, (by repeat (first | (with_reducible first | exact HB.out | apply bA_ | apply bN_ | apply bD_ | refine bS_ ?_ (IsS52.ge da.out) | refine bS_ ?_ sa.out | refine bS_ ?_ ua.out | refine bS_ ?_ ra.out) | exact HB.out))⟩)
                skip
                rintro _ qb ⟨hS_, h0_, h1_, h2_, Da, Ea⟩
                replace fa := aM_ h0_
                replace aa := aM_ h1_
                replace da := aM_ h2_
                replace HK := aM_ Da
                replace HB := aM_ Ea
                clear h0_ h1_ h2_ Da Ea
                have hHeld : qb.cell? ⟨ea, 0, none⟩ = some (.string ba) ∧ qb.cell? ⟨ea, 1, none⟩ = some (.string ca) ∧ qb.cell? ⟨ea, 2, none⟩ = some (.string ha) := hS_
                refine nP_ ?_
                refine two_ (i := 6) (j := 20) (Ni := some 20) (Nj := some 4) (bo_ 22 150271) (bo_ 22 1198783) rfl rfl rfl rfl (two_of HT_.out (by kernel_rfl)) (by decide) (by decide) (fun K hK => ?_) (fun K hK => ?_)
                ·skip
                 refine goes_ Tryd.func13 (by kernel_rfl) rfl #[.int .i64 Oa] (by rfl) rfl rfl aR_ ?_
                 with_reducible refine (kerbsuitedata_Long.calls Oa Ia _ fe.out).mono ?_
                 rintro e w' ⟨rfl, ⟨nd, rfl⟩⟩
                 refine ⟨_, rfl, ?_⟩
                 refine hK.out _ _ ⟨bc_ aa.out 0, bc_ aa.out 1, bc_ aa.out 2⟩ (fun hHeld => ?_)
                 clear hK K
                 refine nO_ 20 ?_
                 exact nQ_ (hJ5_6 () _ ⟨hHeld, (bk_ fa.out), (bk_ aa.out), (by repeat (first | (with_reducible first | exact da.out | apply IsS52.alloc | apply IsS52.drewN | apply IsS52.drew | apply IsS52.set_1 | refine IsS52.far ?_ la.out _ | refine IsS52.far ?_ ma.out _) | exact da.out)), kB_, (by repeat (first | (with_reducible first | exact HB.out | apply bA_ | apply bN_ | apply bD_ | refine bS_ ?_ (IsS52.ge da.out) | refine bS_ ?_ sa.out | refine bS_ ?_ ua.out) | exact HB.out))⟩)
                skip
                refine box_step ?hg (N := 4) ?hd (cs := #[.string (⟨#[]⟩ : ByteArray), .string (⟨#[]⟩ : ByteArray), .int .u64 0, .int .i64 0, .int .i64 0, .int .i64 0, .int .i64 0, .int .i64 0, .int .i64 0]) (t := 35) ?hr ?_; (case hd => rfl); (case hg => rfl); (case hr => first | (go_simp; done) | (go_simp; rfl))
                intro ja hg Xa hbox hb
                replace HB := aM_ (below_step (by repeat (first | (with_reducible first | exact HB.out | apply bA_ | apply bN_ | apply bD_ | refine bS_ ?_ (IsS52.ge da.out) | refine bS_ ?_ sa.out | refine bS_ ?_ ua.out) | exact HB.out)) hb)
                have ia := aM_ (hbox)
                have xa := aM_ ((by rw [hg]; exact (keep_size (w := w) (g := g) (row := none) kB_) : w.heap.size ≤ ja))
                have ra := aM_ ((Nat.le_trans HW0.out (by rw [hg]; exact (keep_size (w := w) (g := g) (row := none) kB_) : w.heap.size ≤ ja) : w0.heap.size ≤ ja))
                replace HK := aM_ (KeepBut.trans kB_ (KeepBut.of_below hb g none) (.inl rfl))
                have na := aM_ (nL_ hg fa.out)
                have oa := aM_ (nG_ hg fa.out)
                replace fa := aM_ (kG_ fa.out hb)
                have ga := aM_ (nL_ hg aa.out)
                have pa := aM_ (nG_ hg aa.out)
                replace aa := aM_ (kG_ aa.out hb)
                have ka := aM_ (nI_ hg (IsS52.lt da.out))
                have qa := aM_ (nJ_ hg (IsS52.lt da.out))
                replace da := aM_ (IsS52.below (by repeat (first | (with_reducible first | exact da.out | apply IsS52.alloc | apply IsS52.drewN | apply IsS52.drew | apply IsS52.set_1 | refine IsS52.far ?_ la.out _ | refine IsS52.far ?_ ma.out _) | exact da.out)) hb)
                clear hb hbox hg
                refine hK.out _ _ ⟨bc_ aa.out 0, bc_ aa.out 1, bc_ aa.out 2⟩ (fun hHeld => ?_)
                clear hK K
                refine nO_ 4 ?_
                exact nQ_ (hJ5_20 (ja) _ ⟨hHeld, (bk_ fa.out), (bk_ aa.out), (bk_ ia.out), xa.out, ra.out, ka.out, qa.out, na.out, oa.out, ga.out, pa.out, (by repeat (first | (with_reducible first | exact da.out | apply IsS52.alloc | apply IsS52.drewN | apply IsS52.drew | apply IsS52.set_1 | refine IsS52.far ?_ la.out _ | refine IsS52.far ?_ ma.out _ | refine IsS52.far ?_ ka.out _) | exact da.out)), kB_, (by repeat (first | (with_reducible first | exact HB.out | apply bA_ | apply bN_ | apply bD_ | refine bS_ ?_ (IsS52.ge da.out) | refine bS_ ?_ sa.out | refine bS_ ?_ ua.out | refine bS_ ?_ ra.out) | exact HB.out))⟩)
               skip
               rintro ja Xa ⟨hS_, h0_, h1_, h2_, Da, Ea, Qa, Ra, Sa, Ta, Ua, Ja, Ka, La, Ma⟩
               replace fa := aM_ h0_
               replace aa := aM_ h1_
               have ia := aM_ h2_
               have xa := aM_ Da
               have ra := aM_ Ea
               have ka := aM_ Qa
               have qa := aM_ Ra
               have na := aM_ Sa
               have oa := aM_ Ta
               have ga := aM_ Ua
               have pa := aM_ Ja
               replace da := aM_ Ka
               replace HK := aM_ La
               replace HB := aM_ Ma
               clear h0_ h1_ h2_ Da Ea Qa Ra Sa Ta Ua Ja Ka La Ma
               have hHeld : Xa.cell? ⟨ea, 0, none⟩ = some (.string ba) ∧ Xa.cell? ⟨ea, 1, none⟩ = some (.string ca) ∧ Xa.cell? ⟨ea, 2, none⟩ = some (.string ha) := hS_
               refine nP_ ?_
               refine one_ (i := 6) (N := some 20) (bo_ 22 1198847) rfl rfl (one_of HT_.out (by kernel_rfl)) (by decide) (fun K hK => ?_)
               refine goes_ Tryd.func13 (by kernel_rfl) rfl #[.int .i64 Oa] (by rfl) rfl rfl aR_ ?_
               with_reducible refine (kerbsuitedata_Long.calls Oa Ia _ fe.out).mono ?_
               rintro e w' ⟨rfl, ⟨nd, rfl⟩⟩
               refine ⟨_, rfl, ?_⟩
               refine hK.out _ _ ⟨bc_ aa.out 0, bc_ aa.out 1, bc_ aa.out 2⟩ (fun hHeld => ?_)
               clear hK K
               refine nO_ 20 ?_
               exact nQ_ (hJ5_6_20 (ja) _ ⟨hHeld, (bk_ fa.out), (bk_ aa.out), (bk_ ia.out), xa.out, ra.out, ka.out, qa.out, na.out, oa.out, ga.out, pa.out, (by repeat (first | (with_reducible first | exact da.out | apply IsS52.alloc | apply IsS52.drewN | apply IsS52.drew | apply IsS52.set_1 | refine IsS52.far ?_ la.out _ | refine IsS52.far ?_ ma.out _ | refine IsS52.far ?_ ka.out _) | exact da.out)), kB_, (by repeat (first | (with_reducible first | exact HB.out | apply bA_ | apply bN_ | apply bD_ | refine bS_ ?_ (IsS52.ge da.out) | refine bS_ ?_ sa.out | refine bS_ ?_ ua.out | refine bS_ ?_ ra.out) | exact HB.out))⟩)
              skip
              rintro _ qb ⟨hS_, h0_, h1_, h2_, Da, Ea⟩
              replace fa := aM_ h0_
              replace aa := aM_ h1_
              replace da := aM_ h2_
              replace HK := aM_ Da
              replace HB := aM_ Ea
              clear h0_ h1_ h2_ Da Ea
              have hHeld : qb.cell? ⟨ea, 0, none⟩ = some (.string ba) ∧ qb.cell? ⟨ea, 1, none⟩ = some (.string ca) ∧ qb.cell? ⟨ea, 2, none⟩ = some (.string ha) := hS_
              refine nP_ ?_
              refine two_ (i := 8) (j := 20) (Ni := some 22) (Nj := some 4) (bo_ 22 150527) (bo_ 22 1198847) rfl rfl rfl rfl (two_of HT_.out (by kernel_rfl)) (by decide) (by decide) (fun K hK => ?_) (fun K hK => ?_)
              ·skip
               refine goes_ Tryd.func49 (by kernel_rfl) rfl #[.pointer (some ⟨g, 0, none⟩), .int .i64 256] (by rfl) rfl rfl aR_ ?_
               with_reducible refine (kerbsuitedata_Source_Next.calls g va pb 256 Fa Gb w0 _ ?side1 ?side2 he.out).mono ?_
               (case side1 => repeat (first | (with_reducible first | exact da.out | apply IsS52.alloc | apply IsS52.drewN | apply IsS52.drew | apply IsS52.set_1 | refine IsS52.far ?_ la.out _ | refine IsS52.far ?_ ma.out _) | exact da.out))
               (case side2 => repeat (first | (with_reducible first | exact HB.out | apply bA_ | apply bN_ | apply bD_ | refine bS_ ?_ (IsS52.ge da.out) | refine bS_ ?_ sa.out | refine bS_ ?_ ua.out) | exact HB.out))
               rintro e Xa ⟨rfl, hi, hb, hk⟩
               refine ⟨_, rfl, ?_⟩
               replace fa := aM_ (KeepBut.blk hk (g' := ta) (o := .cells #[.string (⟨#[]⟩ : ByteArray), .string (⟨#[]⟩ : ByteArray), .int .u64 0, .int .i64 0, .int .i64 0, .int .i64 0, .int .i64 0, .int .i64 0, .int .i64 0] 35 (0, 0)) (bk_ fa.out) ya.out (by simp))
               replace aa := aM_ (KeepBut.blk hk (g' := ea) (o := .cells #[.string ba, .string ca, .string ha] 41 (0, 0)) (bk_ aa.out) za.out (by simp))
               replace HK := aM_ (KeepBut.trans kB_ hk (.inl rfl))
               replace HB := aM_ (hb)
               replace da := aM_ (hi)
               clear hb hk hi
               refine hK.out _ _ ⟨bc_ aa.out 0, bc_ aa.out 1, bc_ aa.out 2⟩ (fun hHeld => ?_)
               clear hK K
               refine nO_ 22 ?_
               exact nQ_ (hJ5_6_8 () _ ⟨hHeld, (bk_ fa.out), (bk_ aa.out), (by repeat (first | (with_reducible first | exact da.out | apply IsS52.alloc | apply IsS52.drewN | apply IsS52.drew | apply IsS52.set_1 | refine IsS52.far ?_ la.out _ | refine IsS52.far ?_ ma.out _) | exact da.out)), kB_, (by repeat (first | (with_reducible first | exact HB.out | apply bA_ | apply bN_ | apply bD_ | refine bS_ ?_ (IsS52.ge da.out) | refine bS_ ?_ sa.out | refine bS_ ?_ ua.out) | exact HB.out))⟩)
              skip
              refine box_step ?hg (N := 4) ?hd (cs := #[.string (⟨#[]⟩ : ByteArray), .string (⟨#[]⟩ : ByteArray), .int .u64 0, .int .i64 0, .int .i64 0, .int .i64 0, .int .i64 0, .int .i64 0, .int .i64 0]) (t := 35) ?hr ?_; (case hd => rfl); (case hg => rfl); (case hr => first | (go_simp; done) | (go_simp; rfl))
              intro ja hg Xa hbox hb
              replace HB := aM_ (below_step (by repeat (first | (with_reducible first | exact HB.out | apply bA_ | apply bN_ | apply bD_ | refine bS_ ?_ (IsS52.ge da.out) | refine bS_ ?_ sa.out | refine bS_ ?_ ua.out) | exact HB.out)) hb)
              have ia := aM_ (hbox)
              have xa := aM_ ((by rw [hg]; exact (keep_size (w := w) (g := g) (row := none) kB_) : w.heap.size ≤ ja))
              have ra := aM_ ((Nat.le_trans HW0.out (by rw [hg]; exact (keep_size (w := w) (g := g) (row := none) kB_) : w.heap.size ≤ ja) : w0.heap.size ≤ ja))
              replace HK := aM_ (KeepBut.trans kB_ (KeepBut.of_below hb g none) (.inl rfl))
              have na := aM_ (nL_ hg fa.out)
              have oa := aM_ (nG_ hg fa.out)
              replace fa := aM_ (kG_ fa.out hb)
              have ga := aM_ (nL_ hg aa.out)
              have pa := aM_ (nG_ hg aa.out)
              replace aa := aM_ (kG_ aa.out hb)
              have ka := aM_ (nI_ hg (IsS52.lt da.out))
              have qa := aM_ (nJ_ hg (IsS52.lt da.out))
              replace da := aM_ (IsS52.below (by repeat (first | (with_reducible first | exact da.out | apply IsS52.alloc | apply IsS52.drewN | apply IsS52.drew | apply IsS52.set_1 | refine IsS52.far ?_ la.out _ | refine IsS52.far ?_ ma.out _) | exact da.out)) hb)
              clear hb hbox hg
              refine hK.out _ _ ⟨bc_ aa.out 0, bc_ aa.out 1, bc_ aa.out 2⟩ (fun hHeld => ?_)
              clear hK K
              refine nO_ 4 ?_
              exact nQ_ (hJ5_6_20 (ja) _ ⟨hHeld, (bk_ fa.out), (bk_ aa.out), (bk_ ia.out), xa.out, ra.out, ka.out, qa.out, na.out, oa.out, ga.out, pa.out, (by repeat (first | (with_reducible first | exact da.out | apply IsS52.alloc | apply IsS52.drewN | apply IsS52.drew | apply IsS52.set_1 | refine IsS52.far ?_ la.out _ | refine IsS52.far ?_ ma.out _ | refine IsS52.far ?_ ka.out _) | exact da.out)), kB_, (by repeat (first | (with_reducible first | exact HB.out | apply bA_ | apply bN_ | apply bD_ | refine bS_ ?_ (IsS52.ge da.out) | refine bS_ ?_ sa.out | refine bS_ ?_ ua.out | refine bS_ ?_ ra.out) | exact HB.out))⟩)
             skip
             rintro ja Xa ⟨hS_, h0_, h1_, h2_, Da, Ea, Qa, Ra, Sa, Ta, Ua, Ja, Ka, La, Ma⟩
             replace fa := aM_ h0_
             replace aa := aM_ h1_
             have ia := aM_ h2_
             have xa := aM_ Da
             have ra := aM_ Ea
             have ka := aM_ Qa
             have qa := aM_ Ra
             have na := aM_ Sa
             have oa := aM_ Ta
             have ga := aM_ Ua
             have pa := aM_ Ja
             replace da := aM_ Ka
             replace HK := aM_ La
             replace HB := aM_ Ma
             clear h0_ h1_ h2_ Da Ea Qa Ra Sa Ta Ua Ja Ka La Ma
             have hHeld : Xa.cell? ⟨ea, 0, none⟩ = some (.string ba) ∧ Xa.cell? ⟨ea, 1, none⟩ = some (.string ca) ∧ Xa.cell? ⟨ea, 2, none⟩ = some (.string ha) := hS_
             refine nP_ ?_
             refine one_ (i := 8) (N := some 22) (bo_ 22 1199103) rfl rfl (one_of HT_.out (by kernel_rfl)) (by decide) (fun K hK => ?_)
             refine goes_ Tryd.func49 (by kernel_rfl) rfl #[.pointer (some ⟨g, 0, none⟩), .int .i64 256] (by rfl) rfl rfl aR_ ?_
             with_reducible refine (kerbsuitedata_Source_Next.calls g va pb 256 Fa Gb w0 _ ?side1 ?side2 he.out).mono ?_
             (case side1 => repeat (first | (with_reducible first | exact da.out | apply IsS52.alloc | apply IsS52.drewN | apply IsS52.drew | apply IsS52.set_1 | refine IsS52.far ?_ la.out _ | refine IsS52.far ?_ ma.out _ | refine IsS52.far ?_ ka.out _) | exact da.out))
             (case side2 => repeat (first | (with_reducible first | exact HB.out | apply bA_ | apply bN_ | apply bD_ | refine bS_ ?_ (IsS52.ge da.out) | refine bS_ ?_ sa.out | refine bS_ ?_ ua.out | refine bS_ ?_ ra.out) | exact HB.out))
             rintro e vb ⟨rfl, hi, hb, hk⟩
             refine ⟨_, rfl, ?_⟩
             replace fa := aM_ (KeepBut.blk hk (g' := ta) (o := .cells #[.string (⟨#[]⟩ : ByteArray), .string (⟨#[]⟩ : ByteArray), .int .u64 0, .int .i64 0, .int .i64 0, .int .i64 0, .int .i64 0, .int .i64 0, .int .i64 0] 35 (0, 0)) (bk_ fa.out) ya.out (by simp))
             replace aa := aM_ (KeepBut.blk hk (g' := ea) (o := .cells #[.string ba, .string ca, .string ha] 41 (0, 0)) (bk_ aa.out) za.out (by simp))
             replace ia := aM_ (KeepBut.blk hk (g' := ja) (o := .cells #[.string (⟨#[]⟩ : ByteArray), .string (⟨#[]⟩ : ByteArray), .int .u64 0, .int .i64 0, .int .i64 0, .int .i64 0, .int .i64 0, .int .i64 0, .int .i64 0] 35 (0, 0)) (bk_ ia.out) qa.out (by simp))
             replace HK := aM_ (KeepBut.trans kB_ hk (.inl rfl))
             replace HB := aM_ (hb)
             replace da := aM_ (hi)
             clear hb hk hi
             refine hK.out _ _ ⟨bc_ aa.out 0, bc_ aa.out 1, bc_ aa.out 2⟩ (fun hHeld => ?_)
             clear hK K
             refine nO_ 22 ?_
             exact nQ_ (hJ5_6_8_20 (ja) _ ⟨hHeld, (bk_ fa.out), (bk_ aa.out), (bk_ ia.out), xa.out, ra.out, ka.out, qa.out, na.out, oa.out, ga.out, pa.out, (by repeat (first | (with_reducible first | exact da.out | apply IsS52.alloc | apply IsS52.drewN | apply IsS52.drew | apply IsS52.set_1 | refine IsS52.far ?_ la.out _ | refine IsS52.far ?_ ma.out _ | refine IsS52.far ?_ ka.out _) | exact da.out)), kB_, (by repeat (first | (with_reducible first | exact HB.out | apply bA_ | apply bN_ | apply bD_ | refine bS_ ?_ (IsS52.ge da.out) | refine bS_ ?_ sa.out | refine bS_ ?_ ua.out | refine bS_ ?_ ra.out) | exact HB.out))⟩)
            skip
            rintro _ Xa ⟨hS_, h0_, h1_, h2_, Da, Ea⟩
            replace fa := aM_ h0_
            replace aa := aM_ h1_
            replace da := aM_ h2_
            replace HK := aM_ Da
            replace HB := aM_ Ea
            clear h0_ h1_ h2_ Da Ea
            have hHeld : Xa.cell? ⟨ea, 0, none⟩ = some (.string ba) ∧ Xa.cell? ⟨ea, 1, none⟩ = some (.string ca) ∧ Xa.cell? ⟨ea, 2, none⟩ = some (.string ha) := hS_
            refine nP_ ?_
            refine two_ (i := 10) (j := 20) (Ni := some 24) (Nj := some 4) (bo_ 22 151551) (bo_ 22 1199103) rfl rfl rfl rfl (two_of HT_.out (by kernel_rfl)) (by decide) (by decide) (fun K hK => ?_) (fun K hK => ?_)
            ·skip
             refine goes_ Tryd.func49 (by kernel_rfl) rfl #[.pointer (some ⟨g, 0, none⟩), .int .i64 256] (by rfl) rfl rfl aR_ ?_
             with_reducible refine (kerbsuitedata_Source_Next.calls g va Gb 256 Ha Hb w0 _ ?side1 ?side2 ie.out).mono ?_
             (case side1 => repeat (first | (with_reducible first | exact da.out | apply IsS52.alloc | apply IsS52.drewN | apply IsS52.drew | apply IsS52.set_1 | refine IsS52.far ?_ la.out _ | refine IsS52.far ?_ ma.out _) | exact da.out))
             (case side2 => repeat (first | (with_reducible first | exact HB.out | apply bA_ | apply bN_ | apply bD_ | refine bS_ ?_ (IsS52.ge da.out) | refine bS_ ?_ sa.out | refine bS_ ?_ ua.out) | exact HB.out))
             rintro e vb ⟨rfl, hi, hb, hk⟩
             refine ⟨_, rfl, ?_⟩
             replace fa := aM_ (KeepBut.blk hk (g' := ta) (o := .cells #[.string (⟨#[]⟩ : ByteArray), .string (⟨#[]⟩ : ByteArray), .int .u64 0, .int .i64 0, .int .i64 0, .int .i64 0, .int .i64 0, .int .i64 0, .int .i64 0] 35 (0, 0)) (bk_ fa.out) ya.out (by simp))
             replace aa := aM_ (KeepBut.blk hk (g' := ea) (o := .cells #[.string ba, .string ca, .string ha] 41 (0, 0)) (bk_ aa.out) za.out (by simp))
             replace HK := aM_ (KeepBut.trans kB_ hk (.inl rfl))
             replace HB := aM_ (hb)
             replace da := aM_ (hi)
             clear hb hk hi
             refine hK.out _ _ ⟨bc_ aa.out 0, bc_ aa.out 1, bc_ aa.out 2⟩ (fun hHeld => ?_)
             clear hK K
             refine nO_ 24 ?_
             exact nQ_ (hJ5_6_8_10 () _ ⟨hHeld, (bk_ fa.out), (bk_ aa.out), (by repeat (first | (with_reducible first | exact da.out | apply IsS52.alloc | apply IsS52.drewN | apply IsS52.drew | apply IsS52.set_1 | refine IsS52.far ?_ la.out _ | refine IsS52.far ?_ ma.out _) | exact da.out)), kB_, (by repeat (first | (with_reducible first | exact HB.out | apply bA_ | apply bN_ | apply bD_ | refine bS_ ?_ (IsS52.ge da.out) | refine bS_ ?_ sa.out | refine bS_ ?_ ua.out) | exact HB.out))⟩)
            skip
            refine box_step ?hg (N := 4) ?hd (cs := #[.string (⟨#[]⟩ : ByteArray), .string (⟨#[]⟩ : ByteArray), .int .u64 0, .int .i64 0, .int .i64 0, .int .i64 0, .int .i64 0, .int .i64 0, .int .i64 0]) (t := 35) ?hr ?_; (case hd => rfl); (case hg => rfl); (case hr => first | (go_simp; done) | (go_simp; rfl))
            intro ja hg vb hbox hb
            replace HB := aM_ (below_step (by repeat (first | (with_reducible first | exact HB.out | apply bA_ | apply bN_ | apply bD_ | refine bS_ ?_ (IsS52.ge da.out) | refine bS_ ?_ sa.out | refine bS_ ?_ ua.out) | exact HB.out)) hb)
            have ia := aM_ (hbox)
            have xa := aM_ ((by rw [hg]; exact (keep_size (w := w) (g := g) (row := none) kB_) : w.heap.size ≤ ja))
            have ra := aM_ ((Nat.le_trans HW0.out (by rw [hg]; exact (keep_size (w := w) (g := g) (row := none) kB_) : w.heap.size ≤ ja) : w0.heap.size ≤ ja))
            replace HK := aM_ (KeepBut.trans kB_ (KeepBut.of_below hb g none) (.inl rfl))
            have na := aM_ (nL_ hg fa.out)
            have oa := aM_ (nG_ hg fa.out)
            replace fa := aM_ (kG_ fa.out hb)
            have ga := aM_ (nL_ hg aa.out)
            have pa := aM_ (nG_ hg aa.out)
            replace aa := aM_ (kG_ aa.out hb)
            have ka := aM_ (nI_ hg (IsS52.lt da.out))
            have qa := aM_ (nJ_ hg (IsS52.lt da.out))
            replace da := aM_ (IsS52.below (by repeat (first | (with_reducible first | exact da.out | apply IsS52.alloc | apply IsS52.drewN | apply IsS52.drew | apply IsS52.set_1 | refine IsS52.far ?_ la.out _ | refine IsS52.far ?_ ma.out _) | exact da.out)) hb)
            clear hb hbox hg
            refine hK.out _ _ ⟨bc_ aa.out 0, bc_ aa.out 1, bc_ aa.out 2⟩ (fun hHeld => ?_)
            clear hK K
            refine nO_ 4 ?_
            exact nQ_ (hJ5_6_8_20 (ja) _ ⟨hHeld, (bk_ fa.out), (bk_ aa.out), (bk_ ia.out), xa.out, ra.out, ka.out, qa.out, na.out, oa.out, ga.out, pa.out, (by repeat (first | (with_reducible first | exact da.out | apply IsS52.alloc | apply IsS52.drewN | apply IsS52.drew | apply IsS52.set_1 | refine IsS52.far ?_ la.out _ | refine IsS52.far ?_ ma.out _ | refine IsS52.far ?_ ka.out _) | exact da.out)), kB_, (by repeat (first | (with_reducible first | exact HB.out | apply bA_ | apply bN_ | apply bD_ | refine bS_ ?_ (IsS52.ge da.out) | refine bS_ ?_ sa.out | refine bS_ ?_ ua.out | refine bS_ ?_ ra.out) | exact HB.out))⟩)
           skip
           rintro ja vb ⟨hS_, h0_, h1_, h2_, Da, Ea, Qa, Ra, Sa, Ta, Ua, Ja, Ka, La, Ma⟩
           replace fa := aM_ h0_
           replace aa := aM_ h1_
           have ia := aM_ h2_
           have xa := aM_ Da
           have ra := aM_ Ea
           have ka := aM_ Qa
           have qa := aM_ Ra
           have na := aM_ Sa
           have oa := aM_ Ta
           have ga := aM_ Ua
           have pa := aM_ Ja
           replace da := aM_ Ka
           replace HK := aM_ La
           replace HB := aM_ Ma
           clear h0_ h1_ h2_ Da Ea Qa Ra Sa Ta Ua Ja Ka La Ma
           have hHeld : vb.cell? ⟨ea, 0, none⟩ = some (.string ba) ∧ vb.cell? ⟨ea, 1, none⟩ = some (.string ca) ∧ vb.cell? ⟨ea, 2, none⟩ = some (.string ha) := hS_
           refine nP_ ?_
           refine one_ (i := 10) (N := some 24) (bo_ 22 1200127) rfl rfl (one_of HT_.out (by kernel_rfl)) (by decide) (fun K hK => ?_)
           refine goes_ Tryd.func49 (by kernel_rfl) rfl #[.pointer (some ⟨g, 0, none⟩), .int .i64 256] (by rfl) rfl rfl aR_ ?_
           with_reducible refine (kerbsuitedata_Source_Next.calls g va Gb 256 Ha Hb w0 _ ?side1 ?side2 ie.out).mono ?_
           (case side1 => repeat (first | (with_reducible first | exact da.out | apply IsS52.alloc | apply IsS52.drewN | apply IsS52.drew | apply IsS52.set_1 | refine IsS52.far ?_ la.out _ | refine IsS52.far ?_ ma.out _ | refine IsS52.far ?_ ka.out _) | exact da.out))
           (case side2 => repeat (first | (with_reducible first | exact HB.out | apply bA_ | apply bN_ | apply bD_ | refine bS_ ?_ (IsS52.ge da.out) | refine bS_ ?_ sa.out | refine bS_ ?_ ua.out | refine bS_ ?_ ra.out) | exact HB.out))
           rintro e wb ⟨rfl, hi, hb, hk⟩
           refine ⟨_, rfl, ?_⟩
           replace fa := aM_ (KeepBut.blk hk (g' := ta) (o := .cells #[.string (⟨#[]⟩ : ByteArray), .string (⟨#[]⟩ : ByteArray), .int .u64 0, .int .i64 0, .int .i64 0, .int .i64 0, .int .i64 0, .int .i64 0, .int .i64 0] 35 (0, 0)) (bk_ fa.out) ya.out (by simp))
           replace aa := aM_ (KeepBut.blk hk (g' := ea) (o := .cells #[.string ba, .string ca, .string ha] 41 (0, 0)) (bk_ aa.out) za.out (by simp))
           replace ia := aM_ (KeepBut.blk hk (g' := ja) (o := .cells #[.string (⟨#[]⟩ : ByteArray), .string (⟨#[]⟩ : ByteArray), .int .u64 0, .int .i64 0, .int .i64 0, .int .i64 0, .int .i64 0, .int .i64 0, .int .i64 0] 35 (0, 0)) (bk_ ia.out) qa.out (by simp))
           replace HK := aM_ (KeepBut.trans kB_ hk (.inl rfl))
           replace HB := aM_ (hb)
           replace da := aM_ (hi)
           clear hb hk hi
           refine hK.out _ _ ⟨bc_ aa.out 0, bc_ aa.out 1, bc_ aa.out 2⟩ (fun hHeld => ?_)
           clear hK K
           refine nO_ 24 ?_
           exact nQ_ (hJ5_6_8_10_20 (ja) _ ⟨hHeld, (bk_ fa.out), (bk_ aa.out), (bk_ ia.out), xa.out, ra.out, ka.out, qa.out, na.out, oa.out, ga.out, pa.out, (by repeat (first | (with_reducible first | exact da.out | apply IsS52.alloc | apply IsS52.drewN | apply IsS52.drew | apply IsS52.set_1 | refine IsS52.far ?_ la.out _ | refine IsS52.far ?_ ma.out _ | refine IsS52.far ?_ ka.out _) | exact da.out)), kB_, (by repeat (first | (with_reducible first | exact HB.out | apply bA_ | apply bN_ | apply bD_ | refine bS_ ?_ (IsS52.ge da.out) | refine bS_ ?_ sa.out | refine bS_ ?_ ua.out | refine bS_ ?_ ra.out) | exact HB.out))⟩)
          skip
          rintro _ vb ⟨hS_, h0_, h1_, h2_, Da, Ea⟩
          replace fa := aM_ h0_
          replace aa := aM_ h1_
          replace da := aM_ h2_
          replace HK := aM_ Da
          replace HB := aM_ Ea
          clear h0_ h1_ h2_ Da Ea
          have hHeld : vb.cell? ⟨ea, 0, none⟩ = some (.string ba) ∧ vb.cell? ⟨ea, 1, none⟩ = some (.string ca) ∧ vb.cell? ⟨ea, 2, none⟩ = some (.string ha) := hS_
          refine nP_ ?_
          refine two_ (i := 12) (j := 20) (Ni := some 26) (Nj := some 4) (bo_ 22 155647) (bo_ 22 1200127) rfl rfl rfl rfl (two_of HT_.out (by kernel_rfl)) (by decide) (by decide) (fun K hK => ?_) (fun K hK => ?_)
          ·skip
           refine goes_ Tryd.func49 (by kernel_rfl) rfl #[.pointer (some ⟨g, 0, none⟩), .int .i64 5] (by rfl) rfl rfl aR_ ?_
           with_reducible refine (kerbsuitedata_Source_Next.calls g va Hb 5 Ba Ib w0 _ ?side1 ?side2 je.out).mono ?_
           (case side1 => repeat (first | (with_reducible first | exact da.out | apply IsS52.alloc | apply IsS52.drewN | apply IsS52.drew | apply IsS52.set_1 | refine IsS52.far ?_ la.out _ | refine IsS52.far ?_ ma.out _) | exact da.out))
           (case side2 => repeat (first | (with_reducible first | exact HB.out | apply bA_ | apply bN_ | apply bD_ | refine bS_ ?_ (IsS52.ge da.out) | refine bS_ ?_ sa.out | refine bS_ ?_ ua.out) | exact HB.out))
           rintro e wb ⟨rfl, hi, hb, hk⟩
           refine ⟨_, rfl, ?_⟩
           replace fa := aM_ (KeepBut.blk hk (g' := ta) (o := .cells #[.string (⟨#[]⟩ : ByteArray), .string (⟨#[]⟩ : ByteArray), .int .u64 0, .int .i64 0, .int .i64 0, .int .i64 0, .int .i64 0, .int .i64 0, .int .i64 0] 35 (0, 0)) (bk_ fa.out) ya.out (by simp))
           replace aa := aM_ (KeepBut.blk hk (g' := ea) (o := .cells #[.string ba, .string ca, .string ha] 41 (0, 0)) (bk_ aa.out) za.out (by simp))
           replace HK := aM_ (KeepBut.trans kB_ hk (.inl rfl))
           replace HB := aM_ (hb)
           replace da := aM_ (hi)
           clear hb hk hi
           refine hK.out _ _ ⟨bc_ aa.out 0, bc_ aa.out 1, bc_ aa.out 2⟩ (fun hHeld => ?_)
           clear hK K
           refine nO_ 26 ?_
           refine pU_ 13 (some 27) (bo_ 22 163839) ?_
           exact nQ_ (hJ5_6_8_10_12 () _ ⟨hHeld, (bk_ fa.out), (bk_ aa.out), (by repeat (first | (with_reducible first | exact da.out | apply IsS52.alloc | apply IsS52.drewN | apply IsS52.drew | apply IsS52.set_1 | refine IsS52.far ?_ la.out _ | refine IsS52.far ?_ ma.out _) | exact da.out)), kB_, (by repeat (first | (with_reducible first | exact HB.out | apply bA_ | apply bN_ | apply bD_ | refine bS_ ?_ (IsS52.ge da.out) | refine bS_ ?_ sa.out | refine bS_ ?_ ua.out) | exact HB.out))⟩)
          skip
          refine box_step ?hg (N := 4) ?hd (cs := #[.string (⟨#[]⟩ : ByteArray), .string (⟨#[]⟩ : ByteArray), .int .u64 0, .int .i64 0, .int .i64 0, .int .i64 0, .int .i64 0, .int .i64 0, .int .i64 0]) (t := 35) ?hr ?_; (case hd => rfl); (case hg => rfl); (case hr => first | (go_simp; done) | (go_simp; rfl))
          intro ja hg wb hbox hb
          replace HB := aM_ (below_step (by repeat (first | (with_reducible first | exact HB.out | apply bA_ | apply bN_ | apply bD_ | refine bS_ ?_ (IsS52.ge da.out) | refine bS_ ?_ sa.out | refine bS_ ?_ ua.out) | exact HB.out)) hb)
          have ia := aM_ (hbox)
          have xa := aM_ ((by rw [hg]; exact (keep_size (w := w) (g := g) (row := none) kB_) : w.heap.size ≤ ja))
          have ra := aM_ ((Nat.le_trans HW0.out (by rw [hg]; exact (keep_size (w := w) (g := g) (row := none) kB_) : w.heap.size ≤ ja) : w0.heap.size ≤ ja))
          replace HK := aM_ (KeepBut.trans kB_ (KeepBut.of_below hb g none) (.inl rfl))
          have na := aM_ (nL_ hg fa.out)
          have oa := aM_ (nG_ hg fa.out)
          replace fa := aM_ (kG_ fa.out hb)
          have ga := aM_ (nL_ hg aa.out)
          have pa := aM_ (nG_ hg aa.out)
          replace aa := aM_ (kG_ aa.out hb)
          have ka := aM_ (nI_ hg (IsS52.lt da.out))
          have qa := aM_ (nJ_ hg (IsS52.lt da.out))
          replace da := aM_ (IsS52.below (by repeat (first | (with_reducible first | exact da.out | apply IsS52.alloc | apply IsS52.drewN | apply IsS52.drew | apply IsS52.set_1 | refine IsS52.far ?_ la.out _ | refine IsS52.far ?_ ma.out _) | exact da.out)) hb)
          clear hb hbox hg
          refine hK.out _ _ ⟨bc_ aa.out 0, bc_ aa.out 1, bc_ aa.out 2⟩ (fun hHeld => ?_)
          clear hK K
          refine nO_ 4 ?_
          exact nQ_ (hJ5_6_8_10_20 (ja) _ ⟨hHeld, (bk_ fa.out), (bk_ aa.out), (bk_ ia.out), xa.out, ra.out, ka.out, qa.out, na.out, oa.out, ga.out, pa.out, (by repeat (first | (with_reducible first | exact da.out | apply IsS52.alloc | apply IsS52.drewN | apply IsS52.drew | apply IsS52.set_1 | refine IsS52.far ?_ la.out _ | refine IsS52.far ?_ ma.out _ | refine IsS52.far ?_ ka.out _) | exact da.out)), kB_, (by repeat (first | (with_reducible first | exact HB.out | apply bA_ | apply bN_ | apply bD_ | refine bS_ ?_ (IsS52.ge da.out) | refine bS_ ?_ sa.out | refine bS_ ?_ ua.out | refine bS_ ?_ ra.out) | exact HB.out))⟩)
         skip
         rintro ja wb ⟨hS_, h0_, h1_, h2_, Da, Ea, Qa, Ra, Sa, Ta, Ua, Ja, Ka, La, Ma⟩
         replace fa := aM_ h0_
         replace aa := aM_ h1_
         have ia := aM_ h2_
         have xa := aM_ Da
         have ra := aM_ Ea
         have ka := aM_ Qa
         have qa := aM_ Ra
         have na := aM_ Sa
         have oa := aM_ Ta
         have ga := aM_ Ua
         have pa := aM_ Ja
         replace da := aM_ Ka
         replace HK := aM_ La
         replace HB := aM_ Ma
         clear h0_ h1_ h2_ Da Ea Qa Ra Sa Ta Ua Ja Ka La Ma
         have hHeld : wb.cell? ⟨ea, 0, none⟩ = some (.string ba) ∧ wb.cell? ⟨ea, 1, none⟩ = some (.string ca) ∧ wb.cell? ⟨ea, 2, none⟩ = some (.string ha) := hS_
         refine nP_ ?_
         refine one_ (i := 12) (N := some 26) (bo_ 22 1204223) rfl rfl (one_of HT_.out (by kernel_rfl)) (by decide) (fun K hK => ?_)
         refine goes_ Tryd.func49 (by kernel_rfl) rfl #[.pointer (some ⟨g, 0, none⟩), .int .i64 5] (by rfl) rfl rfl aR_ ?_
         with_reducible refine (kerbsuitedata_Source_Next.calls g va Hb 5 Ba Ib w0 _ ?side1 ?side2 je.out).mono ?_
         (case side1 => repeat (first | (with_reducible first | exact da.out | apply IsS52.alloc | apply IsS52.drewN | apply IsS52.drew | apply IsS52.set_1 | refine IsS52.far ?_ la.out _ | refine IsS52.far ?_ ma.out _ | refine IsS52.far ?_ ka.out _) | exact da.out))
         (case side2 => repeat (first | (with_reducible first | exact HB.out | apply bA_ | apply bN_ | apply bD_ | refine bS_ ?_ (IsS52.ge da.out) | refine bS_ ?_ sa.out | refine bS_ ?_ ua.out | refine bS_ ?_ ra.out) | exact HB.out))
         rintro e xb ⟨rfl, hi, hb, hk⟩
         refine ⟨_, rfl, ?_⟩
         replace fa := aM_ (KeepBut.blk hk (g' := ta) (o := .cells #[.string (⟨#[]⟩ : ByteArray), .string (⟨#[]⟩ : ByteArray), .int .u64 0, .int .i64 0, .int .i64 0, .int .i64 0, .int .i64 0, .int .i64 0, .int .i64 0] 35 (0, 0)) (bk_ fa.out) ya.out (by simp))
         replace aa := aM_ (KeepBut.blk hk (g' := ea) (o := .cells #[.string ba, .string ca, .string ha] 41 (0, 0)) (bk_ aa.out) za.out (by simp))
         replace ia := aM_ (KeepBut.blk hk (g' := ja) (o := .cells #[.string (⟨#[]⟩ : ByteArray), .string (⟨#[]⟩ : ByteArray), .int .u64 0, .int .i64 0, .int .i64 0, .int .i64 0, .int .i64 0, .int .i64 0, .int .i64 0] 35 (0, 0)) (bk_ ia.out) qa.out (by simp))
         replace HK := aM_ (KeepBut.trans kB_ hk (.inl rfl))
         replace HB := aM_ (hb)
         replace da := aM_ (hi)
         clear hb hk hi
         refine hK.out _ _ ⟨bc_ aa.out 0, bc_ aa.out 1, bc_ aa.out 2⟩ (fun hHeld => ?_)
         clear hK K
         refine nO_ 26 ?_
         refine pU_ 13 (some 27) (bo_ 22 1212415) ?_
         exact nQ_ (hJ5_6_8_10_12_20 (ja) _ ⟨hHeld, (bk_ fa.out), (bk_ aa.out), (bk_ ia.out), xa.out, ra.out, ka.out, qa.out, na.out, oa.out, ga.out, pa.out, (by repeat (first | (with_reducible first | exact da.out | apply IsS52.alloc | apply IsS52.drewN | apply IsS52.drew | apply IsS52.set_1 | refine IsS52.far ?_ la.out _ | refine IsS52.far ?_ ma.out _ | refine IsS52.far ?_ ka.out _) | exact da.out)), kB_, (by repeat (first | (with_reducible first | exact HB.out | apply bA_ | apply bN_ | apply bD_ | refine bS_ ?_ (IsS52.ge da.out) | refine bS_ ?_ sa.out | refine bS_ ?_ ua.out | refine bS_ ?_ ra.out) | exact HB.out))⟩)
        skip
        rintro _ wb ⟨hS_, h0_, h1_, h2_, Da, Ea⟩
        replace fa := aM_ h0_
        replace aa := aM_ h1_
        replace da := aM_ h2_
        replace HK := aM_ Da
        replace HB := aM_ Ea
        clear h0_ h1_ h2_ Da Ea
        have hHeld : wb.cell? ⟨ea, 0, none⟩ = some (.string ba) ∧ wb.cell? ⟨ea, 1, none⟩ = some (.string ca) ∧ wb.cell? ⟨ea, 2, none⟩ = some (.string ha) := hS_
        refine nP_ ?_
        refine two_ (i := 15) (j := 20) (Ni := some 29) (Nj := some 4) (bo_ 22 196607) (bo_ 22 1212415) rfl rfl rfl rfl (two_of HT_.out (by kernel_rfl)) (by decide) (by decide) (fun K hK => ?_) (fun K hK => ?_)
        ·skip
         refine goes_ Tryd.func49 (by kernel_rfl) rfl #[.pointer (some ⟨g, 0, none⟩), .int .i64 4] (by rfl) rfl rfl aR_ ?_
         with_reducible refine (kerbsuitedata_Source_Next.calls g va Ib 4 Ga Jb w0 _ ?side1 ?side2 ke.out).mono ?_
         (case side1 => repeat (first | (with_reducible first | exact da.out | apply IsS52.alloc | apply IsS52.drewN | apply IsS52.drew | apply IsS52.set_1 | refine IsS52.far ?_ la.out _ | refine IsS52.far ?_ ma.out _) | exact da.out))
         (case side2 => repeat (first | (with_reducible first | exact HB.out | apply bA_ | apply bN_ | apply bD_ | refine bS_ ?_ (IsS52.ge da.out) | refine bS_ ?_ sa.out | refine bS_ ?_ ua.out) | exact HB.out))
         rintro e xb ⟨rfl, hi, hb, hk⟩
         refine ⟨_, rfl, ?_⟩
         replace fa := aM_ (KeepBut.blk hk (g' := ta) (o := .cells #[.string (⟨#[]⟩ : ByteArray), .string (⟨#[]⟩ : ByteArray), .int .u64 0, .int .i64 0, .int .i64 0, .int .i64 0, .int .i64 0, .int .i64 0, .int .i64 0] 35 (0, 0)) (bk_ fa.out) ya.out (by simp))
         replace aa := aM_ (KeepBut.blk hk (g' := ea) (o := .cells #[.string ba, .string ca, .string ha] 41 (0, 0)) (bk_ aa.out) za.out (by simp))
         replace HK := aM_ (KeepBut.trans kB_ hk (.inl rfl))
         replace HB := aM_ (hb)
         replace da := aM_ (hi)
         clear hb hk hi
         refine hK.out _ _ ⟨bc_ aa.out 0, bc_ aa.out 1, bc_ aa.out 2⟩ (fun hHeld => ?_)
         clear hK K
         refine nO_ 29 ?_
         refine pU_ 16 (some 30) (bo_ 22 262143) ?_
         exact nQ_ (hJ5_6_8_10_12_15 () _ ⟨hHeld, (bk_ fa.out), (bk_ aa.out), (by repeat (first | (with_reducible first | exact da.out | apply IsS52.alloc | apply IsS52.drewN | apply IsS52.drew | apply IsS52.set_1 | refine IsS52.far ?_ la.out _ | refine IsS52.far ?_ ma.out _) | exact da.out)), kB_, (by repeat (first | (with_reducible first | exact HB.out | apply bA_ | apply bN_ | apply bD_ | refine bS_ ?_ (IsS52.ge da.out) | refine bS_ ?_ sa.out | refine bS_ ?_ ua.out) | exact HB.out))⟩)
        skip
        refine box_step ?hg (N := 4) ?hd (cs := #[.string (⟨#[]⟩ : ByteArray), .string (⟨#[]⟩ : ByteArray), .int .u64 0, .int .i64 0, .int .i64 0, .int .i64 0, .int .i64 0, .int .i64 0, .int .i64 0]) (t := 35) ?hr ?_; (case hd => rfl); (case hg => rfl); (case hr => first | (go_simp; done) | (go_simp; rfl))
        intro ja hg xb hbox hb
        replace HB := aM_ (below_step (by repeat (first | (with_reducible first | exact HB.out | apply bA_ | apply bN_ | apply bD_ | refine bS_ ?_ (IsS52.ge da.out) | refine bS_ ?_ sa.out | refine bS_ ?_ ua.out) | exact HB.out)) hb)
        have ia := aM_ (hbox)
        have xa := aM_ ((by rw [hg]; exact (keep_size (w := w) (g := g) (row := none) kB_) : w.heap.size ≤ ja))
        have ra := aM_ ((Nat.le_trans HW0.out (by rw [hg]; exact (keep_size (w := w) (g := g) (row := none) kB_) : w.heap.size ≤ ja) : w0.heap.size ≤ ja))
        replace HK := aM_ (KeepBut.trans kB_ (KeepBut.of_below hb g none) (.inl rfl))
        have na := aM_ (nL_ hg fa.out)
        have oa := aM_ (nG_ hg fa.out)
        replace fa := aM_ (kG_ fa.out hb)
        have ga := aM_ (nL_ hg aa.out)
        have pa := aM_ (nG_ hg aa.out)
        replace aa := aM_ (kG_ aa.out hb)
        have ka := aM_ (nI_ hg (IsS52.lt da.out))
        have qa := aM_ (nJ_ hg (IsS52.lt da.out))
        replace da := aM_ (IsS52.below (by repeat (first | (with_reducible first | exact da.out | apply IsS52.alloc | apply IsS52.drewN | apply IsS52.drew | apply IsS52.set_1 | refine IsS52.far ?_ la.out _ | refine IsS52.far ?_ ma.out _) | exact da.out)) hb)
        clear hb hbox hg
        refine hK.out _ _ ⟨bc_ aa.out 0, bc_ aa.out 1, bc_ aa.out 2⟩ (fun hHeld => ?_)
        clear hK K
        refine nO_ 4 ?_
        exact nQ_ (hJ5_6_8_10_12_20 (ja) _ ⟨hHeld, (bk_ fa.out), (bk_ aa.out), (bk_ ia.out), xa.out, ra.out, ka.out, qa.out, na.out, oa.out, ga.out, pa.out, (by repeat (first | (with_reducible first | exact da.out | apply IsS52.alloc | apply IsS52.drewN | apply IsS52.drew | apply IsS52.set_1 | refine IsS52.far ?_ la.out _ | refine IsS52.far ?_ ma.out _ | refine IsS52.far ?_ ka.out _) | exact da.out)), kB_, (by repeat (first | (with_reducible first | exact HB.out | apply bA_ | apply bN_ | apply bD_ | refine bS_ ?_ (IsS52.ge da.out) | refine bS_ ?_ sa.out | refine bS_ ?_ ua.out | refine bS_ ?_ ra.out) | exact HB.out))⟩)
       skip
       rintro ja xb ⟨hS_, h0_, h1_, h2_, Da, Ea, Qa, Ra, Sa, Ta, Ua, Ja, Ka, La, Ma⟩
       replace fa := aM_ h0_
       replace aa := aM_ h1_
       have ia := aM_ h2_
       have xa := aM_ Da
       have ra := aM_ Ea
       have ka := aM_ Qa
       have qa := aM_ Ra
       have na := aM_ Sa
       have oa := aM_ Ta
       have ga := aM_ Ua
       have pa := aM_ Ja
       replace da := aM_ Ka
       replace HK := aM_ La
       replace HB := aM_ Ma
       clear h0_ h1_ h2_ Da Ea Qa Ra Sa Ta Ua Ja Ka La Ma
       have hHeld : xb.cell? ⟨ea, 0, none⟩ = some (.string ba) ∧ xb.cell? ⟨ea, 1, none⟩ = some (.string ca) ∧ xb.cell? ⟨ea, 2, none⟩ = some (.string ha) := hS_
       refine nP_ ?_
       refine one_ (i := 15) (N := some 29) (bo_ 22 1245183) rfl rfl (one_of HT_.out (by kernel_rfl)) (by decide) (fun K hK => ?_)
       refine goes_ Tryd.func49 (by kernel_rfl) rfl #[.pointer (some ⟨g, 0, none⟩), .int .i64 4] (by rfl) rfl rfl aR_ ?_
       with_reducible refine (kerbsuitedata_Source_Next.calls g va Ib 4 Ga Jb w0 _ ?side1 ?side2 ke.out).mono ?_
       (case side1 => repeat (first | (with_reducible first | exact da.out | apply IsS52.alloc | apply IsS52.drewN | apply IsS52.drew | apply IsS52.set_1 | refine IsS52.far ?_ la.out _ | refine IsS52.far ?_ ma.out _ | refine IsS52.far ?_ ka.out _) | exact da.out))
       (case side2 => repeat (first | (with_reducible first | exact HB.out | apply bA_ | apply bN_ | apply bD_ | refine bS_ ?_ (IsS52.ge da.out) | refine bS_ ?_ sa.out | refine bS_ ?_ ua.out | refine bS_ ?_ ra.out) | exact HB.out))
       rintro e yb ⟨rfl, hi, hb, hk⟩
       refine ⟨_, rfl, ?_⟩
       replace fa := aM_ (KeepBut.blk hk (g' := ta) (o := .cells #[.string (⟨#[]⟩ : ByteArray), .string (⟨#[]⟩ : ByteArray), .int .u64 0, .int .i64 0, .int .i64 0, .int .i64 0, .int .i64 0, .int .i64 0, .int .i64 0] 35 (0, 0)) (bk_ fa.out) ya.out (by simp))
       replace aa := aM_ (KeepBut.blk hk (g' := ea) (o := .cells #[.string ba, .string ca, .string ha] 41 (0, 0)) (bk_ aa.out) za.out (by simp))
       replace ia := aM_ (KeepBut.blk hk (g' := ja) (o := .cells #[.string (⟨#[]⟩ : ByteArray), .string (⟨#[]⟩ : ByteArray), .int .u64 0, .int .i64 0, .int .i64 0, .int .i64 0, .int .i64 0, .int .i64 0, .int .i64 0] 35 (0, 0)) (bk_ ia.out) qa.out (by simp))
       replace HK := aM_ (KeepBut.trans kB_ hk (.inl rfl))
       replace HB := aM_ (hb)
       replace da := aM_ (hi)
       clear hb hk hi
       refine hK.out _ _ ⟨bc_ aa.out 0, bc_ aa.out 1, bc_ aa.out 2⟩ (fun hHeld => ?_)
       clear hK K
       refine nO_ 29 ?_
       refine pU_ 16 (some 30) (bo_ 22 1310719) ?_
       exact nQ_ (hJ5_6_8_10_12_15_20 (ja) _ ⟨hHeld, (bk_ fa.out), (bk_ aa.out), (bk_ ia.out), xa.out, ra.out, ka.out, qa.out, na.out, oa.out, ga.out, pa.out, (by repeat (first | (with_reducible first | exact da.out | apply IsS52.alloc | apply IsS52.drewN | apply IsS52.drew | apply IsS52.set_1 | refine IsS52.far ?_ la.out _ | refine IsS52.far ?_ ma.out _ | refine IsS52.far ?_ ka.out _) | exact da.out)), kB_, (by repeat (first | (with_reducible first | exact HB.out | apply bA_ | apply bN_ | apply bD_ | refine bS_ ?_ (IsS52.ge da.out) | refine bS_ ?_ sa.out | refine bS_ ?_ ua.out | refine bS_ ?_ ra.out) | exact HB.out))⟩)
      skip
      rintro _ xb ⟨hS_, h0_, h1_, h2_, Da, Ea⟩
      replace fa := aM_ h0_
      replace aa := aM_ h1_
      replace da := aM_ h2_
      replace HK := aM_ Da
      replace HB := aM_ Ea
      clear h0_ h1_ h2_ Da Ea
      have hHeld : xb.cell? ⟨ea, 0, none⟩ = some (.string ba) ∧ xb.cell? ⟨ea, 1, none⟩ = some (.string ca) ∧ xb.cell? ⟨ea, 2, none⟩ = some (.string ha) := hS_
      refine nP_ ?_
      refine two_ (i := 18) (j := 20) (Ni := some 32) (Nj := some 4) (bo_ 22 524287) (bo_ 22 1310719) rfl rfl rfl rfl (two_of HT_.out (by kernel_rfl)) (by decide) (by decide) (fun K hK => ?_) (fun K hK => ?_)
      ·skip
       refine goes_ Tryd.func49 (by kernel_rfl) rfl #[.pointer (some ⟨g, 0, none⟩), .int .i64 21] (by rfl) rfl rfl aR_ ?_
       with_reducible refine (kerbsuitedata_Source_Next.calls g va Jb 21 Pa Ob w0 _ ?side1 ?side2 le.out).mono ?_
       (case side1 => repeat (first | (with_reducible first | exact da.out | apply IsS52.alloc | apply IsS52.drewN | apply IsS52.drew | apply IsS52.set_1 | refine IsS52.far ?_ la.out _ | refine IsS52.far ?_ ma.out _) | exact da.out))
       (case side2 => repeat (first | (with_reducible first | exact HB.out | apply bA_ | apply bN_ | apply bD_ | refine bS_ ?_ (IsS52.ge da.out) | refine bS_ ?_ sa.out | refine bS_ ?_ ua.out) | exact HB.out))
       rintro e yb ⟨rfl, hi, hb, hk⟩
       refine ⟨_, rfl, ?_⟩
       replace fa := aM_ (KeepBut.blk hk (g' := ta) (o := .cells #[.string (⟨#[]⟩ : ByteArray), .string (⟨#[]⟩ : ByteArray), .int .u64 0, .int .i64 0, .int .i64 0, .int .i64 0, .int .i64 0, .int .i64 0, .int .i64 0] 35 (0, 0)) (bk_ fa.out) ya.out (by simp))
       replace aa := aM_ (KeepBut.blk hk (g' := ea) (o := .cells #[.string ba, .string ca, .string ha] 41 (0, 0)) (bk_ aa.out) za.out (by simp))
       replace HK := aM_ (KeepBut.trans kB_ hk (.inl rfl))
       replace HB := aM_ (hb)
       replace da := aM_ (hi)
       clear hb hk hi
       refine hK.out _ _ ⟨bc_ aa.out 0, bc_ aa.out 1, bc_ aa.out 2⟩ (fun hHeld => ?_)
       clear hK K
       refine nO_ 32 ?_
       refine pU_ 19 (some 33) (bo_ 22 1048575) ?_
       exact nQ_ (hJ5_6_8_10_12_15_18 () _ ⟨hHeld, (bk_ fa.out), (bk_ aa.out), (by repeat (first | (with_reducible first | exact da.out | apply IsS52.alloc | apply IsS52.drewN | apply IsS52.drew | apply IsS52.set_1 | refine IsS52.far ?_ la.out _ | refine IsS52.far ?_ ma.out _) | exact da.out)), kB_, (by repeat (first | (with_reducible first | exact HB.out | apply bA_ | apply bN_ | apply bD_ | refine bS_ ?_ (IsS52.ge da.out) | refine bS_ ?_ sa.out | refine bS_ ?_ ua.out) | exact HB.out))⟩)
      skip
      refine box_step ?hg (N := 4) ?hd (cs := #[.string (⟨#[]⟩ : ByteArray), .string (⟨#[]⟩ : ByteArray), .int .u64 0, .int .i64 0, .int .i64 0, .int .i64 0, .int .i64 0, .int .i64 0, .int .i64 0]) (t := 35) ?hr ?_; (case hd => rfl); (case hg => rfl); (case hr => first | (go_simp; done) | (go_simp; rfl))
      intro ja hg yb hbox hb
      replace HB := aM_ (below_step (by repeat (first | (with_reducible first | exact HB.out | apply bA_ | apply bN_ | apply bD_ | refine bS_ ?_ (IsS52.ge da.out) | refine bS_ ?_ sa.out | refine bS_ ?_ ua.out) | exact HB.out)) hb)
      have ia := aM_ (hbox)
      have xa := aM_ ((by rw [hg]; exact (keep_size (w := w) (g := g) (row := none) kB_) : w.heap.size ≤ ja))
      have ra := aM_ ((Nat.le_trans HW0.out (by rw [hg]; exact (keep_size (w := w) (g := g) (row := none) kB_) : w.heap.size ≤ ja) : w0.heap.size ≤ ja))
      replace HK := aM_ (KeepBut.trans kB_ (KeepBut.of_below hb g none) (.inl rfl))
      have na := aM_ (nL_ hg fa.out)
      have oa := aM_ (nG_ hg fa.out)
      replace fa := aM_ (kG_ fa.out hb)
      have ga := aM_ (nL_ hg aa.out)
      have pa := aM_ (nG_ hg aa.out)
      replace aa := aM_ (kG_ aa.out hb)
      have ka := aM_ (nI_ hg (IsS52.lt da.out))
      have qa := aM_ (nJ_ hg (IsS52.lt da.out))
      replace da := aM_ (IsS52.below (by repeat (first | (with_reducible first | exact da.out | apply IsS52.alloc | apply IsS52.drewN | apply IsS52.drew | apply IsS52.set_1 | refine IsS52.far ?_ la.out _ | refine IsS52.far ?_ ma.out _) | exact da.out)) hb)
      clear hb hbox hg
      refine hK.out _ _ ⟨bc_ aa.out 0, bc_ aa.out 1, bc_ aa.out 2⟩ (fun hHeld => ?_)
      clear hK K
      refine nO_ 4 ?_
      exact nQ_ (hJ5_6_8_10_12_15_20 (ja) _ ⟨hHeld, (bk_ fa.out), (bk_ aa.out), (bk_ ia.out), xa.out, ra.out, ka.out, qa.out, na.out, oa.out, ga.out, pa.out, (by repeat (first | (with_reducible first | exact da.out | apply IsS52.alloc | apply IsS52.drewN | apply IsS52.drew | apply IsS52.set_1 | refine IsS52.far ?_ la.out _ | refine IsS52.far ?_ ma.out _ | refine IsS52.far ?_ ka.out _) | exact da.out)), kB_, (by repeat (first | (with_reducible first | exact HB.out | apply bA_ | apply bN_ | apply bD_ | refine bS_ ?_ (IsS52.ge da.out) | refine bS_ ?_ sa.out | refine bS_ ?_ ua.out | refine bS_ ?_ ra.out) | exact HB.out))⟩)
     skip
     rintro ja yb ⟨hS_, h0_, h1_, h2_, Da, Ea, Qa, Ra, Sa, Ta, Ua, Ja, Ka, La, Ma⟩
     replace fa := aM_ h0_
     replace aa := aM_ h1_
     have ia := aM_ h2_
     have xa := aM_ Da
     have ra := aM_ Ea
     have ka := aM_ Qa
     have qa := aM_ Ra
     have na := aM_ Sa
     have oa := aM_ Ta
     have ga := aM_ Ua
     have pa := aM_ Ja
     replace da := aM_ Ka
     replace HK := aM_ La
     replace HB := aM_ Ma
     clear h0_ h1_ h2_ Da Ea Qa Ra Sa Ta Ua Ja Ka La Ma
     have hHeld : yb.cell? ⟨ea, 0, none⟩ = some (.string ba) ∧ yb.cell? ⟨ea, 1, none⟩ = some (.string ca) ∧ yb.cell? ⟨ea, 2, none⟩ = some (.string ha) := hS_
     refine nP_ ?_
     refine one_ (i := 18) (N := some 32) (bo_ 22 1572863) rfl rfl (one_of HT_.out (by kernel_rfl)) (by decide) (fun K hK => ?_)
     refine goes_ Tryd.func49 (by kernel_rfl) rfl #[.pointer (some ⟨g, 0, none⟩), .int .i64 21] (by rfl) rfl rfl aR_ ?_
     with_reducible refine (kerbsuitedata_Source_Next.calls g va Jb 21 Pa Ob w0 _ ?side1 ?side2 le.out).mono ?_
     (case side1 => repeat (first | (with_reducible first | exact da.out | apply IsS52.alloc | apply IsS52.drewN | apply IsS52.drew | apply IsS52.set_1 | refine IsS52.far ?_ la.out _ | refine IsS52.far ?_ ma.out _ | refine IsS52.far ?_ ka.out _) | exact da.out))
     (case side2 => repeat (first | (with_reducible first | exact HB.out | apply bA_ | apply bN_ | apply bD_ | refine bS_ ?_ (IsS52.ge da.out) | refine bS_ ?_ sa.out | refine bS_ ?_ ua.out | refine bS_ ?_ ra.out) | exact HB.out))
     rintro e bb ⟨rfl, hi, hb, hk⟩
     refine ⟨_, rfl, ?_⟩
     replace fa := aM_ (KeepBut.blk hk (g' := ta) (o := .cells #[.string (⟨#[]⟩ : ByteArray), .string (⟨#[]⟩ : ByteArray), .int .u64 0, .int .i64 0, .int .i64 0, .int .i64 0, .int .i64 0, .int .i64 0, .int .i64 0] 35 (0, 0)) (bk_ fa.out) ya.out (by simp))
     replace aa := aM_ (KeepBut.blk hk (g' := ea) (o := .cells #[.string ba, .string ca, .string ha] 41 (0, 0)) (bk_ aa.out) za.out (by simp))
     replace ia := aM_ (KeepBut.blk hk (g' := ja) (o := .cells #[.string (⟨#[]⟩ : ByteArray), .string (⟨#[]⟩ : ByteArray), .int .u64 0, .int .i64 0, .int .i64 0, .int .i64 0, .int .i64 0, .int .i64 0, .int .i64 0] 35 (0, 0)) (bk_ ia.out) qa.out (by simp))
     replace HK := aM_ (KeepBut.trans kB_ hk (.inl rfl))
     replace HB := aM_ (hb)
     replace da := aM_ (hi)
     clear hb hk hi
     refine hK.out _ _ ⟨bc_ aa.out 0, bc_ aa.out 1, bc_ aa.out 2⟩ (fun hHeld => ?_)
     clear hK K
     refine nO_ 32 ?_
     refine pU_ 19 (some 33) (bo_ 22 2097151) ?_
     exact nQ_ (hJ5_6_8_10_12_15_18_20 (ja) _ ⟨hHeld, (bk_ fa.out), (bk_ aa.out), (bk_ ia.out), xa.out, ra.out, ka.out, qa.out, na.out, oa.out, ga.out, pa.out, (by repeat (first | (with_reducible first | exact da.out | apply IsS52.alloc | apply IsS52.drewN | apply IsS52.drew | apply IsS52.set_1 | refine IsS52.far ?_ la.out _ | refine IsS52.far ?_ ma.out _ | refine IsS52.far ?_ ka.out _) | exact da.out)), kB_, (by repeat (first | (with_reducible first | exact HB.out | apply bA_ | apply bN_ | apply bD_ | refine bS_ ?_ (IsS52.ge da.out) | refine bS_ ?_ sa.out | refine bS_ ?_ ua.out | refine bS_ ?_ ra.out) | exact HB.out))⟩)
    skip
    rintro _ yb ⟨hS_, h0_, h1_, h2_, Da, Ea⟩
    replace fa := aM_ h0_
    replace aa := aM_ h1_
    replace da := aM_ h2_
    replace HK := aM_ Da
    replace HB := aM_ Ea
    clear h0_ h1_ h2_ Da Ea
    have hHeld : yb.cell? ⟨ea, 0, none⟩ = some (.string ba) ∧ yb.cell? ⟨ea, 1, none⟩ = some (.string ca) ∧ yb.cell? ⟨ea, 2, none⟩ = some (.string ha) := hS_
    refine nP_ ?_
    refine one_ (i := 20) (N := some 4) (bo_ 22 2097151) rfl rfl (one_of HT_.out (by kernel_rfl)) (by decide) (fun K hK => ?_)
    refine box_step ?hg (N := 4) ?hd (cs := #[.string (⟨#[]⟩ : ByteArray), .string (⟨#[]⟩ : ByteArray), .int .u64 0, .int .i64 0, .int .i64 0, .int .i64 0, .int .i64 0, .int .i64 0, .int .i64 0]) (t := 35) ?hr ?_; (case hd => rfl); (case hg => rfl); (case hr => first | (go_simp; done) | (go_simp; rfl))
    intro ja hg bb hbox hb
    replace HB := aM_ (below_step (by repeat (first | (with_reducible first | exact HB.out | apply bA_ | apply bN_ | apply bD_ | refine bS_ ?_ (IsS52.ge da.out) | refine bS_ ?_ sa.out | refine bS_ ?_ ua.out) | exact HB.out)) hb)
    have ia := aM_ (hbox)
    have xa := aM_ ((by rw [hg]; exact (keep_size (w := w) (g := g) (row := none) kB_) : w.heap.size ≤ ja))
    have ra := aM_ ((Nat.le_trans HW0.out (by rw [hg]; exact (keep_size (w := w) (g := g) (row := none) kB_) : w.heap.size ≤ ja) : w0.heap.size ≤ ja))
    replace HK := aM_ (KeepBut.trans kB_ (KeepBut.of_below hb g none) (.inl rfl))
    have na := aM_ (nL_ hg fa.out)
    have oa := aM_ (nG_ hg fa.out)
    replace fa := aM_ (kG_ fa.out hb)
    have ga := aM_ (nL_ hg aa.out)
    have pa := aM_ (nG_ hg aa.out)
    replace aa := aM_ (kG_ aa.out hb)
    have ka := aM_ (nI_ hg (IsS52.lt da.out))
    have qa := aM_ (nJ_ hg (IsS52.lt da.out))
    replace da := aM_ (IsS52.below (by repeat (first | (with_reducible first | exact da.out | apply IsS52.alloc | apply IsS52.drewN | apply IsS52.drew | apply IsS52.set_1 | refine IsS52.far ?_ la.out _ | refine IsS52.far ?_ ma.out _) | exact da.out)) hb)
    clear hb hbox hg
    refine hK.out _ _ ⟨bc_ aa.out 0, bc_ aa.out 1, bc_ aa.out 2⟩ (fun hHeld => ?_)
    clear hK K
    refine nO_ 4 ?_
    exact nQ_ (hJ5_6_8_10_12_15_18_20 (ja) _ ⟨hHeld, (bk_ fa.out), (bk_ aa.out), (bk_ ia.out), xa.out, ra.out, ka.out, qa.out, na.out, oa.out, ga.out, pa.out, (by repeat (first | (with_reducible first | exact da.out | apply IsS52.alloc | apply IsS52.drewN | apply IsS52.drew | apply IsS52.set_1 | refine IsS52.far ?_ la.out _ | refine IsS52.far ?_ ma.out _ | refine IsS52.far ?_ ka.out _) | exact da.out)), kB_, (by repeat (first | (with_reducible first | exact HB.out | apply bA_ | apply bN_ | apply bD_ | refine bS_ ?_ (IsS52.ge da.out) | refine bS_ ?_ sa.out | refine bS_ ?_ ua.out | refine bS_ ?_ ra.out) | exact HB.out))⟩)
   rintro ja bb ⟨hS_, h0_, h1_, h2_, Da, Ea, Qa, Ra, Sa, Ta, Ua, Ja, Ka, La, Ma⟩
   replace fa := aM_ h0_
   replace aa := aM_ h1_
   have ia := aM_ h2_
   have xa := aM_ Da
   have ra := aM_ Ea
   have ka := aM_ Qa
   have qa := aM_ Ra
   have na := aM_ Sa
   have oa := aM_ Ta
   have ga := aM_ Ua
   have pa := aM_ Ja
   replace da := aM_ Ka
   replace HK := aM_ La
   replace HB := aM_ Ma
   clear h0_ h1_ h2_ Da Ea Qa Ra Sa Ta Ua Ja Ka La Ma
   have hHeld : bb.cell? ⟨ea, 0, none⟩ = some (.string ba) ∧ bb.cell? ⟨ea, 1, none⟩ = some (.string ca) ∧ bb.cell? ⟨ea, 2, none⟩ = some (.string ha) := hS_
   refine nP_ ?_
   refine one_ (i := 21) (N := none) (bo_ 22 4194303) rfl rfl (one_of HT_.out (by kernel_rfl)) (by decide) (fun K hK => ?_)
   have hs40 : bb.cell? ⟨ja, 0, none⟩ = some (.string (⟨#[]⟩ : ByteArray)) := bc_ ia.out 0
   have hfs40 := blk_frozen ia.out 0
   have hns40_0 := na.out
   have hns40_1 := ga.out
   have hms40_0 := oa.out
   have hms40_1 := pa.out
   have hs41 : bb.cell? ⟨ja, 1, none⟩ = some (.string (⟨#[]⟩ : ByteArray)) := bc_ ia.out 1
   have hfs41 := blk_frozen ia.out 1
   have hns41_0 := na.out
   have hns41_1 := ga.out
   have hms41_0 := oa.out
   have hms41_1 := pa.out
   have hs42 : bb.cell? ⟨ja, 2, none⟩ = some (.int .u64 0) := bc_ ia.out 2
   have hfs42 := blk_frozen ia.out 2
   have hns42_0 := na.out
   have hns42_1 := ga.out
   have hms42_0 := oa.out
   have hms42_1 := pa.out
   have hs43 : bb.cell? ⟨ja, 3, none⟩ = some (.int .i64 0) := bc_ ia.out 3
   have hfs43 := blk_frozen ia.out 3
   have hns43_0 := na.out
   have hns43_1 := ga.out
   have hms43_0 := oa.out
   have hms43_1 := pa.out
   have hs44 : bb.cell? ⟨ja, 4, none⟩ = some (.int .i64 0) := bc_ ia.out 4
   have hfs44 := blk_frozen ia.out 4
   have hns44_0 := na.out
   have hns44_1 := ga.out
   have hms44_0 := oa.out
   have hms44_1 := pa.out
   have hs45 : bb.cell? ⟨ja, 5, none⟩ = some (.int .i64 0) := bc_ ia.out 5
   have hfs45 := blk_frozen ia.out 5
   have hns45_0 := na.out
   have hns45_1 := ga.out
   have hms45_0 := oa.out
   have hms45_1 := pa.out
   have hs46 : bb.cell? ⟨ja, 6, none⟩ = some (.int .i64 0) := bc_ ia.out 6
   have hfs46 := blk_frozen ia.out 6
   have hns46_0 := na.out
   have hns46_1 := ga.out
   have hms46_0 := oa.out
   have hms46_1 := pa.out
   have hs47 : bb.cell? ⟨ja, 7, none⟩ = some (.int .i64 0) := bc_ ia.out 7
   have hfs47 := blk_frozen ia.out 7
   have hns47_0 := na.out
   have hns47_1 := ga.out
   have hms47_0 := oa.out
   have hms47_1 := pa.out
   have hs48 : bb.cell? ⟨ja, 8, none⟩ = some (.int .i64 0) := bc_ ia.out 8
   have hfs48 := blk_frozen ia.out 8
   have hns48_0 := na.out
   have hns48_1 := ga.out
   have hms48_0 := oa.out
   have hms48_1 := pa.out
   refine skip_ (w1 := ?_) (by rfl) rfl ?_ ?_
   rotate_left; (· go_simp; rfl)
   refine hK.out _ _ ⟨((cell_far (p := ⟨ja, _, none⟩) ga.out _).trans (((cell_far (p := ⟨ja, _, none⟩) ga.out _).trans (((cell_far (p := ⟨ja, _, none⟩) ga.out _).trans (((cell_far (p := ⟨ja, _, none⟩) ga.out _).trans (((cell_far (p := ⟨ja, _, none⟩) ga.out _).trans (((cell_far (p := ⟨ja, _, none⟩) ga.out _).trans (((cell_far (p := ⟨ja, _, none⟩) ga.out _).trans (((cell_far (p := ⟨ja, _, none⟩) ga.out _).trans (((cell_far (p := ⟨ja, _, none⟩) ga.out _).trans (hHeld.1)))))))))))))))))), ((cell_far (p := ⟨ja, _, none⟩) ga.out _).trans (((cell_far (p := ⟨ja, _, none⟩) ga.out _).trans (((cell_far (p := ⟨ja, _, none⟩) ga.out _).trans (((cell_far (p := ⟨ja, _, none⟩) ga.out _).trans (((cell_far (p := ⟨ja, _, none⟩) ga.out _).trans (((cell_far (p := ⟨ja, _, none⟩) ga.out _).trans (((cell_far (p := ⟨ja, _, none⟩) ga.out _).trans (((cell_far (p := ⟨ja, _, none⟩) ga.out _).trans (((cell_far (p := ⟨ja, _, none⟩) ga.out _).trans (hHeld.2.1)))))))))))))))))), ((cell_far (p := ⟨ja, _, none⟩) ga.out _).trans (((cell_far (p := ⟨ja, _, none⟩) ga.out _).trans (((cell_far (p := ⟨ja, _, none⟩) ga.out _).trans (((cell_far (p := ⟨ja, _, none⟩) ga.out _).trans (((cell_far (p := ⟨ja, _, none⟩) ga.out _).trans (((cell_far (p := ⟨ja, _, none⟩) ga.out _).trans (((cell_far (p := ⟨ja, _, none⟩) ga.out _).trans (((cell_far (p := ⟨ja, _, none⟩) ga.out _).trans (((cell_far (p := ⟨ja, _, none⟩) ga.out _).trans (hHeld.2.2))))))))))))))))))⟩ (fun hHeld => ?_)
   clear hK K
   refine done_ (done_of HT_.out (by kernel_rfl)) ?_
   go_upto_if 36 with (first | ((with_reducible refine gate_callee (f := 49) rfl ?_); refine gC_ (some 35) 49 #[.pointer (some ⟨g, 0, none⟩), .int .i64 5] Tryd.func49 ?_; (with_reducible refine (kerbsuitedata_Source_Next.calls g va Ob 5 Kb Cc w0 _ ?side1 ?side2 Rf.out).mono ?_); (case side1 => repeat (first | (with_reducible first | exact da.out | apply IsS52.alloc | apply IsS52.drewN | apply IsS52.drew | apply IsS52.set_1 | refine IsS52.far ?_ la.out _ | refine IsS52.far ?_ ma.out _ | refine IsS52.far ?_ ka.out _) | exact da.out)); (case side2 => repeat (first | (with_reducible first | exact HB.out | apply bA_ | apply bN_ | apply bD_ | refine bS_ ?_ (IsS52.ge da.out) | refine bS_ ?_ sa.out | refine bS_ ?_ ua.out | refine bS_ ?_ ra.out) | exact HB.out)); rintro e jh ⟨rfl, hi, hb, hk⟩; refine ⟨_, rfl, ?_⟩; replace fa := aM_ (KeepBut.blk hk (g' := ta) (o := .cells #[.string (⟨#[]⟩ : ByteArray), .string (⟨#[]⟩ : ByteArray), .int .u64 0, .int .i64 0, .int .i64 0, .int .i64 0, .int .i64 0, .int .i64 0, .int .i64 0] 35 (0, 0)) (by exact far_ na.out fa.out) ya.out (by simp)); replace aa := aM_ (KeepBut.blk hk (g' := ea) (o := .cells #[.string ba, .string ca, .string ha] 41 (0, 0)) (by exact far_ ga.out aa.out) za.out (by simp)); replace ia := aM_ (KeepBut.blk hk (g' := ja) (o := .cells #[.string ba, .string ca, .int .u64 Ia, .int .i64 Fa, .int .i64 0, .int .i64 Ha, .int .i64 (wrap64 ((wrap64 (Int.tdiv Ba 4)) * Ga)), .int .i64 Pa, .int .i64 0] 35 (0, 0)) (by exact puts_ ia.out) qa.out (by simp)); replace HK := aM_ (KeepBut.trans kB_ hk (.inl rfl)); replace HB := aM_ (hb); replace da := aM_ (hi); clear hb hk hi))
   (try simp only [Act.put, sA_, sB_, sC_])
   go_cut [] (fun wc => ∃ (kq : Nat) (nb : Int) (Aa : Int), Aside0 (kerbsuitedata_Entry.j1 kq va nb ba ca Ia Fa Aa Ha (wrap64 ((wrap64 (Int.tdiv Ba 4)) * Ga)) Pa 0 = some (r1, r2, r3, r4, r5, r6, r7, r8, r9, Tb)) ∧ Aside0 (kq ≤ Qf) ∧ Aside0 (wc.heap[ta]? = some (.cells #[.string (⟨#[]⟩ : ByteArray), .string (⟨#[]⟩ : ByteArray), .int .u64 0, .int .i64 0, .int .i64 0, .int .i64 0, .int .i64 0, .int .i64 0, .int .i64 0] 35 (0, 0))) ∧ Aside0 (wc.heap[ea]? = some (.cells #[.string ba, .string ca, .string ha] 41 (0, 0))) ∧ Aside0 (wc.heap[ja]? = some (.cells #[.string ba, .string ca, .int .u64 Ia, .int .i64 Fa, .int .i64 Aa, .int .i64 Ha, .int .i64 (wrap64 ((wrap64 (Int.tdiv Ba 4)) * Ga)), .int .i64 Pa, .int .i64 0] 35 (0, 0))) ∧ Aside0 (IsS52 w0 wc g va nb) ∧ Aside0 (KeepBut w wc g none) ∧ Aside0 (Below w0.heap.size w0 wc))
   case first =>
    have H := Dc.out
    clear Dc
    by_cases Db : Kb = 4
    ·rw [if_pos Db] at H
     have ob : (Kb == 4) = true := beq_iff_eq.mpr Db
     have yc : (Kb != 4) = false := bne_eq_false_iff_eq.mpr Db
     clear Db
     (first | rw [ob] | (simp only [i64_w, i32_w]; rw [ob]) | skip)
     replace H := Option.bind_eq_some_iff.mp H
     obtain ⟨⟨Rd, Sd⟩, Td, H⟩ := H
     try dsimp only at H
     have Tf := aM_ Td
     clear Td
     have H' := aM_ H
     clear H
     go_wp2_with (first | ((with_reducible refine gate_callee (f := 49) rfl ?_); refine gC_ (some 38) 49 #[.pointer (some ⟨g, 0, none⟩), .int .i64 256] Tryd.func49 ?_; (with_reducible refine (kerbsuitedata_Source_Next.calls g va Cc 256 Rd Sd w0 _ ?side1 ?side2 Tf.out).mono ?_); (case side1 => repeat (first | (with_reducible first | exact da.out | apply IsS52.alloc | apply IsS52.drewN | apply IsS52.drew | apply IsS52.set_1 | refine IsS52.far ?_ la.out _ | refine IsS52.far ?_ ma.out _ | refine IsS52.far ?_ ka.out _) | exact da.out)); (case side2 => repeat (first | (with_reducible first | exact HB.out | apply bA_ | apply bN_ | apply bD_ | refine bS_ ?_ (IsS52.ge da.out) | refine bS_ ?_ sa.out | refine bS_ ?_ ua.out | refine bS_ ?_ ra.out) | exact HB.out)); rintro e Uf ⟨rfl, hi, hb, hk⟩; refine ⟨_, rfl, ?_⟩; replace fa := aM_ (KeepBut.blk hk (g' := ta) (o := .cells #[.string (⟨#[]⟩ : ByteArray), .string (⟨#[]⟩ : ByteArray), .int .u64 0, .int .i64 0, .int .i64 0, .int .i64 0, .int .i64 0, .int .i64 0, .int .i64 0] 35 (0, 0)) (bk_ fa.out) ya.out (by simp)); replace aa := aM_ (KeepBut.blk hk (g' := ea) (o := .cells #[.string ba, .string ca, .string ha] 41 (0, 0)) (bk_ aa.out) za.out (by simp)); replace ia := aM_ (KeepBut.blk hk (g' := ja) (o := .cells #[.string ba, .string ca, .int .u64 Ia, .int .i64 Fa, .int .i64 0, .int .i64 Ha, .int .i64 (wrap64 ((wrap64 (Int.tdiv Ba 4)) * Ga)), .int .i64 Pa, .int .i64 0] 35 (0, 0)) (bk_ ia.out) qa.out (by simp)); replace HK := aM_ (KeepBut.trans kB_ hk (.inl rfl)); replace HB := aM_ (hb); replace da := aM_ (hi); clear hb hk hi; have ng := oa.out; have og := na.out; have pg := pa.out; have qg := ga.out; have rg := qa.out; have sg := ka.out; have Ub := bc_ ia.out 0; have Vb := bc_ ia.out 1; have Wb := bc_ ia.out 2; have Xb := bc_ ia.out 3; have Yb := bc_ ia.out 4; have Zb := bc_ ia.out 5; have ac : Uf.cell? ⟨ja, 6, none⟩ = some (.int .i64 (wrap64 ((wrap64 (Int.tdiv Ba 4)) * Ga))) := bc_ ia.out 6; have bc := bc_ ia.out 7; have cc := bc_ ia.out 8; obtain ⟨dc, ec, fc, gc, hc, ic, jc, kc, lc⟩ := kZ9_ ia.out))
     go_meet
     case rel => exact ⟨_, (Sd), (wrap64 (Rd * 200)), H', ⟨by have := Kc.out; first | omega | exact Nat.le_refl _⟩, ⟨by exact far_ na.out fa.out⟩, ⟨by exact far_ ga.out aa.out⟩, ⟨by exact puts_ ia.out⟩, ⟨by repeat (first | (with_reducible first | exact da.out | apply IsS52.alloc | apply IsS52.drewN | apply IsS52.drew | apply IsS52.set_1 | refine IsS52.far ?_ la.out _ | refine IsS52.far ?_ ma.out _ | refine IsS52.far ?_ ka.out _) | exact da.out)⟩, ⟨by repeat (first | (with_reducible first | exact HK.out | apply KeepBut.set_ | apply keep_drewN | apply keep_drew | apply keep_alloc | refine keep_far ?_ Ya.out _ | refine keep_far ?_ Za.out _ | refine keep_far ?_ xa.out _) | exact HK.out)⟩, ⟨by repeat (first | (with_reducible first | exact HB.out | apply bA_ | apply bN_ | apply bD_ | refine bS_ ?_ (IsS52.ge da.out) | refine bS_ ?_ sa.out | refine bS_ ?_ ua.out | refine bS_ ?_ ra.out) | exact HB.out)⟩⟩
    rw [if_neg Db] at H
    have ob : (Kb == 4) = false := beq_eq_false_iff_ne.mpr Db
    have yc : (Kb != 4) = true := bne_iff_ne.mpr Db
    (first | rw [ob] | (simp only [i64_w, i32_w]; rw [ob]) | skip)
    have H' := aM_ H
    clear H
    go_wp2
    go_meet
    case rel => exact ⟨_, (Cc), (0), H', ⟨by have := Kc.out; first | omega | exact Nat.le_refl _⟩, ⟨by refine bk_ ?_; exact fa.out⟩, ⟨by refine bk_ ?_; exact aa.out⟩, ⟨by refine bk_ ?_; exact ia.out⟩, ⟨by repeat (first | (with_reducible first | exact da.out | apply IsS52.alloc | apply IsS52.drewN | apply IsS52.drew | apply IsS52.set_1 | refine IsS52.far ?_ la.out _ | refine IsS52.far ?_ ma.out _ | refine IsS52.far ?_ ka.out _) | exact da.out)⟩, ⟨by repeat (first | (with_reducible first | exact HK.out | apply KeepBut.set_ | apply keep_drewN | apply keep_drew | apply keep_alloc | refine keep_far ?_ Ya.out _ | refine keep_far ?_ Za.out _ | refine keep_far ?_ xa.out _) | exact HK.out)⟩, ⟨by repeat (first | (with_reducible first | exact HB.out | apply bA_ | apply bN_ | apply bD_ | refine bS_ ?_ (IsS52.ge da.out) | refine bS_ ?_ sa.out | refine bS_ ?_ ua.out | refine bS_ ?_ ra.out) | exact HB.out)⟩⟩
   case rest =>
    clear Dc
    try clear p2
    try clear c4
    try clear c5
    try clear p6
    try clear Wf
    try clear Db
    try clear ob
    try clear yc
    try clear Xf
    try clear Yf
    try clear Zf
    try clear Ub
    try clear Vb
    try clear Wb
    try clear Xb
    try clear Yb
    try clear Zb
    try clear ac
    try clear bc
    try clear cc
    try clear dc
    try clear ec
    try clear fc
    try clear gc
    try clear hc
    try clear ic
    try clear jc
    try clear kc
    try clear lc
    obtain ⟨kq, nb, Aa, HA, Ud, fa, aa, ia, da, HK, HB⟩ := hcut
    cases kq with
    | zero => exact absurd HA.out (by simp [kerbsuitedata_Entry.j1])
    | succ oe =>
     have H := HA.out
     clear HA
     simp only [kerbsuitedata_Entry.j1] at H
     replace H := Option.bind_eq_some_iff.mp H
     obtain ⟨⟨Lb, Pb⟩, Vd, H⟩ := H
     try dsimp only at H
     have ag := aM_ Vd
     clear Vd
     have Ec := aM_ H
     clear H
     go_upto_if 43 with (first | ((with_reducible refine gate_callee (f := 49) rfl ?_); refine gC_ (some 42) 49 #[.pointer (some ⟨g, 0, none⟩), .int .i64 9] Tryd.func49 ?_; (with_reducible refine (kerbsuitedata_Source_Next.calls g va nb 9 Lb Pb w0 _ ?side1 ?side2 ag.out).mono ?_); (case side1 => repeat (first | (with_reducible first | exact da.out | apply IsS52.alloc | apply IsS52.drewN | apply IsS52.drew | apply IsS52.set_1 | refine IsS52.far ?_ la.out _ | refine IsS52.far ?_ ma.out _ | refine IsS52.far ?_ ka.out _) | exact da.out)); (case side2 => repeat (first | (with_reducible first | exact HB.out | apply bA_ | apply bN_ | apply bD_ | refine bS_ ?_ (IsS52.ge da.out) | refine bS_ ?_ sa.out | refine bS_ ?_ ua.out | refine bS_ ?_ ra.out) | exact HB.out)); rintro e kh ⟨rfl, hi, hb, hk⟩; refine ⟨_, rfl, ?_⟩; replace fa := aM_ (KeepBut.blk hk (g' := ta) (o := .cells #[.string (⟨#[]⟩ : ByteArray), .string (⟨#[]⟩ : ByteArray), .int .u64 0, .int .i64 0, .int .i64 0, .int .i64 0, .int .i64 0, .int .i64 0, .int .i64 0] 35 (0, 0)) (bk_ fa.out) ya.out (by simp)); replace aa := aM_ (KeepBut.blk hk (g' := ea) (o := .cells #[.string ba, .string ca, .string ha] 41 (0, 0)) (bk_ aa.out) za.out (by simp)); replace ia := aM_ (KeepBut.blk hk (g' := ja) (o := .cells #[.string ba, .string ca, .int .u64 Ia, .int .i64 Fa, .int .i64 Aa, .int .i64 Ha, .int .i64 (wrap64 ((wrap64 (Int.tdiv Ba 4)) * Ga)), .int .i64 Pa, .int .i64 0] 35 (0, 0)) (bk_ ia.out) qa.out (by simp)); replace HK := aM_ (KeepBut.trans kB_ hk (.inl rfl)); replace HB := aM_ (hb); replace da := aM_ (hi); clear hb hk hi))
     (try simp only [Act.put, sA_, sB_, sC_])
     go_cut [] (fun wc => ∃ (kq : Nat) (Ca : Int), Aside0 (kerbsuitedata_Entry.j2 kq va Pb ba ca Ca Fa Aa Ha (wrap64 ((wrap64 (Int.tdiv Ba 4)) * Ga)) Pa 0 = some (r1, r2, r3, r4, r5, r6, r7, r8, r9, Tb)) ∧ Aside0 (kq ≤ oe) ∧ Aside0 (wc.heap[ta]? = some (.cells #[.string (⟨#[]⟩ : ByteArray), .string (⟨#[]⟩ : ByteArray), .int .u64 0, .int .i64 0, .int .i64 0, .int .i64 0, .int .i64 0, .int .i64 0, .int .i64 0] 35 (0, 0))) ∧ Aside0 (wc.heap[ea]? = some (.cells #[.string ba, .string ca, .string ha] 41 (0, 0))) ∧ Aside0 (wc.heap[ja]? = some (.cells #[.string ba, .string ca, .int .u64 Ca, .int .i64 Fa, .int .i64 Aa, .int .i64 Ha, .int .i64 (wrap64 ((wrap64 (Int.tdiv Ba 4)) * Ga)), .int .i64 Pa, .int .i64 0] 35 (0, 0))) ∧ Aside0 (IsS52 w0 wc g va Pb) ∧ Aside0 (KeepBut w wc g none) ∧ Aside0 (Below w0.heap.size w0 wc))
     case first =>
      have H := Ec.out
      clear Ec
      by_cases Nb : Lb = 8
      ·rw [if_pos Nb] at H
       have ub : (Lb == 8) = true := beq_iff_eq.mpr Nb
       have Lc : (Lb != 8) = false := bne_eq_false_iff_eq.mpr Nb
       clear Nb
       (first | rw [ub] | (simp only [i64_w, i32_w]; rw [ub]) | skip)
       have H' := aM_ H
       clear H
       have tg := oa.out
       have ug := na.out
       have vg := pa.out
       have wg := ga.out
       have xg := qa.out
       have yg := ka.out
       obtain ⟨id, jd, kd, ld, md, od, pd, qd, rd⟩ := kC9_ ia.out
       obtain ⟨sd, td, ud, vd, wd, xd, yd, zd, Ad⟩ := kZ9_ ia.out
       go_wp2
       go_meet
       case rel => exact ⟨_, (0), H', ⟨by have := Kc.out; have := Ud.out; first | omega | exact Nat.le_refl _⟩, ⟨by exact far_ na.out fa.out⟩, ⟨by exact far_ ga.out aa.out⟩, ⟨by exact puts_ ia.out⟩, ⟨by repeat (first | (with_reducible first | exact da.out | apply IsS52.alloc | apply IsS52.drewN | apply IsS52.drew | apply IsS52.set_1 | refine IsS52.far ?_ la.out _ | refine IsS52.far ?_ ma.out _ | refine IsS52.far ?_ ka.out _) | exact da.out)⟩, ⟨by repeat (first | (with_reducible first | exact HK.out | apply KeepBut.set_ | apply keep_drewN | apply keep_drew | apply keep_alloc | refine keep_far ?_ Ya.out _ | refine keep_far ?_ Za.out _ | refine keep_far ?_ xa.out _) | exact HK.out)⟩, ⟨by repeat (first | (with_reducible first | exact HB.out | apply bA_ | apply bN_ | apply bD_ | refine bS_ ?_ (IsS52.ge da.out) | refine bS_ ?_ sa.out | refine bS_ ?_ ua.out | refine bS_ ?_ ra.out) | exact HB.out)⟩⟩
      rw [if_neg Nb] at H
      have ub : (Lb == 8) = false := beq_eq_false_iff_ne.mpr Nb
      have Lc : (Lb != 8) = true := bne_iff_ne.mpr Nb
      (first | rw [ub] | (simp only [i64_w, i32_w]; rw [ub]) | skip)
      have H' := aM_ H
      clear H
      go_wp2
      go_meet
      case rel => exact ⟨_, (Ia), H', ⟨by have := Kc.out; have := Ud.out; first | omega | exact Nat.le_refl _⟩, ⟨by refine bk_ ?_; exact fa.out⟩, ⟨by refine bk_ ?_; exact aa.out⟩, ⟨by refine bk_ ?_; exact ia.out⟩, ⟨by repeat (first | (with_reducible first | exact da.out | apply IsS52.alloc | apply IsS52.drewN | apply IsS52.drew | apply IsS52.set_1 | refine IsS52.far ?_ la.out _ | refine IsS52.far ?_ ma.out _ | refine IsS52.far ?_ ka.out _) | exact da.out)⟩, ⟨by repeat (first | (with_reducible first | exact HK.out | apply KeepBut.set_ | apply keep_drewN | apply keep_drew | apply keep_alloc | refine keep_far ?_ Ya.out _ | refine keep_far ?_ Za.out _ | refine keep_far ?_ xa.out _) | exact HK.out)⟩, ⟨by repeat (first | (with_reducible first | exact HB.out | apply bA_ | apply bN_ | apply bD_ | refine bS_ ?_ (IsS52.ge da.out) | refine bS_ ?_ sa.out | refine bS_ ?_ ua.out | refine bS_ ?_ ra.out) | exact HB.out)⟩⟩
     case rest =>
      clear Ec
      try clear p2
      try clear c4
      try clear c5
      try clear c6
      try clear p6
      try clear Wf
      try clear Db
      try clear ob
      try clear yc
      try clear Xf
      try clear Yf
      try clear Zf
      try clear Nb
      try clear ub
      try clear Lc
      try clear lh
      try clear mh
      try clear nh
      try clear oh
      try clear Ub
      try clear Vb
      try clear Wb
      try clear Xb
      try clear Yb
      try clear Zb
      try clear ac
      try clear bc
      try clear cc
      try clear id
      try clear jd
      try clear kd
      try clear ld
      try clear md
      try clear od
      try clear pd
      try clear qd
      try clear rd
      try clear dc
      try clear ec
      try clear fc
      try clear gc
      try clear hc
      try clear ic
      try clear jc
      try clear kc
      try clear lc
      try clear sd
      try clear td
      try clear ud
      try clear vd
      try clear wd
      try clear xd
      try clear yd
      try clear zd
      try clear Ad
      try clear p2
      try clear p6
      obtain ⟨kq, Ca, HA, Xg, fa, aa, ia, da, HK, HB⟩ := hcut
      cases kq with
      | zero => exact absurd HA.out (by simp [kerbsuitedata_Entry.j2])
      | succ Yg =>
       have H := HA.out
       clear HA
       simp only [kerbsuitedata_Entry.j2] at H
       replace H := Option.bind_eq_some_iff.mp H
       obtain ⟨⟨zb, Fc⟩, Wd, H⟩ := H
       try dsimp only at H
       have me := aM_ Wd
       clear Wd
       by_cases Qb : zb = 8
       ·rw [if_pos Qb] at H
        have Zd : (zb == 8) = true := beq_iff_eq.mpr Qb
        have ae : (zb != 8) = false := bne_eq_false_iff_eq.mpr Qb
        clear Qb
        replace H := Option.bind_eq_some_iff.mp H
        obtain ⟨⟨Xd, pe⟩, Yd, H⟩ := H
        try dsimp only at H
        have bg := aM_ Yd
        clear Yd
        simp only [Option.some.injEq, Prod.mk.injEq] at H
        obtain ⟨rfl, rfl, rfl, rfl, rfl, rfl, rfl, rfl, rfl, rfl⟩ := H
        go_wp2_with (first | ((with_reducible refine gate_callee (f := 49) rfl ?_); refine gC_ (some 46) 49 #[.pointer (some ⟨g, 0, none⟩), .int .i64 9] Tryd.func49 ?_; (with_reducible refine (kerbsuitedata_Source_Next.calls g va Pb 9 zb Fc w0 _ ?side1 ?side2 me.out).mono ?_); (case side1 => repeat (first | (with_reducible first | exact da.out | apply IsS52.alloc | apply IsS52.drewN | apply IsS52.drew | apply IsS52.set_1 | refine IsS52.far ?_ la.out _ | refine IsS52.far ?_ ma.out _ | refine IsS52.far ?_ ka.out _) | exact da.out)); (case side2 => repeat (first | (with_reducible first | exact HB.out | apply bA_ | apply bN_ | apply bD_ | refine bS_ ?_ (IsS52.ge da.out) | refine bS_ ?_ sa.out | refine bS_ ?_ ua.out | refine bS_ ?_ ra.out) | exact HB.out)); rintro e ph ⟨rfl, hi, hb, hk⟩; refine ⟨_, rfl, ?_⟩; replace fa := aM_ (KeepBut.blk hk (g' := ta) (o := .cells #[.string (⟨#[]⟩ : ByteArray), .string (⟨#[]⟩ : ByteArray), .int .u64 0, .int .i64 0, .int .i64 0, .int .i64 0, .int .i64 0, .int .i64 0, .int .i64 0] 35 (0, 0)) (bk_ fa.out) ya.out (by simp)); replace aa := aM_ (KeepBut.blk hk (g' := ea) (o := .cells #[.string ba, .string ca, .string ha] 41 (0, 0)) (bk_ aa.out) za.out (by simp)); replace ia := aM_ (KeepBut.blk hk (g' := ja) (o := .cells #[.string ba, .string ca, .int .u64 Ca, .int .i64 Fa, .int .i64 Aa, .int .i64 Ha, .int .i64 (wrap64 ((wrap64 (Int.tdiv Ba 4)) * Ga)), .int .i64 Pa, .int .i64 0] 35 (0, 0)) (bk_ ia.out) qa.out (by simp)); replace HK := aM_ (KeepBut.trans kB_ hk (.inl rfl)); replace HB := aM_ (hb); replace da := aM_ (hi); clear hb hk hi) | ((with_reducible refine gate_callee (f := 49) rfl ?_); refine gC_ (some 49) 49 #[.pointer (some ⟨g, 0, none⟩), .int .i64 256] Tryd.func49 ?_; (with_reducible refine (kerbsuitedata_Source_Next.calls g va Fc 256 Xd pe w0 _ ?side1 ?side2 bg.out).mono ?_); (case side1 => repeat (first | (with_reducible first | exact da.out | apply IsS52.alloc | apply IsS52.drewN | apply IsS52.drew | apply IsS52.set_1 | refine IsS52.far ?_ la.out _ | refine IsS52.far ?_ ma.out _ | refine IsS52.far ?_ ka.out _) | exact da.out)); (case side2 => repeat (first | (with_reducible first | exact HB.out | apply bA_ | apply bN_ | apply bD_ | refine bS_ ?_ (IsS52.ge da.out) | refine bS_ ?_ sa.out | refine bS_ ?_ ua.out | refine bS_ ?_ ra.out) | exact HB.out)); rintro e cg ⟨rfl, hi, hb, hk⟩; refine ⟨_, rfl, ?_⟩; replace fa := aM_ (KeepBut.blk hk (g' := ta) (o := .cells #[.string (⟨#[]⟩ : ByteArray), .string (⟨#[]⟩ : ByteArray), .int .u64 0, .int .i64 0, .int .i64 0, .int .i64 0, .int .i64 0, .int .i64 0, .int .i64 0] 35 (0, 0)) (bk_ fa.out) ya.out (by simp)); replace aa := aM_ (KeepBut.blk hk (g' := ea) (o := .cells #[.string ba, .string ca, .string ha] 41 (0, 0)) (bk_ aa.out) za.out (by simp)); replace ia := aM_ (KeepBut.blk hk (g' := ja) (o := .cells #[.string ba, .string ca, .int .u64 Ca, .int .i64 Fa, .int .i64 Aa, .int .i64 Ha, .int .i64 (wrap64 ((wrap64 (Int.tdiv Ba 4)) * Ga)), .int .i64 Pa, .int .i64 0] 35 (0, 0)) (bk_ ia.out) qa.out (by simp)); replace HK := aM_ (KeepBut.trans kB_ hk (.inl rfl)); replace HB := aM_ (hb); replace da := aM_ (hi); clear hb hk hi; have zg := oa.out; have Ag := na.out; have Bg := pa.out; have Cg := ga.out; have Dg := qa.out; have Eg := ka.out; have re := bc_ ia.out 0; have se := bc_ ia.out 1; have te := bc_ ia.out 2; have ue := bc_ ia.out 3; have ve := bc_ ia.out 4; have we := bc_ ia.out 5; have xe : cg.cell? ⟨ja, 6, none⟩ = some (.int .i64 (wrap64 ((wrap64 (Int.tdiv Ba 4)) * Ga))) := bc_ ia.out 6; have ye := bc_ ia.out 7; have ze := bc_ ia.out 8; obtain ⟨Ae, Be, Ce, De, Ee, Fe, Ge, He, Ie⟩ := kZ9_ ia.out; have Fg := Va.out; have Gg := ab.out; have Hg := ya.out; have Ig := la.out; obtain ⟨Je, Ke, Le, Me, Ne, Oe, Pe, Qe, Re⟩ := kC9_ fa.out; obtain ⟨Se, Te, Ue, Ve, We, Xe, Ye, Ze, af⟩ := kZ9_ fa.out))
        refine bodyPost_ret (results_cell_row rfl _ _ ta 35 #[.string ba, .string ca, .int .u64 Ca, .int .i64 Fa, .int .i64 Aa, .int .i64 Ha, .int .i64 (wrap64 ((wrap64 (Int.tdiv Ba 4)) * Ga)), .int .i64 Pa, .int .i64 (wrap64 (Xd * 100))] (0, 0) _ rfl (by refine bk_ ?_; refine blk_put (cs := #[.string ba, .string ca, .int .u64 Ca, .int .i64 Fa, .int .i64 Aa, .int .i64 Ha, .int .i64 (wrap64 ((wrap64 (Int.tdiv Ba 4)) * Ga)), .int .i64 Pa, .int .i64 0]) ?_ 8 _ rfl; refine bk_ ?_; refine blk_put (cs := #[.string ba, .string ca, .int .u64 Ca, .int .i64 Fa, .int .i64 Aa, .int .i64 Ha, .int .i64 (wrap64 ((wrap64 (Int.tdiv Ba 4)) * Ga)), .int .i64 0, .int .i64 0]) ?_ 7 _ rfl; refine bk_ ?_; refine blk_put (cs := #[.string ba, .string ca, .int .u64 Ca, .int .i64 Fa, .int .i64 Aa, .int .i64 Ha, .int .i64 0, .int .i64 0, .int .i64 0]) ?_ 6 _ rfl; refine bk_ ?_; refine blk_put (cs := #[.string ba, .string ca, .int .u64 Ca, .int .i64 Fa, .int .i64 Aa, .int .i64 0, .int .i64 0, .int .i64 0, .int .i64 0]) ?_ 5 _ rfl; refine bk_ ?_; refine blk_put (cs := #[.string ba, .string ca, .int .u64 Ca, .int .i64 Fa, .int .i64 0, .int .i64 0, .int .i64 0, .int .i64 0, .int .i64 0]) ?_ 4 _ rfl; refine bk_ ?_; refine blk_put (cs := #[.string ba, .string ca, .int .u64 Ca, .int .i64 0, .int .i64 0, .int .i64 0, .int .i64 0, .int .i64 0, .int .i64 0]) ?_ 3 _ rfl; refine bk_ ?_; refine blk_put (cs := #[.string ba, .string ca, .int .u64 0, .int .i64 0, .int .i64 0, .int .i64 0, .int .i64 0, .int .i64 0, .int .i64 0]) ?_ 2 _ rfl; refine bk_ ?_; refine blk_put (cs := #[.string ba, .string (⟨#[]⟩ : ByteArray), .int .u64 0, .int .i64 0, .int .i64 0, .int .i64 0, .int .i64 0, .int .i64 0, .int .i64 0]) ?_ 1 _ rfl; refine bk_ ?_; refine blk_put (cs := #[.string (⟨#[]⟩ : ByteArray), .string (⟨#[]⟩ : ByteArray), .int .u64 0, .int .i64 0, .int .i64 0, .int .i64 0, .int .i64 0, .int .i64 0, .int .i64 0]) ?_ 0 _ rfl; exact far_ na.out fa.out) Tryd.underlying35 rfl (by kernel_rfl)) rfl ?_
        exact ⟨eW_, by repeat (first | (with_reducible first | exact da.out | apply IsS52.alloc | apply IsS52.drewN | apply IsS52.drew | apply IsS52.set_1 | refine IsS52.far ?_ la.out _ | refine IsS52.far ?_ ma.out _ | refine IsS52.far ?_ ka.out _) | exact da.out), by repeat (first | (with_reducible first | exact HB.out | apply bA_ | apply bN_ | apply bD_ | refine bS_ ?_ (IsS52.ge da.out) | refine bS_ ?_ sa.out | refine bS_ ?_ ua.out | refine bS_ ?_ ra.out) | exact HB.out), by repeat (first | (with_reducible first | exact HK.out | apply KeepBut.set_ | apply keep_drewN | apply keep_drew | apply keep_alloc | refine keep_far ?_ Ya.out _ | refine keep_far ?_ Za.out _ | refine keep_far ?_ xa.out _) | exact HK.out)⟩
       rw [if_neg Qb] at H
       have Zd : (zb == 8) = false := beq_eq_false_iff_ne.mpr Qb
       have ae : (zb != 8) = true := bne_iff_ne.mpr Qb
       simp only [Option.some.injEq, Prod.mk.injEq] at H
       obtain ⟨rfl, rfl, rfl, rfl, rfl, rfl, rfl, rfl, rfl, rfl⟩ := H
       go_wp2_with (first | ((with_reducible refine gate_callee (f := 49) rfl ?_); refine gC_ (some 46) 49 #[.pointer (some ⟨g, 0, none⟩), .int .i64 9] Tryd.func49 ?_; (with_reducible refine (kerbsuitedata_Source_Next.calls g va Pb 9 zb Fc w0 _ ?side1 ?side2 me.out).mono ?_); (case side1 => repeat (first | (with_reducible first | exact da.out | apply IsS52.alloc | apply IsS52.drewN | apply IsS52.drew | apply IsS52.set_1 | refine IsS52.far ?_ la.out _ | refine IsS52.far ?_ ma.out _ | refine IsS52.far ?_ ka.out _) | exact da.out)); (case side2 => repeat (first | (with_reducible first | exact HB.out | apply bA_ | apply bN_ | apply bD_ | refine bS_ ?_ (IsS52.ge da.out) | refine bS_ ?_ sa.out | refine bS_ ?_ ua.out | refine bS_ ?_ ra.out) | exact HB.out)); rintro e dg ⟨rfl, hi, hb, hk⟩; refine ⟨_, rfl, ?_⟩; replace fa := aM_ (KeepBut.blk hk (g' := ta) (o := .cells #[.string (⟨#[]⟩ : ByteArray), .string (⟨#[]⟩ : ByteArray), .int .u64 0, .int .i64 0, .int .i64 0, .int .i64 0, .int .i64 0, .int .i64 0, .int .i64 0] 35 (0, 0)) (bk_ fa.out) ya.out (by simp)); replace aa := aM_ (KeepBut.blk hk (g' := ea) (o := .cells #[.string ba, .string ca, .string ha] 41 (0, 0)) (bk_ aa.out) za.out (by simp)); replace ia := aM_ (KeepBut.blk hk (g' := ja) (o := .cells #[.string ba, .string ca, .int .u64 Ca, .int .i64 Fa, .int .i64 Aa, .int .i64 Ha, .int .i64 (wrap64 ((wrap64 (Int.tdiv Ba 4)) * Ga)), .int .i64 Pa, .int .i64 0] 35 (0, 0)) (bk_ ia.out) qa.out (by simp)); replace HK := aM_ (KeepBut.trans kB_ hk (.inl rfl)); replace HB := aM_ (hb); replace da := aM_ (hi); clear hb hk hi; have Jg := oa.out; have Kg := na.out; have Lg := pa.out; have Mg := ga.out; have Ng := qa.out; have Og := ka.out; have bf := bc_ ia.out 0; have cf := bc_ ia.out 1; have df := bc_ ia.out 2; have ef := bc_ ia.out 3; have ff := bc_ ia.out 4; have gf := bc_ ia.out 5; have hf : dg.cell? ⟨ja, 6, none⟩ = some (.int .i64 (wrap64 ((wrap64 (Int.tdiv Ba 4)) * Ga))) := bc_ ia.out 6; have jf := bc_ ia.out 7; have kf := bc_ ia.out 8; obtain ⟨lf, mf, nf, pf, qf, rf, sf, tf, uf⟩ := kZ9_ ia.out; have Pg := Va.out; have Qg := ab.out; have Rg := ya.out; have Sg := la.out; obtain ⟨vf, wf, xf, yf, zf, Af, Bf, Cf, Df⟩ := kC9_ fa.out; obtain ⟨Ef, Ff, Gf, Hf, If, Jf, Kf, Lf, Mf⟩ := kZ9_ fa.out))
       refine bodyPost_ret (results_cell_row rfl _ _ ta 35 #[.string ba, .string ca, .int .u64 Ca, .int .i64 Fa, .int .i64 Aa, .int .i64 Ha, .int .i64 (wrap64 ((wrap64 (Int.tdiv Ba 4)) * Ga)), .int .i64 Pa, .int .i64 0] (0, 0) _ rfl (by exact puts_ fa.out) Tryd.underlying35 rfl (by kernel_rfl)) rfl ?_
       exact ⟨eW_, by repeat (first | (with_reducible first | exact da.out | apply IsS52.alloc | apply IsS52.drewN | apply IsS52.drew | apply IsS52.set_1 | refine IsS52.far ?_ la.out _ | refine IsS52.far ?_ ma.out _ | refine IsS52.far ?_ ka.out _) | exact da.out), by repeat (first | (with_reducible first | exact HB.out | apply bA_ | apply bN_ | apply bD_ | refine bS_ ?_ (IsS52.ge da.out) | refine bS_ ?_ sa.out | refine bS_ ?_ ua.out | refine bS_ ?_ ra.out) | exact HB.out), by repeat (first | (with_reducible first | exact HK.out | apply KeepBut.set_ | apply keep_drewN | apply keep_drew | apply keep_alloc | refine keep_far ?_ Ya.out _ | refine keep_far ?_ Za.out _ | refine keep_far ?_ xa.out _) | exact HK.out)⟩

end Go.Proofs.YthfdfoigoomaoaaDoor.PDb
