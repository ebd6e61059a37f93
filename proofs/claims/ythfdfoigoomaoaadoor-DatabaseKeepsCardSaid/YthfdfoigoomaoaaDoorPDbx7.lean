/- The walks of functions of the translation: each call returns what the plain function beside it says. -/
import Derived.Test.YthfdfoigoomaoaaDoorPDbx0
import Derived.Test.YthfdfoigoomaoaaDoorPDbx2
import Derived.Test.YthfdfoigoomaoaaDoorPDbx4
import Derived.Test.YthfdfoigoomaoaaDoorPDbx6
namespace Go.Proofs.YthfdfoigoomaoaaDoor.PDb
open Go.RowKit Go.Proofs.YthfdfoigoomaoaaDoorW.PrintWords Go.Proofs.YthfdfoigoomaoaaDoorW.PrintLast Go.Proofs.YthfdfoigoomaoaaDoorW.PrintMore Go.Proofs.YthfdfoigoomaoaaDoor.Aid
attribute [local go_sem] max2_int min2_int max_two min_two max_three min_three max_four min_four aid_str_gtr aid_str_leq   -- for this text's walks alone
set_option linter.unusedVariables false
set_option linter.unusedSimpArgs false

/-! ### database_Dump: function 32 -/
def database_Dump.f (k : Nat) (la : ByteArray) (ya : List (S35)) : Option (ByteArray × Int) := (database_Check.f k la ya).bind fun t => (if t = 0 then (if ya.length = 0 then (if la.size + 1 ≤ 140737488355328 then some (la ++ (⟨#[10]⟩ : ByteArray), 0) else none) else none) else some ((⟨#[]⟩ : ByteArray), t))
set_option maxHeartbeats 8000000 in
set_option maxRecDepth 100000 in
theorem database_Dump.calls (k : Nat) (la : ByteArray) (Ka : Option Addr) (La : Nat) (ya : List (S35)) (r1 : ByteArray) (r2 : Int) (w : World) (hr0_1 : Kd.C k35 w Ka ya.length ya) (hc0_1 : ya.length ≤ La) (h : database_Dump.f k la ya = some (r1, r2)) :
 Calls Tryd.prog 32 #[.agg #[.string la, .slice Ka ya.length La]] w fun e w' => e = .returned (.tuple #[.string r1, .int .i64 r2]) ∧ Below w.heap.size w w' := by
 have hu24 := Tryd.underlying24
 have xb := aM_ hr0_1
 have Xb := aM_ hc0_1
 clear hr0_1 hc0_1
 have HB := aM_ (Below.refl w.heap.size w)
 have H : ((database_Check.f k la ya).bind fun t => (if t = 0 then (if ya.length = 0 then (if la.size + 1 ≤ 140737488355328 then some (la ++ (⟨#[10]⟩ : ByteArray), 0) else none) else none) else some ((⟨#[]⟩ : ByteArray), t))) = some (r1, r2) := h
 clear h
 replace H := Option.bind_eq_some_iff.mp H
 obtain ⟨yb, Cb, H⟩ := H
 have A3 := aM_ Cb
 clear Cb
 by_cases c4 : yb = 0
 rotate_left
 ·rw [if_neg c4] at H
  simp only [Option.some.injEq, Prod.mk.injEq] at H
  obtain ⟨rfl, rfl⟩ := H
  have Jb : (yb == 0) = false := by simpa using c4
  have Be : (yb != 0) = true := by simpa using c4
  go_enter Tryd.func32, Tryd.ntmps32
  go_wp2_with (first | ((with_reducible refine gate_dst (N := 1) rfl ?_); refine bE_ 1 24 #[.string la, .slice Ka ya.length La] ?_; intro Na hg w8 hbox hb; have Xa : w8.cell? ⟨Na, 0, none⟩ = some (.string la) := (blk_cell hbox 0).trans rfl; have Ya : w8.cell? ⟨Na, 1, none⟩ = some (.slice Ka ya.length La) := (blk_cell hbox 1).trans rfl; have Za := blk_frozen hbox 0; have ab := blk_frozen hbox 1; have HB1 := aM_ (below_step HB.out hb); have BK := aM_ hbox; have GW := aM_ ((by rw [hg]; exact Nat.le_refl _) : w.heap.size ≤ Na); clear hbox hb hg) | ((with_reducible refine gate_callee (f := 10) rfl ?_); refine gC_ (some 9) 10 #[.agg #[.string la, .slice Ka ya.length La]] Tryd.func10 ?_; (refine (database_Check.calls k la Ka La ya yb w8 ?side1 ?side2 A3.out).mono ?_); (case side1 => exact Kd.C_below xb.out HB1.out); (case side2 => exact Xb.out); rintro e w9 ⟨rfl, hb⟩; refine ⟨_, rfl, ?_⟩; have rb := aM_ (blk_below BK.out hb); have HB2 := aM_ (below_step HB1.out hb); clear hb Xa Ya Za ab; obtain ⟨Xa, Ya⟩ := kC2_ rb.out; obtain ⟨Za, ab⟩ := kZ2_ rb.out))
  go_ret2
  exact ⟨by first | rfl | (simp [*]; done), HB2.out⟩
 rw [if_pos c4] at H
 by_cases c5 : ya.length = 0
 rotate_left
 ·rw [if_neg c5] at H; cases H
 rw [if_pos c5] at H
 by_cases c6 : la.size + 1 ≤ 140737488355328
 rotate_left
 ·rw [if_neg c6] at H; cases H
 rw [if_pos c6] at H
 simp only [Option.some.injEq, Prod.mk.injEq] at H
 obtain ⟨rfl, rfl⟩ := H
 subst c4
 obtain rfl : ya = [] := List.eq_nil_of_length_eq_zero c5
 clear c5
 have ce : Aside0 (Kd.C k35 w Ka 0 []) := ⟨xb.out⟩
 have de : Aside0 (0 ≤ La) := ⟨Nat.zero_le _⟩
 clear xb Xb
 show Calls Tryd.prog 32 #[.agg #[.string la, .slice Ka 0 La]] w fun e w' => e = .returned (.tuple #[.string (la ++ (⟨#[10]⟩ : ByteArray)), .int .i64 0]) ∧ Below w.heap.size w w'
 have Le : (9223372036854775807 < la.size + 1) = False := eq_false (by omega)
 have hs1 : (la ++ (⟨#[10]⟩ : ByteArray)).size = la.size + 1 := by rw [ByteArray.size_append]; rfl
 go_enter Tryd.func32, Tryd.ntmps32
 go_wp2_with (first | ((with_reducible refine gate_dst (N := 1) rfl ?_); refine bE_ 1 24 #[.string la, .slice Ka 0 La] ?_; intro Na hg w8 hbox hb; have Xa : w8.cell? ⟨Na, 0, none⟩ = some (.string la) := (blk_cell hbox 0).trans rfl; have Ya : w8.cell? ⟨Na, 1, none⟩ = some (.slice Ka 0 La) := (blk_cell hbox 1).trans rfl; have Za := blk_frozen hbox 0; have ab := blk_frozen hbox 1; have HB1 := aM_ (below_step HB.out hb); have BK := aM_ hbox; have GW := aM_ ((by rw [hg]; exact Nat.le_refl _) : w.heap.size ≤ Na); clear hbox hb hg) | ((with_reducible refine gate_callee (f := 10) rfl ?_); refine gC_ (some 9) 10 #[.agg #[.string la, .slice Ka 0 La]] Tryd.func10 ?_; (refine (database_Check.calls k la Ka La [] 0 w8 ?side1 ?side2 A3.out).mono ?_); (case side1 => exact Kd.C_below ce.out HB1.out); (case side2 => exact de.out); rintro e w9 ⟨rfl, hb⟩; refine ⟨_, rfl, ?_⟩; have rb := aM_ (blk_below BK.out hb); have HB2 := aM_ (below_step HB1.out hb); clear hb Xa Ya Za ab; obtain ⟨Xa, Ya⟩ := kC2_ rb.out; obtain ⟨Za, ab⟩ := kZ2_ rb.out) | ((with_reducible refine gate_dst (N := 5) rfl ?_); refine bE_ 5 78 #[.pointer none, .slice none 0 0] ?_; intro gB hgB wB hboxB hbB; have hc := aM_ (blk_below rb.out hbB); have HB3 := aM_ (below_step HB2.out hbB); have hlt : Aside0 (Na < gB) := ⟨by rw [hgB]; exact blk_lt rb.out⟩; have hGB : Aside0 (w.heap.size ≤ gB) := ⟨by rw [hgB]; exact below_size HB2.out⟩; have hIB : Aside0 (Lib.IsBuilder 78 5 gB gB [] wB) := ⟨Or.inl ⟨Nat.le_refl _, .slice none 0 0, hboxB, World.ownsRow_nil _ _ _ _, by simp [Value.ownBlock]⟩⟩; have hltB : Aside0 (gB < wB.heap.size) := ⟨blk_lt hboxB⟩; clear hgB hboxB hbB Xa Ya Za ab; obtain ⟨Xa, Ya⟩ := kC2_ hc.out; obtain ⟨Za, ab⟩ := kZ2_ hc.out) | ((with_reducible refine gate_callee (f := 55) rfl ?_); refine gC_ (some 16) 55 #[.pointer (some ⟨gB, 0, none⟩), .string (la ++ (⟨#[10]⟩ : ByteArray))] Tryd.func55 ?_; (with_reducible refine (Tryd.Builder_WriteString gB gB [] (la ++ (⟨#[10]⟩ : ByteArray)) _ hIB.out ?side1 ?side2).mono ?_); (case side1 => exact (by rw [hs1, List.length_nil, Nat.zero_add]; exact c6)); (case side2 => exact Nat.le_of_lt hltB.out); rintro e kb ⟨rfl, hbl, hb⟩; refine ⟨_, rfl, ?_⟩; have vc : Aside0 (kb.heap[Na]? = some (.cells #[.string la, .slice Ka 0 La] 24 (0, 0))) := ⟨(hb.block Na hlt.out).trans hc.out⟩; have HB4 := aM_ (below_weaken HB3.out hGB.out hb); have hIB4 : Aside0 (Lib.IsBuilder 78 5 gB gB (Lib.byteCells (la ++ (⟨#[10]⟩ : ByteArray)).data.toList) kb) := ⟨Or.inr (by rw [List.nil_append, Lib.strCells_eq] at hbl; exact hbl)⟩; have hlt4 : Aside0 (gB ≤ kb.heap.size) := ⟨Nat.le_of_lt (Nat.lt_of_lt_of_le hltB.out hb.size)⟩; clear hbl hb Xa Ya Za ab; obtain ⟨Xa, Ya⟩ := kC2_ vc.out; obtain ⟨Za, ab⟩ := kZ2_ vc.out) | ((with_reducible refine gate_callee (f := 57) rfl ?_); refine gC_ (some 29) 57 #[.pointer (some ⟨gB, 0, none⟩)] Tryd.func57 ?_; (with_reducible refine (Tryd.Builder_String_any gB gB (la ++ (⟨#[10]⟩ : ByteArray)).data.toList _ hIB4.out hlt4.out).mono ?_); rintro e wc ⟨rfl, hb⟩; refine ⟨_, rfl, ?_⟩; have HB5 := aM_ (below_weaken HB4.out hGB.out hb)))
 refine wp_loop_once ?_
 go_wp2_with (first | ((with_reducible refine gate_callee (f := 57) rfl ?_); refine gC_ (some 29) 57 #[.pointer (some ⟨gB, 0, none⟩)] Tryd.func57 ?_; (with_reducible refine (Tryd.Builder_String_any gB gB (la ++ (⟨#[10]⟩ : ByteArray)).data.toList _ hIB4.out hlt4.out).mono ?_); rintro e wc ⟨rfl, hb⟩; refine ⟨_, rfl, ?_⟩; have HB5 := aM_ (below_weaken HB4.out hGB.out hb)))
 go_ret2
 refine ⟨?_, HB5.out⟩
 have hq : (⟨(la.data.toList ++ [10]).toArray⟩ : ByteArray) = la ++ (⟨#[10]⟩ : ByteArray) := by
  apply Go.WideShapes.bytes_inj
  simp
 rw [hq]
 rfl

/-! ### kerbsuitelaw12_awake: function 7 -/
def kerbsuitelaw12_awake.f (k : Nat)  : Option (Bool) := (database_Dump.f k (⟨#[82]⟩ : ByteArray) ([] : List (S35))).bind fun lb => ((kerbsuitedata_Long.f 1).bind fun ra => ((database_Add.f k (⟨#[82]⟩ : ByteArray) ([] : List (S35)) (⟨#[97]⟩ : ByteArray) (⟨#[]⟩ : ByteArray) ra 0 0 0 0 0 0).bind fun ta => ((database_Find.f k ta.1 ta.2.1 (⟨#[97]⟩ : ByteArray) (⟨#[]⟩ : ByteArray)).bind fun xa => (if lb.2 = 0 then (if lb.1.toList = ([82, 10] : List UInt8) then (if ta.2.2 = 0 then (if xa.2 = 0 then (if xa.1 = 0 then (some ((ta.2.1.length : Int) == 1)) else (some false)) else (some false)) else (some false)) else (some false)) else (some false)))))
set_option maxHeartbeats 8000000 in
set_option maxRecDepth 100000 in
theorem kerbsuitelaw12_awake.calls (k : Nat)  (r : Bool) (w : World) (h : kerbsuitelaw12_awake.f k  = some r) :
  Calls Tryd.prog 7 #[] w fun e w' => e = .returned (.bool r) ∧ Below w.heap.size w w' := by
 have hu24 := Tryd.underlying24
 have hu35 := Tryd.underlying35
 have HB := aM_ (Below.refl w.heap.size w)
 have H : ((database_Dump.f k (⟨#[82]⟩ : ByteArray) ([] : List (S35))).bind fun lb => ((kerbsuitedata_Long.f 1).bind fun ra => ((database_Add.f k (⟨#[82]⟩ : ByteArray) ([] : List (S35)) (⟨#[97]⟩ : ByteArray) (⟨#[]⟩ : ByteArray) ra 0 0 0 0 0 0).bind fun ta => ((database_Find.f k ta.1 ta.2.1 (⟨#[97]⟩ : ByteArray) (⟨#[]⟩ : ByteArray)).bind fun xa => (if lb.2 = 0 then (if lb.1.toList = ([82, 10] : List UInt8) then (if ta.2.2 = 0 then (if xa.2 = 0 then (if xa.1 = 0 then (some ((ta.2.1.length : Int) == 1)) else (some false)) else (some false)) else (some false)) else (some false)) else (some false)))))) = some r := h
 clear h
 replace H := Option.bind_eq_some_iff.mp H
 obtain ⟨⟨Ba, Ca⟩, xc, H⟩ := H
 replace H : ((kerbsuitedata_Long.f 1).bind fun ra => ((database_Add.f k (⟨#[82]⟩ : ByteArray) ([] : List (S35)) (⟨#[97]⟩ : ByteArray) (⟨#[]⟩ : ByteArray) ra 0 0 0 0 0 0).bind fun ta => ((database_Find.f k ta.1 ta.2.1 (⟨#[97]⟩ : ByteArray) (⟨#[]⟩ : ByteArray)).bind fun xa => (if Ca = 0 then (if Ba.toList = ([82, 10] : List UInt8) then (if ta.2.2 = 0 then (if xa.2 = 0 then (if xa.1 = 0 then (some ((ta.2.1.length : Int) == 1)) else (some false)) else (some false)) else (some false)) else (some false)) else (some false))))) = some r := H
 have A1 := aM_ xc
 clear xc
 replace H := Option.bind_eq_some_iff.mp H
 obtain ⟨ra, Db, H⟩ := H
 replace H : ((database_Add.f k (⟨#[82]⟩ : ByteArray) ([] : List (S35)) (⟨#[97]⟩ : ByteArray) (⟨#[]⟩ : ByteArray) ra 0 0 0 0 0 0).bind fun ta => ((database_Find.f k ta.1 ta.2.1 (⟨#[97]⟩ : ByteArray) (⟨#[]⟩ : ByteArray)).bind fun xa => (if Ca = 0 then (if Ba.toList = ([82, 10] : List UInt8) then (if ta.2.2 = 0 then (if xa.2 = 0 then (if xa.1 = 0 then (some ((ta.2.1.length : Int) == 1)) else (some false)) else (some false)) else (some false)) else (some false)) else (some false)))) = some r := H
 have A2 := aM_ Db
 clear Db
 replace H := Option.bind_eq_some_iff.mp H
 obtain ⟨⟨sa, ja, Ma⟩, Cb, H⟩ := H
 replace H : ((database_Find.f k sa ja (⟨#[97]⟩ : ByteArray) (⟨#[]⟩ : ByteArray)).bind fun xa => (if Ca = 0 then (if Ba.toList = ([82, 10] : List UInt8) then (if Ma = 0 then (if xa.2 = 0 then (if xa.1 = 0 then (some ((ja.length : Int) == 1)) else (some false)) else (some false)) else (some false)) else (some false)) else (some false))) = some r := H
 have A3 := aM_ Cb
 clear Cb
 replace H := Option.bind_eq_some_iff.mp H
 obtain ⟨⟨Pa, Qa⟩, yc, H⟩ := H
 replace H : (if Ca = 0 then (if Ba.toList = ([82, 10] : List UInt8) then (if Ma = 0 then (if Qa = 0 then (if Pa = 0 then (some ((ja.length : Int) == 1)) else (some false)) else (some false)) else (some false)) else (some false)) else (some false)) = some r := H
 have A4 := aM_ yc
 clear yc
 by_cases c5 : Ca = 0
 rotate_left
 ·rw [if_neg c5] at H
  have Bb : (Ca == 0) = false := beq_eq_false_iff_ne.mpr c5
  have Bc : (Ca != 0) = true := bne_iff_ne.mpr c5
  obtain rfl := Option.some.inj H
  go_enter Tryd.func7, Tryd.ntmps7
  go_wp2_with (first | ((with_reducible refine gate_callee (f := 32) rfl ?_); refine goesL_ (some 9) rfl rfl Tryd.func32 (by kernel_rfl) rfl #[.agg #[.string (⟨#[82]⟩ : ByteArray), .slice none 0 0]] rfl aR_ ?_; (refine (database_Dump.calls k (⟨#[82]⟩ : ByteArray) _ _ ([] : List (S35)) Ba Ca _ ?side1 ?side2 A1.out).mono ?_); (case side1 => exact Kd.C_nil _ _); (case side2 => exact Nat.le_refl _); rintro e Yb ⟨rfl, hb⟩; refine ⟨_, rfl, ?_⟩; replace HB := aM_ (below_step (bk_ HB.out) hb); clear hb) | ((with_reducible refine gate_callee (f := 13) rfl ?_); refine gC_ (some 14) 13 #[.int .i64 1] Tryd.func13 ?_; (with_reducible refine (kerbsuitedata_Long.calls 1 ra _ A2.out).mono ?_); rintro e w' ⟨rfl, ⟨nd, rfl⟩⟩; refine ⟨_, rfl, ?_⟩; (try (rw [drewN_self Yb]; generalize hq_ : World.drewN Yb _ = Yb; have Da : Aside0 (Below w.heap.size w Yb) := ⟨by rw [← hq_]; exact (bk_ HB.out)⟩; clear HB hq_; have HB := Da; clear Da))) | ((with_reducible refine gate_callee (f := 25) rfl ?_); refine goesL_ (some 16) rfl rfl Tryd.func25 (by kernel_rfl) rfl #[.agg #[.string (⟨#[82]⟩ : ByteArray), .slice none 0 0], .agg #[.string (⟨#[97]⟩ : ByteArray), .string (⟨#[]⟩ : ByteArray), .int .u64 ra, .int .i64 0, .int .i64 0, .int .i64 0, .int .i64 0, .int .i64 0, .int .i64 0]] rfl aR_ ?_; (refine (database_Add.calls k (⟨#[82]⟩ : ByteArray) _ _ ([] : List (S35)) (⟨#[97]⟩ : ByteArray) (⟨#[]⟩ : ByteArray) ra 0 0 0 0 0 0 sa ja Ma _ ?side1 ?side2 A3.out).mono ?_); (case side1 => exact Kd.C_nil _ _); (case side2 => exact Nat.le_refl _); rintro e Me ⟨tb, rfl, Ea, hb⟩; refine ⟨_, rfl, ?_⟩; have aa := aM_ (Kd.R_lower Ea (below_size (bk_ HB.out))); replace HB := aM_ (below_step (bk_ HB.out) hb); clear hb Ea) | ((with_reducible refine gate_dst (N := 3) rfl ?_); (try (refine gate_guard (by rfl) ?_; dsimp only)); refine bE_ 3 24 #[.string (⟨#[]⟩ : ByteArray), .slice none 0 0] ?_; intro Ha hg Ne hbox hb; replace aa := aM_ (Kd.R_below (bk_ aa.out) hb); have ba := aM_ (hbox); have mb := aM_ (gB_ hg HB.out); have nb := aM_ (gB_ hg HB.out); replace HB := aM_ (below_step (bk_ HB.out) hb); clear hb hbox hg; obtain ⟨Xc, Yc⟩ := kC2_ ba.out; obtain ⟨Zc, ad⟩ := kZ2_ ba.out; obtain ⟨ic, Kb, Cc⟩ := Kd.R_slice aa.out; subst Cc) | ((with_reducible refine gate_callee (f := 18) rfl ?_); refine gC_ (some 21) 18 #[.agg #[.string sa, .slice ic ja.length Kb], .string (⟨#[97]⟩ : ByteArray), .string (⟨#[]⟩ : ByteArray)] Tryd.func18 ?_; (with_reducible refine (database_Find.calls k sa _ _ ja (⟨#[97]⟩ : ByteArray) (⟨#[]⟩ : ByteArray) Pa Qa _ ?side1 ?side2 A4.out).mono ?_); (case side1 => refine (Kd.R_reads' (e := 35) (base := w.heap.size) (ok := fun k_ => True) (n := ja.length) (c := Kb) ?_).2.2; exact (by refine bk_ ?_; exact (Kd.R_mono (rF_ (rF_ (Kd.R_types aa.out ba.out (by decide)))) (fun _ h_ => h_.1)))); (case side2 => exact (Kd.R_reads' aa.out).2.1); rintro e Oe ⟨rfl, hb⟩; refine ⟨_, rfl, ?_⟩; replace aa := aM_ (Kd.R_below (by refine bk_ ?_; exact (Kd.R_mono (rF_ (rF_ (Kd.R_types aa.out ba.out (by decide)))) (fun _ h_ => h_.1))) hb); replace ba := aM_ (blk_below (g := Ha) (o := .cells #[.string sa, .slice ic ja.length Kb] 24 (0, 0)) (by exact puts_ ba.out) hb); replace HB := aM_ (below_step hB_ hb); clear hb))
  go_ret
  exact ⟨eW_, hB_⟩
 rw [if_pos c5] at H
 have Bb : (Ca == 0) = true := beq_iff_eq.mpr c5
 have Bc : (Ca != 0) = false := bne_eq_false_iff_eq.mpr c5
 clear c5
 by_cases c6 : Ba.toList = ([82, 10] : List UInt8)
 rotate_left
 ·rw [if_neg c6] at H
  have Dc : (Ba.toList == ([82, 10] : List UInt8)) = false := beq_eq_false_iff_ne.mpr c6
  have Ec : (Ba.toList != ([82, 10] : List UInt8)) = true := bne_iff_ne.mpr c6
  obtain rfl := Option.some.inj H
  go_enter Tryd.func7, Tryd.ntmps7
  go_wp2_with (first | ((with_reducible refine gate_callee (f := 32) rfl ?_); refine goesL_ (some 9) rfl rfl Tryd.func32 (by kernel_rfl) rfl #[.agg #[.string (⟨#[82]⟩ : ByteArray), .slice none 0 0]] rfl aR_ ?_; (refine (database_Dump.calls k (⟨#[82]⟩ : ByteArray) _ _ ([] : List (S35)) Ba Ca _ ?side1 ?side2 A1.out).mono ?_); (case side1 => exact Kd.C_nil _ _); (case side2 => exact Nat.le_refl _); rintro e Zb ⟨rfl, hb⟩; refine ⟨_, rfl, ?_⟩; replace HB := aM_ (below_step (bk_ HB.out) hb); clear hb) | ((with_reducible refine gate_callee (f := 13) rfl ?_); refine gC_ (some 14) 13 #[.int .i64 1] Tryd.func13 ?_; (with_reducible refine (kerbsuitedata_Long.calls 1 ra _ A2.out).mono ?_); rintro e w' ⟨rfl, ⟨nd, rfl⟩⟩; refine ⟨_, rfl, ?_⟩; (try (rw [drewN_self Zb]; generalize hq_ : World.drewN Zb _ = Zb; have Da : Aside0 (Below w.heap.size w Zb) := ⟨by rw [← hq_]; exact (bk_ HB.out)⟩; clear HB hq_; have HB := Da; clear Da))) | ((with_reducible refine gate_callee (f := 25) rfl ?_); refine goesL_ (some 16) rfl rfl Tryd.func25 (by kernel_rfl) rfl #[.agg #[.string (⟨#[82]⟩ : ByteArray), .slice none 0 0], .agg #[.string (⟨#[97]⟩ : ByteArray), .string (⟨#[]⟩ : ByteArray), .int .u64 ra, .int .i64 0, .int .i64 0, .int .i64 0, .int .i64 0, .int .i64 0, .int .i64 0]] rfl aR_ ?_; (refine (database_Add.calls k (⟨#[82]⟩ : ByteArray) _ _ ([] : List (S35)) (⟨#[97]⟩ : ByteArray) (⟨#[]⟩ : ByteArray) ra 0 0 0 0 0 0 sa ja Ma _ ?side1 ?side2 A3.out).mono ?_); (case side1 => exact Kd.C_nil _ _); (case side2 => exact Nat.le_refl _); rintro e Pe ⟨tb, rfl, Ea, hb⟩; refine ⟨_, rfl, ?_⟩; have aa := aM_ (Kd.R_lower Ea (below_size (bk_ HB.out))); replace HB := aM_ (below_step (bk_ HB.out) hb); clear hb Ea) | ((with_reducible refine gate_dst (N := 3) rfl ?_); (try (refine gate_guard (by rfl) ?_; dsimp only)); refine bE_ 3 24 #[.string (⟨#[]⟩ : ByteArray), .slice none 0 0] ?_; intro Ha hg Qe hbox hb; replace aa := aM_ (Kd.R_below (bk_ aa.out) hb); have ba := aM_ (hbox); have mb := aM_ (gB_ hg HB.out); have nb := aM_ (gB_ hg HB.out); replace HB := aM_ (below_step (bk_ HB.out) hb); clear hb hbox hg; obtain ⟨bd, cd⟩ := kC2_ ba.out; obtain ⟨dd, ed⟩ := kZ2_ ba.out; obtain ⟨jc, Lb, Fc⟩ := Kd.R_slice aa.out; subst Fc) | ((with_reducible refine gate_callee (f := 18) rfl ?_); refine gC_ (some 21) 18 #[.agg #[.string sa, .slice jc ja.length Lb], .string (⟨#[97]⟩ : ByteArray), .string (⟨#[]⟩ : ByteArray)] Tryd.func18 ?_; (with_reducible refine (database_Find.calls k sa _ _ ja (⟨#[97]⟩ : ByteArray) (⟨#[]⟩ : ByteArray) Pa Qa _ ?side1 ?side2 A4.out).mono ?_); (case side1 => refine (Kd.R_reads' (e := 35) (base := w.heap.size) (ok := fun k_ => True) (n := ja.length) (c := Lb) ?_).2.2; exact (by refine bk_ ?_; exact (Kd.R_mono (rF_ (rF_ (Kd.R_types aa.out ba.out (by decide)))) (fun _ h_ => h_.1)))); (case side2 => exact (Kd.R_reads' aa.out).2.1); rintro e Re ⟨rfl, hb⟩; refine ⟨_, rfl, ?_⟩; replace aa := aM_ (Kd.R_below (by refine bk_ ?_; exact (Kd.R_mono (rF_ (rF_ (Kd.R_types aa.out ba.out (by decide)))) (fun _ h_ => h_.1))) hb); replace ba := aM_ (blk_below (g := Ha) (o := .cells #[.string sa, .slice jc ja.length Lb] 24 (0, 0)) (by exact puts_ ba.out) hb); replace HB := aM_ (below_step hB_ hb); clear hb))
  go_ret
  exact ⟨eW_, hB_⟩
 rw [if_pos c6] at H
 have Dc : (Ba.toList == ([82, 10] : List UInt8)) = true := beq_iff_eq.mpr c6
 have Ec : (Ba.toList != ([82, 10] : List UInt8)) = false := bne_eq_false_iff_eq.mpr c6
 clear c6
 by_cases c7 : Ma = 0
 rotate_left
 ·rw [if_neg c7] at H
  have kc : (Ma == 0) = false := beq_eq_false_iff_ne.mpr c7
  have Gc : (Ma != 0) = true := bne_iff_ne.mpr c7
  obtain rfl := Option.some.inj H
  go_enter Tryd.func7, Tryd.ntmps7
  go_wp2_with (first | ((with_reducible refine gate_callee (f := 32) rfl ?_); refine goesL_ (some 9) rfl rfl Tryd.func32 (by kernel_rfl) rfl #[.agg #[.string (⟨#[82]⟩ : ByteArray), .slice none 0 0]] rfl aR_ ?_; (refine (database_Dump.calls k (⟨#[82]⟩ : ByteArray) _ _ ([] : List (S35)) Ba Ca _ ?side1 ?side2 A1.out).mono ?_); (case side1 => exact Kd.C_nil _ _); (case side2 => exact Nat.le_refl _); rintro e ac ⟨rfl, hb⟩; refine ⟨_, rfl, ?_⟩; replace HB := aM_ (below_step (bk_ HB.out) hb); clear hb) | ((with_reducible refine gate_callee (f := 13) rfl ?_); refine gC_ (some 14) 13 #[.int .i64 1] Tryd.func13 ?_; (with_reducible refine (kerbsuitedata_Long.calls 1 ra _ A2.out).mono ?_); rintro e w' ⟨rfl, ⟨nd, rfl⟩⟩; refine ⟨_, rfl, ?_⟩; (try (rw [drewN_self ac]; generalize hq_ : World.drewN ac _ = ac; have Da : Aside0 (Below w.heap.size w ac) := ⟨by rw [← hq_]; exact (bk_ HB.out)⟩; clear HB hq_; have HB := Da; clear Da))) | ((with_reducible refine gate_callee (f := 25) rfl ?_); refine goesL_ (some 16) rfl rfl Tryd.func25 (by kernel_rfl) rfl #[.agg #[.string (⟨#[82]⟩ : ByteArray), .slice none 0 0], .agg #[.string (⟨#[97]⟩ : ByteArray), .string (⟨#[]⟩ : ByteArray), .int .u64 ra, .int .i64 0, .int .i64 0, .int .i64 0, .int .i64 0, .int .i64 0, .int .i64 0]] rfl aR_ ?_; (refine (database_Add.calls k (⟨#[82]⟩ : ByteArray) _ _ ([] : List (S35)) (⟨#[97]⟩ : ByteArray) (⟨#[]⟩ : ByteArray) ra 0 0 0 0 0 0 sa ja Ma _ ?side1 ?side2 A3.out).mono ?_); (case side1 => exact Kd.C_nil _ _); (case side2 => exact Nat.le_refl _); rintro e Se ⟨tb, rfl, Ea, hb⟩; refine ⟨_, rfl, ?_⟩; have aa := aM_ (Kd.R_lower Ea (below_size (bk_ HB.out))); replace HB := aM_ (below_step (bk_ HB.out) hb); clear hb Ea) | ((with_reducible refine gate_dst (N := 3) rfl ?_); (try (refine gate_guard (by rfl) ?_; dsimp only)); refine bE_ 3 24 #[.string (⟨#[]⟩ : ByteArray), .slice none 0 0] ?_; intro Ha hg Te hbox hb; replace aa := aM_ (Kd.R_below (bk_ aa.out) hb); have ba := aM_ (hbox); have mb := aM_ (gB_ hg HB.out); have nb := aM_ (gB_ hg HB.out); replace HB := aM_ (below_step (bk_ HB.out) hb); clear hb hbox hg; obtain ⟨fd, gd⟩ := kC2_ ba.out; obtain ⟨id, jd⟩ := kZ2_ ba.out; obtain ⟨lc, Mb, Hc⟩ := Kd.R_slice aa.out; subst Hc) | ((with_reducible refine gate_callee (f := 18) rfl ?_); refine gC_ (some 21) 18 #[.agg #[.string sa, .slice lc ja.length Mb], .string (⟨#[97]⟩ : ByteArray), .string (⟨#[]⟩ : ByteArray)] Tryd.func18 ?_; (with_reducible refine (database_Find.calls k sa _ _ ja (⟨#[97]⟩ : ByteArray) (⟨#[]⟩ : ByteArray) Pa Qa _ ?side1 ?side2 A4.out).mono ?_); (case side1 => refine (Kd.R_reads' (e := 35) (base := w.heap.size) (ok := fun k_ => True) (n := ja.length) (c := Mb) ?_).2.2; exact (by refine bk_ ?_; exact (Kd.R_mono (rF_ (rF_ (Kd.R_types aa.out ba.out (by decide)))) (fun _ h_ => h_.1)))); (case side2 => exact (Kd.R_reads' aa.out).2.1); rintro e Ue ⟨rfl, hb⟩; refine ⟨_, rfl, ?_⟩; replace aa := aM_ (Kd.R_below (by refine bk_ ?_; exact (Kd.R_mono (rF_ (rF_ (Kd.R_types aa.out ba.out (by decide)))) (fun _ h_ => h_.1))) hb); replace ba := aM_ (blk_below (g := Ha) (o := .cells #[.string sa, .slice lc ja.length Mb] 24 (0, 0)) (by exact puts_ ba.out) hb); replace HB := aM_ (below_step hB_ hb); clear hb))
  go_ret
  exact ⟨eW_, hB_⟩
 rw [if_pos c7] at H
 have kc : (Ma == 0) = true := beq_iff_eq.mpr c7
 have Gc : (Ma != 0) = false := bne_eq_false_iff_eq.mpr c7
 clear c7
 by_cases c8 : Qa = 0
 ·rw [if_pos c8] at H
  have mc : (Qa == 0) = true := beq_iff_eq.mpr c8
  have Ic : (Qa != 0) = false := bne_eq_false_iff_eq.mpr c8
  clear c8
  by_cases c9 : Pa = 0
  ·rw [if_pos c9] at H
   have nc : (Pa == 0) = true := beq_iff_eq.mpr c9
   have oc : (Pa != 0) = false := bne_eq_false_iff_eq.mpr c9
   clear c9
   obtain rfl := Option.some.inj H
   go_enter Tryd.func7, Tryd.ntmps7
   go_wp2_with (first | ((with_reducible refine gate_callee (f := 32) rfl ?_); refine goesL_ (some 9) rfl rfl Tryd.func32 (by kernel_rfl) rfl #[.agg #[.string (⟨#[82]⟩ : ByteArray), .slice none 0 0]] rfl aR_ ?_; (refine (database_Dump.calls k (⟨#[82]⟩ : ByteArray) _ _ ([] : List (S35)) Ba Ca _ ?side1 ?side2 A1.out).mono ?_); (case side1 => exact Kd.C_nil _ _); (case side2 => exact Nat.le_refl _); rintro e kb ⟨rfl, hb⟩; refine ⟨_, rfl, ?_⟩; replace HB := aM_ (below_step (bk_ HB.out) hb); clear hb) | ((with_reducible refine gate_callee (f := 13) rfl ?_); refine gC_ (some 14) 13 #[.int .i64 1] Tryd.func13 ?_; (with_reducible refine (kerbsuitedata_Long.calls 1 ra _ A2.out).mono ?_); rintro e w' ⟨rfl, ⟨nd, rfl⟩⟩; refine ⟨_, rfl, ?_⟩; (try (rw [drewN_self kb]; generalize hq_ : World.drewN kb _ = kb; have Da : Aside0 (Below w.heap.size w kb) := ⟨by rw [← hq_]; exact (bk_ HB.out)⟩; clear HB hq_; have HB := Da; clear Da))) | ((with_reducible refine gate_callee (f := 25) rfl ?_); refine goesL_ (some 16) rfl rfl Tryd.func25 (by kernel_rfl) rfl #[.agg #[.string (⟨#[82]⟩ : ByteArray), .slice none 0 0], .agg #[.string (⟨#[97]⟩ : ByteArray), .string (⟨#[]⟩ : ByteArray), .int .u64 ra, .int .i64 0, .int .i64 0, .int .i64 0, .int .i64 0, .int .i64 0, .int .i64 0]] rfl aR_ ?_; (refine (database_Add.calls k (⟨#[82]⟩ : ByteArray) _ _ ([] : List (S35)) (⟨#[97]⟩ : ByteArray) (⟨#[]⟩ : ByteArray) ra 0 0 0 0 0 0 sa ja Ma _ ?side1 ?side2 A3.out).mono ?_); (case side1 => exact Kd.C_nil _ _); (case side2 => exact Nat.le_refl _); rintro e wc ⟨tb, rfl, Ea, hb⟩; refine ⟨_, rfl, ?_⟩; have aa := aM_ (Kd.R_lower Ea (below_size (bk_ HB.out))); replace HB := aM_ (below_step (bk_ HB.out) hb); clear hb Ea) | ((with_reducible refine gate_dst (N := 3) rfl ?_); (try (refine gate_guard (by rfl) ?_; dsimp only)); refine bE_ 3 24 #[.string (⟨#[]⟩ : ByteArray), .slice none 0 0] ?_; intro Ha hg Ve hbox hb; replace aa := aM_ (Kd.R_below (bk_ aa.out) hb); have ba := aM_ (hbox); have mb := aM_ (gB_ hg HB.out); have nb := aM_ (gB_ hg HB.out); replace HB := aM_ (below_step (bk_ HB.out) hb); clear hb hbox hg; obtain ⟨kd, ld⟩ := kC2_ ba.out; obtain ⟨md, od⟩ := kZ2_ ba.out; obtain ⟨pc, Nb, Jc⟩ := Kd.R_slice aa.out; subst Jc) | ((with_reducible refine gate_callee (f := 18) rfl ?_); refine gC_ (some 21) 18 #[.agg #[.string sa, .slice pc ja.length Nb], .string (⟨#[97]⟩ : ByteArray), .string (⟨#[]⟩ : ByteArray)] Tryd.func18 ?_; (with_reducible refine (database_Find.calls k sa _ _ ja (⟨#[97]⟩ : ByteArray) (⟨#[]⟩ : ByteArray) Pa Qa _ ?side1 ?side2 A4.out).mono ?_); (case side1 => refine (Kd.R_reads' (e := 35) (base := w.heap.size) (ok := fun k_ => True) (n := ja.length) (c := Nb) ?_).2.2; exact (by refine bk_ ?_; exact (Kd.R_mono (rF_ (rF_ (Kd.R_types aa.out ba.out (by decide)))) (fun _ h_ => h_.1)))); (case side2 => exact (Kd.R_reads' aa.out).2.1); rintro e ee ⟨rfl, hb⟩; refine ⟨_, rfl, ?_⟩; replace aa := aM_ (Kd.R_below (by refine bk_ ?_; exact (Kd.R_mono (rF_ (rF_ (Kd.R_types aa.out ba.out (by decide)))) (fun _ h_ => h_.1))) hb); replace ba := aM_ (blk_below (g := Ha) (o := .cells #[.string sa, .slice pc ja.length Nb] 24 (0, 0)) (by exact puts_ ba.out) hb); replace HB := aM_ (below_step hB_ hb); clear hb; obtain ⟨pd, qd⟩ := kC2_ ba.out; obtain ⟨sd, td⟩ := kZ2_ ba.out))
   go_ret
   exact ⟨eW_, hB_⟩
  rw [if_neg c9] at H
  have nc : (Pa == 0) = false := beq_eq_false_iff_ne.mpr c9
  have oc : (Pa != 0) = true := bne_iff_ne.mpr c9
  obtain rfl := Option.some.inj H
  go_enter Tryd.func7, Tryd.ntmps7
  go_wp2_with (first | ((with_reducible refine gate_callee (f := 32) rfl ?_); refine goesL_ (some 9) rfl rfl Tryd.func32 (by kernel_rfl) rfl #[.agg #[.string (⟨#[82]⟩ : ByteArray), .slice none 0 0]] rfl aR_ ?_; (refine (database_Dump.calls k (⟨#[82]⟩ : ByteArray) _ _ ([] : List (S35)) Ba Ca _ ?side1 ?side2 A1.out).mono ?_); (case side1 => exact Kd.C_nil _ _); (case side2 => exact Nat.le_refl _); rintro e bc ⟨rfl, hb⟩; refine ⟨_, rfl, ?_⟩; replace HB := aM_ (below_step (bk_ HB.out) hb); clear hb) | ((with_reducible refine gate_callee (f := 13) rfl ?_); refine gC_ (some 14) 13 #[.int .i64 1] Tryd.func13 ?_; (with_reducible refine (kerbsuitedata_Long.calls 1 ra _ A2.out).mono ?_); rintro e w' ⟨rfl, ⟨nd, rfl⟩⟩; refine ⟨_, rfl, ?_⟩; (try (rw [drewN_self bc]; generalize hq_ : World.drewN bc _ = bc; have Da : Aside0 (Below w.heap.size w bc) := ⟨by rw [← hq_]; exact (bk_ HB.out)⟩; clear HB hq_; have HB := Da; clear Da))) | ((with_reducible refine gate_callee (f := 25) rfl ?_); refine goesL_ (some 16) rfl rfl Tryd.func25 (by kernel_rfl) rfl #[.agg #[.string (⟨#[82]⟩ : ByteArray), .slice none 0 0], .agg #[.string (⟨#[97]⟩ : ByteArray), .string (⟨#[]⟩ : ByteArray), .int .u64 ra, .int .i64 0, .int .i64 0, .int .i64 0, .int .i64 0, .int .i64 0, .int .i64 0]] rfl aR_ ?_; (refine (database_Add.calls k (⟨#[82]⟩ : ByteArray) _ _ ([] : List (S35)) (⟨#[97]⟩ : ByteArray) (⟨#[]⟩ : ByteArray) ra 0 0 0 0 0 0 sa ja Ma _ ?side1 ?side2 A3.out).mono ?_); (case side1 => exact Kd.C_nil _ _); (case side2 => exact Nat.le_refl _); rintro e We ⟨tb, rfl, Ea, hb⟩; refine ⟨_, rfl, ?_⟩; have aa := aM_ (Kd.R_lower Ea (below_size (bk_ HB.out))); replace HB := aM_ (below_step (bk_ HB.out) hb); clear hb Ea) | ((with_reducible refine gate_dst (N := 3) rfl ?_); (try (refine gate_guard (by rfl) ?_; dsimp only)); refine bE_ 3 24 #[.string (⟨#[]⟩ : ByteArray), .slice none 0 0] ?_; intro Ha hg Xe hbox hb; replace aa := aM_ (Kd.R_below (bk_ aa.out) hb); have ba := aM_ (hbox); have mb := aM_ (gB_ hg HB.out); have nb := aM_ (gB_ hg HB.out); replace HB := aM_ (below_step (bk_ HB.out) hb); clear hb hbox hg; obtain ⟨ud, vd⟩ := kC2_ ba.out; obtain ⟨wd, xd⟩ := kZ2_ ba.out; obtain ⟨qc, Ob, Kc⟩ := Kd.R_slice aa.out; subst Kc) | ((with_reducible refine gate_callee (f := 18) rfl ?_); refine gC_ (some 21) 18 #[.agg #[.string sa, .slice qc ja.length Ob], .string (⟨#[97]⟩ : ByteArray), .string (⟨#[]⟩ : ByteArray)] Tryd.func18 ?_; (with_reducible refine (database_Find.calls k sa _ _ ja (⟨#[97]⟩ : ByteArray) (⟨#[]⟩ : ByteArray) Pa Qa _ ?side1 ?side2 A4.out).mono ?_); (case side1 => refine (Kd.R_reads' (e := 35) (base := w.heap.size) (ok := fun k_ => True) (n := ja.length) (c := Ob) ?_).2.2; exact (by refine bk_ ?_; exact (Kd.R_mono (rF_ (rF_ (Kd.R_types aa.out ba.out (by decide)))) (fun _ h_ => h_.1)))); (case side2 => exact (Kd.R_reads' aa.out).2.1); rintro e Ye ⟨rfl, hb⟩; refine ⟨_, rfl, ?_⟩; replace aa := aM_ (Kd.R_below (by refine bk_ ?_; exact (Kd.R_mono (rF_ (rF_ (Kd.R_types aa.out ba.out (by decide)))) (fun _ h_ => h_.1))) hb); replace ba := aM_ (blk_below (g := Ha) (o := .cells #[.string sa, .slice qc ja.length Ob] 24 (0, 0)) (by exact puts_ ba.out) hb); replace HB := aM_ (below_step hB_ hb); clear hb))
  go_ret
  exact ⟨eW_, hB_⟩
 rw [if_neg c8] at H
 have mc : (Qa == 0) = false := beq_eq_false_iff_ne.mpr c8
 have Ic : (Qa != 0) = true := bne_iff_ne.mpr c8
 obtain rfl := Option.some.inj H
 go_enter Tryd.func7, Tryd.ntmps7
 go_wp2_with (first | ((with_reducible refine gate_callee (f := 32) rfl ?_); refine goesL_ (some 9) rfl rfl Tryd.func32 (by kernel_rfl) rfl #[.agg #[.string (⟨#[82]⟩ : ByteArray), .slice none 0 0]] rfl aR_ ?_; (refine (database_Dump.calls k (⟨#[82]⟩ : ByteArray) _ _ ([] : List (S35)) Ba Ca _ ?side1 ?side2 A1.out).mono ?_); (case side1 => exact Kd.C_nil _ _); (case side2 => exact Nat.le_refl _); rintro e cc ⟨rfl, hb⟩; refine ⟨_, rfl, ?_⟩; replace HB := aM_ (below_step (bk_ HB.out) hb); clear hb) | ((with_reducible refine gate_callee (f := 13) rfl ?_); refine gC_ (some 14) 13 #[.int .i64 1] Tryd.func13 ?_; (with_reducible refine (kerbsuitedata_Long.calls 1 ra _ A2.out).mono ?_); rintro e w' ⟨rfl, ⟨nd, rfl⟩⟩; refine ⟨_, rfl, ?_⟩; (try (rw [drewN_self cc]; generalize hq_ : World.drewN cc _ = cc; have Da : Aside0 (Below w.heap.size w cc) := ⟨by rw [← hq_]; exact (bk_ HB.out)⟩; clear HB hq_; have HB := Da; clear Da))) | ((with_reducible refine gate_callee (f := 25) rfl ?_); refine goesL_ (some 16) rfl rfl Tryd.func25 (by kernel_rfl) rfl #[.agg #[.string (⟨#[82]⟩ : ByteArray), .slice none 0 0], .agg #[.string (⟨#[97]⟩ : ByteArray), .string (⟨#[]⟩ : ByteArray), .int .u64 ra, .int .i64 0, .int .i64 0, .int .i64 0, .int .i64 0, .int .i64 0, .int .i64 0]] rfl aR_ ?_; (refine (database_Add.calls k (⟨#[82]⟩ : ByteArray) _ _ ([] : List (S35)) (⟨#[97]⟩ : ByteArray) (⟨#[]⟩ : ByteArray) ra 0 0 0 0 0 0 sa ja Ma _ ?side1 ?side2 A3.out).mono ?_); (case side1 => exact Kd.C_nil _ _); (case side2 => exact Nat.le_refl _); rintro e Ze ⟨tb, rfl, Ea, hb⟩; refine ⟨_, rfl, ?_⟩; have aa := aM_ (Kd.R_lower Ea (below_size (bk_ HB.out))); replace HB := aM_ (below_step (bk_ HB.out) hb); clear hb Ea) | ((with_reducible refine gate_dst (N := 3) rfl ?_); (try (refine gate_guard (by rfl) ?_; dsimp only)); refine bE_ 3 24 #[.string (⟨#[]⟩ : ByteArray), .slice none 0 0] ?_; intro Ha hg af hbox hb; replace aa := aM_ (Kd.R_below (bk_ aa.out) hb); have ba := aM_ (hbox); have mb := aM_ (gB_ hg HB.out); have nb := aM_ (gB_ hg HB.out); replace HB := aM_ (below_step (bk_ HB.out) hb); clear hb hbox hg; obtain ⟨yd, zd⟩ := kC2_ ba.out; obtain ⟨Ad, Bd⟩ := kZ2_ ba.out; obtain ⟨rc, Pb, Lc⟩ := Kd.R_slice aa.out; subst Lc) | ((with_reducible refine gate_callee (f := 18) rfl ?_); refine gC_ (some 21) 18 #[.agg #[.string sa, .slice rc ja.length Pb], .string (⟨#[97]⟩ : ByteArray), .string (⟨#[]⟩ : ByteArray)] Tryd.func18 ?_; (with_reducible refine (database_Find.calls k sa _ _ ja (⟨#[97]⟩ : ByteArray) (⟨#[]⟩ : ByteArray) Pa Qa _ ?side1 ?side2 A4.out).mono ?_); (case side1 => refine (Kd.R_reads' (e := 35) (base := w.heap.size) (ok := fun k_ => True) (n := ja.length) (c := Pb) ?_).2.2; exact (by refine bk_ ?_; exact (Kd.R_mono (rF_ (rF_ (Kd.R_types aa.out ba.out (by decide)))) (fun _ h_ => h_.1)))); (case side2 => exact (Kd.R_reads' aa.out).2.1); rintro e bf ⟨rfl, hb⟩; refine ⟨_, rfl, ?_⟩; replace aa := aM_ (Kd.R_below (by refine bk_ ?_; exact (Kd.R_mono (rF_ (rF_ (Kd.R_types aa.out ba.out (by decide)))) (fun _ h_ => h_.1))) hb); replace ba := aM_ (blk_below (g := Ha) (o := .cells #[.string sa, .slice rc ja.length Pb] 24 (0, 0)) (by exact puts_ ba.out) hb); replace HB := aM_ (below_step hB_ hb); clear hb))
 go_ret
 exact ⟨eW_, hB_⟩

/-! ### kerbsuitedata_Realms: function 58 -/
def kerbsuitedata_Realms.f  : Option (List ByteArray) := some (([(⟨#[65, 84, 72]⟩ : ByteArray), (⟨#[66, 79, 83]⟩ : ByteArray), (⟨#[67, 65, 77]⟩ : ByteArray)] : List ByteArray))
set_option maxHeartbeats 8000000 in
set_option maxRecDepth 100000 in
theorem kerbsuitedata_Realms.calls  (r : List ByteArray) (w : World) (h : kerbsuitedata_Realms.f  = some r) :
  Calls Tryd.prog 58 #[] w fun e w' => ∃ zc : Value, e = .returned (zc) ∧ Kd.R Kd.string 9 w' w.heap.size (fun _ => True) zc r ∧ Below w.heap.size w w' := by
 have HB := aM_ (Below.refl w.heap.size w)
 have H : (some (([(⟨#[65, 84, 72]⟩ : ByteArray), (⟨#[66, 79, 83]⟩ : ByteArray), (⟨#[67, 65, 77]⟩ : ByteArray)] : List ByteArray))) = some r := h
 clear h
 obtain ⟨Mc, hy174⟩ : ∃ y_ : List ByteArray, y_ = (([(⟨#[65, 84, 72]⟩ : ByteArray), (⟨#[66, 79, 83]⟩ : ByteArray), (⟨#[67, 65, 77]⟩ : ByteArray)] : List ByteArray)) := ⟨_, rfl⟩
 replace H : (some Mc) = some r := by first | (rw [hy174]; with_reducible exact H) | (have H2_ := (Option.bind_some _ _).symm.trans H; rw [hy174]; with_reducible exact H2_) | (have H2_ := (Option.bind_some _ _).symm.trans H; with_reducible exact H2_) | with_reducible exact H | (rw [hy174]; exact H) | exact H
 have Ny174 := aM_ hy174
 clear hy174
 obtain rfl := Option.some.inj H
 go_enter Tryd.func58, Tryd.ntmps58
 go_wp2_with (first | ((with_reducible refine gate_dst (N := 1) rfl ?_); refine Kd.R_lit Kd.string _ 9 ?hg (N := 1) ?hd (xs := ([(⟨#[65, 84, 72]⟩ : ByteArray), (⟨#[66, 79, 83]⟩ : ByteArray), (⟨#[67, 65, 77]⟩ : ByteArray)] : List ByteArray)) (inner := [.string (⟨#[65, 84, 72]⟩ : ByteArray), .string (⟨#[66, 79, 83]⟩ : ByteArray), .string (⟨#[67, 65, 77]⟩ : ByteArray)]) (ok := fun _ => True) (okp := fun _ => True) ?hr ?hp (fun _ hk => hk) trivial (Below.refl _ _) (Nat.le_refl _) (by simp) ?_; (case hd => rfl); (case hg => rfl); (case hr => first | (go_simp; done) | (go_simp; rfl)); (case hp => exact (Reps.one (show Kd.M Kd.string _ _ _ (⟨#[65, 84, 72]⟩ : ByteArray) [.string (⟨#[65, 84, 72]⟩ : ByteArray)] from rfl) (Reps.one (show Kd.M Kd.string _ _ _ (⟨#[66, 79, 83]⟩ : ByteArray) [.string (⟨#[66, 79, 83]⟩ : ByteArray)] from rfl) (Reps.one (show Kd.M Kd.string _ _ _ (⟨#[67, 65, 77]⟩ : ByteArray) [.string (⟨#[67, 65, 77]⟩ : ByteArray)] from rfl) (Reps.none _ _))))); intro De w1 Eb hb hg_ hnew_; clear hg_ hnew_; (first | rw [← Ny174.out] at Eb | (simp only [Int.reduceToNat] at Eb; rw [← Ny174.out] at Eb)); have tc := aM_ (Kd.R_lower Eb (below_size (bk_ HB.out))); replace HB := aM_ (below_step (bk_ HB.out) hb); clear hb Eb))
 go_ret
 exact ⟨_, eW_, by refine bk_ ?_; exact tc.out, hB_⟩

/-! ### kerbsuitedata_Realm: function 33 -/
def kerbsuitedata_Realm.f (a0 : Int) : Option (ByteArray) := (kerbsuitedata_Realms.f).bind fun Ia => (if 0 ≤ (Int.tmod a0 3) then (if (Int.tmod a0 3) < (Ia.length : Int) then (some (rdOf ByteArray.empty Ia (Int.tmod a0 3))) else (none)) else (none))
set_option maxHeartbeats 8000000 in
set_option maxRecDepth 100000 in
theorem kerbsuitedata_Realm.calls (a0 : Int) (r : ByteArray) (w : World) (h : kerbsuitedata_Realm.f a0 = some r) :
  Calls Tryd.prog 33 #[.int .i64 a0] w fun e w' => e = .returned (.string r) ∧ Below w.heap.size w w' := by
 have HB := aM_ (Below.refl w.heap.size w)
 have H : ((kerbsuitedata_Realms.f).bind fun Ia => (if 0 ≤ (Int.tmod a0 3) then (if (Int.tmod a0 3) < (Ia.length : Int) then (some (rdOf ByteArray.empty Ia (Int.tmod a0 3))) else (none)) else (none))) = some r := h
 clear h
 replace H := Option.bind_eq_some_iff.mp H
 obtain ⟨Ia, Db, H⟩ := H
 replace H : (if 0 ≤ (Int.tmod a0 3) then (if (Int.tmod a0 3) < (Ia.length : Int) then (some (rdOf ByteArray.empty Ia (Int.tmod a0 3))) else (none)) else (none)) = some r := H
 have A2 := aM_ Db
 clear Db
 obtain ⟨ib, hji3⟩ : ∃ j_ : Int, (Int.tmod a0 3) = j_ := ⟨_, rfl⟩
 replace H : (if 0 ≤ (ib) then (if (ib) < (Ia.length : Int) then (some (rdOf ByteArray.empty Ia (ib))) else (none)) else (none)) = some r := by first | (rw [hji3] at H; exact H) | (simp only [hji3] at H ⊢; exact H)
 (try rw [hji3] at A2)
 by_cases c4 : 0 ≤ (ib)
 ·rw [if_pos c4] at H
  have Jb : decide (0 ≤ (ib)) = true := decide_eq_true c4
  clear c4
  by_cases c5 : (ib) < (Ia.length : Int)
  ·rw [if_pos c5] at H
   have Bb : decide ((ib) < (Ia.length : Int)) = true := decide_eq_true c5
   clear c5
   obtain rfl := Option.some.inj H
   go_enter Tryd.func33, Tryd.ntmps33
   go_wp2_with (first | ((with_reducible refine gate_callee (f := 58) rfl ?_); refine gC_ (some 3) 58 #[] Tryd.func58 ?_; (with_reducible refine (kerbsuitedata_Realms.calls  Ia _ A2.out).mono ?_); rintro e w6 ⟨Ee, rfl, Ea, hb⟩; refine ⟨_, rfl, ?_⟩; have dc := aM_ (Kd.R_lower Ea (below_size (bk_ HB.out))); replace HB := aM_ (below_step (bk_ HB.out) hb); clear hb Ea; obtain ⟨cf, df, fe⟩ := Kd.R_slice dc.out; subst fe; have Qb : 0 ≤ ((ib) : Int) := dT_; have Rb : (ib) < (Ia.length : Int) := dT_; obtain ⟨qe, Oc, Cd⟩ := Kd.at_string (Kd.R_reads' dc.out).2.2 (ib) Qb Rb; cases Oc; replace Qb := eq_true Qb; replace Rb := eq_true Rb))
   go_ret
   exact ⟨by first | rfl | (simp [errW_none, errW_some] <;> rfl) | (simp only [← hji3]; first | rfl | (simp [errW_none, errW_some] <;> rfl)) | (simp [*, errW_none, errW_some] <;> rfl), hB_⟩
  rw [if_neg c5] at H
  exact absurd H (by simp)
 rw [if_neg c4] at H
 exact absurd H (by simp)

/-! ### kerbsuitedata_User: function 16 -/
def kerbsuitedata_User.f (a0 : Int) : Option (ByteArray × ByteArray × ByteArray) := (some (([(⟨#[97, 110, 110]⟩ : ByteArray), (⟨#[98, 111, 98]⟩ : ByteArray), (⟨#[99, 97, 116]⟩ : ByteArray)] : List ByteArray) : List ByteArray)).bind fun na => (if 0 ≤ (Int.tmod a0 3) then (if (Int.tmod a0 3) < (na.length : Int) then ((kerbsuitedata_Realm.f (wrap64 (Int.tdiv a0 3))).bind fun wa => (some (rdOf ByteArray.empty na (Int.tmod a0 3), (⟨#[]⟩ : ByteArray), wa))) else (none)) else (none))
def kerbsuitedata_User.T1 : Bool × List (List Nat × List Nat) := (true,[([], []), ([], []), ([1], [1]), ([0, 2], [0, 2]), ([3], [3]), ([], []), ([5], [5]), ([6], [6]), ([4, 7], [4, 7]), ([8, 7, 0, 1, 2, 3, 4, 5, 6, 7, 8], [8])])
def kerbsuitedata_User.B1 : List Nat := [0, 0, 2, 7, 15, 0, 32, 96, 255, 511]
theorem kerbsuitedata_User.tab1 : rtab .any (opsOf Tryd.f16 1) = kerbsuitedata_User.T1 := by kernel_rfl
theorem kerbsuitedata_User.bits1 : waitsOk kerbsuitedata_User.T1.2 kerbsuitedata_User.B1 = true := by kernel_rfl
set_option maxHeartbeats 8000000 in
set_option maxRecDepth 100000 in
theorem kerbsuitedata_User.calls (a0 : Int) (r1 : ByteArray) (r2 : ByteArray) (r3 : ByteArray) (w : World) (h : kerbsuitedata_User.f a0 = some (r1, r2, r3)) :
  Calls Tryd.prog 16 #[.int .i64 a0] w fun e w' => e = .returned (.agg #[.string r1, .string r2, .string r3]) ∧ Below w.heap.size w w' := by
 have hu41 := Tryd.underlying41
 have HB := aM_ (Below.refl w.heap.size w)
 have H : ((some (([(⟨#[97, 110, 110]⟩ : ByteArray), (⟨#[98, 111, 98]⟩ : ByteArray), (⟨#[99, 97, 116]⟩ : ByteArray)] : List ByteArray) : List ByteArray)).bind fun na => (if 0 ≤ (Int.tmod a0 3) then (if (Int.tmod a0 3) < (na.length : Int) then ((kerbsuitedata_Realm.f (wrap64 (Int.tdiv a0 3))).bind fun wa => (some (rdOf ByteArray.empty na (Int.tmod a0 3), (⟨#[]⟩ : ByteArray), wa))) else (none)) else (none))) = some (r1, r2, r3) := h
 clear h
 obtain ⟨na, hy182⟩ : ∃ y_ : List ByteArray, y_ = (([(⟨#[97, 110, 110]⟩ : ByteArray), (⟨#[98, 111, 98]⟩ : ByteArray), (⟨#[99, 97, 116]⟩ : ByteArray)] : List ByteArray)) := ⟨_, rfl⟩
 replace H : (if 0 ≤ (Int.tmod a0 3) then (if (Int.tmod a0 3) < (na.length : Int) then ((kerbsuitedata_Realm.f (wrap64 (Int.tdiv a0 3))).bind fun wa => (some (rdOf ByteArray.empty na (Int.tmod a0 3), (⟨#[]⟩ : ByteArray), wa))) else (none)) else (none)) = some (r1, r2, r3) := by first | (rw [hy182]; with_reducible exact H) | (have H2_ := (Option.bind_some _ _).symm.trans H; rw [hy182]; with_reducible exact H2_) | (have H2_ := (Option.bind_some _ _).symm.trans H; with_reducible exact H2_) | with_reducible exact H | (rw [hy182]; exact H) | exact H
 have Ny182 := aM_ hy182
 clear hy182
 obtain ⟨ia, hji2⟩ : ∃ j_ : Int, (Int.tmod a0 3) = j_ := ⟨_, rfl⟩
 replace H : (if 0 ≤ (ia) then (if (ia) < (na.length : Int) then ((kerbsuitedata_Realm.f (wrap64 (Int.tdiv a0 3))).bind fun wa => (some (rdOf ByteArray.empty na (ia), (⟨#[]⟩ : ByteArray), wa))) else (none)) else (none)) = some (r1, r2, r3) := by first | (rw [hji2] at H; exact H) | (simp only [hji2] at H ⊢; exact H)
 by_cases c3 : 0 ≤ (ia)
 rotate_left
 ·rw [if_neg c3] at H
  exact absurd H (by simp)
 rw [if_pos c3] at H
 have Sb : decide (0 ≤ (ia)) = true := decide_eq_true c3
 clear c3
 by_cases c4 : (ia) < (na.length : Int)
 rotate_left
 ·rw [if_neg c4] at H
  exact absurd H (by simp)
 rw [if_pos c4] at H
 have Jb : decide ((ia) < (na.length : Int)) = true := decide_eq_true c4
 clear c4
 replace H := Option.bind_eq_some_iff.mp H
 obtain ⟨wa, Fb, H⟩ := H
 try dsimp only at H
 have A5 := aM_ Fb
 clear Fb
 simp only [Option.some.injEq, Prod.mk.injEq] at H
 obtain ⟨rfl, rfl, rfl⟩ := H
 go_enter Tryd.func16, Tryd.ntmps16
 try go_wp2_with (first | ((with_reducible refine gate_dst (N := 2) rfl ?_); refine bE_ 2 41 #[.string (⟨#[]⟩ : ByteArray), .string (⟨#[]⟩ : ByteArray), .string (⟨#[]⟩ : ByteArray)] ?_; intro bb hg w6 hbox hb; have fa := aM_ (hbox); have re := aM_ (gB_ hg HB.out); have se := aM_ (gB_ hg HB.out); replace HB := aM_ (below_step (bk_ HB.out) hb); clear hb hbox hg))
 have pi185 : (0 ≤ ((ia) : Int)) = True := eq_true dT_
 have qi185 : ((ia) < (na.length : Int)) = True := eq_true dT_
 replace fa := aM_ (blk_drew fa.out)
 replace HB := aM_ (bD_ HB.out)
 refine start_ (n := 10) (S := fun w' => True) (ds := []) (bo_ 10 0) (by kernel_rfl) rfl rfl trivial (fun hHeld => ?_); refine with_tabW kerbsuitedata_User.tab1 kerbsuitedata_User.bits1 (fun HT_ HW_ => ?_)
 generalize w6.drew = w7 at fa HB hHeld ⊢
 refine pU_ 1 (some 4) (bo_ 10 2) ?_
 refine pU_ 5 (some 8) (bo_ 10 34) ?_
 refine inv_at [0, 2, 3, 4, 6, 7, 8, 9] (fun he b a w' => ∃ (ua : Value) (da : Addr) (Fa : Value), a = putSel he b [(0, 3, ua), (2, 5, .int .i64 ia), (3, 6, Fa), (4, 7, .string (rdOf ByteArray.empty na (ia))), (6, 9, .int .i64 (wrap64 (Int.tdiv a0 3))), (7, 10, .string wa), (8, 11, .agg #[.string (rdOf ByteArray.empty na (ia)), .string (⟨#[]⟩ : ByteArray), .string wa])] ∧ (b 9 = false → w'.heap[bb]? = some (.cells #[.string (⟨#[]⟩ : ByteArray), .string (⟨#[]⟩ : ByteArray), .string (⟨#[]⟩ : ByteArray)] 41 (0, 0))) ∧ (Below w.heap.size w w') ∧ (b 0 = true → Kd.R Kd.string 9 w' w.heap.size (fun _ => True) ua na) ∧ (b 0 = true → ∃ c_, (ua : Value) = .slice (some da) na.length c_) ∧ (b 9 = true → w'.heap[bb]? = some (.cells #[.string (rdOf ByteArray.empty na (ia)), .string (⟨#[]⟩ : ByteArray), .string wa] 41 (0, 0))) ∧ (b 3 = true → (Fa : Value) = .pointer (some (da.add ((ia)).toNat)))) HT_.out HW_.out (by kernel_rfl) (by kernel_rfl) ?_ ?_ ?_
 ·exact ⟨.bool false,⟨0, 0, none⟩, .bool false,by simp only [putSel, Bool.false_eq_true,if_false], fun _ => fa.out, HB.out, fun h_ => absurd h_ (by decide), fun h_ => absurd h_ (by decide), fun h_ => absurd h_ (by decide), fun h_ => absurd h_ (by decide)⟩
 ·skip
  clear fa HB
  refine steps_cons ?_ ?_
  ·rintro b a w' ⟨ua, da, Fa, ha, ea, Q_HB, ga, ca, qa, va⟩ hb_ hon hoff
   refine ⟨_, rfl, fun K hK => ?_⟩
   replace ha := aM_ ha
   have fa := aM_ (ea (hoff 9 (by kernel_rfl)))
   have HB := aM_ Q_HB
   refine Kd.R_lit_step Kd.string _ 9 ?hg (N := 3) ?hd (xs := ([(⟨#[97, 110, 110]⟩ : ByteArray), (⟨#[98, 111, 98]⟩ : ByteArray), (⟨#[99, 97, 116]⟩ : ByteArray)] : List ByteArray)) (inner := [.string (⟨#[97, 110, 110]⟩ : ByteArray), .string (⟨#[98, 111, 98]⟩ : ByteArray), .string (⟨#[99, 97, 116]⟩ : ByteArray)]) (ok := fun _ => True) (okp := fun _ => True) ?hr ?hp (fun _ hk => hk) trivial (Below.refl _ _) (Nat.le_refl _) (by simp) ?_; (case hd => rfl); (case hg => rfl); (case hr => first | (go_simp; done) | (go_simp; rfl)); (case hp => exact (Reps.one (show Kd.M Kd.string _ _ _ (⟨#[97, 110, 110]⟩ : ByteArray) [.string (⟨#[97, 110, 110]⟩ : ByteArray)] from rfl) (Reps.one (show Kd.M Kd.string _ _ _ (⟨#[98, 111, 98]⟩ : ByteArray) [.string (⟨#[98, 111, 98]⟩ : ByteArray)] from rfl) (Reps.one (show Kd.M Kd.string _ _ _ (⟨#[99, 97, 116]⟩ : ByteArray) [.string (⟨#[99, 97, 116]⟩ : ByteArray)] from rfl) (Reps.none _ _)))))
   intro ua w8 Gb hb hg_ hnew_
   clear hg_ hnew_
   (first | rw [← Ny182.out] at Gb | (simp only [Int.reduceToNat] at Gb; rw [← Ny182.out] at Gb))
   have Oa := aM_ (Kd.R_lower Gb (below_size hB_))
   replace fa := aM_ (kG_ fa.out hb)
   replace HB := aM_ (below_step hB_ hb)
   clear hb Gb
   obtain ⟨Ge, Qc, Rc⟩ := Kd.R_slice Oa.out
   subst Rc
   obtain ⟨ado10, fo10, _⟩ := Kd.at_string (Kd.R_reads' Oa.out).2.2 0 (by decide) (by rw [Ny182.out]; simp)
   cases fo10
   refine hK.out _ _ ⟨.slice (some ado10) na.length Qc, ado10, Fa, (by rw [ha.out]; exact putSel_upk 0 hb_ rfl rfl rfl), fun _ => (bk_ fa.out), hB_, fun _ => (bk_ Oa.out), fun _ => ⟨_, rfl⟩, fun h0_ => absurd ((hoff 9 (by kernel_rfl)).symm.trans h0_) (by decide), fun h0_ => absurd ((hoff 3 (by kernel_rfl)).symm.trans h0_) (by decide)⟩
  refine steps_cons ?_ ?_
  ·rintro b a w' ⟨ua, da, Fa, ha, ea, Q_HB, ga, ca, qa, va⟩ hb_ hon hoff
   refine ⟨_, rfl, fun K hK => ?_⟩
   have e4 : a.tmps[4]? = some (.int .i64 a0) := by rw [ha]; exact (putSel_off rfl).trans rfl
   replace ha := aM_ ha
   have fa := aM_ (ea (hoff 9 (by kernel_rfl)))
   have HB := aM_ Q_HB
   refine value_ (w1 := w') (v := .int .i64 ia) (by rfl) rfl ?_ ?_
   ·go_simp
    (try simp only [i64_w])
    try rfl
   refine hK.out _ _ ⟨ua, da, Fa, (by rw [ha.out]; exact putSel_upk 1 hb_ rfl rfl rfl), ea, Q_HB, ga, ca, fun h0_ => absurd ((hoff 9 (by kernel_rfl)).symm.trans h0_) (by decide), fun h0_ => absurd ((hoff 3 (by kernel_rfl)).symm.trans h0_) (by decide)⟩
  refine steps_cons ?_ ?_
  ·rintro b a w' ⟨ua, da, Fa, ha, ea, Q_HB, ga, ca, qa, va⟩ hb_ hon hoff
   refine ⟨_, rfl, fun K hK => ?_⟩
   have e3 : a.tmps[3]? = some (ua) := by rw [ha]; exact putSel_on (e := (0, 3, ua)) 0 rfl rfl (hon 0 (by kernel_rfl)) rfl
   have e5 : a.tmps[5]? = some (.int .i64 ia) := by rw [ha]; exact putSel_on (e := (2, 5, .int .i64 ia)) 1 rfl rfl (hon 2 (by kernel_rfl)) rfl
   replace ha := aM_ ha
   have fa := aM_ (ea (hoff 9 (by kernel_rfl)))
   have HB := aM_ Q_HB
   have Oa := aM_ (ga (hon 0 (by kernel_rfl)))
   have HA_HO184 := aM_ (ca (hon 0 (by kernel_rfl)))
   obtain ⟨c_, hv_⟩ := HA_HO184.out
   rw [hv_] at e3
   refine value_ (w1 := w') (v := .pointer (some (da.add ((ia)).toNat))) (by rfl) rfl ?_ ?_
   ·go_simp
    (try simp only [i64_w])
    try rfl
   refine hK.out _ _ ⟨ua, da, (.pointer (some (da.add ((ia)).toNat))), (by rw [ha.out]; exact putSel_upk 2 hb_ rfl rfl rfl), ea, Q_HB, ga, ca, fun h0_ => absurd ((hoff 9 (by kernel_rfl)).symm.trans h0_) (by decide), fun _ => rfl⟩
  refine steps_cons ?_ ?_
  ·rintro b a w' ⟨ua, da, Fa, ha, ea, Q_HB, ga, ca, qa, va⟩ hb_ hon hoff
   refine ⟨_, rfl, fun K hK => ?_⟩
   have e6 : a.tmps[6]? = some (Fa) := by rw [ha]; exact putSel_on (e := (3, 6, Fa)) 2 rfl rfl (hon 3 (by kernel_rfl)) rfl
   rw [va (hon 3 (by kernel_rfl))] at e6
   replace ha := aM_ ha
   have fa := aM_ (ea (hoff 9 (by kernel_rfl)))
   have HB := aM_ Q_HB
   have Oa := aM_ (ga (hon 0 (by kernel_rfl)))
   have HA_HO184 := aM_ (ca (hon 0 (by kernel_rfl)))
   obtain ⟨c_, hv_⟩ := HA_HO184.out
   have hF_ := Oa.out
   rw [hv_] at hF_
   obtain ⟨ad_, ea_, hx_⟩ := Kd.at_string (Kd.R_reads' hF_).2.2 (ia) (of_eq_true pi185) (of_eq_true qi185)
   cases ea_
   refine value_ (w1 := w') (v := .string (rdOf ByteArray.empty na (ia))) (by rfl) rfl ?_ ?_
   ·go_simp
    (try simp only [i64_w])
    try rfl
   refine hK.out _ _ ⟨ua, da, Fa, (by rw [ha.out]; exact putSel_upk 3 hb_ rfl rfl rfl), ea, Q_HB, ga, ca, fun h0_ => absurd ((hoff 9 (by kernel_rfl)).symm.trans h0_) (by decide), va⟩
  refine steps_cons ?_ ?_
  ·rintro b a w' ⟨ua, da, Fa, ha, ea, Q_HB, ga, ca, qa, va⟩ hb_ hon hoff
   refine ⟨_, rfl, fun K hK => ?_⟩
   have e8 : a.tmps[8]? = some (.int .i64 a0) := by rw [ha]; exact (putSel_off rfl).trans rfl
   replace ha := aM_ ha
   have fa := aM_ (ea (hoff 9 (by kernel_rfl)))
   have HB := aM_ Q_HB
   refine value_ (w1 := w') (v := .int .i64 (wrap64 (Int.tdiv a0 3))) (by rfl) rfl ?_ ?_
   ·go_simp
    (try simp only [i64_w])
    try rfl
   refine hK.out _ _ ⟨ua, da, Fa, (by rw [ha.out]; exact putSel_upk 4 hb_ rfl rfl rfl), ea, Q_HB, ga, ca, fun h0_ => absurd ((hoff 9 (by kernel_rfl)).symm.trans h0_) (by decide), va⟩
  refine steps_cons ?_ ?_
  ·rintro b a w' ⟨ua, da, Fa, ha, ea, Q_HB, ga, ca, qa, va⟩ hb_ hon hoff
   refine ⟨_, rfl, fun K hK => ?_⟩
   have e9 : a.tmps[9]? = some (.int .i64 (wrap64 (Int.tdiv a0 3))) := by rw [ha]; exact putSel_on (e := (6, 9, .int .i64 (wrap64 (Int.tdiv a0 3)))) 4 rfl rfl (hon 6 (by kernel_rfl)) rfl
   replace ha := aM_ ha
   have fa := aM_ (ea (hoff 9 (by kernel_rfl)))
   have HB := aM_ Q_HB
   refine goes_ Tryd.func33 (by kernel_rfl) rfl #[.int .i64 (wrap64 (Int.tdiv a0 3))] (by rfl) rfl rfl (by first | (simp only [List.map_toArray, List.map_cons, List.map_nil, Act.eval, Array.getD_eq_getD_getElem?, Option.getD_some, e9]; done) | (simp only [List.map_toArray, List.map_cons, List.map_nil, Act.eval, Array.getD_eq_getD_getElem?, Option.getD_some, e9]; rfl)) ?_
   with_reducible refine (kerbsuitedata_Realm.calls (wrap64 (Int.tdiv a0 3)) wa _ A5.out).mono ?_
   rintro e w8 ⟨rfl, hb⟩
   refine ⟨_, rfl, ?_⟩
   have Da := aM_ (kG_ fa.out hb)
   have Ac := aM_ (below_step hB_ hb)
   have z_HO184 := fun (h0_ : b 0 = true) => (show Kd.R Kd.string 9 w8 w.heap.size (fun _ => True) ua na from by first | exact (Kd.R_below (by refine bk_ ?_; exact (ga h0_)) hb) | exact Kd.R_mono (Kd.R_below (by refine bk_ ?_; exact (ga h0_)) hb) (fun _ h_ => by first | trivial | exact h_ | exact h_.1))
   clear fa HB
   have fa := Da
   have HB := Ac
   clear Da Ac
   clear hb
   refine hK.out _ _ ⟨ua, da, Fa, (by rw [ha.out]; exact putSel_upk 5 hb_ rfl rfl rfl), fun _ => (bk_ fa.out), hB_, z_HO184, ca, fun h0_ => absurd ((hoff 9 (by kernel_rfl)).symm.trans h0_) (by decide), va⟩
  refine steps_cons ?_ ?_
  ·rintro b a w' ⟨ua, da, Fa, ha, ea, Q_HB, ga, ca, qa, va⟩ hb_ hon hoff
   refine ⟨_, rfl, fun K hK => ?_⟩
   have e7 : a.tmps[7]? = some (.string (rdOf ByteArray.empty na (ia))) := by rw [ha]; exact putSel_on (e := (4, 7, .string (rdOf ByteArray.empty na (ia)))) 3 rfl rfl (hon 4 (by kernel_rfl)) rfl
   have ef : a.tmps[10]? = some (.string wa) := by rw [ha]; exact putSel_on (e := (7, 10, .string wa)) 5 rfl rfl (hon 7 (by kernel_rfl)) rfl
   replace ha := aM_ ha
   have fa := aM_ (ea (hoff 9 (by kernel_rfl)))
   have HB := aM_ Q_HB
   have Oa := aM_ (ga (hon 0 (by kernel_rfl)))
   have HA_HO184 := aM_ (ca (hon 0 (by kernel_rfl)))
   refine value_ (w1 := w') (v := .agg #[.string (rdOf ByteArray.empty na (ia)), .string (⟨#[]⟩ : ByteArray), .string wa]) (by rfl) rfl ?_ ?_
   ·go_simp
    (try simp only [i64_w])
    try rfl
   refine hK.out _ _ ⟨ua, da, Fa, (by rw [ha.out]; exact putSel_upk 6 hb_ rfl rfl rfl), ea, Q_HB, ga, ca, fun h0_ => absurd ((hoff 9 (by kernel_rfl)).symm.trans h0_) (by decide), va⟩
  refine steps_cons ?_ ?_
  ·rintro b a w' ⟨ua, da, Fa, ha, ea, Q_HB, ga, ca, qa, va⟩ hb_ hon hoff
   refine ⟨_, rfl, fun K hK => ?_⟩
   have e2 : a.tmps[2]? = some (.pointer (some ⟨bb, 0, none⟩)) := by rw [ha]; exact (putSel_off rfl).trans rfl
   have ff : a.tmps[11]? = some (.agg #[.string (rdOf ByteArray.empty na (ia)), .string (⟨#[]⟩ : ByteArray), .string wa]) := by rw [ha]; exact putSel_on (e := (8, 11, .agg #[.string (rdOf ByteArray.empty na (ia)), .string (⟨#[]⟩ : ByteArray), .string wa])) 6 rfl rfl (hon 8 (by kernel_rfl)) rfl
   replace ha := aM_ ha
   have fa := aM_ (ea hb_)
   have HB := aM_ Q_HB
   have Oa := aM_ (ga (hon 0 (by kernel_rfl)))
   have HA_HO184 := aM_ (ca (hon 0 (by kernel_rfl)))
   obtain ⟨Sc, Tc⟩ := HA_HO184.out
   clear HA_HO184
   subst Tc
   have hs14 : w'.cell? ⟨bb, 0, none⟩ = some (.string (⟨#[]⟩ : ByteArray)) := bc_ fa.out 0
   have hfs14 := blk_frozen fa.out 0
   have hs15 : w'.cell? ⟨bb, 1, none⟩ = some (.string (⟨#[]⟩ : ByteArray)) := bc_ fa.out 1
   have hfs15 := blk_frozen fa.out 1
   have hs16 : w'.cell? ⟨bb, 2, none⟩ = some (.string (⟨#[]⟩ : ByteArray)) := bc_ fa.out 2
   have hfs16 := blk_frozen fa.out 2
   refine skip_ (w1 := ?_) (by rfl) rfl ?_ ?_
   rotate_left; (· go_simp; rfl)
   refine hK.out _ _ ⟨.slice (some da) na.length Sc, da, Fa, (by rw [ha.out]; exact putSel_none (v := undef) rfl), fun h0_ => absurd ((up_self b 9).symm.trans h0_) (by decide), hB_, fun _ => (by refine bk_ ?_; exact Kd.R_mono (rF_ (rF_ (rF_ (Kd.R_types Oa.out fa.out (by decide))))) (fun _ hk => trivial)), fun _ => ⟨_, rfl⟩, fun _ => (by exact puts_ fa.out), va⟩
  exact steps_nil
 rintro b a ee hall ⟨ua, da, Fa, ha, ea, Q_HB, ga, ca, qa, va⟩
 clear fa HB
 have hb0_ := hall 0 (by kernel_rfl)
 have hb2_ := hall 2 (by kernel_rfl)
 have hb3_ := hall 3 (by kernel_rfl)
 have hb4_ := hall 4 (by kernel_rfl)
 have hb6_ := hall 6 (by kernel_rfl)
 have hb7_ := hall 7 (by kernel_rfl)
 have hb8_ := hall 8 (by kernel_rfl)
 have hb9_ := hall 9 (by kernel_rfl)
 subst ha
 obtain rfl := va hb3_
 simp only [putSel, hb0_, hb2_, hb3_, hb4_, hb6_, hb7_, hb8_, hb9_, if_true,Act.put, sA_, sB_, sC_]
 clear ea
 have HB := aM_ Q_HB
 clear Q_HB
 have Oa := aM_ (ga hb0_)
 clear ga
 have HA_HO184 := aM_ (ca hb0_)
 clear ca
 have fa := aM_ (qa hb9_)
 clear qa
 clear hall hb0_ hb2_ hb3_ hb4_ hb6_ hb7_ hb8_ hb9_
 obtain ⟨Je, Uc⟩ := HA_HO184.out
 clear HA_HO184
 subst Uc
 try go_wp2
 refine bodyPost_ret (results_cell_row rfl _ _ bb 41 #[.string (rdOf ByteArray.empty na (ia)), .string (⟨#[]⟩ : ByteArray), .string wa] (0, 0) _ rfl (bk_ fa.out) Tryd.underlying41 rfl (by kernel_rfl)) rfl ?_
 exact ⟨by first | rfl | (simp [errW_none, errW_some] <;> rfl) | (simp only [← hji2]; first | rfl | (simp [errW_none, errW_some] <;> rfl)) | (simp [*, errW_none, errW_some] <;> rfl), hB_⟩

/-! ### kerbsuitedata_Service: function 17 -/
def kerbsuitedata_Service.f (a0 : Int) : Option (ByteArray × ByteArray × ByteArray) := (some (([(⟨(⟨#[109, 97, 105, 108]⟩ : ByteArray), (⟨#[]⟩ : ByteArray), (⟨#[]⟩ : ByteArray)⟩ : S41), (⟨(⟨#[110, 102, 115]⟩ : ByteArray), (⟨#[104, 111, 109, 101]⟩ : ByteArray), (⟨#[]⟩ : ByteArray)⟩ : S41), (⟨(⟨#[107, 114, 98, 116, 103, 116]⟩ : ByteArray), (⟨#[65, 84, 72]⟩ : ByteArray), (⟨#[]⟩ : ByteArray)⟩ : S41)] : List (S41)) : List (S41))).bind fun oa => (if 0 ≤ (Int.tmod a0 3) then (if (Int.tmod a0 3) < (oa.length : Int) then ((kerbsuitedata_Realm.f (wrap64 (Int.tdiv a0 3))).bind fun Ta => (some ((rd_T41 oa (Int.tmod a0 3)).f0, (rd_T41 oa (Int.tmod a0 3)).f1, Ta))) else (none)) else (none))
set_option maxHeartbeats 8000000 in
set_option maxRecDepth 100000 in
theorem kerbsuitedata_Service.calls (a0 : Int) (r1 : ByteArray) (r2 : ByteArray) (r3 : ByteArray) (w : World) (h : kerbsuitedata_Service.f a0 = some (r1, r2, r3)) :
  Calls Tryd.prog 17 #[.int .i64 a0] w fun e w' => e = .returned (.agg #[.string r1, .string r2, .string r3]) ∧ Below w.heap.size w w' := by
 have hu41 := Tryd.underlying41
 have HB := aM_ (Below.refl w.heap.size w)
 have H : ((some (([(⟨(⟨#[109, 97, 105, 108]⟩ : ByteArray), (⟨#[]⟩ : ByteArray), (⟨#[]⟩ : ByteArray)⟩ : S41), (⟨(⟨#[110, 102, 115]⟩ : ByteArray), (⟨#[104, 111, 109, 101]⟩ : ByteArray), (⟨#[]⟩ : ByteArray)⟩ : S41), (⟨(⟨#[107, 114, 98, 116, 103, 116]⟩ : ByteArray), (⟨#[65, 84, 72]⟩ : ByteArray), (⟨#[]⟩ : ByteArray)⟩ : S41)] : List (S41)) : List (S41))).bind fun oa => (if 0 ≤ (Int.tmod a0 3) then (if (Int.tmod a0 3) < (oa.length : Int) then ((kerbsuitedata_Realm.f (wrap64 (Int.tdiv a0 3))).bind fun Ta => (some ((rd_T41 oa (Int.tmod a0 3)).f0, (rd_T41 oa (Int.tmod a0 3)).f1, Ta))) else (none)) else (none))) = some (r1, r2, r3) := h
 clear h
 obtain ⟨oa, hy188⟩ : ∃ y_ : List (S41), y_ = (([(⟨(⟨#[109, 97, 105, 108]⟩ : ByteArray), (⟨#[]⟩ : ByteArray), (⟨#[]⟩ : ByteArray)⟩ : S41), (⟨(⟨#[110, 102, 115]⟩ : ByteArray), (⟨#[104, 111, 109, 101]⟩ : ByteArray), (⟨#[]⟩ : ByteArray)⟩ : S41), (⟨(⟨#[107, 114, 98, 116, 103, 116]⟩ : ByteArray), (⟨#[65, 84, 72]⟩ : ByteArray), (⟨#[]⟩ : ByteArray)⟩ : S41)] : List (S41))) := ⟨_, rfl⟩
 replace H : (if 0 ≤ (Int.tmod a0 3) then (if (Int.tmod a0 3) < (oa.length : Int) then ((kerbsuitedata_Realm.f (wrap64 (Int.tdiv a0 3))).bind fun Ta => (some ((rd_T41 oa (Int.tmod a0 3)).f0, (rd_T41 oa (Int.tmod a0 3)).f1, Ta))) else (none)) else (none)) = some (r1, r2, r3) := by first | (rw [hy188]; with_reducible exact H) | (have H2_ := (Option.bind_some _ _).symm.trans H; rw [hy188]; with_reducible exact H2_) | (have H2_ := (Option.bind_some _ _).symm.trans H; with_reducible exact H2_) | with_reducible exact H | (rw [hy188]; exact H) | exact H
 have Ny188 := aM_ hy188
 clear hy188
 obtain ⟨ia, hji2⟩ : ∃ j_ : Int, (Int.tmod a0 3) = j_ := ⟨_, rfl⟩
 replace H : (if 0 ≤ (ia) then (if (ia) < (oa.length : Int) then ((kerbsuitedata_Realm.f (wrap64 (Int.tdiv a0 3))).bind fun Ta => (some ((rd_T41 oa (ia)).f0, (rd_T41 oa (ia)).f1, Ta))) else (none)) else (none)) = some (r1, r2, r3) := by first | (rw [hji2] at H; exact H) | (simp only [hji2] at H ⊢; exact H)
 by_cases c3 : 0 ≤ (ia)
 rotate_left
 ·rw [if_neg c3] at H
  exact absurd H (by simp)
 rw [if_pos c3] at H
 have Sb : decide (0 ≤ (ia)) = true := decide_eq_true c3
 clear c3
 by_cases c4 : (ia) < (oa.length : Int)
 ·rw [if_pos c4] at H
  have Jb : decide ((ia) < (oa.length : Int)) = true := decide_eq_true c4
  clear c4
  replace H := Option.bind_eq_some_iff.mp H
  obtain ⟨Ta, Fb, H⟩ := H
  try dsimp only at H
  have A5 := aM_ Fb
  clear Fb
  simp only [Option.some.injEq, Prod.mk.injEq] at H
  obtain ⟨rfl, rfl, rfl⟩ := H
  go_enter Tryd.func17, Tryd.ntmps17
  go_wp2_with (first | ((with_reducible refine gate_dst (N := 2) rfl ?_); refine bE_ 2 41 #[.string (⟨#[]⟩ : ByteArray), .string (⟨#[]⟩ : ByteArray), .string (⟨#[]⟩ : ByteArray)] ?_; intro uc hg w6 hbox hb; have Aa := aM_ (hbox); have te := aM_ (gB_ hg HB.out); have ue := aM_ (gB_ hg HB.out); replace HB := aM_ (below_step (bk_ HB.out) hb); clear hb hbox hg) | ((with_reducible refine gate_dst (N := 7) rfl ?_); refine Kd.R_lit k41 _ 41 ?hg (N := 7) ?hd (xs := ([(⟨(⟨#[109, 97, 105, 108]⟩ : ByteArray), (⟨#[]⟩ : ByteArray), (⟨#[]⟩ : ByteArray)⟩ : S41), (⟨(⟨#[110, 102, 115]⟩ : ByteArray), (⟨#[104, 111, 109, 101]⟩ : ByteArray), (⟨#[]⟩ : ByteArray)⟩ : S41), (⟨(⟨#[107, 114, 98, 116, 103, 116]⟩ : ByteArray), (⟨#[65, 84, 72]⟩ : ByteArray), (⟨#[]⟩ : ByteArray)⟩ : S41)] : List (S41))) (inner := [.string (⟨#[109, 97, 105, 108]⟩ : ByteArray), .string (⟨#[]⟩ : ByteArray), .string (⟨#[]⟩ : ByteArray), .string (⟨#[110, 102, 115]⟩ : ByteArray), .string (⟨#[104, 111, 109, 101]⟩ : ByteArray), .string (⟨#[]⟩ : ByteArray), .string (⟨#[107, 114, 98, 116, 103, 116]⟩ : ByteArray), .string (⟨#[65, 84, 72]⟩ : ByteArray), .string (⟨#[]⟩ : ByteArray)]) (ok := fun _ => True) (okp := fun _ => True) ?hr ?hp (fun _ hk => hk) trivial (Below.refl _ _) (Nat.le_refl _) (by simp) ?_; (case hd => rfl); (case hg => rfl); (case hr => first | (go_simp; done) | (go_simp; rfl)); (case hp => exact (Reps.c3 (show Kd.M k41 _ _ _ (⟨(⟨#[109, 97, 105, 108]⟩ : ByteArray), (⟨#[]⟩ : ByteArray), (⟨#[]⟩ : ByteArray)⟩ : S41) [.string (⟨#[109, 97, 105, 108]⟩ : ByteArray), .string (⟨#[]⟩ : ByteArray), .string (⟨#[]⟩ : ByteArray)] from (k41_mkM _ _ _ (⟨(⟨#[109, 97, 105, 108]⟩ : ByteArray), (⟨#[]⟩ : ByteArray), (⟨#[]⟩ : ByteArray)⟩ : S41) )) (Reps.c3 (show Kd.M k41 _ _ _ (⟨(⟨#[110, 102, 115]⟩ : ByteArray), (⟨#[104, 111, 109, 101]⟩ : ByteArray), (⟨#[]⟩ : ByteArray)⟩ : S41) [.string (⟨#[110, 102, 115]⟩ : ByteArray), .string (⟨#[104, 111, 109, 101]⟩ : ByteArray), .string (⟨#[]⟩ : ByteArray)] from (k41_mkM _ _ _ (⟨(⟨#[110, 102, 115]⟩ : ByteArray), (⟨#[104, 111, 109, 101]⟩ : ByteArray), (⟨#[]⟩ : ByteArray)⟩ : S41) )) (Reps.c3 (show Kd.M k41 _ _ _ (⟨(⟨#[107, 114, 98, 116, 103, 116]⟩ : ByteArray), (⟨#[65, 84, 72]⟩ : ByteArray), (⟨#[]⟩ : ByteArray)⟩ : S41) [.string (⟨#[107, 114, 98, 116, 103, 116]⟩ : ByteArray), .string (⟨#[65, 84, 72]⟩ : ByteArray), .string (⟨#[]⟩ : ByteArray)] from (k41_mkM _ _ _ (⟨(⟨#[107, 114, 98, 116, 103, 116]⟩ : ByteArray), (⟨#[65, 84, 72]⟩ : ByteArray), (⟨#[]⟩ : ByteArray)⟩ : S41) )) (Reps.none _ _))))); intro Ke w7 Hb hb hg_ hnew_; clear hg_ hnew_; (first | rw [← Ny188.out] at Hb | (simp only [Int.reduceToNat] at Hb; rw [← Ny188.out] at Hb)); have eb := aM_ (Kd.R_lower (Kd.R_newB Hb (gR_ Aa.out)) (below_size hB_)); replace Aa := aM_ (kG_ Aa.out hb); replace HB := aM_ (below_step hB_ hb); clear hb Hb; obtain ⟨gf, hf, je⟩ := Kd.R_slice eb.out; subst je; have Tb : 0 ≤ ((ia) : Int) := dT_; have Ub : (ia) < (oa.length : Int) := dT_; obtain ⟨ve, Vc, Dd, Ed, Fd⟩ := at_T41 (Kd.R_reads' eb.out).2.2 (ia) Tb Ub; cases Vc; replace Tb := eq_true Tb; replace Ub := eq_true Ub) | ((with_reducible refine gate_dst (N := 3) rfl ?_); refine bE_ 3 41 #[.string (⟨#[]⟩ : ByteArray), .string (⟨#[]⟩ : ByteArray), .string (⟨#[]⟩ : ByteArray)] ?_; intro fb hg kb hbox hb; replace eb := aM_ (Kd.R_below (Kd.R_elderB (bk_ eb.out) fb (Nat.le_of_eq hg.symm)) hb); have Sa := aM_ (hbox); have we := aM_ (gB_ hg HB.out); have xe := aM_ (gB_ hg HB.out); replace HB := aM_ (below_step hB_ hb); have db := aM_ (nL_ hg Aa.out); have Ib := aM_ (nG_ hg Aa.out); replace Aa := aM_ (kG_ Aa.out hb); clear hb hbox hg; have ye := Ib.out; have ze := db.out; obtain ⟨Gd, Hd, Id⟩ := kC3_ Sa.out; obtain ⟨Jd, Ld, Md⟩ := kZ3_ Sa.out) | ((with_reducible refine gate_callee (f := 33) rfl ?_); refine gC_ (some 14) 33 #[.int .i64 (wrap64 (Int.tdiv a0 3))] Tryd.func33 ?_; (with_reducible refine (kerbsuitedata_Realm.calls (wrap64 (Int.tdiv a0 3)) Ta _ A5.out).mono ?_); rintro e sc ⟨rfl, hb⟩; refine ⟨_, rfl, ?_⟩; replace eb := aM_ (Kd.R_below (by refine bk_ ?_; exact (Kd.R_mono (rF_ (rF_ (rF_ (Kd.R_mono eb.out (fun k_ hk => (⟨hk, hk.2⟩ : _ ∧ k_ ≠ fb)))))) (fun _ h_ => h_.1))) hb); replace Aa := aM_ (blk_below (far_ db.out Aa.out) hb); replace Sa := aM_ (blk_below (g := fb) (o := .cells #[.string ((rd_T41 oa (ia)).f0), .string ((rd_T41 oa (ia)).f1), .string ((rd_T41 oa (ia)).f2)] 41 (0, 0)) (by exact puts_ Sa.out) hb); replace HB := aM_ (below_step hB_ hb); clear hb; have Nd : sc.cell? ⟨fb, 0, none⟩ = some (.string ((rd_T41 oa (ia)).f0)) := bc_ Sa.out 0; have Od : sc.cell? ⟨fb, 1, none⟩ = some (.string ((rd_T41 oa (ia)).f1)) := bc_ Sa.out 1; have Pd : sc.cell? ⟨fb, 2, none⟩ = some (.string ((rd_T41 oa (ia)).f2)) := bc_ Sa.out 2; obtain ⟨Qd, Rd, Sd⟩ := kZ3_ Sa.out; obtain ⟨Td, Ud, Vd⟩ := kC3_ Aa.out; obtain ⟨Wd, Xd, Yd⟩ := kZ3_ Aa.out))
  refine bodyPost_ret (results_cell_row rfl _ _ uc 41 #[.string ((rd_T41 oa (ia)).f0), .string ((rd_T41 oa (ia)).f1), .string Ta] (0, 0) _ rfl (by refine bk_ ?_; refine blk_put (cs := #[.string ((rd_T41 oa (ia)).f0), .string ((rd_T41 oa (ia)).f1), .string (⟨#[]⟩ : ByteArray)]) ?_ 2 _ rfl; refine bk_ ?_; refine blk_put (cs := #[.string ((rd_T41 oa (ia)).f0), .string (⟨#[]⟩ : ByteArray), .string (⟨#[]⟩ : ByteArray)]) ?_ 1 _ rfl; refine bk_ ?_; refine blk_put (cs := #[.string (⟨#[]⟩ : ByteArray), .string (⟨#[]⟩ : ByteArray), .string (⟨#[]⟩ : ByteArray)]) ?_ 0 _ rfl; exact far_ db.out Aa.out) Tryd.underlying41 rfl (by kernel_rfl)) rfl ?_
  exact ⟨by first | rfl | (simp [errW_none, errW_some] <;> rfl) | (simp only [← hji2]; first | rfl | (simp [errW_none, errW_some] <;> rfl)) | (simp [*, errW_none, errW_some] <;> rfl), hB_⟩
 rw [if_neg c4] at H
 exact absurd H (by simp)

/-- A state of type 52 at block g of W; what its slices lead to came in by w0. -/
def IsS52 (w0 W : World) (g : Nat) (f0 : List Int) (f1 : Int) : Prop := ∃ A0 c0, W.heap[g]? = some (.cells #[.slice A0 f0.length c0, .int .i64 f1] 52 (0, 0)) ∧ w0.heap.size ≤ g ∧ Kd.C (Kd.int .u8) w0 A0 f0.length f0
theorem IsS52.grown {w0 W : World} {g : Nat} {f0 : List Int} {f1 : Int} {W1 : World} {row : Option Nat} (h : IsS52 w0 W g f0 f1) (hw : W.grownBy W1 row) (hne : some g ≠ row) : IsS52 w0 W1 g f0 f1 := by
 obtain ⟨A0, c0, hb, hg, hr0⟩ := h
 exact ⟨A0, c0, blk_grown hb hw hne, hg, hr0⟩
theorem IsS52.own_neN {w0 W : World} {g : Nat} {f0 : List Int} {f1 : Int} {α : Type} {d : Kd α} {e : Nat} {base : Nat} {ok : Nat → Prop} {v : Value} {xs : List α} (h : IsS52 w0 W g f0 f1) (ho : Kd.N d e W base ok v xs) (ht : e ≠ 52) : some g ≠ v.ownBlock := by
 obtain ⟨A0, c0, hb, hg, hr0⟩ := h
 exact Kd.N_ne ho hb ht
theorem IsS52.fresh {w0 W : World} {g : Nat} {f0 : List Int} {f1 : Int} (h : IsS52 w0 W g f0 f1) : ∀ k, W.heap.size ≤ k → k ≠ g := by
 obtain ⟨A0, c0, hb, hg, hr0⟩ := h
 exact Kd.freshB hb
theorem IsS52.kept {w0 W : World} {g : Nat} {f0 : List Int} {f1 : Int} {W1 : World} {S : Nat → Prop} (h : IsS52 w0 W g f0 f1) (hk : Kept W W1 S) (hne : ¬ S g) : IsS52 w0 W1 g f0 f1 := by
 obtain ⟨A0, c0, hb, hg, hr0⟩ := h
 exact ⟨A0, c0, blk_kept hb hk hne, hg, hr0⟩
theorem IsS52.below {w0 W : World} {g : Nat} {f0 : List Int} {f1 : Int} {W1 : World} (h : IsS52 w0 W g f0 f1) (hw : Below W.heap.size W W1) : IsS52 w0 W1 g f0 f1 := h.grown (grown_of_below hw none) (by simp)
theorem IsS52.alloc {w0 W : World} {g : Nat} {f0 : List Int} {f1 : Int} (h : IsS52 w0 W g f0 f1) (o : Obj) : IsS52 w0 (W.alloc o) g f0 f1 := h.below (bA_ (Below.refl _ _) o)
theorem IsS52.drewN {w0 W : World} {g : Nat} {f0 : List Int} {f1 : Int} (h : IsS52 w0 W g f0 f1) (m : Nat) : IsS52 w0 (W.drewN m) g f0 f1 := h
theorem IsS52.drew {w0 W : World} {g : Nat} {f0 : List Int} {f1 : Int} (h : IsS52 w0 W g f0 f1) : IsS52 w0 W.drew g f0 f1 := h
theorem IsS52.at_ {w0 W : World} {g : Nat} {f0 : List Int} {f1 : Int} {w' : World} {m : Nat} (hq : W.drewN m = w') (h : IsS52 w0 W g f0 f1) : IsS52 w0 w' g f0 f1 := by subst hq; exact IsS52.drewN h m
theorem IsS52.apart {w0 W : World} {g : Nat} {f0 : List Int} {f1 : Int} {α : Type} {d : Kd α} {e : Nat} {base : Nat} {ok : Nat → Prop} {v : Value} {xs : List α} (h : IsS52 w0 W g f0 f1) (ho : d.R e W base ok v xs) (ht : ∀ q, q ∈ e :: d.E → q ≠ 52) : d.R e W base (fun k => ok k ∧ k ≠ g) v xs := by
 obtain ⟨A0, c0, hb, hg, hr0⟩ := h
 exact Kd.R_types ho hb ht
theorem IsS52.own_ne {w0 W : World} {g : Nat} {f0 : List Int} {f1 : Int} {α : Type} {d : Kd α} {e : Nat} {base : Nat} {ok : Nat → Prop} {v : Value} {xs : List α} (h : IsS52 w0 W g f0 f1) (ho : d.R e W base ok v xs) (ht : e ≠ 52) : some g ≠ v.ownBlock := by
 obtain ⟨A0, c0, hb, hg, hr0⟩ := h
 exact Kd.R_ne ho hb ht
theorem IsS52.apartQ {w0 W : World} {g : Nat} {f0 : List Int} {f1 : Int} {α : Type} {d : Kd α} {e : Nat} {base : Nat} {ok : Nat → Prop} {v : Value} {xs : List α} (h : IsS52 w0 W g f0 f1) (ho : d.Q e W base ok v xs) (ht : ∀ q, q ∈ e :: d.E → q ≠ 52) : d.Q e W base (fun k => ok k ∧ k ≠ g) v xs := by
 obtain ⟨A0, c0, hb, hg, hr0⟩ := h
 exact Kd.Q_types ho hb ht
theorem IsS52.own_neQ {w0 W : World} {g : Nat} {f0 : List Int} {f1 : Int} {α : Type} {d : Kd α} {e : Nat} {base : Nat} {ok : Nat → Prop} {v : Value} {xs : List α} (h : IsS52 w0 W g f0 f1) (ho : d.Q e W base ok v xs) (ht : e ≠ 52) : some g ≠ v.ownBlock := by
 obtain ⟨A0, c0, hb, hg, hr0⟩ := h
 exact Kd.Q_ne ho hb ht
theorem IsS52.apartS {w0 W : World} {g : Nat} {f0 : List Int} {f1 : Int} {α : Type} {d : Kd α} {e : Nat} {base : Nat} {ok : Nat → Prop} {v : Value} {xs : List α} (h : IsS52 w0 W g f0 f1) (ho : d.S e W base ok v xs) (ht : ∀ q, q ∈ e :: d.E → q ≠ 52) : d.S e W base (fun k => ok k ∧ k ≠ g) v xs := by
 obtain ⟨A0, c0, hb, hg, hr0⟩ := h
 exact Kd.S_types ho hb ht
theorem IsS52.own_neS {w0 W : World} {g : Nat} {f0 : List Int} {f1 : Int} {α : Type} {d : Kd α} {e : Nat} {base : Nat} {ok : Nat → Prop} {v : Value} {xs : List α} (h : IsS52 w0 W g f0 f1) (ho : d.S e W base ok v xs) (ht : e ≠ 52) : some g ≠ v.ownBlock := by
 obtain ⟨A0, c0, hb, hg, hr0⟩ := h
 exact Kd.S_ne ho hb ht
theorem IsS52.lt {w0 W : World} {g : Nat} {f0 : List Int} {f1 : Int} (h : IsS52 w0 W g f0 f1) : g < W.heap.size := by
 obtain ⟨A0, c0, hb, hg, hr0⟩ := h
 exact blk_lt hb
theorem IsS52.ge {w0 W : World} {g : Nat} {f0 : List Int} {f1 : Int} (h : IsS52 w0 W g f0 f1) : w0.heap.size ≤ g := by
 obtain ⟨A0, c0, hb, hg, hr0⟩ := h
 exact hg
theorem IsS52.ne_blk {w0 W : World} {g : Nat} {f0 : List Int} {f1 : Int} {a : Nat} {cs : Array Value} {t : TypeId} {fr : Nat × Nat} (h : IsS52 w0 W g f0 f1) (hb2 : W.heap[a]? = some (.cells cs t fr)) (ht : t ≠ 52) : g ≠ a := by
 obtain ⟨A0, c0, hb, hg, hr0⟩ := h
 rintro rfl
 rw [hb] at hb2
 injection hb2 with hb2
 injection hb2 with _ ht2
 exact ht ht2.symm
theorem IsS52.far {w0 W : World} {g : Nat} {f0 : List Int} {f1 : Int} {p : Addr} (h : IsS52 w0 W g f0 f1) (hne : g ≠ p.block) (u : Value) : IsS52 w0 (W.setCell p u) g f0 f1 := by
 obtain ⟨A0, c0, hb, hg, hr0⟩ := h
 exact ⟨A0, c0, blk_far hb hne u, hg, hr0⟩
theorem cellS52_0 {W : World} {g : Nat} {A0 : Option Addr} {c0 : Nat} {f0 : List Int} {f1 : Int} (h : W.heap[g]? = some (.cells #[.slice A0 f0.length c0, .int .i64 f1] 52 (0, 0))) : W.cell? ⟨g, 0, none⟩ = some (.slice A0 f0.length c0) := (blk_cell h 0).trans rfl
theorem cellS52_1 {W : World} {g : Nat} {A0 : Option Addr} {c0 : Nat} {f0 : List Int} {f1 : Int} (h : W.heap[g]? = some (.cells #[.slice A0 f0.length c0, .int .i64 f1] 52 (0, 0))) : W.cell? ⟨g, 1, none⟩ = some (.int .i64 f1) := (blk_cell h 1).trans rfl
theorem IsS52.set_1 {w0 W : World} {g : Nat} {f0 : List Int} {f1 : Int} (h : IsS52 w0 W g f0 f1) (x : Int) : IsS52 w0 (W.setCell ⟨g, 1, none⟩ (.int .i64 x)) g f0 x := by
 obtain ⟨A0, c0, hb, hg, hr0⟩ := h
 exact ⟨A0, c0, by simpa using blk_set hb 1 (.int .i64 x), hg, hr0⟩
theorem IsS52.new (w0 W : World) (A0 : Option Addr) (c0 : Nat) (f0 : List Int) (f1 : Int) (hB : Below w0.heap.size w0 W) (hr0 : Kd.C (Kd.int .u8) w0 A0 f0.length f0) : IsS52 w0 (W.alloc (.cells #[.slice A0 f0.length c0, .int .i64 f1] 52)) W.heap.size f0 f1 := ⟨A0, c0, by simpa using heap_alloc_new W _, hB.size, hr0⟩

/-! ### kerbsuitedata_Source_Next: function 49 -/
def kerbsuitedata_Source_Next.f (za : List Int) (pa : Int) (a1 : Int) : Option (Int × Int) := if pa ≥ (za.length : Int) then (some (0, pa)) else (if a1 ≤ 0 then (some (0, pa)) else (if 0 ≤ pa then (if pa < (za.length : Int) then (if a1 = 0 then (none) else (some (Int.tmod (wrap64 (rd za pa)) a1, wrap64 (pa + 1)))) else (none)) else (none)))
set_option maxHeartbeats 8000000 in
set_option maxRecDepth 100000 in
theorem kerbsuitedata_Source_Next.calls (g : Nat) (za : List Int) (pa : Int) (a1 : Int) (r1 : Int) (r2 : Int) (w0 w : World) (hI : IsS52 w0 w g za pa) (hB : Below w0.heap.size w0 w) (h : kerbsuitedata_Source_Next.f za pa a1 = some (r1, r2)) :
  Calls Tryd.prog 49 #[.pointer (some ⟨g, 0, none⟩), .int .i64 a1] w fun e w' => e = .returned (.int .i64 r1) ∧ IsS52 w0 w' g za r2 ∧ Below w0.heap.size w0 w' ∧ KeepBut w w' g none := by
 have cb := aM_ hI
 have HK := aM_ (KeepBut.refl w g none)
 have HL := aM_ hB.size
 clear hI
 have HW0 := aM_ hB.size
 have HB := aM_ hB
 clear hB
 have H : (if pa ≥ (za.length : Int) then (some (0, pa)) else (if a1 ≤ 0 then (some (0, pa)) else (if 0 ≤ pa then (if pa < (za.length : Int) then (if a1 = 0 then (none) else (some (Int.tmod (wrap64 (rd za pa)) a1, wrap64 (pa + 1)))) else (none)) else (none)))) = some (r1, r2) := h
 clear h
 by_cases c3 : pa ≥ (za.length : Int)
 ·rw [if_pos c3] at H
  have Sb : decide ((za.length : Int) ≤ pa) = true := decide_eq_true c3
  clear c3
  simp only [Option.some.injEq, Prod.mk.injEq] at H
  obtain ⟨rfl, rfl⟩ := H
  obtain ⟨ASz4_0, cSz4_0, HGz4, hgz4, HSz4_0⟩ := cb.out
  have ke := cellS52_0 HGz4
  have le := cellS52_1 HGz4
  have me := blk_frozen HGz4 1
  clear HGz4 hgz4
  go_enter Tryd.func49, Tryd.ntmps49
  go_wp2
  repeat (go_quiet (fail); try go_wp2)
  go_ret
  exact ⟨eW_, by repeat (first | (with_reducible first | exact cb.out | apply IsS52.alloc | apply IsS52.drewN | apply IsS52.drew | apply IsS52.set_1) | exact cb.out), by repeat (first | (with_reducible first | exact HB.out | apply bA_ | apply bN_ | apply bD_ | refine bS_ ?_ (IsS52.ge cb.out)) | exact HB.out), by repeat (first | (with_reducible first | exact HK.out | apply KeepBut.set_ | apply keep_drewN | apply keep_drew | apply keep_alloc) | exact HK.out)⟩
 rw [if_neg c3] at H
 have Sb : decide ((za.length : Int) ≤ pa) = false := decide_eq_false c3
 clear c3
 by_cases c5 : a1 ≤ 0
 ·rw [if_pos c5] at H
  have Bb : decide (a1 ≤ 0) = true := decide_eq_true c5
  clear c5
  simp only [Option.some.injEq, Prod.mk.injEq] at H
  obtain ⟨rfl, rfl⟩ := H
  obtain ⟨ASz6_0, cSz6_0, HGz6, hgz6, HSz6_0⟩ := cb.out
  have ne := cellS52_0 HGz6
  have oe := cellS52_1 HGz6
  have pe := blk_frozen HGz6 1
  clear HGz6 hgz6
  go_enter Tryd.func49, Tryd.ntmps49
  go_wp2
  repeat (go_quiet (fail); try go_wp2)
  go_ret
  exact ⟨eW_, by repeat (first | (with_reducible first | exact cb.out | apply IsS52.alloc | apply IsS52.drewN | apply IsS52.drew | apply IsS52.set_1) | exact cb.out), by repeat (first | (with_reducible first | exact HB.out | apply bA_ | apply bN_ | apply bD_ | refine bS_ ?_ (IsS52.ge cb.out)) | exact HB.out), by repeat (first | (with_reducible first | exact HK.out | apply KeepBut.set_ | apply keep_drewN | apply keep_drew | apply keep_alloc) | exact HK.out)⟩
 rw [if_neg c5] at H
 have Bb : decide (a1 ≤ 0) = false := decide_eq_false c5
 clear c5
 by_cases c7 : 0 ≤ pa
 rotate_left
 ·rw [if_neg c7] at H
  exact absurd H (by simp)
 rw [if_pos c7] at H
 have kc : decide (0 ≤ pa) = true := decide_eq_true c7
 clear c7
 by_cases c8 : pa < (za.length : Int)
 rotate_left
 ·rw [if_neg c8] at H
  exact absurd H (by simp)
 rw [if_pos c8] at H
 have mc : decide (pa < (za.length : Int)) = true := decide_eq_true c8
 clear c8
 by_cases c9 : a1 = 0
 ·rw [if_pos c9] at H
  exact absurd H (by simp)
 rw [if_neg c9] at H
 have nc : (a1 == 0) = false := beq_eq_false_iff_ne.mpr c9
 have oc : (a1 != 0) = true := bne_iff_ne.mpr c9
 simp only [Option.some.injEq, Prod.mk.injEq] at H
 obtain ⟨rfl, rfl⟩ := H
 obtain ⟨ASz10_0, cSz10_0, HGz10, hgz10, HSz10_0⟩ := cb.out
 have Zd := cellS52_0 HGz10
 have ae := cellS52_1 HGz10
 have be := blk_frozen HGz10 1
 clear HGz10 hgz10
 have Vb : 0 ≤ (pa : Int) := dT_
 have Wb : pa < (za.length : Int) := dT_
 obtain ⟨Ae, Wc, wb⟩ := Kd.at_int HSz10_0 pa Vb Wb
 cases Wc
 replace wb := pw_cell_below HB.out wb
 replace Vb := eq_true Vb
 replace Wb := eq_true Wb
 go_enter Tryd.func49, Tryd.ntmps49
 go_wp2
 repeat (go_quiet (fail); try go_wp2)
 go_ret
 exact ⟨eW_, by repeat (first | (with_reducible first | exact cb.out | apply IsS52.alloc | apply IsS52.drewN | apply IsS52.drew | apply IsS52.set_1) | exact cb.out), by repeat (first | (with_reducible first | exact HB.out | apply bA_ | apply bN_ | apply bD_ | refine bS_ ?_ (IsS52.ge cb.out)) | exact HB.out), by repeat (first | (with_reducible first | exact HK.out | apply KeepBut.set_ | apply keep_drewN | apply keep_drew | apply keep_alloc) | exact HK.out)⟩

end Go.Proofs.YthfdfoigoomaoaaDoor.PDb
