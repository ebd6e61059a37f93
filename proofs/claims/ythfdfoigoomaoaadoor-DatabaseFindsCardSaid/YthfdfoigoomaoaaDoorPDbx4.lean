/- The walks of functions of the translation: each call returns what the plain function beside it says. -/
import Derived.Test.YthfdfoigoomaoaaDoorPDbx0
import Derived.Test.YthfdfoigoomaoaaDoorPDbx1
import Derived.Test.YthfdfoigoomaoaaDoorPDbx3
namespace Go.Proofs.YthfdfoigoomaoaaDoor.PDb
open Go.RowKit Go.Proofs.YthfdfoigoomaoaaDoorW.PrintWords Go.Proofs.YthfdfoigoomaoaaDoorW.PrintLast Go.Proofs.YthfdfoigoomaoaaDoorW.PrintMore Go.Proofs.YthfdfoigoomaoaaDoor.Aid
attribute [local go_sem] max2_int min2_int max_two min_two max_three min_three max_four min_four aid_str_gtr aid_str_leq   -- for this text's walks alone
set_option linter.unusedVariables false
set_option linter.unusedSimpArgs false

/-! ### kerbsuitelaw12_awake: function 7 -/
def kerbsuitelaw12_awake.f (k : Nat)  : Option (Bool) := (database_Dump.f k (⟨#[82]⟩ : ByteArray) ([] : List (S35))).bind fun bt149 => ((kerbsuitedata_Long.f 1).bind fun t151 => ((database_Add.f k (⟨#[82]⟩ : ByteArray) ([] : List (S35)) (⟨#[97]⟩ : ByteArray) (⟨#[]⟩ : ByteArray) t151 0 0 0 0 0 0).bind fun bt152 => ((database_Find.f k bt152.1 bt152.2.1 (⟨#[97]⟩ : ByteArray) (⟨#[]⟩ : ByteArray)).bind fun bt158 => (if bt149.2 = 0 then (if bt149.1.toList = ([82, 10] : List UInt8) then (if bt152.2.2 = 0 then (if bt158.2 = 0 then (if bt158.1 = 0 then (some ((bt152.2.1.length : Int) == 1)) else (some false)) else (some false)) else (some false)) else (some false)) else (some false)))))
theorem kerbsuitelaw12_awake.mono : ∀ k, LeO (kerbsuitelaw12_awake.f k ) (kerbsuitelaw12_awake.f (k + 1) ) := by
 intro  k
 unfold kerbsuitelaw12_awake.f
 repeat' first
   | (with_reducible exact database_Add.mono _ _ _ _ _ _ _ _ _ _ _ _)
   | (with_reducible exact database_Dump.mono _ _ _)
   | (with_reducible exact database_Find.mono _ _ _ _ _)
   | (with_reducible exact LeO.refl _)
   | (with_reducible exact LeO.none _)
   | (with_reducible refine LeO.ite ?_ ?_)
   | (with_reducible refine LeO.bind ?_ (fun _ => ?_))
   | exact database_Add.mono _ _ _ _ _ _ _ _ _ _ _ _
   | exact database_Dump.mono _ _ _
   | exact database_Find.mono _ _ _ _ _
   | exact LeO.none _
   | refine LeO.ite ?_ ?_
   | refine LeO.bind ?_ (fun _ => ?_)
set_option maxHeartbeats 8000000 in
set_option maxRecDepth 100000 in
theorem kerbsuitelaw12_awake.calls (k : Nat)  (r : Bool) (w : World) (h : kerbsuitelaw12_awake.f k  = some r) :
  Calls Tryd.prog 7 #[] w fun e w' => e = .returned (.bool r) ∧ Below w.heap.size w w' := by
 have hu24 := Tryd.underlying24
 have hu35 := Tryd.underlying35
 have HB := Aside0.mk (Below.refl w.heap.size w)
 have H : ((database_Dump.f k (⟨#[82]⟩ : ByteArray) ([] : List (S35))).bind fun bt149 => ((kerbsuitedata_Long.f 1).bind fun t151 => ((database_Add.f k (⟨#[82]⟩ : ByteArray) ([] : List (S35)) (⟨#[97]⟩ : ByteArray) (⟨#[]⟩ : ByteArray) t151 0 0 0 0 0 0).bind fun bt152 => ((database_Find.f k bt152.1 bt152.2.1 (⟨#[97]⟩ : ByteArray) (⟨#[]⟩ : ByteArray)).bind fun bt158 => (if bt149.2 = 0 then (if bt149.1.toList = ([82, 10] : List UInt8) then (if bt152.2.2 = 0 then (if bt158.2 = 0 then (if bt158.1 = 0 then (some ((bt152.2.1.length : Int) == 1)) else (some false)) else (some false)) else (some false)) else (some false)) else (some false)))))) = some r := h
 clear h
 replace H := Option.bind_eq_some_iff.mp H
 obtain ⟨⟨t149, t150⟩, A10, H⟩ := H
 replace H : ((kerbsuitedata_Long.f 1).bind fun t151 => ((database_Add.f k (⟨#[82]⟩ : ByteArray) ([] : List (S35)) (⟨#[97]⟩ : ByteArray) (⟨#[]⟩ : ByteArray) t151 0 0 0 0 0 0).bind fun bt152 => ((database_Find.f k bt152.1 bt152.2.1 (⟨#[97]⟩ : ByteArray) (⟨#[]⟩ : ByteArray)).bind fun bt158 => (if t150 = 0 then (if t149.toList = ([82, 10] : List UInt8) then (if bt152.2.2 = 0 then (if bt158.2 = 0 then (if bt158.1 = 0 then (some ((bt152.2.1.length : Int) == 1)) else (some false)) else (some false)) else (some false)) else (some false)) else (some false))))) = some r := H
 have A1 := Aside0.mk A10
 clear A10
 replace H := Option.bind_eq_some_iff.mp H
 obtain ⟨t151, A20, H⟩ := H
 replace H : ((database_Add.f k (⟨#[82]⟩ : ByteArray) ([] : List (S35)) (⟨#[97]⟩ : ByteArray) (⟨#[]⟩ : ByteArray) t151 0 0 0 0 0 0).bind fun bt152 => ((database_Find.f k bt152.1 bt152.2.1 (⟨#[97]⟩ : ByteArray) (⟨#[]⟩ : ByteArray)).bind fun bt158 => (if t150 = 0 then (if t149.toList = ([82, 10] : List UInt8) then (if bt152.2.2 = 0 then (if bt158.2 = 0 then (if bt158.1 = 0 then (some ((bt152.2.1.length : Int) == 1)) else (some false)) else (some false)) else (some false)) else (some false)) else (some false)))) = some r := H
 have A2 := Aside0.mk A20
 clear A20
 replace H := Option.bind_eq_some_iff.mp H
 obtain ⟨⟨t152, t153, t156⟩, A30, H⟩ := H
 replace H : ((database_Find.f k t152 t153 (⟨#[97]⟩ : ByteArray) (⟨#[]⟩ : ByteArray)).bind fun bt158 => (if t150 = 0 then (if t149.toList = ([82, 10] : List UInt8) then (if t156 = 0 then (if bt158.2 = 0 then (if bt158.1 = 0 then (some ((t153.length : Int) == 1)) else (some false)) else (some false)) else (some false)) else (some false)) else (some false))) = some r := H
 have A3 := Aside0.mk A30
 clear A30
 replace H := Option.bind_eq_some_iff.mp H
 obtain ⟨⟨t158, t159⟩, A40, H⟩ := H
 replace H : (if t150 = 0 then (if t149.toList = ([82, 10] : List UInt8) then (if t156 = 0 then (if t159 = 0 then (if t158 = 0 then (some ((t153.length : Int) == 1)) else (some false)) else (some false)) else (some false)) else (some false)) else (some false)) = some r := H
 have A4 := Aside0.mk A40
 clear A40
 by_cases c5 : t150 = 0
 ·rw [if_pos c5] at H
  have c5b0 : (t150 == 0) = true := beq_iff_eq.mpr c5
  have c5b1 : (t150 != 0) = false := bne_eq_false_iff_eq.mpr c5
  clear c5
  by_cases c6 : t149.toList = ([82, 10] : List UInt8)
  ·rw [if_pos c6] at H
   have c6b0 : (t149.toList == ([82, 10] : List UInt8)) = true := beq_iff_eq.mpr c6
   have c6b1 : (t149.toList != ([82, 10] : List UInt8)) = false := bne_eq_false_iff_eq.mpr c6
   clear c6
   by_cases c7 : t156 = 0
   ·rw [if_pos c7] at H
    have c7b0 : (t156 == 0) = true := beq_iff_eq.mpr c7
    have c7b1 : (t156 != 0) = false := bne_eq_false_iff_eq.mpr c7
    clear c7
    by_cases c8 : t159 = 0
    ·rw [if_pos c8] at H
     have c8b0 : (t159 == 0) = true := beq_iff_eq.mpr c8
     have c8b1 : (t159 != 0) = false := bne_eq_false_iff_eq.mpr c8
     clear c8
     by_cases c9 : t158 = 0
     ·rw [if_pos c9] at H
      have c9b0 : (t158 == 0) = true := beq_iff_eq.mpr c9
      have c9b1 : (t158 != 0) = false := bne_eq_false_iff_eq.mpr c9
      clear c9
      obtain rfl := Option.some.inj H
      go_enter Tryd.func7, Tryd.ntmps7
      go_wp2_with (first | ((with_reducible refine gate_callee (f := 32) rfl ?_); refine goesL_ (some 9) rfl rfl Tryd.func32 (by kernel_rfl) rfl #[.agg #[.string (⟨#[82]⟩ : ByteArray), .slice none 0 0]] rfl (by (try simp only [List.map_toArray, List.map_cons, List.map_nil]); first | done | rfl | (simp only [List.length_drop, List.length_take]; rfl)) ?_; (refine (database_Dump.calls k (⟨#[82]⟩ : ByteArray) _ _ ([] : List (S35)) t149 t150 _ ?side1 ?side2 A1.out).mono ?_); (case side1 => exact Kd.C_nil _ _); (case side2 => exact Nat.le_refl _); rintro e w10 ⟨rfl, hb⟩; refine ⟨_, rfl, ?_⟩; have n0_ := Aside0.mk (below_step (bk_ HB.out) hb); clear HB; have HB := n0_; clear n0_; (try clear hb); (try clear hb2); (try clear hk); (try clear hi)) | ((with_reducible refine gate_callee (f := 13) rfl ?_); refine goesL_ (some 14) rfl rfl Tryd.func13 (by kernel_rfl) rfl #[.int .i64 1] rfl (by (try simp only [List.map_toArray, List.map_cons, List.map_nil]); first | done | rfl | (simp only [List.length_drop, List.length_take]; rfl)) ?_; (with_reducible refine (kerbsuitedata_Long.calls 1 t151 _ A2.out).mono ?_); rintro e w' ⟨rfl, ⟨nd, rfl⟩⟩; refine ⟨_, rfl, ?_⟩; (try (rw [drewN_self w10]; generalize hq_ : World.drewN w10 _ = w10; have n0_ : Aside0 (Below w.heap.size w w10) := ⟨by rw [← hq_]; exact (bk_ HB.out)⟩; clear HB hq_; have HB := n0_; clear n0_))) | ((with_reducible refine gate_callee (f := 25) rfl ?_); refine goesL_ (some 16) rfl rfl Tryd.func25 (by kernel_rfl) rfl #[.agg #[.string (⟨#[82]⟩ : ByteArray), .slice none 0 0], .agg #[.string (⟨#[97]⟩ : ByteArray), .string (⟨#[]⟩ : ByteArray), .int .u64 t151, .int .i64 0, .int .i64 0, .int .i64 0, .int .i64 0, .int .i64 0, .int .i64 0]] rfl (by (try simp only [List.map_toArray, List.map_cons, List.map_nil]); first | done | rfl | (simp only [List.length_drop, List.length_take]; rfl)) ?_; (refine (database_Add.calls k (⟨#[82]⟩ : ByteArray) _ _ ([] : List (S35)) (⟨#[97]⟩ : ByteArray) (⟨#[]⟩ : ByteArray) t151 0 0 0 0 0 0 t152 t153 t156 _ ?side1 ?side2 A3.out).mono ?_); (case side1 => exact Kd.C_nil _ _); (case side2 => exact Nat.le_refl _); rintro e w11 ⟨v154, rfl, ho0, hb⟩; refine ⟨_, rfl, ?_⟩; have n0_ := Aside0.mk (Kd.R_lower ho0 (below_size (bk_ HB.out))); have n1_ := Aside0.mk (below_step (bk_ HB.out) hb); clear HB; have HO155 := n0_; have HB := n1_; clear n0_ n1_; (try clear hb); (try clear hb2); (try clear hk); (try clear hi); (try clear ho0)) | ((with_reducible refine gate_dst (N := 3) rfl ?_); (try (refine gate_guard (by rfl) ?_; dsimp only)); refine box_event ?hg (N := 3) ?hd (cs := #[.string (⟨#[]⟩ : ByteArray), .slice none 0 0]) (t := 24) ?hr ?_; (case hd => rfl); (case hg => rfl); (case hr => first | (go_simp; done) | (go_simp; rfl)); intro gb157 hg w12 hbox hb; have n0_ := Aside0.mk (Kd.R_below (bk_ HO155.out) hb); have n1_ := Aside0.mk (below_step (bk_ HB.out) hb); have n2_ := Aside0.mk (hbox); have n3_ := Aside0.mk ((by rw [hg]; exact (below_size (bk_ HB.out)) : w.heap.size ≤ gb157)); have n4_ := Aside0.mk ((by rw [hg]; exact (below_size (bk_ HB.out)) : w.heap.size ≤ gb157)); clear HO155 HB; have HO155 := n0_; have HB := n1_; have BK157 := n2_; have GW157 := n3_; have GE157 := n4_; clear n0_ n1_ n2_ n3_ n4_; clear hb hbox hg; have hcz13_0 : w12.cell? ⟨gb157, 0, none⟩ = some (.string (⟨#[]⟩ : ByteArray)) := (blk_cell BK157.out 0).trans rfl; have hcz13_1 : w12.cell? ⟨gb157, 1, none⟩ = some (.slice none 0 0) := (blk_cell BK157.out 1).trans rfl; have hfz13_0 := blk_frozen BK157.out 0; have hfz13_1 := blk_frozen BK157.out 1; obtain ⟨Ao14, co14, eo14⟩ := Kd.R_slice HO155.out; subst eo14) | ((with_reducible refine gate_callee (f := 18) rfl ?_); refine goesL_ (some 21) rfl rfl Tryd.func18 (by kernel_rfl) rfl #[.agg #[.string t152, .slice Ao14 t153.length co14], .string (⟨#[97]⟩ : ByteArray), .string (⟨#[]⟩ : ByteArray)] rfl (by (try simp only [List.map_toArray, List.map_cons, List.map_nil]); first | done | rfl | (simp only [List.length_drop, List.length_take]; rfl)) ?_; (with_reducible refine (database_Find.calls k t152 _ _ t153 (⟨#[97]⟩ : ByteArray) (⟨#[]⟩ : ByteArray) t158 t159 _ ?side1 ?side2 A4.out).mono ?_); (case side1 => refine (Kd.R_reads' (e := 35) (base := w.heap.size) (ok := fun k_ => True) (n := t153.length) (c := co14) ?_).2.2; exact (by refine bk_ ?_; exact (Kd.R_mono (Kd.R_far (p := ⟨gb157, 1, none⟩) (Kd.R_far (p := ⟨gb157, 0, none⟩) (Kd.R_types HO155.out BK157.out (by decide)) (fun _ hk => hk.2) (.string t152)) (fun _ hk => hk.2) (.slice Ao14 t153.length co14)) (fun _ h_ => h_.1)))); (case side2 => exact (Kd.R_reads' HO155.out).2.1); rintro e w15 ⟨rfl, hb⟩; refine ⟨_, rfl, ?_⟩; have n0_ := Aside0.mk (Kd.R_below (by refine bk_ ?_; exact (Kd.R_mono (Kd.R_far (p := ⟨gb157, 1, none⟩) (Kd.R_far (p := ⟨gb157, 0, none⟩) (Kd.R_types HO155.out BK157.out (by decide)) (fun _ hk => hk.2) (.string t152)) (fun _ hk => hk.2) (.slice Ao14 t153.length co14)) (fun _ h_ => h_.1))) hb); have n1_ := Aside0.mk (blk_below (g := gb157) (o := .cells #[.string t152, .slice Ao14 t153.length co14] 24 (0, 0)) (by refine bk_ ?_; refine blk_put (cs := #[.string t152, .slice none 0 0]) ?_ 1 _ rfl; refine bk_ ?_; refine blk_put (cs := #[.string (⟨#[]⟩ : ByteArray), .slice none 0 0]) ?_ 0 _ rfl; refine bk_ ?_; exact BK157.out) hb); have n2_ := Aside0.mk (below_step (by repeat (first | (with_reducible first | exact HB.out | apply bA_ | apply bN_ | apply bD_ | refine bS_ ?_ GE157.out) | exact HB.out)) hb); clear HO155 BK157 HB; have HO155 := n0_; have BK157 := n1_; have HB := n2_; clear n0_ n1_ n2_; (try clear hb); (try clear hb2); (try clear hk); (try clear hi); have hcz16_0 : w15.cell? ⟨gb157, 0, none⟩ = some (.string t152) := (blk_cell BK157.out 0).trans rfl; have hcz16_1 : w15.cell? ⟨gb157, 1, none⟩ = some (.slice Ao14 t153.length co14) := (blk_cell BK157.out 1).trans rfl; have hfz16_0 := blk_frozen BK157.out 0; have hfz16_1 := blk_frozen BK157.out 1))
      go_ret
      exact ⟨by first | rfl | (simp [errW_none, errW_some] <;> rfl) | (simp [*, errW_none, errW_some] <;> rfl), by repeat (first | (with_reducible first | exact HB.out | apply bA_ | apply bN_ | apply bD_ | refine bS_ ?_ GE157.out) | exact HB.out)⟩
     rw [if_neg c9] at H
     have c9b0 : (t158 == 0) = false := beq_eq_false_iff_ne.mpr c9
     have c9b1 : (t158 != 0) = true := bne_iff_ne.mpr c9
     obtain rfl := Option.some.inj H
     go_enter Tryd.func7, Tryd.ntmps7
     go_wp2_with (first | ((with_reducible refine gate_callee (f := 32) rfl ?_); refine goesL_ (some 9) rfl rfl Tryd.func32 (by kernel_rfl) rfl #[.agg #[.string (⟨#[82]⟩ : ByteArray), .slice none 0 0]] rfl (by (try simp only [List.map_toArray, List.map_cons, List.map_nil]); first | done | rfl | (simp only [List.length_drop, List.length_take]; rfl)) ?_; (refine (database_Dump.calls k (⟨#[82]⟩ : ByteArray) _ _ ([] : List (S35)) t149 t150 _ ?side1 ?side2 A1.out).mono ?_); (case side1 => exact Kd.C_nil _ _); (case side2 => exact Nat.le_refl _); rintro e w17 ⟨rfl, hb⟩; refine ⟨_, rfl, ?_⟩; have n0_ := Aside0.mk (below_step (bk_ HB.out) hb); clear HB; have HB := n0_; clear n0_; (try clear hb); (try clear hb2); (try clear hk); (try clear hi)) | ((with_reducible refine gate_callee (f := 13) rfl ?_); refine goesL_ (some 14) rfl rfl Tryd.func13 (by kernel_rfl) rfl #[.int .i64 1] rfl (by (try simp only [List.map_toArray, List.map_cons, List.map_nil]); first | done | rfl | (simp only [List.length_drop, List.length_take]; rfl)) ?_; (with_reducible refine (kerbsuitedata_Long.calls 1 t151 _ A2.out).mono ?_); rintro e w' ⟨rfl, ⟨nd, rfl⟩⟩; refine ⟨_, rfl, ?_⟩; (try (rw [drewN_self w17]; generalize hq_ : World.drewN w17 _ = w17; have n0_ : Aside0 (Below w.heap.size w w17) := ⟨by rw [← hq_]; exact (bk_ HB.out)⟩; clear HB hq_; have HB := n0_; clear n0_))) | ((with_reducible refine gate_callee (f := 25) rfl ?_); refine goesL_ (some 16) rfl rfl Tryd.func25 (by kernel_rfl) rfl #[.agg #[.string (⟨#[82]⟩ : ByteArray), .slice none 0 0], .agg #[.string (⟨#[97]⟩ : ByteArray), .string (⟨#[]⟩ : ByteArray), .int .u64 t151, .int .i64 0, .int .i64 0, .int .i64 0, .int .i64 0, .int .i64 0, .int .i64 0]] rfl (by (try simp only [List.map_toArray, List.map_cons, List.map_nil]); first | done | rfl | (simp only [List.length_drop, List.length_take]; rfl)) ?_; (refine (database_Add.calls k (⟨#[82]⟩ : ByteArray) _ _ ([] : List (S35)) (⟨#[97]⟩ : ByteArray) (⟨#[]⟩ : ByteArray) t151 0 0 0 0 0 0 t152 t153 t156 _ ?side1 ?side2 A3.out).mono ?_); (case side1 => exact Kd.C_nil _ _); (case side2 => exact Nat.le_refl _); rintro e w18 ⟨v154, rfl, ho0, hb⟩; refine ⟨_, rfl, ?_⟩; have n0_ := Aside0.mk (Kd.R_lower ho0 (below_size (bk_ HB.out))); have n1_ := Aside0.mk (below_step (bk_ HB.out) hb); clear HB; have HO155 := n0_; have HB := n1_; clear n0_ n1_; (try clear hb); (try clear hb2); (try clear hk); (try clear hi); (try clear ho0)) | ((with_reducible refine gate_dst (N := 3) rfl ?_); (try (refine gate_guard (by rfl) ?_; dsimp only)); refine box_event ?hg (N := 3) ?hd (cs := #[.string (⟨#[]⟩ : ByteArray), .slice none 0 0]) (t := 24) ?hr ?_; (case hd => rfl); (case hg => rfl); (case hr => first | (go_simp; done) | (go_simp; rfl)); intro gb157 hg w19 hbox hb; have n0_ := Aside0.mk (Kd.R_below (bk_ HO155.out) hb); have n1_ := Aside0.mk (below_step (bk_ HB.out) hb); have n2_ := Aside0.mk (hbox); have n3_ := Aside0.mk ((by rw [hg]; exact (below_size (bk_ HB.out)) : w.heap.size ≤ gb157)); have n4_ := Aside0.mk ((by rw [hg]; exact (below_size (bk_ HB.out)) : w.heap.size ≤ gb157)); clear HO155 HB; have HO155 := n0_; have HB := n1_; have BK157 := n2_; have GW157 := n3_; have GE157 := n4_; clear n0_ n1_ n2_ n3_ n4_; clear hb hbox hg; have hcz20_0 : w19.cell? ⟨gb157, 0, none⟩ = some (.string (⟨#[]⟩ : ByteArray)) := (blk_cell BK157.out 0).trans rfl; have hcz20_1 : w19.cell? ⟨gb157, 1, none⟩ = some (.slice none 0 0) := (blk_cell BK157.out 1).trans rfl; have hfz20_0 := blk_frozen BK157.out 0; have hfz20_1 := blk_frozen BK157.out 1; obtain ⟨Ao21, co21, eo21⟩ := Kd.R_slice HO155.out; subst eo21) | ((with_reducible refine gate_callee (f := 18) rfl ?_); refine goesL_ (some 21) rfl rfl Tryd.func18 (by kernel_rfl) rfl #[.agg #[.string t152, .slice Ao21 t153.length co21], .string (⟨#[97]⟩ : ByteArray), .string (⟨#[]⟩ : ByteArray)] rfl (by (try simp only [List.map_toArray, List.map_cons, List.map_nil]); first | done | rfl | (simp only [List.length_drop, List.length_take]; rfl)) ?_; (with_reducible refine (database_Find.calls k t152 _ _ t153 (⟨#[97]⟩ : ByteArray) (⟨#[]⟩ : ByteArray) t158 t159 _ ?side1 ?side2 A4.out).mono ?_); (case side1 => refine (Kd.R_reads' (e := 35) (base := w.heap.size) (ok := fun k_ => True) (n := t153.length) (c := co21) ?_).2.2; exact (by refine bk_ ?_; exact (Kd.R_mono (Kd.R_far (p := ⟨gb157, 1, none⟩) (Kd.R_far (p := ⟨gb157, 0, none⟩) (Kd.R_types HO155.out BK157.out (by decide)) (fun _ hk => hk.2) (.string t152)) (fun _ hk => hk.2) (.slice Ao21 t153.length co21)) (fun _ h_ => h_.1)))); (case side2 => exact (Kd.R_reads' HO155.out).2.1); rintro e w22 ⟨rfl, hb⟩; refine ⟨_, rfl, ?_⟩; have n0_ := Aside0.mk (Kd.R_below (by refine bk_ ?_; exact (Kd.R_mono (Kd.R_far (p := ⟨gb157, 1, none⟩) (Kd.R_far (p := ⟨gb157, 0, none⟩) (Kd.R_types HO155.out BK157.out (by decide)) (fun _ hk => hk.2) (.string t152)) (fun _ hk => hk.2) (.slice Ao21 t153.length co21)) (fun _ h_ => h_.1))) hb); have n1_ := Aside0.mk (blk_below (g := gb157) (o := .cells #[.string t152, .slice Ao21 t153.length co21] 24 (0, 0)) (by refine bk_ ?_; refine blk_put (cs := #[.string t152, .slice none 0 0]) ?_ 1 _ rfl; refine bk_ ?_; refine blk_put (cs := #[.string (⟨#[]⟩ : ByteArray), .slice none 0 0]) ?_ 0 _ rfl; refine bk_ ?_; exact BK157.out) hb); have n2_ := Aside0.mk (below_step (by repeat (first | (with_reducible first | exact HB.out | apply bA_ | apply bN_ | apply bD_ | refine bS_ ?_ GE157.out) | exact HB.out)) hb); clear HO155 BK157 HB; have HO155 := n0_; have BK157 := n1_; have HB := n2_; clear n0_ n1_ n2_; (try clear hb); (try clear hb2); (try clear hk); (try clear hi)))
     go_ret
     exact ⟨by first | rfl | (simp [errW_none, errW_some] <;> rfl) | (simp [*, errW_none, errW_some] <;> rfl), by repeat (first | (with_reducible first | exact HB.out | apply bA_ | apply bN_ | apply bD_ | refine bS_ ?_ GE157.out) | exact HB.out)⟩
    rw [if_neg c8] at H
    have c8b0 : (t159 == 0) = false := beq_eq_false_iff_ne.mpr c8
    have c8b1 : (t159 != 0) = true := bne_iff_ne.mpr c8
    obtain rfl := Option.some.inj H
    go_enter Tryd.func7, Tryd.ntmps7
    go_wp2_with (first | ((with_reducible refine gate_callee (f := 32) rfl ?_); refine goesL_ (some 9) rfl rfl Tryd.func32 (by kernel_rfl) rfl #[.agg #[.string (⟨#[82]⟩ : ByteArray), .slice none 0 0]] rfl (by (try simp only [List.map_toArray, List.map_cons, List.map_nil]); first | done | rfl | (simp only [List.length_drop, List.length_take]; rfl)) ?_; (refine (database_Dump.calls k (⟨#[82]⟩ : ByteArray) _ _ ([] : List (S35)) t149 t150 _ ?side1 ?side2 A1.out).mono ?_); (case side1 => exact Kd.C_nil _ _); (case side2 => exact Nat.le_refl _); rintro e w23 ⟨rfl, hb⟩; refine ⟨_, rfl, ?_⟩; have n0_ := Aside0.mk (below_step (bk_ HB.out) hb); clear HB; have HB := n0_; clear n0_; (try clear hb); (try clear hb2); (try clear hk); (try clear hi)) | ((with_reducible refine gate_callee (f := 13) rfl ?_); refine goesL_ (some 14) rfl rfl Tryd.func13 (by kernel_rfl) rfl #[.int .i64 1] rfl (by (try simp only [List.map_toArray, List.map_cons, List.map_nil]); first | done | rfl | (simp only [List.length_drop, List.length_take]; rfl)) ?_; (with_reducible refine (kerbsuitedata_Long.calls 1 t151 _ A2.out).mono ?_); rintro e w' ⟨rfl, ⟨nd, rfl⟩⟩; refine ⟨_, rfl, ?_⟩; (try (rw [drewN_self w23]; generalize hq_ : World.drewN w23 _ = w23; have n0_ : Aside0 (Below w.heap.size w w23) := ⟨by rw [← hq_]; exact (bk_ HB.out)⟩; clear HB hq_; have HB := n0_; clear n0_))) | ((with_reducible refine gate_callee (f := 25) rfl ?_); refine goesL_ (some 16) rfl rfl Tryd.func25 (by kernel_rfl) rfl #[.agg #[.string (⟨#[82]⟩ : ByteArray), .slice none 0 0], .agg #[.string (⟨#[97]⟩ : ByteArray), .string (⟨#[]⟩ : ByteArray), .int .u64 t151, .int .i64 0, .int .i64 0, .int .i64 0, .int .i64 0, .int .i64 0, .int .i64 0]] rfl (by (try simp only [List.map_toArray, List.map_cons, List.map_nil]); first | done | rfl | (simp only [List.length_drop, List.length_take]; rfl)) ?_; (refine (database_Add.calls k (⟨#[82]⟩ : ByteArray) _ _ ([] : List (S35)) (⟨#[97]⟩ : ByteArray) (⟨#[]⟩ : ByteArray) t151 0 0 0 0 0 0 t152 t153 t156 _ ?side1 ?side2 A3.out).mono ?_); (case side1 => exact Kd.C_nil _ _); (case side2 => exact Nat.le_refl _); rintro e w24 ⟨v154, rfl, ho0, hb⟩; refine ⟨_, rfl, ?_⟩; have n0_ := Aside0.mk (Kd.R_lower ho0 (below_size (bk_ HB.out))); have n1_ := Aside0.mk (below_step (bk_ HB.out) hb); clear HB; have HO155 := n0_; have HB := n1_; clear n0_ n1_; (try clear hb); (try clear hb2); (try clear hk); (try clear hi); (try clear ho0)) | ((with_reducible refine gate_dst (N := 3) rfl ?_); (try (refine gate_guard (by rfl) ?_; dsimp only)); refine box_event ?hg (N := 3) ?hd (cs := #[.string (⟨#[]⟩ : ByteArray), .slice none 0 0]) (t := 24) ?hr ?_; (case hd => rfl); (case hg => rfl); (case hr => first | (go_simp; done) | (go_simp; rfl)); intro gb157 hg w25 hbox hb; have n0_ := Aside0.mk (Kd.R_below (bk_ HO155.out) hb); have n1_ := Aside0.mk (below_step (bk_ HB.out) hb); have n2_ := Aside0.mk (hbox); have n3_ := Aside0.mk ((by rw [hg]; exact (below_size (bk_ HB.out)) : w.heap.size ≤ gb157)); have n4_ := Aside0.mk ((by rw [hg]; exact (below_size (bk_ HB.out)) : w.heap.size ≤ gb157)); clear HO155 HB; have HO155 := n0_; have HB := n1_; have BK157 := n2_; have GW157 := n3_; have GE157 := n4_; clear n0_ n1_ n2_ n3_ n4_; clear hb hbox hg; have hcz26_0 : w25.cell? ⟨gb157, 0, none⟩ = some (.string (⟨#[]⟩ : ByteArray)) := (blk_cell BK157.out 0).trans rfl; have hcz26_1 : w25.cell? ⟨gb157, 1, none⟩ = some (.slice none 0 0) := (blk_cell BK157.out 1).trans rfl; have hfz26_0 := blk_frozen BK157.out 0; have hfz26_1 := blk_frozen BK157.out 1; obtain ⟨Ao27, co27, eo27⟩ := Kd.R_slice HO155.out; subst eo27) | ((with_reducible refine gate_callee (f := 18) rfl ?_); refine goesL_ (some 21) rfl rfl Tryd.func18 (by kernel_rfl) rfl #[.agg #[.string t152, .slice Ao27 t153.length co27], .string (⟨#[97]⟩ : ByteArray), .string (⟨#[]⟩ : ByteArray)] rfl (by (try simp only [List.map_toArray, List.map_cons, List.map_nil]); first | done | rfl | (simp only [List.length_drop, List.length_take]; rfl)) ?_; (with_reducible refine (database_Find.calls k t152 _ _ t153 (⟨#[97]⟩ : ByteArray) (⟨#[]⟩ : ByteArray) t158 t159 _ ?side1 ?side2 A4.out).mono ?_); (case side1 => refine (Kd.R_reads' (e := 35) (base := w.heap.size) (ok := fun k_ => True) (n := t153.length) (c := co27) ?_).2.2; exact (by refine bk_ ?_; exact (Kd.R_mono (Kd.R_far (p := ⟨gb157, 1, none⟩) (Kd.R_far (p := ⟨gb157, 0, none⟩) (Kd.R_types HO155.out BK157.out (by decide)) (fun _ hk => hk.2) (.string t152)) (fun _ hk => hk.2) (.slice Ao27 t153.length co27)) (fun _ h_ => h_.1)))); (case side2 => exact (Kd.R_reads' HO155.out).2.1); rintro e w28 ⟨rfl, hb⟩; refine ⟨_, rfl, ?_⟩; have n0_ := Aside0.mk (Kd.R_below (by refine bk_ ?_; exact (Kd.R_mono (Kd.R_far (p := ⟨gb157, 1, none⟩) (Kd.R_far (p := ⟨gb157, 0, none⟩) (Kd.R_types HO155.out BK157.out (by decide)) (fun _ hk => hk.2) (.string t152)) (fun _ hk => hk.2) (.slice Ao27 t153.length co27)) (fun _ h_ => h_.1))) hb); have n1_ := Aside0.mk (blk_below (g := gb157) (o := .cells #[.string t152, .slice Ao27 t153.length co27] 24 (0, 0)) (by refine bk_ ?_; refine blk_put (cs := #[.string t152, .slice none 0 0]) ?_ 1 _ rfl; refine bk_ ?_; refine blk_put (cs := #[.string (⟨#[]⟩ : ByteArray), .slice none 0 0]) ?_ 0 _ rfl; refine bk_ ?_; exact BK157.out) hb); have n2_ := Aside0.mk (below_step (by repeat (first | (with_reducible first | exact HB.out | apply bA_ | apply bN_ | apply bD_ | refine bS_ ?_ GE157.out) | exact HB.out)) hb); clear HO155 BK157 HB; have HO155 := n0_; have BK157 := n1_; have HB := n2_; clear n0_ n1_ n2_; (try clear hb); (try clear hb2); (try clear hk); (try clear hi)))
    go_ret
    exact ⟨by first | rfl | (simp [errW_none, errW_some] <;> rfl) | (simp [*, errW_none, errW_some] <;> rfl), by repeat (first | (with_reducible first | exact HB.out | apply bA_ | apply bN_ | apply bD_ | refine bS_ ?_ GE157.out) | exact HB.out)⟩
   rw [if_neg c7] at H
   have c7b0 : (t156 == 0) = false := beq_eq_false_iff_ne.mpr c7
   have c7b1 : (t156 != 0) = true := bne_iff_ne.mpr c7
   obtain rfl := Option.some.inj H
   go_enter Tryd.func7, Tryd.ntmps7
   go_wp2_with (first | ((with_reducible refine gate_callee (f := 32) rfl ?_); refine goesL_ (some 9) rfl rfl Tryd.func32 (by kernel_rfl) rfl #[.agg #[.string (⟨#[82]⟩ : ByteArray), .slice none 0 0]] rfl (by (try simp only [List.map_toArray, List.map_cons, List.map_nil]); first | done | rfl | (simp only [List.length_drop, List.length_take]; rfl)) ?_; (refine (database_Dump.calls k (⟨#[82]⟩ : ByteArray) _ _ ([] : List (S35)) t149 t150 _ ?side1 ?side2 A1.out).mono ?_); (case side1 => exact Kd.C_nil _ _); (case side2 => exact Nat.le_refl _); rintro e w29 ⟨rfl, hb⟩; refine ⟨_, rfl, ?_⟩; have n0_ := Aside0.mk (below_step (bk_ HB.out) hb); clear HB; have HB := n0_; clear n0_; (try clear hb); (try clear hb2); (try clear hk); (try clear hi)) | ((with_reducible refine gate_callee (f := 13) rfl ?_); refine goesL_ (some 14) rfl rfl Tryd.func13 (by kernel_rfl) rfl #[.int .i64 1] rfl (by (try simp only [List.map_toArray, List.map_cons, List.map_nil]); first | done | rfl | (simp only [List.length_drop, List.length_take]; rfl)) ?_; (with_reducible refine (kerbsuitedata_Long.calls 1 t151 _ A2.out).mono ?_); rintro e w' ⟨rfl, ⟨nd, rfl⟩⟩; refine ⟨_, rfl, ?_⟩; (try (rw [drewN_self w29]; generalize hq_ : World.drewN w29 _ = w29; have n0_ : Aside0 (Below w.heap.size w w29) := ⟨by rw [← hq_]; exact (bk_ HB.out)⟩; clear HB hq_; have HB := n0_; clear n0_))) | ((with_reducible refine gate_callee (f := 25) rfl ?_); refine goesL_ (some 16) rfl rfl Tryd.func25 (by kernel_rfl) rfl #[.agg #[.string (⟨#[82]⟩ : ByteArray), .slice none 0 0], .agg #[.string (⟨#[97]⟩ : ByteArray), .string (⟨#[]⟩ : ByteArray), .int .u64 t151, .int .i64 0, .int .i64 0, .int .i64 0, .int .i64 0, .int .i64 0, .int .i64 0]] rfl (by (try simp only [List.map_toArray, List.map_cons, List.map_nil]); first | done | rfl | (simp only [List.length_drop, List.length_take]; rfl)) ?_; (refine (database_Add.calls k (⟨#[82]⟩ : ByteArray) _ _ ([] : List (S35)) (⟨#[97]⟩ : ByteArray) (⟨#[]⟩ : ByteArray) t151 0 0 0 0 0 0 t152 t153 t156 _ ?side1 ?side2 A3.out).mono ?_); (case side1 => exact Kd.C_nil _ _); (case side2 => exact Nat.le_refl _); rintro e w30 ⟨v154, rfl, ho0, hb⟩; refine ⟨_, rfl, ?_⟩; have n0_ := Aside0.mk (Kd.R_lower ho0 (below_size (bk_ HB.out))); have n1_ := Aside0.mk (below_step (bk_ HB.out) hb); clear HB; have HO155 := n0_; have HB := n1_; clear n0_ n1_; (try clear hb); (try clear hb2); (try clear hk); (try clear hi); (try clear ho0)) | ((with_reducible refine gate_dst (N := 3) rfl ?_); (try (refine gate_guard (by rfl) ?_; dsimp only)); refine box_event ?hg (N := 3) ?hd (cs := #[.string (⟨#[]⟩ : ByteArray), .slice none 0 0]) (t := 24) ?hr ?_; (case hd => rfl); (case hg => rfl); (case hr => first | (go_simp; done) | (go_simp; rfl)); intro gb157 hg w31 hbox hb; have n0_ := Aside0.mk (Kd.R_below (bk_ HO155.out) hb); have n1_ := Aside0.mk (below_step (bk_ HB.out) hb); have n2_ := Aside0.mk (hbox); have n3_ := Aside0.mk ((by rw [hg]; exact (below_size (bk_ HB.out)) : w.heap.size ≤ gb157)); have n4_ := Aside0.mk ((by rw [hg]; exact (below_size (bk_ HB.out)) : w.heap.size ≤ gb157)); clear HO155 HB; have HO155 := n0_; have HB := n1_; have BK157 := n2_; have GW157 := n3_; have GE157 := n4_; clear n0_ n1_ n2_ n3_ n4_; clear hb hbox hg; have hcz32_0 : w31.cell? ⟨gb157, 0, none⟩ = some (.string (⟨#[]⟩ : ByteArray)) := (blk_cell BK157.out 0).trans rfl; have hcz32_1 : w31.cell? ⟨gb157, 1, none⟩ = some (.slice none 0 0) := (blk_cell BK157.out 1).trans rfl; have hfz32_0 := blk_frozen BK157.out 0; have hfz32_1 := blk_frozen BK157.out 1; obtain ⟨Ao33, co33, eo33⟩ := Kd.R_slice HO155.out; subst eo33) | ((with_reducible refine gate_callee (f := 18) rfl ?_); refine goesL_ (some 21) rfl rfl Tryd.func18 (by kernel_rfl) rfl #[.agg #[.string t152, .slice Ao33 t153.length co33], .string (⟨#[97]⟩ : ByteArray), .string (⟨#[]⟩ : ByteArray)] rfl (by (try simp only [List.map_toArray, List.map_cons, List.map_nil]); first | done | rfl | (simp only [List.length_drop, List.length_take]; rfl)) ?_; (with_reducible refine (database_Find.calls k t152 _ _ t153 (⟨#[97]⟩ : ByteArray) (⟨#[]⟩ : ByteArray) t158 t159 _ ?side1 ?side2 A4.out).mono ?_); (case side1 => refine (Kd.R_reads' (e := 35) (base := w.heap.size) (ok := fun k_ => True) (n := t153.length) (c := co33) ?_).2.2; exact (by refine bk_ ?_; exact (Kd.R_mono (Kd.R_far (p := ⟨gb157, 1, none⟩) (Kd.R_far (p := ⟨gb157, 0, none⟩) (Kd.R_types HO155.out BK157.out (by decide)) (fun _ hk => hk.2) (.string t152)) (fun _ hk => hk.2) (.slice Ao33 t153.length co33)) (fun _ h_ => h_.1)))); (case side2 => exact (Kd.R_reads' HO155.out).2.1); rintro e w34 ⟨rfl, hb⟩; refine ⟨_, rfl, ?_⟩; have n0_ := Aside0.mk (Kd.R_below (by refine bk_ ?_; exact (Kd.R_mono (Kd.R_far (p := ⟨gb157, 1, none⟩) (Kd.R_far (p := ⟨gb157, 0, none⟩) (Kd.R_types HO155.out BK157.out (by decide)) (fun _ hk => hk.2) (.string t152)) (fun _ hk => hk.2) (.slice Ao33 t153.length co33)) (fun _ h_ => h_.1))) hb); have n1_ := Aside0.mk (blk_below (g := gb157) (o := .cells #[.string t152, .slice Ao33 t153.length co33] 24 (0, 0)) (by refine bk_ ?_; refine blk_put (cs := #[.string t152, .slice none 0 0]) ?_ 1 _ rfl; refine bk_ ?_; refine blk_put (cs := #[.string (⟨#[]⟩ : ByteArray), .slice none 0 0]) ?_ 0 _ rfl; refine bk_ ?_; exact BK157.out) hb); have n2_ := Aside0.mk (below_step (by repeat (first | (with_reducible first | exact HB.out | apply bA_ | apply bN_ | apply bD_ | refine bS_ ?_ GE157.out) | exact HB.out)) hb); clear HO155 BK157 HB; have HO155 := n0_; have BK157 := n1_; have HB := n2_; clear n0_ n1_ n2_; (try clear hb); (try clear hb2); (try clear hk); (try clear hi)))
   go_ret
   exact ⟨by first | rfl | (simp [errW_none, errW_some] <;> rfl) | (simp [*, errW_none, errW_some] <;> rfl), by repeat (first | (with_reducible first | exact HB.out | apply bA_ | apply bN_ | apply bD_ | refine bS_ ?_ GE157.out) | exact HB.out)⟩
  rw [if_neg c6] at H
  have c6b0 : (t149.toList == ([82, 10] : List UInt8)) = false := beq_eq_false_iff_ne.mpr c6
  have c6b1 : (t149.toList != ([82, 10] : List UInt8)) = true := bne_iff_ne.mpr c6
  obtain rfl := Option.some.inj H
  go_enter Tryd.func7, Tryd.ntmps7
  go_wp2_with (first | ((with_reducible refine gate_callee (f := 32) rfl ?_); refine goesL_ (some 9) rfl rfl Tryd.func32 (by kernel_rfl) rfl #[.agg #[.string (⟨#[82]⟩ : ByteArray), .slice none 0 0]] rfl (by (try simp only [List.map_toArray, List.map_cons, List.map_nil]); first | done | rfl | (simp only [List.length_drop, List.length_take]; rfl)) ?_; (refine (database_Dump.calls k (⟨#[82]⟩ : ByteArray) _ _ ([] : List (S35)) t149 t150 _ ?side1 ?side2 A1.out).mono ?_); (case side1 => exact Kd.C_nil _ _); (case side2 => exact Nat.le_refl _); rintro e w35 ⟨rfl, hb⟩; refine ⟨_, rfl, ?_⟩; have n0_ := Aside0.mk (below_step (bk_ HB.out) hb); clear HB; have HB := n0_; clear n0_; (try clear hb); (try clear hb2); (try clear hk); (try clear hi)) | ((with_reducible refine gate_callee (f := 13) rfl ?_); refine goesL_ (some 14) rfl rfl Tryd.func13 (by kernel_rfl) rfl #[.int .i64 1] rfl (by (try simp only [List.map_toArray, List.map_cons, List.map_nil]); first | done | rfl | (simp only [List.length_drop, List.length_take]; rfl)) ?_; (with_reducible refine (kerbsuitedata_Long.calls 1 t151 _ A2.out).mono ?_); rintro e w' ⟨rfl, ⟨nd, rfl⟩⟩; refine ⟨_, rfl, ?_⟩; (try (rw [drewN_self w35]; generalize hq_ : World.drewN w35 _ = w35; have n0_ : Aside0 (Below w.heap.size w w35) := ⟨by rw [← hq_]; exact (bk_ HB.out)⟩; clear HB hq_; have HB := n0_; clear n0_))) | ((with_reducible refine gate_callee (f := 25) rfl ?_); refine goesL_ (some 16) rfl rfl Tryd.func25 (by kernel_rfl) rfl #[.agg #[.string (⟨#[82]⟩ : ByteArray), .slice none 0 0], .agg #[.string (⟨#[97]⟩ : ByteArray), .string (⟨#[]⟩ : ByteArray), .int .u64 t151, .int .i64 0, .int .i64 0, .int .i64 0, .int .i64 0, .int .i64 0, .int .i64 0]] rfl (by (try simp only [List.map_toArray, List.map_cons, List.map_nil]); first | done | rfl | (simp only [List.length_drop, List.length_take]; rfl)) ?_; (refine (database_Add.calls k (⟨#[82]⟩ : ByteArray) _ _ ([] : List (S35)) (⟨#[97]⟩ : ByteArray) (⟨#[]⟩ : ByteArray) t151 0 0 0 0 0 0 t152 t153 t156 _ ?side1 ?side2 A3.out).mono ?_); (case side1 => exact Kd.C_nil _ _); (case side2 => exact Nat.le_refl _); rintro e w36 ⟨v154, rfl, ho0, hb⟩; refine ⟨_, rfl, ?_⟩; have n0_ := Aside0.mk (Kd.R_lower ho0 (below_size (bk_ HB.out))); have n1_ := Aside0.mk (below_step (bk_ HB.out) hb); clear HB; have HO155 := n0_; have HB := n1_; clear n0_ n1_; (try clear hb); (try clear hb2); (try clear hk); (try clear hi); (try clear ho0)) | ((with_reducible refine gate_dst (N := 3) rfl ?_); (try (refine gate_guard (by rfl) ?_; dsimp only)); refine box_event ?hg (N := 3) ?hd (cs := #[.string (⟨#[]⟩ : ByteArray), .slice none 0 0]) (t := 24) ?hr ?_; (case hd => rfl); (case hg => rfl); (case hr => first | (go_simp; done) | (go_simp; rfl)); intro gb157 hg w37 hbox hb; have n0_ := Aside0.mk (Kd.R_below (bk_ HO155.out) hb); have n1_ := Aside0.mk (below_step (bk_ HB.out) hb); have n2_ := Aside0.mk (hbox); have n3_ := Aside0.mk ((by rw [hg]; exact (below_size (bk_ HB.out)) : w.heap.size ≤ gb157)); have n4_ := Aside0.mk ((by rw [hg]; exact (below_size (bk_ HB.out)) : w.heap.size ≤ gb157)); clear HO155 HB; have HO155 := n0_; have HB := n1_; have BK157 := n2_; have GW157 := n3_; have GE157 := n4_; clear n0_ n1_ n2_ n3_ n4_; clear hb hbox hg; have hcz38_0 : w37.cell? ⟨gb157, 0, none⟩ = some (.string (⟨#[]⟩ : ByteArray)) := (blk_cell BK157.out 0).trans rfl; have hcz38_1 : w37.cell? ⟨gb157, 1, none⟩ = some (.slice none 0 0) := (blk_cell BK157.out 1).trans rfl; have hfz38_0 := blk_frozen BK157.out 0; have hfz38_1 := blk_frozen BK157.out 1; obtain ⟨Ao39, co39, eo39⟩ := Kd.R_slice HO155.out; subst eo39) | ((with_reducible refine gate_callee (f := 18) rfl ?_); refine goesL_ (some 21) rfl rfl Tryd.func18 (by kernel_rfl) rfl #[.agg #[.string t152, .slice Ao39 t153.length co39], .string (⟨#[97]⟩ : ByteArray), .string (⟨#[]⟩ : ByteArray)] rfl (by (try simp only [List.map_toArray, List.map_cons, List.map_nil]); first | done | rfl | (simp only [List.length_drop, List.length_take]; rfl)) ?_; (with_reducible refine (database_Find.calls k t152 _ _ t153 (⟨#[97]⟩ : ByteArray) (⟨#[]⟩ : ByteArray) t158 t159 _ ?side1 ?side2 A4.out).mono ?_); (case side1 => refine (Kd.R_reads' (e := 35) (base := w.heap.size) (ok := fun k_ => True) (n := t153.length) (c := co39) ?_).2.2; exact (by refine bk_ ?_; exact (Kd.R_mono (Kd.R_far (p := ⟨gb157, 1, none⟩) (Kd.R_far (p := ⟨gb157, 0, none⟩) (Kd.R_types HO155.out BK157.out (by decide)) (fun _ hk => hk.2) (.string t152)) (fun _ hk => hk.2) (.slice Ao39 t153.length co39)) (fun _ h_ => h_.1)))); (case side2 => exact (Kd.R_reads' HO155.out).2.1); rintro e w40 ⟨rfl, hb⟩; refine ⟨_, rfl, ?_⟩; have n0_ := Aside0.mk (Kd.R_below (by refine bk_ ?_; exact (Kd.R_mono (Kd.R_far (p := ⟨gb157, 1, none⟩) (Kd.R_far (p := ⟨gb157, 0, none⟩) (Kd.R_types HO155.out BK157.out (by decide)) (fun _ hk => hk.2) (.string t152)) (fun _ hk => hk.2) (.slice Ao39 t153.length co39)) (fun _ h_ => h_.1))) hb); have n1_ := Aside0.mk (blk_below (g := gb157) (o := .cells #[.string t152, .slice Ao39 t153.length co39] 24 (0, 0)) (by refine bk_ ?_; refine blk_put (cs := #[.string t152, .slice none 0 0]) ?_ 1 _ rfl; refine bk_ ?_; refine blk_put (cs := #[.string (⟨#[]⟩ : ByteArray), .slice none 0 0]) ?_ 0 _ rfl; refine bk_ ?_; exact BK157.out) hb); have n2_ := Aside0.mk (below_step (by repeat (first | (with_reducible first | exact HB.out | apply bA_ | apply bN_ | apply bD_ | refine bS_ ?_ GE157.out) | exact HB.out)) hb); clear HO155 BK157 HB; have HO155 := n0_; have BK157 := n1_; have HB := n2_; clear n0_ n1_ n2_; (try clear hb); (try clear hb2); (try clear hk); (try clear hi)))
  go_ret
  exact ⟨by first | rfl | (simp [errW_none, errW_some] <;> rfl) | (simp [*, errW_none, errW_some] <;> rfl), by repeat (first | (with_reducible first | exact HB.out | apply bA_ | apply bN_ | apply bD_ | refine bS_ ?_ GE157.out) | exact HB.out)⟩
 rw [if_neg c5] at H
 have c5b0 : (t150 == 0) = false := beq_eq_false_iff_ne.mpr c5
 have c5b1 : (t150 != 0) = true := bne_iff_ne.mpr c5
 obtain rfl := Option.some.inj H
 go_enter Tryd.func7, Tryd.ntmps7
 go_wp2_with (first | ((with_reducible refine gate_callee (f := 32) rfl ?_); refine goesL_ (some 9) rfl rfl Tryd.func32 (by kernel_rfl) rfl #[.agg #[.string (⟨#[82]⟩ : ByteArray), .slice none 0 0]] rfl (by (try simp only [List.map_toArray, List.map_cons, List.map_nil]); first | done | rfl | (simp only [List.length_drop, List.length_take]; rfl)) ?_; (refine (database_Dump.calls k (⟨#[82]⟩ : ByteArray) _ _ ([] : List (S35)) t149 t150 _ ?side1 ?side2 A1.out).mono ?_); (case side1 => exact Kd.C_nil _ _); (case side2 => exact Nat.le_refl _); rintro e w41 ⟨rfl, hb⟩; refine ⟨_, rfl, ?_⟩; have n0_ := Aside0.mk (below_step (bk_ HB.out) hb); clear HB; have HB := n0_; clear n0_; (try clear hb); (try clear hb2); (try clear hk); (try clear hi)) | ((with_reducible refine gate_callee (f := 13) rfl ?_); refine goesL_ (some 14) rfl rfl Tryd.func13 (by kernel_rfl) rfl #[.int .i64 1] rfl (by (try simp only [List.map_toArray, List.map_cons, List.map_nil]); first | done | rfl | (simp only [List.length_drop, List.length_take]; rfl)) ?_; (with_reducible refine (kerbsuitedata_Long.calls 1 t151 _ A2.out).mono ?_); rintro e w' ⟨rfl, ⟨nd, rfl⟩⟩; refine ⟨_, rfl, ?_⟩; (try (rw [drewN_self w41]; generalize hq_ : World.drewN w41 _ = w41; have n0_ : Aside0 (Below w.heap.size w w41) := ⟨by rw [← hq_]; exact (bk_ HB.out)⟩; clear HB hq_; have HB := n0_; clear n0_))) | ((with_reducible refine gate_callee (f := 25) rfl ?_); refine goesL_ (some 16) rfl rfl Tryd.func25 (by kernel_rfl) rfl #[.agg #[.string (⟨#[82]⟩ : ByteArray), .slice none 0 0], .agg #[.string (⟨#[97]⟩ : ByteArray), .string (⟨#[]⟩ : ByteArray), .int .u64 t151, .int .i64 0, .int .i64 0, .int .i64 0, .int .i64 0, .int .i64 0, .int .i64 0]] rfl (by (try simp only [List.map_toArray, List.map_cons, List.map_nil]); first | done | rfl | (simp only [List.length_drop, List.length_take]; rfl)) ?_; (refine (database_Add.calls k (⟨#[82]⟩ : ByteArray) _ _ ([] : List (S35)) (⟨#[97]⟩ : ByteArray) (⟨#[]⟩ : ByteArray) t151 0 0 0 0 0 0 t152 t153 t156 _ ?side1 ?side2 A3.out).mono ?_); (case side1 => exact Kd.C_nil _ _); (case side2 => exact Nat.le_refl _); rintro e w42 ⟨v154, rfl, ho0, hb⟩; refine ⟨_, rfl, ?_⟩; have n0_ := Aside0.mk (Kd.R_lower ho0 (below_size (bk_ HB.out))); have n1_ := Aside0.mk (below_step (bk_ HB.out) hb); clear HB; have HO155 := n0_; have HB := n1_; clear n0_ n1_; (try clear hb); (try clear hb2); (try clear hk); (try clear hi); (try clear ho0)) | ((with_reducible refine gate_dst (N := 3) rfl ?_); (try (refine gate_guard (by rfl) ?_; dsimp only)); refine box_event ?hg (N := 3) ?hd (cs := #[.string (⟨#[]⟩ : ByteArray), .slice none 0 0]) (t := 24) ?hr ?_; (case hd => rfl); (case hg => rfl); (case hr => first | (go_simp; done) | (go_simp; rfl)); intro gb157 hg w43 hbox hb; have n0_ := Aside0.mk (Kd.R_below (bk_ HO155.out) hb); have n1_ := Aside0.mk (below_step (bk_ HB.out) hb); have n2_ := Aside0.mk (hbox); have n3_ := Aside0.mk ((by rw [hg]; exact (below_size (bk_ HB.out)) : w.heap.size ≤ gb157)); have n4_ := Aside0.mk ((by rw [hg]; exact (below_size (bk_ HB.out)) : w.heap.size ≤ gb157)); clear HO155 HB; have HO155 := n0_; have HB := n1_; have BK157 := n2_; have GW157 := n3_; have GE157 := n4_; clear n0_ n1_ n2_ n3_ n4_; clear hb hbox hg; have hcz44_0 : w43.cell? ⟨gb157, 0, none⟩ = some (.string (⟨#[]⟩ : ByteArray)) := (blk_cell BK157.out 0).trans rfl; have hcz44_1 : w43.cell? ⟨gb157, 1, none⟩ = some (.slice none 0 0) := (blk_cell BK157.out 1).trans rfl; have hfz44_0 := blk_frozen BK157.out 0; have hfz44_1 := blk_frozen BK157.out 1; obtain ⟨Ao45, co45, eo45⟩ := Kd.R_slice HO155.out; subst eo45) | ((with_reducible refine gate_callee (f := 18) rfl ?_); refine goesL_ (some 21) rfl rfl Tryd.func18 (by kernel_rfl) rfl #[.agg #[.string t152, .slice Ao45 t153.length co45], .string (⟨#[97]⟩ : ByteArray), .string (⟨#[]⟩ : ByteArray)] rfl (by (try simp only [List.map_toArray, List.map_cons, List.map_nil]); first | done | rfl | (simp only [List.length_drop, List.length_take]; rfl)) ?_; (with_reducible refine (database_Find.calls k t152 _ _ t153 (⟨#[97]⟩ : ByteArray) (⟨#[]⟩ : ByteArray) t158 t159 _ ?side1 ?side2 A4.out).mono ?_); (case side1 => refine (Kd.R_reads' (e := 35) (base := w.heap.size) (ok := fun k_ => True) (n := t153.length) (c := co45) ?_).2.2; exact (by refine bk_ ?_; exact (Kd.R_mono (Kd.R_far (p := ⟨gb157, 1, none⟩) (Kd.R_far (p := ⟨gb157, 0, none⟩) (Kd.R_types HO155.out BK157.out (by decide)) (fun _ hk => hk.2) (.string t152)) (fun _ hk => hk.2) (.slice Ao45 t153.length co45)) (fun _ h_ => h_.1)))); (case side2 => exact (Kd.R_reads' HO155.out).2.1); rintro e w46 ⟨rfl, hb⟩; refine ⟨_, rfl, ?_⟩; have n0_ := Aside0.mk (Kd.R_below (by refine bk_ ?_; exact (Kd.R_mono (Kd.R_far (p := ⟨gb157, 1, none⟩) (Kd.R_far (p := ⟨gb157, 0, none⟩) (Kd.R_types HO155.out BK157.out (by decide)) (fun _ hk => hk.2) (.string t152)) (fun _ hk => hk.2) (.slice Ao45 t153.length co45)) (fun _ h_ => h_.1))) hb); have n1_ := Aside0.mk (blk_below (g := gb157) (o := .cells #[.string t152, .slice Ao45 t153.length co45] 24 (0, 0)) (by refine bk_ ?_; refine blk_put (cs := #[.string t152, .slice none 0 0]) ?_ 1 _ rfl; refine bk_ ?_; refine blk_put (cs := #[.string (⟨#[]⟩ : ByteArray), .slice none 0 0]) ?_ 0 _ rfl; refine bk_ ?_; exact BK157.out) hb); have n2_ := Aside0.mk (below_step (by repeat (first | (with_reducible first | exact HB.out | apply bA_ | apply bN_ | apply bD_ | refine bS_ ?_ GE157.out) | exact HB.out)) hb); clear HO155 BK157 HB; have HO155 := n0_; have BK157 := n1_; have HB := n2_; clear n0_ n1_ n2_; (try clear hb); (try clear hb2); (try clear hk); (try clear hi)))
 go_ret
 exact ⟨by first | rfl | (simp [errW_none, errW_some] <;> rfl) | (simp [*, errW_none, errW_some] <;> rfl), by repeat (first | (with_reducible first | exact HB.out | apply bA_ | apply bN_ | apply bD_ | refine bS_ ?_ GE157.out) | exact HB.out)⟩

/-! ### kerbsuitelaw12_long: function 8 -/
mutual
def kerbsuitelaw12_long.j0 : Nat → Bool → ByteArray → List (S35) → Option (Bool)
 | 0, _, _, _ => none
 | k + 1, x13, x161000, x161001 => if x13 = true then (some true) else (kerbsuitelaw12_long.l0 k 0 x161000 x161001)
def kerbsuitelaw12_long.l0 : Nat → Int → ByteArray → List (S35) → Option (Bool)
 | 0, _, _, _ => none
 | k + 1, x3, x161000, x161001 => if x3 < (x161001.length : Int) then (if 0 ≤ x3 then (if (((rd_T35 x161001 x3).f0).size : Int) > 100 then (some true) else (if (((rd_T35 x161001 x3).f1).size : Int) > 100 then (some true) else (kerbsuitelaw12_long.l0 k (wrap64 (x3 + 1)) x161000 x161001))) else (none)) else (some false)
end
def kerbsuitelaw12_long.f (k : Nat) (a0_0 : ByteArray) (l0_1 : List (S35)) : Option (Bool) := if (l0_1.length : Int) > 70 then (kerbsuitelaw12_long.j0 k true a0_0 l0_1) else (kerbsuitelaw12_long.j0 k (decide ((a0_0.size : Int) > 100)) a0_0 l0_1)
theorem kerbsuitelaw12_long.mono_l : ∀ k, (∀ y0 y1 y2, LeO (kerbsuitelaw12_long.j0 k y0 y1 y2) (kerbsuitelaw12_long.j0 (k + 1) y0 y1 y2)) ∧ (∀ y0 y1 y2, LeO (kerbsuitelaw12_long.l0 k y0 y1 y2) (kerbsuitelaw12_long.l0 (k + 1) y0 y1 y2))
 | 0 => ⟨fun _ _ _ r h => by simp [kerbsuitelaw12_long.j0] at h, fun _ _ _ r h => by simp [kerbsuitelaw12_long.l0] at h⟩
 | k + 1 => by
  obtain ⟨ih0, ih1⟩ := kerbsuitelaw12_long.mono_l k
  refine ⟨?_, ?_⟩
  ·intro y0 y1 y2
   unfold kerbsuitelaw12_long.j0
   repeat' first
   | (with_reducible exact ih0 _ _ _)
   | (with_reducible exact ih1 _ _ _)
   | (with_reducible exact LeO.refl _)
   | (with_reducible exact LeO.none _)
   | (with_reducible refine LeO.ite ?_ ?_)
   | (with_reducible refine LeO.bind ?_ (fun _ => ?_))
   | exact ih0 _ _ _
   | exact ih1 _ _ _
   | exact LeO.none _
   | refine LeO.ite ?_ ?_
   | refine LeO.bind ?_ (fun _ => ?_)
  intro y0 y1 y2
  unfold kerbsuitelaw12_long.l0
  repeat' first
  | (with_reducible exact ih0 _ _ _)
  | (with_reducible exact ih1 _ _ _)
  | (with_reducible exact LeO.refl _)
  | (with_reducible exact LeO.none _)
  | (with_reducible refine LeO.ite ?_ ?_)
  | (with_reducible refine LeO.bind ?_ (fun _ => ?_))
  | exact ih0 _ _ _
  | exact ih1 _ _ _
  | exact LeO.none _
  | refine LeO.ite ?_ ?_
  | refine LeO.bind ?_ (fun _ => ?_)
theorem kerbsuitelaw12_long.mono : ∀ a0 a1 k, LeO (kerbsuitelaw12_long.f k a0 a1) (kerbsuitelaw12_long.f (k + 1) a0 a1) := by
 intro a0 a1 k
 obtain ⟨ih0, ih1⟩ := kerbsuitelaw12_long.mono_l k
 unfold kerbsuitelaw12_long.f
 repeat' first
   | (with_reducible exact ih0 _ _ _)
   | (with_reducible exact ih1 _ _ _)
   | (with_reducible exact LeO.refl _)
   | (with_reducible exact LeO.none _)
   | (with_reducible refine LeO.ite ?_ ?_)
   | (with_reducible refine LeO.bind ?_ (fun _ => ?_))
   | exact ih0 _ _ _
   | exact ih1 _ _ _
   | exact LeO.none _
   | refine LeO.ite ?_ ?_
   | refine LeO.bind ?_ (fun _ => ?_)
set_option maxHeartbeats 8000000 in
set_option maxRecDepth 100000 in
theorem kerbsuitelaw12_long.calls (k : Nat) (a0_0 : ByteArray) (A0_1 : Option Addr) (c0_1 : Nat) (l0_1 : List (S35)) (r : Bool) (w : World) (hr0_1 : Kd.C k35 w A0_1 l0_1.length l0_1) (hc0_1 : l0_1.length ≤ c0_1) (h : kerbsuitelaw12_long.f k a0_0 l0_1 = some r) :
  Calls Tryd.prog 8 #[.agg #[.string a0_0, .slice A0_1 l0_1.length c0_1]] w fun e w' => e = .returned (.bool r) ∧ Below w.heap.size w w' := by
 have hu24 := Tryd.underlying24
 have HR0_1 := Aside0.mk hr0_1
 have HC0_1 := Aside0.mk hc0_1
 clear hr0_1 hc0_1
 have HB := Aside0.mk (Below.refl w.heap.size w)
 have H : (if (l0_1.length : Int) > 70 then (kerbsuitelaw12_long.j0 k true a0_0 l0_1) else (kerbsuitelaw12_long.j0 k (decide ((a0_0.size : Int) > 100)) a0_0 l0_1)) = some r := h
 clear h
 have HC2 := Aside0.mk H
 clear H
 go_enter Tryd.func8, Tryd.ntmps8
 go_upto_region 1 with (first | ((with_reducible refine gate_dst (N := 1) rfl ?_); (try (refine gate_guard (by rfl) ?_; dsimp only)); refine box_event ?hg (N := 1) ?hd (cs := #[.string a0_0, .slice A0_1 l0_1.length c0_1]) (t := 24) ?hr ?_; (case hd => rfl); (case hg => rfl); (case hr => first | (go_simp; done) | (go_simp; rfl)); intro gb160 hg w3 hbox hb; have n0_ := Aside0.mk (below_step (bk_ HB.out) hb); have n1_ := Aside0.mk (hbox); have n2_ := Aside0.mk ((by rw [hg]; exact (below_size (bk_ HB.out)) : w.heap.size ≤ gb160)); have n3_ := Aside0.mk ((by rw [hg]; exact (below_size (bk_ HB.out)) : w.heap.size ≤ gb160)); clear HB; have HB := n0_; have BK160 := n1_; have GW160 := n2_; have GE160 := n3_; clear n0_ n1_ n2_ n3_; clear hb hbox hg))
 (try simp only [Act.put, sA_, sB_, sC_])
 go_cut [13] (fun v13 wc => ∃ (kq : Nat) (x13_1 : Bool), v13 = .bool x13_1 ∧ Aside0 (kerbsuitelaw12_long.j0 kq x13_1 a0_0 l0_1 = some r) ∧ Aside0 (kq ≤ k) ∧ Aside0 (wc.heap[gb160]? = some (.cells #[.string a0_0, (.slice A0_1 l0_1.length c0_1)] 24 (0, 0))) ∧ Aside0 (Below w.heap.size w wc))
 case first =>
  have H := HC2.out
  clear HC2
  by_cases c4 : (l0_1.length : Int) > 70
  ·rw [if_pos c4] at H
   have c4b0 : decide (70 < (l0_1.length : Int)) = true := decide_eq_true c4
   have c4b1 : decide (70 < l0_1.length) = true := decide_eq_true (by omega)
   clear c4
   (first | rw [c4b0] | (simp only [i64_w, i32_w]; rw [c4b0]) | skip)
   have H' := Aside0.mk H
   clear H
   have hcz5_0 : w3.cell? ⟨gb160, 0, none⟩ = some (.string a0_0) := (blk_cell BK160.out 0).trans rfl
   have hcz5_1 : w3.cell? ⟨gb160, 1, none⟩ = some (.slice A0_1 l0_1.length c0_1) := (blk_cell BK160.out 1).trans rfl
   have hfz5_0 := blk_frozen BK160.out 0
   have hfz5_1 := blk_frozen BK160.out 1
   go_wp2
   go_meet
   case rel => exact ⟨_, (true), (by first | rfl | (simp; done) | (simp [*]; done)), H', ⟨by first | omega | exact Nat.le_refl _⟩, ⟨by refine bk_ ?_; exact BK160.out⟩, ⟨by repeat (first | (with_reducible first | exact HB.out | apply bA_ | apply bN_ | apply bD_ | refine bS_ ?_ GE160.out) | exact HB.out)⟩⟩
  rw [if_neg c4] at H
  have c4b0 : decide (70 < (l0_1.length : Int)) = false := decide_eq_false c4
  have c4b1 : decide (70 < l0_1.length) = false := decide_eq_false (by omega)
  clear c4
  (first | rw [c4b0] | (simp only [i64_w, i32_w]; rw [c4b0]) | skip)
  have H' := Aside0.mk H
  clear H
  have hcz6_0 : w3.cell? ⟨gb160, 0, none⟩ = some (.string a0_0) := (blk_cell BK160.out 0).trans rfl
  have hcz6_1 : w3.cell? ⟨gb160, 1, none⟩ = some (.slice A0_1 l0_1.length c0_1) := (blk_cell BK160.out 1).trans rfl
  have hfz6_0 := blk_frozen BK160.out 0
  have hfz6_1 := blk_frozen BK160.out 1
  go_wp2
  go_meet
  case rel => exact ⟨_, (decide ((a0_0.size : Int) > 100)), (by first | rfl | (simp; done) | (simp [*]; done)), H', ⟨by first | omega | exact Nat.le_refl _⟩, ⟨by refine bk_ ?_; exact BK160.out⟩, ⟨by repeat (first | (with_reducible first | exact HB.out | apply bA_ | apply bN_ | apply bD_ | refine bS_ ?_ GE160.out) | exact HB.out)⟩⟩
 case rest =>
  clear HC2
  try clear p2
  try clear c4
  try clear c4b0
  try clear c4b1
  try clear hcz5_0
  try clear hcz5_1
  try clear hcz6_0
  try clear hcz6_1
  try clear hfz5_0
  try clear hfz5_1
  try clear hfz6_0
  try clear hfz6_1
  obtain ⟨kq, x13_1, rfl, HA, HJ1, BK160, HB⟩ := hcut
  cases kq with
  | zero => exact absurd HA.out (by simp [kerbsuitelaw12_long.j0])
  | succ kj1 =>
   have H := HA.out
   clear HA
   simp only [kerbsuitelaw12_long.j0] at H
   by_cases c7 : x13_1 = true
   ·subst c7
    have H1 : (some true) = some r := by rw [if_pos rfl] at H; exact H
    clear H
    have H := H1
    clear H1
    obtain rfl := Option.some.inj H
    go_wp2
    go_ret
    exact ⟨by first | rfl | (simp [errW_none, errW_some] <;> rfl) | (simp [*, errW_none, errW_some] <;> rfl), by repeat (first | (with_reducible first | exact HB.out | apply bA_ | apply bN_ | apply bD_ | refine bS_ ?_ GE160.out) | exact HB.out)⟩
   replace c7 := Bool.eq_false_iff.mpr c7
   subst c7
   have H1 : (kerbsuitelaw12_long.l0 kj1 0 a0_0 l0_1) = some r := by rw [if_neg (show ¬ (false = true) by decide)] at H; exact H
   clear H
   have H := H1
   clear H1
   have H' := Aside0.mk H
   clear H
   go_wp2
   go_loopg [3] kj1 (fun kq v3 w' => ∃ (x3_2 : Int), v3 = .int .i64 x3_2 ∧ Aside0 (kerbsuitelaw12_long.l0 kq x3_2 a0_0 l0_1 = some r) ∧ Aside0 (kq ≤ kj1) ∧ Aside0 (w'.heap[gb160]? = some (.cells #[.string a0_0, (.slice A0_1 l0_1.length c0_1)] 24 (0, 0))) ∧ Aside0 (Below w.heap.size w w'))
   case atStart => exact ⟨(0), (by first | rfl | (simp; done) | (simp [*]; done)), H', ⟨Nat.le_refl _⟩, ⟨by refine bk_ ?_; exact BK160.out⟩, ⟨by repeat (first | (with_reducible first | exact HB.out | apply bA_ | apply bN_ | apply bD_ | refine bS_ ?_ GE160.out) | exact HB.out)⟩⟩
   case round =>
    clear H'
    try clear p2
    try clear c4
    try clear c4b0
    try clear c4b1
    try clear c7
    try clear hcz5_0
    try clear hcz5_1
    try clear hcz6_0
    try clear hcz6_1
    try clear hfz5_0
    try clear hfz5_1
    try clear hfz6_0
    try clear hfz6_1
    try clear p2
    obtain ⟨x3_2, rfl, HA, HK2, BK160, HB⟩ := hrel
    cases gk with
    | zero => exact absurd HA.out (by simp [kerbsuitelaw12_long.l0])
    | succ k2 =>
     have H := HA.out
     clear HA
     simp only [kerbsuitelaw12_long.l0] at H
     by_cases c8 : x3_2 < (l0_1.length : Int)
     ·rw [if_pos c8] at H
      have c8b0 : decide (x3_2 < (l0_1.length : Int)) = true := decide_eq_true c8
      clear c8
      by_cases c9 : 0 ≤ x3_2
      ·rw [if_pos c9] at H
       have c9b0 : decide (0 ≤ x3_2) = true := decide_eq_true c9
       clear c9
       by_cases c10 : (((rd_T35 l0_1 x3_2).f0).size : Int) > 100
       ·rw [if_pos c10] at H
        have c10b0 : decide (100 < (((rd_T35 l0_1 x3_2).f0).size : Int)) = true := decide_eq_true c10
        have c10b1 : decide (100 < ((rd_T35 l0_1 x3_2).f0).size) = true := decide_eq_true (by omega)
        clear c10
        obtain rfl := Option.some.inj H
        have hcz11_0 : wr.cell? ⟨gb160, 0, none⟩ = some (.string a0_0) := (blk_cell BK160.out 0).trans rfl
        have hcz11_1 : wr.cell? ⟨gb160, 1, none⟩ = some (.slice A0_1 l0_1.length c0_1) := (blk_cell BK160.out 1).trans rfl
        have hfz11_0 := blk_frozen BK160.out 0
        have hfz11_1 := blk_frozen BK160.out 1
        have p161 : 0 ≤ (x3_2 : Int) := of_decide_eq_true (by first | (with_reducible assumption) | assumption)
        have q161 : x3_2 < (l0_1.length : Int) := of_decide_eq_true (by first | (with_reducible assumption) | assumption)
        obtain ⟨ad161, e161, hx161_0, hx161_1, hx161_2, hx161_3, hx161_4, hx161_5, hx161_6, hx161_7, hx161_8⟩ := at_T35 HR0_1.out x3_2 p161 q161
        cases e161
        replace hx161_0 := (HB.out.cell (World.block_lt_of_cell? w _ hx161_0)).trans hx161_0
        replace hx161_1 := (HB.out.cell (World.block_lt_of_cell? w _ hx161_1)).trans hx161_1
        replace hx161_2 := (HB.out.cell (World.block_lt_of_cell? w _ hx161_2)).trans hx161_2
        replace hx161_3 := (HB.out.cell (World.block_lt_of_cell? w _ hx161_3)).trans hx161_3
        replace hx161_4 := (HB.out.cell (World.block_lt_of_cell? w _ hx161_4)).trans hx161_4
        replace hx161_5 := (HB.out.cell (World.block_lt_of_cell? w _ hx161_5)).trans hx161_5
        replace hx161_6 := (HB.out.cell (World.block_lt_of_cell? w _ hx161_6)).trans hx161_6
        replace hx161_7 := (HB.out.cell (World.block_lt_of_cell? w _ hx161_7)).trans hx161_7
        replace hx161_8 := (HB.out.cell (World.block_lt_of_cell? w _ hx161_8)).trans hx161_8
        replace p161 := eq_true p161
        replace q161 := eq_true q161
        go_wp2
        go_ret
        exact ⟨by first | rfl | (simp [errW_none, errW_some] <;> rfl) | (simp [*, errW_none, errW_some] <;> rfl), by repeat (first | (with_reducible first | exact HB.out | apply bA_ | apply bN_ | apply bD_ | refine bS_ ?_ GE160.out) | exact HB.out)⟩
       rw [if_neg c10] at H
       have c10b0 : decide (100 < (((rd_T35 l0_1 x3_2).f0).size : Int)) = false := decide_eq_false c10
       have c10b1 : decide (100 < ((rd_T35 l0_1 x3_2).f0).size) = false := decide_eq_false (by omega)
       clear c10
       by_cases c12 : (((rd_T35 l0_1 x3_2).f1).size : Int) > 100
       ·rw [if_pos c12] at H
        have c12b0 : decide (100 < (((rd_T35 l0_1 x3_2).f1).size : Int)) = true := decide_eq_true c12
        have c12b1 : decide (100 < ((rd_T35 l0_1 x3_2).f1).size) = true := decide_eq_true (by omega)
        clear c12
        obtain rfl := Option.some.inj H
        have hcz13_0 : wr.cell? ⟨gb160, 0, none⟩ = some (.string a0_0) := (blk_cell BK160.out 0).trans rfl
        have hcz13_1 : wr.cell? ⟨gb160, 1, none⟩ = some (.slice A0_1 l0_1.length c0_1) := (blk_cell BK160.out 1).trans rfl
        have hfz13_0 := blk_frozen BK160.out 0
        have hfz13_1 := blk_frozen BK160.out 1
        have p161 : 0 ≤ (x3_2 : Int) := of_decide_eq_true (by first | (with_reducible assumption) | assumption)
        have q161 : x3_2 < (l0_1.length : Int) := of_decide_eq_true (by first | (with_reducible assumption) | assumption)
        obtain ⟨ad161, e161, hx161_0, hx161_1, hx161_2, hx161_3, hx161_4, hx161_5, hx161_6, hx161_7, hx161_8⟩ := at_T35 HR0_1.out x3_2 p161 q161
        cases e161
        replace hx161_0 := (HB.out.cell (World.block_lt_of_cell? w _ hx161_0)).trans hx161_0
        replace hx161_1 := (HB.out.cell (World.block_lt_of_cell? w _ hx161_1)).trans hx161_1
        replace hx161_2 := (HB.out.cell (World.block_lt_of_cell? w _ hx161_2)).trans hx161_2
        replace hx161_3 := (HB.out.cell (World.block_lt_of_cell? w _ hx161_3)).trans hx161_3
        replace hx161_4 := (HB.out.cell (World.block_lt_of_cell? w _ hx161_4)).trans hx161_4
        replace hx161_5 := (HB.out.cell (World.block_lt_of_cell? w _ hx161_5)).trans hx161_5
        replace hx161_6 := (HB.out.cell (World.block_lt_of_cell? w _ hx161_6)).trans hx161_6
        replace hx161_7 := (HB.out.cell (World.block_lt_of_cell? w _ hx161_7)).trans hx161_7
        replace hx161_8 := (HB.out.cell (World.block_lt_of_cell? w _ hx161_8)).trans hx161_8
        replace p161 := eq_true p161
        replace q161 := eq_true q161
        have p162 : 0 ≤ (x3_2 : Int) := of_decide_eq_true (by first | (with_reducible assumption) | assumption)
        have q162 : x3_2 < (l0_1.length : Int) := of_decide_eq_true (by first | (with_reducible assumption) | assumption)
        obtain ⟨ad162, e162, hx162_0, hx162_1, hx162_2, hx162_3, hx162_4, hx162_5, hx162_6, hx162_7, hx162_8⟩ := at_T35 HR0_1.out x3_2 p162 q162
        obtain rfl : ad161 = ad162 := (by injection e162)
        replace hx162_0 := (HB.out.cell (World.block_lt_of_cell? w _ hx162_0)).trans hx162_0
        replace hx162_1 := (HB.out.cell (World.block_lt_of_cell? w _ hx162_1)).trans hx162_1
        replace hx162_2 := (HB.out.cell (World.block_lt_of_cell? w _ hx162_2)).trans hx162_2
        replace hx162_3 := (HB.out.cell (World.block_lt_of_cell? w _ hx162_3)).trans hx162_3
        replace hx162_4 := (HB.out.cell (World.block_lt_of_cell? w _ hx162_4)).trans hx162_4
        replace hx162_5 := (HB.out.cell (World.block_lt_of_cell? w _ hx162_5)).trans hx162_5
        replace hx162_6 := (HB.out.cell (World.block_lt_of_cell? w _ hx162_6)).trans hx162_6
        replace hx162_7 := (HB.out.cell (World.block_lt_of_cell? w _ hx162_7)).trans hx162_7
        replace hx162_8 := (HB.out.cell (World.block_lt_of_cell? w _ hx162_8)).trans hx162_8
        replace p162 := eq_true p162
        replace q162 := eq_true q162
        go_wp2
        go_ret
        exact ⟨by first | rfl | (simp [errW_none, errW_some] <;> rfl) | (simp [*, errW_none, errW_some] <;> rfl), by repeat (first | (with_reducible first | exact HB.out | apply bA_ | apply bN_ | apply bD_ | refine bS_ ?_ GE160.out) | exact HB.out)⟩
       rw [if_neg c12] at H
       have c12b0 : decide (100 < (((rd_T35 l0_1 x3_2).f1).size : Int)) = false := decide_eq_false c12
       have c12b1 : decide (100 < ((rd_T35 l0_1 x3_2).f1).size) = false := decide_eq_false (by omega)
       clear c12
       have H' := Aside0.mk H
       clear H
       have hcz14_0 : wr.cell? ⟨gb160, 0, none⟩ = some (.string a0_0) := (blk_cell BK160.out 0).trans rfl
       have hcz14_1 : wr.cell? ⟨gb160, 1, none⟩ = some (.slice A0_1 l0_1.length c0_1) := (blk_cell BK160.out 1).trans rfl
       have hfz14_0 := blk_frozen BK160.out 0
       have hfz14_1 := blk_frozen BK160.out 1
       have p161 : 0 ≤ (x3_2 : Int) := of_decide_eq_true (by first | (with_reducible assumption) | assumption)
       have q161 : x3_2 < (l0_1.length : Int) := of_decide_eq_true (by first | (with_reducible assumption) | assumption)
       obtain ⟨ad161, e161, hx161_0, hx161_1, hx161_2, hx161_3, hx161_4, hx161_5, hx161_6, hx161_7, hx161_8⟩ := at_T35 HR0_1.out x3_2 p161 q161
       cases e161
       replace hx161_0 := (HB.out.cell (World.block_lt_of_cell? w _ hx161_0)).trans hx161_0
       replace hx161_1 := (HB.out.cell (World.block_lt_of_cell? w _ hx161_1)).trans hx161_1
       replace hx161_2 := (HB.out.cell (World.block_lt_of_cell? w _ hx161_2)).trans hx161_2
       replace hx161_3 := (HB.out.cell (World.block_lt_of_cell? w _ hx161_3)).trans hx161_3
       replace hx161_4 := (HB.out.cell (World.block_lt_of_cell? w _ hx161_4)).trans hx161_4
       replace hx161_5 := (HB.out.cell (World.block_lt_of_cell? w _ hx161_5)).trans hx161_5
       replace hx161_6 := (HB.out.cell (World.block_lt_of_cell? w _ hx161_6)).trans hx161_6
       replace hx161_7 := (HB.out.cell (World.block_lt_of_cell? w _ hx161_7)).trans hx161_7
       replace hx161_8 := (HB.out.cell (World.block_lt_of_cell? w _ hx161_8)).trans hx161_8
       replace p161 := eq_true p161
       replace q161 := eq_true q161
       have p162 : 0 ≤ (x3_2 : Int) := of_decide_eq_true (by first | (with_reducible assumption) | assumption)
       have q162 : x3_2 < (l0_1.length : Int) := of_decide_eq_true (by first | (with_reducible assumption) | assumption)
       obtain ⟨ad162, e162, hx162_0, hx162_1, hx162_2, hx162_3, hx162_4, hx162_5, hx162_6, hx162_7, hx162_8⟩ := at_T35 HR0_1.out x3_2 p162 q162
       obtain rfl : ad161 = ad162 := (by injection e162)
       replace hx162_0 := (HB.out.cell (World.block_lt_of_cell? w _ hx162_0)).trans hx162_0
       replace hx162_1 := (HB.out.cell (World.block_lt_of_cell? w _ hx162_1)).trans hx162_1
       replace hx162_2 := (HB.out.cell (World.block_lt_of_cell? w _ hx162_2)).trans hx162_2
       replace hx162_3 := (HB.out.cell (World.block_lt_of_cell? w _ hx162_3)).trans hx162_3
       replace hx162_4 := (HB.out.cell (World.block_lt_of_cell? w _ hx162_4)).trans hx162_4
       replace hx162_5 := (HB.out.cell (World.block_lt_of_cell? w _ hx162_5)).trans hx162_5
       replace hx162_6 := (HB.out.cell (World.block_lt_of_cell? w _ hx162_6)).trans hx162_6
       replace hx162_7 := (HB.out.cell (World.block_lt_of_cell? w _ hx162_7)).trans hx162_7
       replace hx162_8 := (HB.out.cell (World.block_lt_of_cell? w _ hx162_8)).trans hx162_8
       replace p162 := eq_true p162
       replace q162 := eq_true q162
       go_wp2
       go_roundg k2
       case measure => have := HJ1.out; have := HK2.out; omega
       case rel => exact ⟨(wrap64 (x3_2 + 1)), (by first | rfl | (simp; done) | (simp [*]; done)), H', ⟨by have := HJ1.out; have := HK2.out; omega⟩, ⟨by refine bk_ ?_; exact BK160.out⟩, ⟨by repeat (first | (with_reducible first | exact HB.out | apply bA_ | apply bN_ | apply bD_ | refine bS_ ?_ GE160.out) | exact HB.out)⟩⟩
      rw [if_neg c9] at H
      exact absurd H (by simp)
     rw [if_neg c8] at H
     have c8b0 : decide (x3_2 < (l0_1.length : Int)) = false := decide_eq_false c8
     clear c8
     obtain rfl := Option.some.inj H
     have hcz15_0 : wr.cell? ⟨gb160, 0, none⟩ = some (.string a0_0) := (blk_cell BK160.out 0).trans rfl
     have hcz15_1 : wr.cell? ⟨gb160, 1, none⟩ = some (.slice A0_1 l0_1.length c0_1) := (blk_cell BK160.out 1).trans rfl
     have hfz15_0 := blk_frozen BK160.out 0
     have hfz15_1 := blk_frozen BK160.out 1
     go_wp2
     go_ret
     exact ⟨by first | rfl | (simp [errW_none, errW_some] <;> rfl) | (simp [*, errW_none, errW_some] <;> rfl), by repeat (first | (with_reducible first | exact HB.out | apply bA_ | apply bN_ | apply bD_ | refine bS_ ?_ GE160.out) | exact HB.out)⟩

/-! ### kerbsuitedata_Realms: function 58 -/
def kerbsuitedata_Realms.f  : Option (List ByteArray) := some (([(⟨#[65, 84, 72]⟩ : ByteArray), (⟨#[66, 79, 83]⟩ : ByteArray), (⟨#[67, 65, 77]⟩ : ByteArray)] : List ByteArray))
set_option maxHeartbeats 8000000 in
set_option maxRecDepth 100000 in
theorem kerbsuitedata_Realms.calls  (r : List ByteArray) (w : World) (h : kerbsuitedata_Realms.f  = some r) :
  Calls Tryd.prog 58 #[] w fun e w' => ∃ v0_ : Value, e = .returned (v0_) ∧ Kd.R Kd.string 9 w' w.heap.size (fun _ => True) v0_ r ∧ Below w.heap.size w w' := by
 have HB := Aside0.mk (Below.refl w.heap.size w)
 have H : (some (([(⟨#[65, 84, 72]⟩ : ByteArray), (⟨#[66, 79, 83]⟩ : ByteArray), (⟨#[67, 65, 77]⟩ : ByteArray)] : List ByteArray))) = some r := h
 clear h
 obtain ⟨y163, hy163⟩ : ∃ y_ : List ByteArray, y_ = (([(⟨#[65, 84, 72]⟩ : ByteArray), (⟨#[66, 79, 83]⟩ : ByteArray), (⟨#[67, 65, 77]⟩ : ByteArray)] : List ByteArray)) := ⟨_, rfl⟩
 replace H : (some y163) = some r := by first | (rw [hy163]; with_reducible exact H) | (have H2_ := (Option.bind_some _ _).symm.trans H; rw [hy163]; with_reducible exact H2_) | (have H2_ := (Option.bind_some _ _).symm.trans H; with_reducible exact H2_) | with_reducible exact H | (rw [hy163]; exact H) | exact H
 have Ny163 := Aside0.mk hy163
 clear hy163
 obtain rfl := Option.some.inj H
 go_enter Tryd.func58, Tryd.ntmps58
 go_wp2_with (first | ((with_reducible refine gate_dst (N := 1) rfl ?_); refine Kd.R_lit Kd.string _ 9 ?hg (N := 1) ?hd (xs := ([(⟨#[65, 84, 72]⟩ : ByteArray), (⟨#[66, 79, 83]⟩ : ByteArray), (⟨#[67, 65, 77]⟩ : ByteArray)] : List ByteArray)) (inner := [.string (⟨#[65, 84, 72]⟩ : ByteArray), .string (⟨#[66, 79, 83]⟩ : ByteArray), .string (⟨#[67, 65, 77]⟩ : ByteArray)]) (ok := fun _ => True) (okp := fun _ => True) ?hr ?hp (fun _ hk => hk) trivial (Below.refl _ _) (Nat.le_refl _) (by simp) ?_; (case hd => rfl); (case hg => rfl); (case hr => first | (go_simp; done) | (go_simp; rfl)); (case hp => exact (Reps.one (show Kd.M Kd.string _ _ _ (⟨#[65, 84, 72]⟩ : ByteArray) [.string (⟨#[65, 84, 72]⟩ : ByteArray)] from rfl) (Reps.one (show Kd.M Kd.string _ _ _ (⟨#[66, 79, 83]⟩ : ByteArray) [.string (⟨#[66, 79, 83]⟩ : ByteArray)] from rfl) (Reps.one (show Kd.M Kd.string _ _ _ (⟨#[67, 65, 77]⟩ : ByteArray) [.string (⟨#[67, 65, 77]⟩ : ByteArray)] from rfl) (Reps.none _ _))))); intro v164 w1 ho2 hb hg_ hnew_; clear hg_ hnew_; (first | rw [← Ny163.out] at ho2 | (simp only [Int.reduceToNat] at ho2; rw [← Ny163.out] at ho2)); have n0_ := Aside0.mk (Kd.R_lower ho2 (below_size (bk_ HB.out))); have n1_ := Aside0.mk (below_step (bk_ HB.out) hb); clear HB; have HO165 := n0_; have HB := n1_; clear n0_ n1_; clear hb ho2))
 go_ret
 exact ⟨_, by first | rfl | (simp [errW_none, errW_some] <;> rfl) | (simp [*, errW_none, errW_some] <;> rfl), by refine bk_ ?_; exact HO165.out, by repeat (first | (with_reducible first | exact HB.out | apply bA_ | apply bN_ | apply bD_) | exact HB.out)⟩

/-! ### kerbsuitedata_Realm: function 33 -/
def kerbsuitedata_Realm.f (a0 : Int) : Option (ByteArray) := (kerbsuitedata_Realms.f).bind fun t166 => (if 0 ≤ (Int.tmod a0 3) then (if (Int.tmod a0 3) < (t166.length : Int) then (some (rdOf ByteArray.empty t166 (Int.tmod a0 3))) else (none)) else (none))
set_option maxHeartbeats 8000000 in
set_option maxRecDepth 100000 in
theorem kerbsuitedata_Realm.calls (a0 : Int) (r : ByteArray) (w : World) (h : kerbsuitedata_Realm.f a0 = some r) :
  Calls Tryd.prog 33 #[.int .i64 a0] w fun e w' => e = .returned (.string r) ∧ Below w.heap.size w w' := by
 have HB := Aside0.mk (Below.refl w.heap.size w)
 have H : ((kerbsuitedata_Realms.f).bind fun t166 => (if 0 ≤ (Int.tmod a0 3) then (if (Int.tmod a0 3) < (t166.length : Int) then (some (rdOf ByteArray.empty t166 (Int.tmod a0 3))) else (none)) else (none))) = some r := h
 clear h
 replace H := Option.bind_eq_some_iff.mp H
 obtain ⟨t166, A20, H⟩ := H
 replace H : (if 0 ≤ (Int.tmod a0 3) then (if (Int.tmod a0 3) < (t166.length : Int) then (some (rdOf ByteArray.empty t166 (Int.tmod a0 3))) else (none)) else (none)) = some r := H
 have A2 := Aside0.mk A20
 clear A20
 obtain ⟨ji3, hji3⟩ : ∃ j_ : Int, (Int.tmod a0 3) = j_ := ⟨_, rfl⟩
 replace H : (if 0 ≤ (ji3) then (if (ji3) < (t166.length : Int) then (some (rdOf ByteArray.empty t166 (ji3))) else (none)) else (none)) = some r := by first | (rw [hji3] at H; exact H) | (simp only [hji3] at H ⊢; exact H)
 (try rw [hji3] at A2)
 by_cases c4 : 0 ≤ (ji3)
 ·rw [if_pos c4] at H
  have c4b0 : decide (0 ≤ (ji3)) = true := decide_eq_true c4
  clear c4
  by_cases c5 : (ji3) < (t166.length : Int)
  ·rw [if_pos c5] at H
   have c5b0 : decide ((ji3) < (t166.length : Int)) = true := decide_eq_true c5
   clear c5
   obtain rfl := Option.some.inj H
   go_enter Tryd.func33, Tryd.ntmps33
   go_wp2_with (first | ((with_reducible refine gate_callee (f := 58) rfl ?_); refine goesL_ (some 3) rfl rfl Tryd.func58 (by kernel_rfl) rfl #[] rfl (by (try simp only [List.map_toArray, List.map_cons, List.map_nil]); first | done | rfl | (simp only [List.length_drop, List.length_take]; rfl)) ?_; (with_reducible refine (kerbsuitedata_Realms.calls  t166 _ A2.out).mono ?_); rintro e w6 ⟨v167, rfl, ho0, hb⟩; refine ⟨_, rfl, ?_⟩; have n0_ := Aside0.mk (Kd.R_lower ho0 (below_size (bk_ HB.out))); have n1_ := Aside0.mk (below_step (bk_ HB.out) hb); clear HB; have HO168 := n0_; have HB := n1_; clear n0_ n1_; (try clear hb); (try clear hb2); (try clear hk); (try clear hi); (try clear ho0); obtain ⟨Ao7, co7, eo7⟩ := Kd.R_slice HO168.out; subst eo7; have p169 : 0 ≤ ((ji3) : Int) := of_decide_eq_true (by first | (with_reducible assumption) | assumption); have q169 : (ji3) < (t166.length : Int) := of_decide_eq_true (by first | (with_reducible assumption) | assumption); obtain ⟨ad169, e169, hx169_0⟩ := Kd.at_string (Kd.R_reads' HO168.out).2.2 (ji3) p169 q169; cases e169; replace p169 := eq_true p169; replace q169 := eq_true q169))
   go_ret
   exact ⟨by first | rfl | (simp [errW_none, errW_some] <;> rfl) | (simp only [← hji3]; first | rfl | (simp [errW_none, errW_some] <;> rfl)) | (simp [*, errW_none, errW_some] <;> rfl), by repeat (first | (with_reducible first | exact HB.out | apply bA_ | apply bN_ | apply bD_) | exact HB.out)⟩
  rw [if_neg c5] at H
  exact absurd H (by simp)
 rw [if_neg c4] at H
 exact absurd H (by simp)

/-! ### kerbsuitedata_User: function 16 -/
def kerbsuitedata_User.f (a0 : Int) : Option (ByteArray × ByteArray × ByteArray) := (some (([(⟨#[97, 110, 110]⟩ : ByteArray), (⟨#[98, 111, 98]⟩ : ByteArray), (⟨#[99, 97, 116]⟩ : ByteArray)] : List ByteArray) : List ByteArray)).bind fun y171 => (if 0 ≤ (Int.tmod a0 3) then (if (Int.tmod a0 3) < (y171.length : Int) then ((kerbsuitedata_Realm.f (wrap64 (Int.tdiv a0 3))).bind fun t175 => (some (rdOf ByteArray.empty y171 (Int.tmod a0 3), (⟨#[]⟩ : ByteArray), t175))) else (none)) else (none))
def kerbsuitedata_User.T1 : Bool × List (List Nat × List Nat) := (true,[([], []), ([], []), ([1], [1]), ([0, 2], [0, 2]), ([3], [3]), ([], []), ([5], [5]), ([6], [6]), ([4, 7], [4, 7]), ([8, 7, 0, 1, 2, 3, 4, 5, 6, 7, 8], [8])])
def kerbsuitedata_User.B1 : List Nat := [0, 0, 2, 7, 15, 0, 32, 96, 255, 511]
theorem kerbsuitedata_User.tab1 : rtab .any (opsOf Tryd.f16 1) = kerbsuitedata_User.T1 := by kernel_rfl
theorem kerbsuitedata_User.bits1 : waitsOk kerbsuitedata_User.T1.2 kerbsuitedata_User.B1 = true := by kernel_rfl
set_option maxHeartbeats 8000000 in
set_option maxRecDepth 100000 in
theorem kerbsuitedata_User.calls (a0 : Int) (r1 : ByteArray) (r2 : ByteArray) (r3 : ByteArray) (w : World) (h : kerbsuitedata_User.f a0 = some (r1, r2, r3)) :
  Calls Tryd.prog 16 #[.int .i64 a0] w fun e w' => e = .returned (.agg #[.string r1, .string r2, .string r3]) ∧ Below w.heap.size w w' := by
 have hu41 := Tryd.underlying41
 have HB := Aside0.mk (Below.refl w.heap.size w)
 have H : ((some (([(⟨#[97, 110, 110]⟩ : ByteArray), (⟨#[98, 111, 98]⟩ : ByteArray), (⟨#[99, 97, 116]⟩ : ByteArray)] : List ByteArray) : List ByteArray)).bind fun y171 => (if 0 ≤ (Int.tmod a0 3) then (if (Int.tmod a0 3) < (y171.length : Int) then ((kerbsuitedata_Realm.f (wrap64 (Int.tdiv a0 3))).bind fun t175 => (some (rdOf ByteArray.empty y171 (Int.tmod a0 3), (⟨#[]⟩ : ByteArray), t175))) else (none)) else (none))) = some (r1, r2, r3) := h
 clear h
 obtain ⟨y171, hy171⟩ : ∃ y_ : List ByteArray, y_ = (([(⟨#[97, 110, 110]⟩ : ByteArray), (⟨#[98, 111, 98]⟩ : ByteArray), (⟨#[99, 97, 116]⟩ : ByteArray)] : List ByteArray)) := ⟨_, rfl⟩
 replace H : (if 0 ≤ (Int.tmod a0 3) then (if (Int.tmod a0 3) < (y171.length : Int) then ((kerbsuitedata_Realm.f (wrap64 (Int.tdiv a0 3))).bind fun t175 => (some (rdOf ByteArray.empty y171 (Int.tmod a0 3), (⟨#[]⟩ : ByteArray), t175))) else (none)) else (none)) = some (r1, r2, r3) := by first | (rw [hy171]; with_reducible exact H) | (have H2_ := (Option.bind_some _ _).symm.trans H; rw [hy171]; with_reducible exact H2_) | (have H2_ := (Option.bind_some _ _).symm.trans H; with_reducible exact H2_) | with_reducible exact H | (rw [hy171]; exact H) | exact H
 have Ny171 := Aside0.mk hy171
 clear hy171
 obtain ⟨ji2, hji2⟩ : ∃ j_ : Int, (Int.tmod a0 3) = j_ := ⟨_, rfl⟩
 replace H : (if 0 ≤ (ji2) then (if (ji2) < (y171.length : Int) then ((kerbsuitedata_Realm.f (wrap64 (Int.tdiv a0 3))).bind fun t175 => (some (rdOf ByteArray.empty y171 (ji2), (⟨#[]⟩ : ByteArray), t175))) else (none)) else (none)) = some (r1, r2, r3) := by first | (rw [hji2] at H; exact H) | (simp only [hji2] at H ⊢; exact H)
 by_cases c3 : 0 ≤ (ji2)
 ·rw [if_pos c3] at H
  have c3b0 : decide (0 ≤ (ji2)) = true := decide_eq_true c3
  clear c3
  by_cases c4 : (ji2) < (y171.length : Int)
  ·rw [if_pos c4] at H
   have c4b0 : decide ((ji2) < (y171.length : Int)) = true := decide_eq_true c4
   clear c4
   replace H := Option.bind_eq_some_iff.mp H
   obtain ⟨t175, A50, H⟩ := H
   replace H : (some (rdOf ByteArray.empty y171 (ji2), (⟨#[]⟩ : ByteArray), t175)) = some (r1, r2, r3) := H
   have A5 := Aside0.mk A50
   clear A50
   simp only [Option.some.injEq, Prod.mk.injEq] at H
   obtain ⟨rfl, rfl, rfl⟩ := H
   go_enter Tryd.func16, Tryd.ntmps16
   try go_wp2_with (first | ((with_reducible refine gate_dst (N := 2) rfl ?_); refine box_event ?hg (N := 2) ?hd (cs := #[.string (⟨#[]⟩ : ByteArray), .string (⟨#[]⟩ : ByteArray), .string (⟨#[]⟩ : ByteArray)]) (t := 41) ?hr ?_; (case hd => rfl); (case hg => rfl); (case hr => first | (go_simp; done) | (go_simp; rfl)); intro gb170 hg w6 hbox hb; have n0_ := Aside0.mk (below_step (bk_ HB.out) hb); have n1_ := Aside0.mk (hbox); have n2_ := Aside0.mk ((by rw [hg]; exact (below_size (bk_ HB.out)) : w.heap.size ≤ gb170)); have n3_ := Aside0.mk ((by rw [hg]; exact (below_size (bk_ HB.out)) : w.heap.size ≤ gb170)); clear HB; have HB := n0_; have BK170 := n1_; have GW170 := n2_; have GE170 := n3_; clear n0_ n1_ n2_ n3_; clear hb hbox hg))
   have pi174 : (0 ≤ ((ji2) : Int)) = True := eq_true (of_decide_eq_true (by first | (with_reducible assumption) | assumption))
   have qi174 : ((ji2) < (y171.length : Int)) = True := eq_true (of_decide_eq_true (by first | (with_reducible assumption) | assumption))
   have n0_ := Aside0.mk (blk_drew BK170.out)
   have n1_ := Aside0.mk (bD_ HB.out)
   clear BK170 HB
   have BK170 := n0_
   have HB := n1_
   clear n0_ n1_
   refine start_ (n := 10) (S := fun w' => True) (ds := []) #[false,false,false,false,false,false,false,false,false,false] (by kernel_rfl) rfl rfl trivial (fun hHeld => ?_); refine with_tabW kerbsuitedata_User.tab1 kerbsuitedata_User.bits1 (fun HT_ HW_ => ?_)
   generalize w6.drew = w7 at BK170 HB hHeld ⊢
   refine pure_ (i := 1) (N := some 4) (v := ?_) (a' := ?_) (bo_ 10 2) rfl rfl (any_of HT_.out (by kernel_rfl)) (fun _ _ _ h => h) (Or.inl ⟨by rfl, ?_⟩) ?_ ?_
   rotate_left; (· intro w'; go_simp; with_reducible rfl)
   rotate_left; (· simp only [Act.put,sA_,sB_,sC_,i64_w,i32_w]; rfl)
   refine pure_ (i := 5) (N := some 8) (v := ?_) (a' := ?_) (bo_ 10 34) rfl rfl (any_of HT_.out (by kernel_rfl)) (fun _ _ _ h => h) (Or.inl ⟨by rfl, ?_⟩) ?_ ?_
   rotate_left; (· intro w'; go_simp; with_reducible rfl)
   rotate_left; (· simp only [Act.put,sA_,sB_,sC_,i64_w,i32_w]; rfl)
   refine inv_at [0, 2, 3, 4, 6, 7, 8, 9] (fun a0_ b a w' => ∃ (v172 : Value) (adz_v172 : Addr) (m3_ : Value), a = putSel a0_ b [(0, 3, v172), (2, 5, .int .i64 ji2), (3, 6, m3_), (4, 7, .string (rdOf ByteArray.empty y171 (ji2))), (6, 9, .int .i64 (wrap64 (Int.tdiv a0 3))), (7, 10, .string t175), (8, 11, .agg #[.string (rdOf ByteArray.empty y171 (ji2)), .string (⟨#[]⟩ : ByteArray), .string t175])] ∧ (b 9 = false → w'.heap[gb170]? = some (.cells #[.string (⟨#[]⟩ : ByteArray), .string (⟨#[]⟩ : ByteArray), .string (⟨#[]⟩ : ByteArray)] 41 (0, 0))) ∧ (Below w.heap.size w w') ∧ (b 0 = true → Kd.R Kd.string 9 w' w.heap.size (fun _ => True) v172 y171) ∧ (b 0 = true → ∃ c_, (v172 : Value) = .slice (some adz_v172) y171.length c_) ∧ (b 9 = true → w'.heap[gb170]? = some (.cells #[.string (rdOf ByteArray.empty y171 (ji2)), .string (⟨#[]⟩ : ByteArray), .string t175] 41 (0, 0))) ∧ (b 3 = true → (m3_ : Value) = .pointer (some (adz_v172.add ((ji2)).toNat)))) HT_.out HW_.out (by kernel_rfl) (by kernel_rfl) ?_ ?_ ?_
   ·exact ⟨.bool false,⟨0, 0, none⟩, .bool false,by simp only [putSel, Bool.false_eq_true,if_false], fun _ => BK170.out, HB.out, fun h_ => absurd h_ (by decide), fun h_ => absurd h_ (by decide), fun h_ => absurd h_ (by decide), fun h_ => absurd h_ (by decide)⟩
   ·skip
    clear BK170 HB
    refine steps_cons ?_ ?_
    ·rintro b a w' ⟨v172, adz_v172, m3_, ha, Q_BK170, Q_HB, Q_HO173, Q_HA_HO173, Q_BK170_e9, Q_X3_⟩ hb_ hon hoff
     refine ⟨_, rfl, fun K hK => ?_⟩
     replace ha := Aside0.mk ha
     have BK170 := Aside0.mk (Q_BK170 (hoff 9 (by kernel_rfl)))
     have HB := Aside0.mk Q_HB
     refine Kd.R_lit_step Kd.string _ 9 ?hg (N := 3) ?hd (xs := ([(⟨#[97, 110, 110]⟩ : ByteArray), (⟨#[98, 111, 98]⟩ : ByteArray), (⟨#[99, 97, 116]⟩ : ByteArray)] : List ByteArray)) (inner := [.string (⟨#[97, 110, 110]⟩ : ByteArray), .string (⟨#[98, 111, 98]⟩ : ByteArray), .string (⟨#[99, 97, 116]⟩ : ByteArray)]) (ok := fun _ => True) (okp := fun _ => True) ?hr ?hp (fun _ hk => hk) trivial (Below.refl _ _) (Nat.le_refl _) (by simp) ?_; (case hd => rfl); (case hg => rfl); (case hr => first | (go_simp; done) | (go_simp; rfl)); (case hp => exact (Reps.one (show Kd.M Kd.string _ _ _ (⟨#[97, 110, 110]⟩ : ByteArray) [.string (⟨#[97, 110, 110]⟩ : ByteArray)] from rfl) (Reps.one (show Kd.M Kd.string _ _ _ (⟨#[98, 111, 98]⟩ : ByteArray) [.string (⟨#[98, 111, 98]⟩ : ByteArray)] from rfl) (Reps.one (show Kd.M Kd.string _ _ _ (⟨#[99, 97, 116]⟩ : ByteArray) [.string (⟨#[99, 97, 116]⟩ : ByteArray)] from rfl) (Reps.none _ _)))))
     intro v172 w8 ho9 hb hg_ hnew_
     clear hg_ hnew_
     (first | rw [← Ny171.out] at ho9 | (simp only [Int.reduceToNat] at ho9; rw [← Ny171.out] at ho9))
     have n0_ := Aside0.mk (Kd.R_lower ho9 (below_size (by repeat (first | (with_reducible first | exact HB.out | apply bA_ | apply bN_ | apply bD_ | refine bS_ ?_ GE170.out) | exact HB.out))))
     have n1_ := Aside0.mk (blk_below (g := gb170) (o := .cells #[.string (⟨#[]⟩ : ByteArray), .string (⟨#[]⟩ : ByteArray), .string (⟨#[]⟩ : ByteArray)] 41 (0, 0)) (bk_ BK170.out) hb)
     have n2_ := Aside0.mk (below_step (by repeat (first | (with_reducible first | exact HB.out | apply bA_ | apply bN_ | apply bD_ | refine bS_ ?_ GE170.out) | exact HB.out)) hb)
     clear BK170 HB
     have HO173 := n0_
     have BK170 := n1_
     have HB := n2_
     clear n0_ n1_ n2_
     clear hb ho9
     obtain ⟨Ao10, co10, eo10⟩ := Kd.R_slice HO173.out
     subst eo10
     obtain ⟨ado10, fo10, _⟩ := Kd.at_string (Kd.R_reads' HO173.out).2.2 0 (by decide) (by rw [Ny171.out]; simp)
     cases fo10
     refine hK.out _ _ ⟨.slice (some ado10) y171.length co10, ado10, m3_, (by rw [ha.out]; exact putSel_upk 0 hb_ rfl rfl rfl), fun _ => (bk_ BK170.out), (by repeat (first | (with_reducible first | exact HB.out | apply bA_ | apply bN_ | apply bD_ | refine bS_ ?_ GE170.out) | exact HB.out)), fun _ => (bk_ HO173.out), fun _ => ⟨_, rfl⟩, fun h0_ => absurd ((hoff 9 (by kernel_rfl)).symm.trans h0_) (by decide), fun h0_ => absurd ((hoff 3 (by kernel_rfl)).symm.trans h0_) (by decide)⟩
    refine steps_cons ?_ ?_
    ·rintro b a w' ⟨v172, adz_v172, m3_, ha, Q_BK170, Q_HB, Q_HO173, Q_HA_HO173, Q_BK170_e9, Q_X3_⟩ hb_ hon hoff
     refine ⟨_, rfl, fun K hK => ?_⟩
     have e4 : a.tmps[4]? = some (.int .i64 a0) := by rw [ha]; exact (putSel_off rfl).trans rfl
     replace ha := Aside0.mk ha
     have BK170 := Aside0.mk (Q_BK170 (hoff 9 (by kernel_rfl)))
     have HB := Aside0.mk Q_HB
     refine value_ (w1 := w') (v := .int .i64 ji2) (by rfl) rfl ?_ ?_
     ·go_simp
      (try simp only [i64_w])
      try rfl
     refine hK.out _ _ ⟨v172, adz_v172, m3_, (by rw [ha.out]; exact putSel_upk 1 hb_ rfl rfl rfl), Q_BK170, Q_HB, Q_HO173, Q_HA_HO173, fun h0_ => absurd ((hoff 9 (by kernel_rfl)).symm.trans h0_) (by decide), fun h0_ => absurd ((hoff 3 (by kernel_rfl)).symm.trans h0_) (by decide)⟩
    refine steps_cons ?_ ?_
    ·rintro b a w' ⟨v172, adz_v172, m3_, ha, Q_BK170, Q_HB, Q_HO173, Q_HA_HO173, Q_BK170_e9, Q_X3_⟩ hb_ hon hoff
     refine ⟨_, rfl, fun K hK => ?_⟩
     have e3 : a.tmps[3]? = some (v172) := by rw [ha]; exact putSel_on (e := (0, 3, v172)) 0 rfl rfl (hon 0 (by kernel_rfl)) rfl
     have e5 : a.tmps[5]? = some (.int .i64 ji2) := by rw [ha]; exact putSel_on (e := (2, 5, .int .i64 ji2)) 1 rfl rfl (hon 2 (by kernel_rfl)) rfl
     replace ha := Aside0.mk ha
     have BK170 := Aside0.mk (Q_BK170 (hoff 9 (by kernel_rfl)))
     have HB := Aside0.mk Q_HB
     have HO173 := Aside0.mk (Q_HO173 (hon 0 (by kernel_rfl)))
     have HA_HO173 := Aside0.mk (Q_HA_HO173 (hon 0 (by kernel_rfl)))
     obtain ⟨c_, hv_⟩ := HA_HO173.out
     rw [hv_] at e3
     refine value_ (w1 := w') (v := .pointer (some (adz_v172.add ((ji2)).toNat))) (by rfl) rfl ?_ ?_
     ·go_simp
      (try simp only [i64_w])
      try rfl
     refine hK.out _ _ ⟨v172, adz_v172, (.pointer (some (adz_v172.add ((ji2)).toNat))), (by rw [ha.out]; exact putSel_upk 2 hb_ rfl rfl rfl), Q_BK170, Q_HB, Q_HO173, Q_HA_HO173, fun h0_ => absurd ((hoff 9 (by kernel_rfl)).symm.trans h0_) (by decide), fun _ => rfl⟩
    refine steps_cons ?_ ?_
    ·rintro b a w' ⟨v172, adz_v172, m3_, ha, Q_BK170, Q_HB, Q_HO173, Q_HA_HO173, Q_BK170_e9, Q_X3_⟩ hb_ hon hoff
     refine ⟨_, rfl, fun K hK => ?_⟩
     have e6 : a.tmps[6]? = some (m3_) := by rw [ha]; exact putSel_on (e := (3, 6, m3_)) 2 rfl rfl (hon 3 (by kernel_rfl)) rfl
     rw [Q_X3_ (hon 3 (by kernel_rfl))] at e6
     replace ha := Aside0.mk ha
     have BK170 := Aside0.mk (Q_BK170 (hoff 9 (by kernel_rfl)))
     have HB := Aside0.mk Q_HB
     have HO173 := Aside0.mk (Q_HO173 (hon 0 (by kernel_rfl)))
     have HA_HO173 := Aside0.mk (Q_HA_HO173 (hon 0 (by kernel_rfl)))
     obtain ⟨c_, hv_⟩ := HA_HO173.out
     have hF_ := HO173.out
     rw [hv_] at hF_
     obtain ⟨ad_, ea_, hx_⟩ := Kd.at_string (Kd.R_reads' hF_).2.2 (ji2) (of_eq_true pi174) (of_eq_true qi174)
     cases ea_
     refine value_ (w1 := w') (v := .string (rdOf ByteArray.empty y171 (ji2))) (by rfl) rfl ?_ ?_
     ·go_simp
      (try simp only [i64_w])
      try rfl
     refine hK.out _ _ ⟨v172, adz_v172, m3_, (by rw [ha.out]; exact putSel_upk 3 hb_ rfl rfl rfl), Q_BK170, Q_HB, Q_HO173, Q_HA_HO173, fun h0_ => absurd ((hoff 9 (by kernel_rfl)).symm.trans h0_) (by decide), Q_X3_⟩
    refine steps_cons ?_ ?_
    ·rintro b a w' ⟨v172, adz_v172, m3_, ha, Q_BK170, Q_HB, Q_HO173, Q_HA_HO173, Q_BK170_e9, Q_X3_⟩ hb_ hon hoff
     refine ⟨_, rfl, fun K hK => ?_⟩
     have e8 : a.tmps[8]? = some (.int .i64 a0) := by rw [ha]; exact (putSel_off rfl).trans rfl
     replace ha := Aside0.mk ha
     have BK170 := Aside0.mk (Q_BK170 (hoff 9 (by kernel_rfl)))
     have HB := Aside0.mk Q_HB
     refine value_ (w1 := w') (v := .int .i64 (wrap64 (Int.tdiv a0 3))) (by rfl) rfl ?_ ?_
     ·go_simp
      (try simp only [i64_w])
      try rfl
     refine hK.out _ _ ⟨v172, adz_v172, m3_, (by rw [ha.out]; exact putSel_upk 4 hb_ rfl rfl rfl), Q_BK170, Q_HB, Q_HO173, Q_HA_HO173, fun h0_ => absurd ((hoff 9 (by kernel_rfl)).symm.trans h0_) (by decide), Q_X3_⟩
    refine steps_cons ?_ ?_
    ·rintro b a w' ⟨v172, adz_v172, m3_, ha, Q_BK170, Q_HB, Q_HO173, Q_HA_HO173, Q_BK170_e9, Q_X3_⟩ hb_ hon hoff
     refine ⟨_, rfl, fun K hK => ?_⟩
     have e9 : a.tmps[9]? = some (.int .i64 (wrap64 (Int.tdiv a0 3))) := by rw [ha]; exact putSel_on (e := (6, 9, .int .i64 (wrap64 (Int.tdiv a0 3)))) 4 rfl rfl (hon 6 (by kernel_rfl)) rfl
     replace ha := Aside0.mk ha
     have BK170 := Aside0.mk (Q_BK170 (hoff 9 (by kernel_rfl)))
     have HB := Aside0.mk Q_HB
     refine goes_ Tryd.func33 (by kernel_rfl) rfl #[.int .i64 (wrap64 (Int.tdiv a0 3))] (by rfl) rfl rfl (by first | (simp only [List.map_toArray, List.map_cons, List.map_nil, Act.eval, Array.getD_eq_getD_getElem?, Option.getD_some, e9]; done) | (simp only [List.map_toArray, List.map_cons, List.map_nil, Act.eval, Array.getD_eq_getD_getElem?, Option.getD_some, e9]; rfl)) ?_
     with_reducible refine (kerbsuitedata_Realm.calls (wrap64 (Int.tdiv a0 3)) t175 _ A5.out).mono ?_
     rintro e w8 ⟨rfl, hb⟩
     refine ⟨_, rfl, ?_⟩
     have n0_ := Aside0.mk (blk_below (g := gb170) (o := .cells #[.string (⟨#[]⟩ : ByteArray), .string (⟨#[]⟩ : ByteArray), .string (⟨#[]⟩ : ByteArray)] 41 (0, 0)) (bk_ BK170.out) hb)
     have n1_ := Aside0.mk (below_step (by repeat (first | (with_reducible first | exact HB.out | apply bA_ | apply bN_ | apply bD_ | refine bS_ ?_ GE170.out) | exact HB.out)) hb)
     have z_HO173 := fun (h0_ : b 0 = true) => (show Kd.R Kd.string 9 w8 w.heap.size (fun _ => True) v172 y171 from by first | exact (Kd.R_below (by refine bk_ ?_; exact (Q_HO173 h0_)) hb) | exact Kd.R_mono (Kd.R_below (by refine bk_ ?_; exact (Q_HO173 h0_)) hb) (fun _ h_ => by first | trivial | exact h_ | exact h_.1))
     clear BK170 HB
     have BK170 := n0_
     have HB := n1_
     clear n0_ n1_
     (try clear hb)
     (try clear hb2)
     (try clear hk)
     (try clear hi)
     refine hK.out _ _ ⟨v172, adz_v172, m3_, (by rw [ha.out]; exact putSel_upk 5 hb_ rfl rfl rfl), fun _ => (bk_ BK170.out), (by repeat (first | (with_reducible first | exact HB.out | apply bA_ | apply bN_ | apply bD_ | refine bS_ ?_ GE170.out) | exact HB.out)), z_HO173, Q_HA_HO173, fun h0_ => absurd ((hoff 9 (by kernel_rfl)).symm.trans h0_) (by decide), Q_X3_⟩
    refine steps_cons ?_ ?_
    ·rintro b a w' ⟨v172, adz_v172, m3_, ha, Q_BK170, Q_HB, Q_HO173, Q_HA_HO173, Q_BK170_e9, Q_X3_⟩ hb_ hon hoff
     refine ⟨_, rfl, fun K hK => ?_⟩
     have e7 : a.tmps[7]? = some (.string (rdOf ByteArray.empty y171 (ji2))) := by rw [ha]; exact putSel_on (e := (4, 7, .string (rdOf ByteArray.empty y171 (ji2)))) 3 rfl rfl (hon 4 (by kernel_rfl)) rfl
     have e10 : a.tmps[10]? = some (.string t175) := by rw [ha]; exact putSel_on (e := (7, 10, .string t175)) 5 rfl rfl (hon 7 (by kernel_rfl)) rfl
     replace ha := Aside0.mk ha
     have BK170 := Aside0.mk (Q_BK170 (hoff 9 (by kernel_rfl)))
     have HB := Aside0.mk Q_HB
     have HO173 := Aside0.mk (Q_HO173 (hon 0 (by kernel_rfl)))
     have HA_HO173 := Aside0.mk (Q_HA_HO173 (hon 0 (by kernel_rfl)))
     refine value_ (w1 := w') (v := .agg #[.string (rdOf ByteArray.empty y171 (ji2)), .string (⟨#[]⟩ : ByteArray), .string t175]) (by rfl) rfl ?_ ?_
     ·go_simp
      (try simp only [i64_w])
      try rfl
     refine hK.out _ _ ⟨v172, adz_v172, m3_, (by rw [ha.out]; exact putSel_upk 6 hb_ rfl rfl rfl), Q_BK170, Q_HB, Q_HO173, Q_HA_HO173, fun h0_ => absurd ((hoff 9 (by kernel_rfl)).symm.trans h0_) (by decide), Q_X3_⟩
    refine steps_cons ?_ ?_
    ·rintro b a w' ⟨v172, adz_v172, m3_, ha, Q_BK170, Q_HB, Q_HO173, Q_HA_HO173, Q_BK170_e9, Q_X3_⟩ hb_ hon hoff
     refine ⟨_, rfl, fun K hK => ?_⟩
     have e2 : a.tmps[2]? = some (.pointer (some ⟨gb170, 0, none⟩)) := by rw [ha]; exact (putSel_off rfl).trans rfl
     have e11 : a.tmps[11]? = some (.agg #[.string (rdOf ByteArray.empty y171 (ji2)), .string (⟨#[]⟩ : ByteArray), .string t175]) := by rw [ha]; exact putSel_on (e := (8, 11, .agg #[.string (rdOf ByteArray.empty y171 (ji2)), .string (⟨#[]⟩ : ByteArray), .string t175])) 6 rfl rfl (hon 8 (by kernel_rfl)) rfl
     replace ha := Aside0.mk ha
     have BK170 := Aside0.mk (Q_BK170 hb_)
     have HB := Aside0.mk Q_HB
     have HO173 := Aside0.mk (Q_HO173 (hon 0 (by kernel_rfl)))
     have HA_HO173 := Aside0.mk (Q_HA_HO173 (hon 0 (by kernel_rfl)))
     obtain ⟨co13, eo13⟩ := HA_HO173.out
     clear HA_HO173
     subst eo13
     have hs14 : w'.cell? ⟨gb170, 0, none⟩ = some (.string (⟨#[]⟩ : ByteArray)) := (blk_cell BK170.out 0).trans rfl
     have hfs14 := blk_frozen BK170.out 0
     have hs15 : w'.cell? ⟨gb170, 1, none⟩ = some (.string (⟨#[]⟩ : ByteArray)) := (blk_cell BK170.out 1).trans rfl
     have hfs15 := blk_frozen BK170.out 1
     have hs16 : w'.cell? ⟨gb170, 2, none⟩ = some (.string (⟨#[]⟩ : ByteArray)) := (blk_cell BK170.out 2).trans rfl
     have hfs16 := blk_frozen BK170.out 2
     refine skip_ (w1 := ?_) (by rfl) rfl ?_ ?_
     rotate_left; (· go_simp; rfl)
     refine hK.out _ _ ⟨.slice (some adz_v172) y171.length co13, adz_v172, m3_, (by rw [ha.out]; exact putSel_none (v := undef) rfl), fun h0_ => absurd ((up_self b 9).symm.trans h0_) (by decide), (by repeat (first | (with_reducible first | exact HB.out | apply bA_ | apply bN_ | apply bD_ | refine bS_ ?_ GE170.out) | exact HB.out)), fun _ => (by refine bk_ ?_; exact Kd.R_mono (Kd.R_far (p := ⟨gb170, 2, none⟩) (Kd.R_far (p := ⟨gb170, 1, none⟩) (Kd.R_far (p := ⟨gb170, 0, none⟩) (Kd.R_types HO173.out BK170.out (by decide)) (fun _ hk => hk.2) (.string (rdOf ByteArray.empty y171 (ji2)))) (fun _ hk => hk.2) (.string (⟨#[]⟩ : ByteArray))) (fun _ hk => hk.2) (.string t175)) (fun _ hk => trivial)), fun _ => ⟨_, rfl⟩, fun _ => (by refine bk_ ?_; refine blk_put (cs := #[.string (rdOf ByteArray.empty y171 (ji2)), .string (⟨#[]⟩ : ByteArray), .string (⟨#[]⟩ : ByteArray)]) ?_ 2 _ rfl; refine bk_ ?_; refine blk_put (cs := #[.string (rdOf ByteArray.empty y171 (ji2)), .string (⟨#[]⟩ : ByteArray), .string (⟨#[]⟩ : ByteArray)]) ?_ 1 _ rfl; refine bk_ ?_; refine blk_put (cs := #[.string (⟨#[]⟩ : ByteArray), .string (⟨#[]⟩ : ByteArray), .string (⟨#[]⟩ : ByteArray)]) ?_ 0 _ rfl; refine bk_ ?_; exact BK170.out), Q_X3_⟩
    exact steps_nil
   rintro b a w15 hall ⟨v172, adz_v172, m3_, ha, Q_BK170, Q_HB, Q_HO173, Q_HA_HO173, Q_BK170_e9, Q_X3_⟩
   clear BK170 HB
   have hb0_ := hall 0 (by kernel_rfl)
   have hb2_ := hall 2 (by kernel_rfl)
   have hb3_ := hall 3 (by kernel_rfl)
   have hb4_ := hall 4 (by kernel_rfl)
   have hb6_ := hall 6 (by kernel_rfl)
   have hb7_ := hall 7 (by kernel_rfl)
   have hb8_ := hall 8 (by kernel_rfl)
   have hb9_ := hall 9 (by kernel_rfl)
   subst ha
   obtain rfl := Q_X3_ hb3_
   simp only [putSel, hb0_, hb2_, hb3_, hb4_, hb6_, hb7_, hb8_, hb9_, if_true,Act.put, sA_, sB_, sC_]
   clear Q_BK170
   have HB := Aside0.mk Q_HB
   clear Q_HB
   have HO173 := Aside0.mk (Q_HO173 hb0_)
   clear Q_HO173
   have HA_HO173 := Aside0.mk (Q_HA_HO173 hb0_)
   clear Q_HA_HO173
   have BK170 := Aside0.mk (Q_BK170_e9 hb9_)
   clear Q_BK170_e9
   clear hall hb0_ hb2_ hb3_ hb4_ hb6_ hb7_ hb8_ hb9_
   obtain ⟨co16, eo16⟩ := HA_HO173.out
   clear HA_HO173
   subst eo16
   try go_wp2
   refine bodyPost_ret (results_cell_row rfl _ _ gb170 41 #[.string (rdOf ByteArray.empty y171 (ji2)), .string (⟨#[]⟩ : ByteArray), .string t175] (0, 0) _ rfl (bk_ BK170.out) Tryd.underlying41 rfl (by kernel_rfl)) rfl ?_
   exact ⟨by first | rfl | (simp [errW_none, errW_some] <;> rfl) | (simp only [← hji2]; first | rfl | (simp [errW_none, errW_some] <;> rfl)) | (simp [*, errW_none, errW_some] <;> rfl), by repeat (first | (with_reducible first | exact HB.out | apply bA_ | apply bN_ | apply bD_ | refine bS_ ?_ GE170.out) | exact HB.out)⟩
  rw [if_neg c4] at H
  exact absurd H (by simp)
 rw [if_neg c3] at H
 exact absurd H (by simp)

/-! ### kerbsuitedata_Service: function 17 -/
def kerbsuitedata_Service.f (a0 : Int) : Option (ByteArray × ByteArray × ByteArray) := (some (([(⟨(⟨#[109, 97, 105, 108]⟩ : ByteArray), (⟨#[]⟩ : ByteArray), (⟨#[]⟩ : ByteArray)⟩ : S41), (⟨(⟨#[110, 102, 115]⟩ : ByteArray), (⟨#[104, 111, 109, 101]⟩ : ByteArray), (⟨#[]⟩ : ByteArray)⟩ : S41), (⟨(⟨#[107, 114, 98, 116, 103, 116]⟩ : ByteArray), (⟨#[65, 84, 72]⟩ : ByteArray), (⟨#[]⟩ : ByteArray)⟩ : S41)] : List (S41)) : List (S41))).bind fun y177 => (if 0 ≤ (Int.tmod a0 3) then (if (Int.tmod a0 3) < (y177.length : Int) then ((kerbsuitedata_Realm.f (wrap64 (Int.tdiv a0 3))).bind fun t182 => (some ((rd_T41 y177 (Int.tmod a0 3)).f0, (rd_T41 y177 (Int.tmod a0 3)).f1, t182))) else (none)) else (none))
set_option maxHeartbeats 8000000 in
set_option maxRecDepth 100000 in
theorem kerbsuitedata_Service.calls (a0 : Int) (r1 : ByteArray) (r2 : ByteArray) (r3 : ByteArray) (w : World) (h : kerbsuitedata_Service.f a0 = some (r1, r2, r3)) :
  Calls Tryd.prog 17 #[.int .i64 a0] w fun e w' => e = .returned (.agg #[.string r1, .string r2, .string r3]) ∧ Below w.heap.size w w' := by
 have hu41 := Tryd.underlying41
 have HB := Aside0.mk (Below.refl w.heap.size w)
 have H : ((some (([(⟨(⟨#[109, 97, 105, 108]⟩ : ByteArray), (⟨#[]⟩ : ByteArray), (⟨#[]⟩ : ByteArray)⟩ : S41), (⟨(⟨#[110, 102, 115]⟩ : ByteArray), (⟨#[104, 111, 109, 101]⟩ : ByteArray), (⟨#[]⟩ : ByteArray)⟩ : S41), (⟨(⟨#[107, 114, 98, 116, 103, 116]⟩ : ByteArray), (⟨#[65, 84, 72]⟩ : ByteArray), (⟨#[]⟩ : ByteArray)⟩ : S41)] : List (S41)) : List (S41))).bind fun y177 => (if 0 ≤ (Int.tmod a0 3) then (if (Int.tmod a0 3) < (y177.length : Int) then ((kerbsuitedata_Realm.f (wrap64 (Int.tdiv a0 3))).bind fun t182 => (some ((rd_T41 y177 (Int.tmod a0 3)).f0, (rd_T41 y177 (Int.tmod a0 3)).f1, t182))) else (none)) else (none))) = some (r1, r2, r3) := h
 clear h
 obtain ⟨y177, hy177⟩ : ∃ y_ : List (S41), y_ = (([(⟨(⟨#[109, 97, 105, 108]⟩ : ByteArray), (⟨#[]⟩ : ByteArray), (⟨#[]⟩ : ByteArray)⟩ : S41), (⟨(⟨#[110, 102, 115]⟩ : ByteArray), (⟨#[104, 111, 109, 101]⟩ : ByteArray), (⟨#[]⟩ : ByteArray)⟩ : S41), (⟨(⟨#[107, 114, 98, 116, 103, 116]⟩ : ByteArray), (⟨#[65, 84, 72]⟩ : ByteArray), (⟨#[]⟩ : ByteArray)⟩ : S41)] : List (S41))) := ⟨_, rfl⟩
 replace H : (if 0 ≤ (Int.tmod a0 3) then (if (Int.tmod a0 3) < (y177.length : Int) then ((kerbsuitedata_Realm.f (wrap64 (Int.tdiv a0 3))).bind fun t182 => (some ((rd_T41 y177 (Int.tmod a0 3)).f0, (rd_T41 y177 (Int.tmod a0 3)).f1, t182))) else (none)) else (none)) = some (r1, r2, r3) := by first | (rw [hy177]; with_reducible exact H) | (have H2_ := (Option.bind_some _ _).symm.trans H; rw [hy177]; with_reducible exact H2_) | (have H2_ := (Option.bind_some _ _).symm.trans H; with_reducible exact H2_) | with_reducible exact H | (rw [hy177]; exact H) | exact H
 have Ny177 := Aside0.mk hy177
 clear hy177
 obtain ⟨ji2, hji2⟩ : ∃ j_ : Int, (Int.tmod a0 3) = j_ := ⟨_, rfl⟩
 replace H : (if 0 ≤ (ji2) then (if (ji2) < (y177.length : Int) then ((kerbsuitedata_Realm.f (wrap64 (Int.tdiv a0 3))).bind fun t182 => (some ((rd_T41 y177 (ji2)).f0, (rd_T41 y177 (ji2)).f1, t182))) else (none)) else (none)) = some (r1, r2, r3) := by first | (rw [hji2] at H; exact H) | (simp only [hji2] at H ⊢; exact H)
 by_cases c3 : 0 ≤ (ji2)
 ·rw [if_pos c3] at H
  have c3b0 : decide (0 ≤ (ji2)) = true := decide_eq_true c3
  clear c3
  by_cases c4 : (ji2) < (y177.length : Int)
  ·rw [if_pos c4] at H
   have c4b0 : decide ((ji2) < (y177.length : Int)) = true := decide_eq_true c4
   clear c4
   replace H := Option.bind_eq_some_iff.mp H
   obtain ⟨t182, A50, H⟩ := H
   replace H : (some ((rd_T41 y177 (ji2)).f0, (rd_T41 y177 (ji2)).f1, t182)) = some (r1, r2, r3) := H
   have A5 := Aside0.mk A50
   clear A50
   simp only [Option.some.injEq, Prod.mk.injEq] at H
   obtain ⟨rfl, rfl, rfl⟩ := H
   go_enter Tryd.func17, Tryd.ntmps17
   go_wp2_with (first | ((with_reducible refine gate_dst (N := 2) rfl ?_); refine box_event ?hg (N := 2) ?hd (cs := #[.string (⟨#[]⟩ : ByteArray), .string (⟨#[]⟩ : ByteArray), .string (⟨#[]⟩ : ByteArray)]) (t := 41) ?hr ?_; (case hd => rfl); (case hg => rfl); (case hr => first | (go_simp; done) | (go_simp; rfl)); intro gb176 hg w6 hbox hb; have n0_ := Aside0.mk (below_step (bk_ HB.out) hb); have n1_ := Aside0.mk (hbox); have n2_ := Aside0.mk ((by rw [hg]; exact (below_size (bk_ HB.out)) : w.heap.size ≤ gb176)); have n3_ := Aside0.mk ((by rw [hg]; exact (below_size (bk_ HB.out)) : w.heap.size ≤ gb176)); clear HB; have HB := n0_; have BK176 := n1_; have GW176 := n2_; have GE176 := n3_; clear n0_ n1_ n2_ n3_; clear hb hbox hg) | ((with_reducible refine gate_dst (N := 7) rfl ?_); refine Kd.R_lit k41 _ 41 ?hg (N := 7) ?hd (xs := ([(⟨(⟨#[109, 97, 105, 108]⟩ : ByteArray), (⟨#[]⟩ : ByteArray), (⟨#[]⟩ : ByteArray)⟩ : S41), (⟨(⟨#[110, 102, 115]⟩ : ByteArray), (⟨#[104, 111, 109, 101]⟩ : ByteArray), (⟨#[]⟩ : ByteArray)⟩ : S41), (⟨(⟨#[107, 114, 98, 116, 103, 116]⟩ : ByteArray), (⟨#[65, 84, 72]⟩ : ByteArray), (⟨#[]⟩ : ByteArray)⟩ : S41)] : List (S41))) (inner := [.string (⟨#[109, 97, 105, 108]⟩ : ByteArray), .string (⟨#[]⟩ : ByteArray), .string (⟨#[]⟩ : ByteArray), .string (⟨#[110, 102, 115]⟩ : ByteArray), .string (⟨#[104, 111, 109, 101]⟩ : ByteArray), .string (⟨#[]⟩ : ByteArray), .string (⟨#[107, 114, 98, 116, 103, 116]⟩ : ByteArray), .string (⟨#[65, 84, 72]⟩ : ByteArray), .string (⟨#[]⟩ : ByteArray)]) (ok := fun _ => True) (okp := fun _ => True) ?hr ?hp (fun _ hk => hk) trivial (Below.refl _ _) (Nat.le_refl _) (by simp) ?_; (case hd => rfl); (case hg => rfl); (case hr => first | (go_simp; done) | (go_simp; rfl)); (case hp => exact (Reps.c3 (show Kd.M k41 _ _ _ (⟨(⟨#[109, 97, 105, 108]⟩ : ByteArray), (⟨#[]⟩ : ByteArray), (⟨#[]⟩ : ByteArray)⟩ : S41) [.string (⟨#[109, 97, 105, 108]⟩ : ByteArray), .string (⟨#[]⟩ : ByteArray), .string (⟨#[]⟩ : ByteArray)] from (k41_mkM _ _ _ (⟨(⟨#[109, 97, 105, 108]⟩ : ByteArray), (⟨#[]⟩ : ByteArray), (⟨#[]⟩ : ByteArray)⟩ : S41) )) (Reps.c3 (show Kd.M k41 _ _ _ (⟨(⟨#[110, 102, 115]⟩ : ByteArray), (⟨#[104, 111, 109, 101]⟩ : ByteArray), (⟨#[]⟩ : ByteArray)⟩ : S41) [.string (⟨#[110, 102, 115]⟩ : ByteArray), .string (⟨#[104, 111, 109, 101]⟩ : ByteArray), .string (⟨#[]⟩ : ByteArray)] from (k41_mkM _ _ _ (⟨(⟨#[110, 102, 115]⟩ : ByteArray), (⟨#[104, 111, 109, 101]⟩ : ByteArray), (⟨#[]⟩ : ByteArray)⟩ : S41) )) (Reps.c3 (show Kd.M k41 _ _ _ (⟨(⟨#[107, 114, 98, 116, 103, 116]⟩ : ByteArray), (⟨#[65, 84, 72]⟩ : ByteArray), (⟨#[]⟩ : ByteArray)⟩ : S41) [.string (⟨#[107, 114, 98, 116, 103, 116]⟩ : ByteArray), .string (⟨#[65, 84, 72]⟩ : ByteArray), .string (⟨#[]⟩ : ByteArray)] from (k41_mkM _ _ _ (⟨(⟨#[107, 114, 98, 116, 103, 116]⟩ : ByteArray), (⟨#[65, 84, 72]⟩ : ByteArray), (⟨#[]⟩ : ByteArray)⟩ : S41) )) (Reps.none _ _))))); intro v178 w7 ho8 hb hg_ hnew_; clear hg_ hnew_; (first | rw [← Ny177.out] at ho8 | (simp only [Int.reduceToNat] at ho8; rw [← Ny177.out] at ho8)); have n0_ := Aside0.mk (Kd.R_lower (Kd.R_newB ho8 (g := gb176) (o := .cells #[.string (⟨#[]⟩ : ByteArray), .string (⟨#[]⟩ : ByteArray), .string (⟨#[]⟩ : ByteArray)] 41 (0, 0)) (bk_ BK176.out)) (below_size (by repeat (first | (with_reducible first | exact HB.out | apply bA_ | apply bN_ | apply bD_ | refine bS_ ?_ GE176.out) | exact HB.out)))); have n1_ := Aside0.mk (blk_below (g := gb176) (o := .cells #[.string (⟨#[]⟩ : ByteArray), .string (⟨#[]⟩ : ByteArray), .string (⟨#[]⟩ : ByteArray)] 41 (0, 0)) (bk_ BK176.out) hb); have n2_ := Aside0.mk (below_step (by repeat (first | (with_reducible first | exact HB.out | apply bA_ | apply bN_ | apply bD_ | refine bS_ ?_ GE176.out) | exact HB.out)) hb); clear BK176 HB; have HO179 := n0_; have BK176 := n1_; have HB := n2_; clear n0_ n1_ n2_; clear hb ho8; obtain ⟨Ao9, co9, eo9⟩ := Kd.R_slice HO179.out; subst eo9; have p180 : 0 ≤ ((ji2) : Int) := of_decide_eq_true (by first | (with_reducible assumption) | assumption); have q180 : (ji2) < (y177.length : Int) := of_decide_eq_true (by first | (with_reducible assumption) | assumption); obtain ⟨ad180, e180, hx180_0, hx180_1, hx180_2⟩ := at_T41 (Kd.R_reads' HO179.out).2.2 (ji2) p180 q180; cases e180; replace p180 := eq_true p180; replace q180 := eq_true q180) | ((with_reducible refine gate_dst (N := 3) rfl ?_); refine box_event ?hg (N := 3) ?hd (cs := #[.string (⟨#[]⟩ : ByteArray), .string (⟨#[]⟩ : ByteArray), .string (⟨#[]⟩ : ByteArray)]) (t := 41) ?hr ?_; (case hd => rfl); (case hg => rfl); (case hr => first | (go_simp; done) | (go_simp; rfl)); intro gb181 hg w10 hbox hb; have n0_ := Aside0.mk (Kd.R_below (Kd.R_elderB (bk_ HO179.out) gb181 (Nat.le_of_eq hg.symm)) hb); have n1_ := Aside0.mk (blk_below (g := gb176) (o := .cells #[.string (⟨#[]⟩ : ByteArray), .string (⟨#[]⟩ : ByteArray), .string (⟨#[]⟩ : ByteArray)] 41 (0, 0)) (bk_ BK176.out) hb); have n2_ := Aside0.mk (below_step (by repeat (first | (with_reducible first | exact HB.out | apply bA_ | apply bN_ | apply bD_ | refine bS_ ?_ GE176.out) | exact HB.out)) hb); have n3_ := Aside0.mk (hbox); have n4_ := Aside0.mk ((by rw [hg]; exact (below_size (by repeat (first | (with_reducible first | exact HB.out | apply bA_ | apply bN_ | apply bD_ | refine bS_ ?_ GE176.out) | exact HB.out))) : w.heap.size ≤ gb181)); have n5_ := Aside0.mk ((by rw [hg]; exact (below_size (by repeat (first | (with_reducible first | exact HB.out | apply bA_ | apply bN_ | apply bD_ | refine bS_ ?_ GE176.out) | exact HB.out))) : w.heap.size ≤ gb181)); have n6_ := Aside0.mk ((by rw [hg]; exact Nat.ne_of_lt (blk_lt (g := gb176) (o := .cells #[.string (⟨#[]⟩ : ByteArray), .string (⟨#[]⟩ : ByteArray), .string (⟨#[]⟩ : ByteArray)] 41 (0, 0)) (bk_ BK176.out)) : gb176 ≠ gb181)); have n7_ := Aside0.mk ((by rw [hg]; exact Nat.ne_of_gt (blk_lt (g := gb176) (o := .cells #[.string (⟨#[]⟩ : ByteArray), .string (⟨#[]⟩ : ByteArray), .string (⟨#[]⟩ : ByteArray)] 41 (0, 0)) (bk_ BK176.out)) : gb181 ≠ gb176)); clear HO179 BK176 HB; have HO179 := n0_; have BK176 := n1_; have HB := n2_; have BK181 := n3_; have GW181 := n4_; have GE181 := n5_; have NB176_181 := n6_; have NB181_176 := n7_; clear n0_ n1_ n2_ n3_ n4_ n5_ n6_ n7_; clear hb hbox hg; have hnb11 := NB181_176.out; have hnc11 := NB176_181.out; have hcz12_0 : w10.cell? ⟨gb181, 0, none⟩ = some (.string (⟨#[]⟩ : ByteArray)) := (blk_cell BK181.out 0).trans rfl; have hcz12_1 : w10.cell? ⟨gb181, 1, none⟩ = some (.string (⟨#[]⟩ : ByteArray)) := (blk_cell BK181.out 1).trans rfl; have hcz12_2 : w10.cell? ⟨gb181, 2, none⟩ = some (.string (⟨#[]⟩ : ByteArray)) := (blk_cell BK181.out 2).trans rfl; have hfz12_0 := blk_frozen BK181.out 0; have hfz12_1 := blk_frozen BK181.out 1; have hfz12_2 := blk_frozen BK181.out 2) | ((with_reducible refine gate_callee (f := 33) rfl ?_); refine goesL_ (some 14) rfl rfl Tryd.func33 (by kernel_rfl) rfl #[.int .i64 (wrap64 (Int.tdiv a0 3))] rfl (by (try simp only [List.map_toArray, List.map_cons, List.map_nil]); first | done | rfl | (simp only [List.length_drop, List.length_take]; rfl)) ?_; (with_reducible refine (kerbsuitedata_Realm.calls (wrap64 (Int.tdiv a0 3)) t182 _ A5.out).mono ?_); rintro e w13 ⟨rfl, hb⟩; refine ⟨_, rfl, ?_⟩; have n0_ := Aside0.mk (Kd.R_below (by refine bk_ ?_; exact (Kd.R_mono (Kd.R_far (p := ⟨gb181, 2, none⟩) (Kd.R_far (p := ⟨gb181, 1, none⟩) (Kd.R_far (p := ⟨gb181, 0, none⟩) (Kd.R_mono HO179.out (fun k_ hk => (⟨hk, hk.2⟩ : _ ∧ k_ ≠ gb181))) (fun _ hk => hk.2) (.string ((rd_T41 y177 (ji2)).f0))) (fun _ hk => hk.2) (.string ((rd_T41 y177 (ji2)).f1))) (fun _ hk => hk.2) (.string ((rd_T41 y177 (ji2)).f2))) (fun _ h_ => h_.1))) hb); have n1_ := Aside0.mk (blk_below (g := gb176) (o := .cells #[.string (⟨#[]⟩ : ByteArray), .string (⟨#[]⟩ : ByteArray), .string (⟨#[]⟩ : ByteArray)] 41 (0, 0)) (by refine bk_ ?_; refine blk_far ?_ NB176_181.out _; refine bk_ ?_; refine blk_far ?_ NB176_181.out _; refine bk_ ?_; refine blk_far ?_ NB176_181.out _; refine bk_ ?_; exact BK176.out) hb); have n2_ := Aside0.mk (blk_below (g := gb181) (o := .cells #[.string ((rd_T41 y177 (ji2)).f0), .string ((rd_T41 y177 (ji2)).f1), .string ((rd_T41 y177 (ji2)).f2)] 41 (0, 0)) (by refine bk_ ?_; refine blk_put (cs := #[.string ((rd_T41 y177 (ji2)).f0), .string ((rd_T41 y177 (ji2)).f1), .string (⟨#[]⟩ : ByteArray)]) ?_ 2 _ rfl; refine bk_ ?_; refine blk_put (cs := #[.string ((rd_T41 y177 (ji2)).f0), .string (⟨#[]⟩ : ByteArray), .string (⟨#[]⟩ : ByteArray)]) ?_ 1 _ rfl; refine bk_ ?_; refine blk_put (cs := #[.string (⟨#[]⟩ : ByteArray), .string (⟨#[]⟩ : ByteArray), .string (⟨#[]⟩ : ByteArray)]) ?_ 0 _ rfl; refine bk_ ?_; exact BK181.out) hb); have n3_ := Aside0.mk (below_step (by repeat (first | (with_reducible first | exact HB.out | apply bA_ | apply bN_ | apply bD_ | refine bS_ ?_ GE176.out | refine bS_ ?_ GE181.out) | exact HB.out)) hb); clear HO179 BK176 BK181 HB; have HO179 := n0_; have BK176 := n1_; have BK181 := n2_; have HB := n3_; clear n0_ n1_ n2_ n3_; (try clear hb); (try clear hb2); (try clear hk); (try clear hi); have hcz14_0 : w13.cell? ⟨gb181, 0, none⟩ = some (.string ((rd_T41 y177 (ji2)).f0)) := (blk_cell BK181.out 0).trans rfl; have hcz14_1 : w13.cell? ⟨gb181, 1, none⟩ = some (.string ((rd_T41 y177 (ji2)).f1)) := (blk_cell BK181.out 1).trans rfl; have hcz14_2 : w13.cell? ⟨gb181, 2, none⟩ = some (.string ((rd_T41 y177 (ji2)).f2)) := (blk_cell BK181.out 2).trans rfl; have hfz14_0 := blk_frozen BK181.out 0; have hfz14_1 := blk_frozen BK181.out 1; have hfz14_2 := blk_frozen BK181.out 2; have hcz15_0 : w13.cell? ⟨gb176, 0, none⟩ = some (.string (⟨#[]⟩ : ByteArray)) := (blk_cell BK176.out 0).trans rfl; have hcz15_1 : w13.cell? ⟨gb176, 1, none⟩ = some (.string (⟨#[]⟩ : ByteArray)) := (blk_cell BK176.out 1).trans rfl; have hcz15_2 : w13.cell? ⟨gb176, 2, none⟩ = some (.string (⟨#[]⟩ : ByteArray)) := (blk_cell BK176.out 2).trans rfl; have hfz15_0 := blk_frozen BK176.out 0; have hfz15_1 := blk_frozen BK176.out 1; have hfz15_2 := blk_frozen BK176.out 2))
   refine bodyPost_ret (results_cell_row rfl _ _ gb176 41 #[.string ((rd_T41 y177 (ji2)).f0), .string ((rd_T41 y177 (ji2)).f1), .string t182] (0, 0) _ rfl (by refine bk_ ?_; refine blk_put (cs := #[.string ((rd_T41 y177 (ji2)).f0), .string ((rd_T41 y177 (ji2)).f1), .string (⟨#[]⟩ : ByteArray)]) ?_ 2 _ rfl; refine bk_ ?_; refine blk_put (cs := #[.string ((rd_T41 y177 (ji2)).f0), .string (⟨#[]⟩ : ByteArray), .string (⟨#[]⟩ : ByteArray)]) ?_ 1 _ rfl; refine bk_ ?_; refine blk_put (cs := #[.string (⟨#[]⟩ : ByteArray), .string (⟨#[]⟩ : ByteArray), .string (⟨#[]⟩ : ByteArray)]) ?_ 0 _ rfl; refine bk_ ?_; refine blk_far ?_ NB176_181.out _; refine bk_ ?_; exact BK176.out) Tryd.underlying41 rfl (by kernel_rfl)) rfl ?_
   exact ⟨by first | rfl | (simp [errW_none, errW_some] <;> rfl) | (simp only [← hji2]; first | rfl | (simp [errW_none, errW_some] <;> rfl)) | (simp [*, errW_none, errW_some] <;> rfl), by repeat (first | (with_reducible first | exact HB.out | apply bA_ | apply bN_ | apply bD_ | refine bS_ ?_ GE176.out | refine bS_ ?_ GE181.out) | exact HB.out)⟩
  rw [if_neg c4] at H
  exact absurd H (by simp)
 rw [if_neg c3] at H
 exact absurd H (by simp)

end Go.Proofs.YthfdfoigoomaoaaDoor.PDb
