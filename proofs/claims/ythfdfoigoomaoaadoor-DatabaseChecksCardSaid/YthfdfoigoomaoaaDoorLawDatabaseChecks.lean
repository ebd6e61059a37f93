/- The law DatabaseChecks, as its row states it: out of its plain statement and its walk. -/
import Derived.Test.YthfdfoigoomaoaaDoorRows
import Derived.Test.YthfdfoigoomaoaaDoorAid
import Derived.Test.YthfdfoigoomaoaaDoorPDbx13
import Derived.Test.YthfdfoigoomaoaaDoorPureDatabaseChecks
import Derived.WalkKit
import Derived.ProofKit
import Derived.OpenShut
import Derived.ShutString
import Derived.ChangeOld
import Derived.Below
import Derived.SizedLaws
import Derived.Carry
import Derived.LaidMore
import Derived.Lay
import Derived.SevenTiedAt
import Derived.Stop.Joined
import Derived.Test.YthfdfoigoomaoaaDoorTie
import Derived.Test.YthfdfoigoomaoaaDoorCards
import Derived.Test.YthfdfoigoomaoaaDoorWSized
namespace Go.Proofs.YthfdfoigoomaoaaDoor.databaseChecks
open Go.ChangeShapes Go.WideShapes Go.ChangeAt Go.RowKit Go.Proofs.YthfdfoigoomaoaaDoor Go.Proofs.YthfdfoigoomaoaaDoor.PDb Go.Proofs.YthfdfoigoomaoaaDoorW.PrintWords
open Go.ChangeMaps (open_string shut_string)
set_option linter.unusedVariables false
theorem own : ownKnob Tryd.prog.godebug = none := by kernel_rfl
theorem laidOut : laidOutB Tryd.prog = true := by kernel_rfl
def IsRow (k : IntKind) (w : World) (a : Option Addr) (len cap : Nat) (zs : List Int) : Prop :=
 (a = none ∧ len = 0 ∧ cap = 0 ∧ zs = []) ∨
 ∃ x, a = some x ∧ len ≤ cap ∧ cap ≤ maxLen ∧ zs.length = cap ∧ (∀ i, i < zs.length → w.cell? (x.add i) = some (.int k (zs.getD i 0))) ∧ ∀ n ∈ zs, (Lit.int k n).wf = true
theorem open_rows22 {H : Type} {enc : TypeId × Value → H} {W : World} {a : Option Addr} {len cap : Nat} {d : DataW H} {p : List MemPlace} (h : DataW.Trod enc Tryd.prog W 0 (fun _ => true) true 22 (.slice a len cap) d p) :
  ∃ l : List S35, len = l.length ∧ Kd.C k35 W a l.length l ∧ l.length ≤ cap ∧ l.length ≤ maxLen ∧ ∀ x ∈ l, x.f0.size ≤ maxLen ∧ x.f1.size ≤ maxLen ∧ (Lit.int .u64 x.f2).wf = true ∧ (Lit.int .i64 x.f3).wf = true ∧ (Lit.int .i64 x.f4).wf = true ∧ (Lit.int .i64 x.f5).wf = true ∧ (Lit.int .i64 x.f6).wf = true ∧ (Lit.int .i64 x.f7).wf = true ∧ (Lit.int .i64 x.f8).wf = true := by
 obtain ⟨hl, hm, hr⟩ := Aid.aid_open_rows Tryd.underlying22 Tryd.underlying35 (by kernel_rfl) (by kernel_rfl) h
 have key : ∀ i, i < len → ∃ x : S35, (∃ c : List Value, c.length = 9 ∧ k35.K W x c ∧ ∀ ad, a = some ad → ∀ j u, c[j]? = some u → W.cell? (ad.add (i * 9 + j)) = some u) ∧ (x.f0.size ≤ maxLen ∧ x.f1.size ≤ maxLen ∧ (Lit.int .u64 x.f2).wf = true ∧ (Lit.int .i64 x.f3).wf = true ∧ (Lit.int .i64 x.f4).wf = true ∧ (Lit.int .i64 x.f5).wf = true ∧ (Lit.int .i64 x.f6).wf = true ∧ (Lit.int .i64 x.f7).wf = true ∧ (Lit.int .i64 x.f8).wf = true) := by
  intro i hi
  obtain ⟨ad, rfl, n, hf⟩ := hr (by omega)
  obtain ⟨v0, y0, hc0, t0⟩ := hf i hi 0 _ rfl
  obtain ⟨a0, e_0, _, q0_0⟩ := DataW.trod_string Tryd.underlying9 t0
  obtain rfl : v0 = .string a0 := by simpa using e_0
  obtain ⟨v1, y1, hc1, t1⟩ := hf i hi 1 _ rfl
  obtain ⟨a1, e_1, _, q1_0⟩ := DataW.trod_string Tryd.underlying9 t1
  obtain rfl : v1 = .string a1 := by simpa using e_1
  obtain ⟨v2, y2, hc2, t2⟩ := hf i hi 2 _ rfl
  obtain ⟨a2, e_2, _, q2_0⟩ := DataW.trod_int Tryd.underlying33 t2
  obtain rfl : v2 = .int .u64 a2 := by simpa using e_2
  obtain ⟨v3, y3, hc3, t3⟩ := hf i hi 3 _ rfl
  obtain ⟨a3, e_3, _, q3_0⟩ := DataW.trod_int Tryd.underlying3 t3
  obtain rfl : v3 = .int .i64 a3 := by simpa using e_3
  obtain ⟨v4, y4, hc4, t4⟩ := hf i hi 4 _ rfl
  obtain ⟨a4, e_4, _, q4_0⟩ := DataW.trod_int Tryd.underlying3 t4
  obtain rfl : v4 = .int .i64 a4 := by simpa using e_4
  obtain ⟨v5, y5, hc5, t5⟩ := hf i hi 5 _ rfl
  obtain ⟨a5, e_5, _, q5_0⟩ := DataW.trod_int Tryd.underlying3 t5
  obtain rfl : v5 = .int .i64 a5 := by simpa using e_5
  obtain ⟨v6, y6, hc6, t6⟩ := hf i hi 6 _ rfl
  obtain ⟨a6, e_6, _, q6_0⟩ := DataW.trod_int Tryd.underlying3 t6
  obtain rfl : v6 = .int .i64 a6 := by simpa using e_6
  obtain ⟨v7, y7, hc7, t7⟩ := hf i hi 7 _ rfl
  obtain ⟨a7, e_7, _, q7_0⟩ := DataW.trod_int Tryd.underlying3 t7
  obtain rfl : v7 = .int .i64 a7 := by simpa using e_7
  obtain ⟨v8, y8, hc8, t8⟩ := hf i hi 8 _ rfl
  obtain ⟨a8, e_8, _, q8_0⟩ := DataW.trod_int Tryd.underlying3 t8
  obtain rfl : v8 = .int .i64 a8 := by simpa using e_8
  refine ⟨⟨a0, a1, a2, a3, a4, a5, a6, a7, a8⟩, ⟨[.string a0, .string a1, .int .u64 a2, .int .i64 a3, .int .i64 a4, .int .i64 a5, .int .i64 a6, .int .i64 a7, .int .i64 a8], rfl, (by first | exact k35_mk | exact k35_mk _ _), ?_⟩, ⟨q0_0, q1_0, q2_0, q3_0, q4_0, q5_0, q6_0, q7_0, q8_0⟩⟩
  intro ad2 ha j u hu
  cases ha
  match j, hu with
  | 0, hu => simp at hu; subst hu; simpa using hc0
  | 1, hu => simp at hu; subst hu; simpa using hc1
  | 2, hu => simp at hu; subst hu; simpa using hc2
  | 3, hu => simp at hu; subst hu; simpa using hc3
  | 4, hu => simp at hu; subst hu; simpa using hc4
  | 5, hu => simp at hu; subst hu; simpa using hc5
  | 6, hu => simp at hu; subst hu; simpa using hc6
  | 7, hu => simp at hu; subst hu; simpa using hc7
  | 8, hu => simp at hu; subst hu; simpa using hc8
  | q + 9, hu => simp at hu
 obtain ⟨l, hll, hq⟩ := Aid.aid_choose len key
 subst hll
 refine ⟨l, rfl, ⟨rfl, by simp only [maxLen] at hm; omega, fun hn => ?_⟩, hl, by omega, ?_⟩
 ·obtain ⟨ad, rfl, _⟩ := hr hn
  refine ⟨ad, rfl, fun j x hj => ?_⟩
  obtain ⟨⟨c, h1, h2, h3⟩, _⟩ := hq j x hj
  exact ⟨c, h1, h2, h3 ad rfl⟩
 intro x hx
 obtain ⟨i, hi⟩ := List.getElem?_of_mem hx
 exact (hq i x hi).2
set_option maxRecDepth 100000 in
theorem lifted (os : Os) (started : os.Started) (H : Type) (enc : TypeId × Value → H) :
  ReturnsInHanded {} Tryd.checked os 3 .any (fun w args => (Rows.databaseChecksSpec.pre enc Tryd.prog Tryd.f3 Rows.databaseChecksRow.domain false w args ∧ laidMetH Tryd.prog Rows.databaseChecksRow.laid w) ∧ sizedMet enc Tryd.prog Tryd.f3 (OpenSpec.ofChange Rows.databaseChecksSpec) false w args) (Rows.databaseChecksSpec.post enc Tryd.prog Tryd.f3 false true false false) := by
 refine returnsInHanded_of_change_and (C := Tryd.checked) (X := fun w _ => laidMetH Tryd.prog Rows.databaseChecksRow.laid w) (fun _ _ _ hh h => h.of_heap hh) own started (by kernel_rfl) Tryd.func3
  (ChangeSpec.witness_shaped (enc := enc) (C := Tryd.checked) (os := os) (X := fun w _ => laidMetH Tryd.prog Rows.databaseChecksRow.laid w) false (World.laidAll Tryd.prog os Rows.databaseChecksRow.laid) #[(.agg #[(.string ⟨#[]⟩), (.slice none 0 0)]), .slice none 0 0, .int .u8 0, .int .u8 0, .int .i64 0, .string ⟨#[]⟩] 8 (World.laidAll_os _ _ _)
   (World.shaped_of_ZipB (by kernel_rfl) (by kernel_rfl)) (by kernel_rfl) (by kernel_rfl) (by kernel_rfl)
   (by rw [MakeChecks.laidMetH_plain _ _ _ (by kernel_rfl)]; exact laidMet_laidAll _ (by kernel_rfl) (by kernel_rfl))) ?_
 intro W base args ds gs before hval0 hW hcnd hsz0 hL _
 have hsz : (DataW.weightsEach Tryd.prog (Tryd.f3.params.toList ++ Rows.databaseChecksSpec.plain.varTypes Tryd.prog) (ds ++ gs)).all (· ≤ reachBytes) = true := hsz0
 have hval : ∀ (j : Nat) t v, Tryd.f3.params[j]? = some t → args[j]? = some v → Value.okWide Tryd.prog W .any base t v := hval0
 have hW' := hW
 obtain ⟨p, q, hA0, hV, rfl, hfz, hnd⟩ := hW
 have hA : DataW.TrodAll enc Tryd.prog W 0 (fun _ => true) true Tryd.f3.params.toList args.toList ds p := hA0
 rw [Tryd.params3] at hA hval hsz
 obtain ⟨v0, vs0, d0, ds0, p0, z_0, hargs, rfl, rfl, h0, r0⟩ := trodAll_cons hA
 obtain ⟨v1, vs1, d1, ds1, p1, z_1, rfl, rfl, rfl, h1, r1⟩ := trodAll_cons r0
 obtain ⟨v2, vs2, d2, ds2, p2, z_2, rfl, rfl, rfl, h2, r2⟩ := trodAll_cons r1
 obtain ⟨v3, vs3, d3, ds3, p3, z_3, rfl, rfl, rfl, h3, r3⟩ := trodAll_cons r2
 obtain ⟨v4, vs4, d4, ds4, p4, z_4, rfl, rfl, rfl, h4, r4⟩ := trodAll_cons r3
 obtain ⟨v5, vs5, d5, ds5, p5, z_5, rfl, rfl, rfl, h5, r5⟩ := trodAll_cons r4
 obtain ⟨rfl, rfl, rfl⟩ := trodAll_nil r5
 obtain rfl : args = #[v0, v1, v2, v3, v4, v5] := by cases args; simp_all
 obtain ⟨rfl, rfl⟩ := trodVars_none hV
 have k0 := h0
 have lt0 : ∀ x ∈ p0, x.block < W.heap.size := by obtain ⟨m, hm⟩ := k0; exact DataW.trod_lt m _ _ _ hm
 obtain ⟨cs0, m0, rfl, hz0, hf0⟩ := Aid.aid_open_struct Tryd.underlying24 (by kernel_rfl) (by kernel_rfl) (hval 0 24 v0 rfl rfl) h0
 obtain ⟨c0_0, y0_0, hx0_0, ht0_0⟩ := hf0 0 _ rfl
 obtain ⟨a0_0, e_0_0, _, q0_0_0⟩ := DataW.trod_string Tryd.underlying9 ht0_0
 obtain rfl : c0_0 = .string a0_0 := by simpa using e_0_0
 obtain ⟨c0_1, y0_1, hx0_1, ht0_1⟩ := hf0 1 _ rfl
 obtain ⟨A0_1, len0_1, c0_1, rfl, T0_1⟩ := Aid.aid_slice_form Tryd.underlying22 ht0_1
 obtain ⟨l0_1, rfl, hr0_1, hc0_1, q0_1_0, q0_1_1⟩ := open_rows22 T0_1
 obtain rfl := Aid.aid_arr2 hz0 hx0_0 hx0_1
 have k1 := h1
 have lt1 : ∀ x ∈ p1, x.block < W.heap.size := by obtain ⟨m, hm⟩ := k1; exact DataW.trod_lt m _ _ _ hm
 obtain ⟨A1, len1, c1, rfl⟩ := okWide_slice Tryd.underlying25 (hval 1 25 v1 rfl rfl)
 obtain ⟨z1, w1⟩ : ∃ zs, IsRow .u8 W A1 len1 c1 zs := by
  obtain ⟨fuel, hf⟩ := h1
  rcases open_ints Tryd.underlying25 Tryd.underlying5 (by kernel_rfl) hf with ⟨hcs, _⟩ | ⟨x, l, c, zs, hcs, _, hl, hm, hz, _, hcell, hwz⟩
  ·simp [Value.cells] at hcs
   obtain ⟨rfl, rfl, rfl⟩ := hcs
   exact ⟨[], .inl ⟨rfl, rfl, rfl, rfl⟩⟩
  simp [Value.cells] at hcs
  obtain ⟨rfl, rfl, rfl⟩ := hcs
  exact ⟨zs, .inr ⟨_, rfl, hl, hm, by simpa using hz, hcell, hwz⟩⟩
 have q1_1 : len1 * 1 ≤ 140737488351232 := sized_ints hsz (j := 1) (t := 25) rfl rfl Tryd.underlying25 Tryd.underlying5 (by kernel_rfl) (by kernel_rfl) h1
 obtain ⟨l1, rfl, hs1, q1_0, q1_2, hc1⟩ := ReadsInt.ofRowC w1
 have hr1 := Kd.C_of_reads (d := (0 : Int)) (h1 := fun _ => rfl) hs1
 obtain ⟨a2, rfl, rfl, rfl, q2_0⟩ := open_int Tryd.underlying5 (hval 2 5 v2 rfl rfl) h2
 obtain ⟨a3, rfl, rfl, rfl, q3_0⟩ := open_int Tryd.underlying5 (hval 3 5 v3 rfl rfl) h3
 obtain ⟨a4, rfl, rfl, rfl, q4_0⟩ := open_int Tryd.underlying3 (hval 4 3 v4 rfl rfl) h4
 obtain ⟨a5, rfl, rfl, rfl, y5⟩ := open_string Tryd.underlying9 (hval 5 9 v5 rfl rfl) h5
 have q5_0 : a5.size ≤ 140737488351232 := by
  have z := sized_string hsz (j := 5) (t := 9) rfl rfl
  rw [Array.length_toList] at z
  exact z
 clear hA0 hval0 hsz0 hsz
 refine (PDb.kerbsuitelaw12_DatabaseChecks.walk Pure.DatabaseChecks a0_0 A0_1 c0_1 l0_1 A1 c1 l1 a2 a3 a4 a5 W q0_0_0 hr0_1 hc0_1 q0_1_0 q0_1_1 hr1 hc1 q1_0 q1_1 q1_2 q2_0 q3_0 q4_0 q5_0).mono fun e W' ⟨he, bel⟩ => ?_
 subst he
 exact ⟨_, rfl, _, _, _, [], _, [], hW', trodAll_mk1 (shut_bool Tryd.underlying4 _), (trodAll_cons_mk (Below.trod laidOut (by kernel_rfl) (of_decide_eq_true (by kernel_rfl)) k0 bel lt0) (trodAll_cons_mk (Below.trod laidOut (by kernel_rfl) (of_decide_eq_true (by kernel_rfl)) k1 bel lt1) (trodAll_cons_mk (shut_int Tryd.underlying5 q2_0) (trodAll_cons_mk (shut_int Tryd.underlying5 q3_0) (trodAll_cons_mk (shut_int Tryd.underlying3 q4_0) (trodAll_cons_mk (shut_string Tryd.underlying9 y5) trodAll_mk0)))))), rfl, bel.frame _, fun h => by cases h⟩
theorem over : Rows.databaseChecksRow.holds Tryd.pinned (OpenSpec.ofChange Rows.databaseChecksSpec) :=
 OpenClaim.holds_of_wide 3 Tryd.f3 rfl rfl rfl rfl rfl rfl rfl ⟨rfl, rfl, rfl, rfl, rfl⟩ rfl rfl rfl rfl rfl (by kernel_rfl) Tryd.func3 (by kernel_rfl)
  (of_decide_eq_true (by kernel_rfl)) (by unfold Func.isWrapper; first | (rw [if_pos (by decide +kernel)]; kernel_rfl) | (rw [if_neg (by decide +kernel)]; exact ⟨rfl, rfl⟩))
  (fun os started H enc _ => lifted os started H enc)
theorem row : Rows.DatabaseChecksSaid := over
theorem proved : Rows.DatabaseChecksCardSaid :=
 Claim7.holds_tied_plain_at .later [] [.data, .data, .data] true (true,"86da0c24c9236608754bf5c54e3aea5521f45cfe452094d8e1acd59017ce1540") false row (fun _ h => by cases h) (by kernel_rfl) (fun _ h => by cases h) databaseChecks_row_tie rfl ⟨rfl, rfl⟩ (by kernel_rfl) rfl
  (fun f fn hf hfn => by
   obtain rfl : f = 3 := Option.some.inj ((show Tryd.prog.funcNamed "kerbsuite/kerbsuitelaw12.DatabaseChecks" = some 3 by kernel_rfl).symm.trans hf) |>.symm
   obtain rfl : fn = Tryd.f3 := (Option.some.inj (Tryd.func3.symm.trans hfn)).symm
   exact ⟨by kernel_rfl, fun j t ht => by
    rw [Tryd.params3] at ht
    have hm : t ∈ [24, 25, 5, 5, 3, 9] := by simpa using Array.mem_of_getElem? ht
    have hall : ([24, 25, 5, 5, 3, 9].all fun u => !Tryd.prog.wantsStandIn u) = true := by kernel_rfl
    exact (show Tryd.prog.wantsStandIn t = false by simpa using List.all_eq_true.1 hall t hm)⟩)
  (by kernel_rfl)
#print axioms proved
end Go.Proofs.YthfdfoigoomaoaaDoor.databaseChecks
namespace Go.Proofs.YthfdfoigoomaoaaDoor
/-- The card, under a short name, for the claim. -/
theorem databaseChecks_holds : Rows.DatabaseChecksCardSaid := databaseChecks.proved
end Go.Proofs.YthfdfoigoomaoaaDoor
