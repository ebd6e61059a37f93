/- The law DatabaseKeeps, as its row states it: out of its plain statement and its walk. -/
import Derived.Test.YthfdfoigoomaoaaDoorRows
import Derived.Test.YthfdfoigoomaoaaDoorAid
import Derived.Test.YthfdfoigoomaoaaDoorPDbx12
import Derived.Test.YthfdfoigoomaoaaDoorPureDatabaseKeeps
import Derived.WalkKit
import Derived.ProofKit
import Derived.OpenShut
import Derived.ShutString
import Derived.ChangeOld
import Derived.Below
import Derived.SizedLaws
import Derived.Carry
import Derived.LaidMore
import Derived.Lay
import Derived.SevenTiedAt
import Derived.Stop.Joined
import Derived.Test.YthfdfoigoomaoaaDoorTie
import Derived.Test.YthfdfoigoomaoaaDoorCards
import Derived.Test.YthfdfoigoomaoaaDoorWSized
namespace Go.Proofs.YthfdfoigoomaoaaDoor.databaseKeeps
open Go.ChangeShapes Go.WideShapes Go.ChangeAt Go.RowKit Go.Proofs.YthfdfoigoomaoaaDoor Go.Proofs.YthfdfoigoomaoaaDoor.PDb Go.Proofs.YthfdfoigoomaoaaDoorW.PrintWords
open Go.ChangeMaps (open_string shut_string)
set_option linter.unusedVariables false
theorem own : ownKnob Tryd.prog.godebug = none := by kernel_rfl
theorem laidOut : laidOutB Tryd.prog = true := by kernel_rfl
def IsRow (k : IntKind) (w : World) (a : Option Addr) (len cap : Nat) (zs : List Int) : Prop :=
 (a = none ∧ len = 0 ∧ cap = 0 ∧ zs = []) ∨
 ∃ x, a = some x ∧ len ≤ cap ∧ cap ≤ maxLen ∧ zs.length = cap ∧ (∀ i, i < zs.length → w.cell? (x.add i) = some (.int k (zs.getD i 0))) ∧ ∀ n ∈ zs, (Lit.int k n).wf = true
set_option maxRecDepth 100000 in
theorem lifted (os : Os) (started : os.Started) (H : Type) (enc : TypeId × Value → H) :
  ReturnsInHanded {} Tryd.checked os 5 .any (fun w args => (Rows.databaseKeepsSpec.pre enc Tryd.prog Tryd.f5 Rows.databaseKeepsRow.domain false w args ∧ laidMetH Tryd.prog Rows.databaseKeepsRow.laid w) ∧ sizedMet enc Tryd.prog Tryd.f5 (OpenSpec.ofChange Rows.databaseKeepsSpec) false w args) (Rows.databaseKeepsSpec.post enc Tryd.prog Tryd.f5 false true false false) := by
 refine returnsInHanded_of_change_and (C := Tryd.checked) (X := fun w _ => laidMetH Tryd.prog Rows.databaseKeepsRow.laid w) (fun _ _ _ hh h => h.of_heap hh) own started (by kernel_rfl) Tryd.func5
  (ChangeSpec.witness_shaped (enc := enc) (C := Tryd.checked) (os := os) (X := fun w _ => laidMetH Tryd.prog Rows.databaseKeepsRow.laid w) false (World.laidAll Tryd.prog os Rows.databaseKeepsRow.laid) #[.slice none 0 0, .slice none 0 0, .int .u8 0] 8 (World.laidAll_os _ _ _)
   (World.shaped_of_ZipB (by kernel_rfl) (by kernel_rfl)) (by kernel_rfl) (by kernel_rfl) (by kernel_rfl)
   (by rw [MakeChecks.laidMetH_plain _ _ _ (by kernel_rfl)]; exact laidMet_laidAll _ (by kernel_rfl) (by kernel_rfl))) ?_
 intro W base args ds gs before hval0 hW hcnd hsz0 hL _
 have hsz : (DataW.weightsEach Tryd.prog (Tryd.f5.params.toList ++ Rows.databaseKeepsSpec.plain.varTypes Tryd.prog) (ds ++ gs)).all (· ≤ reachBytes) = true := hsz0
 have hval : ∀ (j : Nat) t v, Tryd.f5.params[j]? = some t → args[j]? = some v → Value.okWide Tryd.prog W .any base t v := hval0
 have hW' := hW
 obtain ⟨p, q, hA0, hV, rfl, hfz, hnd⟩ := hW
 have hA : DataW.TrodAll enc Tryd.prog W 0 (fun _ => true) true Tryd.f5.params.toList args.toList ds p := hA0
 rw [Tryd.params5] at hA hval hsz
 obtain ⟨v0, vs0, d0, ds0, p0, z_0, hargs, rfl, rfl, h0, r0⟩ := trodAll_cons hA
 obtain ⟨v1, vs1, d1, ds1, p1, z_1, rfl, rfl, rfl, h1, r1⟩ := trodAll_cons r0
 obtain ⟨v2, vs2, d2, ds2, p2, z_2, rfl, rfl, rfl, h2, r2⟩ := trodAll_cons r1
 obtain ⟨rfl, rfl, rfl⟩ := trodAll_nil r2
 obtain rfl : args = #[v0, v1, v2] := by cases args; simp_all
 obtain ⟨rfl, rfl⟩ := trodVars_none hV
 have k0 := h0
 have lt0 : ∀ x ∈ p0, x.block < W.heap.size := by obtain ⟨m, hm⟩ := k0; exact DataW.trod_lt m _ _ _ hm
 obtain ⟨A0, len0, c0, rfl⟩ := okWide_slice Tryd.underlying25 (hval 0 25 v0 rfl rfl)
 obtain ⟨z0, w0⟩ : ∃ zs, IsRow .u8 W A0 len0 c0 zs := by
  obtain ⟨fuel, hf⟩ := h0
  rcases open_ints Tryd.underlying25 Tryd.underlying5 (by kernel_rfl) hf with ⟨hcs, _⟩ | ⟨x, l, c, zs, hcs, _, hl, hm, hz, _, hcell, hwz⟩
  ·simp [Value.cells] at hcs
   obtain ⟨rfl, rfl, rfl⟩ := hcs
   exact ⟨[], .inl ⟨rfl, rfl, rfl, rfl⟩⟩
  simp [Value.cells] at hcs
  obtain ⟨rfl, rfl, rfl⟩ := hcs
  exact ⟨zs, .inr ⟨_, rfl, hl, hm, by simpa using hz, hcell, hwz⟩⟩
 have q0_1 : len0 * 1 ≤ 140737488351232 := sized_ints hsz (j := 0) (t := 25) rfl rfl Tryd.underlying25 Tryd.underlying5 (by kernel_rfl) (by kernel_rfl) h0
 obtain ⟨l0, rfl, hs0, q0_0, q0_2, hc0⟩ := ReadsInt.ofRowC w0
 have hr0 := Kd.C_of_reads (d := (0 : Int)) (h1 := fun _ => rfl) hs0
 have k1 := h1
 have lt1 : ∀ x ∈ p1, x.block < W.heap.size := by obtain ⟨m, hm⟩ := k1; exact DataW.trod_lt m _ _ _ hm
 obtain ⟨A1, len1, c1, rfl⟩ := okWide_slice Tryd.underlying25 (hval 1 25 v1 rfl rfl)
 obtain ⟨z1, w1⟩ : ∃ zs, IsRow .u8 W A1 len1 c1 zs := by
  obtain ⟨fuel, hf⟩ := h1
  rcases open_ints Tryd.underlying25 Tryd.underlying5 (by kernel_rfl) hf with ⟨hcs, _⟩ | ⟨x, l, c, zs, hcs, _, hl, hm, hz, _, hcell, hwz⟩
  ·simp [Value.cells] at hcs
   obtain ⟨rfl, rfl, rfl⟩ := hcs
   exact ⟨[], .inl ⟨rfl, rfl, rfl, rfl⟩⟩
  simp [Value.cells] at hcs
  obtain ⟨rfl, rfl, rfl⟩ := hcs
  exact ⟨zs, .inr ⟨_, rfl, hl, hm, by simpa using hz, hcell, hwz⟩⟩
 have q1_1 : len1 * 1 ≤ 140737488351232 := sized_ints hsz (j := 1) (t := 25) rfl rfl Tryd.underlying25 Tryd.underlying5 (by kernel_rfl) (by kernel_rfl) h1
 obtain ⟨l1, rfl, hs1, q1_0, q1_2, hc1⟩ := ReadsInt.ofRowC w1
 have hr1 := Kd.C_of_reads (d := (0 : Int)) (h1 := fun _ => rfl) hs1
 obtain ⟨a2, rfl, rfl, rfl, q2_0⟩ := open_int Tryd.underlying5 (hval 2 5 v2 rfl rfl) h2
 clear hA0 hval0 hsz0 hsz
 refine (PDb.kerbsuitelaw12_DatabaseKeeps.walk Pure.DatabaseKeeps A0 c0 l0 A1 c1 l1 a2 W hr0 hc0 q0_0 q0_1 q0_2 hr1 hc1 q1_0 q1_1 q1_2 q2_0).mono fun e W' ⟨he, bel⟩ => ?_
 subst he
 exact ⟨_, rfl, _, _, _, [], _, [], hW', trodAll_mk1 (shut_bool Tryd.underlying4 _), (trodAll_cons_mk (Below.trod laidOut (by kernel_rfl) (of_decide_eq_true (by kernel_rfl)) k0 bel lt0) (trodAll_cons_mk (Below.trod laidOut (by kernel_rfl) (of_decide_eq_true (by kernel_rfl)) k1 bel lt1) (trodAll_cons_mk (shut_int Tryd.underlying5 q2_0) trodAll_mk0))), rfl, bel.frame _, fun h => by cases h⟩
theorem over : Rows.databaseKeepsRow.holds Tryd.pinned (OpenSpec.ofChange Rows.databaseKeepsSpec) :=
 OpenClaim.holds_of_wide 5 Tryd.f5 rfl rfl rfl rfl rfl rfl rfl ⟨rfl, rfl, rfl, rfl, rfl⟩ rfl rfl rfl rfl rfl (by kernel_rfl) Tryd.func5 (by kernel_rfl)
  (of_decide_eq_true (by kernel_rfl)) (by unfold Func.isWrapper; first | (rw [if_pos (by decide +kernel)]; kernel_rfl) | (rw [if_neg (by decide +kernel)]; exact ⟨rfl, rfl⟩))
  (fun os started H enc _ => lifted os started H enc)
theorem row : Rows.DatabaseKeepsSaid := over
theorem proved : Rows.DatabaseKeepsCardSaid :=
 Claim7.holds_tied_plain_at .later [] [.data, .data, .data] true (true,"86da0c24c9236608754bf5c54e3aea5521f45cfe452094d8e1acd59017ce1540") false row (fun _ h => by cases h) (by kernel_rfl) (fun _ h => by cases h) databaseKeeps_row_tie rfl ⟨rfl, rfl⟩ (by kernel_rfl) rfl
  (fun f fn hf hfn => by
   obtain rfl : f = 5 := Option.some.inj ((show Tryd.prog.funcNamed "kerbsuite/kerbsuitelaw12.DatabaseKeeps" = some 5 by kernel_rfl).symm.trans hf) |>.symm
   obtain rfl : fn = Tryd.f5 := (Option.some.inj (Tryd.func5.symm.trans hfn)).symm
   exact ⟨by kernel_rfl, fun j t ht => by
    rw [Tryd.params5] at ht
    have hm : t ∈ [25, 25, 5] := by simpa using Array.mem_of_getElem? ht
    have hall : ([25, 25, 5].all fun u => !Tryd.prog.wantsStandIn u) = true := by kernel_rfl
    exact (show Tryd.prog.wantsStandIn t = false by simpa using List.all_eq_true.1 hall t hm)⟩)
  (by kernel_rfl)
#print axioms proved
end Go.Proofs.YthfdfoigoomaoaaDoor.databaseKeeps
namespace Go.Proofs.YthfdfoigoomaoaaDoor
/-- The card, under a short name, for the claim. -/
theorem databaseKeeps_holds : Rows.DatabaseKeepsCardSaid := databaseKeeps.proved
end Go.Proofs.YthfdfoigoomaoaaDoor
