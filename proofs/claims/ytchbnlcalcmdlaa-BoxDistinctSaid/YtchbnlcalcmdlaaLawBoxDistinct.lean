/- The law BoxDistinct, as its row states it: out of its plain statement and its walk. -/
import Derived.Test.YtchbnlcalcmdlaaRows
import Derived.Test.YtchbnlcalcmdlaaAid
import Derived.Test.YtchbnlcalcmdlaaPBoxx7
import Derived.Test.YtchbnlcalcmdlaaPureBoxDistinct
import Derived.WalkKit
import Derived.ProofKit
import Derived.OpenShut
import Derived.ShutString
import Derived.ChangeOld
import Derived.Below
import Derived.SizedLaws
import Derived.Carry
import Derived.Test.YtchbnlcalcmdlaaWSized
namespace Go.Proofs.Ytchbnlcalcmdlaa.boxDistinct
open Go.ChangeShapes Go.WideShapes Go.ChangeAt Go.RowKit Go.Proofs.Ytchbnlcalcmdlaa Go.Proofs.Ytchbnlcalcmdlaa.PBox Go.Proofs.YtchbnlcalcmdlaaW.PrintWords
open Go.ChangeMaps (open_string shut_string)
set_option linter.unusedVariables false
theorem own : ownKnob Try.prog.godebug = none := by kernel_rfl
theorem laidOut : laidOutB Try.prog = true := by kernel_rfl
def IsRow (k : IntKind) (w : World) (a : Option Addr) (len cap : Nat) (zs : List Int) : Prop :=
 (a = none ∧ len = 0 ∧ cap = 0 ∧ zs = []) ∨
 ∃ x, a = some x ∧ len ≤ cap ∧ cap ≤ maxLen ∧ zs.length = cap ∧ (∀ i, i < zs.length → w.cell? (x.add i) = some (.int k (zs.getD i 0))) ∧ ∀ n ∈ zs, (Lit.int k n).wf = true
set_option maxRecDepth 100000 in
theorem lifted (os : Os) (started : os.Started) (H : Type) (enc : TypeId × Value → H) :
  ReturnsInHanded {} Try.checked os 5 .any (Rows.boxDistinctSpec.pre6 enc Try.prog Try.f5 Rows.boxDistinctRow.domain false) (Rows.boxDistinctSpec.post enc Try.prog Try.f5 false true false false) := by
 refine returnsInHanded_of_change_sized (C := Try.checked) own started (by kernel_rfl) Try.func5
  (ChangeSpec.witness6 (enc := enc) (C := Try.checked) false ⟨#[], #[.slice none 0 0, .slice none 0 0, (.agg #[(.int .u8 0), (.int .u8 0)]), (.agg #[(.int .u8 0), (.int .u8 0)]), .bool false], []⟩ 8 (by kernel_rfl) (by kernel_rfl) (by kernel_rfl) (by kernel_rfl)) ?_
 intro W base args ds gs before hval0 hW hcnd hsz0 _
 have hsz : (DataW.weightsEach Try.prog (Try.f5.params.toList ++ Rows.boxDistinctSpec.plain.varTypes Try.prog) (ds ++ gs)).all (· ≤ reachBytes) = true := hsz0
 have hval : ∀ (j : Nat) t v, Try.f5.params[j]? = some t → args[j]? = some v → Value.okWide Try.prog W .any base t v := hval0
 have hW' := hW
 obtain ⟨p, q, hA0, hV, rfl, hfz, hnd⟩ := hW
 have hA : DataW.TrodAll enc Try.prog W 0 (fun _ => true) true Try.f5.params.toList args.toList ds p := hA0
 rw [Try.params5] at hA hval hsz
 obtain ⟨v0, vs0, d0, ds0, p0, z_0, hargs, rfl, rfl, h0, r0⟩ := trodAll_cons hA
 obtain ⟨v1, vs1, d1, ds1, p1, z_1, rfl, rfl, rfl, h1, r1⟩ := trodAll_cons r0
 obtain ⟨v2, vs2, d2, ds2, p2, z_2, rfl, rfl, rfl, h2, r2⟩ := trodAll_cons r1
 obtain ⟨v3, vs3, d3, ds3, p3, z_3, rfl, rfl, rfl, h3, r3⟩ := trodAll_cons r2
 obtain ⟨v4, vs4, d4, ds4, p4, z_4, rfl, rfl, rfl, h4, r4⟩ := trodAll_cons r3
 obtain ⟨rfl, rfl, rfl⟩ := trodAll_nil r4
 obtain rfl : args = #[v0, v1, v2, v3, v4] := by cases args; simp_all
 obtain ⟨rfl, rfl⟩ := trodVars_none hV
 have k0 := h0
 have lt0 : ∀ x ∈ p0, x.block < W.heap.size := by obtain ⟨m, hm⟩ := k0; exact DataW.trod_lt m _ _ _ hm
 obtain ⟨A0, len0, c0, rfl⟩ := okWide_slice Try.underlying24 (hval 0 24 v0 rfl rfl)
 obtain ⟨z0, w0⟩ : ∃ zs, IsRow .u8 W A0 len0 c0 zs := by
  obtain ⟨fuel, hf⟩ := h0
  rcases open_ints Try.underlying24 Try.underlying5 (by kernel_rfl) hf with ⟨hcs, _⟩ | ⟨x, l, c, zs, hcs, _, hl, hm, hz, _, hcell, hwz⟩
  ·simp [Value.cells] at hcs
   obtain ⟨rfl, rfl, rfl⟩ := hcs
   exact ⟨[], .inl ⟨rfl, rfl, rfl, rfl⟩⟩
  ·simp [Value.cells] at hcs
   obtain ⟨rfl, rfl, rfl⟩ := hcs
   exact ⟨zs, .inr ⟨_, rfl, hl, hm, by simpa using hz, hcell, hwz⟩⟩
 have q0_1 : len0 * 1 ≤ 140737488351232 := sized_ints hsz (j := 0) (t := 24) rfl rfl Try.underlying24 Try.underlying5 (by kernel_rfl) (by kernel_rfl) h0
 obtain ⟨l0, rfl, hs0, q0_0, q0_2, hc0⟩ := ReadsInt.ofRowC w0
 have hr0 := Kd.C_of_reads (d := (0 : Int)) (h1 := fun _ => rfl) hs0
 have k1 := h1
 have lt1 : ∀ x ∈ p1, x.block < W.heap.size := by obtain ⟨m, hm⟩ := k1; exact DataW.trod_lt m _ _ _ hm
 obtain ⟨A1, len1, c1, rfl⟩ := okWide_slice Try.underlying24 (hval 1 24 v1 rfl rfl)
 obtain ⟨z1, w1⟩ : ∃ zs, IsRow .u8 W A1 len1 c1 zs := by
  obtain ⟨fuel, hf⟩ := h1
  rcases open_ints Try.underlying24 Try.underlying5 (by kernel_rfl) hf with ⟨hcs, _⟩ | ⟨x, l, c, zs, hcs, _, hl, hm, hz, _, hcell, hwz⟩
  ·simp [Value.cells] at hcs
   obtain ⟨rfl, rfl, rfl⟩ := hcs
   exact ⟨[], .inl ⟨rfl, rfl, rfl, rfl⟩⟩
  ·simp [Value.cells] at hcs
   obtain ⟨rfl, rfl, rfl⟩ := hcs
   exact ⟨zs, .inr ⟨_, rfl, hl, hm, by simpa using hz, hcell, hwz⟩⟩
 have q1_1 : len1 * 1 ≤ 140737488351232 := sized_ints hsz (j := 1) (t := 24) rfl rfl Try.underlying24 Try.underlying5 (by kernel_rfl) (by kernel_rfl) h1
 obtain ⟨l1, rfl, hs1, q1_0, q1_2, hc1⟩ := ReadsInt.ofRowC w1
 have hr1 := Kd.C_of_reads (d := (0 : Int)) (h1 := fun _ => rfl) hs1
 have k2 := h2
 have lt2 : ∀ x ∈ p2, x.block < W.heap.size := by obtain ⟨m, hm⟩ := k2; exact DataW.trod_lt m _ _ _ hm
 obtain ⟨cs2, m2, rfl, hz2, hf2⟩ := Aid.aid_open_array Try.underlying42 (by kernel_rfl) (by kernel_rfl) (hval 2 42 v2 rfl rfl) h2
 obtain ⟨c2_0, y2_0, hc2_0, ht2_0⟩ := hf2 0 (by omega)
 obtain ⟨a2_0, e_2_0, _, q2_0_0⟩ := DataW.trod_int Try.underlying5 ht2_0
 obtain rfl : c2_0 = .int .u8 a2_0 := by simpa using e_2_0
 obtain ⟨c2_1, y2_1, hc2_1, ht2_1⟩ := hf2 1 (by omega)
 obtain ⟨a2_1, e_2_1, _, q2_1_0⟩ := DataW.trod_int Try.underlying5 ht2_1
 obtain rfl : c2_1 = .int .u8 a2_1 := by simpa using e_2_1
 obtain rfl := Aid.aid_arr2 hz2 hc2_0 hc2_1
 have k3 := h3
 have lt3 : ∀ x ∈ p3, x.block < W.heap.size := by obtain ⟨m, hm⟩ := k3; exact DataW.trod_lt m _ _ _ hm
 obtain ⟨cs3, m3, rfl, hz3, hf3⟩ := Aid.aid_open_array Try.underlying42 (by kernel_rfl) (by kernel_rfl) (hval 3 42 v3 rfl rfl) h3
 obtain ⟨c3_0, y3_0, hc3_0, ht3_0⟩ := hf3 0 (by omega)
 obtain ⟨a3_0, e_3_0, _, q3_0_0⟩ := DataW.trod_int Try.underlying5 ht3_0
 obtain rfl : c3_0 = .int .u8 a3_0 := by simpa using e_3_0
 obtain ⟨c3_1, y3_1, hc3_1, ht3_1⟩ := hf3 1 (by omega)
 obtain ⟨a3_1, e_3_1, _, q3_1_0⟩ := DataW.trod_int Try.underlying5 ht3_1
 obtain rfl : c3_1 = .int .u8 a3_1 := by simpa using e_3_1
 obtain rfl := Aid.aid_arr2 hz3 hc3_0 hc3_1
 obtain ⟨a4, rfl, rfl, rfl⟩ := open_bool Try.underlying4 (hval 4 4 v4 rfl rfl) h4
 clear hA0 hval0 hsz0 hsz
 refine (PBox.kerbsuitelaw4_BoxDistinct.walk Pure.BoxDistinct A0 c0 l0 A1 c1 l1 a2_0 a2_1 a3_0 a3_1 a4 W hr0 hc0 q0_0 q0_1 q0_2 hr1 hc1 q1_0 q1_1 q1_2 q2_0_0 q2_1_0 q3_0_0 q3_1_0).mono fun e W' ⟨he, bel⟩ => ?_
 subst he
 exact ⟨_, rfl, _, _, _, [], _, [], hW', trodAll_mk1 (shut_bool Try.underlying4 _), (trodAll_cons_mk (Below.trod laidOut (by kernel_rfl) (of_decide_eq_true (by kernel_rfl)) k0 bel lt0) (trodAll_cons_mk (Below.trod laidOut (by kernel_rfl) (of_decide_eq_true (by kernel_rfl)) k1 bel lt1) (trodAll_cons_mk (Below.trod laidOut (by kernel_rfl) (of_decide_eq_true (by kernel_rfl)) k2 bel lt2) (trodAll_cons_mk (Below.trod laidOut (by kernel_rfl) (of_decide_eq_true (by kernel_rfl)) k3 bel lt3) (trodAll_cons_mk (shut_bool Try.underlying4 _) trodAll_mk0))))), rfl, bel.frame _, fun h => by cases h⟩
theorem over : Rows.boxDistinctRow.holds Try.pinned (OpenSpec.ofChange Rows.boxDistinctSpec) :=
 OpenClaim.holds_of_wide 5 Try.f5 rfl rfl rfl rfl rfl rfl rfl ⟨rfl, rfl, rfl, rfl, rfl⟩ rfl rfl rfl rfl rfl (by kernel_rfl) Try.func5 (by kernel_rfl)
  (of_decide_eq_true (by kernel_rfl)) (by unfold Func.isWrapper; first | (rw [if_pos (by decide +kernel)]; kernel_rfl) | (rw [if_neg (by decide +kernel)]; exact ⟨rfl, rfl⟩))
  (fun os started H enc _ => lifted os started H enc)
theorem proved : Rows.BoxDistinctSaid := over
#print axioms proved
end Go.Proofs.Ytchbnlcalcmdlaa.boxDistinct
namespace Go.Proofs.Ytchbnlcalcmdlaa
/-- The row, under a short name, for the claim. -/
theorem boxDistinct_holds : Rows.BoxDistinctSaid := boxDistinct.proved
end Go.Proofs.Ytchbnlcalcmdlaa
