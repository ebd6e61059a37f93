/- The law PrincipalValid, as its row states it: out of its plain statement and its walk. -/
import Derived.Test.YtmgcfnialfjphaaRows
import Derived.Test.YtmgcfnialfjphaaAid
import Derived.Test.YtmgcfnialfjphaaPPrinx4
import Derived.Test.YtmgcfnialfjphaaPurePrincipalValid
import Derived.WalkKit
import Derived.ProofKit
import Derived.OpenShut
import Derived.ShutString
import Derived.ChangeOld
import Derived.Below
import Derived.SizedLaws
import Derived.Carry
import Derived.Test.YtmgcfnialfjphaaWSized
namespace Go.Proofs.Ytmgcfnialfjphaa.principalValid
open Go.ChangeShapes Go.WideShapes Go.ChangeAt Go.RowKit Go.Proofs.Ytmgcfnialfjphaa Go.Proofs.Ytmgcfnialfjphaa.PPrin Go.Proofs.YtmgcfnialfjphaaW.PrintWords
open Go.ChangeMaps (open_string shut_string)
set_option linter.unusedVariables false
theorem own : ownKnob Try.prog.godebug = none := by kernel_rfl
theorem laidOut : laidOutB Try.prog = true := by kernel_rfl
def IsRow (k : IntKind) (w : World) (a : Option Addr) (len cap : Nat) (zs : List Int) : Prop :=
 (a = none ∧ len = 0 ∧ cap = 0 ∧ zs = []) ∨
 ∃ x, a = some x ∧ len ≤ cap ∧ cap ≤ maxLen ∧ zs.length = cap ∧ (∀ i, i < zs.length → w.cell? (x.add i) = some (.int k (zs.getD i 0))) ∧ ∀ n ∈ zs, (Lit.int k n).wf = true
set_option maxRecDepth 100000 in
theorem lifted (os : Os) (started : os.Started) (H : Type) (enc : TypeId × Value → H) :
  ReturnsInHanded {} Try.checked os 3 .any (Rows.principalValidSpec.pre6 enc Try.prog Try.f3 Rows.principalValidRow.domain false) (Rows.principalValidSpec.post enc Try.prog Try.f3 false true false false) := by
 refine returnsInHanded_of_change_sized (C := Try.checked) own started (by kernel_rfl) Try.func3
  (ChangeSpec.witness6 (enc := enc) (C := Try.checked) false ⟨#[], #[.string ⟨#[]⟩, .int .u8 0, .int .u8 0, .int .u8 0, (.agg #[(.string ⟨#[]⟩), (.string ⟨#[]⟩), (.string ⟨#[]⟩)])], []⟩ 8 (by kernel_rfl) (by kernel_rfl) (by kernel_rfl) (by kernel_rfl)) ?_
 intro W base args ds gs before hval0 hW hcnd hsz0 _
 have hsz : (DataW.weightsEach Try.prog (Try.f3.params.toList ++ Rows.principalValidSpec.plain.varTypes Try.prog) (ds ++ gs)).all (· ≤ reachBytes) = true := hsz0
 have hval : ∀ (j : Nat) t v, Try.f3.params[j]? = some t → args[j]? = some v → Value.okWide Try.prog W .any base t v := hval0
 have hW' := hW
 obtain ⟨p, q, hA0, hV, rfl, hfz, hnd⟩ := hW
 have hA : DataW.TrodAll enc Try.prog W 0 (fun _ => true) true Try.f3.params.toList args.toList ds p := hA0
 rw [Try.params3] at hA hval hsz
 obtain ⟨v0, vs0, d0, ds0, p0, z_0, hargs, rfl, rfl, h0, r0⟩ := trodAll_cons hA
 obtain ⟨v1, vs1, d1, ds1, p1, z_1, rfl, rfl, rfl, h1, r1⟩ := trodAll_cons r0
 obtain ⟨v2, vs2, d2, ds2, p2, z_2, rfl, rfl, rfl, h2, r2⟩ := trodAll_cons r1
 obtain ⟨v3, vs3, d3, ds3, p3, z_3, rfl, rfl, rfl, h3, r3⟩ := trodAll_cons r2
 obtain ⟨v4, vs4, d4, ds4, p4, z_4, rfl, rfl, rfl, h4, r4⟩ := trodAll_cons r3
 obtain ⟨rfl, rfl, rfl⟩ := trodAll_nil r4
 obtain rfl : args = #[v0, v1, v2, v3, v4] := by cases args; simp_all
 obtain ⟨rfl, rfl⟩ := trodVars_none hV
 obtain ⟨a0, rfl, rfl, rfl, y0⟩ := open_string Try.underlying9 (hval 0 9 v0 rfl rfl) h0
 have q0_0 : a0.size ≤ 140737488351232 := by
  have z := sized_string hsz (j := 0) (t := 9) rfl rfl
  rw [Array.length_toList] at z
  exact z
 obtain ⟨a1, rfl, rfl, rfl, q1_0⟩ := open_int Try.underlying5 (hval 1 5 v1 rfl rfl) h1
 obtain ⟨a2, rfl, rfl, rfl, q2_0⟩ := open_int Try.underlying5 (hval 2 5 v2 rfl rfl) h2
 obtain ⟨a3, rfl, rfl, rfl, q3_0⟩ := open_int Try.underlying5 (hval 3 5 v3 rfl rfl) h3
 have k4 := h4
 have lt4 : ∀ x ∈ p4, x.block < W.heap.size := by obtain ⟨m, hm⟩ := k4; exact DataW.trod_lt m _ _ _ hm
 obtain ⟨cs4, m4, rfl, hz4, hf4⟩ := Aid.aid_open_struct Try.underlying23 (by kernel_rfl) (by kernel_rfl) (hval 4 23 v4 rfl rfl) h4
 obtain ⟨c4_0, y4_0, hc4_0, ht4_0⟩ := hf4 0 _ rfl
 obtain ⟨a4_0, e_4_0, _, q4_0_0⟩ := DataW.trod_string Try.underlying9 ht4_0
 obtain rfl : c4_0 = .string a4_0 := by simpa using e_4_0
 obtain ⟨c4_1, y4_1, hc4_1, ht4_1⟩ := hf4 1 _ rfl
 obtain ⟨a4_1, e_4_1, _, q4_1_0⟩ := DataW.trod_string Try.underlying9 ht4_1
 obtain rfl : c4_1 = .string a4_1 := by simpa using e_4_1
 obtain ⟨c4_2, y4_2, hc4_2, ht4_2⟩ := hf4 2 _ rfl
 obtain ⟨a4_2, e_4_2, _, q4_2_0⟩ := DataW.trod_string Try.underlying9 ht4_2
 obtain rfl : c4_2 = .string a4_2 := by simpa using e_4_2
 obtain rfl := Aid.aid_arr3 hz4 hc4_0 hc4_1 hc4_2
 clear hA0 hval0 hsz0 hsz
 refine (PPrin.kerbsuitelaw1_PrincipalValid.walk Pure.PrincipalValid a0 a1 a2 a3 a4_0 a4_1 a4_2 W q0_0 q1_0 q2_0 q3_0 q4_0_0 q4_1_0 q4_2_0).mono fun e W' ⟨he, bel⟩ => ?_
 subst he
 exact ⟨_, rfl, _, _, _, [], _, [], hW', trodAll_mk1 (shut_bool Try.underlying4 _), (trodAll_cons_mk (shut_string Try.underlying9 y0) (trodAll_cons_mk (shut_int Try.underlying5 q1_0) (trodAll_cons_mk (shut_int Try.underlying5 q2_0) (trodAll_cons_mk (shut_int Try.underlying5 q3_0) (trodAll_cons_mk (Below.trod laidOut (by kernel_rfl) (of_decide_eq_true (by kernel_rfl)) k4 bel lt4) trodAll_mk0))))), rfl, bel.frame _, fun h => by cases h⟩
theorem over : Rows.principalValidRow.holds Try.pinned (OpenSpec.ofChange Rows.principalValidSpec) :=
 OpenClaim.holds_of_wide 3 Try.f3 rfl rfl rfl rfl rfl rfl rfl ⟨rfl, rfl, rfl, rfl, rfl⟩ rfl rfl rfl rfl rfl (by kernel_rfl) Try.func3 (by kernel_rfl)
  (of_decide_eq_true (by kernel_rfl)) (by unfold Func.isWrapper; first | (rw [if_pos (by decide +kernel)]; kernel_rfl) | (rw [if_neg (by decide +kernel)]; exact ⟨rfl, rfl⟩))
  (fun os started H enc _ => lifted os started H enc)
theorem proved : Rows.PrincipalValidSaid := over
#print axioms proved
end Go.Proofs.Ytmgcfnialfjphaa.principalValid
namespace Go.Proofs.Ytmgcfnialfjphaa
/-- The row, under a short name, for the claim. -/
theorem principalValid_holds : Rows.PrincipalValidSaid := principalValid.proved
end Go.Proofs.Ytmgcfnialfjphaa
