/- The law PrincipalTgs, as its row states it: out of its plain statement and its walk. -/
import Derived.Test.YtmgcfnialfjphaaRows
import Derived.Test.YtmgcfnialfjphaaAid
import Derived.Test.YtmgcfnialfjphaaPPrinx7
import Derived.Test.YtmgcfnialfjphaaPurePrincipalTgs
import Derived.WalkKit
import Derived.ProofKit
import Derived.OpenShut
import Derived.ShutString
import Derived.ChangeOld
import Derived.Below
import Derived.SizedLaws
import Derived.Carry
import Derived.Test.YtmgcfnialfjphaaWSized
namespace Go.Proofs.Ytmgcfnialfjphaa.principalTgs
open Go.ChangeShapes Go.WideShapes Go.ChangeAt Go.RowKit Go.Proofs.Ytmgcfnialfjphaa Go.Proofs.Ytmgcfnialfjphaa.PPrin Go.Proofs.YtmgcfnialfjphaaW.PrintWords
open Go.ChangeMaps (open_string shut_string)
set_option linter.unusedVariables false
theorem own : ownKnob Try.prog.godebug = none := by kernel_rfl
theorem laidOut : laidOutB Try.prog = true := by kernel_rfl
def IsRow (k : IntKind) (w : World) (a : Option Addr) (len cap : Nat) (zs : List Int) : Prop :=
 (a = none ∧ len = 0 ∧ cap = 0 ∧ zs = []) ∨
 ∃ x, a = some x ∧ len ≤ cap ∧ cap ≤ maxLen ∧ zs.length = cap ∧ (∀ i, i < zs.length → w.cell? (x.add i) = some (.int k (zs.getD i 0))) ∧ ∀ n ∈ zs, (Lit.int k n).wf = true
set_option maxRecDepth 100000 in
theorem lifted (os : Os) (started : os.Started) (H : Type) (enc : TypeId × Value → H) :
  ReturnsInHanded {} Try.checked os 5 .any (Rows.principalTgsSpec.pre6 enc Try.prog Try.f5 Rows.principalTgsRow.domain false) (Rows.principalTgsSpec.post enc Try.prog Try.f5 false true false false) := by
 refine returnsInHanded_of_change_sized (C := Try.checked) own started (by kernel_rfl) Try.func5
  (ChangeSpec.witness6 (enc := enc) (C := Try.checked) false ⟨#[], #[.string ⟨#[]⟩, .string ⟨#[]⟩, (.agg #[(.string ⟨#[]⟩), (.string ⟨#[]⟩), (.string ⟨#[]⟩)])], []⟩ 8 (by kernel_rfl) (by kernel_rfl) (by kernel_rfl) (by kernel_rfl)) ?_
 intro W base args ds gs before hval0 hW hcnd hsz0 _
 have hsz : (DataW.weightsEach Try.prog (Try.f5.params.toList ++ Rows.principalTgsSpec.plain.varTypes Try.prog) (ds ++ gs)).all (· ≤ reachBytes) = true := hsz0
 have hval : ∀ (j : Nat) t v, Try.f5.params[j]? = some t → args[j]? = some v → Value.okWide Try.prog W .any base t v := hval0
 have hW' := hW
 obtain ⟨p, q, hA0, hV, rfl, hfz, hnd⟩ := hW
 have hA : DataW.TrodAll enc Try.prog W 0 (fun _ => true) true Try.f5.params.toList args.toList ds p := hA0
 rw [Try.params5] at hA hval hsz
 obtain ⟨v0, vs0, d0, ds0, p0, z_0, hargs, rfl, rfl, h0, r0⟩ := trodAll_cons hA
 obtain ⟨v1, vs1, d1, ds1, p1, z_1, rfl, rfl, rfl, h1, r1⟩ := trodAll_cons r0
 obtain ⟨v2, vs2, d2, ds2, p2, z_2, rfl, rfl, rfl, h2, r2⟩ := trodAll_cons r1
 obtain ⟨rfl, rfl, rfl⟩ := trodAll_nil r2
 obtain rfl : args = #[v0, v1, v2] := by cases args; simp_all
 obtain ⟨rfl, rfl⟩ := trodVars_none hV
 obtain ⟨a0, rfl, rfl, rfl, y0⟩ := open_string Try.underlying9 (hval 0 9 v0 rfl rfl) h0
 have q0_0 : a0.size ≤ 140737488351232 := by
  have z := sized_string hsz (j := 0) (t := 9) rfl rfl
  rw [Array.length_toList] at z
  exact z
 obtain ⟨a1, rfl, rfl, rfl, y1⟩ := open_string Try.underlying9 (hval 1 9 v1 rfl rfl) h1
 have q1_0 : a1.size ≤ 140737488351232 := by
  have z := sized_string hsz (j := 1) (t := 9) rfl rfl
  rw [Array.length_toList] at z
  exact z
 have k2 := h2
 have lt2 : ∀ x ∈ p2, x.block < W.heap.size := by obtain ⟨m, hm⟩ := k2; exact DataW.trod_lt m _ _ _ hm
 obtain ⟨cs2, m2, rfl, hz2, hf2⟩ := Aid.aid_open_struct Try.underlying23 (by kernel_rfl) (by kernel_rfl) (hval 2 23 v2 rfl rfl) h2
 obtain ⟨c2_0, y2_0, hc2_0, ht2_0⟩ := hf2 0 _ rfl
 obtain ⟨a2_0, e_2_0, _, q2_0_0⟩ := DataW.trod_string Try.underlying9 ht2_0
 obtain rfl : c2_0 = .string a2_0 := by simpa using e_2_0
 obtain ⟨c2_1, y2_1, hc2_1, ht2_1⟩ := hf2 1 _ rfl
 obtain ⟨a2_1, e_2_1, _, q2_1_0⟩ := DataW.trod_string Try.underlying9 ht2_1
 obtain rfl : c2_1 = .string a2_1 := by simpa using e_2_1
 obtain ⟨c2_2, y2_2, hc2_2, ht2_2⟩ := hf2 2 _ rfl
 obtain ⟨a2_2, e_2_2, _, q2_2_0⟩ := DataW.trod_string Try.underlying9 ht2_2
 obtain rfl : c2_2 = .string a2_2 := by simpa using e_2_2
 obtain rfl := Aid.aid_arr3 hz2 hc2_0 hc2_1 hc2_2
 clear hA0 hval0 hsz0 hsz
 refine (PPrin.kerbsuitelaw1_PrincipalTgs.walk Pure.PrincipalTgs a0 a1 a2_0 a2_1 a2_2 W q0_0 q1_0 q2_0_0 q2_1_0 q2_2_0).mono fun e W' ⟨he, bel⟩ => ?_
 subst he
 exact ⟨_, rfl, _, _, _, [], _, [], hW', trodAll_mk1 (shut_bool Try.underlying4 _), (trodAll_cons_mk (shut_string Try.underlying9 y0) (trodAll_cons_mk (shut_string Try.underlying9 y1) (trodAll_cons_mk (Below.trod laidOut (by kernel_rfl) (of_decide_eq_true (by kernel_rfl)) k2 bel lt2) trodAll_mk0))), rfl, bel.frame _, fun h => by cases h⟩
theorem over : Rows.principalTgsRow.holds Try.pinned (OpenSpec.ofChange Rows.principalTgsSpec) :=
 OpenClaim.holds_of_wide 5 Try.f5 rfl rfl rfl rfl rfl rfl rfl ⟨rfl, rfl, rfl, rfl, rfl⟩ rfl rfl rfl rfl rfl (by kernel_rfl) Try.func5 (by kernel_rfl)
  (of_decide_eq_true (by kernel_rfl)) (by unfold Func.isWrapper; first | (rw [if_pos (by decide +kernel)]; kernel_rfl) | (rw [if_neg (by decide +kernel)]; exact ⟨rfl, rfl⟩))
  (fun os started H enc _ => lifted os started H enc)
theorem proved : Rows.PrincipalTgsSaid := over
#print axioms proved
end Go.Proofs.Ytmgcfnialfjphaa.principalTgs
namespace Go.Proofs.Ytmgcfnialfjphaa
/-- The row, under a short name, for the claim. -/
theorem principalTgs_holds : Rows.PrincipalTgsSaid := principalTgs.proved
end Go.Proofs.Ytmgcfnialfjphaa
