/- The law PrincipalFormats, as its row states it: out of its plain statement and its walk. -/
import Derived.Test.YtmgcfnialfjphaaRows
import Derived.Test.YtmgcfnialfjphaaAid
import Derived.Test.YtmgcfnialfjphaaPPrinx8
import Derived.Test.YtmgcfnialfjphaaPurePrincipalFormats
import Derived.WalkKit
import Derived.ProofKit
import Derived.OpenShut
import Derived.ShutString
import Derived.ChangeOld
import Derived.Below
import Derived.SizedLaws
import Derived.Carry
import Derived.Test.YtmgcfnialfjphaaWSized
namespace Go.Proofs.Ytmgcfnialfjphaa.principalFormats
open Go.ChangeShapes Go.WideShapes Go.ChangeAt Go.RowKit Go.Proofs.Ytmgcfnialfjphaa Go.Proofs.Ytmgcfnialfjphaa.PPrin Go.Proofs.YtmgcfnialfjphaaW.PrintWords
open Go.ChangeMaps (open_string shut_string)
set_option linter.unusedVariables false
theorem own : ownKnob Try.prog.godebug = none := by kernel_rfl
theorem laidOut : laidOutB Try.prog = true := by kernel_rfl
def IsRow (k : IntKind) (w : World) (a : Option Addr) (len cap : Nat) (zs : List Int) : Prop :=
 (a = none ∧ len = 0 ∧ cap = 0 ∧ zs = []) ∨
 ∃ x, a = some x ∧ len ≤ cap ∧ cap ≤ maxLen ∧ zs.length = cap ∧ (∀ i, i < zs.length → w.cell? (x.add i) = some (.int k (zs.getD i 0))) ∧ ∀ n ∈ zs, (Lit.int k n).wf = true
set_option maxRecDepth 100000 in
theorem lifted (os : Os) (started : os.Started) (H : Type) (enc : TypeId × Value → H) :
  ReturnsInHanded {} Try.checked os 6 .any (Rows.principalFormatsSpec.pre6 enc Try.prog Try.f6 Rows.principalFormatsRow.domain false) (Rows.principalFormatsSpec.post enc Try.prog Try.f6 false true false false) := by
 refine returnsInHanded_of_change_sized (C := Try.checked) own started (by kernel_rfl) Try.func6
  (ChangeSpec.witness6 (enc := enc) (C := Try.checked) false ⟨#[], #[(.agg #[(.string ⟨#[]⟩), (.string ⟨#[]⟩), (.string ⟨#[]⟩)]), .string ⟨#[]⟩], []⟩ 8 (by kernel_rfl) (by kernel_rfl) (by kernel_rfl) (by kernel_rfl)) ?_
 intro W base args ds gs before hval0 hW hcnd hsz0 _
 have hsz : (DataW.weightsEach Try.prog (Try.f6.params.toList ++ Rows.principalFormatsSpec.plain.varTypes Try.prog) (ds ++ gs)).all (· ≤ reachBytes) = true := hsz0
 have hval : ∀ (j : Nat) t v, Try.f6.params[j]? = some t → args[j]? = some v → Value.okWide Try.prog W .any base t v := hval0
 have hW' := hW
 obtain ⟨p, q, hA0, hV, rfl, hfz, hnd⟩ := hW
 have hA : DataW.TrodAll enc Try.prog W 0 (fun _ => true) true Try.f6.params.toList args.toList ds p := hA0
 rw [Try.params6] at hA hval hsz
 obtain ⟨v0, vs0, d0, ds0, p0, z_0, hargs, rfl, rfl, h0, r0⟩ := trodAll_cons hA
 obtain ⟨v1, vs1, d1, ds1, p1, z_1, rfl, rfl, rfl, h1, r1⟩ := trodAll_cons r0
 obtain ⟨rfl, rfl, rfl⟩ := trodAll_nil r1
 obtain rfl : args = #[v0, v1] := by cases args; simp_all
 obtain ⟨rfl, rfl⟩ := trodVars_none hV
 have k0 := h0
 have lt0 : ∀ x ∈ p0, x.block < W.heap.size := by obtain ⟨m, hm⟩ := k0; exact DataW.trod_lt m _ _ _ hm
 obtain ⟨cs0, m0, rfl, hz0, hf0⟩ := Aid.aid_open_struct Try.underlying23 (by kernel_rfl) (by kernel_rfl) (hval 0 23 v0 rfl rfl) h0
 obtain ⟨c0_0, y0_0, hc0_0, ht0_0⟩ := hf0 0 _ rfl
 obtain ⟨a0_0, e_0_0, _, q0_0_0⟩ := DataW.trod_string Try.underlying9 ht0_0
 obtain rfl : c0_0 = .string a0_0 := by simpa using e_0_0
 obtain ⟨c0_1, y0_1, hc0_1, ht0_1⟩ := hf0 1 _ rfl
 obtain ⟨a0_1, e_0_1, _, q0_1_0⟩ := DataW.trod_string Try.underlying9 ht0_1
 obtain rfl : c0_1 = .string a0_1 := by simpa using e_0_1
 obtain ⟨c0_2, y0_2, hc0_2, ht0_2⟩ := hf0 2 _ rfl
 obtain ⟨a0_2, e_0_2, _, q0_2_0⟩ := DataW.trod_string Try.underlying9 ht0_2
 obtain rfl : c0_2 = .string a0_2 := by simpa using e_0_2
 obtain rfl := Aid.aid_arr3 hz0 hc0_0 hc0_1 hc0_2
 obtain ⟨a1, rfl, rfl, rfl, y1⟩ := open_string Try.underlying9 (hval 1 9 v1 rfl rfl) h1
 have q1_0 : a1.size ≤ 140737488351232 := by
  have z := sized_string hsz (j := 1) (t := 9) rfl rfl
  rw [Array.length_toList] at z
  exact z
 clear hA0 hval0 hsz0 hsz
 refine (PPrin.kerbsuitelaw1_PrincipalFormats.walk Pure.PrincipalFormats a0_0 a0_1 a0_2 a1 W q0_0_0 q0_1_0 q0_2_0 q1_0).mono fun e W' ⟨he, bel⟩ => ?_
 subst he
 exact ⟨_, rfl, _, _, _, [], _, [], hW', trodAll_mk1 (shut_bool Try.underlying4 _), (trodAll_cons_mk (Below.trod laidOut (by kernel_rfl) (of_decide_eq_true (by kernel_rfl)) k0 bel lt0) (trodAll_cons_mk (shut_string Try.underlying9 y1) trodAll_mk0)), rfl, bel.frame _, fun h => by cases h⟩
theorem over : Rows.principalFormatsRow.holds Try.pinned (OpenSpec.ofChange Rows.principalFormatsSpec) :=
 OpenClaim.holds_of_wide 6 Try.f6 rfl rfl rfl rfl rfl rfl rfl ⟨rfl, rfl, rfl, rfl, rfl⟩ rfl rfl rfl rfl rfl (by kernel_rfl) Try.func6 (by kernel_rfl)
  (of_decide_eq_true (by kernel_rfl)) (by unfold Func.isWrapper; first | (rw [if_pos (by decide +kernel)]; kernel_rfl) | (rw [if_neg (by decide +kernel)]; exact ⟨rfl, rfl⟩))
  (fun os started H enc _ => lifted os started H enc)
theorem proved : Rows.PrincipalFormatsSaid := over
#print axioms proved
end Go.Proofs.Ytmgcfnialfjphaa.principalFormats
namespace Go.Proofs.Ytmgcfnialfjphaa
/-- The row, under a short name, for the claim. -/
theorem principalFormats_holds : Rows.PrincipalFormatsSaid := principalFormats.proved
end Go.Proofs.Ytmgcfnialfjphaa
