/- The law PrincipalOrder, as its row states it: out of its plain statement and its walk. -/
import Derived.Test.YtmgcfnialfjphaaRows
import Derived.Test.YtmgcfnialfjphaaAid
import Derived.Test.YtmgcfnialfjphaaPPrinx9
import Derived.Test.YtmgcfnialfjphaaPurePrincipalOrder
import Derived.WalkKit
import Derived.ProofKit
import Derived.OpenShut
import Derived.ShutString
import Derived.ChangeOld
import Derived.Below
import Derived.SizedLaws
import Derived.Carry
import Derived.Test.YtmgcfnialfjphaaWSized
namespace Go.Proofs.Ytmgcfnialfjphaa.principalOrder
open Go.ChangeShapes Go.WideShapes Go.ChangeAt Go.RowKit Go.Proofs.Ytmgcfnialfjphaa Go.Proofs.Ytmgcfnialfjphaa.PPrin Go.Proofs.YtmgcfnialfjphaaW.PrintWords
open Go.ChangeMaps (open_string shut_string)
set_option linter.unusedVariables false
theorem own : ownKnob Try.prog.godebug = none := by kernel_rfl
theorem laidOut : laidOutB Try.prog = true := by kernel_rfl
def IsRow (k : IntKind) (w : World) (a : Option Addr) (len cap : Nat) (zs : List Int) : Prop :=
 (a = none ∧ len = 0 ∧ cap = 0 ∧ zs = []) ∨
 ∃ x, a = some x ∧ len ≤ cap ∧ cap ≤ maxLen ∧ zs.length = cap ∧ (∀ i, i < zs.length → w.cell? (x.add i) = some (.int k (zs.getD i 0))) ∧ ∀ n ∈ zs, (Lit.int k n).wf = true
set_option maxRecDepth 100000 in
theorem lifted (os : Os) (started : os.Started) (H : Type) (enc : TypeId × Value → H) :
  ReturnsInHanded {} Try.checked os 7 .any (Rows.principalOrderSpec.pre6 enc Try.prog Try.f7 Rows.principalOrderRow.domain false) (Rows.principalOrderSpec.post enc Try.prog Try.f7 false true false false) := by
 refine returnsInHanded_of_change_sized (C := Try.checked) own started (by kernel_rfl) Try.func7
  (ChangeSpec.witness6 (enc := enc) (C := Try.checked) false ⟨#[], #[(.agg #[(.string ⟨#[]⟩), (.string ⟨#[]⟩), (.string ⟨#[]⟩)]), (.agg #[(.string ⟨#[]⟩), (.string ⟨#[]⟩), (.string ⟨#[]⟩)]), (.agg #[(.string ⟨#[]⟩), (.string ⟨#[]⟩), (.string ⟨#[]⟩)]), .int .u8 0], []⟩ 8 (by kernel_rfl) (by kernel_rfl) (by kernel_rfl) (by kernel_rfl)) ?_
 intro W base args ds gs before hval0 hW hcnd hsz0 _
 have hsz : (DataW.weightsEach Try.prog (Try.f7.params.toList ++ Rows.principalOrderSpec.plain.varTypes Try.prog) (ds ++ gs)).all (· ≤ reachBytes) = true := hsz0
 have hval : ∀ (j : Nat) t v, Try.f7.params[j]? = some t → args[j]? = some v → Value.okWide Try.prog W .any base t v := hval0
 have hW' := hW
 obtain ⟨p, q, hA0, hV, rfl, hfz, hnd⟩ := hW
 have hA : DataW.TrodAll enc Try.prog W 0 (fun _ => true) true Try.f7.params.toList args.toList ds p := hA0
 rw [Try.params7] at hA hval hsz
 obtain ⟨v0, vs0, d0, ds0, p0, z_0, hargs, rfl, rfl, h0, r0⟩ := trodAll_cons hA
 obtain ⟨v1, vs1, d1, ds1, p1, z_1, rfl, rfl, rfl, h1, r1⟩ := trodAll_cons r0
 obtain ⟨v2, vs2, d2, ds2, p2, z_2, rfl, rfl, rfl, h2, r2⟩ := trodAll_cons r1
 obtain ⟨v3, vs3, d3, ds3, p3, z_3, rfl, rfl, rfl, h3, r3⟩ := trodAll_cons r2
 obtain ⟨rfl, rfl, rfl⟩ := trodAll_nil r3
 obtain rfl : args = #[v0, v1, v2, v3] := by cases args; simp_all
 obtain ⟨rfl, rfl⟩ := trodVars_none hV
 have k0 := h0
 have lt0 : ∀ x ∈ p0, x.block < W.heap.size := by obtain ⟨m, hm⟩ := k0; exact DataW.trod_lt m _ _ _ hm
 obtain ⟨cs0, m0, rfl, hz0, hf0⟩ := Aid.aid_open_struct Try.underlying23 (by kernel_rfl) (by kernel_rfl) (hval 0 23 v0 rfl rfl) h0
 obtain ⟨c0_0, y0_0, hc0_0, ht0_0⟩ := hf0 0 _ rfl
 obtain ⟨a0_0, e_0_0, _, q0_0_0⟩ := DataW.trod_string Try.underlying9 ht0_0
 obtain rfl : c0_0 = .string a0_0 := by simpa using e_0_0
 obtain ⟨c0_1, y0_1, hc0_1, ht0_1⟩ := hf0 1 _ rfl
 obtain ⟨a0_1, e_0_1, _, q0_1_0⟩ := DataW.trod_string Try.underlying9 ht0_1
 obtain rfl : c0_1 = .string a0_1 := by simpa using e_0_1
 obtain ⟨c0_2, y0_2, hc0_2, ht0_2⟩ := hf0 2 _ rfl
 obtain ⟨a0_2, e_0_2, _, q0_2_0⟩ := DataW.trod_string Try.underlying9 ht0_2
 obtain rfl : c0_2 = .string a0_2 := by simpa using e_0_2
 obtain rfl := Aid.aid_arr3 hz0 hc0_0 hc0_1 hc0_2
 have k1 := h1
 have lt1 : ∀ x ∈ p1, x.block < W.heap.size := by obtain ⟨m, hm⟩ := k1; exact DataW.trod_lt m _ _ _ hm
 obtain ⟨cs1, m1, rfl, hz1, hf1⟩ := Aid.aid_open_struct Try.underlying23 (by kernel_rfl) (by kernel_rfl) (hval 1 23 v1 rfl rfl) h1
 obtain ⟨c1_0, y1_0, hc1_0, ht1_0⟩ := hf1 0 _ rfl
 obtain ⟨a1_0, e_1_0, _, q1_0_0⟩ := DataW.trod_string Try.underlying9 ht1_0
 obtain rfl : c1_0 = .string a1_0 := by simpa using e_1_0
 obtain ⟨c1_1, y1_1, hc1_1, ht1_1⟩ := hf1 1 _ rfl
 obtain ⟨a1_1, e_1_1, _, q1_1_0⟩ := DataW.trod_string Try.underlying9 ht1_1
 obtain rfl : c1_1 = .string a1_1 := by simpa using e_1_1
 obtain ⟨c1_2, y1_2, hc1_2, ht1_2⟩ := hf1 2 _ rfl
 obtain ⟨a1_2, e_1_2, _, q1_2_0⟩ := DataW.trod_string Try.underlying9 ht1_2
 obtain rfl : c1_2 = .string a1_2 := by simpa using e_1_2
 obtain rfl := Aid.aid_arr3 hz1 hc1_0 hc1_1 hc1_2
 have k2 := h2
 have lt2 : ∀ x ∈ p2, x.block < W.heap.size := by obtain ⟨m, hm⟩ := k2; exact DataW.trod_lt m _ _ _ hm
 obtain ⟨cs2, m2, rfl, hz2, hf2⟩ := Aid.aid_open_struct Try.underlying23 (by kernel_rfl) (by kernel_rfl) (hval 2 23 v2 rfl rfl) h2
 obtain ⟨c2_0, y2_0, hc2_0, ht2_0⟩ := hf2 0 _ rfl
 obtain ⟨a2_0, e_2_0, _, q2_0_0⟩ := DataW.trod_string Try.underlying9 ht2_0
 obtain rfl : c2_0 = .string a2_0 := by simpa using e_2_0
 obtain ⟨c2_1, y2_1, hc2_1, ht2_1⟩ := hf2 1 _ rfl
 obtain ⟨a2_1, e_2_1, _, q2_1_0⟩ := DataW.trod_string Try.underlying9 ht2_1
 obtain rfl : c2_1 = .string a2_1 := by simpa using e_2_1
 obtain ⟨c2_2, y2_2, hc2_2, ht2_2⟩ := hf2 2 _ rfl
 obtain ⟨a2_2, e_2_2, _, q2_2_0⟩ := DataW.trod_string Try.underlying9 ht2_2
 obtain rfl : c2_2 = .string a2_2 := by simpa using e_2_2
 obtain rfl := Aid.aid_arr3 hz2 hc2_0 hc2_1 hc2_2
 obtain ⟨a3, rfl, rfl, rfl, q3_0⟩ := open_int Try.underlying5 (hval 3 5 v3 rfl rfl) h3
 clear hA0 hval0 hsz0 hsz
 refine (PPrin.kerbsuitelaw1_PrincipalOrder.walk Pure.PrincipalOrder a0_0 a0_1 a0_2 a1_0 a1_1 a1_2 a2_0 a2_1 a2_2 a3 W q0_0_0 q0_1_0 q0_2_0 q1_0_0 q1_1_0 q1_2_0 q2_0_0 q2_1_0 q2_2_0 q3_0).mono fun e W' ⟨he, bel⟩ => ?_
 subst he
 exact ⟨_, rfl, _, _, _, [], _, [], hW', trodAll_mk1 (shut_bool Try.underlying4 _), (trodAll_cons_mk (Below.trod laidOut (by kernel_rfl) (of_decide_eq_true (by kernel_rfl)) k0 bel lt0) (trodAll_cons_mk (Below.trod laidOut (by kernel_rfl) (of_decide_eq_true (by kernel_rfl)) k1 bel lt1) (trodAll_cons_mk (Below.trod laidOut (by kernel_rfl) (of_decide_eq_true (by kernel_rfl)) k2 bel lt2) (trodAll_cons_mk (shut_int Try.underlying5 q3_0) trodAll_mk0)))), rfl, bel.frame _, fun h => by cases h⟩
theorem over : Rows.principalOrderRow.holds Try.pinned (OpenSpec.ofChange Rows.principalOrderSpec) :=
 OpenClaim.holds_of_wide 7 Try.f7 rfl rfl rfl rfl rfl rfl rfl ⟨rfl, rfl, rfl, rfl, rfl⟩ rfl rfl rfl rfl rfl (by kernel_rfl) Try.func7 (by kernel_rfl)
  (of_decide_eq_true (by kernel_rfl)) (by unfold Func.isWrapper; first | (rw [if_pos (by decide +kernel)]; kernel_rfl) | (rw [if_neg (by decide +kernel)]; exact ⟨rfl, rfl⟩))
  (fun os started H enc _ => lifted os started H enc)
theorem proved : Rows.PrincipalOrderSaid := over
#print axioms proved
end Go.Proofs.Ytmgcfnialfjphaa.principalOrder
namespace Go.Proofs.Ytmgcfnialfjphaa
/-- The row, under a short name, for the claim. -/
theorem principalOrder_holds : Rows.PrincipalOrderSaid := principalOrder.proved
end Go.Proofs.Ytmgcfnialfjphaa
