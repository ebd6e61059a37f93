/- The names of ticket-granting servers: the plain part of PrincipalTgs. -/
import Derived.Test.YtmgcfnialfjphaaCore
import Derived.Test.YtmgcfnialfjphaaPPrinx7
namespace Go.Proofs.Ytmgcfnialfjphaa.Pure
open Go Go.RowKit Go.Proofs.Ytmgcfnialfjphaa.PPrin Go.Proofs.Ytmgcfnialfjphaa.Core Go.Proofs.YtmgcfnialfjphaaW.PrintWords Go.Proofs.YtmgcfnialfjphaaW.PrintLast Go.Proofs.YtmgcfnialfjphaaW.PrintMore
set_option linter.unusedVariables false

theorem PrincipalTgs : kerbsuitelaw1_PrincipalTgs.Pure := by
  intro a0 a1 p q r _ _ _ _ _
  have j0 : ∀ t, kerbsuitelaw1_PrincipalTgs.j0 (6000 + 1) a0 a1 t p q r = some true := by
    intro t
    rw [kerbsuitelaw1_PrincipalTgs.j0]
    cases t with
    | true => rw [if_pos rfl]
    | false =>
      unfold principal_Tgs.f principal_IsTgs.f
      rw [if_neg (by decide), Option.bind_some]
      simp only [Option.bind_some, toL, beq_self_eq_true, Bool.and_true]
      rfl
  refine ⟨6000 + 1, ?_⟩
  unfold kerbsuitelaw1_PrincipalTgs.f
  rw [awake_some 0, Option.bind_some, if_pos rfl, long_some, Option.bind_some, j0, j0]
  split
  · rfl
  · split <;> rfl
end Go.Proofs.Ytmgcfnialfjphaa.Pure
