/- The example of the chapter holds; whether a database is too long is always told. -/
import Derived.Test.YthfdfoigoomaoaaDoorDbBase
import Derived.KernelRfl
import Derived.Test.YthfdfoigoomaoaaDoorPDbx7
namespace Go.Proofs.YthfdfoigoomaoaaDoor.Core
open Go Go.RowKit Go.Proofs.YthfdfoigoomaoaaDoor.PDb Go.Proofs.YthfdfoigoomaoaaDoorW.PrintWords Go.Proofs.YthfdfoigoomaoaaDoorW.PrintLast Go.Proofs.YthfdfoigoomaoaaDoorW.PrintMore
set_option linter.unusedVariables false

/-! ### the example of the chapter, and what is too long -/
theorem awake_ev : Evt kerbsuitelaw12_awake.f true := by
  refine ⟨40, fun m hm => ?_⟩
  obtain ⟨d, rfl⟩ := Nat.le.dest hm
  rw [Nat.add_comm]
  kernel_rfl
end Go.Proofs.YthfdfoigoomaoaaDoor.Core
