/- The walks of functions of the translation: each call returns what the plain function beside it says. -/
import Derived.Test.YtmgcfnialfjphaaProg
import Derived.Below
import Derived.Deep.Draws
import Derived.Deep.AppendLies
import Derived.Maps.AppendAt
import Derived.OwnWalk
import Derived.Laws.BytesArg
import Derived.Laws.MakeOwn
import Derived.Laws.OwnMore
import Derived.Deep.OwnRows
import Derived.Tactics
import Derived.Lib.ConvBytes
import Derived.Laws.Slices
import Derived.WalkKit
import Derived.KernelRfl
import Derived.RowKit3
import Derived.Deep.LoopGhost
import Derived.Deep.QuietTactic
import Derived.BigQuiet
import Derived.WideLaws
import Derived.Deep.DeepCutAuto
import Derived.Deep.CutBlock
import Derived.Deep.RegionHeld3
import Derived.Laws.Rows
import Derived.Lib.AppendStr
import Derived.ArgAppend
import Derived.Laws.IdiomCopy
import Derived.OrdersHeld
import Derived.Laws.BitsLemmas
import Derived.RowKit
import Derived.Test.YtmgcfnialfjphaaAid
import Derived.Test.YtmgcfnialfjphaaShelf
import Derived.Test.YtmgcfnialfjphaaWWords
import Derived.Test.YtmgcfnialfjphaaWLast
import Derived.Test.YtmgcfnialfjphaaWTab
import Derived.Test.YtmgcfnialfjphaaWFour
import Derived.Test.YtmgcfnialfjphaaWQPut
import Derived.Test.YtmgcfnialfjphaaWApart
import Derived.Test.YtmgcfnialfjphaaWArr
import Derived.Test.YtmgcfnialfjphaaWZeros
import Derived.Test.YtmgcfnialfjphaaWFoot
import Derived.Test.YtmgcfnialfjphaaWKept
import Derived.Test.YtmgcfnialfjphaaWShare
import Derived.Test.YtmgcfnialfjphaaWN
import Derived.Test.YtmgcfnialfjphaaWFootNe
import Derived.Test.YtmgcfnialfjphaaWAt
import Derived.Test.YtmgcfnialfjphaaWEqStruct
import Derived.Test.YtmgcfnialfjphaaWRepsOne
import Derived.Test.YtmgcfnialfjphaaWInv
import Derived.Test.YtmgcfnialfjphaaWInvWords
import Derived.Test.YtmgcfnialfjphaaWGuard
import Derived.Test.YtmgcfnialfjphaaWNEv
import Derived.Test.YtmgcfnialfjphaaWMore
namespace Go.Proofs.Ytmgcfnialfjphaa.PPrin
open Go.RowKit Go.Proofs.YtmgcfnialfjphaaW.PrintWords Go.Proofs.YtmgcfnialfjphaaW.PrintLast Go.Proofs.YtmgcfnialfjphaaW.PrintMore Go.Proofs.Ytmgcfnialfjphaa.Aid
attribute [local go_sem] max2_int min2_int max_two min_two max_three min_three max_four min_four aid_str_gtr   -- for this text's walks alone
set_option linter.unusedVariables false
set_option linter.unusedSimpArgs false



def errW : Option Int → Value
 | none => .nilIface
 | some c => .iface 0 (.int .i64 c)
theorem errW_none : errW none = .nilIface := rfl
theorem errW_some (c : Int) : errW (some c) = .iface 0 (.int .i64 c) := rfl

theorem info5 : (Try.prog.info? 5).map (fun i => (i.zero, i.size, i.bytes)) = some (some (.int .u8 0), 1, 1) := by kernel_rfl
theorem info9 : (Try.prog.info? 9).map (fun i => (i.zero, i.size, i.bytes)) = some (some (.string ⟨#[]⟩), 1, 16) := by kernel_rfl
-- the values' own types

end Go.Proofs.Ytmgcfnialfjphaa.PPrin
