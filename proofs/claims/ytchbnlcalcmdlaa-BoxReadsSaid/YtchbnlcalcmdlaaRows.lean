/-
  No cell of these rows narrows 'for every input' (looked for: loops, veiled, ifaces, maps, wideKeys, modest, calm, conditions, laid).
  DERIVED. THE GIVEN ROWS OF THIS SEAT. 5 by the template 'for every input the law returns true; each argument reads behind the call as it read before'; 0 by the template 'total and deterministic' (their statements: YtchbnlcalcmdlaaTotals.lean).
  GIVEN WITH THE SEED: the statements are not yours to turn. If you find one false, say at which input.
  Laid BY PROGRAM, IN A SANDBOX (cutbox-rows.mjs): the forced cells as the released guide's own fill.sh prints them over the translation 7e2962f9a74d0c78… (all of the seat's roots in one cut). By AI agents, Wed Nov 11 2026. No macro, syntax, notation, axiom, sorry.
-/
import Derived.Test.YtchbnlcalcmdlaaChecked
import GoSem.Claim
import GoSem.ClaimJoined
import GoSem.ClaimMapViews
import Derived.JoinedTies
import Derived.KernelRfl
namespace Go.Proofs.Ytchbnlcalcmdlaa
/- THE CELL 'sum', in the pinned program and in every row, IS THE sha256 OF THE DUMP (.gsa) THAT YtchbnlcalcmdlaaProg.lean LOADS. Nothing in Lean hashes anything: it is a label: what it is worth is what the hold of that sum in a sandbox is worth. -/
noncomputable def Try.pinned : Pinned := { name := "ytchbnlcalcmdlaa", sum := "7e2962f9a74d0c7825d6c209d7412c433f6b946139a314e0d6e0fd136bcc75f6", checked := Try.checked }
namespace Rows
def none {H : Type} : Left H := { results := [], args := [] }

/-- 'kerbsuitelaw4.BoxMakes': WHATEVER THE INPUT: true; the input reads as it did. -/
def boxMakesSpec : ChangeSpec := { name := "boxMakes", fn := fun _ => fun
  | [d1, d2, d3, d4, d5, d6] => { results := [.lit (.bool true)], args := [d1, d2, d3, d4, d5, d6] }
  | _ => none }
def boxMakesRow : OpenClaim := { program := "ytchbnlcalcmdlaa", sum := "7e2962f9a74d0c7825d6c209d7412c433f6b946139a314e0d6e0fd136bcc75f6", func := "kerbsuite/kerbsuitelaw4.BoxMakes", spec := "boxMakes", apart := false }
def BoxMakesSaid : Prop := boxMakesRow.holds Try.pinned (OpenSpec.ofChange boxMakesSpec)

/-- ITS FALSE NEIGHBOUR: 'it returns false'. Refute it at one input. -/
def boxMakesWrong : ChangeSpec := { name := "boxMakes", fn := fun _ => fun
  | [d1, d2, d3, d4, d5, d6] => { results := [.lit (.bool false)], args := [d1, d2, d3, d4, d5, d6] }
  | _ => none }
def BoxMakesWrongFalsely : Prop := boxMakesRow.holds Try.pinned (OpenSpec.ofChange boxMakesWrong)

/-- 'kerbsuitelaw4.BoxReads': WHATEVER THE INPUT: true; the input reads as it did. -/
def boxReadsSpec : ChangeSpec := { name := "boxReads", fn := fun _ => fun
  | [d1, d2, d3, d4, d5, d6] => { results := [.lit (.bool true)], args := [d1, d2, d3, d4, d5, d6] }
  | _ => none }
def boxReadsRow : OpenClaim := { program := "ytchbnlcalcmdlaa", sum := "7e2962f9a74d0c7825d6c209d7412c433f6b946139a314e0d6e0fd136bcc75f6", func := "kerbsuite/kerbsuitelaw4.BoxReads", spec := "boxReads", apart := false }
def BoxReadsSaid : Prop := boxReadsRow.holds Try.pinned (OpenSpec.ofChange boxReadsSpec)

/-- ITS FALSE NEIGHBOUR: 'it returns false'. Refute it at one input. -/
def boxReadsWrong : ChangeSpec := { name := "boxReads", fn := fun _ => fun
  | [d1, d2, d3, d4, d5, d6] => { results := [.lit (.bool false)], args := [d1, d2, d3, d4, d5, d6] }
  | _ => none }
def BoxReadsWrongFalsely : Prop := boxReadsRow.holds Try.pinned (OpenSpec.ofChange boxReadsWrong)

/-- 'kerbsuitelaw4.BoxDistinct': WHATEVER THE INPUT: true; the input reads as it did. -/
def boxDistinctSpec : ChangeSpec := { name := "boxDistinct", fn := fun _ => fun
  | [d1, d2, d3, d4, d5] => { results := [.lit (.bool true)], args := [d1, d2, d3, d4, d5] }
  | _ => none }
def boxDistinctRow : OpenClaim := { program := "ytchbnlcalcmdlaa", sum := "7e2962f9a74d0c7825d6c209d7412c433f6b946139a314e0d6e0fd136bcc75f6", func := "kerbsuite/kerbsuitelaw4.BoxDistinct", spec := "boxDistinct", apart := false }
def BoxDistinctSaid : Prop := boxDistinctRow.holds Try.pinned (OpenSpec.ofChange boxDistinctSpec)

/-- ITS FALSE NEIGHBOUR: 'it returns false'. Refute it at one input. -/
def boxDistinctWrong : ChangeSpec := { name := "boxDistinct", fn := fun _ => fun
  | [d1, d2, d3, d4, d5] => { results := [.lit (.bool false)], args := [d1, d2, d3, d4, d5] }
  | _ => none }
def BoxDistinctWrongFalsely : Prop := boxDistinctRow.holds Try.pinned (OpenSpec.ofChange boxDistinctWrong)

/-- 'kerbsuitelaw4.BoxOpens': WHATEVER THE INPUT: true; the input reads as it did. -/
def boxOpensSpec : ChangeSpec := { name := "boxOpens", fn := fun _ => fun
  | [d1, d2, d3, d4, d5] => { results := [.lit (.bool true)], args := [d1, d2, d3, d4, d5] }
  | _ => none }
def boxOpensRow : OpenClaim := { program := "ytchbnlcalcmdlaa", sum := "7e2962f9a74d0c7825d6c209d7412c433f6b946139a314e0d6e0fd136bcc75f6", func := "kerbsuite/kerbsuitelaw4.BoxOpens", spec := "boxOpens", apart := false }
def BoxOpensSaid : Prop := boxOpensRow.holds Try.pinned (OpenSpec.ofChange boxOpensSpec)

/-- ITS FALSE NEIGHBOUR: 'it returns false'. Refute it at one input. -/
def boxOpensWrong : ChangeSpec := { name := "boxOpens", fn := fun _ => fun
  | [d1, d2, d3, d4, d5] => { results := [.lit (.bool false)], args := [d1, d2, d3, d4, d5] }
  | _ => none }
def BoxOpensWrongFalsely : Prop := boxOpensRow.holds Try.pinned (OpenSpec.ofChange boxOpensWrong)

/-- 'kerbsuitelaw4.BoxTells': WHATEVER THE INPUT: true; the input reads as it did. -/
def boxTellsSpec : ChangeSpec := { name := "boxTells", fn := fun _ => fun
  | [d1, d2, d3, d4, d5, d6] => { results := [.lit (.bool true)], args := [d1, d2, d3, d4, d5, d6] }
  | _ => none }
def boxTellsRow : OpenClaim := { program := "ytchbnlcalcmdlaa", sum := "7e2962f9a74d0c7825d6c209d7412c433f6b946139a314e0d6e0fd136bcc75f6", func := "kerbsuite/kerbsuitelaw4.BoxTells", spec := "boxTells", apart := false }
def BoxTellsSaid : Prop := boxTellsRow.holds Try.pinned (OpenSpec.ofChange boxTellsSpec)

/-- ITS FALSE NEIGHBOUR: 'it returns false'. Refute it at one input. -/
def boxTellsWrong : ChangeSpec := { name := "boxTells", fn := fun _ => fun
  | [d1, d2, d3, d4, d5, d6] => { results := [.lit (.bool false)], args := [d1, d2, d3, d4, d5, d6] }
  | _ => none }
def BoxTellsWrongFalsely : Prop := boxTellsRow.holds Try.pinned (OpenSpec.ofChange boxTellsWrong)

/- THE SECOND FORM. 'bulk': how many values and letters a reading holds, each counted each time it is reached (what is shared counts as often as it is met; a slice's spare places count too). A statement '..UptoSaid' is the law's where the arguments, and the package variables that the reading takes, are together of bulk at most 1048576: NARROWER than '..Said'. Prove '..Said' where nothing that the law and all that it calls make is longer than what came in: it says more and counts as full. Else prove '..UptoSaid'. A law counts once. -/
mutual
def uptoBulk {H : Type} : DataW H → Nat
  | .lit (.string bytes) => bytes.length + 1
  | .lit _ => 1
  | .nil => 1
  | .ptr d => uptoBulk d + 1
  | .slice elems spare => uptoBulkAll elems + uptoBulkAll spare + 1
  | .agg parts => uptoBulkAll parts + 1
  | .iface _ d => uptoBulk d + 1
  | .map entries => uptoBulkEntries entries + 1
  | .held _ => 1
def uptoBulkAll {H : Type} : List (DataW H) → Nat
  | [] => 0
  | d :: r => uptoBulk d + uptoBulkAll r
def uptoBulkEntries {H : Type} : List (Lit × DataW H) → Nat
  | [] => 0
  | x :: r => uptoBulkEntry x + uptoBulkEntries r
def uptoBulkEntry {H : Type} : Lit × DataW H → Nat
  | (.string bytes, d) => bytes.length + uptoBulk d + 1
  | (_, d) => uptoBulk d + 1
 end
def uptoSmall : (H : Type) → List (DataW H) → Bool := fun _ ds => decide (uptoBulkAll ds ≤ 1048576)
def OpenSpec.upto (s : _root_.Go.ChangeSpec) : _root_.Go.OpenSpec := { _root_.Go.OpenSpec.ofChange s with cond := some uptoSmall }

/-- 'kerbsuitelaw4.BoxMakes', WHERE WHAT IT READS IS OF BULK AT MOST 1048576: true; the input reads as it did. -/
def boxMakesUptoRow : OpenClaim := { program := "ytchbnlcalcmdlaa", sum := "7e2962f9a74d0c7825d6c209d7412c433f6b946139a314e0d6e0fd136bcc75f6", func := "kerbsuite/kerbsuitelaw4.BoxMakes", spec := "boxMakes", apart := false, narrowed := true }
def BoxMakesUptoSaid : Prop := boxMakesUptoRow.holds Try.pinned (OpenSpec.upto boxMakesSpec)

/-- 'kerbsuitelaw4.BoxReads', WHERE WHAT IT READS IS OF BULK AT MOST 1048576: true; the input reads as it did. -/
def boxReadsUptoRow : OpenClaim := { program := "ytchbnlcalcmdlaa", sum := "7e2962f9a74d0c7825d6c209d7412c433f6b946139a314e0d6e0fd136bcc75f6", func := "kerbsuite/kerbsuitelaw4.BoxReads", spec := "boxReads", apart := false, narrowed := true }
def BoxReadsUptoSaid : Prop := boxReadsUptoRow.holds Try.pinned (OpenSpec.upto boxReadsSpec)

/-- 'kerbsuitelaw4.BoxDistinct', WHERE WHAT IT READS IS OF BULK AT MOST 1048576: true; the input reads as it did. -/
def boxDistinctUptoRow : OpenClaim := { program := "ytchbnlcalcmdlaa", sum := "7e2962f9a74d0c7825d6c209d7412c433f6b946139a314e0d6e0fd136bcc75f6", func := "kerbsuite/kerbsuitelaw4.BoxDistinct", spec := "boxDistinct", apart := false, narrowed := true }
def BoxDistinctUptoSaid : Prop := boxDistinctUptoRow.holds Try.pinned (OpenSpec.upto boxDistinctSpec)

/-- 'kerbsuitelaw4.BoxOpens', WHERE WHAT IT READS IS OF BULK AT MOST 1048576: true; the input reads as it did. -/
def boxOpensUptoRow : OpenClaim := { program := "ytchbnlcalcmdlaa", sum := "7e2962f9a74d0c7825d6c209d7412c433f6b946139a314e0d6e0fd136bcc75f6", func := "kerbsuite/kerbsuitelaw4.BoxOpens", spec := "boxOpens", apart := false, narrowed := true }
def BoxOpensUptoSaid : Prop := boxOpensUptoRow.holds Try.pinned (OpenSpec.upto boxOpensSpec)

/-- 'kerbsuitelaw4.BoxTells', WHERE WHAT IT READS IS OF BULK AT MOST 1048576: true; the input reads as it did. -/
def boxTellsUptoRow : OpenClaim := { program := "ytchbnlcalcmdlaa", sum := "7e2962f9a74d0c7825d6c209d7412c433f6b946139a314e0d6e0fd136bcc75f6", func := "kerbsuite/kerbsuitelaw4.BoxTells", spec := "boxTells", apart := false, narrowed := true }
def BoxTellsUptoSaid : Prop := boxTellsUptoRow.holds Try.pinned (OpenSpec.upto boxTellsSpec)

end Rows
end Go.Proofs.Ytchbnlcalcmdlaa
