/- The walks of functions of the translation: each call returns what the plain function beside it says. -/
import Derived.Test.YthfdfoigoomaoaaDoorPDbx0
import Derived.Test.YthfdfoigoomaoaaDoorPDbx7
namespace Go.Proofs.YthfdfoigoomaoaaDoor.PDb
open Go.RowKit Go.Proofs.YthfdfoigoomaoaaDoorW.PrintWords Go.Proofs.YthfdfoigoomaoaaDoorW.PrintLast Go.Proofs.YthfdfoigoomaoaaDoorW.PrintMore Go.Proofs.YthfdfoigoomaoaaDoor.Aid
attribute [local go_sem] max2_int min2_int max_two min_two max_three min_three max_four min_four aid_str_gtr aid_str_leq   -- for this text's walks alone
set_option linter.unusedVariables false
set_option linter.unusedSimpArgs false

/-! ### kerbsuitedata_Source_More: function 34 -/
def kerbsuitedata_Source_More.f (ba : List Int) (aa : Int) : Option (Bool × Int) := some (decide (aa < (ba.length : Int)), aa)
set_option maxHeartbeats 8000000 in
set_option maxRecDepth 100000 in
theorem kerbsuitedata_Source_More.calls (g : Nat) (ba : List Int) (aa : Int) (r1 : Bool) (r2 : Int) (w0 w : World) (hI : IsS52 w0 w g ba aa) (hB : Below w0.heap.size w0 w) (h : kerbsuitedata_Source_More.f ba aa = some (r1, r2)) :
  Calls Tryd.prog 34 #[.pointer (some ⟨g, 0, none⟩)] w fun e w' => e = .returned (.bool r1) ∧ IsS52 w0 w' g ba r2 ∧ Below w0.heap.size w0 w' ∧ KeepBut w w' g none := by
 have ca := aM_ hI
 have HK := aM_ (KeepBut.refl w g none)
 have HL := aM_ hB.size
 clear hI
 have HW0 := aM_ hB.size
 have HB := aM_ hB
 clear hB
 have H : (some (decide (aa < (ba.length : Int)), aa)) = some (r1, r2) := h
 clear h
 simp only [Option.some.injEq, Prod.mk.injEq] at H
 obtain ⟨rfl, rfl⟩ := H
 obtain ⟨ASz2_0, cSz2_0, HGz2, hgz2, HSz2_0⟩ := ca.out
 have ga := cellS52_0 HGz2
 have ha := cellS52_1 HGz2
 have ia := blk_frozen HGz2 1
 clear HGz2 hgz2
 go_enter Tryd.func34, Tryd.ntmps34
 go_wp2
 repeat (go_quiet (fail); try go_wp2)
 go_ret
 exact ⟨eW_, by repeat (first | (with_reducible first | exact ca.out | apply IsS52.alloc | apply IsS52.drewN | apply IsS52.drew | apply IsS52.set_1) | exact ca.out), by repeat (first | (with_reducible first | exact HB.out | apply bA_ | apply bN_ | apply bD_ | refine bS_ ?_ (IsS52.ge ca.out)) | exact HB.out), by repeat (first | (with_reducible first | exact HK.out | apply KeepBut.set_ | apply keep_drewN | apply keep_drew | apply keep_alloc) | exact HK.out)⟩

end Go.Proofs.YthfdfoigoomaoaaDoor.PDb
