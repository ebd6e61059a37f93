/- The example of the chapter holds; whether a database is too long is always told. -/
import Derived.Test.YthfdfoigoomaoaaDoorDbBase
import Derived.KernelRfl
import Derived.Test.YthfdfoigoomaoaaDoorPDbx4
import Derived.Test.YthfdfoigoomaoaaDoorPDbx5
namespace Go.Proofs.YthfdfoigoomaoaaDoor.Core
open Go Go.RowKit Go.Proofs.YthfdfoigoomaoaaDoor.PDb Go.Proofs.YthfdfoigoomaoaaDoorW.PrintWords Go.Proofs.YthfdfoigoomaoaaDoorW.PrintLast Go.Proofs.YthfdfoigoomaoaaDoorW.PrintMore
set_option linter.unusedVariables false

/-! ### the example of the chapter, and what is too long -/
theorem awake_ev : Evt kerbsuitelaw12_awake.f true := by
  refine ⟨40, fun m hm => ?_⟩
  obtain ⟨d, rfl⟩ := Nat.le.dest hm
  rw [Nat.add_comm]
  kernel_rfl
theorem long_loop (r : ByteArray) (l : List S35) (hl : l.length ≤ maxLen) (d : Nat) : ∀ (j : Nat), j ≤ l.length → l.length - j = d → ∃ b, Evt (fun k => kerbsuitelaw12_long.l0 k (j : Int) r l) b := by
  simp only [maxLen] at hl
  induction d with
  | zero =>
    intro j hj hd
    refine ⟨false, Evt.succ (g := fun _ => some false) (fun k => ?_) Evt.const⟩
    rw [kerbsuitelaw12_long.l0, if_neg (by omega)]
  | succ d ih =>
    intro j hj hd
    by_cases c0 : ((rd_T35 l (j : Int)).f0.size : Int) > 100
    · refine ⟨true, Evt.succ (g := fun _ => some true) (fun k => ?_) Evt.const⟩
      rw [kerbsuitelaw12_long.l0, if_pos (by omega), if_pos (by omega), if_pos c0]
    by_cases c1 : ((rd_T35 l (j : Int)).f1.size : Int) > 100
    · refine ⟨true, Evt.succ (g := fun _ => some true) (fun k => ?_) Evt.const⟩
      rw [kerbsuitelaw12_long.l0, if_pos (by omega), if_pos (by omega), if_neg c0, if_pos c1]
    obtain ⟨b, hb⟩ := ih (j + 1) (by omega) (by omega)
    refine ⟨b, Evt.succ (fun k => ?_) hb⟩
    rw [kerbsuitelaw12_long.l0, if_pos (by omega), if_pos (by omega), if_neg c0, if_neg c1, w64 (by omega) (by omega)]
    rfl
theorem long_ev (r : ByteArray) (l : List S35) (hl : l.length ≤ maxLen) : ∃ b, Evt (fun k => kerbsuitelaw12_long.f k r l) b := by
  have h1 : Evt (fun k => kerbsuitelaw12_long.j0 k true r l) true := Evt.succ (g := fun _ => some true) (fun k => by rw [kerbsuitelaw12_long.j0, if_pos rfl]) Evt.const
  by_cases c : (l.length : Int) > 70
  · exact ⟨true, Evt.congr (fun k => by rw [kerbsuitelaw12_long.f, if_pos c]) h1⟩
  · by_cases d : (r.size : Int) > 100
    · exact ⟨true, Evt.congr (fun k => by rw [kerbsuitelaw12_long.f, if_neg c, decide_eq_true d]) h1⟩
    · obtain ⟨b, hb⟩ := long_loop r l hl _ 0 (by omega) rfl
      refine ⟨b, Evt.congr (g := fun k => kerbsuitelaw12_long.j0 k false r l) (fun k => by rw [kerbsuitelaw12_long.f, if_neg c, decide_eq_false d]) (Evt.succ (fun k => ?_) hb)⟩
      rw [kerbsuitelaw12_long.j0, if_neg (by simp)]
      rfl
end Go.Proofs.YthfdfoigoomaoaaDoor.Core
