/- Words for the plain proofs: what holds from some number of rounds on; an entry of a list. -/
import Derived.OpenShut
import Derived.Lib.IndexLaws
import Derived.Test.YthfdfoigoomaoaaDoorPDbx0
namespace Go.Proofs.YthfdfoigoomaoaaDoor.Core
open Go Go.RowKit Go.Proofs.YthfdfoigoomaoaaDoor.PDb Go.Proofs.YthfdfoigoomaoaaDoorW.PrintWords Go.Proofs.YthfdfoigoomaoaaDoorW.PrintLast Go.Proofs.YthfdfoigoomaoaaDoorW.PrintMore
set_option linter.unusedVariables false

theorem w64 {n : Int} (h0 : -9223372036854775808 ≤ n) (h1 : n ≤ 9223372036854775807) : wrap64 n = n := by unfold wrap64; omega
theorem u8_of {x : Int} (h : (Lit.int .u8 x).wf = true) : 0 ≤ x ∧ x ≤ 255 := by
  simp only [Lit.wf, IntKind.min, IntKind.max, IntKind.signed, IntKind.bits] at h
  simpa using h
/-- From some number of rounds on, the answer is r. -/
def Evt {α : Type} (f : Nat → Option α) (r : α) : Prop := ∃ k, ∀ m, k ≤ m → f m = some r
theorem Evt.const {α : Type} {r : α} : Evt (fun _ => some r) r := ⟨0, fun _ _ => rfl⟩
theorem Evt.of {α : Type} {f : Nat → Option α} {r : α} (h : ∀ m, f m = some r) : Evt f r := ⟨0, fun m _ => h m⟩
theorem Evt.bind {α β : Type} {f : Nat → Option α} {g : Nat → α → Option β} {a : α} {r : β} (hf : Evt f a) (hg : Evt (fun k => g k a) r) : Evt (fun k => (f k).bind (g k)) r := by
  obtain ⟨k, hk⟩ := hf
  obtain ⟨q, hq⟩ := hg
  exact ⟨max k q, fun m hm => by show (f m).bind (g m) = _; rw [hk m (by omega)]; exact hq m (by omega)⟩
theorem Evt.succ {α : Type} {f g : Nat → Option α} {r : α} (h : ∀ k, f (k + 1) = g k) (hg : Evt g r) : Evt f r := by
  obtain ⟨k, hk⟩ := hg
  refine ⟨k + 1, fun m hm => ?_⟩
  obtain ⟨m, rfl⟩ : ∃ q, m = q + 1 := ⟨m - 1, by omega⟩
  rw [h]
  exact hk m (by omega)
theorem Evt.congr {α : Type} {f g : Nat → Option α} {r : α} (h : ∀ k, f k = g k) (hg : Evt g r) : Evt f r := by
  obtain ⟨k, hk⟩ := hg
  exact ⟨k, fun m hm => (h m).trans (hk m hm)⟩
theorem Evt.ex {α : Type} {f : Nat → Option α} {r : α} (h : Evt f r) : ∃ k, f k = some r := by
  obtain ⟨k, hk⟩ := h
  exact ⟨k, hk k (Nat.le_refl k)⟩

theorem rd35 {l : List S35} {j : Nat} (h : j < l.length) : rd_T35 l (j : Int) = l[j] := by
  unfold rd_T35
  rw [Int.toNat_natCast, List.getD_eq_getElem?_getD, List.getElem?_eq_getElem h]
  rfl
end Go.Proofs.YthfdfoigoomaoaaDoor.Core
