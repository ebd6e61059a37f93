/- Program and reference tell alike whether a key is one. -/
import Derived.Test.YthfdfoigoomaoaaDoorDbBase
import Derived.Test.YthfdfoigoomaoaaDoorPDbx1
import Derived.Test.YthfdfoigoomaoaaDoorPDbx9
namespace Go.Proofs.YthfdfoigoomaoaaDoor.Core
open Go Go.RowKit Go.Proofs.YthfdfoigoomaoaaDoor.PDb Go.Proofs.YthfdfoigoomaoaaDoorW.PrintWords Go.Proofs.YthfdfoigoomaoaaDoorW.PrintLast Go.Proofs.YthfdfoigoomaoaaDoorW.PrintMore
set_option linter.unusedVariables false

/-! ### keys -/
theorem key_both (x : Int) : ∃ b, key_Valid.f x = some b ∧ kerbsuiteref3_Valid.f x = some b := by
  unfold key_Valid.f key_Class.f key_split.f kerbsuiteref3_Valid.f
  by_cases c : x = 0
  · exact ⟨false, by rw [if_pos c]; rfl, by rw [if_pos c]⟩
  · rw [if_neg c, if_neg c]
    have hm : ∀ a b, kerbsuiteref3_Make.f a b = key_Make.f a b := fun a b => rfl
    rw [hm]
    generalize wrap64 (x / 72057594037927936) = a
    generalize wrap64 (Go.bits .and .u64 x 72057594037927935) = b
    have h : ∃ y, key_Make.f a b = some y ∧ (y ≠ 0 → a ≠ 0) := by
      unfold key_Make.f
      repeat' split
      all_goals exact ⟨_, rfl, by omega⟩
    obtain ⟨y, hy, ha⟩ := h
    rw [hy]
    simp only [Option.bind_some]
    by_cases e : y = x
    · rw [if_pos e]
      subst e
      exact ⟨true, by simpa using ha c, by simp⟩
    · rw [if_neg e]
      exact ⟨false, by simp, by simpa using e⟩
end Go.Proofs.YthfdfoigoomaoaaDoor.Core
