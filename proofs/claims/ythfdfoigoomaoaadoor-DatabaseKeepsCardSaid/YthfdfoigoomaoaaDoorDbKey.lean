/- Program and reference tell alike whether a key is one. -/
import Derived.Test.YthfdfoigoomaoaaDoorDbBase
import Derived.Test.YthfdfoigoomaoaaDoorPDbx2
namespace Go.Proofs.YthfdfoigoomaoaaDoor.Core
open Go Go.RowKit Go.Proofs.YthfdfoigoomaoaaDoor.PDb Go.Proofs.YthfdfoigoomaoaaDoorW.PrintWords Go.Proofs.YthfdfoigoomaoaaDoorW.PrintLast Go.Proofs.YthfdfoigoomaoaaDoorW.PrintMore
set_option linter.unusedVariables false

/-! ### keys -/
theorem key_some (x : Int) : ∃ b, key_Valid.f x = some b := by
  unfold key_Valid.f key_Class.f key_split.f
  by_cases c : x = 0
  · exact ⟨false, by rw [if_pos c]; rfl⟩
  · rw [if_neg c]
    generalize wrap64 (x / 72057594037927936) = a
    generalize wrap64 (Go.bits .and .u64 x 72057594037927935) = b
    have h : ∃ y, key_Make.f a b = some y := by
      unfold key_Make.f
      repeat' split
      all_goals exact ⟨_, rfl⟩
    obtain ⟨y, hy⟩ := h
    rw [hy]
    simp only [Option.bind_some]
    by_cases e : y = x
    · rw [if_pos e]; exact ⟨_, rfl⟩
    · rw [if_neg e]; exact ⟨_, rfl⟩
end Go.Proofs.YthfdfoigoomaoaaDoor.Core
