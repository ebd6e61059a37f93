/- What the functions of package database that only look, and those of its reference, answer: closed laws with no program in sight. -/
import Derived.Test.YthfdfoigoomaoaaDoorDbKey
import Derived.Test.YthfdfoigoomaoaaDoorPDbx2
namespace Go.Proofs.YthfdfoigoomaoaaDoor.Core
open Go Go.RowKit Go.Proofs.YthfdfoigoomaoaaDoor.PDb Go.Proofs.YthfdfoigoomaoaaDoorW.PrintWords Go.Proofs.YthfdfoigoomaoaaDoorW.PrintLast Go.Proofs.YthfdfoigoomaoaaDoorW.PrintMore
set_option linter.unusedVariables false

/-! ### finding -/
/-- Has an entry this name and this instance? -/
def hit (x : S35) (n m : ByteArray) : Bool := decide (x.f0.toList = n.toList) && decide (x.f1.toList = m.toList)
/-- What the program's look goes on to, from the index i on, with the place that was found last (at, -1: none). -/
def fnd (n m : ByteArray) : List S35 → Int → Int → Int × Int
  | [], _, at_ => if at_ < 0 then (0, 8) else (at_, 0)
  | x :: l, i, at_ => if hit x n m then (if at_ ≥ 0 then (0, 9) else fnd n m l (i + 1) i) else fnd n m l (i + 1) at_
def fnd' (n m : ByteArray) : List S35 → Int → Int → Int → Int × Int
  | [], _, at_, c => if c = 0 then (0, 8) else if c > 1 then (0, 9) else (at_, 0)
  | x :: l, i, at_, c => if hit x n m then fnd' n m l (i + 1) i (c + 1) else fnd' n m l (i + 1) at_ c
theorem fnd'_many (n m : ByteArray) : ∀ (l : List S35) (i at_ c : Int), c > 1 → fnd' n m l i at_ c = (0, 9)
  | [], i, at_, c, h => by simp only [fnd']; rw [if_neg (by omega), if_pos h]
  | x :: l, i, at_, c, h => by
    simp only [fnd']
    split
    · exact fnd'_many n m l _ _ _ (by omega)
    · exact fnd'_many n m l _ _ _ h
theorem fnd_one (n m : ByteArray) : ∀ (l : List S35) (i at_ : Int), 0 ≤ at_ → fnd n m l i at_ = fnd' n m l i at_ 1
  | [], i, at_, h => by simp only [fnd, fnd']; rw [if_neg (by omega), if_neg (by omega), if_neg (by omega)]
  | x :: l, i, at_, h => by
    simp only [fnd, fnd']
    split
    · rw [fnd'_many n m l _ _ _ (by omega)]
    · exact fnd_one n m l _ _ h
theorem fnd_none (n m : ByteArray) : ∀ (l : List S35) (i a b : Int), a < 0 → 0 ≤ i → fnd n m l i a = fnd' n m l i b 0
  | [], i, a, b, h, hi => by simp only [fnd, fnd']; rw [if_pos h, if_pos trivial]
  | x :: l, i, a, b, h, hi => by
    simp only [fnd, fnd']
    split
    · rw [if_neg (by omega)]; exact fnd_one n m l _ _ hi
    · exact fnd_none n m l _ _ _ h (by omega)
theorem fnd_in (n m : ByteArray) : ∀ (l : List S35) (i a : Int), 0 ≤ i → a < i → (fnd n m l i a).2 = 0 → 0 ≤ (fnd n m l i a).1 ∧ (fnd n m l i a).1 < i + l.length
  | [], i, a, hi, ha, h => by
    simp only [fnd] at h ⊢
    split at h
    · simp at h
    · rw [if_neg (by assumption)]; simp; omega
  | x :: l, i, a, hi, ha, h => by
    simp only [fnd] at h ⊢
    split at h
    · rename_i c
      split at h
      · simp at h
      · rw [if_pos c, if_neg (by assumption)]
        have := fnd_in n m l (i + 1) i (by omega) (by omega) h
        simp only [List.length_cons]; omega
    · rename_i c
      rw [if_neg c]
      have := fnd_in n m l (i + 1) a (by omega) (by omega) h
      simp only [List.length_cons]; omega
theorem find_loop (n m : ByteArray) (l : List S35) (hl : l.length ≤ maxLen) (d : Nat) : ∀ (j : Nat) (a : Int), j ≤ l.length → l.length - j = d → Evt (fun k => database_Find.l0 k n m a l (l.length : Int) (j : Int)) (fnd n m (l.drop j) j a) := by
  simp only [maxLen] at hl
  induction d with
  | zero =>
    intro j a hj hd
    rw [List.drop_eq_nil_of_le (by omega)]
    refine Evt.succ (g := fun _ => some (fnd n m [] j a)) (fun k => ?_) Evt.const
    rw [database_Find.l0, if_neg (by omega)]
    simp only [fnd]
    split <;> rfl
  | succ d ih =>
    intro j a hj hd
    have hlt : j < l.length := by omega
    rw [List.drop_eq_getElem_cons hlt]
    have nx : ∀ b, Evt (fun k => database_Find.l0 k n m b l (l.length : Int) (wrap64 ((j : Int) + 1))) (fnd n m (l.drop (j + 1)) ((j : Int) + 1) b) := by
      intro b
      rw [w64 (by omega) (by omega)]
      exact_mod_cast ih (j + 1) b (by omega) (by omega)
    by_cases c0 : (l[j]).f0.toList = n.toList
    · by_cases c1 : (l[j]).f1.toList = m.toList
      · have hh : hit l[j] n m = true := by simp [hit, c0, c1]
        simp only [fnd, hh, if_true]
        by_cases ca : a ≥ 0
        · rw [if_pos ca]
          refine Evt.succ (g := fun k => database_Find.j1 k n m a j l (l.length : Int) j false) (fun k => ?_) (Evt.succ (g := fun _ => some (0, 9)) (fun k => ?_) Evt.const)
          · rw [database_Find.l0, if_pos (by omega), if_pos (by omega), if_pos (by omega), rd35 hlt, if_pos c0, c1]; simp
          · rw [database_Find.j1, if_neg (by simp), if_pos ca]
        · rw [if_neg ca]
          refine Evt.succ (g := fun k => database_Find.j1 k n m a j l (l.length : Int) j false) (fun k => ?_) (Evt.succ (fun k => ?_) (nx (j : Int)))
          · rw [database_Find.l0, if_pos (by omega), if_pos (by omega), if_pos (by omega), rd35 hlt, if_pos c0, c1]; simp
          · rw [database_Find.j1, if_neg (by simp), if_neg ca]
      · have hh : hit l[j] n m = false := by simp [hit, c1]
        simp only [fnd, hh]
        refine Evt.succ (g := fun k => database_Find.j1 k n m a j l (l.length : Int) j true) (fun k => ?_) (Evt.succ (fun k => ?_) (nx a))
        · rw [database_Find.l0, if_pos (by omega), if_pos (by omega), if_pos (by omega), rd35 hlt, if_pos c0]
          have : ((l[j]).f1.toList != m.toList) = true := by simpa using c1
          rw [this]
        · rw [database_Find.j1, if_pos rfl]
    · have hh : hit l[j] n m = false := by simp [hit, c0]
      simp only [fnd, hh]
      refine Evt.succ (g := fun k => database_Find.j1 k n m a j l (l.length : Int) j true) (fun k => ?_) (Evt.succ (fun k => ?_) (nx a))
      · rw [database_Find.l0, if_pos (by omega), if_pos (by omega), if_pos (by omega), rd35 hlt, if_neg c0]
      · rw [database_Find.j1, if_pos rfl]
end Go.Proofs.YthfdfoigoomaoaaDoor.Core
