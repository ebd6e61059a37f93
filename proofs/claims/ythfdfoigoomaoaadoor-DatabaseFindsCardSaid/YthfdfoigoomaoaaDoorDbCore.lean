/- What the functions of package database that only look, and those of its reference, answer: closed laws with no program in sight. -/
import Derived.OpenShut
import Derived.Lib.IndexLaws
import Derived.Test.YthfdfoigoomaoaaDoorPDbx10
import Derived.Test.YthfdfoigoomaoaaDoorPDbx4
import Derived.Test.YthfdfoigoomaoaaDoorPDbx8
namespace Go.Proofs.YthfdfoigoomaoaaDoor.Core
open Go Go.RowKit Go.Proofs.YthfdfoigoomaoaaDoor.PDb Go.Proofs.YthfdfoigoomaoaaDoorW.PrintWords Go.Proofs.YthfdfoigoomaoaaDoorW.PrintLast Go.Proofs.YthfdfoigoomaoaaDoorW.PrintMore
set_option linter.unusedVariables false

theorem w64 {n : Int} (h0 : -9223372036854775808 ≤ n) (h1 : n ≤ 9223372036854775807) : wrap64 n = n := by unfold wrap64; omega
theorem u8_of {x : Int} (h : (Lit.int .u8 x).wf = true) : 0 ≤ x ∧ x ≤ 255 := by
  simp only [Lit.wf, IntKind.min, IntKind.max, IntKind.signed, IntKind.bits] at h
  simpa using h
/-- From some number of rounds on, the answer is r. -/
def Evt {α : Type} (f : Nat → Option α) (r : α) : Prop := ∃ k, ∀ m, k ≤ m → f m = some r
theorem Evt.const {α : Type} {r : α} : Evt (fun _ => some r) r := ⟨0, fun _ _ => rfl⟩
theorem Evt.of {α : Type} {f : Nat → Option α} {r : α} (h : ∀ m, f m = some r) : Evt f r := ⟨0, fun m _ => h m⟩
theorem Evt.bind {α β : Type} {f : Nat → Option α} {g : Nat → α → Option β} {a : α} {r : β} (hf : Evt f a) (hg : Evt (fun k => g k a) r) : Evt (fun k => (f k).bind (g k)) r := by
  obtain ⟨k, hk⟩ := hf
  obtain ⟨q, hq⟩ := hg
  exact ⟨max k q, fun m hm => by show (f m).bind (g m) = _; rw [hk m (by omega)]; exact hq m (by omega)⟩
theorem Evt.succ {α : Type} {f g : Nat → Option α} {r : α} (h : ∀ k, f (k + 1) = g k) (hg : Evt g r) : Evt f r := by
  obtain ⟨k, hk⟩ := hg
  refine ⟨k + 1, fun m hm => ?_⟩
  obtain ⟨m, rfl⟩ : ∃ q, m = q + 1 := ⟨m - 1, by omega⟩
  rw [h]
  exact hk m (by omega)
theorem Evt.congr {α : Type} {f g : Nat → Option α} {r : α} (h : ∀ k, f k = g k) (hg : Evt g r) : Evt f r := by
  obtain ⟨k, hk⟩ := hg
  exact ⟨k, fun m hm => (h m).trans (hk m hm)⟩
theorem Evt.ex {α : Type} {f : Nat → Option α} {r : α} (h : Evt f r) : ∃ k, f k = some r := by
  obtain ⟨k, hk⟩ := h
  exact ⟨k, hk k (Nat.le_refl k)⟩

/-! ### finding -/
/-- Has an entry this name and this instance? -/
def hit (x : S35) (n m : ByteArray) : Bool := decide (x.f0.toList = n.toList) && decide (x.f1.toList = m.toList)
/-- What the program's look goes on to, from the index i on, with the place that was found last (at, -1: none). -/
def fnd (n m : ByteArray) : List S35 → Int → Int → Int × Int
  | [], _, at_ => if at_ < 0 then (0, 8) else (at_, 0)
  | x :: l, i, at_ => if hit x n m then (if at_ ≥ 0 then (0, 9) else fnd n m l (i + 1) i) else fnd n m l (i + 1) at_
def fnd' (n m : ByteArray) : List S35 → Int → Int → Int → Int × Int
  | [], _, at_, c => if c = 0 then (0, 8) else if c > 1 then (0, 9) else (at_, 0)
  | x :: l, i, at_, c => if hit x n m then fnd' n m l (i + 1) i (c + 1) else fnd' n m l (i + 1) at_ c
theorem fnd'_many (n m : ByteArray) : ∀ (l : List S35) (i at_ c : Int), c > 1 → fnd' n m l i at_ c = (0, 9)
  | [], i, at_, c, h => by simp only [fnd']; rw [if_neg (by omega), if_pos h]
  | x :: l, i, at_, c, h => by
    simp only [fnd']
    split
    · exact fnd'_many n m l _ _ _ (by omega)
    · exact fnd'_many n m l _ _ _ h
theorem fnd_one (n m : ByteArray) : ∀ (l : List S35) (i at_ : Int), 0 ≤ at_ → fnd n m l i at_ = fnd' n m l i at_ 1
  | [], i, at_, h => by simp only [fnd, fnd']; rw [if_neg (by omega), if_neg (by omega), if_neg (by omega)]
  | x :: l, i, at_, h => by
    simp only [fnd, fnd']
    split
    · rw [fnd'_many n m l _ _ _ (by omega)]
    · exact fnd_one n m l _ _ h
theorem fnd_none (n m : ByteArray) : ∀ (l : List S35) (i a b : Int), a < 0 → 0 ≤ i → fnd n m l i a = fnd' n m l i b 0
  | [], i, a, b, h, hi => by simp only [fnd, fnd']; rw [if_pos h, if_pos trivial]
  | x :: l, i, a, b, h, hi => by
    simp only [fnd, fnd']
    split
    · rw [if_neg (by omega)]; exact fnd_one n m l _ _ hi
    · exact fnd_none n m l _ _ _ h (by omega)
theorem fnd_in (n m : ByteArray) : ∀ (l : List S35) (i a : Int), 0 ≤ i → a < i → (fnd n m l i a).2 = 0 → 0 ≤ (fnd n m l i a).1 ∧ (fnd n m l i a).1 < i + l.length
  | [], i, a, hi, ha, h => by
    simp only [fnd] at h ⊢
    split at h
    · simp at h
    · rw [if_neg (by assumption)]; simp; omega
  | x :: l, i, a, hi, ha, h => by
    simp only [fnd] at h ⊢
    split at h
    · rename_i c
      split at h
      · simp at h
      · rw [if_pos c, if_neg (by assumption)]
        have := fnd_in n m l (i + 1) i (by omega) (by omega) h
        simp only [List.length_cons]; omega
    · rename_i c
      rw [if_neg c]
      have := fnd_in n m l (i + 1) a (by omega) (by omega) h
      simp only [List.length_cons]; omega
theorem rd35 {l : List S35} {j : Nat} (h : j < l.length) : rd_T35 l (j : Int) = l[j] := by
  unfold rd_T35
  rw [Int.toNat_natCast, List.getD_eq_getElem?_getD, List.getElem?_eq_getElem h]
  rfl
theorem find_loop (n m : ByteArray) (l : List S35) (hl : l.length ≤ maxLen) (d : Nat) : ∀ (j : Nat) (a : Int), j ≤ l.length → l.length - j = d → Evt (fun k => database_Find.l0 k n m a l (l.length : Int) (j : Int)) (fnd n m (l.drop j) j a) := by
  simp only [maxLen] at hl
  induction d with
  | zero =>
    intro j a hj hd
    rw [List.drop_eq_nil_of_le (by omega)]
    refine Evt.succ (g := fun _ => some (fnd n m [] j a)) (fun k => ?_) Evt.const
    rw [database_Find.l0, if_neg (by omega)]
    simp only [fnd]
    split <;> rfl
  | succ d ih =>
    intro j a hj hd
    have hlt : j < l.length := by omega
    rw [List.drop_eq_getElem_cons hlt]
    have nx : ∀ b, Evt (fun k => database_Find.l0 k n m b l (l.length : Int) (wrap64 ((j : Int) + 1))) (fnd n m (l.drop (j + 1)) ((j : Int) + 1) b) := by
      intro b
      rw [w64 (by omega) (by omega)]
      exact_mod_cast ih (j + 1) b (by omega) (by omega)
    by_cases c0 : (l[j]).f0.toList = n.toList
    · by_cases c1 : (l[j]).f1.toList = m.toList
      · have hh : hit l[j] n m = true := by simp [hit, c0, c1]
        simp only [fnd, hh, if_true]
        by_cases ca : a ≥ 0
        · rw [if_pos ca]
          refine Evt.succ (g := fun k => database_Find.j1 k n m a j l (l.length : Int) j false) (fun k => ?_) (Evt.succ (g := fun _ => some (0, 9)) (fun k => ?_) Evt.const)
          · rw [database_Find.l0, if_pos (by omega), if_pos (by omega), if_pos (by omega), rd35 hlt, if_pos c0, c1]; simp
          · rw [database_Find.j1, if_neg (by simp), if_pos ca]
        · rw [if_neg ca]
          refine Evt.succ (g := fun k => database_Find.j1 k n m a j l (l.length : Int) j false) (fun k => ?_) (Evt.succ (fun k => ?_) (nx (j : Int)))
          · rw [database_Find.l0, if_pos (by omega), if_pos (by omega), if_pos (by omega), rd35 hlt, if_pos c0, c1]; simp
          · rw [database_Find.j1, if_neg (by simp), if_neg ca]
      · have hh : hit l[j] n m = false := by simp [hit, c1]
        simp only [fnd, hh]
        refine Evt.succ (g := fun k => database_Find.j1 k n m a j l (l.length : Int) j true) (fun k => ?_) (Evt.succ (fun k => ?_) (nx a))
        · rw [database_Find.l0, if_pos (by omega), if_pos (by omega), if_pos (by omega), rd35 hlt, if_pos c0]
          have : ((l[j]).f1.toList != m.toList) = true := by simpa using c1
          rw [this]
        · rw [database_Find.j1, if_pos rfl]
    · have hh : hit l[j] n m = false := by simp [hit, c0]
      simp only [fnd, hh]
      refine Evt.succ (g := fun k => database_Find.j1 k n m a j l (l.length : Int) j true) (fun k => ?_) (Evt.succ (fun k => ?_) (nx a))
      · rw [database_Find.l0, if_pos (by omega), if_pos (by omega), if_pos (by omega), rd35 hlt, if_neg c0]
      · rw [database_Find.j1, if_pos rfl]
theorem rfind_loop (n m r : ByteArray) (l : List S35) (hl : l.length ≤ maxLen) (d : Nat) : ∀ (j : Nat) (a c : Int), 0 ≤ c → c ≤ j → j ≤ l.length → l.length - j = d → Evt (fun k => kerbsuiteref12_Find.l0 k n m a c (j : Int) r l) (fnd' n m (l.drop j) j a c) := by
  simp only [maxLen] at hl
  induction d with
  | zero =>
    intro j a c hc hc' hj hd
    rw [List.drop_eq_nil_of_le (by omega)]
    refine Evt.succ (g := fun _ => some (fnd' n m [] j a c)) (fun k => ?_) Evt.const
    rw [kerbsuiteref12_Find.l0, if_neg (by omega)]
    simp only [fnd']
    split
    · rfl
    · split <;> rfl
  | succ d ih =>
    intro j a c hc hc' hj hd
    have hlt : j < l.length := by omega
    rw [List.drop_eq_getElem_cons hlt]
    have nx : ∀ b e, 0 ≤ e → e ≤ (j : Int) + 1 → Evt (fun k => kerbsuiteref12_Find.l0 k n m b e (wrap64 ((j : Int) + 1)) r l) (fnd' n m (l.drop (j + 1)) ((j : Int) + 1) b e) := by
      intro b e h0 h1
      rw [w64 (by omega) (by omega)]
      exact_mod_cast ih (j + 1) b e h0 (by omega) (by omega) (by omega)
    by_cases c0 : (l[j]).f0.toList = n.toList
    · by_cases c1 : (l[j]).f1.toList = m.toList
      · have hh : hit l[j] n m = true := by simp [hit, c0, c1]
        simp only [fnd', hh, if_true]
        refine Evt.succ (fun k => ?_) (nx (j : Int) (c + 1) (by omega) (by omega))
        rw [kerbsuiteref12_Find.l0, if_pos (by omega), if_pos (by omega), rd35 hlt, if_pos c0, if_pos c1, w64 (n := c + 1) (by omega) (by omega)]
      · have hh : hit l[j] n m = false := by simp [hit, c1]
        simp only [fnd', hh]
        refine Evt.succ (fun k => ?_) (nx a c (by omega) (by omega))
        rw [kerbsuiteref12_Find.l0, if_pos (by omega), if_pos (by omega), rd35 hlt, if_pos c0, if_neg c1]
    · have hh : hit l[j] n m = false := by simp [hit, c0]
      simp only [fnd', hh]
      refine Evt.succ (fun k => ?_) (nx a c (by omega) (by omega))
      rw [kerbsuiteref12_Find.l0, if_pos (by omega), if_pos (by omega), rd35 hlt, if_neg c0]
/-- Both look alike. -/
theorem find_both (r : ByteArray) (l : List S35) (n m : ByteArray) (hl : l.length ≤ maxLen) : ∃ a e, Evt (fun k => database_Find.f k r l n m) (a, e) ∧ Evt (fun k => kerbsuiteref12_Find.f k r l n m) (a, e) ∧ (e = 0 → 0 ≤ a ∧ a < l.length) := by
  refine ⟨(fnd n m l 0 (-1)).1, (fnd n m l 0 (-1)).2, ?_, ?_, fun h => ?_⟩
  · exact find_loop n m l hl _ 0 (-1) (by omega) rfl
  · rw [fnd_none n m l 0 (-1) 0 (by omega) (by omega)]
    exact rfind_loop n m r l hl _ 0 0 0 (by omega) (by omega) (by omega) rfl
  · have := fnd_in n m l 0 (-1) (by omega) (by omega) h
    omega

/-! ### keys -/
theorem key_both (x : Int) : ∃ b, key_Valid.f x = some b ∧ kerbsuiteref3_Valid.f x = some b := by
  unfold key_Valid.f key_Class.f key_split.f kerbsuiteref3_Valid.f
  by_cases c : x = 0
  · exact ⟨false, by rw [if_pos c]; rfl, by rw [if_pos c]⟩
  · rw [if_neg c, if_neg c]
    have hm : ∀ a b, kerbsuiteref3_Make.f a b = key_Make.f a b := fun a b => rfl
    rw [hm]
    generalize wrap64 (x / 72057594037927936) = a
    generalize wrap64 (Go.bits .and .u64 x 72057594037927935) = b
    have h : ∃ y, key_Make.f a b = some y ∧ (y ≠ 0 → a ≠ 0) := by
      unfold key_Make.f
      repeat' split
      all_goals exact ⟨_, rfl, by omega⟩
    obtain ⟨y, hy, ha⟩ := h
    rw [hy]
    simp only [Option.bind_some]
    by_cases e : y = x
    · rw [if_pos e]
      subst e
      exact ⟨true, by simpa using ha c, by simp⟩
    · rw [if_neg e]
      exact ⟨false, by simp, by simpa using e⟩
/-- Both tell alike whether an entry may be used. -/
theorem use_both (r : ByteArray) (l : List S35) (n m : ByteArray) (t q x y : Int) (hl : l.length ≤ maxLen) : ∃ a e, Evt (fun k => database_usable.f k r l n m t q x y) (a, e) ∧ Evt (fun k => kerbsuiteref12_use.f k r l n m t q x y) (a, e) := by
  obtain ⟨a, e, h1, h2, h3⟩ := find_both r l n m hl
  by_cases he : e = 0
  · obtain ⟨h0, hlt⟩ := h3 he
    obtain ⟨b, hb1, hb2⟩ := key_both (rd_T35 l a).f2
    have hj : ∀ g : Bool, ∃ a' e', Evt (fun k => database_usable.j0 k q x y a g (rd_T35 l a).f0 (rd_T35 l a).f1 (rd_T35 l a).f2 (rd_T35 l a).f3 (rd_T35 l a).f4 (rd_T35 l a).f5 (rd_T35 l a).f6 (rd_T35 l a).f7 (rd_T35 l a).f8) (a', e') ∧ Evt (fun k => kerbsuiteref12_use.j0 k q x y a g (rd_T35 l a).f0 (rd_T35 l a).f1 (rd_T35 l a).f2 (rd_T35 l a).f3 (rd_T35 l a).f4 (rd_T35 l a).f5 (rd_T35 l a).f6 (rd_T35 l a).f7 (rd_T35 l a).f8) (a', e') := by
      intro g
      have hg : ∃ v : Int × Int, (if g = true then some ((0 : Int), x) else (if (Go.bits .and .i64 (rd_T35 l a).f6 q) = 0 then some (a, 0) else some (0, y))) = some v := by
        split
        · exact ⟨_, rfl⟩
        · split <;> exact ⟨_, rfl⟩
      obtain ⟨⟨a', e'⟩, hv⟩ := hg
      exact ⟨a', e', Evt.succ (g := fun _ => some (a', e')) (fun k => hv) Evt.const, Evt.succ (g := fun _ => some (a', e')) (fun k => hv) Evt.const⟩
    have main : ∃ a' e', Evt (fun k => if b = true then (if (rd_T35 l a).f4 = 0 then (database_usable.j0 k q x y a false (rd_T35 l a).f0 (rd_T35 l a).f1 (rd_T35 l a).f2 (rd_T35 l a).f3 (rd_T35 l a).f4 (rd_T35 l a).f5 (rd_T35 l a).f6 (rd_T35 l a).f7 (rd_T35 l a).f8) else (database_usable.j0 k q x y a (decide ((rd_T35 l a).f4 ≤ t)) (rd_T35 l a).f0 (rd_T35 l a).f1 (rd_T35 l a).f2 (rd_T35 l a).f3 (rd_T35 l a).f4 (rd_T35 l a).f5 (rd_T35 l a).f6 (rd_T35 l a).f7 (rd_T35 l a).f8)) else some (0, 10)) (a', e') ∧ Evt (fun k => if b = true then (if (rd_T35 l a).f4 = 0 then (kerbsuiteref12_use.j0 k q x y a false (rd_T35 l a).f0 (rd_T35 l a).f1 (rd_T35 l a).f2 (rd_T35 l a).f3 (rd_T35 l a).f4 (rd_T35 l a).f5 (rd_T35 l a).f6 (rd_T35 l a).f7 (rd_T35 l a).f8) else (kerbsuiteref12_use.j0 k q x y a (decide ((rd_T35 l a).f4 ≤ t)) (rd_T35 l a).f0 (rd_T35 l a).f1 (rd_T35 l a).f2 (rd_T35 l a).f3 (rd_T35 l a).f4 (rd_T35 l a).f5 (rd_T35 l a).f6 (rd_T35 l a).f7 (rd_T35 l a).f8)) else some (0, 10)) (a', e') := by
      by_cases cb : b = true
      · simp only [if_pos cb]
        by_cases c4 : (rd_T35 l a).f4 = 0
        · simp only [if_pos c4]; exact hj false
        · simp only [if_neg c4]; exact hj _
      · simp only [if_neg cb]
        exact ⟨0, 10, Evt.const, Evt.const⟩
    obtain ⟨a', e', m1, m2⟩ := main
    refine ⟨a', e', ?_, ?_⟩
    · refine Evt.bind h1 ?_
      simp only [he, if_true, if_pos h0, if_pos hlt, hb1, Option.bind_some]
      exact m1
    · refine Evt.bind h2 ?_
      simp only [he, if_true, if_pos h0, if_pos hlt, hb2, Option.bind_some]
      exact m2
  · refine ⟨0, e, ?_, ?_⟩
    · refine Evt.bind h1 ?_
      simp only [if_neg he]
      exact Evt.const
    · refine Evt.bind h2 ?_
      simp only [if_neg he]
      exact Evt.const
theorem client_both (r : ByteArray) (l : List S35) (n m : ByteArray) (t : Int) (hl : l.length ≤ maxLen) : ∃ a e, Evt (fun k => database_Client.f k r l n m t) (a, e) ∧ Evt (fun k => kerbsuiteref12_Client.f k r l n m t) (a, e) := by
  obtain ⟨a, e, h1, h2⟩ := use_both r l n m t 1 1 5 hl
  exact ⟨a, e, Evt.bind h1 Evt.const, Evt.bind h2 Evt.const⟩
theorem service_both (r : ByteArray) (l : List S35) (n m : ByteArray) (t : Int) (hl : l.length ≤ maxLen) : ∃ a e, Evt (fun k => database_Service.f k r l n m t) (a, e) ∧ Evt (fun k => kerbsuiteref12_Service.f k r l n m t) (a, e) := by
  obtain ⟨a, e, h1, h2⟩ := use_both r l n m t 2 2 6 hl
  exact ⟨a, e, Evt.bind h1 Evt.const, Evt.bind h2 Evt.const⟩

/-! ### the example of the chapter, and what is too long -/
theorem awake_ev : Evt kerbsuitelaw12_awake.f true := by
  have h : kerbsuitelaw12_awake.f 40 = some true := by decide +kernel
  refine ⟨40, fun m hm => ?_⟩
  obtain ⟨d, rfl⟩ := Nat.le.dest hm
  induction d with
  | zero => exact h
  | succ d ih => exact kerbsuitelaw12_awake.mono (40 + d) _ (ih (by omega))
theorem long_loop (r : ByteArray) (l : List S35) (hl : l.length ≤ maxLen) (d : Nat) : ∀ (j : Nat), j ≤ l.length → l.length - j = d → ∃ b, Evt (fun k => kerbsuitelaw12_long.l0 k (j : Int) r l) b := by
  simp only [maxLen] at hl
  induction d with
  | zero =>
    intro j hj hd
    refine ⟨false, Evt.succ (g := fun _ => some false) (fun k => ?_) Evt.const⟩
    rw [kerbsuitelaw12_long.l0, if_neg (by omega)]
  | succ d ih =>
    intro j hj hd
    by_cases c0 : ((rd_T35 l (j : Int)).f0.size : Int) > 100
    · refine ⟨true, Evt.succ (g := fun _ => some true) (fun k => ?_) Evt.const⟩
      rw [kerbsuitelaw12_long.l0, if_pos (by omega), if_pos (by omega), if_pos c0]
    by_cases c1 : ((rd_T35 l (j : Int)).f1.size : Int) > 100
    · refine ⟨true, Evt.succ (g := fun _ => some true) (fun k => ?_) Evt.const⟩
      rw [kerbsuitelaw12_long.l0, if_pos (by omega), if_pos (by omega), if_neg c0, if_pos c1]
    obtain ⟨b, hb⟩ := ih (j + 1) (by omega) (by omega)
    refine ⟨b, Evt.succ (fun k => ?_) hb⟩
    rw [kerbsuitelaw12_long.l0, if_pos (by omega), if_pos (by omega), if_neg c0, if_neg c1, w64 (by omega) (by omega)]
    rfl
theorem long_ev (r : ByteArray) (l : List S35) (hl : l.length ≤ maxLen) : ∃ b, Evt (fun k => kerbsuitelaw12_long.f k r l) b := by
  have h1 : Evt (fun k => kerbsuitelaw12_long.j0 k true r l) true := Evt.succ (g := fun _ => some true) (fun k => by rw [kerbsuitelaw12_long.j0, if_pos rfl]) Evt.const
  by_cases c : (l.length : Int) > 70
  · exact ⟨true, Evt.congr (fun k => by rw [kerbsuitelaw12_long.f, if_pos c]) h1⟩
  · by_cases d : (r.size : Int) > 100
    · exact ⟨true, Evt.congr (fun k => by rw [kerbsuitelaw12_long.f, if_neg c, decide_eq_true d]) h1⟩
    · obtain ⟨b, hb⟩ := long_loop r l hl _ 0 (by omega) rfl
      refine ⟨b, Evt.congr (g := fun k => kerbsuitelaw12_long.j0 k false r l) (fun k => by rw [kerbsuitelaw12_long.f, if_neg c, decide_eq_false d]) (Evt.succ (fun k => ?_) hb)⟩
      rw [kerbsuitelaw12_long.j0, if_neg (by simp)]
      rfl
end Go.Proofs.YthfdfoigoomaoaaDoor.Core
