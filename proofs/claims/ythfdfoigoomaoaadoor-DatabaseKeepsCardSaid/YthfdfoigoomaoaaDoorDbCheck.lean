/- Which entries and databases are valid: program and reference tell alike; an ordered list of valid entries is valid. -/
import Derived.Lib.Bytealg
import Derived.Test.YthfdfoigoomaoaaDoorDbText
import Derived.Test.YthfdfoigoomaoaaDoorDbKey
import Derived.Test.YthfdfoigoomaoaaDoorPDbx4
namespace Go.Proofs.YthfdfoigoomaoaaDoor.Core
open Go Go.RowKit Go.Proofs.YthfdfoigoomaoaaDoor.PDb Go.Proofs.YthfdfoigoomaoaaDoorW.PrintWords Go.Proofs.YthfdfoigoomaoaaDoorW.PrintLast Go.Proofs.YthfdfoigoomaoaaDoorW.PrintMore
set_option linter.unusedVariables false

theorem u8_tri (a b : UInt8) : (a < b ∧ ¬ b < a ∧ a ≠ b) ∨ (b < a ∧ ¬ a < b ∧ a ≠ b) ∨ (a = b ∧ ¬ a < b ∧ ¬ b < a) := by
  simp only [UInt8.lt_iff_toNat_lt, ne_eq, ← UInt8.toNat_inj]
  omega
theorem cb_facts : ∀ (a b : List UInt8), (Lib.compareBytes a b = -1 ∨ Lib.compareBytes a b = 0 ∨ Lib.compareBytes a b = 1) ∧ Lib.compareBytes b a = - Lib.compareBytes a b ∧ (Lib.compareBytes a b = 0 ↔ a = b) ∧ (Op.bytesLess a b = true ↔ Lib.compareBytes a b = -1)
  | [], [] => by simp [Lib.compareBytes, Op.bytesLess]
  | [], _ :: _ => by simp [Lib.compareBytes, Op.bytesLess]
  | _ :: _, [] => by simp [Lib.compareBytes, Op.bytesLess]
  | a :: xs, b :: ys => by
    have ih := cb_facts xs ys
    unfold Lib.compareBytes Op.bytesLess
    rcases u8_tri a b with ⟨h1, h2, h3⟩ | ⟨h1, h2, h3⟩ | ⟨h1, h2, h3⟩
    · simp [h1, h2, h3]
    · simp [h1, h2, h3]
    · subst h1
      simp only [if_neg h2, List.cons.injEq, true_and]
      have : decide (a < a) = false := decide_eq_false h2
      rw [this, Bool.false_or, beq_self_eq_true, Bool.true_and]
      exact ih
theorem cb_trans : ∀ (a b c : List UInt8), Lib.compareBytes a b ≤ 0 → Lib.compareBytes b c ≤ 0 → Lib.compareBytes a c ≤ 0
  | [], _, [] => fun _ _ => by simp [Lib.compareBytes]
  | [], _, _ :: _ => fun _ _ => by simp [Lib.compareBytes]
  | _ :: _, [], _ => fun h _ => by simp [Lib.compareBytes] at h
  | _ :: _, _ :: _, [] => fun _ h => by simp [Lib.compareBytes] at h
  | a :: xs, b :: ys, c :: zs => by
    have ih := cb_trans xs ys zs
    unfold Lib.compareBytes
    have l1 := u8_tri a b
    have l2 := u8_tri b c
    have l3 := u8_tri a c
    simp only [UInt8.lt_iff_toNat_lt, ne_eq, ← UInt8.toNat_inj] at l1 l2 l3 ⊢
    by_cases x1 : a.toNat < b.toNat
    · by_cases x2 : b.toNat < c.toNat
      · rw [if_pos (show a.toNat < c.toNat by omega)]; omega
      · by_cases x3 : c.toNat < b.toNat
        · rw [if_neg x2, if_pos x3]; omega
        · rw [if_pos (show a.toNat < c.toNat by omega)]; omega
    · by_cases x2 : b.toNat < a.toNat
      · rw [if_neg x1, if_pos x2]; omega
      · rw [if_neg x1, if_neg x2]
        have e : a.toNat = b.toNat := by omega
        rw [e]
        by_cases x3 : b.toNat < c.toNat
        · rw [if_pos x3, if_pos x3]; omega
        · by_cases x4 : c.toNat < b.toNat
          · rw [if_neg x3, if_pos x4]; omega
          · rw [if_neg x3, if_neg x4, if_neg x3, if_neg x4]; exact ih
/-- One part of the order of three principals. -/
structure Part (ab ba bc ac : Int) : Prop where
  t1 : ab = -1 ∨ ab = 0 ∨ ab = 1
  t2 : bc = -1 ∨ bc = 0 ∨ bc = 1
  t3 : ac = -1 ∨ ac = 0 ∨ ac = 1
  sw : ba = -ab
  tr : ab ≤ 0 → bc ≤ 0 → ac ≤ 0
  z1 : ab = 0 → ac = bc
  z2 : bc = 0 → ac = ab
  z3 : ac = 0 → bc = -ab
/-! ### the order of entries -/
abbrev cb (a b : ByteArray) : Int := Lib.compareBytes a.data.toList b.data.toList
def cmpV (x y : S35) : Int := if cb x.f0 y.f0 = 0 then cb x.f1 y.f1 else cb x.f0 y.f0
theorem less_cb (a b : ByteArray) : Op.bytesLess a.toList b.toList = true ↔ cb a b = -1 := by rw [toL, toL]; exact (cb_facts _ _).2.2.2
theorem eq_cb (a b : ByteArray) : a.toList = b.toList ↔ cb a b = 0 := by rw [toL, toL]; exact (cb_facts _ _).2.2.1.symm
theorem or_evt (p q : Int) : Evt (fun k => cmp_Or_int.f k [p, q]) (if p = 0 then q else p) := by
  unfold cmp_Or_int.f
  have g0 : rd [p, q] 0 = p := rfl
  have g1 : rd [p, q] 1 = q := rfl
  have w1 : wrap64 (0 + 1) = 1 := w64 (by omega) (by omega)
  have w2 : wrap64 (1 + 1) = 2 := w64 (by omega) (by omega)
  by_cases hp : p = 0
  · rw [if_pos hp]
    refine Evt.succ (g := fun k => cmp_Or_int.l0 k 0 [p, q] 2 1) (fun k => ?_) ?_
    · rw [show (([p, q].length : Nat) : Int) = 2 from rfl, cmp_Or_int.l0, if_pos (by omega), if_pos (by omega), if_pos (by simp), g0, if_pos hp, w1]
    by_cases hq : q = 0
    · refine Evt.succ (g := fun k => cmp_Or_int.l0 k 0 [p, q] 2 2) (fun k => ?_) (Evt.succ (g := fun _ => some q) (fun k => ?_) Evt.const)
      · rw [cmp_Or_int.l0, if_pos (by omega), if_pos (by omega), if_pos (by simp), g1, if_pos hq, w2]
      · rw [cmp_Or_int.l0, if_neg (by omega), hq]
    · refine Evt.succ (g := fun _ => some q) (fun k => ?_) Evt.const
      rw [cmp_Or_int.l0, if_pos (by omega), if_pos (by omega), if_pos (by simp), g1, if_neg hq]
  · rw [if_neg hp]
    refine Evt.succ (g := fun _ => some p) (fun k => ?_) Evt.const
    rw [show (([p, q].length : Nat) : Int) = 2 from rfl, cmp_Or_int.l0, if_pos (by omega), if_pos (by omega), if_pos (by simp), g0, if_neg hp]
theorem compare_evt (x y : S35) : Evt (fun k => database_compare.f k x.f0 x.f1 x.f2 x.f3 x.f4 x.f5 x.f6 x.f7 x.f8 y.f0 y.f1 y.f2 y.f3 y.f4 y.f5 y.f6 y.f7 y.f8) (cmpV x y) := by
  unfold database_compare.f strings_Compare.f
  simp only [Option.bind_some]
  exact Evt.bind (or_evt _ _) Evt.const

/-! ### entries -/
def rng (n m : Int) : Bool := decide (0 ≤ n) && decide (n ≤ m)
/-- The first error of an entry; b: is its key one? -/
def ceV (b : Bool) (x : S35) : Int := if (vName x.f0 && vInst x.f1) = false then 103 else if x.f2 ≠ 0 ∧ b = false then 10 else if (rng x.f3 255 && rng x.f4 4294967295 && rng x.f8 4294967295 && rng x.f5 255 && rng x.f6 3 && rng x.f7 20) = true then 0 else 104
theorem out_val (n m : Int) : database_outside.f n m = some (!(rng n m)) := by
  unfold database_outside.f rng
  by_cases c : n < 0
  · rw [if_pos c, show decide (0 ≤ n) = false from decide_eq_false (by omega)]; rfl
  · rw [if_neg c, show decide (0 ≤ n) = true from decide_eq_true (by omega)]
    by_cases d : n > m
    · rw [show decide (n > m) = true from decide_eq_true d, show decide (n ≤ m) = false from decide_eq_false (by omega)]; rfl
    · rw [show decide (n > m) = false from decide_eq_false d, show decide (n ≤ m) = true from decide_eq_true (by omega)]; rfl
def Sized (x : S35) : Prop := x.f0.size ≤ 9223372036854775807 ∧ x.f1.size ≤ 9223372036854775807
theorem ce_evt {x : S35} (hx : Sized x) {b : Bool} (hb : key_Valid.f x.f2 = some b) : Evt (fun k => database_CheckEntry.f k x.f0 x.f1 x.f2 x.f3 x.f4 x.f5 x.f6 x.f7 x.f8) (ceV b x) := by
  have last : ∀ g : Bool, Evt (fun k => database_CheckEntry.j1 k g x.f0 x.f1 x.f2 x.f3 x.f4 x.f5 x.f6 x.f7 x.f8) (if g = true then 10 else if (rng x.f3 255 && rng x.f4 4294967295 && rng x.f8 4294967295 && rng x.f5 255 && rng x.f6 3 && rng x.f7 20) = true then 0 else 104) := by
    intro g
    refine Evt.succ (g := fun _ => some _) (fun k => ?_) Evt.const
    rw [database_CheckEntry.j1]
    simp only [out_val, Option.bind_some]
    cases g <;> cases rng x.f3 255 <;> cases rng x.f4 4294967295 <;> cases rng x.f8 4294967295 <;> cases rng x.f5 255 <;> cases rng x.f6 3 <;> cases rng x.f7 20 <;> rfl
  have mid : ∀ g : Bool, Evt (fun k => database_CheckEntry.j0 k g x.f0 x.f1 x.f2 x.f3 x.f4 x.f5 x.f6 x.f7 x.f8) (if g = true then 103 else if x.f2 ≠ 0 ∧ b = false then 10 else if (rng x.f3 255 && rng x.f4 4294967295 && rng x.f8 4294967295 && rng x.f5 255 && rng x.f6 3 && rng x.f7 20) = true then 0 else 104) := by
    intro g
    cases g with
    | true => exact Evt.succ (g := fun _ => some _) (fun k => by rw [database_CheckEntry.j0, if_pos rfl]; rfl) Evt.const
    | false =>
      by_cases c : x.f2 = 0
      · have := last false
        rw [if_neg (by simp), if_neg (by simp [c])]
        exact Evt.succ (fun k => by rw [database_CheckEntry.j0, if_neg (by simp), if_pos c]) this
      · have := last (!b)
        rw [if_neg (by simp)]
        have e : (if (!b) = true then (10 : Int) else if (rng x.f3 255 && rng x.f4 4294967295 && rng x.f8 4294967295 && rng x.f5 255 && rng x.f6 3 && rng x.f7 20) = true then 0 else 104) = (if x.f2 ≠ 0 ∧ b = false then 10 else if (rng x.f3 255 && rng x.f4 4294967295 && rng x.f8 4294967295 && rng x.f5 255 && rng x.f6 3 && rng x.f7 20) = true then 0 else 104) := by
          cases b <;> simp [c]
        rw [← e]
        exact Evt.succ (fun k => by rw [database_CheckEntry.j0, if_neg (by simp), if_neg c, hb, Option.bind_some]) this
  refine Evt.bind (name_evt hx.1) ?_
  unfold ceV
  cases vName x.f0 with
  | false => simpa using mid true
  | true =>
    refine Evt.bind (inst_evt hx.2) ?_
    cases vInst x.f1 with
    | false => simpa using mid true
    | true => simpa using mid false

/-! ### databases -/
/-- An ordered list of valid entries. -/
def Fine (l : List S35) : Prop := (∀ x ∈ l, Sized x ∧ ∃ b, key_Valid.f x.f2 = some b ∧ ceV b x = 0) ∧ ∀ (j : Nat) (h : j + 1 < l.length), ¬ cmpV l[j + 1] l[j] < 0
theorem fine_loop (r : ByteArray) (l : List S35) (hl : l.length ≤ 60) (hf : Fine l) (d : Nat) : ∀ j : Nat, j ≤ l.length → l.length - j = d → Evt (fun k => database_Check.l0 k l (l.length : Int) (j : Int) r l) 0 := by
  induction d with
  | zero =>
    intro j hj hd
    exact Evt.succ (g := fun _ => some 0) (fun k => by rw [database_Check.l0, if_neg (by omega)]) Evt.const
  | succ d ih =>
    intro j hj hd
    have hlt : j < l.length := by omega
    obtain ⟨hz, b, hb, hc⟩ := hf.1 _ (List.getElem_mem hlt)
    have h1 := ce_evt hz hb
    rw [hc] at h1
    have n1 := ih (j + 1) (by omega) (by omega)
    have e1 : wrap64 ((j : Int) + 1) = ((j + 1 : Nat) : Int) := by rw [w64 (by omega) (by omega)]; rfl
    refine Evt.succ (fun k => by rw [database_Check.l0, if_pos (by omega), if_pos (by omega), if_pos (by omega), rd35 hlt]) (Evt.bind h1 ?_)
    by_cases cj : (j : Int) > 0
    · have e2 : wrap64 ((j : Int) - 1) = ((j - 1 : Nat) : Int) := by rw [w64 (by omega) (by omega)]; omega
      have hlt' : j - 1 < l.length := by omega
      have cc : ¬ cmpV l[j] l[j - 1] < 0 := by
        obtain ⟨i, rfl⟩ : ∃ i, j = i + 1 := ⟨j - 1, by omega⟩
        exact hf.2 i hlt
      simp only [if_true, if_pos cj, e2]
      simp only [if_pos (show (0 : Int) ≤ ((j - 1 : Nat) : Int) by omega), if_pos (show ((j - 1 : Nat) : Int) < (l.length : Int) by omega), rd35 hlt']
      refine Evt.bind (compare_evt l[j] l[j - 1]) ?_
      simp only [if_neg cc, e1]
      exact n1
    · simp only [if_true, if_neg cj, e1]; exact n1
theorem fine_check {r : ByteArray} {l : List S35} (hr : r.size ≤ 9223372036854775807) (hv : vRealm r = true) (hl : l.length ≤ 60) (hf : Fine l) : Evt (fun k => database_Check.f k r l) 0 := by
  refine Evt.bind (realm_evt hr) ?_
  simp only [hv, if_true, if_neg (show ¬ (l.length : Int) > 60 by omega)]
  exact fine_loop r l hl hf l.length 0 (by omega) (by omega)
end Go.Proofs.YthfdfoigoomaoaaDoor.Core
