/- The order of principals: the plain part of PrincipalOrder. -/
import Derived.Test.YtmgcfnialfjphaaCore
import Derived.Lib.Bytealg
import Derived.Test.YtmgcfnialfjphaaPPrinx9
namespace Go.Proofs.Ytmgcfnialfjphaa.Pure
open Go Go.RowKit Go.Proofs.Ytmgcfnialfjphaa.PPrin Go.Proofs.Ytmgcfnialfjphaa.Core Go.Proofs.YtmgcfnialfjphaaW.PrintWords Go.Proofs.YtmgcfnialfjphaaW.PrintLast Go.Proofs.YtmgcfnialfjphaaW.PrintMore
set_option linter.unusedVariables false
theorem u8_tri (a b : UInt8) : (a < b ∧ ¬ b < a ∧ a ≠ b) ∨ (b < a ∧ ¬ a < b ∧ a ≠ b) ∨ (a = b ∧ ¬ a < b ∧ ¬ b < a) := by
  simp only [UInt8.lt_iff_toNat_lt, ne_eq, ← UInt8.toNat_inj]
  omega
theorem cb_facts : ∀ (a b : List UInt8), (Lib.compareBytes a b = -1 ∨ Lib.compareBytes a b = 0 ∨ Lib.compareBytes a b = 1) ∧ Lib.compareBytes b a = - Lib.compareBytes a b ∧ (Lib.compareBytes a b = 0 ↔ a = b) ∧ (Op.bytesLess a b = true ↔ Lib.compareBytes a b = -1)
  | [], [] => by simp [Lib.compareBytes, Op.bytesLess]
  | [], _ :: _ => by simp [Lib.compareBytes, Op.bytesLess]
  | _ :: _, [] => by simp [Lib.compareBytes, Op.bytesLess]
  | a :: xs, b :: ys => by
    have ih := cb_facts xs ys
    unfold Lib.compareBytes Op.bytesLess
    rcases u8_tri a b with ⟨h1, h2, h3⟩ | ⟨h1, h2, h3⟩ | ⟨h1, h2, h3⟩
    · simp [h1, h2, h3]
    · simp [h1, h2, h3]
    · subst h1
      simp only [if_neg h2, List.cons.injEq, true_and]
      have : decide (a < a) = false := decide_eq_false h2
      rw [this, Bool.false_or, beq_self_eq_true, Bool.true_and]
      exact ih
theorem cb_trans : ∀ (a b c : List UInt8), Lib.compareBytes a b ≤ 0 → Lib.compareBytes b c ≤ 0 → Lib.compareBytes a c ≤ 0
  | [], _, [] => fun _ _ => by simp [Lib.compareBytes]
  | [], _, _ :: _ => fun _ _ => by simp [Lib.compareBytes]
  | _ :: _, [], _ => fun h _ => by simp [Lib.compareBytes] at h
  | _ :: _, _ :: _, [] => fun _ h => by simp [Lib.compareBytes] at h
  | a :: xs, b :: ys, c :: zs => by
    have ih := cb_trans xs ys zs
    unfold Lib.compareBytes
    have l1 := u8_tri a b
    have l2 := u8_tri b c
    have l3 := u8_tri a c
    simp only [UInt8.lt_iff_toNat_lt, ne_eq, ← UInt8.toNat_inj] at l1 l2 l3 ⊢
    by_cases x1 : a.toNat < b.toNat
    · by_cases x2 : b.toNat < c.toNat
      · rw [if_pos (show a.toNat < c.toNat by omega)]; omega
      · by_cases x3 : c.toNat < b.toNat
        · rw [if_neg x2, if_pos x3]; omega
        · rw [if_pos (show a.toNat < c.toNat by omega)]; omega
    · by_cases x2 : b.toNat < a.toNat
      · rw [if_neg x1, if_pos x2]; omega
      · rw [if_neg x1, if_neg x2]
        have e : a.toNat = b.toNat := by omega
        rw [e]
        by_cases x3 : b.toNat < c.toNat
        · rw [if_pos x3, if_pos x3]; omega
        · by_cases x4 : c.toNat < b.toNat
          · rw [if_neg x3, if_pos x4]; omega
          · rw [if_neg x3, if_neg x4, if_neg x3, if_neg x4]; exact ih
/-- One part of the order of three principals. -/
structure Part (ab ba bc ac : Int) : Prop where
  t1 : ab = -1 ∨ ab = 0 ∨ ab = 1
  t2 : bc = -1 ∨ bc = 0 ∨ bc = 1
  t3 : ac = -1 ∨ ac = 0 ∨ ac = 1
  sw : ba = -ab
  tr : ab ≤ 0 → bc ≤ 0 → ac ≤ 0
  z1 : ab = 0 → ac = bc
  z2 : bc = 0 → ac = ab
  z3 : ac = 0 → bc = -ab
theorem part (a b c : List UInt8) : Part (Lib.compareBytes a b) (Lib.compareBytes b a) (Lib.compareBytes b c) (Lib.compareBytes a c) := by
  have h1 := cb_facts a b
  have h2 := cb_facts b c
  have h3 := cb_facts a c
  refine ⟨h1.1, h2.1, h3.1, h1.2.1, cb_trans a b c, fun h => ?_, fun h => ?_, fun h => ?_⟩
  · rw [h1.2.2.1.1 h]
  · rw [h2.2.2.1.1 h]
  · rw [← h3.2.2.1.1 h]; exact h1.2.1
theorem part_zero {p q r p' q' r' : Int} (x y z : Int) (hx : x = if p = 0 then if q = 0 then r else q else p) : x = 0 ↔ p = 0 ∧ q = 0 ∧ r = 0 := by
  subst hx
  split
  · split <;> omega
  · omega
/-- The order, as one number. -/
def cmp3 (n i r n' i' r' : ByteArray) : Int := if Lib.compareBytes (bs r) (bs r') = 0 then if Lib.compareBytes (bs n) (bs n') = 0 then Lib.compareBytes (bs i) (bs i') else Lib.compareBytes (bs n) (bs n') else Lib.compareBytes (bs r) (bs r')
theorem cmp_some (n i r n' i' r' : ByteArray) : principal_Compare.f n i r n' i' r' = some (cmp3 n i r n' i' r') := by
  unfold principal_Compare.f strings_Compare.f cmp3
  simp only [Option.bind_some]
  split
  · split <;> rfl
  · rfl
theorem ord_some (a b : ByteArray) : kerbsuiteref1_order.f a b = some (Lib.compareBytes (bs a) (bs b)) := by
  unfold kerbsuiteref1_order.f
  rw [toL, toL]
  have h1 := cb_facts (bs a) (bs b)
  have h2 := cb_facts (bs b) (bs a)
  by_cases x : Op.bytesLess (bs a) (bs b) = true
  · rw [if_pos x, h1.2.2.2.1 x]
  · rw [if_neg x]
    by_cases y : Op.bytesLess (bs b) (bs a) = true
    · rw [if_pos y]
      have := h2.2.2.2.1 y
      congr 1
      omega
    · rw [if_neg y]
      have e1 : ¬ Lib.compareBytes (bs a) (bs b) = -1 := fun h => x (h1.2.2.2.2 h)
      have e2 : ¬ Lib.compareBytes (bs b) (bs a) = -1 := fun h => y (h2.2.2.2.2 h)
      congr 1
      omega
theorem rcmp_some (n i r n' i' r' : ByteArray) : kerbsuiteref1_Compare.f n i r n' i' r' = some (cmp3 n i r n' i' r') := by
  unfold kerbsuiteref1_Compare.f cmp3
  simp only [ord_some, Option.bind_some]
  split
  · split <;> rfl
  · rfl
theorem cmp3_zero (n i r n' i' r' : ByteArray) : (cmp3 n i r n' i' r' == 0) = (n.toList == n'.toList && (i.toList == i'.toList && (r.toList == r'.toList))) := by
  simp only [toL]
  rw [Bool.eq_iff_iff]
  simp only [beq_iff_eq, Bool.and_eq_true]
  rw [← (cb_facts (bs n) (bs n')).2.2.1, ← (cb_facts (bs i) (bs i')).2.2.1, ← (cb_facts (bs r) (bs r')).2.2.1]
  unfold cmp3
  split
  · split <;> omega
  · omega
theorem cmp3_facts (n i r n' i' r' n2 i2 r2 : ByteArray) : cmp3 n' i' r' n i r = wrap64 (-cmp3 n i r n' i' r') ∧ (cmp3 n i r n' i' r' ≤ 0 → cmp3 n' i' r' n2 i2 r2 ≤ 0 → cmp3 n i r n2 i2 r2 ≤ 0) := by
  obtain ⟨a1, a2, a3, a4, a5, a6, a7, a8⟩ := part (bs r) (bs r') (bs r2)
  obtain ⟨b1, b2, b3, b4, b5, b6, b7, b8⟩ := part (bs n) (bs n') (bs n2)
  obtain ⟨c1, c2, c3, c4, c5, c6, c7, c8⟩ := part (bs i) (bs i') (bs i2)
  unfold cmp3
  generalize Lib.compareBytes (bs r) (bs r') = ra at *
  generalize Lib.compareBytes (bs r') (bs r) = rb at *
  generalize Lib.compareBytes (bs r') (bs r2) = rc at *
  generalize Lib.compareBytes (bs r) (bs r2) = rd at *
  generalize Lib.compareBytes (bs n) (bs n') = na at *
  generalize Lib.compareBytes (bs n') (bs n) = nb at *
  generalize Lib.compareBytes (bs n') (bs n2) = nc at *
  generalize Lib.compareBytes (bs n) (bs n2) = nd at *
  generalize Lib.compareBytes (bs i) (bs i') = ia at *
  generalize Lib.compareBytes (bs i') (bs i) = ib at *
  generalize Lib.compareBytes (bs i') (bs i2) = ic at *
  generalize Lib.compareBytes (bs i) (bs i2) = id at *
  subst a4 b4 c4
  constructor
  · have : ∀ z : Int, (z = -1 ∨ z = 0 ∨ z = 1) → wrap64 (-z) = -z := fun z hz => w64 (by omega) (by omega)
    rw [this]
    · rcases a1 with h | h | h <;> rcases b1 with g | g | g <;> simp [h, g]
    · rcases a1 with h | h | h <;> rcases b1 with g | g | g <;> simp [h, g] <;> exact c1
  · intro p q
    by_cases r0 : ra = 0
    · have rz := a6 r0
      rw [if_pos r0] at p
      rw [rz]
      by_cases s0 : rc = 0
      · rw [if_pos s0] at q ⊢
        by_cases n0 : na = 0
        · have nz := b6 n0
          rw [if_pos n0] at p
          rw [nz]
          by_cases m0 : nc = 0
          · rw [if_pos m0] at q ⊢
            exact c5 p q
          · rw [if_neg m0] at q ⊢
            exact q
        · rw [if_neg n0] at p
          by_cases m0 : nc = 0
          · rw [b7 m0, if_neg n0]
            exact p
          · rw [if_neg m0] at q
            by_cases d0 : nd = 0
            · have := b8 d0; omega
            · rw [if_neg d0]
              exact b5 p q
      · rw [if_neg s0] at q ⊢
        exact q
    · rw [if_neg r0] at p
      by_cases s0 : rc = 0
      · rw [a7 s0, if_neg r0]
        exact p
      · rw [if_neg s0] at q
        by_cases d0 : rd = 0
        · have := a8 d0; omega
        · rw [if_neg d0]
          exact a5 p q
theorem j3_some (k : Nat) (n i r n' i' r' n2 i2 r2 : ByteArray) : kerbsuitelaw1_PrincipalOrder.j3 (k + 1) n i r n' i' r' n2 i2 r2 = some true := by
  have h := cmp3_facts n i r n' i' r' n2 i2 r2
  have z := cmp3_zero n i r n' i' r'
  rw [kerbsuitelaw1_PrincipalOrder.j3]
  simp only [cmp_some, rcmp_some, Option.bind_some, if_true, ← z, bne_self_eq_false, Bool.false_eq_true, if_false]
  rw [if_pos h.1]
  by_cases c1 : cmp3 n i r n' i' r' > 0
  · rw [if_pos c1]
  · rw [if_neg c1]
    by_cases c2 : cmp3 n' i' r' n2 i2 r2 > 0
    · rw [if_pos c2]
    · rw [if_neg c2]
      have := h.2 (by omega) (by omega)
      rw [decide_eq_true this]
theorem PrincipalOrder : kerbsuitelaw1_PrincipalOrder.Pure := by
  intro a b c d e f g h i x _ _ _ _ _ _ _ _ _ _
  have j2 : ∀ a b c d e f g h i, kerbsuitelaw1_PrincipalOrder.j2 (6000 + 1 + 1) x a b c d e f g h i = some true := by
    intro a b c d e f g h i
    rw [kerbsuitelaw1_PrincipalOrder.j2, j3_some, j3_some]
    split <;> rfl
  have j1 : ∀ a b c d e f g h i, kerbsuitelaw1_PrincipalOrder.j1 (6000 + 1 + 1 + 1) x a b c d e f g h i = some true := by
    intro a b c d e f g h i
    rw [kerbsuitelaw1_PrincipalOrder.j1, j2, j2]
    split <;> rfl
  have j0 : ∀ t a b c d e f g h i, kerbsuitelaw1_PrincipalOrder.j0 (6000 + 1 + 1 + 1 + 1) x t a b c d e f g h i = some true := by
    intro t a b c d e f g h i
    rw [kerbsuitelaw1_PrincipalOrder.j0, j1, j1]
    split
    · rfl
    · split <;> rfl
  refine ⟨6000 + 1 + 1 + 1 + 1, ?_⟩
  unfold kerbsuitelaw1_PrincipalOrder.f
  rw [awake_some 3, Option.bind_some, if_pos rfl, long_some, Option.bind_some, long_some, Option.bind_some, long_some, Option.bind_some, j0, j0]
  split
  · rfl
  · split <;> rfl
end Go.Proofs.Ytmgcfnialfjphaa.Pure
