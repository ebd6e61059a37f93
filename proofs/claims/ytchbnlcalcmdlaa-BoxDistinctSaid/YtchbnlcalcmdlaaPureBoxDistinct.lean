/- Two boxes have the same bytes exactly if kind, key and body are equal: the plain part of BoxDistinct. -/
import Derived.Test.YtchbnlcalcmdlaaBoxMore
import Derived.Test.YtchbnlcalcmdlaaPBoxx7
namespace Go.Proofs.Ytchbnlcalcmdlaa.Pure
open Go Go.RowKit Go.Proofs.Ytchbnlcalcmdlaa.PBox Go.Proofs.Ytchbnlcalcmdlaa.Core Go.Proofs.YtchbnlcalcmdlaaW.PrintWords Go.Proofs.YtchbnlcalcmdlaaW.PrintLast Go.Proofs.YtchbnlcalcmdlaaW.PrintMore
set_option linter.unusedVariables false

theorem kind_in' {a : Int} (h0 : 0 ≤ a) (h1 : a ≤ 255) : wrap64 (1 + (Int.tmod (wrap64 a) 10)) = 1 + a % 10 ∧ 1 ≤ 1 + a % 10 ∧ 1 + a % 10 ≤ 10 := by
  rw [w64 (n := a) (by omega) (by omega), Int.tmod_eq_emod_of_nonneg h0, w64 (by omega) (by omega)]
  omega
theorem mk_inj {a b n m : Int} {l r : List Int} (ha : 1 ≤ a ∧ a ≤ 10) (hn : 0 ≤ n ∧ n ≤ 255) (hl : l.length ≤ 1000) (hb : 1 ≤ b ∧ b ≤ 10) (hm : 0 ≤ m ∧ m ≤ 255) (hr : r.length ≤ 1000) :
    (mkBox a (LK n) l).1 = (mkBox b (LK m) r).1 ↔ a = b ∧ n = m ∧ l = r := by
  constructor
  · intro h
    have h1 := rd_mk (a := a) (n := n) (l := l) [] ha hn hl
    have h2 := rd_mk (a := b) (n := m) (l := r) [] hb hm hr
    rw [h, h2] at h1
    simp only [Prod.mk.injEq] at h1
    exact ⟨h1.1.symm, (LK_inj.1 h1.2.1).symm, h1.2.2.1.symm⟩
  · rintro ⟨rfl, rfl, rfl⟩; rfl
theorem j1_true (k : Nat) {x0 x1 : List Int} {p q s t : Int} (w0 : Byt x0) (w1 : Byt x1) (h0 : x0.length ≤ 1000) (h1 : x1.length ≤ 1000) (bp : 0 ≤ p ∧ p ≤ 255) (bq : 0 ≤ q ∧ q ≤ 255) (bs : 0 ≤ s ∧ s ≤ 255) (bt : 0 ≤ t ∧ t ≤ 255) :
    kerbsuitelaw4_BoxDistinct.j1 (k + 10) x0 x1 p q s t = some true := by
  obtain ⟨e1, k1⟩ := kind_in' bp.1 bp.2
  obtain ⟨e2, k2⟩ := kind_in' bq.1 bq.2
  simp only [kerbsuitelaw4_BoxDistinct.j1]
  rw [long_some bs.1 bs.2, long_some bt.1 bt.2, e1, e2]
  simp only [Option.bind_some]
  rw [boxMake_some k, boxMake_some k]
  simp only [Option.bind_some]
  have c1 : (mkBox (1 + p % 10) (LK s) x0).2 = 0 := by rw [mk_ok k1 bs h0]
  have c2 : (mkBox (1 + q % 10) (LK t) x1).2 = 0 := by rw [mk_ok k2 bt h1]
  have hs := strOf_inj (byt_mk (1 + p % 10) (LK s) w0) (byt_mk (1 + q % 10) (LK t) w1)
  have hm := mk_inj k1 bs h0 k2 bt h1
  have hx := strOf_inj w0 w1
  rw [c1, c2, Int.tmod_eq_emod_of_nonneg bp.1, Int.tmod_eq_emod_of_nonneg bq.1]
  have key : ((strOfNums (mkBox (1 + p % 10) (LK s) x0).1).toList == (strOfNums (mkBox (1 + q % 10) (LK t) x1).1).toList) = decide (1 + p % 10 = 1 + q % 10 ∧ s = t ∧ x0 = x1) := by
    rw [Bool.eq_iff_iff, beq_iff_eq, hs, hm, decide_eq_true_iff]
  have key2 : ((strOfNums x0).toList == (strOfNums x1).toList) = decide (x0 = x1) := by rw [Bool.eq_iff_iff, beq_iff_eq, hx, decide_eq_true_iff]
  rw [key, key2]
  by_cases d1 : p % 10 = q % 10
  · by_cases d2 : s = t
    · simp [d1, d2]
    · simp [d1, d2]
  · have : ¬ (1 + p % 10 = 1 + q % 10) := by omega
    simp [d1, this]
theorem BoxDistinct : kerbsuitelaw4_BoxDistinct.Pure := by
  intro l0 l1 a2 a3 a4 a5 same _ _ w0 _ _ w1 h2 h3 h4 h5
  have b2 := bounds_u8 h2
  have b3 := bounds_u8 h3
  have b4 := bounds_u8 h4
  have b5 := bounds_u8 h5
  have j0 : ∀ t, (l0.length : Int) ≤ 900 ∧ (l1.length : Int) ≤ 900 ∨ t = true → kerbsuitelaw4_BoxDistinct.j0 11 l0 l1 same t a2 a3 a4 a5 = some true := by
    intro t ht
    simp only [kerbsuitelaw4_BoxDistinct.j0]
    by_cases h : t = true
    · rw [if_pos h]
    · rw [if_neg h]
      rcases ht with ⟨u0, u1⟩ | ht
      · split
        · exact j1_true 0 (byt_of w0) (byt_of w0) (by omega) (by omega) b2 b3 b4 b5
        · exact j1_true 0 (byt_of w0) (byt_of w1) (by omega) (by omega) b2 b3 b4 b5
      · exact absurd ht h
  refine ⟨11, ?_⟩
  unfold kerbsuitelaw4_BoxDistinct.f
  rw [awake_some 1]
  simp only [Option.bind_some]
  rw [if_pos trivial]
  by_cases h : (l0.length : Int) > 900
  · rw [if_pos h, j0 true (.inr rfl)]
  · rw [if_neg h]
    apply j0
    by_cases h2 : (l1.length : Int) > 900
    · exact .inr (decide_eq_true h2)
    · exact .inl ⟨by omega, by omega⟩
end Go.Proofs.Ytchbnlcalcmdlaa.Pure
