/- The bytes of any box, or the error, are those of the reference: the plain part of BoxMakes. -/
import Derived.Test.YtchbnlcalcmdlaaBoxMore
import Derived.Test.YtchbnlcalcmdlaaPBoxx2
import Derived.Test.YtchbnlcalcmdlaaPBoxx3
namespace Go.Proofs.Ytchbnlcalcmdlaa.Pure
open Go Go.RowKit Go.Proofs.Ytchbnlcalcmdlaa.PBox Go.Proofs.Ytchbnlcalcmdlaa.Core Go.Proofs.YtchbnlcalcmdlaaW.PrintWords Go.Proofs.YtchbnlcalcmdlaaW.PrintLast Go.Proofs.YtchbnlcalcmdlaaW.PrintMore
set_option linter.unusedVariables false

theorem body_grows (a : Int) (d : Nat) : ∀ (k : Nat) (l : List Int), l.length ≤ 1100 → 1100 - l.length = d → d < k → ∃ c, kerbsuitelaw4_body.l0 k a l = some c := by
  have hb : wrap64 (999 + (Int.tmod (wrap64 (Int.tdiv (wrap64 a) 8)) 3)) ≤ 1002 := by
    have h1 := Int.tmod_lt_of_pos (wrap64 (Int.tdiv (wrap64 a) 8)) (show (0 : Int) < 3 by decide)
    have h2 := Int.lt_tmod_of_pos (wrap64 (Int.tdiv (wrap64 a) 8)) (show (0 : Int) < 3 by decide)
    rw [w64 (n := 999 + _) (by omega) (by omega)]
    omega
  induction d with
  | zero =>
    intro k l hl hd hk
    obtain ⟨k, rfl⟩ : ∃ m, k = m + 1 := ⟨k - 1, by omega⟩
    rw [kerbsuitelaw4_body.l0]
    rw [if_neg (by omega)]
    exact ⟨_, rfl⟩
  | succ d ih =>
    intro k l hl hd hk
    obtain ⟨k, rfl⟩ : ∃ m, k = m + 1 := ⟨k - 1, by omega⟩
    rw [kerbsuitelaw4_body.l0]
    split
    · rw [if_pos (by omega)]
      exact ih k _ (by simp; omega) (by simp; omega) (by omega)
    · exact ⟨_, rfl⟩
theorem body_some (m : Nat) (l : List Int) (a : Int) (hl : l.length ≤ 900) : ∃ c, kerbsuitelaw4_body.f (m + 1200) l a = some c := by
  unfold kerbsuitelaw4_body.f
  simp only [Option.bind_some, List.nil_append, List.length_nil]
  rw [if_pos (by omega)]
  split
  · exact body_grows a (1100 - l.length) _ l (by omega) rfl (by omega)
  · exact ⟨_, rfl⟩
theorem makes_loop (x0 x1 x3 x4 : Int) (c : List Int) (h0 : 0 ≤ x4) (h1 : x4 ≤ 255) (d : Nat) : ∀ (k : Nat) (i : Int), 0 ≤ i → i ≤ 4 → (4 - i).toNat = d → d + 12 ≤ k → kerbsuitelaw4_BoxMakes.l0 k x0 x1 x3 x4 c i = some true := by
  induction d with
  | zero =>
    intro k i hi0 hi1 hd hk
    obtain ⟨k, rfl⟩ : ∃ m, k = m + 1 := ⟨k - 1, by omega⟩
    rw [kerbsuitelaw4_BoxMakes.l0]
    rw [if_neg (by omega)]
  | succ d ih =>
    intro k i hi0 hi1 hd hk
    obtain ⟨k, rfl⟩ : ∃ m, k = (m + 10) + 1 := ⟨k - 11, by omega⟩
    rw [kerbsuitelaw4_BoxMakes.l0]
    have ht : Int.tmod i 2 = i % 2 := Int.tmod_eq_emod_of_nonneg hi0
    have hq : wrap64 (Int.tdiv i 2) = i / 2 := by rw [Int.tdiv_eq_ediv_of_nonneg hi0]; exact w64 (by omega) (by omega)
    rw [if_pos (show i < 4 by omega), ht, hq]
    simp only [Option.bind_some]
    rw [if_pos (show 0 ≤ i % 2 by omega), if_pos (by simp only [List.length_cons, List.length_nil]; omega), long_some h0 h1]
    simp only [Option.bind_some]
    rw [if_pos (show 0 ≤ i / 2 by omega), if_pos (by simp only [List.length_cons, List.length_nil]; omega), boxMake_some (k + 1), refMake_some k]
    simp only [Option.bind_some]
    rw [if_pos trivial, if_pos trivial, w64 (n := i + 1) (by omega) (by omega)]
    exact ih (k + 10) (i + 1) (by omega) (by omega) (by omega) (by omega)
theorem BoxMakes : kerbsuitelaw4_BoxMakes.Pure := by
  intro a0 a1 l2 a3 a4 a5 _ _ _ _ _ _ h4 _
  have b4 := bounds_u8 h4
  refine ⟨1210, ?_⟩
  unfold kerbsuitelaw4_BoxMakes.f
  rw [awake_some 1200]
  simp only [Option.bind_some]
  rw [if_pos trivial]
  by_cases h : (l2.length : Int) > 900
  · rw [if_pos h]
  · rw [if_neg h]
    obtain ⟨c, hc⟩ := body_some 10 l2 a5 (by omega)
    rw [hc]
    simp only [Option.bind_some]
    exact makes_loop a0 a1 a3 a4 c b4.1 b4.2 4 _ 0 (by omega) (by omega) (by decide) (by omega)
end Go.Proofs.Ytchbnlcalcmdlaa.Pure
