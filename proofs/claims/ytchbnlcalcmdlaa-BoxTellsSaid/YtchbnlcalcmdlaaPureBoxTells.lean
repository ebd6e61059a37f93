/- What any bytes are opened to, by the program and by the reference: the plain part of BoxTells. -/
import Derived.Test.YtchbnlcalcmdlaaBoxMore
import Derived.Test.YtchbnlcalcmdlaaPBoxx9
namespace Go.Proofs.Ytchbnlcalcmdlaa.Pure
open Go Go.RowKit Go.Proofs.Ytchbnlcalcmdlaa.PBox Go.Proofs.Ytchbnlcalcmdlaa.Core Go.Proofs.YtchbnlcalcmdlaaW.PrintWords Go.Proofs.YtchbnlcalcmdlaaW.PrintLast Go.Proofs.YtchbnlcalcmdlaaW.PrintMore
set_option linter.unusedVariables false

theorem tells_loop (x2 x3 x4 : Int) (L : List (List Int)) (hL : ∀ l ∈ L, Byt l) (hn : L.length ≤ 3) (h0 : 0 ≤ x4) (h1 : x4 ≤ 255) (d : Nat) : ∀ (k : Nat) (i : Int), 0 ≤ i → i ≤ L.length → ((L.length : Int) - i).toNat = d → 2 * d + 14 ≤ k → kerbsuitelaw4_BoxTells.l0 k x2 x3 x4 L i = some true := by
  induction d with
  | zero =>
    intro k i hi0 hi1 hd hk
    obtain ⟨k, rfl⟩ : ∃ m, k = m + 1 := ⟨k - 1, by omega⟩
    rw [kerbsuitelaw4_BoxTells.l0]
    rw [if_neg (by omega)]
  | succ d ih =>
    intro k i hi0 hi1 hd hk
    obtain ⟨k, rfl⟩ : ∃ m, k = ((m + 10) + 1) + 1 := ⟨k - 12, by omega⟩
    have hlt : i.toNat < L.length := by omega
    have hB : Byt (rd_L1 L i) := by
      unfold rd_L1
      rw [List.getD_eq_getElem?_getD, List.getElem?_eq_getElem hlt]
      exact hL _ (List.getElem_mem hlt)
    rw [kerbsuitelaw4_BoxTells.l0]
    rw [if_pos (show i < (L.length : Int) by omega), if_pos hi0, boxOpen_some (k + 1) hB, refOpen_some (k + 1) hB]
    simp only [Option.bind_some]
    rw [if_pos trivial, bne_self_eq_false]
    rw [kerbsuitelaw4_BoxTells.j2]
    rw [if_neg (by decide), if_pos hi0, if_pos (show i < (L.length : Int) by omega), long_some h0 h1]
    simp only [Option.bind_some]
    rw [boxOpen_some k hB, refOpen_some k hB]
    simp only [Option.bind_some]
    rw [if_pos trivial, bne_self_eq_false, if_neg (by decide), w64 (by omega) (by omega)]
    exact ih _ _ (by omega) (by omega) (by omega) (by omega)
theorem BoxTells : kerbsuitelaw4_BoxTells.Pure := by
  intro l0 l1 a2 a3 a4 a5 _ _ w0 _ _ w1 _ _ h4 h5
  have b4 := bounds_u8 h4
  have b5 := bounds_u16 h5
  have j0 : ∀ t, kerbsuitelaw4_BoxTells.j0 41 l0 l1 a2 a3 a4 a5 t = some true := by
    intro t
    rw [kerbsuitelaw4_BoxTells.j0]
    split
    · rfl
    · rw [long_some b4.1 b4.2]
      simp only [Option.bind_some]
      rw [refMake_some 30]
      simp only [Option.bind_some]
      have hb := byt_mk (wrap64 (1 + (Int.tmod (wrap64 a4) 10))) (LK a4) (byt_of w1)
      obtain ⟨r, hr, br⟩ := spoil_some hb (by have := len_mk (wrap64 (1 + (Int.tmod (wrap64 a4) 10))) (LK a4) l1; omega) b5.1 b5.2
      rw [hr]
      simp only [Option.bind_some]
      refine tells_loop a2 a3 a4 _ ?_ (by simp) b4.1 b4.2 3 _ 0 (by omega) (by simp) (by simp) (by omega)
      intro l hl
      simp only [List.mem_cons, List.not_mem_nil, or_false] at hl
      rcases hl with rfl | rfl | rfl
      · exact byt_of w0
      · exact hb
      · exact br
  refine ⟨41, ?_⟩
  unfold kerbsuitelaw4_BoxTells.f
  rw [awake_some 31]
  simp only [Option.bind_some]
  rw [if_pos trivial, j0, j0]
  split <;> rfl
end Go.Proofs.Ytchbnlcalcmdlaa.Pure
