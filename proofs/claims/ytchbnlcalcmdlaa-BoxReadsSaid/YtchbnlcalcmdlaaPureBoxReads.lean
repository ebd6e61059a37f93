/- Which box any bytes begin with, by the program and by the reference: the plain part of BoxReads. -/
import Derived.Test.YtchbnlcalcmdlaaBoxMore
import Derived.Test.YtchbnlcalcmdlaaPBoxx6
namespace Go.Proofs.Ytchbnlcalcmdlaa.Pure
open Go Go.RowKit Go.Proofs.Ytchbnlcalcmdlaa.PBox Go.Proofs.Ytchbnlcalcmdlaa.Core Go.Proofs.YtchbnlcalcmdlaaW.PrintWords Go.Proofs.YtchbnlcalcmdlaaW.PrintLast Go.Proofs.YtchbnlcalcmdlaaW.PrintMore
set_option linter.unusedVariables false

theorem reads_loop (L : List (List Int)) (hL : ∀ l ∈ L, Byt l) (hn : L.length ≤ 4) (d : Nat) : ∀ (k : Nat) (i : Int), 0 ≤ i → i ≤ L.length → ((L.length : Int) - i).toNat = d → 2 * d + 14 ≤ k → kerbsuitelaw4_BoxReads.l0 k L i = some true := by
  induction d with
  | zero =>
    intro k i hi0 hi1 hd hk
    obtain ⟨k, rfl⟩ : ∃ m, k = m + 1 := ⟨k - 1, by omega⟩
    rw [kerbsuitelaw4_BoxReads.l0]
    rw [if_neg (by omega)]
  | succ d ih =>
    intro k i hi0 hi1 hd hk
    obtain ⟨k, rfl⟩ : ∃ m, k = ((m + 10) + 1) + 1 := ⟨k - 12, by omega⟩
    have hlt : i.toNat < L.length := by omega
    have hB : Byt (rd_L1 L i) := by
      unfold rd_L1
      rw [List.getD_eq_getElem?_getD, List.getElem?_eq_getElem hlt]
      exact hL _ (List.getElem_mem hlt)
    rw [kerbsuitelaw4_BoxReads.l0]
    rw [if_pos (show i < (L.length : Int) by omega), if_pos hi0, boxRead_some (k + 1) hB, refRead_some (k + 1) hB]
    simp only [Option.bind_some]
    rw [if_pos trivial, if_pos trivial, if_pos trivial, if_pos trivial, if_pos trivial, boxIs_some (k + 1) hB, refIs_some (k + 1) hB]
    simp only [Option.bind_some]
    rw [bne_self_eq_false]
    rw [kerbsuitelaw4_BoxReads.j2]
    rw [if_neg (by decide), w64 (by omega) (by omega)]
    exact ih _ _ (by omega) (by omega) (by omega) (by omega)
theorem session_some (n : Int) : ∃ t, kerbsuitedata_Session.f n = some t := ⟨_, rfl⟩
theorem reads_j0 {l0 l1 l2 : List Int} {a3 a4 a5 : Int} (w0 : Byt l0) (w1 : Byt l1) (w2 : Byt l2) (b5 : 0 ≤ a5 ∧ a5 ≤ 65535) (t : Bool) (ht : (l2.length : Int) > 100 → t = true) : kerbsuitelaw4_BoxReads.j0 41 l0 l1 l2 a3 a4 a5 t = some true := by
    rw [kerbsuitelaw4_BoxReads.j0]
    by_cases h : t = true
    · rw [if_pos h]
    · rw [if_neg h]
      have h2 : ¬ (l2.length : Int) > 100 := fun z => h (ht z)
      obtain ⟨s, hs⟩ := session_some (wrap64 a4)
      rw [hs]
      simp only [Option.bind_some]
      rw [refMake_some 30]
      simp only [Option.bind_some]
      have hb := byt_mk (wrap64 (1 + (Int.tmod (wrap64 a3) 10))) s w1
      have hl := len_mk (wrap64 (1 + (Int.tmod (wrap64 a3) 10))) s l1
      generalize (mkBox (wrap64 (1 + (Int.tmod (wrap64 a3) 10))) s l1).1 = B at hb hl ⊢
      obtain ⟨r, hr, br⟩ := spoil_some hb (by omega) b5.1 b5.2
      rw [if_pos (show ([] : List Int).length + B.length < 140737488355328 by rw [List.length_nil]; omega), if_pos (show (([] : List Int) ++ B).length + l2.length < 140737488355328 by rw [List.nil_append]; omega), hr, Option.bind_some]
      rw [w64 (n := (B.length : Int) + 1) (by omega) (by omega), w64 (n := a5) (by omega) (by omega), Int.tmod_eq_emod_of_nonneg b5.1, if_neg (by omega)]
      have r0 := Int.emod_nonneg a5 (show ((B.length : Int) + 1) ≠ 0 by omega)
      have r1 := Int.emod_lt_of_pos a5 (show 0 < ((B.length : Int) + 1) by omega)
      rw [if_pos r0, if_pos (by omega)]
      refine reads_loop _ ?_ (by simp) 4 _ 0 (by omega) (by simp) (by simp) (by omega)
      intro l hl
      simp only [List.mem_cons, List.not_mem_nil, or_false] at hl
      rcases hl with rfl | rfl | rfl | rfl
      · exact w0
      · exact byt_app (byt_app byt_nil hb) w2
      · exact br
      · exact byt_take hb _
theorem BoxReads : kerbsuitelaw4_BoxReads.Pure := by
  intro l0 l1 l2 a3 a4 a5 _ _ w0 _ _ w1 _ m2 w2 _ _ h5
  have b5 := bounds_u16 h5
  have j0 := reads_j0 (a3 := a3) (a4 := a4) (byt_of w0) (byt_of w1) (byt_of w2) b5
  refine ⟨41, ?_⟩
  unfold kerbsuitelaw4_BoxReads.f
  rw [awake_some 31]
  simp only [Option.bind_some]
  rw [if_pos trivial, j0 true (fun _ => rfl), j0 (decide ((l2.length : Int) > 100)) (fun h => decide_eq_true h)]
  split
  · rfl
  · split <;> rfl
end Go.Proofs.Ytchbnlcalcmdlaa.Pure
