/- A box is opened as it was made, and by no other key and as no other kind: the plain part of BoxOpens. -/
import Derived.Test.YtchbnlcalcmdlaaBoxMore
import Derived.Test.YtchbnlcalcmdlaaPBoxx8
namespace Go.Proofs.Ytchbnlcalcmdlaa.Pure
open Go Go.RowKit Go.Proofs.Ytchbnlcalcmdlaa.PBox Go.Proofs.Ytchbnlcalcmdlaa.Core Go.Proofs.YtchbnlcalcmdlaaW.PrintWords Go.Proofs.YtchbnlcalcmdlaaW.PrintLast Go.Proofs.YtchbnlcalcmdlaaW.PrintMore
set_option linter.unusedVariables false

theorem op_mk {a n x y : Int} {l : List Int} (ha : 1 ≤ a ∧ a ≤ 10) (hn : 0 ≤ n ∧ n ≤ 255) (hl : l.length ≤ 1000) :
    opBox (mkBox a (LK n) l).1 x y = if a = x ∧ LK n = y then (l, true) else ([], false) := by
  have h := rd_mk (a := a) (n := n) (l := l) [] ha hn hl
  rw [List.append_nil] at h
  have hlen : ((mkBox a (LK n) l).1.length : Int) = 12 + l.length := by rw [mk_ok ha hn hl]; simp [kb_len]; omega
  unfold opBox
  rw [h]
  simp only
  rw [if_pos trivial, if_pos hlen.symm]
  by_cases h1 : a = x
  · rw [if_pos h1]
    by_cases h2 : LK n = y
    · rw [if_pos h2, if_pos ⟨h1, h2⟩]
    · rw [if_neg h2, if_neg (fun z => h2 z.2)]
  · rw [if_neg h1, if_neg (fun z => h1 z.1)]
theorem op_more {a n x y c : Int} {l : List Int} (ha : 1 ≤ a ∧ a ≤ 10) (hn : 0 ≤ n ∧ n ≤ 255) (hl : l.length ≤ 1000) :
    opBox ((mkBox a (LK n) l).1 ++ [c]) x y = ([], false) := by
  have h := rd_mk (a := a) (n := n) (l := l) [c] ha hn hl
  have hlen : (((mkBox a (LK n) l).1 ++ [c]).length : Int) = 13 + l.length := by rw [mk_ok ha hn hl]; simp [kb_len]; omega
  unfold opBox
  rw [h]
  simp only
  rw [if_pos trivial, if_neg (by omega)]
theorem kind_in {a : Int} (h0 : 0 ≤ a) (h1 : a ≤ 255) : wrap64 (1 + (Int.tmod (wrap64 a) 10)) = 1 + a % 10 ∧ 1 ≤ 1 + a % 10 ∧ 1 + a % 10 ≤ 10 := by
  rw [w64 (n := a) (by omega) (by omega), Int.tmod_eq_emod_of_nonneg h0, w64 (by omega) (by omega)]
  omega
theorem BoxOpens : kerbsuitelaw4_BoxOpens.Pure := by
  intro l0 a1 a2 a3 a4 _ _ w0 h1 h2 h3 h4
  have b1 := bounds_u8 h1
  have b2 := bounds_u8 h2
  have b3 := bounds_u8 h3
  have b4 := bounds_u8 h4
  refine ⟨20, ?_⟩
  unfold kerbsuitelaw4_BoxOpens.f
  rw [awake_some 10]
  simp only [Option.bind_some]
  rw [if_pos trivial]
  by_cases h : (l0.length : Int) > 1000
  · rw [if_pos h]
  rw [if_neg h, long_some b3.1 b3.2, long_some b4.1 b4.2]
  obtain ⟨e1, k1⟩ := kind_in b1.1 b1.2
  obtain ⟨e2, k2⟩ := kind_in b2.1 b2.2
  rw [e1, e2]
  simp only [Option.bind_some]
  rw [boxMake_some 11]
  simp only [Option.bind_some]
  have hb := byt_mk (1 + a1 % 10) (LK a3) (byt_of w0)
  have hl := len_mk (1 + a1 % 10) (LK a3) l0
  have hc : (mkBox (1 + a1 % 10) (LK a3) l0).2 = 0 := by rw [mk_ok k1 b3 (by omega)]
  have hm : ∀ x y, opBox (mkBox (1 + a1 % 10) (LK a3) l0).1 x y = if 1 + a1 % 10 = x ∧ LK a3 = y then (l0, true) else ([], false) := fun x y => op_mk k1 b3 (by omega)
  have hn : ∀ x y, opBox ((mkBox (1 + a1 % 10) (LK a3) l0).1 ++ [0]) x y = ([], false) := fun x y => op_more k1 b3 (by omega)
  rw [hc]
  generalize (mkBox (1 + a1 % 10) (LK a3) l0).1 = B at hb hl hm hn ⊢
  have hb0 : Byt (B ++ [0]) := byt_app hb (by intro x hx; simp only [List.mem_cons, List.not_mem_nil, or_false] at hx; rw [hx]; omega)
  rw [if_pos (show (0 : Int) = 0 from rfl), boxOpen_some 10 hb, hm]
  simp only [Option.bind_some, List.nil_append, List.length_nil]
  rw [boxOpen_some 10 hb0, hn]
  simp only [Option.bind_some]
  have l1 : 0 + B.length < 140737488355328 := by omega
  have l2 : B.length < 140737488355328 := by omega
  by_cases c1 : 1 + a1 % 10 = 1 + a2 % 10
  · rw [if_pos c1]
    by_cases c2 : LK a3 = LK a4
    · rw [if_pos (show 1 + a1 % 10 = 1 + a2 % 10 ∧ LK a3 = LK a4 from ⟨c1, c2⟩)]
      simp [c2, l2]
    · rw [if_neg (show ¬ (1 + a1 % 10 = 1 + a2 % 10 ∧ LK a3 = LK a4) from fun z => c2 z.2)]
      simp [c2, l2]
  · rw [if_neg c1, if_neg (show ¬ (1 + a1 % 10 = 1 + a2 % 10 ∧ LK a3 = LK a4) from fun z => c1 z.1)]
    simp [l2]
end Go.Proofs.Ytchbnlcalcmdlaa.Pure
