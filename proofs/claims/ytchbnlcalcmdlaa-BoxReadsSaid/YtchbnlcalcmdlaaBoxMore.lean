/- More of what the functions of package box answer: opening, spoiling, and that a box is read as it was made. -/
import Derived.Lib.Strings
import Derived.Test.YtchbnlcalcmdlaaCore
import Derived.Test.YtchbnlcalcmdlaaPBoxx1
import Derived.Test.YtchbnlcalcmdlaaPBoxx3
import Derived.Test.YtchbnlcalcmdlaaPBoxx5
import Derived.Test.YtchbnlcalcmdlaaPBoxx8
namespace Go.Proofs.Ytchbnlcalcmdlaa.Core
open Go Go.RowKit Go.Proofs.Ytchbnlcalcmdlaa.PBox Go.Proofs.YtchbnlcalcmdlaaW.PrintWords Go.Proofs.YtchbnlcalcmdlaaW.PrintLast Go.Proofs.YtchbnlcalcmdlaaW.PrintMore
set_option linter.unusedVariables false

def opBox (l : List Int) (a b : Int) : List Int × Bool :=
  if (rdBox l).2.2.2.2 = 0 then (if (rdBox l).2.2.2.1 = (l.length : Int) then (if (rdBox l).1 = a then (if (rdBox l).2.1 = b then ((rdBox l).2.2.1, true) else ([], false)) else ([], false)) else ([], false)) else ([], false)
theorem boxOpen_some (m : Nat) {l : List Int} (hb : Byt l) (a b : Int) : box_Open.f (m + 10) l a b = some (opBox l a b) := by
  unfold box_Open.f opBox
  rw [boxRead_some m hb]
  simp only [Option.bind_some]
  repeat' (split; skip)
  all_goals rfl
theorem refOpen_some (m : Nat) {l : List Int} (hb : Byt l) (a b : Int) : kerbsuiteref4_Open.f (m + 10) l a b = some (opBox l a b) := by
  unfold kerbsuiteref4_Open.f opBox
  rw [refRead_some m hb]
  simp only [Option.bind_some]
  repeat' (split; skip)
  all_goals rfl
theorem refIs_some (m : Nat) {l : List Int} (hb : Byt l) : kerbsuiteref4_Is.f (m + 10) l = some (isBox l) := by
  unfold kerbsuiteref4_Is.f isBox
  rw [refRead_some m hb]
  simp only [Option.bind_some]
  split <;> rfl
theorem byt_app {a b : List Int} (ha : Byt a) (hb : Byt b) : Byt (a ++ b) := fun x hx => (List.mem_append.1 hx).elim (ha x) (hb x)
theorem byt_nil : Byt [] := fun x hx => by cases hx
theorem byt_mk (a b : Int) {l : List Int} (hl : Byt l) : Byt (mkBox a b l).1 := by
  unfold mkBox
  split
  · split
    · split
      · exact byt_nil
      · refine byt_app (byt_app (byt_app ?_ (kb_byt b)) ?_) hl
        · intro x hx; simp only [List.mem_cons, List.not_mem_nil, or_false] at hx; rcases hx with rfl | rfl <;> omega
        · intro x hx; simp only [List.mem_cons, List.not_mem_nil, or_false] at hx; rcases hx with rfl | rfl <;> omega
    · exact byt_nil
  · exact byt_nil
theorem len_mk (a b : Int) (l : List Int) : (mkBox a b l).1.length ≤ 1012 := by
  unfold mkBox
  split
  · split
    · split
      · simp
      · simp [kb_len]; omega
    · simp
  · simp
theorem byt_set {l : List Int} (h : Byt l) (i : Nat) {v : Int} (hv : 0 ≤ v ∧ v < 256) : Byt (l.set i v) := fun x hx => by
  rcases List.mem_or_eq_of_mem_set hx with h1 | h1
  · exact h x h1
  · rw [h1]; exact hv
theorem byt_erase {l : List Int} (h : Byt l) (i : Nat) : Byt (l.eraseIdx i) := fun x hx => h x (List.mem_of_mem_eraseIdx hx)
theorem byt_take {l : List Int} (h : Byt l) (i : Nat) : Byt (l.take i) := fun x hx => h x (List.mem_of_mem_take hx)
theorem spoil_some {l : List Int} (h : Byt l) (hl : l.length ≤ 100000) {a : Int} (h0 : 0 ≤ a) (h1 : a ≤ 65535) : ∃ r, kerbsuitedata_Spoil.f l a = some r ∧ Byt r := by
  unfold kerbsuitedata_Spoil.f
  simp only [Option.bind_some, List.nil_append, List.length_nil]
  rw [if_pos (by omega)]
  by_cases hz : (l.length : Int) = 0
  · rw [if_pos hz]; exact ⟨_, rfl, h⟩
  rw [if_neg hz]
  have hu : IntKind.u16.wrap (Int.tdiv a 8) = Int.tdiv a 8 := by
    have h2 : Int.tdiv a 8 = a / 8 := Int.tdiv_eq_ediv_of_nonneg h0
    rw [h2]; exact IntWalk.u16_in _ ⟨by omega, by omega⟩
  have hd : Int.tdiv a 8 = a / 8 := Int.tdiv_eq_ediv_of_nonneg h0
  have hq : wrap64 (IntKind.u16.wrap (Int.tdiv a 8)) = a / 8 := by rw [hu, hd]; exact w64 (by omega) (by omega)
  rw [hq]
  have hm : Int.tmod (a / 8) (l.length : Int) = (a / 8) % (l.length : Int) := Int.tmod_eq_emod_of_nonneg (by omega)
  rw [hm]
  have hp : (0 : Int) < l.length := by omega
  have r0 := Int.emod_nonneg (a / 8) (show (l.length : Int) ≠ 0 from hz)
  have r1 := Int.emod_lt_of_pos (a / 8) hp
  generalize (a / 8) % (l.length : Int) = i at r0 r1 ⊢
  have hw : 0 ≤ IntKind.u64.wrap (Int.tmod a 7) := by rw [Int.tmod_eq_emod_of_nonneg h0, u64w (by omega) (by omega)]; omega
  split
  · first | rw [if_pos r0, if_pos r1, if_pos hw] | skip
    exact ⟨_, rfl, byt_set h _ (by have := bounds_u8 (wf_bits .xor .u8 (rd l i) (shl .u8 1 (IntKind.u64.wrap (Int.tmod a 7)))); omega)⟩
  · split
    · rw [w64 (by omega) (by omega)]
      first | rw [if_pos (show i ≤ (l.length : Int) by omega), if_pos (show 0 ≤ i + 1 by omega), if_pos (show i + 1 ≤ (l.length : Int) by omega)] | rw [if_pos r0, if_pos (show i ≤ (l.length : Int) by omega), if_pos (show 0 ≤ i + 1 by omega), if_pos (show i + 1 ≤ (l.length : Int) by omega)]
      exact ⟨_, rfl, byt_erase h _⟩
    · split
      · rw [if_pos (by omega)]
        exact ⟨_, rfl, byt_app h (by intro x hx; simp only [List.mem_cons, List.not_mem_nil, or_false] at hx; rw [hx]; omega)⟩
      · exact ⟨_, rfl, h⟩
/-- The n-th long-term key of the drawn ones. -/
def LK (n : Int) : Int := 72057594037927937 + n
theorem long_some {n : Int} (h0 : 0 ≤ n) (h1 : n ≤ 255) : kerbsuitedata_Long.f (wrap64 n) = some (LK n) := by
  unfold kerbsuitedata_Long.f LK
  rw [w64 (n := n) (by omega) (by omega), w64 (by omega) (by omega), u64w (by omega) (by omega)]
  rw [bits_join .u64 64 (by decide) (fun n h0 h1 => u64w h0 (by simpa using h1)) 56 72057594037927936 (1 + n) (by decide) (by decide) (by decide) (by omega) (by omega) (by omega)]
  congr 1
  omega
theorem LK_all : ∀ n : Fin 256, okKey (LK n.val) = true ∧ rdKey (kb (LK n.val)) = (LK n.val, true) := by decide +kernel
theorem LK_ok {n : Int} (h0 : 0 ≤ n) (h1 : n ≤ 255) : okKey (LK n) = true ∧ rdKey (kb (LK n)) = (LK n, true) := by
  have := LK_all ⟨n.toNat, by omega⟩
  simp only at this
  rwa [Int.toNat_of_nonneg h0] at this
theorem LK_inj {a b : Int} : LK a = LK b ↔ a = b := by unfold LK; omega
theorem mk_ok {a n : Int} {l : List Int} (ha : 1 ≤ a ∧ a ≤ 10) (hn : 0 ≤ n ∧ n ≤ 255) (hl : l.length ≤ 1000) : mkBox a (LK n) l = ((([66, a % 256] ++ kb (LK n)) ++ [((l.length : Int) / 256) % 256, (l.length : Int) % 256]) ++ l, 0) := by
  rw [mkBox_in ha.1 ha.2, if_pos (LK_ok hn.1 hn.2).1, if_neg (by omega)]
/-- A box, with whatever stands behind it, is read as it was made. -/
theorem rd_mk {a n : Int} {l : List Int} (rest : List Int) (ha : 1 ≤ a ∧ a ≤ 10) (hn : 0 ≤ n ∧ n ≤ 255) (hl : l.length ≤ 1000) :
    rdBox ((mkBox a (LK n) l).1 ++ rest) = (a, LK n, l, 12 + (l.length : Int), 0) := by
  rw [mk_ok ha hn hl]
  obtain ⟨b0, b1, b2, b3, b4, b5, b6, b7, hk⟩ := len8 (kb_len (LK n))
  have hr := (LK_ok hn.1 hn.2).2
  rw [hk] at hr ⊢
  generalize hL : ((([66, a % 256] ++ [b0, b1, b2, b3, b4, b5, b6, b7]) ++ [((l.length : Int) / 256) % 256, (l.length : Int) % 256]) ++ l) ++ rest = L
  have e0 : rd L 0 = 66 := by rw [← hL]; rfl
  have e1 : rd L 1 = a := by rw [← hL]; show a % 256 = a; omega
  have e2 : (L.take 10).drop 2 = [b0, b1, b2, b3, b4, b5, b6, b7] := by rw [← hL]; rfl
  have e3 : rd L 10 * 256 + rd L 11 = l.length := by rw [← hL]; show ((l.length : Int) / 256) % 256 * 256 + (l.length : Int) % 256 = l.length; omega
  have e4 : L.length = 12 + l.length + rest.length := by rw [← hL]; simp; omega
  have e5 : (L.take (12 + (l.length : Int)).toNat).drop 12 = l := by
    rw [show (12 + (l.length : Int)).toNat = l.length + 12 from by omega, ← hL]
    simp
  rw [rdBox_ok (by omega) ⟨e0, by omega, by omega, by rw [e2, hr], by omega⟩, e3, if_neg (by omega), e1, e2, e5, hr]
theorem strOf_inj {a b : List Int} (ha : Byt a) (hb : Byt b) : (strOfNums a).toList = (strOfNums b).toList ↔ a = b := by
  constructor
  · intro h
    rw [Lib.toList_data, Lib.toList_data, strOfNums_data, strOfNums_data] at h
    induction a generalizing b with
    | nil => cases b with
      | nil => rfl
      | cons y b => simp at h
    | cons x a ih => cases b with
      | nil => simp at h
      | cons y b =>
        simp only [List.map_cons, List.cons.injEq] at h
        have hx := ha x (by simp)
        have hy := hb y (by simp)
        have e : x = y := by
          have := congrArg UInt8.toNat h.1
          simp only [UInt8.toNat_ofNat'] at this
          omega
        rw [e, ih (fun z hz => ha z (by simp [hz])) (fun z hz => hb z (by simp [hz])) h.2]
  · rintro rfl; rfl
end Go.Proofs.Ytchbnlcalcmdlaa.Core
