/- What the functions of package box, and of the reference, answer: closed forms, for lists of bytes of modest length. -/
import Derived.Laws.BitsLemmas
import Derived.OpenShut
import Derived.Test.YtchbnlcalcmdlaaPBoxx1
import Derived.Test.YtchbnlcalcmdlaaPBoxx2
import Derived.Test.YtchbnlcalcmdlaaPBoxx3
import Derived.Test.YtchbnlcalcmdlaaPBoxx4
import Derived.Test.YtchbnlcalcmdlaaPBoxx5
namespace Go.Proofs.Ytchbnlcalcmdlaa.Core
open Go Go.RowKit Go.Proofs.Ytchbnlcalcmdlaa.PBox Go.Proofs.YtchbnlcalcmdlaaW.PrintWords Go.Proofs.YtchbnlcalcmdlaaW.PrintLast Go.Proofs.YtchbnlcalcmdlaaW.PrintMore
set_option linter.unusedVariables false

/-- A list of bytes. -/
def Byt (l : List Int) : Prop := ∀ x ∈ l, 0 ≤ x ∧ x < 256
theorem byt_of {l : List Int} (h : ∀ x ∈ l, (Lit.int .u8 x).wf = true) : Byt l := fun x hx => by have := bounds_u8 (h x hx); omega
theorem rd_byt {l : List Int} (h : Byt l) (i : Int) : 0 ≤ rd l i ∧ rd l i < 256 := by
  unfold rd
  rw [List.getD_eq_getElem?_getD]
  rcases Nat.lt_or_ge i.toNat l.length with hi | hi
  · rw [List.getElem?_eq_getElem hi]
    exact h _ (List.getElem_mem hi)
  · rw [List.getElem?_eq_none hi]
    simp
theorem w64 {n : Int} (h0 : -9223372036854775808 ≤ n) (h1 : n ≤ 9223372036854775807) : wrap64 n = n := by unfold wrap64; omega
theorem u64w {n : Int} (h0 : 0 ≤ n) (h1 : n < 18446744073709551616) : IntKind.u64.wrap n = n := IntWalk.u64_in n ⟨h0, by omega⟩
/-- A number of two bytes. -/
theorem or_two {a b : Int} (ha : 0 ≤ a ∧ a < 256) (hb : 0 ≤ b ∧ b < 256) : Go.bits .or .i64 (wrap64 ((wrap64 a) * 256)) (wrap64 b) = a * 256 + b := by
  rw [w64 (n := a) (by omega) (by omega), w64 (n := a * 256) (by omega) (by omega), w64 (n := b) (by omega) (by omega)]
  exact bits_join .i64 63 (by decide) (fun n h0 h1 => IntWalk.i64_in n ⟨by omega, by omega⟩) 8 (a * 256) b (by omega) (by omega) (by omega) (by omega) (by omega) (by omega)

/-! keys -/
theorem ref3Make_eq (a b : Int) : kerbsuiteref3_Make.f a b = key_Make.f a b := rfl
theorem keyMake_some (a b : Int) : ∃ t, key_Make.f a b = some t ∧ (t ≠ 0 → a = 1 ∨ a = 2) := by
  unfold key_Make.f
  by_cases h1 : a = 1
  · rw [if_pos h1]; split
    · exact ⟨_, rfl, fun _ => .inl h1⟩
    · split <;> exact ⟨_, rfl, fun _ => .inl h1⟩
  · rw [if_neg h1]
    by_cases h2 : a = 2
    · rw [if_pos h2]; split
      · exact ⟨_, rfl, fun _ => .inr h2⟩
      · split <;> exact ⟨_, rfl, fun _ => .inr h2⟩
    · rw [if_neg h2]; exact ⟨_, rfl, fun h => absurd rfl h⟩
/-- Is a number a key? -/
def okKey (a : Int) : Bool := (kerbsuiteref3_Valid.f a).getD false
theorem ref3Valid_some (a : Int) : kerbsuiteref3_Valid.f a = some (okKey a) := by
  unfold okKey kerbsuiteref3_Valid.f
  split
  · rfl
  · rw [ref3Make_eq]
    obtain ⟨t, ht, _⟩ := keyMake_some (wrap64 (a / 72057594037927936)) (wrap64 (Go.bits .and .u64 a 72057594037927935))
    rw [ht]; rfl
theorem valid_some (a : Int) : key_Valid.f a = some (okKey a) := by
  rw [← ref3Valid_some]
  unfold key_Valid.f key_Class.f key_split.f kerbsuiteref3_Valid.f
  rw [ref3Make_eq]
  by_cases h : a = 0
  · rw [if_pos h, if_pos h]; rfl
  · rw [if_neg h, if_neg h]
    obtain ⟨t, ht, hc⟩ := keyMake_some (wrap64 (a / 72057594037927936)) (wrap64 (Go.bits .and .u64 a 72057594037927935))
    rw [ht]
    simp only [Option.bind_some]
    by_cases e : t = a
    · rw [if_pos e]
      have := hc (by rw [e]; exact h)
      have h2 : wrap64 (a / 72057594037927936) ≠ 0 := by rcases this with h3 | h3 <;> rw [h3] <;> decide
      simp [e, h2]
    · rw [if_neg e]
      simp [e]
/-- A key's eight bytes. -/
def kb (a : Int) : List Int := [shr .u64 a 56 % 256, shr .u64 a 48 % 256, shr .u64 a 40 % 256, shr .u64 a 32 % 256, shr .u64 a 24 % 256, shr .u64 a 16 % 256, shr .u64 a 8 % 256, shr .u64 a 0 % 256]
theorem kb_len (a : Int) : (kb a).length = 8 := rfl
theorem kb_byt (a : Int) : Byt (kb a) := by
  intro x hx
  simp only [kb, List.mem_cons, List.not_mem_nil, or_false] at hx
  rcases hx with rfl | rfl | rfl | rfl | rfl | rfl | rfl | rfl <;> omega
theorem keyBytes_some (m : Nat) (a : Int) : key_Bytes.f (m + 9) a = some (kb a) := by
  simp [key_Bytes.f, key_Bytes.l0, wrap64, kb, List.replicate]
theorem ref3Bytes_some (m : Nat) (a : Int) : kerbsuiteref3_Bytes.f (m + 9) a = some (kb a) := by
  simp [kerbsuiteref3_Bytes.f, kerbsuiteref3_Bytes.l0, wrap64, kb, IntWalk.u64_in]
/-- The number of eight bytes. -/
def num8 : Int → List Int → Int
  | x, [] => x
  | x, b :: l => num8 (Go.bits .or .u64 (IntKind.u64.wrap (x * 256)) (IntKind.u64.wrap b)) l
def rdKey (l : List Int) : Int × Bool := if okKey (num8 0 l) = true then (num8 0 l, true) else (0, false)
theorem len8 {l : List Int} (h : l.length = 8) : ∃ a b c d e f g i, l = [a, b, c, d, e, f, g, i] := by
  match l, h with
  | [a, b, c, d, e, f, g, i], _ => exact ⟨a, b, c, d, e, f, g, i, rfl⟩
theorem keyRead_some (m : Nat) {l : List Int} (h : l.length = 8) : key_Read.f (m + 9) l = some (rdKey l) := by
  obtain ⟨a, b, c, d, e, f, g, i, rfl⟩ := len8 h
  have : key_Read.f (m + 9) [a, b, c, d, e, f, g, i] = (key_Valid.f (num8 0 [a, b, c, d, e, f, g, i])).bind fun t => if t = true then some (num8 0 [a, b, c, d, e, f, g, i], true) else some (0, false) := by
    simp [key_Read.f, key_Read.l0, num8, wrap64, rd]
  rw [this, valid_some]
  simp only [Option.bind_some, rdKey]
  split <;> rfl
theorem ref3Read_some (m : Nat) {l : List Int} (h : l.length = 8) : kerbsuiteref3_Read.f (m + 9) l = some (rdKey l) := by
  obtain ⟨a, b, c, d, e, f, g, i, rfl⟩ := len8 h
  have : kerbsuiteref3_Read.f (m + 9) [a, b, c, d, e, f, g, i] = (kerbsuiteref3_Valid.f (num8 0 [a, b, c, d, e, f, g, i])).bind fun t => if t = true then some (num8 0 [a, b, c, d, e, f, g, i], true) else some (0, false) := by
    simp [kerbsuiteref3_Read.f, kerbsuiteref3_Read.l0, num8, wrap64, rd]
  rw [this, ref3Valid_some]
  simp only [Option.bind_some, rdKey]
  split <;> rfl

/-! boxes -/
def mkBox (kind key : Int) (l : List Int) : List Int × Int :=
  if 1 ≤ kind ∧ kind ≤ 10 then
    if okKey key = true then
      if (l.length : Int) > 1000 then ([], 105)
      else ((([66, kind % 256] ++ kb key) ++ [((l.length : Int) / 256) % 256, (l.length : Int) % 256]) ++ l, 0)
    else ([], 10)
  else ([], 104)
theorem mkBox_in {a b : Int} {l : List Int} (h1 : 1 ≤ a) (h2 : a ≤ 10) : mkBox a b l = if okKey b = true then if (l.length : Int) > 1000 then ([], 105) else ((([66, a % 256] ++ kb b) ++ [((l.length : Int) / 256) % 256, (l.length : Int) % 256]) ++ l, 0) else ([], 10) := by
  unfold mkBox
  rw [if_pos ⟨h1, h2⟩]
theorem mkBox_out {a b : Int} {l : List Int} (h : ¬ (1 ≤ a ∧ a ≤ 10)) : mkBox a b l = ([], 104) := by
  unfold mkBox
  rw [if_neg h]
theorem boxMake_some (m : Nat) (a b : Int) (l : List Int) : box_Make.f (m + 9) a b l = some (mkBox a b l) := by
  unfold box_Make.f box_isKind.f
  by_cases h1 : a ≥ 1
  · rw [if_pos h1]
    simp only [Option.bind_some]
    by_cases h2 : a ≤ 10
    · rw [if_pos (decide_eq_true h2), valid_some, mkBox_in h1 h2]
      simp only [Option.bind_some]
      by_cases h3 : okKey b = true
      · rw [if_pos h3, if_pos h3]
        by_cases h4 : (l.length : Int) > 1000
        · rw [if_pos h4, if_pos h4]
        · rw [if_neg h4, if_neg h4, keyBytes_some]
          simp only [Option.bind_some]
          rw [if_pos (by simp [kb_len]), if_pos (by simp [kb_len]), if_pos (by simp [kb_len]; omega)]
      · rw [if_neg h3, if_neg h3]
    · rw [if_neg (by simpa using h2), mkBox_out (fun h => h2 h.2)]
  · rw [if_neg h1, mkBox_out (fun h => h1 h.1)]
    simp
theorem refMake_some (m : Nat) (a b : Int) (l : List Int) : kerbsuiteref4_Make.f (m + 10) a b l = some (mkBox a b l) := by
  have key : ∀ t : Bool, kerbsuiteref4_Make.j0 (m + 10) a b l t = if t = true then some ([], 104) else some (if okKey b = true then
      if (l.length : Int) > 1000 then ([], 105)
      else ((([66, a % 256] ++ kb b) ++ [((l.length : Int) / 256) % 256, (l.length : Int) % 256]) ++ l, 0)
    else ([], 10)) := by
    intro t
    simp only [kerbsuiteref4_Make.j0]
    by_cases h : t = true
    · rw [if_pos h, if_pos h]
    · rw [if_neg h, if_neg h, ref3Valid_some]
      simp only [Option.bind_some]
      by_cases h3 : okKey b = true
      · rw [if_pos h3, if_pos h3]
        by_cases h4 : (l.length : Int) > 1000
        · rw [if_pos h4, if_pos h4]
        · rw [if_neg h4, if_neg h4, ref3Bytes_some]
          simp only [Option.bind_some]
          rw [if_pos (by simp [kb_len]), if_pos (by simp [kb_len]), if_pos (by simp [kb_len]; omega)]
      · rw [if_neg h3, if_neg h3]
  unfold kerbsuiteref4_Make.f
  rw [key, key]
  by_cases h1 : a < 1
  · rw [if_pos h1, mkBox_out (by omega)]; rfl
  · rw [if_neg h1]
    by_cases h2 : a > 10
    · rw [if_pos (decide_eq_true h2), mkBox_out (by omega)]
    · rw [if_neg (by simpa using h2), mkBox_in (by omega) (by omega)]
/-- What a list of bytes begins with. -/
def rdBox (l : List Int) : Int × Int × List Int × Int × Int :=
  if (l.length : Int) < 12 then (0, 0, [], 0, 101)
  else if rd l 0 = 66 ∧ 1 ≤ rd l 1 ∧ rd l 1 ≤ 10 ∧ (rdKey ((l.take 10).drop 2)).2 = true ∧ rd l 10 * 256 + rd l 11 ≤ 1000 then
    if (l.length : Int) < 12 + (rd l 10 * 256 + rd l 11) then (0, 0, [], 0, 101)
    else (rd l 1, (rdKey ((l.take 10).drop 2)).1, (l.take (12 + (rd l 10 * 256 + rd l 11)).toNat).drop 12, 12 + (rd l 10 * 256 + rd l 11), 0)
  else (0, 0, [], 0, 100)
theorem rdBox_bad {l : List Int} (h : ¬ (l.length : Int) < 12) (hn : ¬ (rd l 0 = 66 ∧ 1 ≤ rd l 1 ∧ rd l 1 ≤ 10 ∧ (rdKey ((l.take 10).drop 2)).2 = true ∧ rd l 10 * 256 + rd l 11 ≤ 1000)) : rdBox l = (0, 0, [], 0, 100) := by
  unfold rdBox
  rw [if_neg h, if_neg hn]
theorem rdBox_ok {l : List Int} (h : ¬ (l.length : Int) < 12) (hn : rd l 0 = 66 ∧ 1 ≤ rd l 1 ∧ rd l 1 ≤ 10 ∧ (rdKey ((l.take 10).drop 2)).2 = true ∧ rd l 10 * 256 + rd l 11 ≤ 1000) :
    rdBox l = if (l.length : Int) < 12 + (rd l 10 * 256 + rd l 11) then (0, 0, [], 0, 101) else (rd l 1, (rdKey ((l.take 10).drop 2)).1, (l.take (12 + (rd l 10 * 256 + rd l 11)).toNat).drop 12, 12 + (rd l 10 * 256 + rd l 11), 0) := by
  unfold rdBox
  rw [if_neg h, if_pos hn]
theorem rdBox_short {l : List Int} (h : (l.length : Int) < 12) : rdBox l = (0, 0, [], 0, 101) := by
  unfold rdBox
  rw [if_pos h]
theorem boxRead_some (m : Nat) {l : List Int} (hb : Byt l) : box_Read.f (m + 10) l = some (rdBox l) := by
  unfold box_Read.f
  by_cases h0 : (l.length : Int) < 12
  · rw [if_pos h0, rdBox_short h0]
  rw [if_neg h0]
  have hl : ((l.take 10).drop 2).length = 8 := by rw [List.length_drop, List.length_take]; omega
  have b0 := rd_byt hb 0
  have b1 := rd_byt hb 1
  have b10 := rd_byt hb 10
  have b11 := rd_byt hb 11
  rw [if_pos (by omega), if_pos (by omega), if_pos (by omega), keyRead_some (m + 1) hl]
  simp only [Option.bind_some]
  rw [if_pos (by omega), if_pos (by omega), if_pos (by omega), or_two b10 b11, w64 (n := rd l 1) (by omega) (by omega)]
  have bad : box_Read.j0 (m + 10) l (rdKey ((l.take 10).drop 2)).1 (rd l 10 * 256 + rd l 11) true (rd l 1) 0 = some (0, 0, [], 0, 100) := by simp only [box_Read.j0]; rw [if_pos trivial]
  by_cases c0 : rd l 0 = 66
  · rw [if_pos c0]
    unfold box_isKind.f
    by_cases c1 : rd l 1 ≥ 1
    · rw [if_pos c1]
      simp only [Option.bind_some]
      by_cases c2 : rd l 1 ≤ 10
      · rw [if_pos (decide_eq_true c2)]
        by_cases c3 : (rdKey ((l.take 10).drop 2)).2 = true
        · rw [if_pos c3]
          by_cases c4 : rd l 10 * 256 + rd l 11 ≤ 1000
          · rw [rdBox_ok h0 ⟨c0, c1, c2, c3, c4⟩]
            simp only [box_Read.j0]
            rw [if_neg (by simp; omega), w64 (n := 12 + _) (by omega) (by omega)]
            by_cases c5 : (l.length : Int) < 12 + (rd l 10 * 256 + rd l 11)
            · rw [if_pos c5, if_pos c5]
            · rw [if_neg c5, if_neg c5, if_pos (by omega), if_pos (by omega)]
              unfold slices_Clone_byte_byte.f
              rw [if_pos (by rw [List.length_drop, List.length_take]; omega)]
              rfl
          · rw [rdBox_bad h0 (fun h => c4 h.2.2.2.2), show decide (rd l 10 * 256 + rd l 11 > 1000) = true from decide_eq_true (by omega)]
            exact bad
        · rw [if_neg c3, rdBox_bad h0 (fun h => c3 h.2.2.2.1)]
          exact bad
      · rw [if_neg (by simpa using c2), rdBox_bad h0 (fun h => c2 h.2.2.1)]
        exact bad
    · rw [if_neg c1, rdBox_bad h0 (fun h => c1 h.2.1)]
      simp only [Option.bind_some]
      rw [if_neg (by simp)]
      exact bad
  · rw [if_neg c0, rdBox_bad h0 (fun h => c0 h.1)]
    exact bad
theorem refRead_some (m : Nat) {l : List Int} (hb : Byt l) : kerbsuiteref4_Read.f (m + 10) l = some (rdBox l) := by
  unfold kerbsuiteref4_Read.f
  by_cases h0 : (l.length : Int) < 12
  · rw [if_pos h0, rdBox_short h0]
  rw [if_neg h0]
  have hl : ((l.take 10).drop 2).length = 8 := by rw [List.length_drop, List.length_take]; omega
  have b0 := rd_byt hb 0
  have b1 := rd_byt hb 1
  have b10 := rd_byt hb 10
  have b11 := rd_byt hb 11
  rw [if_pos (by omega), if_pos (by omega), ref3Read_some (m + 1) hl]
  simp only [Option.bind_some]
  rw [if_pos (by omega), if_pos (by omega), if_pos (by omega), or_two b10 b11, w64 (n := rd l 1) (by omega) (by omega)]
  have bad : kerbsuiteref4_Read.j0 (m + 10) l (rdKey ((l.take 10).drop 2)).1 (rd l 10 * 256 + rd l 11) true = some (0, 0, [], 0, 100) := by simp only [kerbsuiteref4_Read.j0]; rw [if_pos trivial]
  by_cases c0 : rd l 0 = 66
  · rw [if_pos c0, if_pos (by omega)]
    by_cases c1 : rd l 1 < 1
    · rw [if_pos c1, rdBox_bad h0 (fun h => by omega)]
      exact bad
    · rw [if_neg c1]
      by_cases c2 : rd l 1 > 10
      · rw [if_pos c2, rdBox_bad h0 (fun h => by omega)]
        exact bad
      · rw [if_neg c2]
        by_cases c3 : (rdKey ((l.take 10).drop 2)).2 = true
        · rw [if_pos c3]
          by_cases c4 : rd l 10 * 256 + rd l 11 ≤ 1000
          · rw [rdBox_ok h0 ⟨c0, by omega, by omega, c3, c4⟩]
            simp only [kerbsuiteref4_Read.j0]
            rw [if_neg (by simp; omega), w64 (n := 12 + _) (by omega) (by omega), w64 (n := rd l 1) (by omega) (by omega)]
            by_cases c5 : (l.length : Int) < 12 + (rd l 10 * 256 + rd l 11)
            · rw [if_pos c5, if_pos c5]
            · rw [if_neg c5, if_neg c5, if_pos (by omega)]
              simp only [Option.bind_some]
              rw [if_pos (by omega), if_pos (by omega), if_pos (by simp only [List.length_nil, List.length_drop, List.length_take]; omega)]
              rfl
          · rw [rdBox_bad h0 (fun h => c4 h.2.2.2.2), show decide (rd l 10 * 256 + rd l 11 > 1000) = true from decide_eq_true (by omega)]
            exact bad
        · rw [if_neg c3, rdBox_bad h0 (fun h => c3 h.2.2.2.1)]
          exact bad
  · rw [if_neg c0, rdBox_bad h0 (fun h => c0 h.1)]
    exact bad
def isBox (l : List Int) : Bool := if (rdBox l).2.2.2.2 = 0 then (rdBox l).2.2.2.1 == (l.length : Int) else false
theorem boxIs_some (m : Nat) {l : List Int} (hb : Byt l) : box_Is.f (m + 10) l = some (isBox l) := by
  unfold box_Is.f isBox
  rw [boxRead_some m hb]
  simp only [Option.bind_some]
  split <;> rfl
/-! the sanity check -/
theorem awake_some (m : Nat) : kerbsuitelaw4_awake.f (m + 10) = some true := by
  have hL : kerbsuitedata_Long.f 1 = some 72057594037927938 := by decide +kernel
  have hm : mkBox 1 72057594037927938 [] = ([66, 1, 1, 0, 0, 0, 0, 0, 0, 2, 0, 0], 0) := by decide +kernel
  have hi : isBox [66, 1, 1, 0, 0, 0, 0, 0, 0, 2, 0, 0] = true := by decide +kernel
  unfold kerbsuitelaw4_awake.f
  rw [hL]
  simp only [Option.bind_some]
  rw [boxMake_some (m + 1), hm]
  simp only [Option.bind_some]
  rw [if_pos trivial, if_pos (by decide), if_pos (by decide), if_pos (by decide), boxIs_some m (by intro x hx; simp at hx; omega), hi]
  rfl
end Go.Proofs.Ytchbnlcalcmdlaa.Core
