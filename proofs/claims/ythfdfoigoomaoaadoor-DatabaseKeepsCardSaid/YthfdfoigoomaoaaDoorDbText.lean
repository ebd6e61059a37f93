/- Which texts are valid names, instances and realms: closed forms of package principal's look and of its reference's, for every text. -/
import Derived.OpenShut
import Derived.Lib.IndexAny
import Derived.Test.YthfdfoigoomaoaaDoorDbBase
import Derived.Test.YthfdfoigoomaoaaDoorPDbx2
import Derived.Test.YthfdfoigoomaoaaDoorPDbx3
namespace Go.Proofs.YthfdfoigoomaoaaDoor.Core
open Go Go.RowKit Go.Proofs.YthfdfoigoomaoaaDoor.PDb Go.Proofs.YthfdfoigoomaoaaDoorW.PrintWords Go.Proofs.YthfdfoigoomaoaaDoorW.PrintLast Go.Proofs.YthfdfoigoomaoaaDoorW.PrintMore
set_option linter.unusedVariables false

/-- A string's bytes. -/
abbrev bs (s : ByteArray) : List UInt8 := s.data.toList
theorem bs_len (s : ByteArray) : (bs s).length = s.size := Array.length_toList
theorem toL (s : ByteArray) : s.toList = bs s := Lib.toList_data s
theorem bs_inj {a b : ByteArray} (h : bs a = bs b) : a = b := Go.WideShapes.bytes_inj h
theorem bt_at {s : ByteArray} {j : Nat} (h : j < s.size) : bt s (j : Int) = (((bs s)[j]'(by rw [bs_len]; exact h)).toNat : Int) := by
  unfold bt
  rw [dif_pos (by simpa using h)]
  simp [bs]
  rfl
theorem drop_at {s : ByteArray} {j : Nat} (h : j < s.size) : (bs s).drop j = (bs s)[j]'(by rw [bs_len]; exact h) :: (bs s).drop (j + 1) := List.drop_eq_getElem_cons _
/-- May a byte stand in a text from which the bytes of bad are shut out? -/
def okc (bad : List UInt8) (c : UInt8) : Bool := decide (33 ≤ c.toNat) && decide (c.toNat ≤ 126) && !bad.contains c
def chk (bad l : List UInt8) : Bool := l.all (okc bad) && decide (l.length ≤ 39)
theorem ix_ge (bad : List UInt8) (c : UInt8) : (Lib.indexByte bad c ≥ 0) ↔ bad.contains c = true := by
  rw [Lib.contains_iff_indexByte]
  simp
theorem toNat_u8 (c : UInt8) : ((c.toNat : Int)).toNat.toUInt8 = c := by
  rw [Int.toNat_natCast]
  simp
theorem pr_loop (s b : ByteArray) (hs : s.size ≤ 9223372036854775807) (d : Nat) : ∀ (k j : Nat), j ≤ s.size → s.size - j = d → d < k → principal_printable.l0 k s b (s.size : Int) (j : Int) = some (((bs s).drop j).all (okc (bs b)) && decide ((bs s).length ≤ 39)) := by
  induction d with
  | zero =>
    intro k j hj hd hk
    obtain ⟨k, rfl⟩ : ∃ m, k = m + 1 := ⟨k - 1, by omega⟩
    rw [principal_printable.l0, if_neg (by omega), List.drop_eq_nil_of_le (by rw [bs_len]; omega), bs_len]
    simp
    omega
  | succ d ih =>
    intro k j hj hd hk
    obtain ⟨k, rfl⟩ : ∃ m, k = m + 1 := ⟨k - 1, by omega⟩
    have hlt : j < s.size := by omega
    rw [principal_printable.l0, if_pos (by omega), if_pos (by omega), if_pos (by omega), bt_at hlt, drop_at hlt, List.all_cons]
    generalize (bs s)[j]'(by rw [bs_len]; exact hlt) = c
    have hih := ih k (j + 1) (by omega) (by omega) (by omega)
    by_cases c1 : (c.toNat : Int) < 33
    · rw [if_pos c1]
      have : okc (bs b) c = false := by simp [okc]; omega
      rw [this]; rfl
    · rw [if_neg c1]
      by_cases c2 : (c.toNat : Int) > 126
      · rw [if_pos c2]
        have : okc (bs b) c = false := by simp [okc]; omega
        rw [this]; rfl
      · rw [if_neg c2]
        unfold strings_IndexByte.f
        rw [toNat_u8, Option.bind_some]
        by_cases c3 : Lib.indexByte b.data.toList c ≥ 0
        · rw [if_pos c3]
          have : okc (bs b) c = false := by simp only [okc, (ix_ge _ _).1 c3]; simp
          rw [this]; rfl
        · rw [if_neg c3, w64 (by omega) (by omega)]
          have c4 : (bs b).contains c = false := by
            cases h : (bs b).contains c
            · rfl
            · exact absurd ((ix_ge _ _).2 h) c3
          have : okc (bs b) c = true := by simp only [okc, c4]; simp; omega
          rw [this, Bool.true_and]
          exact_mod_cast hih
theorem pr_evt {s : ByteArray} (b : ByteArray) (hs : s.size ≤ 9223372036854775807) : Evt (fun k => principal_printable.f k s b) (chk (bs b) (bs s)) := by
  refine ⟨s.size + 1, fun m hm => ?_⟩
  have := pr_loop s b hs s.size m 0 (by omega) (by omega) (by omega)
  unfold principal_printable.f chk
  simpa using this
def vName (s : ByteArray) : Bool := decide (0 < s.size) && chk [46, 64] (bs s)
def vInst (s : ByteArray) : Bool := chk [64] (bs s)
def vRealm (s : ByteArray) : Bool := decide (0 < s.size) && chk [64] (bs s)
theorem nil_iff (s : ByteArray) : s.toList = ([] : List UInt8) ↔ s.size = 0 := by
  rw [toL, ← bs_len]
  exact List.length_eq_zero_iff.symm
section
variable {s : ByteArray} (hs : s.size ≤ 9223372036854775807)
include hs
theorem name_evt : Evt (fun k => principal_ValidName.f k s) (vName s) := by
  by_cases h : s.toList = ([] : List UInt8)
  · exact Evt.of fun m => by unfold principal_ValidName.f vName; rw [if_pos h, (show decide (0 < s.size) = false from decide_eq_false (by have := (nil_iff s).1 h; omega))]; rfl
  · refine Evt.congr (fun k => by unfold principal_ValidName.f; rw [if_neg h]) (Evt.bind (pr_evt _ hs) (Evt.of fun m => ?_))
    unfold vName
    rw [(show decide (0 < s.size) = true from decide_eq_true (by have := mt (nil_iff s).2 h; omega))]; rfl
theorem inst_evt : Evt (fun k => principal_ValidInstance.f k s) (vInst s) := Evt.bind (pr_evt _ hs) (Evt.of fun m => rfl)
theorem realm_evt : Evt (fun k => principal_ValidRealm.f k s) (vRealm s) := by
  by_cases h : s.toList = ([] : List UInt8)
  · exact Evt.of fun m => by unfold principal_ValidRealm.f vRealm; rw [if_pos h, (show decide (0 < s.size) = false from decide_eq_false (by have := (nil_iff s).1 h; omega))]; rfl
  · refine Evt.congr (fun k => by unfold principal_ValidRealm.f; rw [if_neg h]) (Evt.bind (pr_evt _ hs) (Evt.of fun m => ?_))
    unfold vRealm
    rw [(show decide (0 < s.size) = true from decide_eq_true (by have := mt (nil_iff s).2 h; omega))]; rfl
end
end Go.Proofs.YthfdfoigoomaoaaDoor.Core
