/- Which texts are valid names, instances and realms: closed forms of package principal's look and of its reference's, for every text. -/
import Derived.OpenShut
import Derived.Lib.IndexAny
import Derived.Test.YthfdfoigoomaoaaDoorDbBase
import Derived.Test.YthfdfoigoomaoaaDoorPDbx1
import Derived.Test.YthfdfoigoomaoaaDoorPDbx10
import Derived.Test.YthfdfoigoomaoaaDoorPDbx2
import Derived.Test.YthfdfoigoomaoaaDoorPDbx9
namespace Go.Proofs.YthfdfoigoomaoaaDoor.Core
open Go Go.RowKit Go.Proofs.YthfdfoigoomaoaaDoor.PDb Go.Proofs.YthfdfoigoomaoaaDoorW.PrintWords Go.Proofs.YthfdfoigoomaoaaDoorW.PrintLast Go.Proofs.YthfdfoigoomaoaaDoorW.PrintMore
set_option linter.unusedVariables false

/-- A string's bytes. -/
abbrev bs (s : ByteArray) : List UInt8 := s.data.toList
theorem bs_len (s : ByteArray) : (bs s).length = s.size := Array.length_toList
theorem toL (s : ByteArray) : s.toList = bs s := Lib.toList_data s
theorem bs_inj {a b : ByteArray} (h : bs a = bs b) : a = b := Go.WideShapes.bytes_inj h
theorem bt_at {s : ByteArray} {j : Nat} (h : j < s.size) : bt s (j : Int) = (((bs s)[j]'(by rw [bs_len]; exact h)).toNat : Int) := by
  unfold bt
  rw [dif_pos (by simpa using h)]
  simp [bs]
  rfl
theorem drop_at {s : ByteArray} {j : Nat} (h : j < s.size) : (bs s).drop j = (bs s)[j]'(by rw [bs_len]; exact h) :: (bs s).drop (j + 1) := List.drop_eq_getElem_cons _
/-- May a byte stand in a text from which the bytes of bad are shut out? -/
def okc (bad : List UInt8) (c : UInt8) : Bool := decide (33 ≤ c.toNat) && decide (c.toNat ≤ 126) && !bad.contains c
def chk (bad l : List UInt8) : Bool := l.all (okc bad) && decide (l.length ≤ 39)
theorem ix_ge (bad : List UInt8) (c : UInt8) : (Lib.indexByte bad c ≥ 0) ↔ bad.contains c = true := by
  rw [Lib.contains_iff_indexByte]
  simp
theorem toNat_u8 (c : UInt8) : ((c.toNat : Int)).toNat.toUInt8 = c := by
  rw [Int.toNat_natCast]
  simp
theorem pr_loop (s b : ByteArray) (hs : s.size ≤ 9223372036854775807) (d : Nat) : ∀ (k j : Nat), j ≤ s.size → s.size - j = d → d < k → principal_printable.l0 k s b (s.size : Int) (j : Int) = some (((bs s).drop j).all (okc (bs b)) && decide ((bs s).length ≤ 39)) := by
  induction d with
  | zero =>
    intro k j hj hd hk
    obtain ⟨k, rfl⟩ : ∃ m, k = m + 1 := ⟨k - 1, by omega⟩
    rw [principal_printable.l0, if_neg (by omega), List.drop_eq_nil_of_le (by rw [bs_len]; omega), bs_len]
    simp
    omega
  | succ d ih =>
    intro k j hj hd hk
    obtain ⟨k, rfl⟩ : ∃ m, k = m + 1 := ⟨k - 1, by omega⟩
    have hlt : j < s.size := by omega
    rw [principal_printable.l0, if_pos (by omega), if_pos (by omega), if_pos (by omega), bt_at hlt, drop_at hlt, List.all_cons]
    generalize (bs s)[j]'(by rw [bs_len]; exact hlt) = c
    have hih := ih k (j + 1) (by omega) (by omega) (by omega)
    by_cases c1 : (c.toNat : Int) < 33
    · rw [if_pos c1]
      have : okc (bs b) c = false := by simp [okc]; omega
      rw [this]; rfl
    · rw [if_neg c1]
      by_cases c2 : (c.toNat : Int) > 126
      · rw [if_pos c2]
        have : okc (bs b) c = false := by simp [okc]; omega
        rw [this]; rfl
      · rw [if_neg c2]
        unfold strings_IndexByte.f
        rw [toNat_u8, Option.bind_some]
        by_cases c3 : Lib.indexByte b.data.toList c ≥ 0
        · rw [if_pos c3]
          have : okc (bs b) c = false := by simp only [okc, (ix_ge _ _).1 c3]; simp
          rw [this]; rfl
        · rw [if_neg c3, w64 (by omega) (by omega)]
          have c4 : (bs b).contains c = false := by
            cases h : (bs b).contains c
            · rfl
            · exact absurd ((ix_ge _ _).2 h) c3
          have : okc (bs b) c = true := by simp only [okc, c4]; simp; omega
          rw [this, Bool.true_and]
          exact_mod_cast hih
theorem pr_evt {s : ByteArray} (b : ByteArray) (hs : s.size ≤ 9223372036854775807) : Evt (fun k => principal_printable.f k s b) (chk (bs b) (bs s)) := by
  refine ⟨s.size + 1, fun m hm => ?_⟩
  have := pr_loop s b hs s.size m 0 (by omega) (by omega) (by omega)
  unfold principal_printable.f chk
  simpa using this
/-- The reference's look at one byte: the bytes that are shut out, one after another. -/
theorem rt_inner (s b : ByteArray) (hb : b.size ≤ 2) {j : Nat} (hj : j < s.size) (d : Nat) : ∀ (k q : Nat), q ≤ b.size → b.size - q = d → kerbsuiteref1_text.l1 (k + d + 1) s b (j : Int) (q : Int) = if ((bs b).drop q).contains ((bs s)[j]'(by rw [bs_len]; exact hj)) = true then some false else kerbsuiteref1_text.l0 k s b (wrap64 ((j : Int) + 1)) := by
  induction d with
  | zero =>
    intro k q hq hd
    rw [kerbsuiteref1_text.l1, if_neg (by omega), List.drop_eq_nil_of_le (by rw [bs_len]; omega), if_neg (by simp)]
  | succ d ih =>
    intro k q hq hd
    have hlt : q < b.size := by omega
    rw [show k + (d + 1) + 1 = (k + d + 1) + 1 from by omega, kerbsuiteref1_text.l1, if_pos (by omega), if_pos (by omega), if_pos (by omega), if_pos (by omega), bt_at hj, bt_at hlt, drop_at hlt, w64 (by omega) (by omega)]
    have hih := ih k (q + 1) (by omega) (by omega)
    generalize hx : (bs s)[j]'(by rw [bs_len]; exact hj) = x at hih ⊢
    generalize (bs b)[q]'(by rw [bs_len]; exact hlt) = y
    by_cases e : x = y
    · rw [if_pos (by rw [e]), if_pos (by rw [e]; simp)]
    · have e2 : ¬ (x.toNat : Int) = (y.toNat : Int) := fun h => e (UInt8.toNat_inj.1 (by omega))
      rw [if_neg e2]
      have e3 : ((y :: (bs b).drop (q + 1)).contains x) = ((bs b).drop (q + 1)).contains x := by
        rw [List.contains_cons]
        have : (x == y) = false := by simpa using e
        rw [this, Bool.false_or]
      rw [e3]
      exact_mod_cast hih
theorem rt_loop (s b : ByteArray) (hs : s.size ≤ 9223372036854775807) (hb : b.size ≤ 2) (d : Nat) : ∀ (k j : Nat), j ≤ s.size → s.size - j = d → 5 * d + 1 ≤ k → kerbsuiteref1_text.l0 k s b (j : Int) = some (((bs s).drop j).all (okc (bs b)) && decide ((bs s).length ≤ 39)) := by
  induction d with
  | zero =>
    intro k j hj hd hk
    obtain ⟨k, rfl⟩ : ∃ m, k = m + 1 := ⟨k - 1, by omega⟩
    rw [kerbsuiteref1_text.l0, if_neg (by omega), List.drop_eq_nil_of_le (by rw [bs_len]; omega), bs_len]
    simp
    omega
  | succ d ih =>
    intro k j hj hd hk
    obtain ⟨k, rfl⟩ : ∃ m, k = ((m + b.size + 1) + 1) + 1 := ⟨k - b.size - 3, by omega⟩
    have hlt : j < s.size := by omega
    have hin := rt_inner s b hb hlt b.size k 0 (by omega) (by omega)
    have hih := ih k (j + 1) (by omega) (by omega) (by omega)
    rw [kerbsuiteref1_text.l0, if_pos (by omega), if_pos (by omega), bt_at hlt, drop_at hlt, List.all_cons]
    generalize hx : (bs s)[j]'(by rw [bs_len]; exact hlt) = c at hin ⊢
    have bad : ∀ t, t = true → kerbsuiteref1_text.j1 ((k + b.size + 1) + 1) s b (j : Int) t = some false := fun t ht => by rw [kerbsuiteref1_text.j1, if_pos ht]
    by_cases c1 : (c.toNat : Int) < 33
    · rw [if_pos c1, bad true rfl]
      have : okc (bs b) c = false := by simp [okc]; omega
      rw [this]; rfl
    · rw [if_neg c1]
      by_cases c2 : (c.toNat : Int) > 126
      · rw [bad _ (decide_eq_true c2)]
        have : okc (bs b) c = false := by simp [okc]; omega
        rw [this]; rfl
      · rw [kerbsuiteref1_text.j1, if_neg (by simpa using c2)]
        rw [show (0 : Int) = ((0 : Nat) : Int) from rfl, hin, List.drop_zero]
        by_cases c3 : (bs b).contains c = true
        · rw [if_pos c3]
          have : okc (bs b) c = false := by simp only [okc, c3]; simp
          rw [this]; rfl
        · rw [if_neg c3, w64 (by omega) (by omega)]
          have c4 : (bs b).contains c = false := by simpa using c3
          have : okc (bs b) c = true := by simp only [okc, c4]; simp; omega
          rw [this, Bool.true_and]
          exact_mod_cast hih
theorem rt_evt {s b : ByteArray} (hs : s.size ≤ 9223372036854775807) (hb : b.size ≤ 2) : Evt (fun k => kerbsuiteref1_text.f k s b) (chk (bs b) (bs s)) := by
  refine ⟨5 * s.size + 1, fun m hm => ?_⟩
  have := rt_loop s b hs hb s.size m 0 (by omega) (by omega) (by omega)
  unfold kerbsuiteref1_text.f chk
  simpa using this
def vName (s : ByteArray) : Bool := decide (0 < s.size) && chk [46, 64] (bs s)
def vInst (s : ByteArray) : Bool := chk [64] (bs s)
def vRealm (s : ByteArray) : Bool := decide (0 < s.size) && chk [64] (bs s)
theorem nil_iff (s : ByteArray) : s.toList = ([] : List UInt8) ↔ s.size = 0 := by
  rw [toL, ← bs_len]
  exact List.length_eq_zero_iff.symm
section
variable {s : ByteArray} (hs : s.size ≤ 9223372036854775807)
include hs
theorem name_evt : Evt (fun k => principal_ValidName.f k s) (vName s) := by
  by_cases h : s.toList = ([] : List UInt8)
  · exact Evt.of fun m => by unfold principal_ValidName.f vName; rw [if_pos h, (show decide (0 < s.size) = false from decide_eq_false (by have := (nil_iff s).1 h; omega))]; rfl
  · refine Evt.congr (fun k => by unfold principal_ValidName.f; rw [if_neg h]) (Evt.bind (pr_evt _ hs) (Evt.of fun m => ?_))
    unfold vName
    rw [(show decide (0 < s.size) = true from decide_eq_true (by have := mt (nil_iff s).2 h; omega))]; rfl
theorem inst_evt : Evt (fun k => principal_ValidInstance.f k s) (vInst s) := Evt.bind (pr_evt _ hs) (Evt.of fun m => rfl)
theorem realm_evt : Evt (fun k => principal_ValidRealm.f k s) (vRealm s) := by
  by_cases h : s.toList = ([] : List UInt8)
  · exact Evt.of fun m => by unfold principal_ValidRealm.f vRealm; rw [if_pos h, (show decide (0 < s.size) = false from decide_eq_false (by have := (nil_iff s).1 h; omega))]; rfl
  · refine Evt.congr (fun k => by unfold principal_ValidRealm.f; rw [if_neg h]) (Evt.bind (pr_evt _ hs) (Evt.of fun m => ?_))
    unfold vRealm
    rw [(show decide (0 < s.size) = true from decide_eq_true (by have := mt (nil_iff s).2 h; omega))]; rfl
theorem rname_evt : Evt (fun k => kerbsuiteref1_ValidName.f k s) (vName s) := by
  by_cases h : (s.size : Int) > 0
  · refine Evt.congr (fun k => by unfold kerbsuiteref1_ValidName.f; rw [if_pos h]) (Evt.bind (rt_evt hs (by decide)) (Evt.of fun m => ?_))
    unfold vName
    rw [(show decide (0 < s.size) = true from decide_eq_true (by omega))]; rfl
  · exact Evt.of fun m => by unfold kerbsuiteref1_ValidName.f vName; rw [if_neg h, (show decide (0 < s.size) = false from decide_eq_false (by omega))]; rfl
theorem rinst_evt : Evt (fun k => kerbsuiteref1_ValidInstance.f k s) (vInst s) := Evt.bind (rt_evt hs (by decide)) (Evt.of fun m => rfl)
theorem rrealm_evt : Evt (fun k => kerbsuiteref1_ValidRealm.f k s) (vRealm s) := by
  by_cases h : (s.size : Int) > 0
  · refine Evt.congr (fun k => by unfold kerbsuiteref1_ValidRealm.f; rw [if_pos h]) (Evt.bind (rt_evt hs (by decide)) (Evt.of fun m => ?_))
    unfold vRealm
    rw [(show decide (0 < s.size) = true from decide_eq_true (by omega))]; rfl
  · exact Evt.of fun m => by unfold kerbsuiteref1_ValidRealm.f vRealm; rw [if_neg h, (show decide (0 < s.size) = false from decide_eq_false (by omega))]; rfl
end
end Go.Proofs.YthfdfoigoomaoaaDoor.Core
