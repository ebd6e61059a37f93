/- What the functions of package principal, and of its reference, answer: closed forms over lists of bytes. -/
import Derived.OpenShut
import Derived.Lib.IndexLaws
import Derived.Lib.IndexAny
import Derived.Test.YtmgcfnialfjphaaPPrinx2
import Derived.Test.YtmgcfnialfjphaaPPrinx3
import Derived.Test.YtmgcfnialfjphaaPPrinx5
namespace Go.Proofs.Ytmgcfnialfjphaa.Core
open Go Go.RowKit Go.Proofs.Ytmgcfnialfjphaa.PPrin Go.Proofs.YtmgcfnialfjphaaW.PrintWords Go.Proofs.YtmgcfnialfjphaaW.PrintLast Go.Proofs.YtmgcfnialfjphaaW.PrintMore
set_option linter.unusedVariables false

/-- A string's bytes. -/
abbrev bs (s : ByteArray) : List UInt8 := s.data.toList
theorem bs_len (s : ByteArray) : (bs s).length = s.size := Array.length_toList
theorem toL (s : ByteArray) : s.toList = bs s := Lib.toList_data s
theorem bs_inj {a b : ByteArray} (h : bs a = bs b) : a = b := Go.WideShapes.bytes_inj h
theorem w64 {n : Int} (h0 : -9223372036854775808 ≤ n) (h1 : n ≤ 9223372036854775807) : wrap64 n = n := by unfold wrap64; omega
theorem bt_at {s : ByteArray} {j : Nat} (h : j < s.size) : bt s (j : Int) = (((bs s)[j]'(by rw [bs_len]; exact h)).toNat : Int) := by
  unfold bt
  rw [dif_pos (by simpa using h)]
  simp [bs]
  rfl
theorem drop_at {s : ByteArray} {j : Nat} (h : j < s.size) : (bs s).drop j = (bs s)[j]'(by rw [bs_len]; exact h) :: (bs s).drop (j + 1) := List.drop_eq_getElem_cons _
/-- May a byte stand in a text from which the bytes of bad are shut out? -/
def okc (bad : List UInt8) (c : UInt8) : Bool := decide (33 ≤ c.toNat) && decide (c.toNat ≤ 126) && !bad.contains c
def chk (bad l : List UInt8) : Bool := l.all (okc bad) && decide (l.length ≤ 39)
theorem ix_ge (bad : List UInt8) (c : UInt8) : (Lib.indexByte bad c ≥ 0) ↔ bad.contains c = true := by
  rw [Lib.contains_iff_indexByte]
  simp
theorem toNat_u8 (c : UInt8) : ((c.toNat : Int)).toNat.toUInt8 = c := by
  rw [Int.toNat_natCast]
  simp
theorem pr_loop (s b : ByteArray) (hs : s.size ≤ 1000) (d : Nat) : ∀ (k j : Nat), j ≤ s.size → s.size - j = d → d < k → principal_printable.l0 k s b (s.size : Int) (j : Int) = some (((bs s).drop j).all (okc (bs b)) && decide ((bs s).length ≤ 39)) := by
  induction d with
  | zero =>
    intro k j hj hd hk
    obtain ⟨k, rfl⟩ : ∃ m, k = m + 1 := ⟨k - 1, by omega⟩
    rw [principal_printable.l0, if_neg (by omega), List.drop_eq_nil_of_le (by rw [bs_len]; omega), bs_len]
    simp
    omega
  | succ d ih =>
    intro k j hj hd hk
    obtain ⟨k, rfl⟩ : ∃ m, k = m + 1 := ⟨k - 1, by omega⟩
    have hlt : j < s.size := by omega
    rw [principal_printable.l0, if_pos (by omega), if_pos (by omega), if_pos (by omega), bt_at hlt, drop_at hlt, List.all_cons]
    generalize (bs s)[j]'(by rw [bs_len]; exact hlt) = c
    have hih := ih k (j + 1) (by omega) (by omega) (by omega)
    by_cases c1 : (c.toNat : Int) < 33
    · rw [if_pos c1]
      have : okc (bs b) c = false := by simp [okc]; omega
      rw [this]; rfl
    · rw [if_neg c1]
      by_cases c2 : (c.toNat : Int) > 126
      · rw [if_pos c2]
        have : okc (bs b) c = false := by simp [okc]; omega
        rw [this]; rfl
      · rw [if_neg c2]
        unfold strings_IndexByte.f
        rw [toNat_u8, Option.bind_some]
        by_cases c3 : Lib.indexByte b.data.toList c ≥ 0
        · rw [if_pos c3]
          have : okc (bs b) c = false := by simp only [okc, (ix_ge _ _).1 c3]; simp
          rw [this]; rfl
        · rw [if_neg c3, w64 (by omega) (by omega)]
          have c4 : (bs b).contains c = false := by
            cases h : (bs b).contains c
            · rfl
            · exact absurd ((ix_ge _ _).2 h) c3
          have : okc (bs b) c = true := by simp only [okc, c4]; simp; omega
          rw [this, Bool.true_and]
          exact_mod_cast hih
theorem pr_some (m : Nat) {s : ByteArray} (b : ByteArray) (hs : s.size ≤ 1000) : principal_printable.f (m + 6000) s b = some (chk (bs b) (bs s)) := by
  have := pr_loop s b hs s.size (m + 6000) 0 (by omega) (by omega) (by omega)
  unfold principal_printable.f chk
  simpa using this
/-- The reference's look at one byte: the bytes that are shut out, one after another. -/
theorem rt_inner (s b : ByteArray) (hb : b.size ≤ 2) {j : Nat} (hj : j < s.size) (d : Nat) : ∀ (k q : Nat), q ≤ b.size → b.size - q = d → kerbsuiteref1_text.l1 (k + d + 1) s b (j : Int) (q : Int) = if ((bs b).drop q).contains ((bs s)[j]'(by rw [bs_len]; exact hj)) = true then some false else kerbsuiteref1_text.l0 k s b (wrap64 ((j : Int) + 1)) := by
  induction d with
  | zero =>
    intro k q hq hd
    rw [kerbsuiteref1_text.l1, if_neg (by omega), List.drop_eq_nil_of_le (by rw [bs_len]; omega), if_neg (by simp)]
  | succ d ih =>
    intro k q hq hd
    have hlt : q < b.size := by omega
    rw [show k + (d + 1) + 1 = (k + d + 1) + 1 from by omega, kerbsuiteref1_text.l1, if_pos (by omega), if_pos (by omega), if_pos (by omega), if_pos (by omega), bt_at hj, bt_at hlt, drop_at hlt, w64 (by omega) (by omega)]
    have hih := ih k (q + 1) (by omega) (by omega)
    generalize hx : (bs s)[j]'(by rw [bs_len]; exact hj) = x at hih ⊢
    generalize (bs b)[q]'(by rw [bs_len]; exact hlt) = y
    by_cases e : x = y
    · rw [if_pos (by rw [e]), if_pos (by rw [e]; simp)]
    · have e2 : ¬ (x.toNat : Int) = (y.toNat : Int) := fun h => e (UInt8.toNat_inj.1 (by omega))
      rw [if_neg e2]
      have e3 : ((y :: (bs b).drop (q + 1)).contains x) = ((bs b).drop (q + 1)).contains x := by
        rw [List.contains_cons]
        have : (x == y) = false := by simpa using e
        rw [this, Bool.false_or]
      rw [e3]
      exact_mod_cast hih
theorem rt_loop (s b : ByteArray) (hs : s.size ≤ 1000) (hb : b.size ≤ 2) (d : Nat) : ∀ (k j : Nat), j ≤ s.size → s.size - j = d → 5 * d + 1 ≤ k → kerbsuiteref1_text.l0 k s b (j : Int) = some (((bs s).drop j).all (okc (bs b)) && decide ((bs s).length ≤ 39)) := by
  induction d with
  | zero =>
    intro k j hj hd hk
    obtain ⟨k, rfl⟩ : ∃ m, k = m + 1 := ⟨k - 1, by omega⟩
    rw [kerbsuiteref1_text.l0, if_neg (by omega), List.drop_eq_nil_of_le (by rw [bs_len]; omega), bs_len]
    simp
    omega
  | succ d ih =>
    intro k j hj hd hk
    obtain ⟨k, rfl⟩ : ∃ m, k = ((m + b.size + 1) + 1) + 1 := ⟨k - b.size - 3, by omega⟩
    have hlt : j < s.size := by omega
    have hin := rt_inner s b hb hlt b.size k 0 (by omega) (by omega)
    have hih := ih k (j + 1) (by omega) (by omega) (by omega)
    rw [kerbsuiteref1_text.l0, if_pos (by omega), if_pos (by omega), bt_at hlt, drop_at hlt, List.all_cons]
    generalize hx : (bs s)[j]'(by rw [bs_len]; exact hlt) = c at hin ⊢
    have bad : ∀ t, t = true → kerbsuiteref1_text.j1 ((k + b.size + 1) + 1) s b (j : Int) t = some false := fun t ht => by rw [kerbsuiteref1_text.j1, if_pos ht]
    by_cases c1 : (c.toNat : Int) < 33
    · rw [if_pos c1, bad true rfl]
      have : okc (bs b) c = false := by simp [okc]; omega
      rw [this]; rfl
    · rw [if_neg c1]
      by_cases c2 : (c.toNat : Int) > 126
      · rw [bad _ (decide_eq_true c2)]
        have : okc (bs b) c = false := by simp [okc]; omega
        rw [this]; rfl
      · rw [kerbsuiteref1_text.j1, if_neg (by simpa using c2)]
        rw [show (0 : Int) = ((0 : Nat) : Int) from rfl, hin, List.drop_zero]
        by_cases c3 : (bs b).contains c = true
        · rw [if_pos c3]
          have : okc (bs b) c = false := by simp only [okc, c3]; simp
          rw [this]; rfl
        · rw [if_neg c3, w64 (by omega) (by omega)]
          have c4 : (bs b).contains c = false := by simpa using c3
          have : okc (bs b) c = true := by simp only [okc, c4]; simp; omega
          rw [this, Bool.true_and]
          exact_mod_cast hih
theorem rt_some (m : Nat) {s b : ByteArray} (hs : s.size ≤ 1000) (hb : b.size ≤ 2) : kerbsuiteref1_text.f (m + 6000) s b = some (chk (bs b) (bs s)) := by
  have := rt_loop s b hs hb s.size (m + 6000) 0 (by omega) (by omega) (by omega)
  unfold kerbsuiteref1_text.f chk
  simpa using this
def vName (s : ByteArray) : Bool := decide (0 < s.size) && chk [46, 64] (bs s)
def vInst (s : ByteArray) : Bool := chk [64] (bs s)
def vRealm (s : ByteArray) : Bool := decide (0 < s.size) && chk [64] (bs s)
def vld (n i r : ByteArray) : Bool := vName n && (vInst i && vRealm r)
theorem nil_iff (s : ByteArray) : s.toList = ([] : List UInt8) ↔ s.size = 0 := by
  rw [toL, ← bs_len]
  exact List.length_eq_zero_iff.symm
section
variable (m : Nat) {s n i r : ByteArray} (hs : s.size ≤ 1000) (hn : n.size ≤ 1000) (hi : i.size ≤ 1000) (hr : r.size ≤ 1000)
include hs
theorem name_some : principal_ValidName.f (m + 6000) s = some (vName s) := by
  unfold principal_ValidName.f vName
  by_cases h : s.toList = ([] : List UInt8)
  · rw [if_pos h, (show decide (0 < s.size) = false from decide_eq_false (by have := (nil_iff s).1 h; omega))]; rfl
  · rw [if_neg h, pr_some m _ hs, (show decide (0 < s.size) = true from decide_eq_true (by have := mt (nil_iff s).2 h; omega))]; rfl
theorem inst_some : principal_ValidInstance.f (m + 6000) s = some (vInst s) := by
  unfold principal_ValidInstance.f vInst
  rw [pr_some m _ hs]; rfl
theorem realm_some : principal_ValidRealm.f (m + 6000) s = some (vRealm s) := by
  unfold principal_ValidRealm.f vRealm
  by_cases h : s.toList = ([] : List UInt8)
  · rw [if_pos h, (show decide (0 < s.size) = false from decide_eq_false (by have := (nil_iff s).1 h; omega))]; rfl
  · rw [if_neg h, pr_some m _ hs, (show decide (0 < s.size) = true from decide_eq_true (by have := mt (nil_iff s).2 h; omega))]; rfl
theorem rname_some : kerbsuiteref1_ValidName.f (m + 6000) s = some (vName s) := by
  unfold kerbsuiteref1_ValidName.f vName
  by_cases h : (s.size : Int) > 0
  · rw [if_pos h, rt_some m hs (by decide), (show decide (0 < s.size) = true from decide_eq_true (by omega))]; rfl
  · rw [if_neg h, (show decide (0 < s.size) = false from decide_eq_false (by omega))]; rfl
theorem rinst_some : kerbsuiteref1_ValidInstance.f (m + 6000) s = some (vInst s) := by
  unfold kerbsuiteref1_ValidInstance.f vInst
  rw [rt_some m hs (by decide)]; rfl
theorem rrealm_some : kerbsuiteref1_ValidRealm.f (m + 6000) s = some (vRealm s) := by
  unfold kerbsuiteref1_ValidRealm.f vRealm
  by_cases h : (s.size : Int) > 0
  · rw [if_pos h, rt_some m hs (by decide), (show decide (0 < s.size) = true from decide_eq_true (by omega))]; rfl
  · rw [if_neg h, (show decide (0 < s.size) = false from decide_eq_false (by omega))]; rfl
omit hs
include hn hi hr
theorem valid_some : principal_Valid.f (m + 6000) n i r = some (vld n i r) := by
  unfold principal_Valid.f vld
  rw [name_some m hn, inst_some m hi, realm_some m hr]
  simp only [Option.bind_some]
  cases vName n <;> cases vInst i <;> rfl
theorem rvalid_some : kerbsuiteref1_Valid.f (m + 6000) n i r = some (vld n i r) := by
  unfold kerbsuiteref1_Valid.f vld
  rw [rname_some m hn, rinst_some m hi, rrealm_some m hr]
  simp only [Option.bind_some]
  cases vName n <;> cases vInst i <;> rfl
end
/-- A text cut around the first byte c. -/
def cutAt (c : UInt8) (s : ByteArray) : ByteArray × ByteArray × Bool :=
  if 0 ≤ Lib.indexByte (bs s) c then (s.extract 0 (Lib.indexByte (bs s) c).toNat, s.extract ((Lib.indexByte (bs s) c).toNat + 1) s.size, true) else (s, ⟨#[]⟩, false)
theorem ix_lt {l : List UInt8} {c : UInt8} (h : 0 ≤ Lib.indexByte l c) : Lib.indexByte l c < l.length := by
  obtain ⟨o, ho⟩ : ∃ o : Nat, Lib.indexByte l c = o := ⟨(Lib.indexByte l c).toNat, by omega⟩
  have := (Lib.indexByte_some ho).1
  have := (List.getElem?_eq_some_iff.1 this).1
  omega
theorem cut_some (s : ByteArray) (c : UInt8) (hs : s.size ≤ 1000) : strings_Cut.f s ⟨#[c]⟩ = some (cutAt c s) := by
  unfold strings_Cut.f stringslite_Cut.f stringslite_Index.f cutAt
  rw [if_pos (show (⟨#[c]⟩ : ByteArray).size = 1 from rfl)]
  simp only [Option.bind_some]
  have hc : (⟨#[c]⟩ : ByteArray).size = 1 := rfl
  rw [show Lib.indexByte s.data.toList ([c].headD 0) = Lib.indexByte (bs s) c from rfl]
  by_cases h : 0 ≤ Lib.indexByte (bs s) c
  · have hl := ix_lt h
    rw [bs_len] at hl
    rw [if_pos h, if_pos h]
    rw [if_pos h, if_pos (by omega), hc, w64 (by omega) (by omega), if_pos (by omega), if_pos (by omega)]
    rw [show (Lib.indexByte (bs s) c + ((1 : Nat) : Int)).toNat = (Lib.indexByte (bs s) c).toNat + 1 from by omega]
    rfl
  · rw [if_neg h, if_neg h]; rfl
theorem ref_index_loop (s : ByteArray) (hs : s.size ≤ 1000) (c : UInt8) (d : Nat) : ∀ (k j : Nat), j ≤ s.size → s.size - j = d → d < k →
    kerbsuiteref1_index.l0 k s (c.toNat : Int) (j : Int) = some (if 0 ≤ Lib.indexByte ((bs s).drop j) c then (j : Int) + Lib.indexByte ((bs s).drop j) c else (s.size : Int)) := by
  induction d with
  | zero =>
    intro k j hj hd hk
    obtain ⟨k, rfl⟩ : ∃ m, k = m + 1 := ⟨k - 1, by omega⟩
    rw [kerbsuiteref1_index.l0, if_neg (by omega), List.drop_eq_nil_of_le (by rw [bs_len]; omega)]
    rfl
  | succ d ih =>
    intro k j hj hd hk
    obtain ⟨k, rfl⟩ : ∃ m, k = m + 1 := ⟨k - 1, by omega⟩
    have hlt : j < s.size := by omega
    have hih := ih k (j + 1) (by omega) (by omega) (by omega)
    rw [kerbsuiteref1_index.l0, if_pos (by omega), if_pos (by omega), bt_at hlt, drop_at hlt, w64 (by omega) (by omega)]
    generalize (bs s)[j]'(by rw [bs_len]; exact hlt) = x
    unfold Lib.indexByte
    by_cases e : x = c
    · rw [if_pos (by rw [e]), if_pos (show (x == c) = true by simpa using e)]
      simp
    · have e2 : ¬ (x.toNat : Int) = (c.toNat : Int) := fun h => e (UInt8.toNat_inj.1 (by omega))
      rw [if_neg e2, if_neg (show ¬ (x == c) = true by simpa using e), show ((j : Int) + 1) = ((j + 1 : Nat) : Int) from by omega, hih]
      have hge := Lib.indexByte_ge ((bs s).drop (j + 1)) c
      by_cases z : Lib.indexByte ((bs s).drop (j + 1)) c = -1
      · rw [z]; rfl
      · rw [if_pos (by omega), if_neg (show ¬ (Lib.indexByte ((bs s).drop (j + 1)) c == -1) = true by simpa using z), if_pos (by omega)]
        congr 1
        omega
theorem ref_index_some (m : Nat) {s : ByteArray} (hs : s.size ≤ 1000) (c : UInt8) : kerbsuiteref1_index.f (m + 6000) s (c.toNat : Int) = some (if 0 ≤ Lib.indexByte (bs s) c then Lib.indexByte (bs s) c else (s.size : Int)) := by
  have := ref_index_loop s hs c s.size (m + 6000) 0 (by omega) (by omega) (by omega)
  unfold kerbsuiteref1_index.f
  simpa using this
/-- What a text is parsed to. -/
def prs (s realm : ByteArray) : ByteArray × ByteArray × ByteArray × Int :=
  let a := cutAt 64 s
  let b := cutAt 46 a.1
  let r := if a.2.2 = true then a.2.1 else realm
  if vld b.1 b.2.1 r = true then (b.1, b.2.1, r, 0) else (⟨#[]⟩, ⟨#[]⟩, ⟨#[]⟩, 103)
theorem ext_size (s : ByteArray) (a b : Nat) : (s.extract a b).size ≤ s.size := by simp; omega
theorem cut_size (c : UInt8) (s : ByteArray) : (cutAt c s).1.size ≤ s.size ∧ (cutAt c s).2.1.size ≤ s.size := by
  unfold cutAt
  split
  · exact ⟨ext_size _ _ _, ext_size _ _ _⟩
  · exact ⟨Nat.le_refl _, Nat.zero_le _⟩
theorem parse_some (m : Nat) {s r : ByteArray} (hs : s.size ≤ 1000) (hr : r.size ≤ 1000) : principal_Parse.f (m + 6001) s r = some (prs s r) := by
  have h1 := cut_size 64 s
  have h2 := cut_size 46 (cutAt 64 s).1
  have j0 : ∀ q : ByteArray, q.size ≤ 1000 → principal_Parse.j0 (m + 6001) (cutAt 64 s).1 ⟨#[]⟩ ⟨#[]⟩ q = some (if vld (cutAt 46 (cutAt 64 s).1).1 (cutAt 46 (cutAt 64 s).1).2.1 q = true then ((cutAt 46 (cutAt 64 s).1).1, (cutAt 46 (cutAt 64 s).1).2.1, q, 0) else (⟨#[]⟩, ⟨#[]⟩, ⟨#[]⟩, 103)) := by
    intro q hq
    rw [principal_Parse.j0, cut_some _ 46 (by omega), Option.bind_some, valid_some m (by omega) (by omega) hq, Option.bind_some]
    split <;> rfl
  unfold principal_Parse.f prs
  rw [cut_some s 64 hs, Option.bind_some, j0 _ (by omega), j0 _ hr]
  simp only
  by_cases h : (cutAt 64 s).2.2 = true
  · rw [if_pos h, if_pos h]
  · rw [if_neg h, if_neg h]
theorem ext_all (s : ByteArray) (n : Nat) (h : s.size ≤ n) : s.extract 0 n = s := by
  apply bs_inj
  simp [bs]
  exact List.take_of_length_le (by have := bs_len s; simp only [bs] at this; omega)
theorem rparse_some (m : Nat) {s r : ByteArray} (hs : s.size ≤ 1000) (hr : r.size ≤ 1000) : kerbsuiteref1_Parse.f (m + 6001) s r = some (prs s r) := by
  have h1 := cut_size 64 s
  have h2 := cut_size 46 (cutAt 64 s).1
  have j0 : ∀ (q : ByteArray) (a : Int), q.size ≤ 1000 → 0 ≤ a → a ≤ s.size → s.extract 0 a.toNat = (cutAt 64 s).1 → kerbsuiteref1_Parse.j0 (m + 6001) s a ⟨#[]⟩ ⟨#[]⟩ q = some (if vld (cutAt 46 (cutAt 64 s).1).1 (cutAt 46 (cutAt 64 s).1).2.1 q = true then ((cutAt 46 (cutAt 64 s).1).1, (cutAt 46 (cutAt 64 s).1).2.1, q, 0) else (⟨#[]⟩, ⟨#[]⟩, ⟨#[]⟩, 103)) := by
    intro q a hq ha0 ha1 hex
    have hz : a.toNat = (s.extract 0 a.toNat).size := by simp; omega
    rw [hex] at hz
    rw [kerbsuiteref1_Parse.j0, if_pos ha0, if_pos ha1, hex, hz]
    generalize (cutAt 64 s).1 = f at h1 h2 ⊢
    have hix := ref_index_some m (s := f) (by omega) 46
    rw [show (((46 : UInt8).toNat : Nat) : Int) = 46 from rfl] at hix
    rw [hix, Option.bind_some]
    unfold cutAt at h2 ⊢
    by_cases h : 0 ≤ Lib.indexByte (bs f) 46
    · have hl := ix_lt h
      rw [bs_len] at hl
      rw [if_pos h, if_pos h] at *
      rw [if_pos h, if_pos (by omega), if_pos hl, w64 (by omega) (by omega), if_pos (by omega), if_pos (by omega)]
      rw [show (Lib.indexByte (bs f) 46 + 1).toNat = (Lib.indexByte (bs f) 46).toNat + 1 from by omega]
      rw [rvalid_some m (Nat.le_trans (ext_size _ _ _) (by omega)) (Nat.le_trans (ext_size _ _ _) (by omega)) hq, Option.bind_some]
      simp only
      split <;> rfl
    · rw [if_neg h, if_neg h] at *
      rw [if_pos (by omega), if_pos (by omega), if_neg (by omega), ext_all f _ (by omega), rvalid_some m (by omega) (by decide) hq, Option.bind_some]
      simp only
      split <;> rfl
  have hix := ref_index_some (m + 1) (s := s) hs 64
  rw [show (((64 : UInt8).toNat : Nat) : Int) = 64 from rfl] at hix
  unfold kerbsuiteref1_Parse.f prs
  rw [hix, Option.bind_some]
  simp only
  by_cases h : 0 ≤ Lib.indexByte (bs s) 64
  · have hl := ix_lt h
    rw [bs_len] at hl
    have e1 : (cutAt 64 s).2.2 = true := by unfold cutAt; rw [if_pos h]
    have e2 : (cutAt 64 s).2.1 = s.extract ((Lib.indexByte (bs s) 64).toNat + 1) s.size := by unfold cutAt; rw [if_pos h]
    have e3 : (cutAt 64 s).1 = s.extract 0 (Lib.indexByte (bs s) 64).toNat := by unfold cutAt; rw [if_pos h]
    rw [if_pos h, if_pos hl, w64 (by omega) (by omega), if_pos (by omega), if_pos (by omega), if_pos e1]
    rw [show (Lib.indexByte (bs s) 64 + 1).toNat = (Lib.indexByte (bs s) 64).toNat + 1 from by omega, ← e2]
    exact j0 _ _ (by omega) h (by omega) e3.symm
  · have e1 : ¬ (cutAt 64 s).2.2 = true := by unfold cutAt; rw [if_neg h]; simp
    have e3 : (cutAt 64 s).1 = s := by unfold cutAt; rw [if_neg h]
    rw [if_neg h, if_neg (by omega), if_neg e1]
    exact j0 _ _ hr (by omega) (by omega) (by rw [e3]; exact ext_all s _ (by omega))
theorem long_some (a b c : ByteArray) : kerbsuitelaw1_long.f a b c = some (decide (100 < a.size) || (decide (100 < b.size) || decide (100 < c.size))) := by
  unfold kerbsuitelaw1_long.f
  by_cases h : (a.size : Int) > 100
  · rw [if_pos h, show decide (100 < a.size) = true from decide_eq_true (by omega)]; rfl
  · rw [if_neg h, show decide (100 < a.size) = false from decide_eq_false (by omega)]
    by_cases h2 : (b.size : Int) > 100
    · rw [if_pos h2, show decide (100 < b.size) = true from decide_eq_true (by omega)]; rfl
    · rw [if_neg h2, show decide (100 < b.size) = false from decide_eq_false (by omega)]
      simp
      omega
theorem long_false {a b c : ByteArray} (h : ¬ (decide (100 < a.size) || (decide (100 < b.size) || decide (100 < c.size))) = true) : a.size ≤ 100 ∧ b.size ≤ 100 ∧ c.size ≤ 100 := by
  simp at h
  omega
/-! the sanity check -/
theorem awake_some (m : Nat) : kerbsuitelaw1_awake.f (m + 6001) = some true := by
  have p1 : prs (⟨#[114, 99, 109, 100, 46, 104, 111, 115, 116, 46, 109, 105, 116, 64, 65, 84, 72, 69, 78, 65]⟩ : ByteArray) (⟨#[88]⟩ : ByteArray) = (⟨#[114, 99, 109, 100]⟩, ⟨#[104, 111, 115, 116, 46, 109, 105, 116]⟩, ⟨#[65, 84, 72, 69, 78, 65]⟩, 0) := by decide +kernel
  have p2 : prs (⟨#[97, 64, 98, 64, 99]⟩ : ByteArray) (⟨#[88]⟩ : ByteArray) = (⟨#[]⟩, ⟨#[]⟩, ⟨#[]⟩, 103) := by decide +kernel
  unfold kerbsuitelaw1_awake.f
  rw [parse_some m (by decide) (by decide), parse_some m (by decide) (by decide), p1, p2]
  simp only [Option.bind_some]
  rw [if_pos trivial]
  simp only [toL]
  rfl
end Go.Proofs.Ytmgcfnialfjphaa.Core
