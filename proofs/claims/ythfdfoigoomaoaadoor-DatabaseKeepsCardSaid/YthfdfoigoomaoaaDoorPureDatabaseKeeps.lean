/- The plain part of DatabaseKeeps: what the law computes answers true, for every list of numbers, every entry made of one, every place. -/
import Derived.Test.YthfdfoigoomaoaaDoorDbGood
import Derived.Test.YthfdfoigoomaoaaDoorDbLong
import Derived.Test.YthfdfoigoomaoaaDoorDbCore
import Derived.Test.YthfdfoigoomaoaaDoorPDbx11
import Derived.Test.YthfdfoigoomaoaaDoorPDbx12
import Derived.Test.YthfdfoigoomaoaaDoorPDbx6
namespace Go.Proofs.YthfdfoigoomaoaaDoor.Pure
open Go Go.RowKit Go.Proofs.YthfdfoigoomaoaaDoor.PDb Go.Proofs.YthfdfoigoomaoaaDoor.Core Go.Proofs.YthfdfoigoomaoaaDoorW.PrintWords Go.Proofs.YthfdfoigoomaoaaDoorW.PrintLast Go.Proofs.YthfdfoigoomaoaaDoorW.PrintMore
set_option linter.unusedVariables false

/-! ### finding, counted -/
theorem fnd_had (n m : ByteArray) : ∀ (l : List S35) (i a : Int), 0 ≤ a → 0 ≤ i → (fnd n m l i a).2 = if l.countP (fun x => hit x n m) = 0 then 0 else 9
  | [], i, a, h, hi => by simp only [fnd]; rw [if_neg (by omega)]; rfl
  | x :: l, i, a, h, hi => by
    simp only [fnd, List.countP_cons]
    by_cases c : hit x n m = true
    · rw [if_pos c, if_pos h, if_pos c, if_neg (by omega)]
    · rw [if_neg c, if_neg c, fnd_had n m l _ _ h (by omega), Nat.add_zero]
theorem fnd_cnt (n m : ByteArray) : ∀ (l : List S35) (i : Int), 0 ≤ i → (fnd n m l i (-1)).2 = if l.countP (fun x => hit x n m) = 0 then 8 else if l.countP (fun x => hit x n m) = 1 then 0 else 9
  | [], i, hi => by simp only [fnd]; rw [if_pos (by omega)]; rfl
  | x :: l, i, hi => by
    simp only [fnd, List.countP_cons]
    by_cases c : hit x n m = true
    · rw [if_pos c, if_neg (by omega), if_pos c, fnd_had n m l _ _ hi (by omega)]
      by_cases d : l.countP (fun x => hit x n m) = 0
      · rw [if_pos d, if_neg (by omega), if_pos (by omega)]
      · rw [if_neg d, if_neg (by omega), if_neg (by omega)]
    · rw [if_neg c, if_neg c, fnd_cnt n m l _ (by omega), Nat.add_zero]
theorem fnd_skip (n m : ByteArray) : ∀ (l r : List S35) (i a : Int), l.countP (fun x => hit x n m) = 0 → fnd n m (l ++ r) i a = fnd n m r (i + l.length) a
  | [], r, i, a, h => by simp
  | x :: l, r, i, a, h => by
    rw [List.countP_cons] at h
    have c : ¬ hit x n m = true := fun c => by rw [if_pos c] at h; omega
    rw [if_neg c] at h
    rw [List.cons_append]
    simp only [fnd]
    rw [if_neg c, fnd_skip n m l r _ _ (by omega), List.length_cons]
    congr 1
    omega
theorem fnd_past (n m : ByteArray) : ∀ (l : List S35) (i a : Int), 0 ≤ a → l.countP (fun x => hit x n m) = 0 → fnd n m l i a = (a, 0)
  | [], i, a, h, _ => by simp only [fnd]; rw [if_neg (by omega)]
  | x :: l, i, a, h, hc => by
    rw [List.countP_cons] at hc
    have c : ¬ hit x n m = true := fun c => by rw [if_pos c] at hc; omega
    rw [if_neg c] at hc
    simp only [fnd]
    rw [if_neg c, fnd_past n m l _ _ h (by omega)]
theorem cnt_cut (n m : ByteArray) (s : List S35) (i : Nat) : (s.take i).countP (fun x => hit x n m) + (s.drop i).countP (fun x => hit x n m) = s.countP (fun x => hit x n m) := by
  rw [← List.countP_append, List.take_append_drop]
theorem hit_self (E : S35) : hit E E.f0 E.f1 = true := by simp [hit]
theorem find_ins (s : List S35) (E : S35) (i : Nat) (hi : i ≤ s.length) : (fnd E.f0 E.f1 s 0 (-1)).2 = 8 ∧ fnd E.f0 E.f1 (s.take i ++ [E] ++ s.drop i) 0 (-1) = ((i : Int), 0) ∨ (fnd E.f0 E.f1 s 0 (-1)).2 ≠ 8 ∧ (fnd E.f0 E.f1 (s.take i ++ [E] ++ s.drop i) 0 (-1)).2 = 9 := by
  have hc := cnt_cut E.f0 E.f1 s i
  by_cases z : s.countP (fun x => hit x E.f0 E.f1) = 0
  · refine .inl ⟨by rw [fnd_cnt _ _ _ _ (by omega), if_pos z], ?_⟩
    rw [List.append_assoc, fnd_skip _ _ _ _ _ _ (by omega), List.singleton_append]
    simp only [fnd]
    rw [if_pos (hit_self E), if_neg (by omega), fnd_past _ _ _ _ _ (by omega) (by omega), List.length_take, Nat.min_eq_left hi]
    congr 1
    omega
  · refine .inr ⟨?_, ?_⟩
    · rw [fnd_cnt _ _ _ _ (by omega), if_neg z]
      split <;> omega
    · have e : (s.take i ++ [E] ++ s.drop i).countP (fun x => hit x E.f0 E.f1) = s.countP (fun x => hit x E.f0 E.f1) + 1 := by
        rw [List.countP_append, List.countP_append, List.countP_singleton, if_pos (hit_self E)]
        omega
      rw [fnd_cnt _ _ _ _ (by omega), e, if_neg (by omega), if_neg (by omega)]

/-! ### adding -/
theorem add_stop {s : List S35} (hs : s.length ≤ 60) (r : ByteArray) (E : S35) {j : Nat} (hj : j ≤ s.length) : ((api_Entry_51.f s).bind fun T => (api_Entry_50.f T (j : Int) [E]).bind fun Z => some (r, Z, (0 : Int))) = some (r, s.take j ++ [E] ++ s.drop j, 0) := by
  unfold api_Entry_51.f
  rw [if_pos (by omega), Option.bind_some]
  unfold api_Entry_50.f
  rw [if_pos (by omega), if_pos (by omega), if_pos (by simp; omega), Int.toNat_natCast, Option.bind_some]
theorem add_loop {s : List S35} (hs : s.length ≤ 60) (r : ByteArray) (E : S35) : ∀ j : Nat, j ≤ s.length → (∀ h : j < s.length, cmpV s[j] E > 0) → ∃ i : Nat, i ≤ s.length ∧ (∀ (q : Nat) (h : q < s.length), q + 1 = i → cmpV s[q] E ≤ 0) ∧ (∀ h : i < s.length, cmpV s[i] E > 0) ∧
    Evt (fun k => database_Add.l0 k (j : Int) r s E.f0 E.f1 E.f2 E.f3 E.f4 E.f5 E.f6 E.f7 E.f8) (r, s.take i ++ [E] ++ s.drop i, 0) := by
  intro j
  induction j with
  | zero =>
    intro hj up
    refine ⟨0, hj, fun q h e => by omega, up, Evt.succ (g := fun _ => some (r, s.take 0 ++ [E] ++ s.drop 0, 0)) (fun k => ?_) Evt.const⟩
    rw [database_Add.l0, if_neg (by omega)]
    exact add_stop hs r E (Nat.zero_le _)
  | succ j ih =>
    intro hj up
    have hlt : j < s.length := by omega
    have e1 : wrap64 (((j + 1 : Nat) : Int) - 1) = (j : Int) := by rw [w64 (by omega) (by omega)]; omega
    by_cases c : cmpV s[j] E > 0
    · obtain ⟨i, hi, lo, up', hev⟩ := ih (by omega) (fun _ => c)
      refine ⟨i, hi, lo, up', Evt.succ (fun k => ?_) (Evt.bind (compare_evt s[j] E) (g := fun k ab => if ab > 0 then (database_Add.l0 k (j : Int) r s E.f0 E.f1 E.f2 E.f3 E.f4 E.f5 E.f6 E.f7 E.f8) else ((api_Entry_51.f s).bind fun T => (api_Entry_50.f T ((j + 1 : Nat) : Int) [E]).bind fun Z => some (r, Z, (0 : Int)))) ?_)⟩
      · rw [database_Add.l0, if_pos (by omega), e1, if_pos (by omega), if_pos (by omega), rd35 hlt]
      · simp only [if_pos c]
        exact hev
    · refine ⟨j + 1, hj, fun q h e => ?_, up, Evt.succ (fun k => ?_) (Evt.bind (compare_evt s[j] E) (g := fun k ab => if ab > 0 then (database_Add.l0 k (j : Int) r s E.f0 E.f1 E.f2 E.f3 E.f4 E.f5 E.f6 E.f7 E.f8) else ((api_Entry_51.f s).bind fun T => (api_Entry_50.f T ((j + 1 : Nat) : Int) [E]).bind fun Z => some (r, Z, (0 : Int)))) ?_)⟩
      · obtain rfl : q = j := by omega
        omega
      · rw [database_Add.l0, if_pos (by omega), e1, if_pos (by omega), if_pos (by omega), rd35 hlt]
      · simp only [if_neg c]
        rw [add_stop hs r E hj]
        exact Evt.const
def GoodE (E : S35) : Prop := Sized E ∧ ∃ b, key_Valid.f E.f2 = some b ∧ ceV b E = 0
theorem add_full {r : ByteArray} {s : List S35} {E : S35} (hr : r.size ≤ 9223372036854775807) (hv : vRealm r = true) (hl : s.length = 60) (hf : Fine s) (hE : GoodE E) : Evt (fun k => database_Add.f k r s E.f0 E.f1 E.f2 E.f3 E.f4 E.f5 E.f6 E.f7 E.f8) (⟨#[]⟩, [], 106) := by
  obtain ⟨hz, b, hb, hc⟩ := hE
  have h1 := ce_evt hz hb
  rw [hc] at h1
  refine Evt.bind (fine_check hr hv (by omega) hf) ?_
  simp only [if_true]
  refine Evt.bind h1 ?_
  simp only [if_true, if_pos (show ((s.length : Nat) : Int) = 60 by omega)]
  exact Evt.const
theorem add_ev {r : ByteArray} {s : List S35} {E : S35} (hr : r.size ≤ 9223372036854775807) (hv : vRealm r = true) (hl : s.length < 60) (hf : Fine s) (hE : GoodE E) : ∃ i : Nat, i ≤ s.length ∧ Fine (s.take i ++ [E] ++ s.drop i) ∧ Evt (fun k => database_Add.f k r s E.f0 E.f1 E.f2 E.f3 E.f4 E.f5 E.f6 E.f7 E.f8) (r, s.take i ++ [E] ++ s.drop i, 0) := by
  obtain ⟨i, hi, lo, up, hev⟩ := add_loop (by omega) r E s.length (Nat.le_refl _) (fun h => by omega)
  have hn := fine_ins hf hE i hi lo up
  rw [List.nil_append] at hn
  refine ⟨i, hi, hn, ?_⟩
  obtain ⟨hz, b, hb, hc⟩ := hE
  have h1 := ce_evt hz hb
  rw [hc] at h1
  refine Evt.bind (fine_check hr hv (by omega) hf) ?_
  simp only [if_true]
  refine Evt.bind h1 ?_
  simp only [if_true, if_neg (show ¬ ((s.length : Nat) : Int) = 60 by omega)]
  exact hev

/-! ### another key -/
theorem byte_key {x : Int} (h : 0 ≤ x) (h' : x < 256) : key_Valid.f (Go.bits .or .u64 72057594037927936 (IntKind.u64.wrap (wrap64 (1 + x)))) = some true := by
  have all : ∀ n : Fin 256, key_Valid.f (Go.bits .or .u64 72057594037927936 (IntKind.u64.wrap (wrap64 (1 + (n.1 : Int))))) = some true := by decide +kernel
  have := all ⟨x.toNat, by omega⟩
  rwa [show ((x.toNat : Nat) : Int) = x by omega] at this
theorem good_kvno {x : S35} {b : Bool} (h : ceV b x = 0) : vName x.f0 = true ∧ vInst x.f1 = true ∧ (0 ≤ x.f3 ∧ x.f3 ≤ 255) ∧ rng x.f4 4294967295 = true ∧ rng x.f8 4294967295 = true ∧ rng x.f5 255 = true ∧ rng x.f6 3 = true ∧ rng x.f7 20 = true := by
  unfold ceV at h
  split at h
  · omega
  · rename_i c
    split at h
    · omega
    · split at h
      · rename_i d
        have c' : (vName x.f0 && vInst x.f1) = true := by simpa using c
        simp only [Bool.and_eq_true] at c' d
        refine ⟨c'.1, c'.2, ?_, d.1.1.1.1.2, d.1.1.1.2, d.1.1.2, d.1.2, d.2⟩
        have := d.1.1.1.1.1
        unfold rng at this
        simpa using this
      · omega
/-- The entry with another key. -/
def again (x : S35) (K : Int) : S35 := ⟨x.f0, x.f1, K, if wrap64 (x.f3 + 1) > 255 then 1 else wrap64 (x.f3 + 1), x.f4, x.f5, x.f6, x.f7, x.f8⟩
theorem again_kvno {x : S35} (h : 0 ≤ x.f3 ∧ x.f3 ≤ 255) (K : Int) : (again x K).f3 = wrap64 (Int.tmod x.f3 255 + 1) ∧ 0 ≤ (again x K).f3 ∧ (again x K).f3 ≤ 255 := by
  have e : (again x K).f3 = if wrap64 (x.f3 + 1) > 255 then 1 else wrap64 (x.f3 + 1) := rfl
  have t : Int.tmod x.f3 255 = x.f3 % 255 := Int.tmod_eq_emod_of_nonneg h.1
  rw [e, t, w64 (by omega) (by omega), w64 (by omega) (by omega)]
  split <;> omega
theorem again_good {x : S35} (h : GoodE x) {K : Int} (hK : key_Valid.f K = some true) : GoodE (again x K) := by
  obtain ⟨hz, b, hb, hc⟩ := h
  refine ⟨hz, true, hK, ?_⟩
  obtain ⟨n1, n2, h3, h4, h5, h6, h7, h8⟩ := good_kvno hc
  have h3' := (again_kvno h3 K).2
  have r3 : rng (again x K).f3 255 = true := by unfold rng; simp [h3'.1, h3'.2]
  unfold ceV
  rw [show (again x K).f0 = x.f0 from rfl, show (again x K).f1 = x.f1 from rfl, show (again x K).f4 = x.f4 from rfl, show (again x K).f8 = x.f8 from rfl, show (again x K).f5 = x.f5 from rfl, show (again x K).f6 = x.f6 from rfl, show (again x K).f7 = x.f7 from rfl,
    n1, n2, r3, h4, h5, h6, h7, h8, if_neg (by decide), if_neg (by simp), if_pos (by decide)]
theorem fine_set {s : List S35} (hf : Fine s) {c : Nat} (hc : c < s.length) {E : S35} (hE : GoodE E) (h0 : E.f0 = s[c].f0) (h1 : E.f1 = s[c].f1) : Fine (s.set c E) := by
  refine ⟨fun x hx => ?_, fun j hj => ?_⟩
  · rcases List.mem_or_eq_of_mem_set hx with hx | rfl
    · exact hf.1 x hx
    · exact hE
  · rw [List.length_set] at hj
    have e : ∀ q (hq : q < s.length), ((s.set c E)[q]'(by rw [List.length_set]; exact hq)).f0 = s[q].f0 ∧ ((s.set c E)[q]'(by rw [List.length_set]; exact hq)).f1 = s[q].f1 := by
      intro q hq
      rw [List.getElem_set]
      split
      · rename_i z; subst z; exact ⟨h0, h1⟩
      · exact ⟨rfl, rfl⟩
    have := hf.2 j hj
    unfold cmpV at this ⊢
    rw [(e _ hj).1, (e _ hj).2, (e j (by omega)).1, (e j (by omega)).2]
    exact this
theorem rekey_ev {r : ByteArray} {s : List S35} (hr : r.size ≤ 9223372036854775807) (hv : vRealm r = true) (hl : s.length ≤ 60) (hf : Fine s) {c : Nat} (hc : c < s.length) {K : Int} (hK : key_Valid.f K = some true) : Evt (fun k => database_Rekey.f k r s (c : Int) K) (r, s.set c (again s[c] K), 0) := by
  have hh : Evt (fun k => database_has.f k r s (c : Int)) 0 := by
    refine Evt.bind (fine_check hr hv hl hf) ?_
    simp only [if_true, if_neg (show ¬ (c : Int) < 0 by omega), if_neg (show ¬ (c : Int) ≥ (s.length : Int) by omega)]
    exact Evt.const
  have hw : ∀ (a b : ByteArray) (d e f g i o p : Int), database_with.f r s (c : Int) a b d e f g i o p = some (r, s.set c ⟨a, b, d, e, f, g, i, o, p⟩) := by
    intro a b d e f g i o p
    unfold database_with.f api_Entry_51.f
    rw [if_pos (by omega), Option.bind_some, if_pos (by omega), if_pos (by omega), Int.toNat_natCast]
  refine Evt.bind hh ?_
  simp only [if_true, hK, Option.bind_some, if_pos (show (0 : Int) ≤ (c : Int) by omega), if_pos (show (c : Int) < (s.length : Int) by omega), rd35 hc, hw]
  unfold again
  by_cases z : wrap64 (s[c].f3 + 1) > 255
  · simp only [if_pos z]; exact Evt.const
  · simp only [if_neg z]; exact Evt.const

/-! ### the law -/
theorem rd_set {s : List S35} {c : Nat} {E : S35} {j : Nat} (hj : j < s.length) : rd_T35 (s.set c E) (j : Int) = if c = j then E else s[j] := by
  rw [rd35 (by rw [List.length_set]; exact hj), List.getElem_set]
theorem keeps_loop {x2 : Int} (hx : 0 ≤ x2 ∧ x2 ≤ 255) (ib Wb : ByteArray) {s : List S35} (hl : s.length ≤ 60) (hf : Fine s) {c : Nat} (hc : c < s.length) {K : Int} (hK : kerbsuitedata_Long.f x2 = some K) (d : Nat) : ∀ j : Nat, j ≤ s.length → s.length - j = d →
    Evt (fun k => kerbsuitelaw12_DatabaseKeeps.l0 k x2 (c : Int) (j : Int) ib s Wb (s.set c (again s[c] K))) true := by
  have e2 : wrap64 x2 = x2 := w64 (by omega) (by omega)
  induction d with
  | zero =>
    intro j hj hd
    exact Evt.succ (g := fun _ => some true) (fun k => by rw [kerbsuitelaw12_DatabaseKeeps.l0, if_neg (by omega)]) Evt.const
  | succ d ih =>
    intro j hj hd
    have hlt : j < s.length := by omega
    have n1 := ih (j + 1) (by omega) (by omega)
    have e1 : wrap64 ((j : Int) + 1) = ((j + 1 : Nat) : Int) := by rw [w64 (by omega) (by omega)]; rfl
    have j5 : ∀ x : S35, rd_T35 (s.set c (again s[c] K)) (j : Int) = x → Evt (fun k => kerbsuitelaw12_DatabaseKeeps.j5 k x2 (c : Int) (j : Int) ib s Wb (s.set c (again s[c] K)) x.f0 x.f1 x.f2 x.f3 x.f4 x.f5 x.f6 x.f7 x.f8) true := by
      intro x hx'
      refine Evt.succ (fun k => ?_) n1
      rw [kerbsuitelaw12_DatabaseKeeps.j5, if_pos (by omega), if_pos (by rw [List.length_set]; omega), hx', if_neg (by simp), e1]
    by_cases cj : c = j
    · subst cj
      obtain ⟨hz, b, hb, hcv⟩ := hf.1 _ (List.getElem_mem hlt)
      have hk := (again_kvno (good_kvno hcv).2.2.1 K).1
      have h5 := j5 (again s[c] K) (by rw [rd_set hlt, if_pos rfl])
      refine Evt.succ (fun k => ?_) h5
      rw [kerbsuitelaw12_DatabaseKeeps.l0, if_pos (by omega), if_pos (by omega), if_pos rfl, e2, hK, Option.bind_some, rd35 hlt, ← hk]
      rfl
    · have h5 := j5 s[j] (by rw [rd_set hlt, if_neg cj])
      refine Evt.succ (fun k => ?_) h5
      rw [kerbsuitelaw12_DatabaseKeeps.l0, if_pos (by omega), if_pos (by omega), if_neg (by omega), rd35 hlt]
theorem keeps_j2 {x2 : Int} (hx : 0 ≤ x2 ∧ x2 ≤ 255) {ib : ByteArray} {s : List S35} (hr : ib.size ≤ 9223372036854775807) (hv : vRealm ib = true) (hl : s.length ≤ 60) (hf : Fine s) : Evt (fun k => kerbsuitelaw12_DatabaseKeeps.j2 k x2 false ib s) true := by
  have e2 : wrap64 x2 = x2 := w64 (by omega) (by omega)
  by_cases z : (s.length : Int) = 0
  · exact Evt.succ (g := fun _ => some true) (fun k => by rw [kerbsuitelaw12_DatabaseKeeps.j2, if_neg (by simp), if_pos z]) Evt.const
  · have hk0 : (0 : Int) ≤ Int.tmod x2 (s.length : Int) := Int.tmod_nonneg _ hx.1
    have hk1 : Int.tmod x2 (s.length : Int) < (s.length : Int) := Int.tmod_lt_of_pos _ (by omega)
    obtain ⟨c, hc⟩ := Int.eq_ofNat_of_zero_le hk0
    have hcl : c < s.length := by omega
    obtain ⟨K, hK⟩ : ∃ K, kerbsuitedata_Long.f x2 = some K := ⟨_, rfl⟩
    have hKv : key_Valid.f K = some true := by
      unfold kerbsuitedata_Long.f at hK
      obtain rfl := Option.some.inj hK
      exact byte_key hx.1 (by omega)
    have hrk := rekey_ev hr hv hl hf hcl hKv
    have hfs : Fine (s.set c (again s[c] K)) := fine_set hf hcl (again_good (hf.1 _ (List.getElem_mem hcl)) hKv) rfl rfl
    have hck := fine_check hr hv (l := s.set c (again s[c] K)) (by rw [List.length_set]; exact hl) hfs
    have hlp := keeps_loop hx ib ib hl hf hcl hK s.length 0 (by omega) (by omega)
    have j3 : Evt (fun k => kerbsuitelaw12_DatabaseKeeps.j3 k x2 (c : Int) false ib s ib (s.set c (again s[c] K))) true := Evt.succ (fun k => by rw [kerbsuitelaw12_DatabaseKeeps.j3, if_neg (by simp)]; rfl) hlp
    refine Evt.succ (g := fun k => (database_Rekey.f k ib s (c : Int) K).bind fun Y => (if Y.2.2 = 0 then ((database_Check.f k Y.1 Y.2.1).bind fun H => (if H = 0 then (kerbsuitelaw12_DatabaseKeeps.j3 k x2 (c : Int) ((Y.2.1.length : Int) != (s.length : Int)) ib s Y.1 Y.2.1) else (kerbsuitelaw12_DatabaseKeeps.j3 k x2 (c : Int) true ib s Y.1 Y.2.1))) else (kerbsuitelaw12_DatabaseKeeps.j3 k x2 (c : Int) true ib s Y.1 Y.2.1))) (fun k => ?_) (Evt.bind hrk ?_)
    · rw [kerbsuitelaw12_DatabaseKeeps.j2, if_neg (by simp), if_neg z, e2, hK, Option.bind_some, hc]
    · simp only [if_true]
      refine Evt.bind hck ?_
      simp only [if_true, List.length_set, bne_self_eq_false]
      exact j3
theorem keeps_j1 {x2 : Int} (hx : 0 ≤ x2 ∧ x2 ≤ 255) {ib q : ByteArray} {s : List S35} (hr : ib.size ≤ 9223372036854775807) (hv : vRealm ib = true) (hl : s.length ≤ 60) (hf : Fine s) (E : S35) {i : Nat} (hi : i ≤ s.length) :
    Evt (fun k => kerbsuitelaw12_DatabaseKeeps.j1 k x2 (fnd E.f0 E.f1 s 0 (-1)).2 (fnd E.f0 E.f1 (s.take i ++ [E] ++ s.drop i) 0 (-1)).1 (fnd E.f0 E.f1 (s.take i ++ [E] ++ s.drop i) 0 (-1)).2 false ib s E.f0 E.f1 E.f2 E.f3 E.f4 E.f5 E.f6 E.f7 E.f8 q (s.take i ++ [E] ++ s.drop i)) true := by
  have h2 := keeps_j2 hx hr hv hl hf
  have hlen : (s.take i ++ [E] ++ s.drop i).length = s.length + 1 := by simp only [List.length_append, List.length_take, List.length_drop, List.length_singleton]; omega
  have hrd : rd_T35 (s.take i ++ [E] ++ s.drop i) (i : Int) = E := by
    have hg : (s.take i ++ [E] ++ s.drop i)[i]? = some E := by
      have := ins_get s E i hi i
      rw [List.nil_append, if_neg (by omega), if_pos rfl] at this
      exact this
    obtain ⟨h, e⟩ := List.getElem?_eq_some_iff.1 hg
    rw [rd35 h, e]
  rcases find_ins s E i hi with ⟨h8, hf2⟩ | ⟨h8, hf9⟩
  · rw [h8, hf2]
    refine Evt.succ (fun k => ?_) h2
    dsimp only
    rw [kerbsuitelaw12_DatabaseKeeps.j1, if_neg (by simp), if_pos rfl, if_pos rfl, if_neg (by omega), if_neg (by omega), if_pos (by omega), if_pos (by omega), hrd, if_neg (by simp)]
  · rw [hf9]
    refine Evt.succ (fun k => ?_) h2
    rw [kerbsuitelaw12_DatabaseKeeps.j1, if_neg (by simp), if_neg h8]
    rfl
theorem DatabaseKeeps : kerbsuitelaw12_DatabaseKeeps.Pure := by
  intro l0 l1 a2 _ _ hb _ _ hc ha
  have w2 := u8_of ha
  have yes : Evt (fun k => kerbsuitelaw12_DatabaseKeeps.j0 k l0 l1 a2 true) true := Evt.succ (g := fun _ => some true) (fun k => by rw [kerbsuitelaw12_DatabaseKeeps.j0, if_pos rfl]) Evt.const
  have this : Evt (fun k => kerbsuitelaw12_DatabaseKeeps.f k l0 l1 a2) true := by
    refine Evt.bind awake_ev ?_
    simp only [if_true]
    by_cases c0 : (l0.length : Int) > 300
    · simp only [if_pos c0]; exact yes
    simp only [if_neg c0]
    by_cases c1 : (l1.length : Int) > 20
    · simp only [decide_eq_true c1]; exact yes
    simp only [decide_eq_false c1]
    have hB : Bytes l0 := ⟨by omega, fun x hx => u8_of (hb x hx)⟩
    have hC : Bytes l1 := ⟨by omega, fun x hx => u8_of (hc x hx)⟩
    obtain ⟨o, ho, ov, oz, ol, of_⟩ := good_ev hB (n := 0) (by omega)
    obtain ⟨e, he, hg, _⟩ := entry_good hC (j := 0) (by omega) (by omega)
    obtain ⟨E, hEe⟩ : ∃ E : S35, E = ⟨e.1, e.2.1, e.2.2.1, e.2.2.2.1, e.2.2.2.2.1, e.2.2.2.2.2.1, e.2.2.2.2.2.2.1, e.2.2.2.2.2.2.2.1, e.2.2.2.2.2.2.2.2.1⟩ := ⟨_, rfl⟩
    have hE : GoodE E := by rw [hEe]; exact good_ce (x := ⟨e.1, e.2.1, e.2.2.1, e.2.2.2.1, e.2.2.2.2.1, e.2.2.2.2.2.1, e.2.2.2.2.2.2.1, e.2.2.2.2.2.2.2.1, e.2.2.2.2.2.2.2.2.1⟩) hg
    have p0 : e.1 = E.f0 := by rw [hEe]
    have p1 : e.2.1 = E.f1 := by rw [hEe]
    have p2 : e.2.2.1 = E.f2 := by rw [hEe]
    have p3 : e.2.2.2.1 = E.f3 := by rw [hEe]
    have p4 : e.2.2.2.2.1 = E.f4 := by rw [hEe]
    have p5 : e.2.2.2.2.2.1 = E.f5 := by rw [hEe]
    have p6 : e.2.2.2.2.2.2.1 = E.f6 := by rw [hEe]
    have p7 : e.2.2.2.2.2.2.2.1 = E.f7 := by rw [hEe]
    have p8 : e.2.2.2.2.2.2.2.2.1 = E.f8 := by rw [hEe]
    have hfd : ∀ l : List S35, l.length ≤ 61 → Evt (fun k => database_Find.f k o.1 l E.f0 E.f1) (fnd E.f0 E.f1 l 0 (-1)) := fun l hl => find_loop E.f0 E.f1 l (by simp only [maxLen]; omega) _ 0 (-1) (by omega) rfl
    refine Evt.succ (fun k => by rw [kerbsuitelaw12_DatabaseKeeps.j0, if_neg (by simp)]) (Evt.bind ho (Evt.bind he ?_))
    simp only [p0, p1, p2, p3, p4, p5, p6, p7, p8]
    refine Evt.bind (hfd o.2 (by omega)) ?_
    by_cases hfull : o.2.length = 60
    · refine Evt.bind (add_full (by omega) ov hfull of_ hE) ?_
      simp only [if_pos (show (o.2.length : Int) = 60 by omega), beq_self_eq_true]
      exact Evt.const
    · obtain ⟨i, hi, hfi, hadd⟩ := add_ev (r := o.1) (by omega) ov (by omega) of_ hE
      have hlen : (o.2.take i ++ [E] ++ o.2.drop i).length = o.2.length + 1 := by simp only [List.length_append, List.length_take, List.length_drop, List.length_singleton]; omega
      refine Evt.bind hadd ?_
      simp only [if_neg (show ¬ (o.2.length : Int) = 60 by omega)]
      refine Evt.bind (hfd _ (by omega)) ?_
      simp only [if_true]
      refine Evt.bind (fine_check (by omega) ov (by omega) hfi) ?_
      have e1 : wrap64 ((o.2.length : Int) + 1) = ((o.2.length + 1 : Nat) : Int) := by rw [w64 (by omega) (by omega)]; rfl
      simp only [if_true, hlen, e1, bne_self_eq_false]
      exact keeps_j1 w2 (by omega) ov ol of_ E hi
  exact this.ex
end Go.Proofs.YthfdfoigoomaoaaDoor.Pure
