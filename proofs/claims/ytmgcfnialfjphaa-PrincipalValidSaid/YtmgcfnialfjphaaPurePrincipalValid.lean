/- Which texts are valid names, instances and realms, by the program and by the reference: the plain part of PrincipalValid. -/
import Derived.Test.YtmgcfnialfjphaaCore
import Derived.Test.YtmgcfnialfjphaaPPrinx2
import Derived.Test.YtmgcfnialfjphaaPPrinx4
namespace Go.Proofs.Ytmgcfnialfjphaa.Pure
open Go Go.RowKit Go.Proofs.Ytmgcfnialfjphaa.PPrin Go.Proofs.Ytmgcfnialfjphaa.Core Go.Proofs.YtmgcfnialfjphaaW.PrintWords Go.Proofs.YtmgcfnialfjphaaW.PrintLast Go.Proofs.YtmgcfnialfjphaaW.PrintMore
set_option linter.unusedVariables false

theorem str_grows (n at_ c : Int) (hn : n ≤ 60) (d : Nat) : ∀ (k : Nat) (s : ByteArray) (i : Int), 0 ≤ i → (n - i).toNat = d → s.size + d ≤ 100 → d < k → ∃ r, kerbsuitelaw1_stretched.l0 k n at_ c s i = some r ∧ r.size ≤ 100 := by
  induction d with
  | zero =>
    intro k s i hi hd hs hk
    obtain ⟨k, rfl⟩ : ∃ m, k = m + 1 := ⟨k - 1, by omega⟩
    rw [kerbsuitelaw1_stretched.l0, if_neg (by omega)]
    exact ⟨_, rfl, by omega⟩
  | succ d ih =>
    intro k s i hi hd hs hk
    obtain ⟨k, rfl⟩ : ∃ m, k = m + 1 := ⟨k - 1, by omega⟩
    rw [kerbsuitelaw1_stretched.l0, if_pos (by omega), w64 (by omega) (by omega)]
    by_cases e : i = at_
    · rw [if_pos e, Option.bind_some, strOfNums_size, if_pos (by simp; omega)]
      exact ih k _ _ (by omega) (by omega) (by rw [ByteArray.size_append, strOfNums_size]; simp; omega) (by omega)
    · rw [if_neg e, if_pos (by omega)]
      exact ih k _ _ (by omega) (by omega) (by rw [ByteArray.size_append]; show s.size + 1 + d ≤ 100; omega) (by omega)
theorem str_some (m : Nat) (n at_ c : Int) (hn : n ≤ 60) : ∃ r, kerbsuitelaw1_stretched.f (m + 100) n at_ c = some r ∧ r.size ≤ 100 := by
  unfold kerbsuitelaw1_stretched.f
  exact str_grows n at_ c hn (n - 0).toNat (m + 100) _ 0 (by omega) rfl (by show 0 + (n - 0).toNat ≤ 100; omega) (by omega)
theorem valid_loop (L : List ByteArray) (hL : ∀ s ∈ L, s.size ≤ 1000) (hn : L.length ≤ 3) {p q r : ByteArray} (hp : p.size ≤ 1000) (hq : q.size ≤ 1000) (hr : r.size ≤ 1000) (d : Nat) : ∀ (k : Nat) (i : Int), 0 ≤ i → i ≤ L.length → ((L.length : Int) - i).toNat = d → d + 6001 ≤ k → kerbsuitelaw1_PrincipalValid.l0 k L i p q r = some true := by
  induction d with
  | zero =>
    intro k i hi0 hi1 hd hk
    obtain ⟨k, rfl⟩ : ∃ m, k = (m + 6000) + 1 := ⟨k - 6001, by omega⟩
    rw [kerbsuitelaw1_PrincipalValid.l0, if_neg (by omega), valid_some k hp hq hr, Option.bind_some, rvalid_some k hp hq hr, Option.bind_some, beq_self_eq_true]
  | succ d ih =>
    intro k i hi0 hi1 hd hk
    obtain ⟨k, rfl⟩ : ∃ m, k = (m + 6000) + 1 := ⟨k - 6001, by omega⟩
    have hlt : i.toNat < L.length := by omega
    have hB : (rdOf ByteArray.empty L i).size ≤ 1000 := by
      unfold rdOf
      rw [List.getD_eq_getElem?_getD, List.getElem?_eq_getElem hlt]
      exact hL _ (List.getElem_mem hlt)
    rw [kerbsuitelaw1_PrincipalValid.l0, if_pos (show i < (L.length : Int) by omega), if_pos hi0, name_some k hB, Option.bind_some, rname_some k hB, Option.bind_some, bne_self_eq_false, if_neg (by decide), inst_some k hB, Option.bind_some, rinst_some k hB, Option.bind_some, bne_self_eq_false, if_neg (by decide), realm_some k hB, Option.bind_some, rrealm_some k hB, Option.bind_some, bne_self_eq_false, if_neg (by decide), w64 (by omega) (by omega)]
    exact ih _ _ (by omega) (by omega) (by omega) (by omega)
theorem PrincipalValid : kerbsuitelaw1_PrincipalValid.Pure := by
  intro a0 a1 a2 a3 p q r _ h1 h2 _ _ _ _
  have b1 := bounds_u8 h1
  have b2 := bounds_u8 h2
  have j0 : ∀ t, (t = false → a0.size ≤ 100 ∧ p.size ≤ 100 ∧ q.size ≤ 100 ∧ r.size ≤ 100) → kerbsuitelaw1_PrincipalValid.j0 (6100 + 1) a0 a1 a2 a3 t p q r = some true := by
    intro t ht
    rw [kerbsuitelaw1_PrincipalValid.j0]
    cases t with
    | true => rw [if_pos rfl]
    | false =>
      obtain ⟨u0, u1, u2, u3⟩ := ht rfl
      have e1 : wrap64 a1 = a1 := w64 (by omega) (by omega)
      have t1 : Int.tmod a1 43 = a1 % 43 := Int.tmod_eq_emod_of_nonneg b1.1
      have t2 : Int.tmod a1 2 = a1 % 2 := Int.tmod_eq_emod_of_nonneg b1.1
      rw [if_neg (by decide), e1, t1, t2, w64 (n := 39 + a1 % 2) (by omega) (by omega)]
      obtain ⟨x, hx, sx⟩ := str_some 6000 (a1 % 43) (Int.tmod (wrap64 a2) 43) a3 (by omega)
      obtain ⟨y, hy, sy⟩ := str_some 6000 (39 + a1 % 2) (Int.tmod (wrap64 a2) 45) a3 (by omega)
      rw [hx, Option.bind_some, hy, Option.bind_some]
      refine valid_loop _ ?_ (by simp) (by omega) (by omega) (by omega) 3 _ 0 (by omega) (by simp) (by simp) (by omega)
      intro s hs
      simp only [List.mem_cons, List.not_mem_nil, or_false] at hs
      rcases hs with rfl | rfl | rfl <;> omega
  refine ⟨6100 + 1, ?_⟩
  unfold kerbsuitelaw1_PrincipalValid.f
  rw [awake_some 100, Option.bind_some, if_pos rfl, long_some, Option.bind_some]
  by_cases h : (a0.size : Int) > 100
  · rw [if_pos h, j0 true (fun z => by cases z)]
  · rw [if_neg h]
    apply j0
    intro z
    have := long_false (a := p) (b := q) (c := r) (by rw [z]; decide)
    exact ⟨by omega, this⟩
end Go.Proofs.Ytmgcfnialfjphaa.Pure
