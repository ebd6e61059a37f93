/- What any text is parsed to, by the program and by the reference: the plain part of PrincipalParses. -/
import Derived.Test.YtmgcfnialfjphaaCore
import Derived.Test.YtmgcfnialfjphaaPPrinx6
namespace Go.Proofs.Ytmgcfnialfjphaa.Pure
open Go Go.RowKit Go.Proofs.Ytmgcfnialfjphaa.PPrin Go.Proofs.Ytmgcfnialfjphaa.Core Go.Proofs.YtmgcfnialfjphaaW.PrintWords Go.Proofs.YtmgcfnialfjphaaW.PrintLast Go.Proofs.YtmgcfnialfjphaaW.PrintMore
set_option linter.unusedVariables false

theorem parses_two (x1 : ByteArray) (h1 : x1.size ≤ 1000) (L : List ByteArray) (hL : ∀ s ∈ L, s.size ≤ 1000) (i : Int) (hi0 : 0 ≤ i) (hi1 : i < L.length) (d : Nat) : ∀ (k : Nat) (j : Int), 0 ≤ j → j ≤ 2 → (2 - j).toNat = d → kerbsuitelaw1_PrincipalParses.l2 (k + 6001 + d + 1) x1 L i j = kerbsuitelaw1_PrincipalParses.l1 (k + 6001) x1 L (wrap64 (i + 1)) := by
  induction d with
  | zero =>
    intro k j hj0 hj1 hd
    rw [kerbsuitelaw1_PrincipalParses.l2, if_neg (by omega)]
  | succ d ih =>
    intro k j hj0 hj1 hd
    have hlt : i.toNat < L.length := by omega
    have hB : (rdOf ByteArray.empty L i).size ≤ 1000 := by
      unfold rdOf
      rw [List.getD_eq_getElem?_getD, List.getElem?_eq_getElem hlt]
      exact hL _ (List.getElem_mem hlt)
    have hR : (rdOf ByteArray.empty [x1, (⟨#[65, 84, 72, 69, 78, 65]⟩ : ByteArray)] j).size ≤ 1000 := by
      have : j = 0 ∨ j = 1 := by omega
      rcases this with rfl | rfl
      · exact h1
      · show (⟨#[65, 84, 72, 69, 78, 65]⟩ : ByteArray).size ≤ 1000
        decide
    have e : k + 6001 + (d + 1) = (k + d + 1) + 6001 := by omega
    rw [kerbsuitelaw1_PrincipalParses.l2, if_pos (by omega), Option.bind_some, if_pos hj0, if_pos (by simp; omega), if_pos hi0, if_pos hi1, e]
    rw [show (k + d + 1) + 6001 = (k + d + 1 + 0) + 6001 from rfl, parse_some (k + d + 1 + 0) hB hR, Option.bind_some, rparse_some (k + d + 1 + 0) hB hR, Option.bind_some]
    rw [if_neg (by simp), if_pos rfl, w64 (by omega) (by omega), ← ih k (j + 1) (by omega) (by omega) (by omega)]
    congr 1
    omega
theorem parses_loop (x1 : ByteArray) (h1 : x1.size ≤ 1000) (L : List ByteArray) (hL : ∀ s ∈ L, s.size ≤ 1000) (hn : L.length ≤ 3) (d : Nat) : ∀ (k : Nat) (i : Int), 0 ≤ i → i ≤ L.length → ((L.length : Int) - i).toNat = d → kerbsuitelaw1_PrincipalParses.l1 (k + 6001 + 4 * d) x1 L i = some true := by
  induction d with
  | zero =>
    intro k i hi0 hi1 hd
    rw [show k + 6001 + 4 * 0 = (k + 6000) + 1 from by omega, kerbsuitelaw1_PrincipalParses.l1, if_neg (by omega)]
  | succ d ih =>
    intro k i hi0 hi1 hd
    rw [show k + 6001 + 4 * (d + 1) = ((k + 4 * d) + 6001 + 2 + 1) + 1 from by omega, kerbsuitelaw1_PrincipalParses.l1, if_pos (by omega), parses_two x1 h1 L hL i hi0 (by omega) 2 (k + 4 * d) 0 (by omega) (by omega) (by decide), w64 (by omega) (by omega), show k + 4 * d + 6001 = k + 6001 + 4 * d from by omega]
    exact ih k (i + 1) (by omega) (by omega) (by omega)
theorem made_loop (x0 x1 : ByteArray) (h0 : x0.size ≤ 1000) (h1 : x1.size ≤ 100) (x2 : List Int) (hn : x2.length ≤ 40) (hb : ∀ x ∈ x2, 0 ≤ x ∧ x ≤ 255) (d : Nat) : ∀ (k : Nat) (s : ByteArray) (i : Int), 0 ≤ i → i ≤ x2.length → ((x2.length : Int) - i).toNat = d → s.size + 3 * d ≤ 120 → kerbsuitelaw1_PrincipalParses.l0 (k + 6013 + d + 1) x0 x1 x2 s i = some true := by
  induction d with
  | zero =>
    intro k s i hi0 hi1 hd hs
    have z : (s ++ (⟨#[64]⟩ : ByteArray)).size = s.size + 1 := by rw [ByteArray.size_append]; rfl
    rw [kerbsuitelaw1_PrincipalParses.l0, if_neg (by omega), if_pos (by omega), if_pos (by omega)]
    refine parses_loop x1 (by omega) _ ?_ (by simp) 3 k 0 (by omega) (by simp) (by simp)
    intro t ht
    simp only [List.mem_cons, List.not_mem_nil, or_false] at ht
    rcases ht with rfl | rfl | rfl
    · exact h0
    · omega
    · rw [ByteArray.size_append]; omega
  | succ d ih =>
    intro k s i hi0 hi1 hd hs
    have hlt : i.toNat < x2.length := by omega
    have hB : 0 ≤ rd x2 i ∧ rd x2 i ≤ 255 := by
      unfold rd
      rw [List.getD_eq_getElem?_getD, List.getElem?_eq_getElem hlt]
      exact hb _ (List.getElem_mem hlt)
    have ht : Int.tmod (rd x2 i) 8 = rd x2 i % 8 := Int.tmod_eq_emod_of_nonneg hB.1
    rw [kerbsuitelaw1_PrincipalParses.l0, if_pos (by omega), Option.bind_some, if_pos hi0, ht, if_pos (by omega), if_pos (by simp; omega)]
    have hq : 0 ≤ rd x2 i % 8 ∧ rd x2 i % 8 < 8 := by omega
    generalize rd x2 i % 8 = q at hq ⊢
    have hz : (rdOf ByteArray.empty ([(⟨#[97, 110, 110]⟩ : ByteArray), (⟨#[46]⟩ : ByteArray), (⟨#[64]⟩ : ByteArray), (⟨#[120]⟩ : ByteArray), (⟨#[77, 73, 84]⟩ : ByteArray), (⟨#[57]⟩ : ByteArray), (⟨#[]⟩ : ByteArray), (⟨#[32]⟩ : ByteArray)] : List ByteArray) q).size ≤ 3 := by
      have : q = 0 ∨ q = 1 ∨ q = 2 ∨ q = 3 ∨ q = 4 ∨ q = 5 ∨ q = 6 ∨ q = 7 := by omega
      rcases this with rfl | rfl | rfl | rfl | rfl | rfl | rfl | rfl <;> decide
    generalize rdOf ByteArray.empty ([(⟨#[97, 110, 110]⟩ : ByteArray), (⟨#[46]⟩ : ByteArray), (⟨#[64]⟩ : ByteArray), (⟨#[120]⟩ : ByteArray), (⟨#[77, 73, 84]⟩ : ByteArray), (⟨#[57]⟩ : ByteArray), (⟨#[]⟩ : ByteArray), (⟨#[32]⟩ : ByteArray)] : List ByteArray) q = t at hz ⊢
    rw [if_pos (by omega), w64 (by omega) (by omega)]
    exact ih k _ _ (by omega) (by omega) (by omega) (by rw [ByteArray.size_append]; omega)
theorem PrincipalParses : kerbsuitelaw1_PrincipalParses.Pure := by
  intro a0 a1 l2 _ _ _ _ w2
  have j0 : ∀ t, (t = false → a0.size ≤ 200 ∧ a1.size ≤ 100 ∧ l2.length ≤ 40) → ∀ m, m = l2.length → kerbsuitelaw1_PrincipalParses.j0 (6013 + m + 1 + 1) a0 a1 l2 t = some true := by
    intro t ht m hm
    rw [kerbsuitelaw1_PrincipalParses.j0]
    cases t with
    | true => rw [if_pos rfl]
    | false =>
      obtain ⟨u0, u1, u2⟩ := ht rfl
      rw [if_neg (by decide), show 6013 + m + 1 = 0 + 6013 + m + 1 from by omega]
      exact made_loop a0 a1 (by omega) u1 l2 u2 (fun x hx => bounds_u8 (w2 x hx)) m 0 _ 0 (by omega) (by omega) (by omega) (by show 0 + 3 * m ≤ 120; omega)
  refine ⟨6013 + l2.length + 1 + 1, ?_⟩
  unfold kerbsuitelaw1_PrincipalParses.f
  rw [show 6013 + l2.length + 1 + 1 = (l2.length + 14) + 6001 from by omega, awake_some (l2.length + 14), Option.bind_some, if_pos rfl, show (l2.length + 14) + 6001 = 6013 + l2.length + 1 + 1 from by omega]
  by_cases h : (a0.size : Int) > 200
  · rw [if_pos h, j0 true (fun z => by cases z) _ rfl]
  · rw [if_neg h]
    by_cases h2 : (a1.size : Int) > 100
    · rw [if_pos h2, j0 true (fun z => by cases z) _ rfl]
    · rw [if_neg h2, j0 _ _ _ rfl]
      intro z
      have := of_decide_eq_false z
      exact ⟨by omega, by omega, by omega⟩
end Go.Proofs.Ytmgcfnialfjphaa.Pure
