/- What a principal is formatted to, and that this is parsed back: the plain part of PrincipalFormats. -/
import Derived.Test.YtmgcfnialfjphaaCore
import Derived.Test.YtmgcfnialfjphaaPPrinx8
namespace Go.Proofs.Ytmgcfnialfjphaa.Pure
open Go Go.RowKit Go.Proofs.Ytmgcfnialfjphaa.PPrin Go.Proofs.Ytmgcfnialfjphaa.Core Go.Proofs.YtmgcfnialfjphaaW.PrintWords Go.Proofs.YtmgcfnialfjphaaW.PrintLast Go.Proofs.YtmgcfnialfjphaaW.PrintMore
set_option linter.unusedVariables false
theorem ix_app (c : UInt8) (y : List UInt8) : ∀ x : List UInt8, c ∉ x → Lib.indexByte (x ++ c :: y) c = x.length
  | [], _ => by
    show Lib.indexByte (c :: y) c = 0
    unfold Lib.indexByte
    rw [if_pos (show (c == c) = true from beq_self_eq_true c)]
  | a :: x, h => by
    have h1 : a ≠ c := fun e => h (by rw [e]; exact List.mem_cons_self ..)
    have ih := ix_app c y x (fun m => h (List.mem_cons_of_mem _ m))
    show Lib.indexByte (a :: (x ++ c :: y)) c = _
    unfold Lib.indexByte
    rw [if_neg (show ¬ (a == c) = true by simpa using h1), ih, if_neg (show ¬ ((x.length : Int) == -1) = true by simp)]
    simp
theorem ix_no (c : UInt8) : ∀ x : List UInt8, c ∉ x → Lib.indexByte x c = -1
  | [], _ => rfl
  | a :: x, h => by
    have h1 : a ≠ c := fun e => h (by rw [e]; exact List.mem_cons_self ..)
    have ih := ix_no c x (fun m => h (List.mem_cons_of_mem _ m))
    unfold Lib.indexByte
    rw [if_neg (show ¬ (a == c) = true by simpa using h1), ih]
    rfl
theorem bs_app (a b : ByteArray) : bs (a ++ b) = bs a ++ bs b := by simp [bs]
theorem bs_one (c : UInt8) : bs ⟨#[c]⟩ = [c] := rfl
theorem bs_ext (s : ByteArray) (i j : Nat) : bs (s.extract i j) = ((bs s).take j).drop i := by
  simp only [bs, ByteArray.data_extract, Array.toList_extract]
  rw [List.extract_eq_take_drop, List.drop_take]
theorem cut_app (c : UInt8) (a b : ByteArray) (h : c ∉ bs a) : cutAt c ((a ++ (⟨#[c]⟩ : ByteArray)) ++ b) = (a, b, true) := by
  have e : bs ((a ++ (⟨#[c]⟩ : ByteArray)) ++ b) = bs a ++ c :: bs b := by rw [bs_app, bs_app, bs_one, List.append_assoc]; rfl
  have ei := ix_app c (bs b) (bs a) h
  have hl := bs_len a
  unfold cutAt
  rw [e, ei, if_pos (by omega)]
  have e1 : ((a ++ (⟨#[c]⟩ : ByteArray)) ++ b).extract 0 ((bs a).length : Int).toNat = a := by
    apply bs_inj
    rw [bs_ext, e]
    simp
  have e2 : ((a ++ (⟨#[c]⟩ : ByteArray)) ++ b).extract (((bs a).length : Int).toNat + 1) ((a ++ (⟨#[c]⟩ : ByteArray)) ++ b).size = b := by
    apply bs_inj
    rw [bs_ext, ← bs_len, List.take_length, e, Int.toNat_natCast, List.drop_append, List.drop_eq_nil_of_le (by omega), Nat.add_sub_cancel_left]
    rfl
  rw [e1, e2]
theorem cut_no (c : UInt8) (a : ByteArray) (h : c ∉ bs a) : cutAt c a = (a, ⟨#[]⟩, false) := by
  unfold cutAt
  rw [ix_no c _ h, if_neg (by decide)]
theorem chk_not {bad l : List UInt8} (h : chk bad l = true) {c : UInt8} (hc : c ∈ bad) : c ∉ l := by
  intro hm
  unfold chk at h
  rw [Bool.and_eq_true, List.all_eq_true] at h
  have := h.1 c hm
  simp [okc] at this
  exact this.2 hc
theorem chk_len {bad l : List UInt8} (h : chk bad l = true) : l.length ≤ 39 := by
  unfold chk at h
  rw [Bool.and_eq_true] at h
  exact of_decide_eq_true h.2
/-- What a principal is formatted to. -/
def fmt (n i r : ByteArray) : ByteArray × Int :=
  if vld n i r = true then if i.toList = ([] : List UInt8) then ((n ++ (⟨#[64]⟩ : ByteArray)) ++ r, 0) else ((((n ++ (⟨#[46]⟩ : ByteArray)) ++ i) ++ (⟨#[64]⟩ : ByteArray)) ++ r, 0) else (⟨#[]⟩, 103)
section
variable (m : Nat) {n i r : ByteArray} (hn : n.size ≤ 100) (hi : i.size ≤ 100) (hr : r.size ≤ 100)
include hn hi hr
theorem fmt_some : principal_Format.f (m + 6000) n i r = some (fmt n i r) ∧ kerbsuiteref1_Format.f (m + 6000) n i r = some (fmt n i r) := by
  unfold principal_Format.f kerbsuiteref1_Format.f fmt
  rw [valid_some m (by omega) (by omega) (by omega), rvalid_some m (by omega) (by omega) (by omega)]
  simp only [Option.bind_some]
  by_cases v : vld n i r = true
  · have one : ∀ c : UInt8, (⟨#[c]⟩ : ByteArray).size = 1 := fun c => rfl
    refine ⟨?_, ?_⟩ <;>
    · rw [if_pos v, if_pos v]
      by_cases e : i.toList = ([] : List UInt8)
      · rw [if_pos e, if_pos e, if_pos (by omega), if_pos (by rw [ByteArray.size_append, one]; omega)]
      · rw [if_neg e, if_neg e, if_pos (by omega), if_pos (by simp only [ByteArray.size_append, one]; omega), if_pos (by simp only [ByteArray.size_append, one]; omega), if_pos (by simp only [ByteArray.size_append, one]; omega)]
  · refine ⟨?_, ?_⟩ <;> rw [if_neg v, if_neg v]
theorem fmt_size : (fmt n i r).1.size ≤ 1000 := by
  have one : ∀ c : UInt8, (⟨#[c]⟩ : ByteArray).size = 1 := fun c => rfl
  unfold fmt
  split
  · split
    · simp only [ByteArray.size_append, one]; omega
    · simp only [ByteArray.size_append, one]; omega
  · decide
end
theorem nil_of {i : ByteArray} (e : i.toList = ([] : List UInt8)) : i = ⟨#[]⟩ := by
  rw [toL] at e
  exact bs_inj (show i.data.toList = (⟨#[]⟩ : ByteArray).data.toList from e)
theorem back {n i r : ByteArray} (x : ByteArray) (v : vld n i r = true) : prs (fmt n i r).1 x = (n, i, r, 0) := by
  have v2 := v
  unfold vld at v2
  rw [Bool.and_eq_true, Bool.and_eq_true] at v2
  obtain ⟨vn, vi, vr⟩ := v2
  unfold vName at vn
  unfold vInst at vi
  rw [Bool.and_eq_true] at vn
  have n64 : (64 : UInt8) ∉ bs n := chk_not vn.2 (by simp)
  have n46 : (46 : UInt8) ∉ bs n := chk_not vn.2 (by simp)
  have i64 : (64 : UInt8) ∉ bs i := chk_not vi (by simp)
  unfold fmt
  rw [if_pos v]
  by_cases e : i.toList = ([] : List UInt8)
  · obtain rfl := nil_of e
    rw [if_pos e]
    unfold prs
    simp only
    rw [cut_app 64 n r n64]
    simp only
    rw [cut_no 46 n n46]
    simp only [if_true]
    rw [if_pos v]
  · rw [if_neg e]
    unfold prs
    simp only
    rw [cut_app 64 ((n ++ (⟨#[46]⟩ : ByteArray)) ++ i) r (by
      rw [bs_app, bs_app, bs_one]
      simp only [List.mem_append, List.mem_singleton, not_or]
      exact ⟨⟨n64, by decide⟩, i64⟩)]
    simp only
    rw [cut_app 46 n i n46]
    simp only [if_true]
    rw [if_pos v]
theorem PrincipalFormats : kerbsuitelaw1_PrincipalFormats.Pure := by
  intro n i r a _ _ _ _
  have j0 : ∀ t, (t = false → n.size ≤ 100 ∧ i.size ≤ 100 ∧ r.size ≤ 100 ∧ a.size ≤ 100) → kerbsuitelaw1_PrincipalFormats.j0 (6001 + 1) a t n i r = some true := by
    intro t ht
    rw [kerbsuitelaw1_PrincipalFormats.j0]
    cases t with
    | true => rw [if_pos rfl]
    | false =>
      obtain ⟨u0, u1, u2, u3⟩ := ht rfl
      have hf := fmt_some 1 u0 u1 u2
      rw [if_neg (by decide), show 6001 = 1 + 6000 from rfl, hf.1, Option.bind_some, hf.2, Option.bind_some, if_pos rfl, if_pos rfl, show 1 + 6000 = 0 + 6001 from rfl, parse_some 0 (fmt_size u0 u1 u2) (by omega), Option.bind_some]
      by_cases v : vld n i r = true
      · rw [back a v, if_pos (show (fmt n i r).2 = 0 by unfold fmt; rw [if_pos v]; split <;> rfl), if_pos rfl, beq_self_eq_true, beq_self_eq_true, beq_self_eq_true]
        rfl
      · rw [if_neg (show ¬ (fmt n i r).2 = 0 by unfold fmt; rw [if_neg v]; decide)]
  refine ⟨6001 + 1, ?_⟩
  unfold kerbsuitelaw1_PrincipalFormats.f
  rw [awake_some 1, Option.bind_some, if_pos rfl, long_some, Option.bind_some]
  split
  · exact j0 true (fun z => by cases z)
  · rename_i h
    have h' := long_false h
    apply j0
    intro z
    have := of_decide_eq_false z
    exact ⟨h'.1, h'.2.1, h'.2.2, by omega⟩
end Go.Proofs.Ytmgcfnialfjphaa.Pure
