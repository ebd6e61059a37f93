/- The plain part of DatabaseChecks: what the law computes answers true, for every database, every list of numbers, every change. -/
import Derived.Test.YthfdfoigoomaoaaDoorDbGood
import Derived.Test.YthfdfoigoomaoaaDoorDbLong
import Derived.Test.YthfdfoigoomaoaaDoorPDbx13
namespace Go.Proofs.YthfdfoigoomaoaaDoor.Pure
open Go Go.RowKit Go.Proofs.YthfdfoigoomaoaaDoor.PDb Go.Proofs.YthfdfoigoomaoaaDoor.Core Go.Proofs.YthfdfoigoomaoaaDoorW.PrintWords Go.Proofs.YthfdfoigoomaoaaDoorW.PrintLast Go.Proofs.YthfdfoigoomaoaaDoorW.PrintMore
set_option linter.unusedVariables false

theorem sized_rd {l : List S35} (h : ∀ x ∈ l, Sized x) (i : Int) : Sized (rd_T35 l i) := by
  unfold rd_T35
  rw [List.getD_eq_getElem?_getD]
  cases e : l[i.toNat]? with
  | none => exact ⟨by decide, by decide⟩
  | some x => exact h x (List.mem_of_getElem? e)
theorem sized_set {l : List S35} (h : ∀ x ∈ l, Sized x) (i : Nat) {E : S35} (hE : Sized E) : ∀ x ∈ l.set i E, Sized x := by
  intro x hx
  rcases List.mem_or_eq_of_mem_set hx with hx | rfl
  · exact h x hx
  · exact hE
theorem changed_some {a b s : ByteArray} {c d e f g i o n m : Int} (ha : a.size ≤ 9223372036854775807) (hb : b.size ≤ 9223372036854775807) (hs : s.size ≤ 9223372036854775807) : ∃ Q : ByteArray × ByteArray × Int × Int × Int × Int × Int × Int × Int, kerbsuitelaw12_changed.f a b c d e f g i o n m s = some Q ∧ Q.1.size ≤ 9223372036854775807 ∧ Q.2.1.size ≤ 9223372036854775807 := by
  unfold kerbsuitelaw12_changed.f
  repeat' split
  all_goals exact ⟨_, rfl, by first | exact ha | exact hs, by first | exact hb | exact hs⟩
theorem checks_loop {ad be de : ByteArray} {bd ce : List S35} (h1 : ad.size ≤ 9223372036854775807) (h2 : ∀ x ∈ bd, Sized x) (h3 : be.size ≤ 9223372036854775807) (h4 : ∀ x ∈ ce, Sized x) (h5 : de.size ≤ 9223372036854775807) {x3 : Int} (hx : 0 ≤ x3 ∧ x3 ≤ 255) (d : Nat) : ∀ (i : Nat) (F : List S35), (i : Int) ≤ 60 + Int.tmod x3 2 → 60 + Int.tmod x3 2 - i = d → F.length = i → (∀ x ∈ F, Sized x) → Evt (fun k => kerbsuitelaw12_DatabaseChecks.l0 k x3 (i : Int) ad bd be ce de F) true := by
  have hm0 : (0 : Int) ≤ Int.tmod x3 2 := Int.tmod_nonneg 2 hx.1
  have hm1 : Int.tmod x3 2 < 2 := Int.tmod_lt_of_pos _ (by omega)
  have e3 : wrap64 x3 = x3 := w64 (by omega) (by omega)
  have eN : wrap64 (60 + Int.tmod (wrap64 x3) 2) = 60 + Int.tmod x3 2 := by rw [e3, w64 (by omega) (by omega)]
  induction d with
  | zero =>
    intro i F hi hd hF hs
    obtain ⟨a, a1, a2⟩ := check_both h1 h2
    obtain ⟨b, b1, b2⟩ := check_both h3 h4
    obtain ⟨c, c1, c2⟩ := check_both h5 hs
    refine Evt.succ (fun k => by rw [kerbsuitelaw12_DatabaseChecks.l0, eN, if_neg (by omega)]) (Evt.bind a1 (Evt.bind a2 ?_))
    simp only [if_true]
    refine Evt.bind b1 (Evt.bind b2 ?_)
    simp only [if_true]
    refine Evt.bind c1 (Evt.bind c2 ?_)
    simp only [beq_self_eq_true]
    exact Evt.const
  | succ d ih =>
    intro i F hi hd hF hs
    have := ih (i + 1) (F ++ [⟨⟨#[97, 110, 110]⟩, ⟨#[]⟩, 0, 0, 0, 0, 0, 0, 0⟩]) (by omega) (by omega) (by simp [hF]) (fun x hx => by
      rcases List.mem_append.1 hx with hx | hx
      · exact hs x hx
      · rw [List.mem_singleton.1 hx]; exact ⟨by decide, by decide⟩)
    refine Evt.succ (fun k => ?_) this
    rw [kerbsuitelaw12_DatabaseChecks.l0, eN, if_pos (by omega), if_pos (by omega), w64 (by omega) (by omega)]
    rfl
theorem checks_j2 {x2 x3 : Int} {x5 : ByteArray} (hx2 : 0 ≤ x2 ∧ x2 ≤ 255) (hx : 0 ≤ x3 ∧ x3 ≤ 255) (h5 : x5.size ≤ 9223372036854775807) (m : Int) {W : ByteArray} {X : List S35} (hW : W.size ≤ 9223372036854775807) (hX : ∀ x ∈ X, Sized x) (hl : X.length ≤ 60) : Evt (fun k => kerbsuitelaw12_DatabaseChecks.j2 k x2 x3 x5 m false W X) true := by
  have j3 : ∀ L : List S35, (∀ x ∈ L, Sized x) → Evt (fun k => kerbsuitelaw12_DatabaseChecks.j3 k x3 x5 W X W L) true := by
    intro L hL
    refine Evt.succ (fun k => by rw [kerbsuitelaw12_DatabaseChecks.j3]) ?_
    have hm0 : (0 : Int) ≤ Int.tmod x3 2 := Int.tmod_nonneg 2 hx.1
    exact checks_loop hW hL h5 hX hW hx (60 + Int.tmod x3 2).toNat 0 [] (by omega) (by omega) rfl (fun x hx => by cases hx)
  have e2 : wrap64 x2 = x2 := w64 (by omega) (by omega)
  by_cases c : (X.length : Int) > 0
  · have hk0 : (0 : Int) ≤ Int.tmod x2 (X.length : Int) := Int.tmod_nonneg _ hx2.1
    have hk1 : Int.tmod x2 (X.length : Int) < (X.length : Int) := Int.tmod_lt_of_pos _ c
    have hr := sized_rd hX (Int.tmod x2 (X.length : Int))
    obtain ⟨Q, hQ, q1, q2⟩ := changed_some (c := (rd_T35 X (Int.tmod x2 (X.length : Int))).f2) (d := (rd_T35 X (Int.tmod x2 (X.length : Int))).f3) (e := (rd_T35 X (Int.tmod x2 (X.length : Int))).f4) (f := (rd_T35 X (Int.tmod x2 (X.length : Int))).f5) (g := (rd_T35 X (Int.tmod x2 (X.length : Int))).f6) (i := (rd_T35 X (Int.tmod x2 (X.length : Int))).f7) (o := (rd_T35 X (Int.tmod x2 (X.length : Int))).f8) (n := x3) (m := m) hr.1 hr.2 h5
    have hg := sized_set hX (Int.tmod x2 (X.length : Int)).toNat (E := ⟨Q.1, Q.2.1, Q.2.2.1, Q.2.2.2.1, Q.2.2.2.2.1, Q.2.2.2.2.2.1, Q.2.2.2.2.2.2.1, Q.2.2.2.2.2.2.2.1, Q.2.2.2.2.2.2.2.2⟩) ⟨q1, q2⟩
    refine Evt.succ (fun k => ?_) (j3 _ (sized_set (sized_set hg (0 : Int).toNat (sized_rd hg (Int.tmod x2 (X.length : Int)))) (Int.tmod x2 (X.length : Int)).toNat (sized_rd hg 0)))
    rw [kerbsuitelaw12_DatabaseChecks.j2, if_neg (by simp)]
    simp only [Option.bind_some, List.nil_append, List.length_nil, Nat.zero_add, e2]
    rw [if_pos (by omega), if_pos c, if_neg (by omega), if_pos hk0, if_pos hk1, hQ]
    simp only [Option.bind_some]
    rw [if_pos c]
  · refine Evt.succ (fun k => ?_) (j3 X hX)
    rw [kerbsuitelaw12_DatabaseChecks.j2, if_neg (by simp)]
    simp only [Option.bind_some, List.nil_append, List.length_nil, Nat.zero_add]
    rw [if_pos (by omega), if_neg c]
theorem checks_j1 {x2 x3 x4 : Int} {x5 : ByteArray} (hx2 : 0 ≤ x2 ∧ x2 ≤ 255) (hx : 0 ≤ x3 ∧ x3 ≤ 255) (h5 : x5.size ≤ 9223372036854775807) {W : ByteArray} {X : List S35} (hW : W.size ≤ 9223372036854775807) (hX : ∀ x ∈ X, Sized x) (hl : X.length ≤ 60) : Evt (fun k => kerbsuitelaw12_DatabaseChecks.j1 k x2 x3 x4 x5 false W X) true := by
  have e3 : wrap64 x3 = x3 := w64 (by omega) (by omega)
  have hm0 : (0 : Int) ≤ Int.tmod x3 10 := Int.tmod_nonneg 10 hx.1
  have hm1 : Int.tmod x3 10 < 10 := Int.tmod_lt_of_pos _ (by omega)
  obtain ⟨m, hm⟩ : ∃ m, rd [x4, -1, 0, 256, 255, 21, 20, 4, 4294967295, 4294967296] (Int.tmod x3 10) = m := ⟨_, rfl⟩
  obtain ⟨K, hK⟩ : ∃ K, kerbsuitedata_Long.f 2 = some K := ⟨_, rfl⟩
  obtain ⟨Q, hQ, q1, q2⟩ := changed_some (a := ⟨#[97, 110, 110]⟩) (b := ⟨#[]⟩) (c := K) (d := 0) (e := 0) (f := 0) (g := 0) (i := 0) (o := 0) (n := x2) (m := m) (by decide) (by decide) h5
  obtain ⟨c, c1, c2⟩ := ce_both (x := ⟨Q.1, Q.2.1, Q.2.2.1, Q.2.2.2.1, Q.2.2.2.2.1, Q.2.2.2.2.2.1, Q.2.2.2.2.2.2.1, Q.2.2.2.2.2.2.2.1, Q.2.2.2.2.2.2.2.2⟩) ⟨q1, q2⟩
  obtain ⟨d, d1, d2⟩ := ce_both (x := ⟨x5, ⟨#[]⟩, 0, 0, 0, 0, 0, 0, 0⟩) ⟨h5, (by show (⟨#[]⟩ : ByteArray).size ≤ 9223372036854775807; decide)⟩
  refine Evt.succ (g := fun k => (database_CheckEntry.f k Q.1 Q.2.1 Q.2.2.1 Q.2.2.2.1 Q.2.2.2.2.1 Q.2.2.2.2.2.1 Q.2.2.2.2.2.2.1 Q.2.2.2.2.2.2.2.1 Q.2.2.2.2.2.2.2.2).bind fun p => (kerbsuiteref12_CheckEntry.f k Q.1 Q.2.1 Q.2.2.1 Q.2.2.2.1 Q.2.2.2.2.1 Q.2.2.2.2.2.1 Q.2.2.2.2.2.2.1 Q.2.2.2.2.2.2.2.1 Q.2.2.2.2.2.2.2.2).bind fun q => (if p = q then ((database_CheckEntry.f k x5 (⟨#[]⟩ : ByteArray) 0 0 0 0 0 0 0).bind fun s => ((kerbsuiteref12_CheckEntry.f k x5 (⟨#[]⟩ : ByteArray) 0 0 0 0 0 0 0).bind fun t => (kerbsuitelaw12_DatabaseChecks.j2 k x2 x3 x5 m (s != t) W X))) else (kerbsuitelaw12_DatabaseChecks.j2 k x2 x3 x5 m true W X))) (fun k => ?_) (Evt.bind c1 (Evt.bind c2 ?_))
  · rw [kerbsuitelaw12_DatabaseChecks.j1, if_neg (by simp), e3]
    simp only [Option.bind_some, List.length_cons, List.length_nil]
    rw [if_pos hm0, if_pos (by omega), hK, Option.bind_some, hm, hQ, Option.bind_some]
  · simp only [if_true]
    refine Evt.bind d1 (Evt.bind d2 ?_)
    simp only [bne_self_eq_false]
    exact checks_j2 hx2 hx h5 m hW hX hl
theorem DatabaseChecks : kerbsuitelaw12_DatabaseChecks.Pure := by
  intro a0_0 l0_1 l1 a2 a3 a4 a5 hr hp hpe _ _ hb h2 h3 _ h5
  have w2 := u8_of h2
  have w3 := u8_of h3
  have hr' : a0_0.size ≤ 9223372036854775807 := by simp only [maxLen] at hr; omega
  have hp' : ∀ x ∈ l0_1, Sized x := fun x hx => by
    have := hpe x hx
    simp only [maxLen] at this
    exact ⟨by omega, by omega⟩
  have h5' : a5.size ≤ 9223372036854775807 := by omega
  have yes : Evt (fun k => kerbsuitelaw12_DatabaseChecks.j0 k l1 a2 a3 a4 a5 true a0_0 l0_1) true := Evt.succ (g := fun _ => some true) (fun k => by rw [kerbsuitelaw12_DatabaseChecks.j0, if_pos rfl]) Evt.const
  obtain ⟨b, hlong⟩ := long_ev a0_0 l0_1 hp
  have this : Evt (fun k => kerbsuitelaw12_DatabaseChecks.f k a0_0 l0_1 l1 a2 a3 a4 a5) true := by
    refine Evt.bind awake_ev ?_
    simp only [if_true]
    refine Evt.bind hlong ?_
    by_cases cb : b = true
    · simp only [if_pos cb]; exact yes
    simp only [if_neg cb]
    by_cases c2 : (a5.size : Int) > 100
    · simp only [if_pos c2]; exact yes
    simp only [if_neg c2]
    by_cases c1 : (l1.length : Int) > 700
    · simp only [decide_eq_true c1]; exact yes
    simp only [decide_eq_false c1]
    have hB : Bytes l1 := ⟨by omega, fun x hx => u8_of (hb x hx)⟩
    obtain ⟨o, ho, ov, oz, ol, of_⟩ := good_ev hB (n := a3) w3.1
    have e3 : wrap64 a3 = a3 := w64 (by omega) (by omega)
    obtain ⟨c, k1, k2⟩ := check_both hr' hp'
    refine Evt.succ (fun k => by rw [kerbsuitelaw12_DatabaseChecks.j0, if_neg (by simp), e3]) (Evt.bind ho (Evt.bind (fine_check (by omega) ov ol of_) ?_))
    simp only [if_true]
    refine Evt.bind k1 (Evt.bind k2 ?_)
    simp only [bne_self_eq_false]
    exact checks_j1 w2 w3 h5' (by omega) (fun x hx => (of_.1 x hx).1) ol
  exact this.ex
end Go.Proofs.YthfdfoigoomaoaaDoor.Pure
