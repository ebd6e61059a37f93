/- A database that is made out of plain numbers is valid: its entries are, and they stand in order. -/
import Derived.Test.YthfdfoigoomaoaaDoorDbMade
import Derived.Test.YthfdfoigoomaoaaDoorDbCheck
import Derived.Test.YthfdfoigoomaoaaDoorPDbx10
import Derived.Test.YthfdfoigoomaoaaDoorPDbx7
import Derived.Test.YthfdfoigoomaoaaDoorPDbx8
namespace Go.Proofs.YthfdfoigoomaoaaDoor.Core
open Go Go.RowKit Go.Proofs.YthfdfoigoomaoaaDoor.PDb Go.Proofs.YthfdfoigoomaoaaDoorW.PrintWords Go.Proofs.YthfdfoigoomaoaaDoorW.PrintLast Go.Proofs.YthfdfoigoomaoaaDoorW.PrintMore
set_option linter.unusedVariables false

theorem three {n : Int} (h : 0 ≤ n) : Int.tmod n 3 = 0 ∨ Int.tmod n 3 = 1 ∨ Int.tmod n 3 = 2 := by
  have := tmod3 h
  omega
def Who (a b : ByteArray) : Prop := vName a = true ∧ vInst b = true ∧ a.size ≤ 100 ∧ b.size ≤ 100
theorem user_good {n : Int} (h : 0 ≤ n) (hn : n ≤ 9223372036854775807) : ∃ r, kerbsuitedata_User.f n = some r ∧ Who r.1 r.2.1 := by
  obtain ⟨h0, h1⟩ := tmod3 h
  obtain ⟨r, hr⟩ := realm_some (div_nn h (m := 3) (by omega) hn)
  unfold kerbsuitedata_User.f
  rw [Option.bind_some, if_pos h0, if_pos (by simpa using h1), hr]
  refine ⟨_, rfl, ?_⟩
  dsimp only
  clear hr
  rcases three h with e | e | e <;> rw [e] <;> exact ⟨by decide +kernel, by decide +kernel, by decide +kernel, by decide +kernel⟩
theorem service_good {n : Int} (h : 0 ≤ n) (hn : n ≤ 9223372036854775807) : ∃ r, kerbsuitedata_Service.f n = some r ∧ Who r.1 r.2.1 := by
  obtain ⟨h0, h1⟩ := tmod3 h
  obtain ⟨r, hr⟩ := realm_some (div_nn h (m := 3) (by omega) hn)
  unfold kerbsuitedata_Service.f
  rw [Option.bind_some, if_pos h0, if_pos (by simpa using h1), hr]
  refine ⟨_, rfl, ?_⟩
  dsimp only
  clear hr
  rcases three h with e | e | e <;> rw [e] <;> exact ⟨by decide +kernel, by decide +kernel, by decide +kernel, by decide +kernel⟩
theorem realm_good {n : Int} (h : 0 ≤ n) : ∃ r, kerbsuitedata_Realm.f n = some r ∧ vRealm r = true ∧ r.size ≤ 100 := by
  obtain ⟨h0, h1⟩ := tmod3 h
  unfold kerbsuitedata_Realm.f kerbsuitedata_Realms.f
  rw [Option.bind_some, if_pos h0, if_pos (by simpa using h1)]
  refine ⟨_, rfl, ?_⟩
  rcases three h with e | e | e <;> rw [e] <;> exact ⟨by decide +kernel, by decide +kernel⟩
theorem long_key {x : Int} (h : 0 ≤ x) (h' : x < 40) : key_Valid.f (Go.bits .or .u64 72057594037927936 (IntKind.u64.wrap (wrap64 (1 + x)))) = some true := by
  have all : ∀ n : Fin 40, key_Valid.f (Go.bits .or .u64 72057594037927936 (IntKind.u64.wrap (wrap64 (1 + (n.1 : Int))))) = some true := by decide +kernel
  have := all ⟨x.toNat, by omega⟩
  rwa [show ((x.toNat : Nat) : Int) = x by omega] at this
/-- The fields of a valid entry. -/
def G (a b : ByteArray) (c d e f g i o : Int) : Prop := Who a b ∧ (c = 0 ∨ key_Valid.f c = some true) ∧ (0 ≤ d ∧ d ≤ 255) ∧ (0 ≤ e ∧ e ≤ 4294967295) ∧ (0 ≤ f ∧ f ≤ 255) ∧ (0 ≤ g ∧ g ≤ 3) ∧ (0 ≤ i ∧ i ≤ 20) ∧ 0 ≤ o ∧ o ≤ 4294967295
abbrev R10 := ByteArray × ByteArray × Int × Int × Int × Int × Int × Int × Int × Int
def Gr (r : R10) : Prop := G r.1 r.2.1 r.2.2.1 r.2.2.2.1 r.2.2.2.2.1 r.2.2.2.2.2.1 r.2.2.2.2.2.2.1 r.2.2.2.2.2.2.2.1 r.2.2.2.2.2.2.2.2.1 ∧ 0 ≤ r.2.2.2.2.2.2.2.2.2 ∧ r.2.2.2.2.2.2.2.2.2 ≤ 1000
theorem entry_good {l : List Int} (hl : Bytes l) {j : Int} (h : 0 ≤ j) (hj : j ≤ 1000) : ∃ r, Evt (fun k => kerbsuitedata_Entry.f k l j) r ∧ Gr r := by
  have tail2 : ∀ {j a b c d e f g i o}, 0 ≤ j → j ≤ 1000 → G a b c d e f g i o → ∃ r, Evt (fun k => kerbsuitedata_Entry.j2 k l j a b c d e f g i o) r ∧ Gr r := by
    intro j a b c d e f g i o h hj hg
    obtain ⟨x, q, e1, x0, x1, q0, q1, _⟩ := next_some hl h hj (n := 9) (by omega) (by omega)
    obtain ⟨y, p, e2, y0, y1, p0, p1, _⟩ := next_some hl (j := q) (by omega) q1 (n := 256) (by omega) (by omega)
    by_cases c8 : x = 8
    · refine ⟨(a, b, c, d, e, f, g, i, wrap64 (y * 100), p), Evt.succ (g := fun _ => some _) (fun k => ?_) Evt.const, ⟨hg.1, hg.2.1, hg.2.2.1, hg.2.2.2.1, hg.2.2.2.2.1, hg.2.2.2.2.2.1, hg.2.2.2.2.2.2.1, ?_⟩, by show 0 ≤ p; omega, p1⟩
      · rw [kerbsuitedata_Entry.j2, e1, Option.bind_some]
        simp only [if_pos c8, e2, Option.bind_some]
      · show 0 ≤ wrap64 (y * 100) ∧ wrap64 (y * 100) ≤ 4294967295
        rw [w64 (by omega) (by omega)]; omega
    · refine ⟨(a, b, c, d, e, f, g, i, o, q), Evt.succ (g := fun _ => some _) (fun k => ?_) Evt.const, hg, by show 0 ≤ q; omega, q1⟩
      rw [kerbsuitedata_Entry.j2, e1, Option.bind_some]
      simp only [if_neg c8]
  have tail1 : ∀ {j a b c d e f g i o}, 0 ≤ j → j ≤ 1000 → G a b c d e f g i o → ∃ r, Evt (fun k => kerbsuitedata_Entry.j1 k l j a b c d e f g i o) r ∧ Gr r := by
    intro j a b c d e f g i o h hj hg
    obtain ⟨x, q, e1, x0, x1, q0, q1, _⟩ := next_some hl h hj (n := 9) (by omega) (by omega)
    by_cases c8 : x = 8
    · obtain ⟨r, h1, h2⟩ := tail2 (j := q) (by omega) q1 (c := 0) ⟨hg.1, .inl rfl, hg.2.2⟩
      refine ⟨r, Evt.succ (fun k => ?_) h1, h2⟩
      rw [kerbsuitedata_Entry.j1, e1, Option.bind_some]
      simp only [if_pos c8]
    · obtain ⟨r, h1, h2⟩ := tail2 (j := q) (by omega) q1 hg
      refine ⟨r, Evt.succ (fun k => ?_) h1, h2⟩
      rw [kerbsuitedata_Entry.j1, e1, Option.bind_some]
      simp only [if_neg c8]
  have tail0 : ∀ {j a b c}, 0 ≤ j → j ≤ 1000 → Who a b → ∃ r, Evt (fun k => kerbsuitedata_Entry.j0 k l j a b c) r ∧ Gr r := by
    intro j a b c h hj hw
    obtain ⟨x1, q1, e1, s1, t1, a1, b1, _⟩ := next_some hl h hj (n := 40) (by omega) (by omega)
    obtain ⟨x2, q2, e2, s2, t2, a2, b2, _⟩ := next_some hl (j := q1) (by omega) b1 (n := 256) (by omega) (by omega)
    obtain ⟨x3, q3, e3, s3, t3, a3, b3, _⟩ := next_some hl (j := q2) (by omega) b2 (n := 256) (by omega) (by omega)
    obtain ⟨x4, q4, e4, s4, t4, a4, b4, _⟩ := next_some hl (j := q3) (by omega) b3 (n := 5) (by omega) (by omega)
    obtain ⟨x5, q5, e5, s5, t5, a5, b5, _⟩ := next_some hl (j := q4) (by omega) b4 (n := 4) (by omega) (by omega)
    obtain ⟨x6, q6, e6, s6, t6, a6, b6, _⟩ := next_some hl (j := q5) (by omega) b5 (n := 21) (by omega) (by omega)
    obtain ⟨x7, q7, e7, s7, t7, a7, b7, _⟩ := next_some hl (j := q6) (by omega) b6 (n := 5) (by omega) (by omega)
    obtain ⟨x8, q8, e8, s8, t8, a8, b8, _⟩ := next_some hl (j := q7) (by omega) b7 (n := 256) (by omega) (by omega)
    have hat : 0 ≤ wrap64 ((wrap64 (Int.tdiv x4 4)) * x5) ∧ wrap64 ((wrap64 (Int.tdiv x4 4)) * x5) ≤ 3 := by
      have hd : Int.tdiv x4 4 = 0 ∨ Int.tdiv x4 4 = 1 := by
        have : x4 = 0 ∨ x4 = 1 ∨ x4 = 2 ∨ x4 = 3 ∨ x4 = 4 := by omega
        rcases this with rfl | rfl | rfl | rfl | rfl <;> decide
      have w0 : wrap64 0 = 0 := w64 (by omega) (by omega)
      have w1 : wrap64 1 = 1 := w64 (by omega) (by omega)
      rcases hd with e | e
      · rw [e, w0, Int.zero_mul, w0]; omega
      · rw [e, w1, Int.one_mul, w64 (by omega) (by omega)]; omega
    have hk := long_key s1 t1
    by_cases c4 : x7 = 4
    · obtain ⟨r, h1, h2⟩ := tail1 (j := q8) (by omega) b8 (a := a) (b := b) (c := Go.bits .or .u64 72057594037927936 (IntKind.u64.wrap (wrap64 (1 + x1)))) (d := x2) (e := wrap64 (x8 * 200)) (f := x3) (g := wrap64 ((wrap64 (Int.tdiv x4 4)) * x5)) (i := x6) (o := 0) ⟨hw, .inr hk, by omega, by rw [w64 (by omega) (by omega)]; omega, by omega, hat, by omega, by omega, by omega⟩
      refine ⟨r, Evt.succ (fun k => ?_) h1, h2⟩
      rw [kerbsuitedata_Entry.j0, e1]
      simp only [Option.bind_some, kerbsuitedata_Long.f, e2, e3, e4, e5, e6, e7, e8, if_pos c4]
    · obtain ⟨r, h1, h2⟩ := tail1 (j := q7) (by omega) b7 (a := a) (b := b) (c := Go.bits .or .u64 72057594037927936 (IntKind.u64.wrap (wrap64 (1 + x1)))) (d := x2) (e := 0) (f := x3) (g := wrap64 ((wrap64 (Int.tdiv x4 4)) * x5)) (i := x6) (o := 0) ⟨hw, .inr hk, by omega, by omega, by omega, hat, by omega, by omega, by omega⟩
      refine ⟨r, Evt.succ (fun k => ?_) h1, h2⟩
      rw [kerbsuitedata_Entry.j0, e1]
      simp only [Option.bind_some, kerbsuitedata_Long.f, e2, e3, e4, e5, e6, e7, e8, if_neg c4]
  obtain ⟨x1, q1, e1, u1, v1, a1, b1, _⟩ := next_some hl h hj (n := 3) (by omega) (by omega)
  obtain ⟨u, hu, wu⟩ := user_good u1 (by omega)
  obtain ⟨x2, q2, e2, u2, v2, a2, b2, _⟩ := next_some hl (j := q1) (by omega) b1 (n := 2) (by omega) (by omega)
  obtain ⟨x3, q3, e3, u3, v3, a3, b3, _⟩ := next_some hl (j := q2) (by omega) b2 (n := 3) (by omega) (by omega)
  obtain ⟨s, hs, ws⟩ := service_good u3 (by omega)
  by_cases c1 : x2 = 1
  · obtain ⟨r, h1, h2⟩ := tail0 (a := s.1) (b := s.2.1) (c := s.2.2) (j := q3) (by omega) b3 ws
    refine ⟨r, Evt.congr (fun k => ?_) h1, h2⟩
    rw [kerbsuitedata_Entry.f, e1]
    simp only [Option.bind_some, hu, e2, e3, hs, if_pos c1]
  · obtain ⟨r, h1, h2⟩ := tail0 (a := u.1) (b := u.2.1) (c := u.2.2) (j := q2) (by omega) b2 wu
    refine ⟨r, Evt.congr (fun k => ?_) h1, h2⟩
    rw [kerbsuitedata_Entry.f, e1]
    simp only [Option.bind_some, hu, e2, e3, hs, if_neg c1]
theorem good_ce {x : S35} (h : G x.f0 x.f1 x.f2 x.f3 x.f4 x.f5 x.f6 x.f7 x.f8) : Sized x ∧ ∃ b, key_Valid.f x.f2 = some b ∧ ceV b x = 0 := by
  obtain ⟨⟨n1, n2, z1, z2⟩, hk, h3, h4, h5, h6, h7, h8⟩ := h
  refine ⟨⟨by omega, by omega⟩, ?_⟩
  obtain ⟨b, hb⟩ := key_some x.f2
  refine ⟨b, hb, ?_⟩
  have r : ∀ {n m : Int}, 0 ≤ n ∧ n ≤ m → rng n m = true := fun h => by unfold rng; simp [h.1, h.2]
  unfold ceV
  rw [n1, n2, r h3, r h4, r h5, r h6, r h7, r h8, if_neg (by decide), if_neg ?_, if_pos (by decide)]
  rintro ⟨c, d⟩
  rcases hk with e | e
  · exact c e
  · rw [hb, d] at e; cases e
theorem cmp_anti (x y : S35) : cmpV y x = - cmpV x y := by
  have h0 : cb y.f0 x.f0 = - cb x.f0 y.f0 := (cb_facts _ _).2.1
  have h1 : cb y.f1 x.f1 = - cb x.f1 y.f1 := (cb_facts _ _).2.1
  unfold cmpV
  by_cases c : cb x.f0 y.f0 = 0
  · rw [if_pos c, if_pos (by omega), h1]
  · rw [if_neg c, if_neg (by omega), h0]
theorem ins_get (s : List S35) (E : S35) (i : Nat) (hi : i ≤ s.length) (j : Nat) : (([] ++ s.take i ++ [E]) ++ s.drop i)[j]? = if j < i then s[j]? else if j = i then some E else s[j - 1]? := by
  have hlen : ([] ++ s.take i).length = i := by simp; omega
  rw [List.append_assoc, List.getElem?_append, hlen]
  by_cases c : j < i
  · rw [if_pos c, if_pos c, List.nil_append, List.getElem?_take_of_lt c]
  · rw [if_neg c, if_neg c]
    by_cases d : j = i
    · rw [if_pos d, d, Nat.sub_self]; rfl
    · rw [if_neg d]
      obtain ⟨q, hq⟩ : ∃ q, j - i = q + 1 := ⟨j - i - 1, by omega⟩
      rw [hq]
      show (s.drop i)[q]? = _
      rw [List.getElem?_drop]
      congr 1
      omega
theorem fine_ins {s : List S35} (hf : Fine s) {E : S35} (hE : Sized E ∧ ∃ b, key_Valid.f E.f2 = some b ∧ ceV b E = 0) (i : Nat) (hi : i ≤ s.length) (lo : ∀ (q : Nat) (h : q < s.length), q + 1 = i → cmpV s[q] E ≤ 0) (up : ∀ h : i < s.length, cmpV s[i] E > 0) : Fine (([] ++ s.take i ++ [E]) ++ s.drop i) := by
  refine ⟨fun x hx => ?_, fun j hj => ?_⟩
  · simp only [List.nil_append, List.mem_append, List.mem_singleton] at hx
    rcases hx with (hx | rfl) | hx
    · exact hf.1 x (List.mem_of_mem_take hx)
    · exact hE
    · exact hf.1 x (List.mem_of_mem_drop hx)
  · have a := ins_get s E i hi j
    have b := ins_get s E i hi (j + 1)
    have hlen : ((([] ++ s.take i ++ [E]) ++ s.drop i)).length = s.length + 1 := by simp; omega
    rw [List.getElem?_eq_getElem (by omega)] at a
    rw [List.getElem?_eq_getElem hj] at b
    rw [hlen] at hj
    by_cases c1 : j + 1 < i
    · rw [if_pos (by omega), List.getElem?_eq_getElem (by omega)] at a
      rw [if_pos c1, List.getElem?_eq_getElem (by omega)] at b
      rw [Option.some.inj a, Option.some.inj b]
      exact hf.2 j (by omega)
    · by_cases c2 : j + 1 = i
      · rw [if_pos (by omega), List.getElem?_eq_getElem (by omega)] at a
        rw [if_neg c1, if_pos c2] at b
        rw [Option.some.inj a, Option.some.inj b]
        have := lo j (by omega) c2
        have := cmp_anti s[j] E
        omega
      · rw [if_neg c1, if_neg c2] at b
        by_cases c3 : j = i
        · rw [if_neg (by omega), if_pos c3] at a
          have e : j + 1 - 1 = i := by omega
          rw [e, List.getElem?_eq_getElem (by omega)] at b
          rw [Option.some.inj a, Option.some.inj b]
          have := up (by omega)
          omega
        · rw [if_neg (by omega), if_neg c3, List.getElem?_eq_getElem (by omega)] at a
          obtain ⟨q, rfl⟩ : ∃ q, j = q + 1 := ⟨j - 1, by omega⟩
          simp only [Nat.add_sub_cancel] at a b
          rw [List.getElem?_eq_getElem (by omega)] at b
          rw [Option.some.inj a, Option.some.inj b]
          exact hf.2 q (by omega)
theorem good_loop {l : List Int} (hl : Bytes l) (r : ByteArray) (d : Nat) : ∀ (j : Int) (s : List S35), 0 ≤ j → j ≤ 1000 → s.length ≤ 60 → 60 - s.length = d → Fine s → ∃ o : ByteArray × List S35, Evt (fun k => kerbsuitedata_Database.l0 k l j r s) o ∧ o.1 = r ∧ o.2.length ≤ 60 ∧ Fine o.2 := by
  induction d with
  | zero =>
    intro j s h hj hs hd hf
    refine ⟨(r, s), Evt.succ (g := fun k => kerbsuitedata_Database.j1 k false l j r s) (fun k => ?_) (Evt.succ (g := fun _ => some (r, s)) (fun k => ?_) Evt.const), rfl, hs, hf⟩
    · rw [kerbsuitedata_Database.l0, kerbsuitedata_Source_More.f]
      have : decide ((s.length : Int) < 60) = false := decide_eq_false (by omega)
      rw [Option.bind_some, this]
      split <;> rfl
    · rw [kerbsuitedata_Database.j1, if_neg (by simp)]
  | succ d ih =>
    intro j s h hj hs hd hf
    by_cases cm : j < (l.length : Int)
    · obtain ⟨e, he, hg, e0, e1⟩ := entry_good hl h hj
      have hE : Sized ⟨e.1, e.2.1, e.2.2.1, e.2.2.2.1, e.2.2.2.2.1, e.2.2.2.2.2.1, e.2.2.2.2.2.2.1, e.2.2.2.2.2.2.2.1, e.2.2.2.2.2.2.2.2.1⟩ ∧ ∃ b, key_Valid.f e.2.2.1 = some b ∧ ceV b ⟨e.1, e.2.1, e.2.2.1, e.2.2.2.1, e.2.2.2.2.1, e.2.2.2.2.2.1, e.2.2.2.2.2.2.1, e.2.2.2.2.2.2.2.1, e.2.2.2.2.2.2.2.2.1⟩ = 0 := good_ce (x := ⟨e.1, e.2.1, e.2.2.1, e.2.2.2.1, e.2.2.2.2.1, e.2.2.2.2.2.1, e.2.2.2.2.2.2.1, e.2.2.2.2.2.2.2.1, e.2.2.2.2.2.2.2.2.1⟩) hg
      have inner : ∀ (m : Nat) (i : Nat), i ≤ s.length → s.length - i = m → (∀ (q : Nat) (h : q < s.length), q + 1 = i → cmpV s[q] ⟨e.1, e.2.1, e.2.2.1, e.2.2.2.1, e.2.2.2.2.1, e.2.2.2.2.2.1, e.2.2.2.2.2.2.1, e.2.2.2.2.2.2.2.1, e.2.2.2.2.2.2.2.2.1⟩ ≤ 0) → ∃ o : ByteArray × List S35, Evt (fun k => kerbsuitedata_Database.l1 k (i : Int) l e.2.2.2.2.2.2.2.2.2 r s e.1 e.2.1 e.2.2.1 e.2.2.2.1 e.2.2.2.2.1 e.2.2.2.2.2.1 e.2.2.2.2.2.2.1 e.2.2.2.2.2.2.2.1 e.2.2.2.2.2.2.2.2.1) o ∧ o.1 = r ∧ o.2.length ≤ 60 ∧ Fine o.2 := by
        have stop : ∀ i : Nat, i ≤ s.length → (∀ (q : Nat) (h : q < s.length), q + 1 = i → cmpV s[q] ⟨e.1, e.2.1, e.2.2.1, e.2.2.2.1, e.2.2.2.2.1, e.2.2.2.2.2.1, e.2.2.2.2.2.2.1, e.2.2.2.2.2.2.2.1, e.2.2.2.2.2.2.2.2.1⟩ ≤ 0) → (∀ h : i < s.length, cmpV s[i] ⟨e.1, e.2.1, e.2.2.1, e.2.2.2.1, e.2.2.2.2.1, e.2.2.2.2.2.1, e.2.2.2.2.2.2.1, e.2.2.2.2.2.2.2.1, e.2.2.2.2.2.2.2.2.1⟩ > 0) → ∃ o : ByteArray × List S35, Evt (fun k => kerbsuitedata_Database.j3 k (i : Int) false l e.2.2.2.2.2.2.2.2.2 r s e.1 e.2.1 e.2.2.1 e.2.2.2.1 e.2.2.2.2.1 e.2.2.2.2.2.1 e.2.2.2.2.2.2.1 e.2.2.2.2.2.2.2.1 e.2.2.2.2.2.2.2.2.1) o ∧ o.1 = r ∧ o.2.length ≤ 60 ∧ Fine o.2 := by
          intro i hi lo up
          obtain ⟨o, ho, hb⟩ := ih e.2.2.2.2.2.2.2.2.2 (([] ++ s.take i ++ [⟨e.1, e.2.1, e.2.2.1, e.2.2.2.1, e.2.2.2.2.1, e.2.2.2.2.2.1, e.2.2.2.2.2.2.1, e.2.2.2.2.2.2.2.1, e.2.2.2.2.2.2.2.2.1⟩]) ++ s.drop i) e0 e1 (by simp; omega) (by simp; omega) (fine_ins hf hE i hi lo up)
          refine ⟨o, Evt.succ (fun k => ?_) ho, hb⟩
          rw [kerbsuitedata_Database.j3, if_neg (by simp)]
          simp only [Option.bind_some]
          rw [if_pos (by omega), if_pos (by omega), if_pos (by simp; omega), if_pos (by simp; omega), if_pos (by simp; omega)]
          rfl
        intro m
        induction m with
        | zero =>
          intro i hi hm lo
          obtain ⟨o, ho, hb⟩ := stop i hi lo (fun h => by omega)
          refine ⟨o, Evt.succ (fun k => ?_) ho, hb⟩
          rw [kerbsuitedata_Database.l1, if_neg (by omega)]
        | succ m ihm =>
          intro i hi hm lo
          have hlt : i < s.length := by omega
          have on : cmpV s[i] ⟨e.1, e.2.1, e.2.2.1, e.2.2.2.1, e.2.2.2.2.1, e.2.2.2.2.2.1, e.2.2.2.2.2.2.1, e.2.2.2.2.2.2.2.1, e.2.2.2.2.2.2.2.2.1⟩ ≤ 0 → ∃ o : ByteArray × List S35, Evt (fun k => kerbsuitedata_Database.j3 k (i : Int) true l e.2.2.2.2.2.2.2.2.2 r s e.1 e.2.1 e.2.2.1 e.2.2.2.1 e.2.2.2.2.1 e.2.2.2.2.2.1 e.2.2.2.2.2.2.1 e.2.2.2.2.2.2.2.1 e.2.2.2.2.2.2.2.2.1) o ∧ o.1 = r ∧ o.2.length ≤ 60 ∧ Fine o.2 := by
            intro hc
            obtain ⟨o, ho, hb⟩ := ihm (i + 1) (by omega) (by omega) (fun q hq hqi => (by have z : q = i := (by omega); subst z; exact hc))
            refine ⟨o, Evt.succ (fun k => ?_) ho, hb⟩
            rw [kerbsuitedata_Database.j3, if_pos rfl, w64 (by omega) (by omega)]
            rfl
          have h0 : cb s[i].f0 e.1 = -1 ∨ cb s[i].f0 e.1 = 0 ∨ cb s[i].f0 e.1 = 1 := (cb_facts _ _).1
          have h1 : cb s[i].f1 e.2.1 = -1 ∨ cb s[i].f1 e.2.1 = 0 ∨ cb s[i].f1 e.2.1 = 1 := (cb_facts _ _).1
          have h2 : cb e.2.1 s[i].f1 = - cb s[i].f1 e.2.1 := (cb_facts _ _).2.1
          have hv : cmpV s[i] ⟨e.1, e.2.1, e.2.2.1, e.2.2.2.1, e.2.2.2.2.1, e.2.2.2.2.2.1, e.2.2.2.2.2.2.1, e.2.2.2.2.2.2.2.1, e.2.2.2.2.2.2.2.2.1⟩ = if cb s[i].f0 e.1 = 0 then cb s[i].f1 e.2.1 else cb s[i].f0 e.1 := rfl
          by_cases c0 : (Op.bytesLess (s[i].f0.toList) e.1.toList) = true
          · have x0 := (less_cb _ _).1 c0
            obtain ⟨o, ho, hb⟩ := on (by rw [hv, if_neg (by omega)]; omega)
            refine ⟨o, Evt.succ (fun k => ?_) ho, hb⟩
            rw [kerbsuitedata_Database.l1, if_pos (by omega), if_pos (by omega), rd35 hlt, if_pos c0]
          · have x0 : ¬ cb s[i].f0 e.1 = -1 := fun z => c0 ((less_cb _ _).2 z)
            by_cases c1 : s[i].f0.toList = e.1.toList
            · have x1 := (eq_cb _ _).1 c1
              by_cases c2 : Op.bytesLess e.2.1.toList s[i].f1.toList = true
              · have x2 := (less_cb _ _).1 c2
                obtain ⟨o, ho, hb⟩ := stop i hi lo (fun _ => by rw [hv, if_pos x1]; omega)
                refine ⟨o, Evt.succ (fun k => ?_) ho, hb⟩
                rw [kerbsuitedata_Database.l1, if_pos (by omega), if_pos (by omega), rd35 hlt, if_neg c0, if_pos c1, c2]; rfl
              · have x2 : ¬ cb e.2.1 s[i].f1 = -1 := fun z => c2 ((less_cb _ _).2 z)
                have c2' : Op.bytesLess e.2.1.toList s[i].f1.toList = false := by simpa using c2
                obtain ⟨o, ho, hb⟩ := on (by rw [hv, if_pos x1]; omega)
                refine ⟨o, Evt.succ (fun k => ?_) ho, hb⟩
                rw [kerbsuitedata_Database.l1, if_pos (by omega), if_pos (by omega), rd35 hlt, if_neg c0, if_pos c1, c2']; rfl
            · have x1 : ¬ cb s[i].f0 e.1 = 0 := fun z => c1 ((eq_cb _ _).2 z)
              obtain ⟨o, ho, hb⟩ := stop i hi lo (fun _ => by rw [hv, if_neg x1]; omega)
              refine ⟨o, Evt.succ (fun k => ?_) ho, hb⟩
              rw [kerbsuitedata_Database.l1, if_pos (by omega), if_pos (by omega), rd35 hlt, if_neg c0, if_neg c1]
      obtain ⟨o, ho, hb⟩ := inner s.length 0 (by omega) (by omega) (fun q hq hqi => by omega)
      refine ⟨o, Evt.succ (g := fun k => kerbsuitedata_Database.j1 k true l j r s) (fun k => ?_) (Evt.succ (g := fun k => (kerbsuitedata_Entry.f k l j).bind fun t => kerbsuitedata_Database.l1 k 0 l t.2.2.2.2.2.2.2.2.2 r s t.1 t.2.1 t.2.2.1 t.2.2.2.1 t.2.2.2.2.1 t.2.2.2.2.2.1 t.2.2.2.2.2.2.1 t.2.2.2.2.2.2.2.1 t.2.2.2.2.2.2.2.2.1) (fun k => ?_) (Evt.bind he ho)), hb⟩
      · rw [kerbsuitedata_Database.l0, kerbsuitedata_Source_More.f]
        have : decide ((s.length : Int) < 60) = true := decide_eq_true (by omega)
        rw [Option.bind_some, this, if_pos (by simpa using cm)]
      · rw [kerbsuitedata_Database.j1, if_pos rfl]
    · refine ⟨(r, s), Evt.succ (g := fun k => kerbsuitedata_Database.j1 k false l j r s) (fun k => ?_) (Evt.succ (g := fun _ => some (r, s)) (fun k => ?_) Evt.const), rfl, hs, hf⟩
      · rw [kerbsuitedata_Database.l0, kerbsuitedata_Source_More.f, Option.bind_some, if_neg (by simpa using cm)]
      · rw [kerbsuitedata_Database.j1, if_neg (by simp)]
theorem good_ev {l : List Int} (hl : Bytes l) {n : Int} (h : 0 ≤ n) : ∃ o : ByteArray × List S35, Evt (fun k => kerbsuitedata_Database.f k l n) o ∧ vRealm o.1 = true ∧ o.1.size ≤ 100 ∧ o.2.length ≤ 60 ∧ Fine o.2 := by
  obtain ⟨r, hr, hv, hz⟩ := realm_good h
  obtain ⟨o, ho, hb, hc⟩ := good_loop hl r 60 0 [] (by omega) (by omega) (by simp) rfl ⟨fun x hx => (by cases hx), fun j hj => (by simp at hj)⟩
  refine ⟨o, Evt.congr (fun k => ?_) ho, by rw [hb]; exact hv, by rw [hb]; exact hz, hc⟩
  rw [kerbsuitedata_Database.f, hr, Option.bind_some]
end Go.Proofs.YthfdfoigoomaoaaDoor.Core
