/- What the functions that make names, entries and databases out of plain numbers answer: always something, and at most sixty entries. -/
import Derived.Test.YthfdfoigoomaoaaDoorDbBase
import Derived.Test.YthfdfoigoomaoaaDoorPDbx10
import Derived.Test.YthfdfoigoomaoaaDoorPDbx7
import Derived.Test.YthfdfoigoomaoaaDoorPDbx8
namespace Go.Proofs.YthfdfoigoomaoaaDoor.Core
open Go Go.RowKit Go.Proofs.YthfdfoigoomaoaaDoor.PDb Go.Proofs.YthfdfoigoomaoaaDoorW.PrintWords Go.Proofs.YthfdfoigoomaoaaDoorW.PrintLast Go.Proofs.YthfdfoigoomaoaaDoorW.PrintMore
set_option linter.unusedVariables false

theorem tmod3 {n : Int} (h : 0 ≤ n) : 0 ≤ Int.tmod n 3 ∧ Int.tmod n 3 < 3 := ⟨Int.tmod_nonneg 3 h, Int.tmod_lt_of_pos n (by omega)⟩
theorem realm_some {n : Int} (h : 0 ≤ n) : ∃ r, kerbsuitedata_Realm.f n = some r := by
  obtain ⟨h0, h1⟩ := tmod3 h
  unfold kerbsuitedata_Realm.f kerbsuitedata_Realms.f
  rw [Option.bind_some, if_pos h0, if_pos (by simpa using h1)]
  exact ⟨_, rfl⟩
theorem div_nn {n m : Int} (h : 0 ≤ n) (hm : 0 ≤ m) (hn : n ≤ 9223372036854775807) : 0 ≤ wrap64 (Int.tdiv n m) := by
  have h0 : 0 ≤ Int.tdiv n m := Int.tdiv_nonneg h hm
  have h1 : Int.tdiv n m ≤ n := Int.tdiv_le_self m h
  rw [w64 (by omega) (by omega)]
  exact h0
theorem user_some {n : Int} (h : 0 ≤ n) (hn : n ≤ 9223372036854775807) : ∃ r, kerbsuitedata_User.f n = some r := by
  obtain ⟨h0, h1⟩ := tmod3 h
  obtain ⟨r, hr⟩ := realm_some (div_nn h (m := 3) (by omega) hn)
  unfold kerbsuitedata_User.f
  rw [Option.bind_some, if_pos h0, if_pos (by simpa using h1), hr]
  exact ⟨_, rfl⟩
theorem service_some {n : Int} (h : 0 ≤ n) (hn : n ≤ 9223372036854775807) : ∃ r, kerbsuitedata_Service.f n = some r := by
  obtain ⟨h0, h1⟩ := tmod3 h
  obtain ⟨r, hr⟩ := realm_some (div_nn h (m := 3) (by omega) hn)
  unfold kerbsuitedata_Service.f
  rw [Option.bind_some, if_pos h0, if_pos (by simpa using h1), hr]
  exact ⟨_, rfl⟩
/-- The list of numbers that a source hands out. -/
def Bytes (l : List Int) : Prop := l.length ≤ 1000 ∧ ∀ x ∈ l, 0 ≤ x ∧ x ≤ 255
theorem rd_in {l : List Int} (hl : Bytes l) (j : Int) : 0 ≤ rd l j ∧ rd l j ≤ 255 := by
  unfold rd
  rw [List.getD_eq_getElem?_getD]
  cases h : l[j.toNat]? with
  | none => simp
  | some x => exact hl.2 x (List.mem_of_getElem? h)
theorem next_some {l : List Int} (hl : Bytes l) {j n : Int} (h : 0 ≤ j) (hj : j ≤ 1000) (hn : 0 < n) (hn' : n ≤ 256) : ∃ x q, kerbsuitedata_Source_Next.f l j n = some (x, q) ∧ 0 ≤ x ∧ x < n ∧ j ≤ q ∧ q ≤ 1000 ∧ (j < l.length → j < q) := by
  unfold kerbsuitedata_Source_Next.f
  by_cases c : j ≥ (l.length : Int)
  · rw [if_pos c]
    exact ⟨0, j, rfl, by omega, hn, by omega, hj, by omega⟩
  · have hr := rd_in hl j
    have hb := hl.1
    rw [if_neg c, if_neg (by omega), if_pos h, if_pos (by omega), if_neg (by omega), w64 (by omega) (by omega), w64 (by omega) (by omega)]
    exact ⟨_, _, rfl, Int.tmod_nonneg n hr.1, Int.tmod_lt_of_pos _ hn, by omega, by omega, by omega⟩
theorem entry_some {l : List Int} (hl : Bytes l) {j : Int} (h : 0 ≤ j) (hj : j ≤ 1000) : ∃ r, Evt (fun k => kerbsuitedata_Entry.f k l j) r ∧ 0 ≤ r.2.2.2.2.2.2.2.2.2 ∧ r.2.2.2.2.2.2.2.2.2 ≤ 1000 := by
  have tail2 : ∀ {j a b c d e f g i o}, 0 ≤ j → j ≤ 1000 → ∃ r, Evt (fun k => kerbsuitedata_Entry.j2 k l j a b c d e f g i o) r ∧ 0 ≤ r.2.2.2.2.2.2.2.2.2 ∧ r.2.2.2.2.2.2.2.2.2 ≤ 1000 := by
    intro j a b c d e f g i o h hj
    obtain ⟨x, q, e1, x0, x1, q0, q1, _⟩ := next_some hl h hj (n := 9) (by omega) (by omega)
    obtain ⟨y, p, e2, y0, y1, p0, p1, _⟩ := next_some hl (j := q) (by omega) q1 (n := 256) (by omega) (by omega)
    by_cases c8 : x = 8
    · refine ⟨(a, b, c, d, e, f, g, i, wrap64 (y * 100), p), Evt.succ (g := fun _ => some _) (fun k => ?_) Evt.const, by show 0 ≤ p; omega, p1⟩
      rw [kerbsuitedata_Entry.j2, e1, Option.bind_some]
      simp only [if_pos c8, e2, Option.bind_some]
    · refine ⟨(a, b, c, d, e, f, g, i, o, q), Evt.succ (g := fun _ => some _) (fun k => ?_) Evt.const, by show 0 ≤ q; omega, q1⟩
      rw [kerbsuitedata_Entry.j2, e1, Option.bind_some]
      simp only [if_neg c8]
  have tail1 : ∀ {j a b c d e f g i o}, 0 ≤ j → j ≤ 1000 → ∃ r, Evt (fun k => kerbsuitedata_Entry.j1 k l j a b c d e f g i o) r ∧ 0 ≤ r.2.2.2.2.2.2.2.2.2 ∧ r.2.2.2.2.2.2.2.2.2 ≤ 1000 := by
    intro j a b c d e f g i o h hj
    obtain ⟨x, q, e1, x0, x1, q0, q1, _⟩ := next_some hl h hj (n := 9) (by omega) (by omega)
    by_cases c8 : x = 8
    · obtain ⟨r, h1, h2⟩ := tail2 (a := a) (b := b) (c := 0) (d := d) (e := e) (f := f) (g := g) (i := i) (o := o) (j := q) (by omega) q1
      refine ⟨r, Evt.succ (fun k => ?_) h1, h2⟩
      rw [kerbsuitedata_Entry.j1, e1, Option.bind_some]
      simp only [if_pos c8]
    · obtain ⟨r, h1, h2⟩ := tail2 (a := a) (b := b) (c := c) (d := d) (e := e) (f := f) (g := g) (i := i) (o := o) (j := q) (by omega) q1
      refine ⟨r, Evt.succ (fun k => ?_) h1, h2⟩
      rw [kerbsuitedata_Entry.j1, e1, Option.bind_some]
      simp only [if_neg c8]
  have tail0 : ∀ {j a b c}, 0 ≤ j → j ≤ 1000 → ∃ r, Evt (fun k => kerbsuitedata_Entry.j0 k l j a b c) r ∧ 0 ≤ r.2.2.2.2.2.2.2.2.2 ∧ r.2.2.2.2.2.2.2.2.2 ≤ 1000 := by
    intro j a b c h hj
    obtain ⟨x1, q1, e1, _, _, a1, b1, _⟩ := next_some hl h hj (n := 40) (by omega) (by omega)
    obtain ⟨x2, q2, e2, _, _, a2, b2, _⟩ := next_some hl (j := q1) (by omega) b1 (n := 256) (by omega) (by omega)
    obtain ⟨x3, q3, e3, _, _, a3, b3, _⟩ := next_some hl (j := q2) (by omega) b2 (n := 256) (by omega) (by omega)
    obtain ⟨x4, q4, e4, _, _, a4, b4, _⟩ := next_some hl (j := q3) (by omega) b3 (n := 5) (by omega) (by omega)
    obtain ⟨x5, q5, e5, _, _, a5, b5, _⟩ := next_some hl (j := q4) (by omega) b4 (n := 4) (by omega) (by omega)
    obtain ⟨x6, q6, e6, _, _, a6, b6, _⟩ := next_some hl (j := q5) (by omega) b5 (n := 21) (by omega) (by omega)
    obtain ⟨x7, q7, e7, _, _, a7, b7, _⟩ := next_some hl (j := q6) (by omega) b6 (n := 5) (by omega) (by omega)
    obtain ⟨x8, q8, e8, _, _, a8, b8, _⟩ := next_some hl (j := q7) (by omega) b7 (n := 256) (by omega) (by omega)
    by_cases c4 : x7 = 4
    · obtain ⟨r, h1, h2⟩ := tail1 (a := a) (b := b) (c := Go.bits .or .u64 72057594037927936 (IntKind.u64.wrap (wrap64 (1 + x1)))) (d := x2) (e := wrap64 (x8 * 200)) (f := x3) (g := wrap64 ((wrap64 (Int.tdiv x4 4)) * x5)) (i := x6) (o := 0) (j := q8) (by omega) b8
      refine ⟨r, Evt.succ (fun k => ?_) h1, h2⟩
      rw [kerbsuitedata_Entry.j0, e1]
      simp only [Option.bind_some, kerbsuitedata_Long.f, e2, e3, e4, e5, e6, e7, e8, if_pos c4]
    · obtain ⟨r, h1, h2⟩ := tail1 (a := a) (b := b) (c := Go.bits .or .u64 72057594037927936 (IntKind.u64.wrap (wrap64 (1 + x1)))) (d := x2) (e := 0) (f := x3) (g := wrap64 ((wrap64 (Int.tdiv x4 4)) * x5)) (i := x6) (o := 0) (j := q7) (by omega) b7
      refine ⟨r, Evt.succ (fun k => ?_) h1, h2⟩
      rw [kerbsuitedata_Entry.j0, e1]
      simp only [Option.bind_some, kerbsuitedata_Long.f, e2, e3, e4, e5, e6, e7, e8, if_neg c4]
  obtain ⟨x1, q1, e1, u1, v1, a1, b1, _⟩ := next_some hl h hj (n := 3) (by omega) (by omega)
  obtain ⟨u, hu⟩ := user_some u1 (by omega)
  obtain ⟨x2, q2, e2, u2, v2, a2, b2, _⟩ := next_some hl (j := q1) (by omega) b1 (n := 2) (by omega) (by omega)
  obtain ⟨x3, q3, e3, u3, v3, a3, b3, _⟩ := next_some hl (j := q2) (by omega) b2 (n := 3) (by omega) (by omega)
  obtain ⟨s, hs⟩ := service_some u3 (by omega)
  by_cases c1 : x2 = 1
  · obtain ⟨r, h1, h2⟩ := tail0 (a := s.1) (b := s.2.1) (c := s.2.2) (j := q3) (by omega) b3
    refine ⟨r, Evt.congr (fun k => ?_) h1, h2⟩
    rw [kerbsuitedata_Entry.f, e1]
    simp only [Option.bind_some, hu, e2, e3, hs, if_pos c1]
  · obtain ⟨r, h1, h2⟩ := tail0 (a := u.1) (b := u.2.1) (c := u.2.2) (j := q2) (by omega) b2
    refine ⟨r, Evt.congr (fun k => ?_) h1, h2⟩
    rw [kerbsuitedata_Entry.f, e1]
    simp only [Option.bind_some, hu, e2, e3, hs, if_neg c1]
/-- Making a database comes to an end, with at most sixty entries. -/
theorem made_loop {l : List Int} (hl : Bytes l) (r : ByteArray) (d : Nat) : ∀ (j : Int) (s : List S35), 0 ≤ j → j ≤ 1000 → s.length ≤ 60 → 60 - s.length = d → ∃ o : ByteArray × List S35, Evt (fun k => kerbsuitedata_Database.l0 k l j r s) o ∧ o.2.length ≤ 60 := by
  induction d with
  | zero =>
    intro j s h hj hs hd
    refine ⟨(r, s), Evt.succ (g := fun k => kerbsuitedata_Database.j1 k false l j r s) (fun k => ?_) (Evt.succ (g := fun _ => some (r, s)) (fun k => ?_) Evt.const), hs⟩
    · rw [kerbsuitedata_Database.l0, kerbsuitedata_Source_More.f]
      have : decide ((s.length : Int) < 60) = false := decide_eq_false (by omega)
      rw [Option.bind_some, this]
      split <;> rfl
    · rw [kerbsuitedata_Database.j1, if_neg (by simp)]
  | succ d ih =>
    intro j s h hj hs hd
    by_cases cm : j < (l.length : Int)
    · obtain ⟨e, he, e0, e1⟩ := entry_some hl h hj
      have inner : ∀ (m : Nat) (i : Nat), i ≤ s.length → s.length - i = m → ∃ o : ByteArray × List S35, Evt (fun k => kerbsuitedata_Database.l1 k (i : Int) l e.2.2.2.2.2.2.2.2.2 r s e.1 e.2.1 e.2.2.1 e.2.2.2.1 e.2.2.2.2.1 e.2.2.2.2.2.1 e.2.2.2.2.2.2.1 e.2.2.2.2.2.2.2.1 e.2.2.2.2.2.2.2.2.1) o ∧ o.2.length ≤ 60 := by
        have stop : ∀ i : Nat, i ≤ s.length → ∃ o : ByteArray × List S35, Evt (fun k => kerbsuitedata_Database.j3 k (i : Int) false l e.2.2.2.2.2.2.2.2.2 r s e.1 e.2.1 e.2.2.1 e.2.2.2.1 e.2.2.2.2.1 e.2.2.2.2.2.1 e.2.2.2.2.2.2.1 e.2.2.2.2.2.2.2.1 e.2.2.2.2.2.2.2.2.1) o ∧ o.2.length ≤ 60 := by
          intro i hi
          obtain ⟨o, ho, hb⟩ := ih e.2.2.2.2.2.2.2.2.2 (([] ++ s.take i ++ [⟨e.1, e.2.1, e.2.2.1, e.2.2.2.1, e.2.2.2.2.1, e.2.2.2.2.2.1, e.2.2.2.2.2.2.1, e.2.2.2.2.2.2.2.1, e.2.2.2.2.2.2.2.2.1⟩]) ++ s.drop i) e0 e1 (by simp; omega) (by simp; omega)
          refine ⟨o, Evt.succ (fun k => ?_) ho, hb⟩
          rw [kerbsuitedata_Database.j3, if_neg (by simp)]
          simp only [Option.bind_some]
          rw [if_pos (by omega), if_pos (by omega), if_pos (by simp; omega), if_pos (by simp; omega), if_pos (by simp; omega)]
          rfl
        intro m
        induction m with
        | zero =>
          intro i hi hm
          obtain ⟨o, ho, hb⟩ := stop i hi
          refine ⟨o, Evt.succ (fun k => ?_) ho, hb⟩
          rw [kerbsuitedata_Database.l1, if_neg (by omega)]
        | succ m ihm =>
          intro i hi hm
          have go : ∀ b : Bool, ∃ o : ByteArray × List S35, Evt (fun k => kerbsuitedata_Database.j3 k (i : Int) b l e.2.2.2.2.2.2.2.2.2 r s e.1 e.2.1 e.2.2.1 e.2.2.2.1 e.2.2.2.2.1 e.2.2.2.2.2.1 e.2.2.2.2.2.2.1 e.2.2.2.2.2.2.2.1 e.2.2.2.2.2.2.2.2.1) o ∧ o.2.length ≤ 60 := by
            intro b
            cases b with
            | false => exact stop i hi
            | true =>
              obtain ⟨o, ho, hb⟩ := ihm (i + 1) (by omega) (by omega)
              refine ⟨o, Evt.succ (fun k => ?_) ho, hb⟩
              rw [kerbsuitedata_Database.j3, if_pos rfl, w64 (by omega) (by omega)]
              rfl
          by_cases c0 : (Op.bytesLess ((rd_T35 s i).f0.toList) e.1.toList) = true
          · obtain ⟨o, ho, hb⟩ := go true
            refine ⟨o, Evt.succ (fun k => ?_) ho, hb⟩
            rw [kerbsuitedata_Database.l1, if_pos (by omega), if_pos (by omega), if_pos c0]
          · by_cases c1 : (rd_T35 s i).f0.toList = e.1.toList
            · obtain ⟨o, ho, hb⟩ := go (!(Op.bytesLess e.2.1.toList ((rd_T35 s i).f1.toList)))
              refine ⟨o, Evt.succ (fun k => ?_) ho, hb⟩
              rw [kerbsuitedata_Database.l1, if_pos (by omega), if_pos (by omega), if_neg c0, if_pos c1]
            · obtain ⟨o, ho, hb⟩ := go false
              refine ⟨o, Evt.succ (fun k => ?_) ho, hb⟩
              rw [kerbsuitedata_Database.l1, if_pos (by omega), if_pos (by omega), if_neg c0, if_neg c1]
      obtain ⟨o, ho, hb⟩ := inner s.length 0 (by omega) (by omega)
      refine ⟨o, Evt.succ (g := fun k => kerbsuitedata_Database.j1 k true l j r s) (fun k => ?_) (Evt.succ (g := fun k => (kerbsuitedata_Entry.f k l j).bind fun t => kerbsuitedata_Database.l1 k 0 l t.2.2.2.2.2.2.2.2.2 r s t.1 t.2.1 t.2.2.1 t.2.2.2.1 t.2.2.2.2.1 t.2.2.2.2.2.1 t.2.2.2.2.2.2.1 t.2.2.2.2.2.2.2.1 t.2.2.2.2.2.2.2.2.1) (fun k => ?_) (Evt.bind he ho)), hb⟩
      · rw [kerbsuitedata_Database.l0, kerbsuitedata_Source_More.f]
        have : decide ((s.length : Int) < 60) = true := decide_eq_true (by omega)
        rw [Option.bind_some, this, if_pos (by simpa using cm)]
      · rw [kerbsuitedata_Database.j1, if_pos rfl]
    · refine ⟨(r, s), Evt.succ (g := fun k => kerbsuitedata_Database.j1 k false l j r s) (fun k => ?_) (Evt.succ (g := fun _ => some (r, s)) (fun k => ?_) Evt.const), hs⟩
      · rw [kerbsuitedata_Database.l0, kerbsuitedata_Source_More.f, Option.bind_some, if_neg (by simpa using cm)]
      · rw [kerbsuitedata_Database.j1, if_neg (by simp)]
theorem made_ev {l : List Int} (hl : Bytes l) {n : Int} (h : 0 ≤ n) : ∃ o : ByteArray × List S35, Evt (fun k => kerbsuitedata_Database.f k l n) o ∧ o.2.length ≤ 60 := by
  obtain ⟨r, hr⟩ := realm_some h
  obtain ⟨o, ho, hb⟩ := made_loop hl r 60 0 [] (by omega) (by omega) (by simp) rfl
  refine ⟨o, Evt.congr (fun k => ?_) ho, hb⟩
  rw [kerbsuitedata_Database.f, hr, Option.bind_some]
end Go.Proofs.YthfdfoigoomaoaaDoor.Core
