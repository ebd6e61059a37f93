/- The plain part of DatabaseFinds: what the law computes answers true, for every database, every list of numbers, every name, instance and time. -/
import Derived.Test.YthfdfoigoomaoaaDoorDbMade
import Derived.Test.YthfdfoigoomaoaaDoorPDbx11
namespace Go.Proofs.YthfdfoigoomaoaaDoor.Pure
open Go Go.RowKit Go.Proofs.YthfdfoigoomaoaaDoor.PDb Go.Proofs.YthfdfoigoomaoaaDoor.Core Go.Proofs.YthfdfoigoomaoaaDoorW.PrintWords Go.Proofs.YthfdfoigoomaoaaDoorW.PrintLast Go.Proofs.YthfdfoigoomaoaaDoorW.PrintMore
set_option linter.unusedVariables false

/-- One round after another: each compares what both answer. -/
theorem finds_loop {r1 r2 : ByteArray} {l1 l2 : List S35} (h1 : l1.length ≤ maxLen) (h2 : l2.length ≤ maxLen) (x2 x3 p q c : ByteArray) (x4 x5 : Int) (d : Nat) : ∀ i : Nat, i ≤ 4 → 4 - i = d → Evt (fun k => kerbsuitelaw12_DatabaseFinds.l0 k x2 x3 x4 x5 (i : Int) r1 l1 r2 l2 p q c) true := by
  induction d with
  | zero =>
    intro i hi hd
    refine Evt.succ (g := fun _ => some true) (fun k => ?_) Evt.const
    rw [kerbsuitelaw12_DatabaseFinds.l0, if_neg (by omega)]
  | succ d ih =>
    intro i hi hd
    have hm0 : (0 : Int) ≤ Int.tmod (i : Int) 2 := Int.tmod_nonneg 2 (by omega)
    have hm1 : Int.tmod (i : Int) 2 < 2 := Int.tmod_lt_of_pos _ (by omega)
    have hq : wrap64 (Int.tdiv (i : Int) 2) = ((i / 2 : Nat) : Int) := by
      have : Int.tdiv (i : Int) 2 = ((i / 2 : Nat) : Int) := by simp
      rw [this, w64 (by omega) (by omega)]
    have hq1 : ((i / 2 : Nat) : Int) < 2 := by omega
    have key : ∀ (r : ByteArray) (l : List S35) (n m : ByteArray) (t : Int), l.length ≤ maxLen → Evt (fun k => (database_Find.f k r l n m).bind fun bt350 => ((kerbsuiteref12_Find.f k r l n m).bind fun bt352 => (if bt350.1 = bt352.1 then (kerbsuitelaw12_DatabaseFinds.j3 k x2 x3 x4 x5 i n m t (bt350.2 != bt352.2) r1 l1 r2 l2 p q c r l) else (kerbsuitelaw12_DatabaseFinds.j3 k x2 x3 x4 x5 i n m t true r1 l1 r2 l2 p q c r l)))) true := by
      intro r l n m t hl
      obtain ⟨a, e, f1, f2, _⟩ := find_both r l n m hl
      obtain ⟨a', e', c1, c2⟩ := client_both r l n m t hl
      obtain ⟨a'', e'', s1, s2⟩ := service_both r l n m t hl
      refine Evt.bind f1 (Evt.bind f2 ?_)
      simp only [if_true, bne_self_eq_false]
      refine Evt.succ (fun k => by rw [kerbsuitelaw12_DatabaseFinds.j3, if_neg (by simp)]) (Evt.bind c1 (Evt.bind c2 ?_))
      simp only [if_true, bne_self_eq_false]
      refine Evt.succ (fun k => by rw [kerbsuitelaw12_DatabaseFinds.j4, if_neg (by simp)]) (Evt.bind s1 (Evt.bind s2 ?_))
      simp only [if_true]
      rw [w64 (by omega) (by omega)]
      exact_mod_cast ih (i + 1) (by omega) (by omega)
    refine Evt.succ (fun k => ?_) (key (rd_T24 [⟨r1, l1⟩, ⟨r2, l2⟩] (Int.tmod (i : Int) 2)).f0 (rd_T24 [⟨r1, l1⟩, ⟨r2, l2⟩] (Int.tmod (i : Int) 2)).f1 (rdOf ByteArray.empty [x2, p] ((i / 2 : Nat) : Int)) (rdOf ByteArray.empty [x3, q] ((i / 2 : Nat) : Int)) (rd [x4, wrap64 ((wrap64 x5) * 200)] ((i / 2 : Nat) : Int)) ?_)
    · rw [kerbsuitelaw12_DatabaseFinds.l0, if_pos (by omega), hq]
      simp only [Option.bind_some, List.length_cons, List.length_nil]
      rw [if_pos hm0, if_pos (by omega), if_pos (by omega), if_pos (by omega), if_pos (by omega), if_pos (by omega)]
    · have hc : Int.tmod (i : Int) 2 = 0 ∨ Int.tmod (i : Int) 2 = 1 := by omega
      rcases hc with hc | hc <;> rw [hc]
      · exact h1
      · exact h2
theorem DatabaseFinds : kerbsuitelaw12_DatabaseFinds.Pure := by
  intro a0_0 l0_1 l1 a2 a3 a4 a5 a6 _ hl _ _ _ hb _ _ _ _ h6
  have yes : Evt (fun k => kerbsuitelaw12_DatabaseFinds.j0 k l1 a2 a3 a4 a5 a6 true a0_0 l0_1) true := Evt.succ (g := fun _ => some true) (fun k => by rw [kerbsuitelaw12_DatabaseFinds.j0, if_pos rfl]) Evt.const
  obtain ⟨b, hlong⟩ := long_ev a0_0 l0_1 hl
  have go : Evt (fun k => (kerbsuitelaw12_long.f k a0_0 l0_1).bind fun t320 => (if t320 = true then (kerbsuitelaw12_DatabaseFinds.j0 k l1 a2 a3 a4 a5 a6 true a0_0 l0_1) else (if (a2.size : Int) > 100 then (kerbsuitelaw12_DatabaseFinds.j0 k l1 a2 a3 a4 a5 a6 true a0_0 l0_1) else (if (a3.size : Int) > 100 then (kerbsuitelaw12_DatabaseFinds.j0 k l1 a2 a3 a4 a5 a6 true a0_0 l0_1) else (kerbsuitelaw12_DatabaseFinds.j0 k l1 a2 a3 a4 a5 a6 (decide ((l1.length : Int) > 300)) a0_0 l0_1))))) true := by
    refine Evt.bind hlong ?_
    by_cases cb : b = true
    · simp only [if_pos cb]; exact yes
    simp only [if_neg cb]
    by_cases c2 : (a2.size : Int) > 100
    · simp only [if_pos c2]; exact yes
    simp only [if_neg c2]
    by_cases c3 : (a3.size : Int) > 100
    · simp only [if_pos c3]; exact yes
    simp only [if_neg c3]
    by_cases c1 : (l1.length : Int) > 300
    · simp only [decide_eq_true c1]; exact yes
    simp only [decide_eq_false c1]
    have w6 : 0 ≤ a6 ∧ a6 ≤ 255 := u8_of h6
    have hB : Bytes l1 := ⟨by omega, fun x hx => u8_of (hb x hx)⟩
    obtain ⟨o, ho, hbound⟩ := made_ev hB (n := 0) (by omega)
    have hbo : o.2.length ≤ maxLen := by simp only [maxLen]; omega
    have e6 : wrap64 a6 = a6 := w64 (by omega) (by omega)
    have h3 : 0 ≤ Int.tmod a6 3 := Int.tmod_nonneg 3 w6.1
    have h3' : Int.tmod a6 3 < 3 := Int.tmod_lt_of_pos _ (by omega)
    obtain ⟨u, hu⟩ := user_some h3 (by omega)
    have hd : 0 ≤ wrap64 (Int.tdiv (wrap64 a6) 2) := by rw [e6]; exact div_nn w6.1 (by omega) (by omega)
    have h4 : 0 ≤ Int.tmod (wrap64 (Int.tdiv (wrap64 a6) 2)) 3 := Int.tmod_nonneg 3 hd
    have h4' : Int.tmod (wrap64 (Int.tdiv (wrap64 a6) 2)) 3 < 3 := Int.tmod_lt_of_pos _ (by omega)
    obtain ⟨s, hs⟩ := service_some h4 (by omega)
    have rest : ∀ p q c : ByteArray, Evt (fun k => kerbsuitelaw12_DatabaseFinds.j1 k a2 a3 a4 a5 a0_0 l0_1 o.1 o.2 p q c) true := by
      intro p q c
      refine Evt.succ (fun k => by rw [kerbsuitelaw12_DatabaseFinds.j1]) ?_
      exact_mod_cast finds_loop hl hbo a2 a3 p q c a4 a5 4 0 (by omega) rfl
    refine Evt.succ (fun k => by rw [kerbsuitelaw12_DatabaseFinds.j0, if_neg (by simp)]) (Evt.bind ho ?_)
    rw [e6] at hs ⊢
    simp only [hu, hs, Option.bind_some]
    by_cases cs : Int.tmod a6 2 = 1
    · simp only [if_pos cs]; exact rest _ _ _
    · simp only [if_neg cs]; exact rest _ _ _
  have : Evt (fun k => kerbsuitelaw12_DatabaseFinds.f k a0_0 l0_1 l1 a2 a3 a4 a5 a6) true := by
    refine Evt.bind awake_ev ?_
    simp only [if_true]
    exact go
  exact this.ex
end Go.Proofs.YthfdfoigoomaoaaDoor.Pure
