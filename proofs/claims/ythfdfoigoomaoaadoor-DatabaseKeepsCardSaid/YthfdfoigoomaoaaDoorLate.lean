/- A load that may come up ahead of a store or behind it, and doesn't see it. -/
import Derived.OrdersHeld
import Derived.Test.YthfdfoigoomaoaaDoorStep
namespace Go.Proofs.YthfdfoigoomaoaaDoor.Aid
open Go Go.RowKit Go.Proofs.YthfdfoigoomaoaaDoorW.PrintWords Go.Proofs.YthfdfoigoomaoaaDoorW.PrintLast Go.Proofs.YthfdfoigoomaoaaDoorW.PrintMore
set_option linter.unusedVariables false
section
variable {P : Program} {ops : Array Oper} {Q : Exit → Act → World → Prop} {md : Region.Mode} {S : World → Prop} {ds : List Nat}
theorem farS_ {W : World} {g b j o : Nat} {u v : Value} (hne : g ≠ b) (h : W.cell? ⟨g, j, none⟩ = some v) : (W.setCell ⟨b, o, none⟩ u).cell? ⟨g, j, none⟩ = some v := (cell_far hne u).trans h
/-- A long world under a name of its own. -/
theorem hide_ {n : Nat} {l : Array Bool} {a : Act} {w : World} (h : ∀ W1, Aside0 (W1 = w) → wpAnyLast P md ops Q S ds n l a W1) : wpAnyLast P md ops Q S ds n l a w := h w ⟨rfl⟩
/-- .. ahead of any code. -/
theorem hideC_ {c : Code} {a : Act} {w : World} (h : ∀ W1, Aside0 (W1 = w) → Code.wp P c Q a W1) : Code.wp P c Q a w := h w ⟨rfl⟩
/-- A load that may come up ahead of a store or behind it, alone with it, and doesn't see it: taken ahead of it. -/
theorem late_ {i j : Nat} {N : Option Tmp} {oi oj : Oper} {v : Value} {fuel : Nat} {l : Array Bool} {a a' : Act} {w w1 : World} (S0 : World → Prop) (l' : Array Bool) (hi : ops[i]? = some oi) (hj : ops[j]? = some oj) (hN : oi.dst = N)
    (hr : Region.ready md ops l = [i, j]) (hl : l.setIfInBounds i true = l') (hrj : Region.ready md ops (l.setIfInBounds j true) = [i]) (hij : i ≠ j) (hd : j ∈ ds) (hap : oi.apart ops oj = true)
    (hsi : ∀ cs b, oi.op ≠ .select cs b) (hsj : ∀ cs b, oj.op ≠ .select cs b) (hQ : ∀ c a w, Q (.panic c) (a.put oi.dst v) w → Q (.panic c) a w)
    (hy : YieldsIf P ops S0 oi v a) (hS : S0 w) (hw : Region.wanted oj (yielded ops a.tmps) = true) (hrun : (execOp a.eval oj).run P w = .ok .skip w1) (hS1 : S0 w1) (ha : a.put N v = a')
    (h : wpAnyLast P md ops Q S ds (fuel + 1) l' a' w) : wpAnyLast P md ops Q S ds (fuel + 2) l a w := by
  subst hN
  subst hl
  subst ha
  refine ⟨fun h0 => (by rw [hr] at h0; cases h0), fun k hk => ?_⟩
  have hjr : j ∈ Region.ready md ops l := by rw [hr]; simp
  rw [hr] at hk
  rcases List.mem_cons.1 hk with rfl | hk
  · exact hy.wpOp hi hS ⟨fun _ h => h, h⟩
  · obtain rfl := List.mem_singleton.1 hk
    have h1 := h.2 k (ready_mono hjr (Ne.symm hij))
    have h2 := wpOp_putIf hj hap hsi hsj hQ hy h1
    have h3 : wpOp P ops Q k (fun a' w' => S0 w' ∧ (YieldsIf P ops S0 oi v a' ∧ ((k ∉ ds → S w → S w') ∧ wpAnyLast P md ops Q S ds fuel ((l.setIfInBounds i true).setIfInBounds k true) (a'.put oi.dst v) w'))) a w := by
      unfold wpOp at h2 ⊢
      simp only [hj, hw, if_true] at h2 ⊢
      rcases h2 with h2 | h2
      · refine .inl ?_
        unfold Oper.wp at h2 ⊢
        rw [hrun] at h2 ⊢
        exact ⟨hS1, h2⟩
      · exact .inr h2
    refine wpOp_mono (fun a' w' h4 => ⟨fun hn => absurd hd hn, fun h0 => (by rw [hrj] at h0; cases h0), fun q hq => ?_⟩) h3
    rw [hrj] at hq
    obtain rfl := List.mem_singleton.1 hq
    refine h4.2.1.wpOp hi h4.1 ⟨fun _ h => h, ?_⟩
    rw [Array.setIfInBounds_comm _ _ (Ne.symm hij)]
    exact h4.2.2.2
theorem lT_ (i j : Nat) (N : Option Tmp) (l' : Array Bool) (S0 : World → Prop) {oi oj : Oper} {v : Value} {fuel : Nat} {l : Array Bool} {a a' : Act} {w w1 : World} (h : wpAnyLast P md ops Q S ds (fuel + 1) l' a' w) (hS : S0 w) (hS1 : S0 w1) (hi : ops[i]? = some oi := by rfl) (hj : ops[j]? = some oj := by rfl) (hN : oi.dst = N := by rfl)
    (hr : Region.ready md ops l = [i, j] := by kernel_rfl) (hl : l.setIfInBounds i true = l' := by rfl) (hrj : Region.ready md ops (l.setIfInBounds j true) = [i] := by kernel_rfl) (hij : i ≠ j := by decide) (hd : j ∈ ds := by decide) (hap : oi.apart ops oj = true := by kernel_rfl)
    (hsi : ∀ cs b, oi.op ≠ .select cs b := by intro _ _ h; cases h) (hsj : ∀ cs b, oj.op ≠ .select cs b := by intro _ _ h; cases h) (hQ : ∀ c a w, Q (.panic c) (a.put oi.dst v) w → Q (.panic c) a w := by exact fun _ _ _ h => h)
    (hy : YieldsIf P ops S0 oi v a := by exact Or.inl ⟨by rfl, by intro w' s0; go_simp; with_reducible rfl⟩) (hw : Region.wanted oj (yielded ops a.tmps) = true := by rfl) (hrun : (execOp a.eval oj).run P w = .ok .skip w1 := by go_simp; rfl) (ha : a.put N v = a' := by (simp only [Act.put, sA_, sB_, sC_, i64_w, i32_w]; rfl)) : wpAnyLast P md ops Q S ds (fuel + 2) l a w :=
  late_ S0 l' hi hj hN hr hl hrj hij hd hap hsi hsj hQ hy hS hw hrun hS1 ha h
end
end Go.Proofs.YthfdfoigoomaoaaDoor.Aid
