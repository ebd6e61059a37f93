/- Short words for what the printed walks say again and again: what is known of a world, carried over what was made and drawn since. -/
import Derived.Test.YthfdfoigoomaoaaDoorWWords
import Derived.Test.YthfdfoigoomaoaaDoorWTab
import Derived.Test.YthfdfoigoomaoaaDoorWLast
import Derived.Test.YthfdfoigoomaoaaDoorWMore
import Derived.Test.YthfdfoigoomaoaaDoorWN
namespace Go.Proofs.YthfdfoigoomaoaaDoor.Aid
open Go Go.RowKit Go.Proofs.YthfdfoigoomaoaaDoorW.PrintWords Go.Proofs.YthfdfoigoomaoaaDoorW.PrintLast Go.Proofs.YthfdfoigoomaoaaDoorW.PrintMore
set_option linter.unusedVariables false
class Stp_ (q : Prop) (r : outParam Prop) : Prop where
  go : r → q
theorem bk_ {q r : Prop} [s : Stp_ q r] (h : r) : q := s.go h
instance (priority := low) stp_ (q : Prop) : Stp_ q q := ⟨id⟩
section
variable {w : World} {g : Nat} {o : Obj} {r : Prop}
instance stp_b1 {n : Nat} [s : Stp_ (w.heap[g]? = some o) r] : Stp_ ((w.drewN n).heap[g]? = some o) r := ⟨fun h => blk_drewN (s.go h) n⟩
instance stp_b2 [s : Stp_ (w.heap[g]? = some o) r] : Stp_ (w.drew.heap[g]? = some o) r := ⟨fun h => blk_drew (s.go h)⟩
instance stp_b3 {o' : Obj} [s : Stp_ (w.heap[g]? = some o) r] : Stp_ ((w.alloc o').heap[g]? = some o) r := ⟨fun h => blk_alloc (s.go h) o'⟩
variable {α : Type} {d : Kd α} {e base : Nat} {ok : Nat → Prop} {v : Value} {xs : List α}
instance stp_r1 {n : Nat} [s : Stp_ (Kd.R d e w base ok v xs) r] : Stp_ (Kd.R d e (w.drewN n) base ok v xs) r := ⟨fun h => Kd.R_drewN (s.go h) n⟩
instance stp_r2 [s : Stp_ (Kd.R d e w base ok v xs) r] : Stp_ (Kd.R d e w.drew base ok v xs) r := ⟨fun h => Kd.R_drew (s.go h)⟩
instance stp_r3 [s : Stp_ (Kd.R d e w base ok v xs) r] : Stp_ (Kd.R d e (w.alloc o) base ok v xs) r := ⟨fun h => Kd.R_alloc (s.go h) o⟩
instance stp_v1 {n : Nat} [s : Stp_ (Kd.V d e w base ok v xs) r] : Stp_ (Kd.V d e (w.drewN n) base ok v xs) r := ⟨fun h => Kd.V_drewN (s.go h) n⟩
instance stp_v2 [s : Stp_ (Kd.V d e w base ok v xs) r] : Stp_ (Kd.V d e w.drew base ok v xs) r := ⟨fun h => Kd.V_drew (s.go h)⟩
instance stp_v3 [s : Stp_ (Kd.V d e w base ok v xs) r] : Stp_ (Kd.V d e (w.alloc o) base ok v xs) r := ⟨fun h => Kd.V_alloc (s.go h) o⟩
instance stp_n1 {n : Nat} [s : Stp_ (Kd.N d e w base ok v xs) r] : Stp_ (Kd.N d e (w.drewN n) base ok v xs) r := ⟨fun h => Kd.N_drewN (s.go h) n⟩
instance stp_n2 [s : Stp_ (Kd.N d e w base ok v xs) r] : Stp_ (Kd.N d e w.drew base ok v xs) r := ⟨fun h => Kd.N_drew (s.go h)⟩
instance stp_n3 [s : Stp_ (Kd.N d e w base ok v xs) r] : Stp_ (Kd.N d e (w.alloc o) base ok v xs) r := ⟨fun h => Kd.N_alloc (s.go h) o⟩
variable {W : World} {B : Nat}
instance stp_w1 {n : Nat} [s : Stp_ (Below B w W) r] : Stp_ (Below B w (W.drewN n)) r := ⟨fun h => pw_below_drewN (s.go h) n⟩
instance stp_w2 [s : Stp_ (Below B w W) r] : Stp_ (Below B w W.drew) r := ⟨fun h => (s.go h).drew⟩
instance stp_w3 [s : Stp_ (Below w.heap.size w W) r] : Stp_ (Below w.heap.size w (W.alloc o)) r := ⟨fun h => below_alloc (s.go h) o⟩
end
theorem bA_ {w W : World} (h : Below w.heap.size w W) (o : Obj) : Below w.heap.size w (W.alloc o) := below_alloc h o
theorem bN_ {B : Nat} {w W : World} (h : Below B w W) (n : Nat) : Below B w (W.drewN n) := pw_below_drewN h n
theorem bD_ {B : Nat} {w W : World} (h : Below B w W) : Below B w W.drew := h.drew
theorem bS_ {w W : World} {g j : Nat} {v : Value} (h : Below w.heap.size w W) (hg : w.heap.size ≤ g) : Below w.heap.size w (W.setCell ⟨g, j, none⟩ v) := below_set h hg
theorem sA_ {α : Type _} (l : List α) (i : Nat) (a : α) : l.toArray.setIfInBounds i a = (l.set i a).toArray := List.setIfInBounds_toArray ..
theorem sB_ {α : Type _} (x : α) (l : List α) (a : α) : (x :: l).set 0 a = a :: l := List.set_cons_zero ..
theorem sC_ {α : Type _} (x : α) (l : List α) (n : Nat) (a : α) : (x :: l).set (n + 1) a = x :: l.set n a := List.set_cons_succ ..
/-! What a proof's small parts are found by: each is tried where it is used. -/
theorem gE_ {m n : Nat} (h : Aside0 (m ≤ n) := by assumption) : m ≤ n := h.out
theorem hB_ {B : Nat} {w W0 W : World} (H0 : Aside0 (Below B w W0) := by exact HB) (h : Below B w W := by repeat (first | (with_reducible first | exact HB.out | apply bA_ | apply bN_ | apply bD_ | (refine bS_ ?_ ?_; rotate_left; exact gE_)) | exact HB.out)) : Below B w W := h
theorem kF_ {w W : World} {g b j : Nat} {row : Option Nat} {u : Value} (h : KeepBut w W g row) (hp : w.heap.size ≤ b) : KeepBut w (W.setCell ⟨b, j, none⟩ u) g row := keep_far h hp u
theorem kB_ {w W0 W : World} {g : Nat} {row : Option Nat} (H0 : Aside0 (KeepBut w W0 g row) := by exact HK) (h : KeepBut w W g row := by repeat (first | (with_reducible first | exact HK.out | apply KeepBut.set_ | apply keep_drewN | apply keep_drew | apply keep_alloc | (refine kF_ ?_ ?_; rotate_left; exact gE_)) | exact HK.out)) : KeepBut w W g row := h
theorem aR_ {p : Prop} (h : p := by (try simp only [List.map_toArray, List.map_cons, List.map_nil]); first | done | rfl | (simp only [List.length_drop, List.length_take]; rfl)) : p := h
theorem dT_ {p : Prop} [Decidable p] (h : decide p = true := by first | (with_reducible assumption) | assumption) : p := of_decide_eq_true h
theorem rS_ {p : Prop} (h : p := by first | rfl | (simp; done) | (simp [*]; done)) : p := h
theorem eW_ {p : Prop} (h : p := by first | rfl | (simp [errW_none, errW_some] <;> rfl) | (simp [*, errW_none, errW_some] <;> rfl)) : p := h
theorem bc_ {w : World} {g : Nat} {t : TypeId} {cs : Array Value} {v : Value} (h : w.heap[g]? = some (.cells cs t (0, 0))) (i : Nat) (e : cs[i]? = some v := by rfl) : w.cell? ⟨g, i, none⟩ = some v := (blk_cell h i).trans e
theorem aM_ {p : Prop} (h : p) : Aside0 p := ⟨h⟩
section
variable {P : Program} {ops : Array Oper} {Q : Exit → Act → World → Prop} {md : Region.Mode} {S : World → Prop} {ds : List Nat}
theorem pU_ (i : Nat) (N : Option Tmp) (l' : Array Bool) {oi : Oper} {v : Value} {fuel : Nat} {l : Array Bool} {a a' : Act} {w : World} (h : wpAnyLast P md ops Q S ds fuel l' a' w) (hi : ops[i]? = some oi := by rfl) (hN : oi.dst = N := by rfl) (hc : anyB md ops l l' i = true := by exact any_of HT_.out (by kernel_rfl))
    (hQ : ∀ c a w, Q (.panic c) (a.put oi.dst v) w → Q (.panic c) a w := by exact fun _ _ _ h => h) (hy : Yields P ops oi v a := by exact Or.inl ⟨by rfl, by intro w'; go_simp; with_reducible rfl⟩) (ha : a.put N v = a' := by (simp only [Act.put, sA_, sB_, sC_, i64_w, i32_w]; rfl)) : wpAnyLast P md ops Q S ds (fuel + 1) l a w := pure_ l' hi hN hc hQ hy ha h
theorem pV_ (i : Nat) (N : Option Tmp) (l' : Array Bool) {oi : Oper} {fuel : Nat} {l : Array Bool} {a a' : Act} {w : World} (h : wpAnyLast P md ops Q S ds fuel l' a' w) (hi : ops[i]? = some oi := by rfl) (hN : oi.dst = N := by rfl) (hc : anyB md ops l l' i = true := by exact any_of HT_.out (by kernel_rfl))
    (hQ : ∀ c a w, Q (.panic c) (a.put oi.dst undef) w → Q (.panic c) a w := by exact fun _ _ _ h => h) (hy : Yields P ops oi undef a := by exact Or.inr ⟨by rfl, rfl⟩) (ha : a.put N undef = a' := by (simp only [Act.put, sA_, sB_, sC_, i64_w, i32_w]; rfl)) : wpAnyLast P md ops Q S ds (fuel + 1) l a w := pure_ l' hi hN hc hQ hy ha h
theorem nO_ (N : Tmp) {fuel : Nat} {l : Array Bool} {a a0 a' : Act} {v : Value} {w : World} (h : wpAnyLast P md ops Q S ds fuel l a' w) (e : a = Act.put a0 (some N) v := by rfl) (ha : Act.put a0 (some N) v = a' := by (simp only [Act.put, sA_, sB_, sC_, i64_w, i32_w]; rfl)) : wpAnyLast P md ops Q S ds fuel l a w := norm_ (e.trans ha) h
theorem nP_ {fuel : Nat} {l : Array Bool} {a a' : Act} {w : World} (h : wpAnyLast P md ops Q S ds fuel l a' w) (ha : a = a' := by (simp only [putAll, Act.put, sA_, sB_, sC_]; rfl)) : wpAnyLast P md ops Q S ds fuel l a w := norm_ ha h
theorem nQ_ {fuel : Nat} {l : Array Bool} {a a' : Act} {w : World} (h : wpAnyLast P md ops Q S ds fuel l a' w) (ha : a = a' := by simp only [putAll, Act.put, sA_, sB_, sC_] <;> rfl) : wpAnyLast P md ops Q S ds fuel l a w := norm_ ha h
end
/-! Words by which facts go on to a later world: how it came out of the earlier one is found by its form. -/
class Aft_ (w W : World) : Prop where
  sz : w.heap.size ≤ W.heap.size
instance (priority := low) aft_0 (w : World) : Aft_ w w := ⟨Nat.le_refl _⟩
section
variable {w W : World} [a : Aft_ w W]
instance aft_1 {o : Obj} : Aft_ w (W.alloc o) := ⟨Nat.le_trans a.sz (below_alloc (Below.refl W.heap.size W) o).size⟩
instance aft_2 : Aft_ w W.drew := ⟨a.sz⟩
instance aft_3 {n : Nat} : Aft_ w (W.drewN n) := ⟨a.sz⟩
instance aft_4 {p : Addr} {u : Value} : Aft_ w (W.setCell p u) := ⟨by simpa [World.setCell] using a.sz⟩
end
class Grw_ (w W : World) : Prop where
  blk : ∀ {g : Nat} {o : Obj}, w.heap[g]? = some o → W.heap[g]? = some o
instance (priority := low) grw_0 (w : World) : Grw_ w w := ⟨id⟩
section
variable {w W : World} [a : Grw_ w W]
instance grw_1 {o : Obj} : Grw_ w (W.alloc o) := ⟨fun h => blk_alloc (a.blk h) o⟩
instance grw_2 : Grw_ w W.drew := ⟨fun h => blk_drew (a.blk h)⟩
instance grw_3 {n : Nat} : Grw_ w (W.drewN n) := ⟨fun h => blk_drewN (a.blk h) n⟩
end
class Put_ (w W : World) (g : Nat) (cs : List Value) (cs' : outParam (List Value)) : Prop where
  put : ∀ {t : TypeId}, w.heap[g]? = some (.cells cs.toArray t (0, 0)) → W.heap[g]? = some (.cells cs'.toArray t (0, 0))
instance (priority := low) put_0 (w : World) (g : Nat) (cs : List Value) : Put_ w w g cs cs := ⟨id⟩
section
variable {w W : World} {g : Nat} {cs cs' : List Value} [a : Put_ w W g cs cs']
instance put_1 {o : Obj} : Put_ w (W.alloc o) g cs cs' := ⟨fun h => blk_alloc (a.put h) o⟩
instance put_2 : Put_ w W.drew g cs cs' := ⟨fun h => blk_drew (a.put h)⟩
instance put_3 {n : Nat} : Put_ w (W.drewN n) g cs cs' := ⟨fun h => blk_drewN (a.put h) n⟩
instance put_4 {i : Nat} {u : Value} : Put_ w (W.setCell ⟨g, i, none⟩ u) g cs (cs'.set i u) := ⟨fun h => by
  have h2 := blk_set (a.put h) i u
  rwa [List.setIfInBounds_toArray] at h2⟩
end
class Gro_ (w W : World) : Prop where
  blw : Below w.heap.size w W
instance (priority := low) gro_0 (w : World) : Gro_ w w := ⟨Below.refl _ _⟩
section
variable {w W : World} [a : Gro_ w W]
instance gro_1 {o : Obj} : Gro_ w (W.alloc o) := ⟨below_alloc a.blw o⟩
instance gro_2 : Gro_ w W.drew := ⟨a.blw.drew⟩
instance gro_3 {n : Nat} : Gro_ w (W.drewN n) := ⟨pw_below_drewN a.blw n⟩
end
section
variable {α : Type} {d : Kd α} {w W0 W : World} {A : Option Addr} {n : Nat} {xs : List α}
theorem cD_ (h : d.C w A n xs) [a : Gro_ w W] : d.C W A n xs := Kd.C_below h a.blw
theorem cC_ (h : d.C w A n xs) (hb : Below w.heap.size w W0) [a : Gro_ W0 W] : d.C W A n xs := Kd.C_below h (below_step hb a.blw)
theorem cH_ {p : Addr} {v : Value} (h : Below w.heap.size w W) (hc : w.cell? p = some v) : W.cell? p = some v := (h.cell (World.block_lt_of_cell? w _ hc)).trans hc
end
class Fas_ (w W : World) (b : Nat) : Prop where
  far : ∀ {g : Nat} {o : Obj}, g ≠ b → w.heap[g]? = some o → W.heap[g]? = some o
instance (priority := low) fas_0 (w : World) (b : Nat) : Fas_ w w b := ⟨fun _ h => h⟩
section
variable {w W : World} {b : Nat} [a : Fas_ w W b]
instance fas_1 {o : Obj} : Fas_ w (W.alloc o) b := ⟨fun e h => blk_alloc (a.far e h) o⟩
instance fas_2 : Fas_ w W.drew b := ⟨fun e h => blk_drew (a.far e h)⟩
instance fas_3 {n : Nat} : Fas_ w (W.drewN n) b := ⟨fun e h => blk_drewN (a.far e h) n⟩
instance fas_4 {i : Nat} {u : Value} : Fas_ w (W.setCell ⟨b, i, none⟩ u) b := ⟨fun e h => (Below.heap_setCell W ⟨b, i, none⟩ u _ e).trans (a.far e h)⟩
theorem far_ {g : Nat} {o : Obj} (e : g ≠ b) (h : w.heap[g]? = some o) : W.heap[g]? = some o := a.far e h
end
section
variable {α : Type} {d : Kd α} {e : Nat} {W : World} {base : Nat} {ok : Nat → Prop} {v : Value} {xs : List α} {g i : Nat} {u : Value}
theorem rF_ (h : Kd.R d e W base ok v xs) (hok : ∀ k, ok k → k ≠ g := by exact fun _ hk => hk.2) : Kd.R d e (W.setCell ⟨g, i, none⟩ u) base ok v xs := Kd.R_far (p := ⟨g, i, none⟩) h hok u
theorem vF_ (h : Kd.V d e W base ok v xs) (hok : ∀ k, ok k → k ≠ g := by exact fun _ hk => hk.2) : Kd.V d e (W.setCell ⟨g, i, none⟩ u) base ok v xs := Kd.V_far (p := ⟨g, i, none⟩) h hok u
end
theorem gR_ {w W : World} {g : Nat} {o : Obj} (h : w.heap[g]? = some o) [a : Grw_ w W] : W.heap[g]? = some o := a.blk h
section
variable {w W W0 W2 : World} {g k : Nat} {o : Obj} {t : TypeId}
theorem gB_ (hg : g = W.heap.size) (h : Below w.heap.size w W0) [a : Aft_ W0 W] : w.heap.size ≤ g := hg ▸ Nat.le_trans h.size a.sz
theorem nI_ (hg : g = W.heap.size) (h : k < w.heap.size) [a : Aft_ w W] : k ≠ g := hg ▸ Nat.ne_of_lt (Nat.lt_of_lt_of_le h a.sz)
theorem nJ_ (hg : g = W.heap.size) (h : k < w.heap.size) [a : Aft_ w W] : g ≠ k := fun e => nI_ hg h e.symm
theorem nL_ (hg : g = W.heap.size) (h : w.heap[k]? = some o) [a : Aft_ w W] : k ≠ g := nI_ hg (blk_lt h)
theorem nG_ (hg : g = W.heap.size) (h : w.heap[k]? = some o) [a : Aft_ w W] : g ≠ k := fun e => nI_ hg (blk_lt h) e.symm
theorem kG_ (h : w.heap[g]? = some o) (hb : Below W.heap.size W W2) [a : Grw_ w W] : W2.heap[g]? = some o := blk_below (a.blk h) hb
theorem puts_ {cs cs' cs2 : List Value} (h : w.heap[g]? = some (.cells cs.toArray t (0, 0))) [a : Put_ w W g cs cs'] (e : cs' = cs2 := by rfl) : W.heap[g]? = some (.cells cs2.toArray t (0, 0)) := e ▸ a.put h
theorem kC2_ {v0 v1 : Value} (h : w.heap[g]? = some (.cells #[v0, v1] t (0, 0))) : w.cell? ⟨g, 0, none⟩ = some v0 ∧ w.cell? ⟨g, 1, none⟩ = some v1 := ⟨blk_cell h 0, blk_cell h 1⟩
theorem kC3_ {v0 v1 v2 : Value} (h : w.heap[g]? = some (.cells #[v0, v1, v2] t (0, 0))) : w.cell? ⟨g, 0, none⟩ = some v0 ∧ w.cell? ⟨g, 1, none⟩ = some v1 ∧ w.cell? ⟨g, 2, none⟩ = some v2 := ⟨blk_cell h 0, blk_cell h 1, blk_cell h 2⟩
theorem kC9_ {v0 v1 v2 v3 v4 v5 v6 v7 v8 : Value} (h : w.heap[g]? = some (.cells #[v0, v1, v2, v3, v4, v5, v6, v7, v8] t (0, 0))) : w.cell? ⟨g, 0, none⟩ = some v0 ∧ w.cell? ⟨g, 1, none⟩ = some v1 ∧ w.cell? ⟨g, 2, none⟩ = some v2 ∧ w.cell? ⟨g, 3, none⟩ = some v3 ∧ w.cell? ⟨g, 4, none⟩ = some v4 ∧ w.cell? ⟨g, 5, none⟩ = some v5 ∧ w.cell? ⟨g, 6, none⟩ = some v6 ∧ w.cell? ⟨g, 7, none⟩ = some v7 ∧ w.cell? ⟨g, 8, none⟩ = some v8 :=
  ⟨blk_cell h 0, blk_cell h 1, blk_cell h 2, blk_cell h 3, blk_cell h 4, blk_cell h 5, blk_cell h 6, blk_cell h 7, blk_cell h 8⟩
theorem kZ2_ {cs : Array Value} (h : w.heap[g]? = some (.cells cs t (0, 0))) : w.frozen? ⟨g, 0, none⟩ = false ∧ w.frozen? ⟨g, 1, none⟩ = false := ⟨blk_frozen h 0, blk_frozen h 1⟩
theorem kZ3_ {cs : Array Value} (h : w.heap[g]? = some (.cells cs t (0, 0))) : w.frozen? ⟨g, 0, none⟩ = false ∧ w.frozen? ⟨g, 1, none⟩ = false ∧ w.frozen? ⟨g, 2, none⟩ = false := ⟨blk_frozen h 0, blk_frozen h 1, blk_frozen h 2⟩
theorem kZ9_ {cs : Array Value} (h : w.heap[g]? = some (.cells cs t (0, 0))) : w.frozen? ⟨g, 0, none⟩ = false ∧ w.frozen? ⟨g, 1, none⟩ = false ∧ w.frozen? ⟨g, 2, none⟩ = false ∧ w.frozen? ⟨g, 3, none⟩ = false ∧ w.frozen? ⟨g, 4, none⟩ = false ∧ w.frozen? ⟨g, 5, none⟩ = false ∧ w.frozen? ⟨g, 6, none⟩ = false ∧ w.frozen? ⟨g, 7, none⟩ = false ∧ w.frozen? ⟨g, 8, none⟩ = false :=
  ⟨blk_frozen h 0, blk_frozen h 1, blk_frozen h 2, blk_frozen h 3, blk_frozen h 4, blk_frozen h 5, blk_frozen h 6, blk_frozen h 7, blk_frozen h 8⟩
end
section
variable {P : Program} {ops : Array Oper} {rest : List Oper} {o : Oper} {a : Act} {Q : Exit → Act → World → Prop} {W : World} {md : Region.Mode} {S : World → Prop} {ds : List Nat}
theorem bE_ (N : Tmp) (t : TypeId) (cs : Array Value) (h : ∀ g, g = W.heap.size → ∀ w1, w1.heap[g]? = some (.cells cs t (0, 0)) → Below W.heap.size W w1 → wpList P ops Q rest (a.put o.dst (.pointer (some ⟨g, 0, none⟩))) w1) (hgd : o.guard = none := by rfl) (hd : o.dst = some N := by rfl)
    (hrun : (execOp a.eval o).run P W = .ok (.value (.pointer (some ⟨W.heap.size, 0, none⟩))) (W.alloc (.cells cs t (0, 0))) := by first | (go_simp; done) | (go_simp; rfl)) : wpList P ops Q (o :: rest) a W := box_event hgd hd hrun h
theorem gC_ (N : Option Tmp) (f : FuncId) (args : Array Value) {fn : Func} {as : Array Operand} {ts : Array TypeId} (hf : P.funcs[f]? = some fn) (h : Calls P f args W fun e w' => ∃ v, e = .returned v ∧ wpList P ops Q rest (a.put N v) w') (hop : o.op = .call { callee := .value (.func f), args := as, argTypes := ts } := by rfl)
    (hd : o.dst = N := by rfl) (hg : o.guard = none := by rfl) (hname : (fn.name == "runtime.NumGoroutine") = false := by kernel_rfl) (hb : fn.body.isSome = true := by rfl) (hargs : as.map a.eval = args := by (try simp only [List.map_toArray, List.map_cons, List.map_nil]); first | done | rfl | (simp only [List.length_drop, List.length_take]; rfl)) : wpList P ops Q (o :: rest) a W := goesL_ N hd hg hf hname hb args hop hargs h
theorem tK_ (i : Nat) (N : Option Tmp) (l' : Array Bool) {oi : Oper} {v : Value} {fuel : Nat} {l : Array Bool} {a a' : Act} {w : World} (hS : S w) (h : wpAnyLast P md ops Q S ds fuel l' a' w) (hi : ops[i]? = some oi := by rfl) (hN : oi.dst = N := by rfl) (hc : takeB md ops ds l l' i = true := by exact take_ofW HT_.out HW_.out (by kernel_rfl))
    (hQ : ∀ c a w, Q (.panic c) (a.put oi.dst v) w → Q (.panic c) a w := by exact fun _ _ _ h => h) (hy : YieldsIf P ops S oi v a := by exact Or.inl ⟨by rfl, by intro w' s0; go_simp; with_reducible rfl⟩) (ha : a.put N v = a' := by (simp only [Act.put, sA_, sB_, sC_, i64_w, i32_w]; rfl)) : wpAnyLast P md ops Q S ds (fuel + 1) l a w := take_ l' hi hN hc hQ hy hS ha h
end
end Go.Proofs.YthfdfoigoomaoaaDoor.Aid
