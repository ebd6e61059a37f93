/- Short words for what the printed walks say again and again: what is known of a world, carried over what was made and drawn since. -/
import Derived.Test.YthfdfoigoomaoaaDoorWWords
import Derived.Test.YthfdfoigoomaoaaDoorWTab
import Derived.Test.YthfdfoigoomaoaaDoorWLast
import Derived.Test.YthfdfoigoomaoaaDoorWMore
import Derived.Test.YthfdfoigoomaoaaDoorWN
namespace Go.Proofs.YthfdfoigoomaoaaDoor.Aid
open Go Go.RowKit Go.Proofs.YthfdfoigoomaoaaDoorW.PrintWords Go.Proofs.YthfdfoigoomaoaaDoorW.PrintLast Go.Proofs.YthfdfoigoomaoaaDoorW.PrintMore
set_option linter.unusedVariables false
class Stp_ (q : Prop) (r : outParam Prop) : Prop where
  go : r → q
theorem bk_ {q r : Prop} [s : Stp_ q r] (h : r) : q := s.go h
instance (priority := low) stp_ (q : Prop) : Stp_ q q := ⟨id⟩
section
variable {w : World} {g : Nat} {o : Obj} {r : Prop}
instance stp_b1 {n : Nat} [s : Stp_ (w.heap[g]? = some o) r] : Stp_ ((w.drewN n).heap[g]? = some o) r := ⟨fun h => blk_drewN (s.go h) n⟩
instance stp_b2 [s : Stp_ (w.heap[g]? = some o) r] : Stp_ (w.drew.heap[g]? = some o) r := ⟨fun h => blk_drew (s.go h)⟩
instance stp_b3 {o' : Obj} [s : Stp_ (w.heap[g]? = some o) r] : Stp_ ((w.alloc o').heap[g]? = some o) r := ⟨fun h => blk_alloc (s.go h) o'⟩
variable {α : Type} {d : Kd α} {e base : Nat} {ok : Nat → Prop} {v : Value} {xs : List α}
instance stp_r1 {n : Nat} [s : Stp_ (Kd.R d e w base ok v xs) r] : Stp_ (Kd.R d e (w.drewN n) base ok v xs) r := ⟨fun h => Kd.R_drewN (s.go h) n⟩
instance stp_r2 [s : Stp_ (Kd.R d e w base ok v xs) r] : Stp_ (Kd.R d e w.drew base ok v xs) r := ⟨fun h => Kd.R_drew (s.go h)⟩
instance stp_r3 [s : Stp_ (Kd.R d e w base ok v xs) r] : Stp_ (Kd.R d e (w.alloc o) base ok v xs) r := ⟨fun h => Kd.R_alloc (s.go h) o⟩
instance stp_v1 {n : Nat} [s : Stp_ (Kd.V d e w base ok v xs) r] : Stp_ (Kd.V d e (w.drewN n) base ok v xs) r := ⟨fun h => Kd.V_drewN (s.go h) n⟩
instance stp_v2 [s : Stp_ (Kd.V d e w base ok v xs) r] : Stp_ (Kd.V d e w.drew base ok v xs) r := ⟨fun h => Kd.V_drew (s.go h)⟩
instance stp_v3 [s : Stp_ (Kd.V d e w base ok v xs) r] : Stp_ (Kd.V d e (w.alloc o) base ok v xs) r := ⟨fun h => Kd.V_alloc (s.go h) o⟩
instance stp_n1 {n : Nat} [s : Stp_ (Kd.N d e w base ok v xs) r] : Stp_ (Kd.N d e (w.drewN n) base ok v xs) r := ⟨fun h => Kd.N_drewN (s.go h) n⟩
instance stp_n2 [s : Stp_ (Kd.N d e w base ok v xs) r] : Stp_ (Kd.N d e w.drew base ok v xs) r := ⟨fun h => Kd.N_drew (s.go h)⟩
instance stp_n3 [s : Stp_ (Kd.N d e w base ok v xs) r] : Stp_ (Kd.N d e (w.alloc o) base ok v xs) r := ⟨fun h => Kd.N_alloc (s.go h) o⟩
variable {W : World} {B : Nat}
instance stp_w1 {n : Nat} [s : Stp_ (Below B w W) r] : Stp_ (Below B w (W.drewN n)) r := ⟨fun h => pw_below_drewN (s.go h) n⟩
instance stp_w2 [s : Stp_ (Below B w W) r] : Stp_ (Below B w W.drew) r := ⟨fun h => (s.go h).drew⟩
instance stp_w3 [s : Stp_ (Below w.heap.size w W) r] : Stp_ (Below w.heap.size w (W.alloc o)) r := ⟨fun h => below_alloc (s.go h) o⟩
end
theorem bA_ {w W : World} (h : Below w.heap.size w W) (o : Obj) : Below w.heap.size w (W.alloc o) := below_alloc h o
theorem bN_ {B : Nat} {w W : World} (h : Below B w W) (n : Nat) : Below B w (W.drewN n) := pw_below_drewN h n
theorem bD_ {B : Nat} {w W : World} (h : Below B w W) : Below B w W.drew := h.drew
theorem bS_ {w W : World} {g j : Nat} {v : Value} (h : Below w.heap.size w W) (hg : w.heap.size ≤ g) : Below w.heap.size w (W.setCell ⟨g, j, none⟩ v) := below_set h hg
theorem sA_ {α : Type _} (l : List α) (i : Nat) (a : α) : l.toArray.setIfInBounds i a = (l.set i a).toArray := List.setIfInBounds_toArray ..
theorem sB_ {α : Type _} (x : α) (l : List α) (a : α) : (x :: l).set 0 a = a :: l := List.set_cons_zero ..
theorem sC_ {α : Type _} (x : α) (l : List α) (n : Nat) (a : α) : (x :: l).set (n + 1) a = x :: l.set n a := List.set_cons_succ ..
/-! What a proof's small parts are found by: each is tried where it is used. -/
theorem gE_ {m n : Nat} (h : Aside0 (m ≤ n) := by assumption) : m ≤ n := h.out
theorem hB_ {B : Nat} {w W0 W : World} (H0 : Aside0 (Below B w W0) := by exact HB) (h : Below B w W := by repeat (first | (with_reducible first | exact HB.out | apply bA_ | apply bN_ | apply bD_ | (refine bS_ ?_ ?_; rotate_left; exact gE_)) | exact HB.out)) : Below B w W := h
theorem kF_ {w W : World} {g b j : Nat} {row : Option Nat} {u : Value} (h : KeepBut w W g row) (hp : w.heap.size ≤ b) : KeepBut w (W.setCell ⟨b, j, none⟩ u) g row := keep_far h hp u
theorem kB_ {w W0 W : World} {g : Nat} {row : Option Nat} (H0 : Aside0 (KeepBut w W0 g row) := by exact HK) (h : KeepBut w W g row := by repeat (first | (with_reducible first | exact HK.out | apply KeepBut.set_ | apply keep_drewN | apply keep_drew | apply keep_alloc | (refine kF_ ?_ ?_; rotate_left; exact gE_)) | exact HK.out)) : KeepBut w W g row := h
theorem aR_ {p : Prop} (h : p := by (try simp only [List.map_toArray, List.map_cons, List.map_nil]); first | done | rfl | (simp only [List.length_drop, List.length_take]; rfl)) : p := h
theorem dT_ {p : Prop} [Decidable p] (h : decide p = true := by first | (with_reducible assumption) | assumption) : p := of_decide_eq_true h
theorem rS_ {p : Prop} (h : p := by first | rfl | (simp; done) | (simp [*]; done)) : p := h
theorem eW_ {p : Prop} (h : p := by first | rfl | (simp [errW_none, errW_some] <;> rfl) | (simp [*, errW_none, errW_some] <;> rfl)) : p := h
theorem bc_ {w : World} {g : Nat} {t : TypeId} {cs : Array Value} {v : Value} (h : w.heap[g]? = some (.cells cs t (0, 0))) (i : Nat) (e : cs[i]? = some v := by rfl) : w.cell? ⟨g, i, none⟩ = some v := (blk_cell h i).trans e
theorem aM_ {p : Prop} (h : p) : Aside0 p := ⟨h⟩
section
variable {P : Program} {ops : Array Oper} {Q : Exit → Act → World → Prop} {md : Region.Mode} {S : World → Prop} {ds : List Nat}
theorem pU_ (i : Nat) (N : Option Tmp) (l' : Array Bool) {oi : Oper} {v : Value} {fuel : Nat} {l : Array Bool} {a a' : Act} {w : World} (h : wpAnyLast P md ops Q S ds fuel l' a' w) (hi : ops[i]? = some oi := by rfl) (hN : oi.dst = N := by rfl) (hc : anyB md ops l l' i = true := by exact any_of HT_.out (by kernel_rfl))
    (hQ : ∀ c a w, Q (.panic c) (a.put oi.dst v) w → Q (.panic c) a w := by exact fun _ _ _ h => h) (hy : Yields P ops oi v a := by exact Or.inl ⟨by rfl, by intro w'; go_simp; with_reducible rfl⟩) (ha : a.put N v = a' := by (simp only [Act.put, sA_, sB_, sC_, i64_w, i32_w]; rfl)) : wpAnyLast P md ops Q S ds (fuel + 1) l a w := pure_ l' hi hN hc hQ hy ha h
theorem pV_ (i : Nat) (N : Option Tmp) (l' : Array Bool) {oi : Oper} {fuel : Nat} {l : Array Bool} {a a' : Act} {w : World} (h : wpAnyLast P md ops Q S ds fuel l' a' w) (hi : ops[i]? = some oi := by rfl) (hN : oi.dst = N := by rfl) (hc : anyB md ops l l' i = true := by exact any_of HT_.out (by kernel_rfl))
    (hQ : ∀ c a w, Q (.panic c) (a.put oi.dst undef) w → Q (.panic c) a w := by exact fun _ _ _ h => h) (hy : Yields P ops oi undef a := by exact Or.inr ⟨by rfl, rfl⟩) (ha : a.put N undef = a' := by (simp only [Act.put, sA_, sB_, sC_, i64_w, i32_w]; rfl)) : wpAnyLast P md ops Q S ds (fuel + 1) l a w := pure_ l' hi hN hc hQ hy ha h
theorem nO_ (N : Tmp) {fuel : Nat} {l : Array Bool} {a a0 a' : Act} {v : Value} {w : World} (h : wpAnyLast P md ops Q S ds fuel l a' w) (e : a = Act.put a0 (some N) v := by rfl) (ha : Act.put a0 (some N) v = a' := by (simp only [Act.put, sA_, sB_, sC_, i64_w, i32_w]; rfl)) : wpAnyLast P md ops Q S ds fuel l a w := norm_ (e.trans ha) h
theorem nP_ {fuel : Nat} {l : Array Bool} {a a' : Act} {w : World} (h : wpAnyLast P md ops Q S ds fuel l a' w) (ha : a = a' := by (simp only [putAll, Act.put, sA_, sB_, sC_]; rfl)) : wpAnyLast P md ops Q S ds fuel l a w := norm_ ha h
theorem nQ_ {fuel : Nat} {l : Array Bool} {a a' : Act} {w : World} (h : wpAnyLast P md ops Q S ds fuel l a' w) (ha : a = a' := by simp only [putAll, Act.put, sA_, sB_, sC_] <;> rfl) : wpAnyLast P md ops Q S ds fuel l a w := norm_ ha h
end
end Go.Proofs.YthfdfoigoomaoaaDoor.Aid
