/- Short words for what the printed walks say again and again: what is known of a world, carried over what was made and drawn since. -/
import Derived.Test.YthfdfoigoomaoaaDoorWWords
import Derived.Test.YthfdfoigoomaoaaDoorWMore
import Derived.Test.YthfdfoigoomaoaaDoorWN
namespace Go.Proofs.YthfdfoigoomaoaaDoor.Aid
open Go Go.RowKit Go.Proofs.YthfdfoigoomaoaaDoorW.PrintWords
class Stp_ (q : Prop) (r : outParam Prop) : Prop where
  go : r → q
theorem bk_ {q r : Prop} [s : Stp_ q r] (h : r) : q := s.go h
instance (priority := low) stp_ (q : Prop) : Stp_ q q := ⟨id⟩
section
variable {w : World} {g : Nat} {o : Obj} {r : Prop}
instance stp_b1 {n : Nat} [s : Stp_ (w.heap[g]? = some o) r] : Stp_ ((w.drewN n).heap[g]? = some o) r := ⟨fun h => blk_drewN (s.go h) n⟩
instance stp_b2 [s : Stp_ (w.heap[g]? = some o) r] : Stp_ (w.drew.heap[g]? = some o) r := ⟨fun h => blk_drew (s.go h)⟩
instance stp_b3 {o' : Obj} [s : Stp_ (w.heap[g]? = some o) r] : Stp_ ((w.alloc o').heap[g]? = some o) r := ⟨fun h => blk_alloc (s.go h) o'⟩
variable {α : Type} {d : Kd α} {e base : Nat} {ok : Nat → Prop} {v : Value} {xs : List α}
instance stp_r1 {n : Nat} [s : Stp_ (Kd.R d e w base ok v xs) r] : Stp_ (Kd.R d e (w.drewN n) base ok v xs) r := ⟨fun h => Kd.R_drewN (s.go h) n⟩
instance stp_r2 [s : Stp_ (Kd.R d e w base ok v xs) r] : Stp_ (Kd.R d e w.drew base ok v xs) r := ⟨fun h => Kd.R_drew (s.go h)⟩
instance stp_r3 [s : Stp_ (Kd.R d e w base ok v xs) r] : Stp_ (Kd.R d e (w.alloc o) base ok v xs) r := ⟨fun h => Kd.R_alloc (s.go h) o⟩
instance stp_v1 {n : Nat} [s : Stp_ (Kd.V d e w base ok v xs) r] : Stp_ (Kd.V d e (w.drewN n) base ok v xs) r := ⟨fun h => Kd.V_drewN (s.go h) n⟩
instance stp_v2 [s : Stp_ (Kd.V d e w base ok v xs) r] : Stp_ (Kd.V d e w.drew base ok v xs) r := ⟨fun h => Kd.V_drew (s.go h)⟩
instance stp_v3 [s : Stp_ (Kd.V d e w base ok v xs) r] : Stp_ (Kd.V d e (w.alloc o) base ok v xs) r := ⟨fun h => Kd.V_alloc (s.go h) o⟩
instance stp_n1 {n : Nat} [s : Stp_ (Kd.N d e w base ok v xs) r] : Stp_ (Kd.N d e (w.drewN n) base ok v xs) r := ⟨fun h => Kd.N_drewN (s.go h) n⟩
instance stp_n2 [s : Stp_ (Kd.N d e w base ok v xs) r] : Stp_ (Kd.N d e w.drew base ok v xs) r := ⟨fun h => Kd.N_drew (s.go h)⟩
instance stp_n3 [s : Stp_ (Kd.N d e w base ok v xs) r] : Stp_ (Kd.N d e (w.alloc o) base ok v xs) r := ⟨fun h => Kd.N_alloc (s.go h) o⟩
variable {W : World} {B : Nat}
instance stp_w1 {n : Nat} [s : Stp_ (Below B w W) r] : Stp_ (Below B w (W.drewN n)) r := ⟨fun h => pw_below_drewN (s.go h) n⟩
instance stp_w2 [s : Stp_ (Below B w W) r] : Stp_ (Below B w W.drew) r := ⟨fun h => (s.go h).drew⟩
instance stp_w3 [s : Stp_ (Below w.heap.size w W) r] : Stp_ (Below w.heap.size w (W.alloc o)) r := ⟨fun h => below_alloc (s.go h) o⟩
end
theorem bA_ {w W : World} (h : Below w.heap.size w W) (o : Obj) : Below w.heap.size w (W.alloc o) := below_alloc h o
theorem bN_ {B : Nat} {w W : World} (h : Below B w W) (n : Nat) : Below B w (W.drewN n) := pw_below_drewN h n
theorem bD_ {B : Nat} {w W : World} (h : Below B w W) : Below B w W.drew := h.drew
theorem bS_ {w W : World} {g j : Nat} {v : Value} (h : Below w.heap.size w W) (hg : w.heap.size ≤ g) : Below w.heap.size w (W.setCell ⟨g, j, none⟩ v) := below_set h hg
theorem sA_ {α : Type _} (l : List α) (i : Nat) (a : α) : l.toArray.setIfInBounds i a = (l.set i a).toArray := List.setIfInBounds_toArray ..
theorem sB_ {α : Type _} (x : α) (l : List α) (a : α) : (x :: l).set 0 a = a :: l := List.set_cons_zero ..
theorem sC_ {α : Type _} (x : α) (l : List α) (n : Nat) (a : α) : (x :: l).set (n + 1) a = x :: l.set n a := List.set_cons_succ ..
end Go.Proofs.YthfdfoigoomaoaaDoor.Aid
